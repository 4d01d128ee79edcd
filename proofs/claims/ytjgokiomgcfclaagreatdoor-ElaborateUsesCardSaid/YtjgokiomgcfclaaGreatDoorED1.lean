/- A part of the proofs of this seat. No conditions. -/
import Derived.Test.YtjgokiomgcfclaaGreatDoorEA2
namespace Go.Ab
open Go
set_option linter.all false
@[simp] theorem Yex(E:Env)(T:Nat)(k:IntKind)(n:Int):zd E T (.int k n)= .int k n:=rfl
@[simp] theorem Ych(E:Env)(T:Nat)(b:Bool):zd E T (.bool b)= .bool b:=rfl
@[simp] theorem Ye3(E:Env)(T:Nat)(s:ByteArray):zd E T (.string s)= .str s:=rfl
theorem yv{α:Type}(f:α->Nat)(l:List α):∀m (h:m<l.length),((l.take (m+1)).map f).sum=((l.take m).map f).sum+f l[m]:=by
 induction l with
 |nil=>intro m h;simp at h
 |cons t l ih=>
  intro m h;cases m with
  |zero=>simp
  |succ m=>simp only[List.length_cons] at h;simp only[List.take_succ_cons,List.map_cons,List.sum_cons,List.getElem_cons_succ,ih m (by omega)];omega
theorem ze{α:Type}(f:α->Nat){l:List α}{t:α}(h:t∈l):f t<=(l.map f).sum:=by
 induction l with
 |nil=>cases h
 |cons x l ih=>rcases List.mem_cons.1 h with rfl|h;· simp
               ·have:=ih h;simp only[List.map_cons,List.sum_cons];omega
theorem yc{α:Type}(f:α->Nat)(l:List α)(m:Nat):((l.take m).map f).sum<=(l.map f).sum:=by
 induction l generalizing m with
 |nil=>simp
 |cons t l ih=>cases m with
  |zero=>simp
  |succ m=>have:=ih m;simp only[List.take_succ_cons,List.map_cons,List.sum_cons];omega
theorem zh{α:Type}(f:α->Nat)(hf:∀x,1<=f x):∀l:List α,l.length<=(l.map f).sum
 |[]=>Nat.le_refl _
 |x::l=>by have:=zh f hf l;have:=hf x;simp only[List.length_cons,List.map_cons,List.sum_cons];omega
theorem EA{α:Type}(p:α->Bool)(l:List α)(h:∀j (hj:j<l.length),p l[j]=true):l.all p=true:=by
 rw[List.all_eq_true];intro x hx;obtain⟨j,hj,rfl⟩:=List.mem_iff_getElem.1 hx;exact h j hj
theorem ve{α:Type}(p:α->Bool){l:List α}{j:Nat}(hj:j<l.length)(h:p l[j]=false):l.all p=false:=by
 cases hb:l.all p with
 |false=>rfl
 |true=>rw[List.all_eq_true.1 hb _ (List.getElem_mem hj)] at h;cases h
theorem z4{α:Type}{p:α->Prop}{l:List α}{m:Nat}(hm:m<l.length)(h:∀j (hj:j<l.length),j<m->p l[j])(h1:p l[m]):∀j (hj:j<l.length),j<m+1->p l[j]:=by
 intro j hj hlt;by_cases hjm:j=m
 ·subst hjm;exact h1
 ·exact h j hj (by omega)
def CS(k:Int):Option Nat:=if k=1\/k=2\/k=5 then some 0 else if k=3\/k=4 then some 2 else none
mutual
def Ty.shape:Ty->Bool
 | .mk k xs=>(match CS k with|some n=>xs.length==n|none=>false)&&Ty.A5 xs
def Ty.A5:List Ty->Bool
 |[]=>true
 |t::l=>t.shape&&Ty.A5 l
end
mutual
def Ty.size:Ty->Nat
 | .mk _ xs=>1+Ty.sizes xs
def Ty.sizes:List Ty->Nat
 |[]=>0
 |t::l=>t.size+Ty.sizes l
end
theorem Ty.Bq:∀l:List Ty,Ty.sizes l=(l.map Ty.size).sum
 |[]=>rfl
 |t::l=>by simp only[Ty.sizes,Ty.Bq l,List.map_cons,List.sum_cons]
theorem Ty.Bh:∀l:List Ty,Ty.A5 l=l.all Ty.shape
 |[]=>rfl
 |t::l=>by simp only[Ty.A5,Ty.Bh l,List.all_cons]
theorem Ty.size_eq(t:Ty):t.size=1+(t.args.map Ty.size).sum:=by cases t;simp only[Ty.size,Ty.Bq,Ty.Ae]
theorem Ty.Ag(t:Ty):t.shape=((match CS t.kind with|some n=>t.args.length==n|none=>false)&&t.args.all Ty.shape):=by cases t;simp only[Ty.shape,Ty.Bh,Ty.Ae,Ty.Am]
theorem Ty.size_pos(t:Ty):1<=t.size:=by rw[Ty.size_eq];omega
def Ty.nodes(t:Ty):Nat:=if t.shape then t.size else 0
theorem Ty.C7(t:Ty):t.nodes<=t.size:=by simp only[Ty.nodes];split<;>omega
theorem Ty.ind{P:Ty->Prop}(h:∀t,(∀x∈t.args,P x)->P t)(t:Ty):P t:=by
 have:∀b (t:Ty),t.size<=b->P t:=by
  intro b;induction b with
  |zero=>intro t ht;have:=t.size_pos;omega
  |succ b ih=>
   intro t ht;refine h t fun x hx=>ih x ?_;have:=ze Ty.size hx;have:=t.size_eq;omega
 exact this _ t (Nat.le_refl _)
def Cq(k:Int):Option Nat:=
 if k=1\/k=4\/k=7\/k=13 then some 0 else if k=2\/k=5\/k=11\/k=12 then some 1 else if k=3\/k=8\/k=10 then some 2 else if k=6\/k=9 then some 3 else none
def xz(k:Int):Bool:=k==2||k==6||k==9
def Ty.Bw(t:Ty):Bool:=t.kind==0&&t.args.length==0
def Ty.ok(t:Ty):Bool:=t.shape&&decide (t.size<=64)
def Tm.head(t:Tm):Bool:=(match Cq t.kind with|some n=>t.args.length==n|none=>false)&&decide (0<=t.index)&&(t.index==0||t.kind==1)&&(bif xz t.kind then t.ty.ok else t.ty.Bw)
mutual
def Tm.shape:Tm->Bool
 | .mk k i h xs=>(Tm.mk k i h xs).head&&Tm.A5 xs
def Tm.A5:List Tm->Bool
 |[]=>true
 |t::l=>t.shape&&Tm.A5 l
end
mutual
def Tm.size:Tm->Nat
 | .mk _ _ _ xs=>1+Tm.sizes xs
def Tm.sizes:List Tm->Nat
 |[]=>0
 |t::l=>t.size+Tm.sizes l
end
mutual
def Tm.full:Tm->Nat
 | .mk _ _ h xs=>1+h.size+Tm.Ap xs
def Tm.Ap:List Tm->Nat
 |[]=>0
 |t::l=>t.full+Tm.Ap l
end
theorem Tm.Bq:∀l:List Tm,Tm.sizes l=(l.map Tm.size).sum
 |[]=>rfl
 |t::l=>by simp only[Tm.sizes,Tm.Bq l,List.map_cons,List.sum_cons]
theorem Tm.BH:∀l:List Tm,Tm.Ap l=(l.map Tm.full).sum
 |[]=>rfl
 |t::l=>by simp only[Tm.Ap,Tm.BH l,List.map_cons,List.sum_cons]
theorem Tm.Bh:∀l:List Tm,Tm.A5 l=l.all Tm.shape
 |[]=>rfl
 |t::l=>by simp only[Tm.A5,Tm.Bh l,List.all_cons]
theorem Tm.size_eq(t:Tm):t.size=1+(t.args.map Tm.size).sum:=by cases t;simp only[Tm.size,Tm.Bq,Tm.Ae]
theorem Tm.Af(t:Tm):t.full=1+t.ty.size+(t.args.map Tm.full).sum:=by cases t;simp only[Tm.full,Tm.BH,Tm.Ae,Tm.AD]
theorem Tm.Ag(t:Tm):t.shape=(t.head&&t.args.all Tm.shape):=by cases t;simp only[Tm.shape,Tm.Bh,Tm.Ae]
theorem Tm.size_pos(t:Tm):1<=t.size:=by rw[Tm.size_eq];omega
theorem Tm.Ac(t:Tm):1<=t.full:=by rw[Tm.Af];omega
theorem Tm.ind{P:Tm->Prop}(h:∀t,(∀x∈t.args,P x)->P t)(t:Tm):P t:=by
 have:∀b (t:Tm),t.size<=b->P t:=by
  intro b;induction b with
  |zero=>intro t ht;have:=t.size_pos;omega
  |succ b ih=>
   intro t ht;refine h t fun x hx=>ih x ?_;have:=ze Tm.size hx;have:=t.size_eq;omega
 exact this _ t (Nat.le_refl _)
theorem Tm.Aj(t:Tm):t.size<=t.full:=by
 induction t using Tm.ind with
 |h t ih=>
  have:∀l:List Tm,(∀x∈l,x.size<=x.full)->(l.map Tm.size).sum<=(l.map Tm.full).sum:=by
   intro l;induction l with
   |nil=>intro _;simp
   |cons x l ih=>intro h;have:=ih fun y hy=>h y (by simp[hy]);have:=h x (by simp);simp only[List.map_cons,List.sum_cons];omega
  have:=this t.args ih;rw[t.size_eq,t.Af];omega
def Tm.nodes(t:Tm):Nat:=if t.shape then t.size else 0
theorem Tm.C7(t:Tm):t.nodes<=t.size:=by simp only[Tm.nodes];split<;>omega
def Ty.err(t:Ty):Int:=if t.shape=false then 2 else if t.size>64 then 4 else 0
def Ty.num(t:Ty):Int:=if t.err=0 then t.size else 0
def AY:Ty:= .mk 0 []
def Tm.err(t:Tm):Int:=if t.shape=false then 2 else if t.size>4096 then 4 else 0
def Tm.num(t:Tm):Int:=if t.err=0 then t.size else 0
def va:Tm:= .mk 0 0 (.mk 0 []) []
def Lq(t:Ty):V:= .Ax [.i t.nodes,.bool t.shape]
def I3(t:Tm):V:= .Ax [.i t.nodes,.bool t.shape]
abbrev big:Nat:=1099511627776
end Go.Ab
namespace Go.Ab
set_option linter.all false
mutual
def Ty.same:Ty->Ty->Bool
 | .mk k xs,.mk k' ys=>k==k'&&Ty.Br xs ys
def Ty.Br:List Ty->List Ty->Bool
 |[],[]=>true
 |x::xs,y::ys=>x.same y&&Ty.Br xs ys
 |_,_=>false
end
mutual
theorem Ty.BI:∀a b:Ty,a.same b=true↔a=b
 | .mk k xs,.mk k' ys=>by simp only[Ty.same,Bool.and_eq_true,beq_iff_eq,Ty.mk.injEq,Ty.Bz xs ys]
theorem Ty.Bz:∀a b:List Ty,Ty.Br a b=true↔a=b
 |[],[]=>by simp[Ty.Br]
 |x::xs,y::ys=>by simp only[Ty.Br,Bool.and_eq_true,List.cons.injEq,Ty.BI x y,Ty.Bz xs ys]
 |[],_::_=>by simp[Ty.Br]
 |_::_,[]=>by simp[Ty.Br]
end
instance:DecidableEq Ty:=fun a b=>decidable_of_iff _ (Ty.BI a b)
mutual
def Tm.same:Tm->Tm->Bool
 | .mk k i h xs,.mk k' i' h' ys=>k==k'&&i==i'&&decide (h=h')&&Tm.Br xs ys
def Tm.Br:List Tm->List Tm->Bool
 |[],[]=>true
 |x::xs,y::ys=>x.same y&&Tm.Br xs ys
 |_,_=>false
end
mutual
theorem Tm.BI:∀a b:Tm,a.same b=true↔a=b
 | .mk k i h xs,.mk k' i' h' ys=>by simp only[Tm.same,Bool.and_eq_true,beq_iff_eq,Tm.mk.injEq,Tm.Bz xs ys,decide_eq_true_eq,and_assoc]
theorem Tm.Bz:∀a b:List Tm,Tm.Br a b=true↔a=b
 |[],[]=>by simp[Tm.Br]
 |x::xs,y::ys=>by simp only[Tm.Br,Bool.and_eq_true,List.cons.injEq,Tm.BI x y,Tm.Bz xs ys]
 |[],_::_=>by simp[Tm.Br]
 |_::_,[]=>by simp[Tm.Br]
end
instance:DecidableEq Tm:=fun a b=>decidable_of_iff _ (Tm.BI a b)
theorem Ty.eq_iff(a b:Ty):a=b↔a.kind=b.kind/\a.args=b.args:=by cases a;cases b;simp
theorem Tm.eq_iff(a b:Tm):a=b↔a.kind=b.kind/\a.index=b.index/\a.ty=b.ty/\a.args=b.args:=by cases a;cases b;simp
theorem HZ{α:Type}{xs ys:List α}(hl:xs.length=ys.length)(h:∀j (hj:j<xs.length),j<xs.length->xs[j]=ys[j]'(by omega)):xs=ys:=
 List.ext_getElem hl fun i h1 h2=>h i h1 h1
theorem Ia{α:Type}{xs ys:List α}{m:Nat}(h1:m<xs.length)(h2:m<ys.length)(h:¬xs[m]=ys[m]):¬xs=ys:=fun he=>by subst he;exact h rfl
theorem Ie{α:Type}{xs ys:List α}(hl:xs.length=ys.length){m:Nat}(hm:m<xs.length)(h:∀j (hj:j<xs.length),j<m->xs[j]=ys[j]'(by omega))(h1:xs[m]=ys[m]'(by omega)):∀j (hj:j<xs.length),j<m+1->xs[j]=ys[j]'(by omega):=by
 intro j hj hlt;by_cases hjm:j=m
 ·subst hjm;exact h1
 ·exact h j hj (by omega)
def up(k b:Int):Int:=if k=2 then b+1 else b
mutual
def Tm.vars(b:Int):Tm->List (Int×Int)
 | .mk k i _ xs=>(if k=1 then [(i,b)] else [])++Tm.BF (up k b) xs
def Tm.BF(b:Int):List Tm->List (Int×Int)
 |[]=>[]
 |t::l=>t.vars b++Tm.BF b l
end
theorem Tm.Ep(b:Int):∀l:List Tm,Tm.BF b l=l.flatMap (Tm.vars b)
 |[]=>rfl
 |t::l=>by simp only[Tm.BF,Tm.Ep b l,List.flatMap_cons]
theorem Tm.AG(b:Int)(t:Tm):t.vars b=(if t.kind=1 then [(t.index,b)] else [])++t.args.flatMap (Tm.vars (up t.kind b)):=by cases t;simp only[Tm.vars,Tm.Ep,Tm.Am,Tm.AV,Tm.Ae];rfl
mutual
def Tm.re(g:Int->Int->Tm)(b:Int):Tm->Tm
 | .mk k i h xs=>if k=1 then g i b else .mk k i h (Tm.res g (up k b) xs)
def Tm.res(g:Int->Int->Tm)(b:Int):List Tm->List Tm
 |[]=>[]
 |t::l=>t.re g b::Tm.res g b l
end
theorem Tm.C8(g:Int->Int->Tm)(b:Int):∀l:List Tm,Tm.res g b l=l.map (Tm.re g b)
 |[]=>rfl
 |t::l=>by simp only[Tm.res,Tm.C8 g b l,List.map_cons]
theorem Tm.Bn(g:Int->Int->Tm)(b:Int)(t:Tm):t.re g b=if t.kind=1 then g t.index b else .mk t.kind t.index t.ty (t.args.map (Tm.re g (up t.kind b))):=by cases t;simp only[Tm.re,Tm.C8,Tm.Am,Tm.AV,Tm.Ae,Tm.AD];rfl
theorem uq{α β:Type}(f:α->List β)(l:List α)(m:Nat)(h:m<l.length):(l.take (m+1)).flatMap f=(l.take m).flatMap f++f l[m]:=by
 rw[<-List.take_append_getElem h,List.flatMap_append];simp
theorem yn{α β:Type}(f:α->β)(l:List α)(m:Nat)(h:m<l.length):(l.take (m+1)).map f=(l.take m).map f++[f l[m]]:=by
 rw[<-List.take_append_getElem h,List.map_append];simp
theorem xr{α:Type}{f g:α->Nat}:∀(l:List α),(∀x∈l,f x<=g x)->(l.map f).sum<=(l.map g).sum
 |[],_=>Nat.le_refl _
 |x::l,h=>by have:=xr l fun y hy=>h y (by simp[hy]);have:=h x (by simp);simp only[List.map_cons,List.sum_cons];omega
theorem Vf(l:List Tm)(f:Tm->List (Int×Int))(h:∀x∈l,(f x).length<=x.size):(l.flatMap f).length<=(l.map Tm.size).sum:=by
 induction l with
 |nil=>simp
 |cons x l ih=>
  have:=ih fun y hy=>h y (by simp[hy]);have:=h x (by simp);simp only[List.flatMap_cons,List.length_append,List.map_cons,List.sum_cons];omega
theorem Tm.CE(t:Tm):∀b,(t.vars b).length<=t.size:=by
 induction t using Tm.ind with
 |h t ih=>
  intro b;rw[t.AG,t.size_eq];have:=Vf t.args (Tm.vars (up t.kind b)) fun x hx=>ih x hx _;split<;>simp only[List.length_append,List.length_cons,List.length_nil]<;>omega
def Tm.near(t:Tm):Bool:=(t.vars 0).all fun p=>decide (p.1<=536870912)
def cnt(at_:Int)(l:List (Int×Int)):Nat:=(l.filter fun p=>p.1-p.2==at_).length
theorem xg(at_:Int)(l l':List (Int×Int)):cnt at_ (l++l')=cnt at_ l+cnt at_ l':=by simp[cnt]
theorem QU(at_:Int)(l:List (Int×Int)):cnt at_ l<=l.length:=List.length_filter_le _ _
theorem Tm.AH(t:Tm)(h:t.shape=true):∀b,∀p∈t.vars b,0<=p.1:=by
 induction t using Tm.ind with
 |h t ih=>
  intro b p hp;rw[t.Ag,Bool.and_eq_true] at h;rw[t.AG,List.mem_append] at hp;rcases hp with hp|hp
  ·split at hp
   ·simp at hp;subst hp;have:=h.1;simp only[Tm.head,Bool.and_eq_true,decide_eq_true_eq] at this;exact this.1.1.2
   ·cases hp
  ·obtain ⟨x,hx,hp⟩:=List.mem_flatMap.1 hp;exact ih x hx (List.all_eq_true.1 h.2 x hx) _ p hp
theorem Sm(n k:Int)(hk:0<k): -k<n.tmod k:=by
 have h:=Int.natAbs_tmod n k;have h2:=Nat.mod_lt n.natAbs (show 0<k.natAbs by omega);omega
def Aa:Ty:= .mk 1 []
def Ah:Ty:= .mk 2 []
def Gg:Ty:= .mk 5 []
def uu(a b:Ty):Ty:= .mk 3 [a,b]
def yo(a b:Ty):Ty:= .mk 4 [a,b]
def A9(t:Ty):Ty×Int:=if t.err=0 then(t,0) else(AY,4)
def Bj(l:List Ty)(i:Nat):Ty:=l.getD i AY
def yk(k:Int)(h:Ty)(l:List Ty):Ty×Int:=
 let a:=Bj l 0
 let b:=Bj l 1
 let c:=Bj l 2
 if k=3 then(if ¬a.kind=4\/¬Bj a.args 0=b then(AY,7) else(Bj a.args 1,0))
 else if k=4 then(Aa,0)
 else if k=5 then(if ¬a=Aa then(AY,7) else(Aa,0))
 else if k=6 then(if ¬a=h\/¬b=yo Aa (yo h h)\/¬c=Aa then(AY,7) else(h,0))
 else if k=7 then(Ah,0)
 else if k=8 then(if ¬a=Aa\/¬b=Ah then(AY,7) else(Ah,0))
 else if k=9 then(if ¬a=h\/¬b=yo Aa (yo Ah (yo h h))\/¬c=Ah then(AY,7) else(h,0))
 else if k=10 then A9 (uu a b)
 else if k=11\/k=12 then(if ¬a.kind=3 then(AY,7) else if k=11 then(Bj a.args 0,0) else(Bj a.args 1,0))
 else(Gg,0)
mutual
def Tm.inf:List Ty->Tm->Ty×Int
 |g,.mk k i h xs=>
  if k=1 then(if i>=g.length then(AY,6) else(Bj g (g.length-1-i.toNat),0))
  else if k=2 then(if(Tm.Ay (g++[h]) xs).2≠0 then(AY,(Tm.Ay (g++[h]) xs).2) else A9 (yo h (Bj (Tm.Ay (g++[h]) xs).1 0)))
  else if(Tm.Ay g xs).2≠0 then(AY,(Tm.Ay g xs).2) else yk k h (Tm.Ay g xs).1
def Tm.Ay:List Ty->List Tm->List Ty×Int
 |_,[]=>([],0)
 |g,t::l=>if(t.inf g).2≠0 then([],(t.inf g).2) else if(Tm.Ay g l).2≠0 then([],(Tm.Ay g l).2) else((t.inf g).1::(Tm.Ay g l).1,0)
end
theorem ua(at_:Int)(p:Int×Int):cnt at_ [p]=if p.1-p.2=at_ then 1 else 0:=by simp only[cnt,List.filter_cons,List.filter_nil];by_cases h:p.1-p.2=at_<;>simp[h]
def zn(fr by_:Int)(i b:Int):Tm:= .mk 1 (if i-b>=fr then i+by_ else i) (.mk 0 []) []
def xm(at_:Int)(s:Tm)(i b:Int):Tm:=if i-b=at_ then s.re (zn 0 (at_+b)) 0 else .mk 1 (if i-b>at_ then i-1 else i) (.mk 0 []) []
def IL(n k:Int):Int:=((n.tmod k)+k).tmod k
structure Dk where
 l:List Int
 at_:Nat
def Dk.ok(d:Dk):Prop:=d.at_<=d.l.length/\d.l.length<1099511627776
def Dk.next(d:Dk)(n:Int):Int×Dk:=if h:n<1\/d.l.length<=d.at_ then(0,d) else(IL (d.l[d.at_]'(by omega)) n,⟨d.l,d.at_+1⟩)
def Dk.cells(d:Dk):List V:=[.s .int d.l,.i d.at_]
def P4(t:Tm)(at_:Int)(s:Tm):Int:=
 if t.err≠0 then t.err else if ¬(0<=at_/\at_<=4096) then 1 else if s.err≠0 then s.err else if t.near=false\/s.near=false then 1 else if(t.size:Int)+cnt at_ (t.vars 0)*(s.size-1)>4096 then 4 else 0
theorem y5{t:Tm}(h:t.err=0):t.shape=true/\t.size<=4096:=by
 simp only[Tm.err] at h;split at h
 ·omega
 ·split at h
  ·omega
  ·rename_i h1 h2;exact⟨by simpa using h1,by omega⟩
theorem Vp{t:Tm}(h:t.err=0)(hn:t.near=true):∀p∈t.vars 0,0<=p.1/\p.1<549755813888:=fun p hp=>
 ⟨t.AH (y5 h).1 0 p hp,by have:=List.all_eq_true.1 hn p hp;simp at this;omega⟩
theorem Yfc(t:Tm):0<=t.num/\t.num<=4096:=by
 simp only[Tm.num];split
 ·rename_i h;have:=(y5 h).2;omega
 ·omega
theorem Py(c d:Int)(hc:0<=c/\c<=274877906944)(hd: -1<=d/\d<=4096): -274877906944<=c*d/\c*d<=1125899906842624:=by
 constructor
 ·have:=Int.mul_le_mul_of_nonneg_left hd.1 hc.1;omega
 ·have:=Int.mul_le_mul_of_nonneg_left hd.2 hc.1;omega
theorem Dk.AA{d:Dk}(h:d.ok)(n:Int):(d.next n).2.ok:=by
 simp only[Dk.next];split
 ·exact h
 ·rename_i hc;obtain⟨h1,h2⟩:=h;exact⟨by simp only;omega,h2⟩
def Dk.type:Nat->Dk->Ty×Dk
 |0,d=>let r:=d.next 7;(if r.1=3 then .mk 2 [] else if r.1=4 then .mk 5 [] else .mk 1 [],r.2)
 |n+1,d=>
  let r:=d.next 7
  if r.1=5\/r.1=6 then
   let a:=r.2.type n
   let b:=a.2.type n
   (.mk (if r.1=5 then 3 else 4) [a.1,b.1],b.2)
  else(if r.1=3 then .mk 2 [] else if r.1=4 then .mk 5 [] else .mk 1 [],r.2)
theorem Dk.Bd:∀(n:Nat) (d:Dk),d.ok->(d.type n).2.ok
 |0,d,h=>Dk.AA h 7
 |n+1,d,h=>by
  simp only[Dk.type];split
  ·exact Dk.Bd n _ (Dk.Bd n _ (Dk.AA h 7))
  ·exact Dk.AA h 7
theorem Dk.DV(k:Int)(d:Dk):d.type k.toNat=(if 0<k/\((d.next 7).1=5\/(d.next 7).1=6) then
 (.mk (if(d.next 7).1=5 then 3 else 4) [((d.next 7).2.type (k-1).toNat).1,((((d.next 7).2.type (k-1).toNat).2).type (k-1).toNat).1],((((d.next 7).2.type (k-1).toNat).2).type (k-1).toNat).2)
 else(if(d.next 7).1=3 then .mk 2 [] else if(d.next 7).1=4 then .mk 5 [] else .mk 1 [],(d.next 7).2)):=by
 by_cases hk:0<k
 ·have e:k.toNat=(k-1).toNat+1:=by omega
  rw[e];simp only[Dk.type,hk,true_and]
 ·have e:k.toNat=0:=by omega
  rw[e];simp only[Dk.type,hk,false_and,if_false]
theorem Dk.CL:∀(n:Nat) (d:Dk),(d.type n).1.size<=2^(n+1)-1
 |0,d=>by simp only[Dk.type];(repeat' split)<;>simp[Ty.size_eq]
 |n+1,d=>by
  have h1:=Dk.CL n (d.next 7).2;have h2:=Dk.CL n ((d.next 7).2.type n).2;have h3:2^(n+1+1)=2^(n+1)+2^(n+1):=by rw[Nat.pow_succ];omega
  have h4:2<=2^(n+1):=by rw[Nat.pow_succ];have:= @Nat.one_le_two_pow n;omega
  simp only[Dk.type];split
  ·rw[Ty.size_eq];simp only[Ty.Ae,List.map_cons,List.map_nil,List.sum_cons,List.sum_nil];omega
  ·have:∀x:Int,(Ty.mk x []).size=1:=fun x=>by simp[Ty.size_eq]
   simp only;(repeat' split)<;>rw[this]<;>omega
theorem Dk.B2(d:Dk)(k:Int)(h:k<=20):(d.type k.toNat).1.size<1099511627776:=by
 have h1:=Dk.CL k.toNat d;have h2:2^(k.toNat+1)<=2^21:=Nat.pow_le_pow_right (by omega) (by omega);omega
def DY:Nat->Tm
 |0=> .mk 4 0 (.mk 0 []) []
 |n+1=> .mk 5 0 (.mk 0 []) [DY n]
def wh(n:Int):Tm:=if 0<=n/\n<4096 then DY n.toNat else va
def Dk.types:Nat->Dk->List Ty×Dk
 |0,d=>([],d)
 |n+1,d=>let a:=d.type 1;let b:=a.2.types n;(a.1::b.1,b.2)
theorem Dk.C9:∀(n:Nat) (d:Dk),d.types (n+1)=((d.types n).1++[((d.types n).2.type 1).1],((d.types n).2.type 1).2)
 |0,d=>rfl
 |n+1,d=>by
  have:=Dk.C9 n (d.type 1).2;show((d.type 1).1::((d.type 1).2.types (n+1)).1,((d.type 1).2.types (n+1)).2)=_;rw[this];rfl
theorem Dk.C6:∀(n:Nat) (d:Dk),d.ok->(d.types n).2.ok
 |0,d,h=>h
 |n+1,d,h=>Dk.C6 n _ (Dk.Bd 1 d h)
theorem Dk.CN:∀(n:Nat) (d:Dk),(d.types n).1.length=n
 |0,d=>rfl
 |n+1,d=>by simp[Dk.types,Dk.CN n]
theorem Tf(n k:Int)(hk:0<k):0<=IL n k/\IL n k<k:=by
 have h1:=Sm n k hk;constructor
 ·exact Int.tmod_nonneg _ (by omega)
 ·exact Int.tmod_lt_of_pos _ hk
theorem Dk.Bb(d:Dk)(n:Int)(hn:0<n):0<=(d.next n).1/\(d.next n).1<n:=by
 simp only[Dk.next];split
 ·exact ⟨by simp,hn⟩
 ·exact Tf _ _ hn
def Dk.ctx(d:Dk):List Ty×Dk:=(d.next 4).2.types (d.next 4).1.toNat
def LR(f:Tm):List Tm->Tm
 |[]=>f
 |x::l=>LR (.mk 3 0 (.mk 0 []) [f,x]) l
def vT(i:Int):Tm:= .mk 1 i (.mk 0 []) []
def Cn(t:Tm):Tm:= .mk 2 0 (.mk 1 []) [t]
def Ed(b f n:Tm):Tm:= .mk 6 0 (.mk 1 []) [b,f,n]
def sT(t:Tm):Tm:= .mk 5 0 (.mk 0 []) [t]
def zT:Tm:= .mk 4 0 (.mk 0 []) []
def AP(f x:Tm):Tm:= .mk 3 0 (.mk 0 []) [f,x]
def Hs:Tm:=Cn (Cn (sT (vT 0)))
def BX:Tm:=Cn (Cn (Ed (vT 1) Hs (vT 0)))
def BS:Tm:=Cn (Ed zT (Cn (Cn (vT 1))) (vT 0))
def Ii:Tm:=Cn (Cn (AP BS (vT 0)))
def Dt:Tm:=Cn (Cn (Ed (vT 1) Ii (vT 0)))
def yh(t:Tm)(fr by_:Int):Int:=if t.err≠0 then t.err else if ¬(0<=fr/\fr<=4096)\/¬(0<=by_/\by_<=4096)\/t.near=false then 1 else 0
def we(g:List Ty)(t:Ty):List Int:=((List.range g.length).filter fun i=>decide (g[g.length-1-i]? =some t)).map Int.ofNat
def vo:List Ty->Int
 |[]=>0
 |t::l=>if t.err≠0 then t.err else vo l
theorem S8:∀(l:List Ty) (m:Nat) (hm:m<l.length),(∀j (hj:j<l.length),j<m->l[j].err=0)->l[m].err≠0->vo l=l[m].err:=by
 intro l;induction l with
 |nil=>intro m hm;simp at hm
 |cons t l ih=>
  intro m hm h h1;cases m with
  |zero=>simp only[List.getElem_cons_zero] at h1;simp only[vo];rw[if_pos h1];rfl
  |succ m=>
   have h0:=h 0 (by simp) (by omega);simp only[List.getElem_cons_zero] at h0;simp only[vo,h0,ne_eq,not_true_eq_false,if_false,List.getElem_cons_succ];simp only[List.length_cons] at hm;exact ih m (by omega) (fun j hj hlt=>by have:=h (j+1) (by simp;omega) (by omega);simpa using this) h1
theorem Qj:∀(l:List Ty),(∀j (hj:j<l.length),j<l.length->l[j].err=0)->vo l=0:=by
 intro l;induction l with
 |nil=>intro _;rfl
 |cons t l ih=>
  intro h;have h0:=h 0 (by simp) (by simp);simp only[List.getElem_cons_zero] at h0;simp only[vo,h0,ne_eq,not_true_eq_false,if_false];exact ih fun j hj _=>by have:=h (j+1) (by simp;omega) (by simp;omega);simpa using this
def y1(l:List Ty):Int:=if l.length>16 then 3 else vo l
def LF(k:Int):Int:=if k=1\/k=4\/k=7\/k=13 then 0 else if k=2\/k=5\/k=11\/k=12 then 1 else if k=3\/k=8\/k=10 then 2 else if k=6\/k=9 then 3 else -1
def nT(k:Int)(l:List Tm):Tm:= .mk k 0 (.mk 0 []) l
def hT(k:Int)(s:Ty)(l:List Tm):Tm:= .mk k 0 s l
def BB(s:Ty)(x:Tm):Tm:= .mk 2 0 s [x]
def FC(g:List Ty)(t:Ty)(i:Nat):Bool:=(Bj g (g.length-1-i)).kind==4&&decide (Bj (Bj g (g.length-1-i)).args 1=t)
def JU(g:List Ty)(t:Ty):Option Nat:=(List.range g.length).find? (FC g t)
abbrev D6:=Dk->List Ty->Ty->Tm×Dk
def Dk.fin(rec:D6)(pos:Bool)(d:Dk)(g:List Ty)(t:Ty):Tm×Dk:=
 if t.kind=1 then
  if pos=true then
   if(d.next 5).1=0 then(sT (rec (d.next 5).2 g t).1,(rec (d.next 5).2 g t).2)
   else if(d.next 5).1=1 then
    (AP (AP BX (rec (d.next 5).2 g t).1) (rec (rec (d.next 5).2 g t).2 g t).1,(rec (rec (d.next 5).2 g t).2 g t).2)
   else if(d.next 5).1=2 then
    (AP (AP Dt (rec (d.next 5).2 g t).1) (rec (rec (d.next 5).2 g t).2 g t).1,(rec (rec (d.next 5).2 g t).2 g t).2)
   else(wh ((d.next 5).2.next 3).1,((d.next 5).2.next 3).2)
  else(wh (d.next 3).1,(d.next 3).2)
 else if t.kind=2 then
  if pos=true then
   if(d.next 2).1=0 then(nT 8 [(rec (d.next 2).2 g Aa).1,(rec (rec (d.next 2).2 g Aa).2 g t).1],(rec (rec (d.next 2).2 g Aa).2 g t).2)
   else(nT 7 [],(d.next 2).2)
  else(nT 7 [],d)
 else if t.kind=3 then(nT 10 [(rec d g (Bj t.args 0)).1,(rec (rec d g (Bj t.args 0)).2 g (Bj t.args 1)).1],(rec (rec d g (Bj t.args 0)).2 g (Bj t.args 1)).2)
 else if t.kind=4 then(BB (Bj t.args 0) (rec d (g++[Bj t.args 0]) (Bj t.args 1)).1,(rec d (g++[Bj t.args 0]) (Bj t.args 1)).2)
 else(nT 13 [],d)
def Dk.m0(rec:D6)(d:Dk)(g:List Ty)(t s:Ty):Tm×Dk:=(AP (BB s (rec d (g++[s]) t).1) (rec (rec d (g++[s]) t).2 g s).1,(rec (rec d (g++[s]) t).2 g s).2)
def Dk.m1(rec:D6)(d:Dk)(g:List Ty)(t s:Ty):Tm×Dk:=(nT 11 [nT 10 [(rec d g t).1,(rec (rec d g t).2 g s).1]],(rec (rec d g t).2 g s).2)
def Dk.m2(rec:D6)(d:Dk)(g:List Ty)(t:Ty):Tm×Dk:=
 (hT 6 t [(rec (rec d (g++[Aa,t]) t).2 g t).1,BB Aa (BB t (rec d (g++[Aa,t]) t).1),wh ((rec (rec d (g++[Aa,t]) t).2 g t).2.next 3).1],((rec (rec d (g++[Aa,t]) t).2 g t).2.next 3).2)
def Dk.m3(rec:D6)(d:Dk)(g:List Ty)(t:Ty):Tm×Dk:=
 (hT 9 t [(rec (rec d (g++[Aa,Ah,t]) t).2 g t).1,BB Aa (BB Ah (BB t (rec d (g++[Aa,Ah,t]) t).1)),(rec (rec (rec d (g++[Aa,Ah,t]) t).2 g t).2 g Ah).1],(rec (rec (rec d (g++[Aa,Ah,t]) t).2 g t).2 g Ah).2)
def Dk.m4(rec:D6)(d:Dk)(g:List Ty)(t s:Ty):Tm×Dk:=(nT 12 [nT 10 [(rec d g s).1,(rec (rec d g s).2 g t).1]],(rec (rec d g s).2 g t).2)
def Dk.m5(rec:D6)(pos:Bool)(d:Dk)(g:List Ty)(t:Ty):Tm×Dk:=
 match JU g t with
 |some i=>(AP (vT i) (rec d g (Bj (Bj g (g.length-1-i)).args 0)).1,(rec d g (Bj (Bj g (g.length-1-i)).args 0)).2)
 |none=>d.fin rec pos g t
def Dk.mid(rec:D6)(pos:Bool)(d:Dk)(g:List Ty)(t:Ty):Tm×Dk:=
 if pos=true then
  if(d.next 8).1=0 then((d.next 8).2.type 0).2.m0 rec g t ((d.next 8).2.type 0).1
  else if(d.next 8).1=1 then((d.next 8).2.type 0).2.m1 rec g t ((d.next 8).2.type 0).1
  else if(d.next 8).1=2 then(d.next 8).2.m2 rec g t
  else if(d.next 8).1=3 then(d.next 8).2.m3 rec g t
  else if(d.next 8).1=4 then((d.next 8).2.type 0).2.m4 rec g t ((d.next 8).2.type 0).1
  else if(d.next 8).1=5 then(d.next 8).2.m5 rec pos g t
  else(d.next 8).2.fin rec pos g t
 else d.fin rec pos g t
theorem Dk.G7{rec:D6}{pos:Bool}{d:Dk}{g:List Ty}{t:Ty}(h:pos=true):d.mid rec pos g t=
 if(d.next 8).1=0 then((d.next 8).2.type 0).2.m0 rec g t ((d.next 8).2.type 0).1
 else if(d.next 8).1=1 then((d.next 8).2.type 0).2.m1 rec g t ((d.next 8).2.type 0).1
 else if(d.next 8).1=2 then(d.next 8).2.m2 rec g t
 else if(d.next 8).1=3 then(d.next 8).2.m3 rec g t
 else if(d.next 8).1=4 then((d.next 8).2.type 0).2.m4 rec g t ((d.next 8).2.type 0).1
 else if(d.next 8).1=5 then(d.next 8).2.m5 rec pos g t
 else(d.next 8).2.fin rec pos g t:=if_pos h
def Dk.gen(rec:D6)(pos:Bool)(d:Dk)(g:List Ty)(t:Ty):Tm×Dk:=
 if we g t=[] then d.mid rec pos g t
 else if 0<(d.next 3).1 then(vT ((we g t).getD ((d.next 3).2.next (we g t).length).1.toNat 0),((d.next 3).2.next (we g t).length).2)
 else(d.next 3).2.mid rec pos g t
def Dk.tm:Nat->D6
 |0,d,_,_=>(va,d)
 |n+1,d,g,t=>d.gen (Dk.tm n) (decide (2<=n)) g t
def Ty.small(t:Ty):Prop:=t.shape=true/\t.size<=3
def Ai(g:List Ty):Prop:=∀t∈g,t.small
inductive Mk:Nat->List Ty->Ty->Tm->Prop
 |var (n g t) (i:Nat) (hi:i<g.length) (h:Bj g (g.length-1-i)=t):Mk (n+1) g t (vT i)
 |app (n g t s a b) (hn:2<=n) (hs:s.shape=true) (h1:s.size=1) (ha:Mk n (g++[s]) t a) (hb:Mk n g s b):Mk (n+1) g t (AP (BB s a) b)
 |fst (n g t s a b) (hn:2<=n) (hs:s.shape=true) (h1:s.size=1) (ha:Mk n g t a) (hb:Mk n g s b):Mk (n+1) g t (nT 11 [nT 10 [a,b]])
 |snd (n g t s a b) (hn:2<=n) (hs:s.shape=true) (h1:s.size=1) (ha:Mk n g s a) (hb:Mk n g t b):Mk (n+1) g t (nT 12 [nT 10 [a,b]])
 |recu (n g t a b m) (hn:2<=n) (hm:m<3) (ha:Mk n (g++[Aa,t]) t a) (hb:Mk n g t b):Mk (n+1) g t (hT 6 t [b,BB Aa (BB t a),DY m])
 |fold (n g t a b c) (hn:2<=n) (ha:Mk n (g++[Aa,Ah,t]) t a) (hb:Mk n g t b) (hc:Mk n g Ah c):Mk (n+1) g t (hT 9 t [b,BB Aa (BB Ah (BB t a)),c])
 |ctx (n g t s a) (hn:2<=n) (i:Nat) (hi:i<g.length) (h:Bj g (g.length-1-i)=yo s t) (h1:s.size=1) (ha:Mk n g s a):Mk (n+1) g t (AP (vT i) a)
 |succ (n g a) (hn:2<=n) (ha:Mk n g Aa a):Mk (n+1) g Aa (sT a)
 |plus (n g a b) (hn:2<=n) (ha:Mk n g Aa a) (hb:Mk n g Aa b):Mk (n+1) g Aa (AP (AP BX a) b)
 |sub (n g a b) (hn:2<=n) (ha:Mk n g Aa a) (hb:Mk n g Aa b):Mk (n+1) g Aa (AP (AP Dt a) b)
 |num (n g m) (hm:m<3):Mk (n+1) g Aa (DY m)
 |cons (n g a b) (hn:2<=n) (ha:Mk n g Aa a) (hb:Mk n g Ah b):Mk (n+1) g Ah (nT 8 [a,b])
 |nil (n g):Mk (n+1) g Ah (nT 7 [])
 |pair (n g s t a b) (h1:s.size=1) (h2:t.size=1) (ha:Mk n g s a) (hb:Mk n g t b):Mk (n+1) g (uu s t) (nT 10 [a,b])
 |lam (n g s t a) (h1:s.size=1) (h2:t.size=1) (ha:Mk n (g++[s]) t a):Mk (n+1) g (yo s t) (BB s a)
 |unit (n g):Mk (n+1) g Gg (nT 13 [])
theorem Dk.Gm{rec:D6}{pos:Bool}{d:Dk}{g:List Ty}{t:Ty}(h:∀d g t,d.ok->(rec d g t).2.ok)(hd:d.ok):(d.fin rec pos g t).2.ok:=by
 have h5:=Dk.AA hd 5;have h3:=Dk.AA hd 3;have h2:=Dk.AA hd 2;unfold Dk.fin;repeat' split
 all_goals first
  |exact hd|exact h3|exact h2|exact Dk.AA h5 3|exact h _ _ _ h5|exact h _ _ _ (h _ _ _ h5)|exact h _ _ _ (h _ _ _ h2)|exact h _ _ _ (h _ _ _ hd)|exact h _ _ _ hd
theorem Dk.Gy{rec:D6}{pos:Bool}{d:Dk}{g:List Ty}{t:Ty}(h:∀d g t,d.ok->(rec d g t).2.ok)(hd:d.ok):(d.mid rec pos g t).2.ok:=by
 have h8:=Dk.AA hd 8;have hs:=Dk.Bd 0 _ h8;have hf:=Dk.Gm (pos:=pos) (g:=g) (t:=t) h h8;unfold Dk.mid Dk.m0 Dk.m1 Dk.m2 Dk.m3 Dk.m4 Dk.m5;repeat' split
 all_goals first
  |exact hf|exact Dk.Gm h hd|exact h _ _ _ (h _ _ _ hs)|exact Dk.AA (h _ _ _ (h _ _ _ h8)) 3|exact h _ _ _ (h _ _ _ (h _ _ _ h8))|exact h _ _ _ h8
theorem Dk.Ir{rec:D6}{pos:Bool}{d:Dk}{g:List Ty}{t:Ty}(h:∀d g t,d.ok->(rec d g t).2.ok)(hd:d.ok):(d.gen rec pos g t).2.ok:=by
 unfold Dk.gen;repeat' split
 ·exact Dk.Gy h hd
 ·exact Dk.AA (Dk.AA hd 3) _
 ·exact Dk.Gy h (Dk.AA hd 3)
theorem Dk.B3:∀(n:Nat) (d:Dk) (g:List Ty) (t:Ty),d.ok->(Dk.tm n d g t).2.ok
 |0,d,_,_,h=>h
 |n+1,d,g,t,h=>Dk.Ir (fun d g t hd=>Dk.B3 n d g t hd) h
theorem Ty.Ad(t:Ty):t.err=0↔t.shape=true/\t.size<=64:=by
 simp only[Ty.err];cases t.shape
 ·simp
 ·by_cases h:t.size>64
  ·simp[h]
  ·simp[h];omega
theorem Ty.Dh{t x:Ty}(h:t.err=0)(hx:x∈t.args):x.err=0:=by
 rw[Ty.Ad] at h ⊢;have h1:=ze Ty.size hx;have h2:=t.size_eq;have h3:=h.1;rw[Ty.Ag,Bool.and_eq_true] at h3;exact⟨List.all_eq_true.1 h3.2 x hx,by omega⟩
theorem Ty.BC{t:Ty}(h:t.shape=true)(hk:t.kind=3\/t.kind=4):∃x y,t.args=[x,y]:=by
 rw[Ty.Ag,Bool.and_eq_true] at h;have h1:CS t.kind=some 2:=by rcases hk with hk|hk<;>rw[hk]<;>rfl
 have h2:=h.1;rw[h1] at h2;simp at h2
 match hl:t.args,h2 with
 |[x,y],_=>exact⟨x,y,rfl⟩
theorem JJ{l:List Ty}{i:Nat}(h:i<l.length):Bj l i=l[i]:=by simp[Bj,h]
theorem NO{l:List Ty}{i:Nat}(h:i<l.length):Bj l i∈l:=by rw[JJ h];exact List.getElem_mem h
@[simp] theorem KX(x:Ty)(l:List Ty):Bj (x::l) 0=x:=rfl
@[simp] theorem Og(x y:Ty)(l:List Ty):Bj (x::y::l) 1=y:=rfl
@[simp] theorem Sx(x y z:Ty)(l:List Ty):Bj (x::y::z::l) 2=z:=rfl
theorem Tm.Gk(g:List Ty):∀(xs:List Tm) (m:Nat) (hm:m<xs.length),(∀j (hj:j<xs.length),j<m->(xs[j].inf g).2=0)->(xs[m].inf g).2≠0->Tm.Ay g xs=([],(xs[m].inf g).2):=by
 intro xs;induction xs with
 |nil=>intro m hm;simp at hm
 |cons x l ih=>
  intro m hm h h1;cases m with
  |zero=>simp only[List.getElem_cons_zero] at h1 ⊢;simp only[Tm.Ay];rw[if_pos h1]
  |succ m=>
   have h0:=h 0 (by simp) (by omega);simp only[List.getElem_cons_zero] at h0;simp only[List.length_cons] at hm;have h2:=ih m (by omega) (fun j hj hlt=>by have:=h (j+1) (by simp;omega) (by omega);simpa using this) (by simpa using h1);simp only[List.getElem_cons_succ] at h1 ⊢;simp only[Tm.Ay,h0,ne_eq,not_true_eq_false,if_false,h2,h1,not_false_eq_true,if_true]
theorem Tm.DN(g:List Ty):∀(xs:List Tm),(∀x∈xs,(x.inf g).2=0)->Tm.Ay g xs=(xs.map fun x=>(x.inf g).1,0):=by
 intro xs;induction xs with
 |nil=>intro _;rfl
 |cons x l ih=>
  intro h;have h0:=h x (by simp);have h1:=ih fun y hy=>h y (by simp[hy]);simp only[Tm.Ay,h0,h1,ne_eq,not_true_eq_false,if_false,List.map_cons]
theorem Tm.Cg(g:List Ty):∀(xs:List Tm),(Tm.Ay g xs).2=0->∀x∈xs,(x.inf g).2=0:=by
 intro xs;induction xs with
 |nil=>intro _ x hx;cases hx
 |cons y l ih=>
  intro h x hx;simp only[Tm.Ay] at h;by_cases h1:(y.inf g).2=0
  ·by_cases h2:(Tm.Ay g l).2=0
   ·rcases List.mem_cons.1 hx with rfl|hx
    ·exact h1
    ·exact ih h2 x hx
   ·simp only[h1,h2,ne_eq,not_true_eq_false,if_false,not_false_eq_true,if_true] at h
  ·rw[if_pos h1] at h;exact absurd h h1
theorem Tm.AJ(g:List Ty)(t:Tm):t.inf g=(if t.kind=1 then(if t.index>=g.length then(AY,6) else(Bj g (g.length-1-t.index.toNat),0))
 else if t.kind=2 then(if(Tm.Ay (g++[t.ty]) t.args).2≠0 then(AY,(Tm.Ay (g++[t.ty]) t.args).2) else A9 (yo t.ty (Bj (Tm.Ay (g++[t.ty]) t.args).1 0)))
 else if(Tm.Ay g t.args).2≠0 then(AY,(Tm.Ay g t.args).2) else yk t.kind t.ty (Tm.Ay g t.args).1):=by
 cases t;rfl
theorem VU{t:Ty}(h:(A9 t).2=0):(A9 t).1.err=0:=by
 simp only[A9] at h ⊢;split
 ·rename_i h1;exact h1
 ·rename_i h1;simp[h1] at h
theorem F3{t:Tm}(h:t.shape=true):Cq t.kind=some t.args.length:=by
 rw[Tm.Ag,Bool.and_eq_true] at h;have h1:=h.1;simp only[Tm.head,Bool.and_eq_true] at h1;have h2:=h1.1.1.1;split at h2
 ·rename_i n hn;rw[hn];simp at h2;rw[h2]
 ·cases h2
theorem zg{t:Tm}(h:t.shape=true):∀x∈t.args,x.shape=true:=by
 rw[Tm.Ag,Bool.and_eq_true] at h;exact List.all_eq_true.1 h.2
theorem xo{t:Tm}(h:t.shape=true):0<=t.index/\(t.kind≠1->t.index=0):=by
 rw[Tm.Ag,Bool.and_eq_true] at h;have h1:=h.1;simp only[Tm.head,Bool.and_eq_true,decide_eq_true_eq,Bool.or_eq_true,beq_iff_eq] at h1;exact⟨h1.1.1.2,fun hk=>h1.1.2.resolve_right hk⟩
theorem Kg{t:Tm}(h:t.shape=true)(hk:xz t.kind=true):t.ty.err=0:=by
 rw[Tm.Ag,Bool.and_eq_true] at h;have h1:=h.1;simp only[Tm.head,Bool.and_eq_true,hk,cond_true] at h1;have h2:=h1.2;simp only[Ty.ok,Bool.and_eq_true,decide_eq_true_eq] at h2;exact(Ty.Ad _).2 h2
theorem MG{k:Int}{n:Nat}(h:Cq k=some n):(n=0/\(k=1\/k=4\/k=7\/k=13))\/(n=1/\(k=2\/k=5\/k=11\/k=12))\/(n=2/\(k=3\/k=8\/k=10))\/(n=3/\(k=6\/k=9)):=by
 simp only[Cq] at h;(repeat' split at h)<;>simp_all<;>omega
theorem KS{α:Type}{l:List α}(h:l.length=1):l=[l[0]'(by omega)]:=by
 match l,h with
 |[x],_=>rfl
theorem Ih{α:Type}{l:List α}(h:l.length=1):∃x,l=[x]:=⟨_,KS h⟩
theorem IA{α:Type}{l:List α}(h:l.length=2):∃x y,l=[x,y]:=by
 match l,h with
 |[x,y],_=>exact⟨x,y,rfl⟩
theorem ND{α:Type}{l:List α}(h:l.length=3):∃x y z,l=[x,y,z]:=by
 match l,h with
 |[x,y,z],_=>exact⟨x,y,z,rfl⟩
theorem Zv0{k:Int}{h:Ty}{l:List Ty}(hk:Cq k=some l.length)(hl:∀x∈l,x.err=0)(hh:xz k=true->h.err=0)(h0:(yk k h l).2=0):(yk k h l).1.err=0:=by
 have h1:∀i,i<l.length->(Bj l i).err=0:=fun i hi=>hl _ (NO hi);have h2:∀i,i<l.length->(Bj l i).kind=3\/(Bj l i).kind=4->∀j,j<2->(Bj (Bj l i).args j).err=0:=by
  intro i hi hk j hj;obtain⟨x,y,hxy⟩:=Ty.BC ((Ty.Ad _).1 (h1 i hi)).1 hk;refine Ty.Dh (h1 i hi) ?_;exact NO (by rw[hxy];exact hj)
 rcases MG hk with⟨hn,hk⟩|⟨hn,hk⟩|⟨hn,hk⟩|⟨hn,hk⟩
 ·rcases hk with rfl|rfl|rfl|rfl<;>rfl
 ·rcases hk with rfl|rfl|rfl|rfl
  ·rfl
  ·simp only[yk] at h0 ⊢;simp at h0 ⊢;split<;>first|rfl|(exfalso;rename_i hc;simp[hc] at h0)
  ·simp only[yk] at h0 ⊢;simp at h0 ⊢;by_cases hc:(Bj l 0).kind=3
   ·simp only[hc,if_true];exact h2 0 (by omega) (.inl hc) 0 (by omega)
   ·simp[hc] at h0
  ·simp only[yk] at h0 ⊢;simp at h0 ⊢;by_cases hc:(Bj l 0).kind=3
   ·simp only[hc,if_true];exact h2 0 (by omega) (.inl hc) 1 (by omega)
   ·simp[hc] at h0
 ·rcases hk with rfl|rfl|rfl
  ·simp only[yk] at h0 ⊢;simp only[if_true] at h0 ⊢;by_cases hc:¬(Bj l 0).kind=4\/¬Bj (Bj l 0).args 0=Bj l 1
   ·simp[hc] at h0
   ·rw[if_neg hc];have:(Bj l 0).kind=4:=by simp at hc;exact hc.1
    exact h2 0 (by omega) (.inr this) 1 (by omega)
  ·simp only[yk] at h0 ⊢;simp at h0 ⊢;split<;>first|rfl|(exfalso;rename_i hc;simp[hc] at h0)
  ·simp only[yk] at h0 ⊢;simp at h0 ⊢;exact VU h0
 ·rcases hk with rfl|rfl
  ·simp only[yk] at h0 ⊢;simp at h0 ⊢;split
   ·rename_i hc;simp[hc] at h0
   ·exact hh rfl
  ·simp only[yk] at h0 ⊢;simp at h0 ⊢;split
   ·rename_i hc;simp[hc] at h0
   ·exact hh rfl
theorem Tm.Bv(t:Tm):∀g:List Ty,t.shape=true->(∀x∈g,x.err=0)->(t.inf g).2=0->(t.inf g).1.err=0:=by
 induction t using Tm.ind with
 |h t ih=>
  intro g hsh hg h0;rw[Tm.AJ] at h0 ⊢;by_cases h1:t.kind=1
  ·simp only[h1,if_true] at h0 ⊢;by_cases h2:t.index>=g.length
   ·simp[h2] at h0
   ·rw[if_neg h2];have:=(xo hsh).1;exact hg _ (NO (by omega))
  ·simp only[h1,if_false] at h0 ⊢;by_cases h2:t.kind=2
   ·simp only[h2,if_true] at h0 ⊢;by_cases h3:(Tm.Ay (g++[t.ty]) t.args).2=0
    ·simp only[h3,ne_eq,not_true_eq_false,if_false] at h0 ⊢;exact VU h0
    ·rw[if_pos h3] at h0;exact absurd h0 h3
   ·simp only[h2,if_false] at h0 ⊢;by_cases h3:(Tm.Ay g t.args).2=0
    ·simp only[h3,ne_eq,not_true_eq_false,if_false] at h0 ⊢;have h4:=Tm.Cg g t.args h3;have h5:=Tm.DN g t.args h4;rw[h5] at h0 ⊢;refine Zv0 (by rw[F3 hsh];simp) ?_ (Kg hsh) h0;intro x hx;obtain⟨y,hy,rfl⟩:=List.mem_map.1 hx;exact ih y hy g (zg hsh y hy) hg (h4 y hy)
    ·rw[if_pos h3] at h0;exact absurd h0 h3
theorem Lh{t:Ty}(h:t.shape=true)(hk:t.kind=1\/t.kind=2\/t.kind=5):t.args=[]:=by
 rw[Ty.Ag,Bool.and_eq_true] at h;have h1:CS t.kind=some 0:=by rcases hk with hk|hk|hk<;>rw[hk]<;>rfl
 have h2:=h.1;rw[h1] at h2;simp at h2;exact h2
theorem Zrz{t:Ty}(h:t.shape=true):t.kind=1\/t.kind=2\/t.kind=5\/t.kind=3\/t.kind=4:=by
 rw[Ty.Ag,Bool.and_eq_true] at h;have h2:=h.1;split at h2
 ·rename_i n hn;simp only[CS] at hn;split at hn
  ·omega
  ·split at hn
   ·omega
   ·cases hn
 ·cases h2
theorem TY{t:Ty}(h:t.shape=true):t=Aa\/t=Ah\/t=Gg\/∃a b,a.shape=true/\b.shape=true/\(t=uu a b\/t=yo a b):=by
 have h0:=h;rw[Ty.Ag,Bool.and_eq_true] at h0;rcases Zrz h with hk|hk|hk|hk|hk
 ·exact .inl ((Ty.eq_iff _ _).2 ⟨hk,Lh h (by omega)⟩)
 ·exact .inr (.inl ((Ty.eq_iff _ _).2 ⟨hk,Lh h (by omega)⟩))
 ·exact .inr (.inr (.inl ((Ty.eq_iff _ _).2 ⟨hk,Lh h (by omega)⟩)))
 ·obtain ⟨a,b,hab⟩:=Ty.BC h (.inl hk);have:=List.all_eq_true.1 h0.2;rw[hab] at this;exact .inr (.inr (.inr ⟨a,b,this a (by simp),this b (by simp),.inl ((Ty.eq_iff _ _).2 ⟨hk,hab⟩)⟩))
 ·obtain ⟨a,b,hab⟩:=Ty.BC h (.inr hk);have:=List.all_eq_true.1 h0.2;rw[hab] at this;exact .inr (.inr (.inr ⟨a,b,this a (by simp),this b (by simp),.inr ((Ty.eq_iff _ _).2 ⟨hk,hab⟩)⟩))
theorem HW(a b:Ty):(uu a b).size=1+(a.size+b.size):=by simp[uu,Ty.size,Ty.sizes]
theorem vb(a b:Ty):(yo a b).size=1+(a.size+b.size):=by simp[yo,Ty.size,Ty.sizes]
theorem OV{t:Ty}(h:t.small):t=Aa\/t=Ah\/t=Gg\/∃a b,a.shape=true/\b.shape=true/\a.size=1/\b.size=1/\(t=uu a b\/t=yo a b):=by
 obtain⟨h1,h2⟩:=h;rcases TY h1 with h3|h3|h3|⟨a,b,ha,hb,h3⟩
 ·exact .inl h3
 ·exact .inr (.inl h3)
 ·exact .inr (.inr (.inl h3))
 ·have pa:=a.size_pos;have pb:=b.size_pos;refine .inr (.inr (.inr ⟨a,b,ha,hb,?_,?_,h3⟩))<;>rcases h3 with rfl|rfl<;>(first|rw[HW] at h2|rw[vb] at h2)<;>omega
theorem zy{t:Ty}(h:t.shape=true)(h1:t.size=1):t.small:=⟨h,by omega⟩
theorem zi:Aa.small:=⟨rfl,by decide⟩
theorem yy:Ah.small:=⟨rfl,by decide⟩
theorem zp{g l:List Ty}(h:Ai g)(h1:Ai l):Ai (g++l):=fun t ht=>by
 rcases List.mem_append.1 ht with ht|ht
 ·exact h t ht
 ·exact h1 t ht
theorem zj{t:Ty}{l:List Ty}(h:t.small)(h1:Ai l):Ai (t::l):=fun x hx=>by
 rcases List.mem_cons.1 hx with rfl|hx
 ·exact h
 ·exact h1 x hx
theorem zo:Ai []:=fun t ht=>by cases ht
theorem Pa{g:List Ty}(h:Ai g){i:Nat}(hi:i<g.length):(Bj g (g.length-1-i)).small:=h _ (NO (by omega))
theorem Dk.type0(d:Dk):(d.type 0).1.shape=true/\(d.type 0).1.size=1:=by
 simp only[Dk.type];(repeat' split)<;>exact⟨rfl,rfl⟩
theorem Nz(d:Dk):∃m,m<3/\wh (d.next 3).1=DY m:=by
 have h:=Dk.Bb d 3 (by omega);refine⟨(d.next 3).1.toNat,by omega,?_⟩;rw[wh,if_pos (by omega)]
theorem Zub{g:List Ty}{t:Ty}{i:Int}(h:i∈we g t):∃j:Nat,i=j/\j<g.length/\Bj g (g.length-1-j)=t:=by
 simp only[we,List.mem_map,List.mem_filter,List.mem_range,decide_eq_true_eq] at h;obtain⟨j,⟨h1,h2⟩,rfl⟩:=h;refine⟨j,rfl,h1,?_⟩;simp only[Bj,List.getD_eq_getElem?_getD,h2,Option.getD_some]
theorem Zrg{g:List Ty}{t:Ty}(d:Dk)(h:¬we g t=[]):∃j:Nat,(we g t).getD (d.next (we g t).length).1.toNat 0=j/\j<g.length/\Bj g (g.length-1-j)=t:=by
 have hl:0<(we g t).length:=List.length_pos_iff.2 h;have hb:=Dk.Bb d (we g t).length (by omega);have hlt:(d.next (we g t).length).1.toNat<(we g t).length:=by omega
 have:(we g t).getD (d.next (we g t).length).1.toNat 0∈we g t:=by
  rw[List.getD_eq_getElem?_getD,List.getElem?_eq_getElem hlt];exact List.getElem_mem hlt
 exact Zub this
theorem Zsb{g:List Ty}{t:Ty}{i:Nat}(h:JU g t=some i):i<g.length/\FC g t i=true:=by
 have:=List.find?_some h;have h2:=List.mem_of_find?_eq_some h;exact⟨by simpa using h2,this⟩
theorem Zy2{g:List Ty}{t:Ty}{i:Nat}(hg:Ai g)(hi:i<g.length)(h:FC g t i=true):∃s,s.shape=true/\s.size=1/\Bj g (g.length-1-i)=yo s t:=by
 simp only[FC,Bool.and_eq_true,beq_iff_eq,decide_eq_true_eq] at h;have hs:=Pa hg hi;rcases OV hs with h3|h3|h3|⟨a,b,ha,hb,h1,h2,h3|h3⟩
 ·rw[h3] at h;exact absurd h.1 (by decide)
 ·rw[h3] at h;exact absurd h.1 (by decide)
 ·rw[h3] at h;exact absurd h.1 (by decide)
 ·rw[h3] at h;exact absurd h.1 (by simp[uu])
 ·refine ⟨a,ha,h1,?_⟩;have:=h.2;rw[h3] at this ⊢;simp only[yo,Ty.Ae,Og] at this;rw[this]
abbrev Np(rec:D6)(n:Nat):Prop:=∀d g t,Ai g->t.small->1<=n->(n=1->t.size=1)->Mk n g t (rec d g t).1
theorem Dk.EE{rec:D6}{n:Nat}{pos:Bool}{d:Dk}{g:List Ty}{t:Ty}(H:Np rec n)(hp:pos=true->2<=n)(hg:Ai g)(ht:t.small)(h0:n=0->t.size=1):Mk (n+1) g t (d.fin rec pos g t).1:=by
 rcases OV ht with rfl|rfl|rfl|⟨a,b,ha,hb,h1,h2,rfl|rfl⟩
 ·unfold Dk.fin;rw[if_pos (show Aa.kind=1 from rfl)];by_cases hpos:pos=true
  ·have hn:=hp hpos;have hr:∀d,Mk n g Aa (rec d g Aa).1:=fun d=>H d g Aa hg zi (by omega) (by omega);rw[if_pos hpos];split
   ·exact .succ n g _ hn (hr _)
   ·split
    ·exact .plus n g _ _ hn (hr _) (hr _)
    ·split
     ·exact .sub n g _ _ hn (hr _) (hr _)
     ·obtain ⟨m,hm,e⟩:=Nz (d.next 5).2;simp only[e];exact .num n g m hm
  ·rw[if_neg hpos];obtain⟨m,hm,e⟩:=Nz d;simp only[e];exact .num n g m hm
 ·unfold Dk.fin;rw[if_neg (by decide),if_pos (show Ah.kind=2 from rfl)];by_cases hpos:pos=true
  ·have hn:=hp hpos;rw[if_pos hpos];split
   ·exact .cons n g _ _ hn (H _ g Aa hg zi (by omega) (by omega)) (H _ g Ah hg yy (by omega) (by omega))
   ·exact .nil n g
  ·rw[if_neg hpos];exact .nil n g
 ·unfold Dk.fin;rw[if_neg (by decide),if_neg (by decide),if_neg (by decide),if_neg (by decide)];exact .unit n g
 ·unfold Dk.fin;rw[if_neg (by simp[uu]),if_neg (by simp[uu]),if_pos (show(uu a b).kind=3 from rfl)];have:n≠0:=fun h=>by have:=h0 h;rw[HW] at this;omega
  exact .pair n g a b _ _ h1 h2 (H _ g a hg (zy ha h1) (by omega) fun _=>h1) (H _ g b hg (zy hb h2) (by omega) fun _=>h2)
 ·unfold Dk.fin;rw[if_neg (by simp[yo]),if_neg (by simp[yo]),if_neg (by simp[yo]),if_pos (show(yo a b).kind=4 from rfl)];have:n≠0:=fun h=>by have:=h0 h;rw[vb] at this;omega
  exact .lam n g a b _ h1 h2 (H _ (g++[a]) b (zp hg (zj (zy ha h1) zo)) (zy hb h2) (by omega) fun _=>h2)
theorem Dk.Ge{rec:D6}{n:Nat}{pos:Bool}{d:Dk}{g:List Ty}{t:Ty}(H:Np rec n)(hp:pos=true->2<=n)(hg:Ai g)(ht:t.small)(h0:n=0->t.size=1):Mk (n+1) g t (d.mid rec pos g t).1:=by
 unfold Dk.mid Dk.m0 Dk.m1 Dk.m2 Dk.m3 Dk.m4 Dk.m5;by_cases hpos:pos=true
 ·have hn:=hp hpos;have hs:=Dk.type0 (d.next 8).2;have hss:=zy hs.1 hs.2;rw[if_pos hpos];split
  ·exact .app n g t _ _ _ hn hs.1 hs.2 (H _ _ _ (zp hg (zj hss zo)) ht (by omega) (by omega)) (H _ _ _ hg hss (by omega) (by omega))
  ·split
   ·exact .fst n g t _ _ _ hn hs.1 hs.2 (H _ _ _ hg ht (by omega) (by omega)) (H _ _ _ hg hss (by omega) (by omega))
   ·split
    ·obtain ⟨m,hm,e⟩:=Nz (rec (rec (d.next 8).2 (g++[Aa,t]) t).2 g t).2;simp only[e];exact .recu n g t _ _ m hn hm (H _ _ _ (zp hg (zj zi (zj ht zo))) ht (by omega) (by omega)) (H _ _ _ hg ht (by omega) (by omega))
    ·split
     ·exact .fold n g t _ _ _ hn (H _ _ _ (zp hg (zj zi (zj yy (zj ht zo)))) ht (by omega) (by omega)) (H _ _ _ hg ht (by omega) (by omega)) (H _ _ _ hg yy (by omega) (by omega))
     ·split
      ·exact .snd n g t _ _ _ hn hs.1 hs.2 (H _ _ _ hg hss (by omega) (by omega)) (H _ _ _ hg ht (by omega) (by omega))
      ·split
       ·split
        ·rename_i i hi;obtain⟨h1,h2⟩:=Zsb hi;obtain⟨s,h3,h4,h5⟩:=Zy2 hg h1 h2;simp only[h5,yo,Ty.Ae,KX];exact .ctx n g t s _ hn i h1 h5 h4 (H _ _ _ hg (zy h3 h4) (by omega) (by omega))
        ·exact Dk.EE H hp hg ht h0
       ·exact Dk.EE H hp hg ht h0
 ·rw[if_neg hpos];exact Dk.EE H hp hg ht h0
theorem Dk.IW{rec:D6}{n:Nat}{pos:Bool}{d:Dk}{g:List Ty}{t:Ty}(H:Np rec n)(hp:pos=true->2<=n)(hg:Ai g)(ht:t.small)(h0:n=0->t.size=1):Mk (n+1) g t (d.gen rec pos g t).1:=by
 unfold Dk.gen;split
 ·exact Dk.Ge H hp hg ht h0
 ·rename_i hl;split
  ·obtain ⟨j,e,h1,h2⟩:=Zrg (d.next 3).2 hl;simp only[e];exact .var n g t j h1 h2
  ·exact Dk.Ge H hp hg ht h0
theorem Dk.Cc:∀n,Np (Dk.tm n) n
 |0=>fun d g t _ _ h _=>by omega
 |n+1=>fun d g t hg ht _ h1=>Dk.IW (Dk.Cc n) (by simp) hg ht (by omega)
theorem MP:∀m,(DY m).full=2*(m+1)
 |0=>rfl
 |m+1=>by simp[DY,Tm.full,Tm.Ap,MP m,Ty.size,Ty.sizes];omega
theorem Mk.full{n:Nat}{g:List Ty}{t:Ty}{x:Tm}(h:Mk n g t x):Ai g->t.small->x.full+20<=20*3^n:=by
 have e1:AY.size=1:=rfl;have e2:(Ty.mk 0 []).size=1:=rfl;have p:∀n,1<=3^n:=fun n=>Nat.one_le_pow _ _ (by omega);have q:∀n,3^(n+1)=3*3^n:=fun n=>by rw[Nat.pow_succ];omega
 induction h with
 |var n g t i hi h=>intro hg ht;have:=p n;have:=q n;simp[vT,Tm.full,Tm.Ap,e2];omega
 |app n g t s a b hn hs h1 ha hb iha ihb=>
  intro hg ht;have:=iha (zp hg (zj (zy hs h1) zo)) ht;have:=ihb hg (zy hs h1);have:=p n;have:=q n;simp[AP,BB,Tm.full,Tm.Ap,e2,h1];omega
 |fst n g t s a b hn hs h1 ha hb iha ihb=>
  intro hg ht;have:=iha hg ht;have:=ihb hg (zy hs h1);have:=p n;have:=q n;simp[nT,Tm.full,Tm.Ap,e2];omega
 |snd n g t s a b hn hs h1 ha hb iha ihb=>
  intro hg ht;have:=iha hg (zy hs h1);have:=ihb hg ht;have:=p n;have:=q n;simp[nT,Tm.full,Tm.Ap,e2];omega
 |recu n g t a b m hn hm ha hb iha ihb=>
  intro hg ht;have:=iha (zp hg (zj zi (zj ht zo))) ht;have:=ihb hg ht;have:=ht.2;have:=p n;have:=q n;have e3:Aa.size=1:=rfl;simp[hT,BB,Tm.full,Tm.Ap,e3,MP];omega
 |fold n g t a b c hn ha hb hc iha ihb ihc=>
  intro hg ht;have:=iha (zp hg (zj zi (zj yy (zj ht zo)))) ht;have:=ihb hg ht;have:=ihc hg yy;have:=ht.2;have:=p n;have:=q n;have e3:Aa.size=1:=rfl;have e4:Ah.size=1:=rfl;simp[hT,BB,Tm.full,Tm.Ap,e3,e4];omega
 |ctx n g t s a hn i hi h h1 ha iha=>
  intro hg ht;have hs:s.shape=true:=by
   have:=Pa hg hi;rw[h] at this;have:=List.all_eq_true.1 ((Bool.and_eq_true _ _).mp ((Ty.Ag _).symm.trans this.1)).2 s (by simp[yo]);exact this
  have:=iha hg (zy hs h1);have:=p n;have:=q n;simp[AP,vT,Tm.full,Tm.Ap,e2];omega
 |succ n g a hn ha iha=>intro hg ht;have:=iha hg zi;have:=p n;have:=q n;simp[sT,Tm.full,Tm.Ap,e2];omega
 |plus n g a b hn ha hb iha ihb=>
  intro hg ht;have:=iha hg zi;have:=ihb hg zi;have:=p n;have:=q n;have e5:BX.full<=18:=by decide
  simp[AP,Tm.full,Tm.Ap,e2];omega
 |sub n g a b hn ha hb iha ihb=>
  intro hg ht;have:=iha hg zi;have:=ihb hg zi;have:=p n;have:=q n;have e5:Dt.full<=36:=by decide
  simp[AP,Tm.full,Tm.Ap,e2];omega
 |num n g m hm=>intro hg ht;have:=p n;have:=q n;rw[MP];omega
 |cons n g a b hn ha hb iha ihb=>
  intro hg ht;have:=iha hg zi;have:=ihb hg yy;have:=p n;have:=q n;simp[nT,Tm.full,Tm.Ap,e2];omega
 |nil n g=>intro hg ht;have:=p n;have:=q n;simp[nT,Tm.full,Tm.Ap,e2];omega
 |pair n g s t a b h1 h2 ha hb iha ihb=>
  intro hg ht;have hs:=List.all_eq_true.1 ((Bool.and_eq_true _ _).mp ((Ty.Ag _).symm.trans ht.1)).2;have:=iha hg (zy (hs s (by simp[uu])) h1);have:=ihb hg (zy (hs t (by simp[uu])) h2);have:=p n;have:=q n;simp[nT,Tm.full,Tm.Ap,e2];omega
 |lam n g s t a h1 h2 ha iha=>
  intro hg ht;have hs:=List.all_eq_true.1 ((Bool.and_eq_true _ _).mp ((Ty.Ag _).symm.trans ht.1)).2;have:=iha (zp hg (zj (zy (hs s (by simp[yo])) h1) zo)) (zy (hs t (by simp[yo])) h2);have:=p n;have:=q n;simp[BB,Tm.full,Tm.Ap,h1];omega
 |unit n g=>intro hg ht;have:=p n;have:=q n;simp[nT,Tm.full,Tm.Ap,e2];omega
theorem QY{k:Int}{a b:Ty}(h:(Ty.mk k [a,b]).shape=true):a.shape=true/\b.shape=true:=by
 have hs:=List.all_eq_true.1 ((Bool.and_eq_true _ _).mp ((Ty.Ag _).symm.trans h)).2;exact⟨hs a (by simp),hs b (by simp)⟩
theorem Mk.ind{P:Nat->List Ty->Ty->Tm->Prop}
 (var:∀n g t (i:Nat),i<g.length->Bj g (g.length-1-i)=t->Ai g->t.small->P (n+1) g t (vT i))
 (app:∀n g t s a b,2<=n->s.shape=true->s.size=1->Ai g->t.small->P n (g++[s]) t a->P n g s b->P (n+1) g t (AP (BB s a) b))
 (fst:∀n g t s a b,2<=n->s.shape=true->s.size=1->Ai g->t.small->P n g t a->P n g s b->P (n+1) g t (nT 11 [nT 10 [a,b]]))
 (snd:∀n g t s a b,2<=n->s.shape=true->s.size=1->Ai g->t.small->P n g s a->P n g t b->P (n+1) g t (nT 12 [nT 10 [a,b]]))
 (recu:∀n g t a b m,2<=n->m<3->Ai g->t.small->P n (g++[Aa,t]) t a->P n g t b->P (n+1) g t (hT 6 t [b,BB Aa (BB t a),DY m]))
 (fold:∀n g t a b c,2<=n->Ai g->t.small->P n (g++[Aa,Ah,t]) t a->P n g t b->P n g Ah c->P (n+1) g t (hT 9 t [b,BB Aa (BB Ah (BB t a)),c]))
 (ctx:∀n g t s a (i:Nat),2<=n->i<g.length->Bj g (g.length-1-i)=yo s t->s.shape=true->s.size=1->Ai g->t.small->P n g s a->P (n+1) g t (AP (vT i) a))
 (succ:∀n g a,2<=n->Ai g->P n g Aa a->P (n+1) g Aa (sT a))
 (plus:∀n g a b,2<=n->Ai g->P n g Aa a->P n g Aa b->P (n+1) g Aa (AP (AP BX a) b))
 (sub:∀n g a b,2<=n->Ai g->P n g Aa a->P n g Aa b->P (n+1) g Aa (AP (AP Dt a) b))
 (num:∀n g m,m<3->Ai g->P (n+1) g Aa (DY m))
 (cons:∀n g a b,2<=n->Ai g->P n g Aa a->P n g Ah b->P (n+1) g Ah (nT 8 [a,b]))
 (nil:∀n g,Ai g->P (n+1) g Ah (nT 7 []))
 (pair:∀n g s t a b,s.shape=true->t.shape=true->s.size=1->t.size=1->1<=n->Ai g->P n g s a->P n g t b->P (n+1) g (uu s t) (nT 10 [a,b]))
 (lam:∀n g s t a,s.shape=true->t.shape=true->s.size=1->t.size=1->1<=n->Ai g->P n (g++[s]) t a->P (n+1) g (yo s t) (BB s a))
 (unit:∀n g,Ai g->P (n+1) g Gg (nT 13 []))
 {n:Nat} {g:List Ty} {t:Ty} {x:Tm} (h:Mk n g t x):Ai g->t.small->P n g t x:=by
 have one:∀{n g t x},Mk n g t x->1<=n:=fun h=>by cases h<;>omega
 induction h with
 |var n g t i hi h=>exact fun hg ht=>var n g t i hi h hg ht
 |app n g t s a b hn hs h1 ha hb iha ihb=>exact fun hg ht=>app n g t s a b hn hs h1 hg ht (iha (zp hg (zj (zy hs h1) zo)) ht) (ihb hg (zy hs h1))
 |fst n g t s a b hn hs h1 ha hb iha ihb=>exact fun hg ht=>fst n g t s a b hn hs h1 hg ht (iha hg ht) (ihb hg (zy hs h1))
 |snd n g t s a b hn hs h1 ha hb iha ihb=>exact fun hg ht=>snd n g t s a b hn hs h1 hg ht (iha hg (zy hs h1)) (ihb hg ht)
 |recu n g t a b m hn hm ha hb iha ihb=>exact fun hg ht=>recu n g t a b m hn hm hg ht (iha (zp hg (zj zi (zj ht zo))) ht) (ihb hg ht)
 |fold n g t a b c hn ha hb hc iha ihb ihc=>exact fun hg ht=>fold n g t a b c hn hg ht (iha (zp hg (zj zi (zj yy (zj ht zo)))) ht) (ihb hg ht) (ihc hg yy)
 |ctx n g t s a hn i hi h h1 ha iha=>
  intro hg ht;have hs:s.shape=true:=by
   have:=Pa hg hi;rw[h] at this;exact(QY this.1).1
  exact ctx n g t s a i hn hi h hs h1 hg ht (iha hg (zy hs h1))
 |succ n g a hn ha iha=>exact fun hg ht=>succ n g a hn hg (iha hg zi)
 |plus n g a b hn ha hb iha ihb=>exact fun hg ht=>plus n g a b hn hg (iha hg zi) (ihb hg zi)
 |sub n g a b hn ha hb iha ihb=>exact fun hg ht=>sub n g a b hn hg (iha hg zi) (ihb hg zi)
 |num n g m hm=>exact fun hg ht=>num n g m hm hg
 |cons n g a b hn ha hb iha ihb=>exact fun hg ht=>cons n g a b hn hg (iha hg zi) (ihb hg yy)
 |nil n g=>exact fun hg ht=>nil n g hg
 |pair n g s t a b h1 h2 ha hb iha ihb=>exact fun hg ht=>have hs:=QY ht.1;pair n g s t a b hs.1 hs.2 h1 h2 (one ha) hg (iha hg (zy hs.1 h1)) (ihb hg (zy hs.2 h2))
 |lam n g s t a h1 h2 ha iha=>exact fun hg ht=>have hs:=QY ht.1;lam n g s t a hs.1 hs.2 h1 h2 (one ha) hg (iha (zp hg (zj (zy hs.1 h1) zo)) (zy hs.2 h2))
 |unit n g=>exact fun hg ht=>unit n g hg
@[simp] theorem U8(a b:Ty):(yo a b).kind=4:=rfl
@[simp] theorem Wt(a b:Ty):(yo a b).args=[a,b]:=rfl
@[simp] theorem Yhj(a b:Ty):(uu a b).kind=3:=rfl
@[simp] theorem Yft(a b:Ty):(uu a b).args=[a,b]:=rfl
theorem Ow{t:Ty}(h:t.err=0):A9 t=(t,0):=if_pos h
theorem w6{t:Ty}(h:t.small):t.err=0:=(Ty.Ad t).2 ⟨h.1,by have:=h.2;omega⟩
theorem un{a b:Ty}(ha:a.shape=true)(hb:b.shape=true):(yo a b).shape=true:=by simp[Ty.Ag (yo a b),ha,hb,CS]
theorem Od{a b:Ty}(ha:a.shape=true)(hb:b.shape=true):(uu a b).shape=true:=by simp[Ty.Ag (uu a b),ha,hb,CS]
theorem Kf{a b:Ty}(ha:a.shape=true)(hb:b.shape=true)(h:a.size+b.size<=60):(yo a b).err=0:=(Ty.Ad _).2 ⟨un ha hb,by rw[vb];omega⟩
theorem OL{a b:Ty}(ha:a.shape=true)(hb:b.shape=true)(h:a.size+b.size<=60):(uu a b).err=0:=(Ty.Ad _).2 ⟨Od ha hb,by rw[HW];omega⟩
def D9(g:List Ty)(i:Nat):Ty:=Bj g (g.length-1-i)
theorem Oa(g:List Ty)(i:Nat)(h:i<g.length):(vT i).inf g=(D9 g i,0):=by
 rw[Tm.AJ];have h1:¬((i:Int)>=(g.length:Int)):=by omega
 simp[vT,h1,D9]
theorem Ql(g:List Ty)(a:Ty):D9 (g++[a]) 0=a:=by simp[D9,Bj]
theorem VM(g:List Ty)(a:Ty)(i:Nat)(h:i<g.length):D9 (g++[a]) (i+1)=D9 g i:=by
 have e:g.length+1-1-(i+1)=g.length-1-i:=by omega
 simp only[D9,Bj,List.length_append,List.length_cons,List.length_nil,Nat.zero_add,e,List.getD_eq_getElem?_getD];rw[List.getElem?_append_left (by omega)]
theorem KK(g:List Ty)(a:Ty):(vT 0).inf (g++[a])=(a,0):=by
 have:=Oa (g++[a]) 0 (by simp);rw[Ql] at this;exact this
theorem Ot(g:List Ty)(a b:Ty):(vT 1).inf (g++[a]++[b])=(a,0):=by
 have:=Oa (g++[a]++[b]) 1 (by simp);rw[VM (g++[a]) b 0 (by simp),Ql] at this;exact this
theorem xx{g:List Ty}{s t:Ty}{x:Tm}(h:x.inf (g++[s])=(t,0))(he:(yo s t).err=0):(BB s x).inf g=(yo s t,0):=by
 rw[Tm.AJ];simp[BB,Tm.Ay,h,Ow he]
theorem Ig{g:List Ty}{s t:Ty}{f x:Tm}(hf:f.inf g=(yo s t,0))(hx:x.inf g=(s,0)):(AP f x).inf g=(t,0):=by
 rw[Tm.AJ];simp[AP,Tm.Ay,hf,hx,yk]
theorem Rm{g:List Ty}{x:Tm}(h:x.inf g=(Aa,0)):(sT x).inf g=(Aa,0):=by
 rw[Tm.AJ];simp[sT,Tm.Ay,h,yk]
theorem Oo(g:List Ty):zT.inf g=(Aa,0):=by
 rw[Tm.AJ];simp[zT,Tm.Ay,yk]
theorem MJ(g:List Ty):∀m,(DY m).inf g=(Aa,0)
 |0=>Oo g
 |m+1=>Rm (MJ g m)
theorem Mr{g:List Ty}{t:Ty}{b f x:Tm}(hb:b.inf g=(t,0))(hf:f.inf g=(yo Aa (yo t t),0))(hx:x.inf g=(Aa,0)):(hT 6 t [b,f,x]).inf g=(t,0):=by
 rw[Tm.AJ];simp[hT,Tm.Ay,hb,hf,hx,yk]
theorem Zzm{g:List Ty}{t:Ty}{b f x:Tm}(hb:b.inf g=(t,0))(hf:f.inf g=(yo Aa (yo Ah (yo t t)),0))(hx:x.inf g=(Ah,0)):(hT 9 t [b,f,x]).inf g=(t,0):=by
 rw[Tm.AJ];simp[hT,Tm.Ay,hb,hf,hx,yk]
theorem NM{g:List Ty}{s t:Ty}{a b:Tm}(ha:a.inf g=(s,0))(hb:b.inf g=(t,0))(he:(uu s t).err=0):(nT 10 [a,b]).inf g=(uu s t,0):=by
 rw[Tm.AJ];simp[nT,Tm.Ay,ha,hb,yk,Ow he]
theorem Yde{g:List Ty}{s t:Ty}{x:Tm}(h:x.inf g=(uu s t,0)):(nT 11 [x]).inf g=(s,0):=by
 rw[Tm.AJ];simp[nT,Tm.Ay,h,yk]
theorem Ycg{g:List Ty}{s t:Ty}{x:Tm}(h:x.inf g=(uu s t,0)):(nT 12 [x]).inf g=(t,0):=by
 rw[Tm.AJ];simp[nT,Tm.Ay,h,yk]
theorem Zya{g:List Ty}{a b:Tm}(ha:a.inf g=(Aa,0))(hb:b.inf g=(Ah,0)):(nT 8 [a,b]).inf g=(Ah,0):=by
 rw[Tm.AJ];simp[nT,Tm.Ay,ha,hb,yk]
theorem Tg{a:Ty}(ha:a.shape=true)(h:a.size<=30):(yo Aa a).err=0:=Kf rfl ha (by have:Aa.size=1:=rfl;omega)
theorem Zzd(g:List Ty):BX.inf g=(yo Aa (yo Aa Aa),0):=by
 refine xx (s:=Aa) (xx (s:=Aa) (Mr (t:=Aa) (Ot g Aa Aa) (xx (s:=Aa) (xx (s:=Aa) (Rm (KK _ _)) rfl) rfl) (KK _ _)) rfl) rfl
theorem Zzs(g:List Ty):BS.inf g=(yo Aa Aa,0):=by
 refine xx (s:=Aa) (Mr (t:=Aa) (Oo _) (xx (s:=Aa) (xx (s:=Aa) (Ot _ Aa Aa) rfl) rfl) (KK _ _)) rfl
theorem Ybm(g:List Ty):Dt.inf g=(yo Aa (yo Aa Aa),0):=by
 refine xx (s:=Aa) (xx (s:=Aa) (Mr (t:=Aa) (Ot g Aa Aa) (xx (s:=Aa) (xx (s:=Aa) (Ig (Zzs _) (KK _ _)) rfl) rfl) (KK _ _)) rfl) rfl
theorem Mk.inf{n:Nat}{g:List Ty}{t:Ty}{x:Tm}(h:Mk n g t x)(hg:Ai g)(ht:t.small):x.inf g=(t,0):=by
 refine Mk.ind (P:=fun n g t x=>x.inf g=(t,0)) ?_ ?_ ?_ ?_ ?_ ?_ ?_ ?_ ?_ ?_ ?_ ?_ ?_ ?_ ?_ ?_ h hg ht
 ·intro n g t i hi h _ _;rw[Oa g i hi];rw[<-h];rfl
 ·intro n g t s a b _ hs h1 _ ht ha hb;exact Ig (xx ha (Kf hs ht.1 (by have:=ht.2;omega))) hb
 ·intro n g t s a b _ hs h1 _ ht ha hb;exact Yde (NM ha hb (OL ht.1 hs (by have:=ht.2;omega)))
 ·intro n g t s a b _ hs h1 _ ht ha hb;exact Ycg (NM ha hb (OL hs ht.1 (by have:=ht.2;omega)))
 ·intro n g t a b m _ _ _ ht ha hb;have h2:=ht.2;refine Mr hb (xx (xx (by rw[List.append_assoc];exact ha) (Kf ht.1 ht.1 (by omega))) (Tg (un ht.1 ht.1) (by rw[vb];omega))) (MJ g m)
 ·intro n g t a b c _ _ ht ha hb hc;have h2:=ht.2;have e1:Ah.size=1:=rfl;refine Zzm hb (xx (xx (xx (by rw[List.append_assoc,List.append_assoc];exact ha) (Kf ht.1 ht.1 (by omega))) (Kf rfl (un ht.1 ht.1) (by rw[vb];omega))) (Tg (un rfl (un ht.1 ht.1)) (by rw[vb,vb];omega))) hc
 ·intro n g t s a i _ hi h _ _ _ _ ha;exact Ig (s:=s) (by rw[Oa g i hi];rw[<-h];rfl) ha
 ·intro n g a _ _ ha;exact Rm ha
 ·intro n g a b _ _ ha hb;exact Ig (Ig (Zzd g) ha) hb
 ·intro n g a b _ _ ha hb;exact Ig (Ig (Ybm g) ha) hb
 ·intro n g m _ _;exact MJ g m
 ·intro n g a b _ _ ha hb;exact Zya ha hb
 ·intro n g _;rw[Tm.AJ];simp[nT,Tm.Ay,yk]
 ·intro n g s t a b hs ht h1 h2 _ _ ha hb;exact NM ha hb (OL hs ht (by omega))
 ·intro n g s t a hs ht h1 h2 _ _ ha;exact xx ha (Kf hs ht (by omega))
 ·intro n g _;rw[Tm.AJ];simp[nT,Tm.Ay,yk]
theorem Um:(Ty.mk 0 []).Bw=true:=rfl
theorem O5{k:Int}{l:List Tm}(hk:Cq k=some l.length)(ht:xz k=false)(h:∀x∈l,x.shape=true):(nT k l).shape=true:=by
 have:l.all Tm.shape=true:=List.all_eq_true.2 h;simp[nT,Tm.Ag,Tm.head,hk,ht,Um,this]
theorem LQ{t:Ty}(h1:t.shape=true)(h2:t.size<=64):t.ok=true:=by simp[Ty.ok,h1,h2]
theorem Wm{k:Int}{s:Ty}{l:List Tm}(hk:Cq k=some l.length)(ht:xz k=true)(hs:s.ok=true)(h:∀x∈l,x.shape=true):(hT k s l).shape=true:=by
 have:l.all Tm.shape=true:=List.all_eq_true.2 h;simp[hT,Tm.Ag,Tm.head,hk,ht,hs,this]
theorem JT(i:Int)(h:0<=i):(vT i).shape=true:=by
 have:xz 1=false:=rfl;simp[vT,Tm.Ag,Tm.head,Cq,this,Um,h]
theorem QI:∀m,(DY m).shape=true
 |0=>rfl
 |m+1=>O5 (k:=5) (l:=[DY m]) rfl rfl (by simp[QI m])
theorem wd{k:Int}{a b:Tm}(hk:Cq k=some 2)(ht:xz k=false)(ha:a.shape=true)(hb:b.shape=true):(nT k [a,b]).shape=true:=O5 hk ht (by simp[ha,hb])
theorem OU{k:Int}{a:Tm}(hk:Cq k=some 1)(ht:xz k=false)(ha:a.shape=true):(nT k [a]).shape=true:=O5 hk ht (by simp[ha])
theorem HV{s:Ty}{a:Tm}(hs:s.ok=true)(ha:a.shape=true):(BB s a).shape=true:=Wm (k:=2) rfl rfl hs (by simp[ha])
theorem Wv{k:Int}{s:Ty}{a b c:Tm}(hk:Cq k=some 3)(ht:xz k=true)(hs:s.ok=true)(ha:a.shape=true)(hb:b.shape=true)(hc:c.shape=true):(hT k s [a,b,c]).shape=true:=Wm hk ht hs (by simp[ha,hb,hc])
theorem Mk.shape{n:Nat}{g:List Ty}{t:Ty}{x:Tm}(h:Mk n g t x)(hg:Ai g)(ht:t.small):x.shape=true:=by
 have ok:∀{t:Ty},t.small->t.ok=true:=fun h=>LQ h.1 (by have:=h.2;omega);refine Mk.ind (P:=fun n g t x=>x.shape=true) ?_ ?_ ?_ ?_ ?_ ?_ ?_ ?_ ?_ ?_ ?_ ?_ ?_ ?_ ?_ ?_ h hg ht
 ·intro n g t i hi h _ _;exact JT _ (by omega)
 ·intro n g t s a b _ hs h1 _ ht ha hb;exact wd (k:=3) rfl rfl (HV (ok (zy hs h1)) ha) hb
 ·intro n g t s a b _ hs h1 _ ht ha hb;exact OU rfl rfl (wd rfl rfl ha hb)
 ·intro n g t s a b _ hs h1 _ ht ha hb;exact OU rfl rfl (wd rfl rfl ha hb)
 ·intro n g t a b m _ _ _ ht ha hb;exact Wv rfl rfl (ok ht) hb (HV rfl (HV (ok ht) ha)) (QI m)
 ·intro n g t a b c _ _ ht ha hb hc;exact Wv rfl rfl (ok ht) hb (HV rfl (HV rfl (HV (ok ht) ha))) hc
 ·intro n g t s a i _ hi h _ _ _ _ ha;exact wd (k:=3) rfl rfl (JT _ (by omega)) ha
 ·intro n g a _ _ ha;exact OU (k:=5) rfl rfl ha
 ·intro n g a b _ _ ha hb;exact wd (k:=3) rfl rfl (wd (k:=3) rfl rfl rfl ha) hb
 ·intro n g a b _ _ ha hb;exact wd (k:=3) rfl rfl (wd (k:=3) rfl rfl rfl ha) hb
 ·intro n g m _ _;exact QI m
 ·intro n g a b _ _ ha hb;exact wd rfl rfl ha hb
 ·intro n g _;rfl
 ·intro n g s t a b hs ht h1 h2 _ _ ha hb;exact wd rfl rfl ha hb
 ·intro n g s t a hs ht h1 h2 _ _ ha;exact HV (ok (zy hs h1)) ha
 ·intro n g _;rfl
def s1:Nat->Nat
 |0=>3|1=>3|2=>3|3=>24|n+4=>3*s1 (n+3)+4
def s3:Nat->Nat
 |0=>7|1=>7|2=>7|3=>24|n+4=>3*s1 (n+3)+4
theorem P8:∀n,3<=n->24<=s1 n
 |0,h=>by omega
 |1,h=>by omega
 |2,h=>by omega
 |3,_=>by decide
 |n+4,_=>by have:=P8 (n+3) (by omega);simp only[s1];omega
theorem Tc:∀n,3<=n->s3 n=s1 n
 |0,h=>by omega
 |1,h=>by omega
 |2,h=>by omega
 |3,_=>rfl
 |n+4,_=>rfl
theorem Gd(n:Nat)(hn:2<=n):3*s1 n+4<=s1 (n+1)/\2*s1 n+18<=s1 (n+1)/\2*s3 n+s1 n+4<=s3 (n+1)/\s1 (n+1)<=s3 (n+1)/\3<=s1 n/\s1 n<=s3 n/\2*s3 n+6<=s3 (n+1)/\s3 n+s1 n+2<=s3 (n+1):=by
 match n,hn with
 |2,_=>decide
 |n+3,_=>
  have h1:=P8 (n+3) (by omega);have h2:=Tc (n+3) (by omega);have h3:s1 (n+3+1)=3*s1 (n+3)+4:=rfl;have h4:s3 (n+3+1)=3*s1 (n+3)+4:=rfl;omega
theorem Ld(n:Nat):3<=s1 n/\s1 n<=s3 n/\7<=s3 n:=by
 match n with
 |0=>decide
 |1=>decide
 |2=>decide
 |n+3=>have h1:=P8 (n+3) (by omega);have h2:=Tc (n+3) (by omega);omega
theorem VQ(n:Nat)(hn:1<=n):2*s1 n+1<=s3 (n+1):=by
 match n,hn with
 |1,_=>decide
 |n+2,_=>have:=Gd (n+2) (by omega);have:=Ld (n+2);omega
theorem PE:∀m,(DY m).size=m+1
 |0=>rfl
 |m+1=>by simp[DY,Tm.size,Tm.sizes,PE m];omega
theorem Mk.size{n:Nat}{g:List Ty}{t:Ty}{x:Tm}(h:Mk n g t x)(hg:Ai g)(ht:t.small):x.size<=s3 n/\(t.size=1->x.size<=s1 n):=by
 have e1:Aa.size=1:=rfl;have e2:Ah.size=1:=rfl;refine Mk.ind (P:=fun n g t x=>x.size<=s3 n/\(t.size=1->x.size<=s1 n)) ?_ ?_ ?_ ?_ ?_ ?_ ?_ ?_ ?_ ?_ ?_ ?_ ?_ ?_ ?_ ?_ h hg ht
 ·intro n g t i hi h _ _;have:=Ld (n+1);simp[vT,Tm.size,Tm.sizes];omega
 ·intro n g t s a b hn hs h1 _ ht ha hb;have:=Gd n hn;have:=hb.2 h1;simp[AP,BB,Tm.size,Tm.sizes];omega
 ·intro n g t s a b hn hs h1 _ ht ha hb;have:=Gd n hn;have:=hb.2 h1;simp[nT,Tm.size,Tm.sizes];omega
 ·intro n g t s a b hn hs h1 _ ht ha hb;have:=Gd n hn;have:=ha.2 h1;simp[nT,Tm.size,Tm.sizes];omega
 ·intro n g t a b m hn hm _ ht ha hb;have:=Gd n hn;simp[hT,BB,Tm.size,Tm.sizes,PE];omega
 ·intro n g t a b c hn _ ht ha hb hc;have:=Gd n hn;have:=hc.2 e2;simp[hT,BB,Tm.size,Tm.sizes];omega
 ·intro n g t s a i hn hi h _ h1 _ _ ha;have:=Gd n hn;have:=ha.2 h1;simp[AP,vT,Tm.size,Tm.sizes];omega
 ·intro n g a hn _ ha;have:=Gd n hn;have:=ha.2 e1;simp[sT,Tm.size,Tm.sizes];omega
 ·intro n g a b hn _ ha hb;have:=Gd n hn;have:=ha.2 e1;have:=hb.2 e1;have:BX.size=9:=rfl;simp[AP,Tm.size,Tm.sizes];omega
 ·intro n g a b hn _ ha hb;have:=Gd n hn;have:=ha.2 e1;have:=hb.2 e1;have:Dt.size=16:=rfl;simp[AP,Tm.size,Tm.sizes];omega
 ·intro n g m hm _;have:=Ld (n+1);rw[PE];omega
 ·intro n g a b hn _ ha hb;have:=Gd n hn;have:=ha.2 e1;have:=hb.2 e2;simp[nT,Tm.size,Tm.sizes];omega
 ·intro n g _;have:=Ld (n+1);simp[nT,Tm.size,Tm.sizes];omega
 ·intro n g s t a b hs ht h1 h2 hn _ ha hb;have:=VQ n hn;have:=ha.2 h1;have:=hb.2 h2;rw[HW];simp[nT,Tm.size,Tm.sizes];omega
 ·intro n g s t a hs ht h1 h2 hn _ ha;have:=VQ n hn;have:=ha.2 h2;rw[vb];simp[BB,Tm.size,Tm.sizes];omega
 ·intro n g _;have:=Ld (n+1);simp[nT,Tm.size,Tm.sizes];omega
def c1:Nat->Nat
 |0=>1|1=>1|2=>1|n+3=>3*c1 (n+2)
def c3:Nat->Nat
 |0=>1|1=>1|2=>2|n+3=>2*c3 (n+2)+c1 (n+2)
theorem Zyt(at_ b k i:Int)(h:Ty)(xs:List Tm)(hk:k≠1):cnt at_ ((Tm.mk k i h xs).vars b)=(xs.map fun x=>cnt at_ (x.vars (up k b))).sum:=by
 rw[Tm.AG];simp only[Tm.Am,Tm.Ae,hk,if_false,List.nil_append];induction xs with
 |nil=>rfl
 |cons x l ih=>simp only[List.flatMap_cons,xg,List.map_cons,List.sum_cons,ih]
theorem Mm(t:Tm):∀(g:List Ty) (b:Int) (B:Int),(t.inf g).2=0->t.shape=true->(g.length:Int)+t.size<=B->∀p∈t.vars b,p.1<B:=by
 induction t using Tm.ind with
 |h t ih=>
  intro g b B h hs hB p hp;rw[Tm.AJ] at h;have hsz:=t.size_eq;rw[t.AG,List.mem_append] at hp;by_cases h1:t.kind=1
  ·have hargs:t.args=[]:=by
    have:=F3 hs;rw[h1] at this;exact List.eq_nil_of_length_eq_zero (Option.some.inj this).symm
   rw[if_pos h1] at h hp;simp only[hargs,List.flatMap_nil,List.not_mem_nil,or_false,List.mem_cons,or_false] at hp;subst hp;by_cases h2:t.index>=(g.length:Int)
   ·rw[if_pos h2] at h;exact absurd h (by simp)
   ·have:=t.size_pos;simp only;omega
  ·rw[if_neg h1] at h hp;simp only[List.not_mem_nil,false_or] at hp;obtain⟨x,hx,hp⟩:=List.mem_flatMap.1 hp;have hxs:=ze Tm.size hx;by_cases h2:t.kind=2
   ·rw[if_pos h2] at h;by_cases h3:(Tm.Ay (g++[t.ty]) t.args).2=0
    ·exact ih x hx (g++[t.ty]) _ B (Tm.Cg _ _ h3 x hx) (zg hs x hx) (by simp;omega) p hp
    ·rw[if_pos h3] at h;exact absurd h h3
   ·rw[if_neg h2] at h;by_cases h3:(Tm.Ay g t.args).2=0
    ·exact ih x hx g _ B (Tm.Cg _ _ h3 x hx) (zg hs x hx) (by omega) p hp
    ·rw[if_pos h3] at h;exact absurd h h3
theorem vr{g:Int->Int->Tm}{b:Int}{t:Tm}(h:t.kind=1):t.re g b=g t.index b:=by rw[Tm.Bn,if_pos h]
theorem xn{g:Int->Int->Tm}{b:Int}{t:Tm}(h:t.kind≠1):t.re g b= .mk t.kind t.index t.ty (t.args.map (Tm.re g (up t.kind b))):=by rw[Tm.Bn,if_neg h]
theorem uh{t:Tm}(hs:t.shape=true)(h:t.kind=1):t.args=[]:=by
 have:=F3 hs;rw[h] at this;exact List.eq_nil_of_length_eq_zero (Option.some.inj this).symm
theorem w8{t:Tm}(hs:t.shape=true)(h:t.kind=1)(b:Int):t.vars b=[(t.index,b)]:=by rw[t.AG,if_pos h,uh hs h];rfl
theorem uk{t:Tm}(h:t.kind≠1)(b:Int):t.vars b=t.args.flatMap (Tm.vars (up t.kind b)):=by rw[t.AG,if_neg h];rfl
theorem IF{t:Tm}(h:t.kind≠1){b:Int}{x:Tm}(hx:x∈t.args){p:Int×Int}(hp:p∈x.vars (up t.kind b)):p∈t.vars b:=by
 rw[uk h];exact List.mem_flatMap.2 ⟨x,hx,hp⟩
theorem OT(g:Int->Int->Tm)(t:Tm):∀b,t.shape=true->(∀p∈t.vars b,(g p.1 p.2).shape=true)->(t.re g b).shape=true:=by
 induction t using Tm.ind with
 |h t ih=>
  intro b hs hg;by_cases h1:t.kind=1
  ·rw[vr h1];exact hg (t.index,b) (by rw[w8 hs h1];simp)
  ·rw[xn h1];have hs0:=hs;rw[Tm.Ag,Bool.and_eq_true] at hs ⊢;refine⟨?_,?_⟩
   ·have:=hs.1;simp only[Tm.head,Tm.Am,Tm.Ae,Tm.AV,Tm.AD,List.length_map] at this ⊢;exact this
   ·simp only[Tm.Ae];refine List.all_eq_true.2 fun y hy=> ?_;obtain⟨x,hx,rfl⟩:=List.mem_map.1 hy;exact ih x hx _ (List.all_eq_true.1 hs.2 x hx) fun p hp=>hg p (IF h1 hx hp)
theorem Lg{fr by_:Int}{t:Tm}(b:Int)(hs:t.shape=true)(hb:0<=by_):(t.re (zn fr by_) b).shape=true:=
 OT _ t b hs fun p hp=>by
  have:=t.AH hs b p hp;simp only[zn];exact JT _ (by split<;>omega)
theorem MH(fr by_:Int)(t:Tm):∀b,t.shape=true->(t.re (zn fr by_) b).size=t.size:=by
 induction t using Tm.ind with
 |h t ih=>
  intro b hs;by_cases h1:t.kind=1
  ·rw[vr h1,t.size_eq,uh hs h1];simp[zn,Tm.size,Tm.sizes]
  ·rw[xn h1,t.size_eq,Tm.size_eq];simp only[Tm.Ae,List.map_map];congr 2;exact List.map_congr_left fun x hx=>ih x hx _ (zg hs x hx)
theorem Nj{at_:Int}{s t:Tm}(b:Int)(hs:s.shape=true)(ht:t.shape=true)(hb:0<=b)(ha:0<=at_)(hv:∀p∈t.vars b,0<=p.2):(t.re (xm at_ s) b).shape=true:=
 OT _ t b ht fun p hp=>by
  have:=t.AH ht b p hp;have:=hv p hp;simp only[xm];split
  ·exact Lg 0 hs (by omega)
  ·exact JT _ (by split<;>omega)
theorem vu(t:Tm):∀b:Int,∀p∈t.vars b,b<=p.2:=by
 induction t using Tm.ind with
 |h t ih=>
  intro b p hp;rw[t.AG,List.mem_append] at hp;rcases hp with hp|hp
  ·split at hp
   ·simp at hp;subst hp;exact Int.le_refl _
   ·cases hp
  ·obtain ⟨x,hx,hp⟩:=List.mem_flatMap.1 hp;have:=ih x hx _ p hp;have:b<=up t.kind b:=by simp only[up];split<;>omega
   omega
theorem MY(at_:Int)(s t:Tm)(hs:s.shape=true):∀b,t.shape=true->(t.re (xm at_ s) b).size=t.size+cnt at_ (t.vars b)*(s.size-1):=by
 have hp:=s.size_pos;induction t using Tm.ind with
 |h t ih=>
  intro b ht;by_cases h1:t.kind=1
  ·rw[vr h1,w8 ht h1,ua,t.size_eq,uh ht h1];simp only[xm];split
   ·rw[MH _ _ _ _ hs];simp;omega
   ·simp[Tm.size,Tm.sizes]
  ·rw[xn h1,t.size_eq,Tm.size_eq,uk h1];simp only[Tm.Ae,List.map_map];have:∀l:List Tm,(∀x∈l,x∈t.args)->(l.map (Tm.size∘Tm.re (xm at_ s) (up t.kind b))).sum=(l.map Tm.size).sum+cnt at_ (l.flatMap (Tm.vars (up t.kind b)))*(s.size-1):=by
    intro l;induction l with
    |nil=>intro _;simp[cnt]
    |cons x l ihl=>
     intro hl;have h2:=ih x (hl x (by simp)) (up t.kind b) (zg ht x (hl x (by simp)));have h3:=ihl fun y hy=>hl y (by simp[hy]);simp only[List.map_cons,List.sum_cons,List.flatMap_cons,xg,Function.comp_apply,h2,h3,Nat.add_mul];omega
   rw[this t.args fun x hx=>hx];omega
theorem Zz7{g h:List Ty}{i:Nat}(hi:i<g.length):Bj (g++h) i=Bj g i:=by
 simp only[Bj,List.getD_eq_getElem?_getD,List.getElem?_append_left hi]
theorem Zwn{g h:List Ty}{i:Nat}(hi:g.length<=i):Bj (g++h) i=Bj h (i-g.length):=by
 simp only[Bj,List.getD_eq_getElem?_getD,List.getElem?_append_right hi]
theorem x5{g h:List Ty}{i:Nat}(hi:i<h.length):D9 (g++h) i=D9 h i:=by
 simp only[D9,List.length_append];rw[Zwn (by omega)];congr 1;omega
theorem II{g h:List Ty}{i:Nat}(hi:h.length<=i)(hl:i<(g++h).length):D9 (g++h) i=D9 g (i-h.length):=by
 simp only[D9,List.length_append] at hl ⊢;rw[Zz7 (by omega)];congr 1;omega
theorem wm(g:List Ty)(i:Int)(h0:0<=i):(vT i).inf g=if i>=(g.length:Int) then(AY,6) else(D9 g i.toNat,0):=by
 rw[Tm.AJ];rfl
theorem JL{t:Tm}(hs:t.shape=true)(h:t.kind=1):t=vT t.index:=by
 refine(Tm.eq_iff _ _).2 ⟨h,rfl,?_,uh hs h⟩;rw[Tm.Ag,Bool.and_eq_true] at hs;have h1:=hs.1;simp only[Tm.head,Bool.and_eq_true,h] at h1;have h2:=h1.2;have:xz 1=false:=rfl;rw[this,cond_false] at h2;simp only[Ty.Bw,Bool.and_eq_true,beq_iff_eq] at h2;exact(Ty.eq_iff _ _).2 ⟨h2.1,List.eq_nil_of_length_eq_zero h2.2⟩
theorem Vs{f:Tm->Tm}{g g':List Ty}:∀(l:List Tm),(∀x∈l,(f x).inf g'=x.inf g)->Tm.Ay g' (l.map f)=Tm.Ay g l:=by
 intro l;induction l with
 |nil=>intro _;rfl
 |cons x l ih=>
  intro h;simp only[List.map_cons,Tm.Ay,h x (by simp),ih fun y hy=>h y (by simp[hy])]
theorem TW(G:Int->Int->Tm)(t:Tm):∀(g g' h:List Ty) (b:Int),t.shape=true->
 (∀(i:Int) (h':List Ty) (b':Int),0<=i->(b'-b=h'.length-h.length)->h.length<=h'.length->(∃e,h'=h++e)->(G i b').inf (g'++h')=(vT i).inf (g++h'))->
 (t.re G b).inf (g'++h)=t.inf (g++h):=by
 induction t using Tm.ind with
 |h t ih=>
  intro g g' h b hs hG;by_cases h1:t.kind=1
  ·rw[vr h1];have:=hG t.index h b (xo hs).1 (by omega) (by omega) ⟨[],by simp⟩;rw[this,<-JL hs h1]
  ·rw[xn h1,Tm.AJ,Tm.AJ (t:=t)];simp only[Tm.Am,Tm.AD,Tm.Ae,h1,if_false];by_cases h2:t.kind=2
   ·have e:up t.kind b=b+1:=if_pos h2;have:Tm.Ay (g'++h++[t.ty]) (t.args.map (Tm.re G (up t.kind b)))=Tm.Ay (g++h++[t.ty]) t.args:=by
     refine Vs t.args fun x hx=> ?_;rw[List.append_assoc,List.append_assoc];refine ih x hx g g' (h++[t.ty]) _ (zg hs x hx) fun i h' b' hi hb hl he=>hG i h' b' hi ?_ ?_ ?_
     ·rw[e] at hb;simp at hb;omega
     ·simp at hl;omega
     ·obtain ⟨e',he'⟩:=he;exact⟨[t.ty]++e',by rw[he',List.append_assoc]⟩
    simp only[h2,if_true,this];rw[<-h2,this]
   ·have e:up t.kind b=b:=if_neg h2;have:Tm.Ay (g'++h) (t.args.map (Tm.re G (up t.kind b)))=Tm.Ay (g++h) t.args:=Vs t.args fun x hx=>ih x hx g g' h _ (zg hs x hx) (by rw[e];exact hG);simp only[h2,if_false,this]
theorem O9(t:Tm)(g m h:List Ty)(fr b:Int)(hs:t.shape=true)(hh:(h.length:Int)=fr+b):(t.re (zn fr m.length) b).inf (g++m++h)=t.inf (g++h):=by
 refine TW _ t g (g++m) h b hs fun i h' b' hi hb hl _=> ?_;have hlen:(h'.length:Int)=fr+b':=by omega
 show(vT (if i-b'>=fr then i+m.length else i)).inf _=_;by_cases hc:i-b'>=fr
 ·rw[if_pos hc,wm _ _ (by omega),wm _ _ hi];simp only[List.length_append];by_cases hr:i>=((g.length+h'.length:Nat):Int)
  ·rw[if_pos (by omega),if_pos hr]
  ·rw[if_neg (by omega),if_neg hr];have e1:(i+(m.length:Int)).toNat=i.toNat+m.length:=by omega
   rw[II (by omega) (by simp;omega),II (by omega) (by simp;omega),II (by omega) (by simp;omega)];congr 2;omega
 ·rw[if_neg hc,wm _ _ hi,wm _ _ hi];simp only[List.length_append];rw[if_neg (by omega),if_neg (by omega),x5 (by omega),x5 (by omega)]
theorem RC(t s:Tm)(g h:List Ty)(σ:Ty)(at_ b:Int)(ht:t.shape=true)(hs:s.shape=true)(hh:(h.length:Int)=at_+b)(hσ:s.inf g=(σ,0)):(t.re (xm at_ s) b).inf (g++h)=t.inf (g++[σ]++h):=by
 refine TW _ t (g++[σ]) g h b ht fun i h' b' hi hb hl _=> ?_;have hlen:(h'.length:Int)=at_+b':=by omega
 simp only[xm];by_cases hc:i-b'=at_
 ·rw[if_pos hc];have e:=O9 s g h' [] 0 0 hs rfl;simp only[List.append_nil] at e;rw[<-hlen,e,hσ,wm _ _ hi];simp only[List.length_append,List.length_cons,List.length_nil];rw[if_neg (by omega),II (by omega) (by simp;omega)];rw[show i.toNat-h'.length=0 by omega,Ql]
 ·rw[if_neg hc];by_cases hg:i-b'>at_
  ·rw[if_pos hg];show(vT (i-1)).inf _=_;rw[wm _ _ (by omega),wm _ _ hi];simp only[List.length_append,List.length_cons,List.length_nil];by_cases hr:i>=((g.length+(0+1)+h'.length:Nat):Int)
   ·rw[if_pos (by omega),if_pos hr]
   ·rw[if_neg (by omega),if_neg hr,II (by omega) (by simp;omega),II (by omega) (by simp;omega)];obtain⟨k,hk⟩:∃k,i.toNat-h'.length=k+1:=⟨i.toNat-h'.length-1,by omega⟩;rw[hk,VM g σ k (by omega)];congr 2;omega
  ·rw[if_neg hg];show(vT i).inf _=_;rw[wm _ _ hi,wm _ _ hi];simp only[List.length_append,List.length_cons,List.length_nil];rw[if_neg (by omega),if_neg (by omega),x5 (by omega),x5 (by omega)]
theorem KZ{t:Tm}{g:List Ty}(h:(t.inf g).2=0)(hs:t.shape=true)(hb:g.length+t.size<=536870912):t.near=true:=
 List.all_eq_true.2 fun p hp=>by
  have:=Mm t g 0 536870912 h hs (by omega) p hp;simp;omega
theorem Tm.Ad(t:Tm):t.err=0↔t.shape=true/\t.size<=4096:=by
 simp only[Tm.err];cases t.shape
 ·simp
 ·by_cases h:t.size>4096
  ·simp[h]
  ·simp[h];omega
theorem wj(fr by_:Int)(t:Tm):∀b,t.shape=true->(t.re (zn fr by_) b).full=t.full:=by
 induction t using Tm.ind with
 |h t ih=>
  intro b hs;by_cases h1:t.kind=1
  ·rw[vr h1]
   conv=>rhs;rw[JL hs h1]
   simp[zn,vT,Tm.full,Tm.Ap]
  ·rw[xn h1,t.Af,Tm.Af];simp only[Tm.Ae,Tm.AD,List.map_map];congr 2;exact List.map_congr_left fun x hx=>ih x hx _ (zg hs x hx)
theorem Sd(at_:Int)(s t:Tm)(hs:s.shape=true):∀b,t.shape=true->(t.re (xm at_ s) b).full<=t.full+cnt at_ (t.vars b)*s.full:=by
 induction t using Tm.ind with
 |h t ih=>
  intro b ht;by_cases h1:t.kind=1
  ·rw[vr h1,w8 ht h1,ua];have e:t.full=2:=by rw[JL ht h1];rfl
   simp only[xm];split
   ·rw[wj _ _ _ _ hs];omega
   ·rw[e];simp[Tm.full,Tm.Ap,Ty.size,Ty.sizes]
  ·rw[xn h1,t.Af,Tm.Af,uk h1];simp only[Tm.Ae,Tm.AD,List.map_map];have:∀l:List Tm,(∀x∈l,x∈t.args)->(l.map (Tm.full∘Tm.re (xm at_ s) (up t.kind b))).sum<=(l.map Tm.full).sum+cnt at_ (l.flatMap (Tm.vars (up t.kind b)))*s.full:=by
    intro l;induction l with
    |nil=>intro _;simp
    |cons x l ihl=>
     intro hl;have h2:=ih x (hl x (by simp)) (up t.kind b) (zg ht x (hl x (by simp)));have h3:=ihl fun y hy=>hl y (by simp[hy]);simp only[List.map_cons,List.sum_cons,List.flatMap_cons,xg,Function.comp_apply,Nat.add_mul];omega
   have:=this t.args fun x hx=>hx;omega
theorem Dk.type1(d:Dk):(d.type 1).1.small:=by
 have e:=Dk.DV 1 d;rw[show(1:Int).toNat=1 from rfl,show((1:Int)-1).toNat=0 from rfl] at e;have h1:=Dk.type0 (d.next 7).2;have h2:=Dk.type0 ((d.next 7).2.type 0).2;rw[e];generalize ((d.next 7).2.type 0).1=a at*;generalize (((d.next 7).2.type 0).2.type 0).1=b at*;split
 ·split
  ·exact ⟨Od h1.1 h2.1,show(uu a b).size<=3 by rw[HW];omega⟩
  ·exact ⟨un h1.1 h2.1,show(yo a b).size<=3 by rw[vb];omega⟩
 ·split
  ·exact ⟨rfl,show(Ty.mk 2 []).size<=3 by decide⟩
  ·split
   ·exact ⟨rfl,show(Ty.mk 5 []).size<=3 by decide⟩
   ·exact ⟨rfl,show(Ty.mk 1 []).size<=3 by decide⟩
theorem Dk.CG:∀(n:Nat) (d:Dk),Ai (d.types n).1
 |0,d=>zo
 |n+1,d=>zj (Dk.type1 d) (Dk.CG n _)
theorem Dk.Bx(d:Dk):Ai d.ctx.1:=Dk.CG _ _
theorem Dk.Cl(d:Dk):d.ctx.1.length<=3:=by
 have:=Dk.Bb d 4 (by omega);simp only[Dk.ctx,Dk.CN];omega
theorem Dk.DP{d:Dk}(h:d.ok):d.ctx.2.ok:=Dk.C6 _ _ (Dk.AA h 4)
def Dr(g:List Ty)(t:Tm):Ty×Int:=if t.err≠0 then(AY,t.err) else t.inf g
def y3(g:List Ty)(t:Tm):Ty×Int:=if y1 g≠0 then(AY,y1 g) else Dr g t
theorem Zvi{g:List Ty}(h:Ai g)(hl:g.length<=16):y1 g=0:=by
 unfold y1;rw[if_neg (by omega)];exact Qj g fun j hj _=>w6 (h _ (List.getElem_mem hj))
theorem VI:∀{g:List Ty},vo g=0->∀x∈g,x.err=0
 |[],_,x,hx=>by cases hx
 |t::l,h,x,hx=>by
  simp only[vo] at h;by_cases h1:t.err=0
  ·simp only[h1,ne_eq,not_true_eq_false,if_false] at h;rcases List.mem_cons.1 hx with rfl|hx
   ·exact h1
   ·exact VI h x hx
  ·rw[if_pos h1] at h;exact absurd h h1
theorem vk{g:List Ty}(h:y1 g=0):g.length<=16/\∀x∈g,x.err=0:=by
 unfold y1 at h;by_cases h1:g.length>16
 ·rw[if_pos h1] at h;exact absurd h (by decide)
 ·rw[if_neg h1] at h;exact⟨by omega,VI h⟩
theorem Mk.err{n:Nat}{g:List Ty}{t:Ty}{x:Tm}(h:Mk n g t x)(hg:Ai g)(ht:t.small)(hn:n<=5):x.err=0:=by
 refine(Tm.Ad x).2 ⟨h.shape hg ht,?_⟩;have:=(h.size hg ht).1;have:s3 n<=232:=by
  match n,hn with
  |0,_=>decide
  |1,_=>decide
  |2,_=>decide
  |3,_=>decide
  |4,_=>decide
  |5,_=>decide
 omega
theorem Mk.EW{n:Nat}{g:List Ty}{t:Ty}{x:Tm}(h:Mk n g t x)(hg:Ai g)(ht:t.small)(hn:n<=5):x.size<=232:=by
 have:=(h.size hg ht).1;have:s3 n<=232:=by
  match n,hn with
  |0,_=>decide
  |1,_=>decide
  |2,_=>decide
  |3,_=>decide
  |4,_=>decide
  |5,_=>decide
 omega
theorem Mk.near{n:Nat}{g:List Ty}{t:Ty}{x:Tm}(h:Mk n g t x)(hg:Ai g)(ht:t.small)(hn:n<=5)(hl:g.length<=100000):x.near=true:=
 KZ (by rw[h.inf hg ht]) (h.shape hg ht) (by have:=h.EW hg ht hn;omega)
def AQ(t:Ty):Sz:=⟨t,t.num⟩
def GS:Sz:=⟨AY,0⟩
theorem Nf{t:Ty}(h:t.err=0):t.num=t.size:=by simp[Ty.num,h]
def Ho(k:Int):List Int:=if k=4 then [1] else if k=5 then [1,1] else if k=7 then [2] else if k=8 then [2,1,2] else if k=13 then [5] else []
def JK(k:Int)(a b:Sz):Sz×Int:=if 1+a.nodes+b.nodes>64 then(GS,4) else(⟨.mk k [a.ty,b.ty],1+a.nodes+b.nodes⟩,0)
def HS(r:Ty)(l:List Ty):Ty:=l.foldr yo r
def LP(t:Tm):Ty:=if t.kind=9 then HS t.ty [Aa,Ah,t.ty] else HS t.ty [Aa,t.ty]
theorem Uh{k:Int}{a b:Ty}(hk:k=3\/k=4)(ha:a.err=0)(hb:b.err=0):JK k (AQ a) (AQ b)=(AQ (A9 (.mk k [a,b])).1,(A9 (.mk k [a,b])).2):=by
 have sa:=(Ty.Ad a).1 ha;have sb:=(Ty.Ad b).1 hb;have hsh:(Ty.mk k [a,b]).shape=true:=by
  rcases hk with rfl|rfl
  ·exact Od sa.1 sb.1
  ·exact un sa.1 sb.1
 have hsz:(Ty.mk k [a,b]).size=1+(a.size+b.size):=by simp[Ty.size,Ty.sizes]
 simp only[JK,AQ,Nf ha,Nf hb];by_cases h:a.size+b.size>63
 ·have he:(Ty.mk k [a,b]).err=4:=by simp only[Ty.err,hsh];rw[if_neg (by simp),if_pos (by omega)]
  rw[if_pos (by omega)];simp[A9,he,GS]
  rfl
 ·have he:(Ty.mk k [a,b]).err=0:=(Ty.Ad _).2 ⟨hsh,by omega⟩;rw[if_neg (by omega),Ow he];simp only[Nf he,hsz];congr 2;omega
theorem Ydz{a b:Ty}(ha:a.err=0)(hb:b.err=0):((AQ a).nodes==(AQ b).nodes&&decide (a=b))=decide (a=b):=by
 by_cases h:a=b
 ·subst h;simp
 ·simp[h]
def Cs:List Ty->List V
 |[]=>GS.view++GS.view++GS.view
 |[a]=>(AQ a).view++GS.view++GS.view
 |[a,b]=>(AQ a).view++(AQ b).view++GS.view
 |a::b::c::_=>(AQ a).view++(AQ b).view++(AQ c).view
theorem Mk.weak{n:Nat}{g:List Ty}{t:Ty}{x:Tm}(m:List Ty)(h:Mk n g t x):Mk n (m++g) t x:=by
 induction h with
 |var n g t i hi h=>exact .var n _ t i (by simp;omega) ((x5 hi).trans h)
 |app n g t s a b hn hs h1 _ _ iha ihb=>exact .app n _ t s a b hn hs h1 (by rw[List.append_assoc];exact iha) ihb
 |fst n g t s a b hn hs h1 _ _ iha ihb=>exact .fst n _ t s a b hn hs h1 iha ihb
 |snd n g t s a b hn hs h1 _ _ iha ihb=>exact .snd n _ t s a b hn hs h1 iha ihb
 |recu n g t a b m' hn hm _ _ iha ihb=>exact .recu n _ t a b m' hn hm (by rw[List.append_assoc];exact iha) ihb
 |fold n g t a b c hn _ _ _ iha ihb ihc=>exact .fold n _ t a b c hn (by rw[List.append_assoc];exact iha) ihb ihc
 |ctx n g t s a hn i hi h h1 _ iha=>exact .ctx n _ t s a hn i (by simp;omega) ((x5 hi).trans h) h1 iha
 |succ n g a hn _ iha=>exact .succ n _ a hn iha
 |plus n g a b hn _ _ iha ihb=>exact .plus n _ a b hn iha ihb
 |sub n g a b hn _ _ iha ihb=>exact .sub n _ a b hn iha ihb
 |num n g m' hm=>exact .num n _ m' hm
 |cons n g a b hn _ _ iha ihb=>exact .cons n _ a b hn iha ihb
 |nil n g=>exact .nil n _
 |pair n g s t a b h1 h2 _ _ iha ihb=>exact .pair n _ s t a b h1 h2 iha ihb
 |lam n g s t a h1 h2 _ iha=>exact .lam n _ s t a h1 h2 (by rw[List.append_assoc];exact iha)
 |unit n g=>exact .unit n _
theorem Zxy{t:Ty}(h:t.small):t.ok=true:=LQ h.1 (by have:=h.2;omega)
def Pt:List Tm->Int
 |[]=>0
 |t::l=>if t.err≠0 then t.err else Pt l
def Yf5(f:Tm)(l:List Tm):Nat:=f.size+(l.map fun x=>1+x.size).sum
def Yhf(f:Tm)(l:List Tm):Int:=if f.err≠0 then f.err else if Pt l≠0 then Pt l else if Yf5 f l>4096 then 4 else 0
def Om(f:Tm)(l:List Tm):Tm:=if Yhf f l=0 then LR f l else va
mutual
def CM:Ty->Tm
 | .mk k l=>if k=2 then nT 7 [] else if k=5 then nT 13 [] else if k=3 then nT 10 (LH l) else if k=4 then BB (Bj l 0) ((LH l).getD 1 va) else nT 4 []
def LH:List Ty->List Tm
 |[]=>[]
 |t::l=>CM t::LH l
end
theorem Ycs(a b:Ty):CM (uu a b)=nT 10 [CM a,CM b]:=by simp[uu,CM,LH]
theorem Yb7(a b:Ty):CM (yo a b)=BB a (CM b):=by simp[yo,CM,LH,Bj]
theorem Zuu(t:Ty):t.shape=true->t.size<=64->(∀g,(CM t).inf g=(t,0))/\(CM t).shape=true/\(CM t).size<=t.size/\(CM t).full<=66*t.size:=by
 induction t using Ty.ind with
 |h t ih=>
  intro hs h64;rcases TY hs with rfl|rfl|rfl|⟨a,b,ha,hb,rfl|rfl⟩
  ·exact ⟨fun g=>Oo g,by decide,by decide,by decide⟩
  ·exact ⟨fun g=>by simp[CM,Ah,nT,Tm.inf,Tm.Ay,yk],by decide,by decide,by decide⟩
  ·exact ⟨fun g=>by simp[CM,Gg,nT,Tm.inf,Tm.Ay,yk],by decide,by decide,by decide⟩
  ·rw[HW] at h64 ⊢;rw[Ycs];obtain⟨a1,a2,a3,a4⟩:=ih a (by simp) ha (by omega);obtain⟨b1,b2,b3,b4⟩:=ih b (by simp) hb (by omega);refine⟨fun g=>NM (a1 g) (b1 g) ((Ty.Ad _).2 ⟨Od ha hb,by rw[HW];omega⟩),wd rfl rfl a2 b2,?_,?_⟩
   ·simp only[nT,Tm.size,Tm.sizes];omega
   ·simp only[nT,Tm.full,Tm.Ap,Ty.size,Ty.sizes];omega
  ·rw[vb] at h64 ⊢;rw[Yb7];obtain⟨b1,b2,b3,b4⟩:=ih b (by simp) hb (by omega);have hp:=a.size_pos;refine⟨fun g=>xx (b1 _) ((Ty.Ad _).2 ⟨un ha hb,by rw[vb];omega⟩),HV (LQ ha (by omega)) b2,?_,?_⟩
   ·simp only[BB,Tm.size,Tm.sizes];omega
   ·simp only[BB,Tm.full,Tm.Ap];omega
@[simp] theorem Fm.Am(k:Int)(h:Ty)(ts:List Tm)(as:List Fm):(Fm.mk k h ts as).kind=k:=rfl
@[simp] theorem Fm.AD(k:Int)(h:Ty)(ts:List Tm)(as:List Fm):(Fm.mk k h ts as).ty=h:=rfl
@[simp] theorem Fm.Ar(k:Int)(h:Ty)(ts:List Tm)(as:List Fm):(Fm.mk k h ts as).terms=ts:=rfl
@[simp] theorem Fm.Ae(k:Int)(h:Ty)(ts:List Tm)(as:List Fm):(Fm.mk k h ts as).args=as:=rfl
def y7(k:Int):Bool:=decide (4<=k)&&decide (k<=7)
def Fm.head(f:Fm):Bool:=
 if f.kind=1 then f.ty.Bw&&f.terms.length==2&&f.args.length==0
 else if f.kind=2\/f.kind=3 then f.ty.Bw&&f.terms.length==0&&f.args.length==2
 else if f.kind=4\/f.kind=5\/f.kind=6\/f.kind=7 then f.ty.ok&&f.terms.length==0&&f.args.length==1 else false
mutual
def Fm.shape:Fm->Bool
 | .mk k h ts as=>Fm.head (.mk k h ts as)&&ts.all Tm.shape&&Fm.A5 as
def Fm.A5:List Fm->Bool
 |[]=>true
 |f::l=>f.shape&&Fm.A5 l
end
mutual
def Fm.size:Fm->Nat
 | .mk _ _ ts as=>1+(ts.map Tm.size).sum+Fm.sizes as
def Fm.sizes:List Fm->Nat
 |[]=>0
 |f::l=>f.size+Fm.sizes l
end
mutual
def Fm.full:Fm->Nat
 | .mk _ h ts as=>1+h.size+(ts.map Tm.full).sum+Fm.Ap as
def Fm.Ap:List Fm->Nat
 |[]=>0
 |f::l=>f.full+Fm.Ap l
end
theorem Fm.Bh:∀l:List Fm,Fm.A5 l=l.all Fm.shape
 |[]=>rfl
 |f::l=>by rw[Fm.A5,Fm.Bh l];rfl
theorem Fm.Bq:∀l:List Fm,Fm.sizes l=(l.map Fm.size).sum
 |[]=>rfl
 |f::l=>by rw[Fm.sizes,Fm.Bq l];rfl
theorem Fm.BH:∀l:List Fm,Fm.Ap l=(l.map Fm.full).sum
 |[]=>rfl
 |f::l=>by rw[Fm.Ap,Fm.BH l];rfl
theorem Fm.Ag(f:Fm):f.shape=(f.head&&f.terms.all Tm.shape&&f.args.all Fm.shape):=by cases f;simp only[Fm.shape,Fm.Bh];rfl
theorem Fm.size_eq(f:Fm):f.size=1+(f.terms.map Tm.size).sum+(f.args.map Fm.size).sum:=by cases f;simp only[Fm.size,Fm.Bq];rfl
theorem Fm.Af(f:Fm):f.full=1+f.ty.size+(f.terms.map Tm.full).sum+(f.args.map Fm.full).sum:=by cases f;simp only[Fm.full,Fm.BH];rfl
theorem Fm.Ac(f:Fm):1<=f.full:=by rw[Fm.Af];omega
theorem Fm.size_pos(f:Fm):1<=f.size:=by rw[Fm.size_eq];omega
theorem Fm.ind{P:Fm->Prop}(h:∀f,(∀x∈f.args,P x)->P f)(f:Fm):P f:=by
 have:∀n,∀f:Fm,f.full<=n->P f:=by
  intro n;induction n with
  |zero=>intro f h;have:=f.Ac;omega
  |succ n ih=>
   intro f hf;refine h f fun x hx=>ih x ?_;have:=ze Fm.full hx;have:=f.Af;omega
 exact this _ f (Nat.le_refl _)
theorem Fm.Aj(f:Fm):f.size<=f.full:=by
 induction f using Fm.ind with
 |h f ih=>
  rw[f.size_eq,f.Af];have h1:=xr (f:=Fm.size) (g:=Fm.full) f.args ih;have h2:=xr (f:=Tm.size) (g:=Tm.full) f.terms fun x _=>x.Aj;omega
def Fm.nodes(f:Fm):Nat:=if f.shape then f.size else 0
def Fm.err(f:Fm):Int:=if f.shape=false then 2 else if f.size>4096 then 4 else 0
def Fm.num(f:Fm):Int:=if f.err=0 then f.size else 0
def Az:Fm:= .mk 0 (.mk 0 []) [] []
def AM(a b:Tm):Fm:= .mk 1 (.mk 0 []) [a,b] []
theorem Jd{a b:Tm}(ha:a.shape=true)(hb:b.shape=true):(AM a b).shape=true:=by
 rw[Fm.Ag];simp[AM,Fm.head,ha,hb,Ty.Bw]
theorem Iy(a b:Tm):(AM a b).size=1+(a.size+b.size):=by rw[Fm.size_eq];simp[AM]
theorem Fm.Ad(f:Fm):f.err=0↔f.shape=true/\f.size<=4096:=by
 unfold Fm.err;cases hs:f.shape with
 |false=>simp
 |true=>
  by_cases h:f.size>4096
  ·rw[if_neg (by simp),if_pos h];constructor
   ·intro h;cases h
   ·rintro ⟨_,h2⟩;omega
  ·rw[if_neg (by simp),if_neg h];exact⟨fun _=>⟨rfl,by omega⟩,fun _=>rfl⟩
def Tm.arg(t:Tm)(i:Nat):Tm:=t.args.getD i va
mutual
def yq(at_:Int):Tm->Nat
 | .mk k i h xs=>if k=1/\i=at_ then 1 else M4 (up k at_) xs
def M4(at_:Int):List Tm->Nat
 |[]=>0
 |x::l=>yq at_ x+M4 at_ l
end
theorem Zip(at_:Int):∀l:List Tm,M4 at_ l=(l.map (yq at_)).sum
 |[]=>rfl
 |x::l=>by rw[M4,Zip at_ l];rfl
theorem N0(at_:Int)(t:Tm):yq at_ t=if t.kind=1/\t.index=at_ then 1 else(t.args.map (yq (up t.kind at_))).sum:=by
 cases t;simp only[yq,Zip,Tm.Am,Tm.AV,Tm.Ae];rfl
theorem LC(t:Tm):∀at_,yq at_ t<=t.size:=by
 induction t using Tm.ind with
 |h t ih=>
  intro at_;rw[N0,t.size_eq];split
  ·omega
  ·have:=xr (f:=yq (up t.kind at_)) (g:=Tm.size) t.args fun x hx=>ih x hx _;omega
theorem Nv(t:Tm):∀at_ b:Int,t.shape=true->yq (at_+b) t=cnt at_ (t.vars b):=by
 induction t using Tm.ind with
 |h t ih=>
  intro at_ b hs;rw[N0];by_cases h1:t.kind=1
  ·rw[w8 hs h1,ua,uh hs h1];by_cases h:t.index=at_+b
   ·rw[if_pos ⟨h1,h⟩,if_pos (by show t.index-b=at_;omega)]
   ·rw[if_neg (fun hh=>h hh.2),if_neg (by show ¬t.index-b=at_;omega)];rfl
  ·rw[if_neg (fun hh=>h1 hh.1)];have hargs:=zg hs;obtain⟨k,i,th,xs⟩:=t;rw[Zyt at_ b k i th xs h1];have e:up k (at_+b)=at_+up k b:=by unfold up;split<;>omega
   simp only[Tm.Am,Tm.Ae] at*;rw[e];congr 1;exact List.map_congr_left fun x hx=>ih x hx at_ (up k b) (hargs x hx)
def IB(t:Tm):Bool:=
 if t.kind=3 then(t.arg 0).kind==2&&((t.arg 1).args.length==0||decide (yq 0 ((t.arg 0).arg 0)<=1))
 else if t.kind=6 then(t.arg 2).kind==4
 else if t.kind=9 then(t.arg 2).kind==7
 else if t.kind=11\/t.kind=12 then(t.arg 0).kind==10 else false
def H7(t:Tm):Tm:=
 if t.kind=3 then((t.arg 0).arg 0).re (xm 0 (t.arg 1)) 0
 else if t.kind=11 then(t.arg 0).arg 0 else if t.kind=12 then(t.arg 0).arg 1 else t.arg 0
mutual
def EH:Tm->Option Tm
 | .mk k i h xs=>if IB (.mk k i h xs)=true then some (H7 (.mk k i h xs)) else(It xs).map (Tm.mk k i h)
def It:List Tm->Option (List Tm)
 |[]=>none
 |x::l=>match EH x with
  |some u=>some (u::l)
  |none=>(It l).map (x::·)
end
theorem Ur(t:Tm):EH t=if IB t=true then some (H7 t) else(It t.args).map (Tm.mk t.kind t.index t.ty):=by
 cases t;simp only[EH];rfl
theorem Vu:∀(xs ys:List Tm),It xs=some ys->∃(i:Nat) (hi:i<xs.length) (u:Tm),EH xs[i]=some u/\ys=xs.set i u/\∀(j:Nat) (hj:j<xs.length),j<i->EH xs[j]=none
 |[],ys,h=>by simp[It] at h
 |x::l,ys,h=>by
  simp only[It] at h;cases hx:EH x with
  |some u=>
   rw[hx] at h;cases h;exact⟨0,by simp,u,hx,rfl,fun j _ hj=>by omega⟩
  |none=>
   rw[hx] at h;simp only[Option.map_eq_some_iff] at h;obtain⟨zs,h1,rfl⟩:=h;obtain⟨i,hi,u,h2,rfl,h3⟩:=Vu l zs h1;refine⟨i+1,by simpa using hi,u,by simpa using h2,rfl,fun j hj hji=> ?_⟩;cases j with
   |zero=>exact hx
   |succ j=>have:=h3 j (by simpa using hj) (by omega);simpa using this
theorem vp{t:Tm}{g:List Ty}{T:Ty}(h1:t.kind≠1)(h2:t.kind≠2)(h:t.inf g=(T,0)):(∀x∈t.args,(x.inf g).2=0)/\yk t.kind t.ty (t.args.map fun x=>(x.inf g).1)=(T,0):=by
 rw[Tm.AJ,if_neg h1,if_neg h2] at h;by_cases h3:(Tm.Ay g t.args).2=0
 ·rw[if_neg (by simpa using h3)] at h;have h4:=Tm.Cg g t.args h3;refine⟨h4,?_⟩;rw[Tm.DN g t.args h4] at h;exact h
 ·rw[if_pos h3] at h;exact absurd (congrArg Prod.snd h) h3
theorem N5{i:Int}{th T:Ty}{b:Tm}{g:List Ty}(h:(Tm.mk 2 i th [b]).inf g=(T,0)):(b.inf (g++[th])).2=0/\T=yo th (b.inf (g++[th])).1:=by
 rw[Tm.AJ,if_neg (by simp),if_pos (by simp)] at h;simp only[Tm.Ae,Tm.AD] at h;by_cases h3:(b.inf (g++[th])).2=0
 ·refine ⟨h3,?_⟩;simp only[Tm.Ay,h3,ne_eq,not_true_eq_false,if_false] at h;unfold A9 at h;split at h
  ·exact (congrArg Prod.fst h).symm
  ·exact absurd (congrArg Prod.snd h) (by simp)
 ·simp only[Tm.Ay,h3,ne_eq,not_false_eq_true,if_true] at h;exact absurd (congrArg Prod.snd h) h3
theorem Ycp{a b T:Ty}(h:A9 (uu a b)=(T,0)):T=uu a b:=by
 unfold A9 at h;split at h
 ·exact (congrArg Prod.fst h).symm
 ·exact absurd (congrArg Prod.snd h) (by simp)
theorem Q1{i:Int}{th T:Ty}{x y:Tm}{g:List Ty}(h:(Tm.mk 10 i th [x,y]).inf g=(T,0)):(x.inf g).2=0/\(y.inf g).2=0/\T=uu (x.inf g).1 (y.inf g).1:=by
 obtain⟨h1,h2⟩:=vp (by simp) (by simp) h;exact⟨h1 x (by simp),h1 y (by simp),Ycp (by simpa[yk,Bj] using h2)⟩
theorem IP{t:Tm}(hs:t.shape=true){k:Int}(hk:t.kind=k)(ha:Cq k=some 2):∃i th x y,t= .mk k i th [x,y]/\x.shape=true/\y.shape=true:=by
 have h:=F3 hs;have h2:=zg hs;obtain⟨k',i,th,xs⟩:=t;simp only[Tm.Am,Tm.Ae] at*;subst hk;rw[ha] at h;obtain⟨x,y,rfl⟩:=IA (Option.some.inj h).symm;exact⟨i,th,x,y,rfl,h2 x (by simp),h2 y (by simp)⟩
theorem GA{t:Tm}(hs:t.shape=true){k:Int}(hk:t.kind=k)(ha:Cq k=some 1):∃i th x,t= .mk k i th [x]/\x.shape=true:=by
 have h:=F3 hs;have h2:=zg hs;obtain⟨k',i,th,xs⟩:=t;simp only[Tm.Am,Tm.Ae] at*;subst hk;rw[ha] at h;obtain⟨x,rfl⟩:=Ih (Option.some.inj h).symm;exact⟨i,th,x,rfl,h2 x (by simp)⟩
theorem Kj{t:Tm}(hs:t.shape=true){k:Int}(hk:t.kind=k)(ha:Cq k=some 3):∃i th x y z,t= .mk k i th [x,y,z]/\x.shape=true/\y.shape=true/\z.shape=true:=by
 have h:=F3 hs;have h2:=zg hs;obtain⟨k',i,th,xs⟩:=t;simp only[Tm.Am,Tm.Ae] at*;subst hk;rw[ha] at h;obtain⟨x,y,z,rfl⟩:=ND (Option.some.inj h).symm;exact⟨i,th,x,y,z,rfl,h2 x (by simp),h2 y (by simp),h2 z (by simp)⟩
theorem Zlc{t:Tm}(hs:t.shape=true)(h:IB t=true):
 (∃i th j s b a,t= .mk 3 i th [.mk 2 j s [b],a]/\b.shape=true/\a.shape=true/\(a.args.length=0\/yq 0 b<=1)/\H7 t=b.re (xm 0 a) 0)\/
 (∃k i th x y z,(k=6\/k=9)/\t= .mk k i th [x,y,z]/\x.shape=true/\H7 t=x)\/
 (∃k i th j s x y,(k=11\/k=12)/\t= .mk k i th [.mk 10 j s [x,y]]/\x.shape=true/\y.shape=true/\H7 t=if k=11 then x else y):=by
 unfold IB at h;by_cases h3:t.kind=3
 ·left;rw[if_pos h3] at h;obtain⟨i,th,f,a,rfl,hf,ha⟩:=IP hs h3 rfl;simp only[Tm.arg,Tm.Ae,List.getD_cons_zero,List.getD_cons_succ,Bool.and_eq_true,beq_iff_eq,Bool.or_eq_true,decide_eq_true_eq] at h;obtain⟨j,s,b,rfl,hb⟩:=GA hf h.1 rfl;exact⟨i,th,j,s,b,a,rfl,hb,ha,by simpa[Tm.arg] using h.2,rfl⟩
 ·rw[if_neg h3] at h;by_cases h6:t.kind=6
  ·obtain ⟨i,th,x,y,z,rfl,hx,_,_⟩:=Kj hs h6 rfl;exact .inr (.inl ⟨6,i,th,x,y,z,.inl rfl,rfl,hx,rfl⟩)
  ·rw[if_neg h6] at h;by_cases h9:t.kind=9
   ·obtain ⟨i,th,x,y,z,rfl,hx,_,_⟩:=Kj hs h9 rfl;exact .inr (.inl ⟨9,i,th,x,y,z,.inr rfl,rfl,hx,rfl⟩)
   ·rw[if_neg h9] at h;by_cases h11:t.kind=11\/t.kind=12
    ·rw[if_pos h11] at h;have ha:Cq t.kind=some 1:=by rcases h11 with h|h<;>rw[h]<;>rfl
     obtain⟨i,th,p,rfl',hp⟩:=GA hs rfl ha;rw[rfl'] at h;simp only[Tm.arg,Tm.Ae,List.getD_cons_zero,beq_iff_eq] at h;obtain⟨j,s,x,y,rfl,hx,hy⟩:=IP hp h rfl;refine .inr (.inr ⟨t.kind,i,th,j,s,x,y,h11,rfl',hx,hy,?_⟩);rcases h11 with hk|hk<;>rw[rfl',hk]<;>rfl
    ·rw[if_neg h11] at h;cases h
theorem Zu0{t:Tm}{g:List Ty}{T:Ty}(hs:t.shape=true)(h:t.inf g=(T,0))(hsm:IB t=true):(H7 t).inf g=(T,0)/\(H7 t).shape=true/\(H7 t).size<t.size:=by
 rcases Zlc hs hsm with⟨i,th,j,s,b,a,rfl,hb,ha,hor,e⟩|⟨k,i,th,x,y,z,hk,rfl,hx,e⟩|⟨k,i,th,j,s,x,y,hk,rfl,hx,hy,e⟩
 ·rw[e];obtain⟨h1,h2⟩:=vp (by simp) (by simp) h;have hf:(Tm.mk 2 j s [b]).inf g=(((Tm.mk 2 j s [b]).inf g).1,0):=by rw[<-h1 (.mk 2 j s [b]) (by simp)]
  obtain⟨h3,h4⟩:=N5 hf;have ha0:=h1 a (by simp);simp only[Tm.Am,Tm.AD,Tm.Ae,List.map_cons,List.map_nil,h4] at h2;have h5:s=(a.inf g).1/\(b.inf (g++[s])).1=T:=by
   simp only[yk,Bj,List.getD_cons_zero,List.getD_cons_succ,U8,Wt] at h2;by_cases h6:s=(a.inf g).1
   ·refine ⟨h6,?_⟩;simp[h6] at h2;rw[h6];exact h2
   ·simp[h6] at h2
  have hσ:a.inf g=(s,0):=by rw[h5.1,<-ha0]
  have hp:=RC b a g [] s 0 0 hb ha rfl hσ;rw[List.append_nil,List.append_nil] at hp;refine⟨by rw[hp,<-h5.2,<-h3],Nj 0 ha hb (by omega) (by omega) (fun p hp=>vu b 0 p hp),?_⟩;rw[MY 0 a b ha 0 hb];have hc:=Nv b 0 0 hb;rw[show(0:Int)+0=0 from rfl] at hc;have hsz:(Tm.mk 3 i th [Tm.mk 2 j s [b],a]).size=2+b.size+a.size:=by simp only[Tm.size,Tm.sizes];omega
  rw[hsz,<-hc];have hap:=a.size_pos;rcases hor with h0|h0
  ·have:a.size=1:=by rw[a.size_eq,List.eq_nil_of_length_eq_zero h0];rfl
   rw[this];omega
  ·have:yq 0 b*(a.size-1)<=1*(a.size-1):=Nat.mul_le_mul_right _ h0;omega
 ·rw[e];have hne:(Tm.mk k i th [x,y,z]).kind≠1/\(Tm.mk k i th [x,y,z]).kind≠2:=by rcases hk with rfl|rfl<;>exact⟨by simp,by simp⟩
  obtain⟨h1,h2⟩:=vp hne.1 hne.2 h;have hx0:=h1 x (by simp);refine⟨?_,hx,by simp only[Tm.size,Tm.sizes];omega⟩;have h3:(x.inf g).1=th/\th=T:=by
   simp only[Tm.Am,Tm.AD,Tm.Ae,List.map_cons,List.map_nil] at h2;rcases hk with rfl|rfl
   ·simp only[yk,Bj,List.getD_cons_zero,List.getD_cons_succ] at h2;by_cases h6:(x.inf g).1=th
    ·refine ⟨h6,?_⟩;simp[h6] at h2;split at h2
     ·simp at h2
     ·simpa using h2
    ·simp[h6] at h2
   ·simp only[yk,Bj,List.getD_cons_zero,List.getD_cons_succ] at h2;by_cases h6:(x.inf g).1=th
    ·refine ⟨h6,?_⟩;simp[h6] at h2;split at h2
     ·simp at h2
     ·simpa using h2
    ·simp[h6] at h2
  rw[<-h3.2,<-h3.1,<-hx0]
 ·rw[e];have hne:(Tm.mk k i th [Tm.mk 10 j s [x,y]]).kind≠1/\(Tm.mk k i th [Tm.mk 10 j s [x,y]]).kind≠2:=by rcases hk with rfl|rfl<;>exact⟨by simp,by simp⟩
  obtain⟨h1,h2⟩:=vp hne.1 hne.2 h;have hf:(Tm.mk 10 j s [x,y]).inf g=(((Tm.mk 10 j s [x,y]).inf g).1,0):=by rw[<-h1 (.mk 10 j s [x,y]) (by simp)]
  obtain⟨h3,h4,h5⟩:=Q1 hf;simp only[Tm.Am,Tm.AD,Tm.Ae,List.map_cons,List.map_nil,h5] at h2;rcases hk with rfl|rfl
  ·rw[if_pos rfl];refine⟨?_,hx,by simp only[Tm.size,Tm.sizes];omega⟩;simp[yk,Bj] at h2;rw[<-h2,<-h3]
  ·rw[if_neg (by decide)];refine⟨?_,hy,by simp only[Tm.size,Tm.sizes];omega⟩;simp[yk,Bj] at h2;rw[<-h2,<-h4]
theorem Qn{α:Type}(f:α->Nat)(u:α):∀(xs:List α) (i:Nat) (hi:i<xs.length),((xs.set i u).map f).sum+f xs[i]=(xs.map f).sum+f u
 |[],i,hi=>by simp at hi
 |x::l,0,_=>by simp only[List.set_cons_zero,List.map_cons,List.sum_cons,List.getElem_cons_zero];omega
 |x::l,i+1,hi=>by
  have:=Qn f u l i (by simpa using hi);simp only[List.set_cons_succ,List.map_cons,List.sum_cons,List.getElem_cons_succ];omega
theorem MR(g:List Ty)(u:Tm):∀(xs:List Tm) (i:Nat) (hi:i<xs.length),u.inf g=xs[i].inf g->Tm.Ay g (xs.set i u)=Tm.Ay g xs
 |[],i,hi,_=>by simp at hi
 |x::l,0,_,h=>by
  simp only[List.getElem_cons_zero] at h;simp only[List.set_cons_zero,Tm.Ay,h]
 |x::l,i+1,hi,h=>by
  simp only[List.set_cons_succ,Tm.Ay];rw[MR g u l i (by simpa using hi) (by simpa using h)]
theorem Tx(i:Int)(th:Ty)(xs:List Tm)(g:List Ty):(Tm.mk 2 i th xs).inf g=if(Tm.Ay (g++[th]) xs).2≠0 then(AY,(Tm.Ay (g++[th]) xs).2) else A9 (yo th (Bj (Tm.Ay (g++[th]) xs).1 0)):=by
 rw[Tm.inf];rw[if_neg (by decide),if_pos rfl]
theorem Sb{i:Int}{th:Ty}{v b:Tm}{g:List Ty}(hv:v.inf (g++[th])=b.inf (g++[th])):(Tm.mk 2 i th [v]).inf g=(Tm.mk 2 i th [b]).inf g:=by
 have e:Tm.Ay (g++[th]) [v]=Tm.Ay (g++[th]) [b]:=MR (g++[th]) v [b] 0 (by simp) hv;rw[Tx,Tx,e]
theorem PN{k i:Int}{th:Ty}{xs:List Tm}{m:Nat}{u:Tm}(h:(Tm.mk k i th xs).shape=true)(hu:u.shape=true):(Tm.mk k i th (xs.set m u)).shape=true:=by
 have hargs:=zg h;rw[Tm.Ag] at h ⊢;simp only[Bool.and_eq_true] at h ⊢;refine⟨?_,?_⟩
 ·have e:(Tm.mk k i th (xs.set m u)).head=(Tm.mk k i th xs).head:=by simp only[Tm.head,Tm.Am,Tm.Ae,Tm.AV,Tm.AD];cases Cq k<;>simp<;>rfl
  rw[e];exact h.1
 ·refine List.all_eq_true.2 fun x hx=> ?_;rcases List.mem_or_eq_of_mem_set hx with hx|rfl
  ·exact hargs x hx
  ·exact hu
theorem AA(t:Tm):∀(g:List Ty) (T:Ty) (u:Tm),t.shape=true->t.inf g=(T,0)->EH t=some u->u.inf g=(T,0)/\u.shape=true/\u.size<t.size:=by
 induction t using Tm.ind with
 |h t ih=>
  intro g T u hs h hn;rw[Ur] at hn;by_cases hsm:IB t=true
  ·rw[if_pos hsm] at hn;cases hn;exact Zu0 hs h hsm
  ·rw[if_neg hsm,Option.map_eq_some_iff] at hn;obtain⟨ys,h1,rfl⟩:=hn;obtain⟨m,hm,v,h2,rfl,_⟩:=Vu _ _ h1;have hargs:=zg hs;have hx:=hargs _ (List.getElem_mem hm);have hmem:=List.getElem_mem hm;have hss:=fun(hv:v.size<(t.args[m]).size)=>Qn Tm.size v t.args m hm;by_cases k1:t.kind=1
   ·exact absurd (uh hs k1) (fun hh=>by rw[hh] at hm;simp at hm)
   ·have key:∀g' T',(t.args[m]).inf g'=(T',0)->v.inf g'=(T',0)/\v.shape=true/\v.size<(t.args[m]).size:=fun g' T' hi=>ih _ hmem g' T' v hx hi h2;by_cases k2:t.kind=2
    ·obtain ⟨i,th,b,rfl,hb⟩:=GA hs k2 rfl;obtain⟨h3,h4⟩:=N5 h;have hm0:m=0:=by simp at hm;omega
     subst hm0;simp only[Tm.Ae,List.getElem_cons_zero] at*;obtain⟨q1,q2,q3⟩:=key (g++[th]) (b.inf (g++[th])).1 (by rw[<-h3]);refine⟨?_,PN (m:=0) (xs:=[b]) hs q2,?_⟩
     ·have:v.inf (g++[th])=b.inf (g++[th]):=by rw[q1,<-h3]
      rw[<-h];simp only[List.set_cons_zero,Tm.Am,Tm.AD,Tm.AV];exact Sb this
     ·simp only[List.set_cons_zero,Tm.size,Tm.sizes];omega
    ·obtain ⟨h3,h4⟩:=vp k1 k2 h;have h5:=h3 _ hmem;obtain⟨q1,q2,q3⟩:=key g (t.args[m].inf g).1 (by rw[<-h5]);have hset:=hss q3;have hi:v.inf g=(t.args[m]).inf g:=by rw[q1,<-h5]
     refine⟨?_,?_,?_⟩
     ·rw[<-h,Tm.AJ g (Tm.mk t.kind t.index t.ty (t.args.set m v)),if_neg (show ¬(Tm.mk t.kind t.index t.ty (t.args.set m v)).kind=1 from k1),if_neg (show ¬(Tm.mk t.kind t.index t.ty (t.args.set m v)).kind=2 from k2),t.AJ,if_neg k1,if_neg k2];show(if(Tm.Ay g (t.args.set m v)).2≠0 then(AY,(Tm.Ay g (t.args.set m v)).2) else yk t.kind t.ty (Tm.Ay g (t.args.set m v)).1)=_;rw[MR g v t.args m hm hi]
     ·obtain ⟨k,i,th,xs⟩:=t;exact PN hs q2
     ·rw[t.size_eq,Tm.size_eq];simp only[Tm.Ae];omega
theorem yt(t:Tm):t.shape=true->t.full<=65*t.size:=by
 induction t using Tm.ind with
 |h t ih=>
  intro hs;have hargs:=zg hs;have hty:t.ty.size<=64:=by
   rw[Tm.Ag,Bool.and_eq_true] at hs;have:=hs.1;simp only[Tm.head,Bool.and_eq_true] at this;have h2:=this.2;cases hk:xz t.kind with
   |true=>rw[hk] at h2;simp only[cond_true,Ty.ok,Bool.and_eq_true,decide_eq_true_eq] at h2;exact h2.2
   |false=>
    rw[hk] at h2;simp only[cond_false,Ty.Bw,Bool.and_eq_true,beq_iff_eq] at h2;rw[t.ty.size_eq,List.eq_nil_of_length_eq_zero h2.2];exact Nat.le_trans (Nat.le_of_eq rfl) (by decide)
  have hsum:=xr (f:=Tm.full) (g:=fun x=>65*x.size) t.args fun x hx=>ih x hx (hargs x hx);have hmul:∀l:List Tm,(l.map fun x=>65*x.size).sum=65*(l.map Tm.size).sum:=by
   intro l;induction l with
   |nil=>rfl
   |cons x l ih=>simp only[List.map_cons,List.sum_cons,ih];omega
  rw[hmul] at hsum;rw[t.Af,t.size_eq];omega
inductive F4:Tm->Tm->Nat->Prop
 |done {t:Tm} (h:EH t=none):F4 t t 0
 |step {t u v:Tm} {n:Nat} (h:EH t=some u) (hr:F4 u v n):F4 t v (n+1)
theorem OG(a b:Tm):EH (nT 10 [a,b])=match EH a with|some u=>some (nT 10 [u,b])|none=>(EH b).map fun v=>nT 10 [a,v]:=by
 rw[Ur,if_neg (by simp[IB,nT])];simp only[nT,Tm.Ae,Tm.Am,Tm.AV,Tm.AD,It];cases EH a with
 |some u=>rfl
 |none=>
  cases EH b with
  |some v=>rfl
  |none=>rfl
theorem F4.right{a:Tm}(ha:EH a=none){b y:Tm}{m:Nat}(h:F4 b y m):F4 (nT 10 [a,b]) (nT 10 [a,y]) m:=by
 induction h with
 |done h=>exact .done (by rw[OG,ha,h];rfl)
 |step h _ ih=>exact .step (by rw[OG,ha,h];rfl) ih
theorem F4.pair{a x b y:Tm}{n m:Nat}(h:F4 a x n)(hb:F4 b y m):F4 (nT 10 [a,b]) (nT 10 [x,y]) (n+m):=by
 induction h with
 |done h=>rw[Nat.zero_add];exact F4.right h hb
 |step h _ ih=>rw[Nat.add_right_comm];exact .step (by rw[OG,h]) ih
mutual
def Oh:Tm->Bool
 | .mk _ i _ xs=>decide (i>536870912)||R1 xs
def R1:List Tm->Bool
 |[]=>false
 |x::l=>Oh x||R1 l
end
def Dk.plain(d:Dk):Ty×Dk:=
 (if(d.next 6).1=0\/(d.next 6).1=1 then Aa else if(d.next 6).1=2 then Ah else if(d.next 6).1=3 then Gg else if(d.next 6).1=4 then uu Aa Ah else uu Aa Aa,(d.next 6).2)
def vy(k:Int)(a b:Fm):Fm:= .mk k (.mk 0 []) [] [a,b]
def Be(k:Int)(s:Ty)(f:Fm):Fm:= .mk k s [] [f]
def Dk.Jj(d:Dk)(g:List Ty):Fm×Dk:=(AM (Dk.tm 3 d g Aa).1 (Dk.tm 3 (Dk.tm 3 d g Aa).2 g Aa).1,(Dk.tm 3 (Dk.tm 3 d g Aa).2 g Aa).2)
def Dk.fm:Nat->Dk->List Ty->Fm×Dk
 |0,d,g=>d.Jj g
 |n+1,d,g=>
  if(d.next 9).1=0 then(vy 2 (Dk.fm n (d.next 9).2 g).1 (Dk.fm n (Dk.fm n (d.next 9).2 g).2 g).1,(Dk.fm n (Dk.fm n (d.next 9).2 g).2 g).2)
  else if(d.next 9).1=1\/(d.next 9).1=2 then(vy 3 (Dk.fm n (d.next 9).2 g).1 (Dk.fm n (Dk.fm n (d.next 9).2 g).2 g).1,(Dk.fm n (Dk.fm n (d.next 9).2 g).2 g).2)
  else if(d.next 9).1=3\/(d.next 9).1=4 then(Be 4 ((d.next 9).2.type 1).1 (Dk.fm n ((d.next 9).2.type 1).2 (g++[((d.next 9).2.type 1).1])).1,(Dk.fm n ((d.next 9).2.type 1).2 (g++[((d.next 9).2.type 1).1])).2)
  else if(d.next 9).1=5 then(Be 5 ((d.next 9).2.type 1).1 (Dk.fm n ((d.next 9).2.type 1).2 (g++[((d.next 9).2.type 1).1])).1,(Dk.fm n ((d.next 9).2.type 1).2 (g++[((d.next 9).2.type 1).1])).2)
  else if(d.next 9).1=6 then(Be (6+(((d.next 9).2.type 0).2.next 2).1) ((d.next 9).2.type 0).1 (Dk.fm n (((d.next 9).2.type 0).2.next 2).2 (g++[((d.next 9).2.type 0).1])).1,(Dk.fm n (((d.next 9).2.type 0).2.next 2).2 (g++[((d.next 9).2.type 0).1])).2)
  else(d.next 9).2.Jj g
theorem Dk.Gn{d:Dk}{g:List Ty}(h:d.ok):(d.Jj g).2.ok:=Dk.B3 3 _ g Aa (Dk.B3 3 d g Aa h)
theorem Dk.DC:∀(n:Nat) (d:Dk) (g:List Ty),d.ok->(Dk.fm n d g).2.ok:=by
 intro n;induction n with
 |zero=>exact fun d g h=>Dk.Gn h
 |succ n ih=>
  intro d g h;have h9:=Dk.AA h 9;simp only[Dk.fm];repeat' split
  ·exact ih _ _ (ih _ _ h9)
  ·exact ih _ _ (ih _ _ h9)
  ·exact ih _ _ (Dk.Bd 1 _ h9)
  ·exact ih _ _ (Dk.Bd 1 _ h9)
  ·exact ih _ _ (Dk.AA (Dk.Bd 0 _ h9) 2)
  ·exact Dk.Gn h9
theorem KG:s1 3<=60:=by decide
def C4(n:Nat)(f:Fm):Prop:=f.shape=true/\f.size+1<=122*2^n/\f.full+10<=1200*2^n
theorem Dk.Ee(d:Dk){g:List Ty}(hg:Ai g):C4 0 (d.Jj g).1:=by
 have m1:=Dk.Cc 3 d g Aa hg zi (by omega) (by omega);have m2:=Dk.Cc 3 (Dk.tm 3 d g Aa).2 g Aa hg zi (by omega) (by omega);have z1:=(m1.size hg zi).2 rfl;have z2:=(m2.size hg zi).2 rfl;have f1:=m1.full hg zi;have f2:=m2.full hg zi;have h3:=KG;refine⟨Jd (m1.shape hg zi) (m2.shape hg zi),?_,?_⟩
 ·show (AM _ _).size+1<=_;rw[Iy];omega
 ·show (AM _ _).full+10<=_;rw[Fm.Af];simp only[AM,Fm.AD,Fm.Ar,Fm.Ae,List.map_cons,List.map_nil,List.sum_cons,List.sum_nil,Ty.size,Ty.sizes];omega
theorem VY{n:Nat}{k:Int}{a b:Fm}(hk:k=2\/k=3)(ha:C4 n a)(hb:C4 n b):C4 (n+1) (vy k a b):=by
 obtain⟨a1,a2,a3⟩:=ha;obtain⟨b1,b2,b3⟩:=hb;refine⟨?_,?_,?_⟩
 ·rw[Fm.Ag];rcases hk with rfl|rfl<;>simp[vy,Fm.head,a1,b1,Ty.Bw]
 ·rw[Fm.size_eq,Nat.pow_succ];simp only[vy,Fm.Ar,Fm.Ae,List.map_cons,List.map_nil,List.sum_cons,List.sum_nil];omega
 ·rw[Fm.Af,Nat.pow_succ];have:1<=2^n:=Nat.one_le_two_pow;simp only[vy,Fm.AD,Fm.Ar,Fm.Ae,List.map_cons,List.map_nil,List.sum_cons,List.sum_nil,Ty.size,Ty.sizes];omega
theorem Rl{n:Nat}{k:Int}{s:Ty}{f:Fm}(hk:4<=k/\k<=7)(hs:s.small)(hf:C4 n f):C4 (n+1) (Be k s f):=by
 obtain⟨a1,a2,a3⟩:=hf;have hz:=hs.2;have:1<=2^n:=Nat.one_le_two_pow;refine⟨?_,?_,?_⟩
 ·rw[Fm.Ag];have h4:k=4\/k=5\/k=6\/k=7:=by omega
  rcases h4 with rfl|rfl|rfl|rfl<;>simp[Be,Fm.head,a1,Zxy hs]
 ·rw[Fm.size_eq,Nat.pow_succ];simp only[Be,Fm.Ar,Fm.Ae,List.map_cons,List.map_nil,List.sum_cons,List.sum_nil];omega
 ·rw[Fm.Af,Nat.pow_succ];simp only[Be,Fm.AD,Fm.Ar,Fm.Ae,List.map_cons,List.map_nil,List.sum_cons,List.sum_nil];omega
theorem C4.up{n:Nat}{f:Fm}(h:C4 0 f):C4 (n+1) f:=by
 obtain⟨a1,a2,a3⟩:=h;have:1<=2^(n+1):=Nat.one_le_two_pow;exact⟨a1,by omega,by omega⟩
theorem Dk.CC:∀(n:Nat) (d:Dk) (g:List Ty),Ai g->C4 n (Dk.fm n d g).1:=by
 intro n;induction n with
 |zero=>exact fun d g hg=>Dk.Ee d hg
 |succ n ih=>
  intro d g hg;have h2:=Dk.Bb (((d.next 9).2.type 0).2) 2 (by omega);have s1:=Dk.type1 (d.next 9).2;have s0:=Dk.type0 (d.next 9).2;have s0':=zy s0.1 s0.2;simp only[Dk.fm];repeat' split
  ·exact VY (.inl rfl) (ih _ _ hg) (ih _ _ hg)
  ·exact VY (.inr rfl) (ih _ _ hg) (ih _ _ hg)
  ·exact Rl ⟨by omega,by omega⟩ s1 (ih _ _ (zp hg (zj s1 zo)))
  ·exact Rl ⟨by omega,by omega⟩ s1 (ih _ _ (zp hg (zj s1 zo)))
  ·exact Rl ⟨by omega,by omega⟩ s0' (ih _ _ (zp hg (zj s0' zo)))
  ·exact (Dk.Ee _ hg).up
def DU(qs:List (Int×Ty))(f:Fm):Fm:=qs.foldr (fun q f=>Be q.1 q.2 f) f
def B9(ps:List Fm)(c:Fm):Fm:=ps.foldr (vy 3) c
theorem Yeb(f:Fm):f.shape=true->∃ps c,f=B9 ps c/\c.kind≠3/\c.shape=true/\∀p∈ps,p.shape=true:=by
 induction f using Fm.ind with
 |h f ih=>
  intro hs;by_cases hk:f.kind=3
  ·have hsh:=hs;rw[Fm.Ag] at hsh;simp only[Bool.and_eq_true] at hsh;obtain⟨⟨h1,h2⟩,h3⟩:=hsh;obtain⟨k,h,ts,fs⟩:=f;simp only[Fm.Am,Fm.Ae,Fm.Ar] at*;subst hk;simp only[Fm.head,Fm.Am,Fm.Ae,Fm.Ar,Fm.AD] at h1;simp at h1;obtain⟨⟨q1,q2⟩,q3⟩:=h1;subst q2;obtain⟨a,b,rfl⟩:=IA q3;have e:h= .mk 0 []:=by
    obtain⟨k,l⟩:=h;simp[Ty.Bw] at q1;rw[q1.1,q1.2]
   subst e;have hall:=List.all_eq_true.1 h3;obtain⟨ps,c,rfl,q4,q5,q6⟩:=ih b (by simp) (hall b (by simp));exact⟨a::ps,c,rfl,q4,q5,by simpa using ⟨hall a (by simp),q6⟩⟩
  ·exact ⟨[],f,rfl,hk,hs,by simp⟩
theorem Yd7(f:Fm):f.shape=true->∃qs c,f=DU qs c/\c.kind≠4/\c.kind≠6/\c.shape=true/\∀q∈qs,(q.1=4\/q.1=6)/\q.2.ok=true:=by
 induction f using Fm.ind with
 |h f ih=>
  intro hs;by_cases hk:f.kind=4\/f.kind=6
  ·have hsh:=hs;rw[Fm.Ag] at hsh;simp only[Bool.and_eq_true] at hsh;obtain⟨⟨h1,h2⟩,h3⟩:=hsh;obtain⟨k,h,ts,fs⟩:=f;simp only[Fm.Am,Fm.Ae,Fm.Ar] at*;have h4:h.ok=true/\ts=[]/\fs.length=1:=by
    rcases hk with rfl|rfl
    ·simp[Fm.head] at h1;exact⟨h1.1.1,h1.1.2,h1.2⟩
    ·simp[Fm.head] at h1;exact⟨h1.1.1,h1.1.2,h1.2⟩
   obtain⟨q1,rfl,q3⟩:=h4;obtain⟨a,rfl⟩:=Ih q3;have hall:=List.all_eq_true.1 h3;obtain⟨qs,c,rfl,q4,q5,q6,q7⟩:=ih a (by simp) (hall a (by simp));exact⟨(k,h)::qs,c,rfl,q4,q5,q6,fun q hq=>by
    rcases List.mem_cons.1 hq with rfl|hq
    ·exact ⟨hk,q1⟩
    ·exact q7 q hq⟩
  ·exact ⟨[],f,rfl,fun h=>hk (.inl h),fun h=>hk (.inr h),hs,by simp⟩
theorem LA(ps:List Fm)(c:Fm):(B9 ps c).full=c.full+(ps.map fun p=>2+p.full).sum:=by
 induction ps with
 |nil=>simp[B9]
 |cons p l ih=>
  rw[show B9 (p::l) c=vy 3 p (B9 l c) from rfl,Fm.Af];simp only[vy,Fm.AD,Fm.Ar,Fm.Ae,List.map_cons,List.map_nil,List.sum_cons,List.sum_nil,Ty.size,Ty.sizes,ih];omega
theorem Ry(qs:List (Int×Ty))(b:Fm):(DU qs b).full=b.full+(qs.map fun q=>1+q.2.size).sum:=by
 induction qs with
 |nil=>simp[DU]
 |cons p l ih=>
  rw[show DU (p::l) b=Be p.1 p.2 (DU l b) from rfl,Fm.Af];simp only[Be,Fm.AD,Fm.Ar,Fm.Ae,List.map_cons,List.map_nil,List.sum_cons,List.sum_nil,ih];omega
theorem RL{ps:List Fm}{c:Fm}{m:Nat}(hm:m<ps.length):ps[m].full<=(B9 ps c).full:=by
 rw[LA];have:2+ps[m].full<=(ps.map fun p=>2+p.full).sum:=ze (fun p:Fm=>2+p.full) (List.getElem_mem hm);omega
theorem RM(ps:List Fm)(c:Fm):ps.length<=(B9 ps c).full:=by
 rw[LA];have:=zh (fun p:Fm=>2+p.full) (fun p=>by omega) ps;omega
theorem Uj{qs:List (Int×Ty)}{b:Fm}{m:Nat}(hm:m<qs.length):qs[m].2.size<=(DU qs b).full:=by
 rw[Ry];have:1+qs[m].2.size<=(qs.map fun q=>1+q.2.size).sum:=ze (fun q:Int×Ty=>1+q.2.size) (List.getElem_mem hm);omega
theorem Vo(qs:List (Int×Ty))(b:Fm):qs.length+b.full<=(DU qs b).full:=by
 rw[Ry];have:=zh (fun q:Int×Ty=>1+q.2.size) (fun p=>by omega) qs;omega
theorem V3{ps:List Fm}{c:Fm}{m:Nat}(hm:m<ps.length):B9 (ps.drop m) c= .mk 3 (.mk 0 []) [] [ps[m],B9 (ps.drop (m+1)) c]:=by rw[List.drop_eq_getElem_cons hm];rfl
theorem RO{qs:List (Int×Ty)}{b:Fm}{m:Nat}(hm:m<qs.length):DU (qs.drop m) b= .mk qs[m].1 qs[m].2 [] [DU (qs.drop (m+1)) b]:=by rw[List.drop_eq_getElem_cons hm];rfl
theorem Ty.Dj{t:Ty}(h:t.Bw=true):t= .mk 0 []:=by
 obtain⟨k,as⟩:=t;simp only[Ty.Bw,Ty.kind,Ty.args,Bool.and_eq_true,beq_iff_eq,List.length_eq_zero_iff] at h;rw[h.1,h.2]
def AB(k b:Int):Int:=if y7 k=true then b+1 else b
mutual
def Fm.AU(b:Int):Fm->List (Tm×Int)
 | .mk k _ ts as=>ts.map (fun t=>(t,b))++Fm.Fv (AB k b) as
def Fm.Fv(b:Int):List Fm->List (Tm×Int)
 |[]=>[]
 |f::l=>f.AU b++Fm.Fv b l
end
mutual
def Fm.re(g:Int->Tm->Tm)(b:Int):Fm->Fm
 | .mk k h ts as=> .mk k h (ts.map (g b)) (Fm.res g (AB k b) as)
def Fm.res(g:Int->Tm->Tm)(b:Int):List Fm->List Fm
 |[]=>[]
 |f::l=>f.re g b::Fm.res g b l
end
theorem Fm.Fa(b:Int):∀l:List Fm,Fm.Fv b l=l.flatMap (Fm.AU b)
 |[]=>rfl
 |f::l=>by rw[Fm.Fv,Fm.Fa b l,List.flatMap_cons]
theorem Fm.C8(g:Int->Tm->Tm)(b:Int):∀l:List Fm,Fm.res g b l=l.map (Fm.re g b)
 |[]=>rfl
 |f::l=>by rw[Fm.res,Fm.C8 g b l,List.map_cons]
theorem Fm.AR(b:Int)(f:Fm):f.AU b=f.terms.map (fun t=>(t,b))++f.args.flatMap (Fm.AU (AB f.kind b)):=by cases f;simp only[Fm.AU,Fm.Fa];rfl
theorem Fm.Bn(g:Int->Tm->Tm)(b:Int)(f:Fm):f.re g b= .mk f.kind f.ty (f.terms.map (g b)) (f.args.map (Fm.re g (AB f.kind b))):=by cases f;simp only[Fm.re,Fm.C8];rfl
def wc(at_:Int):List (Tm×Int)->Nat
 |[]=>0
 |p::l=>cnt (at_+p.2) (p.1.vars 0)+wc at_ l
theorem yz(at_:Int):∀l l':List (Tm×Int),wc at_ (l++l')=wc at_ l+wc at_ l'
 |[],l'=>by simp[wc]
 |p::l,l'=>by simp only[List.cons_append,wc,yz at_ l l'];omega
theorem Je(at_:Int):∀l:List (Tm×Int),wc at_ l<=(l.map fun p=>p.1.size).sum
 |[]=>Nat.le_refl _
 |p::l=>by
  have h1:=QU (at_+p.2) (p.1.vars 0);have h2:=p.1.CE 0;have h3:=Je at_ l;simp only[wc,List.map_cons,List.sum_cons];omega
theorem Lr(f:Fm):∀b,((f.AU b).map fun p=>p.1.size).sum+1<=f.size:=by
 induction f using Fm.ind with
 |h f ih=>
  intro b;rw[Fm.AR,Fm.size_eq];have h1:∀l:List Fm,(∀x∈l,∀b,((x.AU b).map fun p=>p.1.size).sum+1<=x.size)->((l.flatMap (Fm.AU (AB f.kind b))).map fun p=>p.1.size).sum<=(l.map Fm.size).sum:=by
   intro l;induction l with
   |nil=>intro _;simp
   |cons x l ih2=>
    intro h;have h2:=ih2 fun y hy=>h y (by simp[hy]);have h3:=h x (by simp) (AB f.kind b);simp only[List.flatMap_cons,List.map_append,List.sum_append,List.map_cons,List.sum_cons];omega
  have h2:=h1 f.args ih;have h3:((f.terms.map fun t=>(t,b)).map fun p=>p.1.size)=f.terms.map Tm.size:=by simp[Function.comp_def]
  rw[List.map_append,List.sum_append,h3];omega
theorem Yce(f:Fm)(b:Int)(m:Nat):(((f.terms.take m).map fun t=>(t,b)).map fun p:Tm×Int=>p.1.size).sum<=f.size:=by
 have h1:=yc Tm.size f.terms m;have h3:(((f.terms.take m).map fun t=>(t,b)).map fun p:Tm×Int=>p.1.size)=(f.terms.take m).map Tm.size:=by simp[Function.comp_def]
 rw[h3,Fm.size_eq];omega
theorem Zxn(b:Int)(l:List Fm):((l.flatMap (Fm.AU b)).map fun p:Tm×Int=>p.1.size).sum<=(l.map Fm.size).sum:=by
 induction l with
 |nil=>simp
 |cons x l ih=>
  have h3:=Lr x b;simp only[List.flatMap_cons,List.map_append,List.sum_append,List.map_cons,List.sum_cons];omega
theorem Yd0(f:Fm)(b:Int)(m:Nat)(h:m<f.args.length):((f.terms.map (fun t=>(t,b))++(f.args.take m).flatMap (Fm.AU (AB f.kind b))).map fun p:Tm×Int=>p.1.size).sum+(f.args[m]).size<=f.size:=by
 have h1:=Zxn (AB f.kind b) (f.args.take m);have h2:=yv Fm.size f.args m h;have h4:=yc Fm.size f.args (m+1);have h3:((f.terms.map fun t=>(t,b)).map fun p:Tm×Int=>p.1.size)=f.terms.map Tm.size:=by simp[Function.comp_def]
 have e:=f.size_eq;rw[List.map_append,List.sum_append,h3];omega
theorem P1(f:Fm):f.shape=true->∀b,∀p∈f.AU b,p.1.shape=true:=by
 induction f using Fm.ind with
 |h f ih=>
  intro hs b p hp;rw[Fm.Ag,Bool.and_eq_true,Bool.and_eq_true] at hs;rw[Fm.AR,List.mem_append] at hp;rcases hp with hp|hp
  ·obtain ⟨t,ht,rfl⟩:=List.mem_map.1 hp;exact List.all_eq_true.1 hs.1.2 t ht
  ·obtain ⟨x,hx,hp⟩:=List.mem_flatMap.1 hp;exact ih x hx (List.all_eq_true.1 hs.2 x hx) _ p hp
def Tm.AK(t:Tm):Bool:=(t.vars 0).all fun p=>decide (p.1<=268435456)
def Dp(P:Tm->Bool)(b:Bool)(l:List (Tm×Int)):Bool:=b&&l.all fun p=>P p.1
theorem N1(P:Tm->Bool)(b:Bool)(l l':List (Tm×Int)):Dp P (Dp P b l) l'=Dp P b (l++l'):=by simp[Dp,Bool.and_assoc]
theorem J5(P:Tm->Bool)(b:Bool)(t:Tm)(i:Int):Dp P b [(t,i)]=(b&&P t):=by simp[Dp]
theorem JO(P:Tm->Bool)(b:Bool):Dp P b []=b:=by simp[Dp]
def Fm.near(f:Fm):Bool:=(f.AU 0).all fun p=>p.1.near
def Fm.AK(f:Fm):Bool:=(f.AU 0).all fun p=>p.1.AK
def Fm.put(f:Fm)(at_:Int)(s:Tm):Fm:=f.re (fun b t=>t.re (xm (at_+b) s) 0) 0
def ye(f:Fm)(at_:Int)(s:Tm):Int:=
 if f.err≠0 then f.err else if ¬(0<=at_/\at_<=4096) then 1 else if s.err≠0 then s.err else if f.near=false\/s.near=false then 1 else if(f.size:Int)+wc at_ (f.AU 0)*(s.size-1)>4096 then 4 else 0
def vf(n:Int):List Tm->Int->Fm->Fm×Int
 |[],_,f=>(f,0)
 |t::l,k,f=>
  if yh t 0 (n-1-k)≠0 then(Az,yh t 0 (n-1-k))
  else if ye f 0 (t.re (zn 0 (n-1-k)) 0)≠0 then(Az,ye f 0 (t.re (zn 0 (n-1-k)) 0))
  else vf n l (k+1) (f.put 0 (t.re (zn 0 (n-1-k)) 0))
def fill(p:Fm)(l:List Tm):Fm×Int:=if p.err≠0 then(Az,p.err) else if 16<l.length then(Az,1) else vf l.length l 0 p
theorem JM(t:Tm):t.shape=true->t.full<=65*t.size:=by
 induction t using Tm.ind with
 |h t ih=>
  intro hs;rw[Tm.Ag,Bool.and_eq_true] at hs;have h0:t.ty.size<=64:=by
   have:=hs.1;simp only[Tm.head,Bool.and_eq_true] at this;have h1:=this.2;cases hk:xz t.kind with
   |true=>rw[hk] at h1;simp only[cond_true,Ty.ok,Bool.and_eq_true,decide_eq_true_eq] at h1;exact h1.2
   |false=>
    rw[hk] at h1;have:=Ty.Dj (show t.ty.Bw=true from h1);rw[this];decide
  have h1:∀l:List Tm,(∀x∈l,x∈t.args)->(l.map Tm.full).sum<=65*(l.map Tm.size).sum:=by
   intro l;induction l with
   |nil=>intro _;simp
   |cons x l ih2=>
    intro h;have h2:=ih2 fun y hy=>h y (by simp[hy]);have hx:=h x (by simp);have h3:=ih x hx (List.all_eq_true.1 hs.2 x hx);simp only[List.map_cons,List.sum_cons];omega
  have h2:=h1 t.args fun _ h=>h;rw[Tm.Af,Tm.size_eq];omega
theorem HN(f:Fm):f.shape=true->f.full<=65*f.size:=by
 induction f using Fm.ind with
 |h f ih=>
  intro hs;rw[Fm.Ag,Bool.and_eq_true,Bool.and_eq_true] at hs;obtain⟨⟨hh,ht⟩,ha⟩:=hs;have h0:f.ty.size<=64:=by
   simp only[Fm.head] at hh;split at hh
   ·simp only[Bool.and_eq_true] at hh;rw[Ty.Dj hh.1.1];decide
   ·split at hh
    ·simp only[Bool.and_eq_true] at hh;rw[Ty.Dj hh.1.1];decide
    ·split at hh
     ·simp only[Bool.and_eq_true,Ty.ok,decide_eq_true_eq] at hh;exact hh.1.1.2
     ·cases hh
  have h1:∀l:List Fm,(∀x∈l,x∈f.args)->(l.map Fm.full).sum<=65*(l.map Fm.size).sum:=by
   intro l;induction l with
   |nil=>intro _;simp
   |cons x l ih2=>
    intro h;have h2:=ih2 fun y hy=>h y (by simp[hy]);have hx:=h x (by simp);have h3:=ih x hx (List.all_eq_true.1 ha x hx);simp only[List.map_cons,List.sum_cons];omega
  have h2:∀l:List Tm,(∀x∈l,x∈f.terms)->(l.map Tm.full).sum<=65*(l.map Tm.size).sum:=by
   intro l;induction l with
   |nil=>intro _;simp
   |cons x l ih2=>
    intro h;have h2:=ih2 fun y hy=>h y (by simp[hy]);have hx:=h x (by simp);have h3:=JM x (List.all_eq_true.1 ht x hx);simp only[List.map_cons,List.sum_cons];omega
  have h3:=h1 f.args fun _ h=>h;have h4:=h2 f.terms fun _ h=>h;rw[Fm.Af,Fm.size_eq];omega
theorem z9{f:Fm}(h:f.err=0):f.full<=266240:=by
 have h1:=(Fm.Ad f).1 h;have:=HN f h1.1;omega
theorem yl{t:Tm}(h:t.err=0):t.full<=266240:=by
 have h1:=y5 h;have:=JM t h1.1;omega
theorem Rq{f:Fm}(h:f.err=0)(hn:f.near=true):∀p∈f.AU 0,∀q∈p.1.vars 0,0<=q.1/\q.1<549755813888:=fun p hp q hq=>by
 have h1:p.1.shape=true:=P1 f ((Fm.Ad f).1 h).1 0 p hp;have h2:=List.all_eq_true.1 hn p hp;have h3:=List.all_eq_true.1 h2 q hq;simp at h3;exact⟨p.1.AH h1 0 q hq,by omega⟩
theorem Yeq(f:Fm):0<=f.num/\f.num<=4096:=by
 simp only[Fm.num];split
 ·rename_i h;have:=((Fm.Ad f).1 h).2;omega
 ·omega
mutual
def Fm.same:Fm->Fm->Bool
 | .mk k h ts xs,.mk k' h' ts' ys=>k==k'&&decide (h=h')&&decide (ts=ts')&&Fm.Br xs ys
def Fm.Br:List Fm->List Fm->Bool
 |[],[]=>true
 |x::xs,y::ys=>x.same y&&Fm.Br xs ys
 |_,_=>false
end
mutual
theorem Fm.BI:∀a b:Fm,a.same b=true↔a=b
 | .mk k h ts xs,.mk k' h' ts' ys=>by simp only[Fm.same,Bool.and_eq_true,beq_iff_eq,decide_eq_true_eq,Fm.mk.injEq,Fm.Bz xs ys,and_assoc]
theorem Fm.Bz:∀a b:List Fm,Fm.Br a b=true↔a=b
 |[],[]=>by simp[Fm.Br]
 |x::xs,y::ys=>by simp only[Fm.Br,Bool.and_eq_true,List.cons.injEq,Fm.BI x y,Fm.Bz xs ys]
 |[],_::_=>by simp[Fm.Br]
 |_::_,[]=>by simp[Fm.Br]
end
instance:DecidableEq Fm:=fun a b=>decidable_of_iff _ (Fm.BI a b)
theorem Fm.eq_iff(x y:Fm):x=y↔x.kind=y.kind/\x.ty=y.ty/\x.terms=y.terms/\x.args=y.args:=by
 cases x;cases y;simp[Fm.kind,Fm.ty,Fm.terms,Fm.args]
theorem AZ{g g':Int->Int->Tm}(t:Tm):∀b,(∀p∈t.vars b,g p.1 p.2=g' p.1 p.2)->t.re g b=t.re g' b:=by
 induction t using Tm.ind with
 |h t ih=>
  intro b h;by_cases h1:t.kind=1
  ·rw[vr h1,vr h1];exact h (t.index,b) (by rw[t.AG,if_pos h1];simp)
  ·rw[xn h1,xn h1];congr 1;exact List.map_congr_left fun x hx=>ih x hx _ fun p hp=>h p (IF h1 hx hp)
theorem ID{at_:Int}{l:List (Int×Int)}(h:cnt at_ l=0):∀p∈l,¬p.1-p.2=at_:=by
 intro p hp he;have h1:p∈l.filter fun p=>p.1-p.2==at_:=List.mem_filter.2 ⟨hp,by simp[he]⟩;have h2:=List.length_pos_of_mem h1;simp only[cnt] at h;omega
theorem Se{at_ b:Int}{t:Tm}(s s':Tm)(h:cnt at_ (t.vars b)=0):t.re (xm at_ s) b=t.re (xm at_ s') b:=
 AZ t b fun p hp=>by
  have:=ID h p hp;simp only[xm,if_neg this]
theorem Zsr{g:Int->Int->Tm}(t:Tm):t.shape=true->∀b b',(∀p∈t.vars b,∃j,g p.1 p.2= .mk 1 j (.mk 0 []) []/\j<=p.1)->∀q∈(t.re g b).vars b',∃p∈t.vars b,q.1<=p.1:=by
 induction t using Tm.ind with
 |h t ih=>
  intro hs b b' h q hq;by_cases h1:t.kind=1
  ·rw[vr h1] at hq;have h2:(t.index,b)∈t.vars b:=by rw[t.AG,if_pos h1];simp
   obtain⟨j,h3,h4⟩:=h _ h2;rw[h3] at hq;simp[Tm.vars,Tm.BF] at hq;exact⟨_,h2,by rw[hq];exact h4⟩
  ·rw[xn h1,Tm.AG,Tm.Am,if_neg h1,Tm.Ae,List.nil_append] at hq;obtain⟨y,hy,hq⟩:=List.mem_flatMap.1 hq;obtain⟨x,hx,rfl⟩:=List.mem_map.1 hy;obtain⟨p,hp,hle⟩:=ih x hx (zg hs x hx) _ _ (fun p hp=>h p (IF h1 hx hp)) q hq;exact⟨p,IF h1 hx hp,hle⟩
def CV:Nat->Tm->Tm
 |0,t=>t
 |n+1,t=>(CV n t).re (xm 0 va) 0
def low(n:Nat)(t:Tm):Tm×Bool:=if ∀j,j<n->cnt 0 ((CV j t).vars 0)=0 then(CV n t,true) else(va,false)
theorem OZ{t:Tm}(hs:t.shape=true){C:Int}(hC:∀q∈t.vars 0,q.1<=C):∀n,(∀j,j<n->cnt 0 ((CV j t).vars 0)=0)->(CV n t).shape=true/\(CV n t).full<=t.full/\∀q∈(CV n t).vars 0,q.1<=C
 |0,_=>⟨hs,Nat.le_refl _,hC⟩
 |n+1,h=>by
  obtain⟨h1,h2,h3⟩:=OZ hs hC n fun j hj=>h j (by omega);have h0:=h n (by omega);have hv:(vT 0).shape=true:=by decide
  have e:CV (n+1) t=(CV n t).re (xm 0 (vT 0)) 0:=Se _ _ h0;have hnn:=(CV n t).AH h1 0;refine⟨?_,?_,?_⟩
  ·rw[e];refine OT _ _ _ h1 fun p hp=> ?_;have h4:=ID h0 p hp;have h5:=hnn p hp;simp only[xm,if_neg h4];refine JT _ ?_;split
   ·have h6:0<=p.2:=vu (CV n t) 0 p hp;omega
   ·exact h5
  ·have h4:=Sd 0 (vT 0) (CV n t) hv 0 h1;rw[h0] at h4;rw[e];omega
  ·intro q hq;rw[e] at hq;obtain⟨p,hp,hle⟩:=Zsr (CV n t) h1 0 0 (fun p hp=>by
    have h4:=ID h0 p hp;refine⟨if p.1-p.2>0 then p.1-1 else p.1,by simp only[xm,if_neg h4],by split<;>omega⟩) q hq
   have:=h3 p hp;omega
theorem Yfj{t:Tm}(hs:t.shape=true){C:Int}(hC:∀q∈t.vars 0,q.1<=C)(n:Nat):(low n t).1.full<=t.full+2:=by
 simp only[low];split
 ·rename_i h;have:=(OZ hs hC n h).2.1;simp only;omega
 ·simp only[va];show 1+Ty.size (.mk 0 [])+0<=_;simp[Ty.size,Ty.sizes]
abbrev vx:=List (Int×Tm)
mutual
def mT(h b:Int):Tm->Tm->vx->Bool×vx
 | .mk k i ty as,t,m=>
   if k=1/\0<=i-b/\i-b<h then
    (if(i-b)∈m.map (·.1) then(true,m) else((low b.toNat t).2,m++[(i-b,(low b.toNat t).1)]))
   else if k=t.kind/\ty=t.ty then
    (if k=1 then(decide ((if b<=i then i-h else i)=t.index),m) else Bp h (up k b) as t.args m)
   else(false,m)
def Bp(h b:Int):List Tm->List Tm->vx->Bool×vx
 |[],_,m=>(true,m)
 |_::_,[],m=>(false,m)
 |p::ps,t::ts,m=>match mT h b p t m with|(true,m')=>Bp h b ps ts m'|(false,m')=>(false,m')
end
mutual
def mF(h b:Int):Fm->Fm->vx->Bool×vx
 | .mk k ty ts as,f,m=>
   if k=f.kind/\ty=f.ty then(match Bp h b ts f.terms m with|(true,m')=>B6 h (AB k b) as f.args m'|(false,m')=>(false,m'))
   else(false,m)
def B6(h b:Int):List Fm->List Fm->vx->Bool×vx
 |[],_,m=>(true,m)
 |_::_,[],m=>(false,m)
 |p::ps,f::fs,m=>match mF h b p f m with|(true,m')=>B6 h b ps fs m'|(false,m')=>(false,m')
end
theorem Ll(h b:Int)(p t:Tm)(m:vx):mT h b p t m=
 if p.kind=1/\0<=p.index-b/\p.index-b<h then
  (if(p.index-b)∈m.map (·.1) then(true,m) else((low b.toNat t).2,m++[(p.index-b,(low b.toNat t).1)]))
 else if p.kind=t.kind/\p.ty=t.ty then
  (if p.kind=1 then(decide ((if b<=p.index then p.index-h else p.index)=t.index),m) else Bp h (up p.kind b) p.args t.args m)
 else(false,m):=by cases p;simp only[mT];rfl
theorem KT(h b:Int)(p f:Fm)(m:vx):mF h b p f m=
 if p.kind=f.kind/\p.ty=f.ty then(match Bp h b p.terms f.terms m with|(true,m')=>B6 h (AB p.kind b) p.args f.args m'|(false,m')=>(false,m'))
 else(false,m):=by cases p;simp only[mF];rfl
theorem Pn(h b:Int)(t:Tm)(p:Tm)(ps' ts':List Tm):∀(ps ts:List Tm) (m:vx),ps.length=ts.length->(Bp h b ps ts m).1=true->
 Bp h b (ps++p::ps') (ts++t::ts') m=(match mT h b p t (Bp h b ps ts m).2 with|(true,m')=>Bp h b ps' ts' m'|(false,m')=>(false,m'))
 |[],[],m,_,_=>by simp only[List.nil_append,Bp]
 |[],_::_,m,hl,_=>by simp at hl
 |_::_,[],m,hl,_=>by simp at hl
 |q::ps,u::ts,m,hl,h1=>by
  simp only[List.cons_append,Bp] at h1 ⊢;generalize mT h b q u m=r at h1 ⊢;obtain⟨b1,m1⟩:=r;cases b1 with
  |false=>cases h1
  |true=>exact Pn h b t p ps' ts' ps ts m1 (by simpa using hl) h1
theorem Po(h b:Int)(t:Fm)(p:Fm)(ps' ts':List Fm):∀(ps ts:List Fm) (m:vx),ps.length=ts.length->(B6 h b ps ts m).1=true->
 B6 h b (ps++p::ps') (ts++t::ts') m=(match mF h b p t (B6 h b ps ts m).2 with|(true,m')=>B6 h b ps' ts' m'|(false,m')=>(false,m'))
 |[],[],m,_,_=>by simp only[List.nil_append,B6]
 |[],_::_,m,hl,_=>by simp at hl
 |_::_,[],m,hl,_=>by simp at hl
 |q::ps,u::ts,m,hl,h1=>by
  simp only[List.cons_append,B6] at h1 ⊢;generalize mF h b q u m=r at h1 ⊢;obtain⟨b1,m1⟩:=r;cases b1 with
  |false=>cases h1
  |true=>exact Po h b t p ps' ts' ps ts m1 (by simpa using hl) h1
theorem vg{α:Type}(l:List α)(k:Nat)(h:k<l.length):l=l.take k++l[k]::l.drop (k+1):=by
 rw[<-List.drop_eq_getElem_cons h,List.take_append_drop]
theorem TM{h b:Int}{ps ts:List Tm}{m:vx}{k:Nat}(hl:ps.length=ts.length)(hk:k<ps.length)(h1:(Bp h b (ps.take k) (ts.take k) m).1=true):
 Bp h b (ps.take (k+1)) (ts.take (k+1)) m=mT h b ps[k] (ts[k]'(by omega)) (Bp h b (ps.take k) (ts.take k) m).2:=by
 have hk2:k<ts.length:=by omega
 rw[<-List.take_append_getElem hk,<-List.take_append_getElem hk2,Pn h b _ _ [] [] _ _ m (by simp;omega) h1];generalize mT h b ps[k] ts[k] _=r;obtain⟨b1,m1⟩:=r;cases b1<;>rfl
theorem Wq{h b:Int}{ps ts:List Tm}{m:vx}{k:Nat}(hl:ps.length=ts.length)(hk:k<ps.length)(h1:(Bp h b (ps.take k) (ts.take k) m).1=true)(h2:(mT h b ps[k] (ts[k]'(by omega)) (Bp h b (ps.take k) (ts.take k) m).2).1=false):
 Bp h b ps ts m=(false,(mT h b ps[k] (ts[k]'(by omega)) (Bp h b (ps.take k) (ts.take k) m).2).2):=by
 have hk2:k<ts.length:=by omega
 have e:=Pn h b ts[k] ps[k] (ps.drop (k+1)) (ts.drop (k+1)) (ps.take k) (ts.take k) m (by simp;omega) h1;rw[<-vg ps k hk,<-vg ts k hk2] at e;rw[e];generalize mT h b ps[k] ts[k] _=r at h2 ⊢;obtain⟨b1,m1⟩:=r;cases h2;rfl
theorem Zy1{h b:Int}{ps ts:List Fm}{m:vx}{k:Nat}(hl:ps.length=ts.length)(hk:k<ps.length)(h1:(B6 h b (ps.take k) (ts.take k) m).1=true):
 B6 h b (ps.take (k+1)) (ts.take (k+1)) m=mF h b ps[k] (ts[k]'(by omega)) (B6 h b (ps.take k) (ts.take k) m).2:=by
 have hk2:k<ts.length:=by omega
 rw[<-List.take_append_getElem hk,<-List.take_append_getElem hk2,Po h b _ _ [] [] _ _ m (by simp;omega) h1];generalize mF h b ps[k] ts[k] _=r;obtain⟨b1,m1⟩:=r;cases b1<;>rfl
theorem Zzw{h b:Int}{ps ts:List Fm}{m:vx}{k:Nat}(hl:ps.length=ts.length)(hk:k<ps.length)(h1:(B6 h b (ps.take k) (ts.take k) m).1=true)(h2:(mF h b ps[k] (ts[k]'(by omega)) (B6 h b (ps.take k) (ts.take k) m).2).1=false):
 B6 h b ps ts m=(false,(mF h b ps[k] (ts[k]'(by omega)) (B6 h b (ps.take k) (ts.take k) m).2).2):=by
 have hk2:k<ts.length:=by omega
 have e:=Po h b ts[k] ps[k] (ps.drop (k+1)) (ts.drop (k+1)) (ps.take k) (ts.take k) m (by simp;omega) h1;rw[<-vg ps k hk,<-vg ts k hk2] at e;rw[e];generalize mF h b ps[k] ts[k] _=r at h2 ⊢;obtain⟨b1,m1⟩:=r;cases h2;rfl
theorem Wl{t u:Tm}(ht:t.shape=true)(hu:u.shape=true)(hk:t.kind=u.kind):t.args.length=u.args.length:=by
 have h1:=F3 ht;have h2:=F3 hu;rw[hk,h2] at h1;exact(Option.some.inj h1).symm
theorem QA{t u:Fm}(ht:t.shape=true)(hu:u.shape=true)(hk:t.kind=u.kind):t.terms.length=u.terms.length/\t.args.length=u.args.length:=by
 rw[Fm.Ag,Bool.and_eq_true,Bool.and_eq_true] at ht hu;have h1:=ht.1.1;have h2:=hu.1.1;simp only[Fm.head,hk] at h1 h2;split at h1
 ·rename_i hc;rw[if_pos hc] at h2;simp only[Bool.and_eq_true,beq_iff_eq] at h1 h2;exact⟨by omega,by omega⟩
 ·rename_i hc;rw[if_neg hc] at h2;split at h1
  ·rename_i hc;rw[if_pos hc] at h2;simp only[Bool.and_eq_true,beq_iff_eq] at h1 h2;exact⟨by omega,by omega⟩
  ·rename_i hc;rw[if_neg hc] at h2;split at h1
   ·rename_i hc;rw[if_pos hc] at h2;simp only[Bool.and_eq_true,beq_iff_eq] at h1 h2;exact⟨by omega,by omega⟩
   ·cases h1
theorem PL{t:Tm}:∀{b b':Int},∀q∈t.vars b,∃q'∈t.vars b',q'.1=q.1:=by
 induction t using Tm.ind with
 |h t ih=>
  intro b b' q hq;rw[Tm.AG,List.mem_append] at hq;rcases hq with hq|hq
  ·by_cases h1:t.kind=1
   ·rw[if_pos h1,List.mem_singleton] at hq;exact⟨(t.index,b'),by rw[Tm.AG,if_pos h1];simp,by rw[hq]⟩
   ·rw[if_neg h1] at hq;cases hq
  ·obtain ⟨x,hx,hq⟩:=List.mem_flatMap.1 hq;obtain⟨q',h1,h2⟩:=ih x hx (b':=up t.kind b') q hq;exact⟨q',by rw[Tm.AG];exact List.mem_append_right _ (List.mem_flatMap.2 ⟨x,hx,h1⟩),h2⟩
theorem KD{t x:Tm}{C:Int}(h:∀q∈t.vars 0,q.1<=C)(hx:x∈t.args):∀q∈x.vars 0,q.1<=C:=fun q hq=>by
 obtain⟨q',h1,h2⟩:=PL (b':=up t.kind 0) q hq;rw[<-h2];exact h q' (by rw[Tm.AG];exact List.mem_append_right _ (List.mem_flatMap.2 ⟨x,hx,h1⟩))
theorem O1{f:Fm}:∀{b b':Int},∀q∈f.AU b,∃q'∈f.AU b',q'.1=q.1:=by
 induction f using Fm.ind with
 |h f ih=>
  intro b b' q hq;rw[Fm.AR,List.mem_append] at hq;rcases hq with hq|hq
  ·obtain ⟨t,ht,rfl⟩:=List.mem_map.1 hq;exact⟨(t,b'),by rw[Fm.AR];exact List.mem_append_left _ (List.mem_map.2 ⟨t,ht,rfl⟩),rfl⟩
  ·obtain ⟨x,hx,hq⟩:=List.mem_flatMap.1 hq;obtain⟨q',h1,h2⟩:=ih x hx (b':=AB f.kind b') q hq;exact⟨q',by rw[Fm.AR];exact List.mem_append_right _ (List.mem_flatMap.2 ⟨x,hx,h1⟩),h2⟩
theorem Ml{f:Fm}(h:f.AK=true){t:Tm}(ht:t∈f.terms):∀q∈t.vars 0,q.1<=268435456:=fun q hq=>by
 have h1:(t,(0:Int))∈f.AU 0:=by rw[Fm.AR];exact List.mem_append_left _ (List.mem_map.2 ⟨t,ht,rfl⟩)
 have h2:t.AK=true:=List.all_eq_true.1 h _ h1;have h3:=List.all_eq_true.1 h2 q hq;simpa using h3
theorem L8{f x:Fm}(h:f.AK=true)(hx:x∈f.args):x.AK=true:=List.all_eq_true.2 fun q hq=>by
 obtain⟨q',h1,h2⟩:=O1 (b':=AB f.kind 0) q hq;have h3:q'∈f.AU 0:=by rw[Fm.AR];exact List.mem_append_right _ (List.mem_flatMap.2 ⟨x,hx,h1⟩)
 rw[<-h2];exact List.all_eq_true.1 h q' h3
theorem zl{f x:Fm}(h:f.shape=true)(hx:x∈f.args):x.shape=true:=by
 rw[Fm.Ag,Bool.and_eq_true] at h;exact List.all_eq_true.1 h.2 x hx
theorem zw{f:Fm}(h:f.shape=true){t:Tm}(ht:t∈f.terms):t.shape=true:=by
 rw[Fm.Ag,Bool.and_eq_true,Bool.and_eq_true] at h;exact List.all_eq_true.1 h.1.2 t ht
theorem Zxf(at_:Int)(s:Tm)(hs:s.shape=true)(f:Fm):f.shape=true->∀b,(f.re (fun b t=>t.re (xm (at_+b) s) 0) b).full<=f.full+wc at_ (f.AU b)*s.full:=by
 induction f using Fm.ind with
 |h f ih=>
  intro hf b;have e3:(f.re (fun b t=>t.re (xm (at_+b) s) 0) b).full=1+f.ty.size+((f.terms.map fun t=>t.re (xm (at_+b) s) 0).map Tm.full).sum+((f.args.map (Fm.re (fun b t=>t.re (xm (at_+b) s) 0) (AB f.kind b))).map Fm.full).sum:=by
   rw[Fm.Bn,Fm.Af];rfl
  rw[e3,f.Af,Fm.AR,yz,Nat.add_mul,List.map_map,List.map_map];have h1:∀l:List Tm,(∀x∈l,x∈f.terms)->(l.map (Tm.full∘fun t=>t.re (xm (at_+b) s) 0)).sum<=(l.map Tm.full).sum+wc at_ (l.map fun t=>(t,b))*s.full:=by
   intro l;induction l with
   |nil=>intro _;simp
   |cons x l ihl=>
    intro hl;have h2:=Sd (at_+b) s x hs 0 (zw hf (hl x (by simp)));have h3:=ihl fun y hy=>hl y (by simp[hy]);simp only[List.map_cons,List.sum_cons,Function.comp_apply,wc,Nat.add_mul];omega
  have h2:∀l:List Fm,(∀x∈l,x∈f.args)->(l.map (Fm.full∘Fm.re (fun b t=>t.re (xm (at_+b) s) 0) (AB f.kind b))).sum<=(l.map Fm.full).sum+wc at_ (l.flatMap (Fm.AU (AB f.kind b)))*s.full:=by
   intro l;induction l with
   |nil=>intro _;simp
   |cons x l ihl=>
    intro hl;have h2:=ih x (hl x (by simp)) (zl hf (hl x (by simp))) (AB f.kind b);have h3:=ihl fun y hy=>hl y (by simp[hy]);simp only[List.map_cons,List.sum_cons,Function.comp_apply,List.flatMap_cons,yz,Nat.add_mul];omega
  have h3:=h1 f.terms fun _ h=>h;have h4:=h2 f.args fun _ h=>h;omega
theorem OJ{f:Fm}{at_:Int}{s:Tm}(h:ye f at_ s=0):f.err=0/\s.err=0/\f.near=true/\s.near=true/\(f.size:Int)+wc at_ (f.AU 0)*(s.size-1)<=4096:=by
 simp only[ye] at h;split at h
 ·rename_i h1;exact absurd h h1
 ·rename_i h1;split at h
  ·omega
  ·split at h
   ·rename_i h2;exact absurd h h2
   ·rename_i h2;split at h
    ·omega
    ·rename_i h3;split at h
     ·omega
     ·rename_i h4;refine⟨Classical.not_not.1 h1,Classical.not_not.1 h2,?_,?_,by omega⟩
      ·cases hn:f.near with
       |true=>rfl
       |false=>exact absurd (.inl hn) h3
      ·cases hn:s.near with
       |true=>rfl
       |false=>exact absurd (.inr hn) h3
theorem Re{f:Fm}{at_:Int}{s:Tm}(h:ye f at_ s=0):(f.put at_ s).full<=1200000000:=by
 obtain⟨h1,h2,_,_,_⟩:=OJ h;have h3:=Zxf at_ s (y5 h2).1 f ((Fm.Ad f).1 h1).1 0;have h4:=z9 h1;have h5:=yl h2;have h6:=Je at_ (f.AU 0);have h7:=Lr f 0;have h8:=((Fm.Ad f).1 h1).2;have h9:wc at_ (f.AU 0)*s.full<=4096*266240:=Nat.mul_le_mul (by omega) h5;show(f.re _ 0).full<=_;omega
theorem K8(n:Int)(t:Tm)(l2:List Tm):∀(l1:List Tm) (k:Int) (f:Fm),(vf n l1 k f).2=0->vf n (l1++t::l2) k f=vf n (t::l2) (k+l1.length) (vf n l1 k f).1
 |[],k,f,_=>by simp[vf]
 |u::l1,k,f,h=>by
  simp only[List.cons_append,vf] at h ⊢;split
  ·rename_i h1;rw[if_pos h1] at h;exact absurd h h1
  ·rename_i h1;rw[if_neg h1] at h;split
   ·rename_i h2;rw[if_pos h2] at h;exact absurd h h2
   ·rename_i h2;rw[if_neg h2] at h;rw[K8 n t l2 l1 (k+1) _ h];simp only[vf,List.length_cons,Int.natCast_add,Int.natCast_one,Int.add_assoc,Int.add_comm (l1.length:Int) 1]
theorem N3(n:Int):∀(l:List Tm) (k:Int) (f:Fm),f.full<=1200000000->(vf n l k f).1.full<=1200000000
 |[],k,f,h=>h
 |t::l,k,f,h=>by
  simp only[vf];split
  ·simp[Az,Fm.full,Fm.Ap,Ty.size,Ty.sizes]
  ·split
   ·simp[Az,Fm.full,Fm.Ap,Ty.size,Ty.sizes]
   ·rename_i h2;exact N3 n l (k+1) _ (Re (Classical.not_not.1 h2))
def Du:vx->Int->Option Tm
 |[],_=>none
 |p::m,k=>if p.1=k then some p.2 else Du m k
def HQ:Tm:= .mk 4 0 (.mk 0 []) []
def Cp(m:vx)(n:Nat):List Tm:=(List.range n).map fun k:Nat=>(Du m (k:Int)).getD HQ
def xq(p:Fm)(h:Int)(f:Fm):List Tm×Int:=
 if p.err≠0 then([],p.err) else if f.err≠0 then([],f.err) else if ¬(0<=h/\h<=16)\/p.AK=false\/f.AK=false then([],1)
 else if(mF h 0 p f []).1=false then([],11)
 else if(fill p (Cp (mF h 0 p f []).2 h.toNat)).2≠0\/(fill p (Cp (mF h 0 p f []).2 h.toNat)).1≠f then([],11)
 else if((mF h 0 p f []).2.length:Int)<h then([],13) else(Cp (mF h 0 p f []).2 h.toNat,0)
theorem RI:∀{m:vx} {k:Int} {t:Tm},Du m k=some t->(k,t)∈m
 |[],k,t,h=>by cases h
 |p::m,k,t,h=>by
  simp only[Du] at h;split at h
  ·rename_i h1;cases h;rw[<-h1];exact List.mem_cons_self
  ·exact List.mem_cons_of_mem _ (RI h)
theorem Ye5(h:Int)(C:Nat)(p:Tm):∀(b:Int) (t:Tm) (m:vx),t.shape=true->t.AK=true->t.full<=C->∀q∈(mT h b p t m).2,q∈m\/q.2.full<=C+2:=by
 induction p using Tm.ind with
 |h p ih=>
  intro b t m hs hn hC q hq;rw[Ll] at hq;split at hq
  ·split at hq
   ·exact .inl hq
   ·rcases List.mem_append.1 hq with hq|hq
    ·exact .inl hq
    ·rw[List.mem_singleton] at hq;subst hq;have:=Yfj hs (C:=268435456) (fun q hq=>by have:=List.all_eq_true.1 hn q hq;simpa using this) b.toNat;exact .inr (by simp only;omega)
  ·split at hq
   ·split at hq
    ·exact .inl hq
    ·have key:∀(ps ts:List Tm) (m:vx),(∀x∈ps,x∈p.args)->(∀x∈ts,x∈t.args)->∀q∈(Bp h (up p.kind b) ps ts m).2,q∈m\/q.2.full<=C+2:=by
      intro ps;induction ps with
      |nil=>intro ts m _ _ q hq;exact .inl hq
      |cons x ps ihp=>
       intro ts m h1 h2 q hq;cases ts with
       |nil=>exact .inl hq
       |cons u ts=>
        have hu:=h2 u (by simp);have h3:=ih x (h1 x (by simp)) (up p.kind b) u m (zg hs u hu)
         (List.all_eq_true.2 fun q hq=>by
          have:=KD (C:=268435456) (fun q hq=>by have:=List.all_eq_true.1 hn q hq;simpa using this) hu q hq;simpa using this)
         (by have e1:=t.Af;have e2:=ze Tm.full hu;omega)
        simp only[Bp] at hq;generalize mT h (up p.kind b) x u m=r at hq h3;obtain⟨b1,m1⟩:=r;cases b1 with
        |false=>exact h3 q hq
        |true=>
         rcases ihp ts m1 (fun y hy=>h1 y (by simp[hy])) (fun y hy=>h2 y (by simp[hy])) q hq with h4|h4
         ·exact h3 q h4
         ·exact .inr h4
     exact key p.args t.args m (fun _ h=>h) (fun _ h=>h) q hq
   ·exact .inl hq
theorem Vd(h:Int)(C:Nat)(b:Int):∀(ps ts:List Tm) (m:vx),(∀t∈ts,t.shape=true/\t.AK=true/\t.full<=C)->∀q∈(Bp h b ps ts m).2,q∈m\/q.2.full<=C+2
 |[],ts,m,_,q,hq=> .inl hq
 |p::ps,[],m,_,q,hq=> .inl hq
 |p::ps,t::ts,m,hts,q,hq=>by
  obtain⟨h1,h2,h3⟩:=hts t (by simp);have h4:=Ye5 h C p b t m h1 h2 h3;simp only[Bp] at hq;generalize mT h b p t m=r at hq h4;obtain⟨b1,m1⟩:=r;cases b1 with
  |false=>exact h4 q hq
  |true=>
   rcases Vd h C b ps ts m1 (fun y hy=>hts y (by simp[hy])) q hq with h5|h5
   ·exact h4 q h5
   ·exact .inr h5
theorem Zsd{f:Fm}(h:f.AK=true){t:Tm}(ht:t∈f.terms):t.AK=true:=List.all_eq_true.2 fun q hq=>by
 have:=Ml h ht q hq;simpa using this
theorem Wh(h:Int)(C:Nat)(p:Fm):∀(b:Int) (f:Fm) (m:vx),f.shape=true->f.AK=true->f.full<=C->∀q∈(mF h b p f m).2,q∈m\/q.2.full<=C+2:=by
 induction p using Fm.ind with
 |h p ih=>
  intro b f m hs hn hC q hq;have e1:=f.Af;rw[KT] at hq;split at hq
  ·have h0:=Vd h C b p.terms f.terms m fun t ht=>⟨zw hs ht,Zsd hn ht,by have:=ze Tm.full ht;omega⟩;generalize Bp h b p.terms f.terms m=r at hq h0;obtain⟨b0,m0⟩:=r;cases b0 with
   |false=>exact h0 q hq
   |true=>
    have key:∀(ps ts:List Fm) (m:vx),(∀x∈ps,x∈p.args)->(∀x∈ts,x∈f.args)->∀q∈(B6 h (AB p.kind b) ps ts m).2,q∈m\/q.2.full<=C+2:=by
     intro ps;induction ps with
     |nil=>intro ts m _ _ q hq;exact .inl hq
     |cons x ps ihp=>
      intro ts m h1 h2 q hq;cases ts with
      |nil=>exact .inl hq
      |cons u ts=>
       have hu:=h2 u (by simp);have h3:=ih x (h1 x (by simp)) (AB p.kind b) u m (zl hs hu) (L8 hn hu) (by have e2:=ze Fm.full hu;omega);simp only[B6] at hq;generalize mF h (AB p.kind b) x u m=r at hq h3;obtain⟨b1,m1⟩:=r;cases b1 with
       |false=>exact h3 q hq
       |true=>
        rcases ihp ts m1 (fun y hy=>h1 y (by simp[hy])) (fun y hy=>h2 y (by simp[hy])) q hq with h4|h4
        ·exact h3 q h4
        ·exact .inr h4
    rcases key p.args f.args m0 (fun _ h=>h) (fun _ h=>h) q hq with h4|h4
    ·exact h0 q h4
    ·exact .inr h4
  ·exact .inl hq
theorem P2{p f:Fm}{h:Int}(hf:f.err=0)(hn:f.AK=true)(k:Int):((Du (mF h 0 p f []).2 k).getD HQ).full<=266250:=by
 cases hl:Du (mF h 0 p f []).2 k with
 |none=>simp[HQ,Tm.full,Tm.Ap,Ty.size,Ty.sizes]
 |some t=>
  have h1:=Wh h 266240 p 0 f [] ((Fm.Ad f).1 hf).1 hn (z9 hf) _ (RI hl);rcases h1 with h1|h1
  ·cases h1
  ·have h2:t.full<=266240+2:=h1;simp only[Option.getD_some];omega
theorem HE(g g':Int->Int->Tm)(t:Tm):∀b,(t.re g b).re g' b=t.re (fun i c=>(g i c).re g' c) b:=by
 induction t using Tm.ind with
 |h t ih=>
  intro b;by_cases h1:t.kind=1
  ·rw[vr h1,vr h1]
  ·rw[xn h1,xn h1,xn (t:=Tm.mk _ _ _ _) (by simpa using h1)];simp only[Tm.Am,Tm.AV,Tm.AD,Tm.Ae,List.map_map];congr 1;exact List.map_congr_left fun x hx=>ih x hx _
theorem PM(g:Int->Int->Tm)(t:Tm):∀b,t.shape=true->(t.re g b).vars b=(t.vars b).flatMap fun p=>(g p.1 p.2).vars p.2:=by
 induction t using Tm.ind with
 |h t ih=>
  intro b hs;by_cases h1:t.kind=1
  ·rw[vr h1,w8 hs h1];simp
  ·rw[xn h1,uk h1,uk (t:=Tm.mk _ _ _ _) (by simpa using h1)];simp only[Tm.Am,Tm.Ae,List.flatMap_assoc,List.flatMap_map];have:∀l:List Tm,(∀x∈l,x∈t.args)->l.flatMap (fun x=>(x.re g (up t.kind b)).vars (up t.kind b))=l.flatMap fun x=>(x.vars (up t.kind b)).flatMap fun p=>(g p.1 p.2).vars p.2:=by
    intro l;induction l with
    |nil=>intro _;rfl
    |cons x l ihl=>
     intro h;rw[List.flatMap_cons,List.flatMap_cons,ihl fun y hy=>h y (by simp[hy]),ih x (h x (by simp)) _ (zg hs x (h x (by simp)))]
   exact this t.args fun _ h=>h
theorem QZ(k b c:Int):up k (b+c)=up k b+c:=by simp only[up];split<;>omega
theorem JV(t:Tm):∀b c:Int,t.vars (b+c)=(t.vars b).map fun p=>(p.1,p.2+c):=by
 induction t using Tm.ind with
 |h t ih=>
  intro b c;rw[t.AG,t.AG,List.map_append,QZ];congr 1
  ·split<;>rfl
  ·rw[List.map_flatMap];have:∀l:List Tm,(∀x∈l,x∈t.args)->l.flatMap (Tm.vars (up t.kind b+c))=l.flatMap fun x=>(x.vars (up t.kind b)).map fun p=>(p.1,p.2+c):=by
    intro l;induction l with
    |nil=>intro _;rfl
    |cons x l ihl=>
     intro h;rw[List.flatMap_cons,List.flatMap_cons,ihl fun y hy=>h y (by simp[hy]),ih x (h x (by simp))]
   exact this t.args fun _ h=>h
theorem C3(g:Int->Int->Tm)(c:Int)(t:Tm):∀b,t.re g (b+c)=t.re (fun i d=>g i (d+c)) b:=by
 induction t using Tm.ind with
 |h t ih=>
  intro b;by_cases h1:t.kind=1
  ·rw[vr h1,vr h1]
  ·rw[xn h1,xn h1,QZ];congr 1;exact List.map_congr_left fun x hx=>ih x hx _
theorem uj(g:Int->Int->Tm)(c:Int)(t:Tm):t.re g c=t.re (fun i d=>g i (d+c)) 0:=by
 have:=C3 g c t 0
 rwa [Int.zero_add] at this
theorem RK{f:Int×Int->Int×Int}{a a':Int}(l:List (Int×Int))(h:∀p∈l,((f p).1-(f p).2=a↔p.1-p.2=a')):cnt a (l.map f)=cnt a' l:=by
 induction l with
 |nil=>rfl
 |cons p l ih=>
  have h1:=ih fun q hq=>h q (by simp[hq]);have h2:=h p (by simp);rw[List.map_cons,show f p::l.map f=[f p]++l.map f from rfl,show p::l=[p]++l from rfl,xg,xg,h1,ua,ua];by_cases h3:p.1-p.2=a'
  ·rw[if_pos h3,if_pos (h2.2 h3)]
  ·rw[if_neg h3,if_neg fun hc=>h3 (h2.1 hc)]
theorem Tu(a b:Int)(t:Tm):cnt a (t.vars b)=cnt (a+b) (t.vars 0):=by
 have:=JV t 0 b;rw[Int.zero_add] at this;rw[this];exact RK _ fun p _=>by simp only;omega
theorem EX(j:Int)(g:Int->Int->Tm)(c:Int):(vT j).re g c=g j c:=by rw[vr (show(vT j).kind=1 from rfl)];rfl
theorem QO(j c:Int):(vT j).vars c=[(j,c)]:=by simp[vT,Tm.vars,Tm.BF]
theorem xi(fr by_ i b:Int):zn fr by_ i b=vT (if i-b>=fr then i+by_ else i):=rfl
theorem v9(at_:Int)(s:Tm)(i b:Int):xm at_ s i b=if i-b=at_ then s.re (zn 0 (at_+b)) 0 else vT (if i-b>at_ then i-1 else i):=rfl
theorem Sj{g:Int->Int->Tm}(t:Tm):∀b,t.shape=true->(∀p∈t.vars b,g p.1 p.2=vT p.1)->t.re g b=t:=by
 induction t using Tm.ind with
 |h t ih=>
  intro b hs hg;by_cases h1:t.kind=1
  ·rw[vr h1];have h2:=hg (t.index,b) (by rw[w8 hs h1];simp);rw[h2];exact(JL hs h1).symm
  ·rw[xn h1];have h2:t.args.map (Tm.re g (up t.kind b))=t.args:=by
    conv=>rhs;rw[<-List.map_id t.args]
    exact List.map_congr_left fun x hx=>ih x hx _ (zg hs x hx) fun p hp=>hg p (IF h1 hx hp)
   rw[h2];cases t;rfl
theorem NL(fr by_:Int)(t:Tm)(b:Int)(hs:t.shape=true):(t.re (zn fr by_) b).vars b=(t.vars b).map fun p=>(if p.1-p.2>=fr then p.1+by_ else p.1,p.2):=by
 rw[PM _ _ _ hs];simp only[xi,QO];rw[List.map_eq_flatMap]
theorem Zvr(t:Tm)(a b:Int)(ha:0<=a):(t.re (zn 0 a) 0).re (zn 0 b) 0=t.re (zn 0 (a+b)) 0:=by
 rw[HE];refine AZ t 0 fun p hp=> ?_;simp only[xi,EX];congr 1;by_cases h:p.1-p.2>=0
 ·rw[if_pos h,if_pos (by omega),if_pos h];omega
 ·rw[if_neg h,if_neg h,if_neg h]
theorem Zuz(t:Tm)(hs:t.shape=true)(fr:Int):t.re (zn fr 0) 0=t:=
 Sj t 0 hs fun p _=>by simp only[xi];congr 1;split<;>omega
theorem PI{t:Tm}(hs:t.shape=true):∀n:Nat,(∀j:Nat,j<n->cnt j (t.vars 0)=0)->CV n t=t.re (zn n (-n)) 0
 |0,_=>by rw[CV];exact(Zuz t hs 0).symm
 |n+1,h=>by
  rw[CV,PI hs n fun j hj=>h j (by omega),HE];refine AZ t 0 fun p hp=> ?_;simp only[xi,EX,v9];have h1:∀j:Nat,j<=n->¬p.1-p.2=j:=fun j hj=>ID (h j (by omega)) p hp;by_cases h2:p.1-p.2<0
  ·rw[if_neg (show ¬p.1-p.2>=(n:Int) by omega),if_neg (show ¬p.1-p.2=0 by omega),if_neg (show ¬p.1-p.2>0 by omega),if_neg (show ¬p.1-p.2>=((n+1:Nat):Int) by omega)]
  ·have h3:=h1 (p.1-p.2).toNat;have h4:(n:Int)<p.1-p.2:=by omega
   rw[if_pos (show p.1-p.2>=(n:Int) by omega),if_neg (show ¬p.1+ -(n:Int)-p.2=0 by omega),if_pos (show p.1+ -(n:Int)-p.2>0 by omega),if_pos (show p.1-p.2>=((n+1:Nat):Int) by omega)];congr 1;omega
theorem Ww{t:Tm}(hs:t.shape=true)(n:Nat)(h:∀j:Nat,j<n->cnt j (t.vars 0)=0):cnt 0 ((CV n t).vars 0)=cnt n (t.vars 0):=by
 rw[PI hs n h,NL _ _ _ _ hs];refine RK _ fun p hp=> ?_;have h1:∀j:Nat,j<n->¬p.1-p.2=j:=fun j hj=>ID (h j hj) p hp;by_cases h2:p.1-p.2<0
 ·simp only[if_neg (show ¬p.1-p.2>=(n:Int) by omega)];omega
 ·have h3:=h1 (p.1-p.2).toNat;simp only[if_pos (show p.1-p.2>=(n:Int) by omega)];omega
theorem Rc{t:Tm}(hs:t.shape=true):∀n:Nat,(∀j,j<n->cnt 0 ((CV j t).vars 0)=0)↔∀j:Nat,j<n->cnt j (t.vars 0)=0
 |0=>⟨fun _ j hj=>by omega,fun _ j hj=>by omega⟩
 |n+1=>by
  have ih:=Rc hs n;constructor
  ·intro h;have h1:=ih.1 fun j hj=>h j (by omega);intro j hj;by_cases hjn:j=n
   ·subst hjn;rw[<-Ww hs j h1];exact h j (by omega)
   ·exact h1 j (by omega)
  ·intro h;have h1:∀j:Nat,j<n->cnt j (t.vars 0)=0:=fun j hj=>h j (by omega);intro j hj;rw[Ww hs j fun i hi=>h i (by omega)];exact h j hj
theorem Ydy{t:Tm}(hs:t.shape=true)(n:Nat)(h:∀j:Nat,j<n->cnt j (t.vars 0)=0):low n t=(t.re (zn n (-n)) 0,true):=by
 simp only[low];rw[if_pos ((Rc hs n).2 h),PI hs n h]
theorem Yhg{t:Tm}(hs:t.shape=true)(n:Nat)(h:¬∀j:Nat,j<n->cnt j (t.vars 0)=0):low n t=(va,false):=by
 simp only[low];rw[if_neg fun hc=>h ((Rc hs n).1 hc)]
theorem Znv{t:Tm}(hs:t.shape=true)(n:Int)(j:Int)(h0:0<=j)(hj:j<n):cnt j ((t.re (zn 0 n) 0).vars 0)=0:=by
 rw[NL _ _ _ _ hs];have:∀l:List (Int×Int),cnt j (l.map fun p=>(if p.1-p.2>=0 then p.1+n else p.1,p.2))=0:=by
  intro l;induction l with
  |nil=>rfl
  |cons p l ih=>
   rw[List.map_cons,show ∀(x:Int×Int) l,x::l=[x]++l from fun _ _=>rfl,xg,ih,ua,if_neg];simp only;split<;>omega
 exact this _
def Rn(l:List Tm)(i b:Int):Tm:=if i<b then vT i else if i-b<l.length then(l.getD (i-b).toNat va).re (zn 0 b) 0 else vT (i-l.length)
def PA(l:List Tm)(b:Int)(t:Tm):Tm:=t.re (Rn l) b
theorem Fm.AZ{G G':Int->Tm->Tm}(f:Fm):∀b,(∀p∈f.AU b,G p.2 p.1=G' p.2 p.1)->f.re G b=f.re G' b:=by
 induction f using Fm.ind with
 |h f ih=>
  intro b h;rw[Fm.Bn,Fm.Bn];congr 1
  ·exact List.map_congr_left fun x hx=>h (x,b) (by rw[Fm.AR];exact List.mem_append_left _ (List.mem_map.2 ⟨x,hx,rfl⟩))
  ·exact List.map_congr_left fun x hx=>ih x hx _ fun p hp=>h p (by rw[Fm.AR];exact List.mem_append_right _ (List.mem_flatMap.2 ⟨x,hx,hp⟩))
theorem H8(k b:Int):b<=AB k b/\AB k b<=b+1:=by simp only[AB];split<;>omega
theorem Qc{f:Fm}:∀{b:Int},∀p∈f.AU b,b<=p.2:=by
 induction f using Fm.ind with
 |h f ih=>
  intro b p hp;rw[Fm.AR,List.mem_append] at hp;rcases hp with hp|hp
  ·obtain ⟨t,_,rfl⟩:=List.mem_map.1 hp;exact Int.le_refl _
  ·obtain ⟨x,hx,hp⟩:=List.mem_flatMap.1 hp;have:=ih x hx p hp;have:=H8 f.kind b;omega
def Fm.sim(l:List Tm)(b:Int)(f:Fm):Fm:=f.re (PA l) b
theorem Znb{t:Tm}{fr by_:Int}(h:yh t fr by_=0):t.err=0/\t.near=true/\(0<=by_/\by_<=4096):=by
 simp only[yh] at h;split at h
 ·rename_i h1;exact absurd h h1
 ·rename_i h1;split at h
  ·omega
  ·rename_i h2;refine⟨Classical.not_not.1 h1,?_,?_⟩
   ·cases hn:t.near with
    |true=>rfl
    |false=>exact absurd (.inr (.inr hn)) h2
   ·apply Classical.byContradiction;intro hc;exact h2 (.inr (.inl hc))
theorem Lc{f:Fm}{at_:Int}{s:Tm}(ha:0<=at_)(hs:s.shape=true)(hf:f.shape=true):(f.put at_ s).shape=true:=by
 have key:∀(f:Fm) (b:Int),0<=b->f.shape=true->(f.re (fun b t=>t.re (xm (at_+b) s) 0) b).shape=true:=by
  intro f;induction f using Fm.ind with
  |h f ih=>
   intro b hb hf;have h0:=hf;rw[Fm.Ag,Bool.and_eq_true,Bool.and_eq_true] at h0;obtain⟨⟨h1,h2⟩,h3⟩:=h0;rw[Fm.Bn,Fm.Ag,Bool.and_eq_true,Bool.and_eq_true];refine⟨⟨?_,?_⟩,?_⟩
   ·simp only[Fm.head,Fm.Am,Fm.AD,Fm.Ar,Fm.Ae,List.length_map] at h1 ⊢;exact h1
   ·rw[Fm.Ar,List.all_eq_true];intro y hy;obtain⟨x,hx,rfl⟩:=List.mem_map.1 hy;exact Nj 0 hs (List.all_eq_true.1 h2 x hx) (by omega) (by omega) fun p hp=>vu x 0 p hp
   ·rw[Fm.Ae,List.all_eq_true];intro y hy;obtain⟨x,hx,rfl⟩:=List.mem_map.1 hy;have:=H8 f.kind b;exact ih x hx _ (by omega) (List.all_eq_true.1 h3 x hx)
 exact key f 0 (by omega) hf
def Cw(h:Int)(vs:List (Int×Int))(m m':vx):Prop:=∀k,k∈m'.map (·.1)↔k∈m.map (·.1)\/(0<=k/\k<h/\∃q∈vs,q.1-q.2=k)
theorem Cw.none{h:Int}{m:vx}{vs:List (Int×Int)}(hv:∀q∈vs,¬(0<=q.1-q.2/\q.1-q.2<h)):Cw h vs m m:=fun k=>by
 constructor
 ·exact fun h=> .inl h
 ·rintro (h1|⟨h1,h2,q,hq,rfl⟩)
  ·exact h1
  ·exact absurd ⟨h1,h2⟩ (hv q hq)
theorem Cw.app{h:Int}{m m' m'':vx}{vs vs':List (Int×Int)}(h1:Cw h vs m m')(h2:Cw h vs' m' m''):Cw h (vs++vs') m m'':=fun k=>by
 rw[h2 k,h1 k];constructor
 ·rintro ((h3|⟨h3,h4,q,hq,h5⟩)|⟨h3,h4,q,hq,h5⟩)
  ·exact .inl h3
  ·exact .inr ⟨h3,h4,q,List.mem_append_left _ hq,h5⟩
  ·exact .inr ⟨h3,h4,q,List.mem_append_right _ hq,h5⟩
 ·rintro (h3|⟨h3,h4,q,hq,h5⟩)
  ·exact .inl (.inl h3)
  ·rcases List.mem_append.1 hq with hq|hq
   ·exact .inl (.inr ⟨h3,h4,q,hq,h5⟩)
   ·exact .inr ⟨h3,h4,q,hq,h5⟩
theorem Ydv(h:Int)(p:Tm):∀(b:Int) (t:Tm) (m m':vx),p.shape=true->mT h b p t m=(true,m')->Cw h (p.vars b) m m':=by
 induction p using Tm.ind with
 |h p ih=>
  intro b t m m' hs he;rw[Ll] at he;by_cases hh:p.kind=1/\0<=p.index-b/\p.index-b<h
  ·rw[if_pos hh] at he;rw[w8 hs hh.1];by_cases hm:(p.index-b)∈m.map (·.1)
   ·rw[if_pos hm] at he;cases he;intro k;constructor
    ·exact fun h=> .inl h
    ·rintro (h1|⟨h1,h2,q,hq,rfl⟩)
     ·exact h1
     ·rw[List.mem_singleton] at hq;subst hq;exact hm
   ·rw[if_neg hm] at he;simp only[Prod.mk.injEq] at he;obtain⟨_,rfl⟩:=he;intro k;rw[List.map_append,List.mem_append];constructor
    ·rintro (h1|h1)
     ·exact .inl h1
     ·simp only[List.map_cons,List.map_nil,List.mem_singleton] at h1;subst h1;exact .inr ⟨hh.2.1,hh.2.2,_,List.mem_singleton.2 rfl,rfl⟩
    ·rintro (h1|⟨h1,h2,q,hq,rfl⟩)
     ·exact .inl h1
     ·rw[List.mem_singleton] at hq;subst hq;exact .inr (by simp)
  ·rw[if_neg hh] at he;by_cases h2:p.kind=t.kind/\p.ty=t.ty
   ·rw[if_pos h2] at he;by_cases h1:p.kind=1
    ·rw[if_pos h1] at he;simp only[Prod.mk.injEq] at he;obtain⟨_,rfl⟩:=he;rw[w8 hs h1];refine Cw.none fun q hq hc=> ?_;rw[List.mem_singleton] at hq;subst hq;exact hh ⟨h1,hc.1,hc.2⟩
    ·rw[if_neg h1] at he;rw[uk h1];have key:∀(ps ts:List Tm) (m m':vx),(∀x∈ps,x∈p.args)->Bp h (up p.kind b) ps ts m=(true,m')->Cw h (ps.flatMap (Tm.vars (up p.kind b))) m m':=by
      intro ps;induction ps with
      |nil=>intro ts m m' _ he;simp only[Bp,Prod.mk.injEq] at he;obtain⟨_,rfl⟩:=he;exact Cw.none (by simp)
      |cons x ps ihp=>
       intro ts m m' hx he;cases ts with
       |nil=>simp[Bp] at he
       |cons u ts=>
        simp only[Bp] at he;generalize hr:mT h (up p.kind b) x u m=r at he;obtain⟨b1,m1⟩:=r;cases b1 with
        |false=>simp at he
        |true=>
         rw[List.flatMap_cons];exact(ih x (hx x (by simp)) _ u m m1 (zg hs x (hx x (by simp))) hr).app (ihp ts m1 m' (fun y hy=>hx y (by simp[hy])) he)
     exact key p.args t.args m m' (fun _ h=>h) he
   ·rw[if_neg h2] at he;simp at he
theorem Ti(h b:Int):∀(ps ts:List Tm) (m m':vx),(∀x∈ps,x.shape=true)->Bp h b ps ts m=(true,m')->Cw h (ps.flatMap (Tm.vars b)) m m'
 |[],ts,m,m',_,he=>by simp only[Bp,Prod.mk.injEq] at he;obtain⟨_,rfl⟩:=he;exact Cw.none (by simp)
 |x::ps,[],m,m',_,he=>by simp[Bp] at he
 |x::ps,u::ts,m,m',hx,he=>by
  simp only[Bp] at he;generalize hr:mT h b x u m=r at he;obtain⟨b1,m1⟩:=r;cases b1 with
  |false=>simp at he
  |true=>
   rw[List.flatMap_cons];exact(Ydv h x b u m m1 (hx x (by simp)) hr).app (Ti h b ps ts m1 m' (fun y hy=>hx y (by simp[hy])) he)
def Fi(l:List (Tm×Int)):List (Int×Int):=l.flatMap fun q=>q.1.vars q.2
theorem Zus(b:Int)(ts:List Tm):Fi (ts.map fun t=>(t,b))=ts.flatMap (Tm.vars b):=by simp[Fi,List.flatMap_map]
theorem TF(l l':List (Tm×Int)):Fi (l++l')=Fi l++Fi l':=by simp[Fi]
theorem Ycm(h:Int)(p:Fm):∀(b:Int) (t:Fm) (m m':vx),p.shape=true->mF h b p t m=(true,m')->Cw h (Fi (p.AU b)) m m':=by
 induction p using Fm.ind with
 |h p ih=>
  intro b t m m' hs he;rw[KT] at he;split at he
  ·rw[Fm.AR,TF,Zus];generalize hr:Bp h b p.terms t.terms m=r at he;obtain⟨b1,m1⟩:=r;cases b1 with
   |false=>simp at he
   |true=>
    refine(Ti h b _ _ m m1 (fun x hx=>zw hs hx) hr).app ?_;have key:∀(ps ts:List Fm) (m m':vx),(∀x∈ps,x∈p.args)->B6 h (AB p.kind b) ps ts m=(true,m')->Cw h (Fi (ps.flatMap (Fm.AU (AB p.kind b)))) m m':=by
     intro ps;induction ps with
     |nil=>intro ts m m' _ he;simp only[B6,Prod.mk.injEq] at he;obtain⟨_,rfl⟩:=he;exact Cw.none (by simp[Fi])
     |cons x ps ihp=>
      intro ts m m' hx he;cases ts with
      |nil=>simp[B6] at he
      |cons u ts=>
       simp only[B6] at he;generalize hr:mF h (AB p.kind b) x u m=r at he;obtain⟨b1,m1⟩:=r;cases b1 with
       |false=>simp at he
       |true=>
        rw[List.flatMap_cons,TF];exact(ih x (hx x (by simp)) _ u m m1 (zl hs (hx x (by simp))) hr).app (ihp ts m1 m' (fun y hy=>hx y (by simp[hy])) he)
    exact key p.args t.args m1 m' (fun _ h=>h) he
  ·simp at he
theorem SM(k:Int):∀l:List (Tm×Int),wc k l≠0↔∃q∈Fi l,q.1-q.2=k
 |[]=>by simp[wc,Fi]
 |p::l=>by
  have ih:=SM k l;have h0:cnt (k+p.2) (p.1.vars 0)=cnt k (p.1.vars p.2):=(Tu k p.2 p.1).symm;have h1:cnt k (p.1.vars p.2)≠0↔∃q∈p.1.vars p.2,q.1-q.2=k:=by
   constructor
   ·intro h;have:0<((p.1.vars p.2).filter fun q=>q.1-q.2==k).length:=Nat.pos_of_ne_zero h;obtain⟨q,hq⟩:=List.exists_mem_of_length_pos this;rw[List.mem_filter] at hq;exact⟨q,hq.1,by simpa using hq.2⟩
   ·rintro ⟨q,hq,he⟩ h;exact ID h q hq he
  simp only[wc,h0];have e:Fi (p::l)=p.1.vars p.2++Fi l:=rfl;rw[e];constructor
  ·intro h;by_cases h2:cnt k (p.1.vars p.2)=0
   ·obtain ⟨q,hq,h3⟩:=ih.1 (by omega);exact⟨q,List.mem_append_right _ hq,h3⟩
   ·obtain ⟨q,hq,h3⟩:=h1.1 h2;exact⟨q,List.mem_append_left _ hq,h3⟩
  ·rintro ⟨q,hq,h3⟩;rcases List.mem_append.1 hq with hq|hq
   ·have:=h1.2 ⟨q,hq,h3⟩;omega
   ·have:=ih.2 ⟨q,hq,h3⟩;omega
def Si(l:List Tm)(m:vx):Prop:=(m.map (·.1)).Nodup/\∀q∈m,0<=q.1/\q.1<l.length/\q.2=l.getD q.1.toNat va
theorem UO:∀{m:vx} {k:Int},k∉m.map (·.1)->Du m k=none
 |[],k,_=>rfl
 |p::m,k,h=>by
  rw[List.map_cons,List.mem_cons,not_or] at h;simp only[Du];rw[if_neg fun e=>h.1 e.symm];exact UO h.2
theorem UA(n:Nat):∀(l:List Int),l.Nodup->(∀k∈l,0<=k/\k<n)->l.length<=n/\((∀k:Nat,k<n->(k:Int)∈l)↔l.length=n):=by
 induction n with
 |zero=>
  intro l _ h;cases l with
  |nil=>simp
  |cons x l=>have:=h x (by simp);omega
 |succ n ih=>
  intro l hn h;have h1:(l.filter (·≠(n:Int))).Nodup:=hn.filter _;have h2:=ih _ h1 fun k hk=>by
   rw[List.mem_filter] at hk;have:=h k hk.1;have h3:k≠(n:Int):=by simpa using hk.2
   omega
  have hcount:l.length=(l.filter (·≠(n:Int))).length+(if(n:Int)∈l then 1 else 0):=by
   clear h2 h1 ih h;induction l with
   |nil=>simp
   |cons x l ihl=>
    rw[List.nodup_cons] at hn;have:=ihl hn.2;by_cases hx:x=(n:Int)
    ·subst hx;rw[if_neg hn.1] at this;simp at this ⊢;omega
    ·have e:((n:Int)∈x::l)↔(n:Int)∈l:=by simp[Ne.symm hx]
     simp only[e,List.length_cons,List.filter_cons,ne_eq,hx,not_false_eq_true,decide_true,if_true];simp only[ne_eq] at this;omega
  by_cases hmem:(n:Int)∈l
  ·rw[if_pos hmem] at hcount;refine⟨by omega,?_⟩;constructor
   ·intro h3;have:=h2.2.1 fun k hk=>List.mem_filter.2 ⟨h3 k (by omega),by simp;omega⟩;omega
   ·intro h3 k hk;by_cases hkn:k=n
    ·subst hkn;exact hmem
    ·exact (List.mem_filter.1 (h2.2.2 (by omega) k (by omega))).1
  ·rw[if_neg hmem] at hcount;refine⟨by omega,?_⟩;constructor
   ·intro h3;exact absurd (h3 n (by omega)) hmem
   ·intro h3;omega
theorem Zyy{f:Int×Int->List (Int×Int)}{a a':Int}(l:List (Int×Int))(h:∀p∈l,cnt a (f p)=cnt a' [p]):cnt a (l.flatMap f)=cnt a' l:=by
 induction l with
 |nil=>rfl
 |cons p l ih=>
  rw[List.flatMap_cons,xg,h p (by simp),ih fun q hq=>h q (by simp[hq]),show p::l=[p]++l from rfl,xg]
theorem Ydg{t s:Tm}{m j b:Int}(ht:t.shape=true)(hs:s.shape=true)(hb:0<=b)(hj:0<=j)(hm:j<m):
 cnt (j+b) ((t.re (xm (0+b) (s.re (zn 0 m) 0)) 0).vars 0)=cnt (j+1+b) (t.vars 0):=by
 rw[PM _ _ _ ht];refine Zyy _ fun p hp=> ?_;have h1:=vu t 0 p hp;obtain⟨i,c⟩:=p;simp only at h1 ⊢;rw[v9,Int.zero_add,ua];by_cases h3:i-c=b
 ·rw[if_pos h3,Zvr _ _ _ (by omega),Tu,Znv hs _ _ (by omega) (by omega),if_neg (by simp only;omega)]
 ·rw[if_neg h3,QO,ua];by_cases h4:i-c>b
  ·simp only[if_pos h4];by_cases h5:i-c=j+1+b
   ·rw[if_pos h5,if_pos (by omega)]
   ·rw[if_neg h5,if_neg (by omega)]
  ·simp only[if_neg h4];rw[if_neg (by omega),if_neg (by omega)]
theorem Yfd(G:Int->Tm->Tm)(f:Fm):∀b,(f.re G b).AU b=(f.AU b).map fun p=>(G p.2 p.1,p.2):=by
 induction f using Fm.ind with
 |h f ih=>
  intro b;rw[Fm.Bn,Fm.AR,Fm.AR];simp only[Fm.Am,Fm.Ar,Fm.Ae,List.map_append,List.map_map,List.map_flatMap,List.flatMap_map];congr 1;have:∀l:List Fm,(∀x∈l,x∈f.args)->l.flatMap (fun x=>(x.re G (AB f.kind b)).AU (AB f.kind b))=l.flatMap fun x=>(x.AU (AB f.kind b)).map fun p=>(G p.2 p.1,p.2):=by
   intro l;induction l with
   |nil=>intro _;rfl
   |cons x l ihl=>
    intro h;rw[List.flatMap_cons,List.flatMap_cons,ihl fun y hy=>h y (by simp[hy]),ih x (h x (by simp))]
  exact this f.args fun _ h=>h
theorem U7{G:Int->Tm->Tm}{j j':Int}:∀l:List (Tm×Int),(∀p∈l,cnt (j+p.2) ((G p.2 p.1).vars 0)=cnt (j'+p.2) (p.1.vars 0))->wc j (l.map fun p=>(G p.2 p.1,p.2))=wc j' l
 |[],_=>rfl
 |p::l,h=>by
  simp only[List.map_cons,wc];rw[U7 l fun q hq=>h q (by simp[hq]),h p (by simp)]
theorem Zx9{f:Fm}{s:Tm}{m j:Int}(hf:f.shape=true)(hs:s.shape=true)(hj:0<=j)(hm:j<m):wc j ((f.put 0 (s.re (zn 0 m) 0)).AU 0)=wc (j+1) (f.AU 0):=by
 rw[Fm.put,Yfd];exact U7 (G:=fun b t=>t.re (xm (0+b) (s.re (zn 0 m) 0)) 0) _ fun p hp=>Ydg (P1 f hf 0 p hp) hs (Qc p hp) hj hm
theorem U2{k:Int}{l:List (Tm×Int)}(h:wc k l=0):∀p∈l,cnt (k+p.2) (p.1.vars 0)=0:=by
 induction l with
 |nil=>intro p hp;cases hp
 |cons q l ih=>
  simp only[wc] at h;intro p hp;rcases List.mem_cons.1 hp with rfl|hp
  ·omega
  ·exact ih (by omega) p hp
theorem Zxo{f:Fm}{at_:Int}(s s':Tm)(h:wc at_ (f.AU 0)=0):f.put at_ s=f.put at_ s':=
 Fm.AZ f 0 fun p hp=>Se s s' (U2 h p hp)
theorem LB(at_:Int)(s:Tm)(hs:s.shape=true)(f:Fm):f.shape=true->∀b,(f.re (fun b t=>t.re (xm (at_+b) s) 0) b).size=f.size+wc at_ (f.AU b)*(s.size-1):=by
 induction f using Fm.ind with
 |h f ih=>
  intro hf b;have e3:(f.re (fun b t=>t.re (xm (at_+b) s) 0) b).size=1+((f.terms.map fun t=>t.re (xm (at_+b) s) 0).map Tm.size).sum+((f.args.map (Fm.re (fun b t=>t.re (xm (at_+b) s) 0) (AB f.kind b))).map Fm.size).sum:=by
   rw[Fm.Bn,Fm.size_eq];rfl
  rw[e3,f.size_eq,Fm.AR,yz,Nat.add_mul,List.map_map,List.map_map];have h1:∀l:List Tm,(∀x∈l,x∈f.terms)->(l.map (Tm.size∘fun t=>t.re (xm (at_+b) s) 0)).sum=(l.map Tm.size).sum+wc at_ (l.map fun t=>(t,b))*(s.size-1):=by
   intro l;induction l with
   |nil=>intro _;simp[wc]
   |cons x l ihl=>
    intro hl;have h2:=MY (at_+b) s x hs 0 (zw hf (hl x (by simp)));have h3:=ihl fun y hy=>hl y (by simp[hy]);simp only[List.map_cons,List.sum_cons,Function.comp_apply,wc,Nat.add_mul];omega
  have h2:∀l:List Fm,(∀x∈l,x∈f.args)->(l.map (Fm.size∘Fm.re (fun b t=>t.re (xm (at_+b) s) 0) (AB f.kind b))).sum=(l.map Fm.size).sum+wc at_ (l.flatMap (Fm.AU (AB f.kind b)))*(s.size-1):=by
   intro l;induction l with
   |nil=>intro _;simp[wc]
   |cons x l ihl=>
    intro hl;have h2:=ih x (hl x (by simp)) (zl hf (hl x (by simp))) (AB f.kind b);have h3:=ihl fun y hy=>hl y (by simp[hy]);simp only[List.map_cons,List.sum_cons,Function.comp_apply,List.flatMap_cons,yz,Nat.add_mul];omega
  have h3:=h1 f.terms fun _ h=>h;have h4:=h2 f.args fun _ h=>h;omega
theorem Un{f:Fm}{at_:Int}{s:Tm}(ha:0<=at_)(h:ye f at_ s=0):(f.put at_ s).err=0:=by
 obtain⟨h1,h2,_,_,h5⟩:=OJ h;have hf:=(Fm.Ad f).1 h1;have hs:=(y5 h2).1;refine(Fm.Ad _).2 ⟨Lc ha hs hf.1,?_⟩;have h6:=LB at_ s hs f hf.1 0;have hsp:=s.size_pos;show(f.re _ 0).size<=4096;rw[h6];have h7:(((wc at_ (f.AU 0)*(s.size-1):Nat)):Int)=(wc at_ (f.AU 0):Int)*(s.size-1):=by
  rw[Int.natCast_mul,Int.natCast_sub hsp];rfl
 omega
theorem VL(n:Int):∀(l:List Tm) (k:Int) (f:Fm),f.err=0->(vf n l k f).2=0->(vf n l k f).1.err=0
 |[],k,f,hf,_=>hf
 |t::l,k,f,hf,h=>by
  simp only[vf] at h ⊢;split at h
  ·rename_i h1;exact absurd h h1
  ·rename_i h1;rw[if_neg h1];split at h
   ·rename_i h2;exact absurd h h2
   ·rename_i h2;rw[if_neg h2];exact VL n l (k+1) _ (Un (by omega) (Classical.not_not.1 h2)) h
def JY(s:Tm):Prop:=s.err=0/\∀q∈s.vars 0,q.1<=1000000
theorem Ztv{s:Tm}(h:JY s):s.near=true:=List.all_eq_true.2 fun q hq=>by have:=h.2 q hq;simp;omega
theorem RT{s:Tm}(h:JY s)(m:Nat)(hm:m<=4096):yh s 0 m=0/\(s.re (zn 0 m) 0).err=0/\(s.re (zn 0 m) 0).near=true:=by
 obtain⟨hsh,hsz⟩:=y5 h.1;refine⟨?_,?_,?_⟩
 ·simp only[yh];rw[if_neg (by rw[h.1];decide),if_neg];rintro(h1|h1|h1)
  ·omega
  ·omega
  ·rw[Ztv h] at h1;cases h1
 ·exact (Tm.Ad _).2 ⟨Lg 0 hsh (by omega),by rw[MH _ _ _ _ hsh];exact hsz⟩
 ·refine List.all_eq_true.2 fun q hq=> ?_;rw[NL _ _ _ _ hsh] at hq;obtain⟨p,hp,rfl⟩:=List.mem_map.1 hq;have:=h.2 p hp;simp only[decide_eq_true_eq];split<;>omega
theorem Zo0{f:Fm}{s s':Tm}(hc:wc 0 (f.AU 0)=0)(h1:s.err=0)(h2:s.near=true)(h1':s'.err=0)(h2':s'.near=true):ye f 0 s=ye f 0 s':=by
 simp only[ye,h1,h1',h2,h2',hc];simp
theorem RS(n:Int):∀(l l':List Tm) (k:Int) (f:Fm),l.length=l'.length->l.length<=4096->n=k+l.length->f.shape=true->
 (∀(j:Nat) (hj:j<l.length) (hj':j<l'.length),l[j]=l'[j]\/(wc j (f.AU 0)=0/\JY l[j]/\JY l'[j]))->vf n l k f=vf n l' k f
 |[],[],k,f,_,_,_,_,_=>rfl
 |[],_::_,k,f,h,_,_,_,_=>by simp at h
 |_::_,[],k,f,h,_,_,_,_=>by simp at h
 |t::l,t'::l',k,f,hl,h4,hn,hf,h=>by
  simp only[List.length_cons,Nat.add_right_cancel_iff] at hl hn h4;have e:n-1-k=l.length:=by omega
  simp only[vf,e];have h0:=h 0 (by simp) (by simp);simp only[List.getElem_cons_zero] at h0;have hstep:∀s:Tm,s.shape=true->vf n l (k+1) (f.put 0 (s.re (zn 0 l.length) 0))=vf n l' (k+1) (f.put 0 (s.re (zn 0 l.length) 0)):=fun s hs=>by
   refine RS n l l' (k+1) _ hl (by omega) (by omega) (Lc (by omega) (Lg 0 hs (by omega)) hf) fun j hj hj'=> ?_;have h1:=h (j+1) (by simp;omega) (by simp;omega);simp only[List.getElem_cons_succ] at h1;rcases h1 with h1|⟨h1,h2⟩
   ·exact .inl h1
   ·refine .inr ⟨?_,h2⟩;rw[Zx9 hf hs (by omega) (by omega)];exact h1
  by_cases he:t=t'
  ·subst he;by_cases h1:yh t 0 l.length≠0
   ·rw[if_pos h1,if_pos h1]
   ·rw[if_neg h1,if_neg h1];by_cases h2:ye f 0 (t.re (zn 0 l.length) 0)≠0
    ·rw[if_pos h2,if_pos h2]
    ·rw[if_neg h2,if_neg h2];exact hstep t (y5 (Znb (Classical.not_not.1 h1)).1).1
  ·rcases h0 with h0|⟨h0,h1,h2⟩
   ·exact absurd h0 he
   ·have a:=RT h1 l.length (by omega);have b:=RT h2 l.length (by omega);rw[if_neg (show ¬yh t 0 l.length≠0 by simp[a.1]),if_neg (show ¬yh t' 0 l.length≠0 by simp[b.1]),Zo0 h0 a.2.1 a.2.2 b.2.1 b.2.2];by_cases h3:ye f 0 (t'.re (zn 0 l.length) 0)≠0
    ·rw[if_pos h3,if_pos h3]
    ·rw[if_neg h3,if_neg h3,Zxo (at_:=0) (t.re (zn 0 l.length) 0) (t'.re (zn 0 l.length) 0) h0];exact hstep t' (y5 h2.1).1
mutual
def Fm.A9(g:List Ty):Fm->Prop
 | .mk k h ts as=>(∀t∈ts,t.inf g=(Aa,0))/\Fm.Gi (if y7 k=true then g++[h] else g) as
def Fm.Gi(g:List Ty):List Fm->Prop
 |[]=>True
 |f::l=>f.A9 g/\Fm.Gi g l
end
def Cx(g:List Ty)(f:Fm):List Ty:=if y7 f.kind=true then g++[f.ty] else g
theorem Fm.Eg(g:List Ty):∀l:List Fm,Fm.Gi g l↔∀x∈l,x.A9 g
 |[]=>by simp[Fm.Gi]
 |f::l=>by simp only[Fm.Gi,Fm.Eg g l,List.mem_cons,forall_eq_or_imp]
theorem Fm.Bg(g:List Ty)(f:Fm):f.A9 g↔(∀t∈f.terms,t.inf g=(Aa,0))/\∀x∈f.args,x.A9 (Cx g f):=by
 cases f;simp only[Fm.A9,Fm.Eg,Cx];rfl
theorem HC{g:List Ty}{f:Fm}(h:y7 f.kind=true):Cx g f=g++[f.ty]:=if_pos h
theorem Ht{g:List Ty}{f:Fm}(h:¬y7 f.kind=true):Cx g f=g:=if_neg h
theorem A6{k:Int}:y7 k=true↔4<=k/\k<=7:=by simp[y7]
theorem SD(d:Dk){g:List Ty}(hg:Ai g):(d.Jj g).1.A9 g:=by
 have m1:=(Dk.Cc 3 d g Aa hg zi (by omega) (by omega)).inf hg zi;have m2:=(Dk.Cc 3 (Dk.tm 3 d g Aa).2 g Aa hg zi (by omega) (by omega)).inf hg zi;rw[Fm.Bg];refine⟨fun t ht=> ?_,fun x hx=>by cases hx⟩;simp only[Dk.Jj,AM,Fm.Ar,List.mem_cons,List.not_mem_nil,or_false] at ht;rcases ht with rfl|rfl
 ·exact m1
 ·exact m2
theorem M6{k:Int}{a b:Fm}{g:List Ty}(hk:k=2\/k=3)(ha:a.A9 g)(hb:b.A9 g):(vy k a b).A9 g:=by
 rw[Fm.Bg];have e:Cx g (vy k a b)=g:=Ht (by show ¬y7 k=true;rw[A6];omega);rw[e];refine And.intro (fun t ht=>by cases ht) (fun x hx=> ?_);simp only[vy,Fm.Ae,List.mem_cons,List.not_mem_nil,or_false] at hx;rcases hx with rfl|rfl
 ·exact ha
 ·exact hb
theorem Ic{k:Int}{s:Ty}{a:Fm}{g:List Ty}(hk:4<=k/\k<=7)(ha:a.A9 (g++[s])):(Be k s a).A9 g:=by
 rw[Fm.Bg];have e:Cx g (Be k s a)=g++[s]:=HC (A6.2 hk);rw[e];refine And.intro (fun t ht=>by cases ht) (fun x hx=> ?_);simp only[Be,Fm.Ae,List.mem_cons,List.not_mem_nil,or_false] at hx;subst hx;exact ha
theorem Dk.EM:∀(n:Nat) (d:Dk) (g:List Ty),Ai g->(Dk.fm n d g).1.A9 g:=by
 intro n;induction n with
 |zero=>exact fun d g hg=>SD d hg
 |succ n ih=>
  intro d g hg;have h2:=Dk.Bb (((d.next 9).2.type 0).2) 2 (by omega);have s1:=Dk.type1 (d.next 9).2;have s0:=Dk.type0 (d.next 9).2;have s0':=zy s0.1 s0.2;simp only[Dk.fm];repeat' split
  ·exact M6 (.inl rfl) (ih _ _ hg) (ih _ _ hg)
  ·exact M6 (.inr rfl) (ih _ _ hg) (ih _ _ hg)
  ·exact Ic ⟨by omega,by omega⟩ (ih _ _ (zp hg (zj s1 zo)))
  ·exact Ic ⟨by omega,by omega⟩ (ih _ _ (zp hg (zj s1 zo)))
  ·exact Ic ⟨by omega,by omega⟩ (ih _ _ (zp hg (zj s0' zo)))
  ·exact SD _ hg
theorem O4(at_:Int)(s:Tm)(g:List Ty)(σ:Ty)(hs:s.shape=true)(hσ:s.inf g=(σ,0))(f:Fm):∀(h:List Ty) (b:Int),(h.length:Int)=at_+b->f.shape=true->f.A9 (g++[σ]++h)->
 (f.re (fun b t=>t.re (xm (at_+b) s) 0) b).A9 (g++h):=by
 induction f using Fm.ind with
 |h f ih=>
  intro h b hb hf hok;rw[Fm.Bg] at hok;rw[Fm.Bn,Fm.Bg];simp only[Fm.Ar,Fm.Ae];refine⟨fun y hy=> ?_,fun y hy=> ?_⟩
  ·obtain ⟨x,hx,rfl⟩:=List.mem_map.1 hy;rw[RC x s g h σ (at_+b) 0 (zw hf hx) hs (by omega) hσ];exact hok.1 x hx
  ·obtain ⟨x,hx,rfl⟩:=List.mem_map.1 hy;have h1:=hok.2 x hx;by_cases hq:y7 f.kind=true
   ·rw[HC hq] at h1;rw[show ∀ts as,Cx (g++h) (Fm.mk f.kind f.ty ts as)=g++h++[f.ty] from fun ts as=>HC (f:=Fm.mk f.kind f.ty ts as) hq];have e:AB f.kind b=b+1:=if_pos hq;rw[e,List.append_assoc];rw[List.append_assoc] at h1;exact ih x hx (h++[f.ty]) (b+1) (by simp;omega) (zl hf hx) h1
   ·rw[Ht hq] at h1;rw[show ∀ts as,Cx (g++h) (Fm.mk f.kind f.ty ts as)=g++h from fun ts as=>Ht (f:=Fm.mk f.kind f.ty ts as) hq];have e:AB f.kind b=b:=if_neg hq;rw[e];exact ih x hx h b hb (zl hf hx) h1
theorem Pd{f:Fm}:∀{g:List Ty} {b:Int},f.A9 g->f.shape=true->∀q∈f.AU b,∀v∈q.1.vars 0,v.1<g.length+f.size:=by
 induction f using Fm.ind with
 |h f ih=>
  intro g b hok hf q hq v hv;have e:=f.size_eq;rw[Fm.Bg] at hok;rw[Fm.AR,List.mem_append] at hq;rcases hq with hq|hq
  ·obtain ⟨t,ht,rfl⟩:=List.mem_map.1 hq;have h1:=ze Tm.size ht;have h2:=hok.1 t ht;exact Mm t g 0 _ (by rw[h2]) (zw hf ht) (by omega) v hv
  ·obtain ⟨x,hx,hq⟩:=List.mem_flatMap.1 hq;have h1:=ze Fm.size hx;have h2:=ih x hx (hok.2 x hx) (zl hf hx) q hq v hv;have h3:(Cx g f).length<=g.length+1:=by simp only[Cx];split<;>simp
   omega
theorem Zs4{f:Fm}{g:List Ty}(h:f.A9 g)(he:f.err=0)(hg:g.length<=1000):f.near=true/\f.AK=true:=by
 have h1:=(Fm.Ad f).1 he;refine⟨List.all_eq_true.2 fun q hq=>List.all_eq_true.2 fun v hv=> ?_,List.all_eq_true.2 fun q hq=>List.all_eq_true.2 fun v hv=> ?_⟩
 ·have:=Pd h h1.1 q hq v hv;simp;omega
 ·have:=Pd h h1.1 q hq v hv;simp;omega
def Dk.pat(g:List Ty)(d:Dk):Nat->List Ty×List Tm×Dk
 |0=>(g,[],d)
 |n+1=>((Dk.pat g d n).1++[((Dk.pat g d n).2.2.type 0).1],(Dk.tm 4 ((Dk.pat g d n).2.2.type 0).2 g ((Dk.pat g d n).2.2.type 0).1).1::(Dk.pat g d n).2.1,(Dk.tm 4 ((Dk.pat g d n).2.2.type 0).2 g ((Dk.pat g d n).2.2.type 0).1).2)
theorem Dk.EP{g:List Ty}{d:Dk}(h:d.ok):∀n,(Dk.pat g d n).2.2.ok
 |0=>h
 |n+1=>Dk.B3 4 _ _ _ (Dk.Bd 0 _ (Dk.EP h n))
theorem Dk.DL{g:List Ty}(hg:Ai g)(d:Dk):∀n,∃L:List (Tm×Ty),(Dk.pat g d n).1=g++(L.map (·.2)).reverse/\(Dk.pat g d n).2.1=L.map (·.1)/\L.length=n/\∀q∈L,Mk 4 g q.2 q.1/\q.2.small
 |0=>⟨[],by simp[Dk.pat]⟩
 |n+1=>by
  obtain⟨L,h1,h2,h3,h4⟩:=Dk.DL hg d n;have s0:=Dk.type0 (Dk.pat g d n).2.2;have s0':=zy s0.1 s0.2;refine⟨((Dk.tm 4 ((Dk.pat g d n).2.2.type 0).2 g ((Dk.pat g d n).2.2.type 0).1).1,((Dk.pat g d n).2.2.type 0).1)::L,?_,?_,by simp[h3],?_⟩
  ·simp only[Dk.pat,List.map_cons,List.reverse_cons,<-List.append_assoc,h1]
  ·simp only[Dk.pat,List.map_cons,h2]
  ·intro q hq;rcases List.mem_cons.1 hq with rfl|hq
   ·exact ⟨Dk.Cc 4 _ _ _ hg s0' (by omega) (by omega),s0'⟩
   ·exact h4 q hq
theorem Qt{α:Type}{f:α->Nat}{l:List α}(h:∀j (hj:j<l.length),f l[j]=0):(l.map f).sum=0:=by
 induction l with
 |nil=>rfl
 |cons x l ih=>
  have h0:=h 0 (by simp);have h1:=ih fun j hj=>by have:=h (j+1) (by simp;omega);simpa using this
  simp only[List.map_cons,List.sum_cons];simp only[List.getElem_cons_zero] at h0;omega
theorem RB{α:Type}{f:α->Nat}{l:List α}{m:Nat}(hm:m<l.length)(h:f l[m]≠0):(l.map f).sum≠0:=by
 have:=ze f (List.getElem_mem hm);omega
def xu(most:Int)(t:Tm):Bool:=(t.vars 0).all fun p=>decide (p.1<=most)
theorem Zt4(most b:Int)(t:Tm):(t.vars b).all (fun p=>decide (p.1<=most))=xu most t:=by
 have h:=JV t 0 b;rw[Int.zero_add] at h;rw[h,List.all_map];rfl
theorem QE{α β:Type}(f:α->List β)(p:β->Bool)(l:List α):(l.flatMap f).all p=l.all fun x=>(f x).all p:=by
 induction l with
 |nil=>rfl
 |cons x l ih=>rw[List.flatMap_cons,List.all_append,ih,List.all_cons]
theorem Zs9{most:Int}(h0:0<=most){t:Tm}(hs:t.shape=true):xu most t=(decide (t.index<=most)&&t.args.all (xu most)):=by
 simp only[xu];by_cases h1:t.kind=1
 ·rw[w8 hs h1,uh hs h1];simp
 ·rw[uk h1,QE,(xo hs).2 h1,decide_eq_true h0,Bool.true_and];congr 1;funext x;exact Zt4 most _ x
theorem NC(t:Tm):t.near=xu 536870912 t:=rfl
def u7(most:Int)(f:Fm):Bool:=(f.AU 0).all fun p=>xu most p.1
theorem Zwz(most:Int)(f:Fm):u7 most f=(f.terms.all (xu most)&&f.args.all (u7 most)):=by
 have key:∀(f:Fm) (b:Int),(f.AU b).all (fun p=>xu most p.1)=u7 most f:=by
  intro f;induction f using Fm.ind with
  |h f ih=>
   intro b;have e:∀b,(f.AU b).all (fun p=>xu most p.1)=(f.terms.all (xu most)&&f.args.all (u7 most)):=fun b=>by
    rw[Fm.AR,List.all_append,List.all_map,QE];congr 1;have:∀l:List Fm,(∀x∈l,x∈f.args)->(l.all fun x=>(x.AU (AB f.kind b)).all fun p=>xu most p.1)=l.all (u7 most):=by
     intro l;induction l with
     |nil=>intro _;rfl
     |cons x l ihl=>intro h;rw[List.all_cons,List.all_cons,ih x (h x (by simp)),ihl fun y hy=>h y (by simp[hy])]
    exact this f.args fun _ h=>h
   rw[e b,<-e 0];rfl
 have e:u7 most f=(f.AU 0).all fun p=>xu most p.1:=rfl;rw[e,Fm.AR,List.all_append,List.all_map,QE];congr 1;have:(fun x:Fm=>(x.AU (AB f.kind 0)).all fun p=>xu most p.1)=u7 most:=by funext x;exact key x _
 rw[this]
theorem Zoq(f:Fm):f.near=u7 536870912 f:=rfl
theorem Zls(f:Fm):f.AK=u7 268435456 f:=rfl
theorem Yec(k fr by_:Int)(x:Tm):x.re (zn (up k fr) by_) 0=x.re (zn fr by_) (up k 0):=by
 rw[uj (zn fr by_) (up k 0) x];refine AZ x 0 fun p _=> ?_;simp only[xi];congr 1;have:up k fr=fr+up k 0:=by have:=QZ k 0 fr;rw[Int.zero_add,Int.add_comm] at this;exact this
 rw[this];by_cases h:p.1-p.2>=fr+up k 0
 ·rw[if_pos h,if_pos (by omega)]
 ·rw[if_neg h,if_neg (by omega)]
theorem Zu1{fr by_:Int}{t:Tm}(h:t.kind≠1):t.re (zn fr by_) 0= .mk t.kind t.index t.ty (t.args.map fun x=>x.re (zn (up t.kind fr) by_) 0):=by
 rw[xn h];congr 1;exact List.map_congr_left fun x _=>(Yec _ _ _ x).symm
theorem Zr9{at_:Int}{t:Tm}(hs:t.shape=true):(yq at_ t≠0)↔cnt at_ (t.vars 0)≠0:=by
 have:=Nv t at_ 0 hs;rw[Int.add_zero] at this;rw[this]
def y9(at_:Int)(f:Fm):Nat:=wc at_ (f.AU 0)
theorem Zr2(at_:Int)(f:Fm):∀b c:Int,wc at_ (f.AU (b+c))=wc (at_+c) (f.AU b):=by
 induction f using Fm.ind with
 |h f ih=>
  intro b c;rw[Fm.AR,Fm.AR,yz,yz];have e:AB f.kind (b+c)=AB f.kind b+c:=by simp only[AB];split<;>omega
  rw[e];congr 1
  ·generalize f.terms=l;induction l with
   |nil=>rfl
   |cons x l ihl=>
    simp only[List.map_cons,wc,ihl];rw[show at_+(b+c)=at_+c+b by omega]
  ·have:∀l:List Fm,(∀x∈l,x∈f.args)->wc at_ (l.flatMap (Fm.AU (AB f.kind b+c)))=wc (at_+c) (l.flatMap (Fm.AU (AB f.kind b))):=by
    intro l;induction l with
    |nil=>intro _;rfl
    |cons x l ihl=>intro h;rw[List.flatMap_cons,List.flatMap_cons,yz,yz,ih x (h x (by simp)),ihl fun y hy=>h y (by simp[hy])]
   exact this f.args fun _ h=>h
theorem U9{at_:Int}{f:Fm}(hs:f.shape=true):y9 at_ f=(f.terms.map (yq at_)).sum+(f.args.map (y9 (AB f.kind at_))).sum:=by
 unfold y9;rw[Fm.AR,yz];congr 1
 ·have:∀l:List Tm,(∀x∈l,x.shape=true)->wc at_ (l.map fun t=>(t,(0:Int)))=(l.map (yq at_)).sum:=by
   intro l;induction l with
   |nil=>intro _;rfl
   |cons x l ih=>
    intro h;have h1:=Nv x at_ 0 (h x (by simp));simp only[List.map_cons,List.sum_cons,wc];rw[ih fun y hy=>h y (by simp[hy]),Int.add_zero];rw[Int.add_zero] at h1;rw[h1]
  exact this f.terms fun x hx=>zw hs hx
 ·have:∀l:List Fm,wc at_ (l.flatMap (Fm.AU (AB f.kind 0)))=(l.map fun f'=>wc (AB f.kind at_) (f'.AU 0)).sum:=by
   intro l;induction l with
   |nil=>rfl
   |cons x l ih=>
    rw[List.flatMap_cons,yz,ih,List.map_cons,List.sum_cons];congr 1;have h1:=Zr2 at_ x 0 (AB f.kind 0);rw[Int.zero_add] at h1;rw[h1];congr 1;simp only[AB];split<;>omega
  exact this f.args
theorem Q2(at_:Int)(f:Fm):y9 at_ f<=f.size:=by
 have h1:=Je at_ (f.AU 0);have h2:=Lr f 0;unfold y9;omega
theorem Ycl(at_:Int)(s:Tm)(b:Int)(f:Fm):f.re (fun b t=>t.re (xm (at_+b) s) 0) b=f.re (fun b t=>t.re (xm at_ s) b) b:=by
 refine Fm.AZ f b fun p _=> ?_;rw[uj (xm at_ s) p.2];refine AZ p.1 0 fun q _=> ?_;simp only[v9];by_cases h:q.1-q.2=at_+p.2
 ·rw[if_pos h,if_pos (by omega)];congr 2;omega
 ·rw[if_neg h,if_neg (show ¬q.1-(q.2+p.2)=at_ by omega)];by_cases h2:q.1-q.2>at_+p.2
  ·rw[if_pos h2,if_pos (by omega)]
  ·rw[if_neg h2,if_neg (by omega)]
def yw{α:Type}(f:α->Int):List α->Int
 |[]=>0
 |x::l=>if f x≠0 then f x else yw f l
theorem yr{α:Type}{f:α->Int}:∀{l:List α} {m:Nat} (hm:m<l.length),(∀j (hj:j<l.length),j<m->f l[j]=0)->f l[m]≠0->yw f l=f l[m]
 |[],m,hm,_,_=>by simp at hm
 |x::l,0,hm,_,h=>by simp only[yw,List.getElem_cons_zero] at h ⊢;rw[if_pos h]
 |x::l,m+1,hm,h0,h=>by
  have h1:=h0 0 (by simp) (by omega);simp only[List.getElem_cons_zero] at h1;simp only[yw,List.getElem_cons_succ] at h ⊢;rw[if_neg (by simp[h1])];exact yr (by simpa using hm) (fun j hj hjm=>by have:=h0 (j+1) (by simpa using hj) (by omega);simpa using this) h
theorem yd{α:Type}{f:α->Int}:∀{l:List α},(∀j (hj:j<l.length),j<l.length->f l[j]=0)->yw f l=0
 |[],_=>rfl
 |x::l,h0=>by
  have h1:=h0 0 (by simp) (by simp);simp only[List.getElem_cons_zero] at h1;simp only[yw];rw[if_neg (by simp[h1])];exact yd fun j hj hjm=>by have:=h0 (j+1) (by simpa using hj) (by simpa using hj);simpa using this
theorem ML{α:Type}{f:α->Int}{l:List α}(h:∀x∈l,f x=0):yw f l=0:=yd fun j hj _=>h _ (List.getElem_mem hj)
def tE(g:List Ty)(t:Tm):Int:=if(Dr g t).2≠0 then(Dr g t).2 else if(Dr g t).1.kind≠1 then 7 else 0
mutual
def Fm.BJ(g:List Ty):Fm->Int
 | .mk k h ts as=>if yw (tE g) ts≠0 then yw (tE g) ts else Fm.Hq (if y7 k=true then g++[h] else g) as
def Fm.Hq(g:List Ty):List Fm->Int
 |[]=>0
 |f::l=>if f.BJ g≠0 then f.BJ g else Fm.Hq g l
end
theorem Fm.E6(g:List Ty):∀l:List Fm,Fm.Hq g l=yw (Fm.BJ g) l
 |[]=>rfl
 |f::l=>by rw[Fm.Hq,Fm.E6 g l];rfl
theorem Fm.DO(g:List Ty)(f:Fm):f.BJ g=if yw (tE g) f.terms≠0 then yw (tE g) f.terms else yw (Fm.BJ (Cx g f)) f.args:=by
 cases f;simp only[Fm.BJ,Fm.E6,Cx];rfl
def w4(g:List Ty)(f:Fm):Int:=if f.err≠0 then f.err else f.BJ g
def yb(g:List Ty)(f:Fm):Int:=if y1 g≠0 then y1 g else w4 g f
theorem Ycy(f:Fm):∀g:List Ty,f.A9 g->f.shape=true->f.size<=4096->f.BJ g=0:=by
 induction f using Fm.ind with
 |h f ih=>
  intro g hok hs hz;have e:=f.size_eq;rw[Fm.Bg] at hok;rw[Fm.DO];have h1:yw (tE g) f.terms=0:=ML fun t ht=>by
   have h2:=ze Tm.size ht;have h3:t.err=0:=(Tm.Ad t).2 ⟨zw hs ht,by omega⟩;have h4:Dr g t=(Aa,0):=by simp only[Dr];rw[if_neg (by simp[h3]),hok.1 t ht]
   simp only[tE,h4];rfl
  rw[if_neg (by simp[h1])];exact ML fun x hx=>ih x hx _ (hok.2 x hx) (zl hs hx) (by have:=ze Fm.size hx;omega)
theorem Wu{f:Fm}{g:List Ty}(h:f.A9 g)(he:f.err=0)(hg:y1 g=0):yb g f=0:=by
 have h1:=(Fm.Ad f).1 he;simp only[yb,w4];rw[if_neg (by simp[hg]),if_neg (by simp[he])];exact Ycy f g h h1.1 h1.2
abbrev De:=vx×Bool
def rH(k b:Int)(t:Tm)(s:De):De:=
 if k∈s.1.map (·.1) then s else if ∀j:Nat,j<b.toNat->cnt j (t.vars 0)=0 then(s.1++[(k,t.re (zn b (-b)) 0)],s.2) else(s.1,true)
mutual
def rT(h b:Int):Tm->Tm->De->De
 | .mk k i ty as,t,s=>
   if s.2=true then s
   else if k=1/\b<=i/\i<b+h then rH (i-b) b t s
   else if k=t.kind/\(if k=1/\b+h<=i then i-h else i)=t.index/\ty=t.ty/\as.length=t.args.length then Cd h (up k b) as t.args s
   else(s.1,true)
def Cd(h b:Int):List Tm->List Tm->De->De
 |[],_,s=>s
 |_::_,[],s=>s
 |p::ps,t::ts,s=>Cd h b ps ts (rT h b p t s)
end
mutual
def rF(h b:Int):Fm->Fm->De->De
 | .mk k ty ts as,f,s=>
   if s.2=true\/k≠f.kind\/ty≠f.ty then(s.1,true) else Dw h (AB k b) as f.args (Cd h b ts f.terms s)
def Dw(h b:Int):List Fm->List Fm->De->De
 |[],_,s=>s
 |_::_,[],s=>s
 |p::ps,t::ts,s=>Dw h b ps ts (rF h b p t s)
end
theorem OE(h b:Int)(p t:Tm)(s:De):rT h b p t s=
 if s.2=true then s
 else if p.kind=1/\b<=p.index/\p.index<b+h then rH (p.index-b) b t s
 else if p.kind=t.kind/\(if p.kind=1/\b+h<=p.index then p.index-h else p.index)=t.index/\p.ty=t.ty/\p.args.length=t.args.length then Cd h (up p.kind b) p.args t.args s
 else(s.1,true):=by cases p;simp only[rT];rfl
theorem Qi(h b:Int)(p f:Fm)(s:De):rF h b p f s=
 if s.2=true\/p.kind≠f.kind\/p.ty≠f.ty then(s.1,true) else Dw h (AB p.kind b) p.args f.args (Cd h b p.terms f.terms s):=by cases p;simp only[rF];rfl
theorem OM(h b:Int):∀(ps ts:List Tm) (s:De) (k:Nat) (hk:k<ps.length) (hk2:k<ts.length),Cd h b (ps.take (k+1)) (ts.take (k+1)) s=rT h b ps[k] ts[k] (Cd h b (ps.take k) (ts.take k) s)
 |[],ts,s,k,hk,_=>by simp at hk
 |p::ps,[],s,k,_,hk=>by simp at hk
 |p::ps,t::ts,s,0,_,_=>by simp only[List.take_succ_cons,List.take_zero,Cd,List.getElem_cons_zero]
 |p::ps,t::ts,s,k+1,hk,hk2=>by
  rw[List.take_succ_cons,List.take_succ_cons];simp only[Cd,List.getElem_cons_succ,List.take_succ_cons];exact OM h b ps ts _ k (by simpa using hk) (by simpa using hk2)
theorem Uq(h b:Int):∀(ps ts:List Fm) (s:De) (k:Nat) (hk:k<ps.length) (hk2:k<ts.length),Dw h b (ps.take (k+1)) (ts.take (k+1)) s=rF h b ps[k] ts[k] (Dw h b (ps.take k) (ts.take k) s)
 |[],ts,s,k,hk,_=>by simp at hk
 |p::ps,[],s,k,_,hk=>by simp at hk
 |p::ps,t::ts,s,0,_,_=>by simp only[List.take_succ_cons,List.take_zero,Dw,List.getElem_cons_zero]
 |p::ps,t::ts,s,k+1,hk,hk2=>by
  rw[List.take_succ_cons,List.take_succ_cons];simp only[Dw,List.getElem_cons_succ,List.take_succ_cons];exact Uq h b ps ts _ k (by simpa using hk) (by simpa using hk2)
theorem Ygd{h b:Int}{p t:Tm}{s:De}(hs:s.2=true):rT h b p t s=s:=by rw[OE,if_pos hs]
theorem Rd(h b:Int):∀(ps ts:List Tm) (s:De),s.2=true->Cd h b ps ts s=s
 |[],_,s,_=>by simp only[Cd]
 |p::ps,[],s,_=>by simp only[Cd]
 |p::ps,t::ts,s,hs=>by simp only[Cd];rw[Ygd hs];exact Rd h b ps ts s hs
theorem Yfr{h b:Int}{p t:Fm}{s:De}(hs:s.2=true):(rF h b p t s).2=true:=by rw[Qi,if_pos (.inl hs)]
theorem P5(h b:Int):∀(ps ts:List Fm) (s:De),s.2=true->(Dw h b ps ts s).2=true
 |[],_,s,hs=>by simp only[Dw];exact hs
 |p::ps,[],s,hs=>by simp only[Dw];exact hs
 |p::ps,t::ts,s,hs=>by simp only[Dw];exact P5 h b ps ts _ (Yfr hs)
def Mf(r:Bool×vx)(s:De):Prop:=(r.1=true/\s=(r.2,false))\/(r.1=false/\s.2=true)
theorem Yia(h:Int)(hh:0<=h)(p:Tm):∀(b:Int) (t:Tm) (m:vx),0<=b->p.shape=true->t.shape=true->Mf (mT h b p t m) (rT h b p t (m,false)):=by
 induction p using Tm.ind with
 |h p ih=>
  intro b t m hb hps hts;rw[Ll,OE,if_neg (show ¬(m,false).2=true by simp)];by_cases hole:p.kind=1/\0<=p.index-b/\p.index-b<h
  ·rw[if_pos hole,if_pos (show p.kind=1/\b<=p.index/\p.index<b+h from⟨hole.1,by omega,by omega⟩)];simp only[rH];by_cases hm:(p.index-b)∈m.map (·.1)
   ·rw[if_pos hm,if_pos hm];exact .inl ⟨rfl,rfl⟩
   ·rw[if_neg hm,if_neg hm];by_cases hc:∀j:Nat,j<b.toNat->cnt j (t.vars 0)=0
    ·rw[if_pos hc,Ydy hts _ hc];have e:((b.toNat:Nat):Int)=b:=by omega
     rw[e];exact .inl ⟨rfl,rfl⟩
    ·rw[if_neg hc,Yhg hts _ hc];exact .inr ⟨rfl,rfl⟩
  ·rw[if_neg hole,if_neg (show ¬(p.kind=1/\b<=p.index/\p.index<b+h) from fun hc=>hole ⟨hc.1,by omega,by omega⟩)];by_cases hk:p.kind=t.kind/\p.ty=t.ty
   ·rw[if_pos hk];have hlen:=Wl hps hts hk.1;by_cases h1:p.kind=1
    ·rw[if_pos h1];have e:(if p.kind=1/\b+h<=p.index then p.index-h else p.index)=if b<=p.index then p.index-h else p.index:=by
      by_cases h2:b<=p.index
      ·rw[if_pos h2,if_pos ⟨h1,by have:¬(p.index-b<h):=fun hc=>hole ⟨h1,by omega,hc⟩;omega⟩]
      ·rw[if_neg h2,if_neg (by omega)]
     rw[e];generalize (if b<=p.index then p.index-h else p.index)=x;by_cases h2:x=t.index
     ·rw[if_pos (show p.kind=t.kind/\x=t.index/\p.ty=t.ty/\p.args.length=t.args.length from⟨hk.1,h2,hk.2,hlen⟩),uh hps h1];simp only[Cd,decide_eq_true h2];exact .inl ⟨rfl,rfl⟩
     ·rw[if_neg (show ¬(p.kind=t.kind/\x=t.index/\p.ty=t.ty/\p.args.length=t.args.length) from fun hc=>h2 hc.2.1),decide_eq_false h2];exact .inr ⟨rfl,rfl⟩
    ·rw[if_neg h1];have i1:=(xo hps).2 h1;have i2:=(xo hts).2 (by rw[<-hk.1];exact h1);have e:(if p.kind=1/\b+h<=p.index then p.index-h else p.index)=t.index:=by rw[if_neg fun hc=>h1 hc.1,i1,i2]
     rw[if_pos (show p.kind=t.kind/\_=t.index/\p.ty=t.ty/\p.args.length=t.args.length from⟨hk.1,e,hk.2,hlen⟩)];have hb':0<=up p.kind b:=by simp only[up];split<;>omega
     have key:∀(ps ts:List Tm) (m:vx),ps.length=ts.length->(∀x∈ps,x∈p.args)->(∀x∈ts,x∈t.args)->Mf (Bp h (up p.kind b) ps ts m) (Cd h (up p.kind b) ps ts (m,false)):=by
      intro ps;induction ps with
      |nil=>intro ts m _ _ _;simp only[Bp,Cd];exact .inl ⟨rfl,rfl⟩
      |cons x ps ihp=>
       intro ts m hl hx ht;cases ts with
       |nil=>simp at hl
       |cons u ts=>
        have h3:=ih x (hx x (by simp)) (up p.kind b) u m hb' (zg hps x (hx x (by simp))) (zg hts u (ht u (by simp)));simp only[Bp,Cd];generalize mT h (up p.kind b) x u m=r at h3;generalize rT h (up p.kind b) x u (m,false)=s at h3;obtain⟨b1,m1⟩:=r;rcases h3 with⟨h4,h5⟩|⟨h4,h5⟩
        ·simp only at h4 h5;subst h4;subst h5;exact ihp ts m1 (by simpa using hl) (fun y hy=>hx y (by simp[hy])) (fun y hy=>ht y (by simp[hy]))
        ·simp only at h4 h5;subst h4;rw[Rd h _ ps ts s h5];exact .inr ⟨rfl,h5⟩
     exact key p.args t.args m hlen (fun _ h=>h) (fun _ h=>h)
   ·rw[if_neg hk,if_neg (show ¬(p.kind=t.kind/\_=t.index/\p.ty=t.ty/\p.args.length=t.args.length) from fun hc=>hk ⟨hc.1,hc.2.2.1⟩)];exact .inr ⟨rfl,rfl⟩
theorem S5(h:Int)(hh:0<=h)(b:Int)(hb:0<=b):∀(ps ts:List Tm) (m:vx),ps.length=ts.length->(∀x∈ps,x.shape=true)->(∀x∈ts,x.shape=true)->Mf (Bp h b ps ts m) (Cd h b ps ts (m,false))
 |[],ts,m,_,_,_=>by simp only[Bp,Cd];exact .inl ⟨rfl,rfl⟩
 |x::ps,[],m,hl,_,_=>by simp at hl
 |x::ps,u::ts,m,hl,hx,ht=>by
  have h3:=Yia h hh x b u m hb (hx x (by simp)) (ht u (by simp));simp only[Bp,Cd];generalize mT h b x u m=r at h3;generalize rT h b x u (m,false)=s at h3;obtain⟨b1,m1⟩:=r;rcases h3 with⟨h4,h5⟩|⟨h4,h5⟩
  ·simp only at h4 h5;subst h4;subst h5;exact S5 h hh b hb ps ts m1 (by simpa using hl) (fun y hy=>hx y (by simp[hy])) (fun y hy=>ht y (by simp[hy]))
  ·simp only at h4 h5;subst h4;rw[Rd h _ ps ts s h5];exact .inr ⟨rfl,h5⟩
theorem SJ(h:Int)(hh:0<=h)(p:Fm):∀(b:Int) (t:Fm) (m:vx),0<=b->p.shape=true->t.shape=true->Mf (mF h b p t m) (rF h b p t (m,false)):=by
 induction p using Fm.ind with
 |h p ih=>
  intro b t m hb hps hts;rw[KT,Qi];by_cases hk:p.kind=t.kind/\p.ty=t.ty
  ·have hlen:=QA hps hts hk.1;have hno:¬((m,false).2=true\/p.kind≠t.kind\/p.ty≠t.ty):=by simp[hk.1,hk.2]
   rw[if_pos hk,if_neg hno];have h0:=S5 h hh b hb p.terms t.terms m hlen.1 (fun x hx=>zw hps hx) (fun x hx=>zw hts hx);generalize Bp h b p.terms t.terms m=r at h0;generalize Cd h b p.terms t.terms (m,false)=s at h0;obtain⟨b1,m1⟩:=r;have hup:=H8 p.kind b;rcases h0 with⟨h4,h5⟩|⟨h4,h5⟩
   ·simp only at h4 h5;subst h4;subst h5;have key:∀(ps ts:List Fm) (m:vx),ps.length=ts.length->(∀x∈ps,x∈p.args)->(∀x∈ts,x∈t.args)->Mf (B6 h (AB p.kind b) ps ts m) (Dw h (AB p.kind b) ps ts (m,false)):=by
     intro ps;induction ps with
     |nil=>intro ts m _ _ _;simp only[B6,Dw];exact .inl ⟨rfl,rfl⟩
     |cons x ps ihp=>
      intro ts m hl hx ht;cases ts with
      |nil=>simp at hl
      |cons u ts=>
       have h3:=ih x (hx x (by simp)) (AB p.kind b) u m (by omega) (zl hps (hx x (by simp))) (zl hts (ht u (by simp)));simp only[B6,Dw];generalize mF h (AB p.kind b) x u m=r at h3;generalize rF h (AB p.kind b) x u (m,false)=s at h3;obtain⟨b1,m1⟩:=r;rcases h3 with⟨h4,h5⟩|⟨h4,h5⟩
       ·simp only at h4 h5;subst h4;subst h5;exact ihp ts m1 (by simpa using hl) (fun y hy=>hx y (by simp[hy])) (fun y hy=>ht y (by simp[hy]))
       ·simp only at h4 h5;subst h4;exact .inr ⟨rfl,P5 h _ ps ts s h5⟩
    exact key p.args t.args m1 hlen.2 (fun _ h=>h) (fun _ h=>h)
   ·simp only at h4 h5;subst h4;exact .inr ⟨rfl,P5 h _ _ _ s h5⟩
  ·rw[if_neg hk,if_pos (show(m,false).2=true\/p.kind≠t.kind\/p.ty≠t.ty from ?_)]
   ·exact .inr ⟨rfl,rfl⟩
   ·by_cases h1:p.kind=t.kind
    ·exact .inr (.inr fun h2=>hk ⟨h1,h2⟩)
    ·exact .inr (.inl h1)
def GC(h:Int)(m:vx):Prop:=(m.map (·.1)).Nodup/\∀k∈m.map (·.1),0<=k/\k<h
theorem Ydu(h:Int)(p:Tm):∀(b:Int) (t:Tm) (m:vx),GC h m->GC h (mT h b p t m).2:=by
 induction p using Tm.ind with
 |h p ih=>
  intro b t m hm;rw[Ll];by_cases hh:p.kind=1/\0<=p.index-b/\p.index-b<h
  ·rw[if_pos hh];by_cases hk:(p.index-b)∈m.map (·.1)
   ·rw[if_pos hk];exact hm
   ·rw[if_neg hk];refine⟨?_,?_⟩
    ·rw[List.map_append,List.nodup_append];refine⟨hm.1,by simp,?_⟩;intro a ha c hc hac;simp only[List.map_cons,List.map_nil,List.mem_singleton] at hc;subst hc;subst hac;exact hk ha
    ·intro k hk';rw[List.map_append,List.mem_append] at hk';rcases hk' with hk'|hk'
     ·exact hm.2 k hk'
     ·simp only[List.map_cons,List.map_nil,List.mem_singleton] at hk';subst hk';exact hh.2
  ·rw[if_neg hh];split
   ·split
    ·exact hm
    ·have key:∀(ps ts:List Tm) (m:vx),(∀x∈ps,x∈p.args)->GC h m->GC h (Bp h (up p.kind b) ps ts m).2:=by
      intro ps;induction ps with
      |nil=>intro ts m _ hm;exact hm
      |cons x ps ihp=>
       intro ts m hx hm;cases ts with
       |nil=>exact hm
       |cons u ts=>
        have h3:=ih x (hx x (by simp)) (up p.kind b) u m hm;simp only[Bp];generalize mT h (up p.kind b) x u m=r at h3;obtain⟨b1,m1⟩:=r;cases b1 with
        |false=>exact h3
        |true=>exact ihp ts m1 (fun y hy=>hx y (by simp[hy])) h3
     exact key p.args t.args m (fun _ h=>h) hm
   ·exact hm
theorem RJ(h b:Int):∀(ps ts:List Tm) (m:vx),GC h m->GC h (Bp h b ps ts m).2
 |[],ts,m,hm=>hm
 |x::ps,[],m,hm=>hm
 |x::ps,u::ts,m,hm=>by
  have h3:=Ydu h x b u m hm;simp only[Bp];generalize mT h b x u m=r at h3;obtain⟨b1,m1⟩:=r;cases b1 with
  |false=>exact h3
  |true=>exact RJ h b ps ts m1 h3
theorem Yc0(h:Int)(p:Fm):∀(b:Int) (t:Fm) (m:vx),GC h m->GC h (mF h b p t m).2:=by
 induction p using Fm.ind with
 |h p ih=>
  intro b t m hm;rw[KT];split
  ·have h0:=RJ h b p.terms t.terms m hm;generalize Bp h b p.terms t.terms m=r at h0;obtain⟨b1,m1⟩:=r;cases b1 with
   |false=>exact h0
   |true=>
    have key:∀(ps ts:List Fm) (m:vx),(∀x∈ps,x∈p.args)->GC h m->GC h (B6 h (AB p.kind b) ps ts m).2:=by
     intro ps;induction ps with
     |nil=>intro ts m _ hm;exact hm
     |cons x ps ihp=>
      intro ts m hx hm;cases ts with
      |nil=>exact hm
      |cons u ts=>
       have h3:=ih x (hx x (by simp)) (AB p.kind b) u m hm;simp only[B6];generalize mF h (AB p.kind b) x u m=r at h3;obtain⟨b1,m1⟩:=r;cases b1 with
       |false=>exact h3
       |true=>exact ihp ts m1 (fun y hy=>hx y (by simp[hy])) h3
    exact key p.args t.args m1 (fun _ h=>h) h0
  ·exact hm
def J0:Tm:= .mk 13 0 (.mk 0 []) []
def CZ(m:vx)(n:Nat):List Tm:=(List.range n).map fun k:Nat=>(Du m (k:Int)).getD J0
def Ga(m:vx)(n:Nat):Bool:=(List.range n).any fun k:Nat=>(Du m (k:Int)).isNone
theorem Et{m:vx}{k:Int}:Du m k=none↔k∉m.map (·.1):=by
 constructor
 ·intro h hc;induction m with
  |nil=>cases hc
  |cons p m ih=>
   simp only[Du] at h;split at h
   ·cases h
   ·rename_i hp;rw[List.map_cons,List.mem_cons] at hc;rcases hc with hc|hc
    ·exact hp hc.symm
    ·exact ih h hc
 ·exact UO
def GD(p:Fm)(h:Int)(f:Fm):List Tm×Int:=
 if p.err≠0 then([],p.err) else if f.err≠0 then([],f.err) else if ¬(0<=h/\h<=16)\/p.AK=false\/f.AK=false then([],1)
 else if(rF h 0 p f ([],false)).2=true then([],11)
 else if(fill p (CZ (rF h 0 p f ([],false)).1 h.toNat)).2≠0\/(fill p (CZ (rF h 0 p f ([],false)).1 h.toNat)).1≠f then([],11)
 else if Ga (rF h 0 p f ([],false)).1 h.toNat=true then([],13) else(CZ (rF h 0 p f ([],false)).1 h.toNat,0)
theorem Ztr(p:Fm)(h:Int)(f:Fm):GD p h f=xq p h f:=by
 simp only[GD,xq];by_cases h1:p.err≠0
 ·rw[if_pos h1,if_pos h1]
 rw[if_neg h1,if_neg h1];by_cases h2:f.err≠0
 ·rw[if_pos h2,if_pos h2]
 rw[if_neg h2,if_neg h2];by_cases h3:¬(0<=h/\h<=16)\/p.AK=false\/f.AK=false
 ·rw[if_pos h3,if_pos h3]
 rw[if_neg h3,if_neg h3];have hr:0<=h/\h<=16:=Classical.not_not.1 fun hc=>h3 (.inl hc);have hp:=(Fm.Ad p).1 (Classical.not_not.1 h1);have hf:=(Fm.Ad f).1 (Classical.not_not.1 h2);have hb:=SJ h hr.1 p 0 f [] (Int.le_refl _) hp.1 hf.1;have hone:=Yc0 h p 0 f [] ⟨by simp,by simp⟩;have hkey:=Ycm h p 0 f [] (mF h 0 p f []).2 hp.1;generalize mF h 0 p f []=r at hb hone hkey;generalize rF h 0 p f ([],false)=s at hb;obtain⟨b1,m⟩:=r;rcases hb with⟨h4,h5⟩|⟨h4,h5⟩
 ·simp only at h4 h5;subst h4;subst h5;simp only at hkey hone ⊢;have hkey:=hkey trivial;have e1:(Cp m h.toNat).length=h.toNat:=by simp[Cp]
  have e2:(CZ m h.toNat).length=h.toNat:=by simp[CZ]
  have hz:JY HQ:=⟨by decide,by simp[HQ,Tm.vars,Tm.BF]⟩;have hu:JY J0:=⟨by decide,by simp[J0,Tm.vars,Tm.BF]⟩;have hfe:fill p (CZ m h.toNat)=fill p (Cp m h.toNat):=by
   simp only[fill,e1,e2];rw[if_neg h1,if_neg h1,if_neg (by omega),if_neg (by omega)];refine RS _ _ _ 0 p (by omega) (by omega) (by omega) hp.1 fun j hj hj'=> ?_;simp only[Cp,CZ,List.getElem_map,List.getElem_range];cases hl:Du m (j:Int) with
   |some t=>exact .inl rfl
   |none=>
    refine .inr ⟨?_,hu,hz⟩;have h6:=Et.1 hl;rw[hkey] at h6;apply Classical.byContradiction;intro hc;exact h6 (.inr ⟨by omega,by omega,(SM _ _).1 hc⟩)
  rw[if_neg (show ¬(false=true) by simp),if_neg (show ¬(true=false) by simp),hfe];by_cases h6:(fill p (Cp m h.toNat)).2≠0\/(fill p (Cp m h.toNat)).1≠f
  ·rw[if_pos h6,if_pos h6]
  rw[if_neg h6,if_neg h6];have hn:=UA h.toNat (m.map (·.1)) hone.1 fun k hk=>by have:=hone.2 k hk;omega
  have hlen:(m.map (·.1)).length=m.length:=List.length_map ..;have hop:Ga m h.toNat=true↔(m.length:Int)<h:=by
   have h7:Ga m h.toNat=true↔¬∀k:Nat,k<h.toNat->(k:Int)∈m.map (·.1):=by
    simp only[Ga,List.any_eq_true,List.mem_range,Option.isNone_iff_eq_none,Et];constructor
    ·rintro ⟨k,hk,hc⟩ hall;exact hc (hall k hk)
    ·intro hc;apply Classical.byContradiction;intro hne;exact hc fun k hk=>Classical.byContradiction fun hx=>hne ⟨k,hk,hx⟩
   rw[h7,hn.2];omega
  by_cases h8:(m.length:Int)<h
  ·rw[if_pos h8,if_pos (hop.2 h8)]
  rw[if_neg h8,if_neg fun hc=>h8 (hop.1 hc)];congr 1;simp only[Cp,CZ];refine List.map_congr_left fun k hk=> ?_;cases hl:Du m (k:Int) with
  |some t=>rfl
  |none=>
   exfalso;apply h8;apply hop.1;simp only[Ga,List.any_eq_true];exact⟨k,hk,by rw[hl];rfl⟩
 ·simp only at h4;subst h4;simp only;rw[if_pos h5];simp
mutual
def Ty.cn(most:Int):Ty->Int
 | .mk _ as=>Ty.E9 most 1 as
def Ty.E9(most n:Int):List Ty->Int
 |[]=>n
 |x::l=>if n<=most then Ty.E9 most (n+x.cn (most-n)) l else n
end
mutual
def Tm.cn(most:Int):Tm->Int
 | .mk _ _ h as=>Tm.E9 most (1+h.cn (most-1)) as
def Tm.E9(most n:Int):List Tm->Int
 |[]=>n
 |x::l=>if n<=most then Tm.E9 most (n+x.cn (most-n)) l else n
end
mutual
def Fm.cn(most:Int):Fm->Int
 | .mk _ h ts as=>Fm.E9 most (Tm.E9 most (1+h.cn (most-1)) ts) as
def Fm.E9(most n:Int):List Fm->Int
 |[]=>n
 |x::l=>if n<=most then Fm.E9 most (n+x.cn (most-n)) l else n
end
end Go.Ab
namespace Go.Ab
open Go
set_option linter.all false
def wsum(l:List Tm):Int:=l.foldl (fun n x=>IntKind.i64.wrap (n+x.cn 20000)) 0
theorem O3{α:Type}{f:α->Nat}{B:Nat}:∀{l:List α},(∀x∈l,f x<=B)->(l.map f).sum<=B*l.length
 |[],_=>by simp
 |x::l,h=>by
  have:=O3 (l:=l) fun y hy=>h y (by simp[hy]);have:=h x (by simp);simp only[List.map_cons,List.sum_cons,List.length_cons,Nat.mul_add];omega
theorem Zri(p:Fm)(h:Int)(f:Fm):((xq p h f).1.map Tm.full).sum<=266250*16:=by
 simp only[xq];split
 ·simp
 ·split
  ·simp
  ·rename_i h2;split
   ·simp
   ·rename_i h3;split
    ·simp
    ·split
     ·simp
     ·split
      ·simp
      ·have hr:0<=h/\h<=16:=Classical.not_not.1 fun hc=>h3 (.inl hc);have hn:f.AK=true:=by
        cases hn:f.AK with
        |true=>rfl
        |false=>exact absurd (.inr (.inr hn)) h3
       have h4:=O3 (f:=Tm.full) (B:=266250) (l:=Cp (mF h 0 p f []).2 h.toNat) fun t ht=>by
        obtain⟨j,hj,rfl⟩:=List.mem_map.1 ht;exact P2 (Classical.not_not.1 h2) hn (j:Int)
       have h5:(Cp (mF h 0 p f []).2 h.toNat).length<=16:=by simp[Cp];omega
       simp only;omega
end Go.Ab
namespace Go.Ab
set_option linter.all false
def v6(t:Tm):Bool:=
 if t.kind=3 then(t.arg 0).kind==2
 else if t.kind=6 then(t.arg 2).kind==4||(t.arg 2).kind==5
 else if t.kind=9 then(t.arg 2).kind==7||(t.arg 2).kind==8
 else if t.kind=11\/t.kind=12 then(t.arg 0).kind==10 else false
def Kh(t:Tm):Tm:=
 if t.kind=3 then((t.arg 0).arg 0).re (xm 0 (t.arg 1)) 0
 else if t.kind=6 then
  if(t.arg 2).kind=4 then t.arg 0 else AP (AP (t.arg 1) ((t.arg 2).arg 0)) (.mk 6 0 t.ty [t.arg 0,t.arg 1,(t.arg 2).arg 0])
 else if t.kind=9 then
  if(t.arg 2).kind=7 then t.arg 0 else AP (AP (AP (t.arg 1) ((t.arg 2).arg 0)) ((t.arg 2).arg 1)) (.mk 9 0 t.ty [t.arg 0,t.arg 1,(t.arg 2).arg 1])
 else if t.kind=11 then(t.arg 0).arg 0 else(t.arg 0).arg 1
def Fl(t:Tm):Int:=(Kh t).size-t.size
inductive RV:Tm->Tm->Prop
 |beta (i th j s b a):RV (.mk 3 i th [.mk 2 j s [b],a]) (b.re (xm 0 a) 0)
 |rz (i th x f j s):RV (.mk 6 i th [x,f,.mk 4 j s []]) x
 |rs (i th x f j s n):RV (.mk 6 i th [x,f,.mk 5 j s [n]]) (AP (AP f n) (.mk 6 0 th [x,f,n]))
 |fz (i th x f j s):RV (.mk 9 i th [x,f,.mk 7 j s []]) x
 |fs (i th x f j s h l):RV (.mk 9 i th [x,f,.mk 8 j s [h,l]]) (AP (AP (AP f h) l) (.mk 9 0 th [x,f,l]))
 |p1 (i th j s x y):RV (.mk 11 i th [.mk 10 j s [x,y]]) x
 |p2 (i th j s x y):RV (.mk 12 i th [.mk 10 j s [x,y]]) y
theorem Wc{t:Tm}(hs:t.shape=true){k:Int}(hk:t.kind=k)(ha:Cq k=some 0):∃i th,t= .mk k i th []:=by
 obtain⟨k',i,th,xs⟩:=t;rw[Tm.Ag,Bool.and_eq_true] at hs;have h:=hs.1;simp only[Tm.head,Bool.and_eq_true,Tm.Am,Tm.Ae] at h hk;subst hk;rw[ha] at h;have e:xs=[]:=List.eq_nil_of_length_eq_zero (by simpa using h.1.1.1);exact⟨i,th,by rw[e]⟩
theorem Jw{t:Tm}(hs:t.shape=true)(h:v6 t=true):RV t (Kh t):=by
 unfold v6 at h;by_cases h3:t.kind=3
 ·rw[if_pos h3] at h;obtain⟨i,th,f,a,rfl,hf,ha⟩:=IP hs h3 rfl;simp only[Tm.arg,Tm.Ae,List.getD_cons_zero,beq_iff_eq] at h;obtain⟨j,s,b,rfl,hb⟩:=GA hf h rfl;exact .beta i th j s b a
 rw[if_neg h3] at h;by_cases h6:t.kind=6
 ·rw[if_pos h6] at h;obtain⟨i,th,x,f,z,rfl,hx,hf,hz⟩:=Kj hs h6 rfl;simp only[Tm.arg,Tm.Ae,List.getD_cons_zero,List.getD_cons_succ,Bool.or_eq_true,beq_iff_eq] at h;rcases h with h|h
  ·obtain ⟨j,s,rfl⟩:=Wc hz h rfl;exact .rz i th x f j s
  ·obtain ⟨j,s,n,rfl,hn⟩:=GA hz h rfl;exact .rs i th x f j s n
 rw[if_neg h6] at h;by_cases h9:t.kind=9
 ·rw[if_pos h9] at h;obtain⟨i,th,x,f,z,rfl,hx,hf,hz⟩:=Kj hs h9 rfl;simp only[Tm.arg,Tm.Ae,List.getD_cons_zero,List.getD_cons_succ,Bool.or_eq_true,beq_iff_eq] at h;rcases h with h|h
  ·obtain ⟨j,s,rfl⟩:=Wc hz h rfl;exact .fz i th x f j s
  ·obtain ⟨j,s,n,l,rfl,hn,hl⟩:=IP hz h rfl;exact .fs i th x f j s n l
 rw[if_neg h9] at h;by_cases h11:t.kind=11
 ·rw[if_pos (.inl h11)] at h;obtain⟨i,th,p,rfl,hp⟩:=GA hs h11 rfl;simp only[Tm.arg,Tm.Ae,List.getD_cons_zero,beq_iff_eq] at h;obtain⟨j,s,x,y,rfl,hx,hy⟩:=IP hp h rfl;exact .p1 i th j s x y
 by_cases h12:t.kind=12
 ·rw[if_pos (.inr h12)] at h;obtain⟨i,th,p,rfl,hp⟩:=GA hs h12 rfl;simp only[Tm.arg,Tm.Ae,List.getD_cons_zero,beq_iff_eq] at h;obtain⟨j,s,x,y,rfl,hx,hy⟩:=IP hp h rfl;exact .p2 i th j s x y
 ·rw[if_neg (by rintro(h|h);exact h11 h;exact h12 h)] at h;cases h
theorem L6{f x:Tm}(hf:f.shape=true)(hx:x.shape=true):(AP f x).shape=true:=by
 simp[AP,Tm.shape,Tm.A5,Tm.head,Cq,xz,Ty.Bw,hf,hx]
theorem Zv7{t:Tm}(hs:t.shape=true)(h:v6 t=true):(Kh t).shape=true:=by
 have hv:=Jw hs h;have hargs:=zg hs;generalize Kh t=u at hv;cases hv with
 |beta i th j s b a=>
  have h1:=zg (hargs (.mk 2 j s [b]) (by simp)) b (by simp);exact Nj 0 (hargs a (by simp)) h1 (Int.le_refl _) (Int.le_refl _) fun p hp=>vu b 0 p hp
 |rz=>exact hargs _ (by simp)
 |fz=>exact hargs _ (by simp)
 |rs i th x f j s n=>
  have h1:=zg (hargs (.mk 5 j s [n]) (by simp)) n (by simp);have hx:=hargs x (by simp);have hf:=hargs f (by simp);have hh:th.ok=true:=by rw[Tm.Ag,Bool.and_eq_true] at hs;have:=hs.1;simp[Tm.head,xz] at this;exact this.2
  refine L6 (L6 hf h1) ?_;simp[Tm.shape,Tm.A5,Tm.head,Cq,xz,hf,hx,h1,hh]
 |fs i th x f j s n l=>
  have h1:=zg (hargs (.mk 8 j s [n,l]) (by simp)) n (by simp);have h2:=zg (hargs (.mk 8 j s [n,l]) (by simp)) l (by simp);have hx:=hargs x (by simp);have hf:=hargs f (by simp);have hh:th.ok=true:=by rw[Tm.Ag,Bool.and_eq_true] at hs;have:=hs.1;simp[Tm.head,xz] at this;exact this.2
  refine L6 (L6 (L6 hf h1) h2) ?_;simp[Tm.shape,Tm.A5,Tm.head,Cq,xz,hf,hx,h1,h2,hh]
 |p1 i th j s _ y=>exact zg (hargs (.mk 10 j s [u,y]) (by simp)) u (by simp)
 |p2 i th j s x _=>exact zg (hargs (.mk 10 j s [x,u]) (by simp)) u (by simp)
theorem Zyj{C:Int}(hC:0<=C){t u:Tm}(hs:t.shape=true)(h:RV t u)(hf:∀p∈t.vars 0,p.1-p.2<=C):∀p∈u.vars 0,p.1-p.2<=C:=by
 have hargs:=zg hs;cases h with
 |beta i th j s b a=>
  have hb:=zg (hargs (.mk 2 j s [b]) (by simp)) b (by simp);have ha:=hargs a (by simp);intro p hp;rw[PM _ _ _ hb,List.mem_flatMap] at hp;obtain⟨q,hq,hp⟩:=hp;have hq2:=vu b 0 q hq;have hfb:q.1-(q.2+1)<=C:=by
   refine hf (q.1,q.2+1) ?_;have e:b.vars 1=(b.vars 0).map fun p=>(p.1,p.2+1):=by have:=JV b 0 1;simpa using this
   have hm:(q.1,q.2+1)∈b.vars 1:=by rw[e];exact List.mem_map.2 ⟨q,hq,rfl⟩
   simp[Tm.vars,Tm.BF,up];exact .inl hm
  rw[v9] at hp;by_cases h0:q.1-q.2=0
  ·rw[if_pos h0] at hp;have e:(a.re (zn 0 (0+q.2)) 0).vars q.2=((a.re (zn 0 q.2) 0).vars 0).map fun p=>(p.1,p.2+q.2):=by have:=JV (a.re (zn 0 (0+q.2)) 0) 0 q.2;simpa using this
   rw[e,NL _ _ _ _ ha,List.map_map,List.mem_map] at hp;obtain⟨r,hr,rfl⟩:=hp;have hfa:=hf r (by
    simp only[Tm.vars,Tm.BF,up,List.mem_append];simp[hr])
   simp only[Function.comp_apply];split<;>omega
  ·rw[if_neg h0,QO] at hp;simp only[List.mem_singleton] at hp;subst hp;simp only;split<;>omega
 |rz i th x f j s=>intro p hp;refine hf p ?_;simp[Tm.vars,Tm.BF,up,hp]
 |fz i th x f j s=>intro p hp;refine hf p ?_;simp[Tm.vars,Tm.BF,up,hp]
 |rs i th x f j s n=>
  intro p hp;refine hf p ?_;simp[AP,Tm.vars,Tm.BF,up] at hp ⊢;rcases hp with h|h|h|h|h<;>simp[h]
 |fs i th x f j s n l=>
  intro p hp;refine hf p ?_;simp[AP,Tm.vars,Tm.BF,up] at hp ⊢;rcases hp with h|h|h|h|h|h<;>simp[h]
 |p1 i th j s x y=>intro p hp;refine hf p ?_;simp[Tm.vars,Tm.BF,up,hp]
 |p2 i th j s x y=>intro p hp;refine hf p ?_;simp[Tm.vars,Tm.BF,up,hp]
mutual
def Cy(room:Int):Tm->Option (Tm×Bool)
 | .mk k i h xs=>if v6 (.mk k i h xs)=true then some (if Fl (.mk k i h xs)>room then(va,false) else(Kh (.mk k i h xs),true)) else(Fq room xs).map fun p=>(.mk k i h p.1,p.2)
def Fq(room:Int):List Tm->Option (List Tm×Bool)
 |[]=>none
 |x::l=>match Cy room x with
  |some p=>some (p.1::l,p.2)
  |none=>(Fq room l).map fun q=>(x::q.1,q.2)
end
theorem FR(room:Int)(t:Tm):Cy room t=if v6 t=true then some (if Fl t>room then(va,false) else(Kh t,true)) else(Fq room t.args).map fun p=>(.mk t.kind t.index t.ty p.1,p.2):=by
 cases t;simp only[Cy];rfl
theorem VS(room:Int):∀(xs:List Tm) (i:Nat) (hi:i<xs.length) (u:Tm×Bool),Cy room xs[i]=some u->(∀(j:Nat) (hj:j<xs.length),j<i->Cy room xs[j]=none)->Fq room xs=some (xs.set i u.1,u.2)
 |[],i,hi,u,h,hn=>by simp at hi
 |x::l,0,hi,u,h,hn=>by
  simp only[List.getElem_cons_zero] at h;simp only[Fq,h];rfl
 |x::l,i+1,hi,u,h,hn=>by
  have h0:=hn 0 (by simp) (by omega);simp only[List.getElem_cons_zero] at h0;have:=VS room l i (by simpa using hi) u (by simpa using h) fun j hj hji=>by have:=hn (j+1) (by simpa using hj) (by omega);simpa using this
  simp only[Fq,h0,this,Option.map_some];rfl
theorem TH(room:Int):∀(xs:List Tm),(∀(j:Nat) (hj:j<xs.length),j<xs.length->Cy room xs[j]=none)->Fq room xs=none
 |[],_=>rfl
 |x::l,h=>by
  have h0:=h 0 (by simp) (by simp);simp only[List.getElem_cons_zero] at h0;have:=TH room l fun j hj _=>by have:=h (j+1) (by simpa using hj) (by simpa using hj);simpa using this
  simp only[Fq,h0,this];rfl
theorem N7(room:Int):∀(xs:List Tm) (q:List Tm×Bool),Fq room xs=some q->∃(i:Nat) (hi:i<xs.length) (u:Tm),Cy room xs[i]=some (u,q.2)/\q.1=xs.set i u
 |[],q,h=>by simp[Fq] at h
 |x::l,q,h=>by
  simp only[Fq] at h;cases hx:Cy room x with
  |some u=>rw[hx] at h;cases h;exact⟨0,by simp,u.1,by simpa using hx,rfl⟩
  |none=>
   rw[hx] at h;simp only[Option.map_eq_some_iff] at h;obtain⟨r,h1,rfl⟩:=h;obtain⟨i,hi,u,h2,h3⟩:=N7 room l r h1;exact⟨i+1,by simpa using hi,u,by simpa using h2,by simp[h3]⟩
theorem Uz(room:Int)(t:Tm):∀u,t.shape=true->Cy room t=some (u,true)->u.shape=true/\(u.size:Int)<=t.size+room/\∀C:Int,0<=C->∀b:Int,0<=b->(∀p∈t.vars b,p.1-p.2<=C)->∀p∈u.vars b,p.1-p.2<=C:=by
 induction t using Tm.ind with
 |h t ih=>
  intro u hs h;rw[FR] at h;by_cases hr:v6 t=true
  ·rw[if_pos hr] at h;by_cases hg:Fl t>room
   ·rw[if_pos hg] at h;simp at h
   ·rw[if_neg hg] at h;simp at h;subst h;refine⟨Zv7 hs hr,by simp only[Fl] at hg;omega,fun C hC b hb hf=> ?_⟩;have e:∀x:Tm,x.vars b=(x.vars 0).map fun p=>(p.1,p.2+b):=fun x=>by have:=JV x 0 b;simpa using this
    rw[e] at hf ⊢;have:=Zyj (C:=C+b) (by omega) hs (Jw hs hr) fun p hp=>by have:=hf _ (List.mem_map.2 ⟨p,hp,rfl⟩);simp only at this;omega
    intro p hp;obtain⟨q,hq,rfl⟩:=List.mem_map.1 hp;have:=this q hq;simp only;omega
  ·rw[if_neg hr] at h;simp only[Option.map_eq_some_iff] at h;obtain⟨q,h1,h2⟩:=h;obtain⟨i,hi,v,h3,h4⟩:=N7 room _ _ h1;have h5:q.2=true:=by simpa using (congrArg Prod.snd h2)
   have h6:u= .mk t.kind t.index t.ty (t.args.set i v):=by rw[<-h4];exact(congrArg Prod.fst h2).symm
   subst h6;rw[h5] at h3;have hm:=List.getElem_mem hi;obtain⟨i1,i2,i3⟩:=ih _ hm v (zg hs _ hm) h3;refine⟨?_,?_,?_⟩
   ·have:(Tm.mk t.kind t.index t.ty t.args).shape=true:=by cases t;exact hs
    exact PN this i1
   ·have:=Qn Tm.size v t.args i hi;rw[Tm.size_eq,Tm.size_eq t];simp only[Tm.Ae];omega
   ·intro C hC b hb hf p hp;rw[Tm.AG] at hp hf;simp only[Tm.Am,Tm.AV,Tm.Ae,List.mem_append] at hp hf;rcases hp with hp|hp
    ·exact hf p (.inl hp)
    ·obtain ⟨y,hy,hp⟩:=List.mem_flatMap.1 hp;have hup:0<=up t.kind b:=by simp only[up];split<;>omega
     rcases List.mem_or_eq_of_mem_set hy with hy|hyv
     ·exact hf p (.inr (List.mem_flatMap.2 ⟨y,hy,hp⟩))
     ·rw[hyv] at hp;exact i3 C hC _ hup (fun p hp=>hf p (.inr (List.mem_flatMap.2 ⟨_,hm,hp⟩))) p hp
def CQ(σ:Int->Tm)(i c:Int):Tm:=if i<c then vT i else(σ (i-c)).re (zn 0 c) 0
theorem Ydl(s:Tm)(m n c:Int)(hm:0<=m)(hn:m<=n):(s.re (zn 0 n) 0).re (zn m c) 0=s.re (zn 0 (n+c)) 0:=by
 rw[HE];refine AZ s 0 fun p hp=> ?_;simp only[xi,EX];congr 1;by_cases h:p.1-p.2>=0
 ·rw[if_pos h,if_pos (by omega),if_pos h];omega
 ·rw[if_neg h,if_neg (by omega),if_neg h]
theorem Yg5(s a:Tm)(c n:Int)(hc:0<=c)(hn:c<=n):(s.re (zn 0 (n+1)) 0).re (xm 0 a) c=s.re (zn 0 n) 0:=by
 rw[uj _ c,HE];refine AZ s 0 fun p hp=> ?_;simp only[xi,EX,v9];by_cases h:p.1-p.2>=0
 ·rw[if_pos h,if_neg (by omega),if_pos (by omega),if_pos h];congr 1;omega
 ·rw[if_neg h,if_neg (by omega),if_neg (by omega),if_neg h]
theorem Zvu(s:Tm)(c d:Int):s.re (zn 0 c) d=s.re (zn d c) 0:=by
 rw[uj _ d];refine AZ s 0 fun p hp=> ?_;simp only[xi];congr 1;by_cases h:p.1-p.2>=d
 ·rw[if_pos h,if_pos (by omega)]
 ·rw[if_neg h,if_neg (by omega)]
theorem Zzx(σ:Int->Tm)(a:Tm)(b c:Int)(hb:0<=b)(hc:0<=c):(a.re (zn 0 c) 0).re (fun i d=>CQ σ i (d+b)) c=(a.re (CQ σ) b).re (zn 0 c) 0:=by
 rw[uj _ c,HE,uj (CQ σ) b,HE];refine AZ a 0 fun p hp=> ?_;have h2:=vu a 0 p hp;simp only[xi,EX];by_cases h:p.1<p.2
 ·rw[if_neg (by omega)];simp only[CQ];rw[if_pos (by omega),if_pos (by omega),EX,xi,if_neg (by omega)]
 ·rw[if_pos (by omega)];simp only[CQ];by_cases h3:p.1<p.2+b
  ·rw[if_pos (by omega),if_pos h3,EX,xi,if_pos (by omega)]
  ·rw[if_neg (by omega),if_neg h3,Zvu _ c,Ydl _ _ _ _ h2 (by omega)];rw[show p.1+c-(p.2+c+b)=p.1-(p.2+b) by omega,show p.2+c+b=p.2+b+c by omega]
theorem Ybx(σ:Int->Tm)(t a:Tm)(b:Int)(hb:0<=b):(t.re (xm 0 a) 0).re (CQ σ) b=(t.re (CQ σ) (b+1)).re (xm 0 (a.re (CQ σ) b)) 0:=by
 rw[uj (CQ σ) b,HE,uj (CQ σ) (b+1),HE];refine AZ t 0 fun p hp=> ?_;have h2:=vu t 0 p hp;by_cases h0:p.1-p.2=0
 ·have e:p.1=p.2:=by omega
  have e1:xm 0 a p.1 p.2=a.re (zn 0 p.2) 0:=by rw[v9,if_pos h0,Int.zero_add]
  have e2:CQ σ p.1 (p.2+(b+1))=vT p.1:=if_pos (by omega);rw[e1,e2,EX,v9,if_pos h0,Int.zero_add,Zzx σ a b p.2 hb h2]
 ·have e1:xm 0 a p.1 p.2=vT (if p.1-p.2>0 then p.1-1 else p.1):=by rw[v9,if_neg h0]
  rw[e1,EX];by_cases h:p.1<p.2
  ·rw[if_neg (by omega)];simp only[CQ];rw[if_pos (by omega),if_pos (by omega),EX,v9,if_neg (by omega),if_neg (by omega)]
  ·rw[if_pos (by omega)];simp only[CQ];by_cases h3:p.1<p.2+(b+1)
   ·rw[if_pos (by omega),if_pos h3,EX,v9,if_neg h0,if_pos (by omega)]
   ·rw[if_neg (by omega),if_neg h3,show p.2+(b+1)=(p.2+b)+1 by omega,Yg5 _ _ _ _ h2 (by omega)];congr 2;omega
def RD(a:Tm)(j:Int):Tm:=if j=0 then a else vT (j-1)
def KI(n j:Int):Tm:=vT (j+n)
theorem UL(a t:Tm):t.re (xm 0 a) 0=t.re (CQ (RD a)) 0:=by
 refine AZ t 0 fun p hp=> ?_;rw[v9];simp only[CQ,RD];by_cases h:p.1<p.2
 ·rw[if_neg (by omega),if_neg (by omega),if_pos h]
 ·rw[if_neg h];by_cases h0:p.1-p.2=0
  ·rw[if_pos h0,if_pos h0,Int.zero_add]
  ·rw[if_neg h0,if_neg h0,if_pos (by omega),EX,xi,if_pos (by omega)];congr 1;omega
theorem SG(n:Int)(hn:0<=n)(t:Tm):t.re (zn 0 n) 0=t.re (CQ (KI n)) 0:=by
 refine AZ t 0 fun p hp=> ?_;rw[xi];simp only[CQ,KI];by_cases h:p.1<p.2
 ·rw[if_neg (by omega),if_pos h]
 ·rw[if_neg h,if_pos (by omega),EX,xi,if_pos (by omega)];congr 1;omega
mutual
inductive BG:Tm->Tm->Prop
 |node {k i h xs ys} (hp:Dg xs ys):BG (.mk k i h xs) (.mk k i h ys)
 |beta {i th j s b b' a a'} (hb:BG b b') (ha:BG a a'):BG (.mk 3 i th [.mk 2 j s [b],a]) (b'.re (xm 0 a') 0)
 |rz {i th x x' f j s} (hx:BG x x'):BG (.mk 6 i th [x,f,.mk 4 j s []]) x'
 |rs {i th x x' f f' j s n n'} (hx:BG x x') (hf:BG f f') (hn:BG n n'):BG (.mk 6 i th [x,f,.mk 5 j s [n]]) (AP (AP f' n') (.mk 6 0 th [x',f',n']))
 |fz {i th x x' f j s} (hx:BG x x'):BG (.mk 9 i th [x,f,.mk 7 j s []]) x'
 |fs {i th x x' f f' j s n n' l l'} (hx:BG x x') (hf:BG f f') (hn:BG n n') (hl:BG l l'):BG (.mk 9 i th [x,f,.mk 8 j s [n,l]]) (AP (AP (AP f' n') l') (.mk 9 0 th [x',f',l']))
 |p1 {i th j s x x' y} (hx:BG x x'):BG (.mk 11 i th [.mk 10 j s [x,y]]) x'
 |p2 {i th j s x y y'} (hy:BG y y'):BG (.mk 12 i th [.mk 10 j s [x,y]]) y'
inductive Dg:List Tm->List Tm->Prop
 |nil:Dg [] []
 |cons {x y xs ys} (h:BG x y) (hs:Dg xs ys):Dg (x::xs) (y::ys)
end
theorem QX:∀(xs:List Tm),(∀x∈xs,BG x x)->Dg xs xs
 |[],_=> .nil
 |x::l,h=> .cons (h x (by simp)) (QX l fun y hy=>h y (by simp[hy]))
theorem BG.refl(t:Tm):BG t t:=by
 induction t using Tm.ind with
 |h t ih=>obtain⟨k,i,h,xs⟩:=t;exact .node (QX xs ih)
theorem TZ:∀(xs:List Tm) (i:Nat) (hi:i<xs.length) (u:Tm),BG xs[i] u->Dg xs (xs.set i u)
 |x::l,0,_,u,h=> .cons h (QX l fun y _=>BG.refl y)
 |x::l,i+1,hi,u,h=> .cons (BG.refl x) (TZ l i (by simpa using hi) u (by simpa using h))
theorem Yg2{t u:Tm}(h:RV t u):BG t u:=by
 cases h with
 |beta=>exact .beta (.refl _) (.refl _)
 |rz=>exact .rz (.refl _)
 |rs=>exact .rs (.refl _) (.refl _) (.refl _)
 |fz=>exact .fz (.refl _)
 |fs=>exact .fs (.refl _) (.refl _) (.refl _) (.refl _)
 |p1=>exact .p1 (.refl _)
 |p2=>exact .p2 (.refl _)
theorem Yhb(room:Int)(t:Tm):∀u,t.shape=true->Cy room t=some (u,true)->BG t u:=by
 induction t using Tm.ind with
 |h t ih=>
  intro u hs h;rw[FR] at h;by_cases hr:v6 t=true
  ·rw[if_pos hr] at h;by_cases hg:Fl t>room
   ·rw[if_pos hg] at h;simp at h
   ·rw[if_neg hg] at h;simp at h;subst h;exact Yg2 (Jw hs hr)
  ·rw[if_neg hr] at h;simp only[Option.map_eq_some_iff] at h;obtain⟨q,h1,h2⟩:=h;obtain⟨i,hi,v,h3,h4⟩:=N7 room _ _ h1;have h5:q.2=true:=by simpa using (congrArg Prod.snd h2)
   have h6:u= .mk t.kind t.index t.ty (t.args.set i v):=by rw[<-h4];exact(congrArg Prod.fst h2).symm
   subst h6;rw[h5] at h3;have hm:=List.getElem_mem hi;have:=ih _ hm v (zg hs _ hm) h3;obtain⟨k,j,th,xs⟩:=t;exact .node (TZ xs i hi v this)
mutual
theorem u6{σ σ':Int->Tm}(hσ:∀i c,0<=c->BG (CQ σ i c) (CQ σ' i c)):∀{t u:Tm},BG t u->∀b:Int,0<=b->BG (t.re (CQ σ) b) (u.re (CQ σ') b)
 |_,_,.node (k:=k) (i:=i) (h:=h) (xs:=xs) (ys:=ys) hp,b,hb=>by
  by_cases h1:k=1
  ·subst h1;rw[vr (t:= .mk 1 i h xs) rfl,vr (t:= .mk 1 i h ys) rfl];exact hσ i b hb
  ·rw[xn (t:= .mk k i h xs) h1,xn (t:= .mk k i h ys) h1];exact .node (Tb hσ hp (up k b) (by simp only[up];split<;>omega))
 |_,_,.beta (b':=b') (a':=a') h1 h2,b,hb=>by
  rw[Ybx σ' b' a' b hb];simp only[Tm.re,Tm.res,up];simp only[show ¬((3:Int)=1) by decide,show ¬((3:Int)=2) by decide,show ¬((2:Int)=1) by decide,if_false,if_true];exact .beta (u6 hσ h1 (b+1) (by omega)) (u6 hσ h2 b hb)
 |_,_,.rz h1,b,hb=>by
  simp only[Tm.re,Tm.res,up];simp only[show ¬((6:Int)=1) by decide,show ¬((6:Int)=2) by decide,show ¬((4:Int)=1) by decide,if_false];exact .rz (u6 hσ h1 b hb)
 |_,_,.rs h1 h2 h3,b,hb=>by
  simp only[AP,Tm.re,Tm.res,up];simp only[show ¬((6:Int)=1) by decide,show ¬((6:Int)=2) by decide,show ¬((5:Int)=1) by decide,show ¬((5:Int)=2) by decide,show ¬((3:Int)=1) by decide,show ¬((3:Int)=2) by decide,if_false];exact .rs (u6 hσ h1 b hb) (u6 hσ h2 b hb) (u6 hσ h3 b hb)
 |_,_,.fz h1,b,hb=>by
  simp only[Tm.re,Tm.res,up];simp only[show ¬((9:Int)=1) by decide,show ¬((9:Int)=2) by decide,show ¬((7:Int)=1) by decide,if_false];exact .fz (u6 hσ h1 b hb)
 |_,_,.fs h1 h2 h3 h4,b,hb=>by
  simp only[AP,Tm.re,Tm.res,up];simp only[show ¬((9:Int)=1) by decide,show ¬((9:Int)=2) by decide,show ¬((8:Int)=1) by decide,show ¬((8:Int)=2) by decide,show ¬((3:Int)=1) by decide,show ¬((3:Int)=2) by decide,if_false];exact .fs (u6 hσ h1 b hb) (u6 hσ h2 b hb) (u6 hσ h3 b hb) (u6 hσ h4 b hb)
 |_,_,.p1 h1,b,hb=>by
  simp only[Tm.re,Tm.res,up];simp only[show ¬((11:Int)=1) by decide,show ¬((11:Int)=2) by decide,show ¬((10:Int)=1) by decide,show ¬((10:Int)=2) by decide,if_false];exact .p1 (u6 hσ h1 b hb)
 |_,_,.p2 h1,b,hb=>by
  simp only[Tm.re,Tm.res,up];simp only[show ¬((12:Int)=1) by decide,show ¬((12:Int)=2) by decide,show ¬((10:Int)=1) by decide,show ¬((10:Int)=2) by decide,if_false];exact .p2 (u6 hσ h1 b hb)
theorem Tb{σ σ':Int->Tm}(hσ:∀i c,0<=c->BG (CQ σ i c) (CQ σ' i c)):∀{xs ys:List Tm},Dg xs ys->∀b:Int,0<=b->Dg (xs.map (Tm.re (CQ σ) b)) (ys.map (Tm.re (CQ σ') b))
 |_,_,.nil,_,_=> .nil
 |_,_,.cons h hs,b,hb=> .cons (u6 hσ h b hb) (Tb hσ hs b hb)
end
theorem Zy0{t u:Tm}(h:BG t u)(n:Int)(hn:0<=n):BG (t.re (zn 0 n) 0) (u.re (zn 0 n) 0):=by
 rw[SG n hn,SG n hn];refine u6 (fun i c _=> ?_) h 0 (Int.le_refl _);exact BG.refl _
theorem Ycq{b b' a a':Tm}(hb:BG b b')(ha:BG a a'):BG (b.re (xm 0 a) 0) (b'.re (xm 0 a') 0):=by
 rw[UL,UL];refine u6 (fun i c hc=> ?_) hb 0 (Int.le_refl _);simp only[CQ,RD];by_cases h:i<c
 ·rw[if_pos h,if_pos h];exact BG.refl _
 ·rw[if_neg h,if_neg h];by_cases h0:i-c=0
  ·rw[if_pos h0,if_pos h0];exact Zy0 ha c hc
  ·rw[if_neg h0,if_neg h0];exact BG.refl _
theorem Tt:∀(xs:List Tm),(∀x∈xs,∃w,∀u,BG x u->BG u w)->∃ws,∀ys,Dg xs ys->Dg ys ws
 |[],_=>⟨[],fun ys h=>by cases h;exact .nil⟩
 |x::l,h=>by
  obtain⟨w,hw⟩:=h x (by simp);obtain⟨ws,Kl⟩:=Tt l fun y hy=>h y (by simp[hy]);exact⟨w::ws,fun ys hy=>by cases hy with|cons h1 h2=>exact .cons (hw _ h1) (Kl _ h2)⟩
theorem Lf{f f' x x':Tm}(hf:BG f f')(hx:BG x x'):BG (AP f x) (AP f' x'):= .node (.cons hf (.cons hx .nil))
theorem tri:∀(n:Nat) (t:Tm),t.size<=n->∃w,∀u,BG t u->BG u w:=by
 intro n;induction n with
 |zero=>intro t h;have:=t.size_pos;omega
 |succ n ih=>
 intro t ht;by_cases hr:∃u,RV t u
 ·obtain ⟨x0,hr⟩:=hr;cases hr with
  |beta i th j s b a=>
   simp only[Tm.size,Tm.sizes] at ht;obtain⟨wb,hb⟩:=ih b (by omega);obtain⟨wa,ha⟩:=ih a (by omega);refine⟨wb.re (xm 0 wa) 0,fun u hu=> ?_⟩;cases hu with
   |node hp=>
    cases hp with|cons h1 h2=>cases h2 with|cons h2 h3=>cases h3;cases h1 with|node h4=>cases h4 with|cons h4 h5=>cases h5;exact .beta (hb _ h4) (ha _ h2)
   |beta h1 h2=>exact Ycq (hb _ h1) (ha _ h2)
  |rz i th _ f j s=>
   simp only[Tm.size,Tm.sizes] at ht;obtain⟨wx,hx⟩:=ih x0 (by omega);refine⟨wx,fun u hu=> ?_⟩;cases hu with
   |node hp=>
    cases hp with|cons h1 h2=>cases h2 with|cons h2 h3=>cases h3 with|cons h3 h4=>cases h4;cases h3 with|node h5=>cases h5;exact .rz (hx _ h1)
   |rz h1=>exact hx _ h1
  |rs i th x f j s n=>
   simp only[Tm.size,Tm.sizes] at ht;obtain⟨wx,hx⟩:=ih x (by omega);obtain⟨wf,hf⟩:=ih f (by omega);obtain⟨wn,hn⟩:=ih n (by omega);refine⟨AP (AP wf wn) (.mk 6 0 th [wx,wf,wn]),fun u hu=> ?_⟩;cases hu with
   |node hp=>
    cases hp with|cons h1 h2=>cases h2 with|cons h2 h3=>cases h3 with|cons h3 h4=>cases h4;cases h3 with|node h5=>cases h5 with|cons h5 h6=>cases h6;exact .rs (hx _ h1) (hf _ h2) (hn _ h5)
   |rs h1 h2 h3=>exact Lf (Lf (hf _ h2) (hn _ h3)) (.node (.cons (hx _ h1) (.cons (hf _ h2) (.cons (hn _ h3) .nil))))
  |fz i th _ f j s=>
   simp only[Tm.size,Tm.sizes] at ht;obtain⟨wx,hx⟩:=ih x0 (by omega);refine⟨wx,fun u hu=> ?_⟩;cases hu with
   |node hp=>
    cases hp with|cons h1 h2=>cases h2 with|cons h2 h3=>cases h3 with|cons h3 h4=>cases h4;cases h3 with|node h5=>cases h5;exact .fz (hx _ h1)
   |fz h1=>exact hx _ h1
  |fs i th x f j s n l=>
   simp only[Tm.size,Tm.sizes] at ht;obtain⟨wx,hx⟩:=ih x (by omega);obtain⟨wf,hf⟩:=ih f (by omega);obtain⟨wn,hn⟩:=ih n (by omega);obtain⟨wl,hl⟩:=ih l (by omega);refine⟨AP (AP (AP wf wn) wl) (.mk 9 0 th [wx,wf,wl]),fun u hu=> ?_⟩;cases hu with
   |node hp=>
    cases hp with|cons h1 h2=>cases h2 with|cons h2 h3=>cases h3 with|cons h3 h4=>cases h4;cases h3 with|node h5=>cases h5 with|cons h5 h6=>cases h6 with|cons h6 h7=>cases h7;exact .fs (hx _ h1) (hf _ h2) (hn _ h5) (hl _ h6)
   |fs h1 h2 h3 h4=>exact Lf (Lf (Lf (hf _ h2) (hn _ h3)) (hl _ h4)) (.node (.cons (hx _ h1) (.cons (hf _ h2) (.cons (hl _ h4) .nil))))
  |p1 i th j s _ y=>
   simp only[Tm.size,Tm.sizes] at ht;obtain⟨wx,hx⟩:=ih x0 (by omega);refine⟨wx,fun u hu=> ?_⟩;cases hu with
   |node hp=>
    cases hp with|cons h1 h2=>cases h2;cases h1 with|node h5=>cases h5 with|cons h5 h6=>cases h6 with|cons h6 h7=>cases h7;exact .p1 (hx _ h5)
   |p1 h1=>exact hx _ h1
  |p2 i th j s x _=>
   simp only[Tm.size,Tm.sizes] at ht;obtain⟨wx,hx⟩:=ih x0 (by omega);refine⟨wx,fun u hu=> ?_⟩;cases hu with
   |node hp=>
    cases hp with|cons h1 h2=>cases h2;cases h1 with|node h5=>cases h5 with|cons h5 h6=>cases h6 with|cons h6 h7=>cases h7;exact .p2 (hx _ h6)
   |p2 h1=>exact hx _ h1
 ·obtain ⟨k,i,th,xs⟩:=t;have hz:=Tm.size_eq (.mk k i th xs);simp only[Tm.Ae] at hz;obtain⟨ws,Kl⟩:=Tt xs fun x hx=>ih x (by have:=ze Tm.size hx;omega);refine⟨.mk k i th ws,fun u hu=> ?_⟩;cases hu with
  |node hp=>exact .node (Kl _ hp)
  |beta=>exact absurd ⟨_,.beta ..⟩ hr
  |rz=>exact absurd ⟨_,.rz ..⟩ hr
  |rs=>exact absurd ⟨_,.rs ..⟩ hr
  |fz=>exact absurd ⟨_,.fz ..⟩ hr
  |fs=>exact absurd ⟨_,.fs ..⟩ hr
  |p1=>exact absurd ⟨_,.p1 ..⟩ hr
  |p2=>exact absurd ⟨_,.p2 ..⟩ hr
noncomputable def dev(t:Tm):Tm:=Classical.choose (tri _ t (Nat.le_refl _))
noncomputable def Pm:Nat->Tm->Tm
 |0,t=>t
 |n+1,t=>Pm n (dev t)
inductive FT:Tm->Tm->Prop
 |refl (t:Tm):FT t t
 |step {t s u:Tm} (h:BG t s) (hs:FT s u):FT t u
theorem FT.trans{t s u:Tm}(h:FT t s):FT s u->FT t u:=by
 induction h with
 |refl=>exact id
 |step h1 _ ih=>exact fun h=> .step h1 (ih h)
theorem FT.one{t u:Tm}(h:BG t u):FT t u:= .step h (.refl _)
def nf(t:Tm):Prop:=∀u,BG t u->u=t
mutual
theorem OI{room:Int}:∀{t u:Tm},BG t u->Cy room t=none->u=t
 |_,_,.node (k:=k) (i:=i) (h:=h) (xs:=xs) (ys:=ys) hp,hn=>by
  rw[FR] at hn;by_cases hr:v6 (.mk k i h xs)=true
  ·rw[if_pos hr] at hn;cases hn
  ·rw[if_neg hr] at hn;simp only[Option.map_eq_none_iff,Tm.Ae] at hn;rw[UQ hp hn]
 |_,_,.beta ..,hn=>by rw[FR] at hn;simp[v6,Tm.arg] at hn
 |_,_,.rz ..,hn=>by rw[FR] at hn;simp[v6,Tm.arg] at hn
 |_,_,.rs ..,hn=>by rw[FR] at hn;simp[v6,Tm.arg] at hn
 |_,_,.fz ..,hn=>by rw[FR] at hn;simp[v6,Tm.arg] at hn
 |_,_,.fs ..,hn=>by rw[FR] at hn;simp[v6,Tm.arg] at hn
 |_,_,.p1 ..,hn=>by rw[FR] at hn;simp[v6,Tm.arg] at hn
 |_,_,.p2 ..,hn=>by rw[FR] at hn;simp[v6,Tm.arg] at hn
theorem UQ{room:Int}:∀{xs ys:List Tm},Dg xs ys->Fq room xs=none->ys=xs
 |_,_,.nil,_=>rfl
 |_,_,.cons (x:=x) (xs:=xs) h hs,hn=>by
  simp only[Fq] at hn;cases hx:Cy room x with
  |some p=>rw[hx] at hn;cases hn
  |none=>
   rw[hx] at hn;simp only[Option.map_eq_none_iff] at hn;rw[OI h hx,UQ hs hn]
end
end Go.Ab
