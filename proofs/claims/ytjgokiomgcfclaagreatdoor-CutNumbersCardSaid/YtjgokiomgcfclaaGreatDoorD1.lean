/- A part of the proofs of this seat. No conditions. -/
import Derived.Test.YtjgokiomgcfclaaGreatDoorA2
namespace Go.Ab
open Go
set_option linter.all false
@[simp] theorem Ykh(E:Env)(T:Nat)(k:IntKind)(n:Int):zd E T (.int k n)= .int k n:=rfl
@[simp] theorem Yj5(E:Env)(T:Nat)(b:Bool):zd E T (.bool b)= .bool b:=rfl
@[simp] theorem Ykk(E:Env)(T:Nat)(s:ByteArray):zd E T (.string s)= .str s:=rfl
theorem yv{α:Type}(f:α->Nat)(l:List α):∀m (h:m<l.length),((l.take (m+1)).map f).sum=((l.take m).map f).sum+f l[m]:=by
 induction l with
 |nil=>intro m h;simp at h
 |cons t l ih=>
  intro m h;cases m with
  |zero=>simp
  |succ m=>simp only[List.length_cons] at h;simp only[List.take_succ_cons,List.map_cons,List.sum_cons,List.getElem_cons_succ,ih m (by omega)];omega
theorem ze{α:Type}(f:α->Nat){l:List α}{t:α}(h:t∈l):f t<=(l.map f).sum:=by
 induction l with
 |nil=>cases h
 |cons x l ih=>rcases List.mem_cons.1 h with rfl|h;· simp
               ·have:=ih h;simp only[List.map_cons,List.sum_cons];omega
theorem zw{α:Type}(f:α->Nat)(l:List α)(m:Nat):((l.take m).map f).sum<=(l.map f).sum:=by
 induction l generalizing m with
 |nil=>simp
 |cons t l ih=>cases m with
  |zero=>simp
  |succ m=>have:=ih m;simp only[List.take_succ_cons,List.map_cons,List.sum_cons];omega
theorem zg{α:Type}(f:α->Nat)(hf:∀x,1<=f x):∀l:List α,l.length<=(l.map f).sum
 |[]=>Nat.le_refl _
 |x::l=>by have:=zg f hf l;have:=hf x;simp only[List.length_cons,List.map_cons,List.sum_cons];omega
theorem FL{α:Type}(p:α->Bool)(l:List α)(h:∀j (hj:j<l.length),p l[j]=true):l.all p=true:=by
 rw[List.all_eq_true];intro x hx;obtain⟨j,hj,rfl⟩:=List.mem_iff_getElem.1 hx;exact h j hj
theorem vx{α:Type}(p:α->Bool){l:List α}{j:Nat}(hj:j<l.length)(h:p l[j]=false):l.all p=false:=by
 cases hb:l.all p with
 |false=>rfl
 |true=>rw[List.all_eq_true.1 hb _ (List.getElem_mem hj)] at h;cases h
theorem yb{α:Type}{p:α->Prop}{l:List α}{m:Nat}(hm:m<l.length)(h:∀j (hj:j<l.length),j<m->p l[j])(h1:p l[m]):∀j (hj:j<l.length),j<m+1->p l[j]:=by
 intro j hj hlt;by_cases hjm:j=m
 ·subst hjm;exact h1
 ·exact h j hj (by omega)
def DA(k:Int):Option Nat:=if k=1\/k=2\/k=5 then some 0 else if k=3\/k=4 then some 2 else none
mutual
def Ty.shape:Ty->Bool
 | .mk k xs=>(match DA k with|some n=>xs.length==n|none=>false)&&Ty.Bg xs
def Ty.Bg:List Ty->Bool
 |[]=>true
 |t::l=>t.shape&&Ty.Bg l
end
mutual
def Ty.size:Ty->Nat
 | .mk _ xs=>1+Ty.sizes xs
def Ty.sizes:List Ty->Nat
 |[]=>0
 |t::l=>t.size+Ty.sizes l
end
theorem Ty.BH:∀l:List Ty,Ty.sizes l=(l.map Ty.size).sum
 |[]=>rfl
 |t::l=>by simp only[Ty.sizes,Ty.BH l,List.map_cons,List.sum_cons]
theorem Ty.Bw:∀l:List Ty,Ty.Bg l=l.all Ty.shape
 |[]=>rfl
 |t::l=>by simp only[Ty.Bg,Ty.Bw l,List.all_cons]
theorem Ty.size_eq(t:Ty):t.size=1+(t.args.map Ty.size).sum:=by cases t;simp only[Ty.size,Ty.BH,Ty.Ac]
theorem Ty.Ai(t:Ty):t.shape=((match DA t.kind with|some n=>t.args.length==n|none=>false)&&t.args.all Ty.shape):=by cases t;simp only[Ty.shape,Ty.Bw,Ty.Ac,Ty.Ah]
theorem Ty.size_pos(t:Ty):1<=t.size:=by rw[Ty.size_eq];omega
def Ty.nodes(t:Ty):Nat:=if t.shape then t.size else 0
theorem Ty.D5(t:Ty):t.nodes<=t.size:=by simp only[Ty.nodes];split<;>omega
theorem Ty.ind{P:Ty->Prop}(h:∀t,(∀x∈t.args,P x)->P t)(t:Ty):P t:=by
 have:∀b (t:Ty),t.size<=b->P t:=by
  intro b;induction b with
  |zero=>intro t ht;have:=t.size_pos;omega
  |succ b ih=>
   intro t ht;refine h t fun x hx=>ih x ?_;have:=ze Ty.size hx;have:=t.size_eq;omega
 exact this _ t (Nat.le_refl _)
def CZ(k:Int):Option Nat:=
 if k=1\/k=4\/k=7\/k=13 then some 0 else if k=2\/k=5\/k=11\/k=12 then some 1 else if k=3\/k=8\/k=10 then some 2 else if k=6\/k=9 then some 3 else none
def wo(k:Int):Bool:=k==2||k==6||k==9
def Ty.BJ(t:Ty):Bool:=t.kind==0&&t.args.length==0
def Ty.ok(t:Ty):Bool:=t.shape&&decide (t.size<=64)
def Tm.head(t:Tm):Bool:=(match CZ t.kind with|some n=>t.args.length==n|none=>false)&&decide (0<=t.index)&&(t.index==0||t.kind==1)&&(bif wo t.kind then t.ty.ok else t.ty.BJ)
mutual
def Tm.shape:Tm->Bool
 | .mk k i h xs=>(Tm.mk k i h xs).head&&Tm.Bg xs
def Tm.Bg:List Tm->Bool
 |[]=>true
 |t::l=>t.shape&&Tm.Bg l
end
mutual
def Tm.size:Tm->Nat
 | .mk _ _ _ xs=>1+Tm.sizes xs
def Tm.sizes:List Tm->Nat
 |[]=>0
 |t::l=>t.size+Tm.sizes l
end
mutual
def Tm.full:Tm->Nat
 | .mk _ _ h xs=>1+h.size+Tm.As xs
def Tm.As:List Tm->Nat
 |[]=>0
 |t::l=>t.full+Tm.As l
end
theorem Tm.BH:∀l:List Tm,Tm.sizes l=(l.map Tm.size).sum
 |[]=>rfl
 |t::l=>by simp only[Tm.sizes,Tm.BH l,List.map_cons,List.sum_cons]
theorem Tm.B4:∀l:List Tm,Tm.As l=(l.map Tm.full).sum
 |[]=>rfl
 |t::l=>by simp only[Tm.As,Tm.B4 l,List.map_cons,List.sum_cons]
theorem Tm.Bw:∀l:List Tm,Tm.Bg l=l.all Tm.shape
 |[]=>rfl
 |t::l=>by simp only[Tm.Bg,Tm.Bw l,List.all_cons]
theorem Tm.size_eq(t:Tm):t.size=1+(t.args.map Tm.size).sum:=by cases t;simp only[Tm.size,Tm.BH,Tm.Ac]
theorem Tm.Ag(t:Tm):t.full=1+t.ty.size+(t.args.map Tm.full).sum:=by cases t;simp only[Tm.full,Tm.B4,Tm.Ac,Tm.AL]
theorem Tm.Ai(t:Tm):t.shape=(t.head&&t.args.all Tm.shape):=by cases t;simp only[Tm.shape,Tm.Bw,Tm.Ac]
theorem Tm.size_pos(t:Tm):1<=t.size:=by rw[Tm.size_eq];omega
theorem Tm.Aa(t:Tm):1<=t.full:=by rw[Tm.Ag];omega
theorem Tm.ind{P:Tm->Prop}(h:∀t,(∀x∈t.args,P x)->P t)(t:Tm):P t:=by
 have:∀b (t:Tm),t.size<=b->P t:=by
  intro b;induction b with
  |zero=>intro t ht;have:=t.size_pos;omega
  |succ b ih=>
   intro t ht;refine h t fun x hx=>ih x ?_;have:=ze Tm.size hx;have:=t.size_eq;omega
 exact this _ t (Nat.le_refl _)
theorem Tm.Ak(t:Tm):t.size<=t.full:=by
 induction t using Tm.ind with
 |h t ih=>
  have:∀l:List Tm,(∀x∈l,x.size<=x.full)->(l.map Tm.size).sum<=(l.map Tm.full).sum:=by
   intro l;induction l with
   |nil=>intro _;simp
   |cons x l ih=>intro h;have:=ih fun y hy=>h y (by simp[hy]);have:=h x (by simp);simp only[List.map_cons,List.sum_cons];omega
  have:=this t.args ih;rw[t.size_eq,t.Ag];omega
def Tm.nodes(t:Tm):Nat:=if t.shape then t.size else 0
theorem Tm.D5(t:Tm):t.nodes<=t.size:=by simp only[Tm.nodes];split<;>omega
def Ty.err(t:Ty):Int:=if t.shape=false then 2 else if t.size>64 then 4 else 0
def Ty.num(t:Ty):Int:=if t.err=0 then t.size else 0
def Ba:Ty:= .mk 0 []
def Tm.err(t:Tm):Int:=if t.shape=false then 2 else if t.size>4096 then 4 else 0
def Tm.num(t:Tm):Int:=if t.err=0 then t.size else 0
def AU:Tm:= .mk 0 0 (.mk 0 []) []
def NR(t:Ty):V:= .At [.i t.nodes,.bool t.shape]
def J7(t:Tm):V:= .At [.i t.nodes,.bool t.shape]
abbrev big:Nat:=1099511627776
end Go.Ab
namespace Go.Ab
set_option linter.all false
mutual
def Ty.same:Ty->Ty->Bool
 | .mk k xs,.mk k' ys=>k==k'&&Ty.BG xs ys
def Ty.BG:List Ty->List Ty->Bool
 |[],[]=>true
 |x::xs,y::ys=>x.same y&&Ty.BG xs ys
 |_,_=>false
end
mutual
theorem Ty.B7:∀a b:Ty,a.same b=true↔a=b
 | .mk k xs,.mk k' ys=>by simp only[Ty.same,Bool.and_eq_true,beq_iff_eq,Ty.mk.injEq,Ty.BT xs ys]
theorem Ty.BT:∀a b:List Ty,Ty.BG a b=true↔a=b
 |[],[]=>by simp[Ty.BG]
 |x::xs,y::ys=>by simp only[Ty.BG,Bool.and_eq_true,List.cons.injEq,Ty.B7 x y,Ty.BT xs ys]
 |[],_::_=>by simp[Ty.BG]
 |_::_,[]=>by simp[Ty.BG]
end
instance:DecidableEq Ty:=fun a b=>decidable_of_iff _ (Ty.B7 a b)
mutual
def Tm.same:Tm->Tm->Bool
 | .mk k i h xs,.mk k' i' h' ys=>k==k'&&i==i'&&decide (h=h')&&Tm.BG xs ys
def Tm.BG:List Tm->List Tm->Bool
 |[],[]=>true
 |x::xs,y::ys=>x.same y&&Tm.BG xs ys
 |_,_=>false
end
mutual
theorem Tm.B7:∀a b:Tm,a.same b=true↔a=b
 | .mk k i h xs,.mk k' i' h' ys=>by simp only[Tm.same,Bool.and_eq_true,beq_iff_eq,Tm.mk.injEq,Tm.BT xs ys,decide_eq_true_eq,and_assoc]
theorem Tm.BT:∀a b:List Tm,Tm.BG a b=true↔a=b
 |[],[]=>by simp[Tm.BG]
 |x::xs,y::ys=>by simp only[Tm.BG,Bool.and_eq_true,List.cons.injEq,Tm.B7 x y,Tm.BT xs ys]
 |[],_::_=>by simp[Tm.BG]
 |_::_,[]=>by simp[Tm.BG]
end
instance:DecidableEq Tm:=fun a b=>decidable_of_iff _ (Tm.B7 a b)
theorem Ty.eq_iff(a b:Ty):a=b↔a.kind=b.kind/\a.args=b.args:=by cases a;cases b;simp
theorem Tm.eq_iff(a b:Tm):a=b↔a.kind=b.kind/\a.index=b.index/\a.ty=b.ty/\a.args=b.args:=by cases a;cases b;simp
theorem I5{α:Type}{xs ys:List α}(hl:xs.length=ys.length)(h:∀j (hj:j<xs.length),j<xs.length->xs[j]=ys[j]'(by omega)):xs=ys:=
 List.ext_getElem hl fun i h1 h2=>h i h1 h1
theorem I7{α:Type}{xs ys:List α}{m:Nat}(h1:m<xs.length)(h2:m<ys.length)(h:¬xs[m]=ys[m]):¬xs=ys:=fun he=>by subst he;exact h rfl
theorem Jm{α:Type}{xs ys:List α}(hl:xs.length=ys.length){m:Nat}(hm:m<xs.length)(h:∀j (hj:j<xs.length),j<m->xs[j]=ys[j]'(by omega))(h1:xs[m]=ys[m]'(by omega)):∀j (hj:j<xs.length),j<m+1->xs[j]=ys[j]'(by omega):=by
 intro j hj hlt;by_cases hjm:j=m
 ·subst hjm;exact h1
 ·exact h j hj (by omega)
def up(k b:Int):Int:=if k=2 then b+1 else b
mutual
def Tm.vars(b:Int):Tm->List (Int×Int)
 | .mk k i _ xs=>(if k=1 then [(i,b)] else [])++Tm.B1 (up k b) xs
def Tm.B1(b:Int):List Tm->List (Int×Int)
 |[]=>[]
 |t::l=>t.vars b++Tm.B1 b l
end
theorem Tm.Ff(b:Int):∀l:List Tm,Tm.B1 b l=l.flatMap (Tm.vars b)
 |[]=>rfl
 |t::l=>by simp only[Tm.B1,Tm.Ff b l,List.flatMap_cons]
theorem Tm.AM(b:Int)(t:Tm):t.vars b=(if t.kind=1 then [(t.index,b)] else [])++t.args.flatMap (Tm.vars (up t.kind b)):=by cases t;simp only[Tm.vars,Tm.Ff,Tm.Ah,Tm.A4,Tm.Ac];rfl
mutual
def Tm.re(g:Int->Int->Tm)(b:Int):Tm->Tm
 | .mk k i h xs=>if k=1 then g i b else .mk k i h (Tm.res g (up k b) xs)
def Tm.res(g:Int->Int->Tm)(b:Int):List Tm->List Tm
 |[]=>[]
 |t::l=>t.re g b::Tm.res g b l
end
theorem Tm.DO(g:Int->Int->Tm)(b:Int):∀l:List Tm,Tm.res g b l=l.map (Tm.re g b)
 |[]=>rfl
 |t::l=>by simp only[Tm.res,Tm.DO g b l,List.map_cons]
theorem Tm.Bz(g:Int->Int->Tm)(b:Int)(t:Tm):t.re g b=if t.kind=1 then g t.index b else .mk t.kind t.index t.ty (t.args.map (Tm.re g (up t.kind b))):=by cases t;simp only[Tm.re,Tm.DO,Tm.Ah,Tm.A4,Tm.Ac,Tm.AL];rfl
theorem Jn{α β:Type}(f:α->List β)(l:List α)(m:Nat)(h:m<l.length):(l.take (m+1)).flatMap f=(l.take m).flatMap f++f l[m]:=by
 rw[<-List.take_append_getElem h,List.flatMap_append];simp
theorem ya{α β:Type}(f:α->β)(l:List α)(m:Nat)(h:m<l.length):(l.take (m+1)).map f=(l.take m).map f++[f l[m]]:=by
 rw[<-List.take_append_getElem h,List.map_append];simp
theorem xi{α:Type}{f g:α->Nat}:∀(l:List α),(∀x∈l,f x<=g x)->(l.map f).sum<=(l.map g).sum
 |[],_=>Nat.le_refl _
 |x::l,h=>by have:=xi l fun y hy=>h y (by simp[hy]);have:=h x (by simp);simp only[List.map_cons,List.sum_cons];omega
theorem YW(l:List Tm)(f:Tm->List (Int×Int))(h:∀x∈l,(f x).length<=x.size):(l.flatMap f).length<=(l.map Tm.size).sum:=by
 induction l with
 |nil=>simp
 |cons x l ih=>
  have:=ih fun y hy=>h y (by simp[hy]);have:=h x (by simp);simp only[List.flatMap_cons,List.length_append,List.map_cons,List.sum_cons];omega
theorem Tm.CQ(t:Tm):∀b,(t.vars b).length<=t.size:=by
 induction t using Tm.ind with
 |h t ih=>
  intro b;rw[t.AM,t.size_eq];have:=YW t.args (Tm.vars (up t.kind b)) fun x hx=>ih x hx _;split<;>simp only[List.length_append,List.length_cons,List.length_nil]<;>omega
def Tm.near(t:Tm):Bool:=(t.vars 0).all fun p=>decide (p.1<=536870912)
def cnt(at_:Int)(l:List (Int×Int)):Nat:=(l.filter fun p=>p.1-p.2==at_).length
theorem x6(at_:Int)(l l':List (Int×Int)):cnt at_ (l++l')=cnt at_ l+cnt at_ l':=by simp[cnt]
theorem P9(at_:Int)(l:List (Int×Int)):cnt at_ l<=l.length:=List.length_filter_le _ _
theorem Tm.AB(t:Tm)(h:t.shape=true):∀b,∀p∈t.vars b,0<=p.1:=by
 induction t using Tm.ind with
 |h t ih=>
  intro b p hp;rw[t.Ai,Bool.and_eq_true] at h;rw[t.AM,List.mem_append] at hp;rcases hp with hp|hp
  ·split at hp
   ·simp at hp;subst hp;have:=h.1;simp only[Tm.head,Bool.and_eq_true,decide_eq_true_eq] at this;exact this.1.1.2
   ·cases hp
  ·obtain ⟨x,hx,hp⟩:=List.mem_flatMap.1 hp;exact ih x hx (List.all_eq_true.1 h.2 x hx) _ p hp
def Af:Ty:= .mk 1 []
def Al:Ty:= .mk 2 []
def G9:Ty:= .mk 5 []
def B8(a b:Ty):Ty:= .mk 3 [a,b]
def yt(a b:Ty):Ty:= .mk 4 [a,b]
def Bk(t:Ty):Ty×Int:=if t.err=0 then(t,0) else(Ba,4)
def Bx(l:List Ty)(i:Nat):Ty:=l.getD i Ba
def yr(k:Int)(h:Ty)(l:List Ty):Ty×Int:=
 let a:=Bx l 0
 let b:=Bx l 1
 let c:=Bx l 2
 if k=3 then(if ¬a.kind=4\/¬Bx a.args 0=b then(Ba,7) else(Bx a.args 1,0))
 else if k=4 then(Af,0)
 else if k=5 then(if ¬a=Af then(Ba,7) else(Af,0))
 else if k=6 then(if ¬a=h\/¬b=yt Af (yt h h)\/¬c=Af then(Ba,7) else(h,0))
 else if k=7 then(Al,0)
 else if k=8 then(if ¬a=Af\/¬b=Al then(Ba,7) else(Al,0))
 else if k=9 then(if ¬a=h\/¬b=yt Af (yt Al (yt h h))\/¬c=Al then(Ba,7) else(h,0))
 else if k=10 then Bk (B8 a b)
 else if k=11\/k=12 then(if ¬a.kind=3 then(Ba,7) else if k=11 then(Bx a.args 0,0) else(Bx a.args 1,0))
 else(G9,0)
mutual
def Tm.inf:List Ty->Tm->Ty×Int
 |g,.mk k i h xs=>
  if k=1 then(if i>=g.length then(Ba,6) else(Bx g (g.length-1-i.toNat),0))
  else if k=2 then(if(Tm.AD (g++[h]) xs).2≠0 then(Ba,(Tm.AD (g++[h]) xs).2) else Bk (yt h (Bx (Tm.AD (g++[h]) xs).1 0)))
  else if(Tm.AD g xs).2≠0 then(Ba,(Tm.AD g xs).2) else yr k h (Tm.AD g xs).1
def Tm.AD:List Ty->List Tm->List Ty×Int
 |_,[]=>([],0)
 |g,t::l=>if(t.inf g).2≠0 then([],(t.inf g).2) else if(Tm.AD g l).2≠0 then([],(Tm.AD g l).2) else((t.inf g).1::(Tm.AD g l).1,0)
end
theorem uz(at_:Int)(p:Int×Int):cnt at_ [p]=if p.1-p.2=at_ then 1 else 0:=by simp only[cnt,List.filter_cons,List.filter_nil];by_cases h:p.1-p.2=at_<;>simp[h]
def zo(fr by_:Int)(i b:Int):Tm:= .mk 1 (if i-b>=fr then i+by_ else i) (.mk 0 []) []
def xu(at_:Int)(s:Tm)(i b:Int):Tm:=if i-b=at_ then s.re (zo 0 (at_+b)) 0 else .mk 1 (if i-b>at_ then i-1 else i) (.mk 0 []) []
def J1(n k:Int):Int:=((n.tmod k)+k).tmod k
structure Dk where
 l:List Int
 at_:Nat
def Dk.ok(d:Dk):Prop:=d.at_<=d.l.length/\d.l.length<1099511627776
def Dk.next(d:Dk)(n:Int):Int×Dk:=if h:n<1\/d.l.length<=d.at_ then(0,d) else(J1 (d.l[d.at_]'(by omega)) n,⟨d.l,d.at_+1⟩)
def Dk.cells(d:Dk):List V:=[.s .int d.l,.i d.at_]
def TE(t:Tm)(at_:Int)(s:Tm):Int:=
 if t.err≠0 then t.err else if ¬(0<=at_/\at_<=4096) then 1 else if s.err≠0 then s.err else if t.near=false\/s.near=false then 1 else if(t.size:Int)+cnt at_ (t.vars 0)*(s.size-1)>4096 then 4 else 0
theorem xn{t:Tm}(h:t.err=0):t.shape=true/\t.size<=4096:=by
 simp only[Tm.err] at h;split at h
 ·omega
 ·split at h
  ·omega
  ·rename_i h1 h2;exact⟨by simpa using h1,by omega⟩
theorem Qa{t:Tm}(h:t.err=0)(hn:t.near=true):∀p∈t.vars 0,0<=p.1/\p.1<549755813888:=fun p hp=>
 ⟨t.AB (xn h).1 0 p hp,by have:=List.all_eq_true.1 hn p hp;simp at this;omega⟩
theorem RA(c d:Int)(hc:0<=c/\c<=274877906944)(hd: -1<=d/\d<=4096): -274877906944<=c*d/\c*d<=1125899906842624:=by
 constructor
 ·have:=Int.mul_le_mul_of_nonneg_left hd.1 hc.1;omega
 ·have:=Int.mul_le_mul_of_nonneg_left hd.2 hc.1;omega
def Dk.type:Nat->Dk->Ty×Dk
 |0,d=>let r:=d.next 7;(if r.1=3 then .mk 2 [] else if r.1=4 then .mk 5 [] else .mk 1 [],r.2)
 |n+1,d=>
  let r:=d.next 7
  if r.1=5\/r.1=6 then
   let a:=r.2.type n
   let b:=a.2.type n
   (.mk (if r.1=5 then 3 else 4) [a.1,b.1],b.2)
  else(if r.1=3 then .mk 2 [] else if r.1=4 then .mk 5 [] else .mk 1 [],r.2)
def EB:Nat->Tm
 |0=> .mk 4 0 (.mk 0 []) []
 |n+1=> .mk 5 0 (.mk 0 []) [EB n]
def xd(n:Int):Tm:=if 0<=n/\n<4096 then EB n.toNat else AU
def Dk.types:Nat->Dk->List Ty×Dk
 |0,d=>([],d)
 |n+1,d=>let a:=d.type 1;let b:=a.2.types n;(a.1::b.1,b.2)
def Dk.ctx(d:Dk):List Ty×Dk:=(d.next 4).2.types (d.next 4).1.toNat
def Mp(f:Tm):List Tm->Tm
 |[]=>f
 |x::l=>Mp (.mk 3 0 (.mk 0 []) [f,x]) l
def vT(i:Int):Tm:= .mk 1 i (.mk 0 []) []
def C0(t:Tm):Tm:= .mk 2 0 (.mk 1 []) [t]
def Fk(b f n:Tm):Tm:= .mk 6 0 (.mk 1 []) [b,f,n]
def sT(t:Tm):Tm:= .mk 5 0 (.mk 0 []) [t]
def zT:Tm:= .mk 4 0 (.mk 0 []) []
def A0(f x:Tm):Tm:= .mk 3 0 (.mk 0 []) [f,x]
def Iq:Tm:=C0 (C0 (sT (vT 0)))
def Cj:Tm:=C0 (C0 (Fk (vT 1) Iq (vT 0)))
def Cl:Tm:=C0 (Fk zT (C0 (C0 (vT 1))) (vT 0))
def JR:Tm:=C0 (C0 (A0 Cl (vT 0)))
def Ei:Tm:=C0 (C0 (Fk (vT 1) JR (vT 0)))
def yk(t:Tm)(fr by_:Int):Int:=if t.err≠0 then t.err else if ¬(0<=fr/\fr<=4096)\/¬(0<=by_/\by_<=4096)\/t.near=false then 1 else 0
def va(g:List Ty)(t:Ty):List Int:=((List.range g.length).filter fun i=>decide (g[g.length-1-i]? =some t)).map Int.ofNat
def ug:List Ty->Int
 |[]=>0
 |t::l=>if t.err≠0 then t.err else ug l
theorem Vi:∀(l:List Ty) (m:Nat) (hm:m<l.length),(∀j (hj:j<l.length),j<m->l[j].err=0)->l[m].err≠0->ug l=l[m].err:=by
 intro l;induction l with
 |nil=>intro m hm;simp at hm
 |cons t l ih=>
  intro m hm h h1;cases m with
  |zero=>simp only[List.getElem_cons_zero] at h1;simp only[ug];rw[if_pos h1];rfl
  |succ m=>
   have h0:=h 0 (by simp) (by omega);simp only[List.getElem_cons_zero] at h0;simp only[ug,h0,ne_eq,not_true_eq_false,if_false,List.getElem_cons_succ];simp only[List.length_cons] at hm;exact ih m (by omega) (fun j hj hlt=>by have:=h (j+1) (by simp;omega) (by omega);simpa using this) h1
theorem Tg:∀(l:List Ty),(∀j (hj:j<l.length),j<l.length->l[j].err=0)->ug l=0:=by
 intro l;induction l with
 |nil=>intro _;rfl
 |cons t l ih=>
  intro h;have h0:=h 0 (by simp) (by simp);simp only[List.getElem_cons_zero] at h0;simp only[ug,h0,ne_eq,not_true_eq_false,if_false];exact ih fun j hj _=>by have:=h (j+1) (by simp;omega) (by simp;omega);simpa using this
def xg(l:List Ty):Int:=if l.length>16 then 3 else ug l
def MM(k:Int):Int:=if k=1\/k=4\/k=7\/k=13 then 0 else if k=2\/k=5\/k=11\/k=12 then 1 else if k=3\/k=8\/k=10 then 2 else if k=6\/k=9 then 3 else -1
def nT(k:Int)(l:List Tm):Tm:= .mk k 0 (.mk 0 []) l
def hT(k:Int)(s:Ty)(l:List Tm):Tm:= .mk k 0 s l
def BV(s:Ty)(x:Tm):Tm:= .mk 2 0 s [x]
def Gq(g:List Ty)(t:Ty)(i:Nat):Bool:=(Bx g (g.length-1-i)).kind==4&&decide (Bx (Bx g (g.length-1-i)).args 1=t)
def KL(g:List Ty)(t:Ty):Option Nat:=(List.range g.length).find? (Gq g t)
abbrev EU:=Dk->List Ty->Ty->Tm×Dk
def Dk.fin(rec:EU)(pos:Bool)(d:Dk)(g:List Ty)(t:Ty):Tm×Dk:=
 if t.kind=1 then
  if pos=true then
   if(d.next 5).1=0 then(sT (rec (d.next 5).2 g t).1,(rec (d.next 5).2 g t).2)
   else if(d.next 5).1=1 then
    (A0 (A0 Cj (rec (d.next 5).2 g t).1) (rec (rec (d.next 5).2 g t).2 g t).1,(rec (rec (d.next 5).2 g t).2 g t).2)
   else if(d.next 5).1=2 then
    (A0 (A0 Ei (rec (d.next 5).2 g t).1) (rec (rec (d.next 5).2 g t).2 g t).1,(rec (rec (d.next 5).2 g t).2 g t).2)
   else(xd ((d.next 5).2.next 3).1,((d.next 5).2.next 3).2)
  else(xd (d.next 3).1,(d.next 3).2)
 else if t.kind=2 then
  if pos=true then
   if(d.next 2).1=0 then(nT 8 [(rec (d.next 2).2 g Af).1,(rec (rec (d.next 2).2 g Af).2 g t).1],(rec (rec (d.next 2).2 g Af).2 g t).2)
   else(nT 7 [],(d.next 2).2)
  else(nT 7 [],d)
 else if t.kind=3 then(nT 10 [(rec d g (Bx t.args 0)).1,(rec (rec d g (Bx t.args 0)).2 g (Bx t.args 1)).1],(rec (rec d g (Bx t.args 0)).2 g (Bx t.args 1)).2)
 else if t.kind=4 then(BV (Bx t.args 0) (rec d (g++[Bx t.args 0]) (Bx t.args 1)).1,(rec d (g++[Bx t.args 0]) (Bx t.args 1)).2)
 else(nT 13 [],d)
def Dk.m0(rec:EU)(d:Dk)(g:List Ty)(t s:Ty):Tm×Dk:=(A0 (BV s (rec d (g++[s]) t).1) (rec (rec d (g++[s]) t).2 g s).1,(rec (rec d (g++[s]) t).2 g s).2)
def Dk.m1(rec:EU)(d:Dk)(g:List Ty)(t s:Ty):Tm×Dk:=(nT 11 [nT 10 [(rec d g t).1,(rec (rec d g t).2 g s).1]],(rec (rec d g t).2 g s).2)
def Dk.m2(rec:EU)(d:Dk)(g:List Ty)(t:Ty):Tm×Dk:=
 (hT 6 t [(rec (rec d (g++[Af,t]) t).2 g t).1,BV Af (BV t (rec d (g++[Af,t]) t).1),xd ((rec (rec d (g++[Af,t]) t).2 g t).2.next 3).1],((rec (rec d (g++[Af,t]) t).2 g t).2.next 3).2)
def Dk.m3(rec:EU)(d:Dk)(g:List Ty)(t:Ty):Tm×Dk:=
 (hT 9 t [(rec (rec d (g++[Af,Al,t]) t).2 g t).1,BV Af (BV Al (BV t (rec d (g++[Af,Al,t]) t).1)),(rec (rec (rec d (g++[Af,Al,t]) t).2 g t).2 g Al).1],(rec (rec (rec d (g++[Af,Al,t]) t).2 g t).2 g Al).2)
def Dk.m4(rec:EU)(d:Dk)(g:List Ty)(t s:Ty):Tm×Dk:=(nT 12 [nT 10 [(rec d g s).1,(rec (rec d g s).2 g t).1]],(rec (rec d g s).2 g t).2)
def Dk.m5(rec:EU)(pos:Bool)(d:Dk)(g:List Ty)(t:Ty):Tm×Dk:=
 match KL g t with
 |some i=>(A0 (vT i) (rec d g (Bx (Bx g (g.length-1-i)).args 0)).1,(rec d g (Bx (Bx g (g.length-1-i)).args 0)).2)
 |none=>d.fin rec pos g t
def Dk.mid(rec:EU)(pos:Bool)(d:Dk)(g:List Ty)(t:Ty):Tm×Dk:=
 if pos=true then
  if(d.next 8).1=0 then((d.next 8).2.type 0).2.m0 rec g t ((d.next 8).2.type 0).1
  else if(d.next 8).1=1 then((d.next 8).2.type 0).2.m1 rec g t ((d.next 8).2.type 0).1
  else if(d.next 8).1=2 then(d.next 8).2.m2 rec g t
  else if(d.next 8).1=3 then(d.next 8).2.m3 rec g t
  else if(d.next 8).1=4 then((d.next 8).2.type 0).2.m4 rec g t ((d.next 8).2.type 0).1
  else if(d.next 8).1=5 then(d.next 8).2.m5 rec pos g t
  else(d.next 8).2.fin rec pos g t
 else d.fin rec pos g t
def Dk.gen(rec:EU)(pos:Bool)(d:Dk)(g:List Ty)(t:Ty):Tm×Dk:=
 if va g t=[] then d.mid rec pos g t
 else if 0<(d.next 3).1 then(vT ((va g t).getD ((d.next 3).2.next (va g t).length).1.toNat 0),((d.next 3).2.next (va g t).length).2)
 else(d.next 3).2.mid rec pos g t
def Dk.tm:Nat->EU
 |0,d,_,_=>(AU,d)
 |n+1,d,g,t=>d.gen (Dk.tm n) (decide (2<=n)) g t
def Ty.small(t:Ty):Prop:=t.shape=true/\t.size<=3
def Ap(g:List Ty):Prop:=∀t∈g,t.small
inductive Mk:Nat->List Ty->Ty->Tm->Prop
 |var (n g t) (i:Nat) (hi:i<g.length) (h:Bx g (g.length-1-i)=t):Mk (n+1) g t (vT i)
 |app (n g t s a b) (hn:2<=n) (hs:s.shape=true) (h1:s.size=1) (ha:Mk n (g++[s]) t a) (hb:Mk n g s b):Mk (n+1) g t (A0 (BV s a) b)
 |fst (n g t s a b) (hn:2<=n) (hs:s.shape=true) (h1:s.size=1) (ha:Mk n g t a) (hb:Mk n g s b):Mk (n+1) g t (nT 11 [nT 10 [a,b]])
 |snd (n g t s a b) (hn:2<=n) (hs:s.shape=true) (h1:s.size=1) (ha:Mk n g s a) (hb:Mk n g t b):Mk (n+1) g t (nT 12 [nT 10 [a,b]])
 |recu (n g t a b m) (hn:2<=n) (hm:m<3) (ha:Mk n (g++[Af,t]) t a) (hb:Mk n g t b):Mk (n+1) g t (hT 6 t [b,BV Af (BV t a),EB m])
 |fold (n g t a b c) (hn:2<=n) (ha:Mk n (g++[Af,Al,t]) t a) (hb:Mk n g t b) (hc:Mk n g Al c):Mk (n+1) g t (hT 9 t [b,BV Af (BV Al (BV t a)),c])
 |ctx (n g t s a) (hn:2<=n) (i:Nat) (hi:i<g.length) (h:Bx g (g.length-1-i)=yt s t) (h1:s.size=1) (ha:Mk n g s a):Mk (n+1) g t (A0 (vT i) a)
 |succ (n g a) (hn:2<=n) (ha:Mk n g Af a):Mk (n+1) g Af (sT a)
 |plus (n g a b) (hn:2<=n) (ha:Mk n g Af a) (hb:Mk n g Af b):Mk (n+1) g Af (A0 (A0 Cj a) b)
 |sub (n g a b) (hn:2<=n) (ha:Mk n g Af a) (hb:Mk n g Af b):Mk (n+1) g Af (A0 (A0 Ei a) b)
 |num (n g m) (hm:m<3):Mk (n+1) g Af (EB m)
 |cons (n g a b) (hn:2<=n) (ha:Mk n g Af a) (hb:Mk n g Al b):Mk (n+1) g Al (nT 8 [a,b])
 |nil (n g):Mk (n+1) g Al (nT 7 [])
 |pair (n g s t a b) (h1:s.size=1) (h2:t.size=1) (ha:Mk n g s a) (hb:Mk n g t b):Mk (n+1) g (B8 s t) (nT 10 [a,b])
 |lam (n g s t a) (h1:s.size=1) (h2:t.size=1) (ha:Mk n (g++[s]) t a):Mk (n+1) g (yt s t) (BV s a)
 |unit (n g):Mk (n+1) g G9 (nT 13 [])
theorem Ty.Ae(t:Ty):t.err=0↔t.shape=true/\t.size<=64:=by
 simp only[Ty.err];cases t.shape
 ·simp
 ·by_cases h:t.size>64
  ·simp[h]
  ·simp[h];omega
theorem Ty.D8{t x:Ty}(h:t.err=0)(hx:x∈t.args):x.err=0:=by
 rw[Ty.Ae] at h ⊢;have h1:=ze Ty.size hx;have h2:=t.size_eq;have h3:=h.1;rw[Ty.Ai,Bool.and_eq_true] at h3;exact⟨List.all_eq_true.1 h3.2 x hx,by omega⟩
theorem Ty.BW{t:Ty}(h:t.shape=true)(hk:t.kind=3\/t.kind=4):∃x y,t.args=[x,y]:=by
 rw[Ty.Ai,Bool.and_eq_true] at h;have h1:DA t.kind=some 2:=by rcases hk with hk|hk<;>rw[hk]<;>rfl
 have h2:=h.1;rw[h1] at h2;simp at h2
 match hl:t.args,h2 with
 |[x,y],_=>exact⟨x,y,rfl⟩
theorem KX{l:List Ty}{i:Nat}(h:i<l.length):Bx l i=l[i]:=by simp[Bx,h]
theorem Qd{l:List Ty}{i:Nat}(h:i<l.length):Bx l i∈l:=by rw[KX h];exact List.getElem_mem h
@[simp] theorem NZ(x:Ty)(l:List Ty):Bx (x::l) 0=x:=rfl
@[simp] theorem N7(x y:Ty)(l:List Ty):Bx (x::y::l) 1=y:=rfl
@[simp] theorem YA(x y z:Ty)(l:List Ty):Bx (x::y::z::l) 2=z:=rfl
theorem Tm.Hw(g:List Ty):∀(xs:List Tm) (m:Nat) (hm:m<xs.length),(∀j (hj:j<xs.length),j<m->(xs[j].inf g).2=0)->(xs[m].inf g).2≠0->Tm.AD g xs=([],(xs[m].inf g).2):=by
 intro xs;induction xs with
 |nil=>intro m hm;simp at hm
 |cons x l ih=>
  intro m hm h h1;cases m with
  |zero=>simp only[List.getElem_cons_zero] at h1 ⊢;simp only[Tm.AD];rw[if_pos h1]
  |succ m=>
   have h0:=h 0 (by simp) (by omega);simp only[List.getElem_cons_zero] at h0;simp only[List.length_cons] at hm;have h2:=ih m (by omega) (fun j hj hlt=>by have:=h (j+1) (by simp;omega) (by omega);simpa using this) (by simpa using h1);simp only[List.getElem_cons_succ] at h1 ⊢;simp only[Tm.AD,h0,ne_eq,not_true_eq_false,if_false,h2,h1,not_false_eq_true,if_true]
theorem Tm.EH(g:List Ty):∀(xs:List Tm),(∀x∈xs,(x.inf g).2=0)->Tm.AD g xs=(xs.map fun x=>(x.inf g).1,0):=by
 intro xs;induction xs with
 |nil=>intro _;rfl
 |cons x l ih=>
  intro h;have h0:=h x (by simp);have h1:=ih fun y hy=>h y (by simp[hy]);simp only[Tm.AD,h0,h1,ne_eq,not_true_eq_false,if_false,List.map_cons]
theorem Tm.CN(g:List Ty):∀(xs:List Tm),(Tm.AD g xs).2=0->∀x∈xs,(x.inf g).2=0:=by
 intro xs;induction xs with
 |nil=>intro _ x hx;cases hx
 |cons y l ih=>
  intro h x hx;simp only[Tm.AD] at h;by_cases h1:(y.inf g).2=0
  ·by_cases h2:(Tm.AD g l).2=0
   ·rcases List.mem_cons.1 hx with rfl|hx
    ·exact h1
    ·exact ih h2 x hx
   ·simp only[h1,h2,ne_eq,not_true_eq_false,if_false,not_false_eq_true,if_true] at h
  ·rw[if_pos h1] at h;exact absurd h h1
theorem Tm.AO(g:List Ty)(t:Tm):t.inf g=(if t.kind=1 then(if t.index>=g.length then(Ba,6) else(Bx g (g.length-1-t.index.toNat),0))
 else if t.kind=2 then(if(Tm.AD (g++[t.ty]) t.args).2≠0 then(Ba,(Tm.AD (g++[t.ty]) t.args).2) else Bk (yt t.ty (Bx (Tm.AD (g++[t.ty]) t.args).1 0)))
 else if(Tm.AD g t.args).2≠0 then(Ba,(Tm.AD g t.args).2) else yr t.kind t.ty (Tm.AD g t.args).1):=by
 cases t;rfl
theorem YC{t:Ty}(h:(Bk t).2=0):(Bk t).1.err=0:=by
 simp only[Bk] at h ⊢;split
 ·rename_i h1;exact h1
 ·rename_i h1;simp[h1] at h
theorem Hg{t:Tm}(h:t.shape=true):CZ t.kind=some t.args.length:=by
 rw[Tm.Ai,Bool.and_eq_true] at h;have h1:=h.1;simp only[Tm.head,Bool.and_eq_true] at h1;have h2:=h1.1.1.1;split at h2
 ·rename_i n hn;rw[hn];simp at h2;rw[h2]
 ·cases h2
theorem zh{t:Tm}(h:t.shape=true):∀x∈t.args,x.shape=true:=by
 rw[Tm.Ai,Bool.and_eq_true] at h;exact List.all_eq_true.1 h.2
theorem x9{t:Tm}(h:t.shape=true):0<=t.index/\(t.kind≠1->t.index=0):=by
 rw[Tm.Ai,Bool.and_eq_true] at h;have h1:=h.1;simp only[Tm.head,Bool.and_eq_true,decide_eq_true_eq,Bool.or_eq_true,beq_iff_eq] at h1;exact⟨h1.1.1.2,fun hk=>h1.1.2.resolve_right hk⟩
theorem Lw{t:Tm}(h:t.shape=true)(hk:wo t.kind=true):t.ty.err=0:=by
 rw[Tm.Ai,Bool.and_eq_true] at h;have h1:=h.1;simp only[Tm.head,Bool.and_eq_true,hk,cond_true] at h1;have h2:=h1.2;simp only[Ty.ok,Bool.and_eq_true,decide_eq_true_eq] at h2;exact(Ty.Ae _).2 h2
theorem O7{k:Int}{n:Nat}(h:CZ k=some n):(n=0/\(k=1\/k=4\/k=7\/k=13))\/(n=1/\(k=2\/k=5\/k=11\/k=12))\/(n=2/\(k=3\/k=8\/k=10))\/(n=3/\(k=6\/k=9)):=by
 simp only[CZ] at h;(repeat' split at h)<;>simp_all<;>omega
theorem Ml{α:Type}{l:List α}(h:l.length=1):l=[l[0]'(by omega)]:=by
 match l,h with
 |[x],_=>rfl
theorem J9{α:Type}{l:List α}(h:l.length=1):∃x,l=[x]:=⟨_,Ml h⟩
theorem JY{α:Type}{l:List α}(h:l.length=2):∃x y,l=[x,y]:=by
 match l,h with
 |[x,y],_=>exact⟨x,y,rfl⟩
theorem Pb{α:Type}{l:List α}(h:l.length=3):∃x y z,l=[x,y,z]:=by
 match l,h with
 |[x,y,z],_=>exact⟨x,y,z,rfl⟩
theorem Zzn{k:Int}{h:Ty}{l:List Ty}(hk:CZ k=some l.length)(hl:∀x∈l,x.err=0)(hh:wo k=true->h.err=0)(h0:(yr k h l).2=0):(yr k h l).1.err=0:=by
 have h1:∀i,i<l.length->(Bx l i).err=0:=fun i hi=>hl _ (Qd hi);have h2:∀i,i<l.length->(Bx l i).kind=3\/(Bx l i).kind=4->∀j,j<2->(Bx (Bx l i).args j).err=0:=by
  intro i hi hk j hj;obtain⟨x,y,hxy⟩:=Ty.BW ((Ty.Ae _).1 (h1 i hi)).1 hk;refine Ty.D8 (h1 i hi) ?_;exact Qd (by rw[hxy];exact hj)
 rcases O7 hk with⟨hn,hk⟩|⟨hn,hk⟩|⟨hn,hk⟩|⟨hn,hk⟩
 ·rcases hk with rfl|rfl|rfl|rfl<;>rfl
 ·rcases hk with rfl|rfl|rfl|rfl
  ·rfl
  ·simp only[yr] at h0 ⊢;simp at h0 ⊢;split<;>first|rfl|(exfalso;rename_i hc;simp[hc] at h0)
  ·simp only[yr] at h0 ⊢;simp at h0 ⊢;by_cases hc:(Bx l 0).kind=3
   ·simp only[hc,if_true];exact h2 0 (by omega) (.inl hc) 0 (by omega)
   ·simp[hc] at h0
  ·simp only[yr] at h0 ⊢;simp at h0 ⊢;by_cases hc:(Bx l 0).kind=3
   ·simp only[hc,if_true];exact h2 0 (by omega) (.inl hc) 1 (by omega)
   ·simp[hc] at h0
 ·rcases hk with rfl|rfl|rfl
  ·simp only[yr] at h0 ⊢;simp only[if_true] at h0 ⊢;by_cases hc:¬(Bx l 0).kind=4\/¬Bx (Bx l 0).args 0=Bx l 1
   ·simp[hc] at h0
   ·rw[if_neg hc];have:(Bx l 0).kind=4:=by simp at hc;exact hc.1
    exact h2 0 (by omega) (.inr this) 1 (by omega)
  ·simp only[yr] at h0 ⊢;simp at h0 ⊢;split<;>first|rfl|(exfalso;rename_i hc;simp[hc] at h0)
  ·simp only[yr] at h0 ⊢;simp at h0 ⊢;exact YC h0
 ·rcases hk with rfl|rfl
  ·simp only[yr] at h0 ⊢;simp at h0 ⊢;split
   ·rename_i hc;simp[hc] at h0
   ·exact hh rfl
  ·simp only[yr] at h0 ⊢;simp at h0 ⊢;split
   ·rename_i hc;simp[hc] at h0
   ·exact hh rfl
theorem Tm.BP(t:Tm):∀g:List Ty,t.shape=true->(∀x∈g,x.err=0)->(t.inf g).2=0->(t.inf g).1.err=0:=by
 induction t using Tm.ind with
 |h t ih=>
  intro g hsh hg h0;rw[Tm.AO] at h0 ⊢;by_cases h1:t.kind=1
  ·simp only[h1,if_true] at h0 ⊢;by_cases h2:t.index>=g.length
   ·simp[h2] at h0
   ·rw[if_neg h2];have:=(x9 hsh).1;exact hg _ (Qd (by omega))
  ·simp only[h1,if_false] at h0 ⊢;by_cases h2:t.kind=2
   ·simp only[h2,if_true] at h0 ⊢;by_cases h3:(Tm.AD (g++[t.ty]) t.args).2=0
    ·simp only[h3,ne_eq,not_true_eq_false,if_false] at h0 ⊢;exact YC h0
    ·rw[if_pos h3] at h0;exact absurd h0 h3
   ·simp only[h2,if_false] at h0 ⊢;by_cases h3:(Tm.AD g t.args).2=0
    ·simp only[h3,ne_eq,not_true_eq_false,if_false] at h0 ⊢;have h4:=Tm.CN g t.args h3;have h5:=Tm.EH g t.args h4;rw[h5] at h0 ⊢;refine Zzn (by rw[Hg hsh];simp) ?_ (Lw hsh) h0;intro x hx;obtain⟨y,hy,rfl⟩:=List.mem_map.1 hx;exact ih y hy g (zh hsh y hy) hg (h4 y hy)
    ·rw[if_pos h3] at h0;exact absurd h0 h3
theorem M5{t:Ty}(h:t.shape=true)(hk:t.kind=1\/t.kind=2\/t.kind=5):t.args=[]:=by
 rw[Ty.Ai,Bool.and_eq_true] at h;have h1:DA t.kind=some 0:=by rcases hk with hk|hk|hk<;>rw[hk]<;>rfl
 have h2:=h.1;rw[h1] at h2;simp at h2;exact h2
theorem Zwl{t:Ty}(h:t.shape=true):t.kind=1\/t.kind=2\/t.kind=5\/t.kind=3\/t.kind=4:=by
 rw[Ty.Ai,Bool.and_eq_true] at h;have h2:=h.1;split at h2
 ·rename_i n hn;simp only[DA] at hn;split at hn
  ·omega
  ·split at hn
   ·omega
   ·cases hn
 ·cases h2
theorem Zip{t:Ty}(h:t.shape=true):t=Af\/t=Al\/t=G9\/∃a b,a.shape=true/\b.shape=true/\(t=B8 a b\/t=yt a b):=by
 have h0:=h;rw[Ty.Ai,Bool.and_eq_true] at h0;rcases Zwl h with hk|hk|hk|hk|hk
 ·exact .inl ((Ty.eq_iff _ _).2 ⟨hk,M5 h (by omega)⟩)
 ·exact .inr (.inl ((Ty.eq_iff _ _).2 ⟨hk,M5 h (by omega)⟩))
 ·exact .inr (.inr (.inl ((Ty.eq_iff _ _).2 ⟨hk,M5 h (by omega)⟩)))
 ·obtain ⟨a,b,hab⟩:=Ty.BW h (.inl hk);have:=List.all_eq_true.1 h0.2;rw[hab] at this;exact .inr (.inr (.inr ⟨a,b,this a (by simp),this b (by simp),.inl ((Ty.eq_iff _ _).2 ⟨hk,hab⟩)⟩))
 ·obtain ⟨a,b,hab⟩:=Ty.BW h (.inr hk);have:=List.all_eq_true.1 h0.2;rw[hab] at this;exact .inr (.inr (.inr ⟨a,b,this a (by simp),this b (by simp),.inr ((Ty.eq_iff _ _).2 ⟨hk,hab⟩)⟩))
theorem Jw(a b:Ty):(B8 a b).size=1+(a.size+b.size):=by simp[B8,Ty.size,Ty.sizes]
theorem vw(a b:Ty):(yt a b).size=1+(a.size+b.size):=by simp[yt,Ty.size,Ty.sizes]
theorem z8{t:Ty}(h:t.shape=true)(h1:t.size=1):t.small:=⟨h,by omega⟩
theorem zj:Af.small:=⟨rfl,by decide⟩
theorem y7:Al.small:=⟨rfl,by decide⟩
theorem zq{g l:List Ty}(h:Ap g)(h1:Ap l):Ap (g++l):=fun t ht=>by
 rcases List.mem_append.1 ht with ht|ht
 ·exact h t ht
 ·exact h1 t ht
theorem zk{t:Ty}{l:List Ty}(h:t.small)(h1:Ap l):Ap (t::l):=fun x hx=>by
 rcases List.mem_cons.1 hx with rfl|hx
 ·exact h
 ·exact h1 x hx
theorem zp:Ap []:=fun t ht=>by cases ht
theorem Q6{g:List Ty}(h:Ap g){i:Nat}(hi:i<g.length):(Bx g (g.length-1-i)).small:=h _ (Qd (by omega))
abbrev N9(rec:EU)(n:Nat):Prop:=∀d g t,Ap g->t.small->1<=n->(n=1->t.size=1)->Mk n g t (rec d g t).1
theorem P2:∀m,(EB m).full=2*(m+1)
 |0=>rfl
 |m+1=>by simp[EB,Tm.full,Tm.As,P2 m,Ty.size,Ty.sizes];omega
theorem Mk.full{n:Nat}{g:List Ty}{t:Ty}{x:Tm}(h:Mk n g t x):Ap g->t.small->x.full+20<=20*3^n:=by
 have e1:Ba.size=1:=rfl;have e2:(Ty.mk 0 []).size=1:=rfl;have p:∀n,1<=3^n:=fun n=>Nat.one_le_pow _ _ (by omega);have q:∀n,3^(n+1)=3*3^n:=fun n=>by rw[Nat.pow_succ];omega
 induction h with
 |var n g t i hi h=>intro hg ht;have:=p n;have:=q n;simp[vT,Tm.full,Tm.As,e2];omega
 |app n g t s a b hn hs h1 ha hb iha ihb=>
  intro hg ht;have:=iha (zq hg (zk (z8 hs h1) zp)) ht;have:=ihb hg (z8 hs h1);have:=p n;have:=q n;simp[A0,BV,Tm.full,Tm.As,e2,h1];omega
 |fst n g t s a b hn hs h1 ha hb iha ihb=>
  intro hg ht;have:=iha hg ht;have:=ihb hg (z8 hs h1);have:=p n;have:=q n;simp[nT,Tm.full,Tm.As,e2];omega
 |snd n g t s a b hn hs h1 ha hb iha ihb=>
  intro hg ht;have:=iha hg (z8 hs h1);have:=ihb hg ht;have:=p n;have:=q n;simp[nT,Tm.full,Tm.As,e2];omega
 |recu n g t a b m hn hm ha hb iha ihb=>
  intro hg ht;have:=iha (zq hg (zk zj (zk ht zp))) ht;have:=ihb hg ht;have:=ht.2;have:=p n;have:=q n;have e3:Af.size=1:=rfl;simp[hT,BV,Tm.full,Tm.As,e3,P2];omega
 |fold n g t a b c hn ha hb hc iha ihb ihc=>
  intro hg ht;have:=iha (zq hg (zk zj (zk y7 (zk ht zp)))) ht;have:=ihb hg ht;have:=ihc hg y7;have:=ht.2;have:=p n;have:=q n;have e3:Af.size=1:=rfl;have e4:Al.size=1:=rfl;simp[hT,BV,Tm.full,Tm.As,e3,e4];omega
 |ctx n g t s a hn i hi h h1 ha iha=>
  intro hg ht;have hs:s.shape=true:=by
   have:=Q6 hg hi;rw[h] at this;have:=List.all_eq_true.1 ((Bool.and_eq_true _ _).mp ((Ty.Ai _).symm.trans this.1)).2 s (by simp[yt]);exact this
  have:=iha hg (z8 hs h1);have:=p n;have:=q n;simp[A0,vT,Tm.full,Tm.As,e2];omega
 |succ n g a hn ha iha=>intro hg ht;have:=iha hg zj;have:=p n;have:=q n;simp[sT,Tm.full,Tm.As,e2];omega
 |plus n g a b hn ha hb iha ihb=>
  intro hg ht;have:=iha hg zj;have:=ihb hg zj;have:=p n;have:=q n;have e5:Cj.full<=18:=by decide
  simp[A0,Tm.full,Tm.As,e2];omega
 |sub n g a b hn ha hb iha ihb=>
  intro hg ht;have:=iha hg zj;have:=ihb hg zj;have:=p n;have:=q n;have e5:Ei.full<=36:=by decide
  simp[A0,Tm.full,Tm.As,e2];omega
 |num n g m hm=>intro hg ht;have:=p n;have:=q n;rw[P2];omega
 |cons n g a b hn ha hb iha ihb=>
  intro hg ht;have:=iha hg zj;have:=ihb hg y7;have:=p n;have:=q n;simp[nT,Tm.full,Tm.As,e2];omega
 |nil n g=>intro hg ht;have:=p n;have:=q n;simp[nT,Tm.full,Tm.As,e2];omega
 |pair n g s t a b h1 h2 ha hb iha ihb=>
  intro hg ht;have hs:=List.all_eq_true.1 ((Bool.and_eq_true _ _).mp ((Ty.Ai _).symm.trans ht.1)).2;have:=iha hg (z8 (hs s (by simp[B8])) h1);have:=ihb hg (z8 (hs t (by simp[B8])) h2);have:=p n;have:=q n;simp[nT,Tm.full,Tm.As,e2];omega
 |lam n g s t a h1 h2 ha iha=>
  intro hg ht;have hs:=List.all_eq_true.1 ((Bool.and_eq_true _ _).mp ((Ty.Ai _).symm.trans ht.1)).2;have:=iha (zq hg (zk (z8 (hs s (by simp[yt])) h1) zp)) (z8 (hs t (by simp[yt])) h2);have:=p n;have:=q n;simp[BV,Tm.full,Tm.As,h1];omega
 |unit n g=>intro hg ht;have:=p n;have:=q n;simp[nT,Tm.full,Tm.As,e2];omega
theorem Rf{k:Int}{a b:Ty}(h:(Ty.mk k [a,b]).shape=true):a.shape=true/\b.shape=true:=by
 have hs:=List.all_eq_true.1 ((Bool.and_eq_true _ _).mp ((Ty.Ai _).symm.trans h)).2;exact⟨hs a (by simp),hs b (by simp)⟩
theorem Mk.ind{P:Nat->List Ty->Ty->Tm->Prop}
 (var:∀n g t (i:Nat),i<g.length->Bx g (g.length-1-i)=t->Ap g->t.small->P (n+1) g t (vT i))
 (app:∀n g t s a b,2<=n->s.shape=true->s.size=1->Ap g->t.small->P n (g++[s]) t a->P n g s b->P (n+1) g t (A0 (BV s a) b))
 (fst:∀n g t s a b,2<=n->s.shape=true->s.size=1->Ap g->t.small->P n g t a->P n g s b->P (n+1) g t (nT 11 [nT 10 [a,b]]))
 (snd:∀n g t s a b,2<=n->s.shape=true->s.size=1->Ap g->t.small->P n g s a->P n g t b->P (n+1) g t (nT 12 [nT 10 [a,b]]))
 (recu:∀n g t a b m,2<=n->m<3->Ap g->t.small->P n (g++[Af,t]) t a->P n g t b->P (n+1) g t (hT 6 t [b,BV Af (BV t a),EB m]))
 (fold:∀n g t a b c,2<=n->Ap g->t.small->P n (g++[Af,Al,t]) t a->P n g t b->P n g Al c->P (n+1) g t (hT 9 t [b,BV Af (BV Al (BV t a)),c]))
 (ctx:∀n g t s a (i:Nat),2<=n->i<g.length->Bx g (g.length-1-i)=yt s t->s.shape=true->s.size=1->Ap g->t.small->P n g s a->P (n+1) g t (A0 (vT i) a))
 (succ:∀n g a,2<=n->Ap g->P n g Af a->P (n+1) g Af (sT a))
 (plus:∀n g a b,2<=n->Ap g->P n g Af a->P n g Af b->P (n+1) g Af (A0 (A0 Cj a) b))
 (sub:∀n g a b,2<=n->Ap g->P n g Af a->P n g Af b->P (n+1) g Af (A0 (A0 Ei a) b))
 (num:∀n g m,m<3->Ap g->P (n+1) g Af (EB m))
 (cons:∀n g a b,2<=n->Ap g->P n g Af a->P n g Al b->P (n+1) g Al (nT 8 [a,b]))
 (nil:∀n g,Ap g->P (n+1) g Al (nT 7 []))
 (pair:∀n g s t a b,s.shape=true->t.shape=true->s.size=1->t.size=1->1<=n->Ap g->P n g s a->P n g t b->P (n+1) g (B8 s t) (nT 10 [a,b]))
 (lam:∀n g s t a,s.shape=true->t.shape=true->s.size=1->t.size=1->1<=n->Ap g->P n (g++[s]) t a->P (n+1) g (yt s t) (BV s a))
 (unit:∀n g,Ap g->P (n+1) g G9 (nT 13 []))
 {n:Nat} {g:List Ty} {t:Ty} {x:Tm} (h:Mk n g t x):Ap g->t.small->P n g t x:=by
 have one:∀{n g t x},Mk n g t x->1<=n:=fun h=>by cases h<;>omega
 induction h with
 |var n g t i hi h=>exact fun hg ht=>var n g t i hi h hg ht
 |app n g t s a b hn hs h1 ha hb iha ihb=>exact fun hg ht=>app n g t s a b hn hs h1 hg ht (iha (zq hg (zk (z8 hs h1) zp)) ht) (ihb hg (z8 hs h1))
 |fst n g t s a b hn hs h1 ha hb iha ihb=>exact fun hg ht=>fst n g t s a b hn hs h1 hg ht (iha hg ht) (ihb hg (z8 hs h1))
 |snd n g t s a b hn hs h1 ha hb iha ihb=>exact fun hg ht=>snd n g t s a b hn hs h1 hg ht (iha hg (z8 hs h1)) (ihb hg ht)
 |recu n g t a b m hn hm ha hb iha ihb=>exact fun hg ht=>recu n g t a b m hn hm hg ht (iha (zq hg (zk zj (zk ht zp))) ht) (ihb hg ht)
 |fold n g t a b c hn ha hb hc iha ihb ihc=>exact fun hg ht=>fold n g t a b c hn hg ht (iha (zq hg (zk zj (zk y7 (zk ht zp)))) ht) (ihb hg ht) (ihc hg y7)
 |ctx n g t s a hn i hi h h1 ha iha=>
  intro hg ht;have hs:s.shape=true:=by
   have:=Q6 hg hi;rw[h] at this;exact(Rf this.1).1
  exact ctx n g t s a i hn hi h hs h1 hg ht (iha hg (z8 hs h1))
 |succ n g a hn ha iha=>exact fun hg ht=>succ n g a hn hg (iha hg zj)
 |plus n g a b hn ha hb iha ihb=>exact fun hg ht=>plus n g a b hn hg (iha hg zj) (ihb hg zj)
 |sub n g a b hn ha hb iha ihb=>exact fun hg ht=>sub n g a b hn hg (iha hg zj) (ihb hg zj)
 |num n g m hm=>exact fun hg ht=>num n g m hm hg
 |cons n g a b hn ha hb iha ihb=>exact fun hg ht=>cons n g a b hn hg (iha hg zj) (ihb hg y7)
 |nil n g=>exact fun hg ht=>nil n g hg
 |pair n g s t a b h1 h2 ha hb iha ihb=>exact fun hg ht=>have hs:=Rf ht.1;pair n g s t a b hs.1 hs.2 h1 h2 (one ha) hg (iha hg (z8 hs.1 h1)) (ihb hg (z8 hs.2 h2))
 |lam n g s t a h1 h2 ha iha=>exact fun hg ht=>have hs:=Rf ht.1;lam n g s t a hs.1 hs.2 h1 h2 (one ha) hg (iha (zq hg (zk (z8 hs.1 h1) zp)) (z8 hs.2 h2))
 |unit n g=>exact fun hg ht=>unit n g hg
@[simp] theorem Wm(a b:Ty):(yt a b).kind=4:=rfl
@[simp] theorem V1(a b:Ty):(yt a b).args=[a,b]:=rfl
@[simp] theorem Ym6(a b:Ty):(B8 a b).kind=3:=rfl
@[simp] theorem Ylr(a b:Ty):(B8 a b).args=[a,b]:=rfl
theorem QD{t:Ty}(h:t.err=0):Bk t=(t,0):=if_pos h
theorem Jf{a b:Ty}(ha:a.shape=true)(hb:b.shape=true):(yt a b).shape=true:=by simp[Ty.Ai (yt a b),ha,hb,DA]
theorem Pm{a b:Ty}(ha:a.shape=true)(hb:b.shape=true):(B8 a b).shape=true:=by simp[Ty.Ai (B8 a b),ha,hb,DA]
theorem LS{a b:Ty}(ha:a.shape=true)(hb:b.shape=true)(h:a.size+b.size<=60):(yt a b).err=0:=(Ty.Ae _).2 ⟨Jf ha hb,by rw[vw];omega⟩
theorem Sr{a b:Ty}(ha:a.shape=true)(hb:b.shape=true)(h:a.size+b.size<=60):(B8 a b).err=0:=(Ty.Ae _).2 ⟨Pm ha hb,by rw[Jw];omega⟩
def ER(g:List Ty)(i:Nat):Ty:=Bx g (g.length-1-i)
theorem Pq(g:List Ty)(i:Nat)(h:i<g.length):(vT i).inf g=(ER g i,0):=by
 rw[Tm.AO];have h1:¬((i:Int)>=(g.length:Int)):=by omega
 simp[vT,h1,ER]
theorem Rq(g:List Ty)(a:Ty):ER (g++[a]) 0=a:=by simp[ER,Bx]
theorem X7(g:List Ty)(a:Ty)(i:Nat)(h:i<g.length):ER (g++[a]) (i+1)=ER g i:=by
 have e:g.length+1-1-(i+1)=g.length-1-i:=by omega
 simp only[ER,Bx,List.length_append,List.length_cons,List.length_nil,Nat.zero_add,e,List.getD_eq_getElem?_getD];rw[List.getElem?_append_left (by omega)]
theorem M7(g:List Ty)(a:Ty):(vT 0).inf (g++[a])=(a,0):=by
 have:=Pq (g++[a]) 0 (by simp);rw[Rq] at this;exact this
theorem SR(g:List Ty)(a b:Ty):(vT 1).inf (g++[a]++[b])=(a,0):=by
 have:=Pq (g++[a]++[b]) 1 (by simp);rw[X7 (g++[a]) b 0 (by simp),Rq] at this;exact this
theorem wi{g:List Ty}{s t:Ty}{x:Tm}(h:x.inf (g++[s])=(t,0))(he:(yt s t).err=0):(BV s x).inf g=(yt s t,0):=by
 rw[Tm.AO];simp[BV,Tm.AD,h,QD he]
theorem Jy{g:List Ty}{s t:Ty}{f x:Tm}(hf:f.inf g=(yt s t,0))(hx:x.inf g=(s,0)):(A0 f x).inf g=(t,0):=by
 rw[Tm.AO];simp[A0,Tm.AD,hf,hx,yr]
theorem RE{g:List Ty}{x:Tm}(h:x.inf g=(Af,0)):(sT x).inf g=(Af,0):=by
 rw[Tm.AO];simp[sT,Tm.AD,h,yr]
theorem TN(g:List Ty):zT.inf g=(Af,0):=by
 rw[Tm.AO];simp[zT,Tm.AD,yr]
theorem PK(g:List Ty):∀m,(EB m).inf g=(Af,0)
 |0=>TN g
 |m+1=>RE (PK g m)
theorem N6{g:List Ty}{t:Ty}{b f x:Tm}(hb:b.inf g=(t,0))(hf:f.inf g=(yt Af (yt t t),0))(hx:x.inf g=(Af,0)):(hT 6 t [b,f,x]).inf g=(t,0):=by
 rw[Tm.AO];simp[hT,Tm.AD,hb,hf,hx,yr]
theorem Yeh{g:List Ty}{t:Ty}{b f x:Tm}(hb:b.inf g=(t,0))(hf:f.inf g=(yt Af (yt Al (yt t t)),0))(hx:x.inf g=(Al,0)):(hT 9 t [b,f,x]).inf g=(t,0):=by
 rw[Tm.AO];simp[hT,Tm.AD,hb,hf,hx,yr]
theorem Px{g:List Ty}{s t:Ty}{a b:Tm}(ha:a.inf g=(s,0))(hb:b.inf g=(t,0))(he:(B8 s t).err=0):(nT 10 [a,b]).inf g=(B8 s t,0):=by
 rw[Tm.AO];simp[nT,Tm.AD,ha,hb,yr,QD he]
theorem Yib{g:List Ty}{s t:Ty}{x:Tm}(h:x.inf g=(B8 s t,0)):(nT 11 [x]).inf g=(s,0):=by
 rw[Tm.AO];simp[nT,Tm.AD,h,yr]
theorem Yig{g:List Ty}{s t:Ty}{x:Tm}(h:x.inf g=(B8 s t,0)):(nT 12 [x]).inf g=(t,0):=by
 rw[Tm.AO];simp[nT,Tm.AD,h,yr]
theorem Yfh{g:List Ty}{a b:Tm}(ha:a.inf g=(Af,0))(hb:b.inf g=(Al,0)):(nT 8 [a,b]).inf g=(Al,0):=by
 rw[Tm.AO];simp[nT,Tm.AD,ha,hb,yr]
theorem X8{a:Ty}(ha:a.shape=true)(h:a.size<=30):(yt Af a).err=0:=LS rfl ha (by have:Af.size=1:=rfl;omega)
theorem Yee(g:List Ty):Cj.inf g=(yt Af (yt Af Af),0):=by
 refine wi (s:=Af) (wi (s:=Af) (N6 (t:=Af) (SR g Af Af) (wi (s:=Af) (wi (s:=Af) (RE (M7 _ _)) rfl) rfl) (M7 _ _)) rfl) rfl
theorem Ydr(g:List Ty):Cl.inf g=(yt Af Af,0):=by
 refine wi (s:=Af) (N6 (t:=Af) (TN _) (wi (s:=Af) (wi (s:=Af) (SR _ Af Af) rfl) rfl) (M7 _ _)) rfl
theorem Yg0(g:List Ty):Ei.inf g=(yt Af (yt Af Af),0):=by
 refine wi (s:=Af) (wi (s:=Af) (N6 (t:=Af) (SR g Af Af) (wi (s:=Af) (wi (s:=Af) (Jy (Ydr _) (M7 _ _)) rfl) rfl) (M7 _ _)) rfl) rfl
theorem Mk.inf{n:Nat}{g:List Ty}{t:Ty}{x:Tm}(h:Mk n g t x)(hg:Ap g)(ht:t.small):x.inf g=(t,0):=by
 refine Mk.ind (P:=fun n g t x=>x.inf g=(t,0)) ?_ ?_ ?_ ?_ ?_ ?_ ?_ ?_ ?_ ?_ ?_ ?_ ?_ ?_ ?_ ?_ h hg ht
 ·intro n g t i hi h _ _;rw[Pq g i hi];rw[<-h];rfl
 ·intro n g t s a b _ hs h1 _ ht ha hb;exact Jy (wi ha (LS hs ht.1 (by have:=ht.2;omega))) hb
 ·intro n g t s a b _ hs h1 _ ht ha hb;exact Yib (Px ha hb (Sr ht.1 hs (by have:=ht.2;omega)))
 ·intro n g t s a b _ hs h1 _ ht ha hb;exact Yig (Px ha hb (Sr hs ht.1 (by have:=ht.2;omega)))
 ·intro n g t a b m _ _ _ ht ha hb;have h2:=ht.2;refine N6 hb (wi (wi (by rw[List.append_assoc];exact ha) (LS ht.1 ht.1 (by omega))) (X8 (Jf ht.1 ht.1) (by rw[vw];omega))) (PK g m)
 ·intro n g t a b c _ _ ht ha hb hc;have h2:=ht.2;have e1:Al.size=1:=rfl;refine Yeh hb (wi (wi (wi (by rw[List.append_assoc,List.append_assoc];exact ha) (LS ht.1 ht.1 (by omega))) (LS rfl (Jf ht.1 ht.1) (by rw[vw];omega))) (X8 (Jf rfl (Jf ht.1 ht.1)) (by rw[vw,vw];omega))) hc
 ·intro n g t s a i _ hi h _ _ _ _ ha;exact Jy (s:=s) (by rw[Pq g i hi];rw[<-h];rfl) ha
 ·intro n g a _ _ ha;exact RE ha
 ·intro n g a b _ _ ha hb;exact Jy (Jy (Yee g) ha) hb
 ·intro n g a b _ _ ha hb;exact Jy (Jy (Yg0 g) ha) hb
 ·intro n g m _ _;exact PK g m
 ·intro n g a b _ _ ha hb;exact Yfh ha hb
 ·intro n g _;rw[Tm.AO];simp[nT,Tm.AD,yr]
 ·intro n g s t a b hs ht h1 h2 _ _ ha hb;exact Px ha hb (Sr hs ht (by omega))
 ·intro n g s t a hs ht h1 h2 _ _ ha;exact wi ha (LS hs ht (by omega))
 ·intro n g _;rw[Tm.AO];simp[nT,Tm.AD,yr]
theorem UD:(Ty.mk 0 []).BJ=true:=rfl
theorem QV{k:Int}{l:List Tm}(hk:CZ k=some l.length)(ht:wo k=false)(h:∀x∈l,x.shape=true):(nT k l).shape=true:=by
 have:l.all Tm.shape=true:=List.all_eq_true.2 h;simp[nT,Tm.Ai,Tm.head,hk,ht,UD,this]
theorem Li{t:Ty}(h1:t.shape=true)(h2:t.size<=64):t.ok=true:=by simp[Ty.ok,h1,h2]
theorem Yc{k:Int}{s:Ty}{l:List Tm}(hk:CZ k=some l.length)(ht:wo k=true)(hs:s.ok=true)(h:∀x∈l,x.shape=true):(hT k s l).shape=true:=by
 have:l.all Tm.shape=true:=List.all_eq_true.2 h;simp[hT,Tm.Ai,Tm.head,hk,ht,hs,this]
theorem Ld(i:Int)(h:0<=i):(vT i).shape=true:=by
 have:wo 1=false:=rfl;simp[vT,Tm.Ai,Tm.head,CZ,this,UD,h]
theorem R8:∀m,(EB m).shape=true
 |0=>rfl
 |m+1=>QV (k:=5) (l:=[EB m]) rfl rfl (by simp[R8 m])
theorem ve{k:Int}{a b:Tm}(hk:CZ k=some 2)(ht:wo k=false)(ha:a.shape=true)(hb:b.shape=true):(nT k [a,b]).shape=true:=QV hk ht (by simp[ha,hb])
theorem SV{k:Int}{a:Tm}(hk:CZ k=some 1)(ht:wo k=false)(ha:a.shape=true):(nT k [a]).shape=true:=QV hk ht (by simp[ha])
theorem I9{s:Ty}{a:Tm}(hs:s.ok=true)(ha:a.shape=true):(BV s a).shape=true:=Yc (k:=2) rfl rfl hs (by simp[ha])
theorem Wa{k:Int}{s:Ty}{a b c:Tm}(hk:CZ k=some 3)(ht:wo k=true)(hs:s.ok=true)(ha:a.shape=true)(hb:b.shape=true)(hc:c.shape=true):(hT k s [a,b,c]).shape=true:=Yc hk ht hs (by simp[ha,hb,hc])
theorem Mk.shape{n:Nat}{g:List Ty}{t:Ty}{x:Tm}(h:Mk n g t x)(hg:Ap g)(ht:t.small):x.shape=true:=by
 have ok:∀{t:Ty},t.small->t.ok=true:=fun h=>Li h.1 (by have:=h.2;omega);refine Mk.ind (P:=fun n g t x=>x.shape=true) ?_ ?_ ?_ ?_ ?_ ?_ ?_ ?_ ?_ ?_ ?_ ?_ ?_ ?_ ?_ ?_ h hg ht
 ·intro n g t i hi h _ _;exact Ld _ (by omega)
 ·intro n g t s a b _ hs h1 _ ht ha hb;exact ve (k:=3) rfl rfl (I9 (ok (z8 hs h1)) ha) hb
 ·intro n g t s a b _ hs h1 _ ht ha hb;exact SV rfl rfl (ve rfl rfl ha hb)
 ·intro n g t s a b _ hs h1 _ ht ha hb;exact SV rfl rfl (ve rfl rfl ha hb)
 ·intro n g t a b m _ _ _ ht ha hb;exact Wa rfl rfl (ok ht) hb (I9 rfl (I9 (ok ht) ha)) (R8 m)
 ·intro n g t a b c _ _ ht ha hb hc;exact Wa rfl rfl (ok ht) hb (I9 rfl (I9 rfl (I9 (ok ht) ha))) hc
 ·intro n g t s a i _ hi h _ _ _ _ ha;exact ve (k:=3) rfl rfl (Ld _ (by omega)) ha
 ·intro n g a _ _ ha;exact SV (k:=5) rfl rfl ha
 ·intro n g a b _ _ ha hb;exact ve (k:=3) rfl rfl (ve (k:=3) rfl rfl rfl ha) hb
 ·intro n g a b _ _ ha hb;exact ve (k:=3) rfl rfl (ve (k:=3) rfl rfl rfl ha) hb
 ·intro n g m _ _;exact R8 m
 ·intro n g a b _ _ ha hb;exact ve rfl rfl ha hb
 ·intro n g _;rfl
 ·intro n g s t a b hs ht h1 h2 _ _ ha hb;exact ve rfl rfl ha hb
 ·intro n g s t a hs ht h1 h2 _ _ ha;exact I9 (ok (z8 hs h1)) ha
 ·intro n g _;rfl
def s1:Nat->Nat
 |0=>3|1=>3|2=>3|3=>24|n+4=>3*s1 (n+3)+4
def s3:Nat->Nat
 |0=>7|1=>7|2=>7|3=>24|n+4=>3*s1 (n+3)+4
theorem Tr:∀n,3<=n->24<=s1 n
 |0,h=>by omega
 |1,h=>by omega
 |2,h=>by omega
 |3,_=>by decide
 |n+4,_=>by have:=Tr (n+3) (by omega);simp only[s1];omega
theorem YH:∀n,3<=n->s3 n=s1 n
 |0,h=>by omega
 |1,h=>by omega
 |2,h=>by omega
 |3,_=>rfl
 |n+4,_=>rfl
theorem Hs(n:Nat)(hn:2<=n):3*s1 n+4<=s1 (n+1)/\2*s1 n+18<=s1 (n+1)/\2*s3 n+s1 n+4<=s3 (n+1)/\s1 (n+1)<=s3 (n+1)/\3<=s1 n/\s1 n<=s3 n/\2*s3 n+6<=s3 (n+1)/\s3 n+s1 n+2<=s3 (n+1):=by
 match n,hn with
 |2,_=>decide
 |n+3,_=>
  have h1:=Tr (n+3) (by omega);have h2:=YH (n+3) (by omega);have h3:s1 (n+3+1)=3*s1 (n+3)+4:=rfl;have h4:s3 (n+3+1)=3*s1 (n+3)+4:=rfl;omega
theorem Ns(n:Nat):3<=s1 n/\s1 n<=s3 n/\7<=s3 n:=by
 match n with
 |0=>decide
 |1=>decide
 |2=>decide
 |n+3=>have h1:=Tr (n+3) (by omega);have h2:=YH (n+3) (by omega);omega
theorem Zl(n:Nat)(hn:1<=n):2*s1 n+1<=s3 (n+1):=by
 match n,hn with
 |1,_=>decide
 |n+2,_=>have:=Hs (n+2) (by omega);have:=Ns (n+2);omega
theorem RW:∀m,(EB m).size=m+1
 |0=>rfl
 |m+1=>by simp[EB,Tm.size,Tm.sizes,RW m];omega
theorem Mk.size{n:Nat}{g:List Ty}{t:Ty}{x:Tm}(h:Mk n g t x)(hg:Ap g)(ht:t.small):x.size<=s3 n/\(t.size=1->x.size<=s1 n):=by
 have e1:Af.size=1:=rfl;have e2:Al.size=1:=rfl;refine Mk.ind (P:=fun n g t x=>x.size<=s3 n/\(t.size=1->x.size<=s1 n)) ?_ ?_ ?_ ?_ ?_ ?_ ?_ ?_ ?_ ?_ ?_ ?_ ?_ ?_ ?_ ?_ h hg ht
 ·intro n g t i hi h _ _;have:=Ns (n+1);simp[vT,Tm.size,Tm.sizes];omega
 ·intro n g t s a b hn hs h1 _ ht ha hb;have:=Hs n hn;have:=hb.2 h1;simp[A0,BV,Tm.size,Tm.sizes];omega
 ·intro n g t s a b hn hs h1 _ ht ha hb;have:=Hs n hn;have:=hb.2 h1;simp[nT,Tm.size,Tm.sizes];omega
 ·intro n g t s a b hn hs h1 _ ht ha hb;have:=Hs n hn;have:=ha.2 h1;simp[nT,Tm.size,Tm.sizes];omega
 ·intro n g t a b m hn hm _ ht ha hb;have:=Hs n hn;simp[hT,BV,Tm.size,Tm.sizes,RW];omega
 ·intro n g t a b c hn _ ht ha hb hc;have:=Hs n hn;have:=hc.2 e2;simp[hT,BV,Tm.size,Tm.sizes];omega
 ·intro n g t s a i hn hi h _ h1 _ _ ha;have:=Hs n hn;have:=ha.2 h1;simp[A0,vT,Tm.size,Tm.sizes];omega
 ·intro n g a hn _ ha;have:=Hs n hn;have:=ha.2 e1;simp[sT,Tm.size,Tm.sizes];omega
 ·intro n g a b hn _ ha hb;have:=Hs n hn;have:=ha.2 e1;have:=hb.2 e1;have:Cj.size=9:=rfl;simp[A0,Tm.size,Tm.sizes];omega
 ·intro n g a b hn _ ha hb;have:=Hs n hn;have:=ha.2 e1;have:=hb.2 e1;have:Ei.size=16:=rfl;simp[A0,Tm.size,Tm.sizes];omega
 ·intro n g m hm _;have:=Ns (n+1);rw[RW];omega
 ·intro n g a b hn _ ha hb;have:=Hs n hn;have:=ha.2 e1;have:=hb.2 e2;simp[nT,Tm.size,Tm.sizes];omega
 ·intro n g _;have:=Ns (n+1);simp[nT,Tm.size,Tm.sizes];omega
 ·intro n g s t a b hs ht h1 h2 hn _ ha hb;have:=Zl n hn;have:=ha.2 h1;have:=hb.2 h2;rw[Jw];simp[nT,Tm.size,Tm.sizes];omega
 ·intro n g s t a hs ht h1 h2 hn _ ha;have:=Zl n hn;have:=ha.2 h2;rw[vw];simp[BV,Tm.size,Tm.sizes];omega
 ·intro n g _;have:=Ns (n+1);simp[nT,Tm.size,Tm.sizes];omega
def c1:Nat->Nat
 |0=>1|1=>1|2=>1|n+3=>3*c1 (n+2)
def c3:Nat->Nat
 |0=>1|1=>1|2=>2|n+3=>2*c3 (n+2)+c1 (n+2)
theorem Ye7(at_ b k i:Int)(h:Ty)(xs:List Tm)(hk:k≠1):cnt at_ ((Tm.mk k i h xs).vars b)=(xs.map fun x=>cnt at_ (x.vars (up k b))).sum:=by
 rw[Tm.AM];simp only[Tm.Ah,Tm.Ac,hk,if_false,List.nil_append];induction xs with
 |nil=>rfl
 |cons x l ih=>simp only[List.flatMap_cons,x6,List.map_cons,List.sum_cons,ih]
theorem Mz(t:Tm):∀(g:List Ty) (b:Int) (B:Int),(t.inf g).2=0->t.shape=true->(g.length:Int)+t.size<=B->∀p∈t.vars b,p.1<B:=by
 induction t using Tm.ind with
 |h t ih=>
  intro g b B h hs hB p hp;rw[Tm.AO] at h;have hsz:=t.size_eq;rw[t.AM,List.mem_append] at hp;by_cases h1:t.kind=1
  ·have hargs:t.args=[]:=by
    have:=Hg hs;rw[h1] at this;exact List.eq_nil_of_length_eq_zero (Option.some.inj this).symm
   rw[if_pos h1] at h hp;simp only[hargs,List.flatMap_nil,List.not_mem_nil,or_false,List.mem_cons,or_false] at hp;subst hp;by_cases h2:t.index>=(g.length:Int)
   ·rw[if_pos h2] at h;exact absurd h (by simp)
   ·have:=t.size_pos;simp only;omega
  ·rw[if_neg h1] at h hp;simp only[List.not_mem_nil,false_or] at hp;obtain⟨x,hx,hp⟩:=List.mem_flatMap.1 hp;have hxs:=ze Tm.size hx;by_cases h2:t.kind=2
   ·rw[if_pos h2] at h;by_cases h3:(Tm.AD (g++[t.ty]) t.args).2=0
    ·exact ih x hx (g++[t.ty]) _ B (Tm.CN _ _ h3 x hx) (zh hs x hx) (by simp;omega) p hp
    ·rw[if_pos h3] at h;exact absurd h h3
   ·rw[if_neg h2] at h;by_cases h3:(Tm.AD g t.args).2=0
    ·exact ih x hx g _ B (Tm.CN _ _ h3 x hx) (zh hs x hx) (by omega) p hp
    ·rw[if_pos h3] at h;exact absurd h h3
theorem uj{g:Int->Int->Tm}{b:Int}{t:Tm}(h:t.kind=1):t.re g b=g t.index b:=by rw[Tm.Bz,if_pos h]
theorem x8{g:Int->Int->Tm}{b:Int}{t:Tm}(h:t.kind≠1):t.re g b= .mk t.kind t.index t.ty (t.args.map (Tm.re g (up t.kind b))):=by rw[Tm.Bz,if_neg h]
theorem HI{t:Tm}(hs:t.shape=true)(h:t.kind=1):t.args=[]:=by
 have:=Hg hs;rw[h] at this;exact List.eq_nil_of_length_eq_zero (Option.some.inj this).symm
theorem vu{t:Tm}(hs:t.shape=true)(h:t.kind=1)(b:Int):t.vars b=[(t.index,b)]:=by rw[t.AM,if_pos h,HI hs h];rfl
theorem Ju{t:Tm}(h:t.kind≠1)(b:Int):t.vars b=t.args.flatMap (Tm.vars (up t.kind b)):=by rw[t.AM,if_neg h];rfl
theorem Kp{t:Tm}(h:t.kind≠1){b:Int}{x:Tm}(hx:x∈t.args){p:Int×Int}(hp:p∈x.vars (up t.kind b)):p∈t.vars b:=by
 rw[Ju h];exact List.mem_flatMap.2 ⟨x,hx,hp⟩
theorem QT(g:Int->Int->Tm)(t:Tm):∀b,t.shape=true->(∀p∈t.vars b,(g p.1 p.2).shape=true)->(t.re g b).shape=true:=by
 induction t using Tm.ind with
 |h t ih=>
  intro b hs hg;by_cases h1:t.kind=1
  ·rw[uj h1];exact hg (t.index,b) (by rw[vu hs h1];simp)
  ·rw[x8 h1];have hs0:=hs;rw[Tm.Ai,Bool.and_eq_true] at hs ⊢;refine⟨?_,?_⟩
   ·have:=hs.1;simp only[Tm.head,Tm.Ah,Tm.Ac,Tm.A4,Tm.AL,List.length_map] at this ⊢;exact this
   ·simp only[Tm.Ac];refine List.all_eq_true.2 fun y hy=> ?_;obtain⟨x,hx,rfl⟩:=List.mem_map.1 hy;exact ih x hx _ (List.all_eq_true.1 hs.2 x hx) fun p hp=>hg p (Kp h1 hx hp)
theorem u9{fr by_:Int}{t:Tm}(b:Int)(hs:t.shape=true)(hb:0<=by_):(t.re (zo fr by_) b).shape=true:=
 QT _ t b hs fun p hp=>by
  have:=t.AB hs b p hp;simp only[zo];exact Ld _ (by split<;>omega)
theorem ND(fr by_:Int)(t:Tm):∀b,t.shape=true->(t.re (zo fr by_) b).size=t.size:=by
 induction t using Tm.ind with
 |h t ih=>
  intro b hs;by_cases h1:t.kind=1
  ·rw[uj h1,t.size_eq,HI hs h1];simp[zo,Tm.size,Tm.sizes]
  ·rw[x8 h1,t.size_eq,Tm.size_eq];simp only[Tm.Ac,List.map_map];congr 2;exact List.map_congr_left fun x hx=>ih x hx _ (zh hs x hx)
theorem MP{at_:Int}{s t:Tm}(b:Int)(hs:s.shape=true)(ht:t.shape=true)(hb:0<=b)(ha:0<=at_)(hv:∀p∈t.vars b,0<=p.2):(t.re (xu at_ s) b).shape=true:=
 QT _ t b ht fun p hp=>by
  have:=t.AB ht b p hp;have:=hv p hp;simp only[xu];split
  ·exact u9 0 hs (by omega)
  ·exact Ld _ (by split<;>omega)
theorem vv(t:Tm):∀b:Int,∀p∈t.vars b,b<=p.2:=by
 induction t using Tm.ind with
 |h t ih=>
  intro b p hp;rw[t.AM,List.mem_append] at hp;rcases hp with hp|hp
  ·split at hp
   ·simp at hp;subst hp;exact Int.le_refl _
   ·cases hp
  ·obtain ⟨x,hx,hp⟩:=List.mem_flatMap.1 hp;have:=ih x hx _ p hp;have:b<=up t.kind b:=by simp only[up];split<;>omega
   omega
theorem OM(at_:Int)(s t:Tm)(hs:s.shape=true):∀b,t.shape=true->(t.re (xu at_ s) b).size=t.size+cnt at_ (t.vars b)*(s.size-1):=by
 have hp:=s.size_pos;induction t using Tm.ind with
 |h t ih=>
  intro b ht;by_cases h1:t.kind=1
  ·rw[uj h1,vu ht h1,uz,t.size_eq,HI ht h1];simp only[xu];split
   ·rw[ND _ _ _ _ hs];simp;omega
   ·simp[Tm.size,Tm.sizes]
  ·rw[x8 h1,t.size_eq,Tm.size_eq,Ju h1];simp only[Tm.Ac,List.map_map];have:∀l:List Tm,(∀x∈l,x∈t.args)->(l.map (Tm.size∘Tm.re (xu at_ s) (up t.kind b))).sum=(l.map Tm.size).sum+cnt at_ (l.flatMap (Tm.vars (up t.kind b)))*(s.size-1):=by
    intro l;induction l with
    |nil=>intro _;simp[cnt]
    |cons x l ihl=>
     intro hl;have h2:=ih x (hl x (by simp)) (up t.kind b) (zh ht x (hl x (by simp)));have h3:=ihl fun y hy=>hl y (by simp[hy]);simp only[List.map_cons,List.sum_cons,List.flatMap_cons,x6,Function.comp_apply,h2,h3,Nat.add_mul];omega
   rw[this t.args fun x hx=>hx];omega
theorem Ye0{g h:List Ty}{i:Nat}(hi:i<g.length):Bx (g++h) i=Bx g i:=by
 simp only[Bx,List.getD_eq_getElem?_getD,List.getElem?_append_left hi]
theorem Zy9{g h:List Ty}{i:Nat}(hi:g.length<=i):Bx (g++h) i=Bx h (i-g.length):=by
 simp only[Bx,List.getD_eq_getElem?_getD,List.getElem?_append_right hi]
theorem wu{g h:List Ty}{i:Nat}(hi:i<h.length):ER (g++h) i=ER h i:=by
 simp only[ER,List.length_append];rw[Zy9 (by omega)];congr 1;omega
theorem KD{g h:List Ty}{i:Nat}(hi:h.length<=i)(hl:i<(g++h).length):ER (g++h) i=ER g (i-h.length):=by
 simp only[ER,List.length_append] at hl ⊢;rw[Ye0 (by omega)];congr 1;omega
theorem vi(g:List Ty)(i:Int)(h0:0<=i):(vT i).inf g=if i>=(g.length:Int) then(Ba,6) else(ER g i.toNat,0):=by
 rw[Tm.AO];rfl
theorem KQ{t:Tm}(hs:t.shape=true)(h:t.kind=1):t=vT t.index:=by
 refine(Tm.eq_iff _ _).2 ⟨h,rfl,?_,HI hs h⟩;rw[Tm.Ai,Bool.and_eq_true] at hs;have h1:=hs.1;simp only[Tm.head,Bool.and_eq_true,h] at h1;have h2:=h1.2;have:wo 1=false:=rfl;rw[this,cond_false] at h2;simp only[Ty.BJ,Bool.and_eq_true,beq_iff_eq] at h2;exact(Ty.eq_iff _ _).2 ⟨h2.1,List.eq_nil_of_length_eq_zero h2.2⟩
theorem VK{f:Tm->Tm}{g g':List Ty}:∀(l:List Tm),(∀x∈l,(f x).inf g'=x.inf g)->Tm.AD g' (l.map f)=Tm.AD g l:=by
 intro l;induction l with
 |nil=>intro _;rfl
 |cons x l ih=>
  intro h;simp only[List.map_cons,Tm.AD,h x (by simp),ih fun y hy=>h y (by simp[hy])]
theorem Y2(G:Int->Int->Tm)(t:Tm):∀(g g' h:List Ty) (b:Int),t.shape=true->
 (∀(i:Int) (h':List Ty) (b':Int),0<=i->(b'-b=h'.length-h.length)->h.length<=h'.length->(∃e,h'=h++e)->(G i b').inf (g'++h')=(vT i).inf (g++h'))->
 (t.re G b).inf (g'++h)=t.inf (g++h):=by
 induction t using Tm.ind with
 |h t ih=>
  intro g g' h b hs hG;by_cases h1:t.kind=1
  ·rw[uj h1];have:=hG t.index h b (x9 hs).1 (by omega) (by omega) ⟨[],by simp⟩;rw[this,<-KQ hs h1]
  ·rw[x8 h1,Tm.AO,Tm.AO (t:=t)];simp only[Tm.Ah,Tm.AL,Tm.Ac,h1,if_false];by_cases h2:t.kind=2
   ·have e:up t.kind b=b+1:=if_pos h2;have:Tm.AD (g'++h++[t.ty]) (t.args.map (Tm.re G (up t.kind b)))=Tm.AD (g++h++[t.ty]) t.args:=by
     refine VK t.args fun x hx=> ?_;rw[List.append_assoc,List.append_assoc];refine ih x hx g g' (h++[t.ty]) _ (zh hs x hx) fun i h' b' hi hb hl he=>hG i h' b' hi ?_ ?_ ?_
     ·rw[e] at hb;simp at hb;omega
     ·simp at hl;omega
     ·obtain ⟨e',he'⟩:=he;exact⟨[t.ty]++e',by rw[he',List.append_assoc]⟩
    simp only[h2,if_true,this];rw[<-h2,this]
   ·have e:up t.kind b=b:=if_neg h2;have:Tm.AD (g'++h) (t.args.map (Tm.re G (up t.kind b)))=Tm.AD (g++h) t.args:=VK t.args fun x hx=>ih x hx g g' h _ (zh hs x hx) (by rw[e];exact hG);simp only[h2,if_false,this]
theorem RK(t:Tm)(g m h:List Ty)(fr b:Int)(hs:t.shape=true)(hh:(h.length:Int)=fr+b):(t.re (zo fr m.length) b).inf (g++m++h)=t.inf (g++h):=by
 refine Y2 _ t g (g++m) h b hs fun i h' b' hi hb hl _=> ?_;have hlen:(h'.length:Int)=fr+b':=by omega
 show(vT (if i-b'>=fr then i+m.length else i)).inf _=_;by_cases hc:i-b'>=fr
 ·rw[if_pos hc,vi _ _ (by omega),vi _ _ hi];simp only[List.length_append];by_cases hr:i>=((g.length+h'.length:Nat):Int)
  ·rw[if_pos (by omega),if_pos hr]
  ·rw[if_neg (by omega),if_neg hr];have e1:(i+(m.length:Int)).toNat=i.toNat+m.length:=by omega
   rw[KD (by omega) (by simp;omega),KD (by omega) (by simp;omega),KD (by omega) (by simp;omega)];congr 2;omega
 ·rw[if_neg hc,vi _ _ hi,vi _ _ hi];simp only[List.length_append];rw[if_neg (by omega),if_neg (by omega),wu (by omega),wu (by omega)]
theorem SQ(t s:Tm)(g h:List Ty)(σ:Ty)(at_ b:Int)(ht:t.shape=true)(hs:s.shape=true)(hh:(h.length:Int)=at_+b)(hσ:s.inf g=(σ,0)):(t.re (xu at_ s) b).inf (g++h)=t.inf (g++[σ]++h):=by
 refine Y2 _ t (g++[σ]) g h b ht fun i h' b' hi hb hl _=> ?_;have hlen:(h'.length:Int)=at_+b':=by omega
 simp only[xu];by_cases hc:i-b'=at_
 ·rw[if_pos hc];have e:=RK s g h' [] 0 0 hs rfl;simp only[List.append_nil] at e;rw[<-hlen,e,hσ,vi _ _ hi];simp only[List.length_append,List.length_cons,List.length_nil];rw[if_neg (by omega),KD (by omega) (by simp;omega)];rw[show i.toNat-h'.length=0 by omega,Rq]
 ·rw[if_neg hc];by_cases hg:i-b'>at_
  ·rw[if_pos hg];show(vT (i-1)).inf _=_;rw[vi _ _ (by omega),vi _ _ hi];simp only[List.length_append,List.length_cons,List.length_nil];by_cases hr:i>=((g.length+(0+1)+h'.length:Nat):Int)
   ·rw[if_pos (by omega),if_pos hr]
   ·rw[if_neg (by omega),if_neg hr,KD (by omega) (by simp;omega),KD (by omega) (by simp;omega)];obtain⟨k,hk⟩:∃k,i.toNat-h'.length=k+1:=⟨i.toNat-h'.length-1,by omega⟩;rw[hk,X7 g σ k (by omega)];congr 2;omega
  ·rw[if_neg hg];show(vT i).inf _=_;rw[vi _ _ hi,vi _ _ hi];simp only[List.length_append,List.length_cons,List.length_nil];rw[if_neg (by omega),if_neg (by omega),wu (by omega),wu (by omega)]
theorem MI{t:Tm}{g:List Ty}(h:(t.inf g).2=0)(hs:t.shape=true)(hb:g.length+t.size<=536870912):t.near=true:=
 List.all_eq_true.2 fun p hp=>by
  have:=Mz t g 0 536870912 h hs (by omega) p hp;simp;omega
theorem Tm.Ae(t:Tm):t.err=0↔t.shape=true/\t.size<=4096:=by
 simp only[Tm.err];cases t.shape
 ·simp
 ·by_cases h:t.size>4096
  ·simp[h]
  ·simp[h];omega
theorem vb(fr by_:Int)(t:Tm):∀b,t.shape=true->(t.re (zo fr by_) b).full=t.full:=by
 induction t using Tm.ind with
 |h t ih=>
  intro b hs;by_cases h1:t.kind=1
  ·rw[uj h1]
   conv=>rhs;rw[KQ hs h1]
   simp[zo,vT,Tm.full,Tm.As]
  ·rw[x8 h1,t.Ag,Tm.Ag];simp only[Tm.Ac,Tm.AL,List.map_map];congr 2;exact List.map_congr_left fun x hx=>ih x hx _ (zh hs x hx)
theorem YI(at_:Int)(s t:Tm)(hs:s.shape=true):∀b,t.shape=true->(t.re (xu at_ s) b).full<=t.full+cnt at_ (t.vars b)*s.full:=by
 induction t using Tm.ind with
 |h t ih=>
  intro b ht;by_cases h1:t.kind=1
  ·rw[uj h1,vu ht h1,uz];have e:t.full=2:=by rw[KQ ht h1];rfl
   simp only[xu];split
   ·rw[vb _ _ _ _ hs];omega
   ·rw[e];simp[Tm.full,Tm.As,Ty.size,Ty.sizes]
  ·rw[x8 h1,t.Ag,Tm.Ag,Ju h1];simp only[Tm.Ac,Tm.AL,List.map_map];have:∀l:List Tm,(∀x∈l,x∈t.args)->(l.map (Tm.full∘Tm.re (xu at_ s) (up t.kind b))).sum<=(l.map Tm.full).sum+cnt at_ (l.flatMap (Tm.vars (up t.kind b)))*s.full:=by
    intro l;induction l with
    |nil=>intro _;simp
    |cons x l ihl=>
     intro hl;have h2:=ih x (hl x (by simp)) (up t.kind b) (zh ht x (hl x (by simp)));have h3:=ihl fun y hy=>hl y (by simp[hy]);simp only[List.map_cons,List.sum_cons,List.flatMap_cons,x6,Function.comp_apply,Nat.add_mul];omega
   have:=this t.args fun x hx=>hx;omega
def Ec(g:List Ty)(t:Tm):Ty×Int:=if t.err≠0 then(Ba,t.err) else t.inf g
def xj(g:List Ty)(t:Tm):Ty×Int:=if xg g≠0 then(Ba,xg g) else Ec g t
theorem VH:∀{g:List Ty},ug g=0->∀x∈g,x.err=0
 |[],_,x,hx=>by cases hx
 |t::l,h,x,hx=>by
  simp only[ug] at h;by_cases h1:t.err=0
  ·simp only[h1,ne_eq,not_true_eq_false,if_false] at h;rcases List.mem_cons.1 hx with rfl|hx
   ·exact h1
   ·exact VH h x hx
  ·rw[if_pos h1] at h;exact absurd h h1
theorem ua{g:List Ty}(h:xg g=0):g.length<=16/\∀x∈g,x.err=0:=by
 unfold xg at h;by_cases h1:g.length>16
 ·rw[if_pos h1] at h;exact absurd h (by decide)
 ·rw[if_neg h1] at h;exact⟨by omega,VH h⟩
theorem Mk.err{n:Nat}{g:List Ty}{t:Ty}{x:Tm}(h:Mk n g t x)(hg:Ap g)(ht:t.small)(hn:n<=5):x.err=0:=by
 refine(Tm.Ae x).2 ⟨h.shape hg ht,?_⟩;have:=(h.size hg ht).1;have:s3 n<=232:=by
  match n,hn with
  |0,_=>decide
  |1,_=>decide
  |2,_=>decide
  |3,_=>decide
  |4,_=>decide
  |5,_=>decide
 omega
theorem Mk.FK{n:Nat}{g:List Ty}{t:Ty}{x:Tm}(h:Mk n g t x)(hg:Ap g)(ht:t.small)(hn:n<=5):x.size<=232:=by
 have:=(h.size hg ht).1;have:s3 n<=232:=by
  match n,hn with
  |0,_=>decide
  |1,_=>decide
  |2,_=>decide
  |3,_=>decide
  |4,_=>decide
  |5,_=>decide
 omega
theorem Mk.near{n:Nat}{g:List Ty}{t:Ty}{x:Tm}(h:Mk n g t x)(hg:Ap g)(ht:t.small)(hn:n<=5)(hl:g.length<=100000):x.near=true:=
 MI (by rw[h.inf hg ht]) (h.shape hg ht) (by have:=h.FK hg ht hn;omega)
def A3(t:Ty):Sz:=⟨t,t.num⟩
def HZ:Sz:=⟨Ba,0⟩
def IU(k:Int):List Int:=if k=4 then [1] else if k=5 then [1,1] else if k=7 then [2] else if k=8 then [2,1,2] else if k=13 then [5] else []
def KM(k:Int)(a b:Sz):Sz×Int:=if 1+a.nodes+b.nodes>64 then(HZ,4) else(⟨.mk k [a.ty,b.ty],1+a.nodes+b.nodes⟩,0)
def Jr(r:Ty)(l:List Ty):Ty:=l.foldr yt r
def NB(t:Tm):Ty:=if t.kind=9 then Jr t.ty [Af,Al,t.ty] else Jr t.ty [Af,t.ty]
def C8:List Ty->List V
 |[]=>HZ.view++HZ.view++HZ.view
 |[a]=>(A3 a).view++HZ.view++HZ.view
 |[a,b]=>(A3 a).view++(A3 b).view++HZ.view
 |a::b::c::_=>(A3 a).view++(A3 b).view++(A3 c).view
theorem Mk.weak{n:Nat}{g:List Ty}{t:Ty}{x:Tm}(m:List Ty)(h:Mk n g t x):Mk n (m++g) t x:=by
 induction h with
 |var n g t i hi h=>exact .var n _ t i (by simp;omega) ((wu hi).trans h)
 |app n g t s a b hn hs h1 _ _ iha ihb=>exact .app n _ t s a b hn hs h1 (by rw[List.append_assoc];exact iha) ihb
 |fst n g t s a b hn hs h1 _ _ iha ihb=>exact .fst n _ t s a b hn hs h1 iha ihb
 |snd n g t s a b hn hs h1 _ _ iha ihb=>exact .snd n _ t s a b hn hs h1 iha ihb
 |recu n g t a b m' hn hm _ _ iha ihb=>exact .recu n _ t a b m' hn hm (by rw[List.append_assoc];exact iha) ihb
 |fold n g t a b c hn _ _ _ iha ihb ihc=>exact .fold n _ t a b c hn (by rw[List.append_assoc];exact iha) ihb ihc
 |ctx n g t s a hn i hi h h1 _ iha=>exact .ctx n _ t s a hn i (by simp;omega) ((wu hi).trans h) h1 iha
 |succ n g a hn _ iha=>exact .succ n _ a hn iha
 |plus n g a b hn _ _ iha ihb=>exact .plus n _ a b hn iha ihb
 |sub n g a b hn _ _ iha ihb=>exact .sub n _ a b hn iha ihb
 |num n g m' hm=>exact .num n _ m' hm
 |cons n g a b hn _ _ iha ihb=>exact .cons n _ a b hn iha ihb
 |nil n g=>exact .nil n _
 |pair n g s t a b h1 h2 _ _ iha ihb=>exact .pair n _ s t a b h1 h2 iha ihb
 |lam n g s t a h1 h2 _ iha=>exact .lam n _ s t a h1 h2 (by rw[List.append_assoc];exact iha)
 |unit n g=>exact .unit n _
def QB:List Tm->Int
 |[]=>0
 |t::l=>if t.err≠0 then t.err else QB l
def Ynm(f:Tm)(l:List Tm):Nat:=f.size+(l.map fun x=>1+x.size).sum
def Ymk(f:Tm)(l:List Tm):Int:=if f.err≠0 then f.err else if QB l≠0 then QB l else if Ynm f l>4096 then 4 else 0
def S6(f:Tm)(l:List Tm):Tm:=if Ymk f l=0 then Mp f l else AU
mutual
def Dr:Ty->Tm
 | .mk k l=>if k=2 then nT 7 [] else if k=5 then nT 13 [] else if k=3 then nT 10 (Mr l) else if k=4 then BV (Bx l 0) ((Mr l).getD 1 AU) else nT 4 []
def Mr:List Ty->List Tm
 |[]=>[]
 |t::l=>Dr t::Mr l
end
theorem Yhu(a b:Ty):Dr (B8 a b)=nT 10 [Dr a,Dr b]:=by simp[B8,Dr,Mr]
theorem Yir(a b:Ty):Dr (yt a b)=BV a (Dr b):=by simp[yt,Dr,Mr,Bx]
theorem Zxs(t:Ty):t.shape=true->t.size<=64->(∀g,(Dr t).inf g=(t,0))/\(Dr t).shape=true/\(Dr t).size<=t.size/\(Dr t).full<=66*t.size:=by
 induction t using Ty.ind with
 |h t ih=>
  intro hs h64;rcases Zip hs with rfl|rfl|rfl|⟨a,b,ha,hb,rfl|rfl⟩
  ·exact ⟨fun g=>TN g,by decide,by decide,by decide⟩
  ·exact ⟨fun g=>by simp[Dr,Al,nT,Tm.inf,Tm.AD,yr],by decide,by decide,by decide⟩
  ·exact ⟨fun g=>by simp[Dr,G9,nT,Tm.inf,Tm.AD,yr],by decide,by decide,by decide⟩
  ·rw[Jw] at h64 ⊢;rw[Yhu];obtain⟨a1,a2,a3,a4⟩:=ih a (by simp) ha (by omega);obtain⟨b1,b2,b3,b4⟩:=ih b (by simp) hb (by omega);refine⟨fun g=>Px (a1 g) (b1 g) ((Ty.Ae _).2 ⟨Pm ha hb,by rw[Jw];omega⟩),ve rfl rfl a2 b2,?_,?_⟩
   ·simp only[nT,Tm.size,Tm.sizes];omega
   ·simp only[nT,Tm.full,Tm.As,Ty.size,Ty.sizes];omega
  ·rw[vw] at h64 ⊢;rw[Yir];obtain⟨b1,b2,b3,b4⟩:=ih b (by simp) hb (by omega);have hp:=a.size_pos;refine⟨fun g=>wi (b1 _) ((Ty.Ae _).2 ⟨Jf ha hb,by rw[vw];omega⟩),I9 (Li ha (by omega)) b2,?_,?_⟩
   ·simp only[BV,Tm.size,Tm.sizes];omega
   ·simp only[BV,Tm.full,Tm.As];omega
@[simp] theorem Fm.Ah(k:Int)(h:Ty)(ts:List Tm)(as:List Fm):(Fm.mk k h ts as).kind=k:=rfl
@[simp] theorem Fm.AL(k:Int)(h:Ty)(ts:List Tm)(as:List Fm):(Fm.mk k h ts as).ty=h:=rfl
@[simp] theorem Fm.Am(k:Int)(h:Ty)(ts:List Tm)(as:List Fm):(Fm.mk k h ts as).terms=ts:=rfl
@[simp] theorem Fm.Ac(k:Int)(h:Ty)(ts:List Tm)(as:List Fm):(Fm.mk k h ts as).args=as:=rfl
def xq(k:Int):Bool:=decide (4<=k)&&decide (k<=7)
def Fm.head(f:Fm):Bool:=
 if f.kind=1 then f.ty.BJ&&f.terms.length==2&&f.args.length==0
 else if f.kind=2\/f.kind=3 then f.ty.BJ&&f.terms.length==0&&f.args.length==2
 else if f.kind=4\/f.kind=5\/f.kind=6\/f.kind=7 then f.ty.ok&&f.terms.length==0&&f.args.length==1 else false
mutual
def Fm.shape:Fm->Bool
 | .mk k h ts as=>Fm.head (.mk k h ts as)&&ts.all Tm.shape&&Fm.Bg as
def Fm.Bg:List Fm->Bool
 |[]=>true
 |f::l=>f.shape&&Fm.Bg l
end
mutual
def Fm.size:Fm->Nat
 | .mk _ _ ts as=>1+(ts.map Tm.size).sum+Fm.sizes as
def Fm.sizes:List Fm->Nat
 |[]=>0
 |f::l=>f.size+Fm.sizes l
end
mutual
def Fm.full:Fm->Nat
 | .mk _ h ts as=>1+h.size+(ts.map Tm.full).sum+Fm.As as
def Fm.As:List Fm->Nat
 |[]=>0
 |f::l=>f.full+Fm.As l
end
theorem Fm.Bw:∀l:List Fm,Fm.Bg l=l.all Fm.shape
 |[]=>rfl
 |f::l=>by rw[Fm.Bg,Fm.Bw l];rfl
theorem Fm.BH:∀l:List Fm,Fm.sizes l=(l.map Fm.size).sum
 |[]=>rfl
 |f::l=>by rw[Fm.sizes,Fm.BH l];rfl
theorem Fm.B4:∀l:List Fm,Fm.As l=(l.map Fm.full).sum
 |[]=>rfl
 |f::l=>by rw[Fm.As,Fm.B4 l];rfl
theorem Fm.Ai(f:Fm):f.shape=(f.head&&f.terms.all Tm.shape&&f.args.all Fm.shape):=by cases f;simp only[Fm.shape,Fm.Bw];rfl
theorem Fm.size_eq(f:Fm):f.size=1+(f.terms.map Tm.size).sum+(f.args.map Fm.size).sum:=by cases f;simp only[Fm.size,Fm.BH];rfl
theorem Fm.Ag(f:Fm):f.full=1+f.ty.size+(f.terms.map Tm.full).sum+(f.args.map Fm.full).sum:=by cases f;simp only[Fm.full,Fm.B4];rfl
theorem Fm.Aa(f:Fm):1<=f.full:=by rw[Fm.Ag];omega
theorem Fm.size_pos(f:Fm):1<=f.size:=by rw[Fm.size_eq];omega
theorem Fm.ind{P:Fm->Prop}(h:∀f,(∀x∈f.args,P x)->P f)(f:Fm):P f:=by
 have:∀n,∀f:Fm,f.full<=n->P f:=by
  intro n;induction n with
  |zero=>intro f h;have:=f.Aa;omega
  |succ n ih=>
   intro f hf;refine h f fun x hx=>ih x ?_;have:=ze Fm.full hx;have:=f.Ag;omega
 exact this _ f (Nat.le_refl _)
theorem Fm.Ak(f:Fm):f.size<=f.full:=by
 induction f using Fm.ind with
 |h f ih=>
  rw[f.size_eq,f.Ag];have h1:=xi (f:=Fm.size) (g:=Fm.full) f.args ih;have h2:=xi (f:=Tm.size) (g:=Tm.full) f.terms fun x _=>x.Ak;omega
def Fm.nodes(f:Fm):Nat:=if f.shape then f.size else 0
def Fm.err(f:Fm):Int:=if f.shape=false then 2 else if f.size>4096 then 4 else 0
def Fm.num(f:Fm):Int:=if f.err=0 then f.size else 0
def AG:Fm:= .mk 0 (.mk 0 []) [] []
def AV(a b:Tm):Fm:= .mk 1 (.mk 0 []) [a,b] []
theorem KH{a b:Tm}(ha:a.shape=true)(hb:b.shape=true):(AV a b).shape=true:=by
 rw[Fm.Ai];simp[AV,Fm.head,ha,hb,Ty.BJ]
theorem Kj(a b:Tm):(AV a b).size=1+(a.size+b.size):=by rw[Fm.size_eq];simp[AV]
theorem Fm.Ae(f:Fm):f.err=0↔f.shape=true/\f.size<=4096:=by
 unfold Fm.err;cases hs:f.shape with
 |false=>simp
 |true=>
  by_cases h:f.size>4096
  ·rw[if_neg (by simp),if_pos h];constructor
   ·intro h;cases h
   ·rintro ⟨_,h2⟩;omega
  ·rw[if_neg (by simp),if_neg h];exact⟨fun _=>⟨rfl,by omega⟩,fun _=>rfl⟩
def Tm.arg(t:Tm)(i:Nat):Tm:=t.args.getD i AU
mutual
def yw(at_:Int):Tm->Nat
 | .mk k i h xs=>if k=1/\i=at_ then 1 else Qc (up k at_) xs
def Qc(at_:Int):List Tm->Nat
 |[]=>0
 |x::l=>yw at_ x+Qc at_ l
end
theorem YJ(at_:Int):∀l:List Tm,Qc at_ l=(l.map (yw at_)).sum
 |[]=>rfl
 |x::l=>by rw[Qc,YJ at_ l];rfl
theorem PR(at_:Int)(t:Tm):yw at_ t=if t.kind=1/\t.index=at_ then 1 else(t.args.map (yw (up t.kind at_))).sum:=by
 cases t;simp only[yw,YJ,Tm.Ah,Tm.A4,Tm.Ac];rfl
theorem LY(t:Tm):∀at_,yw at_ t<=t.size:=by
 induction t using Tm.ind with
 |h t ih=>
  intro at_;rw[PR,t.size_eq];split
  ·omega
  ·have:=xi (f:=yw (up t.kind at_)) (g:=Tm.size) t.args fun x hx=>ih x hx _;omega
theorem Pe(t:Tm):∀at_ b:Int,t.shape=true->yw (at_+b) t=cnt at_ (t.vars b):=by
 induction t using Tm.ind with
 |h t ih=>
  intro at_ b hs;rw[PR];by_cases h1:t.kind=1
  ·rw[vu hs h1,uz,HI hs h1];by_cases h:t.index=at_+b
   ·rw[if_pos ⟨h1,h⟩,if_pos (by show t.index-b=at_;omega)]
   ·rw[if_neg (fun hh=>h hh.2),if_neg (by show ¬t.index-b=at_;omega)];rfl
  ·rw[if_neg (fun hh=>h1 hh.1)];have hargs:=zh hs;obtain⟨k,i,th,xs⟩:=t;rw[Ye7 at_ b k i th xs h1];have e:up k (at_+b)=at_+up k b:=by unfold up;split<;>omega
   simp only[Tm.Ah,Tm.Ac] at*;rw[e];congr 1;exact List.map_congr_left fun x hx=>ih x hx at_ (up k b) (hargs x hx)
def JK(t:Tm):Bool:=
 if t.kind=3 then(t.arg 0).kind==2&&((t.arg 1).args.length==0||decide (yw 0 ((t.arg 0).arg 0)<=1))
 else if t.kind=6 then(t.arg 2).kind==4
 else if t.kind=9 then(t.arg 2).kind==7
 else if t.kind=11\/t.kind=12 then(t.arg 0).kind==10 else false
def Jd(t:Tm):Tm:=
 if t.kind=3 then((t.arg 0).arg 0).re (xu 0 (t.arg 1)) 0
 else if t.kind=11 then(t.arg 0).arg 0 else if t.kind=12 then(t.arg 0).arg 1 else t.arg 0
mutual
def FH:Tm->Option Tm
 | .mk k i h xs=>if JK (.mk k i h xs)=true then some (Jd (.mk k i h xs)) else(J3 xs).map (Tm.mk k i h)
def J3:List Tm->Option (List Tm)
 |[]=>none
 |x::l=>match FH x with
  |some u=>some (u::l)
  |none=>(J3 l).map (x::·)
end
theorem Zo(t:Tm):FH t=if JK t=true then some (Jd t) else(J3 t.args).map (Tm.mk t.kind t.index t.ty):=by
 cases t;simp only[FH];rfl
theorem uh{t:Tm}{g:List Ty}{T:Ty}(h1:t.kind≠1)(h2:t.kind≠2)(h:t.inf g=(T,0)):(∀x∈t.args,(x.inf g).2=0)/\yr t.kind t.ty (t.args.map fun x=>(x.inf g).1)=(T,0):=by
 rw[Tm.AO,if_neg h1,if_neg h2] at h;by_cases h3:(Tm.AD g t.args).2=0
 ·rw[if_neg (by simpa using h3)] at h;have h4:=Tm.CN g t.args h3;refine⟨h4,?_⟩;rw[Tm.EH g t.args h4] at h;exact h
 ·rw[if_pos h3] at h;exact absurd (congrArg Prod.snd h) h3
theorem Oc{i:Int}{th T:Ty}{b:Tm}{g:List Ty}(h:(Tm.mk 2 i th [b]).inf g=(T,0)):(b.inf (g++[th])).2=0/\T=yt th (b.inf (g++[th])).1:=by
 rw[Tm.AO,if_neg (by simp),if_pos (by simp)] at h;simp only[Tm.Ac,Tm.AL] at h;by_cases h3:(b.inf (g++[th])).2=0
 ·refine ⟨h3,?_⟩;simp only[Tm.AD,h3,ne_eq,not_true_eq_false,if_false] at h;unfold Bk at h;split at h
  ·exact (congrArg Prod.fst h).symm
  ·exact absurd (congrArg Prod.snd h) (by simp)
 ·simp only[Tm.AD,h3,ne_eq,not_false_eq_true,if_true] at h;exact absurd (congrArg Prod.snd h) h3
theorem Yjy{a b T:Ty}(h:Bk (B8 a b)=(T,0)):T=B8 a b:=by
 unfold Bk at h;split at h
 ·exact (congrArg Prod.fst h).symm
 ·exact absurd (congrArg Prod.snd h) (by simp)
theorem Uc{i:Int}{th T:Ty}{x y:Tm}{g:List Ty}(h:(Tm.mk 10 i th [x,y]).inf g=(T,0)):(x.inf g).2=0/\(y.inf g).2=0/\T=B8 (x.inf g).1 (y.inf g).1:=by
 obtain⟨h1,h2⟩:=uh (by simp) (by simp) h;exact⟨h1 x (by simp),h1 y (by simp),Yjy (by simpa[yr,Bx] using h2)⟩
theorem Ke{t:Tm}(hs:t.shape=true){k:Int}(hk:t.kind=k)(ha:CZ k=some 2):∃i th x y,t= .mk k i th [x,y]/\x.shape=true/\y.shape=true:=by
 have h:=Hg hs;have h2:=zh hs;obtain⟨k',i,th,xs⟩:=t;simp only[Tm.Ah,Tm.Ac] at*;subst hk;rw[ha] at h;obtain⟨x,y,rfl⟩:=JY (Option.some.inj h).symm;exact⟨i,th,x,y,rfl,h2 x (by simp),h2 y (by simp)⟩
theorem H9{t:Tm}(hs:t.shape=true){k:Int}(hk:t.kind=k)(ha:CZ k=some 1):∃i th x,t= .mk k i th [x]/\x.shape=true:=by
 have h:=Hg hs;have h2:=zh hs;obtain⟨k',i,th,xs⟩:=t;simp only[Tm.Ah,Tm.Ac] at*;subst hk;rw[ha] at h;obtain⟨x,rfl⟩:=J9 (Option.some.inj h).symm;exact⟨i,th,x,rfl,h2 x (by simp)⟩
theorem KO{t:Tm}(hs:t.shape=true){k:Int}(hk:t.kind=k)(ha:CZ k=some 3):∃i th x y z,t= .mk k i th [x,y,z]/\x.shape=true/\y.shape=true/\z.shape=true:=by
 have h:=Hg hs;have h2:=zh hs;obtain⟨k',i,th,xs⟩:=t;simp only[Tm.Ah,Tm.Ac] at*;subst hk;rw[ha] at h;obtain⟨x,y,z,rfl⟩:=Pb (Option.some.inj h).symm;exact⟨i,th,x,y,z,rfl,h2 x (by simp),h2 y (by simp),h2 z (by simp)⟩
theorem QZ{α:Type}(f:α->Nat)(u:α):∀(xs:List α) (i:Nat) (hi:i<xs.length),((xs.set i u).map f).sum+f xs[i]=(xs.map f).sum+f u
 |[],i,hi=>by simp at hi
 |x::l,0,_=>by simp only[List.set_cons_zero,List.map_cons,List.sum_cons,List.getElem_cons_zero];omega
 |x::l,i+1,hi=>by
  have:=QZ f u l i (by simpa using hi);simp only[List.set_cons_succ,List.map_cons,List.sum_cons,List.getElem_cons_succ];omega
theorem Pj(g:List Ty)(u:Tm):∀(xs:List Tm) (i:Nat) (hi:i<xs.length),u.inf g=xs[i].inf g->Tm.AD g (xs.set i u)=Tm.AD g xs
 |[],i,hi,_=>by simp at hi
 |x::l,0,_,h=>by
  simp only[List.getElem_cons_zero] at h;simp only[List.set_cons_zero,Tm.AD,h]
 |x::l,i+1,hi,h=>by
  simp only[List.set_cons_succ,Tm.AD];rw[Pj g u l i (by simpa using hi) (by simpa using h)]
theorem We(i:Int)(th:Ty)(xs:List Tm)(g:List Ty):(Tm.mk 2 i th xs).inf g=if(Tm.AD (g++[th]) xs).2≠0 then(Ba,(Tm.AD (g++[th]) xs).2) else Bk (yt th (Bx (Tm.AD (g++[th]) xs).1 0)):=by
 rw[Tm.inf];rw[if_neg (by decide),if_pos rfl]
theorem VN{i:Int}{th:Ty}{v b:Tm}{g:List Ty}(hv:v.inf (g++[th])=b.inf (g++[th])):(Tm.mk 2 i th [v]).inf g=(Tm.mk 2 i th [b]).inf g:=by
 have e:Tm.AD (g++[th]) [v]=Tm.AD (g++[th]) [b]:=Pj (g++[th]) v [b] 0 (by simp) hv;rw[We,We,e]
theorem QJ{k i:Int}{th:Ty}{xs:List Tm}{m:Nat}{u:Tm}(h:(Tm.mk k i th xs).shape=true)(hu:u.shape=true):(Tm.mk k i th (xs.set m u)).shape=true:=by
 have hargs:=zh h;rw[Tm.Ai] at h ⊢;simp only[Bool.and_eq_true] at h ⊢;refine⟨?_,?_⟩
 ·have e:(Tm.mk k i th (xs.set m u)).head=(Tm.mk k i th xs).head:=by simp only[Tm.head,Tm.Ah,Tm.Ac,Tm.A4,Tm.AL];cases CZ k<;>simp<;>rfl
  rw[e];exact h.1
 ·refine List.all_eq_true.2 fun x hx=> ?_;rcases List.mem_or_eq_of_mem_set hx with hx|rfl
  ·exact hargs x hx
  ·exact hu
theorem yy(t:Tm):t.shape=true->t.full<=65*t.size:=by
 induction t using Tm.ind with
 |h t ih=>
  intro hs;have hargs:=zh hs;have hty:t.ty.size<=64:=by
   rw[Tm.Ai,Bool.and_eq_true] at hs;have:=hs.1;simp only[Tm.head,Bool.and_eq_true] at this;have h2:=this.2;cases hk:wo t.kind with
   |true=>rw[hk] at h2;simp only[cond_true,Ty.ok,Bool.and_eq_true,decide_eq_true_eq] at h2;exact h2.2
   |false=>
    rw[hk] at h2;simp only[cond_false,Ty.BJ,Bool.and_eq_true,beq_iff_eq] at h2;rw[t.ty.size_eq,List.eq_nil_of_length_eq_zero h2.2];exact Nat.le_trans (Nat.le_of_eq rfl) (by decide)
  have hsum:=xi (f:=Tm.full) (g:=fun x=>65*x.size) t.args fun x hx=>ih x hx (hargs x hx);have hmul:∀l:List Tm,(l.map fun x=>65*x.size).sum=65*(l.map Tm.size).sum:=by
   intro l;induction l with
   |nil=>rfl
   |cons x l ih=>simp only[List.map_cons,List.sum_cons,ih];omega
  rw[hmul] at hsum;rw[t.Ag,t.size_eq];omega
inductive HC:Tm->Tm->Nat->Prop
 |done {t:Tm} (h:FH t=none):HC t t 0
 |step {t u v:Tm} {n:Nat} (h:FH t=some u) (hr:HC u v n):HC t v (n+1)
theorem Sv(a b:Tm):FH (nT 10 [a,b])=match FH a with|some u=>some (nT 10 [u,b])|none=>(FH b).map fun v=>nT 10 [a,v]:=by
 rw[Zo,if_neg (by simp[JK,nT])];simp only[nT,Tm.Ac,Tm.Ah,Tm.A4,Tm.AL,J3];cases FH a with
 |some u=>rfl
 |none=>
  cases FH b with
  |some v=>rfl
  |none=>rfl
theorem HC.right{a:Tm}(ha:FH a=none){b y:Tm}{m:Nat}(h:HC b y m):HC (nT 10 [a,b]) (nT 10 [a,y]) m:=by
 induction h with
 |done h=>exact .done (by rw[Sv,ha,h];rfl)
 |step h _ ih=>exact .step (by rw[Sv,ha,h];rfl) ih
theorem HC.pair{a x b y:Tm}{n m:Nat}(h:HC a x n)(hb:HC b y m):HC (nT 10 [a,b]) (nT 10 [x,y]) (n+m):=by
 induction h with
 |done h=>rw[Nat.zero_add];exact HC.right h hb
 |step h _ ih=>rw[Nat.add_right_comm];exact .step (by rw[Sv,h]) ih
mutual
def Q5:Tm->Bool
 | .mk _ i _ xs=>decide (i>536870912)||Xr xs
def Xr:List Tm->Bool
 |[]=>false
 |x::l=>Q5 x||Xr l
end
def Dk.plain(d:Dk):Ty×Dk:=
 (if(d.next 6).1=0\/(d.next 6).1=1 then Af else if(d.next 6).1=2 then Al else if(d.next 6).1=3 then G9 else if(d.next 6).1=4 then B8 Af Al else B8 Af Af,(d.next 6).2)
def uo(k:Int)(a b:Fm):Fm:= .mk k (.mk 0 []) [] [a,b]
def Bp(k:Int)(s:Ty)(f:Fm):Fm:= .mk k s [] [f]
def Dk.Ka(d:Dk)(g:List Ty):Fm×Dk:=(AV (Dk.tm 3 d g Af).1 (Dk.tm 3 (Dk.tm 3 d g Af).2 g Af).1,(Dk.tm 3 (Dk.tm 3 d g Af).2 g Af).2)
def Dk.fm:Nat->Dk->List Ty->Fm×Dk
 |0,d,g=>d.Ka g
 |n+1,d,g=>
  if(d.next 9).1=0 then(uo 2 (Dk.fm n (d.next 9).2 g).1 (Dk.fm n (Dk.fm n (d.next 9).2 g).2 g).1,(Dk.fm n (Dk.fm n (d.next 9).2 g).2 g).2)
  else if(d.next 9).1=1\/(d.next 9).1=2 then(uo 3 (Dk.fm n (d.next 9).2 g).1 (Dk.fm n (Dk.fm n (d.next 9).2 g).2 g).1,(Dk.fm n (Dk.fm n (d.next 9).2 g).2 g).2)
  else if(d.next 9).1=3\/(d.next 9).1=4 then(Bp 4 ((d.next 9).2.type 1).1 (Dk.fm n ((d.next 9).2.type 1).2 (g++[((d.next 9).2.type 1).1])).1,(Dk.fm n ((d.next 9).2.type 1).2 (g++[((d.next 9).2.type 1).1])).2)
  else if(d.next 9).1=5 then(Bp 5 ((d.next 9).2.type 1).1 (Dk.fm n ((d.next 9).2.type 1).2 (g++[((d.next 9).2.type 1).1])).1,(Dk.fm n ((d.next 9).2.type 1).2 (g++[((d.next 9).2.type 1).1])).2)
  else if(d.next 9).1=6 then(Bp (6+(((d.next 9).2.type 0).2.next 2).1) ((d.next 9).2.type 0).1 (Dk.fm n (((d.next 9).2.type 0).2.next 2).2 (g++[((d.next 9).2.type 0).1])).1,(Dk.fm n (((d.next 9).2.type 0).2.next 2).2 (g++[((d.next 9).2.type 0).1])).2)
  else(d.next 9).2.Ka g
def DR(n:Nat)(f:Fm):Prop:=f.shape=true/\f.size+1<=122*2^n/\f.full+10<=1200*2^n
theorem DR.up{n:Nat}{f:Fm}(h:DR 0 f):DR (n+1) f:=by
 obtain⟨a1,a2,a3⟩:=h;have:1<=2^(n+1):=Nat.one_le_two_pow;exact⟨a1,by omega,by omega⟩
def EA(qs:List (Int×Ty))(f:Fm):Fm:=qs.foldr (fun q f=>Bp q.1 q.2 f) f
def CH(ps:List Fm)(c:Fm):Fm:=ps.foldr (uo 3) c
theorem Ty.D6{t:Ty}(h:t.BJ=true):t= .mk 0 []:=by
 obtain⟨k,as⟩:=t;simp only[Ty.BJ,Ty.kind,Ty.args,Bool.and_eq_true,beq_iff_eq,List.length_eq_zero_iff] at h;rw[h.1,h.2]
def AE(k b:Int):Int:=if xq k=true then b+1 else b
mutual
def Fm.AZ(b:Int):Fm->List (Tm×Int)
 | .mk k _ ts as=>ts.map (fun t=>(t,b))++Fm.Gz (AE k b) as
def Fm.Gz(b:Int):List Fm->List (Tm×Int)
 |[]=>[]
 |f::l=>f.AZ b++Fm.Gz b l
end
mutual
def Fm.re(g:Int->Tm->Tm)(b:Int):Fm->Fm
 | .mk k h ts as=> .mk k h (ts.map (g b)) (Fm.res g (AE k b) as)
def Fm.res(g:Int->Tm->Tm)(b:Int):List Fm->List Fm
 |[]=>[]
 |f::l=>f.re g b::Fm.res g b l
end
theorem Fm.F7(b:Int):∀l:List Fm,Fm.Gz b l=l.flatMap (Fm.AZ b)
 |[]=>rfl
 |f::l=>by rw[Fm.Gz,Fm.F7 b l,List.flatMap_cons]
theorem Fm.DO(g:Int->Tm->Tm)(b:Int):∀l:List Fm,Fm.res g b l=l.map (Fm.re g b)
 |[]=>rfl
 |f::l=>by rw[Fm.res,Fm.DO g b l,List.map_cons]
theorem Fm.A6(b:Int)(f:Fm):f.AZ b=f.terms.map (fun t=>(t,b))++f.args.flatMap (Fm.AZ (AE f.kind b)):=by cases f;simp only[Fm.AZ,Fm.F7];rfl
theorem Fm.Bz(g:Int->Tm->Tm)(b:Int)(f:Fm):f.re g b= .mk f.kind f.ty (f.terms.map (g b)) (f.args.map (Fm.re g (AE f.kind b))):=by cases f;simp only[Fm.re,Fm.DO];rfl
def w6(at_:Int):List (Tm×Int)->Nat
 |[]=>0
 |p::l=>cnt (at_+p.2) (p.1.vars 0)+w6 at_ l
theorem y9(at_:Int):∀l l':List (Tm×Int),w6 at_ (l++l')=w6 at_ l+w6 at_ l'
 |[],l'=>by simp[w6]
 |p::l,l'=>by simp only[List.cons_append,w6,y9 at_ l l'];omega
theorem Ky(at_:Int):∀l:List (Tm×Int),w6 at_ l<=(l.map fun p=>p.1.size).sum
 |[]=>Nat.le_refl _
 |p::l=>by
  have h1:=P9 (at_+p.2) (p.1.vars 0);have h2:=p.1.CQ 0;have h3:=Ky at_ l;simp only[w6,List.map_cons,List.sum_cons];omega
theorem K0(f:Fm):∀b,((f.AZ b).map fun p=>p.1.size).sum+1<=f.size:=by
 induction f using Fm.ind with
 |h f ih=>
  intro b;rw[Fm.A6,Fm.size_eq];have h1:∀l:List Fm,(∀x∈l,∀b,((x.AZ b).map fun p=>p.1.size).sum+1<=x.size)->((l.flatMap (Fm.AZ (AE f.kind b))).map fun p=>p.1.size).sum<=(l.map Fm.size).sum:=by
   intro l;induction l with
   |nil=>intro _;simp
   |cons x l ih2=>
    intro h;have h2:=ih2 fun y hy=>h y (by simp[hy]);have h3:=h x (by simp) (AE f.kind b);simp only[List.flatMap_cons,List.map_append,List.sum_append,List.map_cons,List.sum_cons];omega
  have h2:=h1 f.args ih;have h3:((f.terms.map fun t=>(t,b)).map fun p=>p.1.size)=f.terms.map Tm.size:=by simp[Function.comp_def]
  rw[List.map_append,List.sum_append,h3];omega
theorem Yj3(f:Fm)(b:Int)(m:Nat):(((f.terms.take m).map fun t=>(t,b)).map fun p:Tm×Int=>p.1.size).sum<=f.size:=by
 have h1:=zw Tm.size f.terms m;have h3:(((f.terms.take m).map fun t=>(t,b)).map fun p:Tm×Int=>p.1.size)=(f.terms.take m).map Tm.size:=by simp[Function.comp_def]
 rw[h3,Fm.size_eq];omega
theorem Ydu(b:Int)(l:List Fm):((l.flatMap (Fm.AZ b)).map fun p:Tm×Int=>p.1.size).sum<=(l.map Fm.size).sum:=by
 induction l with
 |nil=>simp
 |cons x l ih=>
  have h3:=K0 x b;simp only[List.flatMap_cons,List.map_append,List.sum_append,List.map_cons,List.sum_cons];omega
theorem Yhb(f:Fm)(b:Int)(m:Nat)(h:m<f.args.length):((f.terms.map (fun t=>(t,b))++(f.args.take m).flatMap (Fm.AZ (AE f.kind b))).map fun p:Tm×Int=>p.1.size).sum+(f.args[m]).size<=f.size:=by
 have h1:=Ydu (AE f.kind b) (f.args.take m);have h2:=yv Fm.size f.args m h;have h4:=zw Fm.size f.args (m+1);have h3:((f.terms.map fun t=>(t,b)).map fun p:Tm×Int=>p.1.size)=f.terms.map Tm.size:=by simp[Function.comp_def]
 have e:=f.size_eq;rw[List.map_append,List.sum_append,h3];omega
theorem LJ(f:Fm):f.shape=true->∀b,∀p∈f.AZ b,p.1.shape=true:=by
 induction f using Fm.ind with
 |h f ih=>
  intro hs b p hp;rw[Fm.Ai,Bool.and_eq_true,Bool.and_eq_true] at hs;rw[Fm.A6,List.mem_append] at hp;rcases hp with hp|hp
  ·obtain ⟨t,ht,rfl⟩:=List.mem_map.1 hp;exact List.all_eq_true.1 hs.1.2 t ht
  ·obtain ⟨x,hx,hp⟩:=List.mem_flatMap.1 hp;exact ih x hx (List.all_eq_true.1 hs.2 x hx) _ p hp
def Tm.AP(t:Tm):Bool:=(t.vars 0).all fun p=>decide (p.1<=268435456)
def Ed(P:Tm->Bool)(b:Bool)(l:List (Tm×Int)):Bool:=b&&l.all fun p=>P p.1
theorem PL(P:Tm->Bool)(b:Bool)(l l':List (Tm×Int)):Ed P (Ed P b l) l'=Ed P b (l++l'):=by simp[Ed,Bool.and_assoc]
theorem Lo(P:Tm->Bool)(b:Bool)(t:Tm)(i:Int):Ed P b [(t,i)]=(b&&P t):=by simp[Ed]
theorem KW(P:Tm->Bool)(b:Bool):Ed P b []=b:=by simp[Ed]
def Fm.near(f:Fm):Bool:=(f.AZ 0).all fun p=>p.1.near
def Fm.AP(f:Fm):Bool:=(f.AZ 0).all fun p=>p.1.AP
def Fm.put(f:Fm)(at_:Int)(s:Tm):Fm:=f.re (fun b t=>t.re (xu (at_+b) s) 0) 0
def yj(f:Fm)(at_:Int)(s:Tm):Int:=
 if f.err≠0 then f.err else if ¬(0<=at_/\at_<=4096) then 1 else if s.err≠0 then s.err else if f.near=false\/s.near=false then 1 else if(f.size:Int)+w6 at_ (f.AZ 0)*(s.size-1)>4096 then 4 else 0
def vy(n:Int):List Tm->Int->Fm->Fm×Int
 |[],_,f=>(f,0)
 |t::l,k,f=>
  if yk t 0 (n-1-k)≠0 then(AG,yk t 0 (n-1-k))
  else if yj f 0 (t.re (zo 0 (n-1-k)) 0)≠0 then(AG,yj f 0 (t.re (zo 0 (n-1-k)) 0))
  else vy n l (k+1) (f.put 0 (t.re (zo 0 (n-1-k)) 0))
def fill(p:Fm)(l:List Tm):Fm×Int:=if p.err≠0 then(AG,p.err) else if 16<l.length then(AG,1) else vy l.length l 0 p
theorem KV(t:Tm):t.shape=true->t.full<=65*t.size:=by
 induction t using Tm.ind with
 |h t ih=>
  intro hs;rw[Tm.Ai,Bool.and_eq_true] at hs;have h0:t.ty.size<=64:=by
   have:=hs.1;simp only[Tm.head,Bool.and_eq_true] at this;have h1:=this.2;cases hk:wo t.kind with
   |true=>rw[hk] at h1;simp only[cond_true,Ty.ok,Bool.and_eq_true,decide_eq_true_eq] at h1;exact h1.2
   |false=>
    rw[hk] at h1;have:=Ty.D6 (show t.ty.BJ=true from h1);rw[this];decide
  have h1:∀l:List Tm,(∀x∈l,x∈t.args)->(l.map Tm.full).sum<=65*(l.map Tm.size).sum:=by
   intro l;induction l with
   |nil=>intro _;simp
   |cons x l ih2=>
    intro h;have h2:=ih2 fun y hy=>h y (by simp[hy]);have hx:=h x (by simp);have h3:=ih x hx (List.all_eq_true.1 hs.2 x hx);simp only[List.map_cons,List.sum_cons];omega
  have h2:=h1 t.args fun _ h=>h;rw[Tm.Ag,Tm.size_eq];omega
theorem Jv(f:Fm):f.shape=true->f.full<=65*f.size:=by
 induction f using Fm.ind with
 |h f ih=>
  intro hs;rw[Fm.Ai,Bool.and_eq_true,Bool.and_eq_true] at hs;obtain⟨⟨hh,ht⟩,ha⟩:=hs;have h0:f.ty.size<=64:=by
   simp only[Fm.head] at hh;split at hh
   ·simp only[Bool.and_eq_true] at hh;rw[Ty.D6 hh.1.1];decide
   ·split at hh
    ·simp only[Bool.and_eq_true] at hh;rw[Ty.D6 hh.1.1];decide
    ·split at hh
     ·simp only[Bool.and_eq_true,Ty.ok,decide_eq_true_eq] at hh;exact hh.1.1.2
     ·cases hh
  have h1:∀l:List Fm,(∀x∈l,x∈f.args)->(l.map Fm.full).sum<=65*(l.map Fm.size).sum:=by
   intro l;induction l with
   |nil=>intro _;simp
   |cons x l ih2=>
    intro h;have h2:=ih2 fun y hy=>h y (by simp[hy]);have hx:=h x (by simp);have h3:=ih x hx (List.all_eq_true.1 ha x hx);simp only[List.map_cons,List.sum_cons];omega
  have h2:∀l:List Tm,(∀x∈l,x∈f.terms)->(l.map Tm.full).sum<=65*(l.map Tm.size).sum:=by
   intro l;induction l with
   |nil=>intro _;simp
   |cons x l ih2=>
    intro h;have h2:=ih2 fun y hy=>h y (by simp[hy]);have hx:=h x (by simp);have h3:=KV x (List.all_eq_true.1 ht x hx);simp only[List.map_cons,List.sum_cons];omega
  have h3:=h1 f.args fun _ h=>h;have h4:=h2 f.terms fun _ h=>h;rw[Fm.Ag,Fm.size_eq];omega
theorem ye{f:Fm}(h:f.err=0):f.full<=266240:=by
 have h1:=(Fm.Ae f).1 h;have:=Jv f h1.1;omega
theorem yo{t:Tm}(h:t.err=0):t.full<=266240:=by
 have h1:=xn h;have:=KV t h1.1;omega
theorem OA{f:Fm}(h:f.err=0)(hn:f.near=true):∀p∈f.AZ 0,∀q∈p.1.vars 0,0<=q.1/\q.1<549755813888:=fun p hp q hq=>by
 have h1:p.1.shape=true:=LJ f ((Fm.Ae f).1 h).1 0 p hp;have h2:=List.all_eq_true.1 hn p hp;have h3:=List.all_eq_true.1 h2 q hq;simp at h3;exact⟨p.1.AB h1 0 q hq,by omega⟩
theorem Rd(f:Fm):0<=f.num/\f.num<=4096:=by
 simp only[Fm.num];split
 ·rename_i h;have:=((Fm.Ae f).1 h).2;omega
 ·omega
mutual
def Fm.same:Fm->Fm->Bool
 | .mk k h ts xs,.mk k' h' ts' ys=>k==k'&&decide (h=h')&&decide (ts=ts')&&Fm.BG xs ys
def Fm.BG:List Fm->List Fm->Bool
 |[],[]=>true
 |x::xs,y::ys=>x.same y&&Fm.BG xs ys
 |_,_=>false
end
mutual
theorem Fm.B7:∀a b:Fm,a.same b=true↔a=b
 | .mk k h ts xs,.mk k' h' ts' ys=>by simp only[Fm.same,Bool.and_eq_true,beq_iff_eq,decide_eq_true_eq,Fm.mk.injEq,Fm.BT xs ys,and_assoc]
theorem Fm.BT:∀a b:List Fm,Fm.BG a b=true↔a=b
 |[],[]=>by simp[Fm.BG]
 |x::xs,y::ys=>by simp only[Fm.BG,Bool.and_eq_true,List.cons.injEq,Fm.B7 x y,Fm.BT xs ys]
 |[],_::_=>by simp[Fm.BG]
 |_::_,[]=>by simp[Fm.BG]
end
instance:DecidableEq Fm:=fun a b=>decidable_of_iff _ (Fm.B7 a b)
theorem A1{g g':Int->Int->Tm}(t:Tm):∀b,(∀p∈t.vars b,g p.1 p.2=g' p.1 p.2)->t.re g b=t.re g' b:=by
 induction t using Tm.ind with
 |h t ih=>
  intro b h;by_cases h1:t.kind=1
  ·rw[uj h1,uj h1];exact h (t.index,b) (by rw[t.AM,if_pos h1];simp)
  ·rw[x8 h1,x8 h1];congr 1;exact List.map_congr_left fun x hx=>ih x hx _ fun p hp=>h p (Kp h1 hx hp)
theorem Ks{at_:Int}{l:List (Int×Int)}(h:cnt at_ l=0):∀p∈l,¬p.1-p.2=at_:=by
 intro p hp he;have h1:p∈l.filter fun p=>p.1-p.2==at_:=List.mem_filter.2 ⟨hp,by simp[he]⟩;have h2:=List.length_pos_of_mem h1;simp only[cnt] at h;omega
def DE:Nat->Tm->Tm
 |0,t=>t
 |n+1,t=>(DE n t).re (xu 0 AU) 0
def low(n:Nat)(t:Tm):Tm×Bool:=if ∀j,j<n->cnt 0 ((DE j t).vars 0)=0 then(DE n t,true) else(AU,false)
abbrev um:=List (Int×Tm)
mutual
def mT(h b:Int):Tm->Tm->um->Bool×um
 | .mk k i ty as,t,m=>
   if k=1/\0<=i-b/\i-b<h then
    (if(i-b)∈m.map (·.1) then(true,m) else((low b.toNat t).2,m++[(i-b,(low b.toNat t).1)]))
   else if k=t.kind/\ty=t.ty then
    (if k=1 then(decide ((if b<=i then i-h else i)=t.index),m) else BE h (up k b) as t.args m)
   else(false,m)
def BE(h b:Int):List Tm->List Tm->um->Bool×um
 |[],_,m=>(true,m)
 |_::_,[],m=>(false,m)
 |p::ps,t::ts,m=>match mT h b p t m with|(true,m')=>BE h b ps ts m'|(false,m')=>(false,m')
end
mutual
def mF(h b:Int):Fm->Fm->um->Bool×um
 | .mk k ty ts as,f,m=>
   if k=f.kind/\ty=f.ty then(match BE h b ts f.terms m with|(true,m')=>CB h (AE k b) as f.args m'|(false,m')=>(false,m'))
   else(false,m)
def CB(h b:Int):List Fm->List Fm->um->Bool×um
 |[],_,m=>(true,m)
 |_::_,[],m=>(false,m)
 |p::ps,f::fs,m=>match mF h b p f m with|(true,m')=>CB h b ps fs m'|(false,m')=>(false,m')
end
theorem OV{t:Tm}:∀{b b':Int},∀q∈t.vars b,∃q'∈t.vars b',q'.1=q.1:=by
 induction t using Tm.ind with
 |h t ih=>
  intro b b' q hq;rw[Tm.AM,List.mem_append] at hq;rcases hq with hq|hq
  ·by_cases h1:t.kind=1
   ·rw[if_pos h1,List.mem_singleton] at hq;exact⟨(t.index,b'),by rw[Tm.AM,if_pos h1];simp,by rw[hq]⟩
   ·rw[if_neg h1] at hq;cases hq
  ·obtain ⟨x,hx,hq⟩:=List.mem_flatMap.1 hq;obtain⟨q',h1,h2⟩:=ih x hx (b':=up t.kind b') q hq;exact⟨q',by rw[Tm.AM];exact List.mem_append_right _ (List.mem_flatMap.2 ⟨x,hx,h1⟩),h2⟩
theorem Ud{f:Fm}:∀{b b':Int},∀q∈f.AZ b,∃q'∈f.AZ b',q'.1=q.1:=by
 induction f using Fm.ind with
 |h f ih=>
  intro b b' q hq;rw[Fm.A6,List.mem_append] at hq;rcases hq with hq|hq
  ·obtain ⟨t,ht,rfl⟩:=List.mem_map.1 hq;exact⟨(t,b'),by rw[Fm.A6];exact List.mem_append_left _ (List.mem_map.2 ⟨t,ht,rfl⟩),rfl⟩
  ·obtain ⟨x,hx,hq⟩:=List.mem_flatMap.1 hq;obtain⟨q',h1,h2⟩:=ih x hx (b':=AE f.kind b') q hq;exact⟨q',by rw[Fm.A6];exact List.mem_append_right _ (List.mem_flatMap.2 ⟨x,hx,h1⟩),h2⟩
theorem zn{f x:Fm}(h:f.shape=true)(hx:x∈f.args):x.shape=true:=by
 rw[Fm.Ai,Bool.and_eq_true] at h;exact List.all_eq_true.1 h.2 x hx
theorem zy{f:Fm}(h:f.shape=true){t:Tm}(ht:t∈f.terms):t.shape=true:=by
 rw[Fm.Ai,Bool.and_eq_true,Bool.and_eq_true] at h;exact List.all_eq_true.1 h.1.2 t ht
theorem Yan(at_:Int)(s:Tm)(hs:s.shape=true)(f:Fm):f.shape=true->∀b,(f.re (fun b t=>t.re (xu (at_+b) s) 0) b).full<=f.full+w6 at_ (f.AZ b)*s.full:=by
 induction f using Fm.ind with
 |h f ih=>
  intro hf b;have e3:(f.re (fun b t=>t.re (xu (at_+b) s) 0) b).full=1+f.ty.size+((f.terms.map fun t=>t.re (xu (at_+b) s) 0).map Tm.full).sum+((f.args.map (Fm.re (fun b t=>t.re (xu (at_+b) s) 0) (AE f.kind b))).map Fm.full).sum:=by
   rw[Fm.Bz,Fm.Ag];rfl
  rw[e3,f.Ag,Fm.A6,y9,Nat.add_mul,List.map_map,List.map_map];have h1:∀l:List Tm,(∀x∈l,x∈f.terms)->(l.map (Tm.full∘fun t=>t.re (xu (at_+b) s) 0)).sum<=(l.map Tm.full).sum+w6 at_ (l.map fun t=>(t,b))*s.full:=by
   intro l;induction l with
   |nil=>intro _;simp
   |cons x l ihl=>
    intro hl;have h2:=YI (at_+b) s x hs 0 (zy hf (hl x (by simp)));have h3:=ihl fun y hy=>hl y (by simp[hy]);simp only[List.map_cons,List.sum_cons,Function.comp_apply,w6,Nat.add_mul];omega
  have h2:∀l:List Fm,(∀x∈l,x∈f.args)->(l.map (Fm.full∘Fm.re (fun b t=>t.re (xu (at_+b) s) 0) (AE f.kind b))).sum<=(l.map Fm.full).sum+w6 at_ (l.flatMap (Fm.AZ (AE f.kind b)))*s.full:=by
   intro l;induction l with
   |nil=>intro _;simp
   |cons x l ihl=>
    intro hl;have h2:=ih x (hl x (by simp)) (zn hf (hl x (by simp))) (AE f.kind b);have h3:=ihl fun y hy=>hl y (by simp[hy]);simp only[List.map_cons,List.sum_cons,Function.comp_apply,List.flatMap_cons,y9,Nat.add_mul];omega
  have h3:=h1 f.terms fun _ h=>h;have h4:=h2 f.args fun _ h=>h;omega
theorem Q7{f:Fm}{at_:Int}{s:Tm}(h:yj f at_ s=0):f.err=0/\s.err=0/\f.near=true/\s.near=true/\(f.size:Int)+w6 at_ (f.AZ 0)*(s.size-1)<=4096:=by
 simp only[yj] at h;split at h
 ·rename_i h1;exact absurd h h1
 ·rename_i h1;split at h
  ·omega
  ·split at h
   ·rename_i h2;exact absurd h h2
   ·rename_i h2;split at h
    ·omega
    ·rename_i h3;split at h
     ·omega
     ·rename_i h4;refine⟨Classical.not_not.1 h1,Classical.not_not.1 h2,?_,?_,by omega⟩
      ·cases hn:f.near with
       |true=>rfl
       |false=>exact absurd (.inl hn) h3
      ·cases hn:s.near with
       |true=>rfl
       |false=>exact absurd (.inr hn) h3
theorem QK{f:Fm}{at_:Int}{s:Tm}(h:yj f at_ s=0):(f.put at_ s).full<=1200000000:=by
 obtain⟨h1,h2,_,_,_⟩:=Q7 h;have h3:=Yan at_ s (xn h2).1 f ((Fm.Ae f).1 h1).1 0;have h4:=ye h1;have h5:=yo h2;have h6:=Ky at_ (f.AZ 0);have h7:=K0 f 0;have h8:=((Fm.Ae f).1 h1).2;have h9:w6 at_ (f.AZ 0)*s.full<=4096*266240:=Nat.mul_le_mul (by omega) h5;show(f.re _ 0).full<=_;omega
def Ej:um->Int->Option Tm
 |[],_=>none
 |p::m,k=>if p.1=k then some p.2 else Ej m k
def Jt:Tm:= .mk 4 0 (.mk 0 []) []
def C3(m:um)(n:Nat):List Tm:=(List.range n).map fun k:Nat=>(Ej m (k:Int)).getD Jt
def wd(p:Fm)(h:Int)(f:Fm):List Tm×Int:=
 if p.err≠0 then([],p.err) else if f.err≠0 then([],f.err) else if ¬(0<=h/\h<=16)\/p.AP=false\/f.AP=false then([],1)
 else if(mF h 0 p f []).1=false then([],11)
 else if(fill p (C3 (mF h 0 p f []).2 h.toNat)).2≠0\/(fill p (C3 (mF h 0 p f []).2 h.toNat)).1≠f then([],11)
 else if((mF h 0 p f []).2.length:Int)<h then([],13) else(C3 (mF h 0 p f []).2 h.toNat,0)
theorem JC(g g':Int->Int->Tm)(t:Tm):∀b,(t.re g b).re g' b=t.re (fun i c=>(g i c).re g' c) b:=by
 induction t using Tm.ind with
 |h t ih=>
  intro b;by_cases h1:t.kind=1
  ·rw[uj h1,uj h1]
  ·rw[x8 h1,x8 h1,x8 (t:=Tm.mk _ _ _ _) (by simpa using h1)];simp only[Tm.Ah,Tm.A4,Tm.AL,Tm.Ac,List.map_map];congr 1;exact List.map_congr_left fun x hx=>ih x hx _
theorem Ok(g:Int->Int->Tm)(t:Tm):∀b,t.shape=true->(t.re g b).vars b=(t.vars b).flatMap fun p=>(g p.1 p.2).vars p.2:=by
 induction t using Tm.ind with
 |h t ih=>
  intro b hs;by_cases h1:t.kind=1
  ·rw[uj h1,vu hs h1];simp
  ·rw[x8 h1,Ju h1,Ju (t:=Tm.mk _ _ _ _) (by simpa using h1)];simp only[Tm.Ah,Tm.Ac,List.flatMap_assoc,List.flatMap_map];have:∀l:List Tm,(∀x∈l,x∈t.args)->l.flatMap (fun x=>(x.re g (up t.kind b)).vars (up t.kind b))=l.flatMap fun x=>(x.vars (up t.kind b)).flatMap fun p=>(g p.1 p.2).vars p.2:=by
    intro l;induction l with
    |nil=>intro _;rfl
    |cons x l ihl=>
     intro h;rw[List.flatMap_cons,List.flatMap_cons,ihl fun y hy=>h y (by simp[hy]),ih x (h x (by simp)) _ (zh hs x (h x (by simp)))]
   exact this t.args fun _ h=>h
theorem S9(k b c:Int):up k (b+c)=up k b+c:=by simp only[up];split<;>omega
theorem KN(t:Tm):∀b c:Int,t.vars (b+c)=(t.vars b).map fun p=>(p.1,p.2+c):=by
 induction t using Tm.ind with
 |h t ih=>
  intro b c;rw[t.AM,t.AM,List.map_append,S9];congr 1
  ·split<;>rfl
  ·rw[List.map_flatMap];have:∀l:List Tm,(∀x∈l,x∈t.args)->l.flatMap (Tm.vars (up t.kind b+c))=l.flatMap fun x=>(x.vars (up t.kind b)).map fun p=>(p.1,p.2+c):=by
    intro l;induction l with
    |nil=>intro _;rfl
    |cons x l ihl=>
     intro h;rw[List.flatMap_cons,List.flatMap_cons,ihl fun y hy=>h y (by simp[hy]),ih x (h x (by simp))]
   exact this t.args fun _ h=>h
theorem DQ(g:Int->Int->Tm)(c:Int)(t:Tm):∀b,t.re g (b+c)=t.re (fun i d=>g i (d+c)) b:=by
 induction t using Tm.ind with
 |h t ih=>
  intro b;by_cases h1:t.kind=1
  ·rw[uj h1,uj h1]
  ·rw[x8 h1,x8 h1,S9];congr 1;exact List.map_congr_left fun x hx=>ih x hx _
theorem Js(g:Int->Int->Tm)(c:Int)(t:Tm):t.re g c=t.re (fun i d=>g i (d+c)) 0:=by
 have:=DQ g c t 0
 rwa [Int.zero_add] at this
theorem FT(j:Int)(g:Int->Int->Tm)(c:Int):(vT j).re g c=g j c:=by rw[uj (show(vT j).kind=1 from rfl)];rfl
theorem Td(j c:Int):(vT j).vars c=[(j,c)]:=by simp[vT,Tm.vars,Tm.B1]
theorem x7(fr by_ i b:Int):zo fr by_ i b=vT (if i-b>=fr then i+by_ else i):=rfl
theorem uv(at_:Int)(s:Tm)(i b:Int):xu at_ s i b=if i-b=at_ then s.re (zo 0 (at_+b)) 0 else vT (if i-b>at_ then i-1 else i):=rfl
theorem Xb{g:Int->Int->Tm}(t:Tm):∀b,t.shape=true->(∀p∈t.vars b,g p.1 p.2=vT p.1)->t.re g b=t:=by
 induction t using Tm.ind with
 |h t ih=>
  intro b hs hg;by_cases h1:t.kind=1
  ·rw[uj h1];have h2:=hg (t.index,b) (by rw[vu hs h1];simp);rw[h2];exact(KQ hs h1).symm
  ·rw[x8 h1];have h2:t.args.map (Tm.re g (up t.kind b))=t.args:=by
    conv=>rhs;rw[<-List.map_id t.args]
    exact List.map_congr_left fun x hx=>ih x hx _ (zh hs x hx) fun p hp=>hg p (Kp h1 hx hp)
   rw[h2];cases t;rfl
theorem Nm(fr by_:Int)(t:Tm)(b:Int)(hs:t.shape=true):(t.re (zo fr by_) b).vars b=(t.vars b).map fun p=>(if p.1-p.2>=fr then p.1+by_ else p.1,p.2):=by
 rw[Ok _ _ _ hs];simp only[x7,Td];rw[List.map_eq_flatMap]
def RQ(l:List Tm)(i b:Int):Tm:=if i<b then vT i else if i-b<l.length then(l.getD (i-b).toNat AU).re (zo 0 b) 0 else vT (i-l.length)
def Tf(l:List Tm)(b:Int)(t:Tm):Tm:=t.re (RQ l) b
theorem Fm.A1{G G':Int->Tm->Tm}(f:Fm):∀b,(∀p∈f.AZ b,G p.2 p.1=G' p.2 p.1)->f.re G b=f.re G' b:=by
 induction f using Fm.ind with
 |h f ih=>
  intro b h;rw[Fm.Bz,Fm.Bz];congr 1
  ·exact List.map_congr_left fun x hx=>h (x,b) (by rw[Fm.A6];exact List.mem_append_left _ (List.mem_map.2 ⟨x,hx,rfl⟩))
  ·exact List.map_congr_left fun x hx=>ih x hx _ fun p hp=>h p (by rw[Fm.A6];exact List.mem_append_right _ (List.mem_flatMap.2 ⟨x,hx,hp⟩))
theorem Jj(k b:Int):b<=AE k b/\AE k b<=b+1:=by simp only[AE];split<;>omega
theorem Q0{f:Fm}:∀{b:Int},∀p∈f.AZ b,b<=p.2:=by
 induction f using Fm.ind with
 |h f ih=>
  intro b p hp;rw[Fm.A6,List.mem_append] at hp;rcases hp with hp|hp
  ·obtain ⟨t,_,rfl⟩:=List.mem_map.1 hp;exact Int.le_refl _
  ·obtain ⟨x,hx,hp⟩:=List.mem_flatMap.1 hp;have:=ih x hx p hp;have:=Jj f.kind b;omega
def Fm.sim(l:List Tm)(b:Int)(f:Fm):Fm:=f.re (Tf l) b
theorem Mw{f:Fm}{at_:Int}{s:Tm}(ha:0<=at_)(hs:s.shape=true)(hf:f.shape=true):(f.put at_ s).shape=true:=by
 have key:∀(f:Fm) (b:Int),0<=b->f.shape=true->(f.re (fun b t=>t.re (xu (at_+b) s) 0) b).shape=true:=by
  intro f;induction f using Fm.ind with
  |h f ih=>
   intro b hb hf;have h0:=hf;rw[Fm.Ai,Bool.and_eq_true,Bool.and_eq_true] at h0;obtain⟨⟨h1,h2⟩,h3⟩:=h0;rw[Fm.Bz,Fm.Ai,Bool.and_eq_true,Bool.and_eq_true];refine⟨⟨?_,?_⟩,?_⟩
   ·simp only[Fm.head,Fm.Ah,Fm.AL,Fm.Am,Fm.Ac,List.length_map] at h1 ⊢;exact h1
   ·rw[Fm.Am,List.all_eq_true];intro y hy;obtain⟨x,hx,rfl⟩:=List.mem_map.1 hy;exact MP 0 hs (List.all_eq_true.1 h2 x hx) (by omega) (by omega) fun p hp=>vv x 0 p hp
   ·rw[Fm.Ac,List.all_eq_true];intro y hy;obtain⟨x,hx,rfl⟩:=List.mem_map.1 hy;have:=Jj f.kind b;exact ih x hx _ (by omega) (List.all_eq_true.1 h3 x hx)
 exact key f 0 (by omega) hf
def C6(h:Int)(vs:List (Int×Int))(m m':um):Prop:=∀k,k∈m'.map (·.1)↔k∈m.map (·.1)\/(0<=k/\k<h/\∃q∈vs,q.1-q.2=k)
theorem C6.app{h:Int}{m m' m'':um}{vs vs':List (Int×Int)}(h1:C6 h vs m m')(h2:C6 h vs' m' m''):C6 h (vs++vs') m m'':=fun k=>by
 rw[h2 k,h1 k];constructor
 ·rintro ((h3|⟨h3,h4,q,hq,h5⟩)|⟨h3,h4,q,hq,h5⟩)
  ·exact .inl h3
  ·exact .inr ⟨h3,h4,q,List.mem_append_left _ hq,h5⟩
  ·exact .inr ⟨h3,h4,q,List.mem_append_right _ hq,h5⟩
 ·rintro (h3|⟨h3,h4,q,hq,h5⟩)
  ·exact .inl (.inl h3)
  ·rcases List.mem_append.1 hq with hq|hq
   ·exact .inl (.inr ⟨h3,h4,q,hq,h5⟩)
   ·exact .inr ⟨h3,h4,q,hq,h5⟩
def F3(l:List (Tm×Int)):List (Int×Int):=l.flatMap fun q=>q.1.vars q.2
def YN(l:List Tm)(m:um):Prop:=(m.map (·.1)).Nodup/\∀q∈m,0<=q.1/\q.1<l.length/\q.2=l.getD q.1.toNat AU
theorem Yg(n:Nat):∀(l:List Int),l.Nodup->(∀k∈l,0<=k/\k<n)->l.length<=n/\((∀k:Nat,k<n->(k:Int)∈l)↔l.length=n):=by
 induction n with
 |zero=>
  intro l _ h;cases l with
  |nil=>simp
  |cons x l=>have:=h x (by simp);omega
 |succ n ih=>
  intro l hn h;have h1:(l.filter (·≠(n:Int))).Nodup:=hn.filter _;have h2:=ih _ h1 fun k hk=>by
   rw[List.mem_filter] at hk;have:=h k hk.1;have h3:k≠(n:Int):=by simpa using hk.2
   omega
  have hcount:l.length=(l.filter (·≠(n:Int))).length+(if(n:Int)∈l then 1 else 0):=by
   clear h2 h1 ih h;induction l with
   |nil=>simp
   |cons x l ihl=>
    rw[List.nodup_cons] at hn;have:=ihl hn.2;by_cases hx:x=(n:Int)
    ·subst hx;rw[if_neg hn.1] at this;simp at this ⊢;omega
    ·have e:((n:Int)∈x::l)↔(n:Int)∈l:=by simp[Ne.symm hx]
     simp only[e,List.length_cons,List.filter_cons,ne_eq,hx,not_false_eq_true,decide_true,if_true];simp only[ne_eq] at this;omega
  by_cases hmem:(n:Int)∈l
  ·rw[if_pos hmem] at hcount;refine⟨by omega,?_⟩;constructor
   ·intro h3;have:=h2.2.1 fun k hk=>List.mem_filter.2 ⟨h3 k (by omega),by simp;omega⟩;omega
   ·intro h3 k hk;by_cases hkn:k=n
    ·subst hkn;exact hmem
    ·exact (List.mem_filter.1 (h2.2.2 (by omega) k (by omega))).1
  ·rw[if_neg hmem] at hcount;refine⟨by omega,?_⟩;constructor
   ·intro h3;exact absurd (h3 n (by omega)) hmem
   ·intro h3;omega
theorem Rx(G:Int->Tm->Tm)(f:Fm):∀b,(f.re G b).AZ b=(f.AZ b).map fun p=>(G p.2 p.1,p.2):=by
 induction f using Fm.ind with
 |h f ih=>
  intro b;rw[Fm.Bz,Fm.A6,Fm.A6];simp only[Fm.Ah,Fm.Am,Fm.Ac,List.map_append,List.map_map,List.map_flatMap,List.flatMap_map];congr 1;have:∀l:List Fm,(∀x∈l,x∈f.args)->l.flatMap (fun x=>(x.re G (AE f.kind b)).AZ (AE f.kind b))=l.flatMap fun x=>(x.AZ (AE f.kind b)).map fun p=>(G p.2 p.1,p.2):=by
   intro l;induction l with
   |nil=>intro _;rfl
   |cons x l ihl=>
    intro h;rw[List.flatMap_cons,List.flatMap_cons,ihl fun y hy=>h y (by simp[hy]),ih x (h x (by simp))]
  exact this f.args fun _ h=>h
theorem Xf{k:Int}{l:List (Tm×Int)}(h:w6 k l=0):∀p∈l,cnt (k+p.2) (p.1.vars 0)=0:=by
 induction l with
 |nil=>intro p hp;cases hp
 |cons q l ih=>
  simp only[w6] at h;intro p hp;rcases List.mem_cons.1 hp with rfl|hp
  ·omega
  ·exact ih (by omega) p hp
theorem My(at_:Int)(s:Tm)(hs:s.shape=true)(f:Fm):f.shape=true->∀b,(f.re (fun b t=>t.re (xu (at_+b) s) 0) b).size=f.size+w6 at_ (f.AZ b)*(s.size-1):=by
 induction f using Fm.ind with
 |h f ih=>
  intro hf b;have e3:(f.re (fun b t=>t.re (xu (at_+b) s) 0) b).size=1+((f.terms.map fun t=>t.re (xu (at_+b) s) 0).map Tm.size).sum+((f.args.map (Fm.re (fun b t=>t.re (xu (at_+b) s) 0) (AE f.kind b))).map Fm.size).sum:=by
   rw[Fm.Bz,Fm.size_eq];rfl
  rw[e3,f.size_eq,Fm.A6,y9,Nat.add_mul,List.map_map,List.map_map];have h1:∀l:List Tm,(∀x∈l,x∈f.terms)->(l.map (Tm.size∘fun t=>t.re (xu (at_+b) s) 0)).sum=(l.map Tm.size).sum+w6 at_ (l.map fun t=>(t,b))*(s.size-1):=by
   intro l;induction l with
   |nil=>intro _;simp[w6]
   |cons x l ihl=>
    intro hl;have h2:=OM (at_+b) s x hs 0 (zy hf (hl x (by simp)));have h3:=ihl fun y hy=>hl y (by simp[hy]);simp only[List.map_cons,List.sum_cons,Function.comp_apply,w6,Nat.add_mul];omega
  have h2:∀l:List Fm,(∀x∈l,x∈f.args)->(l.map (Fm.size∘Fm.re (fun b t=>t.re (xu (at_+b) s) 0) (AE f.kind b))).sum=(l.map Fm.size).sum+w6 at_ (l.flatMap (Fm.AZ (AE f.kind b)))*(s.size-1):=by
   intro l;induction l with
   |nil=>intro _;simp[w6]
   |cons x l ihl=>
    intro hl;have h2:=ih x (hl x (by simp)) (zn hf (hl x (by simp))) (AE f.kind b);have h3:=ihl fun y hy=>hl y (by simp[hy]);simp only[List.map_cons,List.sum_cons,Function.comp_apply,List.flatMap_cons,y9,Nat.add_mul];omega
  have h3:=h1 f.terms fun _ h=>h;have h4:=h2 f.args fun _ h=>h;omega
theorem Xi{f:Fm}{at_:Int}{s:Tm}(ha:0<=at_)(h:yj f at_ s=0):(f.put at_ s).err=0:=by
 obtain⟨h1,h2,_,_,h5⟩:=Q7 h;have hf:=(Fm.Ae f).1 h1;have hs:=(xn h2).1;refine(Fm.Ae _).2 ⟨Mw ha hs hf.1,?_⟩;have h6:=My at_ s hs f hf.1 0;have hsp:=s.size_pos;show(f.re _ 0).size<=4096;rw[h6];have h7:(((w6 at_ (f.AZ 0)*(s.size-1):Nat)):Int)=(w6 at_ (f.AZ 0):Int)*(s.size-1):=by
  rw[Int.natCast_mul,Int.natCast_sub hsp];rfl
 omega
def LM(s:Tm):Prop:=s.err=0/\∀q∈s.vars 0,q.1<=1000000
mutual
def Fm.Bk(g:List Ty):Fm->Prop
 | .mk k h ts as=>(∀t∈ts,t.inf g=(Af,0))/\Fm.He (if xq k=true then g++[h] else g) as
def Fm.He(g:List Ty):List Fm->Prop
 |[]=>True
 |f::l=>f.Bk g/\Fm.He g l
end
def Dd(g:List Ty)(f:Fm):List Ty:=if xq f.kind=true then g++[f.ty] else g
theorem Fm.Fh(g:List Ty):∀l:List Fm,Fm.He g l↔∀x∈l,x.Bk g
 |[]=>by simp[Fm.He]
 |f::l=>by simp only[Fm.He,Fm.Fh g l,List.mem_cons,forall_eq_or_imp]
theorem Fm.Bu(g:List Ty)(f:Fm):f.Bk g↔(∀t∈f.terms,t.inf g=(Af,0))/\∀x∈f.args,x.Bk (Dd g f):=by
 cases f;simp only[Fm.Bk,Fm.Fh,Dd];rfl
theorem IG{g:List Ty}{f:Fm}(h:xq f.kind=true):Dd g f=g++[f.ty]:=if_pos h
theorem It{g:List Ty}{f:Fm}(h:¬xq f.kind=true):Dd g f=g:=if_neg h
theorem Bf{k:Int}:xq k=true↔4<=k/\k<=7:=by simp[xq]
theorem O8{k:Int}{a b:Fm}{g:List Ty}(hk:k=2\/k=3)(ha:a.Bk g)(hb:b.Bk g):(uo k a b).Bk g:=by
 rw[Fm.Bu];have e:Dd g (uo k a b)=g:=It (by show ¬xq k=true;rw[Bf];omega);rw[e];refine And.intro (fun t ht=>by cases ht) (fun x hx=> ?_);simp only[uo,Fm.Ac,List.mem_cons,List.not_mem_nil,or_false] at hx;rcases hx with rfl|rfl
 ·exact ha
 ·exact hb
theorem JB{k:Int}{s:Ty}{a:Fm}{g:List Ty}(hk:4<=k/\k<=7)(ha:a.Bk (g++[s])):(Bp k s a).Bk g:=by
 rw[Fm.Bu];have e:Dd g (Bp k s a)=g++[s]:=IG (Bf.2 hk);rw[e];refine And.intro (fun t ht=>by cases ht) (fun x hx=> ?_);simp only[Bp,Fm.Ac,List.mem_cons,List.not_mem_nil,or_false] at hx;subst hx;exact ha
theorem SY(at_:Int)(s:Tm)(g:List Ty)(σ:Ty)(hs:s.shape=true)(hσ:s.inf g=(σ,0))(f:Fm):∀(h:List Ty) (b:Int),(h.length:Int)=at_+b->f.shape=true->f.Bk (g++[σ]++h)->
 (f.re (fun b t=>t.re (xu (at_+b) s) 0) b).Bk (g++h):=by
 induction f using Fm.ind with
 |h f ih=>
  intro h b hb hf hok;rw[Fm.Bu] at hok;rw[Fm.Bz,Fm.Bu];simp only[Fm.Am,Fm.Ac];refine⟨fun y hy=> ?_,fun y hy=> ?_⟩
  ·obtain ⟨x,hx,rfl⟩:=List.mem_map.1 hy;rw[SQ x s g h σ (at_+b) 0 (zy hf hx) hs (by omega) hσ];exact hok.1 x hx
  ·obtain ⟨x,hx,rfl⟩:=List.mem_map.1 hy;have h1:=hok.2 x hx;by_cases hq:xq f.kind=true
   ·rw[IG hq] at h1;rw[show ∀ts as,Dd (g++h) (Fm.mk f.kind f.ty ts as)=g++h++[f.ty] from fun ts as=>IG (f:=Fm.mk f.kind f.ty ts as) hq];have e:AE f.kind b=b+1:=if_pos hq;rw[e,List.append_assoc];rw[List.append_assoc] at h1;exact ih x hx (h++[f.ty]) (b+1) (by simp;omega) (zn hf hx) h1
   ·rw[It hq] at h1;rw[show ∀ts as,Dd (g++h) (Fm.mk f.kind f.ty ts as)=g++h from fun ts as=>It (f:=Fm.mk f.kind f.ty ts as) hq];have e:AE f.kind b=b:=if_neg hq;rw[e];exact ih x hx h b hb (zn hf hx) h1
theorem QU{f:Fm}:∀{g:List Ty} {b:Int},f.Bk g->f.shape=true->∀q∈f.AZ b,∀v∈q.1.vars 0,v.1<g.length+f.size:=by
 induction f using Fm.ind with
 |h f ih=>
  intro g b hok hf q hq v hv;have e:=f.size_eq;rw[Fm.Bu] at hok;rw[Fm.A6,List.mem_append] at hq;rcases hq with hq|hq
  ·obtain ⟨t,ht,rfl⟩:=List.mem_map.1 hq;have h1:=ze Tm.size ht;have h2:=hok.1 t ht;exact Mz t g 0 _ (by rw[h2]) (zy hf ht) (by omega) v hv
  ·obtain ⟨x,hx,hq⟩:=List.mem_flatMap.1 hq;have h1:=ze Fm.size hx;have h2:=ih x hx (hok.2 x hx) (zn hf hx) q hq v hv;have h3:(Dd g f).length<=g.length+1:=by simp only[Dd];split<;>simp
   omega
theorem Zyq{f:Fm}{g:List Ty}(h:f.Bk g)(he:f.err=0)(hg:g.length<=1000):f.near=true/\f.AP=true:=by
 have h1:=(Fm.Ae f).1 he;refine⟨List.all_eq_true.2 fun q hq=>List.all_eq_true.2 fun v hv=> ?_,List.all_eq_true.2 fun q hq=>List.all_eq_true.2 fun v hv=> ?_⟩
 ·have:=QU h h1.1 q hq v hv;simp;omega
 ·have:=QU h h1.1 q hq v hv;simp;omega
def Dk.pat(g:List Ty)(d:Dk):Nat->List Ty×List Tm×Dk
 |0=>(g,[],d)
 |n+1=>((Dk.pat g d n).1++[((Dk.pat g d n).2.2.type 0).1],(Dk.tm 4 ((Dk.pat g d n).2.2.type 0).2 g ((Dk.pat g d n).2.2.type 0).1).1::(Dk.pat g d n).2.1,(Dk.tm 4 ((Dk.pat g d n).2.2.type 0).2 g ((Dk.pat g d n).2.2.type 0).1).2)
theorem Si{α:Type}{f:α->Nat}{l:List α}(h:∀j (hj:j<l.length),f l[j]=0):(l.map f).sum=0:=by
 induction l with
 |nil=>rfl
 |cons x l ih=>
  have h0:=h 0 (by simp);have h1:=ih fun j hj=>by have:=h (j+1) (by simp;omega);simpa using this
  simp only[List.map_cons,List.sum_cons];simp only[List.getElem_cons_zero] at h0;omega
theorem Sc{α:Type}{f:α->Nat}{l:List α}{m:Nat}(hm:m<l.length)(h:f l[m]≠0):(l.map f).sum≠0:=by
 have:=ze f (List.getElem_mem hm);omega
def we(most:Int)(t:Tm):Bool:=(t.vars 0).all fun p=>decide (p.1<=most)
theorem Zxa(most b:Int)(t:Tm):(t.vars b).all (fun p=>decide (p.1<=most))=we most t:=by
 have h:=KN t 0 b;rw[Int.zero_add] at h;rw[h,List.all_map];rfl
theorem Rb{α β:Type}(f:α->List β)(p:β->Bool)(l:List α):(l.flatMap f).all p=l.all fun x=>(f x).all p:=by
 induction l with
 |nil=>rfl
 |cons x l ih=>rw[List.flatMap_cons,List.all_append,ih,List.all_cons]
theorem Yav{most:Int}(h0:0<=most){t:Tm}(hs:t.shape=true):we most t=(decide (t.index<=most)&&t.args.all (we most)):=by
 simp only[we];by_cases h1:t.kind=1
 ·rw[vu hs h1,HI hs h1];simp
 ·rw[Ju h1,Rb,(x9 hs).2 h1,decide_eq_true h0,Bool.true_and];congr 1;funext x;exact Zxa most _ x
theorem N8(t:Tm):t.near=we 536870912 t:=rfl
def Fy(most:Int)(f:Fm):Bool:=(f.AZ 0).all fun p=>we most p.1
theorem Zx4(most:Int)(f:Fm):Fy most f=(f.terms.all (we most)&&f.args.all (Fy most)):=by
 have key:∀(f:Fm) (b:Int),(f.AZ b).all (fun p=>we most p.1)=Fy most f:=by
  intro f;induction f using Fm.ind with
  |h f ih=>
   intro b;have e:∀b,(f.AZ b).all (fun p=>we most p.1)=(f.terms.all (we most)&&f.args.all (Fy most)):=fun b=>by
    rw[Fm.A6,List.all_append,List.all_map,Rb];congr 1;have:∀l:List Fm,(∀x∈l,x∈f.args)->(l.all fun x=>(x.AZ (AE f.kind b)).all fun p=>we most p.1)=l.all (Fy most):=by
     intro l;induction l with
     |nil=>intro _;rfl
     |cons x l ihl=>intro h;rw[List.all_cons,List.all_cons,ih x (h x (by simp)),ihl fun y hy=>h y (by simp[hy])]
    exact this f.args fun _ h=>h
   rw[e b,<-e 0];rfl
 have e:Fy most f=(f.AZ 0).all fun p=>we most p.1:=rfl;rw[e,Fm.A6,List.all_append,List.all_map,Rb];congr 1;have:(fun x:Fm=>(x.AZ (AE f.kind 0)).all fun p=>we most p.1)=Fy most:=by funext x;exact key x _
 rw[this]
theorem Zqv(f:Fm):f.near=Fy 536870912 f:=rfl
theorem Yh5(k fr by_:Int)(x:Tm):x.re (zo (up k fr) by_) 0=x.re (zo fr by_) (up k 0):=by
 rw[Js (zo fr by_) (up k 0) x];refine A1 x 0 fun p _=> ?_;simp only[x7];congr 1;have:up k fr=fr+up k 0:=by have:=S9 k 0 fr;rw[Int.zero_add,Int.add_comm] at this;exact this
 rw[this];by_cases h:p.1-p.2>=fr+up k 0
 ·rw[if_pos h,if_pos (by omega)]
 ·rw[if_neg h,if_neg (by omega)]
theorem Zzx{fr by_:Int}{t:Tm}(h:t.kind≠1):t.re (zo fr by_) 0= .mk t.kind t.index t.ty (t.args.map fun x=>x.re (zo (up t.kind fr) by_) 0):=by
 rw[x8 h];congr 1;exact List.map_congr_left fun x _=>(Yh5 _ _ _ x).symm
def xy(at_:Int)(f:Fm):Nat:=w6 at_ (f.AZ 0)
theorem Zwk(at_:Int)(f:Fm):∀b c:Int,w6 at_ (f.AZ (b+c))=w6 (at_+c) (f.AZ b):=by
 induction f using Fm.ind with
 |h f ih=>
  intro b c;rw[Fm.A6,Fm.A6,y9,y9];have e:AE f.kind (b+c)=AE f.kind b+c:=by simp only[AE];split<;>omega
  rw[e];congr 1
  ·generalize f.terms=l;induction l with
   |nil=>rfl
   |cons x l ihl=>
    simp only[List.map_cons,w6,ihl];rw[show at_+(b+c)=at_+c+b by omega]
  ·have:∀l:List Fm,(∀x∈l,x∈f.args)->w6 at_ (l.flatMap (Fm.AZ (AE f.kind b+c)))=w6 (at_+c) (l.flatMap (Fm.AZ (AE f.kind b))):=by
    intro l;induction l with
    |nil=>intro _;rfl
    |cons x l ihl=>intro h;rw[List.flatMap_cons,List.flatMap_cons,y9,y9,ih x (h x (by simp)),ihl fun y hy=>h y (by simp[hy])]
   exact this f.args fun _ h=>h
theorem Uw{at_:Int}{f:Fm}(hs:f.shape=true):xy at_ f=(f.terms.map (yw at_)).sum+(f.args.map (xy (AE f.kind at_))).sum:=by
 unfold xy;rw[Fm.A6,y9];congr 1
 ·have:∀l:List Tm,(∀x∈l,x.shape=true)->w6 at_ (l.map fun t=>(t,(0:Int)))=(l.map (yw at_)).sum:=by
   intro l;induction l with
   |nil=>intro _;rfl
   |cons x l ih=>
    intro h;have h1:=Pe x at_ 0 (h x (by simp));simp only[List.map_cons,List.sum_cons,w6];rw[ih fun y hy=>h y (by simp[hy]),Int.add_zero];rw[Int.add_zero] at h1;rw[h1]
  exact this f.terms fun x hx=>zy hs hx
 ·have:∀l:List Fm,w6 at_ (l.flatMap (Fm.AZ (AE f.kind 0)))=(l.map fun f'=>w6 (AE f.kind at_) (f'.AZ 0)).sum:=by
   intro l;induction l with
   |nil=>rfl
   |cons x l ih=>
    rw[List.flatMap_cons,y9,ih,List.map_cons,List.sum_cons];congr 1;have h1:=Zwk at_ x 0 (AE f.kind 0);rw[Int.zero_add] at h1;rw[h1];congr 1;simp only[AE];split<;>omega
  exact this f.args
theorem R7(at_:Int)(f:Fm):xy at_ f<=f.size:=by
 have h1:=Ky at_ (f.AZ 0);have h2:=K0 f 0;unfold xy;omega
theorem Yiy(at_:Int)(s:Tm)(b:Int)(f:Fm):f.re (fun b t=>t.re (xu (at_+b) s) 0) b=f.re (fun b t=>t.re (xu at_ s) b) b:=by
 refine Fm.A1 f b fun p _=> ?_;rw[Js (xu at_ s) p.2];refine A1 p.1 0 fun q _=> ?_;simp only[uv];by_cases h:q.1-q.2=at_+p.2
 ·rw[if_pos h,if_pos (by omega)];congr 2;omega
 ·rw[if_neg h,if_neg (show ¬q.1-(q.2+p.2)=at_ by omega)];by_cases h2:q.1-q.2>at_+p.2
  ·rw[if_pos h2,if_pos (by omega)]
  ·rw[if_neg h2,if_neg (by omega)]
def yz{α:Type}(f:α->Int):List α->Int
 |[]=>0
 |x::l=>if f x≠0 then f x else yz f l
theorem yx{α:Type}{f:α->Int}:∀{l:List α} {m:Nat} (hm:m<l.length),(∀j (hj:j<l.length),j<m->f l[j]=0)->f l[m]≠0->yz f l=f l[m]
 |[],m,hm,_,_=>by simp at hm
 |x::l,0,hm,_,h=>by simp only[yz,List.getElem_cons_zero] at h ⊢;rw[if_pos h]
 |x::l,m+1,hm,h0,h=>by
  have h1:=h0 0 (by simp) (by omega);simp only[List.getElem_cons_zero] at h1;simp only[yz,List.getElem_cons_succ] at h ⊢;rw[if_neg (by simp[h1])];exact yx (by simpa using hm) (fun j hj hjm=>by have:=h0 (j+1) (by simpa using hj) (by omega);simpa using this) h
theorem yh{α:Type}{f:α->Int}:∀{l:List α},(∀j (hj:j<l.length),j<l.length->f l[j]=0)->yz f l=0
 |[],_=>rfl
 |x::l,h0=>by
  have h1:=h0 0 (by simp) (by simp);simp only[List.getElem_cons_zero] at h1;simp only[yz];rw[if_neg (by simp[h1])];exact yh fun j hj hjm=>by have:=h0 (j+1) (by simpa using hj) (by simpa using hj);simpa using this
def tE(g:List Ty)(t:Tm):Int:=if(Ec g t).2≠0 then(Ec g t).2 else if(Ec g t).1.kind≠1 then 7 else 0
mutual
def Fm.B9(g:List Ty):Fm->Int
 | .mk k h ts as=>if yz (tE g) ts≠0 then yz (tE g) ts else Fm.IE (if xq k=true then g++[h] else g) as
def Fm.IE(g:List Ty):List Fm->Int
 |[]=>0
 |f::l=>if f.B9 g≠0 then f.B9 g else Fm.IE g l
end
theorem Fm.Gk(g:List Ty):∀l:List Fm,Fm.IE g l=yz (Fm.B9 g) l
 |[]=>rfl
 |f::l=>by rw[Fm.IE,Fm.Gk g l];rfl
theorem Fm.EN(g:List Ty)(f:Fm):f.B9 g=if yz (tE g) f.terms≠0 then yz (tE g) f.terms else yz (Fm.B9 (Dd g f)) f.args:=by
 cases f;simp only[Fm.B9,Fm.Gk,Dd];rfl
def vp(g:List Ty)(f:Fm):Int:=if f.err≠0 then f.err else f.B9 g
def yg(g:List Ty)(f:Fm):Int:=if xg g≠0 then xg g else vp g f
abbrev DW:=um×Bool
def rH(k b:Int)(t:Tm)(s:DW):DW:=
 if k∈s.1.map (·.1) then s else if ∀j:Nat,j<b.toNat->cnt j (t.vars 0)=0 then(s.1++[(k,t.re (zo b (-b)) 0)],s.2) else(s.1,true)
mutual
def rT(h b:Int):Tm->Tm->DW->DW
 | .mk k i ty as,t,s=>
   if s.2=true then s
   else if k=1/\b<=i/\i<b+h then rH (i-b) b t s
   else if k=t.kind/\(if k=1/\b+h<=i then i-h else i)=t.index/\ty=t.ty/\as.length=t.args.length then CI h (up k b) as t.args s
   else(s.1,true)
def CI(h b:Int):List Tm->List Tm->DW->DW
 |[],_,s=>s
 |_::_,[],s=>s
 |p::ps,t::ts,s=>CI h b ps ts (rT h b p t s)
end
mutual
def rF(h b:Int):Fm->Fm->DW->DW
 | .mk k ty ts as,f,s=>
   if s.2=true\/k≠f.kind\/ty≠f.ty then(s.1,true) else Ef h (AE k b) as f.args (CI h b ts f.terms s)
def Ef(h b:Int):List Fm->List Fm->DW->DW
 |[],_,s=>s
 |_::_,[],s=>s
 |p::ps,t::ts,s=>Ef h b ps ts (rF h b p t s)
end
def M9(r:Bool×um)(s:DW):Prop:=(r.1=true/\s=(r.2,false))\/(r.1=false/\s.2=true)
def H7(h:Int)(m:um):Prop:=(m.map (·.1)).Nodup/\∀k∈m.map (·.1),0<=k/\k<h
def LB:Tm:= .mk 13 0 (.mk 0 []) []
def DJ(m:um)(n:Nat):List Tm:=(List.range n).map fun k:Nat=>(Ej m (k:Int)).getD LB
def Hz(m:um)(n:Nat):Bool:=(List.range n).any fun k:Nat=>(Ej m (k:Int)).isNone
def HU(p:Fm)(h:Int)(f:Fm):List Tm×Int:=
 if p.err≠0 then([],p.err) else if f.err≠0 then([],f.err) else if ¬(0<=h/\h<=16)\/p.AP=false\/f.AP=false then([],1)
 else if(rF h 0 p f ([],false)).2=true then([],11)
 else if(fill p (DJ (rF h 0 p f ([],false)).1 h.toNat)).2≠0\/(fill p (DJ (rF h 0 p f ([],false)).1 h.toNat)).1≠f then([],11)
 else if Hz (rF h 0 p f ([],false)).1 h.toNat=true then([],13) else(DJ (rF h 0 p f ([],false)).1 h.toNat,0)
mutual
def Ty.cn(most:Int):Ty->Int
 | .mk _ as=>Ty.Gg most 1 as
def Ty.Gg(most n:Int):List Ty->Int
 |[]=>n
 |x::l=>if n<=most then Ty.Gg most (n+x.cn (most-n)) l else n
end
mutual
def Tm.cn(most:Int):Tm->Int
 | .mk _ _ h as=>Tm.Gg most (1+h.cn (most-1)) as
def Tm.Gg(most n:Int):List Tm->Int
 |[]=>n
 |x::l=>if n<=most then Tm.Gg most (n+x.cn (most-n)) l else n
end
mutual
def Fm.cn(most:Int):Fm->Int
 | .mk _ h ts as=>Fm.Gg most (Tm.Gg most (1+h.cn (most-1)) ts) as
def Fm.Gg(most n:Int):List Fm->Int
 |[]=>n
 |x::l=>if n<=most then Fm.Gg most (n+x.cn (most-n)) l else n
end
end Go.Ab
namespace Go.Ab
open Go
set_option linter.all false
def wsum(l:List Tm):Int:=l.foldl (fun n x=>IntKind.i64.wrap (n+x.cn 20000)) 0
end Go.Ab
namespace Go.Ab
set_option linter.all false
def un(t:Tm):Bool:=
 if t.kind=3 then(t.arg 0).kind==2
 else if t.kind=6 then(t.arg 2).kind==4||(t.arg 2).kind==5
 else if t.kind=9 then(t.arg 2).kind==7||(t.arg 2).kind==8
 else if t.kind=11\/t.kind=12 then(t.arg 0).kind==10 else false
def Lh(t:Tm):Tm:=
 if t.kind=3 then((t.arg 0).arg 0).re (xu 0 (t.arg 1)) 0
 else if t.kind=6 then
  if(t.arg 2).kind=4 then t.arg 0 else A0 (A0 (t.arg 1) ((t.arg 2).arg 0)) (.mk 6 0 t.ty [t.arg 0,t.arg 1,(t.arg 2).arg 0])
 else if t.kind=9 then
  if(t.arg 2).kind=7 then t.arg 0 else A0 (A0 (A0 (t.arg 1) ((t.arg 2).arg 0)) ((t.arg 2).arg 1)) (.mk 9 0 t.ty [t.arg 0,t.arg 1,(t.arg 2).arg 1])
 else if t.kind=11 then(t.arg 0).arg 0 else(t.arg 0).arg 1
def FY(t:Tm):Int:=(Lh t).size-t.size
inductive RV:Tm->Tm->Prop
 |beta (i th j s b a):RV (.mk 3 i th [.mk 2 j s [b],a]) (b.re (xu 0 a) 0)
 |rz (i th x f j s):RV (.mk 6 i th [x,f,.mk 4 j s []]) x
 |rs (i th x f j s n):RV (.mk 6 i th [x,f,.mk 5 j s [n]]) (A0 (A0 f n) (.mk 6 0 th [x,f,n]))
 |fz (i th x f j s):RV (.mk 9 i th [x,f,.mk 7 j s []]) x
 |fs (i th x f j s h l):RV (.mk 9 i th [x,f,.mk 8 j s [h,l]]) (A0 (A0 (A0 f h) l) (.mk 9 0 th [x,f,l]))
 |p1 (i th j s x y):RV (.mk 11 i th [.mk 10 j s [x,y]]) x
 |p2 (i th j s x y):RV (.mk 12 i th [.mk 10 j s [x,y]]) y
theorem YS{t:Tm}(hs:t.shape=true){k:Int}(hk:t.kind=k)(ha:CZ k=some 0):∃i th,t= .mk k i th []:=by
 obtain⟨k',i,th,xs⟩:=t;rw[Tm.Ai,Bool.and_eq_true] at hs;have h:=hs.1;simp only[Tm.head,Bool.and_eq_true,Tm.Ah,Tm.Ac] at h hk;subst hk;rw[ha] at h;have e:xs=[]:=List.eq_nil_of_length_eq_zero (by simpa using h.1.1.1);exact⟨i,th,by rw[e]⟩
theorem La{t:Tm}(hs:t.shape=true)(h:un t=true):RV t (Lh t):=by
 unfold un at h;by_cases h3:t.kind=3
 ·rw[if_pos h3] at h;obtain⟨i,th,f,a,rfl,hf,ha⟩:=Ke hs h3 rfl;simp only[Tm.arg,Tm.Ac,List.getD_cons_zero,beq_iff_eq] at h;obtain⟨j,s,b,rfl,hb⟩:=H9 hf h rfl;exact .beta i th j s b a
 rw[if_neg h3] at h;by_cases h6:t.kind=6
 ·rw[if_pos h6] at h;obtain⟨i,th,x,f,z,rfl,hx,hf,hz⟩:=KO hs h6 rfl;simp only[Tm.arg,Tm.Ac,List.getD_cons_zero,List.getD_cons_succ,Bool.or_eq_true,beq_iff_eq] at h;rcases h with h|h
  ·obtain ⟨j,s,rfl⟩:=YS hz h rfl;exact .rz i th x f j s
  ·obtain ⟨j,s,n,rfl,hn⟩:=H9 hz h rfl;exact .rs i th x f j s n
 rw[if_neg h6] at h;by_cases h9:t.kind=9
 ·rw[if_pos h9] at h;obtain⟨i,th,x,f,z,rfl,hx,hf,hz⟩:=KO hs h9 rfl;simp only[Tm.arg,Tm.Ac,List.getD_cons_zero,List.getD_cons_succ,Bool.or_eq_true,beq_iff_eq] at h;rcases h with h|h
  ·obtain ⟨j,s,rfl⟩:=YS hz h rfl;exact .fz i th x f j s
  ·obtain ⟨j,s,n,l,rfl,hn,hl⟩:=Ke hz h rfl;exact .fs i th x f j s n l
 rw[if_neg h9] at h;by_cases h11:t.kind=11
 ·rw[if_pos (.inl h11)] at h;obtain⟨i,th,p,rfl,hp⟩:=H9 hs h11 rfl;simp only[Tm.arg,Tm.Ac,List.getD_cons_zero,beq_iff_eq] at h;obtain⟨j,s,x,y,rfl,hx,hy⟩:=Ke hp h rfl;exact .p1 i th j s x y
 by_cases h12:t.kind=12
 ·rw[if_pos (.inr h12)] at h;obtain⟨i,th,p,rfl,hp⟩:=H9 hs h12 rfl;simp only[Tm.arg,Tm.Ac,List.getD_cons_zero,beq_iff_eq] at h;obtain⟨j,s,x,y,rfl,hx,hy⟩:=Ke hp h rfl;exact .p2 i th j s x y
 ·rw[if_neg (by rintro(h|h);exact h11 h;exact h12 h)] at h;cases h
theorem LU{f x:Tm}(hf:f.shape=true)(hx:x.shape=true):(A0 f x).shape=true:=by
 simp[A0,Tm.shape,Tm.Bg,Tm.head,CZ,wo,Ty.BJ,hf,hx]
theorem Zzp{t:Tm}(hs:t.shape=true)(h:un t=true):(Lh t).shape=true:=by
 have hv:=La hs h;have hargs:=zh hs;generalize Lh t=u at hv;cases hv with
 |beta i th j s b a=>
  have h1:=zh (hargs (.mk 2 j s [b]) (by simp)) b (by simp);exact MP 0 (hargs a (by simp)) h1 (Int.le_refl _) (Int.le_refl _) fun p hp=>vv b 0 p hp
 |rz=>exact hargs _ (by simp)
 |fz=>exact hargs _ (by simp)
 |rs i th x f j s n=>
  have h1:=zh (hargs (.mk 5 j s [n]) (by simp)) n (by simp);have hx:=hargs x (by simp);have hf:=hargs f (by simp);have hh:th.ok=true:=by rw[Tm.Ai,Bool.and_eq_true] at hs;have:=hs.1;simp[Tm.head,wo] at this;exact this.2
  refine LU (LU hf h1) ?_;simp[Tm.shape,Tm.Bg,Tm.head,CZ,wo,hf,hx,h1,hh]
 |fs i th x f j s n l=>
  have h1:=zh (hargs (.mk 8 j s [n,l]) (by simp)) n (by simp);have h2:=zh (hargs (.mk 8 j s [n,l]) (by simp)) l (by simp);have hx:=hargs x (by simp);have hf:=hargs f (by simp);have hh:th.ok=true:=by rw[Tm.Ai,Bool.and_eq_true] at hs;have:=hs.1;simp[Tm.head,wo] at this;exact this.2
  refine LU (LU (LU hf h1) h2) ?_;simp[Tm.shape,Tm.Bg,Tm.head,CZ,wo,hf,hx,h1,h2,hh]
 |p1 i th j s _ y=>exact zh (hargs (.mk 10 j s [u,y]) (by simp)) u (by simp)
 |p2 i th j s x _=>exact zh (hargs (.mk 10 j s [x,u]) (by simp)) u (by simp)
theorem Yfp{C:Int}(hC:0<=C){t u:Tm}(hs:t.shape=true)(h:RV t u)(hf:∀p∈t.vars 0,p.1-p.2<=C):∀p∈u.vars 0,p.1-p.2<=C:=by
 have hargs:=zh hs;cases h with
 |beta i th j s b a=>
  have hb:=zh (hargs (.mk 2 j s [b]) (by simp)) b (by simp);have ha:=hargs a (by simp);intro p hp;rw[Ok _ _ _ hb,List.mem_flatMap] at hp;obtain⟨q,hq,hp⟩:=hp;have hq2:=vv b 0 q hq;have hfb:q.1-(q.2+1)<=C:=by
   refine hf (q.1,q.2+1) ?_;have e:b.vars 1=(b.vars 0).map fun p=>(p.1,p.2+1):=by have:=KN b 0 1;simpa using this
   have hm:(q.1,q.2+1)∈b.vars 1:=by rw[e];exact List.mem_map.2 ⟨q,hq,rfl⟩
   simp[Tm.vars,Tm.B1,up];exact .inl hm
  rw[uv] at hp;by_cases h0:q.1-q.2=0
  ·rw[if_pos h0] at hp;have e:(a.re (zo 0 (0+q.2)) 0).vars q.2=((a.re (zo 0 q.2) 0).vars 0).map fun p=>(p.1,p.2+q.2):=by have:=KN (a.re (zo 0 (0+q.2)) 0) 0 q.2;simpa using this
   rw[e,Nm _ _ _ _ ha,List.map_map,List.mem_map] at hp;obtain⟨r,hr,rfl⟩:=hp;have hfa:=hf r (by
    simp only[Tm.vars,Tm.B1,up,List.mem_append];simp[hr])
   simp only[Function.comp_apply];split<;>omega
  ·rw[if_neg h0,Td] at hp;simp only[List.mem_singleton] at hp;subst hp;simp only;split<;>omega
 |rz i th x f j s=>intro p hp;refine hf p ?_;simp[Tm.vars,Tm.B1,up,hp]
 |fz i th x f j s=>intro p hp;refine hf p ?_;simp[Tm.vars,Tm.B1,up,hp]
 |rs i th x f j s n=>
  intro p hp;refine hf p ?_;simp[A0,Tm.vars,Tm.B1,up] at hp ⊢;rcases hp with h|h|h|h|h<;>simp[h]
 |fs i th x f j s n l=>
  intro p hp;refine hf p ?_;simp[A0,Tm.vars,Tm.B1,up] at hp ⊢;rcases hp with h|h|h|h|h|h<;>simp[h]
 |p1 i th j s x y=>intro p hp;refine hf p ?_;simp[Tm.vars,Tm.B1,up,hp]
 |p2 i th j s x y=>intro p hp;refine hf p ?_;simp[Tm.vars,Tm.B1,up,hp]
mutual
def Db(room:Int):Tm->Option (Tm×Bool)
 | .mk k i h xs=>if un (.mk k i h xs)=true then some (if FY (.mk k i h xs)>room then(AU,false) else(Lh (.mk k i h xs),true)) else(GB room xs).map fun p=>(.mk k i h p.1,p.2)
def GB(room:Int):List Tm->Option (List Tm×Bool)
 |[]=>none
 |x::l=>match Db room x with
  |some p=>some (p.1::l,p.2)
  |none=>(GB room l).map fun q=>(x::q.1,q.2)
end
theorem GZ(room:Int)(t:Tm):Db room t=if un t=true then some (if FY t>room then(AU,false) else(Lh t,true)) else(GB room t.args).map fun p=>(.mk t.kind t.index t.ty p.1,p.2):=by
 cases t;simp only[Db];rfl
theorem ZN(room:Int):∀(xs:List Tm) (i:Nat) (hi:i<xs.length) (u:Tm×Bool),Db room xs[i]=some u->(∀(j:Nat) (hj:j<xs.length),j<i->Db room xs[j]=none)->GB room xs=some (xs.set i u.1,u.2)
 |[],i,hi,u,h,hn=>by simp at hi
 |x::l,0,hi,u,h,hn=>by
  simp only[List.getElem_cons_zero] at h;simp only[GB,h];rfl
 |x::l,i+1,hi,u,h,hn=>by
  have h0:=hn 0 (by simp) (by omega);simp only[List.getElem_cons_zero] at h0;have:=ZN room l i (by simpa using hi) u (by simpa using h) fun j hj hji=>by have:=hn (j+1) (by simpa using hj) (by omega);simpa using this
  simp only[GB,h0,this,Option.map_some];rfl
theorem Zc(room:Int):∀(xs:List Tm),(∀(j:Nat) (hj:j<xs.length),j<xs.length->Db room xs[j]=none)->GB room xs=none
 |[],_=>rfl
 |x::l,h=>by
  have h0:=h 0 (by simp) (by simp);simp only[List.getElem_cons_zero] at h0;have:=Zc room l fun j hj _=>by have:=h (j+1) (by simpa using hj) (by simpa using hj);simpa using this
  simp only[GB,h0,this];rfl
theorem PO(room:Int):∀(xs:List Tm) (q:List Tm×Bool),GB room xs=some q->∃(i:Nat) (hi:i<xs.length) (u:Tm),Db room xs[i]=some (u,q.2)/\q.1=xs.set i u
 |[],q,h=>by simp[GB] at h
 |x::l,q,h=>by
  simp only[GB] at h;cases hx:Db room x with
  |some u=>rw[hx] at h;cases h;exact⟨0,by simp,u.1,by simpa using hx,rfl⟩
  |none=>
   rw[hx] at h;simp only[Option.map_eq_some_iff] at h;obtain⟨r,h1,rfl⟩:=h;obtain⟨i,hi,u,h2,h3⟩:=PO room l r h1;exact⟨i+1,by simpa using hi,u,by simpa using h2,by simp[h3]⟩
theorem Yf(room:Int)(t:Tm):∀u,t.shape=true->Db room t=some (u,true)->u.shape=true/\(u.size:Int)<=t.size+room/\∀C:Int,0<=C->∀b:Int,0<=b->(∀p∈t.vars b,p.1-p.2<=C)->∀p∈u.vars b,p.1-p.2<=C:=by
 induction t using Tm.ind with
 |h t ih=>
  intro u hs h;rw[GZ] at h;by_cases hr:un t=true
  ·rw[if_pos hr] at h;by_cases hg:FY t>room
   ·rw[if_pos hg] at h;simp at h
   ·rw[if_neg hg] at h;simp at h;subst h;refine⟨Zzp hs hr,by simp only[FY] at hg;omega,fun C hC b hb hf=> ?_⟩;have e:∀x:Tm,x.vars b=(x.vars 0).map fun p=>(p.1,p.2+b):=fun x=>by have:=KN x 0 b;simpa using this
    rw[e] at hf ⊢;have:=Yfp (C:=C+b) (by omega) hs (La hs hr) fun p hp=>by have:=hf _ (List.mem_map.2 ⟨p,hp,rfl⟩);simp only at this;omega
    intro p hp;obtain⟨q,hq,rfl⟩:=List.mem_map.1 hp;have:=this q hq;simp only;omega
  ·rw[if_neg hr] at h;simp only[Option.map_eq_some_iff] at h;obtain⟨q,h1,h2⟩:=h;obtain⟨i,hi,v,h3,h4⟩:=PO room _ _ h1;have h5:q.2=true:=by simpa using (congrArg Prod.snd h2)
   have h6:u= .mk t.kind t.index t.ty (t.args.set i v):=by rw[<-h4];exact(congrArg Prod.fst h2).symm
   subst h6;rw[h5] at h3;have hm:=List.getElem_mem hi;obtain⟨i1,i2,i3⟩:=ih _ hm v (zh hs _ hm) h3;refine⟨?_,?_,?_⟩
   ·have:(Tm.mk t.kind t.index t.ty t.args).shape=true:=by cases t;exact hs
    exact QJ this i1
   ·have:=QZ Tm.size v t.args i hi;rw[Tm.size_eq,Tm.size_eq t];simp only[Tm.Ac];omega
   ·intro C hC b hb hf p hp;rw[Tm.AM] at hp hf;simp only[Tm.Ah,Tm.A4,Tm.Ac,List.mem_append] at hp hf;rcases hp with hp|hp
    ·exact hf p (.inl hp)
    ·obtain ⟨y,hy,hp⟩:=List.mem_flatMap.1 hp;have hup:0<=up t.kind b:=by simp only[up];split<;>omega
     rcases List.mem_or_eq_of_mem_set hy with hy|hyv
     ·exact hf p (.inr (List.mem_flatMap.2 ⟨y,hy,hp⟩))
     ·rw[hyv] at hp;exact i3 C hC _ hup (fun p hp=>hf p (.inr (List.mem_flatMap.2 ⟨_,hm,hp⟩))) p hp
def Dw(σ:Int->Tm)(i c:Int):Tm:=if i<c then vT i else(σ (i-c)).re (zo 0 c) 0
theorem Yiv(s:Tm)(m n c:Int)(hm:0<=m)(hn:m<=n):(s.re (zo 0 n) 0).re (zo m c) 0=s.re (zo 0 (n+c)) 0:=by
 rw[JC];refine A1 s 0 fun p hp=> ?_;simp only[x7,FT];congr 1;by_cases h:p.1-p.2>=0
 ·rw[if_pos h,if_pos (by omega),if_pos h];omega
 ·rw[if_neg h,if_neg (by omega),if_neg h]
theorem Yn3(s a:Tm)(c n:Int)(hc:0<=c)(hn:c<=n):(s.re (zo 0 (n+1)) 0).re (xu 0 a) c=s.re (zo 0 n) 0:=by
 rw[Js _ c,JC];refine A1 s 0 fun p hp=> ?_;simp only[x7,FT,uv];by_cases h:p.1-p.2>=0
 ·rw[if_pos h,if_neg (by omega),if_pos (by omega),if_pos h];congr 1;omega
 ·rw[if_neg h,if_neg (by omega),if_neg (by omega),if_neg h]
theorem Zzb(s:Tm)(c d:Int):s.re (zo 0 c) d=s.re (zo d c) 0:=by
 rw[Js _ d];refine A1 s 0 fun p hp=> ?_;simp only[x7];congr 1;by_cases h:p.1-p.2>=d
 ·rw[if_pos h,if_pos (by omega)]
 ·rw[if_neg h,if_neg (by omega)]
theorem Yeq(σ:Int->Tm)(a:Tm)(b c:Int)(hb:0<=b)(hc:0<=c):(a.re (zo 0 c) 0).re (fun i d=>Dw σ i (d+b)) c=(a.re (Dw σ) b).re (zo 0 c) 0:=by
 rw[Js _ c,JC,Js (Dw σ) b,JC];refine A1 a 0 fun p hp=> ?_;have h2:=vv a 0 p hp;simp only[x7,FT];by_cases h:p.1<p.2
 ·rw[if_neg (by omega)];simp only[Dw];rw[if_pos (by omega),if_pos (by omega),FT,x7,if_neg (by omega)]
 ·rw[if_pos (by omega)];simp only[Dw];by_cases h3:p.1<p.2+b
  ·rw[if_pos (by omega),if_pos h3,FT,x7,if_pos (by omega)]
  ·rw[if_neg (by omega),if_neg h3,Zzb _ c,Yiv _ _ _ _ h2 (by omega)];rw[show p.1+c-(p.2+c+b)=p.1-(p.2+b) by omega,show p.2+c+b=p.2+b+c by omega]
theorem Yii(σ:Int->Tm)(t a:Tm)(b:Int)(hb:0<=b):(t.re (xu 0 a) 0).re (Dw σ) b=(t.re (Dw σ) (b+1)).re (xu 0 (a.re (Dw σ) b)) 0:=by
 rw[Js (Dw σ) b,JC,Js (Dw σ) (b+1),JC];refine A1 t 0 fun p hp=> ?_;have h2:=vv t 0 p hp;by_cases h0:p.1-p.2=0
 ·have e:p.1=p.2:=by omega
  have e1:xu 0 a p.1 p.2=a.re (zo 0 p.2) 0:=by rw[uv,if_pos h0,Int.zero_add]
  have e2:Dw σ p.1 (p.2+(b+1))=vT p.1:=if_pos (by omega);rw[e1,e2,FT,uv,if_pos h0,Int.zero_add,Yeq σ a b p.2 hb h2]
 ·have e1:xu 0 a p.1 p.2=vT (if p.1-p.2>0 then p.1-1 else p.1):=by rw[uv,if_neg h0]
  rw[e1,FT];by_cases h:p.1<p.2
  ·rw[if_neg (by omega)];simp only[Dw];rw[if_pos (by omega),if_pos (by omega),FT,uv,if_neg (by omega),if_neg (by omega)]
  ·rw[if_pos (by omega)];simp only[Dw];by_cases h3:p.1<p.2+(b+1)
   ·rw[if_pos (by omega),if_pos h3,FT,uv,if_neg h0,if_pos (by omega)]
   ·rw[if_neg (by omega),if_neg h3,show p.2+(b+1)=(p.2+b)+1 by omega,Yn3 _ _ _ _ h2 (by omega)];congr 2;omega
def TQ(a:Tm)(j:Int):Tm:=if j=0 then a else vT (j-1)
def Nb(n j:Int):Tm:=vT (j+n)
theorem WS(a t:Tm):t.re (xu 0 a) 0=t.re (Dw (TQ a)) 0:=by
 refine A1 t 0 fun p hp=> ?_;rw[uv];simp only[Dw,TQ];by_cases h:p.1<p.2
 ·rw[if_neg (by omega),if_neg (by omega),if_pos h]
 ·rw[if_neg h];by_cases h0:p.1-p.2=0
  ·rw[if_pos h0,if_pos h0,Int.zero_add]
  ·rw[if_neg h0,if_neg h0,if_pos (by omega),FT,x7,if_pos (by omega)];congr 1;omega
theorem YP(n:Int)(hn:0<=n)(t:Tm):t.re (zo 0 n) 0=t.re (Dw (Nb n)) 0:=by
 refine A1 t 0 fun p hp=> ?_;rw[x7];simp only[Dw,Nb];by_cases h:p.1<p.2
 ·rw[if_neg (by omega),if_pos h]
 ·rw[if_neg h,if_pos (by omega),FT,x7,if_pos (by omega)];congr 1;omega
mutual
inductive B5:Tm->Tm->Prop
 |node {k i h xs ys} (hp:DV xs ys):B5 (.mk k i h xs) (.mk k i h ys)
 |beta {i th j s b b' a a'} (hb:B5 b b') (ha:B5 a a'):B5 (.mk 3 i th [.mk 2 j s [b],a]) (b'.re (xu 0 a') 0)
 |rz {i th x x' f j s} (hx:B5 x x'):B5 (.mk 6 i th [x,f,.mk 4 j s []]) x'
 |rs {i th x x' f f' j s n n'} (hx:B5 x x') (hf:B5 f f') (hn:B5 n n'):B5 (.mk 6 i th [x,f,.mk 5 j s [n]]) (A0 (A0 f' n') (.mk 6 0 th [x',f',n']))
 |fz {i th x x' f j s} (hx:B5 x x'):B5 (.mk 9 i th [x,f,.mk 7 j s []]) x'
 |fs {i th x x' f f' j s n n' l l'} (hx:B5 x x') (hf:B5 f f') (hn:B5 n n') (hl:B5 l l'):B5 (.mk 9 i th [x,f,.mk 8 j s [n,l]]) (A0 (A0 (A0 f' n') l') (.mk 9 0 th [x',f',l']))
 |p1 {i th j s x x' y} (hx:B5 x x'):B5 (.mk 11 i th [.mk 10 j s [x,y]]) x'
 |p2 {i th j s x y y'} (hy:B5 y y'):B5 (.mk 12 i th [.mk 10 j s [x,y]]) y'
inductive DV:List Tm->List Tm->Prop
 |nil:DV [] []
 |cons {x y xs ys} (h:B5 x y) (hs:DV xs ys):DV (x::xs) (y::ys)
end
theorem SB:∀(xs:List Tm),(∀x∈xs,B5 x x)->DV xs xs
 |[],_=> .nil
 |x::l,h=> .cons (h x (by simp)) (SB l fun y hy=>h y (by simp[hy]))
theorem B5.refl(t:Tm):B5 t t:=by
 induction t using Tm.ind with
 |h t ih=>obtain⟨k,i,h,xs⟩:=t;exact .node (SB xs ih)
theorem Wj:∀(xs:List Tm) (i:Nat) (hi:i<xs.length) (u:Tm),B5 xs[i] u->DV xs (xs.set i u)
 |x::l,0,_,u,h=> .cons h (SB l fun y _=>B5.refl y)
 |x::l,i+1,hi,u,h=> .cons (B5.refl x) (Wj l i (by simpa using hi) u (by simpa using h))
theorem Yk1{t u:Tm}(h:RV t u):B5 t u:=by
 cases h with
 |beta=>exact .beta (.refl _) (.refl _)
 |rz=>exact .rz (.refl _)
 |rs=>exact .rs (.refl _) (.refl _) (.refl _)
 |fz=>exact .fz (.refl _)
 |fs=>exact .fs (.refl _) (.refl _) (.refl _) (.refl _)
 |p1=>exact .p1 (.refl _)
 |p2=>exact .p2 (.refl _)
theorem Yle(room:Int)(t:Tm):∀u,t.shape=true->Db room t=some (u,true)->B5 t u:=by
 induction t using Tm.ind with
 |h t ih=>
  intro u hs h;rw[GZ] at h;by_cases hr:un t=true
  ·rw[if_pos hr] at h;by_cases hg:FY t>room
   ·rw[if_pos hg] at h;simp at h
   ·rw[if_neg hg] at h;simp at h;subst h;exact Yk1 (La hs hr)
  ·rw[if_neg hr] at h;simp only[Option.map_eq_some_iff] at h;obtain⟨q,h1,h2⟩:=h;obtain⟨i,hi,v,h3,h4⟩:=PO room _ _ h1;have h5:q.2=true:=by simpa using (congrArg Prod.snd h2)
   have h6:u= .mk t.kind t.index t.ty (t.args.set i v):=by rw[<-h4];exact(congrArg Prod.fst h2).symm
   subst h6;rw[h5] at h3;have hm:=List.getElem_mem hi;have:=ih _ hm v (zh hs _ hm) h3;obtain⟨k,j,th,xs⟩:=t;exact .node (Wj xs i hi v this)
mutual
theorem Fx{σ σ':Int->Tm}(hσ:∀i c,0<=c->B5 (Dw σ i c) (Dw σ' i c)):∀{t u:Tm},B5 t u->∀b:Int,0<=b->B5 (t.re (Dw σ) b) (u.re (Dw σ') b)
 |_,_,.node (k:=k) (i:=i) (h:=h) (xs:=xs) (ys:=ys) hp,b,hb=>by
  by_cases h1:k=1
  ·subst h1;rw[uj (t:= .mk 1 i h xs) rfl,uj (t:= .mk 1 i h ys) rfl];exact hσ i b hb
  ·rw[x8 (t:= .mk k i h xs) h1,x8 (t:= .mk k i h ys) h1];exact .node (V2 hσ hp (up k b) (by simp only[up];split<;>omega))
 |_,_,.beta (b':=b') (a':=a') h1 h2,b,hb=>by
  rw[Yii σ' b' a' b hb];simp only[Tm.re,Tm.res,up];simp only[show ¬((3:Int)=1) by decide,show ¬((3:Int)=2) by decide,show ¬((2:Int)=1) by decide,if_false,if_true];exact .beta (Fx hσ h1 (b+1) (by omega)) (Fx hσ h2 b hb)
 |_,_,.rz h1,b,hb=>by
  simp only[Tm.re,Tm.res,up];simp only[show ¬((6:Int)=1) by decide,show ¬((6:Int)=2) by decide,show ¬((4:Int)=1) by decide,if_false];exact .rz (Fx hσ h1 b hb)
 |_,_,.rs h1 h2 h3,b,hb=>by
  simp only[A0,Tm.re,Tm.res,up];simp only[show ¬((6:Int)=1) by decide,show ¬((6:Int)=2) by decide,show ¬((5:Int)=1) by decide,show ¬((5:Int)=2) by decide,show ¬((3:Int)=1) by decide,show ¬((3:Int)=2) by decide,if_false];exact .rs (Fx hσ h1 b hb) (Fx hσ h2 b hb) (Fx hσ h3 b hb)
 |_,_,.fz h1,b,hb=>by
  simp only[Tm.re,Tm.res,up];simp only[show ¬((9:Int)=1) by decide,show ¬((9:Int)=2) by decide,show ¬((7:Int)=1) by decide,if_false];exact .fz (Fx hσ h1 b hb)
 |_,_,.fs h1 h2 h3 h4,b,hb=>by
  simp only[A0,Tm.re,Tm.res,up];simp only[show ¬((9:Int)=1) by decide,show ¬((9:Int)=2) by decide,show ¬((8:Int)=1) by decide,show ¬((8:Int)=2) by decide,show ¬((3:Int)=1) by decide,show ¬((3:Int)=2) by decide,if_false];exact .fs (Fx hσ h1 b hb) (Fx hσ h2 b hb) (Fx hσ h3 b hb) (Fx hσ h4 b hb)
 |_,_,.p1 h1,b,hb=>by
  simp only[Tm.re,Tm.res,up];simp only[show ¬((11:Int)=1) by decide,show ¬((11:Int)=2) by decide,show ¬((10:Int)=1) by decide,show ¬((10:Int)=2) by decide,if_false];exact .p1 (Fx hσ h1 b hb)
 |_,_,.p2 h1,b,hb=>by
  simp only[Tm.re,Tm.res,up];simp only[show ¬((12:Int)=1) by decide,show ¬((12:Int)=2) by decide,show ¬((10:Int)=1) by decide,show ¬((10:Int)=2) by decide,if_false];exact .p2 (Fx hσ h1 b hb)
theorem V2{σ σ':Int->Tm}(hσ:∀i c,0<=c->B5 (Dw σ i c) (Dw σ' i c)):∀{xs ys:List Tm},DV xs ys->∀b:Int,0<=b->DV (xs.map (Tm.re (Dw σ) b)) (ys.map (Tm.re (Dw σ') b))
 |_,_,.nil,_,_=> .nil
 |_,_,.cons h hs,b,hb=> .cons (Fx hσ h b hb) (V2 hσ hs b hb)
end
theorem Yep{t u:Tm}(h:B5 t u)(n:Int)(hn:0<=n):B5 (t.re (zo 0 n) 0) (u.re (zo 0 n) 0):=by
 rw[YP n hn,YP n hn];refine Fx (fun i c _=> ?_) h 0 (Int.le_refl _);exact B5.refl _
theorem Yhy{b b' a a':Tm}(hb:B5 b b')(ha:B5 a a'):B5 (b.re (xu 0 a) 0) (b'.re (xu 0 a') 0):=by
 rw[WS,WS];refine Fx (fun i c hc=> ?_) hb 0 (Int.le_refl _);simp only[Dw,TQ];by_cases h:i<c
 ·rw[if_pos h,if_pos h];exact B5.refl _
 ·rw[if_neg h,if_neg h];by_cases h0:i-c=0
  ·rw[if_pos h0,if_pos h0];exact Yep ha c hc
  ·rw[if_neg h0,if_neg h0];exact B5.refl _
theorem Va:∀(xs:List Tm),(∀x∈xs,∃w,∀u,B5 x u->B5 u w)->∃ws,∀ys,DV xs ys->DV ys ws
 |[],_=>⟨[],fun ys h=>by cases h;exact .nil⟩
 |x::l,h=>by
  obtain⟨w,hw⟩:=h x (by simp);obtain⟨ws,Ea⟩:=Va l fun y hy=>h y (by simp[hy]);exact⟨w::ws,fun ys hy=>by cases hy with|cons h1 h2=>exact .cons (hw _ h1) (Ea _ h2)⟩
theorem LV{f f' x x':Tm}(hf:B5 f f')(hx:B5 x x'):B5 (A0 f x) (A0 f' x'):= .node (.cons hf (.cons hx .nil))
theorem tri:∀(n:Nat) (t:Tm),t.size<=n->∃w,∀u,B5 t u->B5 u w:=by
 intro n;induction n with
 |zero=>intro t h;have:=t.size_pos;omega
 |succ n ih=>
 intro t ht;by_cases hr:∃u,RV t u
 ·obtain ⟨x0,hr⟩:=hr;cases hr with
  |beta i th j s b a=>
   simp only[Tm.size,Tm.sizes] at ht;obtain⟨wb,hb⟩:=ih b (by omega);obtain⟨wa,ha⟩:=ih a (by omega);refine⟨wb.re (xu 0 wa) 0,fun u hu=> ?_⟩;cases hu with
   |node hp=>
    cases hp with|cons h1 h2=>cases h2 with|cons h2 h3=>cases h3;cases h1 with|node h4=>cases h4 with|cons h4 h5=>cases h5;exact .beta (hb _ h4) (ha _ h2)
   |beta h1 h2=>exact Yhy (hb _ h1) (ha _ h2)
  |rz i th _ f j s=>
   simp only[Tm.size,Tm.sizes] at ht;obtain⟨wx,hx⟩:=ih x0 (by omega);refine⟨wx,fun u hu=> ?_⟩;cases hu with
   |node hp=>
    cases hp with|cons h1 h2=>cases h2 with|cons h2 h3=>cases h3 with|cons h3 h4=>cases h4;cases h3 with|node h5=>cases h5;exact .rz (hx _ h1)
   |rz h1=>exact hx _ h1
  |rs i th x f j s n=>
   simp only[Tm.size,Tm.sizes] at ht;obtain⟨wx,hx⟩:=ih x (by omega);obtain⟨wf,hf⟩:=ih f (by omega);obtain⟨wn,hn⟩:=ih n (by omega);refine⟨A0 (A0 wf wn) (.mk 6 0 th [wx,wf,wn]),fun u hu=> ?_⟩;cases hu with
   |node hp=>
    cases hp with|cons h1 h2=>cases h2 with|cons h2 h3=>cases h3 with|cons h3 h4=>cases h4;cases h3 with|node h5=>cases h5 with|cons h5 h6=>cases h6;exact .rs (hx _ h1) (hf _ h2) (hn _ h5)
   |rs h1 h2 h3=>exact LV (LV (hf _ h2) (hn _ h3)) (.node (.cons (hx _ h1) (.cons (hf _ h2) (.cons (hn _ h3) .nil))))
  |fz i th _ f j s=>
   simp only[Tm.size,Tm.sizes] at ht;obtain⟨wx,hx⟩:=ih x0 (by omega);refine⟨wx,fun u hu=> ?_⟩;cases hu with
   |node hp=>
    cases hp with|cons h1 h2=>cases h2 with|cons h2 h3=>cases h3 with|cons h3 h4=>cases h4;cases h3 with|node h5=>cases h5;exact .fz (hx _ h1)
   |fz h1=>exact hx _ h1
  |fs i th x f j s n l=>
   simp only[Tm.size,Tm.sizes] at ht;obtain⟨wx,hx⟩:=ih x (by omega);obtain⟨wf,hf⟩:=ih f (by omega);obtain⟨wn,hn⟩:=ih n (by omega);obtain⟨wl,hl⟩:=ih l (by omega);refine⟨A0 (A0 (A0 wf wn) wl) (.mk 9 0 th [wx,wf,wl]),fun u hu=> ?_⟩;cases hu with
   |node hp=>
    cases hp with|cons h1 h2=>cases h2 with|cons h2 h3=>cases h3 with|cons h3 h4=>cases h4;cases h3 with|node h5=>cases h5 with|cons h5 h6=>cases h6 with|cons h6 h7=>cases h7;exact .fs (hx _ h1) (hf _ h2) (hn _ h5) (hl _ h6)
   |fs h1 h2 h3 h4=>exact LV (LV (LV (hf _ h2) (hn _ h3)) (hl _ h4)) (.node (.cons (hx _ h1) (.cons (hf _ h2) (.cons (hl _ h4) .nil))))
  |p1 i th j s _ y=>
   simp only[Tm.size,Tm.sizes] at ht;obtain⟨wx,hx⟩:=ih x0 (by omega);refine⟨wx,fun u hu=> ?_⟩;cases hu with
   |node hp=>
    cases hp with|cons h1 h2=>cases h2;cases h1 with|node h5=>cases h5 with|cons h5 h6=>cases h6 with|cons h6 h7=>cases h7;exact .p1 (hx _ h5)
   |p1 h1=>exact hx _ h1
  |p2 i th j s x _=>
   simp only[Tm.size,Tm.sizes] at ht;obtain⟨wx,hx⟩:=ih x0 (by omega);refine⟨wx,fun u hu=> ?_⟩;cases hu with
   |node hp=>
    cases hp with|cons h1 h2=>cases h2;cases h1 with|node h5=>cases h5 with|cons h5 h6=>cases h6 with|cons h6 h7=>cases h7;exact .p2 (hx _ h6)
   |p2 h1=>exact hx _ h1
 ·obtain ⟨k,i,th,xs⟩:=t;have hz:=Tm.size_eq (.mk k i th xs);simp only[Tm.Ac] at hz;obtain⟨ws,Ea⟩:=Va xs fun x hx=>ih x (by have:=ze Tm.size hx;omega);refine⟨.mk k i th ws,fun u hu=> ?_⟩;cases hu with
  |node hp=>exact .node (Ea _ hp)
  |beta=>exact absurd ⟨_,.beta ..⟩ hr
  |rz=>exact absurd ⟨_,.rz ..⟩ hr
  |rs=>exact absurd ⟨_,.rs ..⟩ hr
  |fz=>exact absurd ⟨_,.fz ..⟩ hr
  |fs=>exact absurd ⟨_,.fs ..⟩ hr
  |p1=>exact absurd ⟨_,.p1 ..⟩ hr
  |p2=>exact absurd ⟨_,.p2 ..⟩ hr
noncomputable def dev(t:Tm):Tm:=Classical.choose (tri _ t (Nat.le_refl _))
noncomputable def Rv:Nat->Tm->Tm
 |0,t=>t
 |n+1,t=>Rv n (dev t)
inductive G1:Tm->Tm->Prop
 |refl (t:Tm):G1 t t
 |step {t s u:Tm} (h:B5 t s) (hs:G1 s u):G1 t u
theorem G1.trans{t s u:Tm}(h:G1 t s):G1 s u->G1 t u:=by
 induction h with
 |refl=>exact id
 |step h1 _ ih=>exact fun h=> .step h1 (ih h)
theorem G1.one{t u:Tm}(h:B5 t u):G1 t u:= .step h (.refl _)
def nf(t:Tm):Prop:=∀u,B5 t u->u=t
mutual
theorem Ub{room:Int}:∀{t u:Tm},B5 t u->Db room t=none->u=t
 |_,_,.node (k:=k) (i:=i) (h:=h) (xs:=xs) (ys:=ys) hp,hn=>by
  rw[GZ] at hn;by_cases hr:un (.mk k i h xs)=true
  ·rw[if_pos hr] at hn;cases hn
  ·rw[if_neg hr] at hn;simp only[Option.map_eq_none_iff,Tm.Ac] at hn;rw[X9 hp hn]
 |_,_,.beta ..,hn=>by rw[GZ] at hn;simp[un,Tm.arg] at hn
 |_,_,.rz ..,hn=>by rw[GZ] at hn;simp[un,Tm.arg] at hn
 |_,_,.rs ..,hn=>by rw[GZ] at hn;simp[un,Tm.arg] at hn
 |_,_,.fz ..,hn=>by rw[GZ] at hn;simp[un,Tm.arg] at hn
 |_,_,.fs ..,hn=>by rw[GZ] at hn;simp[un,Tm.arg] at hn
 |_,_,.p1 ..,hn=>by rw[GZ] at hn;simp[un,Tm.arg] at hn
 |_,_,.p2 ..,hn=>by rw[GZ] at hn;simp[un,Tm.arg] at hn
theorem X9{room:Int}:∀{xs ys:List Tm},DV xs ys->GB room xs=none->ys=xs
 |_,_,.nil,_=>rfl
 |_,_,.cons (x:=x) (xs:=xs) h hs,hn=>by
  simp only[GB] at hn;cases hx:Db room x with
  |some p=>rw[hx] at hn;cases hn
  |none=>
   rw[hx] at hn;simp only[Option.map_eq_none_iff] at hn;rw[Ub h hx,X9 hs hn]
end
def Ex:Nat->Tm->Nat->Tm×Int×Int
 |0,t,n=>match Db (4096-t.size) t with
  |none=>(t,n,0)
  |some _=>(AU,0,5)
 |k+1,t,n=>match Db (4096-t.size) t with
  |none=>(t,n,0)
  |some (x,true)=>Ex k x (n+1)
  |some (_,false)=>(AU,0,4)
def wg(t:Tm)(steps:Int):Tm×Int×Int:=
 if t.err≠0 then(AU,0,t.err) else if ¬(0<=steps/\steps<=65536)\/t.near=false then(AU,0,1) else Ex steps.toNat t 0
def HN(a b:Tm)(steps:Int):Int:=
 if a.err≠0 then a.err else if b.err≠0 then b.err else if a=b then 0
 else if(wg a steps).2.2≠0 then(wg a steps).2.2 else if(wg b steps).2.2≠0 then(wg b steps).2.2
 else if(wg a steps).1=(wg b steps).1 then 0 else 11
theorem QF{t u:Tm}(he:t.err=0)(h:Db (4096-t.size) t=some (u,true)):u.err=0:=by
 obtain⟨h1,h2⟩:=xn he;obtain⟨h3,h4,_⟩:=Yf _ t u h1 h;exact(Tm.Ae _).2 ⟨h3,by omega⟩
theorem TZ:∀(k:Nat) (t:Tm) (n:Nat),t.err=0->(Ex k t n).2.2=0->G1 t (Ex k t n).1/\nf (Ex k t n).1/\(Ex k t n).1.err=0
 |0,t,n,he,h=>by
  simp only[Ex] at h ⊢;cases hx:Db (4096-t.size) t with
  |none=>rw[hx] at h;exact⟨.refl _,fun u hu=>Ub hu hx,he⟩
  |some p=>rw[hx] at h;cases h
 |k+1,t,n,he,h=>by
  simp only[Ex] at h ⊢;cases hx:Db (4096-t.size) t with
  |none=>rw[hx] at h;exact⟨.refl _,fun u hu=>Ub hu hx,he⟩
  |some p=>
   obtain⟨x,f⟩:=p;rw[hx] at h;cases f with
   |false=>cases h
   |true=>
    obtain⟨i1,i2,i3⟩:=TZ k x (n+1) (QF he hx) h;exact⟨.step (Yle _ t x (xn he).1 hx) i1,i2,i3⟩
theorem ZQ(t:Tm)(steps:Int)(h:(wg t steps).2.2=0):(wg t steps).1.full<274877906944:=by
 unfold wg at h ⊢;by_cases he:t.err=0
 ·rw[if_neg (by simp[he])] at h ⊢;by_cases hc:¬(0<=steps/\steps<=65536)\/t.near=false
  ·rw[if_pos hc] at h;cases h
  ·rw[if_neg hc] at h ⊢;obtain⟨_,_,h3⟩:=TZ _ _ _ he h;have:=yo h3;omega
 ·rw[if_pos he] at h;exact absurd h he
def GW:List Tm->List Tm->Int
 |x::l,y::m=>if HN x y 1000≠0 then HN x y 1000 else GW l m
 |_,_=>0
mutual
def GL:Fm->Fm->Int
 | .mk k ty ts xs,.mk k' ty' ts' xs'=>if k=k'/\ty=ty' then(if GW ts ts'≠0 then GW ts ts' else HG xs xs') else 11
def HG:List Fm->List Fm->Int
 |x::l,y::m=>if GL x y≠0 then GL x y else HG l m
 |_,_=>0
end
theorem Yk8(f g:Fm):GL f g=if f.kind=g.kind/\f.ty=g.ty then(if GW f.terms g.terms≠0 then GW f.terms g.terms else HG f.args g.args) else 11:=by
 cases f;cases g;simp only[GL];rfl
theorem Yu:∀(l m:List Tm) (i:Nat) (hi:i<l.length) (hj:i<m.length),(∀j (h1:j<l.length) (h2:j<m.length),j<i->HN l[j] m[j] 1000=0)->HN l[i] m[i] 1000≠0->GW l m=HN l[i] m[i] 1000
 |x::l,y::m,0,_,_,_,h=>by simp only[List.getElem_cons_zero] at h ⊢;simp only[GW];rw[if_pos h]
 |x::l,y::m,i+1,hi,hj,hn,h=>by
  have h0:=hn 0 (by simp) (by simp) (by omega);simp only[GW];rw[if_neg (by simpa using h0)];exact Yu l m i (by simpa using hi) (by simpa using hj) (fun j h1 h2 hji=>by have:=hn (j+1) (by simpa using h1) (by simpa using h2) (by omega);simpa using this) (by simpa using h)
theorem WQ:∀(l m:List Tm),(∀j (h1:j<l.length) (h2:j<m.length),HN l[j] m[j] 1000=0)->GW l m=0
 |[],_,_=>by simp only[GW]
 |_::_,[],_=>by simp only[GW]
 |x::l,y::m,hn=>by
  have h0:=hn 0 (by simp) (by simp);simp only[GW];rw[if_neg (by simpa using h0)];exact WQ l m fun j h1 h2=>by have:=hn (j+1) (by simpa using h1) (by simpa using h2);simpa using this
theorem Vm:∀(l m:List Fm) (i:Nat) (hi:i<l.length) (hj:i<m.length),(∀j (h1:j<l.length) (h2:j<m.length),j<i->GL l[j] m[j]=0)->GL l[i] m[i]≠0->HG l m=GL l[i] m[i]
 |x::l,y::m,0,_,_,_,h=>by simp only[List.getElem_cons_zero] at h ⊢;simp only[HG];rw[if_pos h]
 |x::l,y::m,i+1,hi,hj,hn,h=>by
  have h0:=hn 0 (by simp) (by simp) (by omega);simp only[HG];rw[if_neg (by simpa using h0)];exact Vm l m i (by simpa using hi) (by simpa using hj) (fun j h1 h2 hji=>by have:=hn (j+1) (by simpa using h1) (by simpa using h2) (by omega);simpa using this) (by simpa using h)
theorem VR:∀(l m:List Fm),(∀j (h1:j<l.length) (h2:j<m.length),GL l[j] m[j]=0)->HG l m=0
 |[],_,_=>by simp only[HG]
 |_::_,[],_=>by simp only[HG]
 |x::l,y::m,hn=>by
  have h0:=hn 0 (by simp) (by simp);simp only[HG];rw[if_neg (by simpa using h0)];exact VR l m fun j h1 h2=>by have:=hn (j+1) (by simpa using h1) (by simpa using h2);simpa using this
def Lv(f g:Fm):Int:=if f.err≠0 then f.err else if g.err≠0 then g.err else GL f g
@[simp] theorem Pf.Ah(k i:Int)(h:Ty)(ts:List Tm)(fs:List Fm)(as:List Pf):(Pf.mk k i h ts fs as).kind=k:=rfl
@[simp] theorem Pf.A4(k i:Int)(h:Ty)(ts:List Tm)(fs:List Fm)(as:List Pf):(Pf.mk k i h ts fs as).index=i:=rfl
@[simp] theorem Pf.AL(k i:Int)(h:Ty)(ts:List Tm)(fs:List Fm)(as:List Pf):(Pf.mk k i h ts fs as).ty=h:=rfl
@[simp] theorem Pf.Am(k i:Int)(h:Ty)(ts:List Tm)(fs:List Fm)(as:List Pf):(Pf.mk k i h ts fs as).terms=ts:=rfl
@[simp] theorem Pf.Au(k i:Int)(h:Ty)(ts:List Tm)(fs:List Fm)(as:List Pf):(Pf.mk k i h ts fs as).Ad=fs:=rfl
@[simp] theorem Pf.Ac(k i:Int)(h:Ty)(ts:List Tm)(fs:List Fm)(as:List Pf):(Pf.mk k i h ts fs as).args=as:=rfl
structure Nd where
 terms:Nat
 Ad:Nat
 args:Nat
 index:Bool
 typ:Bool
def Qo:Nd:=⟨0,0,0,false,false⟩
def BX(k:Int):Option Nd:=
 if k=1\/k=2 then some ⟨0,0,0,true,false⟩
 else if k=3\/k=7 then some ⟨0,0,2,false,false⟩
 else if k=4\/k=5\/k=20 then some ⟨0,0,1,false,false⟩
 else if k=6 then some ⟨0,1,1,false,false⟩
 else if k=8\/k=12 then some ⟨0,0,1,false,true⟩
 else if k=9\/k=13 then some ⟨1,0,1,false,false⟩
 else if k=10\/k=14 then some ⟨1,1,1,false,false⟩
 else if k=11\/k=15 then some ⟨0,0,2,false,false⟩
 else if k=16\/k=17 then some ⟨1,1,2,false,false⟩
 else if k=18 then some ⟨1,0,0,false,false⟩
 else if k=19 then some ⟨0,1,2,false,false⟩ else none
def Nd.view(n:Nd):List V:=[.i n.terms,.i n.Ad,.i n.args,.bool n.index,.bool n.typ]
def Pf.head(p:Pf):Bool:=match BX p.kind with
 |none=>false
 |some n=>p.terms.length==n.terms&&p.Ad.length==n.Ad&&p.args.length==n.args&&decide (0<=p.index)&&(n.index||p.index==0)&&(if n.typ=true then p.ty.ok else p.ty.BJ)
mutual
def Pf.shape:Pf->Bool
 | .mk k i h ts fs as=>Pf.head (.mk k i h ts fs as)&&ts.all Tm.shape&&fs.all Fm.shape&&Pf.Bg as
def Pf.Bg:List Pf->Bool
 |[]=>true
 |f::l=>f.shape&&Pf.Bg l
end
mutual
def Pf.size:Pf->Nat
 | .mk _ _ _ ts fs as=>1+(ts.map Tm.size).sum+(fs.map Fm.size).sum+Pf.sizes as
def Pf.sizes:List Pf->Nat
 |[]=>0
 |f::l=>f.size+Pf.sizes l
end
mutual
def Pf.full:Pf->Nat
 | .mk _ _ h ts fs as=>1+h.size+(ts.map Tm.full).sum+(fs.map Fm.full).sum+Pf.As as
def Pf.As:List Pf->Nat
 |[]=>0
 |f::l=>f.full+Pf.As l
end
mutual
def Pf.small:Pf->Bool
 | .mk _ _ _ ts fs as=>ts.all (fun t=>decide (t.size<=4096))&&fs.all (fun f=>decide (f.size<=4096))&&Pf.Ap as
def Pf.Ap:List Pf->Bool
 |[]=>true
 |f::l=>f.small&&Pf.Ap l
end
theorem Pf.Bw:∀l:List Pf,Pf.Bg l=l.all Pf.shape
 |[]=>rfl
 |f::l=>by rw[Pf.Bg,Pf.Bw l];rfl
theorem Pf.BH:∀l:List Pf,Pf.sizes l=(l.map Pf.size).sum
 |[]=>rfl
 |f::l=>by rw[Pf.sizes,Pf.BH l];rfl
theorem Pf.B4:∀l:List Pf,Pf.As l=(l.map Pf.full).sum
 |[]=>rfl
 |f::l=>by rw[Pf.As,Pf.B4 l];rfl
theorem Pf.Ep:∀l:List Pf,Pf.Ap l=l.all Pf.small
 |[]=>rfl
 |f::l=>by rw[Pf.Ap,Pf.Ep l];rfl
theorem Pf.Ai(p:Pf):p.shape=(p.head&&p.terms.all Tm.shape&&p.Ad.all Fm.shape&&p.args.all Pf.shape):=by cases p;simp only[Pf.shape,Pf.Bw];rfl
theorem Pf.size_eq(p:Pf):p.size=1+(p.terms.map Tm.size).sum+(p.Ad.map Fm.size).sum+(p.args.map Pf.size).sum:=by cases p;simp only[Pf.size,Pf.BH];rfl
theorem Pf.Ag(p:Pf):p.full=1+p.ty.size+(p.terms.map Tm.full).sum+(p.Ad.map Fm.full).sum+(p.args.map Pf.full).sum:=by cases p;simp only[Pf.full,Pf.B4];rfl
theorem Pf.B6(p:Pf):p.small=(p.terms.all (fun t=>decide (t.size<=4096))&&p.Ad.all (fun f=>decide (f.size<=4096))&&p.args.all Pf.small):=by cases p;simp only[Pf.small,Pf.Ep];rfl
theorem Pf.Aa(p:Pf):1<=p.full:=by rw[Pf.Ag];omega
theorem Pf.size_pos(p:Pf):1<=p.size:=by rw[Pf.size_eq];omega
theorem Pf.ind{P:Pf->Prop}(h:∀f,(∀x∈f.args,P x)->P f)(f:Pf):P f:=by
 have:∀n,∀f:Pf,f.full<=n->P f:=by
  intro n;induction n with
  |zero=>intro f h;have:=f.Aa;omega
  |succ n ih=>
   intro f hf;refine h f fun x hx=>ih x ?_;have:=ze Pf.full hx;have:=f.Ag;omega
 exact this _ f (Nat.le_refl _)
theorem Pf.Ak(p:Pf):p.size<=p.full:=by
 induction p using Pf.ind with
 |h p ih=>
  rw[p.size_eq,p.Ag];have h1:=xi (f:=Pf.size) (g:=Pf.full) p.args ih;have h2:=xi (f:=Tm.size) (g:=Tm.full) p.terms fun x _=>x.Ak;have h3:=xi (f:=Fm.size) (g:=Fm.full) p.Ad fun x _=>x.Ak;omega
def Pf.err(p:Pf):Int:=if p.shape=false then 2 else if p.small=false\/p.size>16384 then 4 else 0
theorem Pf.Ae(p:Pf):p.err=0↔p.shape=true/\p.small=true/\p.size<=16384:=by
 unfold Pf.err;cases hs:p.shape with
 |false=>simp
 |true=>
  cases hm:p.small with
  |false=>simp
  |true=>
   by_cases h:p.size>16384
   ·rw[if_neg (by simp),if_pos (.inr h)];constructor
    ·intro h;cases h
    ·rintro ⟨_,_,h2⟩;omega
   ·rw[if_neg (by simp),if_neg (by simp;omega)];exact⟨fun _=>⟨rfl,rfl,by omega⟩,fun _=>rfl⟩
def BR:Pf:= .mk 0 0 (.mk 0 []) [] [] []
def xx(t:Tm):Pf:= .mk 18 0 (.mk 0 []) [t] [] []
theorem Zy8{f g:Fm}(hf:f.shape=true)(hg:g.shape=true)(hk:f.kind=g.kind):f.terms.length=g.terms.length/\f.args.length=g.args.length:=by
 rw[Fm.Ai,Bool.and_eq_true,Bool.and_eq_true] at hf hg;have h1:=hf.1.1;have h2:=hg.1.1;unfold Fm.head at h1 h2;rw[<-hk] at h2;by_cases k1:f.kind=1
 ·rw[if_pos k1] at h1 h2;simp only[Bool.and_eq_true,beq_iff_eq] at h1 h2;omega
 rw[if_neg k1] at h1 h2;by_cases k2:f.kind=2\/f.kind=3
 ·rw[if_pos k2] at h1 h2;simp only[Bool.and_eq_true,beq_iff_eq] at h1 h2;omega
 rw[if_neg k2] at h1 h2;by_cases k4:f.kind=4\/f.kind=5\/f.kind=6\/f.kind=7
 ·rw[if_pos k4] at h1 h2;simp only[Bool.and_eq_true,beq_iff_eq] at h1 h2;omega
 rw[if_neg k4] at h1;cases h1
end Go.Ab
