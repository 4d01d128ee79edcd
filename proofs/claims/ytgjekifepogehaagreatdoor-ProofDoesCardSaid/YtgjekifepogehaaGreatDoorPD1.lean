/- A part of this seat's proofs. No conditions. -/
import Derived.Test.YtgjekifepogehaaGreatDoorPA2
namespace Go.Ab
open Go
set_option linter.all false
@[simp] theorem Yg9(E:Env)(T:Nat)(k:IntKind)(n:Int):za E T (.int k n)= .int k n:=rfl
@[simp] theorem Ygn(E:Env)(T:Nat)(b:Bool):za E T (.bool b)= .bool b:=rfl
@[simp] theorem Yg8(E:Env)(T:Nat)(s:ByteArray):za E T (.string s)= .str s:=rfl
variable{α:Type}
theorem yq(f:α->Nat)(l:List α):∀m (h:m<l.length),((l.take (m+1)).map f).sum=((l.take m).map f).sum+f l[m]:=by
 induction l<;>grind
theorem zc(f:α->Nat){l:List α}{t:α}(h:t∈l):f t<=(l.map f).sum:=by
 induction l<;>grind
theorem zl(f:α->Nat)(l:List α)(m:Nat):((l.take m).map f).sum<=(l.map f).sum:=by
 induction l generalizing m with
 |nil=>simp
 |cons t l ih=>cases m<;>simp_all
theorem zd{α:Type}(f:α->Nat)(hf:∀x,1<=f x):∀l:List α,l.length<=(l.map f).sum
 |[]=>ZB _
 |x::l=>by have:=zd f hf l;grind
theorem un(p:α->Bool)(l:List α)(h:∀j (hj:j<l.length),p l[j]=true):l.all p=true:=by
 rw[ZH];intro x hx;obtain⟨j,hj,rfl⟩:=cr.1 hx
 grind
theorem wb(p:α->Bool){l:List α}{j:Nat}(hj:j<l.length)(h:p l[j]=false):l.all p=false:=by
 grind
theorem ya{p:α->Prop}{l:List α}{m:Nat}(hm:m<l.length)(h:∀j (hj:j<l.length),j<m->p l[j])(h1:p l[m]):∀j (hj:j<l.length),j<m+1->p l[j]:=by
 grind
def Ex(k:Int):Option Nat:=if k=1\/k=2\/k=5 then some 0 else if k=3\/k=4 then some 2 else none
mutual
def Ty.shape:Ty->Bool
 | .mk k xs=>(match Ex k with|some n=>xs.length==n|none=>false)&&Ty.Bl xs
def Ty.Bl:List Ty->Bool
 |[]=>true
 |t::l=>t.shape&&Ty.Bl l
end
mutual
def Ty.size:Ty->Nat
 | .mk _ xs=>1+Ty.sizes xs
def Ty.sizes:List Ty->Nat
 |[]=>0
 |t::l=>t.size+Ty.sizes l
end
theorem Ty.BR:∀l:List Ty,Ty.sizes l=(l.map Ty.size).sum
 |[]=>rfl
 |t::l=>by simp only[Ty.sizes,Ty.BR l,ZJ,ZW]
theorem Ty.BG:∀l:List Ty,Ty.Bl l=l.all Ty.shape
 |[]=>rfl
 |t::l=>by simp only[Ty.Bl,Ty.BG l,bk]
variable(t:Ty)
theorem Ty.size_eq:t.size=1+(t.args.map Ty.size).sum:=by cases t;simp only[Ty.size,Ty.BR,Ty.Ag]
theorem Ty.Ak:t.shape=((match Ex t.kind with|some n=>t.args.length==n|none=>false)&&t.args.all Ty.shape):=by cases t;simp only[Ty.shape,Ty.BG,Ty.Ag,Ty.AA]
theorem Ty.size_pos:1<=t.size:=by rw[Ty.size_eq];omega
def Ty.nodes(t:Ty):Nat:=if t.shape then t.size else 0
theorem Ty.Ew:t.nodes<=t.size:=by simp only[Ty.nodes];grind
theorem Ty.ind{P:Ty->Prop}(h:∀t,(∀x∈t.args,P x)->P t)(t:Ty):P t:=by
 have:∀b (t:Ty),t.size<=b->P t:=by
  intro b;induction b with
  |zero=>intro t ht;have:=t.size_pos;omega
  |succ b ih=>
   intro t ht;refine h t fun x hx=>ih x ?_;have:=zc Ty.size hx;have:=t.size_eq;omega
 exact this _ t (ZB _)
def DL(k:Int):Option Nat:=
 if k=1\/k=4\/k=7\/k=13 then some 0 else if k=2\/k=5\/k=11\/k=12 then some 1 else if k=3\/k=8\/k=10 then some 2 else if k=6\/k=9 then some 3 else none
def wl(k:Int):Bool:=k==2||k==6||k==9
def Ty.B3(t:Ty):Bool:=t.kind==0&&t.args.length==0
def Ty.ok(t:Ty):Bool:=t.shape&&decide (t.size<=64)
def Tm.head(t:Tm):Bool:=(match DL t.kind with|some n=>t.args.length==n|none=>false)&&decide (0<=t.index)&&(t.index==0||t.kind==1)&&(bif wl t.kind then t.ty.ok else t.ty.B3)
mutual
def Tm.shape:Tm->Bool
 | .mk k i h xs=>(Tm.mk k i h xs).head&&Tm.Bl xs
def Tm.Bl:List Tm->Bool
 |[]=>true
 |t::l=>t.shape&&Tm.Bl l
end
mutual
def Tm.size:Tm->Nat
 | .mk _ _ _ xs=>1+Tm.sizes xs
def Tm.sizes:List Tm->Nat
 |[]=>0
 |t::l=>t.size+Tm.sizes l
end
mutual
def Tm.full:Tm->Nat
 | .mk _ _ h xs=>1+h.size+Tm.Av xs
def Tm.Av:List Tm->Nat
 |[]=>0
 |t::l=>t.full+Tm.Av l
end
theorem Tm.BR:∀l:List Tm,Tm.sizes l=(l.map Tm.size).sum
 |[]=>rfl
 |t::l=>by simp only[Tm.sizes,Tm.BR l,ZJ,ZW]
theorem Tm.Co:∀l:List Tm,Tm.Av l=(l.map Tm.full).sum
 |[]=>rfl
 |t::l=>by simp only[Tm.Av,Tm.Co l,ZJ,ZW]
theorem Tm.BG:∀l:List Tm,Tm.Bl l=l.all Tm.shape
 |[]=>rfl
 |t::l=>by simp only[Tm.Bl,Tm.BG l,bk]
variable(t:Tm)
theorem Tm.size_eq:t.size=1+(t.args.map Tm.size).sum:=by cases t;simp only[Tm.size,Tm.BR,Tm.Ag]
theorem Tm.Af:t.full=1+t.ty.size+(t.args.map Tm.full).sum:=by cases t;simp only[Tm.full,Tm.Co,Tm.Ag,Tm.Bk]
theorem Tm.Ak:t.shape=(t.head&&t.args.all Tm.shape):=by cases t;simp only[Tm.shape,Tm.BG,Tm.Ag]
theorem Tm.size_pos:1<=t.size:=by rw[Tm.size_eq];omega
theorem Tm.Ac:1<=t.full:=by rw[Tm.Af];omega
theorem Tm.ind{P:Tm->Prop}(h:∀t,(∀x∈t.args,P x)->P t)(t:Tm):P t:=by
 have:∀b (t:Tm),t.size<=b->P t:=by
  intro b;induction b with
  |zero=>intro t ht;have:=t.size_pos;omega
  |succ b ih=>
   intro t ht;refine h t fun x hx=>ih x ?_;have:=zc Tm.size hx;have:=t.size_eq;omega
 exact this _ t (ZB _)
theorem Tm.Ah:t.size<=t.full:=by
 induction t using Tm.ind with
 |h t ih=>
  have:∀l:List Tm,(∀x∈l,x.size<=x.full)->(l.map Tm.size).sum<=(l.map Tm.full).sum:=by
   exact mM
  have:=this t.args ih;rw[t.size_eq,t.Af];omega
def Tm.nodes(t:Tm):Nat:=if t.shape then t.size else 0
theorem Tm.Ew:t.nodes<=t.size:=by simp only[Tm.nodes];grind
def Ty.err(t:Ty):Int:=if t.shape=false then 2 else if t.size>64 then 4 else 0
def Ty.num(t:Ty):Int:=if t.err=0 then t.size else 0
def BV:Ty:= .mk 0 []
def Tm.err(t:Tm):Int:=if t.shape=false then 2 else if t.size>4096 then 4 else 0
def Tm.num(t:Tm):Int:=if t.err=0 then t.size else 0
def Da:Tm:= .mk 0 0 (.mk 0 []) []
def NQ(t:Ty):V:= .AM [.i t.nodes,.bool t.shape]
def Lh(t:Tm):V:= .AM [.i t.nodes,.bool t.shape]
end Go.Ab
namespace Go.Ab
set_option linter.all false
mutual
def Ty.same:Ty->Ty->Bool
 | .mk k xs,.mk k' ys=>k==k'&&Ty.BQ xs ys
def Ty.BQ:List Ty->List Ty->Bool
 |[],[]=>true
 |x::xs,y::ys=>x.same y&&Ty.BQ xs ys
 |_,_=>false
end
mutual
theorem Ty.Cm:∀a b:Ty,a.same b=true↔a=b
 | .mk k xs,.mk k' ys=>by simp only[Ty.same,ZC,beq_iff_eq,Ty.mk.injEq,Ty.Ca xs ys]
theorem Ty.Ca:∀a b:List Ty,Ty.BQ a b=true↔a=b
 |[],[]=>by simp[Ty.BQ]
 |x::xs,y::ys=>by simp only[Ty.BQ,ZC,dQ,Ty.Cm x y,Ty.Ca xs ys]
 |[],_::_=>by simp[Ty.BQ]
 |_::_,[]=>by simp[Ty.BQ]
end
instance:DecidableEq Ty:=fun a b=>decidable_of_iff _ (Ty.Cm a b)
mutual
def Tm.same:Tm->Tm->Bool
 | .mk k i h xs,.mk k' i' h' ys=>k==k'&&i==i'&&decide (h=h')&&Tm.BQ xs ys
def Tm.BQ:List Tm->List Tm->Bool
 |[],[]=>true
 |x::xs,y::ys=>x.same y&&Tm.BQ xs ys
 |_,_=>false
end
mutual
theorem Tm.Cm:∀a b:Tm,a.same b=true↔a=b
 | .mk k i h xs,.mk k' i' h' ys=>by simp only[Tm.same,ZC,beq_iff_eq,Tm.mk.injEq,Tm.Ca xs ys,decide_eq_true_eq,and_assoc]
theorem Tm.Ca:∀a b:List Tm,Tm.BQ a b=true↔a=b
 |[],[]=>by simp[Tm.BQ]
 |x::xs,y::ys=>by simp only[Tm.BQ,ZC,dQ,Tm.Cm x y,Tm.Ca xs ys]
 |[],_::_=>by simp[Tm.BQ]
 |_::_,[]=>by simp[Tm.BQ]
end
instance:DecidableEq Tm:=fun a b=>decidable_of_iff _ (Tm.Cm a b)
variable(a:Ty)
theorem Ty.eq_iff(b:Ty):a=b↔a.kind=b.kind/\a.args=b.args:=by cases a;cases b;simp
theorem Tm.eq_iff(a b:Tm):a=b↔a.kind=b.kind/\a.index=b.index/\a.ty=b.ty/\a.args=b.args:=by cases a;cases b;simp
variable{α:Type}
theorem u5{xs ys:List α}(hl:xs.length=ys.length)(h:∀j (hj:j<xs.length),j<xs.length->xs[j]=ys[j]' dY):xs=ys:=
 List.ext_getElem hl fun i h1 h2=>h i h1 h1
variable{m:Nat}
theorem uu{xs ys:List α}(h1:m<xs.length)(h2:m<ys.length)(h:¬xs[m]=ys[m]):¬xs=ys:=fun he=>ei
theorem Hf{xs ys:List α}(hl:xs.length=ys.length)(hm:m<xs.length)(h:∀j (hj:j<xs.length),j<m->xs[j]=ys[j]' dY)(h1:xs[m]=ys[m]' dY):∀j (hj:j<xs.length),j<m+1->xs[j]=ys[j]' dY:=by
 grind
def up(k b:Int):Int:=if k=2 then b+1 else b
mutual
def Tm.vars(b:Int):Tm->List (Int×Int)
 | .mk k i _ xs=>(if k=1 then [(i,b)] else [])++Tm.CJ (up k b) xs
def Tm.CJ(b:Int):List Tm->List (Int×Int)
 |[]=>[]
 |t::l=>t.vars b++Tm.CJ b l
end
theorem Tm.FQ(b:Int):∀l:List Tm,Tm.CJ b l=l.flatMap (Tm.vars b)
 |[]=>rfl
 |t::l=>by simp only[Tm.CJ,Tm.FQ b l,Z1]
theorem Tm.AU(b:Int)(t:Tm):t.vars b=(if t.kind=1 then [(t.index,b)] else [])++t.args.flatMap (Tm.vars (up t.kind b)):=by cases t;simp only[Tm.vars,Tm.FQ,Tm.AA,Tm.Bo,Tm.Ag];rfl
mutual
def Tm.re(g:Int->Int->Tm)(b:Int):Tm->Tm
 | .mk k i h xs=>if k=1 then g i b else .mk k i h (Tm.res g (up k b) xs)
def Tm.res(g:Int->Int->Tm)(b:Int):List Tm->List Tm
 |[]=>[]
 |t::l=>t.re g b::Tm.res g b l
end
theorem Tm.Ei(g:Int->Int->Tm)(b:Int):∀l:List Tm,Tm.res g b l=l.map (Tm.re g b)
 |[]=>rfl
 |t::l=>by simp only[Tm.res,Tm.Ei g b l,ZJ]
theorem Tm.BJ(g:Int->Int->Tm)(b:Int)(t:Tm):t.re g b=if t.kind=1 then g t.index b else .mk t.kind t.index t.ty (t.args.map (Tm.re g (up t.kind b))):=by cases t;simp only[Tm.re,Tm.Ei,Tm.AA,Tm.Bo,Tm.Ag,Tm.Bk];rfl
variable{β:Type}
theorem wg(f:α->List β)(l:List α)(m:Nat)(h:m<l.length):(l.take (m+1)).flatMap f=(l.take m).flatMap f++f l[m]:=by
 rw[<-ZM h,bu];simp
theorem zp(f:α->β)(l:List α)(m:Nat)(h:m<l.length):(l.take (m+1)).map f=(l.take m).map f++[f l[m]]:=by
 rw[<-ZM h,aZ];simp
theorem xh{α:Type}{f g:α->Nat}:∀(l:List α),(∀x∈l,f x<=g x)->(l.map f).sum<=(l.map g).sum
 |[],_=>ZB _
 |x::l,h=>by have:=xh l fun y hy=>h y ei;grind
theorem W9(l:List Tm)(f:Tm->List (Int×Int))(h:∀x∈l,(f x).length<=x.size):(l.flatMap f).length<=(l.map Tm.size).sum:=by
 induction l<;>grind
theorem Tm.Cn(t:Tm):∀b,(t.vars b).length<=t.size:=by
 induction t using Tm.ind with
 |h t ih=>
  intro b;rw[t.AU,t.size_eq];have:=W9 t.args (Tm.vars (up t.kind b)) fun x hx=>ih x hx _
  grind
def Tm.near(t:Tm):Bool:=(t.vars 0).all fun p=>decide (p.1<=536870912)
def cnt(at_:Int)(l:List (Int×Int)):Nat:=(l.filter fun p=>p.1-p.2==at_).length
theorem u3(at_:Int)(l l':List (Int×Int)):cnt at_ (l++l')=cnt at_ l+cnt at_ l':=by simp[cnt]
theorem LW(at_:Int)(l:List (Int×Int)):cnt at_ l<=l.length:=cl _ _
theorem Tm.AJ(t:Tm)(h:t.shape=true):∀b,∀p∈t.vars b,0<=p.1:=by
 induction t using Tm.ind with
 |h t ih=>
  intro b p hp;rw[t.Ak,ZC] at h;rw[t.AU,ZU] at hp;rcases hp with hp|hp
  .split at hp
   .simp at hp;subst hp;have:=h.1;simp only[Tm.head,ZC,decide_eq_true_eq] at this;omega
   grind
  grind
theorem Vb(n k:Int)(hk:0<k): -k<n.tmod k:=by
 have h:=Int.natAbs_tmod n k;have h2:=dI n.natAbs (show 0<k.natAbs by omega);omega
def Ae:Ty:= .mk 1 []
def Ao:Ty:= .mk 2 []
def Kt:Ty:= .mk 5 []
def Dj(a b:Ty):Ty:= .mk 3 [a,b]
def xn(a b:Ty):Ty:= .mk 4 [a,b]
def BF(t:Ty):Ty×Int:=if t.err=0 then(t,0) else(BV,4)
def B2(l:List Ty)(i:Nat):Ty:=l.getD i BV
def Cy(k:Int)(h:Ty)(l:List Ty):Ty×Int:=
 let a:=B2 l 0
 let b:=B2 l 1
 let c:=B2 l 2
 if k=3 then(if ¬a.kind=4\/¬B2 a.args 0=b then(BV,7) else(B2 a.args 1,0))
 else if k=4 then(Ae,0)
 else if k=5 then(if ¬a=Ae then(BV,7) else(Ae,0))
 else if k=6 then(if ¬a=h\/¬b=xn Ae (xn h h)\/¬c=Ae then(BV,7) else(h,0))
 else if k=7 then(Ao,0)
 else if k=8 then(if ¬a=Ae\/¬b=Ao then(BV,7) else(Ao,0))
 else if k=9 then(if ¬a=h\/¬b=xn Ae (xn Ao (xn h h))\/¬c=Ao then(BV,7) else(h,0))
 else if k=10 then BF (Dj a b)
 else if k=11\/k=12 then(if ¬a.kind=3 then(BV,7) else if k=11 then(B2 a.args 0,0) else(B2 a.args 1,0))
 else(Kt,0)
mutual
def Tm.inf:List Ty->Tm->Ty×Int
 |g,.mk k i h xs=>
  if k=1 then(if i>=g.length then(BV,6) else(B2 g (g.length-1-i.toNat),0))
  else if k=2 then(if(Tm.AV (g++[h]) xs).2≠0 then(BV,(Tm.AV (g++[h]) xs).2) else BF (xn h (B2 (Tm.AV (g++[h]) xs).1 0)))
  else if(Tm.AV g xs).2≠0 then(BV,(Tm.AV g xs).2) else Cy k h (Tm.AV g xs).1
def Tm.AV:List Ty->List Tm->List Ty×Int
 |_,[]=>([],0)
 |g,t::l=>if(t.inf g).2≠0 then([],(t.inf g).2) else if(Tm.AV g l).2≠0 then([],(Tm.AV g l).2) else((t.inf g).1::(Tm.AV g l).1,0)
end
theorem J2(at_:Int)(p:Int×Int):cnt at_ [p]=if p.1-p.2=at_ then 1 else 0:=by simp only[cnt,List.filter_cons,List.filter_nil];grind
def z8(fr by_:Int)(i b:Int):Tm:= .mk 1 (if i-b>=fr then i+by_ else i) (.mk 0 []) []
def xt(at_:Int)(s:Tm)(i b:Int):Tm:=if i-b=at_ then s.re (z8 0 (at_+b)) 0 else .mk 1 (if i-b>at_ then i-1 else i) (.mk 0 []) []
def Fx(n k:Int):Int:=((n.tmod k)+k).tmod k
structure Dk where
 l:List Int
 at_:Nat
def Dk.ok(d:Dk):Prop:=d.at_<=d.l.length/\d.l.length<1099511627776
def Dk.next(d:Dk)(n:Int):Int×Dk:=if h:n<1\/d.l.length<=d.at_ then(0,d) else(Fx (d.l[d.at_]'(by omega)) n,⟨d.l,d.at_+1⟩)
def Dk.cells(d:Dk):List V:=[.s .int d.l,.i d.at_]
theorem uc{t:Tm}(h:t.err=0):t.shape=true/\t.size<=4096:=by
 simp only[Tm.err] at h
 grind
theorem Wc{t:Tm}(h:t.err=0)(hn:t.near=true):∀p∈t.vars 0,0<=p.1/\p.1<549755813888:=fun p hp=>
 ⟨t.AJ (uc h).1 0 p hp,by have:=ZH.1 hn p hp;grind⟩
theorem V9(c d:Int)(hc:0<=c/\c<=274877906944)(hd: -1<=d/\d<=4096): -274877906944<=c*d/\c*d<=1125899906842624:=by
 constructor
 .have:=cV hd.1 hc.1;omega
 .have:=cV hd.2 hc.1;omega
theorem Dk.AG{d:Dk}(h:d.ok)(n:Int):(d.next n).2.ok:=by
 simp only[Dk.next];split
 .exact h
 .rename_i hc;obtain⟨h1,h2⟩:=h;exact⟨ei,h2⟩
def Dk.type:Nat->Dk->Ty×Dk
 |0,d=>let r:=d.next 7;(if r.1=3 then .mk 2 [] else if r.1=4 then .mk 5 [] else .mk 1 [],r.2)
 |n+1,d=>
  let r:=d.next 7
  if r.1=5\/r.1=6 then
   let a:=r.2.type n
   let b:=a.2.type n
   (.mk (if r.1=5 then 3 else 4) [a.1,b.1],b.2)
  else(if r.1=3 then .mk 2 [] else if r.1=4 then .mk 5 [] else .mk 1 [],r.2)
theorem Dk.BC:∀(n:Nat) (d:Dk),d.ok->(d.type n).2.ok
 |0,d,h=>Dk.AG h 7
 |n+1,d,h=>by
  simp only[Dk.type];split
  .exact Dk.BC n _ (Dk.BC n _ (Dk.AG h 7))
  .exact Dk.AG h 7
theorem Dk.Fj(k:Int)(d:Dk):d.type k.toNat=(if 0<k/\((d.next 7).1=5\/(d.next 7).1=6) then
 (.mk (if(d.next 7).1=5 then 3 else 4) [((d.next 7).2.type (k-1).toNat).1,((((d.next 7).2.type (k-1).toNat).2).type (k-1).toNat).1],((((d.next 7).2.type (k-1).toNat).2).type (k-1).toNat).2)
 else(if(d.next 7).1=3 then .mk 2 [] else if(d.next 7).1=4 then .mk 5 [] else .mk 1 [],(d.next 7).2)):=by
 by_cases hk:0<k
 .have e:k.toNat=(k-1).toNat+1:=dY
  rw[e];simp only[Dk.type,hk,true_and]
 .have e:k.toNat=0:=dY
  rw[e];simp only[Dk.type,hk,false_and,if_false]
theorem Dk.DZ:∀(n:Nat) (d:Dk),(d.type n).1.size<=2^(n+1)-1
 |0,d=>by simp only[Dk.type];(repeat' split)<;>simp[Ty.size_eq]
 |n+1,d=>by
  have h1:=Dk.DZ n (d.next 7).2;have h2:=Dk.DZ n ((d.next 7).2.type n).2;have h3:2^(n+1+1)=2^(n+1)+2^(n+1):=dY
  have h4:2<=2^(n+1):=ei
  simp only[Dk.type];split
  .rw[Ty.size_eq];simp only[Ty.Ag,ZJ,Z2,ZW,aN];omega
  .have:∀x:Int,(Ty.mk x []).size=1:=fun x=>eC
   grind
variable(d:Dk)
theorem Dk.C2(k:Int)(h:k<=20):(d.type k.toNat).1.size<1099511627776:=by
 have h1:=Dk.DZ k.toNat d;have h2:2^(k.toNat+1)<=2^21:=ct dY dY;omega
def Fl:Nat->Tm
 |0=> .mk 4 0 (.mk 0 []) []
 |n+1=> .mk 5 0 (.mk 0 []) [Fl n]
def HG(n:Int):Tm:=if 0<=n/\n<4096 then Fl n.toNat else Da
def Dk.types:Nat->Dk->List Ty×Dk
 |0,d=>([],d)
 |n+1,d=>let a:=d.type 1;let b:=a.2.types n;(a.1::b.1,b.2)
theorem Dk.EA:∀(n:Nat) (d:Dk),d.types (n+1)=((d.types n).1++[((d.types n).2.type 1).1],((d.types n).2.type 1).2)
 |0,d=>rfl
 |n+1,d=>by
  have:=Dk.EA n (d.type 1).2;show((d.type 1).1::((d.type 1).2.types (n+1)).1,((d.type 1).2.types (n+1)).2)=_;rw[this];rfl
theorem Dk.Em:∀(n:Nat) (d:Dk),d.ok->(d.types n).2.ok
 |0,d,h=>h
 |n+1,d,h=>Dk.Em n _ (Dk.BC 1 d h)
theorem Dk.DW:∀(n:Nat) (d:Dk),(d.types n).1.length=n
 |0,d=>rfl
 |n+1,d=>by simp[Dk.types,Dk.DW n]
theorem Zpg(n k:Int)(hk:0<k):0<=Fx n k/\Fx n k<k:=by
 have h1:=Vb n k hk;constructor
 .exact Int.tmod_nonneg _ dY
 .exact Int.tmod_lt_of_pos _ hk
theorem Dk.Bh(n:Int)(hn:0<n):0<=(d.next n).1/\(d.next n).1<n:=by
 simp only[Dk.next];split
 .omega
 .exact Zpg _ _ hn
def Dk.ctx(d:Dk):List Ty×Dk:=(d.next 4).2.types (d.next 4).1.toNat
def vT(i:Int):Tm:= .mk 1 i (.mk 0 []) []
def Dy(t:Tm):Tm:= .mk 2 0 (.mk 1 []) [t]
def FW(b f n:Tm):Tm:= .mk 6 0 (.mk 1 []) [b,f,n]
def sT(t:Tm):Tm:= .mk 5 0 (.mk 0 []) [t]
def zT:Tm:= .mk 4 0 (.mk 0 []) []
def Bd(f x:Tm):Tm:= .mk 3 0 (.mk 0 []) [f,x]
def Jo:Tm:=Dy (Dy (sT (vT 0)))
def CV:Tm:=Dy (Dy (FW (vT 1) Jo (vT 0)))
def C6:Tm:=Dy (FW zT (Dy (Dy (vT 1))) (vT 0))
def Lj:Tm:=Dy (Dy (Bd C6 (vT 0)))
def ET:Tm:=Dy (Dy (FW (vT 1) Lj (vT 0)))
def TR(t:Tm)(fr by_:Int):Int:=if t.err≠0 then t.err else if ¬(0<=fr/\fr<=4096)\/¬(0<=by_/\by_<=4096)\/t.near=false then 1 else 0
def wu(g:List Ty)(t:Ty):List Int:=((List.range g.length).filter fun i=>decide (g[g.length-1-i]? =some t)).map Int.ofNat
def ud:List Ty->Int
 |[]=>0
 |t::l=>if t.err≠0 then t.err else ud l
theorem Zpc:∀(l:List Ty) (m:Nat) (hm:m<l.length),(∀j (hj:j<l.length),j<m->l[j].err=0)->l[m].err≠0->ud l=l[m].err:=by
 intro l;induction l with
 |nil=>simp
 |cons t l ih=>
  intro m hm h h1;cases m with
  |zero=>simp only[ZN] at h1;simp only[ud];grind
  |succ m=>
   have h0:=h 0 dZ dY;simp only[ZN] at h0;simp only[ud,h0,ne_eq,not_true_eq_false,if_false,Z0]
   grind
theorem Vv:∀(l:List Ty),(∀j (hj:j<l.length),j<l.length->l[j].err=0)->ud l=0:=by
 intro l;induction l with
 |nil=>intro _;rfl
 |cons t l ih=>
  intro h;have h0:=h 0 dZ dZ;simp only[ZN] at h0;simp only[ud,h0,ne_eq,not_true_eq_false,if_false];exact ih fun j hj _=>by have:=h (j+1) ei ei;grind
def xz(l:List Ty):Int:=if l.length>16 then 3 else ud l
def Oh(k:Int):Int:=if k=1\/k=4\/k=7\/k=13 then 0 else if k=2\/k=5\/k=11\/k=12 then 1 else if k=3\/k=8\/k=10 then 2 else if k=6\/k=9 then 3 else -1
def nT(k:Int)(l:List Tm):Tm:= .mk k 0 (.mk 0 []) l
def hT(k:Int)(s:Ty)(l:List Tm):Tm:= .mk k 0 s l
def Cf(s:Ty)(x:Tm):Tm:= .mk 2 0 s [x]
def Ht(g:List Ty)(t:Ty)(i:Nat):Bool:=(B2 g (g.length-1-i)).kind==4&&decide (B2 (B2 g (g.length-1-i)).args 1=t)
def LV(g:List Ty)(t:Ty):Option Nat:=(List.range g.length).find? (Ht g t)
abbrev Fy:=Dk->List Ty->Ty->Tm×Dk
def Dk.fin(rec:Fy)(pos:Bool)(d:Dk)(g:List Ty)(t:Ty):Tm×Dk:=
 if t.kind=1 then
  if pos=true then
   if(d.next 5).1=0 then(sT (rec (d.next 5).2 g t).1,(rec (d.next 5).2 g t).2)
   else if(d.next 5).1=1 then
    (Bd (Bd CV (rec (d.next 5).2 g t).1) (rec (rec (d.next 5).2 g t).2 g t).1,(rec (rec (d.next 5).2 g t).2 g t).2)
   else if(d.next 5).1=2 then
    (Bd (Bd ET (rec (d.next 5).2 g t).1) (rec (rec (d.next 5).2 g t).2 g t).1,(rec (rec (d.next 5).2 g t).2 g t).2)
   else(HG ((d.next 5).2.next 3).1,((d.next 5).2.next 3).2)
  else(HG (d.next 3).1,(d.next 3).2)
 else if t.kind=2 then
  if pos=true then
   if(d.next 2).1=0 then(nT 8 [(rec (d.next 2).2 g Ae).1,(rec (rec (d.next 2).2 g Ae).2 g t).1],(rec (rec (d.next 2).2 g Ae).2 g t).2)
   else(nT 7 [],(d.next 2).2)
  else(nT 7 [],d)
 else if t.kind=3 then(nT 10 [(rec d g (B2 t.args 0)).1,(rec (rec d g (B2 t.args 0)).2 g (B2 t.args 1)).1],(rec (rec d g (B2 t.args 0)).2 g (B2 t.args 1)).2)
 else if t.kind=4 then(Cf (B2 t.args 0) (rec d (g++[B2 t.args 0]) (B2 t.args 1)).1,(rec d (g++[B2 t.args 0]) (B2 t.args 1)).2)
 else(nT 13 [],d)
def Dk.m0(rec:Fy)(d:Dk)(g:List Ty)(t s:Ty):Tm×Dk:=(Bd (Cf s (rec d (g++[s]) t).1) (rec (rec d (g++[s]) t).2 g s).1,(rec (rec d (g++[s]) t).2 g s).2)
def Dk.m1(rec:Fy)(d:Dk)(g:List Ty)(t s:Ty):Tm×Dk:=(nT 11 [nT 10 [(rec d g t).1,(rec (rec d g t).2 g s).1]],(rec (rec d g t).2 g s).2)
def Dk.m2(rec:Fy)(d:Dk)(g:List Ty)(t:Ty):Tm×Dk:=
 (hT 6 t [(rec (rec d (g++[Ae,t]) t).2 g t).1,Cf Ae (Cf t (rec d (g++[Ae,t]) t).1),HG ((rec (rec d (g++[Ae,t]) t).2 g t).2.next 3).1],((rec (rec d (g++[Ae,t]) t).2 g t).2.next 3).2)
def Dk.m3(rec:Fy)(d:Dk)(g:List Ty)(t:Ty):Tm×Dk:=
 (hT 9 t [(rec (rec d (g++[Ae,Ao,t]) t).2 g t).1,Cf Ae (Cf Ao (Cf t (rec d (g++[Ae,Ao,t]) t).1)),(rec (rec (rec d (g++[Ae,Ao,t]) t).2 g t).2 g Ao).1],(rec (rec (rec d (g++[Ae,Ao,t]) t).2 g t).2 g Ao).2)
def Dk.m4(rec:Fy)(d:Dk)(g:List Ty)(t s:Ty):Tm×Dk:=(nT 12 [nT 10 [(rec d g s).1,(rec (rec d g s).2 g t).1]],(rec (rec d g s).2 g t).2)
def Dk.m5(rec:Fy)(pos:Bool)(d:Dk)(g:List Ty)(t:Ty):Tm×Dk:=
 match LV g t with
 |some i=>(Bd (vT i) (rec d g (B2 (B2 g (g.length-1-i)).args 0)).1,(rec d g (B2 (B2 g (g.length-1-i)).args 0)).2)
 |none=>d.fin rec pos g t
def Dk.mid(rec:Fy)(pos:Bool)(d:Dk)(g:List Ty)(t:Ty):Tm×Dk:=
 if pos=true then
  if(d.next 8).1=0 then((d.next 8).2.type 0).2.m0 rec g t ((d.next 8).2.type 0).1
  else if(d.next 8).1=1 then((d.next 8).2.type 0).2.m1 rec g t ((d.next 8).2.type 0).1
  else if(d.next 8).1=2 then(d.next 8).2.m2 rec g t
  else if(d.next 8).1=3 then(d.next 8).2.m3 rec g t
  else if(d.next 8).1=4 then((d.next 8).2.type 0).2.m4 rec g t ((d.next 8).2.type 0).1
  else if(d.next 8).1=5 then(d.next 8).2.m5 rec pos g t
  else(d.next 8).2.fin rec pos g t
 else d.fin rec pos g t
variable{g:List Ty}{pos:Bool}{rec:Fy}{t:Ty}
theorem Dk.Ju{d:Dk}(h:pos=true):d.mid rec pos g t=
 if(d.next 8).1=0 then((d.next 8).2.type 0).2.m0 rec g t ((d.next 8).2.type 0).1
 else if(d.next 8).1=1 then((d.next 8).2.type 0).2.m1 rec g t ((d.next 8).2.type 0).1
 else if(d.next 8).1=2 then(d.next 8).2.m2 rec g t
 else if(d.next 8).1=3 then(d.next 8).2.m3 rec g t
 else if(d.next 8).1=4 then((d.next 8).2.type 0).2.m4 rec g t ((d.next 8).2.type 0).1
 else if(d.next 8).1=5 then(d.next 8).2.m5 rec pos g t
 else(d.next 8).2.fin rec pos g t:=if_pos h
def Dk.gen(rec:Fy)(pos:Bool)(d:Dk)(g:List Ty)(t:Ty):Tm×Dk:=
 if wu g t=[] then d.mid rec pos g t
 else if 0<(d.next 3).1 then(vT ((wu g t).getD ((d.next 3).2.next (wu g t).length).1.toNat 0),((d.next 3).2.next (wu g t).length).2)
 else(d.next 3).2.mid rec pos g t
def Dk.tm:Nat->Fy
 |0,d,_,_=>(Da,d)
 |n+1,d,g,t=>d.gen (Dk.tm n) (decide (2<=n)) g t
def Ty.small(t:Ty):Prop:=t.shape=true/\t.size<=3
def Am(g:List Ty):Prop:=∀t∈g,t.small
inductive Mk:Nat->List Ty->Ty->Tm->Prop
 |var (n g t) (i:Nat) (hi:i<g.length) (h:B2 g (g.length-1-i)=t):Mk (n+1) g t (vT i)
 |app (n g t s a b) (hn:2<=n) (hs:s.shape=true) (h1:s.size=1) (ha:Mk n (g++[s]) t a) (hb:Mk n g s b):Mk (n+1) g t (Bd (Cf s a) b)
 |fst (n g t s a b) (hn:2<=n) (hs:s.shape=true) (h1:s.size=1) (ha:Mk n g t a) (hb:Mk n g s b):Mk (n+1) g t (nT 11 [nT 10 [a,b]])
 |snd (n g t s a b) (hn:2<=n) (hs:s.shape=true) (h1:s.size=1) (ha:Mk n g s a) (hb:Mk n g t b):Mk (n+1) g t (nT 12 [nT 10 [a,b]])
 |recu (n g t a b m) (hn:2<=n) (hm:m<3) (ha:Mk n (g++[Ae,t]) t a) (hb:Mk n g t b):Mk (n+1) g t (hT 6 t [b,Cf Ae (Cf t a),Fl m])
 |fold (n g t a b c) (hn:2<=n) (ha:Mk n (g++[Ae,Ao,t]) t a) (hb:Mk n g t b) (hc:Mk n g Ao c):Mk (n+1) g t (hT 9 t [b,Cf Ae (Cf Ao (Cf t a)),c])
 |ctx (n g t s a) (hn:2<=n) (i:Nat) (hi:i<g.length) (h:B2 g (g.length-1-i)=xn s t) (h1:s.size=1) (ha:Mk n g s a):Mk (n+1) g t (Bd (vT i) a)
 |succ (n g a) (hn:2<=n) (ha:Mk n g Ae a):Mk (n+1) g Ae (sT a)
 |plus (n g a b) (hn:2<=n) (ha:Mk n g Ae a) (hb:Mk n g Ae b):Mk (n+1) g Ae (Bd (Bd CV a) b)
 |sub (n g a b) (hn:2<=n) (ha:Mk n g Ae a) (hb:Mk n g Ae b):Mk (n+1) g Ae (Bd (Bd ET a) b)
 |num (n g m) (hm:m<3):Mk (n+1) g Ae (Fl m)
 |cons (n g a b) (hn:2<=n) (ha:Mk n g Ae a) (hb:Mk n g Ao b):Mk (n+1) g Ao (nT 8 [a,b])
 |nil (n g):Mk (n+1) g Ao (nT 7 [])
 |pair (n g s t a b) (h1:s.size=1) (h2:t.size=1) (ha:Mk n g s a) (hb:Mk n g t b):Mk (n+1) g (Dj s t) (nT 10 [a,b])
 |lam (n g s t a) (h1:s.size=1) (h2:t.size=1) (ha:Mk n (g++[s]) t a):Mk (n+1) g (xn s t) (Cf s a)
 |unit (n g):Mk (n+1) g Kt (nT 13 [])
theorem Dk.H9{d:Dk}(h:∀d g t,d.ok->(rec d g t).2.ok)(hd:d.ok):(d.fin rec pos g t).2.ok:=by
 have h5:=Dk.AG hd 5;have h3:=Dk.AG hd 3;have h2:=Dk.AG hd 2;unfold Dk.fin;repeat' split
 all_goals first
  |exact hd|exact h3|exact h2|exact Dk.AG h5 3|exact h _ _ _ h5|exact h _ _ _ (h _ _ _ h5)|exact h _ _ _ (h _ _ _ h2)|exact h _ _ _ (h _ _ _ hd)|grind
theorem Dk.Ie{d:Dk}(h:∀d g t,d.ok->(rec d g t).2.ok)(hd:d.ok):(d.mid rec pos g t).2.ok:=by
 have h8:=Dk.AG hd 8;have hs:=Dk.BC 0 _ h8;have hf:=Dk.H9 (pos:=pos) (g:=g) (t:=t) h h8;unfold Dk.mid Dk.m0 Dk.m1 Dk.m2 Dk.m3 Dk.m4 Dk.m5;repeat' split
 all_goals first
  |exact hf|exact Dk.H9 h hd|exact h _ _ _ (h _ _ _ hs)|exact Dk.AG (h _ _ _ (h _ _ _ h8)) 3|exact h _ _ _ (h _ _ _ (h _ _ _ h8))|grind
theorem Dk.K0{d:Dk}(h:∀d g t,d.ok->(rec d g t).2.ok)(hd:d.ok):(d.gen rec pos g t).2.ok:=by
 unfold Dk.gen;repeat' split
 .exact Dk.Ie h hd
 .exact Dk.AG (Dk.AG hd 3) _
 .exact Dk.Ie h (Dk.AG hd 3)
theorem Dk.C5:∀(n:Nat) (d:Dk) (g:List Ty) (t:Ty),d.ok->(Dk.tm n d g t).2.ok
 |0,d,_,_,h=>h
 |n+1,d,g,t,h=>Dk.K0 (fun d g t hd=>Dk.C5 n d g t hd) h
theorem Ty.Ad(t:Ty):t.err=0↔t.shape=true/\t.size<=64:=by
 simp only[Ty.err]
 grind
theorem Ty.HZ{x:Ty}(h:t.err=0)(hx:x∈t.args):x.err=0:=by
 rw[Ty.Ad] at h ⊢;have h1:=zc Ty.size hx;have h2:=t.size_eq;have h3:=h.1;rw[Ty.Ak,ZC] at h3
 grind
theorem Ty.CT(h:t.shape=true)(hk:t.kind=3\/t.kind=4):∃x y,t.args=[x,y]:=by
 rw[Ty.Ak,ZC] at h;have h1:Ex t.kind=some 2:=by rcases hk with hk|hk<;>rw[hk]<;>rfl
 have h2:=h.1;rw[h1] at h2;simp at h2
 match hl:t.args,h2 with
 |[x,y],_=>simp
variable{l:List Ty}
theorem M1{i:Nat}(h:i<l.length):B2 l i=l[i]:=by simp[B2,h]
theorem Qq{i:Nat}(h:i<l.length):B2 l i∈l:=by rw[M1 h];simp
@[simp] theorem MZ(x:Ty)(l:List Ty):B2 (x::l) 0=x:=rfl
@[simp] theorem P7(x y:Ty)(l:List Ty):B2 (x::y::l) 1=y:=rfl
@[simp] theorem Uu(x y z:Ty)(l:List Ty):B2 (x::y::z::l) 2=z:=rfl
theorem Tm.Il(g:List Ty):∀(xs:List Tm) (m:Nat) (hm:m<xs.length),(∀j (hj:j<xs.length),j<m->(xs[j].inf g).2=0)->(xs[m].inf g).2≠0->Tm.AV g xs=([],(xs[m].inf g).2):=by
 intro xs;induction xs with
 |nil=>simp
 |cons x l ih=>
  intro m hm h h1;cases m with
  |zero=>simp only[ZN] at h1 ⊢;simp only[Tm.AV];grind
  |succ m=>
   have h0:=h 0 dZ dY;simp only[ZN] at h0;simp only[ZO] at hm;have h2:=ih m dY (fun j hj hlt=>ei) ei;simp only[Z0] at h1 ⊢;simp only[Tm.AV,h0,ne_eq,not_true_eq_false,if_false,h2,h1,not_false_eq_true,if_true]
theorem Tm.Fa(g:List Ty):∀(xs:List Tm),(∀x∈xs,(x.inf g).2=0)->Tm.AV g xs=(xs.map fun x=>(x.inf g).1,0):=by
 intro xs;induction xs with
 |nil=>intro _;rfl
 |cons x l ih=>
  intro h;have h0:=h x dZ;have h1:=ih fun y hy=>h y ei;simp only[Tm.AV,h0,h1,ne_eq,not_true_eq_false,if_false,ZJ]
theorem Tm.Dl(g:List Ty):∀(xs:List Tm),(Tm.AV g xs).2=0->∀x∈xs,(x.inf g).2=0:=by
 intro xs;induction xs with
 |nil=>simp
 |cons y l ih=>
  intro h x hx;simp only[Tm.AV] at h
  grind
theorem Tm.Bp(g:List Ty)(t:Tm):t.inf g=(if t.kind=1 then(if t.index>=g.length then(BV,6) else(B2 g (g.length-1-t.index.toNat),0))
 else if t.kind=2 then(if(Tm.AV (g++[t.ty]) t.args).2≠0 then(BV,(Tm.AV (g++[t.ty]) t.args).2) else BF (xn t.ty (B2 (Tm.AV (g++[t.ty]) t.args).1 0)))
 else if(Tm.AV g t.args).2≠0 then(BV,(Tm.AV g t.args).2) else Cy t.kind t.ty (Tm.AV g t.args).1):=by
 cases t;rfl
theorem Xm(h:(BF t).2=0):(BF t).1.err=0:=by
 simp only[BF] at h ⊢;grind
theorem KG{t:Tm}(h:t.shape=true):DL t.kind=some t.args.length:=by
 rw[Tm.Ak,ZC] at h;have h1:=h.1;simp only[Tm.head,ZC] at h1
 grind
theorem ze{t:Tm}(h:t.shape=true):∀x∈t.args,x.shape=true:=by
 rw[Tm.Ak,ZC] at h
 grind
theorem Qp{t:Tm}(h:t.shape=true):0<=t.index/\(t.kind≠1->t.index=0):=by
 rw[Tm.Ak,ZC] at h;have h1:=h.1;simp only[Tm.head,ZC,decide_eq_true_eq,aV,beq_iff_eq] at h1;omega
theorem Th{t:Tm}(h:t.shape=true)(hk:wl t.kind=true):t.ty.err=0:=by
 rw[Tm.Ak,ZC] at h;have h1:=h.1;simp only[Tm.head,ZC,hk,cond_true] at h1;have h2:=h1.2;simp only[Ty.ok,ZC,decide_eq_true_eq] at h2;exact(Ty.Ad _).2 h2
variable{k:Int}{n:Nat}
theorem Wk(h:DL k=some n):(n=0/\(k=1\/k=4\/k=7\/k=13))\/(n=1/\(k=2\/k=5\/k=11\/k=12))\/(n=2/\(k=3\/k=8\/k=10))\/(n=3/\(k=6\/k=9)):=by
 simp only[DL] at h
 grind
theorem Nc{l:List α}(h:l.length=1):l=[l[0]' dY]:=by
 match l,h with
 |[x],_=>rfl
theorem RR{l:List α}(h:l.length=1):∃x,l=[x]:=⟨_,Nc h⟩
theorem PF{l:List α}(h:l.length=2):∃x y,l=[x,y]:=by
 match l,h with
 |[x,y],_=>simp
theorem Xz{l:List α}(h:l.length=3):∃x y z,l=[x,y,z]:=by
 match l,h with
 |[x,y,z],_=>simp
theorem Zxt{h:Ty}(hk:DL k=some l.length)(hl:∀x∈l,x.err=0)(hh:wl k=true->h.err=0)(h0:(Cy k h l).2=0):(Cy k h l).1.err=0:=by
 have h1:∀i,i<l.length->(B2 l i).err=0:=fun i hi=>hl _ (Qq hi);have h2:∀i,i<l.length->(B2 l i).kind=3\/(B2 l i).kind=4->∀j,j<2->(B2 (B2 l i).args j).err=0:=by
  intro i hi hk j hj;obtain⟨x,y,hxy⟩:=Ty.CT ((Ty.Ad _).1 (h1 i hi)).1 hk;refine Ty.HZ (h1 i hi) ?_;exact Qq ei
 rcases Wk hk with⟨hn,hk⟩|⟨hn,hk⟩|⟨hn,hk⟩|⟨hn,hk⟩
 .rcases hk with rfl|rfl|rfl|rfl<;>rfl
 .rcases hk with rfl|rfl|rfl|rfl
  .rfl
  .exact l9
  .exact l9
  .exact l9
 .rcases hk with rfl|rfl|rfl
  .simp only[Cy] at h0 ⊢
   grind
  .exact l9
  .simp only[Cy] at h0 ⊢;simp at h0 ⊢;exact Xm h0
 .rcases hk with rfl|rfl
  .exact l9
  .exact l9
theorem Tm.Eu(t:Tm):∀g:List Ty,t.shape=true->(∀x∈g,x.err=0)->(t.inf g).2=0->(t.inf g).1.err=0:=by
 induction t using Tm.ind with
 |h t ih=>
  intro g hsh hg h0;rw[Tm.Bp] at h0 ⊢;by_cases h1:t.kind=1
  .simp only[h1,if_true] at h0 ⊢;by_cases h2:t.index>=g.length
   .grind
   .rw[if_neg h2];have:=(Qp hsh).1;exact hg _ (Qq dY)
  .simp only[h1,if_false] at h0 ⊢;by_cases h2:t.kind=2
   .simp only[h2,if_true] at h0 ⊢;by_cases h3:(Tm.AV (g++[t.ty]) t.args).2=0
    .simp only[h3,ne_eq,not_true_eq_false,if_false] at h0 ⊢;exact Xm h0
    grind
   .simp only[h2,if_false] at h0 ⊢;by_cases h3:(Tm.AV g t.args).2=0
    .simp only[h3,ne_eq,not_true_eq_false,if_false] at h0 ⊢;have h4:=Tm.Dl g t.args h3;have h5:=Tm.Fa g t.args h4;rw[h5] at h0 ⊢;refine Zxt (by rw[KG hsh];simp) ?_ (Th hsh) h0;intro x hx;obtain⟨y,hy,rfl⟩:=ZQ.1 hx;exact ih y hy g (ze hsh y hy) hg (h4 y hy)
    grind
theorem NB(h:t.shape=true)(hk:t.kind=1\/t.kind=2\/t.kind=5):t.args=[]:=by
 rw[Ty.Ak,ZC] at h;have h1:Ex t.kind=some 0:=by rcases hk with hk|hk|hk<;>rw[hk]<;>rfl
 grind
theorem Zto(h:t.shape=true):t.kind=1\/t.kind=2\/t.kind=5\/t.kind=3\/t.kind=4:=by
 rw[Ty.Ak,ZC] at h;have h2:=h.1;split at h2
 .rename_i n hn;simp only[Ex] at hn
  grind
 grind
theorem Zt(h:t.shape=true):t=Ae\/t=Ao\/t=Kt\/∃a b,a.shape=true/\b.shape=true/\(t=Dj a b\/t=xn a b):=by
 have h0:=h;rw[Ty.Ak,ZC] at h0;rcases Zto h with hk|hk|hk|hk|hk
 .exact .inl ((Ty.eq_iff _ _).2 ⟨hk,NB h dY⟩)
 .exact .inr (.inl ((Ty.eq_iff _ _).2 ⟨hk,NB h dY⟩))
 .exact .inr (.inr (.inl ((Ty.eq_iff _ _).2 ⟨hk,NB h dY⟩)))
 .obtain ⟨a,b,hab⟩:=Ty.CT h (.inl hk);have:=ZH.1 h0.2;rw[hab] at this;exact .inr (.inr (.inr ⟨a,b,this a dZ,this b dZ,.inl ((Ty.eq_iff _ _).2 ⟨hk,hab⟩)⟩))
 .obtain ⟨a,b,hab⟩:=Ty.CT h (.inr hk);have:=ZH.1 h0.2;rw[hab] at this;exact .inr (.inr (.inr ⟨a,b,this a dZ,this b dZ,.inr ((Ty.eq_iff _ _).2 ⟨hk,hab⟩)⟩))
theorem J9(b:Ty):(Dj a b).size=1+(a.size+b.size):=eC
theorem vf(b:Ty):(xn a b).size=1+(a.size+b.size):=eC
theorem R8(h:t.small):t=Ae\/t=Ao\/t=Kt\/∃a b,a.shape=true/\b.shape=true/\a.size=1/\b.size=1/\(t=Dj a b\/t=xn a b):=by
 obtain⟨h1,h2⟩:=h;rcases Zt h1 with h3|h3|h3|⟨a,b,ha,hb,h3⟩
 .grind
 .grind
 .grind
 .have pa:=a.size_pos;have pb:=b.size_pos;refine .inr (.inr (.inr ⟨a,b,ha,hb,?_,?_,h3⟩))<;>rcases h3 with rfl|rfl<;>(first|rw[J9] at h2|rw[vf] at h2)<;>omega
theorem zx(h:t.shape=true)(h1:t.size=1):t.small:=⟨h,dY⟩
theorem zi:Ae.small:=⟨rfl,ej⟩
theorem y8:Ao.small:=⟨rfl,ej⟩
theorem zo(h:Am g)(h1:Am l):Am (g++l):=fun t ht=>by
 rcases ZU.1 ht with ht|ht
 .exact h t ht
 .exact h1 t ht
theorem zj(h:t.small)(h1:Am l):Am (t::l):=fun x hx=>by
 rcases Z4.1 hx with rfl|hx
 .exact h
 .exact h1 x hx
theorem zn:Am []:=fun t ht=>by cases ht
theorem RE(h:Am g){i:Nat}(hi:i<g.length):(B2 g (g.length-1-i)).small:=h _ (Qq dY)
theorem Dk.type0:(d.type 0).1.shape=true/\(d.type 0).1.size=1:=by
 simp only[Dk.type];(repeat' split)<;>exact⟨rfl,rfl⟩
theorem OE:∃m,m<3/\HG (d.next 3).1=Fl m:=by
 have h:=Dk.Bh d 3 dY;refine⟨(d.next 3).1.toNat,dY,?_⟩;rw[HG,if_pos dY]
theorem Zzd{i:Int}(h:i∈wu g t):∃j:Nat,i=j/\j<g.length/\B2 g (g.length-1-j)=t:=by
 simp only[wu,ZQ,bI,bS,decide_eq_true_eq] at h;obtain⟨j,⟨h1,h2⟩,rfl⟩:=h;refine⟨j,rfl,h1,?_⟩;simp only[B2,aB,h2,aQ]
theorem Ztc(h:¬wu g t=[]):∃j:Nat,(wu g t).getD (d.next (wu g t).length).1.toNat 0=j/\j<g.length/\B2 g (g.length-1-j)=t:=by
 have hl:0<(wu g t).length:=List.length_pos_iff.2 h;have hb:=Dk.Bh d (wu g t).length dY;have hlt:(d.next (wu g t).length).1.toNat<(wu g t).length:=dY
 have:(wu g t).getD (d.next (wu g t).length).1.toNat 0∈wu g t:=by
  grind
 exact Zzd this
theorem Ztp{i:Nat}(h:LV g t=some i):i<g.length/\Ht g t i=true:=by
 have:=List.find?_some h;have h2:=dc h
 grind
theorem Yau{i:Nat}(hg:Am g)(hi:i<g.length)(h:Ht g t i=true):∃s,s.shape=true/\s.size=1/\B2 g (g.length-1-i)=xn s t:=by
 simp only[Ht,ZC,beq_iff_eq,decide_eq_true_eq] at h;have hs:=RE hg hi;rcases R8 hs with h3|h3|h3|⟨a,b,ha,hb,h1,h2,h3|h3⟩
 .rw[h3] at h;exact absurd h.1 ej
 .rw[h3] at h;exact absurd h.1 ej
 .rw[h3] at h;exact absurd h.1 ej
 .rw[h3] at h;exact absurd h.1 fX
 .refine ⟨a,ha,h1,?_⟩;have:=h.2;rw[h3] at this ⊢;simp only[xn,Ty.Ag,P7] at this
  grind
abbrev ON(rec:Fy)(n:Nat):Prop:=∀d g t,Am g->t.small->1<=n->(n=1->t.size=1)->Mk n g t (rec d g t).1
theorem Dk.GD{d:Dk}(H:ON rec n)(hp:pos=true->2<=n)(hg:Am g)(ht:t.small)(h0:n=0->t.size=1):Mk (n+1) g t (d.fin rec pos g t).1:=by
 rcases R8 ht with rfl|rfl|rfl|⟨a,b,ha,hb,h1,h2,rfl|rfl⟩
 .unfold Dk.fin;rw[if_pos (show Ae.kind=1 from rfl)];by_cases hpos:pos=true
  .have hn:=hp hpos;have hr:∀d,Mk n g Ae (rec d g Ae).1:=fun d=>H d g Ae hg zi dY dY;rw[if_pos hpos];split
   .exact .succ n g _ hn (hr _)
   .split
    .exact .plus n g _ _ hn (hr _) (hr _)
    .split
     .exact .sub n g _ _ hn (hr _) (hr _)
     .obtain ⟨m,hm,e⟩:=OE (d.next 5).2;simp only[e];exact .num n g m hm
  .rw[if_neg hpos];obtain⟨m,hm,e⟩:=OE d;simp only[e];exact .num n g m hm
 .unfold Dk.fin;rw[if_neg ej,if_pos (show Ao.kind=2 from rfl)];by_cases hpos:pos=true
  .have hn:=hp hpos;rw[if_pos hpos];split
   .exact .cons n g _ _ hn (H _ g Ae hg zi dY dY) (H _ g Ao hg y8 dY dY)
   .exact .nil n g
  .rw[if_neg hpos];exact .nil n g
 .unfold Dk.fin;rw[if_neg ej,if_neg ej,if_neg ej,if_neg ej];exact .unit n g
 .unfold Dk.fin;rw[if_neg fX,if_neg fX,if_pos (show(Dj a b).kind=3 from rfl)];have:n≠0:=fun h=>by have:=h0 h;rw[J9] at this;omega
  exact .pair n g a b _ _ h1 h2 (H _ g a hg (zx ha h1) dY fun _=>h1) (H _ g b hg (zx hb h2) dY fun _=>h2)
 .unfold Dk.fin;rw[if_neg fQ,if_neg fQ,if_neg fQ,if_pos (show(xn a b).kind=4 from rfl)];have:n≠0:=fun h=>by have:=h0 h;rw[vf] at this;omega
  exact .lam n g a b _ h1 h2 (H _ (g++[a]) b (zo hg (zj (zx ha h1) zn)) (zx hb h2) dY fun _=>h2)
theorem Dk.IA{d:Dk}(H:ON rec n)(hp:pos=true->2<=n)(hg:Am g)(ht:t.small)(h0:n=0->t.size=1):Mk (n+1) g t (d.mid rec pos g t).1:=by
 unfold Dk.mid Dk.m0 Dk.m1 Dk.m2 Dk.m3 Dk.m4 Dk.m5;by_cases hpos:pos=true
 .have hn:=hp hpos;have hs:=Dk.type0 (d.next 8).2;have hss:=zx hs.1 hs.2;rw[if_pos hpos];split
  .exact .app n g t _ _ _ hn hs.1 hs.2 (H _ _ _ (zo hg (zj hss zn)) ht dY dY) (H _ _ _ hg hss dY dY)
  .split
   .exact .fst n g t _ _ _ hn hs.1 hs.2 (H _ _ _ hg ht dY dY) (H _ _ _ hg hss dY dY)
   .split
    .obtain ⟨m,hm,e⟩:=OE (rec (rec (d.next 8).2 (g++[Ae,t]) t).2 g t).2;simp only[e];exact .recu n g t _ _ m hn hm (H _ _ _ (zo hg (zj zi (zj ht zn))) ht dY dY) (H _ _ _ hg ht dY dY)
    .split
     .exact .fold n g t _ _ _ hn (H _ _ _ (zo hg (zj zi (zj y8 (zj ht zn)))) ht dY dY) (H _ _ _ hg ht dY dY) (H _ _ _ hg y8 dY dY)
     .split
      .exact .snd n g t _ _ _ hn hs.1 hs.2 (H _ _ _ hg hss dY dY) (H _ _ _ hg ht dY dY)
      .split
       .split
        .rename_i i hi;obtain⟨h1,h2⟩:=Ztp hi;obtain⟨s,h3,h4,h5⟩:=Yau hg h1 h2;simp only[h5,xn,Ty.Ag,MZ];exact .ctx n g t s _ hn i h1 h5 h4 (H _ _ _ hg (zx h3 h4) dY dY)
        .exact Dk.GD H hp hg ht h0
       .exact Dk.GD H hp hg ht h0
 .rw[if_neg hpos];exact Dk.GD H hp hg ht h0
theorem Dk.La{d:Dk}(H:ON rec n)(hp:pos=true->2<=n)(hg:Am g)(ht:t.small)(h0:n=0->t.size=1):Mk (n+1) g t (d.gen rec pos g t).1:=by
 unfold Dk.gen;split
 .exact Dk.IA H hp hg ht h0
 .rename_i hl;split
  .obtain ⟨j,e,h1,h2⟩:=Ztc (d.next 3).2 hl;simp only[e];exact .var n g t j h1 h2
  .exact Dk.IA H hp hg ht h0
theorem Dk.De:∀n,ON (Dk.tm n) n
 |0=>fun d g t _ _ h _=>dY
 |n+1=>fun d g t hg ht _ h1=>Dk.La (Dk.De n) dZ hg ht dY
theorem PY:∀m,(Fl m).full=2*(m+1)
 |0=>rfl
 |m+1=>by simp[Fl,Tm.full,Tm.Av,PY m,Ty.size,Ty.sizes];omega
theorem Mk.full{n:Nat}{g:List Ty}{t:Ty}{x:Tm}(h:Mk n g t x):Am g->t.small->x.full+20<=20*3^n:=by
 have e1:BV.size=1:=rfl;have e2:(Ty.mk 0 []).size=1:=rfl;have p:∀n,1<=3^n:=fun n=>Nat.one_le_pow _ _ dY;have q:∀n,3^(n+1)=3*3^n:=fun n=>dY
 induction h with
 |var n g t i hi h=>intro hg ht;have:=p n;have:=q n;simp[vT,Tm.full,Tm.Av,e2];omega
 |app n g t s a b hn hs h1 ha hb iha ihb=>
  intro hg ht;have:=iha (zo hg (zj (zx hs h1) zn)) ht;have:=ihb hg (zx hs h1);have:=p n;have:=q n;simp[Bd,Cf,Tm.full,Tm.Av,e2,h1];omega
 |fst n g t s a b hn hs h1 ha hb iha ihb=>
  intro hg ht;have:=iha hg ht;have:=ihb hg (zx hs h1);have:=p n;have:=q n;simp[nT,Tm.full,Tm.Av,e2];omega
 |snd n g t s a b hn hs h1 ha hb iha ihb=>
  intro hg ht;have:=iha hg (zx hs h1);have:=ihb hg ht;have:=p n;have:=q n;simp[nT,Tm.full,Tm.Av,e2];omega
 |recu n g t a b m hn hm ha hb iha ihb=>
  intro hg ht;have:=iha (zo hg (zj zi (zj ht zn))) ht;have:=ihb hg ht;have:=ht.2;have:=p n;have:=q n;have e3:Ae.size=1:=rfl;simp[hT,Cf,Tm.full,Tm.Av,e3,PY];omega
 |fold n g t a b c hn ha hb hc iha ihb ihc=>
  intro hg ht;have:=iha (zo hg (zj zi (zj y8 (zj ht zn)))) ht;have:=ihb hg ht;have:=ihc hg y8;have:=ht.2;have:=p n;have:=q n;have e3:Ae.size=1:=rfl;have e4:Ao.size=1:=rfl;simp[hT,Cf,Tm.full,Tm.Av,e3,e4];omega
 |ctx n g t s a hn i hi h h1 ha iha=>
  intro hg ht;have hs:s.shape=true:=by
   have:=RE hg hi;rw[h] at this;have:=ZH.1 ((ZC _ _).mp ((Ty.Ak _).symm.trans this.1)).2 s fQ;omega
  have:=iha hg (zx hs h1);have:=p n;have:=q n;simp[Bd,vT,Tm.full,Tm.Av,e2];omega
 |succ n g a hn ha iha=>intro hg ht;have:=iha hg zi;have:=p n;have:=q n;simp[sT,Tm.full,Tm.Av,e2];omega
 |plus n g a b hn ha hb iha ihb=>
  intro hg ht;have:=iha hg zi;have:=ihb hg zi;have:=p n;have:=q n;have e5:CV.full<=18:=ej
  simp[Bd,Tm.full,Tm.Av,e2];omega
 |sub n g a b hn ha hb iha ihb=>
  intro hg ht;have:=iha hg zi;have:=ihb hg zi;have:=p n;have:=q n;have e5:ET.full<=36:=ej
  simp[Bd,Tm.full,Tm.Av,e2];omega
 |num n g m hm=>intro hg ht;have:=p n;have:=q n;rw[PY];omega
 |cons n g a b hn ha hb iha ihb=>
  intro hg ht;have:=iha hg zi;have:=ihb hg y8;have:=p n;have:=q n;simp[nT,Tm.full,Tm.Av,e2];omega
 |nil n g=>intro hg ht;have:=p n;have:=q n;simp[nT,Tm.full,Tm.Av,e2];omega
 |pair n g s t a b h1 h2 ha hb iha ihb=>
  intro hg ht;have hs:=ZH.1 ((ZC _ _).mp ((Ty.Ak _).symm.trans ht.1)).2;have:=iha hg (zx (hs s fX) h1);have:=ihb hg (zx (hs t fX) h2);have:=p n;have:=q n;simp[nT,Tm.full,Tm.Av,e2];omega
 |lam n g s t a h1 h2 ha iha=>
  intro hg ht;have hs:=ZH.1 ((ZC _ _).mp ((Ty.Ak _).symm.trans ht.1)).2;have:=iha (zo hg (zj (zx (hs s fQ) h1) zn)) (zx (hs t fQ) h2);have:=p n;have:=q n;simp[Cf,Tm.full,Tm.Av,h1];omega
 |unit n g=>intro hg ht;have:=p n;have:=q n;simp[nT,Tm.full,Tm.Av,e2];omega
variable{b:Ty}
theorem Rv{a:Ty}(h:(Ty.mk k [a,b]).shape=true):a.shape=true/\b.shape=true:=by
 have hs:=ZH.1 ((ZC _ _).mp ((Ty.Ak _).symm.trans h)).2;simp_all
theorem Mk.ind{P:Nat->List Ty->Ty->Tm->Prop}
 (var:∀n g t (i:Nat),i<g.length->B2 g (g.length-1-i)=t->Am g->t.small->P (n+1) g t (vT i))
 (app:∀n g t s a b,2<=n->s.shape=true->s.size=1->Am g->t.small->P n (g++[s]) t a->P n g s b->P (n+1) g t (Bd (Cf s a) b))
 (fst:∀n g t s a b,2<=n->s.shape=true->s.size=1->Am g->t.small->P n g t a->P n g s b->P (n+1) g t (nT 11 [nT 10 [a,b]]))
 (snd:∀n g t s a b,2<=n->s.shape=true->s.size=1->Am g->t.small->P n g s a->P n g t b->P (n+1) g t (nT 12 [nT 10 [a,b]]))
 (recu:∀n g t a b m,2<=n->m<3->Am g->t.small->P n (g++[Ae,t]) t a->P n g t b->P (n+1) g t (hT 6 t [b,Cf Ae (Cf t a),Fl m]))
 (fold:∀n g t a b c,2<=n->Am g->t.small->P n (g++[Ae,Ao,t]) t a->P n g t b->P n g Ao c->P (n+1) g t (hT 9 t [b,Cf Ae (Cf Ao (Cf t a)),c]))
 (ctx:∀n g t s a (i:Nat),2<=n->i<g.length->B2 g (g.length-1-i)=xn s t->s.shape=true->s.size=1->Am g->t.small->P n g s a->P (n+1) g t (Bd (vT i) a))
 (succ:∀n g a,2<=n->Am g->P n g Ae a->P (n+1) g Ae (sT a))
 (plus:∀n g a b,2<=n->Am g->P n g Ae a->P n g Ae b->P (n+1) g Ae (Bd (Bd CV a) b))
 (sub:∀n g a b,2<=n->Am g->P n g Ae a->P n g Ae b->P (n+1) g Ae (Bd (Bd ET a) b))
 (num:∀n g m,m<3->Am g->P (n+1) g Ae (Fl m))
 (cons:∀n g a b,2<=n->Am g->P n g Ae a->P n g Ao b->P (n+1) g Ao (nT 8 [a,b]))
 (nil:∀n g,Am g->P (n+1) g Ao (nT 7 []))
 (pair:∀n g s t a b,s.shape=true->t.shape=true->s.size=1->t.size=1->1<=n->Am g->P n g s a->P n g t b->P (n+1) g (Dj s t) (nT 10 [a,b]))
 (lam:∀n g s t a,s.shape=true->t.shape=true->s.size=1->t.size=1->1<=n->Am g->P n (g++[s]) t a->P (n+1) g (xn s t) (Cf s a))
 (unit:∀n g,Am g->P (n+1) g Kt (nT 13 [])) {x:Tm} (h:Mk n g t x):Am g->t.small->P n g t x:=by
 have one:∀{n g t x},Mk n g t x->1<=n:=fun h=>by cases h<;>omega
 induction h with
 |var n g t i hi h=>grind
 |app n g t s a b hn hs h1 ha hb iha ihb=>exact fun hg ht=>app n g t s a b hn hs h1 hg ht (iha (zo hg (zj (zx hs h1) zn)) ht) (ihb hg (zx hs h1))
 |fst n g t s a b hn hs h1 ha hb iha ihb=>exact fun hg ht=>fst n g t s a b hn hs h1 hg ht (iha hg ht) (ihb hg (zx hs h1))
 |snd n g t s a b hn hs h1 ha hb iha ihb=>exact fun hg ht=>snd n g t s a b hn hs h1 hg ht (iha hg (zx hs h1)) (ihb hg ht)
 |recu n g t a b m hn hm ha hb iha ihb=>exact fun hg ht=>recu n g t a b m hn hm hg ht (iha (zo hg (zj zi (zj ht zn))) ht) (ihb hg ht)
 |fold n g t a b c hn ha hb hc iha ihb ihc=>exact fun hg ht=>fold n g t a b c hn hg ht (iha (zo hg (zj zi (zj y8 (zj ht zn)))) ht) (ihb hg ht) (ihc hg y8)
 |ctx n g t s a hn i hi h h1 ha iha=>
  intro hg ht;have hs:s.shape=true:=by
   have:=RE hg hi;rw[h] at this;exact(Rv this.1).1
  exact ctx n g t s a i hn hi h hs h1 hg ht (iha hg (zx hs h1))
 |succ n g a hn ha iha=>grind
 |plus n g a b hn ha hb iha ihb=>grind
 |sub n g a b hn ha hb iha ihb=>grind
 |num n g m hm=>grind
 |cons n g a b hn ha hb iha ihb=>exact fun hg ht=>cons n g a b hn hg (iha hg zi) (ihb hg y8)
 |nil n g=>grind
 |pair n g s t a b h1 h2 ha hb iha ihb=>exact fun hg ht=>have hs:=Rv ht.1;pair n g s t a b hs.1 hs.2 h1 h2 (one ha) hg (iha hg (zx hs.1 h1)) (ihb hg (zx hs.2 h2))
 |lam n g s t a h1 h2 ha iha=>exact fun hg ht=>have hs:=Rv ht.1;lam n g s t a hs.1 hs.2 h1 h2 (one ha) hg (iha (zo hg (zj (zx hs.1 h1) zn)) (zx hs.2 h2))
 |unit n g=>grind
@[simp] theorem Zvp(b:Ty):(xn a b).kind=4:=rfl
@[simp] theorem Zxz(b:Ty):(xn a b).args=[a,b]:=rfl
@[simp] theorem Yhr(b:Ty):(Dj a b).kind=3:=rfl
@[simp] theorem Yhm(b:Ty):(Dj a b).args=[a,b]:=rfl
theorem Yw(h:t.err=0):BF t=(t,0):=if_pos h
theorem vb(h:t.small):t.err=0:=(Ty.Ad t).2 ⟨h.1,by have:=h.2;omega⟩
variable{a:Ty}
theorem KJ(ha:a.shape=true)(hb:b.shape=true):(xn a b).shape=true:=by simp[Ty.Ak (xn a b),ha,hb,Ex]
theorem Se(ha:a.shape=true)(hb:b.shape=true):(Dj a b).shape=true:=by simp[Ty.Ak (Dj a b),ha,hb,Ex]
theorem LM(ha:a.shape=true)(hb:b.shape=true)(h:a.size+b.size<=60):(xn a b).err=0:=(Ty.Ad _).2 ⟨KJ ha hb,iF⟩
theorem Ro(ha:a.shape=true)(hb:b.shape=true)(h:a.size+b.size<=60):(Dj a b).err=0:=(Ty.Ad _).2 ⟨Se ha hb,by rw[J9];omega⟩
def Fz(g:List Ty)(i:Nat):Ty:=B2 g (g.length-1-i)
variable(g:List Ty)
theorem Qx(i:Nat)(h:i<g.length):(vT i).inf g=(Fz g i,0):=by
 rw[Tm.Bp];have h1:¬((i:Int)>=(g.length:Int)):=dY
 simp[vT,h1,Fz]
theorem SS(a:Ty):Fz (g++[a]) 0=a:=by simp[Fz,B2]
theorem Y8(a:Ty)(i:Nat)(h:i<g.length):Fz (g++[a]) (i+1)=Fz g i:=by
 have e:g.length+1-1-(i+1)=g.length-1-i:=dY
 simp only[Fz,B2,ZR,ZO,Z7,aq,e,aB]
 grind
theorem MA(a:Ty):(vT 0).inf (g++[a])=(a,0):=by
 have:=Qx (g++[a]) 0 dZ;rw[SS] at this;omega
theorem Rc(a b:Ty):(vT 1).inf (g++[a]++[b])=(a,0):=by
 have:=Qx (g++[a]++[b]) 1 dZ;rw[Y8 (g++[a]) b 0 dZ,SS] at this;omega
variable{g:List Ty}
theorem x9{s:Ty}{x:Tm}(h:x.inf (g++[s])=(t,0))(he:(xn s t).err=0):(Cf s x).inf g=(xn s t,0):=by
 rw[Tm.Bp];simp[Cf,Tm.AV,h,Yw he]
theorem Kg{s:Ty}{f x:Tm}(hf:f.inf g=(xn s t,0))(hx:x.inf g=(s,0)):(Bd f x).inf g=(t,0):=by
 rw[Tm.Bp];simp[Bd,Tm.AV,hf,hx,Cy]
theorem TF{x:Tm}(h:x.inf g=(Ae,0)):(sT x).inf g=(Ae,0):=by
 rw[Tm.Bp];simp[sT,Tm.AV,h,Cy]
theorem RC(g:List Ty):zT.inf g=(Ae,0):=by
 rfl
theorem Q3(g:List Ty):∀m,(Fl m).inf g=(Ae,0)
 |0=>RC g
 |m+1=>TF (Q3 g m)
variable{b:Tm}
theorem P3{f x:Tm}(hb:b.inf g=(t,0))(hf:f.inf g=(xn Ae (xn t t),0))(hx:x.inf g=(Ae,0)):(hT 6 t [b,f,x]).inf g=(t,0):=by
 rw[Tm.Bp];simp[hT,Tm.AV,hb,hf,hx,Cy]
theorem Zzq{f x:Tm}(hb:b.inf g=(t,0))(hf:f.inf g=(xn Ae (xn Ao (xn t t)),0))(hx:x.inf g=(Ao,0)):(hT 9 t [b,f,x]).inf g=(t,0):=by
 rw[Tm.Bp];simp[hT,Tm.AV,hb,hf,hx,Cy]
variable{a:Tm}
theorem O8{s:Ty}(ha:a.inf g=(s,0))(hb:b.inf g=(t,0))(he:(Dj s t).err=0):(nT 10 [a,b]).inf g=(Dj s t,0):=by
 rw[Tm.Bp];simp[nT,Tm.AV,ha,hb,Cy,Yw he]
theorem Yfh{s:Ty}{x:Tm}(h:x.inf g=(Dj s t,0)):(nT 11 [x]).inf g=(s,0):=by
 rw[Tm.Bp];simp[nT,Tm.AV,h,Cy]
theorem Yey{s:Ty}{x:Tm}(h:x.inf g=(Dj s t,0)):(nT 12 [x]).inf g=(t,0):=by
 rw[Tm.Bp];simp[nT,Tm.AV,h,Cy]
theorem Ybq(ha:a.inf g=(Ae,0))(hb:b.inf g=(Ao,0)):(nT 8 [a,b]).inf g=(Ao,0):=by
 rw[Tm.Bp];simp[nT,Tm.AV,ha,hb,Cy]
theorem Y5{a:Ty}(ha:a.shape=true)(h:a.size<=30):(xn Ae a).err=0:=LM rfl ha (by have:Ae.size=1:=rfl;omega)
theorem Ycc(g:List Ty):CV.inf g=(xn Ae (xn Ae Ae),0):=by
 refine x9 (s:=Ae) (x9 (s:=Ae) (P3 (t:=Ae) (Rc g Ae Ae) (x9 (s:=Ae) (x9 (s:=Ae) (TF (MA _ _)) rfl) rfl) (MA _ _)) rfl) rfl
theorem Ycx(g:List Ty):C6.inf g=(xn Ae Ae,0):=by
 refine x9 (s:=Ae) (P3 (t:=Ae) (RC _) (x9 (s:=Ae) (x9 (s:=Ae) (Rc _ Ae Ae) rfl) rfl) (MA _ _)) rfl
theorem Ygo(g:List Ty):ET.inf g=(xn Ae (xn Ae Ae),0):=by
 refine x9 (s:=Ae) (x9 (s:=Ae) (P3 (t:=Ae) (Rc g Ae Ae) (x9 (s:=Ae) (x9 (s:=Ae) (Kg (Ycx _) (MA _ _)) rfl) rfl) (MA _ _)) rfl) rfl
theorem Mk.inf{n:Nat}{g:List Ty}{t:Ty}{x:Tm}(h:Mk n g t x)(hg:Am g)(ht:t.small):x.inf g=(t,0):=by
 refine Mk.ind (P:=fun n g t x=>x.inf g=(t,0)) ?_ ?_ ?_ ?_ ?_ ?_ ?_ ?_ ?_ ?_ ?_ ?_ ?_ ?_ ?_ ?_ h hg ht
 .intro n g t i hi h _ _;rw[Qx g i hi];rw[<-h];rfl
 .intro n g t s a b _ hs h1 _ ht ha hb;exact Kg (x9 ha (LM hs ht.1 je)) hb
 .intro n g t s a b _ hs h1 _ ht ha hb;exact Yfh (O8 ha hb (Ro ht.1 hs je))
 .intro n g t s a b _ hs h1 _ ht ha hb;exact Yey (O8 ha hb (Ro hs ht.1 je))
 .intro n g t a b m _ _ _ ht ha hb;have h2:=ht.2;refine P3 hb (x9 (x9 ei (LM ht.1 ht.1 dY)) (Y5 (KJ ht.1 ht.1) iF)) (Q3 g m)
 .intro n g t a b c _ _ ht ha hb hc;have h2:=ht.2;have e1:Ao.size=1:=rfl;refine Zzq hb (x9 (x9 (x9 ei (LM ht.1 ht.1 dY)) (LM rfl (KJ ht.1 ht.1) iF)) (Y5 (KJ rfl (KJ ht.1 ht.1)) (by rw[vf,vf];omega))) hc
 .intro n g t s a i _ hi h _ _ _ _ ha;exact Kg (s:=s) (by rw[Qx g i hi];rw[<-h];rfl) ha
 .intro n g a _ _ ha;exact TF ha
 .intro n g a b _ _ ha hb;exact Kg (Kg (Ycc g) ha) hb
 .intro n g a b _ _ ha hb;exact Kg (Kg (Ygo g) ha) hb
 .intro n g m _ _;exact Q3 g m
 .intro n g a b _ _ ha hb;exact Ybq ha hb
 .intro n g _;rfl
 .intro n g s t a b hs ht h1 h2 _ _ ha hb;exact O8 ha hb (Ro hs ht dY)
 .intro n g s t a hs ht h1 h2 _ _ ha;exact x9 ha (LM hs ht dY)
 .intro n g _;rfl
theorem Yj:(Ty.mk 0 []).B3=true:=rfl
theorem T8{l:List Tm}(hk:DL k=some l.length)(ht:wl k=false)(h:∀x∈l,x.shape=true):(nT k l).shape=true:=by
 have:l.all Tm.shape=true:=ZH.2 h;simp[nT,Tm.Ak,Tm.head,hk,ht,Yj,this]
theorem Lt(h1:t.shape=true)(h2:t.size<=64):t.ok=true:=by simp[Ty.ok,h1,h2]
theorem Zp{s:Ty}{l:List Tm}(hk:DL k=some l.length)(ht:wl k=true)(hs:s.ok=true)(h:∀x∈l,x.shape=true):(hT k s l).shape=true:=by
 have:l.all Tm.shape=true:=ZH.2 h;simp[hT,Tm.Ak,Tm.head,hk,ht,hs,this]
theorem Nb(i:Int)(h:0<=i):(vT i).shape=true:=by
 have:wl 1=false:=rfl;simp[vT,Tm.Ak,Tm.head,DL,this,Yj,h]
theorem QJ:∀m,(Fl m).shape=true
 |0=>rfl
 |m+1=>T8 (k:=5) (l:=[Fl m]) rfl rfl (by simp[QJ m])
theorem ws(hk:DL k=some 2)(ht:wl k=false)(ha:a.shape=true)(hb:b.shape=true):(nT k [a,b]).shape=true:=T8 hk ht ei
theorem Sd(hk:DL k=some 1)(ht:wl k=false)(ha:a.shape=true):(nT k [a]).shape=true:=T8 hk ht ei
theorem JY{s:Ty}(hs:s.ok=true)(ha:a.shape=true):(Cf s a).shape=true:=Zp (k:=2) rfl rfl hs ei
theorem Xn{s:Ty}{c:Tm}(hk:DL k=some 3)(ht:wl k=true)(hs:s.ok=true)(ha:a.shape=true)(hb:b.shape=true)(hc:c.shape=true):(hT k s [a,b,c]).shape=true:=Zp hk ht hs ei
theorem Mk.shape{n:Nat}{g:List Ty}{t:Ty}{x:Tm}(h:Mk n g t x)(hg:Am g)(ht:t.small):x.shape=true:=by
 have ok:∀{t:Ty},t.small->t.ok=true:=fun h=>Lt h.1 (by have:=h.2;omega);refine Mk.ind (P:=fun n g t x=>x.shape=true) ?_ ?_ ?_ ?_ ?_ ?_ ?_ ?_ ?_ ?_ ?_ ?_ ?_ ?_ ?_ ?_ h hg ht
 .intro n g t i hi h _ _;exact Nb _ dY
 .intro n g t s a b _ hs h1 _ ht ha hb;exact ws (k:=3) rfl rfl (JY (ok (zx hs h1)) ha) hb
 .exact m8
 .exact m8
 .intro n g t a b m _ _ _ ht ha hb;exact Xn rfl rfl (ok ht) hb (JY rfl (JY (ok ht) ha)) (QJ m)
 .intro n g t a b c _ _ ht ha hb hc;exact Xn rfl rfl (ok ht) hb (JY rfl (JY rfl (JY (ok ht) ha))) hc
 .intro n g t s a i _ hi h _ _ _ _ ha;exact ws (k:=3) rfl rfl (Nb _ dY) ha
 .intro n g a _ _ ha;exact Sd (k:=5) rfl rfl ha
 .exact mW
 .exact mW
 .intro n g m _ _;exact QJ m
 .intro n g a b _ _ ha hb;exact ws rfl rfl ha hb
 .intro n g _;rfl
 .intro n g s t a b hs ht h1 h2 _ _ ha hb;exact ws rfl rfl ha hb
 .intro n g s t a hs ht h1 h2 _ _ ha;exact JY (ok (zx hs h1)) ha
 .intro n g _;rfl
def s1:Nat->Nat
 |0=>3|1=>3|2=>3|3=>24|n+4=>3*s1 (n+3)+4
def s3:Nat->Nat
 |0=>7|1=>7|2=>7|3=>24|n+4=>3*s1 (n+3)+4
theorem QF:∀n,3<=n->24<=s1 n
 |0,h=>dY
 |1,h=>dY
 |2,h=>dY
 |3,_=>ej
 |n+4,_=>by have:=QF (n+3) dY;simp only[s1];omega
theorem Vq:∀n,3<=n->s3 n=s1 n
 |0,h=>dY
 |1,h=>dY
 |2,h=>dY
 |3,_=>rfl
 |n+4,_=>rfl
theorem Ir(n:Nat)(hn:2<=n):3*s1 n+4<=s1 (n+1)/\2*s1 n+18<=s1 (n+1)/\2*s3 n+s1 n+4<=s3 (n+1)/\s1 (n+1)<=s3 (n+1)/\3<=s1 n/\s1 n<=s3 n/\2*s3 n+6<=s3 (n+1)/\s3 n+s1 n+2<=s3 (n+1):=by
 match n,hn with
 |2,_=>decide
 |n+3,_=>
  have h1:=QF (n+3) dY;have h2:=Vq (n+3) dY;have h3:s1 (n+3+1)=3*s1 (n+3)+4:=rfl;have h4:s3 (n+3+1)=3*s1 (n+3)+4:=rfl;omega
theorem OZ(n:Nat):3<=s1 n/\s1 n<=s3 n/\7<=s3 n:=by
 match n with
 |0=>decide
 |1=>decide
 |2=>decide
 |n+3=>have h1:=QF (n+3) dY;have h2:=Vq (n+3) dY;omega
theorem Xx(n:Nat)(hn:1<=n):2*s1 n+1<=s3 (n+1):=by
 match n,hn with
 |1,_=>decide
 |n+2,_=>have:=Ir (n+2) dY;omega
theorem Sw:∀m,(Fl m).size=m+1
 |0=>rfl
 |m+1=>by simp[Fl,Tm.size,Tm.sizes,Sw m];omega
theorem Mk.size{n:Nat}{g:List Ty}{t:Ty}{x:Tm}(h:Mk n g t x)(hg:Am g)(ht:t.small):x.size<=s3 n/\(t.size=1->x.size<=s1 n):=by
 have e1:Ae.size=1:=rfl;have e2:Ao.size=1:=rfl;refine Mk.ind (P:=fun n g t x=>x.size<=s3 n/\(t.size=1->x.size<=s1 n)) ?_ ?_ ?_ ?_ ?_ ?_ ?_ ?_ ?_ ?_ ?_ ?_ ?_ ?_ ?_ ?_ h hg ht
 .intro n g t i hi h _ _;have:=OZ (n+1);simp[vT,Tm.size,Tm.sizes];omega
 .intro n g t s a b hn hs h1 _ ht ha hb;have:=Ir n hn;have:=hb.2 h1;simp[Bd,Cf,Tm.size,Tm.sizes];omega
 .intro n g t s a b hn hs h1 _ ht ha hb;have:=Ir n hn;have:=hb.2 h1;simp[nT,Tm.size,Tm.sizes];omega
 .intro n g t s a b hn hs h1 _ ht ha hb;have:=Ir n hn;have:=ha.2 h1;simp[nT,Tm.size,Tm.sizes];omega
 .intro n g t a b m hn hm _ ht ha hb;have:=Ir n hn;simp[hT,Cf,Tm.size,Tm.sizes,Sw];omega
 .intro n g t a b c hn _ ht ha hb hc;have:=Ir n hn;have:=hc.2 e2;simp[hT,Cf,Tm.size,Tm.sizes];omega
 .intro n g t s a i hn hi h _ h1 _ _ ha;have:=Ir n hn;have:=ha.2 h1;simp[Bd,vT,Tm.size,Tm.sizes];omega
 .intro n g a hn _ ha;have:=Ir n hn;have:=ha.2 e1;simp[sT,Tm.size,Tm.sizes];omega
 .intro n g a b hn _ ha hb;have:=Ir n hn;have:=ha.2 e1;have:=hb.2 e1;have:CV.size=9:=rfl;simp[Bd,Tm.size,Tm.sizes];omega
 .intro n g a b hn _ ha hb;have:=Ir n hn;have:=ha.2 e1;have:=hb.2 e1;have:ET.size=16:=rfl;simp[Bd,Tm.size,Tm.sizes];omega
 .intro n g m hm _;have:=OZ (n+1);rw[Sw];omega
 .intro n g a b hn _ ha hb;have:=Ir n hn;have:=ha.2 e1;have:=hb.2 e2;simp[nT,Tm.size,Tm.sizes];omega
 .intro n g _;have:=OZ (n+1);simp[nT,Tm.size,Tm.sizes];omega
 .intro n g s t a b hs ht h1 h2 hn _ ha hb;have:=Xx n hn;have:=ha.2 h1;have:=hb.2 h2;rw[J9];simp[nT,Tm.size,Tm.sizes];omega
 .intro n g s t a hs ht h1 h2 hn _ ha;have:=Xx n hn;have:=ha.2 h2;rw[vf];simp[Cf,Tm.size,Tm.sizes];omega
 .intro n g _;have:=OZ (n+1);simp[nT,Tm.size,Tm.sizes];omega
def c1:Nat->Nat
 |0=>1|1=>1|2=>1|n+3=>3*c1 (n+2)
def c3:Nat->Nat
 |0=>1|1=>1|2=>2|n+3=>2*c3 (n+2)+c1 (n+2)
theorem Ybn(at_ b k i:Int)(h:Ty)(xs:List Tm)(hk:k≠1):cnt at_ ((Tm.mk k i h xs).vars b)=(xs.map fun x=>cnt at_ (x.vars (up k b))).sum:=by
 rw[Tm.AU];simp only[Tm.AA,Tm.Ag,hk,if_false,Z3];induction xs with
 |nil=>rfl
 |cons x l ih=>simp only[Z1,u3,ZJ,ZW,ih]
theorem MX(t:Tm):∀(g:List Ty) (b:Int) (B:Int),(t.inf g).2=0->t.shape=true->(g.length:Int)+t.size<=B->∀p∈t.vars b,p.1<B:=by
 induction t using Tm.ind with
 |h t ih=>
  intro g b B h hs hB p hp;rw[Tm.Bp] at h;have hsz:=t.size_eq;rw[t.AU,ZU] at hp;by_cases h1:t.kind=1
  .have hargs:t.args=[]:=by
    have:=KG hs;rw[h1] at this;exact ZS (aW this).symm
   grind
  .rw[if_neg h1] at h hp;simp only[aP,false_or] at hp;obtain⟨x,hx,hp⟩:=ZZ.1 hp;have hxs:=zc Tm.size hx;by_cases h2:t.kind=2
   .rw[if_pos h2] at h;by_cases h3:(Tm.AV (g++[t.ty]) t.args).2=0
    .exact ih x hx (g++[t.ty]) _ B (Tm.Dl _ _ h3 x hx) (ze hs x hx) ei p hp
    grind
   .rw[if_neg h2] at h;by_cases h3:(Tm.AV g t.args).2=0
    .exact ih x hx g _ B (Tm.Dl _ _ h3 x hx) (ze hs x hx) dY p hp
    grind
variable{t:Tm}
theorem G7{g:Int->Int->Tm}{b:Int}(h:t.kind=1):t.re g b=g t.index b:=by rw[Tm.BJ,if_pos h]
theorem vm{g:Int->Int->Tm}{b:Int}(h:t.kind≠1):t.re g b= .mk t.kind t.index t.ty (t.args.map (Tm.re g (up t.kind b))):=by rw[Tm.BJ,if_neg h]
theorem Km(hs:t.shape=true)(h:t.kind=1):t.args=[]:=by
 have:=KG hs;rw[h] at this;exact ZS (aW this).symm
theorem I5(hs:t.shape=true)(h:t.kind=1)(b:Int):t.vars b=[(t.index,b)]:=by rw[t.AU,if_pos h,Km hs h];rfl
theorem KX(h:t.kind≠1)(b:Int):t.vars b=t.args.flatMap (Tm.vars (up t.kind b)):=by rw[t.AU,if_neg h];rfl
theorem M6(h:t.kind≠1){b:Int}{x:Tm}(hx:x∈t.args){p:Int×Int}(hp:p∈x.vars (up t.kind b)):p∈t.vars b:=by
 rw[KX h];grind
theorem Uj(g:Int->Int->Tm)(t:Tm):∀b,t.shape=true->(∀p∈t.vars b,(g p.1 p.2).shape=true)->(t.re g b).shape=true:=by
 induction t using Tm.ind with
 |h t ih=>
  intro b hs hg;by_cases h1:t.kind=1
  .rw[G7 h1];exact hg (t.index,b) (by rw[I5 hs h1];simp)
  .rw[vm h1];have hs0:=hs;rw[Tm.Ak,ZC] at hs ⊢;refine⟨?_,?_⟩
   .have:=hs.1;simp only[Tm.head,Tm.AA,Tm.Ag,Tm.Bo,Tm.Bk,aI] at this ⊢
    grind
   .simp only[Tm.Ag];refine ZH.2 fun y hy=> ?_;obtain⟨x,hx,rfl⟩:=ZQ.1 hy;exact ih x hx _ (ZH.1 hs.2 x hx) fun p hp=>hg p (M6 h1 hx hp)
variable{by_:Int}
theorem NN{fr:Int}(b:Int)(hs:t.shape=true)(hb:0<=by_):(t.re (z8 fr by_) b).shape=true:=
 Uj _ t b hs fun p hp=>by
  have:=t.AJ hs b p hp;simp only[z8];exact Nb _ dY
theorem OW(fr by_:Int)(t:Tm):∀b,t.shape=true->(t.re (z8 fr by_) b).size=t.size:=by
 induction t using Tm.ind with
 |h t ih=>
  intro b hs;by_cases h1:t.kind=1
  .rw[G7 h1,t.size_eq,Km hs h1];rfl
  .rw[vm h1,t.size_eq,Tm.size_eq];simp only[Tm.Ag,aK];congr 2;exact aF fun x hx=>ih x hx _ (ze hs x hx)
theorem N4{at_:Int}{s:Tm}(b:Int)(hs:s.shape=true)(ht:t.shape=true)(hb:0<=b)(ha:0<=at_)(hv:∀p∈t.vars b,0<=p.2):(t.re (xt at_ s) b).shape=true:=
 Uj _ t b ht fun p hp=>by
  have:=t.AJ ht b p hp;have:=hv p hp;simp only[xt];split
  .exact NN 0 hs dY
  .exact Nb _ dY
theorem Jj(t:Tm):∀b:Int,∀p∈t.vars b,b<=p.2:=by
 induction t using Tm.ind with
 |h t ih=>
  intro b p hp;rw[t.AU,ZU] at hp;rcases hp with hp|hp
  .grind
  .obtain ⟨x,hx,hp⟩:=ZZ.1 hp;have:=ih x hx _ p hp;have:b<=up t.kind b:=jb
   omega
theorem NX(at_:Int)(s t:Tm)(hs:s.shape=true):∀b,t.shape=true->(t.re (xt at_ s) b).size=t.size+cnt at_ (t.vars b)*(s.size-1):=by
 have hp:=s.size_pos;induction t using Tm.ind with
 |h t ih=>
  intro b ht;by_cases h1:t.kind=1
  .rw[G7 h1,I5 ht h1,J2,t.size_eq,Km ht h1];simp only[xt];split
   .rw[OW _ _ _ _ hs];grind
   .simp[Tm.size,Tm.sizes]
  .rw[vm h1,t.size_eq,Tm.size_eq,KX h1];simp only[Tm.Ag,aK];have:∀l:List Tm,(∀x∈l,x∈t.args)->(l.map (Tm.size∘Tm.re (xt at_ s) (up t.kind b))).sum=(l.map Tm.size).sum+cnt at_ (l.flatMap (Tm.vars (up t.kind b)))*(s.size-1):=by
    intro l;induction l with
    |nil=>intro _;simp[cnt]
    |cons x l ihl=>
     intro hl;have h2:=ih x (hl x dZ) (up t.kind b) (ze ht x (hl x dZ));have h3:=ihl fun y hy=>hl y ei;simp only[ZJ,ZW,Z1,u3,bJ,h2,h3,aM];omega
   grind
variable{h:List Ty}
theorem Ya8{i:Nat}(hi:i<g.length):B2 (g++h) i=B2 g i:=by
 simp only[B2,aB,ai hi]
theorem Zt9{i:Nat}(hi:g.length<=i):B2 (g++h) i=B2 h (i-g.length):=by
 simp only[B2,aB,aj hi]
theorem vt{i:Nat}(hi:i<h.length):Fz (g++h) i=Fz h i:=by
 simp only[Fz,ZR];rw[Zt9 dY]
 grind
theorem KW{i:Nat}(hi:h.length<=i)(hl:i<(g++h).length):Fz (g++h) i=Fz g (i-h.length):=by
 simp only[Fz,ZR] at hl ⊢;rw[Ya8 dY]
 grind
theorem wz(g:List Ty)(i:Int)(h0:0<=i):(vT i).inf g=if i>=(g.length:Int) then(BV,6) else(Fz g i.toNat,0):=by
 rfl
theorem L0(hs:t.shape=true)(h:t.kind=1):t=vT t.index:=by
 refine(Tm.eq_iff _ _).2 ⟨h,rfl,?_,Km hs h⟩;rw[Tm.Ak,ZC] at hs;have h1:=hs.1;simp only[Tm.head,ZC,h] at h1;have h2:=h1.2;have:wl 1=false:=rfl;rw[this,cond_false] at h2;simp only[Ty.B3,ZC,beq_iff_eq] at h2;exact(Ty.eq_iff _ _).2 ⟨h2.1,ZS h2.2⟩
theorem UN{f:Tm->Tm}{g':List Ty}:∀(l:List Tm),(∀x∈l,(f x).inf g'=x.inf g)->Tm.AV g' (l.map f)=Tm.AV g l:=by
 intro l;induction l with
 |nil=>intro _;rfl
 |cons x l ih=>
  intro h;simp only[ZJ,Tm.AV,h x dZ,ih fun y hy=>h y ei]
theorem WJ(G:Int->Int->Tm)(t:Tm):∀(g g' h:List Ty) (b:Int),t.shape=true->
 (∀(i:Int) (h':List Ty) (b':Int),0<=i->(b'-b=h'.length-h.length)->h.length<=h'.length->(∃e,h'=h++e)->(G i b').inf (g'++h')=(vT i).inf (g++h'))->
 (t.re G b).inf (g'++h)=t.inf (g++h):=by
 induction t using Tm.ind with
 |h t ih=>
  intro g g' h b hs hG;by_cases h1:t.kind=1
  .rw[G7 h1];have:=hG t.index h b (Qp hs).1 dY dY ⟨[],dZ⟩;rw[this,<-L0 hs h1]
  .rw[vm h1,Tm.Bp,Tm.Bp (t:=t)];simp only[Tm.AA,Tm.Bk,Tm.Ag,h1,if_false];by_cases h2:t.kind=2
   .have e:up t.kind b=b+1:=if_pos h2;have:Tm.AV (g'++h++[t.ty]) (t.args.map (Tm.re G (up t.kind b)))=Tm.AV (g++h++[t.ty]) t.args:=by
     refine UN t.args fun x hx=> ?_;rw[ZE,ZE];refine ih x hx g g' (h++[t.ty]) _ (ze hs x hx) fun i h' b' hi hb hl he=>hG i h' b' hi ?_ ?_ ?_;all_goals grind
    grind
   .have e:up t.kind b=b:=if_neg h2;have:Tm.AV (g'++h) (t.args.map (Tm.re G (up t.kind b)))=Tm.AV (g++h) t.args:=UN t.args fun x hx=>ih x hx g g' h _ (ze hs x hx) ei
    grind
theorem Rn(t:Tm)(g m h:List Ty)(fr b:Int)(hs:t.shape=true)(hh:(h.length:Int)=fr+b):(t.re (z8 fr m.length) b).inf (g++m++h)=t.inf (g++h):=by
 refine WJ _ t g (g++m) h b hs fun i h' b' hi hb hl _=> ?_;have hlen:(h'.length:Int)=fr+b':=dY
 show(vT (if i-b'>=fr then i+m.length else i)).inf _=_;by_cases hc:i-b'>=fr
 .rw[if_pos hc,wz _ _ dY,wz _ _ hi];simp only[ZR];by_cases hr:i>=((g.length+h'.length:Nat):Int)
  .grind
  .rw[if_neg dY,if_neg hr];have e1:(i+(m.length:Int)).toNat=i.toNat+m.length:=dY
   rw[KW dY ei,KW dY ei,KW dY ei]
   grind
 .rw[if_neg hc,wz _ _ hi,wz _ _ hi];simp only[ZR];rw[if_neg dY,if_neg dY,vt dY,vt dY]
theorem Zz(t s:Tm)(g h:List Ty)(σ:Ty)(at_ b:Int)(ht:t.shape=true)(hs:s.shape=true)(hh:(h.length:Int)=at_+b)(hσ:s.inf g=(σ,0)):(t.re (xt at_ s) b).inf (g++h)=t.inf (g++[σ]++h):=by
 refine WJ _ t (g++[σ]) g h b ht fun i h' b' hi hb hl _=> ?_;have hlen:(h'.length:Int)=at_+b':=dY
 simp only[xt];by_cases hc:i-b'=at_
 .rw[if_pos hc];have e:=Rn s g h' [] 0 0 hs rfl;simp only[ZY] at e;rw[<-hlen,e,hσ,wz _ _ hi];simp only[ZR,ZO,Z7];rw[if_neg dY,KW dY ei];rw[show i.toNat-h'.length=0 by omega,SS]
 .rw[if_neg hc];by_cases hg:i-b'>at_
  .rw[if_pos hg];show(vT (i-1)).inf _=_;rw[wz _ _ dY,wz _ _ hi];simp only[ZR,ZO,Z7];by_cases hr:i>=((g.length+(0+1)+h'.length:Nat):Int)
   .grind
   .rw[if_neg dY,if_neg hr,KW dY ei,KW dY ei];obtain⟨k,hk⟩:∃k,i.toNat-h'.length=k+1:=⟨i.toNat-h'.length-1,dY⟩;rw[hk,Y8 g σ k dY]
    grind
  .rw[if_neg hg];show(vT i).inf _=_;rw[wz _ _ hi,wz _ _ hi];simp only[ZR,ZO,Z7];rw[if_neg dY,if_neg dY,vt dY,vt dY]
theorem Oi(h:(t.inf g).2=0)(hs:t.shape=true)(hb:g.length+t.size<=536870912):t.near=true:=
 ZH.2 fun p hp=>by
  have:=MX t g 0 536870912 h hs dY p hp
  grind
theorem Tm.Ad(t:Tm):t.err=0↔t.shape=true/\t.size<=4096:=by
 simp only[Tm.err]
 grind
theorem KE(fr by_:Int)(t:Tm):∀b,t.shape=true->(t.re (z8 fr by_) b).full=t.full:=by
 induction t using Tm.ind with
 |h t ih=>
  intro b hs;by_cases h1:t.kind=1
  .rw[G7 h1]
   conv=>rhs;rw[L0 hs h1]
   rfl
  .rw[vm h1,t.Af,Tm.Af];simp only[Tm.Ag,Tm.Bk,aK];congr 2;exact aF fun x hx=>ih x hx _ (ze hs x hx)
theorem Ybw(at_:Int)(s t:Tm)(hs:s.shape=true):∀b,t.shape=true->(t.re (xt at_ s) b).full<=t.full+cnt at_ (t.vars b)*s.full:=by
 induction t using Tm.ind with
 |h t ih=>
  intro b ht;by_cases h1:t.kind=1
  .rw[G7 h1,I5 ht h1,J2];have e:t.full=2:=by rw[L0 ht h1];rfl
   simp only[xt];split
   .rw[KE _ _ _ _ hs];omega
   .rw[e];simp[Tm.full,Tm.Av,Ty.size,Ty.sizes]
  .rw[vm h1,t.Af,Tm.Af,KX h1];simp only[Tm.Ag,Tm.Bk,aK];have:∀l:List Tm,(∀x∈l,x∈t.args)->(l.map (Tm.full∘Tm.re (xt at_ s) (up t.kind b))).sum<=(l.map Tm.full).sum+cnt at_ (l.flatMap (Tm.vars (up t.kind b)))*s.full:=by
    intro l;induction l with
    |nil=>simp
    |cons x l ihl=>
     intro hl;have h2:=ih x (hl x dZ) (up t.kind b) (ze ht x (hl x dZ));have h3:=ihl fun y hy=>hl y ei;simp only[ZJ,ZW,Z1,u3,bJ,aM];omega
   grind
theorem Dk.type1:(d.type 1).1.small:=by
 have e:=Dk.Fj 1 d;rw[show(1:Int).toNat=1 from rfl,show((1:Int)-1).toNat=0 from rfl] at e;have h1:=Dk.type0 (d.next 7).2;have h2:=Dk.type0 ((d.next 7).2.type 0).2;rw[e];generalize ((d.next 7).2.type 0).1=a at*;generalize (((d.next 7).2.type 0).2.type 0).1=b at*;split
 .split
  .exact ⟨Se h1.1 h2.1,show(Dj a b).size<=3 by rw[J9];omega⟩
  .exact ⟨KJ h1.1 h2.1,show(xn a b).size<=3 by rw[vf];omega⟩
 .split
  .exact ⟨rfl,show(Ty.mk 2 []).size<=3 by decide⟩
  .split
   .exact ⟨rfl,show(Ty.mk 5 []).size<=3 by decide⟩
   .exact ⟨rfl,show(Ty.mk 1 []).size<=3 by decide⟩
theorem Dk.DM:∀(n:Nat) (d:Dk),Am (d.types n).1
 |0,d=>zn
 |n+1,d=>zj (Dk.type1 d) (Dk.DM n _)
theorem Dk.C3:Am d.ctx.1:=Dk.DM _ _
theorem Dk.Fq:d.ctx.1.length<=3:=by
 have:=Dk.Bh d 4 dY;simp only[Dk.ctx,Dk.DW];omega
theorem Dk.Gv{d:Dk}(h:d.ok):d.ctx.2.ok:=Dk.Em _ _ (Dk.AG h 4)
def E5(g:List Ty)(t:Tm):Ty×Int:=if t.err≠0 then(BV,t.err) else t.inf g
def xm(g:List Ty)(t:Tm):Ty×Int:=if xz g≠0 then(BV,xz g) else E5 g t
theorem Zwm(h:Am g)(hl:g.length<=16):xz g=0:=by
 unfold xz;rw[if_neg dY];exact Vv g fun j hj _=>vb (h _ (ZA hj))
theorem Zh:∀{g:List Ty},ud g=0->∀x∈g,x.err=0
 |[],_,x,hx=>by cases hx
 |t::l,h,x,hx=>by
  simp only[ud] at h;by_cases h1:t.err=0
  .simp only[h1,ne_eq,not_true_eq_false,if_false] at h;rcases Z4.1 hx with rfl|hx
   .exact h1
   .exact Zh h x hx
  omega
theorem uv(h:xz g=0):g.length<=16/\∀x∈g,x.err=0:=by
 unfold xz at h;by_cases h1:g.length>16
 .omega
 .rw[if_neg h1] at h;exact⟨dY,Zh h⟩
theorem Mk.err{n:Nat}{g:List Ty}{t:Ty}{x:Tm}(h:Mk n g t x)(hg:Am g)(ht:t.small)(hn:n<=5):x.err=0:=by
 refine(Tm.Ad x).2 ⟨h.shape hg ht,?_⟩;have:=(h.size hg ht).1;have:s3 n<=232:=by
  match n,hn with
  |0,_=>decide
  |1,_=>decide
  |2,_=>decide
  |3,_=>decide
  |4,_=>decide
  |5,_=>decide
 omega
theorem Mk.Gd{t:Ty}{x:Tm}(h:Mk n g t x)(hg:Am g)(ht:t.small)(hn:n<=5):x.size<=232:=by
 have:=(h.size hg ht).1;have:s3 n<=232:=by
  match n,hn with
  |0,_=>decide
  |1,_=>decide
  |2,_=>decide
  |3,_=>decide
  |4,_=>decide
  |5,_=>decide
 omega
theorem Mk.near{n:Nat}{g:List Ty}{t:Ty}{x:Tm}(h:Mk n g t x)(hg:Am g)(ht:t.small)(hn:n<=5)(hl:g.length<=100000):x.near=true:=
 Oi (by rw[h.inf hg ht]) (h.shape hg ht) (by have:=h.Gd hg ht hn;omega)
theorem Ybv{t:Ty}(h:t.small):t.ok=true:=Lt h.1 (by have:=h.2;omega)
mutual
def G2:Ty->Tm
 | .mk k l=>if k=2 then nT 7 [] else if k=5 then nT 13 [] else if k=3 then nT 10 (Ra l) else if k=4 then Cf (B2 l 0) ((Ra l).getD 1 Da) else nT 4 []
def Ra:List Ty->List Tm
 |[]=>[]
 |t::l=>G2 t::Ra l
end
theorem Yeu(a b:Ty):G2 (Dj a b)=nT 10 [G2 a,G2 b]:=eC
theorem Yg5(a b:Ty):G2 (xn a b)=Cf a (G2 b):=eC
theorem Zwy(t:Ty):t.shape=true->t.size<=64->(∀g,(G2 t).inf g=(t,0))/\(G2 t).shape=true/\(G2 t).size<=t.size/\(G2 t).full<=66*t.size:=by
 induction t using Ty.ind with
 |h t ih=>
  intro hs h64;rcases Zt hs with rfl|rfl|rfl|⟨a,b,ha,hb,rfl|rfl⟩
  .exact ⟨fun g=>RC g,ej,ej,ej⟩
  .exact ⟨fun g=>eC,ej,ej,ej⟩
  .exact ⟨fun g=>eC,ej,ej,ej⟩
  .rw[J9] at h64 ⊢;rw[Yeu];obtain⟨a1,a2,a3,a4⟩:=ih a dZ ha dY;obtain⟨b1,b2,b3,b4⟩:=ih b dZ hb dY;refine⟨fun g=>O8 (a1 g) (b1 g) ((Ty.Ad _).2 ⟨Se ha hb,by rw[J9];omega⟩),ws rfl rfl a2 b2,?_,?_⟩
   .simp only[nT,Tm.size,Tm.sizes];omega
   .simp only[nT,Tm.full,Tm.Av,Ty.size,Ty.sizes];omega
  .rw[vf] at h64 ⊢;rw[Yg5];obtain⟨b1,b2,b3,b4⟩:=ih b dZ hb dY;have hp:=a.size_pos;refine⟨fun g=>x9 (b1 _) ((Ty.Ad _).2 ⟨KJ ha hb,iF⟩),JY (Lt ha dY) b2,?_,?_⟩
   .simp only[Cf,Tm.size,Tm.sizes];omega
   .simp only[Cf,Tm.full,Tm.Av];omega
@[simp] theorem Fm.AA(k:Int)(h:Ty)(ts:List Tm)(as:List Fm):(Fm.mk k h ts as).kind=k:=rfl
@[simp] theorem Fm.Bk(k:Int)(h:Ty)(ts:List Tm)(as:List Fm):(Fm.mk k h ts as).ty=h:=rfl
@[simp] theorem Fm.AE(k:Int)(h:Ty)(ts:List Tm)(as:List Fm):(Fm.mk k h ts as).terms=ts:=rfl
@[simp] theorem Fm.Ag(k:Int)(h:Ty)(ts:List Tm)(as:List Fm):(Fm.mk k h ts as).args=as:=rfl
def xy(k:Int):Bool:=decide (4<=k)&&decide (k<=7)
def Fm.head(f:Fm):Bool:=
 if f.kind=1 then f.ty.B3&&f.terms.length==2&&f.args.length==0
 else if f.kind=2\/f.kind=3 then f.ty.B3&&f.terms.length==0&&f.args.length==2
 else if f.kind=4\/f.kind=5\/f.kind=6\/f.kind=7 then f.ty.ok&&f.terms.length==0&&f.args.length==1 else false
mutual
def Fm.shape:Fm->Bool
 | .mk k h ts as=>Fm.head (.mk k h ts as)&&ts.all Tm.shape&&Fm.Bl as
def Fm.Bl:List Fm->Bool
 |[]=>true
 |f::l=>f.shape&&Fm.Bl l
end
mutual
def Fm.size:Fm->Nat
 | .mk _ _ ts as=>1+(ts.map Tm.size).sum+Fm.sizes as
def Fm.sizes:List Fm->Nat
 |[]=>0
 |f::l=>f.size+Fm.sizes l
end
mutual
def Fm.full:Fm->Nat
 | .mk _ h ts as=>1+h.size+(ts.map Tm.full).sum+Fm.Av as
def Fm.Av:List Fm->Nat
 |[]=>0
 |f::l=>f.full+Fm.Av l
end
theorem Fm.BG:∀l:List Fm,Fm.Bl l=l.all Fm.shape
 |[]=>rfl
 |f::l=>by rw[Fm.Bl,Fm.BG l];rfl
theorem Fm.BR:∀l:List Fm,Fm.sizes l=(l.map Fm.size).sum
 |[]=>rfl
 |f::l=>by rw[Fm.sizes,Fm.BR l];rfl
theorem Fm.Co:∀l:List Fm,Fm.Av l=(l.map Fm.full).sum
 |[]=>rfl
 |f::l=>by rw[Fm.Av,Fm.Co l];rfl
variable(f:Fm)
theorem Fm.Ak:f.shape=(f.head&&f.terms.all Tm.shape&&f.args.all Fm.shape):=by cases f;simp only[Fm.shape,Fm.BG];rfl
theorem Fm.size_eq:f.size=1+(f.terms.map Tm.size).sum+(f.args.map Fm.size).sum:=by cases f;simp only[Fm.size,Fm.BR];rfl
theorem Fm.Af:f.full=1+f.ty.size+(f.terms.map Tm.full).sum+(f.args.map Fm.full).sum:=by cases f;simp only[Fm.full,Fm.Co];rfl
theorem Fm.Ac:1<=f.full:=by rw[Fm.Af];omega
theorem Fm.size_pos:1<=f.size:=by rw[Fm.size_eq];omega
theorem Fm.ind{P:Fm->Prop}(h:∀f,(∀x∈f.args,P x)->P f)(f:Fm):P f:=by
 have:∀n,∀f:Fm,f.full<=n->P f:=by
  intro n;induction n with
  |zero=>intro f h;have:=f.Ac;omega
  |succ n ih=>
   intro f hf;refine h f fun x hx=>ih x ?_;have:=zc Fm.full hx;have:=f.Af;omega
 exact this _ f (ZB _)
theorem Fm.Ah(f:Fm):f.size<=f.full:=by
 induction f using Fm.ind with
 |h f ih=>
  rw[f.size_eq,f.Af];have h1:=xh (f:=Fm.size) (g:=Fm.full) f.args ih;have h2:=xh (f:=Tm.size) (g:=Tm.full) f.terms fun x _=>x.Ah;omega
def Fm.nodes(f:Fm):Nat:=if f.shape then f.size else 0
def Fm.err(f:Fm):Int:=if f.shape=false then 2 else if f.size>4096 then 4 else 0
def Fm.num(f:Fm):Int:=if f.err=0 then f.size else 0
def Bf:Fm:= .mk 0 (.mk 0 []) [] []
def Bv(a b:Tm):Fm:= .mk 1 (.mk 0 []) [a,b] []
theorem KO(ha:a.shape=true)(hb:b.shape=true):(Bv a b).shape=true:=by
 rw[Fm.Ak];simp[Bv,Fm.head,ha,hb,Ty.B3]
theorem K6(a b:Tm):(Bv a b).size=1+(a.size+b.size):=eC
theorem Fm.Ad:f.err=0↔f.shape=true/\f.size<=4096:=by
 unfold Fm.err
 grind
def Tm.arg(t:Tm)(i:Nat):Tm:=t.args.getD i Da
mutual
def xd(at_:Int):Tm->Nat
 | .mk k i h xs=>if k=1/\i=at_ then 1 else Qu (up k at_) xs
def Qu(at_:Int):List Tm->Nat
 |[]=>0
 |x::l=>xd at_ x+Qu at_ l
end
theorem Yd(at_:Int):∀l:List Tm,Qu at_ l=(l.map (xd at_)).sum
 |[]=>rfl
 |x::l=>by rw[Qu,Yd at_ l];rfl
theorem PN(at_:Int)(t:Tm):xd at_ t=if t.kind=1/\t.index=at_ then 1 else(t.args.map (xd (up t.kind at_))).sum:=by
 cases t;simp only[xd,Yd,Tm.AA,Tm.Bo,Tm.Ag];rfl
theorem MM(t:Tm):∀at_,xd at_ t<=t.size:=by
 induction t using Tm.ind with
 |h t ih=>
  intro at_;rw[PN,t.size_eq];split
  .omega
  .have:=xh (f:=xd (up t.kind at_)) (g:=Tm.size) t.args fun x hx=>ih x hx _;omega
theorem Ta(t:Tm):∀at_ b:Int,t.shape=true->xd (at_+b) t=cnt at_ (t.vars b):=by
 induction t using Tm.ind with
 |h t ih=>
  intro at_ b hs;rw[PN];by_cases h1:t.kind=1
  .rw[I5 hs h1,J2,Km hs h1]
   grind
  .rw[if_neg (fun hh=>h1 hh.1)];have hargs:=ze hs;obtain⟨k,i,th,xs⟩:=t;rw[Ybn at_ b k i th xs h1];have e:up k (at_+b)=at_+up k b:=by unfold up;omega
   simp only[Tm.AA,Tm.Ag] at*;rw[e];congr 1;simp_all
def Ykc(t:Tm):Bool:=
 if t.kind=3 then(t.arg 0).kind==2&&((t.arg 1).args.length==0||decide (xd 0 ((t.arg 0).arg 0)<=1))
 else if t.kind=6 then(t.arg 2).kind==4
 else if t.kind=9 then(t.arg 2).kind==7
 else if t.kind=11\/t.kind=12 then(t.arg 0).kind==10 else false
def Yfz(t:Tm):Tm:=
 if t.kind=3 then((t.arg 0).arg 0).re (xt 0 (t.arg 1)) 0
 else if t.kind=11 then(t.arg 0).arg 0 else if t.kind=12 then(t.arg 0).arg 1 else t.arg 0
mutual
def Rp:Tm->Option Tm
 | .mk k i h xs=>if Ykc (.mk k i h xs)=true then some (Yfz (.mk k i h xs)) else(VT xs).map (Tm.mk k i h)
def VT:List Tm->Option (List Tm)
 |[]=>none
 |x::l=>match Rp x with
  |some u=>some (u::l)
  |none=>(VT l).map (x::·)
end
variable{T:Ty}
theorem Li(h1:t.kind≠1)(h2:t.kind≠2)(h:t.inf g=(T,0)):(∀x∈t.args,(x.inf g).2=0)/\Cy t.kind t.ty (t.args.map fun x=>(x.inf g).1)=(T,0):=by
 rw[Tm.Bp,if_neg h1,if_neg h2] at h;by_cases h3:(Tm.AV g t.args).2=0
 .rw[if_neg dY] at h;have h4:=Tm.Dl g t.args h3;refine⟨h4,?_⟩;rw[Tm.Fa g t.args h4] at h;exact h
 grind
variable{th:Ty}
theorem WO{i:Int}(h:(Tm.mk 2 i th [b]).inf g=(T,0)):(b.inf (g++[th])).2=0/\T=xn th (b.inf (g++[th])).1:=by
 rw[Tm.Bp,if_neg dZ,if_pos dZ] at h;simp only[Tm.Ag,Tm.Bk] at h;by_cases h3:(b.inf (g++[th])).2=0
 .refine ⟨h3,?_⟩;simp only[Tm.AV,h3,ne_eq,not_true_eq_false,if_false] at h;unfold BF at h;split at h;all_goals simp_all
 .simp only[Tm.AV,h3,ne_eq,not_false_eq_true,if_true] at h
  grind
theorem Ygr{a b:Ty}(h:BF (Dj a b)=(T,0)):T=Dj a b:=by
 unfold BF at h
 grind
theorem UL{i:Int}{x y:Tm}(h:(Tm.mk 10 i th [x,y]).inf g=(T,0)):(x.inf g).2=0/\(y.inf g).2=0/\T=Dj (x.inf g).1 (y.inf g).1:=by
 obtain⟨h1,h2⟩:=Li dZ dZ h;exact⟨h1 x dZ,h1 y dZ,Ygr (by simpa[Cy,B2] using h2)⟩
theorem NY(hs:t.shape=true)(hk:t.kind=k)(ha:DL k=some 2):∃i th x y,t= .mk k i th [x,y]/\x.shape=true/\y.shape=true:=by
 have h:=KG hs;have h2:=ze hs;obtain⟨k',i,th,xs⟩:=t;simp only[Tm.AA,Tm.Ag] at*;subst hk;rw[ha] at h;obtain⟨x,y,rfl⟩:=PF (aW h).symm
 grind
theorem KA(hs:t.shape=true)(hk:t.kind=k)(ha:DL k=some 1):∃i th x,t= .mk k i th [x]/\x.shape=true:=by
 have h:=KG hs;have h2:=ze hs;obtain⟨k',i,th,xs⟩:=t;simp only[Tm.AA,Tm.Ag] at*;subst hk;rw[ha] at h;obtain⟨x,rfl⟩:=RR (aW h).symm
 grind
theorem OR(hs:t.shape=true)(hk:t.kind=k)(ha:DL k=some 3):∃i th x y z,t= .mk k i th [x,y,z]/\x.shape=true/\y.shape=true/\z.shape=true:=by
 have h:=KG hs;have h2:=ze hs;obtain⟨k',i,th,xs⟩:=t;simp only[Tm.AA,Tm.Ag] at*;subst hk;rw[ha] at h;obtain⟨x,y,z,rfl⟩:=Xz (aW h).symm
 grind
theorem Wm{α:Type}(f:α->Nat)(u:α):∀(xs:List α) (i:Nat) (hi:i<xs.length),((xs.set i u).map f).sum+f xs[i]=(xs.map f).sum+f u
 |[],i,hi=>ei
 |x::l,0,_=>ei
 |x::l,i+1,hi=>by
  have:=Wm f u l i ei
  grind
theorem Ts(g:List Ty)(u:Tm):∀(xs:List Tm) (i:Nat) (hi:i<xs.length),u.inf g=xs[i].inf g->Tm.AV g (xs.set i u)=Tm.AV g xs
 |[],i,hi,_=>eC
 |x::l,0,_,h=>by
  simp only[ZN] at h;simp only[cF,Tm.AV,h]
 |x::l,i+1,hi,h=>by
  simp only[List.set_cons_succ,Tm.AV];rw[Ts g u l i ei ei]
theorem Xf(i:Int)(th:Ty)(xs:List Tm)(g:List Ty):(Tm.mk 2 i th xs).inf g=if(Tm.AV (g++[th]) xs).2≠0 then(BV,(Tm.AV (g++[th]) xs).2) else BF (xn th (B2 (Tm.AV (g++[th]) xs).1 0)):=by
 rfl
theorem Zxp{i:Int}{v:Tm}(hv:v.inf (g++[th])=b.inf (g++[th])):(Tm.mk 2 i th [v]).inf g=(Tm.mk 2 i th [b]).inf g:=by
 have e:Tm.AV (g++[th]) [v]=Tm.AV (g++[th]) [b]:=Ts (g++[th]) v [b] 0 dZ hv;rw[Xf,Xf,e]
variable{u:Tm}
theorem Zvv{i:Int}{xs:List Tm}(h:(Tm.mk k i th xs).shape=true)(hu:u.shape=true):(Tm.mk k i th (xs.set m u)).shape=true:=by
 have hargs:=ze h;rw[Tm.Ak] at h ⊢;simp only[ZC] at h ⊢;refine⟨?_,?_⟩
 .have e:(Tm.mk k i th (xs.set m u)).head=(Tm.mk k i th xs).head:=by simp only[Tm.head,Tm.AA,Tm.Ag,Tm.Bo,Tm.Bk];grind
  grind
 .refine ZH.2 fun x hx=> ?_;rcases de hx with hx|rfl;all_goals simp_all
theorem yv(t:Tm):t.shape=true->t.full<=65*t.size:=by
 induction t using Tm.ind with
 |h t ih=>
  intro hs;have hargs:=ze hs;have hty:t.ty.size<=64:=by
   rw[Tm.Ak,ZC] at hs;have:=hs.1;simp only[Tm.head,ZC] at this;have h2:=this.2;cases hk:wl t.kind with
   |true=>rw[hk] at h2;simp only[cond_true,Ty.ok,ZC,decide_eq_true_eq] at h2;omega
   |false=>
    rw[hk] at h2;simp only[cond_false,Ty.B3,ZC,beq_iff_eq] at h2;rw[t.ty.size_eq,ZS h2.2];simp
  have hsum:=xh (f:=Tm.full) (g:=fun x=>65*x.size) t.args fun x hx=>ih x hx (hargs x hx);have hmul:∀l:List Tm,(l.map fun x=>65*x.size).sum=65*(l.map Tm.size).sum:=by
   exact mM
  rw[hmul] at hsum;rw[t.Af,t.size_eq];omega
inductive QH:Tm->Tm->Nat->Prop
 |done {t:Tm} (h:Rp t=none):QH t t 0
 |step {t u v:Tm} {n:Nat} (h:Rp t=some u) (hr:QH u v n):QH t v (n+1)
def CU(k:Int)(a b:Fm):Fm:= .mk k (.mk 0 []) [] [a,b]
def BK(k:Int)(s:Ty)(f:Fm):Fm:= .mk k s [] [f]
def Dk.KL(d:Dk)(g:List Ty):Fm×Dk:=(Bv (Dk.tm 3 d g Ae).1 (Dk.tm 3 (Dk.tm 3 d g Ae).2 g Ae).1,(Dk.tm 3 (Dk.tm 3 d g Ae).2 g Ae).2)
def Dk.fm:Nat->Dk->List Ty->Fm×Dk
 |0,d,g=>d.KL g
 |n+1,d,g=>
  if(d.next 9).1=0 then(CU 2 (Dk.fm n (d.next 9).2 g).1 (Dk.fm n (Dk.fm n (d.next 9).2 g).2 g).1,(Dk.fm n (Dk.fm n (d.next 9).2 g).2 g).2)
  else if(d.next 9).1=1\/(d.next 9).1=2 then(CU 3 (Dk.fm n (d.next 9).2 g).1 (Dk.fm n (Dk.fm n (d.next 9).2 g).2 g).1,(Dk.fm n (Dk.fm n (d.next 9).2 g).2 g).2)
  else if(d.next 9).1=3\/(d.next 9).1=4 then(BK 4 ((d.next 9).2.type 1).1 (Dk.fm n ((d.next 9).2.type 1).2 (g++[((d.next 9).2.type 1).1])).1,(Dk.fm n ((d.next 9).2.type 1).2 (g++[((d.next 9).2.type 1).1])).2)
  else if(d.next 9).1=5 then(BK 5 ((d.next 9).2.type 1).1 (Dk.fm n ((d.next 9).2.type 1).2 (g++[((d.next 9).2.type 1).1])).1,(Dk.fm n ((d.next 9).2.type 1).2 (g++[((d.next 9).2.type 1).1])).2)
  else if(d.next 9).1=6 then(BK (6+(((d.next 9).2.type 0).2.next 2).1) ((d.next 9).2.type 0).1 (Dk.fm n (((d.next 9).2.type 0).2.next 2).2 (g++[((d.next 9).2.type 0).1])).1,(Dk.fm n (((d.next 9).2.type 0).2.next 2).2 (g++[((d.next 9).2.type 0).1])).2)
  else(d.next 9).2.KL g
theorem Dk.IF{d:Dk}(h:d.ok):(d.KL g).2.ok:=Dk.C5 3 _ g Ae (Dk.C5 3 d g Ae h)
theorem Dk.FG:∀(n:Nat) (d:Dk) (g:List Ty),d.ok->(Dk.fm n d g).2.ok:=by
 intro n;induction n with
 |zero=>exact fun d g h=>Dk.IF h
 |succ n ih=>
  intro d g h;have h9:=Dk.AG h 9;simp only[Dk.fm];repeat' split
  .grind
  .grind
  .exact ih _ _ (Dk.BC 1 _ h9)
  .exact ih _ _ (Dk.BC 1 _ h9)
  .exact ih _ _ (Dk.AG (Dk.BC 0 _ h9) 2)
  .exact Dk.IF h9
theorem N1:s1 3<=60:=ej
def EG(n:Nat)(f:Fm):Prop:=f.shape=true/\f.size+1<=122*2^n/\f.full+10<=1200*2^n
theorem Dk.FT(hg:Am g):EG 0 (d.KL g).1:=by
 have m1:=Dk.De 3 d g Ae hg zi dY dY;have m2:=Dk.De 3 (Dk.tm 3 d g Ae).2 g Ae hg zi dY dY;have z1:=(m1.size hg zi).2 rfl;have z2:=(m2.size hg zi).2 rfl;have f1:=m1.full hg zi;have f2:=m2.full hg zi;have h3:=N1;refine⟨KO (m1.shape hg zi) (m2.shape hg zi),?_,?_⟩
 .show (Bv _ _).size+1<=_;rw[K6];omega
 .show (Bv _ _).full+10<=_;rw[Fm.Af];simp only[Bv,Fm.Bk,Fm.AE,Fm.Ag,ZJ,Z2,ZW,aN,Ty.size,Ty.sizes];omega
theorem Ye{a b:Fm}(hk:k=2\/k=3)(ha:EG n a)(hb:EG n b):EG (n+1) (CU k a b):=by
 obtain⟨a1,a2,a3⟩:=ha;obtain⟨b1,b2,b3⟩:=hb;refine⟨?_,?_,?_⟩
 .rw[Fm.Ak];rcases hk with rfl|rfl<;>simp[CU,Fm.head,a1,b1,Ty.B3]
 .rw[Fm.size_eq,cM];simp only[CU,Fm.AE,Fm.Ag,ZJ,Z2,ZW,aN];omega
 .rw[Fm.Af,cM];have:1<=2^n:=cH;simp only[CU,Fm.Bk,Fm.AE,Fm.Ag,ZJ,Z2,ZW,aN,Ty.size,Ty.sizes];omega
theorem Sk{s:Ty}{f:Fm}(hk:4<=k/\k<=7)(hs:s.small)(hf:EG n f):EG (n+1) (BK k s f):=by
 obtain⟨a1,a2,a3⟩:=hf;have hz:=hs.2;have:1<=2^n:=cH;refine⟨?_,?_,?_⟩
 .rw[Fm.Ak];have h4:k=4\/k=5\/k=6\/k=7:=dY
  rcases h4 with rfl|rfl|rfl|rfl<;>simp[BK,Fm.head,a1,Ybv hs]
 .rw[Fm.size_eq,cM];simp only[BK,Fm.AE,Fm.Ag,ZJ,Z2,ZW,aN];omega
 .rw[Fm.Af,cM];simp only[BK,Fm.Bk,Fm.AE,Fm.Ag,ZJ,Z2,ZW,aN];omega
theorem EG.up{f:Fm}(h:EG 0 f):EG (n+1) f:=by
 obtain⟨a1,a2,a3⟩:=h;have:1<=2^(n+1):=cH;exact⟨a1,dY,dY⟩
theorem Dk.Ff:∀(n:Nat) (d:Dk) (g:List Ty),Am g->EG n (Dk.fm n d g).1:=by
 intro n;induction n with
 |zero=>exact fun d g hg=>Dk.FT d hg
 |succ n ih=>
  intro d g hg;have h2:=Dk.Bh (((d.next 9).2.type 0).2) 2 dY;have s1:=Dk.type1 (d.next 9).2;have s0:=Dk.type0 (d.next 9).2;have s0':=zx s0.1 s0.2;simp only[Dk.fm];repeat' split
  .exact Ye (.inl rfl) (ih _ _ hg) (ih _ _ hg)
  .exact Ye (.inr rfl) (ih _ _ hg) (ih _ _ hg)
  .exact Sk ⟨dY,dY⟩ s1 (ih _ _ (zo hg (zj s1 zn)))
  .exact Sk ⟨dY,dY⟩ s1 (ih _ _ (zo hg (zj s1 zn)))
  .exact Sk ⟨dY,dY⟩ s0' (ih _ _ (zo hg (zj s0' zn)))
  .exact (Dk.FT _ hg).up
theorem Ty.Eh{t:Ty}(h:t.B3=true):t= .mk 0 []:=by
 obtain⟨k,as⟩:=t;simp only[Ty.B3,Ty.kind,Ty.args,ZC,beq_iff_eq,aO] at h
 grind
def AR(k b:Int):Int:=if xy k=true then b+1 else b
mutual
def Fm.AZ(b:Int):Fm->List (Tm×Int)
 | .mk k _ ts as=>ts.map (fun t=>(t,b))++Fm.IK (AR k b) as
def Fm.IK(b:Int):List Fm->List (Tm×Int)
 |[]=>[]
 |f::l=>f.AZ b++Fm.IK b l
end
mutual
def Fm.re(g:Int->Tm->Tm)(b:Int):Fm->Fm
 | .mk k h ts as=> .mk k h (ts.map (g b)) (Fm.res g (AR k b) as)
def Fm.res(g:Int->Tm->Tm)(b:Int):List Fm->List Fm
 |[]=>[]
 |f::l=>f.re g b::Fm.res g b l
end
theorem Fm.GL(b:Int):∀l:List Fm,Fm.IK b l=l.flatMap (Fm.AZ b)
 |[]=>rfl
 |f::l=>by rw[Fm.IK,Fm.GL b l,Z1]
theorem Fm.Ei(g:Int->Tm->Tm)(b:Int):∀l:List Fm,Fm.res g b l=l.map (Fm.re g b)
 |[]=>rfl
 |f::l=>by rw[Fm.res,Fm.Ei g b l,ZJ]
theorem Fm.AY(b:Int)(f:Fm):f.AZ b=f.terms.map (fun t=>(t,b))++f.args.flatMap (Fm.AZ (AR f.kind b)):=by cases f;simp only[Fm.AZ,Fm.GL];rfl
theorem Fm.BJ(g:Int->Tm->Tm)(b:Int)(f:Fm):f.re g b= .mk f.kind f.ty (f.terms.map (g b)) (f.args.map (Fm.re g (AR f.kind b))):=by cases f;simp only[Fm.re,Fm.Ei];rfl
def ug(at_:Int):List (Tm×Int)->Nat
 |[]=>0
 |p::l=>cnt (at_+p.2) (p.1.vars 0)+ug at_ l
theorem yy(at_:Int):∀l l':List (Tm×Int),ug at_ (l++l')=ug at_ l+ug at_ l'
 |[],l'=>by simp[ug]
 |p::l,l'=>by simp only[aE,ug,yy at_ l l'];omega
theorem LH(at_:Int):∀l:List (Tm×Int),ug at_ l<=(l.map fun p=>p.1.size).sum
 |[]=>ZB _
 |p::l=>by
  have h1:=LW (at_+p.2) (p.1.vars 0);have h2:=p.1.Cn 0;have h3:=LH at_ l;simp only[ug,ZJ,ZW];omega
theorem Nl:∀b,((f.AZ b).map fun p=>p.1.size).sum+1<=f.size:=by
 induction f using Fm.ind with
 |h f ih=>
  intro b;rw[Fm.AY,Fm.size_eq];have h1:∀l:List Fm,(∀x∈l,∀b,((x.AZ b).map fun p=>p.1.size).sum+1<=x.size)->((l.flatMap (Fm.AZ (AR f.kind b))).map fun p=>p.1.size).sum<=(l.map Fm.size).sum:=by
   exact mM
  have h2:=h1 f.args ih;have h3:((f.terms.map fun t=>(t,b)).map fun p=>p.1.size)=f.terms.map Tm.size:=dZ
  grind
theorem Yd2(b:Int)(m:Nat):(((f.terms.take m).map fun t=>(t,b)).map fun p:Tm×Int=>p.1.size).sum<=f.size:=by
 have h1:=zl Tm.size f.terms m;have h3:(((f.terms.take m).map fun t=>(t,b)).map fun p:Tm×Int=>p.1.size)=(f.terms.take m).map Tm.size:=by simp[Function.comp_def]
 rw[h3,Fm.size_eq];omega
theorem Yaa(b:Int)(l:List Fm):((l.flatMap (Fm.AZ b)).map fun p:Tm×Int=>p.1.size).sum<=(l.map Fm.size).sum:=by
 induction l with
 |nil=>simp
 |cons x l ih=>
  have h3:=Nl x b
  grind
theorem Yel(b:Int)(m:Nat)(h:m<f.args.length):((f.terms.map (fun t=>(t,b))++(f.args.take m).flatMap (Fm.AZ (AR f.kind b))).map fun p:Tm×Int=>p.1.size).sum+(f.args[m]).size<=f.size:=by
 have h1:=Yaa (AR f.kind b) (f.args.take m);have h2:=yq Fm.size f.args m h;have h4:=zl Fm.size f.args (m+1);have h3:((f.terms.map fun t=>(t,b)).map fun p:Tm×Int=>p.1.size)=f.terms.map Tm.size:=dZ
 have e:=f.size_eq
 grind
theorem LC:f.shape=true->∀b,∀p∈f.AZ b,p.1.shape=true:=by
 induction f using Fm.ind with
 |h f ih=>
  intro hs b p hp;rw[Fm.Ak,ZC,ZC] at hs;rw[Fm.AY,ZU] at hp
  grind
def Tm.HY(t:Tm):Bool:=(t.vars 0).all fun p=>decide (p.1<=268435456)
def Gz(P:Tm->Bool)(b:Bool)(l:List (Tm×Int)):Bool:=b&&l.all fun p=>P p.1
theorem Yy(P:Tm->Bool)(b:Bool)(l l':List (Tm×Int)):Gz P (Gz P b l) l'=Gz P b (l++l'):=by simp[Gz,Bool.and_assoc]
theorem OX(P:Tm->Bool)(b:Bool)(t:Tm)(i:Int):Gz P b [(t,i)]=(b&&P t):=by simp[Gz]
theorem R5(P:Tm->Bool)(b:Bool):Gz P b []=b:=by simp[Gz]
def Fm.near(f:Fm):Bool:=(f.AZ 0).all fun p=>p.1.near
def Fm.HY(f:Fm):Bool:=(f.AZ 0).all fun p=>p.1.HY
def Fm.put(f:Fm)(at_:Int)(s:Tm):Fm:=f.re (fun b t=>t.re (xt (at_+b) s) 0) 0
def xi(f:Fm)(at_:Int)(s:Tm):Int:=
 if f.err≠0 then f.err else if ¬(0<=at_/\at_<=4096) then 1 else if s.err≠0 then s.err else if f.near=false\/s.near=false then 1 else if(f.size:Int)+ug at_ (f.AZ 0)*(s.size-1)>4096 then 4 else 0
theorem Mx(t:Tm):t.shape=true->t.full<=65*t.size:=by
 induction t using Tm.ind with
 |h t ih=>
  intro hs;rw[Tm.Ak,ZC] at hs;have h0:t.ty.size<=64:=by
   have:=hs.1;simp only[Tm.head,ZC] at this;have h1:=this.2;cases hk:wl t.kind with
   |true=>rw[hk] at h1;simp only[cond_true,Ty.ok,ZC,decide_eq_true_eq] at h1;omega
   |false=>
    rw[hk] at h1;have:=Ty.Eh (show t.ty.B3=true from h1);rw[this];decide
  have h1:∀l:List Tm,(∀x∈l,x∈t.args)->(l.map Tm.full).sum<=65*(l.map Tm.size).sum:=by
   exact mM
  have h2:=h1 t.args fun _ h=>h;rw[Tm.Af,Tm.size_eq];omega
theorem JK:f.shape=true->f.full<=65*f.size:=by
 induction f using Fm.ind with
 |h f ih=>
  intro hs;rw[Fm.Ak,ZC,ZC] at hs;obtain⟨⟨hh,ht⟩,ha⟩:=hs;have h0:f.ty.size<=64:=by
   simp only[Fm.head] at hh;split at hh
   .simp only[ZC] at hh;rw[Ty.Eh hh.1.1];decide
   .split at hh
    .simp only[ZC] at hh;rw[Ty.Eh hh.1.1];decide
    .split at hh
     .simp only[ZC,Ty.ok,decide_eq_true_eq] at hh;omega
     grind
  have h1:∀l:List Fm,(∀x∈l,x∈f.args)->(l.map Fm.full).sum<=65*(l.map Fm.size).sum:=by
   exact mM
  have h2:∀l:List Tm,(∀x∈l,x∈f.terms)->(l.map Tm.full).sum<=65*(l.map Tm.size).sum:=by
   intro l;induction l with
   |nil=>simp
   |cons x l ih2=>
    intro h;have h2:=ih2 fun y hy=>h y ei;have hx:=h x dZ;have h3:=Mx x (ZH.1 ht x hx)
    grind
  have h3:=h1 f.args fun _ h=>h;have h4:=h2 f.terms fun _ h=>h;rw[Fm.Af,Fm.size_eq];omega
variable{f:Fm}
theorem yw(h:f.err=0):f.full<=266240:=by
 have h1:=(Fm.Ad f).1 h;have:=JK f h1.1;omega
theorem yd(h:t.err=0):t.full<=266240:=by
 have h1:=uc h;have:=Mx t h1.1;omega
theorem UM(h:f.err=0)(hn:f.near=true):∀p∈f.AZ 0,∀q∈p.1.vars 0,0<=q.1/\q.1<549755813888:=fun p hp q hq=>by
 have h1:p.1.shape=true:=LC f ((Fm.Ad f).1 h).1 0 p hp;have h2:=ZH.1 hn p hp;have h3:=ZH.1 h2 q hq;simp at h3;exact⟨p.1.AJ h1 0 q hq,dY⟩
theorem VX(f:Fm):0<=f.num/\f.num<=4096:=by
 simp only[Fm.num];split
 .rename_i h;have:=((Fm.Ad f).1 h).2;omega
 simp
mutual
def Fm.same:Fm->Fm->Bool
 | .mk k h ts xs,.mk k' h' ts' ys=>k==k'&&decide (h=h')&&decide (ts=ts')&&Fm.BQ xs ys
def Fm.BQ:List Fm->List Fm->Bool
 |[],[]=>true
 |x::xs,y::ys=>x.same y&&Fm.BQ xs ys
 |_,_=>false
end
mutual
theorem Fm.Cm:∀a b:Fm,a.same b=true↔a=b
 | .mk k h ts xs,.mk k' h' ts' ys=>by simp only[Fm.same,ZC,beq_iff_eq,decide_eq_true_eq,Fm.mk.injEq,Fm.Ca xs ys,and_assoc]
theorem Fm.Ca:∀a b:List Fm,Fm.BQ a b=true↔a=b
 |[],[]=>by simp[Fm.BQ]
 |x::xs,y::ys=>by simp only[Fm.BQ,ZC,dQ,Fm.Cm x y,Fm.Ca xs ys]
 |[],_::_=>by simp[Fm.BQ]
 |_::_,[]=>by simp[Fm.BQ]
end
instance:DecidableEq Fm:=fun a b=>decidable_of_iff _ (Fm.Cm a b)
theorem Fm.eq_iff(x y:Fm):x=y↔x.kind=y.kind/\x.ty=y.ty/\x.terms=y.terms/\x.args=y.args:=by
 cases x;cases y;simp
theorem Cb{g g':Int->Int->Tm}(t:Tm):∀b,(∀p∈t.vars b,g p.1 p.2=g' p.1 p.2)->t.re g b=t.re g' b:=by
 induction t using Tm.ind with
 |h t ih=>
  intro b h;by_cases h1:t.kind=1
  .rw[G7 h1,G7 h1];exact h (t.index,b) (by rw[t.AU,if_pos h1];simp)
  .rw[vm h1,vm h1];congr 1;exact aF fun x hx=>ih x hx _ fun p hp=>h p (M6 h1 hx hp)
theorem Ybo{at_:Int}{l:List (Int×Int)}(h:cnt at_ l=0):∀p∈l,¬p.1-p.2=at_:=by
 intro p hp he;have h1:p∈l.filter fun p=>p.1-p.2==at_:=bI.2 ⟨hp,ei⟩;have h2:=List.length_pos_of_mem h1;simp only[cnt] at h;omega
abbrev Ng:=List (Int×Tm)
theorem Sg:∀{b b':Int},∀q∈t.vars b,∃q'∈t.vars b',q'.1=q.1:=by
 induction t using Tm.ind with
 |h t ih=>
  intro b b' q hq;rw[Tm.AU,ZU] at hq;rcases hq with hq|hq
  .by_cases h1:t.kind=1
   .rw[if_pos h1,ah] at hq;exact⟨(t.index,b'),by rw[Tm.AU,if_pos h1];simp,by rw[hq]⟩
   grind
  .obtain ⟨x,hx,hq⟩:=ZZ.1 hq;obtain⟨q',h1,h2⟩:=ih x hx (b':=up t.kind b') q hq;exact⟨q',by rw[Tm.AU];grind,h2⟩
theorem O7:∀{b b':Int},∀q∈f.AZ b,∃q'∈f.AZ b',q'.1=q.1:=by
 induction f using Fm.ind with
 |h f ih=>
  intro b b' q hq;rw[Fm.AY,ZU] at hq;rcases hq with hq|hq
  .obtain ⟨t,ht,rfl⟩:=ZQ.1 hq;exact⟨(t,b'),gu,rfl⟩
  .obtain ⟨x,hx,hq⟩:=ZZ.1 hq;obtain⟨q',h1,h2⟩:=ih x hx (b':=AR f.kind b') q hq;exact⟨q',gu,h2⟩
theorem zv{x:Fm}(h:f.shape=true)(hx:x∈f.args):x.shape=true:=by
 rw[Fm.Ak,ZC] at h
 grind
theorem yh(h:f.shape=true)(ht:t∈f.terms):t.shape=true:=by
 rw[Fm.Ak,ZC,ZC] at h
 grind
theorem Zxj(at_:Int)(s:Tm)(hs:s.shape=true)(f:Fm):f.shape=true->∀b,(f.re (fun b t=>t.re (xt (at_+b) s) 0) b).full<=f.full+ug at_ (f.AZ b)*s.full:=by
 induction f using Fm.ind with
 |h f ih=>
  intro hf b;have e3:(f.re (fun b t=>t.re (xt (at_+b) s) 0) b).full=1+f.ty.size+((f.terms.map fun t=>t.re (xt (at_+b) s) 0).map Tm.full).sum+((f.args.map (Fm.re (fun b t=>t.re (xt (at_+b) s) 0) (AR f.kind b))).map Fm.full).sum:=by
   rw[Fm.BJ,Fm.Af];rfl
  rw[e3,f.Af,Fm.AY,yy,aM,aK,aK];have h1:∀l:List Tm,(∀x∈l,x∈f.terms)->(l.map (Tm.full∘fun t=>t.re (xt (at_+b) s) 0)).sum<=(l.map Tm.full).sum+ug at_ (l.map fun t=>(t,b))*s.full:=by
   intro l;induction l with
   |nil=>simp
   |cons x l ihl=>
    intro hl;have h2:=Ybw (at_+b) s x hs 0 (yh hf (hl x dZ));have h3:=ihl fun y hy=>hl y ei;simp only[ZJ,ZW,bJ,ug,aM];omega
  have h2:∀l:List Fm,(∀x∈l,x∈f.args)->(l.map (Fm.full∘Fm.re (fun b t=>t.re (xt (at_+b) s) 0) (AR f.kind b))).sum<=(l.map Fm.full).sum+ug at_ (l.flatMap (Fm.AZ (AR f.kind b)))*s.full:=by
   intro l;induction l with
   |nil=>simp
   |cons x l ihl=>
    exact lT
  grind
theorem Ud{at_:Int}{s:Tm}(h:xi f at_ s=0):f.err=0/\s.err=0/\f.near=true/\s.near=true/\(f.size:Int)+ug at_ (f.AZ 0)*(s.size-1)<=4096:=by
 simp only[xi] at h
 grind
theorem Xe{at_:Int}{s:Tm}(h:xi f at_ s=0):(f.put at_ s).full<=1200000000:=by
 obtain⟨h1,h2,_,_,_⟩:=Ud h;have h3:=Zxj at_ s (uc h2).1 f ((Fm.Ad f).1 h1).1 0;have h4:=yw h1;have h5:=yd h2;have h6:=LH at_ (f.AZ 0);have h7:=Nl f 0;have h8:=((Fm.Ad f).1 h1).2;have h9:ug at_ (f.AZ 0)*s.full<=4096*266240:=bh dY h5;show(f.re _ 0).full<=_;omega
theorem QM(g:Int->Int->Tm)(t:Tm):∀b,t.shape=true->(t.re g b).vars b=(t.vars b).flatMap fun p=>(g p.1 p.2).vars p.2:=by
 induction t using Tm.ind with
 |h t ih=>
  intro b hs;by_cases h1:t.kind=1
  .rw[G7 h1,I5 hs h1];simp
  .rw[vm h1,KX h1,KX (t:=Tm.mk _ _ _ _) eS];simp only[Tm.AA,Tm.Ag,List.flatMap_assoc,dA];have:∀l:List Tm,(∀x∈l,x∈t.args)->l.flatMap (fun x=>(x.re g (up t.kind b)).vars (up t.kind b))=l.flatMap fun x=>(x.vars (up t.kind b)).flatMap fun p=>(g p.1 p.2).vars p.2:=by
    intro l;induction l with
    |nil=>simp
    |cons x l ihl=>
     intro h;rw[Z1,Z1,ihl fun y hy=>h y ei,ih x (h x dZ) _ (ze hs x (h x dZ))]
   grind
theorem Tr(k b c:Int):up k (b+c)=up k b+c:=jb
theorem Lp(t:Tm):∀b c:Int,t.vars (b+c)=(t.vars b).map fun p=>(p.1,p.2+c):=by
 induction t using Tm.ind with
 |h t ih=>
  intro b c;rw[t.AU,t.AU,aZ,Tr];congr 1
  .grind
  .rw[List.map_flatMap];have:∀l:List Tm,(∀x∈l,x∈t.args)->l.flatMap (Tm.vars (up t.kind b+c))=l.flatMap fun x=>(x.vars (up t.kind b)).map fun p=>(p.1,p.2+c):=by
    intro l;induction l<;>simp_all
   grind
theorem Dd(g:Int->Int->Tm)(c:Int)(t:Tm):∀b,t.re g (b+c)=t.re (fun i d=>g i (d+c)) b:=by
 induction t using Tm.ind with
 |h t ih=>
  intro b;by_cases h1:t.kind=1
  .rw[G7 h1,G7 h1]
  .rw[vm h1,vm h1,Tr];simp_all
theorem RJ(g:Int->Int->Tm)(c:Int)(t:Tm):t.re g c=t.re (fun i d=>g i (d+c)) 0:=by
 have:=Dd g c t 0
 grind
theorem Xg(j:Int)(g:Int->Int->Tm)(c:Int):(vT j).re g c=g j c:=eC
theorem WZ(j c:Int):(vT j).vars c=[(j,c)]:=eC
theorem NA(fr by_ i b:Int):z8 fr by_ i b=vT (if i-b>=fr then i+by_ else i):=rfl
theorem Pm(at_:Int)(s:Tm)(i b:Int):xt at_ s i b=if i-b=at_ then s.re (z8 0 (at_+b)) 0 else vT (if i-b>at_ then i-1 else i):=rfl
theorem Ykt{g:Int->Int->Tm}(t:Tm):∀b,t.shape=true->(∀p∈t.vars b,g p.1 p.2=vT p.1)->t.re g b=t:=by
 induction t using Tm.ind with
 |h t ih=>
  intro b hs hg;by_cases h1:t.kind=1
  .rw[G7 h1];have h2:=hg (t.index,b) (by rw[I5 hs h1];simp);rw[h2];exact(L0 hs h1).symm
  .rw[vm h1];have h2:t.args.map (Tm.re g (up t.kind b))=t.args:=by
    conv=>rhs;rw[<-List.map_id t.args]
    exact aF fun x hx=>ih x hx _ (ze hs x hx) fun p hp=>hg p (M6 h1 hx hp)
   simp_all
theorem X9(fr by_:Int)(t:Tm)(b:Int)(hs:t.shape=true):(t.re (z8 fr by_) b).vars b=(t.vars b).map fun p=>(if p.1-p.2>=fr then p.1+by_ else p.1,p.2):=by
 rw[QM _ _ _ hs];simp only[NA,WZ];rw[List.map_eq_flatMap]
theorem Fm.Cb{G G':Int->Tm->Tm}(f:Fm):∀b,(∀p∈f.AZ b,G p.2 p.1=G' p.2 p.1)->f.re G b=f.re G' b:=by
 induction f using Fm.ind with
 |h f ih=>
  intro b h;rw[Fm.BJ,Fm.BJ];congr 1
  .exact aF fun x hx=>h (x,b) gu
  .exact aF fun x hx=>ih x hx _ fun p hp=>h p gu
theorem Mh(k b:Int):b<=AR k b/\AR k b<=b+1:=by simp only[AR];omega
theorem RO:∀{b:Int},∀p∈f.AZ b,b<=p.2:=by
 induction f using Fm.ind with
 |h f ih=>
  intro b p hp;rw[Fm.AY,ZU] at hp;rcases hp with hp|hp
  .grind
  .obtain ⟨x,hx,hp⟩:=ZZ.1 hp;have:=ih x hx p hp;have:=Mh f.kind b;omega
theorem Ml{at_:Int}{s:Tm}(ha:0<=at_)(hs:s.shape=true)(hf:f.shape=true):(f.put at_ s).shape=true:=by
 have key:∀(f:Fm) (b:Int),0<=b->f.shape=true->(f.re (fun b t=>t.re (xt (at_+b) s) 0) b).shape=true:=by
  intro f;induction f using Fm.ind with
  |h f ih=>
   intro b hb hf;have h0:=hf;rw[Fm.Ak,ZC,ZC] at h0;obtain⟨⟨h1,h2⟩,h3⟩:=h0;rw[Fm.BJ,Fm.Ak,ZC,ZC];refine⟨⟨?_,?_⟩,?_⟩
   .exact nv
   .rw[Fm.AE,ZH];intro y hy;obtain⟨x,hx,rfl⟩:=ZQ.1 hy;exact N4 0 hs (ZH.1 h2 x hx) dY dY fun p hp=>Jj x 0 p hp
   .rw[Fm.Ag,ZH];intro y hy;obtain⟨x,hx,rfl⟩:=ZQ.1 hy;have:=Mh f.kind b
    grind
 exact key f 0 dY hf
def JD(h:Int)(vs:List (Int×Int))(m m':Ng):Prop:=∀k,k∈m'.map (·.1)↔k∈m.map (·.1)\/(0<=k/\k<h/\∃q∈vs,q.1-q.2=k)
theorem JD.app{h:Int}{m m' m'':Ng}{vs vs':List (Int×Int)}(h1:JD h vs m m')(h2:JD h vs' m' m''):JD h (vs++vs') m m'':=fun k=>by
 rw[h2 k,h1 k];constructor
 .rintro ((h3|⟨h3,h4,q,hq,h5⟩)|⟨h3,h4,q,hq,h5⟩);all_goals grind
 grind
def EK(l:List (Tm×Int)):List (Int×Int):=l.flatMap fun q=>q.1.vars q.2
theorem Pe(l l':List (Tm×Int)):EK (l++l')=EK l++EK l':=by simp[EK]
theorem Zxh(n:Nat):∀(l:List Int),l.Nodup->(∀k∈l,0<=k/\k<n)->l.length<=n/\((∀k:Nat,k<n->(k:Int)∈l)↔l.length=n):=by
 induction n with
 |zero=>
  intro l _ h;cases l with
  |nil=>simp
  |cons x l=>have:=h x dZ;omega
 |succ n ih=>
  intro l hn h;have h1:(l.filter (·≠(n:Int))).Nodup:=hn.filter _;have h2:=ih _ h1 fun k hk=>by
   rw[bI] at hk;have:=h k hk.1;have h3:k≠(n:Int):=by simpa using hk.2
   omega
  have hcount:l.length=(l.filter (·≠(n:Int))).length+(if(n:Int)∈l then 1 else 0):=by
   clear h2 h1 ih h;induction l with
   |nil=>simp
   |cons x l ihl=>
    rw[aR] at hn;have:=ihl hn.2;by_cases hx:x=(n:Int)
    .subst hx;rw[if_neg hn.1] at this;simp at this ⊢;omega
    .have e:((n:Int)∈x::l)↔(n:Int)∈l:=by simp[Ne.symm hx]
     simp only[e,ZO,List.filter_cons,ne_eq,hx,not_false_eq_true,decide_true,if_true];simp only[ne_eq] at this;omega
  by_cases hmem:(n:Int)∈l
  .rw[if_pos hmem] at hcount;refine⟨dY,?_⟩;constructor
   .intro h3;have:=h2.2.1 fun k hk=>bI.2 ⟨h3 k dY,eB⟩;omega
   .intro h3 k hk;by_cases hkn:k=n
    .subst hkn;exact hmem
    .exact (bI.1 (h2.2.2 dY k dY)).1
  .rw[if_neg hmem] at hcount;refine⟨dY,?_⟩;constructor
   .intro h3;exact absurd (h3 n dY) hmem
   .intro h3;omega
theorem YO(G:Int->Tm->Tm)(f:Fm):∀b,(f.re G b).AZ b=(f.AZ b).map fun p=>(G p.2 p.1,p.2):=by
 induction f using Fm.ind with
 |h f ih=>
  intro b;rw[Fm.BJ,Fm.AY,Fm.AY];simp only[Fm.AA,Fm.AE,Fm.Ag,aZ,aK,List.map_flatMap,dA];congr 1;have:∀l:List Fm,(∀x∈l,x∈f.args)->l.flatMap (fun x=>(x.re G (AR f.kind b)).AZ (AR f.kind b))=l.flatMap fun x=>(x.AZ (AR f.kind b)).map fun p=>(G p.2 p.1,p.2):=by
   intro l;induction l<;>simp_all
  grind
theorem Zv5{l:List (Tm×Int)}(h:ug k l=0):∀p∈l,cnt (k+p.2) (p.1.vars 0)=0:=by
 induction l with
 |nil=>simp
 |cons q l ih=>
  simp only[ug] at h
  grind
theorem J5(at_:Int)(s:Tm)(hs:s.shape=true)(f:Fm):f.shape=true->∀b,(f.re (fun b t=>t.re (xt (at_+b) s) 0) b).size=f.size+ug at_ (f.AZ b)*(s.size-1):=by
 induction f using Fm.ind with
 |h f ih=>
  intro hf b;have e3:(f.re (fun b t=>t.re (xt (at_+b) s) 0) b).size=1+((f.terms.map fun t=>t.re (xt (at_+b) s) 0).map Tm.size).sum+((f.args.map (Fm.re (fun b t=>t.re (xt (at_+b) s) 0) (AR f.kind b))).map Fm.size).sum:=by
   rw[Fm.BJ,Fm.size_eq];rfl
  rw[e3,f.size_eq,Fm.AY,yy,aM,aK,aK];have h1:∀l:List Tm,(∀x∈l,x∈f.terms)->(l.map (Tm.size∘fun t=>t.re (xt (at_+b) s) 0)).sum=(l.map Tm.size).sum+ug at_ (l.map fun t=>(t,b))*(s.size-1):=by
   intro l;induction l with
   |nil=>intro _;simp[ug]
   |cons x l ihl=>
    intro hl;have h2:=NX (at_+b) s x hs 0 (yh hf (hl x dZ));have h3:=ihl fun y hy=>hl y ei;simp only[ZJ,ZW,bJ,ug,aM];omega
  have h2:∀l:List Fm,(∀x∈l,x∈f.args)->(l.map (Fm.size∘Fm.re (fun b t=>t.re (xt (at_+b) s) 0) (AR f.kind b))).sum=(l.map Fm.size).sum+ug at_ (l.flatMap (Fm.AZ (AR f.kind b)))*(s.size-1):=by
   intro l;induction l with
   |nil=>intro _;simp[ug]
   |cons x l ihl=>
    exact lT
  grind
theorem Yar{at_:Int}{s:Tm}(ha:0<=at_)(h:xi f at_ s=0):(f.put at_ s).err=0:=by
 obtain⟨h1,h2,_,_,h5⟩:=Ud h;have hf:=(Fm.Ad f).1 h1;have hs:=(uc h2).1;refine(Fm.Ad _).2 ⟨Ml ha hs hf.1,?_⟩;have h6:=J5 at_ s hs f hf.1 0;have hsp:=s.size_pos;show(f.re _ 0).size<=4096
 grind
mutual
def Fm.BF(g:List Ty):Fm->Prop
 | .mk k h ts as=>(∀t∈ts,t.inf g=(Ae,0))/\Fm.Im (if xy k=true then g++[h] else g) as
def Fm.Im(g:List Ty):List Fm->Prop
 |[]=>True
 |f::l=>f.BF g/\Fm.Im g l
end
def Ed(g:List Ty)(f:Fm):List Ty:=if xy f.kind=true then g++[f.ty] else g
theorem Fm.F4(g:List Ty):∀l:List Fm,Fm.Im g l↔∀x∈l,x.BF g
 |[]=>by simp[Fm.Im]
 |f::l=>by simp only[Fm.Im,Fm.F4 g l,Z4,forall_eq_or_imp]
theorem Fm.BD(g:List Ty)(f:Fm):f.BF g↔(∀t∈f.terms,t.inf g=(Ae,0))/\∀x∈f.args,x.BF (Ed g f):=by
 cases f;simp only[Fm.BF,Fm.F4,Ed];rfl
theorem Jk(h:xy f.kind=true):Ed g f=g++[f.ty]:=if_pos h
theorem JF(h:¬xy f.kind=true):Ed g f=g:=if_neg h
theorem Bx:xy k=true↔4<=k/\k<=7:=by simp[xy]
theorem Vp(hg:Am g):(d.KL g).1.BF g:=by
 have m1:=(Dk.De 3 d g Ae hg zi dY dY).inf hg zi;have m2:=(Dk.De 3 (Dk.tm 3 d g Ae).2 g Ae hg zi dY dY).inf hg zi;rw[Fm.BD];refine⟨fun t ht=> ?_,fun x hx=>by cases hx⟩;simp only[Dk.KL,Bv,Fm.AE,Z4,aP,or_false] at ht
 grind
theorem P5{a b:Fm}(hk:k=2\/k=3)(ha:a.BF g)(hb:b.BF g):(CU k a b).BF g:=by
 rw[Fm.BD];have e:Ed g (CU k a b)=g:=JF (by show ¬xy k=true;rw[Bx];omega);rw[e];refine And.intro (fun t ht=>by cases ht) (fun x hx=> ?_);simp only[CU,Fm.Ag,Z4,aP,or_false] at hx
 grind
theorem Kr{s:Ty}{a:Fm}(hk:4<=k/\k<=7)(ha:a.BF (g++[s])):(BK k s a).BF g:=by
 rw[Fm.BD];have e:Ed g (BK k s a)=g++[s]:=Jk (Bx.2 hk);rw[e];refine And.intro (fun t ht=>by cases ht) (fun x hx=> ?_);simp only[BK,Fm.Ag,Z4,aP,or_false] at hx
 grind
theorem Dk.Ix:∀(n:Nat) (d:Dk) (g:List Ty),Am g->(Dk.fm n d g).1.BF g:=by
 intro n;induction n with
 |zero=>exact fun d g hg=>Vp d hg
 |succ n ih=>
  intro d g hg;have h2:=Dk.Bh (((d.next 9).2.type 0).2) 2 dY;have s1:=Dk.type1 (d.next 9).2;have s0:=Dk.type0 (d.next 9).2;have s0':=zx s0.1 s0.2;simp only[Dk.fm];repeat' split
  .exact P5 (.inl rfl) (ih _ _ hg) (ih _ _ hg)
  .exact P5 (.inr rfl) (ih _ _ hg) (ih _ _ hg)
  .exact Kr ⟨dY,dY⟩ (ih _ _ (zo hg (zj s1 zn)))
  .exact Kr ⟨dY,dY⟩ (ih _ _ (zo hg (zj s1 zn)))
  .exact Kr ⟨dY,dY⟩ (ih _ _ (zo hg (zj s0' zn)))
  .exact Vp _ hg
theorem SJ(at_:Int)(s:Tm)(g:List Ty)(σ:Ty)(hs:s.shape=true)(hσ:s.inf g=(σ,0))(f:Fm):∀(h:List Ty) (b:Int),(h.length:Int)=at_+b->f.shape=true->f.BF (g++[σ]++h)->
 (f.re (fun b t=>t.re (xt (at_+b) s) 0) b).BF (g++h):=by
 induction f using Fm.ind with
 |h f ih=>
  intro h b hb hf hok;rw[Fm.BD] at hok;rw[Fm.BJ,Fm.BD];simp only[Fm.AE,Fm.Ag];refine⟨fun y hy=> ?_,fun y hy=> ?_⟩
  .obtain ⟨x,hx,rfl⟩:=ZQ.1 hy;rw[Zz x s g h σ (at_+b) 0 (yh hf hx) hs dY hσ]
   grind
  .obtain ⟨x,hx,rfl⟩:=ZQ.1 hy;have h1:=hok.2 x hx;by_cases hq:xy f.kind=true
   .rw[Jk hq] at h1;rw[show ∀ts as,Ed (g++h) (Fm.mk f.kind f.ty ts as)=g++h++[f.ty] from fun ts as=>Jk (f:=Fm.mk f.kind f.ty ts as) hq];have e:AR f.kind b=b+1:=if_pos hq;rw[e,ZE];rw[ZE] at h1;exact ih x hx (h++[f.ty]) (b+1) ei (zv hf hx) h1
   .rw[JF hq] at h1;rw[show ∀ts as,Ed (g++h) (Fm.mk f.kind f.ty ts as)=g++h from fun ts as=>JF (f:=Fm.mk f.kind f.ty ts as) hq];have e:AR f.kind b=b:=if_neg hq;rw[e];exact ih x hx h b hb (zv hf hx) h1
theorem TG:∀{g:List Ty} {b:Int},f.BF g->f.shape=true->∀q∈f.AZ b,∀v∈q.1.vars 0,v.1<g.length+f.size:=by
 induction f using Fm.ind with
 |h f ih=>
  intro g b hok hf q hq v hv;have e:=f.size_eq;rw[Fm.BD] at hok;rw[Fm.AY,ZU] at hq;rcases hq with hq|hq
  .obtain ⟨t,ht,rfl⟩:=ZQ.1 hq;have h1:=zc Tm.size ht;have h2:=hok.1 t ht;exact MX t g 0 _ (by rw[h2]) (yh hf ht) dY v hv
  .obtain ⟨x,hx,hq⟩:=ZZ.1 hq;have h1:=zc Fm.size hx;have h2:=ih x hx (hok.2 x hx) (zv hf hx) q hq v hv;have h3:(Ed g f).length<=g.length+1:=by simp only[Ed];grind
   omega
theorem Zwo(h:f.BF g)(he:f.err=0)(hg:g.length<=1000):f.near=true/\f.HY=true:=by
 have h1:=(Fm.Ad f).1 he;refine⟨ZH.2 fun q hq=>ZH.2 fun v hv=> ?_,ZH.2 fun q hq=>ZH.2 fun v hv=> ?_⟩
 .have:=TG h h1.1 q hq v hv;grind
 .have:=TG h h1.1 q hq v hv;grind
theorem Sf{f:α->Nat}{l:List α}(h:∀j (hj:j<l.length),f l[j]=0):(l.map f).sum=0:=by
 induction l with
 |nil=>rfl
 |cons x l ih=>
  have h0:=h 0 dZ;have h1:=ih fun j hj=>by have:=h (j+1) ei;grind
  grind
theorem Tu{f:α->Nat}{l:List α}(hm:m<l.length)(h:f l[m]≠0):(l.map f).sum≠0:=by
 have:=zc f (ZA hm);omega
def wm(most:Int)(t:Tm):Bool:=(t.vars 0).all fun p=>decide (p.1<=most)
variable(most:Int)
theorem Zyd(b:Int)(t:Tm):(t.vars b).all (fun p=>decide (p.1<=most))=wm most t:=by
 have h:=Lp t 0 b;rw[cy] at h;rw[h,cz];rfl
theorem QE(f:α->List β)(p:β->Bool)(l:List α):(l.flatMap f).all p=l.all fun x=>(f x).all p:=by
 simp
theorem Zyn{most:Int}(h0:0<=most)(hs:t.shape=true):wm most t=(decide (t.index<=most)&&t.args.all (wm most)):=by
 simp only[wm];by_cases h1:t.kind=1
 .rw[I5 hs h1,Km hs h1];simp
 .rw[KX h1,QE,(Qp hs).2 h1,decide_eq_true h0,aH];congr 1;funext x;exact Zyd most _ x
theorem PX(t:Tm):t.near=wm 536870912 t:=rfl
def Hp(most:Int)(f:Fm):Bool:=(f.AZ 0).all fun p=>wm most p.1
theorem Zwq(f:Fm):Hp most f=(f.terms.all (wm most)&&f.args.all (Hp most)):=by
 have key:∀(f:Fm) (b:Int),(f.AZ b).all (fun p=>wm most p.1)=Hp most f:=by
  intro f;induction f using Fm.ind with
  |h f ih=>
   intro b;have e:∀b,(f.AZ b).all (fun p=>wm most p.1)=(f.terms.all (wm most)&&f.args.all (Hp most)):=fun b=>by
    rw[Fm.AY,Z6,cz,QE]
    grind
   rw[e b,<-e 0];rfl
 have e:Hp most f=(f.AZ 0).all fun p=>wm most p.1:=rfl;rw[e,Fm.AY,Z6,cz,QE]
 grind
theorem Xr(f:Fm):f.near=Hp 536870912 f:=rfl
theorem Yfb(k fr by_:Int)(x:Tm):x.re (z8 (up k fr) by_) 0=x.re (z8 fr by_) (up k 0):=by
 rw[RJ (z8 fr by_) (up k 0) x];refine Cb x 0 fun p _=> ?_;simp only[NA];congr 1;have:up k fr=fr+up k 0:=by have:=Tr k 0 fr;grind
 omega
theorem Zy2{fr:Int}(h:t.kind≠1):t.re (z8 fr by_) 0= .mk t.kind t.index t.ty (t.args.map fun x=>x.re (z8 (up t.kind fr) by_) 0):=by
 rw[vm h];congr 1;exact aF fun x _=>(Yfb _ _ _ x).symm
def xq(at_:Int)(f:Fm):Nat:=ug at_ (f.AZ 0)
theorem Ztk(at_:Int)(f:Fm):∀b c:Int,ug at_ (f.AZ (b+c))=ug (at_+c) (f.AZ b):=by
 induction f using Fm.ind with
 |h f ih=>
  intro b c;rw[Fm.AY,Fm.AY,yy,yy];have e:AR f.kind (b+c)=AR f.kind b+c:=by simp only[AR];grind
  rw[e];congr 1
  .generalize f.terms=l;induction l with
   |nil=>rfl
   |cons x l ihl=>
    simp only[ZJ,ug,ihl]
    grind
  .have:∀l:List Fm,(∀x∈l,x∈f.args)->ug at_ (l.flatMap (Fm.AZ (AR f.kind b+c)))=ug (at_+c) (l.flatMap (Fm.AZ (AR f.kind b))):=by
    intro l;induction l with
    |nil=>intro _;rfl
    |cons x l ihl=>intro h;rw[Z1,Z1,yy,yy,ih x (h x dZ),ihl fun y hy=>h y ei]
   grind
theorem We{at_:Int}(hs:f.shape=true):xq at_ f=(f.terms.map (xd at_)).sum+(f.args.map (xq (AR f.kind at_))).sum:=by
 unfold xq;rw[Fm.AY,yy];congr 1
 .have:∀l:List Tm,(∀x∈l,x.shape=true)->ug at_ (l.map fun t=>(t,(0:Int)))=(l.map (xd at_)).sum:=by
   intro l;induction l with
   |nil=>intro _;rfl
   |cons x l ih=>
    intro h;have h1:=Ta x at_ 0 (h x dZ);simp only[ZJ,ZW,ug]
    grind
  exact this f.terms fun x hx=>yh hs hx
 .have:∀l:List Fm,ug at_ (l.flatMap (Fm.AZ (AR f.kind 0)))=(l.map fun f'=>ug (AR f.kind at_) (f'.AZ 0)).sum:=by
   intro l;induction l with
   |nil=>rfl
   |cons x l ih=>
    rw[Z1,yy,ih,ZJ,ZW];congr 1;have h1:=Ztk at_ x 0 (AR f.kind 0);rw[cy] at h1;rw[h1];congr 1;simp only[AR];grind
  grind
theorem Rw(at_:Int)(f:Fm):xq at_ f<=f.size:=by
 have h1:=LH at_ (f.AZ 0);have h2:=Nl f 0;unfold xq;omega
theorem Yf3(at_:Int)(s:Tm)(b:Int)(f:Fm):f.re (fun b t=>t.re (xt (at_+b) s) 0) b=f.re (fun b t=>t.re (xt at_ s) b) b:=by
 refine Fm.Cb f b fun p _=> ?_;rw[RJ (xt at_ s) p.2];refine Cb p.1 0 fun q _=> ?_;simp only[Pm]
 grind
def w8{α:Type}(f:α->Int):List α->Int
 |[]=>0
 |x::l=>if f x≠0 then f x else w8 f l
theorem L2{α:Type}{f:α->Int}:∀{l:List α} {m:Nat} (hm:m<l.length),(∀j (hj:j<l.length),j<m->f l[j]=0)->f l[m]≠0->w8 f l=f l[m]
 |[],m,hm,_,_=>ei
 |x::l,0,hm,_,h=>by simp only[w8,ZN] at h ⊢;omega
 |x::l,m+1,hm,h0,h=>by
  have h1:=h0 0 dZ dY;simp only[ZN] at h1;simp only[w8,Z0] at h ⊢;rw[if_neg dY];exact L2 ei (fun j hj hjm=>ei) h
theorem vn{α:Type}{f:α->Int}:∀{l:List α},(∀j (hj:j<l.length),j<l.length->f l[j]=0)->w8 f l=0
 |[],_=>rfl
 |x::l,h0=>by
  have h1:=h0 0 dZ dZ;simp only[ZN] at h1;simp only[w8];rw[if_neg dY];exact vn fun j hj hjm=>by have:=h0 (j+1) ei ei;grind
theorem OH{f:α->Int}{l:List α}(h:∀x∈l,f x=0):w8 f l=0:=vn fun j hj _=>h _ (ZA hj)
def tE(g:List Ty)(t:Tm):Int:=if(E5 g t).2≠0 then(E5 g t).2 else if(E5 g t).1.kind≠1 then 7 else 0
mutual
def Fm.Fe(g:List Ty):Fm->Int
 | .mk k h ts as=>if w8 (tE g) ts≠0 then w8 (tE g) ts else Fm.JO (if xy k=true then g++[h] else g) as
def Fm.JO(g:List Ty):List Fm->Int
 |[]=>0
 |f::l=>if f.Fe g≠0 then f.Fe g else Fm.JO g l
end
theorem Fm.GP(g:List Ty):∀l:List Fm,Fm.JO g l=w8 (Fm.Fe g) l
 |[]=>rfl
 |f::l=>by rw[Fm.JO,Fm.GP g l];rfl
theorem Fm.Gk(g:List Ty)(f:Fm):f.Fe g=if w8 (tE g) f.terms≠0 then w8 (tE g) f.terms else w8 (Fm.Fe (Ed g f)) f.args:=by
 cases f;simp only[Fm.Fe,Fm.GP,Ed];rfl
def um(g:List Ty)(f:Fm):Int:=if f.err≠0 then f.err else f.Fe g
def y9(g:List Ty)(f:Fm):Int:=if xz g≠0 then xz g else um g f
theorem Ye9(f:Fm):∀g:List Ty,f.BF g->f.shape=true->f.size<=4096->f.Fe g=0:=by
 induction f using Fm.ind with
 |h f ih=>
  intro g hok hs hz;have e:=f.size_eq;rw[Fm.BD] at hok;rw[Fm.Gk];have h1:w8 (tE g) f.terms=0:=OH fun t ht=>by
   have h2:=zc Tm.size ht;have h3:t.err=0:=(Tm.Ad t).2 ⟨yh hs ht,dY⟩;have h4:E5 g t=(Ae,0):=by simp only[E5];grind
   simp only[tE,h4];rfl
  rw[if_neg dY];exact OH fun x hx=>ih x hx _ (hok.2 x hx) (zv hs hx) (by have:=zc Fm.size hx;omega)
theorem Vx(h:f.BF g)(he:f.err=0)(hg:xz g=0):y9 g f=0:=by
 have h1:=(Fm.Ad f).1 he;simp only[y9,um];rw[if_neg dY,if_neg dY];exact Ye9 f g h h1.1 h1.2
mutual
def Ty.cn(most:Int):Ty->Int
 | .mk _ as=>Ty.AD most 1 as
def Ty.AD(most n:Int):List Ty->Int
 |[]=>n
 |x::l=>if n<=most then Ty.AD most (n+x.cn (most-n)) l else n
end
mutual
def Tm.cn(most:Int):Tm->Int
 | .mk _ _ h as=>Tm.AD most (1+h.cn (most-1)) as
def Tm.AD(most n:Int):List Tm->Int
 |[]=>n
 |x::l=>if n<=most then Tm.AD most (n+x.cn (most-n)) l else n
end
mutual
def Fm.cn(most:Int):Fm->Int
 | .mk _ h ts as=>Fm.AD most (Tm.AD most (1+h.cn (most-1)) ts) as
def Fm.AD(most n:Int):List Fm->Int
 |[]=>n
 |x::l=>if n<=most then Fm.AD most (n+x.cn (most-n)) l else n
end
theorem Ty.Dc(t:Ty):t.cn most=Ty.AD most 1 t.args:=gA
theorem Tm.Dc(t:Tm):t.cn most=Tm.AD most (1+t.ty.cn (most-1)) t.args:=gA
theorem Fm.Dc(t:Fm):t.cn most=Fm.AD most (Tm.AD most (1+t.ty.cn (most-1)) t.terms) t.args:=gA
theorem Ty.BL(most:Int):∀(l l':List Ty) (n:Int),Ty.AD most n (l++l')=Ty.AD most (Ty.AD most n l) l'
 |[],l',n=>eC
 |x::l,l',n=>by
  simp only[aE,Ty.AD];by_cases h:n<=most
  .rw[if_pos h,if_pos h];exact Ty.BL most l l' _
  .rw[if_neg h,if_neg h];cases l' with
   |nil=>rfl
   |cons y l'=>simp only[Ty.AD];omega
theorem Tm.BL(most:Int):∀(l l':List Tm) (n:Int),Tm.AD most n (l++l')=Tm.AD most (Tm.AD most n l) l'
 |[],l',n=>eC
 |x::l,l',n=>by
  simp only[aE,Tm.AD];by_cases h:n<=most
  .rw[if_pos h,if_pos h];exact Tm.BL most l l' _
  .rw[if_neg h,if_neg h];cases l' with
   |nil=>rfl
   |cons y l'=>simp only[Tm.AD];omega
theorem Fm.BL(most:Int):∀(l l':List Fm) (n:Int),Fm.AD most n (l++l')=Fm.AD most (Fm.AD most n l) l'
 |[],l',n=>eC
 |x::l,l',n=>by
  simp only[aE,Fm.AD];by_cases h:n<=most
  .rw[if_pos h,if_pos h];exact Fm.BL most l l' _
  .rw[if_neg h,if_neg h];cases l' with
   |nil=>rfl
   |cons y l'=>simp only[Fm.AD];omega
variable{most n:Int}
theorem Ty.Ci(h:¬n<=most):∀l:List Ty,Ty.AD most n l=n
 |[]=>eC
 |x::l=>by simp only[Ty.AD];omega
theorem Tm.Ci(h:¬n<=most):∀l:List Tm,Tm.AD most n l=n
 |[]=>eC
 |x::l=>by simp only[Tm.AD];omega
theorem Fm.Ci(h:¬n<=most):∀l:List Fm,Fm.AD most n l=n
 |[]=>eC
 |x::l=>by simp only[Fm.AD];omega
theorem Ty.B5(hm:m<l.length)(h:Ty.AD most n (l.take m)<=most):Ty.AD most n (l.take (m+1))=Ty.AD most n (l.take m)+l[m].cn (most-Ty.AD most n (l.take m)):=by
 rw[<-ZM hm,Ty.BL];simp only[Ty.AD];omega
theorem Tm.B5{l:List Tm}(hm:m<l.length)(h:Tm.AD most n (l.take m)<=most):Tm.AD most n (l.take (m+1))=Tm.AD most n (l.take m)+l[m].cn (most-Tm.AD most n (l.take m)):=by
 rw[<-ZM hm,Tm.BL];simp only[Tm.AD];omega
theorem Fm.B5{l:List Fm}(hm:m<l.length)(h:Fm.AD most n (l.take m)<=most):Fm.AD most n (l.take (m+1))=Fm.AD most n (l.take m)+l[m].cn (most-Fm.AD most n (l.take m)):=by
 rw[<-ZM hm,Fm.BL];simp only[Fm.AD];omega
theorem Ty.Cj(h:¬Ty.AD most n (l.take m)<=most):Ty.AD most n l=Ty.AD most n (l.take m):=by
 conv=>lhs;rw[<-bw m l,Ty.BL,Ty.Ci h]
theorem Tm.Cj{l:List Tm}(h:¬Tm.AD most n (l.take m)<=most):Tm.AD most n l=Tm.AD most n (l.take m):=by
 conv=>lhs;rw[<-bw m l,Tm.BL,Tm.Ci h]
theorem Fm.Cj{l:List Fm}(h:¬Fm.AD most n (l.take m)<=most):Fm.AD most n l=Fm.AD most n (l.take m):=by
 conv=>lhs;rw[<-bw m l,Fm.BL,Fm.Ci h]
theorem Ty.BX(t:Ty):∀most:Int,1<=t.cn most/\(t.cn most<=1\/t.cn most<=most+1)/\(t.cn most<=most->t.cn most=t.size):=by
 induction t using Ty.ind with
 |h t ih=>
  intro most;rw[Ty.Dc,Ty.size_eq];have key:∀(l:List Ty) (n:Int),(∀x∈l,x∈t.args)->n<=Ty.AD most n l/\(Ty.AD most n l<=n\/Ty.AD most n l<=most+1)/\(Ty.AD most n l<=most->Ty.AD most n l=n+(l.map Ty.size).sum):=by
   intro l;induction l with
   |nil=>intro n _;simp only[Ty.AD];simp
   |cons x l ihl=>
    intro n hx;simp only[Ty.AD]
    grind
  grind
theorem Tm.BX(t:Tm):∀most:Int,1<=t.cn most/\(t.cn most<=2\/t.cn most<=most+2)/\(t.cn most<=most->t.cn most=t.full):=by
 induction t using Tm.ind with
 |h t ih=>
  intro most;rw[Tm.Dc,Tm.Af];have key:∀(l:List Tm) (n:Int),(∀x∈l,x∈t.args)->n<=Tm.AD most n l/\(Tm.AD most n l<=n\/Tm.AD most n l<=most+2)/\(Tm.AD most n l<=most->Tm.AD most n l=n+(l.map Tm.full).sum):=by
   intro l;induction l with
   |nil=>intro n _;simp only[Tm.AD];simp
   |cons x l ihl=>
    intro n hx;simp only[Tm.AD]
    grind
  obtain⟨c1,c2,c3⟩:=t.ty.BX (most-1)
  grind
theorem Tm.EF(most:Int):∀(l:List Tm) (n:Int),n<=Tm.AD most n l/\(Tm.AD most n l<=n\/Tm.AD most n l<=most+2)/\(Tm.AD most n l<=most->Tm.AD most n l=n+(l.map Tm.full).sum)
 |[],n=>by simp only[Tm.AD];simp
 |x::l,n=>by
  simp only[Tm.AD];by_cases h:n<=most
  .rw[if_pos h];obtain⟨a1,a2,a3⟩:=x.BX (most-n);obtain⟨b1,b2,b3⟩:=Tm.EF most l (n+x.cn (most-n))
   grind
  omega
theorem Fm.BX(t:Fm):∀most:Int,1<=t.cn most/\(t.cn most<=2\/t.cn most<=most+2)/\(t.cn most<=most->t.cn most=t.full):=by
 induction t using Fm.ind with
 |h t ih=>
  intro most;rw[Fm.Dc,Fm.Af];have key:∀(l:List Fm) (n:Int),(∀x∈l,x∈t.args)->n<=Fm.AD most n l/\(Fm.AD most n l<=n\/Fm.AD most n l<=most+2)/\(Fm.AD most n l<=most->Fm.AD most n l=n+(l.map Fm.full).sum):=by
   intro l;induction l with
   |nil=>intro n _;simp only[Fm.AD];simp
   |cons x l ihl=>
    intro n hx;simp only[Fm.AD]
    grind
  obtain⟨c1,c2,c3⟩:=t.ty.BX (most-1);obtain⟨d1,d2,d3⟩:=Tm.EF most t.terms (1+t.ty.cn (most-1))
  grind
def uo(t:Tm):Bool:=
 if t.kind=3 then(t.arg 0).kind==2
 else if t.kind=6 then(t.arg 2).kind==4||(t.arg 2).kind==5
 else if t.kind=9 then(t.arg 2).kind==7||(t.arg 2).kind==8
 else if t.kind=11\/t.kind=12 then(t.arg 0).kind==10 else false
def LI(t:Tm):Tm:=
 if t.kind=3 then((t.arg 0).arg 0).re (xt 0 (t.arg 1)) 0
 else if t.kind=6 then
  if(t.arg 2).kind=4 then t.arg 0 else Bd (Bd (t.arg 1) ((t.arg 2).arg 0)) (.mk 6 0 t.ty [t.arg 0,t.arg 1,(t.arg 2).arg 0])
 else if t.kind=9 then
  if(t.arg 2).kind=7 then t.arg 0 else Bd (Bd (Bd (t.arg 1) ((t.arg 2).arg 0)) ((t.arg 2).arg 1)) (.mk 9 0 t.ty [t.arg 0,t.arg 1,(t.arg 2).arg 1])
 else if t.kind=11 then(t.arg 0).arg 0 else(t.arg 0).arg 1
def GY(t:Tm):Int:=(LI t).size-t.size
inductive RV:Tm->Tm->Prop
 |beta (i th j s b a):RV (.mk 3 i th [.mk 2 j s [b],a]) (b.re (xt 0 a) 0)
 |rz (i th x f j s):RV (.mk 6 i th [x,f,.mk 4 j s []]) x
 |rs (i th x f j s n):RV (.mk 6 i th [x,f,.mk 5 j s [n]]) (Bd (Bd f n) (.mk 6 0 th [x,f,n]))
 |fz (i th x f j s):RV (.mk 9 i th [x,f,.mk 7 j s []]) x
 |fs (i th x f j s h l):RV (.mk 9 i th [x,f,.mk 8 j s [h,l]]) (Bd (Bd (Bd f h) l) (.mk 9 0 th [x,f,l]))
 |p1 (i th j s x y):RV (.mk 11 i th [.mk 10 j s [x,y]]) x
 |p2 (i th j s x y):RV (.mk 12 i th [.mk 10 j s [x,y]]) y
theorem Zb(hs:t.shape=true)(hk:t.kind=k)(ha:DL k=some 0):∃i th,t= .mk k i th []:=by
 obtain⟨k',i,th,xs⟩:=t;rw[Tm.Ak,ZC] at hs;have h:=hs.1;simp only[Tm.head,ZC,Tm.AA,Tm.Ag] at h hk
 grind
theorem Mq(hs:t.shape=true)(h:uo t=true):RV t (LI t):=by
 unfold uo at h;by_cases h3:t.kind=3
 .rw[if_pos h3] at h;obtain⟨i,th,f,a,rfl,hf,ha⟩:=NY hs h3 rfl;simp only[Tm.arg,Tm.Ag,bK,beq_iff_eq] at h;obtain⟨j,s,b,rfl,hb⟩:=KA hf h rfl;exact .beta i th j s b a
 rw[if_neg h3] at h;by_cases h6:t.kind=6
 .rw[if_pos h6] at h;obtain⟨i,th,x,f,z,rfl,hx,hf,hz⟩:=OR hs h6 rfl;simp only[Tm.arg,Tm.Ag,bK,cX,aV,beq_iff_eq] at h;rcases h with h|h
  .obtain ⟨j,s,rfl⟩:=Zb hz h rfl;exact .rz i th x f j s
  .obtain ⟨j,s,n,rfl,hn⟩:=KA hz h rfl;exact .rs i th x f j s n
 rw[if_neg h6] at h;by_cases h9:t.kind=9
 .rw[if_pos h9] at h;obtain⟨i,th,x,f,z,rfl,hx,hf,hz⟩:=OR hs h9 rfl;simp only[Tm.arg,Tm.Ag,bK,cX,aV,beq_iff_eq] at h;rcases h with h|h
  .obtain ⟨j,s,rfl⟩:=Zb hz h rfl;exact .fz i th x f j s
  .obtain ⟨j,s,n,l,rfl,hn,hl⟩:=NY hz h rfl;exact .fs i th x f j s n l
 rw[if_neg h9] at h;by_cases h11:t.kind=11
 .rw[if_pos (.inl h11)] at h;obtain⟨i,th,p,rfl,hp⟩:=KA hs h11 rfl;simp only[Tm.arg,Tm.Ag,bK,beq_iff_eq] at h;obtain⟨j,s,x,y,rfl,hx,hy⟩:=NY hp h rfl;exact .p1 i th j s x y
 by_cases h12:t.kind=12
 .rw[if_pos (.inr h12)] at h;obtain⟨i,th,p,rfl,hp⟩:=KA hs h12 rfl;simp only[Tm.arg,Tm.Ag,bK,beq_iff_eq] at h;obtain⟨j,s,x,y,rfl,hx,hy⟩:=NY hp h rfl;exact .p2 i th j s x y
 grind
theorem ME{f x:Tm}(hf:f.shape=true)(hx:x.shape=true):(Bd f x).shape=true:=by
 simp[Bd,Tm.shape,Tm.Bl,Tm.head,DL,wl,Ty.B3,hf,hx]
theorem Zyo(hs:t.shape=true)(h:uo t=true):(LI t).shape=true:=by
 have hv:=Mq hs h;have hargs:=ze hs;generalize LI t=u at hv;cases hv with
 |beta i th j s b a=>
  have h1:=ze (hargs (.mk 2 j s [b]) dZ) b dZ;exact N4 0 (hargs a dZ) h1 (Int.le_refl _) (Int.le_refl _) fun p hp=>Jj b 0 p hp
 |rz=>simp_all
 |fz=>simp_all
 |rs i th x f j s n=>
  have h1:=ze (hargs (.mk 5 j s [n]) dZ) n dZ;have hx:=hargs x dZ;have hf:=hargs f dZ;have hh:th.ok=true:=jr
  refine ME (ME hf h1) ?_;simp[Tm.shape,Tm.Bl,Tm.head,DL,wl,hf,hx,h1,hh]
 |fs i th x f j s n l=>
  have h1:=ze (hargs (.mk 8 j s [n,l]) dZ) n dZ;have h2:=ze (hargs (.mk 8 j s [n,l]) dZ) l dZ;have hx:=hargs x dZ;have hf:=hargs f dZ;have hh:th.ok=true:=jr
  refine ME (ME (ME hf h1) h2) ?_;simp[Tm.shape,Tm.Bl,Tm.head,DL,wl,hf,hx,h2,hh]
 |p1 i th j s _ y=>exact ze (hargs (.mk 10 j s [u,y]) dZ) u dZ
 |p2 i th j s x _=>exact ze (hargs (.mk 10 j s [x,u]) dZ) u dZ
theorem Ycv{C:Int}(hC:0<=C)(hs:t.shape=true)(h:RV t u)(hf:∀p∈t.vars 0,p.1-p.2<=C):∀p∈u.vars 0,p.1-p.2<=C:=by
 have hargs:=ze hs;cases h with
 |beta i th j s b a=>
  have hb:=ze (hargs (.mk 2 j s [b]) dZ) b dZ;have ha:=hargs a dZ;intro p hp;rw[QM _ _ _ hb,ZZ] at hp;obtain⟨q,hq,hp⟩:=hp;have hq2:=Jj b 0 q hq;have hfb:q.1-(q.2+1)<=C:=by
   refine hf (q.1,q.2+1) ?_;have e:b.vars 1=(b.vars 0).map fun p=>(p.1,p.2+1):=by have:=Lp b 0 1;grind
   have hm:(q.1,q.2+1)∈b.vars 1:=ei
   simp[Tm.vars,Tm.CJ,up]
   grind
  rw[Pm] at hp;by_cases h0:q.1-q.2=0
  .rw[if_pos h0] at hp;have e:(a.re (z8 0 (0+q.2)) 0).vars q.2=((a.re (z8 0 q.2) 0).vars 0).map fun p=>(p.1,p.2+q.2):=by have:=Lp (a.re (z8 0 (0+q.2)) 0) 0 q.2;grind
   rw[e,X9 _ _ _ _ ha,aK,ZQ] at hp;obtain⟨r,hr,rfl⟩:=hp;have hfa:=hf r (by
    simp only[Tm.vars,Tm.CJ,up,ZU]
    grind)
   grind
  .rw[if_neg h0,WZ] at hp
   grind
 |rz i th x f j s=>intro p hp;refine hf p ?_;simp[Tm.vars,Tm.CJ,up,hp]
 |fz i th x f j s=>intro p hp;refine hf p ?_;simp[Tm.vars,Tm.CJ,up,hp]
 |rs i th x f j s n=>
  exact nq
 |fs i th x f j s n l=>
  exact nq
 |p1 i th j s x y=>intro p hp;refine hf p ?_;simp[Tm.vars,Tm.CJ,up,hp]
 |p2 i th j s x y=>intro p hp;refine hf p ?_;simp[Tm.vars,Tm.CJ,up,hp]
mutual
def DX(room:Int):Tm->Option (Tm×Bool)
 | .mk k i h xs=>if uo (.mk k i h xs)=true then some (if GY (.mk k i h xs)>room then(Da,false) else(LI (.mk k i h xs),true)) else(Hg room xs).map fun p=>(.mk k i h p.1,p.2)
def Hg(room:Int):List Tm->Option (List Tm×Bool)
 |[]=>none
 |x::l=>match DX room x with
  |some p=>some (p.1::l,p.2)
  |none=>(Hg room l).map fun q=>(x::q.1,q.2)
end
theorem HO(room:Int)(t:Tm):DX room t=if uo t=true then some (if GY t>room then(Da,false) else(LI t,true)) else(Hg room t.args).map fun p=>(.mk t.kind t.index t.ty p.1,p.2):=by
 cases t;rfl
theorem WK(room:Int):∀(xs:List Tm) (i:Nat) (hi:i<xs.length) (u:Tm×Bool),DX room xs[i]=some u->(∀(j:Nat) (hj:j<xs.length),j<i->DX room xs[j]=none)->Hg room xs=some (xs.set i u.1,u.2)
 |[],i,hi,u,h,hn=>ei
 |x::l,0,hi,u,h,hn=>by
  simp only[ZN] at h;simp only[Hg,h];rfl
 |x::l,i+1,hi,u,h,hn=>by
  have h0:=hn 0 dZ dY;simp only[ZN] at h0;have:=WK room l i ei u ei fun j hj hji=>ei
  simp only[Hg,h0,this,ak];rfl
theorem WB(room:Int):∀(xs:List Tm),(∀(j:Nat) (hj:j<xs.length),j<xs.length->DX room xs[j]=none)->Hg room xs=none
 |[],_=>rfl
 |x::l,h=>by
  have h0:=h 0 dZ dZ;simp only[ZN] at h0;have:=WB room l fun j hj _=>by have:=h (j+1) ei ei;grind
  simp only[Hg,h0,this];rfl
theorem Ph(room:Int):∀(xs:List Tm) (q:List Tm×Bool),Hg room xs=some q->∃(i:Nat) (hi:i<xs.length) (u:Tm),DX room xs[i]=some (u,q.2)/\q.1=xs.set i u
 |[],q,h=>by simp[Hg] at h
 |x::l,q,h=>by
  simp only[Hg] at h;cases hx:DX room x with
  |some u=>rw[hx] at h;cases h;exact⟨0,dZ,u.1,ei,rfl⟩
  |none=>
   rw[hx] at h;simp only[ZG] at h;obtain⟨r,h1,rfl⟩:=h;obtain⟨i,hi,u,h2,h3⟩:=Ph room l r h1;exact⟨i+1,ei,u,ei,ei⟩
theorem Ya(room:Int)(t:Tm):∀u,t.shape=true->DX room t=some (u,true)->u.shape=true/\(u.size:Int)<=t.size+room/\∀C:Int,0<=C->∀b:Int,0<=b->(∀p∈t.vars b,p.1-p.2<=C)->∀p∈u.vars b,p.1-p.2<=C:=by
 induction t using Tm.ind with
 |h t ih=>
  intro u hs h;rw[HO] at h;by_cases hr:uo t=true
  .rw[if_pos hr] at h;by_cases hg:GY t>room
   .grind
   .rw[if_neg hg] at h;simp at h;subst h;refine⟨Zyo hs hr,by simp only[GY] at hg;omega,fun C hC b hb hf=> ?_⟩;have e:∀x:Tm,x.vars b=(x.vars 0).map fun p=>(p.1,p.2+b):=fun x=>by have:=Lp x 0 b;grind
    rw[e] at hf ⊢;have:=Ycv (C:=C+b) dY hs (Mq hs hr) fun p hp=>by have:=hf _ (ZQ.2 ⟨p,hp,rfl⟩);omega
    grind
  .rw[if_neg hr] at h;simp only[ZG] at h;obtain⟨q,h1,h2⟩:=h;obtain⟨i,hi,v,h3,h4⟩:=Ph room _ _ h1;have h5:q.2=true:=ei
   have h6:u= .mk t.kind t.index t.ty (t.args.set i v):=ei
   subst h6;rw[h5] at h3;have hm:=ZA hi;obtain⟨i1,i2,i3⟩:=ih _ hm v (ze hs _ hm) h3;refine⟨?_,?_,?_⟩
   .have:(Tm.mk t.kind t.index t.ty t.args).shape=true:=eS
    exact Zvv this i1
   .have:=Wm Tm.size v t.args i hi;rw[Tm.size_eq,Tm.size_eq t];simp only[Tm.Ag];omega
   .intro C hC b hb hf p hp;rw[Tm.AU] at hp hf;simp only[Tm.AA,Tm.Bo,Tm.Ag,ZU] at hp hf;rcases hp with hp|hp
    .grind
    .obtain ⟨y,hy,hp⟩:=ZZ.1 hp;have hup:0<=up t.kind b:=jb
     rcases de hy with hy|hyv
     .grind
     .rw[hyv] at hp;exact i3 C hC _ hup (fun p hp=>hf p (.inr (ZZ.2 ⟨_,hm,hp⟩))) p hp
mutual
inductive Dp:Tm->Tm->Prop
 |node {k i h xs ys} (hp:Gg xs ys):Dp (.mk k i h xs) (.mk k i h ys)
 |beta {i th j s b b' a a'} (hb:Dp b b') (ha:Dp a a'):Dp (.mk 3 i th [.mk 2 j s [b],a]) (b'.re (xt 0 a') 0)
 |rz {i th x x' f j s} (hx:Dp x x'):Dp (.mk 6 i th [x,f,.mk 4 j s []]) x'
 |rs {i th x x' f f' j s n n'} (hx:Dp x x') (hf:Dp f f') (hn:Dp n n'):Dp (.mk 6 i th [x,f,.mk 5 j s [n]]) (Bd (Bd f' n') (.mk 6 0 th [x',f',n']))
 |fz {i th x x' f j s} (hx:Dp x x'):Dp (.mk 9 i th [x,f,.mk 7 j s []]) x'
 |fs {i th x x' f f' j s n n' l l'} (hx:Dp x x') (hf:Dp f f') (hn:Dp n n') (hl:Dp l l'):Dp (.mk 9 i th [x,f,.mk 8 j s [n,l]]) (Bd (Bd (Bd f' n') l') (.mk 9 0 th [x',f',l']))
 |p1 {i th j s x x' y} (hx:Dp x x'):Dp (.mk 11 i th [.mk 10 j s [x,y]]) x'
 |p2 {i th j s x y y'} (hy:Dp y y'):Dp (.mk 12 i th [.mk 10 j s [x,y]]) y'
inductive Gg:List Tm->List Tm->Prop
 |nil:Gg [] []
 |cons {x y xs ys} (h:Dp x y) (hs:Gg xs ys):Gg (x::xs) (y::ys)
end
theorem RT:∀(xs:List Tm),(∀x∈xs,Dp x x)->Gg xs xs
 |[],_=> .nil
 |x::l,h=> .cons (h x dZ) (RT l fun y hy=>h y ei)
theorem Dp.refl(t:Tm):Dp t t:=by
 induction t using Tm.ind with
 |h t ih=>obtain⟨k,i,h,xs⟩:=t;exact .node (RT xs ih)
theorem YE:∀(xs:List Tm) (i:Nat) (hi:i<xs.length) (u:Tm),Dp xs[i] u->Gg xs (xs.set i u)
 |x::l,0,_,u,h=> .cons h (RT l fun y _=>Dp.refl y)
 |x::l,i+1,hi,u,h=> .cons (Dp.refl x) (YE l i ei u ei)
theorem Yjh(h:RV t u):Dp t u:=by
 cases h with
 |beta=>exact .beta (.refl _) (.refl _)
 |rz=>exact .rz (.refl _)
 |rs=>exact .rs (.refl _) (.refl _) (.refl _)
 |fz=>exact .fz (.refl _)
 |fs=>exact .fs (.refl _) (.refl _) (.refl _) (.refl _)
 |p1=>exact .p1 (.refl _)
 |p2=>exact .p2 (.refl _)
theorem Yi4(room:Int)(t:Tm):∀u,t.shape=true->DX room t=some (u,true)->Dp t u:=by
 induction t using Tm.ind with
 |h t ih=>
  intro u hs h;rw[HO] at h;by_cases hr:uo t=true
  .rw[if_pos hr] at h;by_cases hg:GY t>room
   .grind
   .rw[if_neg hg] at h;simp at h;subst h;exact Yjh (Mq hs hr)
  .rw[if_neg hr] at h;simp only[ZG] at h;obtain⟨q,h1,h2⟩:=h;obtain⟨i,hi,v,h3,h4⟩:=Ph room _ _ h1;have h5:q.2=true:=ei
   have h6:u= .mk t.kind t.index t.ty (t.args.set i v):=ei
   subst h6;rw[h5] at h3;have hm:=ZA hi;have:=ih _ hm v (ze hs _ hm) h3;obtain⟨k,j,th,xs⟩:=t;exact .node (YE xs i hi v this)
inductive HH:Tm->Tm->Prop
 |refl (t:Tm):HH t t
 |step {t s u:Tm} (h:Dp t s) (hs:HH s u):HH t u
theorem HH.trans{s:Tm}(h:HH t s):HH s u->HH t u:=by
 induction h with
 |refl=>simp
 |step h1 _ ih=>exact fun h=> .step h1 (ih h)
theorem HH.one(h:Dp t u):HH t u:= .step h (.refl _)
def nf(t:Tm):Prop:=∀u,Dp t u->u=t
mutual
theorem QC{room:Int}:∀{t u:Tm},Dp t u->DX room t=none->u=t
 |_,_,.node (k:=k) (i:=i) (h:=h) (xs:=xs) (ys:=ys) hp,hn=>by
  rw[HO] at hn;by_cases hr:uo (.mk k i h xs)=true
  .grind
  .rw[if_neg hr] at hn;simp only[dL,Tm.Ag] at hn;rw[WX hp hn]
 |_,_,.beta ..,hn=>fS
 |_,_,.rz ..,hn=>fS
 |_,_,.rs ..,hn=>fS
 |_,_,.fz ..,hn=>fS
 |_,_,.fs ..,hn=>fS
 |_,_,.p1 ..,hn=>fS
 |_,_,.p2 ..,hn=>fS
theorem WX{room:Int}:∀{xs ys:List Tm},Gg xs ys->Hg room xs=none->ys=xs
 |_,_,.nil,_=>rfl
 |_,_,.cons (x:=x) (xs:=xs) h hs,hn=>by
  simp only[Hg] at hn;cases hx:DX room x with
  |some p=>grind
  |none=>
   rw[hx] at hn;simp only[dL] at hn;rw[QC h hx,WX hs hn]
end
def EY:Nat->Tm->Nat->Tm×Int×Int
 |0,t,n=>match DX (4096-t.size) t with
  |none=>(t,n,0)
  |some _=>(Da,0,5)
 |k+1,t,n=>match DX (4096-t.size) t with
  |none=>(t,n,0)
  |some (x,true)=>EY k x (n+1)
  |some (_,false)=>(Da,0,4)
def wa(t:Tm)(steps:Int):Tm×Int×Int:=
 if t.err≠0 then(Da,0,t.err) else if ¬(0<=steps/\steps<=65536)\/t.near=false then(Da,0,1) else EY steps.toNat t 0
def IQ(a b:Tm)(steps:Int):Int:=
 if a.err≠0 then a.err else if b.err≠0 then b.err else if a=b then 0
 else if(wa a steps).2.2≠0 then(wa a steps).2.2 else if(wa b steps).2.2≠0 then(wa b steps).2.2
 else if(wa a steps).1=(wa b steps).1 then 0 else 11
theorem TJ(he:t.err=0)(h:DX (4096-t.size) t=some (u,true)):u.err=0:=by
 obtain⟨h1,h2⟩:=uc he;obtain⟨h3,h4,_⟩:=Ya _ t u h1 h;exact(Tm.Ad _).2 ⟨h3,dY⟩
theorem R9:∀(k:Nat) (t:Tm) (n:Nat),t.err=0->(EY k t n).2.2=0->HH t (EY k t n).1/\nf (EY k t n).1/\(EY k t n).1.err=0
 |0,t,n,he,h=>by
  simp only[EY] at h ⊢;cases hx:DX (4096-t.size) t with
  |none=>rw[hx] at h;exact⟨.refl _,fun u hu=>QC hu hx,he⟩
  |some p=>grind
 |k+1,t,n,he,h=>by
  simp only[EY] at h ⊢;cases hx:DX (4096-t.size) t with
  |none=>rw[hx] at h;exact⟨.refl _,fun u hu=>QC hu hx,he⟩
  |some p=>
   obtain⟨x,f⟩:=p;rw[hx] at h;cases f with
   |false=>cases h
   |true=>
    obtain⟨i1,i2,i3⟩:=R9 k x (n+1) (TJ he hx) h;exact⟨.step (Yi4 _ t x (uc he).1 hx) i1,i2,i3⟩
theorem WT(t:Tm)(steps:Int)(h:(wa t steps).2.2=0):(wa t steps).1.full<274877906944:=by
 unfold wa at h ⊢;by_cases he:t.err=0
 .rw[if_neg dY] at h ⊢;by_cases hc:¬(0<=steps/\steps<=65536)\/t.near=false
  .grind
  .rw[if_neg hc] at h ⊢;obtain⟨_,_,h3⟩:=R9 _ _ _ he h;have:=yd h3;omega
 grind
def IX:List Tm->List Tm->Int
 |x::l,y::m=>if IQ x y 1000≠0 then IQ x y 1000 else IX l m
 |_,_=>0
mutual
def Ic:Fm->Fm->Int
 | .mk k ty ts xs,.mk k' ty' ts' xs'=>if k=k'/\ty=ty' then(if IX ts ts'≠0 then IX ts ts' else Ka xs xs') else 11
def Ka:List Fm->List Fm->Int
 |x::l,y::m=>if Ic x y≠0 then Ic x y else Ka l m
 |_,_=>0
end
theorem Yjq(f g:Fm):Ic f g=if f.kind=g.kind/\f.ty=g.ty then(if IX f.terms g.terms≠0 then IX f.terms g.terms else Ka f.args g.args) else 11:=by
 cases f;cases g;rfl
theorem U6:∀(l m:List Tm) (i:Nat) (hi:i<l.length) (hj:i<m.length),(∀j (h1:j<l.length) (h2:j<m.length),j<i->IQ l[j] m[j] 1000=0)->IQ l[i] m[i] 1000≠0->IX l m=IQ l[i] m[i] 1000
 |x::l,y::m,0,_,_,_,h=>by simp only[ZN] at h ⊢;simp only[IX];omega
 |x::l,y::m,i+1,hi,hj,hn,h=>by
  have h0:=hn 0 dZ dZ dY;simp only[IX];rw[if_neg ei];exact U6 l m i ei ei (fun j h1 h2 hji=>ei) ei
theorem VM:∀(l m:List Tm),(∀j (h1:j<l.length) (h2:j<m.length),IQ l[j] m[j] 1000=0)->IX l m=0
 |[],_,_=>eC
 |_::_,[],_=>eC
 |x::l,y::m,hn=>by
  have h0:=hn 0 dZ dZ;simp only[IX];rw[if_neg ei];exact VM l m fun j h1 h2=>by have:=hn (j+1) ei ei;grind
theorem Vm:∀(l m:List Fm) (i:Nat) (hi:i<l.length) (hj:i<m.length),(∀j (h1:j<l.length) (h2:j<m.length),j<i->Ic l[j] m[j]=0)->Ic l[i] m[i]≠0->Ka l m=Ic l[i] m[i]
 |x::l,y::m,0,_,_,_,h=>by simp only[ZN] at h ⊢;simp only[Ka];omega
 |x::l,y::m,i+1,hi,hj,hn,h=>by
  have h0:=hn 0 dZ dZ dY;simp only[Ka];rw[if_neg ei];exact Vm l m i ei ei (fun j h1 h2 hji=>ei) ei
theorem XH:∀(l m:List Fm),(∀j (h1:j<l.length) (h2:j<m.length),Ic l[j] m[j]=0)->Ka l m=0
 |[],_,_=>eC
 |_::_,[],_=>eC
 |x::l,y::m,hn=>by
  have h0:=hn 0 dZ dZ;simp only[Ka];rw[if_neg ei];exact XH l m fun j h1 h2=>by have:=hn (j+1) ei ei;grind
def P9(f g:Fm):Int:=if f.err≠0 then f.err else if g.err≠0 then g.err else Ic f g
variable(k:Int)
@[simp] theorem Pf.AA(i:Int)(h:Ty)(ts:List Tm)(fs:List Fm)(as:List Pf):(Pf.mk k i h ts fs as).kind=k:=rfl
@[simp] theorem Pf.Bo(i:Int)(h:Ty)(ts:List Tm)(fs:List Fm)(as:List Pf):(Pf.mk k i h ts fs as).index=i:=rfl
@[simp] theorem Pf.Bk(i:Int)(h:Ty)(ts:List Tm)(fs:List Fm)(as:List Pf):(Pf.mk k i h ts fs as).ty=h:=rfl
@[simp] theorem Pf.AE(i:Int)(h:Ty)(ts:List Tm)(fs:List Fm)(as:List Pf):(Pf.mk k i h ts fs as).terms=ts:=rfl
@[simp] theorem Pf.B4(i:Int)(h:Ty)(ts:List Tm)(fs:List Fm)(as:List Pf):(Pf.mk k i h ts fs as).Aa=fs:=rfl
@[simp] theorem Pf.Ag(i:Int)(h:Ty)(ts:List Tm)(fs:List Fm)(as:List Pf):(Pf.mk k i h ts fs as).args=as:=rfl
structure Nd where
 terms:Nat
 Aa:Nat
 args:Nat
 index:Bool
 typ:Bool
def SA:Nd:=⟨0,0,0,false,false⟩
def BZ(k:Int):Option Nd:=
 if k=1\/k=2 then some ⟨0,0,0,true,false⟩
 else if k=3\/k=7 then some ⟨0,0,2,false,false⟩
 else if k=4\/k=5\/k=20 then some ⟨0,0,1,false,false⟩
 else if k=6 then some ⟨0,1,1,false,false⟩
 else if k=8\/k=12 then some ⟨0,0,1,false,true⟩
 else if k=9\/k=13 then some ⟨1,0,1,false,false⟩
 else if k=10\/k=14 then some ⟨1,1,1,false,false⟩
 else if k=11\/k=15 then some ⟨0,0,2,false,false⟩
 else if k=16\/k=17 then some ⟨1,1,2,false,false⟩
 else if k=18 then some ⟨1,0,0,false,false⟩
 else if k=19 then some ⟨0,1,2,false,false⟩ else none
def Nd.view(n:Nd):List V:=[.i n.terms,.i n.Aa,.i n.args,.bool n.index,.bool n.typ]
def Pf.head(p:Pf):Bool:=match BZ p.kind with
 |none=>false
 |some n=>p.terms.length==n.terms&&p.Aa.length==n.Aa&&p.args.length==n.args&&decide (0<=p.index)&&(n.index||p.index==0)&&(if n.typ=true then p.ty.ok else p.ty.B3)
mutual
def Pf.shape:Pf->Bool
 | .mk k i h ts fs as=>Pf.head (.mk k i h ts fs as)&&ts.all Tm.shape&&fs.all Fm.shape&&Pf.Bl as
def Pf.Bl:List Pf->Bool
 |[]=>true
 |f::l=>f.shape&&Pf.Bl l
end
mutual
def Pf.size:Pf->Nat
 | .mk _ _ _ ts fs as=>1+(ts.map Tm.size).sum+(fs.map Fm.size).sum+Pf.sizes as
def Pf.sizes:List Pf->Nat
 |[]=>0
 |f::l=>f.size+Pf.sizes l
end
mutual
def Pf.full:Pf->Nat
 | .mk _ _ h ts fs as=>1+h.size+(ts.map Tm.full).sum+(fs.map Fm.full).sum+Pf.Av as
def Pf.Av:List Pf->Nat
 |[]=>0
 |f::l=>f.full+Pf.Av l
end
mutual
def Pf.small:Pf->Bool
 | .mk _ _ _ ts fs as=>ts.all (fun t=>decide (t.size<=4096))&&fs.all (fun f=>decide (f.size<=4096))&&Pf.Am as
def Pf.Am:List Pf->Bool
 |[]=>true
 |f::l=>f.small&&Pf.Am l
end
theorem Pf.BG:∀l:List Pf,Pf.Bl l=l.all Pf.shape
 |[]=>rfl
 |f::l=>by rw[Pf.Bl,Pf.BG l];rfl
theorem Pf.BR:∀l:List Pf,Pf.sizes l=(l.map Pf.size).sum
 |[]=>rfl
 |f::l=>by rw[Pf.sizes,Pf.BR l];rfl
theorem Pf.Co:∀l:List Pf,Pf.Av l=(l.map Pf.full).sum
 |[]=>rfl
 |f::l=>by rw[Pf.Av,Pf.Co l];rfl
theorem Pf.EX:∀l:List Pf,Pf.Am l=l.all Pf.small
 |[]=>rfl
 |f::l=>by rw[Pf.Am,Pf.EX l];rfl
variable(p:Pf)
theorem Pf.Ak:p.shape=(p.head&&p.terms.all Tm.shape&&p.Aa.all Fm.shape&&p.args.all Pf.shape):=by cases p;simp only[Pf.shape,Pf.BG];rfl
theorem Pf.size_eq:p.size=1+(p.terms.map Tm.size).sum+(p.Aa.map Fm.size).sum+(p.args.map Pf.size).sum:=by cases p;simp only[Pf.size,Pf.BR];rfl
theorem Pf.Af:p.full=1+p.ty.size+(p.terms.map Tm.full).sum+(p.Aa.map Fm.full).sum+(p.args.map Pf.full).sum:=by cases p;simp only[Pf.full,Pf.Co];rfl
theorem Pf.Cl:p.small=(p.terms.all (fun t=>decide (t.size<=4096))&&p.Aa.all (fun f=>decide (f.size<=4096))&&p.args.all Pf.small):=by cases p;simp only[Pf.small,Pf.EX];rfl
theorem Pf.Ac:1<=p.full:=by rw[Pf.Af];omega
theorem Pf.size_pos:1<=p.size:=by rw[Pf.size_eq];omega
theorem Pf.ind{P:Pf->Prop}(h:∀f,(∀x∈f.args,P x)->P f)(f:Pf):P f:=by
 have:∀n,∀f:Pf,f.full<=n->P f:=by
  intro n;induction n with
  |zero=>intro f h;have:=f.Ac;omega
  |succ n ih=>
   intro f hf;refine h f fun x hx=>ih x ?_;have:=zc Pf.full hx;have:=f.Af;omega
 exact this _ f (ZB _)
theorem Pf.Ah(p:Pf):p.size<=p.full:=by
 induction p using Pf.ind with
 |h p ih=>
  rw[p.size_eq,p.Af];have h1:=xh (f:=Pf.size) (g:=Pf.full) p.args ih;have h2:=xh (f:=Tm.size) (g:=Tm.full) p.terms fun x _=>x.Ah;have h3:=xh (f:=Fm.size) (g:=Fm.full) p.Aa fun x _=>x.Ah;omega
def Pf.err(p:Pf):Int:=if p.shape=false then 2 else if p.small=false\/p.size>16384 then 4 else 0
theorem Pf.Ad:p.err=0↔p.shape=true/\p.small=true/\p.size<=16384:=by
 unfold Pf.err
 grind
def C4:Pf:= .mk 0 0 (.mk 0 []) [] [] []
def ub(t:Tm):Pf:= .mk 18 0 (.mk 0 []) [t] [] []
theorem Zun{g:Fm}(hf:f.shape=true)(hg:g.shape=true)(hk:f.kind=g.kind):f.terms.length=g.terms.length/\f.args.length=g.args.length:=by
 rw[Fm.Ak,ZC,ZC] at hf hg;have h1:=hf.1.1;have h2:=hg.1.1;unfold Fm.head at h1 h2
 grind
structure RK (c:EC) where
 pre:c.sem->List Yn
 args:c.sem->List c.sem
 set:c.sem->List c.sem->c.sem
 sz:c.sem->Nat
 yn:c.sem->List Yn
 GU:∀x,yn x=pre x++[.row c (args x).length ((args x).flatMap yn)]
 Fb:∀x,(pre x).length+1=c.cells
 er:∀x,DP (yn x) (c.view x)
 FR:∀x xs,c.view (set x xs)=(c.view x).take (c.cells-1)++[.slice .any (.t c xs)]
 It:∀x xs,sz (set x xs)+((args x).map sz).sum=sz x+(xs.map sz).sum
 Ia:∀x,∀a∈args x,sz a<sz x
variable {c:EC}
def RK.at_(KD:RK c)(x:c.sem)(k:Nat)(s:c.sem):c.sem:=KD.set x ((KD.args x).take k++s::(KD.args x).drop (k+1))
variable(KD:RK c)
theorem RK.Eo(x:c.sem):(KD.yn x).length=c.cells:=by
 have:=KD.Fb x;rw[KD.GU,ZR];omega
theorem RK.Dv(KD:RK c):∀l:List c.sem,(l.flatMap KD.yn).length=l.length*c.cells
 |[]=>dZ
 |x::l=>by rw[Z1,ZR,KD.Eo,KD.Dv l,ZO,aM];omega
theorem RK.K3(KD:RK c):∀l:List c.sem,DP (l.flatMap KD.yn) (l.flatMap c.view)
 |[]=> .nil
 |x::l=>by rw[Z1,Z1];exact(KD.er x).app (KD.K3 l)
variable{k:Nat}
theorem Vw(l:List α)(hk:k<l.length):l=l.take k++l[k]::l.drop (k+1):=by
 simp
theorem YM.C0{s:Prop}{c:EC}{n:Nat}{cells:List Yn}{v:V}{y:Ys}(h:YM s (.row c n cells) v y)(hn:0<n):
 ∃b room cap cs y2,v= .rs b n cap/\y=(b,room,cs)::y2/\(s->room=cap*c.cells)/\n<=cap/\cells.length=n*c.cells/\Bn s cells cs y2:=by
 cases h<;>grind
theorem Vg(p q:Nat×Nat×List V)(l1 l2 l3:Ys):(q::((p::(l1++l2))++l3)).Perm (p::(l1++(q::(l2++l3)))):=by
 rw[aE,ZE];exact(List.Perm.swap _ _ _).trans (bM.symm.cons _)
theorem Yh(l1 l2 l3:Ys):(l1++(l2++l3)).Perm (l2++(l1++l3)):=by
 rw[<-ZE,<-ZE];exact bz.append_right _
theorem RK.MF(x:c.sem)(hk:k<(KD.args x).length)(s:c.sem):KD.sz (KD.at_ x k s)+KD.sz (KD.args x)[k]=KD.sz x+KD.sz s:=by
 have e2:=KD.It x ((KD.args x).take k++s::(KD.args x).drop (k+1));have e3:((KD.args x).map KD.sz).sum=(((KD.args x).take k).map KD.sz).sum+(KD.sz (KD.args x)[k]+(((KD.args x).drop (k+1)).map KD.sz).sum):=by
  conv=>lhs;rw[Vw (KD.args x) hk]
  grind
 rw[aZ,cC,ZJ,ZW] at e2;show KD.sz (KD.set x _)+_=_;omega
theorem RK.desc{x:c.sem}{cs:List V}{yx:Ys}(h:Bn True (KD.yn x) cs yx)(hk:k<(KD.args x).length):
 ∃cs0 b cap csA csL csB yL yc,cs=cs0++[.rs b (KD.args x).length cap]/\cs0.length+1=c.cells/\csA.length=k*c.cells/\csL.length=c.cells/\Bn True (KD.yn (KD.args x)[k]) csL yL/\
  yx.Perm ((b,cap*c.cells,csA++csL++csB)::(yL++yc))/\((∀v∈csA,V.free v)/\∀v∈csB,V.free v)/\
  ∀csL' L' yL' s',csL'.length=c.cells->Bn False L' csL' yL'->DP L' (c.view s')->∃X yX,Bn False X cs yX/\DP X (c.view (KD.at_ x k s'))/\
   yX.Perm ((b,cap*c.cells,csA++csL'++csB)::(yL'++yc)):=by
 have hpl:=KD.Fb x;rw[KD.GU] at h;obtain⟨cs0,csr,y0,yr,rfl,rfl,h1,h2⟩:=h.split;obtain⟨v,vs,y1,y2,rfl,rfl,h3,h4⟩:=h2.inv;cases h4;have hmid:(KD.args x).flatMap KD.yn=((KD.args x).take k).flatMap KD.yn++(KD.yn (KD.args x)[k]++((KD.args x).drop (k+1)).flatMap KD.yn):=by
  conv=>lhs;rw[Vw (KD.args x) hk]
  grind
 obtain⟨b,room,cap,cs2,ys,rfl,rfl,hroom,hcap,hl,h5⟩:=h3.C0 dY
 .obtain rfl:=hroom trivial;rw[hmid] at h5;obtain⟨csA,csR,yA,yR,rfl,rfl,h6,h7⟩:=h5.split;obtain⟨csL,csB,yL,yB,rfl,rfl,h8,h9⟩:=h7.split;have lA:csA.length=k*c.cells:=by rw[h6.len,KD.Dv,cA];grind
  have lL:csL.length=c.cells:=by rw[h8.len,KD.Eo]
  refine⟨cs0,b,cap,csA,csL,csB,yL,y0++yA++yB,rfl,by rw[h1.len];omega,lA,lL,h8,?_,⟨h6.free,h9.free⟩,?_⟩
  .exact mN
  .intro csL' L' yL' s' q1 q2 q3;have lL':L'.length=c.cells:=by rw[<-q2.len];exact q1
   have hrow:YM False (.row c (KD.args x).length (((KD.args x).take k).flatMap KD.yn++(L'++((KD.args x).drop (k+1)).flatMap KD.yn))) (.rs b (KD.args x).length cap) ((b,cap*c.cells,csA++(csL'++csB))::(yA++(yL'++yB))):=by
    refine .row c _ _ b _ cap _ _ (fun h=>h.elim) hcap dY ?_ ((h6.weak (fun h=>h.elim)).app (q2.app (h9.weak (fun h=>h.elim))));have e1:=hl;rw[hmid] at e1;simp only[ZR,lL',KD.Eo] at e1 ⊢;exact e1
   have hx':DP (((KD.args x).take k).flatMap KD.yn++(L'++((KD.args x).drop (k+1)).flatMap KD.yn)) (((KD.args x).take k++s'::(KD.args x).drop (k+1)).flatMap c.view):=by
    rw[bu,Z1];exact(KD.K3 _).app (q3.app (KD.K3 _))
   obtain⟨d0,d1,hd,e0,e1⟩:=(KD.GU x▸KD.er x:DP (KD.pre x++[.row c (KD.args x).length ((KD.args x).flatMap KD.yn)]) (c.view x)).split;have hd0:d0=(c.view x).take (c.cells-1):=by
    rw[hd,List.take_append_of_le_length (by rw[e0.len];omega),aC (by rw[e0.len];omega)]
   refine⟨_,_,(h1.weak (fun h=>h.elim)).app (.cons hrow .nil),?_,?_⟩
   .rw[RK.at_,KD.FR,<-hd0];exact e0.app (.cons (.row c _ _ _ ei hx') .nil)
   .exact mN
def JG(KD:RK c)(y:Ys)(rc:List V)(F:c.sem->c.sem)(b off:Nat)(s:c.sem)(csL:List V)(yL:Ys):Prop:=
 ∃cap csA csB yc,csA.length=off/\csL.length=c.cells/\Bn True (KD.yn s) csL yL/\y.Perm ((b,cap*c.cells,csA++csL++csB)::(yL++yc))/\((∀v∈csA,V.free v)/\∀v∈csB,V.free v)/\
  ∀csL' L' yL' s',csL'.length=c.cells->Bn False L' csL' yL'->DP L' (c.view s')->∃X yX,Bn False X rc yX/\DP X (c.view (F s'))/\
   yX.Perm ((b,cap*c.cells,csA++csL'++csB)::(yL'++yc))
variable{rc:List V}
theorem JG.first{KD:RK c}{y yr:Ys}{r0:c.sem}(h:Bn True (KD.yn r0) rc yr)(hp:yr.Perm y)(hk:k<(KD.args r0).length):
 ∃cs0 b cap csL yL,rc=cs0++[.rs b (KD.args r0).length cap]/\cs0.length+1=c.cells/\JG KD y rc (KD.at_ r0 k) b (k*c.cells) (KD.args r0)[k] csL yL:=by
 obtain⟨cs0,b,cap,csA,csL,csB,yL,yc,h1,h2,h3,h4,h5,h6,hfr,h7⟩:=KD.desc h hk;refine⟨cs0,b,cap,csL,yL,h1,h2,⟨cap,csA,csB,yc,h3,h4,h5,hp.symm.trans h6,hfr,h7⟩⟩
theorem JG.next{KD:RK c}{y yL:Ys}{csL:List V}{F:c.sem->c.sem}{s:c.sem}{b off:Nat}(h:JG KD y rc F b off s csL yL)(hk:k<(KD.args s).length):
 ∃cs0 b2 cap csL2 yL2,csL=cs0++[.rs b2 (KD.args s).length cap]/\cs0.length+1=c.cells/\JG KD y rc (fun x=>F (KD.at_ s k x)) b2 (k*c.cells) (KD.args s)[k] csL2 yL2:=by
 obtain⟨cap,csA,csB,yc,q1,q2,q3,q4,_,q5⟩:=h;obtain⟨cs0,b2,cap2,csA2,csL2,csB2,yL2,yc2,h1,h2,h3,h4,h5,h6,hfr,h7⟩:=KD.desc q3 hk;refine⟨cs0,b2,cap2,csL2,yL2,h1,h2,⟨cap2,csA2,csB2,(b,cap*c.cells,csA++csL++csB)::(yc2++yc),h3,h4,h5,?_,hfr,?_⟩⟩
 .refine q4.trans ?_;exact((h6.append_right yc).cons _).trans (Vg _ _ _ _ _)
 .intro csL' L' yL' s' w1 w2 w3;obtain⟨X,yX,e1,e2,e4⟩:=h7 csL' L' yL' s' w1 w2 w3;obtain⟨X2,yX2,e5,e6,e8⟩:=q5 csL X yX (KD.at_ s k s') q2 e1 e2;refine⟨X2,yX2,e5,e6,e8.trans ?_⟩;exact((e4.append_right yc).cons _).trans (Vg _ _ _ _ _)
def RK.walk(KD:RK c):Nat->Dk->(c.sem->c.sem)->c.sem->(c.sem->c.sem)×c.sem×Dk
 |0,d,F,s=>(F,s,d)
 |n+1,d,F,s=>
  if(KD.args s).length=0 then(F,s,d) else
  if 0<(d.next 3).1 then
   if h:((d.next 3).2.next ((KD.args s).length:Int)).1.toNat<(KD.args s).length then
    KD.walk n ((d.next 3).2.next ((KD.args s).length:Int)).2 (fun x=>F (KD.at_ s ((d.next 3).2.next ((KD.args s).length:Int)).1.toNat x)) ((KD.args s)[((d.next 3).2.next ((KD.args s).length:Int)).1.toNat])
   else(F,s,d)
  else(F,s,(d.next 3).2)
theorem RK.GN(KD:RK c)(C:Nat):∀(n:Nat) (d:Dk) (F:c.sem->c.sem) (s:c.sem),(∀x,KD.sz (F x)+KD.sz s=C+KD.sz x)->∀x,KD.sz ((KD.walk n d F s).1 x)+KD.sz (KD.walk n d F s).2.1=C+KD.sz x
 |0,d,F,s,h=>h
 |n+1,d,F,s,h=>by
  intro x;unfold RK.walk;split
  .grind
  .split
   .split
    .rename_i hk;exact KD.GN C n _ _ _ (fun x=>by have h1:=KD.MF s hk x;grind) x
    grind
   grind
theorem RK.GQ(KD:RK c):∀(n:Nat) (d:Dk) (F:c.sem->c.sem) (s:c.sem),d.ok->(KD.walk n d F s).2.2.ok
 |0,d,F,s,h=>h
 |n+1,d,F,s,h=>by
  unfold RK.walk;split
  .exact h
  .split
   .split
    .exact KD.GQ n _ _ _ (Dk.AG (Dk.AG h 3) _)
    omega
   .exact Dk.AG h 3
def DH(c:EC)(xs:List c.sem):Yn:= .row c xs.length ((xs.flatMap c.view).map .dat)
theorem vi(c:EC)(xs:List c.sem):(xs.flatMap c.view).all V.FC=true:=by
 rw[List.all_flatMap];exact ZH.2 fun x _=>yk c x
theorem xe(c:EC)(xs:List c.sem):Er (DH c xs) (.s c xs):= .row c _ _ xs rfl (TX _ (vi c xs))
theorem Vu{s:Prop}(c:EC):YM s (DH c []) (.raw (.slice none 0 0)) []:= .nil c
theorem Xw{s:Prop}(c:EC)(xs:List c.sem)(b room cap:Nat)(hroom:s->room=cap*c.cells)(hcap:xs.length<=cap)(hn:0<xs.length):YM s (DH c xs) (.rs b xs.length cap) [(b,room,xs.flatMap c.view)]:=
 .row c _ _ b room cap _ [] hroom hcap hn (by rw[aI,wv]) (xj _ (vi c xs))
mutual
def Fm.yn:Fm->List Yn| .mk k t ts as=>[.dat (.i k),.dat (.i t.kind),.dat (.s .ty t.args),DH .tm ts,.row .fm as.length (Fm.CG as)]
def Fm.CG:List Fm->List Yn|[]=>[]|a::l=>a.yn++Fm.CG l
end
theorem YM.EB{s:Prop}{c:EC}{n:Nat}{cells:List Yn}{v:V}{y:Ys}(h:YM s (.row c n cells) v y):∃u,v= .raw u:=by
 cases h<;>simp_all
theorem Bn.fm{s:Prop}{f:Fm}{vs:List V}{y:Ys}(h:Bn s f.yn vs y):∃tv sv y1 y2,vs=[.i f.kind,.i f.ty.kind,.s .ty f.ty.args,.raw tv,.raw sv]/\y=y1++y2/\YM s (DH .tm f.terms) (.raw tv) y1/\YM s (.row .fm f.args.length (Fm.CG f.args)) (.raw sv) y2:=by
 obtain⟨k,t,ts,as⟩:=f;have h:Bn s [.dat (.i k),.dat (.i t.kind),.dat (.s .ty t.args),DH .tm ts,.row .fm as.length (Fm.CG as)] vs y:=by unfold Fm.yn at h;exact h
 show ∃tv sv y1 y2,vs=[.i k,.i t.kind,.s .ty t.args,.raw tv,.raw sv]/\y=y1++y2/\YM s (DH .tm ts) (.raw tv) y1/\YM s (.row .fm as.length (Fm.CG as)) (.raw sv) y2;generalize as.length=n at h ⊢;generalize Fm.CG as=cells at h ⊢;obtain⟨_,_,_,_,rfl,rfl,k1,h1⟩:=h.inv;cases k1;obtain⟨_,_,_,_,rfl,rfl,k2,h2⟩:=h1.inv;cases k2;obtain⟨_,_,_,_,rfl,rfl,k3,h3⟩:=h2.inv;cases k3;obtain⟨v4,_,y4,_,rfl,rfl,k4,h4⟩:=h3.inv;obtain⟨v5,_,y5,_,rfl,rfl,k5,h5⟩:=h4.inv;cases h5;obtain⟨tv,rfl⟩:=YM.EB k4;obtain⟨sv,rfl⟩:=k5.EB
 grind
mutual
def Pf.yn:Pf->List Yn| .mk k n t ts fs as=>[.dat (.i k),.dat (.i n),.dat (.i t.kind),.dat (.s .ty t.args),DH .tm ts,DH .fm fs,.row .pf as.length (Pf.CG as)]
def Pf.CG:List Pf->List Yn|[]=>[]|a::l=>a.yn++Pf.CG l
end
theorem Pf.Eo:∀t:Pf,t.yn.length=7| .mk _ _ _ _ _ _=>rfl
theorem Pf.Dv:∀l:List Pf,(Pf.CG l).length=l.length*7
 |[]=>rfl
 |a::l=>by rw[Pf.CG,ZR,Pf.Eo,Pf.Dv l,ZO];omega
theorem Pf.GF:∀l l2:List Pf,Pf.CG (l++l2)=Pf.CG l++Pf.CG l2
 |[],l2=>rfl
 |a::l,l2=>by rw[aE,Pf.CG,Pf.CG,Pf.GF l l2,ZE]
mutual
theorem Pf.er:∀t:Pf,DP t.yn t.view
 | .mk k n t ts fs as=> .cons (.dat _ rfl) (.cons (.dat _ rfl) (.cons (.dat _ rfl) (.cons (.dat _ rfl) (.cons (xe .tm ts) (.cons (xe .fm fs) (.cons (.row .pf _ _ as rfl (Pf.K3 as)) .nil))))))
theorem Pf.K3:∀l:List Pf,DP (Pf.CG l) (l.flatMap (EC.view .pf))
 |[]=> .nil
 |a::l=>by rw[Pf.CG,Z1];exact(Pf.er a).app (Pf.K3 l)
end
theorem Pf.FJ:∀l:List Pf,Pf.CG l=l.flatMap Pf.yn
 |[]=>rfl
 |a::l=>by rw[Pf.CG,Z1,Pf.FJ l]
def El:RK .pf where
 pre f:=[.dat (.i f.kind),.dat (.i f.index),.dat (.i f.ty.kind),.dat (.s .ty f.ty.args),DH .tm f.terms,DH .fm f.Aa]
 args:=Pf.args
 set f as:= .mk f.kind f.index f.ty f.terms f.Aa as
 sz:=Pf.full
 yn:=Pf.yn
 GU f:=by cases f;unfold Pf.yn;rw[Pf.FJ];rfl
 Fb f:=rfl
 er:=Pf.er
 FR f xs:=rfl
 It f xs:=by rw[Pf.Af,Pf.Af f];simp only[Pf.args,Pf.ty,Pf.terms,Pf.Aa];omega
 Ia f a h:=by
  have:=zc Pf.full h;rw[Pf.Af f];omega
abbrev Ft(f:Pf)(p:Value×Value×Value):List V:=[.i f.kind,.i f.index,.i f.ty.kind,.s .ty f.ty.args,.raw p.1,.raw p.2.1,.raw p.2.2]
theorem Bn.Q2{s:Prop}{f:Pf}{vs:List V}{y:Ys}(h:Bn s f.yn vs y):∃p:Value×Value×Value,vs=Ft f p/\∃y1 y2 y3,y=y1++(y2++y3)/\YM s (DH .tm f.terms) (.raw p.1) y1/\YM s (DH .fm f.Aa) (.raw p.2.1) y2/\YM s (.row .pf f.args.length (Pf.CG f.args)) (.raw p.2.2) y3:=by
 obtain⟨k,n,t,ts,fs,as⟩:=f;have h:Bn s [.dat (.i k),.dat (.i n),.dat (.i t.kind),.dat (.s .ty t.args),DH .tm ts,DH .fm fs,.row .pf as.length (Pf.CG as)] vs y:=by unfold Pf.yn at h;exact h
 show ∃p:Value×Value×Value,vs=[.i k,.i n,.i t.kind,.s .ty t.args,.raw p.1,.raw p.2.1,.raw p.2.2]/\∃y1 y2 y3,y=y1++(y2++y3)/\YM s (DH .tm ts) (.raw p.1) y1/\YM s (DH .fm fs) (.raw p.2.1) y2/\YM s (.row .pf as.length (Pf.CG as)) (.raw p.2.2) y3;generalize as.length=m at h ⊢;generalize Pf.CG as=cells at h ⊢;obtain⟨_,_,_,_,rfl,rfl,k1,h1⟩:=h.inv;cases k1;obtain⟨_,_,_,_,rfl,rfl,k2,h2⟩:=h1.inv;cases k2;obtain⟨_,_,_,_,rfl,rfl,k3,h3⟩:=h2.inv;cases k3;obtain⟨_,_,_,_,rfl,rfl,k4,h4⟩:=h3.inv;cases k4;obtain⟨v5,_,y5,_,rfl,rfl,k5,h5⟩:=h4.inv;obtain⟨v6,_,y6,_,rfl,rfl,k6,h6⟩:=h5.inv;obtain⟨v7,_,y7,_,rfl,rfl,k7,h7⟩:=h6.inv;cases h7;obtain⟨a,rfl⟩:=YM.EB k5;obtain⟨b,rfl⟩:=YM.EB k6;obtain⟨c,rfl⟩:=k7.EB;exact⟨(a,b,c),rfl,y5,y6,y7,dZ,k5,k6,k7⟩
theorem Bn.pfP{s:Prop}{f:Pf}{p:Value×Value×Value}{y:Ys}(h:Bn s f.yn (Ft f p) y):∃y1 y2 y3,y=y1++(y2++y3)/\YM s (DH .tm f.terms) (.raw p.1) y1/\YM s (DH .fm f.Aa) (.raw p.2.1) y2/\YM s (.row .pf f.args.length (Pf.CG f.args)) (.raw p.2.2) y3:=by
 obtain⟨q,hq,h2⟩:=h.Q2
 grind
theorem Bn.Ev{s:Prop}{f:Pf}{a b c:Value}{y1 y2 y3:Ys}(h1:YM s (DH .tm f.terms) (.raw a) y1)(h2:YM s (DH .fm f.Aa) (.raw b) y2)(h3:YM s (.row .pf f.args.length (Pf.CG f.args)) (.raw c) y3):
 Bn s f.yn (Ft f (a,b,c)) (y1++(y2++y3)):=by
 obtain⟨k,n,t,ts,fs,as⟩:=f;have:=Bn.cons (.dat (.i k) rfl) (.cons (.dat (.i n) rfl) (.cons (.dat (.i t.kind) rfl) (.cons (.dat (.s .ty t.args) rfl) (.cons h1 (.cons h2 (.cons h3 .nil))))));unfold Pf.yn;show Bn s _ [.i k,.i n,.i t.kind,.s .ty t.args,.raw a,.raw b,.raw c] _;simp_all
end Go.Ab
