/- A part of this seat's proofs. No conditions. -/
import Derived.Test.YtmhcohcihajegaaGreatDoorCA2
namespace Go.Ab
open Go
set_option linter.all false
variable(E:Env)
@[simp] theorem Yod(T:Nat)(k:IntKind)(n:Int):za E T (.int k n)= .int k n:=rfl
@[simp] theorem Ylv(T:Nat)(b:Bool):za E T (.bool b)= .bool b:=rfl
@[simp] theorem Yoa(T:Nat)(s:ByteArray):za E T (.string s)= .str s:=rfl
variable{α:Type}
theorem yz(f:α->Nat)(l:List α):∀m (h:m<l.length),((l.take (m+1)).map f).sum=((l.take m).map f).sum+f l[m]:=by
 induction l<;>grind
theorem zc(f:α->Nat){l:List α}{t:α}(h:t∈l):f t<=(l.map f).sum:=by
 induction l<;>grind
theorem zw(f:α->Nat)(l:List α)(m:Nat):((l.take m).map f).sum<=(l.map f).sum:=by
 induction l generalizing m with
 |nil=>simp
 |cons t l ih=>cases m<;>simp_all
theorem ze{α:Type}(f:α->Nat)(hf:∀x,1<=f x):∀l:List α,l.length<=(l.map f).sum
 |[]=>fB _
 |x::l=>by have:=ze f hf l;grind
theorem Gy(p:α->Bool)(l:List α)(h:∀j (hj:j<l.length),p l[j]=true):l.all p=true:=by
 rw[fF];intro x hx;obtain⟨j,hj,rfl⟩:=jx.1 hx
 grind
theorem u2(p:α->Bool){l:List α}{j:Nat}(hj:j<l.length)(h:p l[j]=false):l.all p=false:=by
 grind
theorem ym{p:α->Prop}{l:List α}{m:Nat}(hm:m<l.length)(h:∀j (hj:j<l.length),j<m->p l[j])(h1:p l[m]):∀j (hj:j<l.length),j<m+1->p l[j]:=by
 grind
def Ey(k:Int):Option Nat:=if k=1\/k=2\/k=5 then some 0 else if k=3\/k=4 then some 2 else none
mutual
def Ty.shape:Ty->Bool
 | .mk k xs=>(match Ey k with|some n=>xs.length==n|none=>false)&&Ty.AZ xs
def Ty.AZ:List Ty->Bool
 |[]=>true
 |t::l=>t.shape&&Ty.AZ l
end
mutual
def Ty.size:Ty->Nat
 | .mk _ xs=>1+Ty.sizes xs
def Ty.sizes:List Ty->Nat
 |[]=>0
 |t::l=>t.size+Ty.sizes l
end
theorem Ty.BM:∀l:List Ty,Ty.sizes l=(l.map Ty.size).sum
 |[]=>rfl
 |t::l=>by simp only[Ty.sizes,Ty.BM l,fJ,fT]
theorem Ty.BD:∀l:List Ty,Ty.AZ l=l.all Ty.shape
 |[]=>rfl
 |t::l=>by simp only[Ty.AZ,Ty.BD l,jg]
variable(t:Ty)
theorem Ty.size_eq:t.size=1+(t.args.map Ty.size).sum:=by cases t;simp only[Ty.size,Ty.BM,Ty.Af]
theorem Ty.Ak:t.shape=((match Ey t.kind with|some n=>t.args.length==n|none=>false)&&t.args.all Ty.shape):=by cases t;simp only[Ty.shape,Ty.BD,Ty.Af,Ty.Ai]
theorem Ty.size_pos:1<=t.size:=by rw[Ty.size_eq];omega
def Ty.nodes(t:Ty):Nat:=if t.shape then t.size else 0
theorem Ty.Ep:t.nodes<=t.size:=by simp only[Ty.nodes];grind
theorem Ty.ind{P:Ty->Prop}(h:∀t,(∀x∈t.args,P x)->P t)(t:Ty):P t:=by
 have:∀b (t:Ty),t.size<=b->P t:=by
  intro b;induction b with
  |zero=>intro t ht;have:=t.size_pos;omega
  |succ b ih=>
   intro t ht;refine h t fun x hx=>ih x ?_;have:=zc Ty.size hx;have:=t.size_eq;omega
 exact this _ t (fB _)
def CV(k:Int):Option Nat:=
 if k=1\/k=4\/k=7\/k=13 then some 0 else if k=2\/k=5\/k=11\/k=12 then some 1 else if k=3\/k=8\/k=10 then some 2 else if k=6\/k=9 then some 3 else none
def x9(k:Int):Bool:=k==2||k==6||k==9
def Ty.Bv(t:Ty):Bool:=t.kind==0&&t.args.length==0
def Ty.ok(t:Ty):Bool:=t.shape&&decide (t.size<=64)
def Tm.head(t:Tm):Bool:=(match CV t.kind with|some n=>t.args.length==n|none=>false)&&decide (0<=t.index)&&(t.index==0||t.kind==1)&&(bif x9 t.kind then t.ty.ok else t.ty.Bv)
mutual
def Tm.shape:Tm->Bool
 | .mk k i h xs=>(Tm.mk k i h xs).head&&Tm.AZ xs
def Tm.AZ:List Tm->Bool
 |[]=>true
 |t::l=>t.shape&&Tm.AZ l
end
mutual
def Tm.size:Tm->Nat
 | .mk _ _ _ xs=>1+Tm.sizes xs
def Tm.sizes:List Tm->Nat
 |[]=>0
 |t::l=>t.size+Tm.sizes l
end
mutual
def Tm.full:Tm->Nat
 | .mk _ _ h xs=>1+h.size+Tm.Ay xs
def Tm.Ay:List Tm->Nat
 |[]=>0
 |t::l=>t.full+Tm.Ay l
end
theorem Tm.BM:∀l:List Tm,Tm.sizes l=(l.map Tm.size).sum
 |[]=>rfl
 |t::l=>by simp only[Tm.sizes,Tm.BM l,fJ,fT]
theorem Tm.Co:∀l:List Tm,Tm.Ay l=(l.map Tm.full).sum
 |[]=>rfl
 |t::l=>by simp only[Tm.Ay,Tm.Co l,fJ,fT]
theorem Tm.BD:∀l:List Tm,Tm.AZ l=l.all Tm.shape
 |[]=>rfl
 |t::l=>by simp only[Tm.AZ,Tm.BD l,jg]
variable(t:Tm)
theorem Tm.size_eq:t.size=1+(t.args.map Tm.size).sum:=by cases t;simp only[Tm.size,Tm.BM,Tm.Af]
theorem Tm.Ag:t.full=1+t.ty.size+(t.args.map Tm.full).sum:=by cases t;simp only[Tm.full,Tm.Co,Tm.Af,Tm.AO]
theorem Tm.Ak:t.shape=(t.head&&t.args.all Tm.shape):=by cases t;simp only[Tm.shape,Tm.BD,Tm.Af]
theorem Tm.size_pos:1<=t.size:=by rw[Tm.size_eq];omega
theorem Tm.Ad:1<=t.full:=by rw[Tm.Ag];omega
theorem Tm.ind{P:Tm->Prop}(h:∀t,(∀x∈t.args,P x)->P t)(t:Tm):P t:=by
 have:∀b (t:Tm),t.size<=b->P t:=by
  intro b;induction b with
  |zero=>intro t ht;have:=t.size_pos;omega
  |succ b ih=>
   intro t ht;refine h t fun x hx=>ih x ?_;have:=zc Tm.size hx;have:=t.size_eq;omega
 exact this _ t (fB _)
theorem Tm.An:t.size<=t.full:=by
 induction t using Tm.ind with
 |h t ih=>
  have:∀l:List Tm,(∀x∈l,x.size<=x.full)->(l.map Tm.size).sum<=(l.map Tm.full).sum:=by
   exact sD
  have:=this t.args ih;rw[t.size_eq,t.Ag];omega
def Tm.nodes(t:Tm):Nat:=if t.shape then t.size else 0
theorem Tm.Ep:t.nodes<=t.size:=by simp only[Tm.nodes];grind
def Ty.err(t:Ty):Int:=if t.shape=false then 2 else if t.size>64 then 4 else 0
def Ty.num(t:Ty):Int:=if t.err=0 then t.size else 0
def BH:Ty:= .mk 0 []
def Tm.err(t:Tm):Int:=if t.shape=false then 2 else if t.size>4096 then 4 else 0
def Tm.num(t:Tm):Int:=if t.err=0 then t.size else 0
def AB:Tm:= .mk 0 0 (.mk 0 []) []
def Pq(t:Ty):V:= .AP [.i t.nodes,.bool t.shape]
def LN(t:Tm):V:= .AP [.i t.nodes,.bool t.shape]
end Go.Ab
namespace Go.Ab
set_option linter.all false
mutual
def Ty.same:Ty->Ty->Bool
 | .mk k xs,.mk k' ys=>k==k'&&Ty.BO xs ys
def Ty.BO:List Ty->List Ty->Bool
 |[],[]=>true
 |x::xs,y::ys=>x.same y&&Ty.BO xs ys
 |_,_=>false
end
mutual
theorem Ty.Cm:∀a b:Ty,a.same b=true↔a=b
 | .mk k xs,.mk k' ys=>by simp only[Ty.same,fD,beq_iff_eq,Ty.mk.injEq,Ty.B9 xs ys]
theorem Ty.B9:∀a b:List Ty,Ty.BO a b=true↔a=b
 |[],[]=>by simp[Ty.BO]
 |x::xs,y::ys=>by simp only[Ty.BO,fD,i5,Ty.Cm x y,Ty.B9 xs ys]
 |[],_::_=>by simp[Ty.BO]
 |_::_,[]=>by simp[Ty.BO]
end
instance:DecidableEq Ty:=fun a b=>decidable_of_iff _ (Ty.Cm a b)
mutual
def Tm.same:Tm->Tm->Bool
 | .mk k i h xs,.mk k' i' h' ys=>k==k'&&i==i'&&decide (h=h')&&Tm.BO xs ys
def Tm.BO:List Tm->List Tm->Bool
 |[],[]=>true
 |x::xs,y::ys=>x.same y&&Tm.BO xs ys
 |_,_=>false
end
mutual
theorem Tm.Cm:∀a b:Tm,a.same b=true↔a=b
 | .mk k i h xs,.mk k' i' h' ys=>by simp only[Tm.same,fD,beq_iff_eq,Tm.mk.injEq,Tm.B9 xs ys,decide_eq_true_eq,and_assoc]
theorem Tm.B9:∀a b:List Tm,Tm.BO a b=true↔a=b
 |[],[]=>by simp[Tm.BO]
 |x::xs,y::ys=>by simp only[Tm.BO,fD,i5,Tm.Cm x y,Tm.B9 xs ys]
 |[],_::_=>by simp[Tm.BO]
 |_::_,[]=>by simp[Tm.BO]
end
instance:DecidableEq Tm:=fun a b=>decidable_of_iff _ (Tm.Cm a b)
variable(a:Ty)
theorem Ty.eq_iff(b:Ty):a=b↔a.kind=b.kind/\a.args=b.args:=by cases a;cases b;simp
theorem Tm.eq_iff(a b:Tm):a=b↔a.kind=b.kind/\a.index=b.index/\a.ty=b.ty/\a.args=b.args:=by cases a;cases b;simp
variable{α:Type}
theorem Y7{xs ys:List α}(hl:xs.length=ys.length)(h:∀j (hj:j<xs.length),j<xs.length->xs[j]=ys[j]' kn):xs=ys:=
 List.ext_getElem hl fun i h1 h2=>h i h1 h1
variable{m:Nat}
theorem Xm{xs ys:List α}(h1:m<xs.length)(h2:m<ys.length)(h:¬xs[m]=ys[m]):¬xs=ys:=fun he=>kr
theorem XK{xs ys:List α}(hl:xs.length=ys.length)(hm:m<xs.length)(h:∀j (hj:j<xs.length),j<m->xs[j]=ys[j]' kn)(h1:xs[m]=ys[m]' kn):∀j (hj:j<xs.length),j<m+1->xs[j]=ys[j]' kn:=by
 grind
def up(k b:Int):Int:=if k=2 then b+1 else b
mutual
def Tm.vars(b:Int):Tm->List (Int×Int)
 | .mk k i _ xs=>(if k=1 then [(i,b)] else [])++Tm.BV (up k b) xs
def Tm.BV(b:Int):List Tm->List (Int×Int)
 |[]=>[]
 |t::l=>t.vars b++Tm.BV b l
end
theorem Tm.FM(b:Int):∀l:List Tm,Tm.BV b l=l.flatMap (Tm.vars b)
 |[]=>rfl
 |t::l=>by simp only[Tm.BV,Tm.FM b l,gx]
theorem Tm.AY(b:Int)(t:Tm):t.vars b=(if t.kind=1 then [(t.index,b)] else [])++t.args.flatMap (Tm.vars (up t.kind b)):=by cases t;simp only[Tm.vars,Tm.FM,Tm.Ai,Tm.AG,Tm.Af];rfl
mutual
def Tm.re(g:Int->Int->Tm)(b:Int):Tm->Tm
 | .mk k i h xs=>if k=1 then g i b else .mk k i h (Tm.res g (up k b) xs)
def Tm.res(g:Int->Int->Tm)(b:Int):List Tm->List Tm
 |[]=>[]
 |t::l=>t.re g b::Tm.res g b l
end
theorem Tm.Ew(g:Int->Int->Tm)(b:Int):∀l:List Tm,Tm.res g b l=l.map (Tm.re g b)
 |[]=>rfl
 |t::l=>by simp only[Tm.res,Tm.Ew g b l,fJ]
theorem Tm.A4(g:Int->Int->Tm)(b:Int)(t:Tm):t.re g b=if t.kind=1 then g t.index b else .mk t.kind t.index t.ty (t.args.map (Tm.re g (up t.kind b))):=by cases t;simp only[Tm.re,Tm.Ew,Tm.Ai,Tm.AG,Tm.Af,Tm.AO];rfl
variable{β:Type}
theorem M6(f:α->List β)(l:List α)(m:Nat)(h:m<l.length):(l.take (m+1)).flatMap f=(l.take m).flatMap f++f l[m]:=by
 rw[<-fS h,List.flatMap_append];simp
theorem yc(f:α->β)(l:List α)(m:Nat)(h:m<l.length):(l.take (m+1)).map f=(l.take m).map f++[f l[m]]:=by
 rw[<-fS h,iE];simp
theorem x6{α:Type}{f g:α->Nat}:∀(l:List α),(∀x∈l,f x<=g x)->(l.map f).sum<=(l.map g).sum
 |[],_=>fB _
 |x::l,h=>by have:=x6 l fun y hy=>h y kr;grind
theorem Yi(l:List Tm)(f:Tm->List (Int×Int))(h:∀x∈l,(f x).length<=x.size):(l.flatMap f).length<=(l.map Tm.size).sum:=by
 induction l<;>grind
theorem Tm.Db(t:Tm):∀b,(t.vars b).length<=t.size:=by
 induction t using Tm.ind with
 |h t ih=>
  intro b;rw[t.AY,t.size_eq];have:=Yi t.args (Tm.vars (up t.kind b)) fun x hx=>ih x hx _
  grind
def Tm.near(t:Tm):Bool:=(t.vars 0).all fun p=>decide (p.1<=536870912)
def cnt(at_:Int)(l:List (Int×Int)):Nat:=(l.filter fun p=>p.1-p.2==at_).length
theorem xy(at_:Int)(l l':List (Int×Int)):cnt at_ (l++l')=cnt at_ l+cnt at_ l':=by simp[cnt]
theorem Qj(at_:Int)(l:List (Int×Int)):cnt at_ l<=l.length:=i6 _ _
theorem Tm.AR(t:Tm)(h:t.shape=true):∀b,∀p∈t.vars b,0<=p.1:=by
 induction t using Tm.ind with
 |h t ih=>
  intro b p hp;rw[t.Ak,fD] at h;rw[t.AY,fV] at hp;rcases hp with hp|hp
  .split at hp
   .simp at hp;subst hp;have:=h.1;simp only[Tm.head,fD,decide_eq_true_eq] at this;omega
   grind
  grind
theorem YL(n k:Int)(hk:0<k): -k<n.tmod k:=by
 have h:=Int.natAbs_tmod n k;have h2:=jW n.natAbs (show 0<k.natAbs by omega);omega
def Ac:Ty:= .mk 1 []
def Al:Ty:= .mk 2 []
def Kj:Ty:= .mk 5 []
def C4(a b:Ty):Ty:= .mk 3 [a,b]
def xx(a b:Ty):Ty:= .mk 4 [a,b]
def A9(t:Ty):Ty×Int:=if t.err=0 then(t,0) else(BH,4)
def BI(l:List Ty)(i:Nat):Ty:=l.getD i BH
def Cd(k:Int)(h:Ty)(l:List Ty):Ty×Int:=
 let a:=BI l 0
 let b:=BI l 1
 let c:=BI l 2
 if k=3 then(if ¬a.kind=4\/¬BI a.args 0=b then(BH,7) else(BI a.args 1,0))
 else if k=4 then(Ac,0)
 else if k=5 then(if ¬a=Ac then(BH,7) else(Ac,0))
 else if k=6 then(if ¬a=h\/¬b=xx Ac (xx h h)\/¬c=Ac then(BH,7) else(h,0))
 else if k=7 then(Al,0)
 else if k=8 then(if ¬a=Ac\/¬b=Al then(BH,7) else(Al,0))
 else if k=9 then(if ¬a=h\/¬b=xx Ac (xx Al (xx h h))\/¬c=Al then(BH,7) else(h,0))
 else if k=10 then A9 (C4 a b)
 else if k=11\/k=12 then(if ¬a.kind=3 then(BH,7) else if k=11 then(BI a.args 0,0) else(BI a.args 1,0))
 else(Kj,0)
mutual
def Tm.inf:List Ty->Tm->Ty×Int
 |g,.mk k i h xs=>
  if k=1 then(if i>=g.length then(BH,6) else(BI g (g.length-1-i.toNat),0))
  else if k=2 then(if(Tm.A1 (g++[h]) xs).2≠0 then(BH,(Tm.A1 (g++[h]) xs).2) else A9 (xx h (BI (Tm.A1 (g++[h]) xs).1 0)))
  else if(Tm.A1 g xs).2≠0 then(BH,(Tm.A1 g xs).2) else Cd k h (Tm.A1 g xs).1
def Tm.A1:List Ty->List Tm->List Ty×Int
 |_,[]=>([],0)
 |g,t::l=>if(t.inf g).2≠0 then([],(t.inf g).2) else if(Tm.A1 g l).2≠0 then([],(Tm.A1 g l).2) else((t.inf g).1::(Tm.A1 g l).1,0)
end
theorem vx(at_:Int)(p:Int×Int):cnt at_ [p]=if p.1-p.2=at_ then 1 else 0:=by simp only[cnt,List.filter_cons,List.filter_nil];grind
def zi(fr by_:Int)(i b:Int):Tm:= .mk 1 (if i-b>=fr then i+by_ else i) (.mk 0 []) []
def yq(at_:Int)(s:Tm)(i b:Int):Tm:=if i-b=at_ then s.re (zi 0 (at_+b)) 0 else .mk 1 (if i-b>at_ then i-1 else i) (.mk 0 []) []
def MS(n k:Int):Int:=((n.tmod k)+k).tmod k
structure Dk where
 l:List Int
 at_:Nat
def Dk.ok(d:Dk):Prop:=d.at_<=d.l.length/\d.l.length<1099511627776
def Dk.next(d:Dk)(n:Int):Int×Dk:=if h:n<1\/d.l.length<=d.at_ then(0,d) else(MS (d.l[d.at_]'(by omega)) n,⟨d.l,d.at_+1⟩)
def Dk.cells(d:Dk):List V:=[.s .int d.l,.i d.at_]
theorem I8{t:Tm}(h:t.err=0):t.shape=true/\t.size<=4096:=by
 simp only[Tm.err] at h
 grind
theorem Uz{t:Tm}(h:t.err=0)(hn:t.near=true):∀p∈t.vars 0,0<=p.1/\p.1<549755813888:=fun p hp=>
 ⟨t.AR (I8 h).1 0 p hp,by have:=fF.1 hn p hp;grind⟩
theorem Xl(c d:Int)(hc:0<=c/\c<=274877906944)(hd: -1<=d/\d<=4096): -274877906944<=c*d/\c*d<=1125899906842624:=by
 constructor
 .have:=jy hd.1 hc.1;omega
 .have:=jy hd.2 hc.1;omega
theorem Dk.AQ{d:Dk}(h:d.ok)(n:Int):(d.next n).2.ok:=by
 simp only[Dk.next];split
 .exact h
 .rename_i hc;obtain⟨h1,h2⟩:=h;exact⟨kr,h2⟩
def Dk.type:Nat->Dk->Ty×Dk
 |0,d=>let r:=d.next 7;(if r.1=3 then .mk 2 [] else if r.1=4 then .mk 5 [] else .mk 1 [],r.2)
 |n+1,d=>
  let r:=d.next 7
  if r.1=5\/r.1=6 then
   let a:=r.2.type n
   let b:=a.2.type n
   (.mk (if r.1=5 then 3 else 4) [a.1,b.1],b.2)
  else(if r.1=3 then .mk 2 [] else if r.1=4 then .mk 5 [] else .mk 1 [],r.2)
theorem Dk.BG:∀(n:Nat) (d:Dk),d.ok->(d.type n).2.ok
 |0,d,h=>Dk.AQ h 7
 |n+1,d,h=>by
  simp only[Dk.type];split
  .exact Dk.BG n _ (Dk.BG n _ (Dk.AQ h 7))
  .exact Dk.AQ h 7
theorem Dk.Fv(k:Int)(d:Dk):d.type k.toNat=(if 0<k/\((d.next 7).1=5\/(d.next 7).1=6) then
 (.mk (if(d.next 7).1=5 then 3 else 4) [((d.next 7).2.type (k-1).toNat).1,((((d.next 7).2.type (k-1).toNat).2).type (k-1).toNat).1],((((d.next 7).2.type (k-1).toNat).2).type (k-1).toNat).2)
 else(if(d.next 7).1=3 then .mk 2 [] else if(d.next 7).1=4 then .mk 5 [] else .mk 1 [],(d.next 7).2)):=by
 by_cases hk:0<k
 .have e:k.toNat=(k-1).toNat+1:=kn
  rw[e];simp only[Dk.type,hk,true_and]
 .have e:k.toNat=0:=kn
  rw[e];simp only[Dk.type,hk,false_and,if_false]
theorem Dk.DY:∀(n:Nat) (d:Dk),(d.type n).1.size<=2^(n+1)-1
 |0,d=>by simp only[Dk.type];(repeat' split)<;>simp[Ty.size_eq]
 |n+1,d=>by
  have h1:=Dk.DY n (d.next 7).2;have h2:=Dk.DY n ((d.next 7).2.type n).2;have h3:2^(n+1+1)=2^(n+1)+2^(n+1):=kn
  have h4:2<=2^(n+1):=kr
  simp only[Dk.type];split
  .rw[Ty.size_eq];simp only[Ty.Af,fJ,fU,fT,gu];omega
  .have:∀x:Int,(Ty.mk x []).size=1:=fun x=>kz
   grind
variable(d:Dk)
theorem Dk.C1(k:Int)(h:k<=20):(d.type k.toNat).1.size<1099511627776:=by
 have h1:=Dk.DY k.toNat d;have h2:2^(k.toNat+1)<=2^21:=i9 kn kn;omega
def Cy:Nat->Tm
 |0=> .mk 4 0 (.mk 0 []) []
 |n+1=> .mk 5 0 (.mk 0 []) [Cy n]
def vu(n:Int):Tm:=if 0<=n/\n<4096 then Cy n.toNat else AB
def Dk.types:Nat->Dk->List Ty×Dk
 |0,d=>([],d)
 |n+1,d=>let a:=d.type 1;let b:=a.2.types n;(a.1::b.1,b.2)
theorem Dk.EB:∀(n:Nat) (d:Dk),d.types (n+1)=((d.types n).1++[((d.types n).2.type 1).1],((d.types n).2.type 1).2)
 |0,d=>rfl
 |n+1,d=>by
  have:=Dk.EB n (d.type 1).2;show((d.type 1).1::((d.type 1).2.types (n+1)).1,((d.type 1).2.types (n+1)).2)=_;rw[this];rfl
theorem Dk.EG:∀(n:Nat) (d:Dk),d.ok->(d.types n).2.ok
 |0,d,h=>h
 |n+1,d,h=>Dk.EG n _ (Dk.BG 1 d h)
theorem Dk.DX:∀(n:Nat) (d:Dk),(d.types n).1.length=n
 |0,d=>rfl
 |n+1,d=>by simp[Dk.types,Dk.DX n]
theorem Zto(n k:Int)(hk:0<k):0<=MS n k/\MS n k<k:=by
 have h1:=YL n k hk;constructor
 .exact Int.tmod_nonneg _ kn
 .exact Int.tmod_lt_of_pos _ hk
theorem Dk.BC(n:Int)(hn:0<n):0<=(d.next n).1/\(d.next n).1<n:=by
 simp only[Dk.next];split
 .omega
 .exact Zto _ _ hn
def Dk.ctx(d:Dk):List Ty×Dk:=(d.next 4).2.types (d.next 4).1.toNat
def vT(i:Int):Tm:= .mk 1 i (.mk 0 []) []
def vv(t:Tm):Tm:= .mk 2 0 (.mk 1 []) [t]
def Dm(b f n:Tm):Tm:= .mk 6 0 (.mk 1 []) [b,f,n]
def sT(t:Tm):Tm:= .mk 5 0 (.mk 0 []) [t]
def zT:Tm:= .mk 4 0 (.mk 0 []) []
def AE(f x:Tm):Tm:= .mk 3 0 (.mk 0 []) [f,x]
def Ct:Tm:=vv (vv (sT (vT 0)))
def Bt:Tm:=vv (vv (Dm (vT 1) Ct (vT 0)))
def BT:Tm:=vv (Dm zT (vv (vv (vT 1))) (vT 0))
def CN:Tm:=vv (vv (AE BT (vT 0)))
def Ek:Tm:=vv (vv (Dm (vT 1) CN (vT 0)))
def wm(t:Tm)(fr by_:Int):Int:=if t.err≠0 then t.err else if ¬(0<=fr/\fr<=4096)\/¬(0<=by_/\by_<=4096)\/t.near=false then 1 else 0
def v9(g:List Ty)(t:Ty):List Int:=((List.range g.length).filter fun i=>decide (g[g.length-1-i]? =some t)).map Int.ofNat
def Jc:List Ty->Int
 |[]=>0
 |t::l=>if t.err≠0 then t.err else Jc l
theorem Zs8:∀(l:List Ty) (m:Nat) (hm:m<l.length),(∀j (hj:j<l.length),j<m->l[j].err=0)->l[m].err≠0->Jc l=l[m].err:=by
 intro l;induction l with
 |nil=>simp
 |cons t l ih=>
  intro m hm h h1;cases m with
  |zero=>simp only[fM] at h1;simp only[Jc];grind
  |succ m=>
   have h0:=h 0 ko kn;simp only[fM] at h0;simp only[Jc,h0,ne_eq,not_true_eq_false,if_false,gi]
   grind
theorem aU:∀(l:List Ty),(∀j (hj:j<l.length),j<l.length->l[j].err=0)->Jc l=0:=by
 intro l;induction l with
 |nil=>intro _;rfl
 |cons t l ih=>
  intro h;have h0:=h 0 ko ko;simp only[fM] at h0;simp only[Jc,h0,ne_eq,not_true_eq_false,if_false];exact ih fun j hj _=>by have:=h (j+1) kr kr;grind
def ww(l:List Ty):Int:=if l.length>16 then 3 else Jc l
def Pv(k:Int):Int:=if k=1\/k=4\/k=7\/k=13 then 0 else if k=2\/k=5\/k=11\/k=12 then 1 else if k=3\/k=8\/k=10 then 2 else if k=6\/k=9 then 3 else -1
def nT(k:Int)(l:List Tm):Tm:= .mk k 0 (.mk 0 []) l
def hT(k:Int)(s:Ty)(l:List Tm):Tm:= .mk k 0 s l
def Be(s:Ty)(x:Tm):Tm:= .mk 2 0 s [x]
def HX(g:List Ty)(t:Ty)(i:Nat):Bool:=(BI g (g.length-1-i)).kind==4&&decide (BI (BI g (g.length-1-i)).args 1=t)
def NH(g:List Ty)(t:Ty):Option Nat:=(List.range g.length).find? (HX g t)
abbrev FE:=Dk->List Ty->Ty->Tm×Dk
def Dk.fin(rec:FE)(pos:Bool)(d:Dk)(g:List Ty)(t:Ty):Tm×Dk:=
 if t.kind=1 then
  if pos=true then
   if(d.next 5).1=0 then(sT (rec (d.next 5).2 g t).1,(rec (d.next 5).2 g t).2)
   else if(d.next 5).1=1 then
    (AE (AE Bt (rec (d.next 5).2 g t).1) (rec (rec (d.next 5).2 g t).2 g t).1,(rec (rec (d.next 5).2 g t).2 g t).2)
   else if(d.next 5).1=2 then
    (AE (AE Ek (rec (d.next 5).2 g t).1) (rec (rec (d.next 5).2 g t).2 g t).1,(rec (rec (d.next 5).2 g t).2 g t).2)
   else(vu ((d.next 5).2.next 3).1,((d.next 5).2.next 3).2)
  else(vu (d.next 3).1,(d.next 3).2)
 else if t.kind=2 then
  if pos=true then
   if(d.next 2).1=0 then(nT 8 [(rec (d.next 2).2 g Ac).1,(rec (rec (d.next 2).2 g Ac).2 g t).1],(rec (rec (d.next 2).2 g Ac).2 g t).2)
   else(nT 7 [],(d.next 2).2)
  else(nT 7 [],d)
 else if t.kind=3 then(nT 10 [(rec d g (BI t.args 0)).1,(rec (rec d g (BI t.args 0)).2 g (BI t.args 1)).1],(rec (rec d g (BI t.args 0)).2 g (BI t.args 1)).2)
 else if t.kind=4 then(Be (BI t.args 0) (rec d (g++[BI t.args 0]) (BI t.args 1)).1,(rec d (g++[BI t.args 0]) (BI t.args 1)).2)
 else(nT 13 [],d)
def Dk.m0(rec:FE)(d:Dk)(g:List Ty)(t s:Ty):Tm×Dk:=(AE (Be s (rec d (g++[s]) t).1) (rec (rec d (g++[s]) t).2 g s).1,(rec (rec d (g++[s]) t).2 g s).2)
def Dk.m1(rec:FE)(d:Dk)(g:List Ty)(t s:Ty):Tm×Dk:=(nT 11 [nT 10 [(rec d g t).1,(rec (rec d g t).2 g s).1]],(rec (rec d g t).2 g s).2)
def Dk.m2(rec:FE)(d:Dk)(g:List Ty)(t:Ty):Tm×Dk:=
 (hT 6 t [(rec (rec d (g++[Ac,t]) t).2 g t).1,Be Ac (Be t (rec d (g++[Ac,t]) t).1),vu ((rec (rec d (g++[Ac,t]) t).2 g t).2.next 3).1],((rec (rec d (g++[Ac,t]) t).2 g t).2.next 3).2)
def Dk.m3(rec:FE)(d:Dk)(g:List Ty)(t:Ty):Tm×Dk:=
 (hT 9 t [(rec (rec d (g++[Ac,Al,t]) t).2 g t).1,Be Ac (Be Al (Be t (rec d (g++[Ac,Al,t]) t).1)),(rec (rec (rec d (g++[Ac,Al,t]) t).2 g t).2 g Al).1],(rec (rec (rec d (g++[Ac,Al,t]) t).2 g t).2 g Al).2)
def Dk.m4(rec:FE)(d:Dk)(g:List Ty)(t s:Ty):Tm×Dk:=(nT 12 [nT 10 [(rec d g s).1,(rec (rec d g s).2 g t).1]],(rec (rec d g s).2 g t).2)
def Dk.m5(rec:FE)(pos:Bool)(d:Dk)(g:List Ty)(t:Ty):Tm×Dk:=
 match NH g t with
 |some i=>(AE (vT i) (rec d g (BI (BI g (g.length-1-i)).args 0)).1,(rec d g (BI (BI g (g.length-1-i)).args 0)).2)
 |none=>d.fin rec pos g t
def Dk.mid(rec:FE)(pos:Bool)(d:Dk)(g:List Ty)(t:Ty):Tm×Dk:=
 if pos=true then
  if(d.next 8).1=0 then((d.next 8).2.type 0).2.m0 rec g t ((d.next 8).2.type 0).1
  else if(d.next 8).1=1 then((d.next 8).2.type 0).2.m1 rec g t ((d.next 8).2.type 0).1
  else if(d.next 8).1=2 then(d.next 8).2.m2 rec g t
  else if(d.next 8).1=3 then(d.next 8).2.m3 rec g t
  else if(d.next 8).1=4 then((d.next 8).2.type 0).2.m4 rec g t ((d.next 8).2.type 0).1
  else if(d.next 8).1=5 then(d.next 8).2.m5 rec pos g t
  else(d.next 8).2.fin rec pos g t
 else d.fin rec pos g t
variable{g:List Ty}{pos:Bool}{rec:FE}{t:Ty}
theorem Dk.Kl{d:Dk}(h:pos=true):d.mid rec pos g t=
 if(d.next 8).1=0 then((d.next 8).2.type 0).2.m0 rec g t ((d.next 8).2.type 0).1
 else if(d.next 8).1=1 then((d.next 8).2.type 0).2.m1 rec g t ((d.next 8).2.type 0).1
 else if(d.next 8).1=2 then(d.next 8).2.m2 rec g t
 else if(d.next 8).1=3 then(d.next 8).2.m3 rec g t
 else if(d.next 8).1=4 then((d.next 8).2.type 0).2.m4 rec g t ((d.next 8).2.type 0).1
 else if(d.next 8).1=5 then(d.next 8).2.m5 rec pos g t
 else(d.next 8).2.fin rec pos g t:=if_pos h
def Dk.gen(rec:FE)(pos:Bool)(d:Dk)(g:List Ty)(t:Ty):Tm×Dk:=
 if v9 g t=[] then d.mid rec pos g t
 else if 0<(d.next 3).1 then(vT ((v9 g t).getD ((d.next 3).2.next (v9 g t).length).1.toNat 0),((d.next 3).2.next (v9 g t).length).2)
 else(d.next 3).2.mid rec pos g t
def Dk.tm:Nat->FE
 |0,d,_,_=>(AB,d)
 |n+1,d,g,t=>d.gen (Dk.tm n) (decide (2<=n)) g t
def Ty.small(t:Ty):Prop:=t.shape=true/\t.size<=3
def Aj(g:List Ty):Prop:=∀t∈g,t.small
inductive Mk:Nat->List Ty->Ty->Tm->Prop
 |var (n g t) (i:Nat) (hi:i<g.length) (h:BI g (g.length-1-i)=t):Mk (n+1) g t (vT i)
 |app (n g t s a b) (hn:2<=n) (hs:s.shape=true) (h1:s.size=1) (ha:Mk n (g++[s]) t a) (hb:Mk n g s b):Mk (n+1) g t (AE (Be s a) b)
 |fst (n g t s a b) (hn:2<=n) (hs:s.shape=true) (h1:s.size=1) (ha:Mk n g t a) (hb:Mk n g s b):Mk (n+1) g t (nT 11 [nT 10 [a,b]])
 |snd (n g t s a b) (hn:2<=n) (hs:s.shape=true) (h1:s.size=1) (ha:Mk n g s a) (hb:Mk n g t b):Mk (n+1) g t (nT 12 [nT 10 [a,b]])
 |recu (n g t a b m) (hn:2<=n) (hm:m<3) (ha:Mk n (g++[Ac,t]) t a) (hb:Mk n g t b):Mk (n+1) g t (hT 6 t [b,Be Ac (Be t a),Cy m])
 |fold (n g t a b c) (hn:2<=n) (ha:Mk n (g++[Ac,Al,t]) t a) (hb:Mk n g t b) (hc:Mk n g Al c):Mk (n+1) g t (hT 9 t [b,Be Ac (Be Al (Be t a)),c])
 |ctx (n g t s a) (hn:2<=n) (i:Nat) (hi:i<g.length) (h:BI g (g.length-1-i)=xx s t) (h1:s.size=1) (ha:Mk n g s a):Mk (n+1) g t (AE (vT i) a)
 |succ (n g a) (hn:2<=n) (ha:Mk n g Ac a):Mk (n+1) g Ac (sT a)
 |plus (n g a b) (hn:2<=n) (ha:Mk n g Ac a) (hb:Mk n g Ac b):Mk (n+1) g Ac (AE (AE Bt a) b)
 |sub (n g a b) (hn:2<=n) (ha:Mk n g Ac a) (hb:Mk n g Ac b):Mk (n+1) g Ac (AE (AE Ek a) b)
 |num (n g m) (hm:m<3):Mk (n+1) g Ac (Cy m)
 |cons (n g a b) (hn:2<=n) (ha:Mk n g Ac a) (hb:Mk n g Al b):Mk (n+1) g Al (nT 8 [a,b])
 |nil (n g):Mk (n+1) g Al (nT 7 [])
 |pair (n g s t a b) (h1:s.size=1) (h2:t.size=1) (ha:Mk n g s a) (hb:Mk n g t b):Mk (n+1) g (C4 s t) (nT 10 [a,b])
 |lam (n g s t a) (h1:s.size=1) (h2:t.size=1) (ha:Mk n (g++[s]) t a):Mk (n+1) g (xx s t) (Be s a)
 |unit (n g):Mk (n+1) g Kj (nT 13 [])
theorem Dk.I4{d:Dk}(h:∀d g t,d.ok->(rec d g t).2.ok)(hd:d.ok):(d.fin rec pos g t).2.ok:=by
 have h5:=Dk.AQ hd 5;have h3:=Dk.AQ hd 3;have h2:=Dk.AQ hd 2;unfold Dk.fin;repeat' split
 all_goals first
  |exact hd|exact h3|exact h2|exact Dk.AQ h5 3|exact h _ _ _ h5|exact h _ _ _ (h _ _ _ h5)|exact h _ _ _ (h _ _ _ h2)|exact h _ _ _ (h _ _ _ hd)|grind
theorem Dk.IV{d:Dk}(h:∀d g t,d.ok->(rec d g t).2.ok)(hd:d.ok):(d.mid rec pos g t).2.ok:=by
 have h8:=Dk.AQ hd 8;have hs:=Dk.BG 0 _ h8;have hf:=Dk.I4 (pos:=pos) (g:=g) (t:=t) h h8;unfold Dk.mid Dk.m0 Dk.m1 Dk.m2 Dk.m3 Dk.m4 Dk.m5;repeat' split
 all_goals first
  |exact hf|exact Dk.I4 h hd|exact h _ _ _ (h _ _ _ hs)|exact Dk.AQ (h _ _ _ (h _ _ _ h8)) 3|exact h _ _ _ (h _ _ _ (h _ _ _ h8))|grind
theorem Dk.LP{d:Dk}(h:∀d g t,d.ok->(rec d g t).2.ok)(hd:d.ok):(d.gen rec pos g t).2.ok:=by
 unfold Dk.gen;repeat' split
 .exact Dk.IV h hd
 .exact Dk.AQ (Dk.AQ hd 3) _
 .exact Dk.IV h (Dk.AQ hd 3)
theorem Dk.Dd:∀(n:Nat) (d:Dk) (g:List Ty) (t:Ty),d.ok->(Dk.tm n d g t).2.ok
 |0,d,_,_,h=>h
 |n+1,d,g,t,h=>Dk.LP (fun d g t hd=>Dk.Dd n d g t hd) h
theorem Ty.Aa(t:Ty):t.err=0↔t.shape=true/\t.size<=64:=by
 simp only[Ty.err]
 grind
theorem Ty.IM{x:Ty}(h:t.err=0)(hx:x∈t.args):x.err=0:=by
 rw[Ty.Aa] at h ⊢;have h1:=zc Ty.size hx;have h2:=t.size_eq;have h3:=h.1;rw[Ty.Ak,fD] at h3
 grind
theorem Ty.CW(h:t.shape=true)(hk:t.kind=3\/t.kind=4):∃x y,t.args=[x,y]:=by
 rw[Ty.Ak,fD] at h;have h1:Ey t.kind=some 2:=by rcases hk with hk|hk<;>rw[hk]<;>rfl
 have h2:=h.1;rw[h1] at h2;simp at h2
 match hl:t.args,h2 with
 |[x,y],_=>simp
variable{i:Nat}{l:List Ty}
theorem Oi(h:i<l.length):BI l i=l[i]:=by simp[BI,h]
theorem Ss(h:i<l.length):BI l i∈l:=by rw[Oi h];simp
@[simp] theorem OD(x:Ty)(l:List Ty):BI (x::l) 0=x:=rfl
@[simp] theorem Q3(x y:Ty)(l:List Ty):BI (x::y::l) 1=y:=rfl
@[simp] theorem Zp(x y z:Ty)(l:List Ty):BI (x::y::z::l) 2=z:=rfl
theorem Tm.Jf(g:List Ty):∀(xs:List Tm) (m:Nat) (hm:m<xs.length),(∀j (hj:j<xs.length),j<m->(xs[j].inf g).2=0)->(xs[m].inf g).2≠0->Tm.A1 g xs=([],(xs[m].inf g).2):=by
 intro xs;induction xs with
 |nil=>simp
 |cons x l ih=>
  intro m hm h h1;cases m with
  |zero=>simp only[fM] at h1 ⊢;simp only[Tm.A1];grind
  |succ m=>
   have h0:=h 0 ko kn;simp only[fM] at h0;simp only[fQ] at hm;have h2:=ih m kn (fun j hj hlt=>kr) kr;simp only[gi] at h1 ⊢;simp only[Tm.A1,h0,ne_eq,not_true_eq_false,if_false,h2,h1,not_false_eq_true,if_true]
theorem Tm.Fu(g:List Ty):∀(xs:List Tm),(∀x∈xs,(x.inf g).2=0)->Tm.A1 g xs=(xs.map fun x=>(x.inf g).1,0):=by
 intro xs;induction xs with
 |nil=>intro _;rfl
 |cons x l ih=>
  intro h;have h0:=h x ko;have h1:=ih fun y hy=>h y kr;simp only[Tm.A1,h0,h1,ne_eq,not_true_eq_false,if_false,fJ]
theorem Tm.CH(g:List Ty):∀(xs:List Tm),(Tm.A1 g xs).2=0->∀x∈xs,(x.inf g).2=0:=by
 intro xs;induction xs with
 |nil=>simp
 |cons y l ih=>
  intro h x hx;simp only[Tm.A1] at h
  grind
theorem Tm.Ba(g:List Ty)(t:Tm):t.inf g=(if t.kind=1 then(if t.index>=g.length then(BH,6) else(BI g (g.length-1-t.index.toNat),0))
 else if t.kind=2 then(if(Tm.A1 (g++[t.ty]) t.args).2≠0 then(BH,(Tm.A1 (g++[t.ty]) t.args).2) else A9 (xx t.ty (BI (Tm.A1 (g++[t.ty]) t.args).1 0)))
 else if(Tm.A1 g t.args).2≠0 then(BH,(Tm.A1 g t.args).2) else Cd t.kind t.ty (Tm.A1 g t.args).1):=by
 cases t;rfl
theorem aE(h:(A9 t).2=0):(A9 t).1.err=0:=by
 simp only[A9] at h ⊢;grind
theorem KY{t:Tm}(h:t.shape=true):CV t.kind=some t.args.length:=by
 rw[Tm.Ak,fD] at h;have h1:=h.1;simp only[Tm.head,fD] at h1
 grind
theorem zd{t:Tm}(h:t.shape=true):∀x∈t.args,x.shape=true:=by
 rw[Tm.Ak,fD] at h
 grind
theorem OO{t:Tm}(h:t.shape=true):0<=t.index/\(t.kind≠1->t.index=0):=by
 rw[Tm.Ak,fD] at h;have h1:=h.1;simp only[Tm.head,fD,decide_eq_true_eq,ic,beq_iff_eq] at h1;omega
theorem Ti{t:Tm}(h:t.shape=true)(hk:x9 t.kind=true):t.ty.err=0:=by
 rw[Tm.Ak,fD] at h;have h1:=h.1;simp only[Tm.head,fD,hk,cond_true] at h1;have h2:=h1.2;simp only[Ty.ok,fD,decide_eq_true_eq] at h2;exact(Ty.Aa _).2 h2
variable{k:Int}{n:Nat}
theorem YB(h:CV k=some n):(n=0/\(k=1\/k=4\/k=7\/k=13))\/(n=1/\(k=2\/k=5\/k=11\/k=12))\/(n=2/\(k=3\/k=8\/k=10))\/(n=3/\(k=6\/k=9)):=by
 simp only[CV] at h
 grind
theorem PK{l:List α}(h:l.length=1):l=[l[0]' kn]:=by
 match l,h with
 |[x],_=>rfl
theorem Ww{l:List α}(h:l.length=1):∃x,l=[x]:=⟨_,PK h⟩
theorem SQ{l:List α}(h:l.length=2):∃x y,l=[x,y]:=by
 match l,h with
 |[x,y],_=>simp
theorem aV{l:List α}(h:l.length=3):∃x y z,l=[x,y,z]:=by
 match l,h with
 |[x,y,z],_=>simp
theorem Yep{h:Ty}(hk:CV k=some l.length)(hl:∀x∈l,x.err=0)(hh:x9 k=true->h.err=0)(h0:(Cd k h l).2=0):(Cd k h l).1.err=0:=by
 have h1:∀i,i<l.length->(BI l i).err=0:=fun i hi=>hl _ (Ss hi);have h2:∀i,i<l.length->(BI l i).kind=3\/(BI l i).kind=4->∀j,j<2->(BI (BI l i).args j).err=0:=by
  intro i hi hk j hj;obtain⟨x,y,hxy⟩:=Ty.CW ((Ty.Aa _).1 (h1 i hi)).1 hk;refine Ty.IM (h1 i hi) ?_;exact Ss kr
 rcases YB hk with⟨hn,hk⟩|⟨hn,hk⟩|⟨hn,hk⟩|⟨hn,hk⟩
 .rcases hk with rfl|rfl|rfl|rfl<;>rfl
 .rcases hk with rfl|rfl|rfl|rfl
  .rfl
  .exact rJ
  .exact rJ
  .exact rJ
 .rcases hk with rfl|rfl|rfl
  .simp only[Cd] at h0 ⊢
   grind
  .exact rJ
  .simp only[Cd] at h0 ⊢;simp at h0 ⊢;exact aE h0
 .rcases hk with rfl|rfl
  .exact rJ
  .exact rJ
theorem Tm.Ex(t:Tm):∀g:List Ty,t.shape=true->(∀x∈g,x.err=0)->(t.inf g).2=0->(t.inf g).1.err=0:=by
 induction t using Tm.ind with
 |h t ih=>
  intro g hsh hg h0;rw[Tm.Ba] at h0 ⊢;by_cases h1:t.kind=1
  .simp only[h1,if_true] at h0 ⊢;by_cases h2:t.index>=g.length
   .grind
   .rw[if_neg h2];have:=(OO hsh).1;exact hg _ (Ss kn)
  .simp only[h1,if_false] at h0 ⊢;by_cases h2:t.kind=2
   .simp only[h2,if_true] at h0 ⊢;by_cases h3:(Tm.A1 (g++[t.ty]) t.args).2=0
    .simp only[h3,ne_eq,not_true_eq_false,if_false] at h0 ⊢;exact aE h0
    grind
   .simp only[h2,if_false] at h0 ⊢;by_cases h3:(Tm.A1 g t.args).2=0
    .simp only[h3,ne_eq,not_true_eq_false,if_false] at h0 ⊢;have h4:=Tm.CH g t.args h3;have h5:=Tm.Fu g t.args h4;rw[h5] at h0 ⊢;refine Yep (by rw[KY hsh];simp) ?_ (Ti hsh) h0;intro x hx;obtain⟨y,hy,rfl⟩:=fO.1 hx;exact ih y hy g (zd hsh y hy) hg (h4 y hy)
    grind
theorem Vg(h:t.shape=true)(hk:t.kind=1\/t.kind=2\/t.kind=5):t.args=[]:=by
 rw[Ty.Ak,fD] at h;have h1:Ey t.kind=some 0:=by rcases hk with hk|hk|hk<;>rw[hk]<;>rfl
 grind
theorem Zys(h:t.shape=true):t.kind=1\/t.kind=2\/t.kind=5\/t.kind=3\/t.kind=4:=by
 rw[Ty.Ak,fD] at h;have h2:=h.1;split at h2
 .rename_i n hn;simp only[Ey] at hn
  grind
 grind
theorem X8(h:t.shape=true):t=Ac\/t=Al\/t=Kj\/∃a b,a.shape=true/\b.shape=true/\(t=C4 a b\/t=xx a b):=by
 have h0:=h;rw[Ty.Ak,fD] at h0;rcases Zys h with hk|hk|hk|hk|hk
 .exact .inl ((Ty.eq_iff _ _).2 ⟨hk,Vg h kn⟩)
 .exact .inr (.inl ((Ty.eq_iff _ _).2 ⟨hk,Vg h kn⟩))
 .exact .inr (.inr (.inl ((Ty.eq_iff _ _).2 ⟨hk,Vg h kn⟩)))
 .obtain ⟨a,b,hab⟩:=Ty.CW h (.inl hk);have:=fF.1 h0.2;rw[hab] at this;exact .inr (.inr (.inr ⟨a,b,this a ko,this b ko,.inl ((Ty.eq_iff _ _).2 ⟨hk,hab⟩)⟩))
 .obtain ⟨a,b,hab⟩:=Ty.CW h (.inr hk);have:=fF.1 h0.2;rw[hab] at this;exact .inr (.inr (.inr ⟨a,b,this a ko,this b ko,.inr ((Ty.eq_iff _ _).2 ⟨hk,hab⟩)⟩))
theorem KP(b:Ty):(C4 a b).size=1+(a.size+b.size):=kz
theorem uk(b:Ty):(xx a b).size=1+(a.size+b.size):=kz
theorem Tj(h:t.small):t=Ac\/t=Al\/t=Kj\/∃a b,a.shape=true/\b.shape=true/\a.size=1/\b.size=1/\(t=C4 a b\/t=xx a b):=by
 obtain⟨h1,h2⟩:=h;rcases X8 h1 with h3|h3|h3|⟨a,b,ha,hb,h3⟩
 .grind
 .grind
 .grind
 .have pa:=a.size_pos;have pb:=b.size_pos;refine .inr (.inr (.inr ⟨a,b,ha,hb,?_,?_,h3⟩))<;>rcases h3 with rfl|rfl<;>(first|rw[KP] at h2|rw[uk] at h2)<;>omega
theorem z4(h:t.shape=true)(h1:t.size=1):t.small:=⟨h,kn⟩
theorem zj:Ac.small:=⟨rfl,kq⟩
theorem xu:Al.small:=⟨rfl,kq⟩
theorem zm(h:Aj g)(h1:Aj l):Aj (g++l):=fun t ht=>by
 rcases fV.1 ht with ht|ht
 .exact h t ht
 .exact h1 t ht
theorem zg(h:t.small)(h1:Aj l):Aj (t::l):=fun x hx=>by
 rcases fW.1 hx with rfl|hx
 .exact h
 .exact h1 x hx
theorem zk:Aj []:=fun t ht=>by cases ht
theorem TU(h:Aj g)(hi:i<g.length):(BI g (g.length-1-i)).small:=h _ (Ss kn)
theorem Dk.type0:(d.type 0).1.shape=true/\(d.type 0).1.size=1:=by
 simp only[Dk.type];(repeat' split)<;>exact⟨rfl,rfl⟩
theorem Rh:∃m,m<3/\vu (d.next 3).1=Cy m:=by
 have h:=Dk.BC d 3 kn;refine⟨(d.next 3).1.toNat,kn,?_⟩;rw[vu,if_pos kn]
theorem Yd8{i:Int}(h:i∈v9 g t):∃j:Nat,i=j/\j<g.length/\BI g (g.length-1-j)=t:=by
 simp only[v9,fO,iM,iT,decide_eq_true_eq] at h;obtain⟨j,⟨h1,h2⟩,rfl⟩:=h;refine⟨j,rfl,h1,?_⟩;simp only[BI,gy,h2,iq]
theorem Zxj(h:¬v9 g t=[]):∃j:Nat,(v9 g t).getD (d.next (v9 g t).length).1.toNat 0=j/\j<g.length/\BI g (g.length-1-j)=t:=by
 have hl:0<(v9 g t).length:=List.length_pos_iff.2 h;have hb:=Dk.BC d (v9 g t).length kn;have hlt:(d.next (v9 g t).length).1.toNat<(v9 g t).length:=kn
 have:(v9 g t).getD (d.next (v9 g t).length).1.toNat 0∈v9 g t:=by
  grind
 exact Yd8 this
theorem Zxo(h:NH g t=some i):i<g.length/\HX g t i=true:=by
 have:=List.find?_some h;have h2:=List.mem_of_find?_eq_some h
 grind
theorem Yh7(hg:Aj g)(hi:i<g.length)(h:HX g t i=true):∃s,s.shape=true/\s.size=1/\BI g (g.length-1-i)=xx s t:=by
 simp only[HX,fD,beq_iff_eq,decide_eq_true_eq] at h;have hs:=TU hg hi;rcases Tj hs with h3|h3|h3|⟨a,b,ha,hb,h1,h2,h3|h3⟩
 .rw[h3] at h;exact absurd h.1 kq
 .rw[h3] at h;exact absurd h.1 kq
 .rw[h3] at h;exact absurd h.1 kq
 .rw[h3] at h;exact absurd h.1 lU
 .refine ⟨a,ha,h1,?_⟩;have:=h.2;rw[h3] at this ⊢;simp only[xx,Ty.Af,Q3] at this
  grind
abbrev Qc(rec:FE)(n:Nat):Prop:=∀d g t,Aj g->t.small->1<=n->(n=1->t.size=1)->Mk n g t (rec d g t).1
theorem Dk.GG{d:Dk}(H:Qc rec n)(hp:pos=true->2<=n)(hg:Aj g)(ht:t.small)(h0:n=0->t.size=1):Mk (n+1) g t (d.fin rec pos g t).1:=by
 rcases Tj ht with rfl|rfl|rfl|⟨a,b,ha,hb,h1,h2,rfl|rfl⟩
 .unfold Dk.fin;rw[if_pos (show Ac.kind=1 from rfl)];by_cases hpos:pos=true
  .have hn:=hp hpos;have hr:∀d,Mk n g Ac (rec d g Ac).1:=fun d=>H d g Ac hg zj kn kn;rw[if_pos hpos];split
   .exact .succ n g _ hn (hr _)
   .split
    .exact .plus n g _ _ hn (hr _) (hr _)
    .split
     .exact .sub n g _ _ hn (hr _) (hr _)
     .obtain ⟨m,hm,e⟩:=Rh (d.next 5).2;simp only[e];exact .num n g m hm
  .rw[if_neg hpos];obtain⟨m,hm,e⟩:=Rh d;simp only[e];exact .num n g m hm
 .unfold Dk.fin;rw[if_neg kq,if_pos (show Al.kind=2 from rfl)];by_cases hpos:pos=true
  .have hn:=hp hpos;rw[if_pos hpos];split
   .exact .cons n g _ _ hn (H _ g Ac hg zj kn kn) (H _ g Al hg xu kn kn)
   .exact .nil n g
  .rw[if_neg hpos];exact .nil n g
 .unfold Dk.fin;rw[if_neg kq,if_neg kq,if_neg kq,if_neg kq];exact .unit n g
 .unfold Dk.fin;rw[if_neg lU,if_neg lU,if_pos (show(C4 a b).kind=3 from rfl)];have:n≠0:=fun h=>by have:=h0 h;rw[KP] at this;omega
  exact .pair n g a b _ _ h1 h2 (H _ g a hg (z4 ha h1) kn fun _=>h1) (H _ g b hg (z4 hb h2) kn fun _=>h2)
 .unfold Dk.fin;rw[if_neg lM,if_neg lM,if_neg lM,if_pos (show(xx a b).kind=4 from rfl)];have:n≠0:=fun h=>by have:=h0 h;rw[uk] at this;omega
  exact .lam n g a b _ h1 h2 (H _ (g++[a]) b (zm hg (zg (z4 ha h1) zk)) (z4 hb h2) kn fun _=>h2)
theorem Dk.Jo{d:Dk}(H:Qc rec n)(hp:pos=true->2<=n)(hg:Aj g)(ht:t.small)(h0:n=0->t.size=1):Mk (n+1) g t (d.mid rec pos g t).1:=by
 unfold Dk.mid Dk.m0 Dk.m1 Dk.m2 Dk.m3 Dk.m4 Dk.m5;by_cases hpos:pos=true
 .have hn:=hp hpos;have hs:=Dk.type0 (d.next 8).2;have hss:=z4 hs.1 hs.2;rw[if_pos hpos];split
  .exact .app n g t _ _ _ hn hs.1 hs.2 (H _ _ _ (zm hg (zg hss zk)) ht kn kn) (H _ _ _ hg hss kn kn)
  .split
   .exact .fst n g t _ _ _ hn hs.1 hs.2 (H _ _ _ hg ht kn kn) (H _ _ _ hg hss kn kn)
   .split
    .obtain ⟨m,hm,e⟩:=Rh (rec (rec (d.next 8).2 (g++[Ac,t]) t).2 g t).2;simp only[e];exact .recu n g t _ _ m hn hm (H _ _ _ (zm hg (zg zj (zg ht zk))) ht kn kn) (H _ _ _ hg ht kn kn)
    .split
     .exact .fold n g t _ _ _ hn (H _ _ _ (zm hg (zg zj (zg xu (zg ht zk)))) ht kn kn) (H _ _ _ hg ht kn kn) (H _ _ _ hg xu kn kn)
     .split
      .exact .snd n g t _ _ _ hn hs.1 hs.2 (H _ _ _ hg hss kn kn) (H _ _ _ hg ht kn kn)
      .split
       .split
        .rename_i i hi;obtain⟨h1,h2⟩:=Zxo hi;obtain⟨s,h3,h4,h5⟩:=Yh7 hg h1 h2;simp only[h5,xx,Ty.Af,OD];exact .ctx n g t s _ hn i h1 h5 h4 (H _ _ _ hg (z4 h3 h4) kn kn)
        .exact Dk.GG H hp hg ht h0
       .exact Dk.GG H hp hg ht h0
 .rw[if_neg hpos];exact Dk.GG H hp hg ht h0
theorem Dk.LR{d:Dk}(H:Qc rec n)(hp:pos=true->2<=n)(hg:Aj g)(ht:t.small)(h0:n=0->t.size=1):Mk (n+1) g t (d.gen rec pos g t).1:=by
 unfold Dk.gen;split
 .exact Dk.Jo H hp hg ht h0
 .rename_i hl;split
  .obtain ⟨j,e,h1,h2⟩:=Zxj (d.next 3).2 hl;simp only[e];exact .var n g t j h1 h2
  .exact Dk.Jo H hp hg ht h0
theorem Dk.C8:∀n,Qc (Dk.tm n) n
 |0=>fun d g t _ _ h _=>kn
 |n+1=>fun d g t hg ht _ h1=>Dk.LR (Dk.C8 n) ko hg ht kn
theorem QN:∀m,(Cy m).full=2*(m+1)
 |0=>rfl
 |m+1=>by simp[Cy,Tm.full,Tm.Ay,QN m,Ty.size,Ty.sizes];omega
theorem Mk.full{n:Nat}{g:List Ty}{t:Ty}{x:Tm}(h:Mk n g t x):Aj g->t.small->x.full+20<=20*3^n:=by
 have e1:BH.size=1:=rfl;have e2:(Ty.mk 0 []).size=1:=rfl;have p:∀n,1<=3^n:=fun n=>Nat.one_le_pow _ _ kn;have q:∀n,3^(n+1)=3*3^n:=fun n=>kn
 induction h with
 |var n g t i hi h=>intro hg ht;have:=p n;have:=q n;simp[vT,Tm.full,Tm.Ay,e2];omega
 |app n g t s a b hn hs h1 ha hb iha ihb=>
  intro hg ht;have:=iha (zm hg (zg (z4 hs h1) zk)) ht;have:=ihb hg (z4 hs h1);have:=p n;have:=q n;simp[AE,Be,Tm.full,Tm.Ay,e2,h1];omega
 |fst n g t s a b hn hs h1 ha hb iha ihb=>
  intro hg ht;have:=iha hg ht;have:=ihb hg (z4 hs h1);have:=p n;have:=q n;simp[nT,Tm.full,Tm.Ay,e2];omega
 |snd n g t s a b hn hs h1 ha hb iha ihb=>
  intro hg ht;have:=iha hg (z4 hs h1);have:=ihb hg ht;have:=p n;have:=q n;simp[nT,Tm.full,Tm.Ay,e2];omega
 |recu n g t a b m hn hm ha hb iha ihb=>
  intro hg ht;have:=iha (zm hg (zg zj (zg ht zk))) ht;have:=ihb hg ht;have:=ht.2;have:=p n;have:=q n;have e3:Ac.size=1:=rfl;simp[hT,Be,Tm.full,Tm.Ay,e3,QN];omega
 |fold n g t a b c hn ha hb hc iha ihb ihc=>
  intro hg ht;have:=iha (zm hg (zg zj (zg xu (zg ht zk)))) ht;have:=ihb hg ht;have:=ihc hg xu;have:=ht.2;have:=p n;have:=q n;have e3:Ac.size=1:=rfl;have e4:Al.size=1:=rfl;simp[hT,Be,Tm.full,Tm.Ay,e3,e4];omega
 |ctx n g t s a hn i hi h h1 ha iha=>
  intro hg ht;have hs:s.shape=true:=by
   have:=TU hg hi;rw[h] at this;have:=fF.1 ((fD _ _).mp ((Ty.Ak _).symm.trans this.1)).2 s lM;omega
  have:=iha hg (z4 hs h1);have:=p n;have:=q n;simp[AE,vT,Tm.full,Tm.Ay,e2];omega
 |succ n g a hn ha iha=>intro hg ht;have:=iha hg zj;have:=p n;have:=q n;simp[sT,Tm.full,Tm.Ay,e2];omega
 |plus n g a b hn ha hb iha ihb=>
  intro hg ht;have:=iha hg zj;have:=ihb hg zj;have:=p n;have:=q n;have e5:Bt.full<=18:=kq
  simp[AE,Tm.full,Tm.Ay,e2];omega
 |sub n g a b hn ha hb iha ihb=>
  intro hg ht;have:=iha hg zj;have:=ihb hg zj;have:=p n;have:=q n;have e5:Ek.full<=36:=kq
  simp[AE,Tm.full,Tm.Ay,e2];omega
 |num n g m hm=>intro hg ht;have:=p n;have:=q n;rw[QN];omega
 |cons n g a b hn ha hb iha ihb=>
  intro hg ht;have:=iha hg zj;have:=ihb hg xu;have:=p n;have:=q n;simp[nT,Tm.full,Tm.Ay,e2];omega
 |nil n g=>intro hg ht;have:=p n;have:=q n;simp[nT,Tm.full,Tm.Ay,e2];omega
 |pair n g s t a b h1 h2 ha hb iha ihb=>
  intro hg ht;have hs:=fF.1 ((fD _ _).mp ((Ty.Ak _).symm.trans ht.1)).2;have:=iha hg (z4 (hs s lU) h1);have:=ihb hg (z4 (hs t lU) h2);have:=p n;have:=q n;simp[nT,Tm.full,Tm.Ay,e2];omega
 |lam n g s t a h1 h2 ha iha=>
  intro hg ht;have hs:=fF.1 ((fD _ _).mp ((Ty.Ak _).symm.trans ht.1)).2;have:=iha (zm hg (zg (z4 (hs s lM) h1) zk)) (z4 (hs t lM) h2);have:=p n;have:=q n;simp[Be,Tm.full,Tm.Ay,h1];omega
 |unit n g=>intro hg ht;have:=p n;have:=q n;simp[nT,Tm.full,Tm.Ay,e2];omega
variable{b:Ty}
theorem UZ{a:Ty}(h:(Ty.mk k [a,b]).shape=true):a.shape=true/\b.shape=true:=by
 have hs:=fF.1 ((fD _ _).mp ((Ty.Ak _).symm.trans h)).2;simp_all
variable{x:Tm}
theorem Mk.ind{P:Nat->List Ty->Ty->Tm->Prop}
 (var:∀n g t (i:Nat),i<g.length->BI g (g.length-1-i)=t->Aj g->t.small->P (n+1) g t (vT i))
 (app:∀n g t s a b,2<=n->s.shape=true->s.size=1->Aj g->t.small->P n (g++[s]) t a->P n g s b->P (n+1) g t (AE (Be s a) b))
 (fst:∀n g t s a b,2<=n->s.shape=true->s.size=1->Aj g->t.small->P n g t a->P n g s b->P (n+1) g t (nT 11 [nT 10 [a,b]]))
 (snd:∀n g t s a b,2<=n->s.shape=true->s.size=1->Aj g->t.small->P n g s a->P n g t b->P (n+1) g t (nT 12 [nT 10 [a,b]]))
 (recu:∀n g t a b m,2<=n->m<3->Aj g->t.small->P n (g++[Ac,t]) t a->P n g t b->P (n+1) g t (hT 6 t [b,Be Ac (Be t a),Cy m]))
 (fold:∀n g t a b c,2<=n->Aj g->t.small->P n (g++[Ac,Al,t]) t a->P n g t b->P n g Al c->P (n+1) g t (hT 9 t [b,Be Ac (Be Al (Be t a)),c]))
 (ctx:∀n g t s a (i:Nat),2<=n->i<g.length->BI g (g.length-1-i)=xx s t->s.shape=true->s.size=1->Aj g->t.small->P n g s a->P (n+1) g t (AE (vT i) a))
 (succ:∀n g a,2<=n->Aj g->P n g Ac a->P (n+1) g Ac (sT a))
 (plus:∀n g a b,2<=n->Aj g->P n g Ac a->P n g Ac b->P (n+1) g Ac (AE (AE Bt a) b))
 (sub:∀n g a b,2<=n->Aj g->P n g Ac a->P n g Ac b->P (n+1) g Ac (AE (AE Ek a) b))
 (num:∀n g m,m<3->Aj g->P (n+1) g Ac (Cy m))
 (cons:∀n g a b,2<=n->Aj g->P n g Ac a->P n g Al b->P (n+1) g Al (nT 8 [a,b]))
 (nil:∀n g,Aj g->P (n+1) g Al (nT 7 []))
 (pair:∀n g s t a b,s.shape=true->t.shape=true->s.size=1->t.size=1->1<=n->Aj g->P n g s a->P n g t b->P (n+1) g (C4 s t) (nT 10 [a,b]))
 (lam:∀n g s t a,s.shape=true->t.shape=true->s.size=1->t.size=1->1<=n->Aj g->P n (g++[s]) t a->P (n+1) g (xx s t) (Be s a))
 (unit:∀n g,Aj g->P (n+1) g Kj (nT 13 [])) (h:Mk n g t x):Aj g->t.small->P n g t x:=by
 have one:∀{n g t x},Mk n g t x->1<=n:=fun h=>by cases h<;>omega
 induction h with
 |var n g t i hi h=>grind
 |app n g t s a b hn hs h1 ha hb iha ihb=>exact fun hg ht=>app n g t s a b hn hs h1 hg ht (iha (zm hg (zg (z4 hs h1) zk)) ht) (ihb hg (z4 hs h1))
 |fst n g t s a b hn hs h1 ha hb iha ihb=>exact fun hg ht=>fst n g t s a b hn hs h1 hg ht (iha hg ht) (ihb hg (z4 hs h1))
 |snd n g t s a b hn hs h1 ha hb iha ihb=>exact fun hg ht=>snd n g t s a b hn hs h1 hg ht (iha hg (z4 hs h1)) (ihb hg ht)
 |recu n g t a b m hn hm ha hb iha ihb=>exact fun hg ht=>recu n g t a b m hn hm hg ht (iha (zm hg (zg zj (zg ht zk))) ht) (ihb hg ht)
 |fold n g t a b c hn ha hb hc iha ihb ihc=>exact fun hg ht=>fold n g t a b c hn hg ht (iha (zm hg (zg zj (zg xu (zg ht zk)))) ht) (ihb hg ht) (ihc hg xu)
 |ctx n g t s a hn i hi h h1 ha iha=>
  intro hg ht;have hs:s.shape=true:=by
   have:=TU hg hi;rw[h] at this;exact(UZ this.1).1
  exact ctx n g t s a i hn hi h hs h1 hg ht (iha hg (z4 hs h1))
 |succ n g a hn ha iha=>grind
 |plus n g a b hn ha hb iha ihb=>grind
 |sub n g a b hn ha hb iha ihb=>grind
 |num n g m hm=>grind
 |cons n g a b hn ha hb iha ihb=>exact fun hg ht=>cons n g a b hn hg (iha hg zj) (ihb hg xu)
 |nil n g=>grind
 |pair n g s t a b h1 h2 ha hb iha ihb=>exact fun hg ht=>have hs:=UZ ht.1;pair n g s t a b hs.1 hs.2 h1 h2 (one ha) hg (iha hg (z4 hs.1 h1)) (ihb hg (z4 hs.2 h2))
 |lam n g s t a h1 h2 ha iha=>exact fun hg ht=>have hs:=UZ ht.1;lam n g s t a hs.1 hs.2 h1 h2 (one ha) hg (iha (zm hg (zg (z4 hs.1 h1) zk)) (z4 hs.2 h2))
 |unit n g=>grind
@[simp] theorem dA(b:Ty):(xx a b).kind=4:=rfl
@[simp] theorem Y5(b:Ty):(xx a b).args=[a,b]:=rfl
@[simp] theorem Yq7(b:Ty):(C4 a b).kind=3:=rfl
@[simp] theorem Yqn(b:Ty):(C4 a b).args=[a,b]:=rfl
theorem cS(h:t.err=0):A9 t=(t,0):=if_pos h
theorem uy(h:t.small):t.err=0:=(Ty.Aa t).2 ⟨h.1,by have:=h.2;omega⟩
variable{a:Ty}
theorem My(ha:a.shape=true)(hb:b.shape=true):(xx a b).shape=true:=by simp[Ty.Ak (xx a b),ha,hb,Ey]
theorem TP(ha:a.shape=true)(hb:b.shape=true):(C4 a b).shape=true:=by simp[Ty.Ak (C4 a b),ha,hb,Ey]
theorem Nr(ha:a.shape=true)(hb:b.shape=true)(h:a.size+b.size<=60):(xx a b).err=0:=(Ty.Aa _).2 ⟨My ha hb,nG⟩
theorem Vr(ha:a.shape=true)(hb:b.shape=true)(h:a.size+b.size<=60):(C4 a b).err=0:=(Ty.Aa _).2 ⟨TP ha hb,by rw[KP];omega⟩
def FK(g:List Ty)(i:Nat):Ty:=BI g (g.length-1-i)
variable(g:List Ty)
theorem Re(i:Nat)(h:i<g.length):(vT i).inf g=(FK g i,0):=by
 rw[Tm.Ba];have h1:¬((i:Int)>=(g.length:Int)):=kn
 simp[vT,h1,FK]
theorem Vz(a:Ty):FK (g++[a]) 0=a:=by simp[FK,BI]
theorem XI(a:Ty)(i:Nat)(h:i<g.length):FK (g++[a]) (i+1)=FK g i:=by
 have e:g.length+1-1-(i+1)=g.length-1-i:=kn
 simp only[FK,BI,ga,fQ,gB,gN,e,gy]
 grind
theorem PO(a:Ty):(vT 0).inf (g++[a])=(a,0):=by
 have:=Re (g++[a]) 0 ko;rw[Vz] at this;omega
theorem WZ(a b:Ty):(vT 1).inf (g++[a]++[b])=(a,0):=by
 have:=Re (g++[a]++[b]) 1 ko;rw[XI (g++[a]) b 0 ko,Vz] at this;omega
variable{s:Ty}{g:List Ty}
theorem ve(h:x.inf (g++[s])=(t,0))(he:(xx s t).err=0):(Be s x).inf g=(xx s t,0):=by
 rw[Tm.Ba];simp[Be,Tm.A1,h,cS he]
theorem Le{f:Tm}(hf:f.inf g=(xx s t,0))(hx:x.inf g=(s,0)):(AE f x).inf g=(t,0):=by
 rw[Tm.Ba];simp[AE,Tm.A1,hf,hx,Cd]
theorem Tz(h:x.inf g=(Ac,0)):(sT x).inf g=(Ac,0):=by
 rw[Tm.Ba];simp[sT,Tm.A1,h,Cd]
theorem TZ(g:List Ty):zT.inf g=(Ac,0):=by
 rfl
theorem RL(g:List Ty):∀m,(Cy m).inf g=(Ac,0)
 |0=>TZ g
 |m+1=>Tz (RL g m)
variable{b:Tm}
theorem Sx{f:Tm}(hb:b.inf g=(t,0))(hf:f.inf g=(xx Ac (xx t t),0))(hx:x.inf g=(Ac,0)):(hT 6 t [b,f,x]).inf g=(t,0):=by
 rw[Tm.Ba];simp[hT,Tm.A1,hb,hf,hx,Cd]
theorem Yih{f:Tm}(hb:b.inf g=(t,0))(hf:f.inf g=(xx Ac (xx Al (xx t t)),0))(hx:x.inf g=(Al,0)):(hT 9 t [b,f,x]).inf g=(t,0):=by
 rw[Tm.Ba];simp[hT,Tm.A1,hb,hf,hx,Cd]
variable{a:Tm}
theorem Q0(ha:a.inf g=(s,0))(hb:b.inf g=(t,0))(he:(C4 s t).err=0):(nT 10 [a,b]).inf g=(C4 s t,0):=by
 rw[Tm.Ba];simp[nT,Tm.A1,ha,hb,Cd,cS he]
theorem Yni(h:x.inf g=(C4 s t,0)):(nT 11 [x]).inf g=(s,0):=by
 rw[Tm.Ba];simp[nT,Tm.A1,h,Cd]
theorem Ynj(h:x.inf g=(C4 s t,0)):(nT 12 [x]).inf g=(t,0):=by
 rw[Tm.Ba];simp[nT,Tm.A1,h,Cd]
theorem Yhp(ha:a.inf g=(Ac,0))(hb:b.inf g=(Al,0)):(nT 8 [a,b]).inf g=(Al,0):=by
 rw[Tm.Ba];simp[nT,Tm.A1,ha,hb,Cd]
theorem aC{a:Ty}(ha:a.shape=true)(h:a.size<=30):(xx Ac a).err=0:=Nr rfl ha (by have:Ac.size=1:=rfl;omega)
theorem Yh2(g:List Ty):Bt.inf g=(xx Ac (xx Ac Ac),0):=by
 refine ve (s:=Ac) (ve (s:=Ac) (Sx (t:=Ac) (WZ g Ac Ac) (ve (s:=Ac) (ve (s:=Ac) (Tz (PO _ _)) rfl) rfl) (PO _ _)) rfl) rfl
theorem Yf9(g:List Ty):BT.inf g=(xx Ac Ac,0):=by
 refine ve (s:=Ac) (Sx (t:=Ac) (TZ _) (ve (s:=Ac) (ve (s:=Ac) (WZ _ Ac Ac) rfl) rfl) (PO _ _)) rfl
theorem Yl5(g:List Ty):Ek.inf g=(xx Ac (xx Ac Ac),0):=by
 refine ve (s:=Ac) (ve (s:=Ac) (Sx (t:=Ac) (WZ g Ac Ac) (ve (s:=Ac) (ve (s:=Ac) (Le (Yf9 _) (PO _ _)) rfl) rfl) (PO _ _)) rfl) rfl
theorem Mk.inf{n:Nat}{g:List Ty}{t:Ty}{x:Tm}(h:Mk n g t x)(hg:Aj g)(ht:t.small):x.inf g=(t,0):=by
 refine Mk.ind (P:=fun n g t x=>x.inf g=(t,0)) ?_ ?_ ?_ ?_ ?_ ?_ ?_ ?_ ?_ ?_ ?_ ?_ ?_ ?_ ?_ ?_ h hg ht
 .intro n g t i hi h _ _;rw[Re g i hi];rw[<-h];rfl
 .intro n g t s a b _ hs h1 _ ht ha hb;exact Le (ve ha (Nr hs ht.1 oo)) hb
 .intro n g t s a b _ hs h1 _ ht ha hb;exact Yni (Q0 ha hb (Vr ht.1 hs oo))
 .intro n g t s a b _ hs h1 _ ht ha hb;exact Ynj (Q0 ha hb (Vr hs ht.1 oo))
 .intro n g t a b m _ _ _ ht ha hb;have h2:=ht.2;refine Sx hb (ve (ve kr (Nr ht.1 ht.1 kn)) (aC (My ht.1 ht.1) nG)) (RL g m)
 .intro n g t a b c _ _ ht ha hb hc;have h2:=ht.2;have e1:Al.size=1:=rfl;refine Yih hb (ve (ve (ve kr (Nr ht.1 ht.1 kn)) (Nr rfl (My ht.1 ht.1) nG)) (aC (My rfl (My ht.1 ht.1)) (by rw[uk,uk];omega))) hc
 .intro n g t s a i _ hi h _ _ _ _ ha;exact Le (s:=s) (by rw[Re g i hi];rw[<-h];rfl) ha
 .intro n g a _ _ ha;exact Tz ha
 .intro n g a b _ _ ha hb;exact Le (Le (Yh2 g) ha) hb
 .intro n g a b _ _ ha hb;exact Le (Le (Yl5 g) ha) hb
 .intro n g m _ _;exact RL g m
 .intro n g a b _ _ ha hb;exact Yhp ha hb
 .intro n g _;rfl
 .intro n g s t a b hs ht h1 h2 _ _ ha hb;exact Q0 ha hb (Vr hs ht kn)
 .intro n g s t a hs ht h1 h2 _ _ ha;exact ve ha (Nr hs ht kn)
 .intro n g _;rfl
theorem XF:(Ty.mk 0 []).Bv=true:=rfl
theorem S0{l:List Tm}(hk:CV k=some l.length)(ht:x9 k=false)(h:∀x∈l,x.shape=true):(nT k l).shape=true:=by
 have:l.all Tm.shape=true:=fF.2 h;simp[nT,Tm.Ak,Tm.head,hk,ht,XF,this]
theorem Nm(h1:t.shape=true)(h2:t.size<=64):t.ok=true:=by simp[Ty.ok,h1,h2]
theorem ah{l:List Tm}(hk:CV k=some l.length)(ht:x9 k=true)(hs:s.ok=true)(h:∀x∈l,x.shape=true):(hT k s l).shape=true:=by
 have:l.all Tm.shape=true:=fF.2 h;simp[hT,Tm.Ak,Tm.head,hk,ht,hs,this]
theorem Jx(i:Int)(h:0<=i):(vT i).shape=true:=by
 have:x9 1=false:=rfl;simp[vT,Tm.Ak,Tm.head,CV,this,XF,h]
theorem V8:∀m,(Cy m).shape=true
 |0=>rfl
 |m+1=>S0 (k:=5) (l:=[Cy m]) rfl rfl (by simp[V8 m])
theorem v8(hk:CV k=some 2)(ht:x9 k=false)(ha:a.shape=true)(hb:b.shape=true):(nT k [a,b]).shape=true:=S0 hk ht kr
theorem Tr(hk:CV k=some 1)(ht:x9 k=false)(ha:a.shape=true):(nT k [a]).shape=true:=S0 hk ht kr
theorem K3(hs:s.ok=true)(ha:a.shape=true):(Be s a).shape=true:=ah (k:=2) rfl rfl hs kr
theorem aB{c:Tm}(hk:CV k=some 3)(ht:x9 k=true)(hs:s.ok=true)(ha:a.shape=true)(hb:b.shape=true)(hc:c.shape=true):(hT k s [a,b,c]).shape=true:=ah hk ht hs kr
theorem Mk.shape{n:Nat}{g:List Ty}{t:Ty}{x:Tm}(h:Mk n g t x)(hg:Aj g)(ht:t.small):x.shape=true:=by
 have ok:∀{t:Ty},t.small->t.ok=true:=fun h=>Nm h.1 (by have:=h.2;omega);refine Mk.ind (P:=fun n g t x=>x.shape=true) ?_ ?_ ?_ ?_ ?_ ?_ ?_ ?_ ?_ ?_ ?_ ?_ ?_ ?_ ?_ ?_ h hg ht
 .intro n g t i hi h _ _;exact Jx _ kn
 .intro n g t s a b _ hs h1 _ ht ha hb;exact v8 (k:=3) rfl rfl (K3 (ok (z4 hs h1)) ha) hb
 .exact sR
 .exact sR
 .intro n g t a b m _ _ _ ht ha hb;exact aB rfl rfl (ok ht) hb (K3 rfl (K3 (ok ht) ha)) (V8 m)
 .intro n g t a b c _ _ ht ha hb hc;exact aB rfl rfl (ok ht) hb (K3 rfl (K3 rfl (K3 (ok ht) ha))) hc
 .intro n g t s a i _ hi h _ _ _ _ ha;exact v8 (k:=3) rfl rfl (Jx _ kn) ha
 .intro n g a _ _ ha;exact Tr (k:=5) rfl rfl ha
 .exact sL
 .exact sL
 .intro n g m _ _;exact V8 m
 .intro n g a b _ _ ha hb;exact v8 rfl rfl ha hb
 .intro n g _;rfl
 .intro n g s t a b hs ht h1 h2 _ _ ha hb;exact v8 rfl rfl ha hb
 .intro n g s t a hs ht h1 h2 _ _ ha;exact K3 (ok (z4 hs h1)) ha
 .intro n g _;rfl
def s1:Nat->Nat
 |0=>3|1=>3|2=>3|3=>24|n+4=>3*s1 (n+3)+4
def s3:Nat->Nat
 |0=>7|1=>7|2=>7|3=>24|n+4=>3*s1 (n+3)+4
theorem Uj:∀n,3<=n->24<=s1 n
 |0,h=>kn
 |1,h=>kn
 |2,h=>kn
 |3,_=>kq
 |n+4,_=>by have:=Uj (n+3) kn;simp only[s1];omega
theorem Yf:∀n,3<=n->s3 n=s1 n
 |0,h=>kn
 |1,h=>kn
 |2,h=>kn
 |3,_=>rfl
 |n+4,_=>rfl
theorem IZ(n:Nat)(hn:2<=n):3*s1 n+4<=s1 (n+1)/\2*s1 n+18<=s1 (n+1)/\2*s3 n+s1 n+4<=s3 (n+1)/\s1 (n+1)<=s3 (n+1)/\3<=s1 n/\s1 n<=s3 n/\2*s3 n+6<=s3 (n+1)/\s3 n+s1 n+2<=s3 (n+1):=by
 match n,hn with
 |2,_=>decide
 |n+3,_=>
  have h1:=Uj (n+3) kn;have h2:=Yf (n+3) kn;have h3:s1 (n+3+1)=3*s1 (n+3)+4:=rfl;have h4:s3 (n+3+1)=3*s1 (n+3)+4:=rfl;omega
theorem QG(n:Nat):3<=s1 n/\s1 n<=s3 n/\7<=s3 n:=by
 match n with
 |0=>decide
 |1=>decide
 |2=>decide
 |n+3=>have h1:=Uj (n+3) kn;have h2:=Yf (n+3) kn;omega
theorem cO(n:Nat)(hn:1<=n):2*s1 n+1<=s3 (n+1):=by
 match n,hn with
 |1,_=>decide
 |n+2,_=>have:=IZ (n+2) kn;omega
theorem Ts:∀m,(Cy m).size=m+1
 |0=>rfl
 |m+1=>by simp[Cy,Tm.size,Tm.sizes,Ts m];omega
theorem Mk.size{n:Nat}{g:List Ty}{t:Ty}{x:Tm}(h:Mk n g t x)(hg:Aj g)(ht:t.small):x.size<=s3 n/\(t.size=1->x.size<=s1 n):=by
 have e1:Ac.size=1:=rfl;have e2:Al.size=1:=rfl;refine Mk.ind (P:=fun n g t x=>x.size<=s3 n/\(t.size=1->x.size<=s1 n)) ?_ ?_ ?_ ?_ ?_ ?_ ?_ ?_ ?_ ?_ ?_ ?_ ?_ ?_ ?_ ?_ h hg ht
 .intro n g t i hi h _ _;have:=QG (n+1);simp[vT,Tm.size,Tm.sizes];omega
 .intro n g t s a b hn hs h1 _ ht ha hb;have:=IZ n hn;have:=hb.2 h1;simp[AE,Be,Tm.size,Tm.sizes];omega
 .intro n g t s a b hn hs h1 _ ht ha hb;have:=IZ n hn;have:=hb.2 h1;simp[nT,Tm.size,Tm.sizes];omega
 .intro n g t s a b hn hs h1 _ ht ha hb;have:=IZ n hn;have:=ha.2 h1;simp[nT,Tm.size,Tm.sizes];omega
 .intro n g t a b m hn hm _ ht ha hb;have:=IZ n hn;simp[hT,Be,Tm.size,Tm.sizes,Ts];omega
 .intro n g t a b c hn _ ht ha hb hc;have:=IZ n hn;have:=hc.2 e2;simp[hT,Be,Tm.size,Tm.sizes];omega
 .intro n g t s a i hn hi h _ h1 _ _ ha;have:=IZ n hn;have:=ha.2 h1;simp[AE,vT,Tm.size,Tm.sizes];omega
 .intro n g a hn _ ha;have:=IZ n hn;have:=ha.2 e1;simp[sT,Tm.size,Tm.sizes];omega
 .intro n g a b hn _ ha hb;have:=IZ n hn;have:=ha.2 e1;have:=hb.2 e1;have:Bt.size=9:=rfl;simp[AE,Tm.size,Tm.sizes];omega
 .intro n g a b hn _ ha hb;have:=IZ n hn;have:=ha.2 e1;have:=hb.2 e1;have:Ek.size=16:=rfl;simp[AE,Tm.size,Tm.sizes];omega
 .intro n g m hm _;have:=QG (n+1);rw[Ts];omega
 .intro n g a b hn _ ha hb;have:=IZ n hn;have:=ha.2 e1;have:=hb.2 e2;simp[nT,Tm.size,Tm.sizes];omega
 .intro n g _;have:=QG (n+1);simp[nT,Tm.size,Tm.sizes];omega
 .intro n g s t a b hs ht h1 h2 hn _ ha hb;have:=cO n hn;have:=ha.2 h1;have:=hb.2 h2;rw[KP];simp[nT,Tm.size,Tm.sizes];omega
 .intro n g s t a hs ht h1 h2 hn _ ha;have:=cO n hn;have:=ha.2 h2;rw[uk];simp[Be,Tm.size,Tm.sizes];omega
 .intro n g _;have:=QG (n+1);simp[nT,Tm.size,Tm.sizes];omega
def c1:Nat->Nat
 |0=>1|1=>1|2=>1|n+3=>3*c1 (n+2)
def c3:Nat->Nat
 |0=>1|1=>1|2=>2|n+3=>2*c3 (n+2)+c1 (n+2)
theorem VN:∀n,1<=c1 n
 |0=>kq
 |1=>kq
 |2=>kq
 |n+3=>by have:=VN (n+2);simp only[c1];omega
theorem Ig:∀n,c1 n<=c3 n
 |0=>kq
 |1=>kq
 |2=>kq
 |n+3=>by have:=Ig (n+2);simp only[c1,c3];omega
theorem Jv(n:Nat)(hn:2<=n):3*c1 n<=c1 (n+1)/\2*c3 n+c1 n<=c3 (n+1):=by
 match n,hn with
 |n+2,_=>exact⟨fB _,fB _⟩
theorem bB(n:Nat)(hn:1<=n):2*c1 n<=c3 (n+1):=by
 match n,hn with
 |1,_=>decide
 |n+2,_=>have:=Jv (n+2) kn;have:=Ig (n+2);omega
theorem NJ(at_ b k i:Int)(h:Ty)(xs:List Tm)(hk:k≠1):cnt at_ ((Tm.mk k i h xs).vars b)=(xs.map fun x=>cnt at_ (x.vars (up k b))).sum:=by
 rw[Tm.AY];simp only[Tm.Ai,Tm.Af,hk,if_false,gz];induction xs with
 |nil=>rfl
 |cons x l ih=>simp only[gx,xy,fJ,fT,ih]
theorem PA{b:Int}(h:k≠2):up k b=b:=if_neg h
theorem G3(at_ b k:Int)(xs:List Tm)(hk:k≠1)(h2:k≠2):cnt at_ ((nT k xs).vars b)=(xs.map fun x=>cnt at_ (x.vars b)).sum:=by
 have:=NJ at_ b k 0 (.mk 0 []) xs hk;rw[PA h2] at this;exact this
theorem PR(at_ b k:Int)(s:Ty)(xs:List Tm)(hk:k≠1)(h2:k≠2):cnt at_ ((hT k s xs).vars b)=(xs.map fun x=>cnt at_ (x.vars b)).sum:=by
 have:=NJ at_ b k 0 s xs hk;rw[PA h2] at this;exact this
theorem IE(at_ b:Int)(s:Ty)(x:Tm):cnt at_ ((Be s x).vars b)=cnt at_ (x.vars (b+1)):=by
 have:=NJ at_ b 2 0 s [x] kn;refine this.trans ?_
 rfl
theorem LQ(at_ b:Int)(f x:Tm):cnt at_ ((AE f x).vars b)=cnt at_ (f.vars b)+cnt at_ (x.vars b):=by
 have:=G3 at_ b 3 [f,x] kn kn;refine this.trans ?_;simp
theorem JQ(at_ b i:Int):cnt at_ ((vT i).vars b)=if i-b=at_ then 1 else 0:=by
 rw[Tm.AY];simp only[vT,Tm.Ai,Tm.AG,Tm.Af,if_true,je,gq];exact vx at_ (i,b)
theorem SZ(at_ b:Int):∀m,cnt at_ ((Cy m).vars b)=0
 |0=>(G3 at_ b 4 [] kn kn).trans ko
 |m+1=>(G3 at_ b 5 [Cy m] kn kn).trans (by simp[SZ at_ b m])
theorem Yh5(at_ b:Int)(hb:0<=b)(ha:0<=at_):cnt at_ (Bt.vars b)=0:=by
 have e1:Bt=Be Ac (Be Ac (hT 6 Ac [vT 1,Be Ac (Be Ac (nT 5 [vT 0])),vT 0])):=rfl;rw[e1,IE,IE,PR at_ _ 6 _ _ kn kn];simp only[fJ,fU,fT,gu,IE,JQ,G3 at_ _ 5 _ kn kn]
 grind
theorem Yhi(at_ b:Int)(hb:0<=b)(ha:0<=at_):cnt at_ (BT.vars b)=0:=by
 have e1:BT=Be Ac (hT 6 Ac [nT 4 [],Be Ac (Be Ac (vT 1)),vT 0]):=rfl;rw[e1,IE,PR at_ _ 6 _ _ kn kn];simp only[fJ,fU,fT,gu,IE,JQ,G3 at_ _ 4 _ kn kn]
 grind
theorem Yle(at_ b:Int)(hb:0<=b)(ha:0<=at_):cnt at_ (Ek.vars b)=0:=by
 have e1:Ek=Be Ac (Be Ac (hT 6 Ac [vT 1,Be Ac (Be Ac (AE BT (vT 0))),vT 0])):=rfl;rw[e1,IE,IE,PR at_ _ 6 _ _ kn kn];simp only[fJ,fU,fT,gu,IE,JQ,LQ];rw[Yhi at_ _ kn ha]
 grind
theorem Mk.cnt{n:Nat}{g:List Ty}{t:Ty}{x:Tm}(h:Mk n g t x)(hg:Aj g)(ht:t.small){at_:Int}(hat:0<=at_):∀b:Int,0<=b->cnt at_ (x.vars b)<=c3 n/\(t.size=1->cnt at_ (x.vars b)<=c1 n):=by
 have e1:Ac.size=1:=rfl;have e2:Al.size=1:=rfl;refine Mk.ind (P:=fun n g t x=>∀b:Int,0<=b->Go.Ab.cnt at_ (x.vars b)<=c3 n/\(t.size=1->Go.Ab.cnt at_ (x.vars b)<=c1 n)) ?_ ?_ ?_ ?_ ?_ ?_ ?_ ?_ ?_ ?_ ?_ ?_ ?_ ?_ ?_ ?_ h hg ht
 .intro n g t i hi h _ _ b hb;have:=VN (n+1);have:=Ig (n+1);rw[JQ];grind
 .intro n g t s a b hn hs h1 _ ht iha ihb z hz;have:=Jv n hn;have:=iha (z+1) kn;have hb:=ihb z hz;have:=hb.2 h1;have:=Ig n;rw[LQ,IE];omega
 .intro n g t s a b hn hs h1 _ ht iha ihb z hz;have:=Jv n hn;have ha:=iha z hz;have hb:=ihb z hz;have:=hb.2 h1;have:=Ig n;rw[G3 _ _ _ _ kn kn];simp only[fJ,fU,fT,gu];rw[G3 _ _ _ _ kn kn];grind
 .intro n g t s a b hn hs h1 _ ht iha ihb z hz;have:=Jv n hn;have ha:=iha z hz;have hb:=ihb z hz;have:=ha.2 h1;have:=Ig n;rw[G3 _ _ _ _ kn kn];simp only[fJ,fU,fT,gu];rw[G3 _ _ _ _ kn kn];grind
 .intro n g t a b m hn hm _ ht iha ihb z hz;have:=Jv n hn;have ha:=iha (z+1+1) kn;have hb:=ihb z hz;have:=Ig n;rw[PR _ _ _ _ _ kn kn];simp only[fJ,fU,fT,gu,IE,SZ];omega
 .intro n g t a b c hn _ ht iha ihb ihc z hz;have:=Jv n hn;have ha:=iha (z+1+1+1) kn;have hb:=ihb z hz;have hc:=ihc z hz;have:=hc.2 e2;have:=Ig n;rw[PR _ _ _ _ _ kn kn];simp only[fJ,fU,fT,gu,IE];omega
 .intro n g t s a i hn hi h _ h1 _ _ iha z hz;have:=Jv n hn;have ha:=iha z hz;have:=ha.2 h1;have:=Ig n;have:=VN n;rw[LQ,JQ];grind
 .intro n g a hn _ iha z hz;have:=Jv n hn;have ha:=iha z hz;have:=ha.2 e1;have:=Ig n;have:Go.Ab.cnt at_ ((sT a).vars z)=Go.Ab.cnt at_ (a.vars z):=(G3 at_ z 5 [a] kn kn).trans ko;omega
 .intro n g a b hn _ iha ihb z hz;have:=Jv n hn;have ha:=iha z hz;have hb:=ihb z hz;have:=ha.2 e1;have:=hb.2 e1;have:=Ig n;rw[LQ,LQ,Yh5 at_ z hz hat];omega
 .intro n g a b hn _ iha ihb z hz;have:=Jv n hn;have ha:=iha z hz;have hb:=ihb z hz;have:=ha.2 e1;have:=hb.2 e1;have:=Ig n;rw[LQ,LQ,Yle at_ z hz hat];omega
 .intro n g m hm _ z hz;rw[SZ];omega
 .intro n g a b hn _ iha ihb z hz;have:=Jv n hn;have ha:=iha z hz;have hb:=ihb z hz;have:=ha.2 e1;have:=hb.2 e2;have:=Ig n;rw[G3 _ _ _ _ kn kn];grind
 .intro n g _ z hz;rw[G3 _ _ _ _ kn kn];simp
 .intro n g s t a b hs ht h1 h2 hn _ iha ihb z hz;have:=bB n hn;have ha:=(iha z hz).2 h1;have hb:=(ihb z hz).2 h2;rw[KP,G3 _ _ _ _ kn kn];grind
 .intro n g s t a hs ht h1 h2 hn _ iha z hz;have:=bB n hn;have ha:=(iha (z+1) kn).2 h2;rw[uk,IE];omega
 .intro n g _ z hz;rw[G3 _ _ _ _ kn kn];simp
theorem Ot(t:Tm):∀(g:List Ty) (b:Int) (B:Int),(t.inf g).2=0->t.shape=true->(g.length:Int)+t.size<=B->∀p∈t.vars b,p.1<B:=by
 induction t using Tm.ind with
 |h t ih=>
  intro g b B h hs hB p hp;rw[Tm.Ba] at h;have hsz:=t.size_eq;rw[t.AY,fV] at hp;by_cases h1:t.kind=1
  .have hargs:t.args=[]:=by
    have:=KY hs;rw[h1] at this;exact fX (gV this).symm
   grind
  .rw[if_neg h1] at h hp;simp only[gm,false_or] at hp;obtain⟨x,hx,hp⟩:=gh.1 hp;have hxs:=zc Tm.size hx;by_cases h2:t.kind=2
   .rw[if_pos h2] at h;by_cases h3:(Tm.A1 (g++[t.ty]) t.args).2=0
    .exact ih x hx (g++[t.ty]) _ B (Tm.CH _ _ h3 x hx) (zd hs x hx) kr p hp
    grind
   .rw[if_neg h2] at h;by_cases h3:(Tm.A1 g t.args).2=0
    .exact ih x hx g _ B (Tm.CH _ _ h3 x hx) (zd hs x hx) kn p hp
    grind
variable{t:Tm}
theorem FC{g:Int->Int->Tm}{b:Int}(h:t.kind=1):t.re g b=g t.index b:=by rw[Tm.A4,if_pos h]
theorem wr{g:Int->Int->Tm}{b:Int}(h:t.kind≠1):t.re g b= .mk t.kind t.index t.ty (t.args.map (Tm.re g (up t.kind b))):=by rw[Tm.A4,if_neg h]
theorem KI(hs:t.shape=true)(h:t.kind=1):t.args=[]:=by
 have:=KY hs;rw[h] at this;exact fX (gV this).symm
theorem Jq(hs:t.shape=true)(h:t.kind=1)(b:Int):t.vars b=[(t.index,b)]:=by rw[t.AY,if_pos h,KI hs h];rfl
theorem LV(h:t.kind≠1)(b:Int):t.vars b=t.args.flatMap (Tm.vars (up t.kind b)):=by rw[t.AY,if_neg h];rfl
theorem Pk(h:t.kind≠1){b:Int}(hx:x∈t.args){p:Int×Int}(hp:p∈x.vars (up t.kind b)):p∈t.vars b:=by
 rw[LV h];grind
theorem Q6(g:Int->Int->Tm)(t:Tm):∀b,t.shape=true->(∀p∈t.vars b,(g p.1 p.2).shape=true)->(t.re g b).shape=true:=by
 induction t using Tm.ind with
 |h t ih=>
  intro b hs hg;by_cases h1:t.kind=1
  .rw[FC h1];exact hg (t.index,b) (by rw[Jq hs h1];simp)
  .rw[wr h1];have hs0:=hs;rw[Tm.Ak,fD] at hs ⊢;refine⟨?_,?_⟩
   .have:=hs.1;simp only[Tm.head,Tm.Ai,Tm.Af,Tm.AG,Tm.AO,gH] at this ⊢
    grind
   .simp only[Tm.Af];refine fF.2 fun y hy=> ?_;obtain⟨x,hx,rfl⟩:=fO.1 hy;exact ih x hx _ (fF.1 hs.2 x hx) fun p hp=>hg p (Pk h1 hx hp)
variable{by_:Int}
theorem y6{fr:Int}(b:Int)(hs:t.shape=true)(hb:0<=by_):(t.re (zi fr by_) b).shape=true:=
 Q6 _ t b hs fun p hp=>by
  have:=t.AR hs b p hp;simp only[zi];exact Jx _ kn
variable(fr:Int)
theorem NL(by_:Int)(t:Tm):∀b,t.shape=true->(t.re (zi fr by_) b).size=t.size:=by
 induction t using Tm.ind with
 |h t ih=>
  intro b hs;by_cases h1:t.kind=1
  .rw[FC h1,t.size_eq,KI hs h1];rfl
  .rw[wr h1,t.size_eq,Tm.size_eq];simp only[Tm.Af,gK];congr 2;exact fY fun x hx=>ih x hx _ (zd hs x hx)
theorem Pn{at_:Int}{s:Tm}(b:Int)(hs:s.shape=true)(ht:t.shape=true)(hb:0<=b)(ha:0<=at_)(hv:∀p∈t.vars b,0<=p.2):(t.re (yq at_ s) b).shape=true:=
 Q6 _ t b ht fun p hp=>by
  have:=t.AR ht b p hp;have:=hv p hp;simp only[yq];split
  .exact y6 0 hs kn
  .exact Jx _ kn
theorem yw(t:Tm):∀b:Int,∀p∈t.vars b,b<=p.2:=by
 induction t using Tm.ind with
 |h t ih=>
  intro b p hp;rw[t.AY,fV] at hp;rcases hp with hp|hp
  .grind
  .obtain ⟨x,hx,hp⟩:=gh.1 hp;have:=ih x hx _ p hp;have:b<=up t.kind b:=mU
   omega
theorem PG(at_:Int)(s t:Tm)(hs:s.shape=true):∀b,t.shape=true->(t.re (yq at_ s) b).size=t.size+cnt at_ (t.vars b)*(s.size-1):=by
 have hp:=s.size_pos;induction t using Tm.ind with
 |h t ih=>
  intro b ht;by_cases h1:t.kind=1
  .rw[FC h1,Jq ht h1,vx,t.size_eq,KI ht h1];simp only[yq];split
   .rw[NL _ _ _ _ hs];grind
   .simp[Tm.size,Tm.sizes]
  .rw[wr h1,t.size_eq,Tm.size_eq,LV h1];simp only[Tm.Af,gK];have:∀l:List Tm,(∀x∈l,x∈t.args)->(l.map (Tm.size∘Tm.re (yq at_ s) (up t.kind b))).sum=(l.map Tm.size).sum+cnt at_ (l.flatMap (Tm.vars (up t.kind b)))*(s.size-1):=by
    intro l;induction l with
    |nil=>intro _;simp[cnt]
    |cons x l ihl=>
     intro hl;have h2:=ih x (hl x ko) (up t.kind b) (zd ht x (hl x ko));have h3:=ihl fun y hy=>hl y kr;simp only[fJ,fT,gx,xy,iN,h2,h3,iw];omega
   grind
variable{h:List Ty}
theorem Yhy(hi:i<g.length):BI (g++h) i=BI g i:=by
 simp only[BI,gy,gW hi]
theorem Zze(hi:g.length<=i):BI (g++h) i=BI h (i-g.length):=by
 simp only[BI,gy,gP hi]
theorem vi(hi:i<h.length):FK (g++h) i=FK h i:=by
 simp only[FK,ga];rw[Zze kn]
 grind
theorem uu(hi:h.length<=i)(hl:i<(g++h).length):FK (g++h) i=FK g (i-h.length):=by
 simp only[FK,ga] at hl ⊢;rw[Yhy kn]
 grind
theorem xe(g:List Ty)(i:Int)(h0:0<=i):(vT i).inf g=if i>=(g.length:Int) then(BH,6) else(FK g i.toNat,0):=by
 rfl
theorem NG(hs:t.shape=true)(h:t.kind=1):t=vT t.index:=by
 refine(Tm.eq_iff _ _).2 ⟨h,rfl,?_,KI hs h⟩;rw[Tm.Ak,fD] at hs;have h1:=hs.1;simp only[Tm.head,fD,h] at h1;have h2:=h1.2;have:x9 1=false:=rfl;rw[this,cond_false] at h2;simp only[Ty.Bv,fD,beq_iff_eq] at h2;exact(Ty.eq_iff _ _).2 ⟨h2.1,fX h2.2⟩
theorem X6{f:Tm->Tm}{g':List Ty}:∀(l:List Tm),(∀x∈l,(f x).inf g'=x.inf g)->Tm.A1 g' (l.map f)=Tm.A1 g l:=by
 intro l;induction l with
 |nil=>intro _;rfl
 |cons x l ih=>
  intro h;simp only[fJ,Tm.A1,h x ko,ih fun y hy=>h y kr]
theorem Ur(G:Int->Int->Tm)(t:Tm):∀(g g' h:List Ty) (b:Int),t.shape=true->
 (∀(i:Int) (h':List Ty) (b':Int),0<=i->(b'-b=h'.length-h.length)->h.length<=h'.length->(∃e,h'=h++e)->(G i b').inf (g'++h')=(vT i).inf (g++h'))->
 (t.re G b).inf (g'++h)=t.inf (g++h):=by
 induction t using Tm.ind with
 |h t ih=>
  intro g g' h b hs hG;by_cases h1:t.kind=1
  .rw[FC h1];have:=hG t.index h b (OO hs).1 kn kn ⟨[],ko⟩;rw[this,<-NG hs h1]
  .rw[wr h1,Tm.Ba,Tm.Ba (t:=t)];simp only[Tm.Ai,Tm.AO,Tm.Af,h1,if_false];by_cases h2:t.kind=2
   .have e:up t.kind b=b+1:=if_pos h2;have:Tm.A1 (g'++h++[t.ty]) (t.args.map (Tm.re G (up t.kind b)))=Tm.A1 (g++h++[t.ty]) t.args:=by
     refine X6 t.args fun x hx=> ?_;rw[fK,fK];refine ih x hx g g' (h++[t.ty]) _ (zd hs x hx) fun i h' b' hi hb hl he=>hG i h' b' hi ?_ ?_ ?_;all_goals grind
    grind
   .have e:up t.kind b=b:=if_neg h2;have:Tm.A1 (g'++h) (t.args.map (Tm.re G (up t.kind b)))=Tm.A1 (g++h) t.args:=X6 t.args fun x hx=>ih x hx g g' h _ (zd hs x hx) kr
    grind
theorem Qy(t:Tm)(g m h:List Ty)(fr b:Int)(hs:t.shape=true)(hh:(h.length:Int)=fr+b):(t.re (zi fr m.length) b).inf (g++m++h)=t.inf (g++h):=by
 refine Ur _ t g (g++m) h b hs fun i h' b' hi hb hl _=> ?_;have hlen:(h'.length:Int)=fr+b':=kn
 show(vT (if i-b'>=fr then i+m.length else i)).inf _=_;by_cases hc:i-b'>=fr
 .rw[if_pos hc,xe _ _ kn,xe _ _ hi];simp only[ga];by_cases hr:i>=((g.length+h'.length:Nat):Int)
  .grind
  .rw[if_neg kn,if_neg hr];have e1:(i+(m.length:Int)).toNat=i.toNat+m.length:=kn
   rw[uu kn kr,uu kn kr,uu kn kr]
   grind
 .rw[if_neg hc,xe _ _ hi,xe _ _ hi];simp only[ga];rw[if_neg kn,if_neg kn,vi kn,vi kn]
theorem WG(t s:Tm)(g h:List Ty)(σ:Ty)(at_ b:Int)(ht:t.shape=true)(hs:s.shape=true)(hh:(h.length:Int)=at_+b)(hσ:s.inf g=(σ,0)):(t.re (yq at_ s) b).inf (g++h)=t.inf (g++[σ]++h):=by
 refine Ur _ t (g++[σ]) g h b ht fun i h' b' hi hb hl _=> ?_;have hlen:(h'.length:Int)=at_+b':=kn
 simp only[yq];by_cases hc:i-b'=at_
 .rw[if_pos hc];have e:=Qy s g h' [] 0 0 hs rfl;simp only[gq] at e;rw[<-hlen,e,hσ,xe _ _ hi];simp only[ga,fQ,gB];rw[if_neg kn,uu kn kr];rw[show i.toNat-h'.length=0 by omega,Vz]
 .rw[if_neg hc];by_cases hg:i-b'>at_
  .rw[if_pos hg];show(vT (i-1)).inf _=_;rw[xe _ _ kn,xe _ _ hi];simp only[ga,fQ,gB];by_cases hr:i>=((g.length+(0+1)+h'.length:Nat):Int)
   .grind
   .rw[if_neg kn,if_neg hr,uu kn kr,uu kn kr];obtain⟨k,hk⟩:∃k,i.toNat-h'.length=k+1:=⟨i.toNat-h'.length-1,kn⟩;rw[hk,XI g σ k kn]
    grind
  .rw[if_neg hg];show(vT i).inf _=_;rw[xe _ _ hi,xe _ _ hi];simp only[ga,fQ,gB];rw[if_neg kn,if_neg kn,vi kn,vi kn]
theorem Kz(h:(t.inf g).2=0)(hs:t.shape=true)(hb:g.length+t.size<=536870912):t.near=true:=
 fF.2 fun p hp=>by
  have:=Ot t g 0 536870912 h hs kn p hp
  grind
theorem Tm.Aa(t:Tm):t.err=0↔t.shape=true/\t.size<=4096:=by
 simp only[Tm.err]
 grind
theorem LA(by_:Int)(t:Tm):∀b,t.shape=true->(t.re (zi fr by_) b).full=t.full:=by
 induction t using Tm.ind with
 |h t ih=>
  intro b hs;by_cases h1:t.kind=1
  .rw[FC h1]
   conv=>rhs;rw[NG hs h1]
   rfl
  .rw[wr h1,t.Ag,Tm.Ag];simp only[Tm.Af,Tm.AO,gK];congr 2;exact fY fun x hx=>ih x hx _ (zd hs x hx)
theorem Yik(at_:Int)(s t:Tm)(hs:s.shape=true):∀b,t.shape=true->(t.re (yq at_ s) b).full<=t.full+cnt at_ (t.vars b)*s.full:=by
 induction t using Tm.ind with
 |h t ih=>
  intro b ht;by_cases h1:t.kind=1
  .rw[FC h1,Jq ht h1,vx];have e:t.full=2:=by rw[NG ht h1];rfl
   simp only[yq];split
   .rw[LA _ _ _ _ hs];omega
   .rw[e];simp[Tm.full,Tm.Ay,Ty.size,Ty.sizes]
  .rw[wr h1,t.Ag,Tm.Ag,LV h1];simp only[Tm.Af,Tm.AO,gK];have:∀l:List Tm,(∀x∈l,x∈t.args)->(l.map (Tm.full∘Tm.re (yq at_ s) (up t.kind b))).sum<=(l.map Tm.full).sum+cnt at_ (l.flatMap (Tm.vars (up t.kind b)))*s.full:=by
    intro l;induction l with
    |nil=>simp
    |cons x l ihl=>
     intro hl;have h2:=ih x (hl x ko) (up t.kind b) (zd ht x (hl x ko));have h3:=ihl fun y hy=>hl y kr;simp only[fJ,fT,gx,xy,iN,iw];omega
   grind
theorem Dk.type1:(d.type 1).1.small:=by
 have e:=Dk.Fv 1 d;rw[show(1:Int).toNat=1 from rfl,show((1:Int)-1).toNat=0 from rfl] at e;have h1:=Dk.type0 (d.next 7).2;have h2:=Dk.type0 ((d.next 7).2.type 0).2;rw[e];generalize ((d.next 7).2.type 0).1=a at*;generalize (((d.next 7).2.type 0).2.type 0).1=b at*;split
 .split
  .exact ⟨TP h1.1 h2.1,show(C4 a b).size<=3 by rw[KP];omega⟩
  .exact ⟨My h1.1 h2.1,show(xx a b).size<=3 by rw[uk];omega⟩
 .split
  .exact ⟨rfl,show(Ty.mk 2 []).size<=3 by decide⟩
  .split
   .exact ⟨rfl,show(Ty.mk 5 []).size<=3 by decide⟩
   .exact ⟨rfl,show(Ty.mk 1 []).size<=3 by decide⟩
theorem Dk.DJ:∀(n:Nat) (d:Dk),Aj (d.types n).1
 |0,d=>zk
 |n+1,d=>zg (Dk.type1 d) (Dk.DJ n _)
theorem Dk.CD:Aj d.ctx.1:=Dk.DJ _ _
theorem Dk.Hv:d.ctx.1.length<=3:=by
 have:=Dk.BC d 4 kn;simp only[Dk.ctx,Dk.DX];omega
theorem Dk.GH{d:Dk}(h:d.ok):d.ctx.2.ok:=Dk.EG _ _ (Dk.AQ h 4)
def EM(g:List Ty)(t:Tm):Ty×Int:=if t.err≠0 then(BH,t.err) else t.inf g
def yx(g:List Ty)(t:Tm):Ty×Int:=if ww g≠0 then(BH,ww g) else EM g t
theorem Zzn(h:Aj g)(hl:g.length<=16):ww g=0:=by
 unfold ww;rw[if_neg kn];exact aU g fun j hj _=>uy (h _ (fA hj))
theorem Z1:∀{g:List Ty},Jc g=0->∀x∈g,x.err=0
 |[],_,x,hx=>by cases hx
 |t::l,h,x,hx=>by
  simp only[Jc] at h;by_cases h1:t.err=0
  .simp only[h1,ne_eq,not_true_eq_false,if_false] at h;rcases fW.1 hx with rfl|hx
   .exact h1
   .exact Z1 h x hx
  omega
theorem LW(h:ww g=0):g.length<=16/\∀x∈g,x.err=0:=by
 unfold ww at h;by_cases h1:g.length>16
 .omega
 .rw[if_neg h1] at h;exact⟨kn,Z1 h⟩
theorem Mk.err{n:Nat}{g:List Ty}{t:Ty}{x:Tm}(h:Mk n g t x)(hg:Aj g)(ht:t.small)(hn:n<=5):x.err=0:=by
 refine(Tm.Aa x).2 ⟨h.shape hg ht,?_⟩;have:=(h.size hg ht).1;have:s3 n<=232:=by
  match n,hn with
  |0,_=>decide
  |1,_=>decide
  |2,_=>decide
  |3,_=>decide
  |4,_=>decide
  |5,_=>decide
 omega
theorem Mk.GJ{t:Ty}(h:Mk n g t x)(hg:Aj g)(ht:t.small)(hn:n<=5):x.size<=232:=by
 have:=(h.size hg ht).1;have:s3 n<=232:=by
  match n,hn with
  |0,_=>decide
  |1,_=>decide
  |2,_=>decide
  |3,_=>decide
  |4,_=>decide
  |5,_=>decide
 omega
theorem Mk.near{n:Nat}{g:List Ty}{t:Ty}{x:Tm}(h:Mk n g t x)(hg:Aj g)(ht:t.small)(hn:n<=5)(hl:g.length<=100000):x.near=true:=
 Kz (by rw[h.inf hg ht]) (h.shape hg ht) (by have:=h.GJ hg ht hn;omega)
theorem Yin{t:Ty}(h:t.small):t.ok=true:=Nm h.1 (by have:=h.2;omega)
mutual
def Hf:Ty->Tm
 | .mk k l=>if k=2 then nT 7 [] else if k=5 then nT 13 [] else if k=3 then nT 10 (Wl l) else if k=4 then Be (BI l 0) ((Wl l).getD 1 AB) else nT 4 []
def Wl:List Ty->List Tm
 |[]=>[]
 |t::l=>Hf t::Wl l
end
theorem Ynt(a b:Ty):Hf (C4 a b)=nT 10 [Hf a,Hf b]:=kz
theorem Yk0(a b:Ty):Hf (xx a b)=Be a (Hf b):=kz
theorem Yeh(t:Ty):t.shape=true->t.size<=64->(∀g,(Hf t).inf g=(t,0))/\(Hf t).shape=true/\(Hf t).size<=t.size/\(Hf t).full<=66*t.size:=by
 induction t using Ty.ind with
 |h t ih=>
  intro hs h64;rcases X8 hs with rfl|rfl|rfl|⟨a,b,ha,hb,rfl|rfl⟩
  .exact ⟨fun g=>TZ g,kq,kq,kq⟩
  .exact ⟨fun g=>kz,kq,kq,kq⟩
  .exact ⟨fun g=>kz,kq,kq,kq⟩
  .rw[KP] at h64 ⊢;rw[Ynt];obtain⟨a1,a2,a3,a4⟩:=ih a ko ha kn;obtain⟨b1,b2,b3,b4⟩:=ih b ko hb kn;refine⟨fun g=>Q0 (a1 g) (b1 g) ((Ty.Aa _).2 ⟨TP ha hb,by rw[KP];omega⟩),v8 rfl rfl a2 b2,?_,?_⟩
   .simp only[nT,Tm.size,Tm.sizes];omega
   .simp only[nT,Tm.full,Tm.Ay,Ty.size,Ty.sizes];omega
  .rw[uk] at h64 ⊢;rw[Yk0];obtain⟨b1,b2,b3,b4⟩:=ih b ko hb kn;have hp:=a.size_pos;refine⟨fun g=>ve (b1 _) ((Ty.Aa _).2 ⟨My ha hb,nG⟩),K3 (Nm ha kn) b2,?_,?_⟩
   .simp only[Be,Tm.size,Tm.sizes];omega
   .simp only[Be,Tm.full,Tm.Ay];omega
@[simp] theorem Fm.Ai(k:Int)(h:Ty)(ts:List Tm)(as:List Fm):(Fm.mk k h ts as).kind=k:=rfl
@[simp] theorem Fm.AO(k:Int)(h:Ty)(ts:List Tm)(as:List Fm):(Fm.mk k h ts as).ty=h:=rfl
@[simp] theorem Fm.Am(k:Int)(h:Ty)(ts:List Tm)(as:List Fm):(Fm.mk k h ts as).terms=ts:=rfl
@[simp] theorem Fm.Af(k:Int)(h:Ty)(ts:List Tm)(as:List Fm):(Fm.mk k h ts as).args=as:=rfl
def wc(k:Int):Bool:=decide (4<=k)&&decide (k<=7)
def Fm.head(f:Fm):Bool:=
 if f.kind=1 then f.ty.Bv&&f.terms.length==2&&f.args.length==0
 else if f.kind=2\/f.kind=3 then f.ty.Bv&&f.terms.length==0&&f.args.length==2
 else if f.kind=4\/f.kind=5\/f.kind=6\/f.kind=7 then f.ty.ok&&f.terms.length==0&&f.args.length==1 else false
mutual
def Fm.shape:Fm->Bool
 | .mk k h ts as=>Fm.head (.mk k h ts as)&&ts.all Tm.shape&&Fm.AZ as
def Fm.AZ:List Fm->Bool
 |[]=>true
 |f::l=>f.shape&&Fm.AZ l
end
mutual
def Fm.size:Fm->Nat
 | .mk _ _ ts as=>1+(ts.map Tm.size).sum+Fm.sizes as
def Fm.sizes:List Fm->Nat
 |[]=>0
 |f::l=>f.size+Fm.sizes l
end
mutual
def Fm.full:Fm->Nat
 | .mk _ h ts as=>1+h.size+(ts.map Tm.full).sum+Fm.Ay as
def Fm.Ay:List Fm->Nat
 |[]=>0
 |f::l=>f.full+Fm.Ay l
end
theorem Fm.BD:∀l:List Fm,Fm.AZ l=l.all Fm.shape
 |[]=>rfl
 |f::l=>by rw[Fm.AZ,Fm.BD l];rfl
theorem Fm.BM:∀l:List Fm,Fm.sizes l=(l.map Fm.size).sum
 |[]=>rfl
 |f::l=>by rw[Fm.sizes,Fm.BM l];rfl
theorem Fm.Co:∀l:List Fm,Fm.Ay l=(l.map Fm.full).sum
 |[]=>rfl
 |f::l=>by rw[Fm.Ay,Fm.Co l];rfl
variable(f:Fm)
theorem Fm.Ak:f.shape=(f.head&&f.terms.all Tm.shape&&f.args.all Fm.shape):=by cases f;simp only[Fm.shape,Fm.BD];rfl
theorem Fm.size_eq:f.size=1+(f.terms.map Tm.size).sum+(f.args.map Fm.size).sum:=by cases f;simp only[Fm.size,Fm.BM];rfl
theorem Fm.Ag:f.full=1+f.ty.size+(f.terms.map Tm.full).sum+(f.args.map Fm.full).sum:=by cases f;simp only[Fm.full,Fm.Co];rfl
theorem Fm.Ad:1<=f.full:=by rw[Fm.Ag];omega
theorem Fm.size_pos:1<=f.size:=by rw[Fm.size_eq];omega
theorem Fm.ind{P:Fm->Prop}(h:∀f,(∀x∈f.args,P x)->P f)(f:Fm):P f:=by
 have:∀n,∀f:Fm,f.full<=n->P f:=by
  intro n;induction n with
  |zero=>intro f h;have:=f.Ad;omega
  |succ n ih=>
   intro f hf;refine h f fun x hx=>ih x ?_;have:=zc Fm.full hx;have:=f.Ag;omega
 exact this _ f (fB _)
theorem Fm.An(f:Fm):f.size<=f.full:=by
 induction f using Fm.ind with
 |h f ih=>
  rw[f.size_eq,f.Ag];have h1:=x6 (f:=Fm.size) (g:=Fm.full) f.args ih;have h2:=x6 (f:=Tm.size) (g:=Tm.full) f.terms fun x _=>x.An;omega
def Fm.nodes(f:Fm):Nat:=if f.shape then f.size else 0
def Fm.err(f:Fm):Int:=if f.shape=false then 2 else if f.size>4096 then 4 else 0
def Fm.num(f:Fm):Int:=if f.err=0 then f.size else 0
def AK:Fm:= .mk 0 (.mk 0 []) [] []
def AV(a b:Tm):Fm:= .mk 1 (.mk 0 []) [a,b] []
theorem Lt(ha:a.shape=true)(hb:b.shape=true):(AV a b).shape=true:=by
 rw[Fm.Ak];simp[AV,Fm.head,ha,hb,Ty.Bv]
theorem Mp(a b:Tm):(AV a b).size=1+(a.size+b.size):=kz
theorem Fm.Aa:f.err=0↔f.shape=true/\f.size<=4096:=by
 unfold Fm.err
 grind
def Tm.arg(t:Tm)(i:Nat):Tm:=t.args.getD i AB
mutual
def xn(at_:Int):Tm->Nat
 | .mk k i h xs=>if k=1/\i=at_ then 1 else QH (up k at_) xs
def QH(at_:Int):List Tm->Nat
 |[]=>0
 |x::l=>xn at_ x+QH at_ l
end
theorem X5(at_:Int):∀l:List Tm,QH at_ l=(l.map (xn at_)).sum
 |[]=>rfl
 |x::l=>by rw[QH,X5 at_ l];rfl
theorem SH(at_:Int)(t:Tm):xn at_ t=if t.kind=1/\t.index=at_ then 1 else(t.args.map (xn (up t.kind at_))).sum:=by
 cases t;simp only[xn,X5,Tm.Ai,Tm.AG,Tm.Af];rfl
theorem O2(t:Tm):∀at_,xn at_ t<=t.size:=by
 induction t using Tm.ind with
 |h t ih=>
  intro at_;rw[SH,t.size_eq];split
  .omega
  .have:=x6 (f:=xn (up t.kind at_)) (g:=Tm.size) t.args fun x hx=>ih x hx _;omega
theorem UJ(t:Tm):∀at_ b:Int,t.shape=true->xn (at_+b) t=cnt at_ (t.vars b):=by
 induction t using Tm.ind with
 |h t ih=>
  intro at_ b hs;rw[SH];by_cases h1:t.kind=1
  .rw[Jq hs h1,vx,KI hs h1]
   grind
  .rw[if_neg (fun hh=>h1 hh.1)];have hargs:=zd hs;obtain⟨k,i,th,xs⟩:=t;rw[NJ at_ b k i th xs h1];have e:up k (at_+b)=at_+up k b:=nj
   simp only[Tm.Ai,Tm.Af] at*;rw[e];congr 1;simp_all
def Mc(t:Tm):Bool:=
 if t.kind=3 then(t.arg 0).kind==2&&((t.arg 1).args.length==0||decide (xn 0 ((t.arg 0).arg 0)<=1))
 else if t.kind=6 then(t.arg 2).kind==4
 else if t.kind=9 then(t.arg 2).kind==7
 else if t.kind=11\/t.kind=12 then(t.arg 0).kind==10 else false
def Ls(t:Tm):Tm:=
 if t.kind=3 then((t.arg 0).arg 0).re (yq 0 (t.arg 1)) 0
 else if t.kind=11 then(t.arg 0).arg 0 else if t.kind=12 then(t.arg 0).arg 1 else t.arg 0
mutual
def GW:Tm->Option Tm
 | .mk k i h xs=>if Mc (.mk k i h xs)=true then some (Ls (.mk k i h xs)) else(Mz xs).map (Tm.mk k i h)
def Mz:List Tm->Option (List Tm)
 |[]=>none
 |x::l=>match GW x with
  |some u=>some (u::l)
  |none=>(Mz l).map (x::·)
end
theorem Zi(t:Tm):GW t=if Mc t=true then some (Ls t) else(Mz t.args).map (Tm.mk t.kind t.index t.ty):=by
 cases t;rfl
theorem eY:∀(xs ys:List Tm),Mz xs=some ys->∃(i:Nat) (hi:i<xs.length) (u:Tm),GW xs[i]=some u/\ys=xs.set i u/\∀(j:Nat) (hj:j<xs.length),j<i->GW xs[j]=none
 |[],ys,h=>by simp[Mz] at h
 |x::l,ys,h=>by
  simp only[Mz] at h;cases hx:GW x with
  |some u=>
   rw[hx] at h;cases h;exact⟨0,ko,u,hx,rfl,fun j _ hj=>kn⟩
  |none=>
   rw[hx] at h;simp only[fE] at h;obtain⟨zs,h1,rfl⟩:=h;obtain⟨i,hi,u,h2,rfl,h3⟩:=eY l zs h1;refine⟨i+1,kr,u,kr,rfl,fun j hj hji=> ?_⟩
   grind
variable{T:Ty}
theorem Jk(h1:t.kind≠1)(h2:t.kind≠2)(h:t.inf g=(T,0)):(∀x∈t.args,(x.inf g).2=0)/\Cd t.kind t.ty (t.args.map fun x=>(x.inf g).1)=(T,0):=by
 rw[Tm.Ba,if_neg h1,if_neg h2] at h;by_cases h3:(Tm.A1 g t.args).2=0
 .rw[if_neg kn] at h;have h4:=Tm.CH g t.args h3;refine⟨h4,?_⟩;rw[Tm.Fu g t.args h4] at h;exact h
 grind
variable{th:Ty}{i:Int}
theorem Su(h:(Tm.mk 2 i th [b]).inf g=(T,0)):(b.inf (g++[th])).2=0/\T=xx th (b.inf (g++[th])).1:=by
 rw[Tm.Ba,if_neg ko,if_pos ko] at h;simp only[Tm.Af,Tm.AO] at h;by_cases h3:(b.inf (g++[th])).2=0
 .refine ⟨h3,?_⟩;simp only[Tm.A1,h3,ne_eq,not_true_eq_false,if_false] at h;unfold A9 at h;split at h;all_goals simp_all
 .simp only[Tm.A1,h3,ne_eq,not_false_eq_true,if_true] at h
  grind
theorem Ykk{a b:Ty}(h:A9 (C4 a b)=(T,0)):T=C4 a b:=by
 unfold A9 at h
 grind
variable{y:Tm}
theorem Ud(h:(Tm.mk 10 i th [x,y]).inf g=(T,0)):(x.inf g).2=0/\(y.inf g).2=0/\T=C4 (x.inf g).1 (y.inf g).1:=by
 obtain⟨h1,h2⟩:=Jk ko ko h;exact⟨h1 x ko,h1 y ko,Ykk (by simpa[Cd,BI] using h2)⟩
theorem KK(hs:t.shape=true)(hk:t.kind=k)(ha:CV k=some 2):∃i th x y,t= .mk k i th [x,y]/\x.shape=true/\y.shape=true:=by
 have h:=KY hs;have h2:=zd hs;obtain⟨k',i,th,xs⟩:=t;simp only[Tm.Ai,Tm.Af] at*;subst hk;rw[ha] at h;obtain⟨x,y,rfl⟩:=SQ (gV h).symm
 grind
theorem Hp(hs:t.shape=true)(hk:t.kind=k)(ha:CV k=some 1):∃i th x,t= .mk k i th [x]/\x.shape=true:=by
 have h:=KY hs;have h2:=zd hs;obtain⟨k',i,th,xs⟩:=t;simp only[Tm.Ai,Tm.Af] at*;subst hk;rw[ha] at h;obtain⟨x,rfl⟩:=Ww (gV h).symm
 grind
theorem M3(hs:t.shape=true)(hk:t.kind=k)(ha:CV k=some 3):∃i th x y z,t= .mk k i th [x,y,z]/\x.shape=true/\y.shape=true/\z.shape=true:=by
 have h:=KY hs;have h2:=zd hs;obtain⟨k',i,th,xs⟩:=t;simp only[Tm.Ai,Tm.Af] at*;subst hk;rw[ha] at h;obtain⟨x,y,z,rfl⟩:=aV (gV h).symm
 grind
theorem Zqs(hs:t.shape=true)(h:Mc t=true):
 (∃i th j s b a,t= .mk 3 i th [.mk 2 j s [b],a]/\b.shape=true/\a.shape=true/\(a.args.length=0\/xn 0 b<=1)/\Ls t=b.re (yq 0 a) 0)\/
 (∃k i th x y z,(k=6\/k=9)/\t= .mk k i th [x,y,z]/\x.shape=true/\Ls t=x)\/
 (∃k i th j s x y,(k=11\/k=12)/\t= .mk k i th [.mk 10 j s [x,y]]/\x.shape=true/\y.shape=true/\Ls t=if k=11 then x else y):=by
 unfold Mc at h;by_cases h3:t.kind=3
 .left;rw[if_pos h3] at h;obtain⟨i,th,f,a,rfl,hf,ha⟩:=KK hs h3 rfl;simp only[Tm.arg,Tm.Af,hO,iG,fD,beq_iff_eq,ic,decide_eq_true_eq] at h;obtain⟨j,s,b,rfl,hb⟩:=Hp hf h.1 rfl;exact⟨i,th,j,s,b,a,rfl,hb,ha,kP,rfl⟩
 .rw[if_neg h3] at h;by_cases h6:t.kind=6
  .obtain ⟨i,th,x,y,z,rfl,hx,_,_⟩:=M3 hs h6 rfl;exact .inr (.inl ⟨6,i,th,x,y,z,.inl rfl,rfl,hx,rfl⟩)
  .rw[if_neg h6] at h;by_cases h9:t.kind=9
   .obtain ⟨i,th,x,y,z,rfl,hx,_,_⟩:=M3 hs h9 rfl;exact .inr (.inl ⟨9,i,th,x,y,z,.inr rfl,rfl,hx,rfl⟩)
   .rw[if_neg h9] at h;by_cases h11:t.kind=11\/t.kind=12
    .rw[if_pos h11] at h;have ha:CV t.kind=some 1:=by rcases h11 with h|h<;>rw[h]<;>rfl
     obtain⟨i,th,p,rfl',hp⟩:=Hp hs rfl ha;rw[rfl'] at h;simp only[Tm.arg,Tm.Af,hO,beq_iff_eq] at h;obtain⟨j,s,x,y,rfl,hx,hy⟩:=KK hp h rfl;refine .inr (.inr ⟨t.kind,i,th,j,s,x,y,h11,rfl',hx,hy,?_⟩);rcases h11 with hk|hk<;>rw[rfl',hk]<;>rfl
    grind
theorem Ybz(hs:t.shape=true)(h:t.inf g=(T,0))(hsm:Mc t=true):(Ls t).inf g=(T,0)/\(Ls t).shape=true/\(Ls t).size<t.size:=by
 rcases Zqs hs hsm with⟨i,th,j,s,b,a,rfl,hb,ha,hor,e⟩|⟨k,i,th,x,y,z,hk,rfl,hx,e⟩|⟨k,i,th,j,s,x,y,hk,rfl,hx,hy,e⟩
 .rw[e];obtain⟨h1,h2⟩:=Jk ko ko h;have hf:(Tm.mk 2 j s [b]).inf g=(((Tm.mk 2 j s [b]).inf g).1,0):=by rw[<-h1 (.mk 2 j s [b]) ko]
  obtain⟨h3,h4⟩:=Su hf;have ha0:=h1 a ko;simp only[Tm.Ai,Tm.AO,Tm.Af,fJ,fU,h4] at h2;have h5:s=(a.inf g).1/\(b.inf (g++[s])).1=T:=by
   simp only[Cd,BI,hO,iG,dA,Y5] at h2
   grind
  have hσ:a.inf g=(s,0):=kr
  have hp:=WG b a g [] s 0 0 hb ha rfl hσ;rw[gq,gq] at hp;refine⟨kr,Pn 0 ha hb kn kn (fun p hp=>yw b 0 p hp),?_⟩;rw[PG 0 a b ha 0 hb];have hc:=UJ b 0 0 hb;rw[show(0:Int)+0=0 from rfl] at hc;have hsz:(Tm.mk 3 i th [Tm.mk 2 j s [b],a]).size=2+b.size+a.size:=lF
  rw[hsz,<-hc];have hap:=a.size_pos;rcases hor with h0|h0
  .have:a.size=1:=by rw[a.size_eq,fX h0];rfl
   grind
  .have:xn 0 b*(a.size-1)<=1*(a.size-1):=gX _ h0;omega
 .rw[e];have hne:(Tm.mk k i th [x,y,z]).kind≠1/\(Tm.mk k i th [x,y,z]).kind≠2:=by rcases hk with rfl|rfl<;>exact⟨ko,ko⟩
  obtain⟨h1,h2⟩:=Jk hne.1 hne.2 h;have hx0:=h1 x ko;refine⟨?_,hx,lF⟩;have h3:(x.inf g).1=th/\th=T:=by
   simp only[Tm.Ai,Tm.AO,Tm.Af,fJ,fU] at h2;rcases hk with rfl|rfl
   .simp only[Cd,BI,hO,iG] at h2
    grind
   .simp only[Cd,BI,hO,iG] at h2
    grind
  grind
 .rw[e];have hne:(Tm.mk k i th [Tm.mk 10 j s [x,y]]).kind≠1/\(Tm.mk k i th [Tm.mk 10 j s [x,y]]).kind≠2:=by rcases hk with rfl|rfl<;>exact⟨ko,ko⟩
  obtain⟨h1,h2⟩:=Jk hne.1 hne.2 h;have hf:(Tm.mk 10 j s [x,y]).inf g=(((Tm.mk 10 j s [x,y]).inf g).1,0):=by rw[<-h1 (.mk 10 j s [x,y]) ko]
  obtain⟨h3,h4,h5⟩:=Ud hf;simp only[Tm.Ai,Tm.AO,Tm.Af,fJ,fU,h5] at h2;rcases hk with rfl|rfl
  .rw[if_pos rfl];refine⟨?_,hx,lF⟩;simp[Cd,BI] at h2
   grind
  .rw[if_neg kq];refine⟨?_,hy,lF⟩;simp[Cd,BI] at h2
   grind
theorem Td{α:Type}(f:α->Nat)(u:α):∀(xs:List α) (i:Nat) (hi:i<xs.length),((xs.set i u).map f).sum+f xs[i]=(xs.map f).sum+f u
 |[],i,hi=>kr
 |x::l,0,_=>kr
 |x::l,i+1,hi=>by
  have:=Td f u l i kr
  grind
theorem Ru(g:List Ty)(u:Tm):∀(xs:List Tm) (i:Nat) (hi:i<xs.length),u.inf g=xs[i].inf g->Tm.A1 g (xs.set i u)=Tm.A1 g xs
 |[],i,hi,_=>kz
 |x::l,0,_,h=>by
  simp only[fM] at h;simp only[iP,Tm.A1,h]
 |x::l,i+1,hi,h=>by
  simp only[List.set_cons_succ,Tm.A1];rw[Ru g u l i kr kr]
theorem aZ(i:Int)(th:Ty)(xs:List Tm)(g:List Ty):(Tm.mk 2 i th xs).inf g=if(Tm.A1 (g++[th]) xs).2≠0 then(BH,(Tm.A1 (g++[th]) xs).2) else A9 (xx th (BI (Tm.A1 (g++[th]) xs).1 0)):=by
 rfl
theorem dM{v:Tm}(hv:v.inf (g++[th])=b.inf (g++[th])):(Tm.mk 2 i th [v]).inf g=(Tm.mk 2 i th [b]).inf g:=by
 have e:Tm.A1 (g++[th]) [v]=Tm.A1 (g++[th]) [b]:=Ru (g++[th]) v [b] 0 ko hv;rw[aZ,aZ,e]
variable{u:Tm}
theorem Tb{xs:List Tm}(h:(Tm.mk k i th xs).shape=true)(hu:u.shape=true):(Tm.mk k i th (xs.set m u)).shape=true:=by
 have hargs:=zd h;rw[Tm.Ak] at h ⊢;simp only[fD] at h ⊢;refine⟨?_,?_⟩
 .have e:(Tm.mk k i th (xs.set m u)).head=(Tm.mk k i th xs).head:=by simp only[Tm.head,Tm.Ai,Tm.Af,Tm.AG,Tm.AO];grind
  grind
 .refine fF.2 fun x hx=> ?_;rcases jH hx with hx|rfl;all_goals simp_all
theorem AQ(t:Tm):∀(g:List Ty) (T:Ty) (u:Tm),t.shape=true->t.inf g=(T,0)->GW t=some u->u.inf g=(T,0)/\u.shape=true/\u.size<t.size:=by
 induction t using Tm.ind with
 |h t ih=>
  intro g T u hs h hn;rw[Zi] at hn;by_cases hsm:Mc t=true
  .rw[if_pos hsm] at hn;cases hn;exact Ybz hs h hsm
  .rw[if_neg hsm,fE] at hn;obtain⟨ys,h1,rfl⟩:=hn;obtain⟨m,hm,v,h2,rfl,_⟩:=eY _ _ h1;have hargs:=zd hs;have hx:=hargs _ (fA hm);have hmem:=fA hm;have hss:=fun(hv:v.size<(t.args[m]).size)=>Td Tm.size v t.args m hm;by_cases k1:t.kind=1
   .exact absurd (KI hs k1) (fun hh=>kr)
   .have key:∀g' T',(t.args[m]).inf g'=(T',0)->v.inf g'=(T',0)/\v.shape=true/\v.size<(t.args[m]).size:=fun g' T' hi=>ih _ hmem g' T' v hx hi h2;by_cases k2:t.kind=2
    .obtain ⟨i,th,b,rfl,hb⟩:=Hp hs k2 rfl;obtain⟨h3,h4⟩:=Su h;have hm0:m=0:=kP
     subst hm0;simp only[Tm.Af,fM] at*;obtain⟨q1,q2,q3⟩:=key (g++[th]) (b.inf (g++[th])).1 kr;refine⟨?_,Tb (m:=0) (xs:=[b]) hs q2,?_⟩
     .have:v.inf (g++[th])=b.inf (g++[th]):=kr
      rw[<-h];simp only[iP,Tm.Ai,Tm.AO,Tm.AG];exact dM this
     .simp only[iP,Tm.size,Tm.sizes];omega
    .obtain ⟨h3,h4⟩:=Jk k1 k2 h;have h5:=h3 _ hmem;obtain⟨q1,q2,q3⟩:=key g (t.args[m].inf g).1 kr;have hset:=hss q3;have hi:v.inf g=(t.args[m]).inf g:=kr
     refine⟨?_,?_,?_⟩
     .rw[<-h,Tm.Ba g (Tm.mk t.kind t.index t.ty (t.args.set m v)),if_neg (show ¬(Tm.mk t.kind t.index t.ty (t.args.set m v)).kind=1 from k1),if_neg (show ¬(Tm.mk t.kind t.index t.ty (t.args.set m v)).kind=2 from k2),t.Ba,if_neg k1,if_neg k2];show(if(Tm.A1 g (t.args.set m v)).2≠0 then(BH,(Tm.A1 g (t.args.set m v)).2) else Cd t.kind t.ty (Tm.A1 g (t.args.set m v)).1)=_;rw[Ru g v t.args m hm hi]
     .obtain ⟨k,i,th,xs⟩:=t;exact Tb hs q2
     .rw[t.size_eq,Tm.size_eq];simp only[Tm.Af];omega
theorem xl(t:Tm):t.shape=true->t.full<=65*t.size:=by
 induction t using Tm.ind with
 |h t ih=>
  intro hs;have hargs:=zd hs;have hty:t.ty.size<=64:=by
   rw[Tm.Ak,fD] at hs;have:=hs.1;simp only[Tm.head,fD] at this;have h2:=this.2;cases hk:x9 t.kind with
   |true=>rw[hk] at h2;simp only[cond_true,Ty.ok,fD,decide_eq_true_eq] at h2;omega
   |false=>
    rw[hk] at h2;simp only[cond_false,Ty.Bv,fD,beq_iff_eq] at h2;rw[t.ty.size_eq,fX h2.2];simp
  have hsum:=x6 (f:=Tm.full) (g:=fun x=>65*x.size) t.args fun x hx=>ih x hx (hargs x hx);have hmul:∀l:List Tm,(l.map fun x=>65*x.size).sum=65*(l.map Tm.size).sum:=by
   exact sD
  rw[hmul] at hsum;rw[t.Ag,t.size_eq];omega
inductive HV:Tm->Tm->Nat->Prop
 |done {t:Tm} (h:GW t=none):HV t t 0
 |step {t u v:Tm} {n:Nat} (h:GW t=some u) (hr:HV u v n):HV t v (n+1)
theorem HV.ex(g:List Ty)(T:Ty):∀(s:Nat) (t:Tm),t.size<=s->t.shape=true->t.inf g=(T,0)->∃u n,HV t u n/\n<=t.size/\u.size<=t.size/\u.shape=true/\u.inf g=(T,0)/\GW u=none:=by
 intro s;induction s with
 |zero=>intro t h;have:=t.size_pos;omega
 |succ s ih=>
  intro t hz hs h;cases hn:GW t with
  |none=>exact⟨t,0,.done hn,kn,kn,hs,h,hn⟩
  |some u=>
   obtain⟨h1,h2,h3⟩:=AQ t g T u hs h hn;obtain⟨v,n,h4,h5,h6,h7,h8,h9⟩:=ih u kn h2 h1;exact⟨v,n+1,.step hn h4,kn,kn,h7,h8,h9⟩
theorem WL(a b:Tm):GW (nT 10 [a,b])=match GW a with|some u=>some (nT 10 [u,b])|none=>(GW b).map fun v=>nT 10 [a,v]:=by
 rw[Zi,if_neg (by simp[Mc,nT])];simp only[nT,Tm.Af,Tm.Ai,Tm.AG,Tm.AO,Mz]
 grind
theorem HV.right(ha:GW a=none)(h:HV b y m):HV (nT 10 [a,b]) (nT 10 [a,y]) m:=by
 induction h with
 |done h=>exact .done (by rw[WL,ha,h];rfl)
 |step h _ ih=>exact .step (by rw[WL,ha,h];rfl) ih
theorem HV.pair(h:HV a x n)(hb:HV b y m):HV (nT 10 [a,b]) (nT 10 [x,y]) (n+m):=by
 induction h with
 |done h=>rw[gN];exact HV.right h hb
 |step h _ ih=>rw[Nat.add_right_comm];exact .step (by rw[WL,h]) ih
def vm(k:Int)(a b:Fm):Fm:= .mk k (.mk 0 []) [] [a,b]
def AL(k:Int)(s:Ty)(f:Fm):Fm:= .mk k s [] [f]
def Dk.HM(d:Dk)(g:List Ty):Fm×Dk:=(AV (Dk.tm 3 d g Ac).1 (Dk.tm 3 (Dk.tm 3 d g Ac).2 g Ac).1,(Dk.tm 3 (Dk.tm 3 d g Ac).2 g Ac).2)
def Dk.fm:Nat->Dk->List Ty->Fm×Dk
 |0,d,g=>d.HM g
 |n+1,d,g=>
  if(d.next 9).1=0 then(vm 2 (Dk.fm n (d.next 9).2 g).1 (Dk.fm n (Dk.fm n (d.next 9).2 g).2 g).1,(Dk.fm n (Dk.fm n (d.next 9).2 g).2 g).2)
  else if(d.next 9).1=1\/(d.next 9).1=2 then(vm 3 (Dk.fm n (d.next 9).2 g).1 (Dk.fm n (Dk.fm n (d.next 9).2 g).2 g).1,(Dk.fm n (Dk.fm n (d.next 9).2 g).2 g).2)
  else if(d.next 9).1=3\/(d.next 9).1=4 then(AL 4 ((d.next 9).2.type 1).1 (Dk.fm n ((d.next 9).2.type 1).2 (g++[((d.next 9).2.type 1).1])).1,(Dk.fm n ((d.next 9).2.type 1).2 (g++[((d.next 9).2.type 1).1])).2)
  else if(d.next 9).1=5 then(AL 5 ((d.next 9).2.type 1).1 (Dk.fm n ((d.next 9).2.type 1).2 (g++[((d.next 9).2.type 1).1])).1,(Dk.fm n ((d.next 9).2.type 1).2 (g++[((d.next 9).2.type 1).1])).2)
  else if(d.next 9).1=6 then(AL (6+(((d.next 9).2.type 0).2.next 2).1) ((d.next 9).2.type 0).1 (Dk.fm n (((d.next 9).2.type 0).2.next 2).2 (g++[((d.next 9).2.type 0).1])).1,(Dk.fm n (((d.next 9).2.type 0).2.next 2).2 (g++[((d.next 9).2.type 0).1])).2)
  else(d.next 9).2.HM g
theorem Dk.Jz{d:Dk}(h:d.ok):(d.HM g).2.ok:=Dk.Dd 3 _ g Ac (Dk.Dd 3 d g Ac h)
theorem Dk.Gj:∀(n:Nat) (d:Dk) (g:List Ty),d.ok->(Dk.fm n d g).2.ok:=by
 intro n;induction n with
 |zero=>exact fun d g h=>Dk.Jz h
 |succ n ih=>
  intro d g h;have h9:=Dk.AQ h 9;simp only[Dk.fm];repeat' split
  .grind
  .grind
  .exact ih _ _ (Dk.BG 1 _ h9)
  .exact ih _ _ (Dk.BG 1 _ h9)
  .exact ih _ _ (Dk.AQ (Dk.BG 0 _ h9) 2)
  .exact Dk.Jz h9
theorem O9:s1 3<=60:=kq
def ED(n:Nat)(f:Fm):Prop:=f.shape=true/\f.size+1<=122*2^n/\f.full+10<=1200*2^n
theorem Dk.FZ(hg:Aj g):ED 0 (d.HM g).1:=by
 have m1:=Dk.C8 3 d g Ac hg zj kn kn;have m2:=Dk.C8 3 (Dk.tm 3 d g Ac).2 g Ac hg zj kn kn;have z1:=(m1.size hg zj).2 rfl;have z2:=(m2.size hg zj).2 rfl;have f1:=m1.full hg zj;have f2:=m2.full hg zj;have h3:=O9;refine⟨Lt (m1.shape hg zj) (m2.shape hg zj),?_,?_⟩
 .show (AV _ _).size+1<=_;rw[Mp];omega
 .show (AV _ _).full+10<=_;rw[Fm.Ag];simp only[AV,Fm.AO,Fm.Am,Fm.Af,fJ,fU,fT,gu,Ty.size,Ty.sizes];omega
theorem cy{a b:Fm}(hk:k=2\/k=3)(ha:ED n a)(hb:ED n b):ED (n+1) (vm k a b):=by
 obtain⟨a1,a2,a3⟩:=ha;obtain⟨b1,b2,b3⟩:=hb;refine⟨?_,?_,?_⟩
 .rw[Fm.Ak];rcases hk with rfl|rfl<;>simp[vm,Fm.head,a1,b1,Ty.Bv]
 .rw[Fm.size_eq,jf];simp only[vm,Fm.Am,Fm.Af,fJ,fU,fT,gu];omega
 .rw[Fm.Ag,jf];have:1<=2^n:=iY;simp only[vm,Fm.AO,Fm.Am,Fm.Af,fJ,fU,fT,gu,Ty.size,Ty.sizes];omega
theorem Tc{f:Fm}(hk:4<=k/\k<=7)(hs:s.small)(hf:ED n f):ED (n+1) (AL k s f):=by
 obtain⟨a1,a2,a3⟩:=hf;have hz:=hs.2;have:1<=2^n:=iY;refine⟨?_,?_,?_⟩
 .rw[Fm.Ak];have h4:k=4\/k=5\/k=6\/k=7:=kn
  rcases h4 with rfl|rfl|rfl|rfl<;>simp[AL,Fm.head,a1,Yin hs]
 .rw[Fm.size_eq,jf];simp only[AL,Fm.Am,Fm.Af,fJ,fU,fT,gu];omega
 .rw[Fm.Ag,jf];simp only[AL,Fm.AO,Fm.Am,Fm.Af,fJ,fU,fT,gu];omega
theorem ED.up{f:Fm}(h:ED 0 f):ED (n+1) f:=by
 obtain⟨a1,a2,a3⟩:=h;have:1<=2^(n+1):=iY;exact⟨a1,kn,kn⟩
theorem Dk.Cw:∀(n:Nat) (d:Dk) (g:List Ty),Aj g->ED n (Dk.fm n d g).1:=by
 intro n;induction n with
 |zero=>exact fun d g hg=>Dk.FZ d hg
 |succ n ih=>
  intro d g hg;have h2:=Dk.BC (((d.next 9).2.type 0).2) 2 kn;have s1:=Dk.type1 (d.next 9).2;have s0:=Dk.type0 (d.next 9).2;have s0':=z4 s0.1 s0.2;simp only[Dk.fm];repeat' split
  .exact cy (.inl rfl) (ih _ _ hg) (ih _ _ hg)
  .exact cy (.inr rfl) (ih _ _ hg) (ih _ _ hg)
  .exact Tc ⟨kn,kn⟩ s1 (ih _ _ (zm hg (zg s1 zk)))
  .exact Tc ⟨kn,kn⟩ s1 (ih _ _ (zm hg (zg s1 zk)))
  .exact Tc ⟨kn,kn⟩ s0' (ih _ _ (zm hg (zg s0' zk)))
  .exact (Dk.FZ _ hg).up
theorem Ty.Ez{t:Ty}(h:t.Bv=true):t= .mk 0 []:=by
 obtain⟨k,as⟩:=t;simp only[Ty.Bv,Ty.kind,Ty.args,fD,beq_iff_eq,ir] at h
 grind
def A3(k b:Int):Int:=if wc k=true then b+1 else b
mutual
def Fm.A6(b:Int):Fm->List (Tm×Int)
 | .mk k _ ts as=>ts.map (fun t=>(t,b))++Fm.HJ (A3 k b) as
def Fm.HJ(b:Int):List Fm->List (Tm×Int)
 |[]=>[]
 |f::l=>f.A6 b++Fm.HJ b l
end
mutual
def Fm.re(g:Int->Tm->Tm)(b:Int):Fm->Fm
 | .mk k h ts as=> .mk k h (ts.map (g b)) (Fm.res g (A3 k b) as)
def Fm.res(g:Int->Tm->Tm)(b:Int):List Fm->List Fm
 |[]=>[]
 |f::l=>f.re g b::Fm.res g b l
end
theorem Fm.Hs(b:Int):∀l:List Fm,Fm.HJ b l=l.flatMap (Fm.A6 b)
 |[]=>rfl
 |f::l=>by rw[Fm.HJ,Fm.Hs b l,gx]
theorem Fm.Ew(g:Int->Tm->Tm)(b:Int):∀l:List Fm,Fm.res g b l=l.map (Fm.re g b)
 |[]=>rfl
 |f::l=>by rw[Fm.res,Fm.Ew g b l,fJ]
theorem Fm.A0(b:Int)(f:Fm):f.A6 b=f.terms.map (fun t=>(t,b))++f.args.flatMap (Fm.A6 (A3 f.kind b)):=by cases f;simp only[Fm.A6,Fm.Hs];rfl
theorem Fm.A4(g:Int->Tm->Tm)(b:Int)(f:Fm):f.re g b= .mk f.kind f.ty (f.terms.map (g b)) (f.args.map (Fm.re g (A3 f.kind b))):=by cases f;simp only[Fm.re,Fm.Ew];rfl
def ud(at_:Int):List (Tm×Int)->Nat
 |[]=>0
 |p::l=>cnt (at_+p.2) (p.1.vars 0)+ud at_ l
theorem xg(at_:Int):∀l l':List (Tm×Int),ud at_ (l++l')=ud at_ l+ud at_ l'
 |[],l'=>by simp[ud]
 |p::l,l'=>by simp only[iJ,ud,xg at_ l l'];omega
theorem MP(at_:Int):∀l:List (Tm×Int),ud at_ l<=(l.map fun p=>p.1.size).sum
 |[]=>fB _
 |p::l=>by
  have h1:=Qj (at_+p.2) (p.1.vars 0);have h2:=p.1.Db 0;have h3:=MP at_ l;simp only[ud,fJ,fT];omega
theorem OG:∀b,((f.A6 b).map fun p=>p.1.size).sum+1<=f.size:=by
 induction f using Fm.ind with
 |h f ih=>
  intro b;rw[Fm.A0,Fm.size_eq];have h1:∀l:List Fm,(∀x∈l,∀b,((x.A6 b).map fun p=>p.1.size).sum+1<=x.size)->((l.flatMap (Fm.A6 (A3 f.kind b))).map fun p=>p.1.size).sum<=(l.map Fm.size).sum:=by
   exact sD
  have h2:=h1 f.args ih;have h3:((f.terms.map fun t=>(t,b)).map fun p=>p.1.size)=f.terms.map Tm.size:=ko
  grind
theorem Ym5(b:Int)(m:Nat):(((f.terms.take m).map fun t=>(t,b)).map fun p:Tm×Int=>p.1.size).sum<=f.size:=by
 have h1:=zw Tm.size f.terms m;have h3:(((f.terms.take m).map fun t=>(t,b)).map fun p:Tm×Int=>p.1.size)=(f.terms.take m).map Tm.size:=by simp[Function.comp_def]
 rw[h3,Fm.size_eq];omega
theorem Yfk(b:Int)(l:List Fm):((l.flatMap (Fm.A6 b)).map fun p:Tm×Int=>p.1.size).sum<=(l.map Fm.size).sum:=by
 induction l with
 |nil=>simp
 |cons x l ih=>
  have h3:=OG x b
  grind
theorem Ymi(b:Int)(m:Nat)(h:m<f.args.length):((f.terms.map (fun t=>(t,b))++(f.args.take m).flatMap (Fm.A6 (A3 f.kind b))).map fun p:Tm×Int=>p.1.size).sum+(f.args[m]).size<=f.size:=by
 have h1:=Yfk (A3 f.kind b) (f.args.take m);have h2:=yz Fm.size f.args m h;have h4:=zw Fm.size f.args (m+1);have h3:((f.terms.map fun t=>(t,b)).map fun p:Tm×Int=>p.1.size)=f.terms.map Tm.size:=ko
 have e:=f.size_eq
 grind
theorem xj:f.shape=true->∀b,∀p∈f.A6 b,p.1.shape=true:=by
 induction f using Fm.ind with
 |h f ih=>
  intro hs b p hp;rw[Fm.Ak,fD,fD] at hs;rw[Fm.A0,fV] at hp
  grind
def Tm.IP(t:Tm):Bool:=(t.vars 0).all fun p=>decide (p.1<=268435456)
def GN(P:Tm->Bool)(b:Bool)(l:List (Tm×Int)):Bool:=b&&l.all fun p=>P p.1
theorem bK(P:Tm->Bool)(b:Bool)(l l':List (Tm×Int)):GN P (GN P b l) l'=GN P b (l++l'):=by simp[GN,Bool.and_assoc]
theorem RD(P:Tm->Bool)(b:Bool)(t:Tm)(i:Int):GN P b [(t,i)]=(b&&P t):=by simp[GN]
theorem S7(P:Tm->Bool)(b:Bool):GN P b []=b:=by simp[GN]
def Fm.near(f:Fm):Bool:=(f.A6 0).all fun p=>p.1.near
def Fm.IP(f:Fm):Bool:=(f.A6 0).all fun p=>p.1.IP
def Fm.put(f:Fm)(at_:Int)(s:Tm):Fm:=f.re (fun b t=>t.re (yq (at_+b) s) 0) 0
def xm(f:Fm)(at_:Int)(s:Tm):Int:=
 if f.err≠0 then f.err else if ¬(0<=at_/\at_<=4096) then 1 else if s.err≠0 then s.err else if f.near=false\/s.near=false then 1 else if(f.size:Int)+ud at_ (f.A6 0)*(s.size-1)>4096 then 4 else 0
theorem OA(t:Tm):t.shape=true->t.full<=65*t.size:=by
 induction t using Tm.ind with
 |h t ih=>
  intro hs;rw[Tm.Ak,fD] at hs;have h0:t.ty.size<=64:=by
   have:=hs.1;simp only[Tm.head,fD] at this;have h1:=this.2;cases hk:x9 t.kind with
   |true=>rw[hk] at h1;simp only[cond_true,Ty.ok,fD,decide_eq_true_eq] at h1;omega
   |false=>
    rw[hk] at h1;have:=Ty.Ez (show t.ty.Bv=true from h1);rw[this];decide
  have h1:∀l:List Tm,(∀x∈l,x∈t.args)->(l.map Tm.full).sum<=65*(l.map Tm.size).sum:=by
   exact sD
  have h2:=h1 t.args fun _ h=>h;rw[Tm.Ag,Tm.size_eq];omega
theorem K4:f.shape=true->f.full<=65*f.size:=by
 induction f using Fm.ind with
 |h f ih=>
  intro hs;rw[Fm.Ak,fD,fD] at hs;obtain⟨⟨hh,ht⟩,ha⟩:=hs;have h0:f.ty.size<=64:=by
   simp only[Fm.head] at hh;split at hh
   .simp only[fD] at hh;rw[Ty.Ez hh.1.1];decide
   .split at hh
    .simp only[fD] at hh;rw[Ty.Ez hh.1.1];decide
    .split at hh
     .simp only[fD,Ty.ok,decide_eq_true_eq] at hh;omega
     grind
  have h1:∀l:List Fm,(∀x∈l,x∈f.args)->(l.map Fm.full).sum<=65*(l.map Fm.size).sum:=by
   exact sD
  have h2:∀l:List Tm,(∀x∈l,x∈f.terms)->(l.map Tm.full).sum<=65*(l.map Tm.size).sum:=by
   intro l;induction l with
   |nil=>simp
   |cons x l ih2=>
    intro h;have h2:=ih2 fun y hy=>h y kr;have hx:=h x ko;have h3:=OA x (fF.1 ht x hx)
    grind
  have h3:=h1 f.args fun _ h=>h;have h4:=h2 f.terms fun _ h=>h;rw[Fm.Ag,Fm.size_eq];omega
variable{f:Fm}
theorem yh(h:f.err=0):f.full<=266240:=by
 have h1:=(Fm.Aa f).1 h;have:=K4 f h1.1;omega
theorem ye(h:t.err=0):t.full<=266240:=by
 have h1:=I8 h;have:=OA t h1.1;omega
theorem bq(h:f.err=0)(hn:f.near=true):∀p∈f.A6 0,∀q∈p.1.vars 0,0<=q.1/\q.1<549755813888:=fun p hp q hq=>by
 have h1:p.1.shape=true:=xj f ((Fm.Aa f).1 h).1 0 p hp;have h2:=fF.1 hn p hp;have h3:=fF.1 h2 q hq;simp at h3;exact⟨p.1.AR h1 0 q hq,kn⟩
theorem XN(f:Fm):0<=f.num/\f.num<=4096:=by
 simp only[Fm.num];split
 .rename_i h;have:=((Fm.Aa f).1 h).2;omega
 simp
mutual
def Fm.same:Fm->Fm->Bool
 | .mk k h ts xs,.mk k' h' ts' ys=>k==k'&&decide (h=h')&&decide (ts=ts')&&Fm.BO xs ys
def Fm.BO:List Fm->List Fm->Bool
 |[],[]=>true
 |x::xs,y::ys=>x.same y&&Fm.BO xs ys
 |_,_=>false
end
mutual
theorem Fm.Cm:∀a b:Fm,a.same b=true↔a=b
 | .mk k h ts xs,.mk k' h' ts' ys=>by simp only[Fm.same,fD,beq_iff_eq,decide_eq_true_eq,Fm.mk.injEq,Fm.B9 xs ys,and_assoc]
theorem Fm.B9:∀a b:List Fm,Fm.BO a b=true↔a=b
 |[],[]=>by simp[Fm.BO]
 |x::xs,y::ys=>by simp only[Fm.BO,fD,i5,Fm.Cm x y,Fm.B9 xs ys]
 |[],_::_=>by simp[Fm.BO]
 |_::_,[]=>by simp[Fm.BO]
end
instance:DecidableEq Fm:=fun a b=>decidable_of_iff _ (Fm.Cm a b)
theorem Ax{g g':Int->Int->Tm}(t:Tm):∀b,(∀p∈t.vars b,g p.1 p.2=g' p.1 p.2)->t.re g b=t.re g' b:=by
 induction t using Tm.ind with
 |h t ih=>
  intro b h;by_cases h1:t.kind=1
  .rw[FC h1,FC h1];exact h (t.index,b) (by rw[t.AY,if_pos h1];simp)
  .rw[wr h1,wr h1];congr 1;exact fY fun x hx=>ih x hx _ fun p hp=>h p (Pk h1 hx hp)
theorem Yg{at_:Int}{l:List (Int×Int)}(h:cnt at_ l=0):∀p∈l,¬p.1-p.2=at_:=by
 intro p hp he;have h1:p∈l.filter fun p=>p.1-p.2==at_:=iM.2 ⟨hp,kr⟩;have h2:=List.length_pos_of_mem h1;simp only[cnt] at h;omega
theorem Rl:∀{b b':Int},∀q∈t.vars b,∃q'∈t.vars b',q'.1=q.1:=by
 induction t using Tm.ind with
 |h t ih=>
  intro b b' q hq;rw[Tm.AY,fV] at hq;rcases hq with hq|hq
  .by_cases h1:t.kind=1
   .rw[if_pos h1,gp] at hq;exact⟨(t.index,b'),by rw[Tm.AY,if_pos h1];simp,by rw[hq]⟩
   grind
  .obtain ⟨x,hx,hq⟩:=gh.1 hq;obtain⟨q',h1,h2⟩:=ih x hx (b':=up t.kind b') q hq;exact⟨q',by rw[Tm.AY];grind,h2⟩
theorem aq:∀{b b':Int},∀q∈f.A6 b,∃q'∈f.A6 b',q'.1=q.1:=by
 induction f using Fm.ind with
 |h f ih=>
  intro b b' q hq;rw[Fm.A0,fV] at hq;rcases hq with hq|hq
  .obtain ⟨t,ht,rfl⟩:=fO.1 hq;exact⟨(t,b'),lQ,rfl⟩
  .obtain ⟨x,hx,hq⟩:=gh.1 hq;obtain⟨q',h1,h2⟩:=ih x hx (b':=A3 f.kind b') q hq;exact⟨q',lQ,h2⟩
theorem zp{x:Fm}(h:f.shape=true)(hx:x∈f.args):x.shape=true:=by
 rw[Fm.Ak,fD] at h
 grind
theorem yi(h:f.shape=true)(ht:t∈f.terms):t.shape=true:=by
 rw[Fm.Ak,fD,fD] at h
 grind
theorem Ybk(at_:Int)(s:Tm)(hs:s.shape=true)(f:Fm):f.shape=true->∀b,(f.re (fun b t=>t.re (yq (at_+b) s) 0) b).full<=f.full+ud at_ (f.A6 b)*s.full:=by
 induction f using Fm.ind with
 |h f ih=>
  intro hf b;have e3:(f.re (fun b t=>t.re (yq (at_+b) s) 0) b).full=1+f.ty.size+((f.terms.map fun t=>t.re (yq (at_+b) s) 0).map Tm.full).sum+((f.args.map (Fm.re (fun b t=>t.re (yq (at_+b) s) 0) (A3 f.kind b))).map Fm.full).sum:=by
   rw[Fm.A4,Fm.Ag];rfl
  rw[e3,f.Ag,Fm.A0,xg,iw,gK,gK];have h1:∀l:List Tm,(∀x∈l,x∈f.terms)->(l.map (Tm.full∘fun t=>t.re (yq (at_+b) s) 0)).sum<=(l.map Tm.full).sum+ud at_ (l.map fun t=>(t,b))*s.full:=by
   intro l;induction l with
   |nil=>simp
   |cons x l ihl=>
    intro hl;have h2:=Yik (at_+b) s x hs 0 (yi hf (hl x ko));have h3:=ihl fun y hy=>hl y kr;simp only[fJ,fT,iN,ud,iw];omega
  have h2:∀l:List Fm,(∀x∈l,x∈f.args)->(l.map (Fm.full∘Fm.re (fun b t=>t.re (yq (at_+b) s) 0) (A3 f.kind b))).sum<=(l.map Fm.full).sum+ud at_ (l.flatMap (Fm.A6 (A3 f.kind b)))*s.full:=by
   intro l;induction l with
   |nil=>simp
   |cons x l ihl=>
    exact ru
  grind
variable{s:Tm}
theorem Vc{at_:Int}(h:xm f at_ s=0):f.err=0/\s.err=0/\f.near=true/\s.near=true/\(f.size:Int)+ud at_ (f.A6 0)*(s.size-1)<=4096:=by
 simp only[xm] at h
 grind
theorem Zd{at_:Int}(h:xm f at_ s=0):(f.put at_ s).full<=1200000000:=by
 obtain⟨h1,h2,_,_,_⟩:=Vc h;have h3:=Ybk at_ s (I8 h2).1 f ((Fm.Aa f).1 h1).1 0;have h4:=yh h1;have h5:=ye h2;have h6:=MP at_ (f.A6 0);have h7:=OG f 0;have h8:=((Fm.Aa f).1 h1).2;have h9:ud at_ (f.A6 0)*s.full<=4096*266240:=iD kn h5;show(f.re _ 0).full<=_;omega
theorem Bz(g g':Int->Int->Tm)(t:Tm):∀b,(t.re g b).re g' b=t.re (fun i c=>(g i c).re g' c) b:=by
 induction t using Tm.ind with
 |h t ih=>
  intro b;by_cases h1:t.kind=1
  .rw[FC h1,FC h1]
  .rw[wr h1,wr h1,wr (t:=Tm.mk _ _ _ _) kP];simp_all
theorem Mv(g:Int->Int->Tm)(t:Tm):∀b,t.shape=true->(t.re g b).vars b=(t.vars b).flatMap fun p=>(g p.1 p.2).vars p.2:=by
 induction t using Tm.ind with
 |h t ih=>
  intro b hs;by_cases h1:t.kind=1
  .rw[FC h1,Jq hs h1];simp
  .rw[wr h1,LV h1,LV (t:=Tm.mk _ _ _ _) kP];simp only[Tm.Ai,Tm.Af,List.flatMap_assoc,List.flatMap_map];have:∀l:List Tm,(∀x∈l,x∈t.args)->l.flatMap (fun x=>(x.re g (up t.kind b)).vars (up t.kind b))=l.flatMap fun x=>(x.vars (up t.kind b)).flatMap fun p=>(g p.1 p.2).vars p.2:=by
    intro l;induction l with
    |nil=>simp
    |cons x l ihl=>
     intro h;rw[gx,gx,ihl fun y hy=>h y kr,ih x (h x ko) _ (zd hs x (h x ko))]
   grind
theorem Uu(k b c:Int):up k (b+c)=up k b+c:=mU
theorem u7(t:Tm):∀b c:Int,t.vars (b+c)=(t.vars b).map fun p=>(p.1,p.2+c):=by
 induction t using Tm.ind with
 |h t ih=>
  intro b c;rw[t.AY,t.AY,iE,Uu];congr 1
  .grind
  .rw[List.map_flatMap];have:∀l:List Tm,(∀x∈l,x∈t.args)->l.flatMap (Tm.vars (up t.kind b+c))=l.flatMap fun x=>(x.vars (up t.kind b)).map fun p=>(p.1,p.2+c):=by
    intro l;induction l<;>simp_all
   grind
theorem Cq(g:Int->Int->Tm)(c:Int)(t:Tm):∀b,t.re g (b+c)=t.re (fun i d=>g i (d+c)) b:=by
 induction t using Tm.ind with
 |h t ih=>
  intro b;by_cases h1:t.kind=1
  .rw[FC h1,FC h1]
  .rw[wr h1,wr h1,Uu];simp_all
theorem xq(g:Int->Int->Tm)(c:Int)(t:Tm):t.re g c=t.re (fun i d=>g i (d+c)) 0:=by
 have:=Cq g c t 0
 grind
theorem P9{f:Int×Int->Int×Int}{a a':Int}(l:List (Int×Int))(h:∀p∈l,((f p).1-(f p).2=a↔p.1-p.2=a')):cnt a (l.map f)=cnt a' l:=by
 induction l with
 |nil=>rfl
 |cons p l ih=>
  have h1:=ih fun q hq=>h q kr;have h2:=h p ko;rw[fJ,show f p::l.map f=[f p]++l.map f from rfl,show p::l=[p]++l from rfl,xy,xy,h1,vx,vx]
  grind
theorem MI(a b:Int)(t:Tm):cnt a (t.vars b)=cnt (a+b) (t.vars 0):=by
 have:=u7 t 0 b;rw[gL] at this;rw[this];exact P9 _ fun p _=>kn
theorem wh(j:Int)(g:Int->Int->Tm)(c:Int):(vT j).re g c=g j c:=kz
theorem Zip(j c:Int):(vT j).vars c=[(j,c)]:=kz
theorem z5(by_ i b:Int):zi fr by_ i b=vT (if i-b>=fr then i+by_ else i):=rfl
theorem xt(at_:Int)(s:Tm)(i b:Int):yq at_ s i b=if i-b=at_ then s.re (zi 0 (at_+b)) 0 else vT (if i-b>at_ then i-1 else i):=rfl
theorem Cc{g:Int->Int->Tm}(t:Tm):∀b,t.shape=true->(∀p∈t.vars b,g p.1 p.2=vT p.1)->t.re g b=t:=by
 induction t using Tm.ind with
 |h t ih=>
  intro b hs hg;by_cases h1:t.kind=1
  .rw[FC h1];have h2:=hg (t.index,b) (by rw[Jq hs h1];simp);rw[h2];exact(NG hs h1).symm
  .rw[wr h1];have h2:t.args.map (Tm.re g (up t.kind b))=t.args:=by
    conv=>rhs;rw[<-jL t.args]
    exact fY fun x hx=>ih x hx _ (zd hs x hx) fun p hp=>hg p (Pk h1 hx hp)
   simp_all
theorem Ki(by_:Int)(t:Tm)(b:Int)(hs:t.shape=true):(t.re (zi fr by_) b).vars b=(t.vars b).map fun p=>(if p.1-p.2>=fr then p.1+by_ else p.1,p.2):=by
 rw[Mv _ _ _ hs];simp only[z5,Zip];rw[List.map_eq_flatMap]
theorem Zt0(hs:t.shape=true)(n:Int)(j:Int)(h0:0<=j)(hj:j<n):cnt j ((t.re (zi 0 n) 0).vars 0)=0:=by
 rw[Ki _ _ _ _ hs];have:∀l:List (Int×Int),cnt j (l.map fun p=>(if p.1-p.2>=0 then p.1+n else p.1,p.2))=0:=by
  exact ry
 grind
theorem Fm.Bz(G G':Int->Tm->Tm)(f:Fm):∀b,(f.re G b).re G' b=f.re (fun b t=>G' b (G b t)) b:=by
 induction f using Fm.ind with
 |h f ih=>
  intro b;rw[Fm.A4,Fm.A4,Fm.A4];simp_all
theorem Fm.Ax{G G':Int->Tm->Tm}(f:Fm):∀b,(∀p∈f.A6 b,G p.2 p.1=G' p.2 p.1)->f.re G b=f.re G' b:=by
 induction f using Fm.ind with
 |h f ih=>
  intro b h;rw[Fm.A4,Fm.A4];congr 1
  .exact fY fun x hx=>h (x,b) lQ
  .exact fY fun x hx=>ih x hx _ fun p hp=>h p lQ
theorem Fm.Cc{G:Int->Tm->Tm}(f:Fm):∀b,(∀p∈f.A6 b,G p.2 p.1=p.1)->f.re G b=f:=by
 induction f using Fm.ind with
 |h f ih=>
  intro b h;rw[Fm.A4];have h1:f.terms.map (G b)=f.terms:=by
   conv=>rhs;rw[<-jL f.terms]
   exact fY fun x hx=>h (x,b) lQ
  have h2:f.args.map (Fm.re G (A3 f.kind b))=f.args:=by
   conv=>rhs;rw[<-jL f.args]
   exact fY fun x hx=>ih x hx _ fun p hp=>h p lQ
  rw[h1,h2];cases f;rfl
theorem Nk(k b:Int):b<=A3 k b/\A3 k b<=b+1:=by simp only[A3];omega
theorem u3:∀{b:Int},∀p∈f.A6 b,b<=p.2:=by
 induction f using Fm.ind with
 |h f ih=>
  intro b p hp;rw[Fm.A0,fV] at hp;rcases hp with hp|hp
  .grind
  .obtain ⟨x,hx,hp⟩:=gh.1 hp;have:=ih x hx p hp;have:=Nk f.kind b;omega
theorem uj{at_:Int}(ha:0<=at_)(hs:s.shape=true)(hf:f.shape=true):(f.put at_ s).shape=true:=by
 have key:∀(f:Fm) (b:Int),0<=b->f.shape=true->(f.re (fun b t=>t.re (yq (at_+b) s) 0) b).shape=true:=by
  intro f;induction f using Fm.ind with
  |h f ih=>
   intro b hb hf;have h0:=hf;rw[Fm.Ak,fD,fD] at h0;obtain⟨⟨h1,h2⟩,h3⟩:=h0;rw[Fm.A4,Fm.Ak,fD,fD];refine⟨⟨?_,?_⟩,?_⟩
   .exact rD
   .rw[Fm.Am,fF];intro y hy;obtain⟨x,hx,rfl⟩:=fO.1 hy;exact Pn 0 hs (fF.1 h2 x hx) kn kn fun p hp=>yw x 0 p hp
   .rw[Fm.Af,fF];intro y hy;obtain⟨x,hx,rfl⟩:=fO.1 hy;have:=Nk f.kind b
    grind
 exact key f 0 kn hf
theorem Ydq(n:Nat):∀(l:List Int),l.Nodup->(∀k∈l,0<=k/\k<n)->l.length<=n/\((∀k:Nat,k<n->(k:Int)∈l)↔l.length=n):=by
 induction n with
 |zero=>
  intro l _ h;cases l with
  |nil=>simp
  |cons x l=>have:=h x ko;omega
 |succ n ih=>
  intro l hn h;have h1:(l.filter (·≠(n:Int))).Nodup:=hn.filter _;have h2:=ih _ h1 fun k hk=>by
   rw[iM] at hk;have:=h k hk.1;have h3:k≠(n:Int):=by simpa using hk.2
   omega
  have hcount:l.length=(l.filter (·≠(n:Int))).length+(if(n:Int)∈l then 1 else 0):=by
   clear h2 h1 ih h;induction l with
   |nil=>simp
   |cons x l ihl=>
    rw[List.nodup_cons] at hn;have:=ihl hn.2;by_cases hx:x=(n:Int)
    .subst hx;rw[if_neg hn.1] at this;simp at this ⊢;omega
    .have e:((n:Int)∈x::l)↔(n:Int)∈l:=by simp[Ne.symm hx]
     simp only[e,fQ,List.filter_cons,ne_eq,hx,not_false_eq_true,decide_true,if_true];simp only[ne_eq] at this;omega
  by_cases hmem:(n:Int)∈l
  .rw[if_pos hmem] at hcount;refine⟨kn,?_⟩;constructor
   .intro h3;have:=h2.2.1 fun k hk=>iM.2 ⟨h3 k kn,kC⟩;omega
   .intro h3 k hk;by_cases hkn:k=n
    .subst hkn;exact hmem
    .exact (iM.1 (h2.2.2 kn k kn)).1
  .rw[if_neg hmem] at hcount;refine⟨kn,?_⟩;constructor
   .intro h3;exact absurd (h3 n kn) hmem
   .intro h3;omega
theorem QO(G:Int->Tm->Tm)(f:Fm):∀b,(f.re G b).A6 b=(f.A6 b).map fun p=>(G p.2 p.1,p.2):=by
 induction f using Fm.ind with
 |h f ih=>
  intro b;rw[Fm.A4,Fm.A0,Fm.A0];simp only[Fm.Ai,Fm.Am,Fm.Af,iE,gK,List.map_flatMap,List.flatMap_map];congr 1;have:∀l:List Fm,(∀x∈l,x∈f.args)->l.flatMap (fun x=>(x.re G (A3 f.kind b)).A6 (A3 f.kind b))=l.flatMap fun x=>(x.A6 (A3 f.kind b)).map fun p=>(G p.2 p.1,p.2):=by
   intro l;induction l<;>simp_all
  grind
theorem aY{G:Int->Tm->Tm}{j j':Int}:∀l:List (Tm×Int),(∀p∈l,cnt (j+p.2) ((G p.2 p.1).vars 0)=cnt (j'+p.2) (p.1.vars 0))->ud j (l.map fun p=>(G p.2 p.1,p.2))=ud j' l
 |[],_=>rfl
 |p::l,h=>by
  simp only[fJ,ud];rw[aY l fun q hq=>h q kr,h p ko]
theorem TH{l:List (Tm×Int)}(h:ud k l=0):∀p∈l,cnt (k+p.2) (p.1.vars 0)=0:=by
 induction l with
 |nil=>simp
 |cons q l ih=>
  simp only[ud] at h
  grind
theorem v7(at_:Int)(s:Tm)(hs:s.shape=true)(f:Fm):f.shape=true->∀b,(f.re (fun b t=>t.re (yq (at_+b) s) 0) b).size=f.size+ud at_ (f.A6 b)*(s.size-1):=by
 induction f using Fm.ind with
 |h f ih=>
  intro hf b;have e3:(f.re (fun b t=>t.re (yq (at_+b) s) 0) b).size=1+((f.terms.map fun t=>t.re (yq (at_+b) s) 0).map Tm.size).sum+((f.args.map (Fm.re (fun b t=>t.re (yq (at_+b) s) 0) (A3 f.kind b))).map Fm.size).sum:=by
   rw[Fm.A4,Fm.size_eq];rfl
  rw[e3,f.size_eq,Fm.A0,xg,iw,gK,gK];have h1:∀l:List Tm,(∀x∈l,x∈f.terms)->(l.map (Tm.size∘fun t=>t.re (yq (at_+b) s) 0)).sum=(l.map Tm.size).sum+ud at_ (l.map fun t=>(t,b))*(s.size-1):=by
   intro l;induction l with
   |nil=>intro _;simp[ud]
   |cons x l ihl=>
    intro hl;have h2:=PG (at_+b) s x hs 0 (yi hf (hl x ko));have h3:=ihl fun y hy=>hl y kr;simp only[fJ,fT,iN,ud,iw];omega
  have h2:∀l:List Fm,(∀x∈l,x∈f.args)->(l.map (Fm.size∘Fm.re (fun b t=>t.re (yq (at_+b) s) 0) (A3 f.kind b))).sum=(l.map Fm.size).sum+ud at_ (l.flatMap (Fm.A6 (A3 f.kind b)))*(s.size-1):=by
   intro l;induction l with
   |nil=>intro _;simp[ud]
   |cons x l ihl=>
    exact ru
  grind
theorem Ygx{at_:Int}(ha:0<=at_)(h:xm f at_ s=0):(f.put at_ s).err=0:=by
 obtain⟨h1,h2,_,_,h5⟩:=Vc h;have hf:=(Fm.Aa f).1 h1;have hs:=(I8 h2).1;refine(Fm.Aa _).2 ⟨uj ha hs hf.1,?_⟩;have h6:=v7 at_ s hs f hf.1 0;have hsp:=s.size_pos;show(f.re _ 0).size<=4096
 grind
mutual
def Fm.A9(g:List Ty):Fm->Prop
 | .mk k h ts as=>(∀t∈ts,t.inf g=(Ac,0))/\Fm.IY (if wc k=true then g++[h] else g) as
def Fm.IY(g:List Ty):List Fm->Prop
 |[]=>True
 |f::l=>f.A9 g/\Fm.IY g l
end
def C6(g:List Ty)(f:Fm):List Ty:=if wc f.kind=true then g++[f.ty] else g
theorem Fm.Gb(g:List Ty):∀l:List Fm,Fm.IY g l↔∀x∈l,x.A9 g
 |[]=>by simp[Fm.IY]
 |f::l=>by simp only[Fm.IY,Fm.Gb g l,fW,forall_eq_or_imp]
theorem Fm.A8(g:List Ty)(f:Fm):f.A9 g↔(∀t∈f.terms,t.inf g=(Ac,0))/\∀x∈f.args,x.A9 (C6 g f):=by
 cases f;simp only[Fm.A9,Fm.Gb,C6];rfl
theorem Jg(h:wc f.kind=true):C6 g f=g++[f.ty]:=if_pos h
theorem II(h:¬wc f.kind=true):C6 g f=g:=if_neg h
theorem Bx:wc k=true↔4<=k/\k<=7:=by simp[wc]
theorem bf(hg:Aj g):(d.HM g).1.A9 g:=by
 have m1:=(Dk.C8 3 d g Ac hg zj kn kn).inf hg zj;have m2:=(Dk.C8 3 (Dk.tm 3 d g Ac).2 g Ac hg zj kn kn).inf hg zj;rw[Fm.A8];refine⟨fun t ht=> ?_,fun x hx=>by cases hx⟩;simp only[Dk.HM,AV,Fm.Am,fW,gm,or_false] at ht
 grind
theorem Sr{a b:Fm}(hk:k=2\/k=3)(ha:a.A9 g)(hb:b.A9 g):(vm k a b).A9 g:=by
 rw[Fm.A8];have e:C6 g (vm k a b)=g:=II (by show ¬wc k=true;rw[Bx];omega);rw[e];refine And.intro (fun t ht=>by cases ht) (fun x hx=> ?_);simp only[vm,Fm.Af,fW,gm,or_false] at hx
 grind
theorem Ll{s:Ty}{a:Fm}(hk:4<=k/\k<=7)(ha:a.A9 (g++[s])):(AL k s a).A9 g:=by
 rw[Fm.A8];have e:C6 g (AL k s a)=g++[s]:=Jg (Bx.2 hk);rw[e];refine And.intro (fun t ht=>by cases ht) (fun x hx=> ?_);simp only[AL,Fm.Af,fW,gm,or_false] at hx
 grind
theorem Dk.Ji:∀(n:Nat) (d:Dk) (g:List Ty),Aj g->(Dk.fm n d g).1.A9 g:=by
 intro n;induction n with
 |zero=>exact fun d g hg=>bf d hg
 |succ n ih=>
  intro d g hg;have h2:=Dk.BC (((d.next 9).2.type 0).2) 2 kn;have s1:=Dk.type1 (d.next 9).2;have s0:=Dk.type0 (d.next 9).2;have s0':=z4 s0.1 s0.2;simp only[Dk.fm];repeat' split
  .exact Sr (.inl rfl) (ih _ _ hg) (ih _ _ hg)
  .exact Sr (.inr rfl) (ih _ _ hg) (ih _ _ hg)
  .exact Ll ⟨kn,kn⟩ (ih _ _ (zm hg (zg s1 zk)))
  .exact Ll ⟨kn,kn⟩ (ih _ _ (zm hg (zg s1 zk)))
  .exact Ll ⟨kn,kn⟩ (ih _ _ (zm hg (zg s0' zk)))
  .exact bf _ hg
theorem Uc(at_:Int)(s:Tm)(g:List Ty)(σ:Ty)(hs:s.shape=true)(hσ:s.inf g=(σ,0))(f:Fm):∀(h:List Ty) (b:Int),(h.length:Int)=at_+b->f.shape=true->f.A9 (g++[σ]++h)->
 (f.re (fun b t=>t.re (yq (at_+b) s) 0) b).A9 (g++h):=by
 induction f using Fm.ind with
 |h f ih=>
  intro h b hb hf hok;rw[Fm.A8] at hok;rw[Fm.A4,Fm.A8];simp only[Fm.Am,Fm.Af];refine⟨fun y hy=> ?_,fun y hy=> ?_⟩
  .obtain ⟨x,hx,rfl⟩:=fO.1 hy;rw[WG x s g h σ (at_+b) 0 (yi hf hx) hs kn hσ]
   grind
  .obtain ⟨x,hx,rfl⟩:=fO.1 hy;have h1:=hok.2 x hx;by_cases hq:wc f.kind=true
   .rw[Jg hq] at h1;rw[show ∀ts as,C6 (g++h) (Fm.mk f.kind f.ty ts as)=g++h++[f.ty] from fun ts as=>Jg (f:=Fm.mk f.kind f.ty ts as) hq];have e:A3 f.kind b=b+1:=if_pos hq;rw[e,fK];rw[fK] at h1;exact ih x hx (h++[f.ty]) (b+1) kr (zp hf hx) h1
   .rw[II hq] at h1;rw[show ∀ts as,C6 (g++h) (Fm.mk f.kind f.ty ts as)=g++h from fun ts as=>II (f:=Fm.mk f.kind f.ty ts as) hq];have e:A3 f.kind b=b:=if_neg hq;rw[e];exact ih x hx h b hb (zp hf hx) h1
theorem TT:∀{g:List Ty} {b:Int},f.A9 g->f.shape=true->∀q∈f.A6 b,∀v∈q.1.vars 0,v.1<g.length+f.size:=by
 induction f using Fm.ind with
 |h f ih=>
  intro g b hok hf q hq v hv;have e:=f.size_eq;rw[Fm.A8] at hok;rw[Fm.A0,fV] at hq;rcases hq with hq|hq
  .obtain ⟨t,ht,rfl⟩:=fO.1 hq;have h1:=zc Tm.size ht;have h2:=hok.1 t ht;exact Ot t g 0 _ (by rw[h2]) (yi hf ht) kn v hv
  .obtain ⟨x,hx,hq⟩:=gh.1 hq;have h1:=zc Fm.size hx;have h2:=ih x hx (hok.2 x hx) (zp hf hx) q hq v hv;have h3:(C6 g f).length<=g.length+1:=by simp only[C6];grind
   omega
theorem Yae(h:f.A9 g)(he:f.err=0)(hg:g.length<=1000):f.near=true/\f.IP=true:=by
 have h1:=(Fm.Aa f).1 he;refine⟨fF.2 fun q hq=>fF.2 fun v hv=> ?_,fF.2 fun q hq=>fF.2 fun v hv=> ?_⟩
 .have:=TT h h1.1 q hq v hv;grind
 .have:=TT h h1.1 q hq v hv;grind
theorem Up{f:α->Nat}{l:List α}(h:∀j (hj:j<l.length),f l[j]=0):(l.map f).sum=0:=by
 induction l with
 |nil=>rfl
 |cons x l ih=>
  have h0:=h 0 ko;have h1:=ih fun j hj=>by have:=h (j+1) kr;grind
  grind
theorem VV{f:α->Nat}{l:List α}(hm:m<l.length)(h:f l[m]≠0):(l.map f).sum≠0:=by
 have:=zc f (fA hm);omega
def vr(most:Int)(t:Tm):Bool:=(t.vars 0).all fun p=>decide (p.1<=most)
variable(most:Int)
theorem Yee(b:Int)(t:Tm):(t.vars b).all (fun p=>decide (p.1<=most))=vr most t:=by
 have h:=u7 t 0 b;rw[gL] at h;rw[h,kN];rfl
theorem UB(f:α->List β)(p:β->Bool)(l:List α):(l.flatMap f).all p=l.all fun x=>(f x).all p:=by
 simp
theorem Yb3{most:Int}(h0:0<=most)(hs:t.shape=true):vr most t=(decide (t.index<=most)&&t.args.all (vr most)):=by
 simp only[vr];by_cases h1:t.kind=1
 .rw[Jq hs h1,KI hs h1];simp
 .rw[LV h1,UB,(OO hs).2 h1,decide_eq_true h0,gY];congr 1;funext x;exact Yee most _ x
theorem YO(t:Tm):t.near=vr 536870912 t:=rfl
def Ia(most:Int)(f:Fm):Bool:=(f.A6 0).all fun p=>vr most p.1
theorem Yap(f:Fm):Ia most f=(f.terms.all (vr most)&&f.args.all (Ia most)):=by
 have key:∀(f:Fm) (b:Int),(f.A6 b).all (fun p=>vr most p.1)=Ia most f:=by
  intro f;induction f using Fm.ind with
  |h f ih=>
   intro b;have e:∀b,(f.A6 b).all (fun p=>vr most p.1)=(f.terms.all (vr most)&&f.args.all (Ia most)):=fun b=>by
    rw[Fm.A0,gC,kN,UB]
    grind
   rw[e b,<-e 0];rfl
 have e:Ia most f=(f.A6 0).all fun p=>vr most p.1:=rfl;rw[e,Fm.A0,gC,kN,UB]
 grind
theorem Zuh(f:Fm):f.near=Ia 536870912 f:=rfl
theorem Ynd(k fr by_:Int)(x:Tm):x.re (zi (up k fr) by_) 0=x.re (zi fr by_) (up k 0):=by
 rw[xq (zi fr by_) (up k 0) x];refine Ax x 0 fun p _=> ?_;simp only[z5];congr 1;have:up k fr=fr+up k 0:=by have:=Uu k 0 fr;grind
 omega
theorem Yeu{fr:Int}(h:t.kind≠1):t.re (zi fr by_) 0= .mk t.kind t.index t.ty (t.args.map fun x=>x.re (zi (up t.kind fr) by_) 0):=by
 rw[wr h];congr 1;exact fY fun x _=>(Ynd _ _ _ x).symm
def zq(at_:Int)(f:Fm):Nat:=ud at_ (f.A6 0)
theorem bP(at_:Int)(f:Fm):∀b c:Int,ud at_ (f.A6 (b+c))=ud (at_+c) (f.A6 b):=by
 induction f using Fm.ind with
 |h f ih=>
  intro b c;rw[Fm.A0,Fm.A0,xg,xg];have e:A3 f.kind (b+c)=A3 f.kind b+c:=by simp only[A3];grind
  rw[e];congr 1
  .generalize f.terms=l;induction l with
   |nil=>rfl
   |cons x l ihl=>
    simp only[fJ,ud,ihl]
    grind
  .have:∀l:List Fm,(∀x∈l,x∈f.args)->ud at_ (l.flatMap (Fm.A6 (A3 f.kind b+c)))=ud (at_+c) (l.flatMap (Fm.A6 (A3 f.kind b))):=by
    intro l;induction l with
    |nil=>intro _;rfl
    |cons x l ihl=>intro h;rw[gx,gx,xg,xg,ih x (h x ko),ihl fun y hy=>h y kr]
   grind
theorem dD{at_:Int}(hs:f.shape=true):zq at_ f=(f.terms.map (xn at_)).sum+(f.args.map (zq (A3 f.kind at_))).sum:=by
 unfold zq;rw[Fm.A0,xg];congr 1
 .have:∀l:List Tm,(∀x∈l,x.shape=true)->ud at_ (l.map fun t=>(t,(0:Int)))=(l.map (xn at_)).sum:=by
   intro l;induction l with
   |nil=>intro _;rfl
   |cons x l ih=>
    intro h;have h1:=UJ x at_ 0 (h x ko);simp only[fJ,fT,ud]
    grind
  exact this f.terms fun x hx=>yi hs hx
 .have:∀l:List Fm,ud at_ (l.flatMap (Fm.A6 (A3 f.kind 0)))=(l.map fun f'=>ud (A3 f.kind at_) (f'.A6 0)).sum:=by
   intro l;induction l with
   |nil=>rfl
   |cons x l ih=>
    rw[gx,xg,ih,fJ,fT];congr 1;have h1:=bP at_ x 0 (A3 f.kind 0);rw[gL] at h1;rw[h1];congr 1;simp only[A3];grind
  grind
theorem MF(at_:Int)(f:Fm):zq at_ f<=f.size:=by
 have h1:=MP at_ (f.A6 0);have h2:=OG f 0;unfold zq;omega
theorem Ykt(at_:Int)(s:Tm)(b:Int)(f:Fm):f.re (fun b t=>t.re (yq (at_+b) s) 0) b=f.re (fun b t=>t.re (yq at_ s) b) b:=by
 refine Fm.Ax f b fun p _=> ?_;rw[xq (yq at_ s) p.2];refine Ax p.1 0 fun q _=> ?_;simp only[xt]
 grind
def ur{α:Type}(f:α->Int):List α->Int
 |[]=>0
 |x::l=>if f x≠0 then f x else ur f l
theorem MX{α:Type}{f:α->Int}:∀{l:List α} {m:Nat} (hm:m<l.length),(∀j (hj:j<l.length),j<m->f l[j]=0)->f l[m]≠0->ur f l=f l[m]
 |[],m,hm,_,_=>kr
 |x::l,0,hm,_,h=>by simp only[ur,fM] at h ⊢;omega
 |x::l,m+1,hm,h0,h=>by
  have h1:=h0 0 ko kn;simp only[fM] at h1;simp only[ur,gi] at h ⊢;rw[if_neg kn];exact MX kr (fun j hj hjm=>kr) h
theorem u4{α:Type}{f:α->Int}:∀{l:List α},(∀j (hj:j<l.length),j<l.length->f l[j]=0)->ur f l=0
 |[],_=>rfl
 |x::l,h0=>by
  have h1:=h0 0 ko ko;simp only[fM] at h1;simp only[ur];rw[if_neg kn];exact u4 fun j hj hjm=>by have:=h0 (j+1) kr kr;grind
theorem Qm{f:α->Int}{l:List α}(h:∀x∈l,f x=0):ur f l=0:=u4 fun j hj _=>h _ (fA hj)
def tE(g:List Ty)(t:Tm):Int:=if(EM g t).2≠0 then(EM g t).2 else if(EM g t).1.kind≠1 then 7 else 0
mutual
def Fm.Fk(g:List Ty):Fm->Int
 | .mk k h ts as=>if ur (tE g) ts≠0 then ur (tE g) ts else Fm.Ko (if wc k=true then g++[h] else g) as
def Fm.Ko(g:List Ty):List Fm->Int
 |[]=>0
 |f::l=>if f.Fk g≠0 then f.Fk g else Fm.Ko g l
end
theorem Fm.GX(g:List Ty):∀l:List Fm,Fm.Ko g l=ur (Fm.Fk g) l
 |[]=>rfl
 |f::l=>by rw[Fm.Ko,Fm.GX g l];rfl
theorem Fm.GS(g:List Ty)(f:Fm):f.Fk g=if ur (tE g) f.terms≠0 then ur (tE g) f.terms else ur (Fm.Fk (C6 g f)) f.args:=by
 cases f;simp only[Fm.Fk,Fm.GX,C6];rfl
def va(g:List Ty)(f:Fm):Int:=if f.err≠0 then f.err else f.Fk g
def y8(g:List Ty)(f:Fm):Int:=if ww g≠0 then ww g else va g f
theorem dJ(f:Fm):∀g:List Ty,f.A9 g->f.shape=true->f.size<=4096->f.Fk g=0:=by
 induction f using Fm.ind with
 |h f ih=>
  intro g hok hs hz;have e:=f.size_eq;rw[Fm.A8] at hok;rw[Fm.GS];have h1:ur (tE g) f.terms=0:=Qm fun t ht=>by
   have h2:=zc Tm.size ht;have h3:t.err=0:=(Tm.Aa t).2 ⟨yi hs ht,kn⟩;have h4:EM g t=(Ac,0):=by simp only[EM];grind
   simp only[tE,h4];rfl
  rw[if_neg kn];exact Qm fun x hx=>ih x hx _ (hok.2 x hx) (zp hs hx) (by have:=zc Fm.size hx;omega)
theorem Q4(h:f.A9 g)(he:f.err=0)(hg:ww g=0):y8 g f=0:=by
 have h1:=(Fm.Aa f).1 he;simp only[y8,va];rw[if_neg kn,if_neg kn];exact dJ f g h h1.1 h1.2
def vw(t:Tm):Bool:=
 if t.kind=3 then(t.arg 0).kind==2
 else if t.kind=6 then(t.arg 2).kind==4||(t.arg 2).kind==5
 else if t.kind=9 then(t.arg 2).kind==7||(t.arg 2).kind==8
 else if t.kind=11\/t.kind=12 then(t.arg 0).kind==10 else false
def Nn(t:Tm):Tm:=
 if t.kind=3 then((t.arg 0).arg 0).re (yq 0 (t.arg 1)) 0
 else if t.kind=6 then
  if(t.arg 2).kind=4 then t.arg 0 else AE (AE (t.arg 1) ((t.arg 2).arg 0)) (.mk 6 0 t.ty [t.arg 0,t.arg 1,(t.arg 2).arg 0])
 else if t.kind=9 then
  if(t.arg 2).kind=7 then t.arg 0 else AE (AE (AE (t.arg 1) ((t.arg 2).arg 0)) ((t.arg 2).arg 1)) (.mk 9 0 t.ty [t.arg 0,t.arg 1,(t.arg 2).arg 1])
 else if t.kind=11 then(t.arg 0).arg 0 else(t.arg 0).arg 1
def HF(t:Tm):Int:=(Nn t).size-t.size
inductive RV:Tm->Tm->Prop
 |beta (i th j s b a):RV (.mk 3 i th [.mk 2 j s [b],a]) (b.re (yq 0 a) 0)
 |rz (i th x f j s):RV (.mk 6 i th [x,f,.mk 4 j s []]) x
 |rs (i th x f j s n):RV (.mk 6 i th [x,f,.mk 5 j s [n]]) (AE (AE f n) (.mk 6 0 th [x,f,n]))
 |fz (i th x f j s):RV (.mk 9 i th [x,f,.mk 7 j s []]) x
 |fs (i th x f j s h l):RV (.mk 9 i th [x,f,.mk 8 j s [h,l]]) (AE (AE (AE f h) l) (.mk 9 0 th [x,f,l]))
 |p1 (i th j s x y):RV (.mk 11 i th [.mk 10 j s [x,y]]) x
 |p2 (i th j s x y):RV (.mk 12 i th [.mk 10 j s [x,y]]) y
theorem KQ(hs:t.shape=true)(hk:t.kind=k)(ha:CV k=some 0):∃i th,t= .mk k i th []:=by
 obtain⟨k',i,th,xs⟩:=t;rw[Tm.Ak,fD] at hs;have h:=hs.1;simp only[Tm.head,fD,Tm.Ai,Tm.Af] at h hk
 grind
theorem NF(hs:t.shape=true)(h:vw t=true):RV t (Nn t):=by
 unfold vw at h;by_cases h3:t.kind=3
 .rw[if_pos h3] at h;obtain⟨i,th,f,a,rfl,hf,ha⟩:=KK hs h3 rfl;simp only[Tm.arg,Tm.Af,hO,beq_iff_eq] at h;obtain⟨j,s,b,rfl,hb⟩:=Hp hf h rfl;exact .beta i th j s b a
 rw[if_neg h3] at h;by_cases h6:t.kind=6
 .rw[if_pos h6] at h;obtain⟨i,th,x,f,z,rfl,hx,hf,hz⟩:=M3 hs h6 rfl;simp only[Tm.arg,Tm.Af,hO,iG,ic,beq_iff_eq] at h;rcases h with h|h
  .obtain ⟨j,s,rfl⟩:=KQ hz h rfl;exact .rz i th x f j s
  .obtain ⟨j,s,n,rfl,hn⟩:=Hp hz h rfl;exact .rs i th x f j s n
 rw[if_neg h6] at h;by_cases h9:t.kind=9
 .rw[if_pos h9] at h;obtain⟨i,th,x,f,z,rfl,hx,hf,hz⟩:=M3 hs h9 rfl;simp only[Tm.arg,Tm.Af,hO,iG,ic,beq_iff_eq] at h;rcases h with h|h
  .obtain ⟨j,s,rfl⟩:=KQ hz h rfl;exact .fz i th x f j s
  .obtain ⟨j,s,n,l,rfl,hn,hl⟩:=KK hz h rfl;exact .fs i th x f j s n l
 rw[if_neg h9] at h;by_cases h11:t.kind=11
 .rw[if_pos (.inl h11)] at h;obtain⟨i,th,p,rfl,hp⟩:=Hp hs h11 rfl;simp only[Tm.arg,Tm.Af,hO,beq_iff_eq] at h;obtain⟨j,s,x,y,rfl,hx,hy⟩:=KK hp h rfl;exact .p1 i th j s x y
 by_cases h12:t.kind=12
 .rw[if_pos (.inr h12)] at h;obtain⟨i,th,p,rfl,hp⟩:=Hp hs h12 rfl;simp only[Tm.arg,Tm.Af,hO,beq_iff_eq] at h;obtain⟨j,s,x,y,rfl,hx,hy⟩:=KK hp h rfl;exact .p2 i th j s x y
 grind
theorem Ol{f:Tm}(hf:f.shape=true)(hx:x.shape=true):(AE f x).shape=true:=by
 simp[AE,Tm.shape,Tm.AZ,Tm.head,CV,x9,Ty.Bv,hf,hx]
theorem QF(hs:t.shape=true)(h:vw t=true):(Nn t).shape=true:=by
 have hv:=NF hs h;have hargs:=zd hs;generalize Nn t=u at hv;cases hv with
 |beta i th j s b a=>
  have h1:=zd (hargs (.mk 2 j s [b]) ko) b ko;exact Pn 0 (hargs a ko) h1 (gr _) (gr _) fun p hp=>yw b 0 p hp
 |rz=>simp_all
 |fz=>simp_all
 |rs i th x f j s n=>
  have h1:=zd (hargs (.mk 5 j s [n]) ko) n ko;have hx:=hargs x ko;have hf:=hargs f ko;have hh:th.ok=true:=oI
  refine Ol (Ol hf h1) ?_;simp[Tm.shape,Tm.AZ,Tm.head,CV,x9,hf,hx,h1,hh]
 |fs i th x f j s n l=>
  have h1:=zd (hargs (.mk 8 j s [n,l]) ko) n ko;have h2:=zd (hargs (.mk 8 j s [n,l]) ko) l ko;have hx:=hargs x ko;have hf:=hargs f ko;have hh:th.ok=true:=oI
  refine Ol (Ol (Ol hf h1) h2) ?_;simp[Tm.shape,Tm.AZ,Tm.head,CV,x9,hf,hx,h2,hh]
 |p1 i th j s _ y=>exact zd (hargs (.mk 10 j s [u,y]) ko) u ko
 |p2 i th j s x _=>exact zd (hargs (.mk 10 j s [x,u]) ko) u ko
theorem Ygs{C:Int}(hC:0<=C)(hs:t.shape=true)(h:RV t u)(hf:∀p∈t.vars 0,p.1-p.2<=C):∀p∈u.vars 0,p.1-p.2<=C:=by
 have hargs:=zd hs;cases h with
 |beta i th j s b a=>
  have hb:=zd (hargs (.mk 2 j s [b]) ko) b ko;have ha:=hargs a ko;intro p hp;rw[Mv _ _ _ hb,gh] at hp;obtain⟨q,hq,hp⟩:=hp;have hq2:=yw b 0 q hq;have hfb:q.1-(q.2+1)<=C:=by
   refine hf (q.1,q.2+1) ?_;have e:b.vars 1=(b.vars 0).map fun p=>(p.1,p.2+1):=by have:=u7 b 0 1;grind
   have hm:(q.1,q.2+1)∈b.vars 1:=kr
   simp[Tm.vars,Tm.BV,up]
   grind
  rw[xt] at hp;by_cases h0:q.1-q.2=0
  .rw[if_pos h0] at hp;have e:(a.re (zi 0 (0+q.2)) 0).vars q.2=((a.re (zi 0 q.2) 0).vars 0).map fun p=>(p.1,p.2+q.2):=by have:=u7 (a.re (zi 0 (0+q.2)) 0) 0 q.2;grind
   rw[e,Ki _ _ _ _ ha,gK,fO] at hp;obtain⟨r,hr,rfl⟩:=hp;have hfa:=hf r (by
    simp only[Tm.vars,Tm.BV,up,fV]
    grind)
   grind
  .rw[if_neg h0,Zip] at hp
   grind
 |rz i th x f j s=>intro p hp;refine hf p ?_;simp[Tm.vars,Tm.BV,up,hp]
 |fz i th x f j s=>intro p hp;refine hf p ?_;simp[Tm.vars,Tm.BV,up,hp]
 |rs i th x f j s n=>
  exact sY
 |fs i th x f j s n l=>
  exact sY
 |p1 i th j s x y=>intro p hp;refine hf p ?_;simp[Tm.vars,Tm.BV,up,hp]
 |p2 i th j s x y=>intro p hp;refine hf p ?_;simp[Tm.vars,Tm.BV,up,hp]
mutual
def Dy(room:Int):Tm->Option (Tm×Bool)
 | .mk k i h xs=>if vw (.mk k i h xs)=true then some (if HF (.mk k i h xs)>room then(AB,false) else(Nn (.mk k i h xs),true)) else(Gm room xs).map fun p=>(.mk k i h p.1,p.2)
def Gm(room:Int):List Tm->Option (List Tm×Bool)
 |[]=>none
 |x::l=>match Dy room x with
  |some p=>some (p.1::l,p.2)
  |none=>(Gm room l).map fun q=>(x::q.1,q.2)
end
theorem Ii(room:Int)(t:Tm):Dy room t=if vw t=true then some (if HF t>room then(AB,false) else(Nn t,true)) else(Gm room t.args).map fun p=>(.mk t.kind t.index t.ty p.1,p.2):=by
 cases t;rfl
theorem eV(room:Int):∀(xs:List Tm) (i:Nat) (hi:i<xs.length) (u:Tm×Bool),Dy room xs[i]=some u->(∀(j:Nat) (hj:j<xs.length),j<i->Dy room xs[j]=none)->Gm room xs=some (xs.set i u.1,u.2)
 |[],i,hi,u,h,hn=>kr
 |x::l,0,hi,u,h,hn=>by
  simp only[fM] at h;simp only[Gm,h];rfl
 |x::l,i+1,hi,u,h,hn=>by
  have h0:=hn 0 ko kn;simp only[fM] at h0;have:=eV room l i kr u kr fun j hj hji=>kr
  simp only[Gm,h0,this,gM];rfl
theorem YF(room:Int):∀(xs:List Tm),(∀(j:Nat) (hj:j<xs.length),j<xs.length->Dy room xs[j]=none)->Gm room xs=none
 |[],_=>rfl
 |x::l,h=>by
  have h0:=h 0 ko ko;simp only[fM] at h0;have:=YF room l fun j hj _=>by have:=h (j+1) kr kr;grind
  simp only[Gm,h0,this];rfl
theorem SB(room:Int):∀(xs:List Tm) (q:List Tm×Bool),Gm room xs=some q->∃(i:Nat) (hi:i<xs.length) (u:Tm),Dy room xs[i]=some (u,q.2)/\q.1=xs.set i u
 |[],q,h=>by simp[Gm] at h
 |x::l,q,h=>by
  simp only[Gm] at h;cases hx:Dy room x with
  |some u=>rw[hx] at h;cases h;exact⟨0,ko,u.1,kr,rfl⟩
  |none=>
   rw[hx] at h;simp only[fE] at h;obtain⟨r,h1,rfl⟩:=h;obtain⟨i,hi,u,h2,h3⟩:=SB room l r h1;exact⟨i+1,kr,u,kr,kr⟩
theorem Yw(room:Int)(t:Tm):∀u,t.shape=true->Dy room t=some (u,true)->u.shape=true/\(u.size:Int)<=t.size+room/\∀C:Int,0<=C->∀b:Int,0<=b->(∀p∈t.vars b,p.1-p.2<=C)->∀p∈u.vars b,p.1-p.2<=C:=by
 induction t using Tm.ind with
 |h t ih=>
  intro u hs h;rw[Ii] at h;by_cases hr:vw t=true
  .rw[if_pos hr] at h;by_cases hg:HF t>room
   .grind
   .rw[if_neg hg] at h;simp at h;subst h;refine⟨QF hs hr,by simp only[HF] at hg;omega,fun C hC b hb hf=> ?_⟩;have e:∀x:Tm,x.vars b=(x.vars 0).map fun p=>(p.1,p.2+b):=fun x=>by have:=u7 x 0 b;grind
    rw[e] at hf ⊢;have:=Ygs (C:=C+b) kn hs (NF hs hr) fun p hp=>by have:=hf _ (fO.2 ⟨p,hp,rfl⟩);omega
    grind
  .rw[if_neg hr] at h;simp only[fE] at h;obtain⟨q,h1,h2⟩:=h;obtain⟨i,hi,v,h3,h4⟩:=SB room _ _ h1;have h5:q.2=true:=kr
   have h6:u= .mk t.kind t.index t.ty (t.args.set i v):=kr
   subst h6;rw[h5] at h3;have hm:=fA hi;obtain⟨i1,i2,i3⟩:=ih _ hm v (zd hs _ hm) h3;refine⟨?_,?_,?_⟩
   .have:(Tm.mk t.kind t.index t.ty t.args).shape=true:=kP
    exact Tb this i1
   .have:=Td Tm.size v t.args i hi;rw[Tm.size_eq,Tm.size_eq t];simp only[Tm.Af];omega
   .intro C hC b hb hf p hp;rw[Tm.AY] at hp hf;simp only[Tm.Ai,Tm.AG,Tm.Af,fV] at hp hf;rcases hp with hp|hp
    .grind
    .obtain ⟨y,hy,hp⟩:=gh.1 hp;have hup:0<=up t.kind b:=mU
     rcases jH hy with hy|hyv
     .grind
     .rw[hyv] at hp;exact i3 C hC _ hup (fun p hp=>hf p (.inr (gh.2 ⟨_,hm,hp⟩))) p hp
def z6(σ:Int->Tm)(i c:Int):Tm:=if i<c then vT i else(σ (i-c)).re (zi 0 c) 0
theorem Ymd(s:Tm)(m n c:Int)(hm:0<=m)(hn:m<=n):(s.re (zi 0 n) 0).re (zi m c) 0=s.re (zi 0 (n+c)) 0:=by
 rw[Bz];refine Ax s 0 fun p hp=> ?_;simp only[z5,wh]
 grind
theorem Lh(s a:Tm)(c n:Int)(hc:0<=c)(hn:c<=n):(s.re (zi 0 (n+1)) 0).re (yq 0 a) c=s.re (zi 0 n) 0:=by
 rw[xq _ c,Bz];refine Ax s 0 fun p hp=> ?_;simp only[z5,wh,xt]
 grind
theorem Yer(s:Tm)(c d:Int):s.re (zi 0 c) d=s.re (zi d c) 0:=by
 rw[xq _ d];refine Ax s 0 fun p hp=> ?_;simp only[z5]
 grind
theorem Wv(σ:Int->Tm)(a:Tm)(b c:Int)(hb:0<=b)(hc:0<=c):(a.re (zi 0 c) 0).re (fun i d=>z6 σ i (d+b)) c=(a.re (z6 σ) b).re (zi 0 c) 0:=by
 rw[xq _ c,Bz,xq (z6 σ) b,Bz];refine Ax a 0 fun p hp=> ?_;have h2:=yw a 0 p hp;simp only[z5,wh];by_cases h:p.1<p.2
 .rw[if_neg kn];simp only[z6];rw[if_pos kn,if_pos kn,wh,z5,if_neg kn]
 .rw[if_pos kn];simp only[z6];by_cases h3:p.1<p.2+b
  .rw[if_pos kn,if_pos h3,wh,z5,if_pos kn]
  .rw[if_neg kn,if_neg h3,Yer _ c,Ymd _ _ _ _ h2 kn]
   grind
theorem Ylk(σ:Int->Tm)(t a:Tm)(b:Int)(hb:0<=b):(t.re (yq 0 a) 0).re (z6 σ) b=(t.re (z6 σ) (b+1)).re (yq 0 (a.re (z6 σ) b)) 0:=by
 rw[xq (z6 σ) b,Bz,xq (z6 σ) (b+1),Bz];refine Ax t 0 fun p hp=> ?_;have h2:=yw t 0 p hp;by_cases h0:p.1-p.2=0
 .have e:p.1=p.2:=kn
  have e1:yq 0 a p.1 p.2=a.re (zi 0 p.2) 0:=by rw[xt,if_pos h0,gL]
  have e2:z6 σ p.1 (p.2+(b+1))=vT p.1:=if_pos kn;rw[e1,e2,wh,xt,if_pos h0,gL,Wv σ a b p.2 hb h2]
 .have e1:yq 0 a p.1 p.2=vT (if p.1-p.2>0 then p.1-1 else p.1):=by rw[xt,if_neg h0]
  rw[e1,wh];by_cases h:p.1<p.2
  .rw[if_neg kn];simp only[z6];rw[if_pos kn,if_pos kn,wh,xt,if_neg kn,if_neg kn]
  .rw[if_pos kn];simp only[z6];by_cases h3:p.1<p.2+(b+1)
   .rw[if_pos kn,if_pos h3,wh,xt,if_neg h0,if_pos kn]
   .rw[if_neg kn,if_neg h3,show p.2+(b+1)=(p.2+b)+1 by omega,Lh _ _ _ _ h2 kn]
    grind
def Cs(a:Tm)(j:Int):Tm:=if j=0 then a else vT (j-1)
def Gg(n j:Int):Tm:=vT (j+n)
theorem Ry(a t:Tm):t.re (yq 0 a) 0=t.re (z6 (Cs a)) 0:=by
 refine Ax t 0 fun p hp=> ?_;rw[xt];simp only[z6,Cs];by_cases h:p.1<p.2
 .grind
 .rw[if_neg h];by_cases h0:p.1-p.2=0
  .grind
  .rw[if_neg h0,if_neg h0,if_pos kn,wh,z5,if_pos kn]
   grind
theorem Yv(n:Int)(hn:0<=n)(t:Tm):t.re (zi 0 n) 0=t.re (z6 (Gg n)) 0:=by
 refine Ax t 0 fun p hp=> ?_;rw[z5];simp only[z6,Gg];by_cases h:p.1<p.2
 .grind
 .rw[if_neg h,if_pos kn,wh,z5,if_pos kn]
  grind
mutual
inductive BF:Tm->Tm->Prop
 |node {k i h xs ys} (hp:DT xs ys):BF (.mk k i h xs) (.mk k i h ys)
 |beta {i th j s b b' a a'} (hb:BF b b') (ha:BF a a'):BF (.mk 3 i th [.mk 2 j s [b],a]) (b'.re (yq 0 a') 0)
 |rz {i th x x' f j s} (hx:BF x x'):BF (.mk 6 i th [x,f,.mk 4 j s []]) x'
 |rs {i th x x' f f' j s n n'} (hx:BF x x') (hf:BF f f') (hn:BF n n'):BF (.mk 6 i th [x,f,.mk 5 j s [n]]) (AE (AE f' n') (.mk 6 0 th [x',f',n']))
 |fz {i th x x' f j s} (hx:BF x x'):BF (.mk 9 i th [x,f,.mk 7 j s []]) x'
 |fs {i th x x' f f' j s n n' l l'} (hx:BF x x') (hf:BF f f') (hn:BF n n') (hl:BF l l'):BF (.mk 9 i th [x,f,.mk 8 j s [n,l]]) (AE (AE (AE f' n') l') (.mk 9 0 th [x',f',l']))
 |p1 {i th j s x x' y} (hx:BF x x'):BF (.mk 11 i th [.mk 10 j s [x,y]]) x'
 |p2 {i th j s x y y'} (hy:BF y y'):BF (.mk 12 i th [.mk 10 j s [x,y]]) y'
inductive DT:List Tm->List Tm->Prop
 |nil:DT [] []
 |cons {x y xs ys} (h:BF x y) (hs:DT xs ys):DT (x::xs) (y::ys)
end
theorem UQ:∀(xs:List Tm),(∀x∈xs,BF x x)->DT xs xs
 |[],_=> .nil
 |x::l,h=> .cons (h x ko) (UQ l fun y hy=>h y kr)
theorem BF.refl(t:Tm):BF t t:=by
 induction t using Tm.ind with
 |h t ih=>obtain⟨k,i,h,xs⟩:=t;exact .node (UQ xs ih)
theorem dX:∀(xs:List Tm) (i:Nat) (hi:i<xs.length) (u:Tm),BF xs[i] u->DT xs (xs.set i u)
 |x::l,0,_,u,h=> .cons h (UQ l fun y _=>BF.refl y)
 |x::l,i+1,hi,u,h=> .cons (BF.refl x) (dX l i kr u kr)
theorem Yrr(h:RV t u):BF t u:=by
 cases h with
 |beta=>exact .beta (.refl _) (.refl _)
 |rz=>exact .rz (.refl _)
 |rs=>exact .rs (.refl _) (.refl _) (.refl _)
 |fz=>exact .fz (.refl _)
 |fs=>exact .fs (.refl _) (.refl _) (.refl _) (.refl _)
 |p1=>exact .p1 (.refl _)
 |p2=>exact .p2 (.refl _)
theorem Yql(room:Int)(t:Tm):∀u,t.shape=true->Dy room t=some (u,true)->BF t u:=by
 induction t using Tm.ind with
 |h t ih=>
  intro u hs h;rw[Ii] at h;by_cases hr:vw t=true
  .rw[if_pos hr] at h;by_cases hg:HF t>room
   .grind
   .rw[if_neg hg] at h;simp at h;subst h;exact Yrr (NF hs hr)
  .rw[if_neg hr] at h;simp only[fE] at h;obtain⟨q,h1,h2⟩:=h;obtain⟨i,hi,v,h3,h4⟩:=SB room _ _ h1;have h5:q.2=true:=kr
   have h6:u= .mk t.kind t.index t.ty (t.args.set i v):=kr
   subst h6;rw[h5] at h3;have hm:=fA hi;have:=ih _ hm v (zd hs _ hm) h3;obtain⟨k,j,th,xs⟩:=t;exact .node (dX xs i hi v this)
mutual
theorem u9{σ σ':Int->Tm}(hσ:∀i c,0<=c->BF (z6 σ i c) (z6 σ' i c)):∀{t u:Tm},BF t u->∀b:Int,0<=b->BF (t.re (z6 σ) b) (u.re (z6 σ') b)
 |_,_,.node (k:=k) (i:=i) (h:=h) (xs:=xs) (ys:=ys) hp,b,hb=>by
  by_cases h1:k=1
  .subst h1;rw[FC (t:= .mk 1 i h xs) rfl,FC (t:= .mk 1 i h ys) rfl];simp_all
  .rw[wr (t:= .mk k i h xs) h1,wr (t:= .mk k i h ys) h1];exact .node (Z0 hσ hp (up k b) mU)
 |_,_,.beta (b':=b') (a':=a') h1 h2,b,hb=>by
  rw[Ylk σ' b' a' b hb];simp only[Tm.re,Tm.res,up];simp only[show ¬((3:Int)=1) by decide,show ¬((3:Int)=2) by decide,show ¬((2:Int)=1) by decide,if_false,if_true];exact .beta (u9 hσ h1 (b+1) kn) (u9 hσ h2 b hb)
 |_,_,.rz h1,b,hb=>by
  simp only[Tm.re,Tm.res,up];simp only[show ¬((6:Int)=1) by decide,show ¬((6:Int)=2) by decide,show ¬((4:Int)=1) by decide,if_false];exact .rz (u9 hσ h1 b hb)
 |_,_,.rs h1 h2 h3,b,hb=>by
  simp only[AE,Tm.re,Tm.res,up];simp only[show ¬((6:Int)=1) by decide,show ¬((6:Int)=2) by decide,show ¬((5:Int)=1) by decide,show ¬((5:Int)=2) by decide,show ¬((3:Int)=1) by decide,show ¬((3:Int)=2) by decide,if_false];exact .rs (u9 hσ h1 b hb) (u9 hσ h2 b hb) (u9 hσ h3 b hb)
 |_,_,.fz h1,b,hb=>by
  simp only[Tm.re,Tm.res,up];simp only[show ¬((9:Int)=1) by decide,show ¬((9:Int)=2) by decide,show ¬((7:Int)=1) by decide,if_false];exact .fz (u9 hσ h1 b hb)
 |_,_,.fs h1 h2 h3 h4,b,hb=>by
  simp only[AE,Tm.re,Tm.res,up];simp only[show ¬((9:Int)=1) by decide,show ¬((9:Int)=2) by decide,show ¬((8:Int)=1) by decide,show ¬((8:Int)=2) by decide,show ¬((3:Int)=1) by decide,show ¬((3:Int)=2) by decide,if_false];exact .fs (u9 hσ h1 b hb) (u9 hσ h2 b hb) (u9 hσ h3 b hb) (u9 hσ h4 b hb)
 |_,_,.p1 h1,b,hb=>by
  simp only[Tm.re,Tm.res,up];simp only[show ¬((11:Int)=1) by decide,show ¬((11:Int)=2) by decide,show ¬((10:Int)=1) by decide,show ¬((10:Int)=2) by decide,if_false];exact .p1 (u9 hσ h1 b hb)
 |_,_,.p2 h1,b,hb=>by
  simp only[Tm.re,Tm.res,up];simp only[show ¬((12:Int)=1) by decide,show ¬((12:Int)=2) by decide,show ¬((10:Int)=1) by decide,show ¬((10:Int)=2) by decide,if_false];exact .p2 (u9 hσ h1 b hb)
theorem Z0{σ σ':Int->Tm}(hσ:∀i c,0<=c->BF (z6 σ i c) (z6 σ' i c)):∀{xs ys:List Tm},DT xs ys->∀b:Int,0<=b->DT (xs.map (Tm.re (z6 σ) b)) (ys.map (Tm.re (z6 σ') b))
 |_,_,.nil,_,_=> .nil
 |_,_,.cons h hs,b,hb=> .cons (u9 hσ h b hb) (Z0 hσ hs b hb)
end
theorem Zk(h:BF t u)(n:Int)(hn:0<=n):BF (t.re (zi 0 n) 0) (u.re (zi 0 n) 0):=by
 rw[Yv n hn,Yv n hn];refine u9 (fun i c _=> ?_) h 0 (gr _);exact BF.refl _
theorem QM{b' a':Tm}(hb:BF b b')(ha:BF a a'):BF (b.re (yq 0 a) 0) (b'.re (yq 0 a') 0):=by
 rw[Ry,Ry];refine u9 (fun i c hc=> ?_) hb 0 (gr _);simp only[z6,Cs];by_cases h:i<c
 .rw[if_pos h,if_pos h];exact BF.refl _
 .rw[if_neg h,if_neg h];by_cases h0:i-c=0
  .rw[if_pos h0,if_pos h0];exact Zk ha c hc
  .rw[if_neg h0,if_neg h0];exact BF.refl _
theorem cN:∀(xs:List Tm),(∀x∈xs,∃w,∀u,BF x u->BF u w)->∃ws,∀ys,DT xs ys->DT ys ws
 |[],_=>⟨[],fun ys h=>by cases h;exact .nil⟩
 |x::l,h=>by
  obtain⟨w,hw⟩:=h x ko;obtain⟨ws,EZ⟩:=cN l fun y hy=>h y kr;exact⟨w::ws,fun ys hy=>by cases hy with|cons h1 h2=>exact .cons (hw _ h1) (EZ _ h2)⟩
theorem O3{f f' x':Tm}(hf:BF f f')(hx:BF x x'):BF (AE f x) (AE f' x'):= .node (.cons hf (.cons hx .nil))
theorem Zc:∀(n:Nat) (t:Tm),t.size<=n->∃w,∀u,BF t u->BF u w:=by
 intro n;induction n with
 |zero=>intro t h;have:=t.size_pos;omega
 |succ n ih=>
 intro t ht;by_cases hr:∃u,RV t u
 .obtain ⟨x0,hr⟩:=hr;cases hr with
  |beta i th j s b a=>
   simp only[Tm.size,Tm.sizes] at ht;obtain⟨wb,hb⟩:=ih b kn;obtain⟨wa,ha⟩:=ih a kn;refine⟨wb.re (yq 0 wa) 0,fun u hu=> ?_⟩;cases hu with
   |node hp=>
    cases hp with|cons h1 h2=>cases h2 with|cons h2 h3=>cases h3;cases h1 with|node h4=>cases h4 with|cons h4 h5=>cases h5;exact .beta (hb _ h4) (ha _ h2)
   |beta h1 h2=>exact QM (hb _ h1) (ha _ h2)
  |rz i th _ f j s=>
   simp only[Tm.size,Tm.sizes] at ht;obtain⟨wx,hx⟩:=ih x0 kn;refine⟨wx,fun u hu=> ?_⟩;cases hu with
   |node hp=>
    cases hp with|cons h1 h2=>cases h2 with|cons h2 h3=>cases h3 with|cons h3 h4=>cases h4;cases h3 with|node h5=>cases h5;exact .rz (hx _ h1)
   |rz h1=>grind
  |rs i th x f j s n=>
   simp only[Tm.size,Tm.sizes] at ht;obtain⟨wx,hx⟩:=ih x kn;obtain⟨wf,hf⟩:=ih f kn;obtain⟨wn,hn⟩:=ih n kn;refine⟨AE (AE wf wn) (.mk 6 0 th [wx,wf,wn]),fun u hu=> ?_⟩;cases hu with
   |node hp=>
    cases hp with|cons h1 h2=>cases h2 with|cons h2 h3=>cases h3 with|cons h3 h4=>cases h4;cases h3 with|node h5=>cases h5 with|cons h5 h6=>cases h6;exact .rs (hx _ h1) (hf _ h2) (hn _ h5)
   |rs h1 h2 h3=>exact O3 (O3 (hf _ h2) (hn _ h3)) (.node (.cons (hx _ h1) (.cons (hf _ h2) (.cons (hn _ h3) .nil))))
  |fz i th _ f j s=>
   simp only[Tm.size,Tm.sizes] at ht;obtain⟨wx,hx⟩:=ih x0 kn;refine⟨wx,fun u hu=> ?_⟩;cases hu with
   |node hp=>
    cases hp with|cons h1 h2=>cases h2 with|cons h2 h3=>cases h3 with|cons h3 h4=>cases h4;cases h3 with|node h5=>cases h5;exact .fz (hx _ h1)
   |fz h1=>grind
  |fs i th x f j s n l=>
   simp only[Tm.size,Tm.sizes] at ht;obtain⟨wx,hx⟩:=ih x kn;obtain⟨wf,hf⟩:=ih f kn;obtain⟨wn,hn⟩:=ih n kn;obtain⟨wl,hl⟩:=ih l kn;refine⟨AE (AE (AE wf wn) wl) (.mk 9 0 th [wx,wf,wl]),fun u hu=> ?_⟩;cases hu with
   |node hp=>
    cases hp with|cons h1 h2=>cases h2 with|cons h2 h3=>cases h3 with|cons h3 h4=>cases h4;cases h3 with|node h5=>cases h5 with|cons h5 h6=>cases h6 with|cons h6 h7=>cases h7;exact .fs (hx _ h1) (hf _ h2) (hn _ h5) (hl _ h6)
   |fs h1 h2 h3 h4=>exact O3 (O3 (O3 (hf _ h2) (hn _ h3)) (hl _ h4)) (.node (.cons (hx _ h1) (.cons (hf _ h2) (.cons (hl _ h4) .nil))))
  |p1 i th j s _ y=>
   simp only[Tm.size,Tm.sizes] at ht;obtain⟨wx,hx⟩:=ih x0 kn;refine⟨wx,fun u hu=> ?_⟩;cases hu with
   |node hp=>
    cases hp with|cons h1 h2=>cases h2;cases h1 with|node h5=>cases h5 with|cons h5 h6=>cases h6 with|cons h6 h7=>cases h7;exact .p1 (hx _ h5)
   |p1 h1=>grind
  |p2 i th j s x _=>
   simp only[Tm.size,Tm.sizes] at ht;obtain⟨wx,hx⟩:=ih x0 kn;refine⟨wx,fun u hu=> ?_⟩;cases hu with
   |node hp=>
    cases hp with|cons h1 h2=>cases h2;cases h1 with|node h5=>cases h5 with|cons h5 h6=>cases h6 with|cons h6 h7=>cases h7;exact .p2 (hx _ h6)
   |p2 h1=>grind
 .obtain ⟨k,i,th,xs⟩:=t;have hz:=Tm.size_eq (.mk k i th xs);simp only[Tm.Af] at hz;obtain⟨ws,EZ⟩:=cN xs fun x hx=>ih x (by have:=zc Tm.size hx;omega);refine⟨.mk k i th ws,fun u hu=> ?_⟩;cases hu with
  |node hp=>exact .node (EZ _ hp)
  |beta=>exact absurd ⟨_,.beta ..⟩ hr
  |rz=>exact absurd ⟨_,.rz ..⟩ hr
  |rs=>exact absurd ⟨_,.rs ..⟩ hr
  |fz=>exact absurd ⟨_,.fz ..⟩ hr
  |fs=>exact absurd ⟨_,.fs ..⟩ hr
  |p1=>exact absurd ⟨_,.p1 ..⟩ hr
  |p2=>exact absurd ⟨_,.p2 ..⟩ hr
noncomputable def dev(t:Tm):Tm:=Classical.choose (Zc _ t (fB _))
theorem Oa(h:BF t u):BF u (dev t):=iI (Zc _ t (fB _)) u h
theorem Yis(h:BF t u):BF (dev t) (dev u):=Oa (Oa h)
noncomputable def FW:Nat->Tm->Tm
 |0,t=>t
 |n+1,t=>FW n (dev t)
theorem ZY:∀(n:Nat) {t u:Tm},BF t u->BF (FW n t) (FW n u)
 |0,_,_,h=>h
 |n+1,_,_,h=>ZY n (Yis h)
theorem Pa:∀(n m:Nat) (t:Tm),FW (n+m) t=FW m (FW n t)
 |0,m,t=>by rw[gN];rfl
 |n+1,m,t=>by rw[show n+1+m=(n+m)+1 by omega];exact Pa n m (dev t)
inductive BE:Tm->Tm->Prop
 |refl (t:Tm):BE t t
 |step {t s u:Tm} (h:BF t s) (hs:BE s u):BE t u
theorem BE.trans(h:BE t s):BE s u->BE t u:=by
 induction h with
 |refl=>simp
 |step h1 _ ih=>exact fun h=> .step h1 (ih h)
theorem BE.one(h:BF t u):BE t u:= .step h (.refl _)
theorem RC(h:BE t u):∃n,BE u (FW n t):=by
 induction h with
 |refl t=>exact⟨0,.refl _⟩
 |step h1 _ ih=>
  obtain⟨n,hn⟩:=ih;exact⟨n+1,hn.trans (.one (ZY n (Oa h1)))⟩
def nf(t:Tm):Prop:=∀u,BF t u->u=t
theorem OK(ht:nf t)(h:BE t u):u=t:=by
 induction h with
 |refl=>rfl
 |step h1 _ ih=>have:=ht _ h1;grind
theorem WH{t:Tm}(h:nf t):∀n,FW n t=t
 |0=>rfl
 |n+1=>by
  have:dev t=t:=h _ (Oa (.refl t));show FW n (dev t)=t;rw[this];exact WH h n
theorem W9{v:Tm}(hu:nf u)(hv:nf v)(h:BE t u)(h':BE t v):u=v:=by
 obtain⟨n,hn⟩:=RC h;obtain⟨m,hm⟩:=RC h';have e1:=OK hu hn;have e2:=OK hv hm;rcases Nat.le_total n m with hnm|hnm
 .have:=Pa n (m-n) t;rw[show n+(m-n)=m by omega,e1,e2,WH hu] at this
  grind
 .have:=Pa m (n-m) t;rw[show m+(n-m)=n by omega,e1,e2,WH hv] at this;omega
mutual
theorem Rv{room:Int}:∀{t u:Tm},BF t u->Dy room t=none->u=t
 |_,_,.node (k:=k) (i:=i) (h:=h) (xs:=xs) (ys:=ys) hp,hn=>by
  rw[Ii] at hn;by_cases hr:vw (.mk k i h xs)=true
  .grind
  .rw[if_neg hr] at hn;simp only[iZ,Tm.Af] at hn;rw[XP hp hn]
 |_,_,.beta ..,hn=>lP
 |_,_,.rz ..,hn=>lP
 |_,_,.rs ..,hn=>lP
 |_,_,.fz ..,hn=>lP
 |_,_,.fs ..,hn=>lP
 |_,_,.p1 ..,hn=>lP
 |_,_,.p2 ..,hn=>lP
theorem XP{room:Int}:∀{xs ys:List Tm},DT xs ys->Gm room xs=none->ys=xs
 |_,_,.nil,_=>rfl
 |_,_,.cons (x:=x) (xs:=xs) h hs,hn=>by
  simp only[Gm] at hn;cases hx:Dy room x with
  |some p=>grind
  |none=>
   rw[hx] at hn;simp only[iZ] at hn;rw[Rv h hx,XP hs hn]
end
def Dv:Nat->Tm->Nat->Tm×Int×Int
 |0,t,n=>match Dy (4096-t.size) t with
  |none=>(t,n,0)
  |some _=>(AB,0,5)
 |k+1,t,n=>match Dy (4096-t.size) t with
  |none=>(t,n,0)
  |some (x,true)=>Dv k x (n+1)
  |some (_,false)=>(AB,0,4)
def yv(t:Tm)(steps:Int):Tm×Int×Int:=
 if t.err≠0 then(AB,0,t.err) else if ¬(0<=steps/\steps<=65536)\/t.near=false then(AB,0,1) else Dv steps.toNat t 0
def FA(a b:Tm)(steps:Int):Int:=
 if a.err≠0 then a.err else if b.err≠0 then b.err else if a=b then 0
 else if(yv a steps).2.2≠0 then(yv a steps).2.2 else if(yv b steps).2.2≠0 then(yv b steps).2.2
 else if(yv a steps).1=(yv b steps).1 then 0 else 11
theorem UE(he:t.err=0)(h:Dy (4096-t.size) t=some (u,true)):u.err=0:=by
 obtain⟨h1,h2⟩:=I8 he;obtain⟨h3,h4,_⟩:=Yw _ t u h1 h;exact(Tm.Aa _).2 ⟨h3,kn⟩
theorem Uf:∀(k:Nat) (t:Tm) (n:Nat),t.err=0->(Dv k t n).2.2=0->BE t (Dv k t n).1/\nf (Dv k t n).1/\(Dv k t n).1.err=0
 |0,t,n,he,h=>by
  simp only[Dv] at h ⊢;cases hx:Dy (4096-t.size) t with
  |none=>rw[hx] at h;exact⟨.refl _,fun u hu=>Rv hu hx,he⟩
  |some p=>grind
 |k+1,t,n,he,h=>by
  simp only[Dv] at h ⊢;cases hx:Dy (4096-t.size) t with
  |none=>rw[hx] at h;exact⟨.refl _,fun u hu=>Rv hu hx,he⟩
  |some p=>
   obtain⟨x,f⟩:=p;rw[hx] at h;cases f with
   |false=>cases h
   |true=>
    obtain⟨i1,i2,i3⟩:=Uf k x (n+1) (UE he hx) h;exact⟨.step (Yql _ t x (I8 he).1 hx) i1,i2,i3⟩
theorem Wt:∀(k:Nat) (t:Tm) (n:Nat),(Dv k t n).2.2=0\/(Dv k t n).2.2=4\/(Dv k t n).2.2=5
 |0,t,n=>by
  simp only[Dv]
  grind
 |k+1,t,n=>by
  simp only[Dv];cases hx:Dy (4096-t.size) t with
  |none=>simp
  |some p=>
   obtain⟨x,f⟩:=p;cases f with
   |false=>simp
   |true=>exact Wt k x (n+1)
theorem Xe(t:Tm)(steps:Int)(h:(yv t steps).2.2=0):(yv t steps).1.full<274877906944:=by
 unfold yv at h ⊢;by_cases he:t.err=0
 .rw[if_neg kn] at h ⊢;by_cases hc:¬(0<=steps/\steps<=65536)\/t.near=false
  .grind
  .rw[if_neg hc] at h ⊢;obtain⟨_,_,h3⟩:=Uf _ _ _ he h;have:=ye h3;omega
 grind
def E8:List Tm->List Tm->Int
 |x::l,y::m=>if FA x y 1000≠0 then FA x y 1000 else E8 l m
 |_,_=>0
mutual
def Gs:Fm->Fm->Int
 | .mk k ty ts xs,.mk k' ty' ts' xs'=>if k=k'/\ty=ty' then(if E8 ts ts'≠0 then E8 ts ts' else FI xs xs') else 11
def FI:List Fm->List Fm->Int
 |x::l,y::m=>if Gs x y≠0 then Gs x y else FI l m
 |_,_=>0
end
theorem QD(f g:Fm):Gs f g=if f.kind=g.kind/\f.ty=g.ty then(if E8 f.terms g.terms≠0 then E8 f.terms g.terms else FI f.args g.args) else 11:=by
 cases f;cases g;rfl
theorem ZI:∀(l m:List Tm) (i:Nat) (hi:i<l.length) (hj:i<m.length),(∀j (h1:j<l.length) (h2:j<m.length),j<i->FA l[j] m[j] 1000=0)->FA l[i] m[i] 1000≠0->E8 l m=FA l[i] m[i] 1000
 |x::l,y::m,0,_,_,_,h=>by simp only[fM] at h ⊢;simp only[E8];omega
 |x::l,y::m,i+1,hi,hj,hn,h=>by
  have h0:=hn 0 ko ko kn;simp only[E8];rw[if_neg kr];exact ZI l m i kr kr (fun j h1 h2 hji=>kr) kr
theorem XT:∀(l m:List Tm),(∀j (h1:j<l.length) (h2:j<m.length),FA l[j] m[j] 1000=0)->E8 l m=0
 |[],_,_=>kz
 |_::_,[],_=>kz
 |x::l,y::m,hn=>by
  have h0:=hn 0 ko ko;simp only[E8];rw[if_neg kr];exact XT l m fun j h1 h2=>by have:=hn (j+1) kr kr;grind
theorem dZ:∀(l m:List Fm) (i:Nat) (hi:i<l.length) (hj:i<m.length),(∀j (h1:j<l.length) (h2:j<m.length),j<i->Gs l[j] m[j]=0)->Gs l[i] m[i]≠0->FI l m=Gs l[i] m[i]
 |x::l,y::m,0,_,_,_,h=>by simp only[fM] at h ⊢;simp only[FI];omega
 |x::l,y::m,i+1,hi,hj,hn,h=>by
  have h0:=hn 0 ko ko kn;simp only[FI];rw[if_neg kr];exact dZ l m i kr kr (fun j h1 h2 hji=>kr) kr
theorem aS:∀(l m:List Fm),(∀j (h1:j<l.length) (h2:j<m.length),Gs l[j] m[j]=0)->FI l m=0
 |[],_,_=>kz
 |_::_,[],_=>kz
 |x::l,y::m,hn=>by
  have h0:=hn 0 ko ko;simp only[FI];rw[if_neg kr];exact aS l m fun j h1 h2=>by have:=hn (j+1) kr kr;grind
def Gr(f g:Fm):Int:=if f.err≠0 then f.err else if g.err≠0 then g.err else Gs f g
variable(k:Int)
@[simp] theorem Pf.Ai(i:Int)(h:Ty)(ts:List Tm)(fs:List Fm)(as:List Pf):(Pf.mk k i h ts fs as).kind=k:=rfl
@[simp] theorem Pf.AG(i:Int)(h:Ty)(ts:List Tm)(fs:List Fm)(as:List Pf):(Pf.mk k i h ts fs as).index=i:=rfl
@[simp] theorem Pf.AO(i:Int)(h:Ty)(ts:List Tm)(fs:List Fm)(as:List Pf):(Pf.mk k i h ts fs as).ty=h:=rfl
@[simp] theorem Pf.Am(i:Int)(h:Ty)(ts:List Tm)(fs:List Fm)(as:List Pf):(Pf.mk k i h ts fs as).terms=ts:=rfl
@[simp] theorem Pf.Au(i:Int)(h:Ty)(ts:List Tm)(fs:List Fm)(as:List Pf):(Pf.mk k i h ts fs as).Ae=fs:=rfl
@[simp] theorem Pf.Af(i:Int)(h:Ty)(ts:List Tm)(fs:List Fm)(as:List Pf):(Pf.mk k i h ts fs as).args=as:=rfl
structure Nd where
 terms:Nat
 Ae:Nat
 args:Nat
 index:Bool
 typ:Bool
def TE:Nd:=⟨0,0,0,false,false⟩
def B6(k:Int):Option Nd:=
 if k=1\/k=2 then some ⟨0,0,0,true,false⟩
 else if k=3\/k=7 then some ⟨0,0,2,false,false⟩
 else if k=4\/k=5\/k=20 then some ⟨0,0,1,false,false⟩
 else if k=6 then some ⟨0,1,1,false,false⟩
 else if k=8\/k=12 then some ⟨0,0,1,false,true⟩
 else if k=9\/k=13 then some ⟨1,0,1,false,false⟩
 else if k=10\/k=14 then some ⟨1,1,1,false,false⟩
 else if k=11\/k=15 then some ⟨0,0,2,false,false⟩
 else if k=16\/k=17 then some ⟨1,1,2,false,false⟩
 else if k=18 then some ⟨1,0,0,false,false⟩
 else if k=19 then some ⟨0,1,2,false,false⟩ else none
def Nd.view(n:Nd):List V:=[.i n.terms,.i n.Ae,.i n.args,.bool n.index,.bool n.typ]
def Pf.head(p:Pf):Bool:=match B6 p.kind with
 |none=>false
 |some n=>p.terms.length==n.terms&&p.Ae.length==n.Ae&&p.args.length==n.args&&decide (0<=p.index)&&(n.index||p.index==0)&&(if n.typ=true then p.ty.ok else p.ty.Bv)
mutual
def Pf.shape:Pf->Bool
 | .mk k i h ts fs as=>Pf.head (.mk k i h ts fs as)&&ts.all Tm.shape&&fs.all Fm.shape&&Pf.AZ as
def Pf.AZ:List Pf->Bool
 |[]=>true
 |f::l=>f.shape&&Pf.AZ l
end
mutual
def Pf.size:Pf->Nat
 | .mk _ _ _ ts fs as=>1+(ts.map Tm.size).sum+(fs.map Fm.size).sum+Pf.sizes as
def Pf.sizes:List Pf->Nat
 |[]=>0
 |f::l=>f.size+Pf.sizes l
end
mutual
def Pf.full:Pf->Nat
 | .mk _ _ h ts fs as=>1+h.size+(ts.map Tm.full).sum+(fs.map Fm.full).sum+Pf.Ay as
def Pf.Ay:List Pf->Nat
 |[]=>0
 |f::l=>f.full+Pf.Ay l
end
mutual
def Pf.small:Pf->Bool
 | .mk _ _ _ ts fs as=>ts.all (fun t=>decide (t.size<=4096))&&fs.all (fun f=>decide (f.size<=4096))&&Pf.Aj as
def Pf.Aj:List Pf->Bool
 |[]=>true
 |f::l=>f.small&&Pf.Aj l
end
theorem Pf.BD:∀l:List Pf,Pf.AZ l=l.all Pf.shape
 |[]=>rfl
 |f::l=>by rw[Pf.AZ,Pf.BD l];rfl
theorem Pf.BM:∀l:List Pf,Pf.sizes l=(l.map Pf.size).sum
 |[]=>rfl
 |f::l=>by rw[Pf.sizes,Pf.BM l];rfl
theorem Pf.Co:∀l:List Pf,Pf.Ay l=(l.map Pf.full).sum
 |[]=>rfl
 |f::l=>by rw[Pf.Ay,Pf.Co l];rfl
theorem Pf.E6:∀l:List Pf,Pf.Aj l=l.all Pf.small
 |[]=>rfl
 |f::l=>by rw[Pf.Aj,Pf.E6 l];rfl
variable(p:Pf)
theorem Pf.Ak:p.shape=(p.head&&p.terms.all Tm.shape&&p.Ae.all Fm.shape&&p.args.all Pf.shape):=by cases p;simp only[Pf.shape,Pf.BD];rfl
theorem Pf.size_eq:p.size=1+(p.terms.map Tm.size).sum+(p.Ae.map Fm.size).sum+(p.args.map Pf.size).sum:=by cases p;simp only[Pf.size,Pf.BM];rfl
theorem Pf.Ag:p.full=1+p.ty.size+(p.terms.map Tm.full).sum+(p.Ae.map Fm.full).sum+(p.args.map Pf.full).sum:=by cases p;simp only[Pf.full,Pf.Co];rfl
theorem Pf.CE:p.small=(p.terms.all (fun t=>decide (t.size<=4096))&&p.Ae.all (fun f=>decide (f.size<=4096))&&p.args.all Pf.small):=by cases p;simp only[Pf.small,Pf.E6];rfl
theorem Pf.Ad:1<=p.full:=lz
theorem Pf.size_pos:1<=p.size:=by rw[Pf.size_eq];omega
theorem Pf.ind{P:Pf->Prop}(h:∀f,(∀x∈f.args,P x)->P f)(f:Pf):P f:=by
 have:∀n,∀f:Pf,f.full<=n->P f:=by
  intro n;induction n with
  |zero=>intro f h;have:=f.Ad;omega
  |succ n ih=>
   intro f hf;refine h f fun x hx=>ih x ?_;have:=zc Pf.full hx;have:=f.Ag;omega
 exact this _ f (fB _)
theorem Pf.An(p:Pf):p.size<=p.full:=by
 induction p using Pf.ind with
 |h p ih=>
  rw[p.size_eq,p.Ag];have h1:=x6 (f:=Pf.size) (g:=Pf.full) p.args ih;have h2:=x6 (f:=Tm.size) (g:=Tm.full) p.terms fun x _=>x.An;have h3:=x6 (f:=Fm.size) (g:=Fm.full) p.Ae fun x _=>x.An;omega
def Pf.err(p:Pf):Int:=if p.shape=false then 2 else if p.small=false\/p.size>16384 then 4 else 0
theorem Pf.Aa:p.err=0↔p.shape=true/\p.small=true/\p.size<=16384:=by
 unfold Pf.err
 grind
def CB:Pf:= .mk 0 0 (.mk 0 []) [] [] []
def xz(t:Tm):Pf:= .mk 18 0 (.mk 0 []) [t] [] []
theorem YK{g:Fm}(hf:f.shape=true)(hg:g.shape=true)(hk:f.kind=g.kind):f.terms.length=g.terms.length/\f.args.length=g.args.length:=by
 rw[Fm.Ak,fD,fD] at hf hg;have h1:=hf.1.1;have h2:=hg.1.1;unfold Fm.head at h1 h2
 grind
structure RK (c:EC) where
 pre:c.sem->List Yn
 args:c.sem->List c.sem
 set:c.sem->List c.sem->c.sem
 sz:c.sem->Nat
 yn:c.sem->List Yn
 Xn:∀x,yn x=pre x++[.row c (args x).length ((args x).flatMap yn)]
 RZ:∀x,(pre x).length+1=c.cells
 er:∀x,KV (yn x) (c.view x)
 OR:∀x xs,c.view (set x xs)=(c.view x).take (c.cells-1)++[.slice .any (.t c xs)]
 V7:∀x xs,sz (set x xs)+((args x).map sz).sum=sz x+(xs.map sz).sum
 bw:∀x,∀a∈args x,sz a<sz x
variable {c:EC}
def QW(c:EC)(xs:List c.sem):Yn:= .row c xs.length ((xs.flatMap c.view).map .dat)
mutual
def Fm.yn:Fm->List Yn| .mk k t ts as=>[.dat (.i k),.dat (.i t.kind),.dat (.s .ty t.args),QW .tm ts,.row .fm as.length (Fm.Ih as)]
def Fm.Ih:List Fm->List Yn|[]=>[]|a::l=>a.yn++Fm.Ih l
end
theorem YM.IW{s:Prop}{c:EC}{cells:List Yn}{v:V}{y:Ys}(h:YM s (.row c n cells) v y):∃u,v= .raw u:=by
 cases h<;>simp_all
theorem EV.fm{s:Prop}{f:Fm}{vs:List V}{y:Ys}(h:EV s f.yn vs y):∃tv sv y1 y2,vs=[.i f.kind,.i f.ty.kind,.s .ty f.ty.args,.raw tv,.raw sv]/\y=y1++y2/\YM s (QW .tm f.terms) (.raw tv) y1/\YM s (.row .fm f.args.length (Fm.Ih f.args)) (.raw sv) y2:=by
 obtain⟨k,t,ts,as⟩:=f;have h:EV s [.dat (.i k),.dat (.i t.kind),.dat (.s .ty t.args),QW .tm ts,.row .fm as.length (Fm.Ih as)] vs y:=by unfold Fm.yn at h;exact h
 show ∃tv sv y1 y2,vs=[.i k,.i t.kind,.s .ty t.args,.raw tv,.raw sv]/\y=y1++y2/\YM s (QW .tm ts) (.raw tv) y1/\YM s (.row .fm as.length (Fm.Ih as)) (.raw sv) y2;generalize as.length=n at h ⊢;generalize Fm.Ih as=cells at h ⊢;obtain⟨_,_,_,_,rfl,rfl,k1,h1⟩:=h.inv;cases k1;obtain⟨_,_,_,_,rfl,rfl,k2,h2⟩:=h1.inv;cases k2;obtain⟨_,_,_,_,rfl,rfl,k3,h3⟩:=h2.inv;cases k3;obtain⟨v4,_,y4,_,rfl,rfl,k4,h4⟩:=h3.inv;obtain⟨v5,_,y5,_,rfl,rfl,k5,h5⟩:=h4.inv;cases h5;obtain⟨tv,rfl⟩:=YM.IW k4;obtain⟨sv,rfl⟩:=k5.IW
 grind
end Go.Ab
