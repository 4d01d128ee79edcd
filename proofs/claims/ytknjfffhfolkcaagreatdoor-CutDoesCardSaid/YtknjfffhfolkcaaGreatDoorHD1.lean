/- A part of this seat's proofs. No conditions. -/
import Derived.Test.YtknjfffhfolkcaaGreatDoorHA2
namespace Go.Ab
open Go
set_option linter.all false
@[simp] theorem Yft(E:Env)(T:Nat)(k:IntKind)(n:Int):zc E T (.int k n)= .int k n:=rfl
@[simp] theorem Ydz(E:Env)(T:Nat)(b:Bool):zc E T (.bool b)= .bool b:=rfl
@[simp] theorem Yfo(E:Env)(T:Nat)(s:ByteArray):zc E T (.string s)= .str s:=rfl
theorem yk{α:Type}(f:α->Nat)(l:List α):∀m (h:m<l.length),((l.take (m+1)).map f).sum=((l.take m).map f).sum+f l[m]:=by
 induction l with
 |nil=>intro m h;simp at h
 |cons t l ih=>
  intro m h;cases m with
  |zero=>simp
  |succ m=>simp only[Wy] at h;simp only[Yl,Wn,Wt,WM,ih m (by omega)];omega
theorem za{α:Type}(f:α->Nat){l:List α}{t:α}(h:t∈l):f t<=(l.map f).sum:=by
 induction l with
 |nil=>cases h
 |cons x l ih=>rcases WE.1 h with rfl|h;· simp
               .have:=ih h;simp only[Wn,Wt];omega
theorem zm{α:Type}(f:α->Nat)(l:List α)(m:Nat):((l.take m).map f).sum<=(l.map f).sum:=by
 induction l generalizing m with
 |nil=>simp
 |cons t l ih=>cases m with
  |zero=>simp
  |succ m=>have:=ih m;simp only[Yl,Wn,Wt];omega
theorem zd{α:Type}(f:α->Nat)(hf:∀x,1<=f x):∀l:List α,l.length<=(l.map f).sum
 |[]=>Wj _
 |x::l=>by have:=zd f hf l;have:=hf x;simp only[Wy,Wn,Wt];omega
theorem w4{α:Type}(p:α->Bool)(l:List α)(h:∀j (hj:j<l.length),p l[j]=true):l.all p=true:=by
 rw[Wm];intro x hx;obtain⟨j,hj,rfl⟩:=Ye.1 hx;exact h j hj
theorem xn{α:Type}(p:α->Bool){l:List α}{j:Nat}(hj:j<l.length)(h:p l[j]=false):l.all p=false:=by
 cases hb:l.all p with
 |false=>rfl
 |true=>rw[Wm.1 hb _ (Wi hj)] at h;cases h
theorem ya{α:Type}{p:α->Prop}{l:List α}{m:Nat}(hm:m<l.length)(h:∀j (hj:j<l.length),j<m->p l[j])(h1:p l[m]):∀j (hj:j<l.length),j<m+1->p l[j]:=by
 intro j hj hlt;by_cases hjm:j=m
 .subst hjm;exact h1
 .exact h j hj (by omega)
def DE(k:Int):Option Nat:=if k=1\/k=2\/k=5 then some 0 else if k=3\/k=4 then some 2 else none
mutual
def Ty.shape:Ty->Bool
 | .mk k xs=>(match DE k with|some n=>xs.length==n|none=>false)&&Ty.Bc xs
def Ty.Bc:List Ty->Bool
 |[]=>true
 |t::l=>t.shape&&Ty.Bc l
end
mutual
def Ty.size:Ty->Nat
 | .mk _ xs=>1+Ty.sizes xs
def Ty.sizes:List Ty->Nat
 |[]=>0
 |t::l=>t.size+Ty.sizes l
end
theorem Ty.BF:∀l:List Ty,Ty.sizes l=(l.map Ty.size).sum
 |[]=>rfl
 |t::l=>by simp only[Ty.sizes,Ty.BF l,Wn,Wt]
theorem Ty.Bq:∀l:List Ty,Ty.Bc l=l.all Ty.shape
 |[]=>rfl
 |t::l=>by simp only[Ty.Bc,Ty.Bq l,Xh]
theorem Ty.size_eq(t:Ty):t.size=1+(t.args.map Ty.size).sum:=by cases t;simp only[Ty.size,Ty.BF,Ty.Ae]
theorem Ty.Al(t:Ty):t.shape=((match DE t.kind with|some n=>t.args.length==n|none=>false)&&t.args.all Ty.shape):=by cases t;simp only[Ty.shape,Ty.Bq,Ty.Ae,Ty.Ai]
theorem Ty.size_pos(t:Ty):1<=t.size:=by rw[Ty.size_eq];omega
def Ty.nodes(t:Ty):Nat:=if t.shape then t.size else 0
theorem Ty.DC(t:Ty):t.nodes<=t.size:=by simp only[Ty.nodes];split<;>omega
theorem Ty.ind{P:Ty->Prop}(h:∀t,(∀x∈t.args,P x)->P t)(t:Ty):P t:=by
 have:∀b (t:Ty),t.size<=b->P t:=by
  intro b;induction b with
  |zero=>intro t ht;have:=t.size_pos;omega
  |succ b ih=>
   intro t ht;refine h t fun x hx=>ih x ?_;have:=za Ty.size hx;have:=t.size_eq;omega
 exact this _ t (Wj _)
def CX(k:Int):Option Nat:=
 if k=1\/k=4\/k=7\/k=13 then some 0 else if k=2\/k=5\/k=11\/k=12 then some 1 else if k=3\/k=8\/k=10 then some 2 else if k=6\/k=9 then some 3 else none
def xx(k:Int):Bool:=k==2||k==6||k==9
def Ty.BL(t:Ty):Bool:=t.kind==0&&t.args.length==0
def Ty.ok(t:Ty):Bool:=t.shape&&decide (t.size<=64)
def Tm.head(t:Tm):Bool:=(match CX t.kind with|some n=>t.args.length==n|none=>false)&&decide (0<=t.index)&&(t.index==0||t.kind==1)&&(bif xx t.kind then t.ty.ok else t.ty.BL)
mutual
def Tm.shape:Tm->Bool
 | .mk k i h xs=>(Tm.mk k i h xs).head&&Tm.Bc xs
def Tm.Bc:List Tm->Bool
 |[]=>true
 |t::l=>t.shape&&Tm.Bc l
end
mutual
def Tm.size:Tm->Nat
 | .mk _ _ _ xs=>1+Tm.sizes xs
def Tm.sizes:List Tm->Nat
 |[]=>0
 |t::l=>t.size+Tm.sizes l
end
mutual
def Tm.full:Tm->Nat
 | .mk _ _ h xs=>1+h.size+Tm.Au xs
def Tm.Au:List Tm->Nat
 |[]=>0
 |t::l=>t.full+Tm.Au l
end
theorem Tm.BF:∀l:List Tm,Tm.sizes l=(l.map Tm.size).sum
 |[]=>rfl
 |t::l=>by simp only[Tm.sizes,Tm.BF l,Wn,Wt]
theorem Tm.B3:∀l:List Tm,Tm.Au l=(l.map Tm.full).sum
 |[]=>rfl
 |t::l=>by simp only[Tm.Au,Tm.B3 l,Wn,Wt]
theorem Tm.Bq:∀l:List Tm,Tm.Bc l=l.all Tm.shape
 |[]=>rfl
 |t::l=>by simp only[Tm.Bc,Tm.Bq l,Xh]
theorem Tm.size_eq(t:Tm):t.size=1+(t.args.map Tm.size).sum:=by cases t;simp only[Tm.size,Tm.BF,Tm.Ae]
theorem Tm.Af(t:Tm):t.full=1+t.ty.size+(t.args.map Tm.full).sum:=by cases t;simp only[Tm.full,Tm.B3,Tm.Ae,Tm.AQ]
theorem Tm.Al(t:Tm):t.shape=(t.head&&t.args.all Tm.shape):=by cases t;simp only[Tm.shape,Tm.Bq,Tm.Ae]
theorem Tm.size_pos(t:Tm):1<=t.size:=by rw[Tm.size_eq];omega
theorem Tm.Aa(t:Tm):1<=t.full:=by rw[Tm.Af];omega
theorem Tm.ind{P:Tm->Prop}(h:∀t,(∀x∈t.args,P x)->P t)(t:Tm):P t:=by
 have:∀b (t:Tm),t.size<=b->P t:=by
  intro b;induction b with
  |zero=>intro t ht;have:=t.size_pos;omega
  |succ b ih=>
   intro t ht;refine h t fun x hx=>ih x ?_;have:=za Tm.size hx;have:=t.size_eq;omega
 exact this _ t (Wj _)
theorem Tm.Aj(t:Tm):t.size<=t.full:=by
 induction t using Tm.ind with
 |h t ih=>
  have:∀l:List Tm,(∀x∈l,x.size<=x.full)->(l.map Tm.size).sum<=(l.map Tm.full).sum:=by
   intro l;induction l with
   |nil=>intro _;simp
   |cons x l ih=>intro h;have:=ih fun y hy=>h y (by simp[hy]);have:=h x (by simp);simp only[Wn,Wt];omega
  have:=this t.args ih;rw[t.size_eq,t.Af];omega
def Tm.nodes(t:Tm):Nat:=if t.shape then t.size else 0
theorem Tm.DC(t:Tm):t.nodes<=t.size:=by simp only[Tm.nodes];split<;>omega
def Ty.err(t:Ty):Int:=if t.shape=false then 2 else if t.size>64 then 4 else 0
def Ty.num(t:Ty):Int:=if t.err=0 then t.size else 0
def BJ:Ty:= .mk 0 []
def Tm.err(t:Tm):Int:=if t.shape=false then 2 else if t.size>4096 then 4 else 0
def Tm.num(t:Tm):Int:=if t.err=0 then t.size else 0
def A4:Tm:= .mk 0 0 (.mk 0 []) []
def Ko(t:Ty):V:= .AD [.i t.nodes,.bool t.shape]
def Ij(t:Tm):V:= .AD [.i t.nodes,.bool t.shape]
end Go.Ab
namespace Go.Ab
set_option linter.all false
mutual
def Ty.same:Ty->Ty->Bool
 | .mk k xs,.mk k' ys=>k==k'&&Ty.BH xs ys
def Ty.BH:List Ty->List Ty->Bool
 |[],[]=>true
 |x::xs,y::ys=>x.same y&&Ty.BH xs ys
 |_,_=>false
end
mutual
theorem Ty.B5:∀a b:Ty,a.same b=true↔a=b
 | .mk k xs,.mk k' ys=>by simp only[Ty.same,Wk,beq_iff_eq,Ty.mk.injEq,Ty.BS xs ys]
theorem Ty.BS:∀a b:List Ty,Ty.BH a b=true↔a=b
 |[],[]=>by simp[Ty.BH]
 |x::xs,y::ys=>by simp only[Ty.BH,Wk,YH,Ty.B5 x y,Ty.BS xs ys]
 |[],_::_=>by simp[Ty.BH]
 |_::_,[]=>by simp[Ty.BH]
end
instance:DecidableEq Ty:=fun a b=>decidable_of_iff _ (Ty.B5 a b)
mutual
def Tm.same:Tm->Tm->Bool
 | .mk k i h xs,.mk k' i' h' ys=>k==k'&&i==i'&&decide (h=h')&&Tm.BH xs ys
def Tm.BH:List Tm->List Tm->Bool
 |[],[]=>true
 |x::xs,y::ys=>x.same y&&Tm.BH xs ys
 |_,_=>false
end
mutual
theorem Tm.B5:∀a b:Tm,a.same b=true↔a=b
 | .mk k i h xs,.mk k' i' h' ys=>by simp only[Tm.same,Wk,beq_iff_eq,Tm.mk.injEq,Tm.BS xs ys,decide_eq_true_eq,and_assoc]
theorem Tm.BS:∀a b:List Tm,Tm.BH a b=true↔a=b
 |[],[]=>by simp[Tm.BH]
 |x::xs,y::ys=>by simp only[Tm.BH,Wk,YH,Tm.B5 x y,Tm.BS xs ys]
 |[],_::_=>by simp[Tm.BH]
 |_::_,[]=>by simp[Tm.BH]
end
instance:DecidableEq Tm:=fun a b=>decidable_of_iff _ (Tm.B5 a b)
theorem Ty.eq_iff(a b:Ty):a=b↔a.kind=b.kind/\a.args=b.args:=by cases a;cases b;simp
theorem Tm.eq_iff(a b:Tm):a=b↔a.kind=b.kind/\a.index=b.index/\a.ty=b.ty/\a.args=b.args:=by cases a;cases b;simp
theorem S0{α:Type}{xs ys:List α}(hl:xs.length=ys.length)(h:∀j (hj:j<xs.length),j<xs.length->xs[j]=ys[j]'(by omega)):xs=ys:=
 List.ext_getElem hl fun i h1 h2=>h i h1 h1
theorem Sm{α:Type}{xs ys:List α}{m:Nat}(h1:m<xs.length)(h2:m<ys.length)(h:¬xs[m]=ys[m]):¬xs=ys:=fun he=>by subst he;exact h rfl
theorem UF{α:Type}{xs ys:List α}(hl:xs.length=ys.length){m:Nat}(hm:m<xs.length)(h:∀j (hj:j<xs.length),j<m->xs[j]=ys[j]'(by omega))(h1:xs[m]=ys[m]'(by omega)):∀j (hj:j<xs.length),j<m+1->xs[j]=ys[j]'(by omega):=by
 intro j hj hlt;by_cases hjm:j=m
 .subst hjm;exact h1
 .exact h j hj (by omega)
def up(k b:Int):Int:=if k=2 then b+1 else b
mutual
def Tm.vars(b:Int):Tm->List (Int×Int)
 | .mk k i _ xs=>(if k=1 then [(i,b)] else [])++Tm.BX (up k b) xs
def Tm.BX(b:Int):List Tm->List (Int×Int)
 |[]=>[]
 |t::l=>t.vars b++Tm.BX b l
end
theorem Tm.EX(b:Int):∀l:List Tm,Tm.BX b l=l.flatMap (Tm.vars b)
 |[]=>rfl
 |t::l=>by simp only[Tm.BX,Tm.EX b l,WO]
theorem Tm.AP(b:Int)(t:Tm):t.vars b=(if t.kind=1 then [(t.index,b)] else [])++t.args.flatMap (Tm.vars (up t.kind b)):=by cases t;simp only[Tm.vars,Tm.EX,Tm.Ai,Tm.AJ,Tm.Ae];rfl
mutual
def Tm.re(g:Int->Int->Tm)(b:Int):Tm->Tm
 | .mk k i h xs=>if k=1 then g i b else .mk k i h (Tm.res g (up k b) xs)
def Tm.res(g:Int->Int->Tm)(b:Int):List Tm->List Tm
 |[]=>[]
 |t::l=>t.re g b::Tm.res g b l
end
theorem Tm.DG(g:Int->Int->Tm)(b:Int):∀l:List Tm,Tm.res g b l=l.map (Tm.re g b)
 |[]=>rfl
 |t::l=>by simp only[Tm.res,Tm.DG g b l,Wn]
theorem Tm.Bt(g:Int->Int->Tm)(b:Int)(t:Tm):t.re g b=if t.kind=1 then g t.index b else .mk t.kind t.index t.ty (t.args.map (Tm.re g (up t.kind b))):=by cases t;simp only[Tm.re,Tm.DG,Tm.Ai,Tm.AJ,Tm.Ae,Tm.AQ];rfl
theorem JN{α β:Type}(f:α->List β)(l:List α)(m:Nat)(h:m<l.length):(l.take (m+1)).flatMap f=(l.take m).flatMap f++f l[m]:=by
 rw[<-Wv h,List.flatMap_append];simp
theorem zy{α β:Type}(f:α->β)(l:List α)(m:Nat)(h:m<l.length):(l.take (m+1)).map f=(l.take m).map f++[f l[m]]:=by
 rw[<-Wv h,Xv];simp
theorem yw{α:Type}{f g:α->Nat}:∀(l:List α),(∀x∈l,f x<=g x)->(l.map f).sum<=(l.map g).sum
 |[],_=>Wj _
 |x::l,h=>by have:=yw l fun y hy=>h y (by simp[hy]);have:=h x (by simp);simp only[Wn,Wt];omega
theorem TF(l:List Tm)(f:Tm->List (Int×Int))(h:∀x∈l,(f x).length<=x.size):(l.flatMap f).length<=(l.map Tm.size).sum:=by
 induction l with
 |nil=>simp
 |cons x l ih=>
  have:=ih fun y hy=>h y (by simp[hy]);have:=h x (by simp);simp only[WO,WD,Wn,Wt];omega
theorem Tm.Ce(t:Tm):∀b,(t.vars b).length<=t.size:=by
 induction t using Tm.ind with
 |h t ih=>
  intro b;rw[t.AP,t.size_eq];have:=TF t.args (Tm.vars (up t.kind b)) fun x hx=>ih x hx _;split<;>simp only[WD,Wy,W3]<;>omega
def Tm.near(t:Tm):Bool:=(t.vars 0).all fun p=>decide (p.1<=536870912)
def cnt(at_:Int)(l:List (Int×Int)):Nat:=(l.filter fun p=>p.1-p.2==at_).length
theorem vu(at_:Int)(l l':List (Int×Int)):cnt at_ (l++l')=cnt at_ l+cnt at_ l':=by simp[cnt]
theorem JK(at_:Int)(l:List (Int×Int)):cnt at_ l<=l.length:=X9 _ _
theorem Tm.AE(t:Tm)(h:t.shape=true):∀b,∀p∈t.vars b,0<=p.1:=by
 induction t using Tm.ind with
 |h t ih=>
  intro b p hp;rw[t.Al,Wk] at h;rw[t.AP,WH] at hp;rcases hp with hp|hp
  .split at hp
   .simp at hp;subst hp;have:=h.1;simp only[Tm.head,Wk,decide_eq_true_eq] at this;exact this.1.1.2
   .cases hp
  .obtain ⟨x,hx,hp⟩:=WL.1 hp;exact ih x hx (Wm.1 h.2 x hx) _ p hp
theorem V7(n k:Int)(hk:0<k): -k<n.tmod k:=by
 have h:=Int.natAbs_tmod n k;have h2:=Y7 n.natAbs (show 0<k.natAbs by omega);omega
def Ag:Ty:= .mk 1 []
def An:Ty:= .mk 2 []
def Hf:Ty:= .mk 5 []
def CC(a b:Ty):Ty:= .mk 3 [a,b]
def yv(a b:Ty):Ty:= .mk 4 [a,b]
def Bg(t:Ty):Ty×Int:=if t.err=0 then(t,0) else(BJ,4)
def Bz(l:List Ty)(i:Nat):Ty:=l.getD i BJ
def vo(k:Int)(h:Ty)(l:List Ty):Ty×Int:=
 let a:=Bz l 0
 let b:=Bz l 1
 let c:=Bz l 2
 if k=3 then(if ¬a.kind=4\/¬Bz a.args 0=b then(BJ,7) else(Bz a.args 1,0))
 else if k=4 then(Ag,0)
 else if k=5 then(if ¬a=Ag then(BJ,7) else(Ag,0))
 else if k=6 then(if ¬a=h\/¬b=yv Ag (yv h h)\/¬c=Ag then(BJ,7) else(h,0))
 else if k=7 then(An,0)
 else if k=8 then(if ¬a=Ag\/¬b=An then(BJ,7) else(An,0))
 else if k=9 then(if ¬a=h\/¬b=yv Ag (yv An (yv h h))\/¬c=An then(BJ,7) else(h,0))
 else if k=10 then Bg (CC a b)
 else if k=11\/k=12 then(if ¬a.kind=3 then(BJ,7) else if k=11 then(Bz a.args 0,0) else(Bz a.args 1,0))
 else(Hf,0)
mutual
def Tm.inf:List Ty->Tm->Ty×Int
 |g,.mk k i h xs=>
  if k=1 then(if i>=g.length then(BJ,6) else(Bz g (g.length-1-i.toNat),0))
  else if k=2 then(if(Tm.AK (g++[h]) xs).2≠0 then(BJ,(Tm.AK (g++[h]) xs).2) else Bg (yv h (Bz (Tm.AK (g++[h]) xs).1 0)))
  else if(Tm.AK g xs).2≠0 then(BJ,(Tm.AK g xs).2) else vo k h (Tm.AK g xs).1
def Tm.AK:List Ty->List Tm->List Ty×Int
 |_,[]=>([],0)
 |g,t::l=>if(t.inf g).2≠0 then([],(t.inf g).2) else if(Tm.AK g l).2≠0 then([],(Tm.AK g l).2) else((t.inf g).1::(Tm.AK g l).1,0)
end
theorem HP(at_:Int)(p:Int×Int):cnt at_ [p]=if p.1-p.2=at_ then 1 else 0:=by simp only[cnt,List.filter_cons,List.filter_nil];by_cases h:p.1-p.2=at_<;>simp[h]
def zx(fr by_:Int)(i b:Int):Tm:= .mk 1 (if i-b>=fr then i+by_ else i) (.mk 0 []) []
def y9(at_:Int)(s:Tm)(i b:Int):Tm:=if i-b=at_ then s.re (zx 0 (at_+b)) 0 else .mk 1 (if i-b>at_ then i-1 else i) (.mk 0 []) []
def G3(n k:Int):Int:=((n.tmod k)+k).tmod k
structure Dk where
 l:List Int
 at_:Nat
def Dk.ok(d:Dk):Prop:=d.at_<=d.l.length/\d.l.length<1099511627776
def Dk.next(d:Dk)(n:Int):Int×Dk:=if h:n<1\/d.l.length<=d.at_ then(0,d) else(G3 (d.l[d.at_]'(by omega)) n,⟨d.l,d.at_+1⟩)
def Dk.cells(d:Dk):List V:=[.s .int d.l,.i d.at_]
theorem vb{t:Tm}(h:t.err=0):t.shape=true/\t.size<=4096:=by
 simp only[Tm.err] at h;split at h
 .omega
 .split at h
  .omega
  .rename_i h1 h2;exact⟨by simpa using h1,by omega⟩
theorem PR{t:Tm}(h:t.err=0)(hn:t.near=true):∀p∈t.vars 0,0<=p.1/\p.1<549755813888:=fun p hp=>
 ⟨t.AE (vb h).1 0 p hp,by have:=Wm.1 hn p hp;simp at this;omega⟩
theorem V5(c d:Int)(hc:0<=c/\c<=274877906944)(hd: -1<=d/\d<=4096): -274877906944<=c*d/\c*d<=1125899906842624:=by
 constructor
 .have:=YG hd.1 hc.1;omega
 .have:=YG hd.2 hc.1;omega
theorem Dk.AH{d:Dk}(h:d.ok)(n:Int):(d.next n).2.ok:=by
 simp only[Dk.next];split
 .exact h
 .rename_i hc;obtain⟨h1,h2⟩:=h;exact⟨by simp only;omega,h2⟩
def Dk.type:Nat->Dk->Ty×Dk
 |0,d=>let r:=d.next 7;(if r.1=3 then .mk 2 [] else if r.1=4 then .mk 5 [] else .mk 1 [],r.2)
 |n+1,d=>
  let r:=d.next 7
  if r.1=5\/r.1=6 then
   let a:=r.2.type n
   let b:=a.2.type n
   (.mk (if r.1=5 then 3 else 4) [a.1,b.1],b.2)
  else(if r.1=3 then .mk 2 [] else if r.1=4 then .mk 5 [] else .mk 1 [],r.2)
theorem Dk.Bu:∀(n:Nat) (d:Dk),d.ok->(d.type n).2.ok
 |0,d,h=>Dk.AH h 7
 |n+1,d,h=>by
  simp only[Dk.type];split
  .exact Dk.Bu n _ (Dk.Bu n _ (Dk.AH h 7))
  .exact Dk.AH h 7
theorem Dk.En(k:Int)(d:Dk):d.type k.toNat=(if 0<k/\((d.next 7).1=5\/(d.next 7).1=6) then
 (.mk (if(d.next 7).1=5 then 3 else 4) [((d.next 7).2.type (k-1).toNat).1,((((d.next 7).2.type (k-1).toNat).2).type (k-1).toNat).1],((((d.next 7).2.type (k-1).toNat).2).type (k-1).toNat).2)
 else(if(d.next 7).1=3 then .mk 2 [] else if(d.next 7).1=4 then .mk 5 [] else .mk 1 [],(d.next 7).2)):=by
 by_cases hk:0<k
 .have e:k.toNat=(k-1).toNat+1:=by omega
  rw[e];simp only[Dk.type,hk,true_and]
 .have e:k.toNat=0:=by omega
  rw[e];simp only[Dk.type,hk,false_and,if_false]
theorem Dk.Di:∀(n:Nat) (d:Dk),(d.type n).1.size<=2^(n+1)-1
 |0,d=>by simp only[Dk.type];(repeat' split)<;>simp[Ty.size_eq]
 |n+1,d=>by
  have h1:=Dk.Di n (d.next 7).2;have h2:=Dk.Di n ((d.next 7).2.type n).2;have h3:2^(n+1+1)=2^(n+1)+2^(n+1):=by rw[XS];omega
  have h4:2<=2^(n+1):=by rw[XS];have:= @X8 n;omega
  simp only[Dk.type];split
  .rw[Ty.size_eq];simp only[Ty.Ae,Wn,WI,Wt,WU];omega
  .have:∀x:Int,(Ty.mk x []).size=1:=fun x=>by simp[Ty.size_eq]
   simp only;(repeat' split)<;>rw[this]<;>omega
theorem Dk.Cx(d:Dk)(k:Int)(h:k<=20):(d.type k.toNat).1.size<1099511627776:=by
 have h1:=Dk.Di k.toNat d;have h2:2^(k.toNat+1)<=2^21:=Yf (by omega) (by omega);omega
def Er:Nat->Tm
 |0=> .mk 4 0 (.mk 0 []) []
 |n+1=> .mk 5 0 (.mk 0 []) [Er n]
def xy(n:Int):Tm:=if 0<=n/\n<4096 then Er n.toNat else A4
def Dk.types:Nat->Dk->List Ty×Dk
 |0,d=>([],d)
 |n+1,d=>let a:=d.type 1;let b:=a.2.types n;(a.1::b.1,b.2)
theorem Dk.DM:∀(n:Nat) (d:Dk),d.types (n+1)=((d.types n).1++[((d.types n).2.type 1).1],((d.types n).2.type 1).2)
 |0,d=>rfl
 |n+1,d=>by
  have:=Dk.DM n (d.type 1).2;show((d.type 1).1::((d.type 1).2.types (n+1)).1,((d.type 1).2.types (n+1)).2)=_;rw[this];rfl
theorem Dk.DH:∀(n:Nat) (d:Dk),d.ok->(d.types n).2.ok
 |0,d,h=>h
 |n+1,d,h=>Dk.DH n _ (Dk.Bu 1 d h)
theorem Dk.Dh:∀(n:Nat) (d:Dk),(d.types n).1.length=n
 |0,d=>rfl
 |n+1,d=>by simp[Dk.types,Dk.Dh n]
theorem RD(n k:Int)(hk:0<k):0<=G3 n k/\G3 n k<k:=by
 have h1:=V7 n k hk;constructor
 .exact Int.tmod_nonneg _ (by omega)
 .exact Int.tmod_lt_of_pos _ hk
theorem Dk.Bv(d:Dk)(n:Int)(hn:0<n):0<=(d.next n).1/\(d.next n).1<n:=by
 simp only[Dk.next];split
 .exact ⟨by simp,hn⟩
 .exact RD _ _ hn
def Dk.ctx(d:Dk):List Ty×Dk:=(d.next 4).2.types (d.next 4).1.toNat
def vT(i:Int):Tm:= .mk 1 i (.mk 0 []) []
def CU(t:Tm):Tm:= .mk 2 0 (.mk 1 []) [t]
def EJ(b f n:Tm):Tm:= .mk 6 0 (.mk 1 []) [b,f,n]
def sT(t:Tm):Tm:= .mk 5 0 (.mk 0 []) [t]
def zT:Tm:= .mk 4 0 (.mk 0 []) []
def A0(f x:Tm):Tm:= .mk 3 0 (.mk 0 []) [f,x]
def G7:Tm:=CU (CU (sT (vT 0)))
def Cr:Tm:=CU (CU (EJ (vT 1) G7 (vT 0)))
def CA:Tm:=CU (EJ zT (CU (CU (vT 1))) (vT 0))
def ID:Tm:=CU (CU (A0 CA (vT 0)))
def D3:Tm:=CU (CU (EJ (vT 1) ID (vT 0)))
def yx(t:Tm)(fr by_:Int):Int:=if t.err≠0 then t.err else if ¬(0<=fr/\fr<=4096)\/¬(0<=by_/\by_<=4096)\/t.near=false then 1 else 0
def x7(g:List Ty)(t:Ty):List Int:=((List.range g.length).filter fun i=>decide (g[g.length-1-i]? =some t)).map Int.ofNat
def vh:List Ty->Int
 |[]=>0
 |t::l=>if t.err≠0 then t.err else vh l
theorem Zox:∀(l:List Ty) (m:Nat) (hm:m<l.length),(∀j (hj:j<l.length),j<m->l[j].err=0)->l[m].err≠0->vh l=l[m].err:=by
 intro l;induction l with
 |nil=>intro m hm;simp at hm
 |cons t l ih=>
  intro m hm h h1;cases m with
  |zero=>simp only[Wu] at h1;simp only[vh];rw[if_pos h1];rfl
  |succ m=>
   have h0:=h 0 (by simp) (by omega);simp only[Wu] at h0;simp only[vh,h0,ne_eq,not_true_eq_false,if_false,WM];simp only[Wy] at hm;exact ih m (by omega) (fun j hj hlt=>by have:=h (j+1) (by simp;omega) (by omega);simpa using this) h1
theorem UH:∀(l:List Ty),(∀j (hj:j<l.length),j<l.length->l[j].err=0)->vh l=0:=by
 intro l;induction l with
 |nil=>intro _;rfl
 |cons t l ih=>
  intro h;have h0:=h 0 (by simp) (by simp);simp only[Wu] at h0;simp only[vh,h0,ne_eq,not_true_eq_false,if_false];exact ih fun j hj _=>by have:=h (j+1) (by simp;omega) (by simp;omega);simpa using this
def xd(l:List Ty):Int:=if l.length>16 then 3 else vh l
def KW(k:Int):Int:=if k=1\/k=4\/k=7\/k=13 then 0 else if k=2\/k=5\/k=11\/k=12 then 1 else if k=3\/k=8\/k=10 then 2 else if k=6\/k=9 then 3 else -1
def nT(k:Int)(l:List Tm):Tm:= .mk k 0 (.mk 0 []) l
def hT(k:Int)(s:Ty)(l:List Tm):Tm:= .mk k 0 s l
def B1(s:Ty)(x:Tm):Tm:= .mk 2 0 s [x]
def FR(g:List Ty)(t:Ty)(i:Nat):Bool:=(Bz g (g.length-1-i)).kind==4&&decide (Bz (Bz g (g.length-1-i)).args 1=t)
def Js(g:List Ty)(t:Ty):Option Nat:=(List.range g.length).find? (FR g t)
abbrev Ew:=Dk->List Ty->Ty->Tm×Dk
def Dk.fin(rec:Ew)(pos:Bool)(d:Dk)(g:List Ty)(t:Ty):Tm×Dk:=
 if t.kind=1 then
  if pos=true then
   if(d.next 5).1=0 then(sT (rec (d.next 5).2 g t).1,(rec (d.next 5).2 g t).2)
   else if(d.next 5).1=1 then
    (A0 (A0 Cr (rec (d.next 5).2 g t).1) (rec (rec (d.next 5).2 g t).2 g t).1,(rec (rec (d.next 5).2 g t).2 g t).2)
   else if(d.next 5).1=2 then
    (A0 (A0 D3 (rec (d.next 5).2 g t).1) (rec (rec (d.next 5).2 g t).2 g t).1,(rec (rec (d.next 5).2 g t).2 g t).2)
   else(xy ((d.next 5).2.next 3).1,((d.next 5).2.next 3).2)
  else(xy (d.next 3).1,(d.next 3).2)
 else if t.kind=2 then
  if pos=true then
   if(d.next 2).1=0 then(nT 8 [(rec (d.next 2).2 g Ag).1,(rec (rec (d.next 2).2 g Ag).2 g t).1],(rec (rec (d.next 2).2 g Ag).2 g t).2)
   else(nT 7 [],(d.next 2).2)
  else(nT 7 [],d)
 else if t.kind=3 then(nT 10 [(rec d g (Bz t.args 0)).1,(rec (rec d g (Bz t.args 0)).2 g (Bz t.args 1)).1],(rec (rec d g (Bz t.args 0)).2 g (Bz t.args 1)).2)
 else if t.kind=4 then(B1 (Bz t.args 0) (rec d (g++[Bz t.args 0]) (Bz t.args 1)).1,(rec d (g++[Bz t.args 0]) (Bz t.args 1)).2)
 else(nT 13 [],d)
def Dk.m0(rec:Ew)(d:Dk)(g:List Ty)(t s:Ty):Tm×Dk:=(A0 (B1 s (rec d (g++[s]) t).1) (rec (rec d (g++[s]) t).2 g s).1,(rec (rec d (g++[s]) t).2 g s).2)
def Dk.m1(rec:Ew)(d:Dk)(g:List Ty)(t s:Ty):Tm×Dk:=(nT 11 [nT 10 [(rec d g t).1,(rec (rec d g t).2 g s).1]],(rec (rec d g t).2 g s).2)
def Dk.m2(rec:Ew)(d:Dk)(g:List Ty)(t:Ty):Tm×Dk:=
 (hT 6 t [(rec (rec d (g++[Ag,t]) t).2 g t).1,B1 Ag (B1 t (rec d (g++[Ag,t]) t).1),xy ((rec (rec d (g++[Ag,t]) t).2 g t).2.next 3).1],((rec (rec d (g++[Ag,t]) t).2 g t).2.next 3).2)
def Dk.m3(rec:Ew)(d:Dk)(g:List Ty)(t:Ty):Tm×Dk:=
 (hT 9 t [(rec (rec d (g++[Ag,An,t]) t).2 g t).1,B1 Ag (B1 An (B1 t (rec d (g++[Ag,An,t]) t).1)),(rec (rec (rec d (g++[Ag,An,t]) t).2 g t).2 g An).1],(rec (rec (rec d (g++[Ag,An,t]) t).2 g t).2 g An).2)
def Dk.m4(rec:Ew)(d:Dk)(g:List Ty)(t s:Ty):Tm×Dk:=(nT 12 [nT 10 [(rec d g s).1,(rec (rec d g s).2 g t).1]],(rec (rec d g s).2 g t).2)
def Dk.m5(rec:Ew)(pos:Bool)(d:Dk)(g:List Ty)(t:Ty):Tm×Dk:=
 match Js g t with
 |some i=>(A0 (vT i) (rec d g (Bz (Bz g (g.length-1-i)).args 0)).1,(rec d g (Bz (Bz g (g.length-1-i)).args 0)).2)
 |none=>d.fin rec pos g t
def Dk.mid(rec:Ew)(pos:Bool)(d:Dk)(g:List Ty)(t:Ty):Tm×Dk:=
 if pos=true then
  if(d.next 8).1=0 then((d.next 8).2.type 0).2.m0 rec g t ((d.next 8).2.type 0).1
  else if(d.next 8).1=1 then((d.next 8).2.type 0).2.m1 rec g t ((d.next 8).2.type 0).1
  else if(d.next 8).1=2 then(d.next 8).2.m2 rec g t
  else if(d.next 8).1=3 then(d.next 8).2.m3 rec g t
  else if(d.next 8).1=4 then((d.next 8).2.type 0).2.m4 rec g t ((d.next 8).2.type 0).1
  else if(d.next 8).1=5 then(d.next 8).2.m5 rec pos g t
  else(d.next 8).2.fin rec pos g t
 else d.fin rec pos g t
theorem Dk.Hq{rec:Ew}{pos:Bool}{d:Dk}{g:List Ty}{t:Ty}(h:pos=true):d.mid rec pos g t=
 if(d.next 8).1=0 then((d.next 8).2.type 0).2.m0 rec g t ((d.next 8).2.type 0).1
 else if(d.next 8).1=1 then((d.next 8).2.type 0).2.m1 rec g t ((d.next 8).2.type 0).1
 else if(d.next 8).1=2 then(d.next 8).2.m2 rec g t
 else if(d.next 8).1=3 then(d.next 8).2.m3 rec g t
 else if(d.next 8).1=4 then((d.next 8).2.type 0).2.m4 rec g t ((d.next 8).2.type 0).1
 else if(d.next 8).1=5 then(d.next 8).2.m5 rec pos g t
 else(d.next 8).2.fin rec pos g t:=if_pos h
def Dk.gen(rec:Ew)(pos:Bool)(d:Dk)(g:List Ty)(t:Ty):Tm×Dk:=
 if x7 g t=[] then d.mid rec pos g t
 else if 0<(d.next 3).1 then(vT ((x7 g t).getD ((d.next 3).2.next (x7 g t).length).1.toNat 0),((d.next 3).2.next (x7 g t).length).2)
 else(d.next 3).2.mid rec pos g t
def Dk.tm:Nat->Ew
 |0,d,_,_=>(A4,d)
 |n+1,d,g,t=>d.gen (Dk.tm n) (decide (2<=n)) g t
def Ty.small(t:Ty):Prop:=t.shape=true/\t.size<=3
def Am(g:List Ty):Prop:=∀t∈g,t.small
inductive Mk:Nat->List Ty->Ty->Tm->Prop
 |var (n g t) (i:Nat) (hi:i<g.length) (h:Bz g (g.length-1-i)=t):Mk (n+1) g t (vT i)
 |app (n g t s a b) (hn:2<=n) (hs:s.shape=true) (h1:s.size=1) (ha:Mk n (g++[s]) t a) (hb:Mk n g s b):Mk (n+1) g t (A0 (B1 s a) b)
 |fst (n g t s a b) (hn:2<=n) (hs:s.shape=true) (h1:s.size=1) (ha:Mk n g t a) (hb:Mk n g s b):Mk (n+1) g t (nT 11 [nT 10 [a,b]])
 |snd (n g t s a b) (hn:2<=n) (hs:s.shape=true) (h1:s.size=1) (ha:Mk n g s a) (hb:Mk n g t b):Mk (n+1) g t (nT 12 [nT 10 [a,b]])
 |recu (n g t a b m) (hn:2<=n) (hm:m<3) (ha:Mk n (g++[Ag,t]) t a) (hb:Mk n g t b):Mk (n+1) g t (hT 6 t [b,B1 Ag (B1 t a),Er m])
 |fold (n g t a b c) (hn:2<=n) (ha:Mk n (g++[Ag,An,t]) t a) (hb:Mk n g t b) (hc:Mk n g An c):Mk (n+1) g t (hT 9 t [b,B1 Ag (B1 An (B1 t a)),c])
 |ctx (n g t s a) (hn:2<=n) (i:Nat) (hi:i<g.length) (h:Bz g (g.length-1-i)=yv s t) (h1:s.size=1) (ha:Mk n g s a):Mk (n+1) g t (A0 (vT i) a)
 |succ (n g a) (hn:2<=n) (ha:Mk n g Ag a):Mk (n+1) g Ag (sT a)
 |plus (n g a b) (hn:2<=n) (ha:Mk n g Ag a) (hb:Mk n g Ag b):Mk (n+1) g Ag (A0 (A0 Cr a) b)
 |sub (n g a b) (hn:2<=n) (ha:Mk n g Ag a) (hb:Mk n g Ag b):Mk (n+1) g Ag (A0 (A0 D3 a) b)
 |num (n g m) (hm:m<3):Mk (n+1) g Ag (Er m)
 |cons (n g a b) (hn:2<=n) (ha:Mk n g Ag a) (hb:Mk n g An b):Mk (n+1) g An (nT 8 [a,b])
 |nil (n g):Mk (n+1) g An (nT 7 [])
 |pair (n g s t a b) (h1:s.size=1) (h2:t.size=1) (ha:Mk n g s a) (hb:Mk n g t b):Mk (n+1) g (CC s t) (nT 10 [a,b])
 |lam (n g s t a) (h1:s.size=1) (h2:t.size=1) (ha:Mk n (g++[s]) t a):Mk (n+1) g (yv s t) (B1 s a)
 |unit (n g):Mk (n+1) g Hf (nT 13 [])
theorem Dk.Gn{rec:Ew}{pos:Bool}{d:Dk}{g:List Ty}{t:Ty}(h:∀d g t,d.ok->(rec d g t).2.ok)(hd:d.ok):(d.fin rec pos g t).2.ok:=by
 have h5:=Dk.AH hd 5;have h3:=Dk.AH hd 3;have h2:=Dk.AH hd 2;unfold Dk.fin;repeat' split
 all_goals first
  |exact hd|exact h3|exact h2|exact Dk.AH h5 3|exact h _ _ _ h5|exact h _ _ _ (h _ _ _ h5)|exact h _ _ _ (h _ _ _ h2)|exact h _ _ _ (h _ _ _ hd)|exact h _ _ _ hd
theorem Dk.GA{rec:Ew}{pos:Bool}{d:Dk}{g:List Ty}{t:Ty}(h:∀d g t,d.ok->(rec d g t).2.ok)(hd:d.ok):(d.mid rec pos g t).2.ok:=by
 have h8:=Dk.AH hd 8;have hs:=Dk.Bu 0 _ h8;have hf:=Dk.Gn (pos:=pos) (g:=g) (t:=t) h h8;unfold Dk.mid Dk.m0 Dk.m1 Dk.m2 Dk.m3 Dk.m4 Dk.m5;repeat' split
 all_goals first
  |exact hf|exact Dk.Gn h hd|exact h _ _ _ (h _ _ _ hs)|exact Dk.AH (h _ _ _ (h _ _ _ h8)) 3|exact h _ _ _ (h _ _ _ (h _ _ _ h8))|exact h _ _ _ h8
theorem Dk.II{rec:Ew}{pos:Bool}{d:Dk}{g:List Ty}{t:Ty}(h:∀d g t,d.ok->(rec d g t).2.ok)(hd:d.ok):(d.gen rec pos g t).2.ok:=by
 unfold Dk.gen;repeat' split
 .exact Dk.GA h hd
 .exact Dk.AH (Dk.AH hd 3) _
 .exact Dk.GA h (Dk.AH hd 3)
theorem Dk.CG:∀(n:Nat) (d:Dk) (g:List Ty) (t:Ty),d.ok->(Dk.tm n d g t).2.ok
 |0,d,_,_,h=>h
 |n+1,d,g,t,h=>Dk.II (fun d g t hd=>Dk.CG n d g t hd) h
theorem Ty.Ad(t:Ty):t.err=0↔t.shape=true/\t.size<=64:=by
 simp only[Ty.err];cases t.shape
 .simp
 .by_cases h:t.size>64
  .simp[h]
  .simp[h];omega
theorem Ty.Gw{t x:Ty}(h:t.err=0)(hx:x∈t.args):x.err=0:=by
 rw[Ty.Ad] at h ⊢;have h1:=za Ty.size hx;have h2:=t.size_eq;have h3:=h.1;rw[Ty.Al,Wk] at h3;exact⟨Wm.1 h3.2 x hx,by omega⟩
theorem Ty.Ct{t:Ty}(h:t.shape=true)(hk:t.kind=3\/t.kind=4):∃x y,t.args=[x,y]:=by
 rw[Ty.Al,Wk] at h;have h1:DE t.kind=some 2:=by rcases hk with hk|hk<;>rw[hk]<;>rfl
 have h2:=h.1;rw[h1] at h2;simp at h2
 match hl:t.args,h2 with
 |[x,y],_=>exact⟨x,y,rfl⟩
theorem J5{l:List Ty}{i:Nat}(h:i<l.length):Bz l i=l[i]:=by simp[Bz,h]
theorem L9{l:List Ty}{i:Nat}(h:i<l.length):Bz l i∈l:=by rw[J5 h];exact Wi h
@[simp] theorem Lp(x:Ty)(l:List Ty):Bz (x::l) 0=x:=rfl
@[simp] theorem MZ(x y:Ty)(l:List Ty):Bz (x::y::l) 1=y:=rfl
@[simp] theorem S8(x y z:Ty)(l:List Ty):Bz (x::y::z::l) 2=z:=rfl
theorem Tm.GC(g:List Ty):∀(xs:List Tm) (m:Nat) (hm:m<xs.length),(∀j (hj:j<xs.length),j<m->(xs[j].inf g).2=0)->(xs[m].inf g).2≠0->Tm.AK g xs=([],(xs[m].inf g).2):=by
 intro xs;induction xs with
 |nil=>intro m hm;simp at hm
 |cons x l ih=>
  intro m hm h h1;cases m with
  |zero=>simp only[Wu] at h1 ⊢;simp only[Tm.AK];rw[if_pos h1]
  |succ m=>
   have h0:=h 0 (by simp) (by omega);simp only[Wu] at h0;simp only[Wy] at hm;have h2:=ih m (by omega) (fun j hj hlt=>by have:=h (j+1) (by simp;omega) (by omega);simpa using this) (by simpa using h1);simp only[WM] at h1 ⊢;simp only[Tm.AK,h0,ne_eq,not_true_eq_false,if_false,h2,h1,not_false_eq_true,if_true]
theorem Tm.Ep(g:List Ty):∀(xs:List Tm),(∀x∈xs,(x.inf g).2=0)->Tm.AK g xs=(xs.map fun x=>(x.inf g).1,0):=by
 intro xs;induction xs with
 |nil=>intro _;rfl
 |cons x l ih=>
  intro h;have h0:=h x (by simp);have h1:=ih fun y hy=>h y (by simp[hy]);simp only[Tm.AK,h0,h1,ne_eq,not_true_eq_false,if_false,Wn]
theorem Tm.CJ(g:List Ty):∀(xs:List Tm),(Tm.AK g xs).2=0->∀x∈xs,(x.inf g).2=0:=by
 intro xs;induction xs with
 |nil=>intro _ x hx;cases hx
 |cons y l ih=>
  intro h x hx;simp only[Tm.AK] at h;by_cases h1:(y.inf g).2=0
  .by_cases h2:(Tm.AK g l).2=0
   .rcases WE.1 hx with rfl|hx
    .exact h1
    .exact ih h2 x hx
   .simp only[h1,h2,ne_eq,not_true_eq_false,if_false,not_false_eq_true,if_true] at h
  .rw[if_pos h1] at h;exact absurd h h1
theorem Tm.A1(g:List Ty)(t:Tm):t.inf g=(if t.kind=1 then(if t.index>=g.length then(BJ,6) else(Bz g (g.length-1-t.index.toNat),0))
 else if t.kind=2 then(if(Tm.AK (g++[t.ty]) t.args).2≠0 then(BJ,(Tm.AK (g++[t.ty]) t.args).2) else Bg (yv t.ty (Bz (Tm.AK (g++[t.ty]) t.args).1 0)))
 else if(Tm.AK g t.args).2≠0 then(BJ,(Tm.AK g t.args).2) else vo t.kind t.ty (Tm.AK g t.args).1):=by
 cases t;rfl
theorem U3{t:Ty}(h:(Bg t).2=0):(Bg t).1.err=0:=by
 simp only[Bg] at h ⊢;split
 .rename_i h1;exact h1
 .rename_i h1;simp[h1] at h
theorem HW{t:Tm}(h:t.shape=true):CX t.kind=some t.args.length:=by
 rw[Tm.Al,Wk] at h;have h1:=h.1;simp only[Tm.head,Wk] at h1;have h2:=h1.1.1.1;split at h2
 .rename_i n hn;rw[hn];simp at h2;rw[h2]
 .cases h2
theorem zg{t:Tm}(h:t.shape=true):∀x∈t.args,x.shape=true:=by
 rw[Tm.Al,Wk] at h;exact Wm.1 h.2
theorem NT{t:Tm}(h:t.shape=true):0<=t.index/\(t.kind≠1->t.index=0):=by
 rw[Tm.Al,Wk] at h;have h1:=h.1;simp only[Tm.head,Wk,decide_eq_true_eq,Xl,beq_iff_eq] at h1;exact⟨h1.1.1.2,fun hk=>h1.1.2.resolve_right hk⟩
theorem OP{t:Tm}(h:t.shape=true)(hk:xx t.kind=true):t.ty.err=0:=by
 rw[Tm.Al,Wk] at h;have h1:=h.1;simp only[Tm.head,Wk,hk,cond_true] at h1;have h2:=h1.2;simp only[Ty.ok,Wk,decide_eq_true_eq] at h2;exact(Ty.Ad _).2 h2
theorem U5{k:Int}{n:Nat}(h:CX k=some n):(n=0/\(k=1\/k=4\/k=7\/k=13))\/(n=1/\(k=2\/k=5\/k=11\/k=12))\/(n=2/\(k=3\/k=8\/k=10))\/(n=3/\(k=6\/k=9)):=by
 simp only[CX] at h;(repeat' split at h)<;>simp_all<;>omega
theorem K3{α:Type}{l:List α}(h:l.length=1):l=[l[0]'(by omega)]:=by
 match l,h with
 |[x],_=>rfl
theorem Qh{α:Type}{l:List α}(h:l.length=1):∃x,l=[x]:=⟨_,K3 h⟩
theorem NK{α:Type}{l:List α}(h:l.length=2):∃x y,l=[x,y]:=by
 match l,h with
 |[x,y],_=>exact⟨x,y,rfl⟩
theorem Sf{α:Type}{l:List α}(h:l.length=3):∃x y z,l=[x,y,z]:=by
 match l,h with
 |[x,y,z],_=>exact⟨x,y,z,rfl⟩
theorem Zvp{k:Int}{h:Ty}{l:List Ty}(hk:CX k=some l.length)(hl:∀x∈l,x.err=0)(hh:xx k=true->h.err=0)(h0:(vo k h l).2=0):(vo k h l).1.err=0:=by
 have h1:∀i,i<l.length->(Bz l i).err=0:=fun i hi=>hl _ (L9 hi);have h2:∀i,i<l.length->(Bz l i).kind=3\/(Bz l i).kind=4->∀j,j<2->(Bz (Bz l i).args j).err=0:=by
  intro i hi hk j hj;obtain⟨x,y,hxy⟩:=Ty.Ct ((Ty.Ad _).1 (h1 i hi)).1 hk;refine Ty.Gw (h1 i hi) ?_;exact L9 (by rw[hxy];exact hj)
 rcases U5 hk with⟨hn,hk⟩|⟨hn,hk⟩|⟨hn,hk⟩|⟨hn,hk⟩
 .rcases hk with rfl|rfl|rfl|rfl<;>rfl
 .rcases hk with rfl|rfl|rfl|rfl
  .rfl
  .simp only[vo] at h0 ⊢;simp at h0 ⊢;split<;>first|rfl|(exfalso;rename_i hc;simp[hc] at h0)
  .simp only[vo] at h0 ⊢;simp at h0 ⊢;by_cases hc:(Bz l 0).kind=3
   .simp only[hc,if_true];exact h2 0 (by omega) (.inl hc) 0 (by omega)
   .simp[hc] at h0
  .simp only[vo] at h0 ⊢;simp at h0 ⊢;by_cases hc:(Bz l 0).kind=3
   .simp only[hc,if_true];exact h2 0 (by omega) (.inl hc) 1 (by omega)
   .simp[hc] at h0
 .rcases hk with rfl|rfl|rfl
  .simp only[vo] at h0 ⊢;simp only[if_true] at h0 ⊢;by_cases hc:¬(Bz l 0).kind=4\/¬Bz (Bz l 0).args 0=Bz l 1
   .simp[hc] at h0
   .rw[if_neg hc];have:(Bz l 0).kind=4:=by simp at hc;exact hc.1
    exact h2 0 (by omega) (.inr this) 1 (by omega)
  .simp only[vo] at h0 ⊢;simp at h0 ⊢;split<;>first|rfl|(exfalso;rename_i hc;simp[hc] at h0)
  .simp only[vo] at h0 ⊢;simp at h0 ⊢;exact U3 h0
 .rcases hk with rfl|rfl
  .simp only[vo] at h0 ⊢;simp at h0 ⊢;split
   .rename_i hc;simp[hc] at h0
   .exact hh rfl
  .simp only[vo] at h0 ⊢;simp at h0 ⊢;split
   .rename_i hc;simp[hc] at h0
   .exact hh rfl
theorem Tm.DP(t:Tm):∀g:List Ty,t.shape=true->(∀x∈g,x.err=0)->(t.inf g).2=0->(t.inf g).1.err=0:=by
 induction t using Tm.ind with
 |h t ih=>
  intro g hsh hg h0;rw[Tm.A1] at h0 ⊢;by_cases h1:t.kind=1
  .simp only[h1,if_true] at h0 ⊢;by_cases h2:t.index>=g.length
   .simp[h2] at h0
   .rw[if_neg h2];have:=(NT hsh).1;exact hg _ (L9 (by omega))
  .simp only[h1,if_false] at h0 ⊢;by_cases h2:t.kind=2
   .simp only[h2,if_true] at h0 ⊢;by_cases h3:(Tm.AK (g++[t.ty]) t.args).2=0
    .simp only[h3,ne_eq,not_true_eq_false,if_false] at h0 ⊢;exact U3 h0
    .rw[if_pos h3] at h0;exact absurd h0 h3
   .simp only[h2,if_false] at h0 ⊢;by_cases h3:(Tm.AK g t.args).2=0
    .simp only[h3,ne_eq,not_true_eq_false,if_false] at h0 ⊢;have h4:=Tm.CJ g t.args h3;have h5:=Tm.Ep g t.args h4;rw[h5] at h0 ⊢;refine Zvp (by rw[HW hsh];simp) ?_ (OP hsh) h0;intro x hx;obtain⟨y,hy,rfl⟩:=WA.1 hx;exact ih y hy g (zg hsh y hy) hg (h4 y hy)
    .rw[if_pos h3] at h0;exact absurd h0 h3
theorem Le{t:Ty}(h:t.shape=true)(hk:t.kind=1\/t.kind=2\/t.kind=5):t.args=[]:=by
 rw[Ty.Al,Wk] at h;have h1:DE t.kind=some 0:=by rcases hk with hk|hk|hk<;>rw[hk]<;>rfl
 have h2:=h.1;rw[h1] at h2;simp at h2;exact h2
theorem Zsb{t:Ty}(h:t.shape=true):t.kind=1\/t.kind=2\/t.kind=5\/t.kind=3\/t.kind=4:=by
 rw[Ty.Al,Wk] at h;have h2:=h.1;split at h2
 .rename_i n hn;simp only[DE] at hn;split at hn
  .omega
  .split at hn
   .omega
   .cases hn
 .cases h2
theorem Sv{t:Ty}(h:t.shape=true):t=Ag\/t=An\/t=Hf\/∃a b,a.shape=true/\b.shape=true/\(t=CC a b\/t=yv a b):=by
 have h0:=h;rw[Ty.Al,Wk] at h0;rcases Zsb h with hk|hk|hk|hk|hk
 .exact .inl ((Ty.eq_iff _ _).2 ⟨hk,Le h (by omega)⟩)
 .exact .inr (.inl ((Ty.eq_iff _ _).2 ⟨hk,Le h (by omega)⟩))
 .exact .inr (.inr (.inl ((Ty.eq_iff _ _).2 ⟨hk,Le h (by omega)⟩)))
 .obtain ⟨a,b,hab⟩:=Ty.Ct h (.inl hk);have:=Wm.1 h0.2;rw[hab] at this;exact .inr (.inr (.inr ⟨a,b,this a (by simp),this b (by simp),.inl ((Ty.eq_iff _ _).2 ⟨hk,hab⟩)⟩))
 .obtain ⟨a,b,hab⟩:=Ty.Ct h (.inr hk);have:=Wm.1 h0.2;rw[hab] at this;exact .inr (.inr (.inr ⟨a,b,this a (by simp),this b (by simp),.inr ((Ty.eq_iff _ _).2 ⟨hk,hab⟩)⟩))
theorem Hz(a b:Ty):(CC a b).size=1+(a.size+b.size):=by simp[CC,Ty.size,Ty.sizes]
theorem ws(a b:Ty):(yv a b).size=1+(a.size+b.size):=by simp[yv,Ty.size,Ty.sizes]
theorem OH{t:Ty}(h:t.small):t=Ag\/t=An\/t=Hf\/∃a b,a.shape=true/\b.shape=true/\a.size=1/\b.size=1/\(t=CC a b\/t=yv a b):=by
 obtain⟨h1,h2⟩:=h;rcases Sv h1 with h3|h3|h3|⟨a,b,ha,hb,h3⟩
 .exact .inl h3
 .exact .inr (.inl h3)
 .exact .inr (.inr (.inl h3))
 .have pa:=a.size_pos;have pb:=b.size_pos;refine .inr (.inr (.inr ⟨a,b,ha,hb,?_,?_,h3⟩))<;>rcases h3 with rfl|rfl<;>(first|rw[Hz] at h2|rw[ws] at h2)<;>omega
theorem zw{t:Ty}(h:t.shape=true)(h1:t.size=1):t.small:=⟨h,by omega⟩
theorem zh:Ag.small:=⟨rfl,by decide⟩
theorem yp:An.small:=⟨rfl,by decide⟩
theorem zo{g l:List Ty}(h:Am g)(h1:Am l):Am (g++l):=fun t ht=>by
 rcases WH.1 ht with ht|ht
 .exact h t ht
 .exact h1 t ht
theorem zi{t:Ty}{l:List Ty}(h:t.small)(h1:Am l):Am (t::l):=fun x hx=>by
 rcases WE.1 hx with rfl|hx
 .exact h
 .exact h1 x hx
theorem zn:Am []:=fun t ht=>by cases ht
theorem Pd{g:List Ty}(h:Am g){i:Nat}(hi:i<g.length):(Bz g (g.length-1-i)).small:=h _ (L9 (by omega))
theorem Dk.type0(d:Dk):(d.type 0).1.shape=true/\(d.type 0).1.size=1:=by
 simp only[Dk.type];(repeat' split)<;>exact⟨rfl,rfl⟩
theorem N2(d:Dk):∃m,m<3/\xy (d.next 3).1=Er m:=by
 have h:=Dk.Bv d 3 (by omega);refine⟨(d.next 3).1.toNat,by omega,?_⟩;rw[xy,if_pos (by omega)]
theorem Zwv{g:List Ty}{t:Ty}{i:Int}(h:i∈x7 g t):∃j:Nat,i=j/\j<g.length/\Bz g (g.length-1-j)=t:=by
 simp only[x7,WA,XP,X0,decide_eq_true_eq] at h;obtain⟨j,⟨h1,h2⟩,rfl⟩:=h;refine⟨j,rfl,h1,?_⟩;simp only[Bz,WJ,h2,XA]
theorem Ztb{g:List Ty}{t:Ty}(d:Dk)(h:¬x7 g t=[]):∃j:Nat,(x7 g t).getD (d.next (x7 g t).length).1.toNat 0=j/\j<g.length/\Bz g (g.length-1-j)=t:=by
 have hl:0<(x7 g t).length:=List.length_pos_iff.2 h;have hb:=Dk.Bv d (x7 g t).length (by omega);have hlt:(d.next (x7 g t).length).1.toNat<(x7 g t).length:=by omega
 have:(x7 g t).getD (d.next (x7 g t).length).1.toNat 0∈x7 g t:=by
  rw[WJ,Wl hlt];exact Wi hlt
 exact Zwv this
theorem Zr4{g:List Ty}{t:Ty}{i:Nat}(h:Js g t=some i):i<g.length/\FR g t i=true:=by
 have:=List.find?_some h;have h2:=List.mem_of_find?_eq_some h;exact⟨by simpa using h2,this⟩
theorem Ybo{g:List Ty}{t:Ty}{i:Nat}(hg:Am g)(hi:i<g.length)(h:FR g t i=true):∃s,s.shape=true/\s.size=1/\Bz g (g.length-1-i)=yv s t:=by
 simp only[FR,Wk,beq_iff_eq,decide_eq_true_eq] at h;have hs:=Pd hg hi;rcases OH hs with h3|h3|h3|⟨a,b,ha,hb,h1,h2,h3|h3⟩
 .rw[h3] at h;exact absurd h.1 (by decide)
 .rw[h3] at h;exact absurd h.1 (by decide)
 .rw[h3] at h;exact absurd h.1 (by decide)
 .rw[h3] at h;exact absurd h.1 (by simp[CC])
 .refine ⟨a,ha,h1,?_⟩;have:=h.2;rw[h3] at this ⊢;simp only[yv,Ty.Ae,MZ] at this;rw[this]
abbrev LZ(rec:Ew)(n:Nat):Prop:=∀d g t,Am g->t.small->1<=n->(n=1->t.size=1)->Mk n g t (rec d g t).1
theorem Dk.Fi{rec:Ew}{n:Nat}{pos:Bool}{d:Dk}{g:List Ty}{t:Ty}(H:LZ rec n)(hp:pos=true->2<=n)(hg:Am g)(ht:t.small)(h0:n=0->t.size=1):Mk (n+1) g t (d.fin rec pos g t).1:=by
 rcases OH ht with rfl|rfl|rfl|⟨a,b,ha,hb,h1,h2,rfl|rfl⟩
 .unfold Dk.fin;rw[if_pos (show Ag.kind=1 from rfl)];by_cases hpos:pos=true
  .have hn:=hp hpos;have hr:∀d,Mk n g Ag (rec d g Ag).1:=fun d=>H d g Ag hg zh (by omega) (by omega);rw[if_pos hpos];split
   .exact .succ n g _ hn (hr _)
   .split
    .exact .plus n g _ _ hn (hr _) (hr _)
    .split
     .exact .sub n g _ _ hn (hr _) (hr _)
     .obtain ⟨m,hm,e⟩:=N2 (d.next 5).2;simp only[e];exact .num n g m hm
  .rw[if_neg hpos];obtain⟨m,hm,e⟩:=N2 d;simp only[e];exact .num n g m hm
 .unfold Dk.fin;rw[if_neg (by decide),if_pos (show An.kind=2 from rfl)];by_cases hpos:pos=true
  .have hn:=hp hpos;rw[if_pos hpos];split
   .exact .cons n g _ _ hn (H _ g Ag hg zh (by omega) (by omega)) (H _ g An hg yp (by omega) (by omega))
   .exact .nil n g
  .rw[if_neg hpos];exact .nil n g
 .unfold Dk.fin;rw[if_neg (by decide),if_neg (by decide),if_neg (by decide),if_neg (by decide)];exact .unit n g
 .unfold Dk.fin;rw[if_neg (by simp[CC]),if_neg (by simp[CC]),if_pos (show(CC a b).kind=3 from rfl)];have:n≠0:=fun h=>by have:=h0 h;rw[Hz] at this;omega
  exact .pair n g a b _ _ h1 h2 (H _ g a hg (zw ha h1) (by omega) fun _=>h1) (H _ g b hg (zw hb h2) (by omega) fun _=>h2)
 .unfold Dk.fin;rw[if_neg (by simp[yv]),if_neg (by simp[yv]),if_neg (by simp[yv]),if_pos (show(yv a b).kind=4 from rfl)];have:n≠0:=fun h=>by have:=h0 h;rw[ws] at this;omega
  exact .lam n g a b _ h1 h2 (H _ (g++[a]) b (zo hg (zi (zw ha h1) zn)) (zw hb h2) (by omega) fun _=>h2)
theorem Dk.Gi{rec:Ew}{n:Nat}{pos:Bool}{d:Dk}{g:List Ty}{t:Ty}(H:LZ rec n)(hp:pos=true->2<=n)(hg:Am g)(ht:t.small)(h0:n=0->t.size=1):Mk (n+1) g t (d.mid rec pos g t).1:=by
 unfold Dk.mid Dk.m0 Dk.m1 Dk.m2 Dk.m3 Dk.m4 Dk.m5;by_cases hpos:pos=true
 .have hn:=hp hpos;have hs:=Dk.type0 (d.next 8).2;have hss:=zw hs.1 hs.2;rw[if_pos hpos];split
  .exact .app n g t _ _ _ hn hs.1 hs.2 (H _ _ _ (zo hg (zi hss zn)) ht (by omega) (by omega)) (H _ _ _ hg hss (by omega) (by omega))
  .split
   .exact .fst n g t _ _ _ hn hs.1 hs.2 (H _ _ _ hg ht (by omega) (by omega)) (H _ _ _ hg hss (by omega) (by omega))
   .split
    .obtain ⟨m,hm,e⟩:=N2 (rec (rec (d.next 8).2 (g++[Ag,t]) t).2 g t).2;simp only[e];exact .recu n g t _ _ m hn hm (H _ _ _ (zo hg (zi zh (zi ht zn))) ht (by omega) (by omega)) (H _ _ _ hg ht (by omega) (by omega))
    .split
     .exact .fold n g t _ _ _ hn (H _ _ _ (zo hg (zi zh (zi yp (zi ht zn)))) ht (by omega) (by omega)) (H _ _ _ hg ht (by omega) (by omega)) (H _ _ _ hg yp (by omega) (by omega))
     .split
      .exact .snd n g t _ _ _ hn hs.1 hs.2 (H _ _ _ hg hss (by omega) (by omega)) (H _ _ _ hg ht (by omega) (by omega))
      .split
       .split
        .rename_i i hi;obtain⟨h1,h2⟩:=Zr4 hi;obtain⟨s,h3,h4,h5⟩:=Ybo hg h1 h2;simp only[h5,yv,Ty.Ae,Lp];exact .ctx n g t s _ hn i h1 h5 h4 (H _ _ _ hg (zw h3 h4) (by omega) (by omega))
        .exact Dk.Fi H hp hg ht h0
       .exact Dk.Fi H hp hg ht h0
 .rw[if_neg hpos];exact Dk.Fi H hp hg ht h0
theorem Dk.Ic{rec:Ew}{n:Nat}{pos:Bool}{d:Dk}{g:List Ty}{t:Ty}(H:LZ rec n)(hp:pos=true->2<=n)(hg:Am g)(ht:t.small)(h0:n=0->t.size=1):Mk (n+1) g t (d.gen rec pos g t).1:=by
 unfold Dk.gen;split
 .exact Dk.Gi H hp hg ht h0
 .rename_i hl;split
  .obtain ⟨j,e,h1,h2⟩:=Ztb (d.next 3).2 hl;simp only[e];exact .var n g t j h1 h2
  .exact Dk.Gi H hp hg ht h0
theorem Dk.CY:∀n,LZ (Dk.tm n) n
 |0=>fun d g t _ _ h _=>by omega
 |n+1=>fun d g t hg ht _ h1=>Dk.Ic (Dk.CY n) (by simp) hg ht (by omega)
theorem MS:∀m,(Er m).full=2*(m+1)
 |0=>rfl
 |m+1=>by simp[Er,Tm.full,Tm.Au,MS m,Ty.size,Ty.sizes];omega
theorem Mk.full{n:Nat}{g:List Ty}{t:Ty}{x:Tm}(h:Mk n g t x):Am g->t.small->x.full+20<=20*3^n:=by
 have e1:BJ.size=1:=rfl;have e2:(Ty.mk 0 []).size=1:=rfl;have p:∀n,1<=3^n:=fun n=>Nat.one_le_pow _ _ (by omega);have q:∀n,3^(n+1)=3*3^n:=fun n=>by rw[XS];omega
 induction h with
 |var n g t i hi h=>intro hg ht;have:=p n;have:=q n;simp[vT,Tm.full,Tm.Au,e2];omega
 |app n g t s a b hn hs h1 ha hb iha ihb=>
  intro hg ht;have:=iha (zo hg (zi (zw hs h1) zn)) ht;have:=ihb hg (zw hs h1);have:=p n;have:=q n;simp[A0,B1,Tm.full,Tm.Au,e2,h1];omega
 |fst n g t s a b hn hs h1 ha hb iha ihb=>
  intro hg ht;have:=iha hg ht;have:=ihb hg (zw hs h1);have:=p n;have:=q n;simp[nT,Tm.full,Tm.Au,e2];omega
 |snd n g t s a b hn hs h1 ha hb iha ihb=>
  intro hg ht;have:=iha hg (zw hs h1);have:=ihb hg ht;have:=p n;have:=q n;simp[nT,Tm.full,Tm.Au,e2];omega
 |recu n g t a b m hn hm ha hb iha ihb=>
  intro hg ht;have:=iha (zo hg (zi zh (zi ht zn))) ht;have:=ihb hg ht;have:=ht.2;have:=p n;have:=q n;have e3:Ag.size=1:=rfl;simp[hT,B1,Tm.full,Tm.Au,e3,MS];omega
 |fold n g t a b c hn ha hb hc iha ihb ihc=>
  intro hg ht;have:=iha (zo hg (zi zh (zi yp (zi ht zn)))) ht;have:=ihb hg ht;have:=ihc hg yp;have:=ht.2;have:=p n;have:=q n;have e3:Ag.size=1:=rfl;have e4:An.size=1:=rfl;simp[hT,B1,Tm.full,Tm.Au,e3,e4];omega
 |ctx n g t s a hn i hi h h1 ha iha=>
  intro hg ht;have hs:s.shape=true:=by
   have:=Pd hg hi;rw[h] at this;have:=Wm.1 ((Wk _ _).mp ((Ty.Al _).symm.trans this.1)).2 s (by simp[yv]);exact this
  have:=iha hg (zw hs h1);have:=p n;have:=q n;simp[A0,vT,Tm.full,Tm.Au,e2];omega
 |succ n g a hn ha iha=>intro hg ht;have:=iha hg zh;have:=p n;have:=q n;simp[sT,Tm.full,Tm.Au,e2];omega
 |plus n g a b hn ha hb iha ihb=>
  intro hg ht;have:=iha hg zh;have:=ihb hg zh;have:=p n;have:=q n;have e5:Cr.full<=18:=by decide
  simp[A0,Tm.full,Tm.Au,e2];omega
 |sub n g a b hn ha hb iha ihb=>
  intro hg ht;have:=iha hg zh;have:=ihb hg zh;have:=p n;have:=q n;have e5:D3.full<=36:=by decide
  simp[A0,Tm.full,Tm.Au,e2];omega
 |num n g m hm=>intro hg ht;have:=p n;have:=q n;rw[MS];omega
 |cons n g a b hn ha hb iha ihb=>
  intro hg ht;have:=iha hg zh;have:=ihb hg yp;have:=p n;have:=q n;simp[nT,Tm.full,Tm.Au,e2];omega
 |nil n g=>intro hg ht;have:=p n;have:=q n;simp[nT,Tm.full,Tm.Au,e2];omega
 |pair n g s t a b h1 h2 ha hb iha ihb=>
  intro hg ht;have hs:=Wm.1 ((Wk _ _).mp ((Ty.Al _).symm.trans ht.1)).2;have:=iha hg (zw (hs s (by simp[CC])) h1);have:=ihb hg (zw (hs t (by simp[CC])) h2);have:=p n;have:=q n;simp[nT,Tm.full,Tm.Au,e2];omega
 |lam n g s t a h1 h2 ha iha=>
  intro hg ht;have hs:=Wm.1 ((Wk _ _).mp ((Ty.Al _).symm.trans ht.1)).2;have:=iha (zo hg (zi (zw (hs s (by simp[yv])) h1) zn)) (zw (hs t (by simp[yv])) h2);have:=p n;have:=q n;simp[B1,Tm.full,Tm.Au,h1];omega
 |unit n g=>intro hg ht;have:=p n;have:=q n;simp[nT,Tm.full,Tm.Au,e2];omega
theorem P3{k:Int}{a b:Ty}(h:(Ty.mk k [a,b]).shape=true):a.shape=true/\b.shape=true:=by
 have hs:=Wm.1 ((Wk _ _).mp ((Ty.Al _).symm.trans h)).2;exact⟨hs a (by simp),hs b (by simp)⟩
theorem Mk.ind{P:Nat->List Ty->Ty->Tm->Prop}
 (var:∀n g t (i:Nat),i<g.length->Bz g (g.length-1-i)=t->Am g->t.small->P (n+1) g t (vT i))
 (app:∀n g t s a b,2<=n->s.shape=true->s.size=1->Am g->t.small->P n (g++[s]) t a->P n g s b->P (n+1) g t (A0 (B1 s a) b))
 (fst:∀n g t s a b,2<=n->s.shape=true->s.size=1->Am g->t.small->P n g t a->P n g s b->P (n+1) g t (nT 11 [nT 10 [a,b]]))
 (snd:∀n g t s a b,2<=n->s.shape=true->s.size=1->Am g->t.small->P n g s a->P n g t b->P (n+1) g t (nT 12 [nT 10 [a,b]]))
 (recu:∀n g t a b m,2<=n->m<3->Am g->t.small->P n (g++[Ag,t]) t a->P n g t b->P (n+1) g t (hT 6 t [b,B1 Ag (B1 t a),Er m]))
 (fold:∀n g t a b c,2<=n->Am g->t.small->P n (g++[Ag,An,t]) t a->P n g t b->P n g An c->P (n+1) g t (hT 9 t [b,B1 Ag (B1 An (B1 t a)),c]))
 (ctx:∀n g t s a (i:Nat),2<=n->i<g.length->Bz g (g.length-1-i)=yv s t->s.shape=true->s.size=1->Am g->t.small->P n g s a->P (n+1) g t (A0 (vT i) a))
 (succ:∀n g a,2<=n->Am g->P n g Ag a->P (n+1) g Ag (sT a))
 (plus:∀n g a b,2<=n->Am g->P n g Ag a->P n g Ag b->P (n+1) g Ag (A0 (A0 Cr a) b))
 (sub:∀n g a b,2<=n->Am g->P n g Ag a->P n g Ag b->P (n+1) g Ag (A0 (A0 D3 a) b))
 (num:∀n g m,m<3->Am g->P (n+1) g Ag (Er m))
 (cons:∀n g a b,2<=n->Am g->P n g Ag a->P n g An b->P (n+1) g An (nT 8 [a,b]))
 (nil:∀n g,Am g->P (n+1) g An (nT 7 []))
 (pair:∀n g s t a b,s.shape=true->t.shape=true->s.size=1->t.size=1->1<=n->Am g->P n g s a->P n g t b->P (n+1) g (CC s t) (nT 10 [a,b]))
 (lam:∀n g s t a,s.shape=true->t.shape=true->s.size=1->t.size=1->1<=n->Am g->P n (g++[s]) t a->P (n+1) g (yv s t) (B1 s a))
 (unit:∀n g,Am g->P (n+1) g Hf (nT 13 []))
 {n:Nat} {g:List Ty} {t:Ty} {x:Tm} (h:Mk n g t x):Am g->t.small->P n g t x:=by
 have one:∀{n g t x},Mk n g t x->1<=n:=fun h=>by cases h<;>omega
 induction h with
 |var n g t i hi h=>exact fun hg ht=>var n g t i hi h hg ht
 |app n g t s a b hn hs h1 ha hb iha ihb=>exact fun hg ht=>app n g t s a b hn hs h1 hg ht (iha (zo hg (zi (zw hs h1) zn)) ht) (ihb hg (zw hs h1))
 |fst n g t s a b hn hs h1 ha hb iha ihb=>exact fun hg ht=>fst n g t s a b hn hs h1 hg ht (iha hg ht) (ihb hg (zw hs h1))
 |snd n g t s a b hn hs h1 ha hb iha ihb=>exact fun hg ht=>snd n g t s a b hn hs h1 hg ht (iha hg (zw hs h1)) (ihb hg ht)
 |recu n g t a b m hn hm ha hb iha ihb=>exact fun hg ht=>recu n g t a b m hn hm hg ht (iha (zo hg (zi zh (zi ht zn))) ht) (ihb hg ht)
 |fold n g t a b c hn ha hb hc iha ihb ihc=>exact fun hg ht=>fold n g t a b c hn hg ht (iha (zo hg (zi zh (zi yp (zi ht zn)))) ht) (ihb hg ht) (ihc hg yp)
 |ctx n g t s a hn i hi h h1 ha iha=>
  intro hg ht;have hs:s.shape=true:=by
   have:=Pd hg hi;rw[h] at this;exact(P3 this.1).1
  exact ctx n g t s a i hn hi h hs h1 hg ht (iha hg (zw hs h1))
 |succ n g a hn ha iha=>exact fun hg ht=>succ n g a hn hg (iha hg zh)
 |plus n g a b hn ha hb iha ihb=>exact fun hg ht=>plus n g a b hn hg (iha hg zh) (ihb hg zh)
 |sub n g a b hn ha hb iha ihb=>exact fun hg ht=>sub n g a b hn hg (iha hg zh) (ihb hg zh)
 |num n g m hm=>exact fun hg ht=>num n g m hm hg
 |cons n g a b hn ha hb iha ihb=>exact fun hg ht=>cons n g a b hn hg (iha hg zh) (ihb hg yp)
 |nil n g=>exact fun hg ht=>nil n g hg
 |pair n g s t a b h1 h2 ha hb iha ihb=>exact fun hg ht=>have hs:=P3 ht.1;pair n g s t a b hs.1 hs.2 h1 h2 (one ha) hg (iha hg (zw hs.1 h1)) (ihb hg (zw hs.2 h2))
 |lam n g s t a h1 h2 ha iha=>exact fun hg ht=>have hs:=P3 ht.1;lam n g s t a hs.1 hs.2 h1 h2 (one ha) hg (iha (zo hg (zi (zw hs.1 h1) zn)) (zw hs.2 h2))
 |unit n g=>exact fun hg ht=>unit n g hg
@[simp] theorem Zvn(a b:Ty):(yv a b).kind=4:=rfl
@[simp] theorem Zuv(a b:Ty):(yv a b).args=[a,b]:=rfl
@[simp] theorem Ygd(a b:Ty):(CC a b).kind=3:=rfl
@[simp] theorem Yhf(a b:Ty):(CC a b).args=[a,b]:=rfl
theorem UK{t:Ty}(h:t.err=0):Bg t=(t,0):=if_pos h
theorem wn{t:Ty}(h:t.small):t.err=0:=(Ty.Ad t).2 ⟨h.1,by have:=h.2;omega⟩
theorem Iv{a b:Ty}(ha:a.shape=true)(hb:b.shape=true):(yv a b).shape=true:=by simp[Ty.Al (yv a b),ha,hb,DE]
theorem O0{a b:Ty}(ha:a.shape=true)(hb:b.shape=true):(CC a b).shape=true:=by simp[Ty.Al (CC a b),ha,hb,DE]
theorem J0{a b:Ty}(ha:a.shape=true)(hb:b.shape=true)(h:a.size+b.size<=60):(yv a b).err=0:=(Ty.Ad _).2 ⟨Iv ha hb,by rw[ws];omega⟩
theorem PB{a b:Ty}(ha:a.shape=true)(hb:b.shape=true)(h:a.size+b.size<=60):(CC a b).err=0:=(Ty.Ad _).2 ⟨O0 ha hb,by rw[Hz];omega⟩
def Ex(g:List Ty)(i:Nat):Ty:=Bz g (g.length-1-i)
theorem MI(g:List Ty)(i:Nat)(h:i<g.length):(vT i).inf g=(Ex g i,0):=by
 rw[Tm.A1];have h1:¬((i:Int)>=(g.length:Int)):=by omega
 simp[vT,h1,Ex]
theorem OQ(g:List Ty)(a:Ty):Ex (g++[a]) 0=a:=by simp[Ex,Bz]
theorem SD(g:List Ty)(a:Ty)(i:Nat)(h:i<g.length):Ex (g++[a]) (i+1)=Ex g i:=by
 have e:g.length+1-1-(i+1)=g.length-1-i:=by omega
 simp only[Ex,Bz,WD,Wy,W3,Xg,e,WJ];rw[WC (by omega)]
theorem KP(g:List Ty)(a:Ty):(vT 0).inf (g++[a])=(a,0):=by
 have:=MI (g++[a]) 0 (by simp);rw[OQ] at this;exact this
theorem PF(g:List Ty)(a b:Ty):(vT 1).inf (g++[a]++[b])=(a,0):=by
 have:=MI (g++[a]++[b]) 1 (by simp);rw[SD (g++[a]) b 0 (by simp),OQ] at this;exact this
theorem xq{g:List Ty}{s t:Ty}{x:Tm}(h:x.inf (g++[s])=(t,0))(he:(yv s t).err=0):(B1 s x).inf g=(yv s t,0):=by
 rw[Tm.A1];simp[B1,Tm.AK,h,UK he]
theorem HN{g:List Ty}{s t:Ty}{f x:Tm}(hf:f.inf g=(yv s t,0))(hx:x.inf g=(s,0)):(A0 f x).inf g=(t,0):=by
 rw[Tm.A1];simp[A0,Tm.AK,hf,hx,vo]
theorem Qv{g:List Ty}{x:Tm}(h:x.inf g=(Ag,0)):(sT x).inf g=(Ag,0):=by
 rw[Tm.A1];simp[sT,Tm.AK,h,vo]
theorem Q4(g:List Ty):zT.inf g=(Ag,0):=by
 rw[Tm.A1];simp[zT,Tm.AK,vo]
theorem MV(g:List Ty):∀m,(Er m).inf g=(Ag,0)
 |0=>Q4 g
 |m+1=>Qv (MV g m)
theorem NH{g:List Ty}{t:Ty}{b f x:Tm}(hb:b.inf g=(t,0))(hf:f.inf g=(yv Ag (yv t t),0))(hx:x.inf g=(Ag,0)):(hT 6 t [b,f,x]).inf g=(t,0):=by
 rw[Tm.A1];simp[hT,Tm.AK,hb,hf,hx,vo]
theorem Zy0{g:List Ty}{t:Ty}{b f x:Tm}(hb:b.inf g=(t,0))(hf:f.inf g=(yv Ag (yv An (yv t t)),0))(hx:x.inf g=(An,0)):(hT 9 t [b,f,x]).inf g=(t,0):=by
 rw[Tm.A1];simp[hT,Tm.AK,hb,hf,hx,vo]
theorem MP{g:List Ty}{s t:Ty}{a b:Tm}(ha:a.inf g=(s,0))(hb:b.inf g=(t,0))(he:(CC s t).err=0):(nT 10 [a,b]).inf g=(CC s t,0):=by
 rw[Tm.A1];simp[nT,Tm.AK,ha,hb,vo,UK he]
theorem Yd7{g:List Ty}{s t:Ty}{x:Tm}(h:x.inf g=(CC s t,0)):(nT 11 [x]).inf g=(s,0):=by
 rw[Tm.A1];simp[nT,Tm.AK,h,vo]
theorem Ycl{g:List Ty}{s t:Ty}{x:Tm}(h:x.inf g=(CC s t,0)):(nT 12 [x]).inf g=(t,0):=by
 rw[Tm.A1];simp[nT,Tm.AK,h,vo]
theorem Zy5{g:List Ty}{a b:Tm}(ha:a.inf g=(Ag,0))(hb:b.inf g=(An,0)):(nT 8 [a,b]).inf g=(An,0):=by
 rw[Tm.A1];simp[nT,Tm.AK,ha,hb,vo]
theorem Rv{a:Ty}(ha:a.shape=true)(h:a.size<=30):(yv Ag a).err=0:=J0 rfl ha (by have:Ag.size=1:=rfl;omega)
theorem Yad(g:List Ty):Cr.inf g=(yv Ag (yv Ag Ag),0):=by
 refine xq (s:=Ag) (xq (s:=Ag) (NH (t:=Ag) (PF g Ag Ag) (xq (s:=Ag) (xq (s:=Ag) (Qv (KP _ _)) rfl) rfl) (KP _ _)) rfl) rfl
theorem Zzq(g:List Ty):CA.inf g=(yv Ag Ag,0):=by
 refine xq (s:=Ag) (NH (t:=Ag) (Q4 _) (xq (s:=Ag) (xq (s:=Ag) (PF _ Ag Ag) rfl) rfl) (KP _ _)) rfl
theorem Yeu(g:List Ty):D3.inf g=(yv Ag (yv Ag Ag),0):=by
 refine xq (s:=Ag) (xq (s:=Ag) (NH (t:=Ag) (PF g Ag Ag) (xq (s:=Ag) (xq (s:=Ag) (HN (Zzq _) (KP _ _)) rfl) rfl) (KP _ _)) rfl) rfl
theorem Mk.inf{n:Nat}{g:List Ty}{t:Ty}{x:Tm}(h:Mk n g t x)(hg:Am g)(ht:t.small):x.inf g=(t,0):=by
 refine Mk.ind (P:=fun n g t x=>x.inf g=(t,0)) ?_ ?_ ?_ ?_ ?_ ?_ ?_ ?_ ?_ ?_ ?_ ?_ ?_ ?_ ?_ ?_ h hg ht
 .intro n g t i hi h _ _;rw[MI g i hi];rw[<-h];rfl
 .intro n g t s a b _ hs h1 _ ht ha hb;exact HN (xq ha (J0 hs ht.1 (by have:=ht.2;omega))) hb
 .intro n g t s a b _ hs h1 _ ht ha hb;exact Yd7 (MP ha hb (PB ht.1 hs (by have:=ht.2;omega)))
 .intro n g t s a b _ hs h1 _ ht ha hb;exact Ycl (MP ha hb (PB hs ht.1 (by have:=ht.2;omega)))
 .intro n g t a b m _ _ _ ht ha hb;have h2:=ht.2;refine NH hb (xq (xq (by rw[Wr];exact ha) (J0 ht.1 ht.1 (by omega))) (Rv (Iv ht.1 ht.1) (by rw[ws];omega))) (MV g m)
 .intro n g t a b c _ _ ht ha hb hc;have h2:=ht.2;have e1:An.size=1:=rfl;refine Zy0 hb (xq (xq (xq (by rw[Wr,Wr];exact ha) (J0 ht.1 ht.1 (by omega))) (J0 rfl (Iv ht.1 ht.1) (by rw[ws];omega))) (Rv (Iv rfl (Iv ht.1 ht.1)) (by rw[ws,ws];omega))) hc
 .intro n g t s a i _ hi h _ _ _ _ ha;exact HN (s:=s) (by rw[MI g i hi];rw[<-h];rfl) ha
 .intro n g a _ _ ha;exact Qv ha
 .intro n g a b _ _ ha hb;exact HN (HN (Yad g) ha) hb
 .intro n g a b _ _ ha hb;exact HN (HN (Yeu g) ha) hb
 .intro n g m _ _;exact MV g m
 .intro n g a b _ _ ha hb;exact Zy5 ha hb
 .intro n g _;rw[Tm.A1];simp[nT,Tm.AK,vo]
 .intro n g s t a b hs ht h1 h2 _ _ ha hb;exact MP ha hb (PB hs ht (by omega))
 .intro n g s t a hs ht h1 h2 _ _ ha;exact xq ha (J0 hs ht (by omega))
 .intro n g _;rw[Tm.A1];simp[nT,Tm.AK,vo]
theorem RF:(Ty.mk 0 []).BL=true:=rfl
theorem QU{k:Int}{l:List Tm}(hk:CX k=some l.length)(ht:xx k=false)(h:∀x∈l,x.shape=true):(nT k l).shape=true:=by
 have:l.all Tm.shape=true:=Wm.2 h;simp[nT,Tm.Al,Tm.head,hk,ht,RF,this]
theorem JA{t:Ty}(h1:t.shape=true)(h2:t.size<=64):t.ok=true:=by simp[Ty.ok,h1,h2]
theorem Vk{k:Int}{s:Ty}{l:List Tm}(hk:CX k=some l.length)(ht:xx k=true)(hs:s.ok=true)(h:∀x∈l,x.shape=true):(hT k s l).shape=true:=by
 have:l.all Tm.shape=true:=Wm.2 h;simp[hT,Tm.Al,Tm.head,hk,ht,hs,this]
theorem KZ(i:Int)(h:0<=i):(vT i).shape=true:=by
 have:xx 1=false:=rfl;simp[vT,Tm.Al,Tm.head,CX,this,RF,h]
theorem PO:∀m,(Er m).shape=true
 |0=>rfl
 |m+1=>QU (k:=5) (l:=[Er m]) rfl rfl (by simp[PO m])
theorem x8{k:Int}{a b:Tm}(hk:CX k=some 2)(ht:xx k=false)(ha:a.shape=true)(hb:b.shape=true):(nT k [a,b]).shape=true:=QU hk ht (by simp[ha,hb])
theorem PL{k:Int}{a:Tm}(hk:CX k=some 1)(ht:xx k=false)(ha:a.shape=true):(nT k [a]).shape=true:=QU hk ht (by simp[ha])
theorem HK{s:Ty}{a:Tm}(hs:s.ok=true)(ha:a.shape=true):(B1 s a).shape=true:=Vk (k:=2) rfl rfl hs (by simp[ha])
theorem US{k:Int}{s:Ty}{a b c:Tm}(hk:CX k=some 3)(ht:xx k=true)(hs:s.ok=true)(ha:a.shape=true)(hb:b.shape=true)(hc:c.shape=true):(hT k s [a,b,c]).shape=true:=Vk hk ht hs (by simp[ha,hb,hc])
theorem Mk.shape{n:Nat}{g:List Ty}{t:Ty}{x:Tm}(h:Mk n g t x)(hg:Am g)(ht:t.small):x.shape=true:=by
 have ok:∀{t:Ty},t.small->t.ok=true:=fun h=>JA h.1 (by have:=h.2;omega);refine Mk.ind (P:=fun n g t x=>x.shape=true) ?_ ?_ ?_ ?_ ?_ ?_ ?_ ?_ ?_ ?_ ?_ ?_ ?_ ?_ ?_ ?_ h hg ht
 .intro n g t i hi h _ _;exact KZ _ (by omega)
 .intro n g t s a b _ hs h1 _ ht ha hb;exact x8 (k:=3) rfl rfl (HK (ok (zw hs h1)) ha) hb
 .intro n g t s a b _ hs h1 _ ht ha hb;exact PL rfl rfl (x8 rfl rfl ha hb)
 .intro n g t s a b _ hs h1 _ ht ha hb;exact PL rfl rfl (x8 rfl rfl ha hb)
 .intro n g t a b m _ _ _ ht ha hb;exact US rfl rfl (ok ht) hb (HK rfl (HK (ok ht) ha)) (PO m)
 .intro n g t a b c _ _ ht ha hb hc;exact US rfl rfl (ok ht) hb (HK rfl (HK rfl (HK (ok ht) ha))) hc
 .intro n g t s a i _ hi h _ _ _ _ ha;exact x8 (k:=3) rfl rfl (KZ _ (by omega)) ha
 .intro n g a _ _ ha;exact PL (k:=5) rfl rfl ha
 .intro n g a b _ _ ha hb;exact x8 (k:=3) rfl rfl (x8 (k:=3) rfl rfl rfl ha) hb
 .intro n g a b _ _ ha hb;exact x8 (k:=3) rfl rfl (x8 (k:=3) rfl rfl rfl ha) hb
 .intro n g m _ _;exact PO m
 .intro n g a b _ _ ha hb;exact x8 rfl rfl ha hb
 .intro n g _;rfl
 .intro n g s t a b hs ht h1 h2 _ _ ha hb;exact x8 rfl rfl ha hb
 .intro n g s t a hs ht h1 h2 _ _ ha;exact HK (ok (zw hs h1)) ha
 .intro n g _;rfl
def s1:Nat->Nat
 |0=>3|1=>3|2=>3|3=>24|n+4=>3*s1 (n+3)+4
def s3:Nat->Nat
 |0=>7|1=>7|2=>7|3=>24|n+4=>3*s1 (n+3)+4
theorem PY:∀n,3<=n->24<=s1 n
 |0,h=>by omega
 |1,h=>by omega
 |2,h=>by omega
 |3,_=>by decide
 |n+4,_=>by have:=PY (n+3) (by omega);simp only[s1];omega
theorem R7:∀n,3<=n->s3 n=s1 n
 |0,h=>by omega
 |1,h=>by omega
 |2,h=>by omega
 |3,_=>rfl
 |n+4,_=>rfl
theorem Gu(n:Nat)(hn:2<=n):3*s1 n+4<=s1 (n+1)/\2*s1 n+18<=s1 (n+1)/\2*s3 n+s1 n+4<=s3 (n+1)/\s1 (n+1)<=s3 (n+1)/\3<=s1 n/\s1 n<=s3 n/\2*s3 n+6<=s3 (n+1)/\s3 n+s1 n+2<=s3 (n+1):=by
 match n,hn with
 |2,_=>decide
 |n+3,_=>
  have h1:=PY (n+3) (by omega);have h2:=R7 (n+3) (by omega);have h3:s1 (n+3+1)=3*s1 (n+3)+4:=rfl;have h4:s3 (n+3+1)=3*s1 (n+3)+4:=rfl;omega
theorem Lf(n:Nat):3<=s1 n/\s1 n<=s3 n/\7<=s3 n:=by
 match n with
 |0=>decide
 |1=>decide
 |2=>decide
 |n+3=>have h1:=PY (n+3) (by omega);have h2:=R7 (n+3) (by omega);omega
theorem VC(n:Nat)(hn:1<=n):2*s1 n+1<=s3 (n+1):=by
 match n,hn with
 |1,_=>decide
 |n+2,_=>have:=Gu (n+2) (by omega);have:=Lf (n+2);omega
theorem PA:∀m,(Er m).size=m+1
 |0=>rfl
 |m+1=>by simp[Er,Tm.size,Tm.sizes,PA m];omega
theorem Mk.size{n:Nat}{g:List Ty}{t:Ty}{x:Tm}(h:Mk n g t x)(hg:Am g)(ht:t.small):x.size<=s3 n/\(t.size=1->x.size<=s1 n):=by
 have e1:Ag.size=1:=rfl;have e2:An.size=1:=rfl;refine Mk.ind (P:=fun n g t x=>x.size<=s3 n/\(t.size=1->x.size<=s1 n)) ?_ ?_ ?_ ?_ ?_ ?_ ?_ ?_ ?_ ?_ ?_ ?_ ?_ ?_ ?_ ?_ h hg ht
 .intro n g t i hi h _ _;have:=Lf (n+1);simp[vT,Tm.size,Tm.sizes];omega
 .intro n g t s a b hn hs h1 _ ht ha hb;have:=Gu n hn;have:=hb.2 h1;simp[A0,B1,Tm.size,Tm.sizes];omega
 .intro n g t s a b hn hs h1 _ ht ha hb;have:=Gu n hn;have:=hb.2 h1;simp[nT,Tm.size,Tm.sizes];omega
 .intro n g t s a b hn hs h1 _ ht ha hb;have:=Gu n hn;have:=ha.2 h1;simp[nT,Tm.size,Tm.sizes];omega
 .intro n g t a b m hn hm _ ht ha hb;have:=Gu n hn;simp[hT,B1,Tm.size,Tm.sizes,PA];omega
 .intro n g t a b c hn _ ht ha hb hc;have:=Gu n hn;have:=hc.2 e2;simp[hT,B1,Tm.size,Tm.sizes];omega
 .intro n g t s a i hn hi h _ h1 _ _ ha;have:=Gu n hn;have:=ha.2 h1;simp[A0,vT,Tm.size,Tm.sizes];omega
 .intro n g a hn _ ha;have:=Gu n hn;have:=ha.2 e1;simp[sT,Tm.size,Tm.sizes];omega
 .intro n g a b hn _ ha hb;have:=Gu n hn;have:=ha.2 e1;have:=hb.2 e1;have:Cr.size=9:=rfl;simp[A0,Tm.size,Tm.sizes];omega
 .intro n g a b hn _ ha hb;have:=Gu n hn;have:=ha.2 e1;have:=hb.2 e1;have:D3.size=16:=rfl;simp[A0,Tm.size,Tm.sizes];omega
 .intro n g m hm _;have:=Lf (n+1);rw[PA];omega
 .intro n g a b hn _ ha hb;have:=Gu n hn;have:=ha.2 e1;have:=hb.2 e2;simp[nT,Tm.size,Tm.sizes];omega
 .intro n g _;have:=Lf (n+1);simp[nT,Tm.size,Tm.sizes];omega
 .intro n g s t a b hs ht h1 h2 hn _ ha hb;have:=VC n hn;have:=ha.2 h1;have:=hb.2 h2;rw[Hz];simp[nT,Tm.size,Tm.sizes];omega
 .intro n g s t a hs ht h1 h2 hn _ ha;have:=VC n hn;have:=ha.2 h2;rw[ws];simp[B1,Tm.size,Tm.sizes];omega
 .intro n g _;have:=Lf (n+1);simp[nT,Tm.size,Tm.sizes];omega
def c1:Nat->Nat
 |0=>1|1=>1|2=>1|n+3=>3*c1 (n+2)
def c3:Nat->Nat
 |0=>1|1=>1|2=>2|n+3=>2*c3 (n+2)+c1 (n+2)
theorem Zzu(at_ b k i:Int)(h:Ty)(xs:List Tm)(hk:k≠1):cnt at_ ((Tm.mk k i h xs).vars b)=(xs.map fun x=>cnt at_ (x.vars (up k b))).sum:=by
 rw[Tm.AP];simp only[Tm.Ai,Tm.Ae,hk,if_false,WW];induction xs with
 |nil=>rfl
 |cons x l ih=>simp only[WO,vu,Wn,Wt,ih]
theorem Ly(t:Tm):∀(g:List Ty) (b:Int) (B:Int),(t.inf g).2=0->t.shape=true->(g.length:Int)+t.size<=B->∀p∈t.vars b,p.1<B:=by
 induction t using Tm.ind with
 |h t ih=>
  intro g b B h hs hB p hp;rw[Tm.A1] at h;have hsz:=t.size_eq;rw[t.AP,WH] at hp;by_cases h1:t.kind=1
  .have hargs:t.args=[]:=by
    have:=HW hs;rw[h1] at this;exact WB (W6 this).symm
   rw[if_pos h1] at h hp;simp only[hargs,Y4,WS,or_false,WE,or_false] at hp;subst hp;by_cases h2:t.index>=(g.length:Int)
   .rw[if_pos h2] at h;exact absurd h (by simp)
   .have:=t.size_pos;simp only;omega
  .rw[if_neg h1] at h hp;simp only[WS,false_or] at hp;obtain⟨x,hx,hp⟩:=WL.1 hp;have hxs:=za Tm.size hx;by_cases h2:t.kind=2
   .rw[if_pos h2] at h;by_cases h3:(Tm.AK (g++[t.ty]) t.args).2=0
    .exact ih x hx (g++[t.ty]) _ B (Tm.CJ _ _ h3 x hx) (zg hs x hx) (by simp;omega) p hp
    .rw[if_pos h3] at h;exact absurd h h3
   .rw[if_neg h2] at h;by_cases h3:(Tm.AK g t.args).2=0
    .exact ih x hx g _ B (Tm.CJ _ _ h3 x hx) (zg hs x hx) (by omega) p hp
    .rw[if_pos h3] at h;exact absurd h h3
theorem Fp{g:Int->Int->Tm}{b:Int}{t:Tm}(h:t.kind=1):t.re g b=g t.index b:=by rw[Tm.Bt,if_pos h]
theorem wu{g:Int->Int->Tm}{b:Int}{t:Tm}(h:t.kind≠1):t.re g b= .mk t.kind t.index t.ty (t.args.map (Tm.re g (up t.kind b))):=by rw[Tm.Bt,if_neg h]
theorem HS{t:Tm}(hs:t.shape=true)(h:t.kind=1):t.args=[]:=by
 have:=HW hs;rw[h] at this;exact WB (W6 this).symm
theorem vy{t:Tm}(hs:t.shape=true)(h:t.kind=1)(b:Int):t.vars b=[(t.index,b)]:=by rw[t.AP,if_pos h,HS hs h];rfl
theorem IW{t:Tm}(h:t.kind≠1)(b:Int):t.vars b=t.args.flatMap (Tm.vars (up t.kind b)):=by rw[t.AP,if_neg h];rfl
theorem LG{t:Tm}(h:t.kind≠1){b:Int}{x:Tm}(hx:x∈t.args){p:Int×Int}(hp:p∈x.vars (up t.kind b)):p∈t.vars b:=by
 rw[IW h];exact WL.2 ⟨x,hx,hp⟩
theorem TH(g:Int->Int->Tm)(t:Tm):∀b,t.shape=true->(∀p∈t.vars b,(g p.1 p.2).shape=true)->(t.re g b).shape=true:=by
 induction t using Tm.ind with
 |h t ih=>
  intro b hs hg;by_cases h1:t.kind=1
  .rw[Fp h1];exact hg (t.index,b) (by rw[vy hs h1];simp)
  .rw[wu h1];have hs0:=hs;rw[Tm.Al,Wk] at hs ⊢;refine⟨?_,?_⟩
   .have:=hs.1;simp only[Tm.head,Tm.Ai,Tm.Ae,Tm.AJ,Tm.AQ,Xt] at this ⊢;exact this
   .simp only[Tm.Ae];refine Wm.2 fun y hy=> ?_;obtain⟨x,hx,rfl⟩:=WA.1 hy;exact ih x hx _ (Wm.1 hs.2 x hx) fun p hp=>hg p (LG h1 hx hp)
theorem vx{fr by_:Int}{t:Tm}(b:Int)(hs:t.shape=true)(hb:0<=by_):(t.re (zx fr by_) b).shape=true:=
 TH _ t b hs fun p hp=>by
  have:=t.AE hs b p hp;simp only[zx];exact KZ _ (by split<;>omega)
theorem J3(fr by_:Int)(t:Tm):∀b,t.shape=true->(t.re (zx fr by_) b).size=t.size:=by
 induction t using Tm.ind with
 |h t ih=>
  intro b hs;by_cases h1:t.kind=1
  .rw[Fp h1,t.size_eq,HS hs h1];simp[zx,Tm.size,Tm.sizes]
  .rw[wu h1,t.size_eq,Tm.size_eq];simp only[Tm.Ae,Xq];congr 2;exact Xc fun x hx=>ih x hx _ (zg hs x hx)
theorem LH{at_:Int}{s t:Tm}(b:Int)(hs:s.shape=true)(ht:t.shape=true)(hb:0<=b)(ha:0<=at_)(hv:∀p∈t.vars b,0<=p.2):(t.re (y9 at_ s) b).shape=true:=
 TH _ t b ht fun p hp=>by
  have:=t.AE ht b p hp;have:=hv p hp;simp only[y9];split
  .exact vx 0 hs (by omega)
  .exact KZ _ (by split<;>omega)
theorem HO(t:Tm):∀b:Int,∀p∈t.vars b,b<=p.2:=by
 induction t using Tm.ind with
 |h t ih=>
  intro b p hp;rw[t.AP,WH] at hp;rcases hp with hp|hp
  .split at hp
   .simp at hp;subst hp;exact Zk _
   .cases hp
  .obtain ⟨x,hx,hp⟩:=WL.1 hp;have:=ih x hx _ p hp;have:b<=up t.kind b:=by simp only[up];split<;>omega
   omega
theorem J4(at_:Int)(s t:Tm)(hs:s.shape=true):∀b,t.shape=true->(t.re (y9 at_ s) b).size=t.size+cnt at_ (t.vars b)*(s.size-1):=by
 have hp:=s.size_pos;induction t using Tm.ind with
 |h t ih=>
  intro b ht;by_cases h1:t.kind=1
  .rw[Fp h1,vy ht h1,HP,t.size_eq,HS ht h1];simp only[y9];split
   .rw[J3 _ _ _ _ hs];simp;omega
   .simp[Tm.size,Tm.sizes]
  .rw[wu h1,t.size_eq,Tm.size_eq,IW h1];simp only[Tm.Ae,Xq];have:∀l:List Tm,(∀x∈l,x∈t.args)->(l.map (Tm.size∘Tm.re (y9 at_ s) (up t.kind b))).sum=(l.map Tm.size).sum+cnt at_ (l.flatMap (Tm.vars (up t.kind b)))*(s.size-1):=by
    intro l;induction l with
    |nil=>intro _;simp[cnt]
    |cons x l ihl=>
     intro hl;have h2:=ih x (hl x (by simp)) (up t.kind b) (zg ht x (hl x (by simp)));have h3:=ihl fun y hy=>hl y (by simp[hy]);simp only[Wn,Wt,WO,vu,XI,h2,h3,W9];omega
   rw[this t.args fun x hx=>hx];omega
theorem Ybn{g h:List Ty}{i:Nat}(hi:i<g.length):Bz (g++h) i=Bz g i:=by
 simp only[Bz,WJ,WC hi]
theorem Zwr{g h:List Ty}{i:Nat}(hi:g.length<=i):Bz (g++h) i=Bz h (i-g.length):=by
 simp only[Bz,WJ,WG hi]
theorem ww{g h:List Ty}{i:Nat}(hi:i<h.length):Ex (g++h) i=Ex h i:=by
 simp only[Ex,WD];rw[Zwr (by omega)];congr 1;omega
theorem Ja{g h:List Ty}{i:Nat}(hi:h.length<=i)(hl:i<(g++h).length):Ex (g++h) i=Ex g (i-h.length):=by
 simp only[Ex,WD] at hl ⊢;rw[Ybn (by omega)];congr 1;omega
theorem we(g:List Ty)(i:Int)(h0:0<=i):(vT i).inf g=if i>=(g.length:Int) then(BJ,6) else(Ex g i.toNat,0):=by
 rw[Tm.A1];rfl
theorem JB{t:Tm}(hs:t.shape=true)(h:t.kind=1):t=vT t.index:=by
 refine(Tm.eq_iff _ _).2 ⟨h,rfl,?_,HS hs h⟩;rw[Tm.Al,Wk] at hs;have h1:=hs.1;simp only[Tm.head,Wk,h] at h1;have h2:=h1.2;have:xx 1=false:=rfl;rw[this,cond_false] at h2;simp only[Ty.BL,Wk,beq_iff_eq] at h2;exact(Ty.eq_iff _ _).2 ⟨h2.1,WB h2.2⟩
theorem Uj{f:Tm->Tm}{g g':List Ty}:∀(l:List Tm),(∀x∈l,(f x).inf g'=x.inf g)->Tm.AK g' (l.map f)=Tm.AK g l:=by
 intro l;induction l with
 |nil=>intro _;rfl
 |cons x l ih=>
  intro h;simp only[Wn,Tm.AK,h x (by simp),ih fun y hy=>h y (by simp[hy])]
theorem VX(G:Int->Int->Tm)(t:Tm):∀(g g' h:List Ty) (b:Int),t.shape=true->
 (∀(i:Int) (h':List Ty) (b':Int),0<=i->(b'-b=h'.length-h.length)->h.length<=h'.length->(∃e,h'=h++e)->(G i b').inf (g'++h')=(vT i).inf (g++h'))->
 (t.re G b).inf (g'++h)=t.inf (g++h):=by
 induction t using Tm.ind with
 |h t ih=>
  intro g g' h b hs hG;by_cases h1:t.kind=1
  .rw[Fp h1];have:=hG t.index h b (NT hs).1 (by omega) (by omega) ⟨[],by simp⟩;rw[this,<-JB hs h1]
  .rw[wu h1,Tm.A1,Tm.A1 (t:=t)];simp only[Tm.Ai,Tm.AQ,Tm.Ae,h1,if_false];by_cases h2:t.kind=2
   .have e:up t.kind b=b+1:=if_pos h2;have:Tm.AK (g'++h++[t.ty]) (t.args.map (Tm.re G (up t.kind b)))=Tm.AK (g++h++[t.ty]) t.args:=by
     refine Uj t.args fun x hx=> ?_;rw[Wr,Wr];refine ih x hx g g' (h++[t.ty]) _ (zg hs x hx) fun i h' b' hi hb hl he=>hG i h' b' hi ?_ ?_ ?_
     .rw[e] at hb;simp at hb;omega
     .simp at hl;omega
     .obtain ⟨e',he'⟩:=he;exact⟨[t.ty]++e',by rw[he',Wr]⟩
    simp only[h2,if_true,this];rw[<-h2,this]
   .have e:up t.kind b=b:=if_neg h2;have:Tm.AK (g'++h) (t.args.map (Tm.re G (up t.kind b)))=Tm.AK (g++h) t.args:=Uj t.args fun x hx=>ih x hx g g' h _ (zg hs x hx) (by rw[e];exact hG);simp only[h2,if_false,this]
theorem Og(t:Tm)(g m h:List Ty)(fr b:Int)(hs:t.shape=true)(hh:(h.length:Int)=fr+b):(t.re (zx fr m.length) b).inf (g++m++h)=t.inf (g++h):=by
 refine VX _ t g (g++m) h b hs fun i h' b' hi hb hl _=> ?_;have hlen:(h'.length:Int)=fr+b':=by omega
 show(vT (if i-b'>=fr then i+m.length else i)).inf _=_;by_cases hc:i-b'>=fr
 .rw[if_pos hc,we _ _ (by omega),we _ _ hi];simp only[WD];by_cases hr:i>=((g.length+h'.length:Nat):Int)
  .rw[if_pos (by omega),if_pos hr]
  .rw[if_neg (by omega),if_neg hr];have e1:(i+(m.length:Int)).toNat=i.toNat+m.length:=by omega
   rw[Ja (by omega) (by simp;omega),Ja (by omega) (by simp;omega),Ja (by omega) (by simp;omega)];congr 2;omega
 .rw[if_neg hc,we _ _ hi,we _ _ hi];simp only[WD];rw[if_neg (by omega),if_neg (by omega),ww (by omega),ww (by omega)]
theorem RH(t s:Tm)(g h:List Ty)(σ:Ty)(at_ b:Int)(ht:t.shape=true)(hs:s.shape=true)(hh:(h.length:Int)=at_+b)(hσ:s.inf g=(σ,0)):(t.re (y9 at_ s) b).inf (g++h)=t.inf (g++[σ]++h):=by
 refine VX _ t (g++[σ]) g h b ht fun i h' b' hi hb hl _=> ?_;have hlen:(h'.length:Int)=at_+b':=by omega
 simp only[y9];by_cases hc:i-b'=at_
 .rw[if_pos hc];have e:=Og s g h' [] 0 0 hs rfl;simp only[WR] at e;rw[<-hlen,e,hσ,we _ _ hi];simp only[WD,Wy,W3];rw[if_neg (by omega),Ja (by omega) (by simp;omega)];rw[show i.toNat-h'.length=0 by omega,OQ]
 .rw[if_neg hc];by_cases hg:i-b'>at_
  .rw[if_pos hg];show(vT (i-1)).inf _=_;rw[we _ _ (by omega),we _ _ hi];simp only[WD,Wy,W3];by_cases hr:i>=((g.length+(0+1)+h'.length:Nat):Int)
   .rw[if_pos (by omega),if_pos hr]
   .rw[if_neg (by omega),if_neg hr,Ja (by omega) (by simp;omega),Ja (by omega) (by simp;omega)];obtain⟨k,hk⟩:∃k,i.toNat-h'.length=k+1:=⟨i.toNat-h'.length-1,by omega⟩;rw[hk,SD g σ k (by omega)];congr 2;omega
  .rw[if_neg hg];show(vT i).inf _=_;rw[we _ _ hi,we _ _ hi];simp only[WD,Wy,W3];rw[if_neg (by omega),if_neg (by omega),ww (by omega),ww (by omega)]
theorem KR{t:Tm}{g:List Ty}(h:(t.inf g).2=0)(hs:t.shape=true)(hb:g.length+t.size<=536870912):t.near=true:=
 Wm.2 fun p hp=>by
  have:=Ly t g 0 536870912 h hs (by omega) p hp;simp;omega
theorem Tm.Ad(t:Tm):t.err=0↔t.shape=true/\t.size<=4096:=by
 simp only[Tm.err];cases t.shape
 .simp
 .by_cases h:t.size>4096
  .simp[h]
  .simp[h];omega
theorem I2(fr by_:Int)(t:Tm):∀b,t.shape=true->(t.re (zx fr by_) b).full=t.full:=by
 induction t using Tm.ind with
 |h t ih=>
  intro b hs;by_cases h1:t.kind=1
  .rw[Fp h1]
   conv=>rhs;rw[JB hs h1]
   simp[zx,vT,Tm.full,Tm.Au]
  .rw[wu h1,t.Af,Tm.Af];simp only[Tm.Ae,Tm.AQ,Xq];congr 2;exact Xc fun x hx=>ih x hx _ (zg hs x hx)
theorem Zzg(at_:Int)(s t:Tm)(hs:s.shape=true):∀b,t.shape=true->(t.re (y9 at_ s) b).full<=t.full+cnt at_ (t.vars b)*s.full:=by
 induction t using Tm.ind with
 |h t ih=>
  intro b ht;by_cases h1:t.kind=1
  .rw[Fp h1,vy ht h1,HP];have e:t.full=2:=by rw[JB ht h1];rfl
   simp only[y9];split
   .rw[I2 _ _ _ _ hs];omega
   .rw[e];simp[Tm.full,Tm.Au,Ty.size,Ty.sizes]
  .rw[wu h1,t.Af,Tm.Af,IW h1];simp only[Tm.Ae,Tm.AQ,Xq];have:∀l:List Tm,(∀x∈l,x∈t.args)->(l.map (Tm.full∘Tm.re (y9 at_ s) (up t.kind b))).sum<=(l.map Tm.full).sum+cnt at_ (l.flatMap (Tm.vars (up t.kind b)))*s.full:=by
    intro l;induction l with
    |nil=>intro _;simp
    |cons x l ihl=>
     intro hl;have h2:=ih x (hl x (by simp)) (up t.kind b) (zg ht x (hl x (by simp)));have h3:=ihl fun y hy=>hl y (by simp[hy]);simp only[Wn,Wt,WO,vu,XI,W9];omega
   have:=this t.args fun x hx=>hx;omega
theorem Dk.type1(d:Dk):(d.type 1).1.small:=by
 have e:=Dk.En 1 d;rw[show(1:Int).toNat=1 from rfl,show((1:Int)-1).toNat=0 from rfl] at e;have h1:=Dk.type0 (d.next 7).2;have h2:=Dk.type0 ((d.next 7).2.type 0).2;rw[e];generalize ((d.next 7).2.type 0).1=a at*;generalize (((d.next 7).2.type 0).2.type 0).1=b at*;split
 .split
  .exact ⟨O0 h1.1 h2.1,show(CC a b).size<=3 by rw[Hz];omega⟩
  .exact ⟨Iv h1.1 h2.1,show(yv a b).size<=3 by rw[ws];omega⟩
 .split
  .exact ⟨rfl,show(Ty.mk 2 []).size<=3 by decide⟩
  .split
   .exact ⟨rfl,show(Ty.mk 5 []).size<=3 by decide⟩
   .exact ⟨rfl,show(Ty.mk 1 []).size<=3 by decide⟩
theorem Dk.Dc:∀(n:Nat) (d:Dk),Am (d.types n).1
 |0,d=>zn
 |n+1,d=>zi (Dk.type1 d) (Dk.Dc n _)
theorem Dk.Cy(d:Dk):Am d.ctx.1:=Dk.Dc _ _
theorem Dk.FE(d:Dk):d.ctx.1.length<=3:=by
 have:=Dk.Bv d 4 (by omega);simp only[Dk.ctx,Dk.Dh];omega
theorem Dk.Fj{d:Dk}(h:d.ok):d.ctx.2.ok:=Dk.DH _ _ (Dk.AH h 4)
def Ec(g:List Ty)(t:Tm):Ty×Int:=if t.err≠0 then(BJ,t.err) else t.inf g
def yz(g:List Ty)(t:Tm):Ty×Int:=if xd g≠0 then(BJ,xd g) else Ec g t
theorem Zub{g:List Ty}(h:Am g)(hl:g.length<=16):xd g=0:=by
 unfold xd;rw[if_neg (by omega)];exact UH g fun j hj _=>wn (h _ (Wi hj))
theorem SG:∀{g:List Ty},vh g=0->∀x∈g,x.err=0
 |[],_,x,hx=>by cases hx
 |t::l,h,x,hx=>by
  simp only[vh] at h;by_cases h1:t.err=0
  .simp only[h1,ne_eq,not_true_eq_false,if_false] at h;rcases WE.1 hx with rfl|hx
   .exact h1
   .exact SG h x hx
  .rw[if_pos h1] at h;exact absurd h h1
theorem vr{g:List Ty}(h:xd g=0):g.length<=16/\∀x∈g,x.err=0:=by
 unfold xd at h;by_cases h1:g.length>16
 .rw[if_pos h1] at h;exact absurd h (by decide)
 .rw[if_neg h1] at h;exact⟨by omega,SG h⟩
theorem Mk.err{n:Nat}{g:List Ty}{t:Ty}{x:Tm}(h:Mk n g t x)(hg:Am g)(ht:t.small)(hn:n<=5):x.err=0:=by
 refine(Tm.Ad x).2 ⟨h.shape hg ht,?_⟩;have:=(h.size hg ht).1;have:s3 n<=232:=by
  match n,hn with
  |0,_=>decide
  |1,_=>decide
  |2,_=>decide
  |3,_=>decide
  |4,_=>decide
  |5,_=>decide
 omega
theorem Mk.E7{n:Nat}{g:List Ty}{t:Ty}{x:Tm}(h:Mk n g t x)(hg:Am g)(ht:t.small)(hn:n<=5):x.size<=232:=by
 have:=(h.size hg ht).1;have:s3 n<=232:=by
  match n,hn with
  |0,_=>decide
  |1,_=>decide
  |2,_=>decide
  |3,_=>decide
  |4,_=>decide
  |5,_=>decide
 omega
theorem Mk.near{n:Nat}{g:List Ty}{t:Ty}{x:Tm}(h:Mk n g t x)(hg:Am g)(ht:t.small)(hn:n<=5)(hl:g.length<=100000):x.near=true:=
 KR (by rw[h.inf hg ht]) (h.shape hg ht) (by have:=h.E7 hg ht hn;omega)
theorem Yac{t:Ty}(h:t.small):t.ok=true:=JA h.1 (by have:=h.2;omega)
mutual
def Ey:Ty->Tm
 | .mk k l=>if k=2 then nT 7 [] else if k=5 then nT 13 [] else if k=3 then nT 10 (Ll l) else if k=4 then B1 (Bz l 0) ((Ll l).getD 1 A4) else nT 4 []
def Ll:List Ty->List Tm
 |[]=>[]
 |t::l=>Ey t::Ll l
end
theorem Yc1(a b:Ty):Ey (CC a b)=nT 10 [Ey a,Ey b]:=by simp[CC,Ey,Ll]
theorem Ydg(a b:Ty):Ey (yv a b)=B1 a (Ey b):=by simp[yv,Ey,Ll,Bz]
theorem Zuk(t:Ty):t.shape=true->t.size<=64->(∀g,(Ey t).inf g=(t,0))/\(Ey t).shape=true/\(Ey t).size<=t.size/\(Ey t).full<=66*t.size:=by
 induction t using Ty.ind with
 |h t ih=>
  intro hs h64;rcases Sv hs with rfl|rfl|rfl|⟨a,b,ha,hb,rfl|rfl⟩
  .exact ⟨fun g=>Q4 g,by decide,by decide,by decide⟩
  .exact ⟨fun g=>by simp[Ey,An,nT,Tm.inf,Tm.AK,vo],by decide,by decide,by decide⟩
  .exact ⟨fun g=>by simp[Ey,Hf,nT,Tm.inf,Tm.AK,vo],by decide,by decide,by decide⟩
  .rw[Hz] at h64 ⊢;rw[Yc1];obtain⟨a1,a2,a3,a4⟩:=ih a (by simp) ha (by omega);obtain⟨b1,b2,b3,b4⟩:=ih b (by simp) hb (by omega);refine⟨fun g=>MP (a1 g) (b1 g) ((Ty.Ad _).2 ⟨O0 ha hb,by rw[Hz];omega⟩),x8 rfl rfl a2 b2,?_,?_⟩
   .simp only[nT,Tm.size,Tm.sizes];omega
   .simp only[nT,Tm.full,Tm.Au,Ty.size,Ty.sizes];omega
  .rw[ws] at h64 ⊢;rw[Ydg];obtain⟨b1,b2,b3,b4⟩:=ih b (by simp) hb (by omega);have hp:=a.size_pos;refine⟨fun g=>xq (b1 _) ((Ty.Ad _).2 ⟨Iv ha hb,by rw[ws];omega⟩),HK (JA ha (by omega)) b2,?_,?_⟩
   .simp only[B1,Tm.size,Tm.sizes];omega
   .simp only[B1,Tm.full,Tm.Au];omega
@[simp] theorem Fm.Ai(k:Int)(h:Ty)(ts:List Tm)(as:List Fm):(Fm.mk k h ts as).kind=k:=rfl
@[simp] theorem Fm.AQ(k:Int)(h:Ty)(ts:List Tm)(as:List Fm):(Fm.mk k h ts as).ty=h:=rfl
@[simp] theorem Fm.Ah(k:Int)(h:Ty)(ts:List Tm)(as:List Fm):(Fm.mk k h ts as).terms=ts:=rfl
@[simp] theorem Fm.Ae(k:Int)(h:Ty)(ts:List Tm)(as:List Fm):(Fm.mk k h ts as).args=as:=rfl
def xg(k:Int):Bool:=decide (4<=k)&&decide (k<=7)
def Fm.head(f:Fm):Bool:=
 if f.kind=1 then f.ty.BL&&f.terms.length==2&&f.args.length==0
 else if f.kind=2\/f.kind=3 then f.ty.BL&&f.terms.length==0&&f.args.length==2
 else if f.kind=4\/f.kind=5\/f.kind=6\/f.kind=7 then f.ty.ok&&f.terms.length==0&&f.args.length==1 else false
mutual
def Fm.shape:Fm->Bool
 | .mk k h ts as=>Fm.head (.mk k h ts as)&&ts.all Tm.shape&&Fm.Bc as
def Fm.Bc:List Fm->Bool
 |[]=>true
 |f::l=>f.shape&&Fm.Bc l
end
mutual
def Fm.size:Fm->Nat
 | .mk _ _ ts as=>1+(ts.map Tm.size).sum+Fm.sizes as
def Fm.sizes:List Fm->Nat
 |[]=>0
 |f::l=>f.size+Fm.sizes l
end
mutual
def Fm.full:Fm->Nat
 | .mk _ h ts as=>1+h.size+(ts.map Tm.full).sum+Fm.Au as
def Fm.Au:List Fm->Nat
 |[]=>0
 |f::l=>f.full+Fm.Au l
end
theorem Fm.Bq:∀l:List Fm,Fm.Bc l=l.all Fm.shape
 |[]=>rfl
 |f::l=>by rw[Fm.Bc,Fm.Bq l];rfl
theorem Fm.BF:∀l:List Fm,Fm.sizes l=(l.map Fm.size).sum
 |[]=>rfl
 |f::l=>by rw[Fm.sizes,Fm.BF l];rfl
theorem Fm.B3:∀l:List Fm,Fm.Au l=(l.map Fm.full).sum
 |[]=>rfl
 |f::l=>by rw[Fm.Au,Fm.B3 l];rfl
theorem Fm.Al(f:Fm):f.shape=(f.head&&f.terms.all Tm.shape&&f.args.all Fm.shape):=by cases f;simp only[Fm.shape,Fm.Bq];rfl
theorem Fm.size_eq(f:Fm):f.size=1+(f.terms.map Tm.size).sum+(f.args.map Fm.size).sum:=by cases f;simp only[Fm.size,Fm.BF];rfl
theorem Fm.Af(f:Fm):f.full=1+f.ty.size+(f.terms.map Tm.full).sum+(f.args.map Fm.full).sum:=by cases f;simp only[Fm.full,Fm.B3];rfl
theorem Fm.Aa(f:Fm):1<=f.full:=by rw[Fm.Af];omega
theorem Fm.size_pos(f:Fm):1<=f.size:=by rw[Fm.size_eq];omega
theorem Fm.ind{P:Fm->Prop}(h:∀f,(∀x∈f.args,P x)->P f)(f:Fm):P f:=by
 have:∀n,∀f:Fm,f.full<=n->P f:=by
  intro n;induction n with
  |zero=>intro f h;have:=f.Aa;omega
  |succ n ih=>
   intro f hf;refine h f fun x hx=>ih x ?_;have:=za Fm.full hx;have:=f.Af;omega
 exact this _ f (Wj _)
theorem Fm.Aj(f:Fm):f.size<=f.full:=by
 induction f using Fm.ind with
 |h f ih=>
  rw[f.size_eq,f.Af];have h1:=yw (f:=Fm.size) (g:=Fm.full) f.args ih;have h2:=yw (f:=Tm.size) (g:=Tm.full) f.terms fun x _=>x.Aj;omega
def Fm.nodes(f:Fm):Nat:=if f.shape then f.size else 0
def Fm.err(f:Fm):Int:=if f.shape=false then 2 else if f.size>4096 then 4 else 0
def Fm.num(f:Fm):Int:=if f.err=0 then f.size else 0
def A7:Fm:= .mk 0 (.mk 0 []) [] []
def Bf(a b:Tm):Fm:= .mk 1 (.mk 0 []) [a,b] []
theorem IU{a b:Tm}(ha:a.shape=true)(hb:b.shape=true):(Bf a b).shape=true:=by
 rw[Fm.Al];simp[Bf,Fm.head,ha,hb,Ty.BL]
theorem H6(a b:Tm):(Bf a b).size=1+(a.size+b.size):=by rw[Fm.size_eq];simp[Bf]
theorem Fm.Ad(f:Fm):f.err=0↔f.shape=true/\f.size<=4096:=by
 unfold Fm.err;cases hs:f.shape with
 |false=>simp
 |true=>
  by_cases h:f.size>4096
  .rw[if_neg (by simp),if_pos h];constructor
   .intro h;cases h
   .rintro ⟨_,h2⟩;omega
  .rw[if_neg (by simp),if_neg h];exact⟨fun _=>⟨rfl,by omega⟩,fun _=>rfl⟩
def Tm.arg(t:Tm)(i:Nat):Tm:=t.args.getD i A4
mutual
def yt(at_:Int):Tm->Nat
 | .mk k i h xs=>if k=1/\i=at_ then 1 else M9 (up k at_) xs
def M9(at_:Int):List Tm->Nat
 |[]=>0
 |x::l=>yt at_ x+M9 at_ l
end
theorem Rr(at_:Int):∀l:List Tm,M9 at_ l=(l.map (yt at_)).sum
 |[]=>rfl
 |x::l=>by rw[M9,Rr at_ l];rfl
theorem MC(at_:Int)(t:Tm):yt at_ t=if t.kind=1/\t.index=at_ then 1 else(t.args.map (yt (up t.kind at_))).sum:=by
 cases t;simp only[yt,Rr,Tm.Ai,Tm.AJ,Tm.Ae];rfl
theorem Ka(t:Tm):∀at_,yt at_ t<=t.size:=by
 induction t using Tm.ind with
 |h t ih=>
  intro at_;rw[MC,t.size_eq];split
  .omega
  .have:=yw (f:=yt (up t.kind at_)) (g:=Tm.size) t.args fun x hx=>ih x hx _;omega
theorem Qj(t:Tm):∀at_ b:Int,t.shape=true->yt (at_+b) t=cnt at_ (t.vars b):=by
 induction t using Tm.ind with
 |h t ih=>
  intro at_ b hs;rw[MC];by_cases h1:t.kind=1
  .rw[vy hs h1,HP,HS hs h1];by_cases h:t.index=at_+b
   .rw[if_pos ⟨h1,h⟩,if_pos (by show t.index-b=at_;omega)]
   .rw[if_neg (fun hh=>h hh.2),if_neg (by show ¬t.index-b=at_;omega)];rfl
  .rw[if_neg (fun hh=>h1 hh.1)];have hargs:=zg hs;obtain⟨k,i,th,xs⟩:=t;rw[Zzu at_ b k i th xs h1];have e:up k (at_+b)=at_+up k b:=by unfold up;split<;>omega
   simp only[Tm.Ai,Tm.Ae] at*;rw[e];congr 1;exact Xc fun x hx=>ih x hx at_ (up k b) (hargs x hx)
def Ygh(t:Tm):Bool:=
 if t.kind=3 then(t.arg 0).kind==2&&((t.arg 1).args.length==0||decide (yt 0 ((t.arg 0).arg 0)<=1))
 else if t.kind=6 then(t.arg 2).kind==4
 else if t.kind=9 then(t.arg 2).kind==7
 else if t.kind=11\/t.kind=12 then(t.arg 0).kind==10 else false
def Yfa(t:Tm):Tm:=
 if t.kind=3 then((t.arg 0).arg 0).re (y9 0 (t.arg 1)) 0
 else if t.kind=11 then(t.arg 0).arg 0 else if t.kind=12 then(t.arg 0).arg 1 else t.arg 0
mutual
def OB:Tm->Option Tm
 | .mk k i h xs=>if Ygh (.mk k i h xs)=true then some (Yfa (.mk k i h xs)) else(Sj xs).map (Tm.mk k i h)
def Sj:List Tm->Option (List Tm)
 |[]=>none
 |x::l=>match OB x with
  |some u=>some (u::l)
  |none=>(Sj l).map (x::·)
end
theorem Jf{t:Tm}{g:List Ty}{T:Ty}(h1:t.kind≠1)(h2:t.kind≠2)(h:t.inf g=(T,0)):(∀x∈t.args,(x.inf g).2=0)/\vo t.kind t.ty (t.args.map fun x=>(x.inf g).1)=(T,0):=by
 rw[Tm.A1,if_neg h1,if_neg h2] at h;by_cases h3:(Tm.AK g t.args).2=0
 .rw[if_neg (by simpa using h3)] at h;have h4:=Tm.CJ g t.args h3;refine⟨h4,?_⟩;rw[Tm.Ep g t.args h4] at h;exact h
 .rw[if_pos h3] at h;exact absurd (congrArg Prod.snd h) h3
theorem Sw{i:Int}{th T:Ty}{b:Tm}{g:List Ty}(h:(Tm.mk 2 i th [b]).inf g=(T,0)):(b.inf (g++[th])).2=0/\T=yv th (b.inf (g++[th])).1:=by
 rw[Tm.A1,if_neg (by simp),if_pos (by simp)] at h;simp only[Tm.Ae,Tm.AQ] at h;by_cases h3:(b.inf (g++[th])).2=0
 .refine ⟨h3,?_⟩;simp only[Tm.AK,h3,ne_eq,not_true_eq_false,if_false] at h;unfold Bg at h;split at h
  .exact (congrArg Prod.fst h).symm
  .exact absurd (congrArg Prod.snd h) (by simp)
 .simp only[Tm.AK,h3,ne_eq,not_false_eq_true,if_true] at h;exact absurd (congrArg Prod.snd h) h3
theorem Ydu{a b T:Ty}(h:Bg (CC a b)=(T,0)):T=CC a b:=by
 unfold Bg at h;split at h
 .exact (congrArg Prod.fst h).symm
 .exact absurd (congrArg Prod.snd h) (by simp)
theorem Un{i:Int}{th T:Ty}{x y:Tm}{g:List Ty}(h:(Tm.mk 10 i th [x,y]).inf g=(T,0)):(x.inf g).2=0/\(y.inf g).2=0/\T=CC (x.inf g).1 (y.inf g).1:=by
 obtain⟨h1,h2⟩:=Jf (by simp) (by simp) h;exact⟨h1 x (by simp),h1 y (by simp),Ydu (by simpa[vo,Bz] using h2)⟩
theorem KI{t:Tm}(hs:t.shape=true){k:Int}(hk:t.kind=k)(ha:CX k=some 2):∃i th x y,t= .mk k i th [x,y]/\x.shape=true/\y.shape=true:=by
 have h:=HW hs;have h2:=zg hs;obtain⟨k',i,th,xs⟩:=t;simp only[Tm.Ai,Tm.Ae] at*;subst hk;rw[ha] at h;obtain⟨x,y,rfl⟩:=NK (W6 h).symm;exact⟨i,th,x,y,rfl,h2 x (by simp),h2 y (by simp)⟩
theorem I8{t:Tm}(hs:t.shape=true){k:Int}(hk:t.kind=k)(ha:CX k=some 1):∃i th x,t= .mk k i th [x]/\x.shape=true:=by
 have h:=HW hs;have h2:=zg hs;obtain⟨k',i,th,xs⟩:=t;simp only[Tm.Ai,Tm.Ae] at*;subst hk;rw[ha] at h;obtain⟨x,rfl⟩:=Qh (W6 h).symm;exact⟨i,th,x,rfl,h2 x (by simp)⟩
theorem Nq{t:Tm}(hs:t.shape=true){k:Int}(hk:t.kind=k)(ha:CX k=some 3):∃i th x y z,t= .mk k i th [x,y,z]/\x.shape=true/\y.shape=true/\z.shape=true:=by
 have h:=HW hs;have h2:=zg hs;obtain⟨k',i,th,xs⟩:=t;simp only[Tm.Ai,Tm.Ae] at*;subst hk;rw[ha] at h;obtain⟨x,y,z,rfl⟩:=Sf (W6 h).symm;exact⟨i,th,x,y,z,rfl,h2 x (by simp),h2 y (by simp),h2 z (by simp)⟩
theorem RT{α:Type}(f:α->Nat)(u:α):∀(xs:List α) (i:Nat) (hi:i<xs.length),((xs.set i u).map f).sum+f xs[i]=(xs.map f).sum+f u
 |[],i,hi=>by simp at hi
 |x::l,0,_=>by simp only[XV,Wn,Wt,Wu];omega
 |x::l,i+1,hi=>by
  have:=RT f u l i (by simpa using hi);simp only[YN,Wn,Wt,WM];omega
theorem Pt(g:List Ty)(u:Tm):∀(xs:List Tm) (i:Nat) (hi:i<xs.length),u.inf g=xs[i].inf g->Tm.AK g (xs.set i u)=Tm.AK g xs
 |[],i,hi,_=>by simp at hi
 |x::l,0,_,h=>by
  simp only[Wu] at h;simp only[XV,Tm.AK,h]
 |x::l,i+1,hi,h=>by
  simp only[YN,Tm.AK];rw[Pt g u l i (by simpa using hi) (by simpa using h)]
theorem Vd(i:Int)(th:Ty)(xs:List Tm)(g:List Ty):(Tm.mk 2 i th xs).inf g=if(Tm.AK (g++[th]) xs).2≠0 then(BJ,(Tm.AK (g++[th]) xs).2) else Bg (yv th (Bz (Tm.AK (g++[th]) xs).1 0)):=by
 rw[Tm.inf];rw[if_neg (by decide),if_pos rfl]
theorem Zt8{i:Int}{th:Ty}{v b:Tm}{g:List Ty}(hv:v.inf (g++[th])=b.inf (g++[th])):(Tm.mk 2 i th [v]).inf g=(Tm.mk 2 i th [b]).inf g:=by
 have e:Tm.AK (g++[th]) [v]=Tm.AK (g++[th]) [b]:=Pt (g++[th]) v [b] 0 (by simp) hv;rw[Vd,Vd,e]
theorem Zwp{k i:Int}{th:Ty}{xs:List Tm}{m:Nat}{u:Tm}(h:(Tm.mk k i th xs).shape=true)(hu:u.shape=true):(Tm.mk k i th (xs.set m u)).shape=true:=by
 have hargs:=zg h;rw[Tm.Al] at h ⊢;simp only[Wk] at h ⊢;refine⟨?_,?_⟩
 .have e:(Tm.mk k i th (xs.set m u)).head=(Tm.mk k i th xs).head:=by simp only[Tm.head,Tm.Ai,Tm.Ae,Tm.AJ,Tm.AQ];cases CX k<;>simp<;>rfl
  rw[e];exact h.1
 .refine Wm.2 fun x hx=> ?_;rcases YT hx with hx|rfl
  .exact hargs x hx
  .exact hu
theorem ym(t:Tm):t.shape=true->t.full<=65*t.size:=by
 induction t using Tm.ind with
 |h t ih=>
  intro hs;have hargs:=zg hs;have hty:t.ty.size<=64:=by
   rw[Tm.Al,Wk] at hs;have:=hs.1;simp only[Tm.head,Wk] at this;have h2:=this.2;cases hk:xx t.kind with
   |true=>rw[hk] at h2;simp only[cond_true,Ty.ok,Wk,decide_eq_true_eq] at h2;exact h2.2
   |false=>
    rw[hk] at h2;simp only[cond_false,Ty.BL,Wk,beq_iff_eq] at h2;rw[t.ty.size_eq,WB h2.2];exact W8 (Yu rfl) (by decide)
  have hsum:=yw (f:=Tm.full) (g:=fun x=>65*x.size) t.args fun x hx=>ih x hx (hargs x hx);have hmul:∀l:List Tm,(l.map fun x=>65*x.size).sum=65*(l.map Tm.size).sum:=by
   intro l;induction l with
   |nil=>rfl
   |cons x l ih=>simp only[Wn,Wt,ih];omega
  rw[hmul] at hsum;rw[t.Af,t.size_eq];omega
inductive QF:Tm->Tm->Nat->Prop
 |done {t:Tm} (h:OB t=none):QF t t 0
 |step {t u v:Tm} {n:Nat} (h:OB t=some u) (hr:QF u v n):QF t v (n+1)
def Cp(k:Int)(a b:Fm):Fm:= .mk k (.mk 0 []) [] [a,b]
def Br(k:Int)(s:Ty)(f:Fm):Fm:= .mk k s [] [f]
def Dk.Ip(d:Dk)(g:List Ty):Fm×Dk:=(Bf (Dk.tm 3 d g Ag).1 (Dk.tm 3 (Dk.tm 3 d g Ag).2 g Ag).1,(Dk.tm 3 (Dk.tm 3 d g Ag).2 g Ag).2)
def Dk.fm:Nat->Dk->List Ty->Fm×Dk
 |0,d,g=>d.Ip g
 |n+1,d,g=>
  if(d.next 9).1=0 then(Cp 2 (Dk.fm n (d.next 9).2 g).1 (Dk.fm n (Dk.fm n (d.next 9).2 g).2 g).1,(Dk.fm n (Dk.fm n (d.next 9).2 g).2 g).2)
  else if(d.next 9).1=1\/(d.next 9).1=2 then(Cp 3 (Dk.fm n (d.next 9).2 g).1 (Dk.fm n (Dk.fm n (d.next 9).2 g).2 g).1,(Dk.fm n (Dk.fm n (d.next 9).2 g).2 g).2)
  else if(d.next 9).1=3\/(d.next 9).1=4 then(Br 4 ((d.next 9).2.type 1).1 (Dk.fm n ((d.next 9).2.type 1).2 (g++[((d.next 9).2.type 1).1])).1,(Dk.fm n ((d.next 9).2.type 1).2 (g++[((d.next 9).2.type 1).1])).2)
  else if(d.next 9).1=5 then(Br 5 ((d.next 9).2.type 1).1 (Dk.fm n ((d.next 9).2.type 1).2 (g++[((d.next 9).2.type 1).1])).1,(Dk.fm n ((d.next 9).2.type 1).2 (g++[((d.next 9).2.type 1).1])).2)
  else if(d.next 9).1=6 then(Br (6+(((d.next 9).2.type 0).2.next 2).1) ((d.next 9).2.type 0).1 (Dk.fm n (((d.next 9).2.type 0).2.next 2).2 (g++[((d.next 9).2.type 0).1])).1,(Dk.fm n (((d.next 9).2.type 0).2.next 2).2 (g++[((d.next 9).2.type 0).1])).2)
  else(d.next 9).2.Ip g
theorem Dk.GI{d:Dk}{g:List Ty}(h:d.ok):(d.Ip g).2.ok:=Dk.CG 3 _ g Ag (Dk.CG 3 d g Ag h)
theorem Dk.EG:∀(n:Nat) (d:Dk) (g:List Ty),d.ok->(Dk.fm n d g).2.ok:=by
 intro n;induction n with
 |zero=>exact fun d g h=>Dk.GI h
 |succ n ih=>
  intro d g h;have h9:=Dk.AH h 9;simp only[Dk.fm];repeat' split
  .exact ih _ _ (ih _ _ h9)
  .exact ih _ _ (ih _ _ h9)
  .exact ih _ _ (Dk.Bu 1 _ h9)
  .exact ih _ _ (Dk.Bu 1 _ h9)
  .exact ih _ _ (Dk.AH (Dk.Bu 0 _ h9) 2)
  .exact Dk.GI h9
theorem Kx:s1 3<=60:=by decide
def DO(n:Nat)(f:Fm):Prop:=f.shape=true/\f.size+1<=122*2^n/\f.full+10<=1200*2^n
theorem Dk.EO(d:Dk){g:List Ty}(hg:Am g):DO 0 (d.Ip g).1:=by
 have m1:=Dk.CY 3 d g Ag hg zh (by omega) (by omega);have m2:=Dk.CY 3 (Dk.tm 3 d g Ag).2 g Ag hg zh (by omega) (by omega);have z1:=(m1.size hg zh).2 rfl;have z2:=(m2.size hg zh).2 rfl;have f1:=m1.full hg zh;have f2:=m2.full hg zh;have h3:=Kx;refine⟨IU (m1.shape hg zh) (m2.shape hg zh),?_,?_⟩
 .show (Bf _ _).size+1<=_;rw[H6];omega
 .show (Bf _ _).full+10<=_;rw[Fm.Af];simp only[Bf,Fm.AQ,Fm.Ah,Fm.Ae,Wn,WI,Wt,WU,Ty.size,Ty.sizes];omega
theorem VU{n:Nat}{k:Int}{a b:Fm}(hk:k=2\/k=3)(ha:DO n a)(hb:DO n b):DO (n+1) (Cp k a b):=by
 obtain⟨a1,a2,a3⟩:=ha;obtain⟨b1,b2,b3⟩:=hb;refine⟨?_,?_,?_⟩
 .rw[Fm.Al];rcases hk with rfl|rfl<;>simp[Cp,Fm.head,a1,b1,Ty.BL]
 .rw[Fm.size_eq,XS];simp only[Cp,Fm.Ah,Fm.Ae,Wn,WI,Wt,WU];omega
 .rw[Fm.Af,XS];have:1<=2^n:=X8;simp only[Cp,Fm.AQ,Fm.Ah,Fm.Ae,Wn,WI,Wt,WU,Ty.size,Ty.sizes];omega
theorem OY{n:Nat}{k:Int}{s:Ty}{f:Fm}(hk:4<=k/\k<=7)(hs:s.small)(hf:DO n f):DO (n+1) (Br k s f):=by
 obtain⟨a1,a2,a3⟩:=hf;have hz:=hs.2;have:1<=2^n:=X8;refine⟨?_,?_,?_⟩
 .rw[Fm.Al];have h4:k=4\/k=5\/k=6\/k=7:=by omega
  rcases h4 with rfl|rfl|rfl|rfl<;>simp[Br,Fm.head,a1,Yac hs]
 .rw[Fm.size_eq,XS];simp only[Br,Fm.Ah,Fm.Ae,Wn,WI,Wt,WU];omega
 .rw[Fm.Af,XS];simp only[Br,Fm.AQ,Fm.Ah,Fm.Ae,Wn,WI,Wt,WU];omega
theorem DO.up{n:Nat}{f:Fm}(h:DO 0 f):DO (n+1) f:=by
 obtain⟨a1,a2,a3⟩:=h;have:1<=2^(n+1):=X8;exact⟨a1,by omega,by omega⟩
theorem Dk.Eu:∀(n:Nat) (d:Dk) (g:List Ty),Am g->DO n (Dk.fm n d g).1:=by
 intro n;induction n with
 |zero=>exact fun d g hg=>Dk.EO d hg
 |succ n ih=>
  intro d g hg;have h2:=Dk.Bv (((d.next 9).2.type 0).2) 2 (by omega);have s1:=Dk.type1 (d.next 9).2;have s0:=Dk.type0 (d.next 9).2;have s0':=zw s0.1 s0.2;simp only[Dk.fm];repeat' split
  .exact VU (.inl rfl) (ih _ _ hg) (ih _ _ hg)
  .exact VU (.inr rfl) (ih _ _ hg) (ih _ _ hg)
  .exact OY ⟨by omega,by omega⟩ s1 (ih _ _ (zo hg (zi s1 zn)))
  .exact OY ⟨by omega,by omega⟩ s1 (ih _ _ (zo hg (zi s1 zn)))
  .exact OY ⟨by omega,by omega⟩ s0' (ih _ _ (zo hg (zi s0' zn)))
  .exact (Dk.EO _ hg).up
theorem Ty.DK{t:Ty}(h:t.BL=true):t= .mk 0 []:=by
 obtain⟨k,as⟩:=t;simp only[Ty.BL,Ty.kind,Ty.args,Wk,beq_iff_eq,XC] at h;rw[h.1,h.2]
def A3(k b:Int):Int:=if xg k=true then b+1 else b
mutual
def Fm.AZ(b:Int):Fm->List (Tm×Int)
 | .mk k _ ts as=>ts.map (fun t=>(t,b))++Fm.FW (A3 k b) as
def Fm.FW(b:Int):List Fm->List (Tm×Int)
 |[]=>[]
 |f::l=>f.AZ b++Fm.FW b l
end
mutual
def Fm.re(g:Int->Tm->Tm)(b:Int):Fm->Fm
 | .mk k h ts as=> .mk k h (ts.map (g b)) (Fm.res g (A3 k b) as)
def Fm.res(g:Int->Tm->Tm)(b:Int):List Fm->List Fm
 |[]=>[]
 |f::l=>f.re g b::Fm.res g b l
end
theorem Fm.Fw(b:Int):∀l:List Fm,Fm.FW b l=l.flatMap (Fm.AZ b)
 |[]=>rfl
 |f::l=>by rw[Fm.FW,Fm.Fw b l,WO]
theorem Fm.DG(g:Int->Tm->Tm)(b:Int):∀l:List Fm,Fm.res g b l=l.map (Fm.re g b)
 |[]=>rfl
 |f::l=>by rw[Fm.res,Fm.DG g b l,Wn]
theorem Fm.Ba(b:Int)(f:Fm):f.AZ b=f.terms.map (fun t=>(t,b))++f.args.flatMap (Fm.AZ (A3 f.kind b)):=by cases f;simp only[Fm.AZ,Fm.Fw];rfl
theorem Fm.Bt(g:Int->Tm->Tm)(b:Int)(f:Fm):f.re g b= .mk f.kind f.ty (f.terms.map (g b)) (f.args.map (Fm.re g (A3 f.kind b))):=by cases f;simp only[Fm.re,Fm.DG];rfl
def wr(at_:Int):List (Tm×Int)->Nat
 |[]=>0
 |p::l=>cnt (at_+p.2) (p.1.vars 0)+wr at_ l
theorem yr(at_:Int):∀l l':List (Tm×Int),wr at_ (l++l')=wr at_ l+wr at_ l'
 |[],l'=>by simp[wr]
 |p::l,l'=>by simp only[Xu,wr,yr at_ l l'];omega
theorem JZ(at_:Int):∀l:List (Tm×Int),wr at_ l<=(l.map fun p=>p.1.size).sum
 |[]=>Wj _
 |p::l=>by
  have h1:=JK (at_+p.2) (p.1.vars 0);have h2:=p.1.Ce 0;have h3:=JZ at_ l;simp only[wr,Wn,Wt];omega
theorem KF(f:Fm):∀b,((f.AZ b).map fun p=>p.1.size).sum+1<=f.size:=by
 induction f using Fm.ind with
 |h f ih=>
  intro b;rw[Fm.Ba,Fm.size_eq];have h1:∀l:List Fm,(∀x∈l,∀b,((x.AZ b).map fun p=>p.1.size).sum+1<=x.size)->((l.flatMap (Fm.AZ (A3 f.kind b))).map fun p=>p.1.size).sum<=(l.map Fm.size).sum:=by
   intro l;induction l with
   |nil=>intro _;simp
   |cons x l ih2=>
    intro h;have h2:=ih2 fun y hy=>h y (by simp[hy]);have h3:=h x (by simp) (A3 f.kind b);simp only[WO,Xv,XY,Wn,Wt];omega
  have h2:=h1 f.args ih;have h3:((f.terms.map fun t=>(t,b)).map fun p=>p.1.size)=f.terms.map Tm.size:=by simp[YX]
  rw[Xv,XY,h3];omega
theorem Yc0(f:Fm)(b:Int)(m:Nat):(((f.terms.take m).map fun t=>(t,b)).map fun p:Tm×Int=>p.1.size).sum<=f.size:=by
 have h1:=zm Tm.size f.terms m;have h3:(((f.terms.take m).map fun t=>(t,b)).map fun p:Tm×Int=>p.1.size)=(f.terms.take m).map Tm.size:=by simp[YX]
 rw[h3,Fm.size_eq];omega
theorem Yaj(b:Int)(l:List Fm):((l.flatMap (Fm.AZ b)).map fun p:Tm×Int=>p.1.size).sum<=(l.map Fm.size).sum:=by
 induction l with
 |nil=>simp
 |cons x l ih=>
  have h3:=KF x b;simp only[WO,Xv,XY,Wn,Wt];omega
theorem Yc9(f:Fm)(b:Int)(m:Nat)(h:m<f.args.length):((f.terms.map (fun t=>(t,b))++(f.args.take m).flatMap (Fm.AZ (A3 f.kind b))).map fun p:Tm×Int=>p.1.size).sum+(f.args[m]).size<=f.size:=by
 have h1:=Yaj (A3 f.kind b) (f.args.take m);have h2:=yk Fm.size f.args m h;have h4:=zm Fm.size f.args (m+1);have h3:((f.terms.map fun t=>(t,b)).map fun p:Tm×Int=>p.1.size)=f.terms.map Tm.size:=by simp[YX]
 have e:=f.size_eq;rw[Xv,XY,h3];omega
theorem JD(f:Fm):f.shape=true->∀b,∀p∈f.AZ b,p.1.shape=true:=by
 induction f using Fm.ind with
 |h f ih=>
  intro hs b p hp;rw[Fm.Al,Wk,Wk] at hs;rw[Fm.Ba,WH] at hp;rcases hp with hp|hp
  .obtain ⟨t,ht,rfl⟩:=WA.1 hp;exact Wm.1 hs.1.2 t ht
  .obtain ⟨x,hx,hp⟩:=WL.1 hp;exact ih x hx (Wm.1 hs.2 x hx) _ p hp
def Tm.Gv(t:Tm):Bool:=(t.vars 0).all fun p=>decide (p.1<=268435456)
def E8(P:Tm->Bool)(b:Bool)(l:List (Tm×Int)):Bool:=b&&l.all fun p=>P p.1
theorem VY(P:Tm->Bool)(b:Bool)(l l':List (Tm×Int)):E8 P (E8 P b l) l'=E8 P b (l++l'):=by simp[E8,YO]
theorem MG(P:Tm->Bool)(b:Bool)(t:Tm)(i:Int):E8 P b [(t,i)]=(b&&P t):=by simp[E8]
theorem PS(P:Tm->Bool)(b:Bool):E8 P b []=b:=by simp[E8]
def Fm.near(f:Fm):Bool:=(f.AZ 0).all fun p=>p.1.near
def Fm.Gv(f:Fm):Bool:=(f.AZ 0).all fun p=>p.1.Gv
def Fm.put(f:Fm)(at_:Int)(s:Tm):Fm:=f.re (fun b t=>t.re (y9 (at_+b) s) 0) 0
def y1(f:Fm)(at_:Int)(s:Tm):Int:=
 if f.err≠0 then f.err else if ¬(0<=at_/\at_<=4096) then 1 else if s.err≠0 then s.err else if f.near=false\/s.near=false then 1 else if(f.size:Int)+wr at_ (f.AZ 0)*(s.size-1)>4096 then 4 else 0
theorem KU(t:Tm):t.shape=true->t.full<=65*t.size:=by
 induction t using Tm.ind with
 |h t ih=>
  intro hs;rw[Tm.Al,Wk] at hs;have h0:t.ty.size<=64:=by
   have:=hs.1;simp only[Tm.head,Wk] at this;have h1:=this.2;cases hk:xx t.kind with
   |true=>rw[hk] at h1;simp only[cond_true,Ty.ok,Wk,decide_eq_true_eq] at h1;exact h1.2
   |false=>
    rw[hk] at h1;have:=Ty.DK (show t.ty.BL=true from h1);rw[this];decide
  have h1:∀l:List Tm,(∀x∈l,x∈t.args)->(l.map Tm.full).sum<=65*(l.map Tm.size).sum:=by
   intro l;induction l with
   |nil=>intro _;simp
   |cons x l ih2=>
    intro h;have h2:=ih2 fun y hy=>h y (by simp[hy]);have hx:=h x (by simp);have h3:=ih x hx (Wm.1 hs.2 x hx);simp only[Wn,Wt];omega
  have h2:=h1 t.args fun _ h=>h;rw[Tm.Af,Tm.size_eq];omega
theorem ux(f:Fm):f.shape=true->f.full<=65*f.size:=by
 induction f using Fm.ind with
 |h f ih=>
  intro hs;rw[Fm.Al,Wk,Wk] at hs;obtain⟨⟨hh,ht⟩,ha⟩:=hs;have h0:f.ty.size<=64:=by
   simp only[Fm.head] at hh;split at hh
   .simp only[Wk] at hh;rw[Ty.DK hh.1.1];decide
   .split at hh
    .simp only[Wk] at hh;rw[Ty.DK hh.1.1];decide
    .split at hh
     .simp only[Wk,Ty.ok,decide_eq_true_eq] at hh;exact hh.1.1.2
     .cases hh
  have h1:∀l:List Fm,(∀x∈l,x∈f.args)->(l.map Fm.full).sum<=65*(l.map Fm.size).sum:=by
   intro l;induction l with
   |nil=>intro _;simp
   |cons x l ih2=>
    intro h;have h2:=ih2 fun y hy=>h y (by simp[hy]);have hx:=h x (by simp);have h3:=ih x hx (Wm.1 ha x hx);simp only[Wn,Wt];omega
  have h2:∀l:List Tm,(∀x∈l,x∈f.terms)->(l.map Tm.full).sum<=65*(l.map Tm.size).sum:=by
   intro l;induction l with
   |nil=>intro _;simp
   |cons x l ih2=>
    intro h;have h2:=ih2 fun y hy=>h y (by simp[hy]);have hx:=h x (by simp);have h3:=KU x (Wm.1 ht x hx);simp only[Wn,Wt];omega
  have h3:=h1 f.args fun _ h=>h;have h4:=h2 f.terms fun _ h=>h;rw[Fm.Af,Fm.size_eq];omega
theorem ye{f:Fm}(h:f.err=0):f.full<=266240:=by
 have h1:=(Fm.Ad f).1 h;have:=ux f h1.1;omega
theorem z6{t:Tm}(h:t.err=0):t.full<=266240:=by
 have h1:=vb h;have:=KU t h1.1;omega
theorem Rz{f:Fm}(h:f.err=0)(hn:f.near=true):∀p∈f.AZ 0,∀q∈p.1.vars 0,0<=q.1/\q.1<549755813888:=fun p hp q hq=>by
 have h1:p.1.shape=true:=JD f ((Fm.Ad f).1 h).1 0 p hp;have h2:=Wm.1 hn p hp;have h3:=Wm.1 h2 q hq;simp at h3;exact⟨p.1.AE h1 0 q hq,by omega⟩
theorem So(f:Fm):0<=f.num/\f.num<=4096:=by
 simp only[Fm.num];split
 .rename_i h;have:=((Fm.Ad f).1 h).2;omega
 .omega
mutual
def Fm.same:Fm->Fm->Bool
 | .mk k h ts xs,.mk k' h' ts' ys=>k==k'&&decide (h=h')&&decide (ts=ts')&&Fm.BH xs ys
def Fm.BH:List Fm->List Fm->Bool
 |[],[]=>true
 |x::xs,y::ys=>x.same y&&Fm.BH xs ys
 |_,_=>false
end
mutual
theorem Fm.B5:∀a b:Fm,a.same b=true↔a=b
 | .mk k h ts xs,.mk k' h' ts' ys=>by simp only[Fm.same,Wk,beq_iff_eq,decide_eq_true_eq,Fm.mk.injEq,Fm.BS xs ys,and_assoc]
theorem Fm.BS:∀a b:List Fm,Fm.BH a b=true↔a=b
 |[],[]=>by simp[Fm.BH]
 |x::xs,y::ys=>by simp only[Fm.BH,Wk,YH,Fm.B5 x y,Fm.BS xs ys]
 |[],_::_=>by simp[Fm.BH]
 |_::_,[]=>by simp[Fm.BH]
end
instance:DecidableEq Fm:=fun a b=>decidable_of_iff _ (Fm.B5 a b)
theorem BU{g g':Int->Int->Tm}(t:Tm):∀b,(∀p∈t.vars b,g p.1 p.2=g' p.1 p.2)->t.re g b=t.re g' b:=by
 induction t using Tm.ind with
 |h t ih=>
  intro b h;by_cases h1:t.kind=1
  .rw[Fp h1,Fp h1];exact h (t.index,b) (by rw[t.AP,if_pos h1];simp)
  .rw[wu h1,wu h1];congr 1;exact Xc fun x hx=>ih x hx _ fun p hp=>h p (LG h1 hx hp)
theorem Zy4{at_:Int}{l:List (Int×Int)}(h:cnt at_ l=0):∀p∈l,¬p.1-p.2=at_:=by
 intro p hp he;have h1:p∈l.filter fun p=>p.1-p.2==at_:=XP.2 ⟨hp,by simp[he]⟩;have h2:=Zb h1;simp only[cnt] at h;omega
abbrev LB:=List (Int×Tm)
theorem MQ{t:Tm}:∀{b b':Int},∀q∈t.vars b,∃q'∈t.vars b',q'.1=q.1:=by
 induction t using Tm.ind with
 |h t ih=>
  intro b b' q hq;rw[Tm.AP,WH] at hq;rcases hq with hq|hq
  .by_cases h1:t.kind=1
   .rw[if_pos h1,WN] at hq;exact⟨(t.index,b'),by rw[Tm.AP,if_pos h1];simp,by rw[hq]⟩
   .rw[if_neg h1] at hq;cases hq
  .obtain ⟨x,hx,hq⟩:=WL.1 hq;obtain⟨q',h1,h2⟩:=ih x hx (b':=up t.kind b') q hq;exact⟨q',by rw[Tm.AP];exact W7 _ (WL.2 ⟨x,hx,h1⟩),h2⟩
theorem SH{f:Fm}:∀{b b':Int},∀q∈f.AZ b,∃q'∈f.AZ b',q'.1=q.1:=by
 induction f using Fm.ind with
 |h f ih=>
  intro b b' q hq;rw[Fm.Ba,WH] at hq;rcases hq with hq|hq
  .obtain ⟨t,ht,rfl⟩:=WA.1 hq;exact⟨(t,b'),by rw[Fm.Ba];exact XB _ (WA.2 ⟨t,ht,rfl⟩),rfl⟩
  .obtain ⟨x,hx,hq⟩:=WL.1 hq;obtain⟨q',h1,h2⟩:=ih x hx (b':=A3 f.kind b') q hq;exact⟨q',by rw[Fm.Ba];exact W7 _ (WL.2 ⟨x,hx,h1⟩),h2⟩
theorem zv{f x:Fm}(h:f.shape=true)(hx:x∈f.args):x.shape=true:=by
 rw[Fm.Al,Wk] at h;exact Wm.1 h.2 x hx
theorem yg{f:Fm}(h:f.shape=true){t:Tm}(ht:t∈f.terms):t.shape=true:=by
 rw[Fm.Al,Wk,Wk] at h;exact Wm.1 h.1.2 t ht
theorem Zxo(at_:Int)(s:Tm)(hs:s.shape=true)(f:Fm):f.shape=true->∀b,(f.re (fun b t=>t.re (y9 (at_+b) s) 0) b).full<=f.full+wr at_ (f.AZ b)*s.full:=by
 induction f using Fm.ind with
 |h f ih=>
  intro hf b;have e3:(f.re (fun b t=>t.re (y9 (at_+b) s) 0) b).full=1+f.ty.size+((f.terms.map fun t=>t.re (y9 (at_+b) s) 0).map Tm.full).sum+((f.args.map (Fm.re (fun b t=>t.re (y9 (at_+b) s) 0) (A3 f.kind b))).map Fm.full).sum:=by
   rw[Fm.Bt,Fm.Af];rfl
  rw[e3,f.Af,Fm.Ba,yr,W9,Xq,Xq];have h1:∀l:List Tm,(∀x∈l,x∈f.terms)->(l.map (Tm.full∘fun t=>t.re (y9 (at_+b) s) 0)).sum<=(l.map Tm.full).sum+wr at_ (l.map fun t=>(t,b))*s.full:=by
   intro l;induction l with
   |nil=>intro _;simp
   |cons x l ihl=>
    intro hl;have h2:=Zzg (at_+b) s x hs 0 (yg hf (hl x (by simp)));have h3:=ihl fun y hy=>hl y (by simp[hy]);simp only[Wn,Wt,XI,wr,W9];omega
  have h2:∀l:List Fm,(∀x∈l,x∈f.args)->(l.map (Fm.full∘Fm.re (fun b t=>t.re (y9 (at_+b) s) 0) (A3 f.kind b))).sum<=(l.map Fm.full).sum+wr at_ (l.flatMap (Fm.AZ (A3 f.kind b)))*s.full:=by
   intro l;induction l with
   |nil=>intro _;simp
   |cons x l ihl=>
    intro hl;have h2:=ih x (hl x (by simp)) (zv hf (hl x (by simp))) (A3 f.kind b);have h3:=ihl fun y hy=>hl y (by simp[hy]);simp only[Wn,Wt,XI,WO,yr,W9];omega
  have h3:=h1 f.terms fun _ h=>h;have h4:=h2 f.args fun _ h=>h;omega
theorem PW{f:Fm}{at_:Int}{s:Tm}(h:y1 f at_ s=0):f.err=0/\s.err=0/\f.near=true/\s.near=true/\(f.size:Int)+wr at_ (f.AZ 0)*(s.size-1)<=4096:=by
 simp only[y1] at h;split at h
 .rename_i h1;exact absurd h h1
 .rename_i h1;split at h
  .omega
  .split at h
   .rename_i h2;exact absurd h h2
   .rename_i h2;split at h
    .omega
    .rename_i h3;split at h
     .omega
     .rename_i h4;refine⟨Classical.not_not.1 h1,Classical.not_not.1 h2,?_,?_,by omega⟩
      .cases hn:f.near with
       |true=>rfl
       |false=>exact absurd (.inl hn) h3
      .cases hn:s.near with
       |true=>rfl
       |false=>exact absurd (.inr hn) h3
theorem UX{f:Fm}{at_:Int}{s:Tm}(h:y1 f at_ s=0):(f.put at_ s).full<=1200000000:=by
 obtain⟨h1,h2,_,_,_⟩:=PW h;have h3:=Zxo at_ s (vb h2).1 f ((Fm.Ad f).1 h1).1 0;have h4:=ye h1;have h5:=z6 h2;have h6:=JZ at_ (f.AZ 0);have h7:=KF f 0;have h8:=((Fm.Ad f).1 h1).2;have h9:wr at_ (f.AZ 0)*s.full<=4096*266240:=XU (by omega) h5;show(f.re _ 0).full<=_;omega
theorem Ns(g:Int->Int->Tm)(t:Tm):∀b,t.shape=true->(t.re g b).vars b=(t.vars b).flatMap fun p=>(g p.1 p.2).vars p.2:=by
 induction t using Tm.ind with
 |h t ih=>
  intro b hs;by_cases h1:t.kind=1
  .rw[Fp h1,vy hs h1];simp
  .rw[wu h1,IW h1,IW (t:=Tm.mk _ _ _ _) (by simpa using h1)];simp only[Tm.Ai,Tm.Ae,List.flatMap_assoc,List.flatMap_map];have:∀l:List Tm,(∀x∈l,x∈t.args)->l.flatMap (fun x=>(x.re g (up t.kind b)).vars (up t.kind b))=l.flatMap fun x=>(x.vars (up t.kind b)).flatMap fun p=>(g p.1 p.2).vars p.2:=by
    intro l;induction l with
    |nil=>intro _;rfl
    |cons x l ihl=>
     intro h;rw[WO,WO,ihl fun y hy=>h y (by simp[hy]),ih x (h x (by simp)) _ (zg hs x (h x (by simp)))]
   exact this t.args fun _ h=>h
theorem Pv(k b c:Int):up k (b+c)=up k b+c:=by simp only[up];split<;>omega
theorem LC(t:Tm):∀b c:Int,t.vars (b+c)=(t.vars b).map fun p=>(p.1,p.2+c):=by
 induction t using Tm.ind with
 |h t ih=>
  intro b c;rw[t.AP,t.AP,Xv,Pv];congr 1
  .split<;>rfl
  .rw[List.map_flatMap];have:∀l:List Tm,(∀x∈l,x∈t.args)->l.flatMap (Tm.vars (up t.kind b+c))=l.flatMap fun x=>(x.vars (up t.kind b)).map fun p=>(p.1,p.2+c):=by
    intro l;induction l with
    |nil=>intro _;rfl
    |cons x l ihl=>
     intro h;rw[WO,WO,ihl fun y hy=>h y (by simp[hy]),ih x (h x (by simp))]
   exact this t.args fun _ h=>h
theorem CM(g:Int->Int->Tm)(c:Int)(t:Tm):∀b,t.re g (b+c)=t.re (fun i d=>g i (d+c)) b:=by
 induction t using Tm.ind with
 |h t ih=>
  intro b;by_cases h1:t.kind=1
  .rw[Fp h1,Fp h1]
  .rw[wu h1,wu h1,Pv];congr 1;exact Xc fun x hx=>ih x hx _
theorem OX(g:Int->Int->Tm)(c:Int)(t:Tm):t.re g c=t.re (fun i d=>g i (d+c)) 0:=by
 have:=CM g c t 0
 rwa [Yh] at this
theorem Uc(j:Int)(g:Int->Int->Tm)(c:Int):(vT j).re g c=g j c:=by rw[Fp (show(vT j).kind=1 from rfl)];rfl
theorem SE(j c:Int):(vT j).vars c=[(j,c)]:=by simp[vT,Tm.vars,Tm.BX]
theorem Kg(fr by_ i b:Int):zx fr by_ i b=vT (if i-b>=fr then i+by_ else i):=rfl
theorem MD(at_:Int)(s:Tm)(i b:Int):y9 at_ s i b=if i-b=at_ then s.re (zx 0 (at_+b)) 0 else vT (if i-b>at_ then i-1 else i):=rfl
theorem Yiz{g:Int->Int->Tm}(t:Tm):∀b,t.shape=true->(∀p∈t.vars b,g p.1 p.2=vT p.1)->t.re g b=t:=by
 induction t using Tm.ind with
 |h t ih=>
  intro b hs hg;by_cases h1:t.kind=1
  .rw[Fp h1];have h2:=hg (t.index,b) (by rw[vy hs h1];simp);rw[h2];exact(JB hs h1).symm
  .rw[wu h1];have h2:t.args.map (Tm.re g (up t.kind b))=t.args:=by
    conv=>rhs;rw[<-List.map_id t.args]
    exact Xc fun x hx=>ih x hx _ (zg hs x hx) fun p hp=>hg p (LG h1 hx hp)
   rw[h2];cases t;rfl
theorem R6(fr by_:Int)(t:Tm)(b:Int)(hs:t.shape=true):(t.re (zx fr by_) b).vars b=(t.vars b).map fun p=>(if p.1-p.2>=fr then p.1+by_ else p.1,p.2):=by
 rw[Ns _ _ _ hs];simp only[Kg,SE];rw[List.map_eq_flatMap]
theorem Fm.BU{G G':Int->Tm->Tm}(f:Fm):∀b,(∀p∈f.AZ b,G p.2 p.1=G' p.2 p.1)->f.re G b=f.re G' b:=by
 induction f using Fm.ind with
 |h f ih=>
  intro b h;rw[Fm.Bt,Fm.Bt];congr 1
  .exact Xc fun x hx=>h (x,b) (by rw[Fm.Ba];exact XB _ (WA.2 ⟨x,hx,rfl⟩))
  .exact Xc fun x hx=>ih x hx _ fun p hp=>h p (by rw[Fm.Ba];exact W7 _ (WL.2 ⟨x,hx,hp⟩))
theorem JL(k b:Int):b<=A3 k b/\A3 k b<=b+1:=by simp only[A3];split<;>omega
theorem R9{f:Fm}:∀{b:Int},∀p∈f.AZ b,b<=p.2:=by
 induction f using Fm.ind with
 |h f ih=>
  intro b p hp;rw[Fm.Ba,WH] at hp;rcases hp with hp|hp
  .obtain ⟨t,_,rfl⟩:=WA.1 hp;exact Zk _
  .obtain ⟨x,hx,hp⟩:=WL.1 hp;have:=ih x hx p hp;have:=JL f.kind b;omega
theorem u3{f:Fm}{at_:Int}{s:Tm}(ha:0<=at_)(hs:s.shape=true)(hf:f.shape=true):(f.put at_ s).shape=true:=by
 have key:∀(f:Fm) (b:Int),0<=b->f.shape=true->(f.re (fun b t=>t.re (y9 (at_+b) s) 0) b).shape=true:=by
  intro f;induction f using Fm.ind with
  |h f ih=>
   intro b hb hf;have h0:=hf;rw[Fm.Al,Wk,Wk] at h0;obtain⟨⟨h1,h2⟩,h3⟩:=h0;rw[Fm.Bt,Fm.Al,Wk,Wk];refine⟨⟨?_,?_⟩,?_⟩
   .simp only[Fm.head,Fm.Ai,Fm.AQ,Fm.Ah,Fm.Ae,Xt] at h1 ⊢;exact h1
   .rw[Fm.Ah,Wm];intro y hy;obtain⟨x,hx,rfl⟩:=WA.1 hy;exact LH 0 hs (Wm.1 h2 x hx) (by omega) (by omega) fun p hp=>HO x 0 p hp
   .rw[Fm.Ae,Wm];intro y hy;obtain⟨x,hx,rfl⟩:=WA.1 hy;have:=JL f.kind b;exact ih x hx _ (by omega) (Wm.1 h3 x hx)
 exact key f 0 (by omega) hf
def G6(h:Int)(vs:List (Int×Int))(m m':LB):Prop:=∀k,k∈m'.map (·.1)↔k∈m.map (·.1)\/(0<=k/\k<h/\∃q∈vs,q.1-q.2=k)
theorem G6.app{h:Int}{m m' m'':LB}{vs vs':List (Int×Int)}(h1:G6 h vs m m')(h2:G6 h vs' m' m''):G6 h (vs++vs') m m'':=fun k=>by
 rw[h2 k,h1 k];constructor
 .rintro ((h3|⟨h3,h4,q,hq,h5⟩)|⟨h3,h4,q,hq,h5⟩)
  .exact .inl h3
  .exact .inr ⟨h3,h4,q,XB _ hq,h5⟩
  .exact .inr ⟨h3,h4,q,W7 _ hq,h5⟩
 .rintro (h3|⟨h3,h4,q,hq,h5⟩)
  .exact .inl (.inl h3)
  .rcases WH.1 hq with hq|hq
   .exact .inl (.inr ⟨h3,h4,q,hq,h5⟩)
   .exact .inr ⟨h3,h4,q,hq,h5⟩
theorem Zxj(n:Nat):∀(l:List Int),l.Nodup->(∀k∈l,0<=k/\k<n)->l.length<=n/\((∀k:Nat,k<n->(k:Int)∈l)↔l.length=n):=by
 induction n with
 |zero=>
  intro l _ h;cases l with
  |nil=>simp
  |cons x l=>have:=h x (by simp);omega
 |succ n ih=>
  intro l hn h;have h1:(l.filter (·≠(n:Int))).Nodup:=hn.filter _;have h2:=ih _ h1 fun k hk=>by
   rw[XP] at hk;have:=h k hk.1;have h3:k≠(n:Int):=by simpa using hk.2
   omega
  have hcount:l.length=(l.filter (·≠(n:Int))).length+(if(n:Int)∈l then 1 else 0):=by
   clear h2 h1 ih h;induction l with
   |nil=>simp
   |cons x l ihl=>
    rw[List.nodup_cons] at hn;have:=ihl hn.2;by_cases hx:x=(n:Int)
    .subst hx;rw[if_neg hn.1] at this;simp at this ⊢;omega
    .have e:((n:Int)∈x::l)↔(n:Int)∈l:=by simp[Ne.symm hx]
     simp only[e,Wy,List.filter_cons,ne_eq,hx,not_false_eq_true,decide_true,if_true];simp only[ne_eq] at this;omega
  by_cases hmem:(n:Int)∈l
  .rw[if_pos hmem] at hcount;refine⟨by omega,?_⟩;constructor
   .intro h3;have:=h2.2.1 fun k hk=>XP.2 ⟨h3 k (by omega),by simp;omega⟩;omega
   .intro h3 k hk;by_cases hkn:k=n
    .subst hkn;exact hmem
    .exact (XP.1 (h2.2.2 (by omega) k (by omega))).1
  .rw[if_neg hmem] at hcount;refine⟨by omega,?_⟩;constructor
   .intro h3;exact absurd (h3 n (by omega)) hmem
   .intro h3;omega
theorem Vh(G:Int->Tm->Tm)(f:Fm):∀b,(f.re G b).AZ b=(f.AZ b).map fun p=>(G p.2 p.1,p.2):=by
 induction f using Fm.ind with
 |h f ih=>
  intro b;rw[Fm.Bt,Fm.Ba,Fm.Ba];simp only[Fm.Ai,Fm.Ah,Fm.Ae,Xv,Xq,List.map_flatMap,List.flatMap_map];congr 1;have:∀l:List Fm,(∀x∈l,x∈f.args)->l.flatMap (fun x=>(x.re G (A3 f.kind b)).AZ (A3 f.kind b))=l.flatMap fun x=>(x.AZ (A3 f.kind b)).map fun p=>(G p.2 p.1,p.2):=by
   intro l;induction l with
   |nil=>intro _;rfl
   |cons x l ihl=>
    intro h;rw[WO,WO,ihl fun y hy=>h y (by simp[hy]),ih x (h x (by simp))]
  exact this f.args fun _ h=>h
theorem Zxi{k:Int}{l:List (Tm×Int)}(h:wr k l=0):∀p∈l,cnt (k+p.2) (p.1.vars 0)=0:=by
 induction l with
 |nil=>intro p hp;cases hp
 |cons q l ih=>
  simp only[wr] at h;intro p hp;rcases WE.1 hp with rfl|hp
  .omega
  .exact ih (by omega) p hp
theorem ua(at_:Int)(s:Tm)(hs:s.shape=true)(f:Fm):f.shape=true->∀b,(f.re (fun b t=>t.re (y9 (at_+b) s) 0) b).size=f.size+wr at_ (f.AZ b)*(s.size-1):=by
 induction f using Fm.ind with
 |h f ih=>
  intro hf b;have e3:(f.re (fun b t=>t.re (y9 (at_+b) s) 0) b).size=1+((f.terms.map fun t=>t.re (y9 (at_+b) s) 0).map Tm.size).sum+((f.args.map (Fm.re (fun b t=>t.re (y9 (at_+b) s) 0) (A3 f.kind b))).map Fm.size).sum:=by
   rw[Fm.Bt,Fm.size_eq];rfl
  rw[e3,f.size_eq,Fm.Ba,yr,W9,Xq,Xq];have h1:∀l:List Tm,(∀x∈l,x∈f.terms)->(l.map (Tm.size∘fun t=>t.re (y9 (at_+b) s) 0)).sum=(l.map Tm.size).sum+wr at_ (l.map fun t=>(t,b))*(s.size-1):=by
   intro l;induction l with
   |nil=>intro _;simp[wr]
   |cons x l ihl=>
    intro hl;have h2:=J4 (at_+b) s x hs 0 (yg hf (hl x (by simp)));have h3:=ihl fun y hy=>hl y (by simp[hy]);simp only[Wn,Wt,XI,wr,W9];omega
  have h2:∀l:List Fm,(∀x∈l,x∈f.args)->(l.map (Fm.size∘Fm.re (fun b t=>t.re (y9 (at_+b) s) 0) (A3 f.kind b))).sum=(l.map Fm.size).sum+wr at_ (l.flatMap (Fm.AZ (A3 f.kind b)))*(s.size-1):=by
   intro l;induction l with
   |nil=>intro _;simp[wr]
   |cons x l ihl=>
    intro hl;have h2:=ih x (hl x (by simp)) (zv hf (hl x (by simp))) (A3 f.kind b);have h3:=ihl fun y hy=>hl y (by simp[hy]);simp only[Wn,Wt,XI,WO,yr,W9];omega
  have h3:=h1 f.terms fun _ h=>h;have h4:=h2 f.args fun _ h=>h;omega
theorem Zzc{f:Fm}{at_:Int}{s:Tm}(ha:0<=at_)(h:y1 f at_ s=0):(f.put at_ s).err=0:=by
 obtain⟨h1,h2,_,_,h5⟩:=PW h;have hf:=(Fm.Ad f).1 h1;have hs:=(vb h2).1;refine(Fm.Ad _).2 ⟨u3 ha hs hf.1,?_⟩;have h6:=ua at_ s hs f hf.1 0;have hsp:=s.size_pos;show(f.re _ 0).size<=4096;rw[h6];have h7:(((wr at_ (f.AZ 0)*(s.size-1):Nat)):Int)=(wr at_ (f.AZ 0):Int)*(s.size-1):=by
  rw[XQ,Int.natCast_sub hsp];rfl
 omega
mutual
def Fm.Bg(g:List Ty):Fm->Prop
 | .mk k h ts as=>(∀t∈ts,t.inf g=(Ag,0))/\Fm.Gy (if xg k=true then g++[h] else g) as
def Fm.Gy(g:List Ty):List Fm->Prop
 |[]=>True
 |f::l=>f.Bg g/\Fm.Gy g l
end
def Dx(g:List Ty)(f:Fm):List Ty:=if xg f.kind=true then g++[f.ty] else g
theorem Fm.EV(g:List Ty):∀l:List Fm,Fm.Gy g l↔∀x∈l,x.Bg g
 |[]=>by simp[Fm.Gy]
 |f::l=>by simp only[Fm.Gy,Fm.EV g l,WE,forall_eq_or_imp]
theorem Fm.Bn(g:List Ty)(f:Fm):f.Bg g↔(∀t∈f.terms,t.inf g=(Ag,0))/\∀x∈f.args,x.Bg (Dx g f):=by
 cases f;simp only[Fm.Bg,Fm.EV,Dx];rfl
theorem G1{g:List Ty}{f:Fm}(h:xg f.kind=true):Dx g f=g++[f.ty]:=if_pos h
theorem Hg{g:List Ty}{f:Fm}(h:¬xg f.kind=true):Dx g f=g:=if_neg h
theorem Bj{k:Int}:xg k=true↔4<=k/\k<=7:=by simp[xg]
theorem TN(d:Dk){g:List Ty}(hg:Am g):(d.Ip g).1.Bg g:=by
 have m1:=(Dk.CY 3 d g Ag hg zh (by omega) (by omega)).inf hg zh;have m2:=(Dk.CY 3 (Dk.tm 3 d g Ag).2 g Ag hg zh (by omega) (by omega)).inf hg zh;rw[Fm.Bn];refine⟨fun t ht=> ?_,fun x hx=>by cases hx⟩;simp only[Dk.Ip,Bf,Fm.Ah,WE,WS,or_false] at ht;rcases ht with rfl|rfl
 .exact m1
 .exact m2
theorem NV{k:Int}{a b:Fm}{g:List Ty}(hk:k=2\/k=3)(ha:a.Bg g)(hb:b.Bg g):(Cp k a b).Bg g:=by
 rw[Fm.Bn];have e:Dx g (Cp k a b)=g:=Hg (by show ¬xg k=true;rw[Bj];omega);rw[e];refine And.intro (fun t ht=>by cases ht) (fun x hx=> ?_);simp only[Cp,Fm.Ae,WE,WS,or_false] at hx;rcases hx with rfl|rfl
 .exact ha
 .exact hb
theorem HF{k:Int}{s:Ty}{a:Fm}{g:List Ty}(hk:4<=k/\k<=7)(ha:a.Bg (g++[s])):(Br k s a).Bg g:=by
 rw[Fm.Bn];have e:Dx g (Br k s a)=g++[s]:=G1 (Bj.2 hk);rw[e];refine And.intro (fun t ht=>by cases ht) (fun x hx=> ?_);simp only[Br,Fm.Ae,WE,WS,or_false] at hx;subst hx;exact ha
theorem Dk.GD:∀(n:Nat) (d:Dk) (g:List Ty),Am g->(Dk.fm n d g).1.Bg g:=by
 intro n;induction n with
 |zero=>exact fun d g hg=>TN d hg
 |succ n ih=>
  intro d g hg;have h2:=Dk.Bv (((d.next 9).2.type 0).2) 2 (by omega);have s1:=Dk.type1 (d.next 9).2;have s0:=Dk.type0 (d.next 9).2;have s0':=zw s0.1 s0.2;simp only[Dk.fm];repeat' split
  .exact NV (.inl rfl) (ih _ _ hg) (ih _ _ hg)
  .exact NV (.inr rfl) (ih _ _ hg) (ih _ _ hg)
  .exact HF ⟨by omega,by omega⟩ (ih _ _ (zo hg (zi s1 zn)))
  .exact HF ⟨by omega,by omega⟩ (ih _ _ (zo hg (zi s1 zn)))
  .exact HF ⟨by omega,by omega⟩ (ih _ _ (zo hg (zi s0' zn)))
  .exact TN _ hg
theorem Pe(at_:Int)(s:Tm)(g:List Ty)(σ:Ty)(hs:s.shape=true)(hσ:s.inf g=(σ,0))(f:Fm):∀(h:List Ty) (b:Int),(h.length:Int)=at_+b->f.shape=true->f.Bg (g++[σ]++h)->
 (f.re (fun b t=>t.re (y9 (at_+b) s) 0) b).Bg (g++h):=by
 induction f using Fm.ind with
 |h f ih=>
  intro h b hb hf hok;rw[Fm.Bn] at hok;rw[Fm.Bt,Fm.Bn];simp only[Fm.Ah,Fm.Ae];refine⟨fun y hy=> ?_,fun y hy=> ?_⟩
  .obtain ⟨x,hx,rfl⟩:=WA.1 hy;rw[RH x s g h σ (at_+b) 0 (yg hf hx) hs (by omega) hσ];exact hok.1 x hx
  .obtain ⟨x,hx,rfl⟩:=WA.1 hy;have h1:=hok.2 x hx;by_cases hq:xg f.kind=true
   .rw[G1 hq] at h1;rw[show ∀ts as,Dx (g++h) (Fm.mk f.kind f.ty ts as)=g++h++[f.ty] from fun ts as=>G1 (f:=Fm.mk f.kind f.ty ts as) hq];have e:A3 f.kind b=b+1:=if_pos hq;rw[e,Wr];rw[Wr] at h1;exact ih x hx (h++[f.ty]) (b+1) (by simp;omega) (zv hf hx) h1
   .rw[Hg hq] at h1;rw[show ∀ts as,Dx (g++h) (Fm.mk f.kind f.ty ts as)=g++h from fun ts as=>Hg (f:=Fm.mk f.kind f.ty ts as) hq];have e:A3 f.kind b=b:=if_neg hq;rw[e];exact ih x hx h b hb (zv hf hx) h1
theorem Ow{f:Fm}:∀{g:List Ty} {b:Int},f.Bg g->f.shape=true->∀q∈f.AZ b,∀v∈q.1.vars 0,v.1<g.length+f.size:=by
 induction f using Fm.ind with
 |h f ih=>
  intro g b hok hf q hq v hv;have e:=f.size_eq;rw[Fm.Bn] at hok;rw[Fm.Ba,WH] at hq;rcases hq with hq|hq
  .obtain ⟨t,ht,rfl⟩:=WA.1 hq;have h1:=za Tm.size ht;have h2:=hok.1 t ht;exact Ly t g 0 _ (by rw[h2]) (yg hf ht) (by omega) v hv
  .obtain ⟨x,hx,hq⟩:=WL.1 hq;have h1:=za Fm.size hx;have h2:=ih x hx (hok.2 x hx) (zv hf hx) q hq v hv;have h3:(Dx g f).length<=g.length+1:=by simp only[Dx];split<;>simp
   omega
theorem Zvh{f:Fm}{g:List Ty}(h:f.Bg g)(he:f.err=0)(hg:g.length<=1000):f.near=true/\f.Gv=true:=by
 have h1:=(Fm.Ad f).1 he;refine⟨Wm.2 fun q hq=>Wm.2 fun v hv=> ?_,Wm.2 fun q hq=>Wm.2 fun v hv=> ?_⟩
 .have:=Ow h h1.1 q hq v hv;simp;omega
 .have:=Ow h h1.1 q hq v hv;simp;omega
theorem PN{α:Type}{f:α->Nat}{l:List α}(h:∀j (hj:j<l.length),f l[j]=0):(l.map f).sum=0:=by
 induction l with
 |nil=>rfl
 |cons x l ih=>
  have h0:=h 0 (by simp);have h1:=ih fun j hj=>by have:=h (j+1) (by simp;omega);simpa using this
  simp only[Wn,Wt];simp only[Wu] at h0;omega
theorem N8{α:Type}{f:α->Nat}{l:List α}{m:Nat}(hm:m<l.length)(h:f l[m]≠0):(l.map f).sum≠0:=by
 have:=za f (Wi hm);omega
def xm(most:Int)(t:Tm):Bool:=(t.vars 0).all fun p=>decide (p.1<=most)
theorem Zuu(most b:Int)(t:Tm):(t.vars b).all (fun p=>decide (p.1<=most))=xm most t:=by
 have h:=LC t 0 b;rw[Yh] at h;rw[h,Yi];rfl
theorem PM{α β:Type}(f:α->List β)(p:β->Bool)(l:List α):(l.flatMap f).all p=l.all fun x=>(f x).all p:=by
 induction l with
 |nil=>rfl
 |cons x l ih=>rw[WO,WQ,ih,Xh]
theorem Zv4{most:Int}(h0:0<=most){t:Tm}(hs:t.shape=true):xm most t=(decide (t.index<=most)&&t.args.all (xm most)):=by
 simp only[xm];by_cases h1:t.kind=1
 .rw[vy hs h1,HS hs h1];simp
 .rw[IW h1,PM,(NT hs).2 h1,decide_eq_true h0,WZ];congr 1;funext x;exact Zuu most _ x
theorem Mc(t:Tm):t.near=xm 536870912 t:=rfl
def Fe(most:Int)(f:Fm):Bool:=(f.AZ 0).all fun p=>xm most p.1
theorem Zxr(most:Int)(f:Fm):Fe most f=(f.terms.all (xm most)&&f.args.all (Fe most)):=by
 have key:∀(f:Fm) (b:Int),(f.AZ b).all (fun p=>xm most p.1)=Fe most f:=by
  intro f;induction f using Fm.ind with
  |h f ih=>
   intro b;have e:∀b,(f.AZ b).all (fun p=>xm most p.1)=(f.terms.all (xm most)&&f.args.all (Fe most)):=fun b=>by
    rw[Fm.Ba,WQ,Yi,PM];congr 1;have:∀l:List Fm,(∀x∈l,x∈f.args)->(l.all fun x=>(x.AZ (A3 f.kind b)).all fun p=>xm most p.1)=l.all (Fe most):=by
     intro l;induction l with
     |nil=>intro _;rfl
     |cons x l ihl=>intro h;rw[Xh,Xh,ih x (h x (by simp)),ihl fun y hy=>h y (by simp[hy])]
    exact this f.args fun _ h=>h
   rw[e b,<-e 0];rfl
 have e:Fe most f=(f.AZ 0).all fun p=>xm most p.1:=rfl;rw[e,Fm.Ba,WQ,Yi,PM];congr 1;have:(fun x:Fm=>(x.AZ (A3 f.kind 0)).all fun p=>xm most p.1)=Fe most:=by funext x;exact key x _
 rw[this]
theorem UD(f:Fm):f.near=Fe 536870912 f:=rfl
theorem Yeb(k fr by_:Int)(x:Tm):x.re (zx (up k fr) by_) 0=x.re (zx fr by_) (up k 0):=by
 rw[OX (zx fr by_) (up k 0) x];refine BU x 0 fun p _=> ?_;simp only[Kg];congr 1;have:up k fr=fr+up k 0:=by have:=Pv k 0 fr;rw[Yh,ZD] at this;exact this
 rw[this];by_cases h:p.1-p.2>=fr+up k 0
 .rw[if_pos h,if_pos (by omega)]
 .rw[if_neg h,if_neg (by omega)]
theorem Zxv{fr by_:Int}{t:Tm}(h:t.kind≠1):t.re (zx fr by_) 0= .mk t.kind t.index t.ty (t.args.map fun x=>x.re (zx (up t.kind fr) by_) 0):=by
 rw[wu h];congr 1;exact Xc fun x _=>(Yeb _ _ _ x).symm
def y7(at_:Int)(f:Fm):Nat:=wr at_ (f.AZ 0)
theorem Zsm(at_:Int)(f:Fm):∀b c:Int,wr at_ (f.AZ (b+c))=wr (at_+c) (f.AZ b):=by
 induction f using Fm.ind with
 |h f ih=>
  intro b c;rw[Fm.Ba,Fm.Ba,yr,yr];have e:A3 f.kind (b+c)=A3 f.kind b+c:=by simp only[A3];split<;>omega
  rw[e];congr 1
  .generalize f.terms=l;induction l with
   |nil=>rfl
   |cons x l ihl=>
    simp only[Wn,wr,ihl];rw[show at_+(b+c)=at_+c+b by omega]
  .have:∀l:List Fm,(∀x∈l,x∈f.args)->wr at_ (l.flatMap (Fm.AZ (A3 f.kind b+c)))=wr (at_+c) (l.flatMap (Fm.AZ (A3 f.kind b))):=by
    intro l;induction l with
    |nil=>intro _;rfl
    |cons x l ihl=>intro h;rw[WO,WO,yr,yr,ih x (h x (by simp)),ihl fun y hy=>h y (by simp[hy])]
   exact this f.args fun _ h=>h
theorem Rp{at_:Int}{f:Fm}(hs:f.shape=true):y7 at_ f=(f.terms.map (yt at_)).sum+(f.args.map (y7 (A3 f.kind at_))).sum:=by
 unfold y7;rw[Fm.Ba,yr];congr 1
 .have:∀l:List Tm,(∀x∈l,x.shape=true)->wr at_ (l.map fun t=>(t,(0:Int)))=(l.map (yt at_)).sum:=by
   intro l;induction l with
   |nil=>intro _;rfl
   |cons x l ih=>
    intro h;have h1:=Qj x at_ 0 (h x (by simp));simp only[Wn,Wt,wr];rw[ih fun y hy=>h y (by simp[hy]),XO];rw[XO] at h1;rw[h1]
  exact this f.terms fun x hx=>yg hs hx
 .have:∀l:List Fm,wr at_ (l.flatMap (Fm.AZ (A3 f.kind 0)))=(l.map fun f'=>wr (A3 f.kind at_) (f'.AZ 0)).sum:=by
   intro l;induction l with
   |nil=>rfl
   |cons x l ih=>
    rw[WO,yr,ih,Wn,Wt];congr 1;have h1:=Zsm at_ x 0 (A3 f.kind 0);rw[Yh] at h1;rw[h1];congr 1;simp only[A3];split<;>omega
  exact this f.args
theorem OA(at_:Int)(f:Fm):y7 at_ f<=f.size:=by
 have h1:=JZ at_ (f.AZ 0);have h2:=KF f 0;unfold y7;omega
theorem Yet(at_:Int)(s:Tm)(b:Int)(f:Fm):f.re (fun b t=>t.re (y9 (at_+b) s) 0) b=f.re (fun b t=>t.re (y9 at_ s) b) b:=by
 refine Fm.BU f b fun p _=> ?_;rw[OX (y9 at_ s) p.2];refine BU p.1 0 fun q _=> ?_;simp only[MD];by_cases h:q.1-q.2=at_+p.2
 .rw[if_pos h,if_pos (by omega)];congr 2;omega
 .rw[if_neg h,if_neg (show ¬q.1-(q.2+p.2)=at_ by omega)];by_cases h2:q.1-q.2>at_+p.2
  .rw[if_pos h2,if_pos (by omega)]
  .rw[if_neg h2,if_neg (by omega)]
def wi{α:Type}(f:α->Int):List α->Int
 |[]=>0
 |x::l=>if f x≠0 then f x else wi f l
theorem Ji{α:Type}{f:α->Int}:∀{l:List α} {m:Nat} (hm:m<l.length),(∀j (hj:j<l.length),j<m->f l[j]=0)->f l[m]≠0->wi f l=f l[m]
 |[],m,hm,_,_=>by simp at hm
 |x::l,0,hm,_,h=>by simp only[wi,Wu] at h ⊢;rw[if_pos h]
 |x::l,m+1,hm,h0,h=>by
  have h1:=h0 0 (by simp) (by omega);simp only[Wu] at h1;simp only[wi,WM] at h ⊢;rw[if_neg (by simp[h1])];exact Ji (by simpa using hm) (fun j hj hjm=>by have:=h0 (j+1) (by simpa using hj) (by omega);simpa using this) h
theorem wv{α:Type}{f:α->Int}:∀{l:List α},(∀j (hj:j<l.length),j<l.length->f l[j]=0)->wi f l=0
 |[],_=>rfl
 |x::l,h0=>by
  have h1:=h0 0 (by simp) (by simp);simp only[Wu] at h1;simp only[wi];rw[if_neg (by simp[h1])];exact wv fun j hj hjm=>by have:=h0 (j+1) (by simpa using hj) (by simpa using hj);simpa using this
theorem L5{α:Type}{f:α->Int}{l:List α}(h:∀x∈l,f x=0):wi f l=0:=wv fun j hj _=>h _ (Wi hj)
def tE(g:List Ty)(t:Tm):Int:=if(Ec g t).2≠0 then(Ec g t).2 else if(Ec g t).1.kind≠1 then 7 else 0
mutual
def Fm.Ei(g:List Ty):Fm->Int
 | .mk k h ts as=>if wi (tE g) ts≠0 then wi (tE g) ts else Fm.Hs (if xg k=true then g++[h] else g) as
def Fm.Hs(g:List Ty):List Fm->Int
 |[]=>0
 |f::l=>if f.Ei g≠0 then f.Ei g else Fm.Hs g l
end
theorem Fm.Fl(g:List Ty):∀l:List Fm,Fm.Hs g l=wi (Fm.Ei g) l
 |[]=>rfl
 |f::l=>by rw[Fm.Hs,Fm.Fl g l];rfl
theorem Fm.Fc(g:List Ty)(f:Fm):f.Ei g=if wi (tE g) f.terms≠0 then wi (tE g) f.terms else wi (Fm.Ei (Dx g f)) f.args:=by
 cases f;simp only[Fm.Ei,Fm.Fl,Dx];rfl
def vi(g:List Ty)(f:Fm):Int:=if f.err≠0 then f.err else f.Ei g
def yq(g:List Ty)(f:Fm):Int:=if xd g≠0 then xd g else vi g f
theorem Yew(f:Fm):∀g:List Ty,f.Bg g->f.shape=true->f.size<=4096->f.Ei g=0:=by
 induction f using Fm.ind with
 |h f ih=>
  intro g hok hs hz;have e:=f.size_eq;rw[Fm.Bn] at hok;rw[Fm.Fc];have h1:wi (tE g) f.terms=0:=L5 fun t ht=>by
   have h2:=za Tm.size ht;have h3:t.err=0:=(Tm.Ad t).2 ⟨yg hs ht,by omega⟩;have h4:Ec g t=(Ag,0):=by simp only[Ec];rw[if_neg (by simp[h3]),hok.1 t ht]
   simp only[tE,h4];rfl
  rw[if_neg (by simp[h1])];exact L5 fun x hx=>ih x hx _ (hok.2 x hx) (zv hs hx) (by have:=za Fm.size hx;omega)
theorem RI{f:Fm}{g:List Ty}(h:f.Bg g)(he:f.err=0)(hg:xd g=0):yq g f=0:=by
 have h1:=(Fm.Ad f).1 he;simp only[yq,vi];rw[if_neg (by simp[hg]),if_neg (by simp[he])];exact Yew f g h h1.1 h1.2
mutual
def Ty.cn(most:Int):Ty->Int
 | .mk _ as=>Ty.Av most 1 as
def Ty.Av(most n:Int):List Ty->Int
 |[]=>n
 |x::l=>if n<=most then Ty.Av most (n+x.cn (most-n)) l else n
end
mutual
def Tm.cn(most:Int):Tm->Int
 | .mk _ _ h as=>Tm.Av most (1+h.cn (most-1)) as
def Tm.Av(most n:Int):List Tm->Int
 |[]=>n
 |x::l=>if n<=most then Tm.Av most (n+x.cn (most-n)) l else n
end
mutual
def Fm.cn(most:Int):Fm->Int
 | .mk _ h ts as=>Fm.Av most (Tm.Av most (1+h.cn (most-1)) ts) as
def Fm.Av(most n:Int):List Fm->Int
 |[]=>n
 |x::l=>if n<=most then Fm.Av most (n+x.cn (most-n)) l else n
end
theorem Ty.CN(most:Int)(t:Ty):t.cn most=Ty.Av most 1 t.args:=by cases t;simp only[Ty.cn];rfl
theorem Tm.CN(most:Int)(t:Tm):t.cn most=Tm.Av most (1+t.ty.cn (most-1)) t.args:=by cases t;simp only[Tm.cn];rfl
theorem Fm.CN(most:Int)(t:Fm):t.cn most=Fm.Av most (Tm.Av most (1+t.ty.cn (most-1)) t.terms) t.args:=by cases t;simp only[Fm.cn];rfl
theorem Ty.Bx(most:Int):∀(l l':List Ty) (n:Int),Ty.Av most n (l++l')=Ty.Av most (Ty.Av most n l) l'
 |[],l',n=>by simp only[WW,Ty.Av]
 |x::l,l',n=>by
  simp only[Xu,Ty.Av];by_cases h:n<=most
  .rw[if_pos h,if_pos h];exact Ty.Bx most l l' _
  .rw[if_neg h,if_neg h];cases l' with
   |nil=>simp only[Ty.Av]
   |cons y l'=>simp only[Ty.Av];rw[if_neg h]
theorem Tm.Bx(most:Int):∀(l l':List Tm) (n:Int),Tm.Av most n (l++l')=Tm.Av most (Tm.Av most n l) l'
 |[],l',n=>by simp only[WW,Tm.Av]
 |x::l,l',n=>by
  simp only[Xu,Tm.Av];by_cases h:n<=most
  .rw[if_pos h,if_pos h];exact Tm.Bx most l l' _
  .rw[if_neg h,if_neg h];cases l' with
   |nil=>simp only[Tm.Av]
   |cons y l'=>simp only[Tm.Av];rw[if_neg h]
theorem Fm.Bx(most:Int):∀(l l':List Fm) (n:Int),Fm.Av most n (l++l')=Fm.Av most (Fm.Av most n l) l'
 |[],l',n=>by simp only[WW,Fm.Av]
 |x::l,l',n=>by
  simp only[Xu,Fm.Av];by_cases h:n<=most
  .rw[if_pos h,if_pos h];exact Fm.Bx most l l' _
  .rw[if_neg h,if_neg h];cases l' with
   |nil=>simp only[Fm.Av]
   |cons y l'=>simp only[Fm.Av];rw[if_neg h]
theorem Ty.BZ{most n:Int}(h:¬n<=most):∀l:List Ty,Ty.Av most n l=n
 |[]=>by simp only[Ty.Av]
 |x::l=>by simp only[Ty.Av];rw[if_neg h]
theorem Tm.BZ{most n:Int}(h:¬n<=most):∀l:List Tm,Tm.Av most n l=n
 |[]=>by simp only[Tm.Av]
 |x::l=>by simp only[Tm.Av];rw[if_neg h]
theorem Fm.BZ{most n:Int}(h:¬n<=most):∀l:List Fm,Fm.Av most n l=n
 |[]=>by simp only[Fm.Av]
 |x::l=>by simp only[Fm.Av];rw[if_neg h]
theorem Ty.BN{most n:Int}{l:List Ty}{m:Nat}(hm:m<l.length)(h:Ty.Av most n (l.take m)<=most):Ty.Av most n (l.take (m+1))=Ty.Av most n (l.take m)+l[m].cn (most-Ty.Av most n (l.take m)):=by
 rw[<-Wv hm,Ty.Bx];simp only[Ty.Av];rw[if_pos h]
theorem Tm.BN{most n:Int}{l:List Tm}{m:Nat}(hm:m<l.length)(h:Tm.Av most n (l.take m)<=most):Tm.Av most n (l.take (m+1))=Tm.Av most n (l.take m)+l[m].cn (most-Tm.Av most n (l.take m)):=by
 rw[<-Wv hm,Tm.Bx];simp only[Tm.Av];rw[if_pos h]
theorem Fm.BN{most n:Int}{l:List Fm}{m:Nat}(hm:m<l.length)(h:Fm.Av most n (l.take m)<=most):Fm.Av most n (l.take (m+1))=Fm.Av most n (l.take m)+l[m].cn (most-Fm.Av most n (l.take m)):=by
 rw[<-Wv hm,Fm.Bx];simp only[Fm.Av];rw[if_pos h]
theorem Ty.B2{most n:Int}{l:List Ty}{m:Nat}(h:¬Ty.Av most n (l.take m)<=most):Ty.Av most n l=Ty.Av most n (l.take m):=by
 conv=>lhs;rw[<-Xp m l,Ty.Bx,Ty.BZ h]
theorem Tm.B2{most n:Int}{l:List Tm}{m:Nat}(h:¬Tm.Av most n (l.take m)<=most):Tm.Av most n l=Tm.Av most n (l.take m):=by
 conv=>lhs;rw[<-Xp m l,Tm.Bx,Tm.BZ h]
theorem Fm.B2{most n:Int}{l:List Fm}{m:Nat}(h:¬Fm.Av most n (l.take m)<=most):Fm.Av most n l=Fm.Av most n (l.take m):=by
 conv=>lhs;rw[<-Xp m l,Fm.Bx,Fm.BZ h]
theorem Ty.BR(t:Ty):∀most:Int,1<=t.cn most/\(t.cn most<=1\/t.cn most<=most+1)/\(t.cn most<=most->t.cn most=t.size):=by
 induction t using Ty.ind with
 |h t ih=>
  intro most;rw[Ty.CN,Ty.size_eq];have key:∀(l:List Ty) (n:Int),(∀x∈l,x∈t.args)->n<=Ty.Av most n l/\(Ty.Av most n l<=n\/Ty.Av most n l<=most+1)/\(Ty.Av most n l<=most->Ty.Av most n l=n+(l.map Ty.size).sum):=by
   intro l;induction l with
   |nil=>intro n _;simp only[Ty.Av];refine⟨by omega,.inl (by omega),fun _=>by simp⟩
   |cons x l ihl=>
    intro n hx;simp only[Ty.Av];by_cases h:n<=most
    .rw[if_pos h];obtain⟨a1,a2,a3⟩:=ih x (hx x (by simp)) (most-n);obtain⟨b1,b2,b3⟩:=ihl (n+x.cn (most-n)) fun y hy=>hx y (by simp[hy]);refine⟨by omega,by omega,fun hc=> ?_⟩;rw[b3 hc,a3 (by omega),Wn,Wt];omega
    .rw[if_neg h];exact⟨by omega,.inl (by omega),fun hc=>absurd hc h⟩
  obtain⟨a1,a2,a3⟩:=key t.args 1 fun _ h=>h;exact⟨by omega,by omega,fun h=>by rw[a3 h];omega⟩
theorem Tm.BR(t:Tm):∀most:Int,1<=t.cn most/\(t.cn most<=2\/t.cn most<=most+2)/\(t.cn most<=most->t.cn most=t.full):=by
 induction t using Tm.ind with
 |h t ih=>
  intro most;rw[Tm.CN,Tm.Af];have key:∀(l:List Tm) (n:Int),(∀x∈l,x∈t.args)->n<=Tm.Av most n l/\(Tm.Av most n l<=n\/Tm.Av most n l<=most+2)/\(Tm.Av most n l<=most->Tm.Av most n l=n+(l.map Tm.full).sum):=by
   intro l;induction l with
   |nil=>intro n _;simp only[Tm.Av];refine⟨by omega,.inl (by omega),fun _=>by simp⟩
   |cons x l ihl=>
    intro n hx;simp only[Tm.Av];by_cases h:n<=most
    .rw[if_pos h];obtain⟨a1,a2,a3⟩:=ih x (hx x (by simp)) (most-n);obtain⟨b1,b2,b3⟩:=ihl (n+x.cn (most-n)) fun y hy=>hx y (by simp[hy]);refine⟨by omega,by omega,fun hc=> ?_⟩;rw[b3 hc,a3 (by omega),Wn,Wt];omega
    .rw[if_neg h];exact⟨by omega,.inl (by omega),fun hc=>absurd hc h⟩
  obtain⟨c1,c2,c3⟩:=t.ty.BR (most-1);obtain⟨a1,a2,a3⟩:=key t.args (1+t.ty.cn (most-1)) fun _ h=>h;exact⟨by omega,by omega,fun h=>by rw[a3 h,c3 (by omega)];omega⟩
theorem Tm.DJ(most:Int):∀(l:List Tm) (n:Int),n<=Tm.Av most n l/\(Tm.Av most n l<=n\/Tm.Av most n l<=most+2)/\(Tm.Av most n l<=most->Tm.Av most n l=n+(l.map Tm.full).sum)
 |[],n=>by simp only[Tm.Av];exact⟨by omega,.inl (by omega),fun _=>by simp⟩
 |x::l,n=>by
  simp only[Tm.Av];by_cases h:n<=most
  .rw[if_pos h];obtain⟨a1,a2,a3⟩:=x.BR (most-n);obtain⟨b1,b2,b3⟩:=Tm.DJ most l (n+x.cn (most-n));refine⟨by omega,by omega,fun hc=> ?_⟩;rw[b3 hc,a3 (by omega),Wn,Wt];omega
  .rw[if_neg h];exact⟨by omega,.inl (by omega),fun hc=>absurd hc h⟩
theorem Fm.BR(t:Fm):∀most:Int,1<=t.cn most/\(t.cn most<=2\/t.cn most<=most+2)/\(t.cn most<=most->t.cn most=t.full):=by
 induction t using Fm.ind with
 |h t ih=>
  intro most;rw[Fm.CN,Fm.Af];have key:∀(l:List Fm) (n:Int),(∀x∈l,x∈t.args)->n<=Fm.Av most n l/\(Fm.Av most n l<=n\/Fm.Av most n l<=most+2)/\(Fm.Av most n l<=most->Fm.Av most n l=n+(l.map Fm.full).sum):=by
   intro l;induction l with
   |nil=>intro n _;simp only[Fm.Av];refine⟨by omega,.inl (by omega),fun _=>by simp⟩
   |cons x l ihl=>
    intro n hx;simp only[Fm.Av];by_cases h:n<=most
    .rw[if_pos h];obtain⟨a1,a2,a3⟩:=ih x (hx x (by simp)) (most-n);obtain⟨b1,b2,b3⟩:=ihl (n+x.cn (most-n)) fun y hy=>hx y (by simp[hy]);refine⟨by omega,by omega,fun hc=> ?_⟩;rw[b3 hc,a3 (by omega),Wn,Wt];omega
    .rw[if_neg h];exact⟨by omega,.inl (by omega),fun hc=>absurd hc h⟩
  obtain⟨c1,c2,c3⟩:=t.ty.BR (most-1);obtain⟨d1,d2,d3⟩:=Tm.DJ most t.terms (1+t.ty.cn (most-1));obtain⟨a1,a2,a3⟩:=key t.args (Tm.Av most (1+t.ty.cn (most-1)) t.terms) fun _ h=>h;exact⟨by omega,by omega,fun h=>by rw[a3 h,d3 (by omega),c3 (by omega)];omega⟩
def vm(t:Tm):Bool:=
 if t.kind=3 then(t.arg 0).kind==2
 else if t.kind=6 then(t.arg 2).kind==4||(t.arg 2).kind==5
 else if t.kind=9 then(t.arg 2).kind==7||(t.arg 2).kind==8
 else if t.kind=11\/t.kind=12 then(t.arg 0).kind==10 else false
def Jy(t:Tm):Tm:=
 if t.kind=3 then((t.arg 0).arg 0).re (y9 0 (t.arg 1)) 0
 else if t.kind=6 then
  if(t.arg 2).kind=4 then t.arg 0 else A0 (A0 (t.arg 1) ((t.arg 2).arg 0)) (.mk 6 0 t.ty [t.arg 0,t.arg 1,(t.arg 2).arg 0])
 else if t.kind=9 then
  if(t.arg 2).kind=7 then t.arg 0 else A0 (A0 (A0 (t.arg 1) ((t.arg 2).arg 0)) ((t.arg 2).arg 1)) (.mk 9 0 t.ty [t.arg 0,t.arg 1,(t.arg 2).arg 1])
 else if t.kind=11 then(t.arg 0).arg 0 else(t.arg 0).arg 1
def Fq(t:Tm):Int:=(Jy t).size-t.size
inductive RV:Tm->Tm->Prop
 |beta (i th j s b a):RV (.mk 3 i th [.mk 2 j s [b],a]) (b.re (y9 0 a) 0)
 |rz (i th x f j s):RV (.mk 6 i th [x,f,.mk 4 j s []]) x
 |rs (i th x f j s n):RV (.mk 6 i th [x,f,.mk 5 j s [n]]) (A0 (A0 f n) (.mk 6 0 th [x,f,n]))
 |fz (i th x f j s):RV (.mk 9 i th [x,f,.mk 7 j s []]) x
 |fs (i th x f j s h l):RV (.mk 9 i th [x,f,.mk 8 j s [h,l]]) (A0 (A0 (A0 f h) l) (.mk 9 0 th [x,f,l]))
 |p1 (i th j s x y):RV (.mk 11 i th [.mk 10 j s [x,y]]) x
 |p2 (i th j s x y):RV (.mk 12 i th [.mk 10 j s [x,y]]) y
theorem UJ{t:Tm}(hs:t.shape=true){k:Int}(hk:t.kind=k)(ha:CX k=some 0):∃i th,t= .mk k i th []:=by
 obtain⟨k',i,th,xs⟩:=t;rw[Tm.Al,Wk] at hs;have h:=hs.1;simp only[Tm.head,Wk,Tm.Ai,Tm.Ae] at h hk;subst hk;rw[ha] at h;have e:xs=[]:=WB (by simpa using h.1.1.1);exact⟨i,th,by rw[e]⟩
theorem JU{t:Tm}(hs:t.shape=true)(h:vm t=true):RV t (Jy t):=by
 unfold vm at h;by_cases h3:t.kind=3
 .rw[if_pos h3] at h;obtain⟨i,th,f,a,rfl,hf,ha⟩:=KI hs h3 rfl;simp only[Tm.arg,Tm.Ae,XJ,beq_iff_eq] at h;obtain⟨j,s,b,rfl,hb⟩:=I8 hf h rfl;exact .beta i th j s b a
 rw[if_neg h3] at h;by_cases h6:t.kind=6
 .rw[if_pos h6] at h;obtain⟨i,th,x,f,z,rfl,hx,hf,hz⟩:=Nq hs h6 rfl;simp only[Tm.arg,Tm.Ae,XJ,YJ,Xl,beq_iff_eq] at h;rcases h with h|h
  .obtain ⟨j,s,rfl⟩:=UJ hz h rfl;exact .rz i th x f j s
  .obtain ⟨j,s,n,rfl,hn⟩:=I8 hz h rfl;exact .rs i th x f j s n
 rw[if_neg h6] at h;by_cases h9:t.kind=9
 .rw[if_pos h9] at h;obtain⟨i,th,x,f,z,rfl,hx,hf,hz⟩:=Nq hs h9 rfl;simp only[Tm.arg,Tm.Ae,XJ,YJ,Xl,beq_iff_eq] at h;rcases h with h|h
  .obtain ⟨j,s,rfl⟩:=UJ hz h rfl;exact .fz i th x f j s
  .obtain ⟨j,s,n,l,rfl,hn,hl⟩:=KI hz h rfl;exact .fs i th x f j s n l
 rw[if_neg h9] at h;by_cases h11:t.kind=11
 .rw[if_pos (.inl h11)] at h;obtain⟨i,th,p,rfl,hp⟩:=I8 hs h11 rfl;simp only[Tm.arg,Tm.Ae,XJ,beq_iff_eq] at h;obtain⟨j,s,x,y,rfl,hx,hy⟩:=KI hp h rfl;exact .p1 i th j s x y
 by_cases h12:t.kind=12
 .rw[if_pos (.inr h12)] at h;obtain⟨i,th,p,rfl,hp⟩:=I8 hs h12 rfl;simp only[Tm.arg,Tm.Ae,XJ,beq_iff_eq] at h;obtain⟨j,s,x,y,rfl,hx,hy⟩:=KI hp h rfl;exact .p2 i th j s x y
 .rw[if_neg (by rintro(h|h);exact h11 h;exact h12 h)] at h;cases h
theorem Kc{f x:Tm}(hf:f.shape=true)(hx:x.shape=true):(A0 f x).shape=true:=by
 simp[A0,Tm.shape,Tm.Bc,Tm.head,CX,xx,Ty.BL,hf,hx]
theorem Zu4{t:Tm}(hs:t.shape=true)(h:vm t=true):(Jy t).shape=true:=by
 have hv:=JU hs h;have hargs:=zg hs;generalize Jy t=u at hv;cases hv with
 |beta i th j s b a=>
  have h1:=zg (hargs (.mk 2 j s [b]) (by simp)) b (by simp);exact LH 0 (hargs a (by simp)) h1 (Zk _) (Zk _) fun p hp=>HO b 0 p hp
 |rz=>exact hargs _ (by simp)
 |fz=>exact hargs _ (by simp)
 |rs i th x f j s n=>
  have h1:=zg (hargs (.mk 5 j s [n]) (by simp)) n (by simp);have hx:=hargs x (by simp);have hf:=hargs f (by simp);have hh:th.ok=true:=by rw[Tm.Al,Wk] at hs;have:=hs.1;simp[Tm.head,xx] at this;exact this.2
  refine Kc (Kc hf h1) ?_;simp[Tm.shape,Tm.Bc,Tm.head,CX,xx,hf,hx,h1,hh]
 |fs i th x f j s n l=>
  have h1:=zg (hargs (.mk 8 j s [n,l]) (by simp)) n (by simp);have h2:=zg (hargs (.mk 8 j s [n,l]) (by simp)) l (by simp);have hx:=hargs x (by simp);have hf:=hargs f (by simp);have hh:th.ok=true:=by rw[Tm.Al,Wk] at hs;have:=hs.1;simp[Tm.head,xx] at this;exact this.2
  refine Kc (Kc (Kc hf h1) h2) ?_;simp[Tm.shape,Tm.Bc,Tm.head,CX,xx,hf,hx,h1,h2,hh]
 |p1 i th j s _ y=>exact zg (hargs (.mk 10 j s [u,y]) (by simp)) u (by simp)
 |p2 i th j s x _=>exact zg (hargs (.mk 10 j s [x,u]) (by simp)) u (by simp)
theorem Zy1{C:Int}(hC:0<=C){t u:Tm}(hs:t.shape=true)(h:RV t u)(hf:∀p∈t.vars 0,p.1-p.2<=C):∀p∈u.vars 0,p.1-p.2<=C:=by
 have hargs:=zg hs;cases h with
 |beta i th j s b a=>
  have hb:=zg (hargs (.mk 2 j s [b]) (by simp)) b (by simp);have ha:=hargs a (by simp);intro p hp;rw[Ns _ _ _ hb,WL] at hp;obtain⟨q,hq,hp⟩:=hp;have hq2:=HO b 0 q hq;have hfb:q.1-(q.2+1)<=C:=by
   refine hf (q.1,q.2+1) ?_;have e:b.vars 1=(b.vars 0).map fun p=>(p.1,p.2+1):=by have:=LC b 0 1;simpa using this
   have hm:(q.1,q.2+1)∈b.vars 1:=by rw[e];exact WA.2 ⟨q,hq,rfl⟩
   simp[Tm.vars,Tm.BX,up];exact .inl hm
  rw[MD] at hp;by_cases h0:q.1-q.2=0
  .rw[if_pos h0] at hp;have e:(a.re (zx 0 (0+q.2)) 0).vars q.2=((a.re (zx 0 q.2) 0).vars 0).map fun p=>(p.1,p.2+q.2):=by have:=LC (a.re (zx 0 (0+q.2)) 0) 0 q.2;simpa using this
   rw[e,R6 _ _ _ _ ha,Xq,WA] at hp;obtain⟨r,hr,rfl⟩:=hp;have hfa:=hf r (by
    simp only[Tm.vars,Tm.BX,up,WH];simp[hr])
   simp only[XI];split<;>omega
  .rw[if_neg h0,SE] at hp;simp only[WN] at hp;subst hp;simp only;split<;>omega
 |rz i th x f j s=>intro p hp;refine hf p ?_;simp[Tm.vars,Tm.BX,up,hp]
 |fz i th x f j s=>intro p hp;refine hf p ?_;simp[Tm.vars,Tm.BX,up,hp]
 |rs i th x f j s n=>
  intro p hp;refine hf p ?_;simp[A0,Tm.vars,Tm.BX,up] at hp ⊢;rcases hp with h|h|h|h|h<;>simp[h]
 |fs i th x f j s n l=>
  intro p hp;refine hf p ?_;simp[A0,Tm.vars,Tm.BX,up] at hp ⊢;rcases hp with h|h|h|h|h|h<;>simp[h]
 |p1 i th j s x y=>intro p hp;refine hf p ?_;simp[Tm.vars,Tm.BX,up,hp]
 |p2 i th j s x y=>intro p hp;refine hf p ?_;simp[Tm.vars,Tm.BX,up,hp]
mutual
def Da(room:Int):Tm->Option (Tm×Bool)
 | .mk k i h xs=>if vm (.mk k i h xs)=true then some (if Fq (.mk k i h xs)>room then(A4,false) else(Jy (.mk k i h xs),true)) else(FT room xs).map fun p=>(.mk k i h p.1,p.2)
def FT(room:Int):List Tm->Option (List Tm×Bool)
 |[]=>none
 |x::l=>match Da room x with
  |some p=>some (p.1::l,p.2)
  |none=>(FT room l).map fun q=>(x::q.1,q.2)
end
theorem Gb(room:Int)(t:Tm):Da room t=if vm t=true then some (if Fq t>room then(A4,false) else(Jy t,true)) else(FT room t.args).map fun p=>(.mk t.kind t.index t.ty p.1,p.2):=by
 cases t;simp only[Da];rfl
theorem SX(room:Int):∀(xs:List Tm) (i:Nat) (hi:i<xs.length) (u:Tm×Bool),Da room xs[i]=some u->(∀(j:Nat) (hj:j<xs.length),j<i->Da room xs[j]=none)->FT room xs=some (xs.set i u.1,u.2)
 |[],i,hi,u,h,hn=>by simp at hi
 |x::l,0,hi,u,h,hn=>by
  simp only[Wu] at h;simp only[FT,h];rfl
 |x::l,i+1,hi,u,h,hn=>by
  have h0:=hn 0 (by simp) (by omega);simp only[Wu] at h0;have:=SX room l i (by simpa using hi) u (by simpa using h) fun j hj hji=>by have:=hn (j+1) (by simpa using hj) (by omega);simpa using this
  simp only[FT,h0,this,Xe];rfl
theorem Ti(room:Int):∀(xs:List Tm),(∀(j:Nat) (hj:j<xs.length),j<xs.length->Da room xs[j]=none)->FT room xs=none
 |[],_=>rfl
 |x::l,h=>by
  have h0:=h 0 (by simp) (by simp);simp only[Wu] at h0;have:=Ti room l fun j hj _=>by have:=h (j+1) (by simpa using hj) (by simpa using hj);simpa using this
  simp only[FT,h0,this];rfl
theorem NS(room:Int):∀(xs:List Tm) (q:List Tm×Bool),FT room xs=some q->∃(i:Nat) (hi:i<xs.length) (u:Tm),Da room xs[i]=some (u,q.2)/\q.1=xs.set i u
 |[],q,h=>by simp[FT] at h
 |x::l,q,h=>by
  simp only[FT] at h;cases hx:Da room x with
  |some u=>rw[hx] at h;cases h;exact⟨0,by simp,u.1,by simpa using hx,rfl⟩
  |none=>
   rw[hx] at h;simp only[Wo] at h;obtain⟨r,h1,rfl⟩:=h;obtain⟨i,hi,u,h2,h3⟩:=NS room l r h1;exact⟨i+1,by simpa using hi,u,by simpa using h2,by simp[h3]⟩
theorem UW(room:Int)(t:Tm):∀u,t.shape=true->Da room t=some (u,true)->u.shape=true/\(u.size:Int)<=t.size+room/\∀C:Int,0<=C->∀b:Int,0<=b->(∀p∈t.vars b,p.1-p.2<=C)->∀p∈u.vars b,p.1-p.2<=C:=by
 induction t using Tm.ind with
 |h t ih=>
  intro u hs h;rw[Gb] at h;by_cases hr:vm t=true
  .rw[if_pos hr] at h;by_cases hg:Fq t>room
   .rw[if_pos hg] at h;simp at h
   .rw[if_neg hg] at h;simp at h;subst h;refine⟨Zu4 hs hr,by simp only[Fq] at hg;omega,fun C hC b hb hf=> ?_⟩;have e:∀x:Tm,x.vars b=(x.vars 0).map fun p=>(p.1,p.2+b):=fun x=>by have:=LC x 0 b;simpa using this
    rw[e] at hf ⊢;have:=Zy1 (C:=C+b) (by omega) hs (JU hs hr) fun p hp=>by have:=hf _ (WA.2 ⟨p,hp,rfl⟩);simp only at this;omega
    intro p hp;obtain⟨q,hq,rfl⟩:=WA.1 hp;have:=this q hq;simp only;omega
  .rw[if_neg hr] at h;simp only[Wo] at h;obtain⟨q,h1,h2⟩:=h;obtain⟨i,hi,v,h3,h4⟩:=NS room _ _ h1;have h5:q.2=true:=by simpa using (congrArg Prod.snd h2)
   have h6:u= .mk t.kind t.index t.ty (t.args.set i v):=by rw[<-h4];exact(congrArg Prod.fst h2).symm
   subst h6;rw[h5] at h3;have hm:=Wi hi;obtain⟨i1,i2,i3⟩:=ih _ hm v (zg hs _ hm) h3;refine⟨?_,?_,?_⟩
   .have:(Tm.mk t.kind t.index t.ty t.args).shape=true:=by cases t;exact hs
    exact Zwp this i1
   .have:=RT Tm.size v t.args i hi;rw[Tm.size_eq,Tm.size_eq t];simp only[Tm.Ae];omega
   .intro C hC b hb hf p hp;rw[Tm.AP] at hp hf;simp only[Tm.Ai,Tm.AJ,Tm.Ae,WH] at hp hf;rcases hp with hp|hp
    .exact hf p (.inl hp)
    .obtain ⟨y,hy,hp⟩:=WL.1 hp;have hup:0<=up t.kind b:=by simp only[up];split<;>omega
     rcases YT hy with hy|hyv
     .exact hf p (.inr (WL.2 ⟨y,hy,hp⟩))
     .rw[hyv] at hp;exact i3 C hC _ hup (fun p hp=>hf p (.inr (WL.2 ⟨_,hm,hp⟩))) p hp
mutual
inductive CR:Tm->Tm->Prop
 |node {k i h xs ys} (hp:Fg xs ys):CR (.mk k i h xs) (.mk k i h ys)
 |beta {i th j s b b' a a'} (hb:CR b b') (ha:CR a a'):CR (.mk 3 i th [.mk 2 j s [b],a]) (b'.re (y9 0 a') 0)
 |rz {i th x x' f j s} (hx:CR x x'):CR (.mk 6 i th [x,f,.mk 4 j s []]) x'
 |rs {i th x x' f f' j s n n'} (hx:CR x x') (hf:CR f f') (hn:CR n n'):CR (.mk 6 i th [x,f,.mk 5 j s [n]]) (A0 (A0 f' n') (.mk 6 0 th [x',f',n']))
 |fz {i th x x' f j s} (hx:CR x x'):CR (.mk 9 i th [x,f,.mk 7 j s []]) x'
 |fs {i th x x' f f' j s n n' l l'} (hx:CR x x') (hf:CR f f') (hn:CR n n') (hl:CR l l'):CR (.mk 9 i th [x,f,.mk 8 j s [n,l]]) (A0 (A0 (A0 f' n') l') (.mk 9 0 th [x',f',l']))
 |p1 {i th j s x x' y} (hx:CR x x'):CR (.mk 11 i th [.mk 10 j s [x,y]]) x'
 |p2 {i th j s x y y'} (hy:CR y y'):CR (.mk 12 i th [.mk 10 j s [x,y]]) y'
inductive Fg:List Tm->List Tm->Prop
 |nil:Fg [] []
 |cons {x y xs ys} (h:CR x y) (hs:Fg xs ys):Fg (x::xs) (y::ys)
end
theorem Pb:∀(xs:List Tm),(∀x∈xs,CR x x)->Fg xs xs
 |[],_=> .nil
 |x::l,h=> .cons (h x (by simp)) (Pb l fun y hy=>h y (by simp[hy]))
theorem CR.refl(t:Tm):CR t t:=by
 induction t using Tm.ind with
 |h t ih=>obtain⟨k,i,h,xs⟩:=t;exact .node (Pb xs ih)
theorem Ru:∀(xs:List Tm) (i:Nat) (hi:i<xs.length) (u:Tm),CR xs[i] u->Fg xs (xs.set i u)
 |x::l,0,_,u,h=> .cons h (Pb l fun y _=>CR.refl y)
 |x::l,i+1,hi,u,h=> .cons (CR.refl x) (Ru l i (by simpa using hi) u (by simpa using h))
theorem Ygn{t u:Tm}(h:RV t u):CR t u:=by
 cases h with
 |beta=>exact .beta (.refl _) (.refl _)
 |rz=>exact .rz (.refl _)
 |rs=>exact .rs (.refl _) (.refl _) (.refl _)
 |fz=>exact .fz (.refl _)
 |fs=>exact .fs (.refl _) (.refl _) (.refl _) (.refl _)
 |p1=>exact .p1 (.refl _)
 |p2=>exact .p2 (.refl _)
theorem Yhx(room:Int)(t:Tm):∀u,t.shape=true->Da room t=some (u,true)->CR t u:=by
 induction t using Tm.ind with
 |h t ih=>
  intro u hs h;rw[Gb] at h;by_cases hr:vm t=true
  .rw[if_pos hr] at h;by_cases hg:Fq t>room
   .rw[if_pos hg] at h;simp at h
   .rw[if_neg hg] at h;simp at h;subst h;exact Ygn (JU hs hr)
  .rw[if_neg hr] at h;simp only[Wo] at h;obtain⟨q,h1,h2⟩:=h;obtain⟨i,hi,v,h3,h4⟩:=NS room _ _ h1;have h5:q.2=true:=by simpa using (congrArg Prod.snd h2)
   have h6:u= .mk t.kind t.index t.ty (t.args.set i v):=by rw[<-h4];exact(congrArg Prod.fst h2).symm
   subst h6;rw[h5] at h3;have hm:=Wi hi;have:=ih _ hm v (zg hs _ hm) h3;obtain⟨k,j,th,xs⟩:=t;exact .node (Ru xs i hi v this)
inductive Ge:Tm->Tm->Prop
 |refl (t:Tm):Ge t t
 |step {t s u:Tm} (h:CR t s) (hs:Ge s u):Ge t u
theorem Ge.trans{t s u:Tm}(h:Ge t s):Ge s u->Ge t u:=by
 induction h with
 |refl=>exact id
 |step h1 _ ih=>exact fun h=> .step h1 (ih h)
theorem Ge.one{t u:Tm}(h:CR t u):Ge t u:= .step h (.refl _)
def nf(t:Tm):Prop:=∀u,CR t u->u=t
mutual
theorem N5{room:Int}:∀{t u:Tm},CR t u->Da room t=none->u=t
 |_,_,.node (k:=k) (i:=i) (h:=h) (xs:=xs) (ys:=ys) hp,hn=>by
  rw[Gb] at hn;by_cases hr:vm (.mk k i h xs)=true
  .rw[if_pos hr] at hn;cases hn
  .rw[if_neg hr] at hn;simp only[Zc,Tm.Ae] at hn;rw[Sh hp hn]
 |_,_,.beta ..,hn=>by rw[Gb] at hn;simp[vm,Tm.arg] at hn
 |_,_,.rz ..,hn=>by rw[Gb] at hn;simp[vm,Tm.arg] at hn
 |_,_,.rs ..,hn=>by rw[Gb] at hn;simp[vm,Tm.arg] at hn
 |_,_,.fz ..,hn=>by rw[Gb] at hn;simp[vm,Tm.arg] at hn
 |_,_,.fs ..,hn=>by rw[Gb] at hn;simp[vm,Tm.arg] at hn
 |_,_,.p1 ..,hn=>by rw[Gb] at hn;simp[vm,Tm.arg] at hn
 |_,_,.p2 ..,hn=>by rw[Gb] at hn;simp[vm,Tm.arg] at hn
theorem Sh{room:Int}:∀{xs ys:List Tm},Fg xs ys->FT room xs=none->ys=xs
 |_,_,.nil,_=>rfl
 |_,_,.cons (x:=x) (xs:=xs) h hs,hn=>by
  simp only[FT] at hn;cases hx:Da room x with
  |some p=>rw[hx] at hn;cases hn
  |none=>
   rw[hx] at hn;simp only[Zc] at hn;rw[N5 h hx,Sh hs hn]
end
def Ee:Nat->Tm->Nat->Tm×Int×Int
 |0,t,n=>match Da (4096-t.size) t with
  |none=>(t,n,0)
  |some _=>(A4,0,5)
 |k+1,t,n=>match Da (4096-t.size) t with
  |none=>(t,n,0)
  |some (x,true)=>Ee k x (n+1)
  |some (_,false)=>(A4,0,4)
def xp(t:Tm)(steps:Int):Tm×Int×Int:=
 if t.err≠0 then(A4,0,t.err) else if ¬(0<=steps/\steps<=65536)\/t.near=false then(A4,0,1) else Ee steps.toNat t 0
def GK(a b:Tm)(steps:Int):Int:=
 if a.err≠0 then a.err else if b.err≠0 then b.err else if a=b then 0
 else if(xp a steps).2.2≠0 then(xp a steps).2.2 else if(xp b steps).2.2≠0 then(xp b steps).2.2
 else if(xp a steps).1=(xp b steps).1 then 0 else 11
theorem QT{t u:Tm}(he:t.err=0)(h:Da (4096-t.size) t=some (u,true)):u.err=0:=by
 obtain⟨h1,h2⟩:=vb he;obtain⟨h3,h4,_⟩:=UW _ t u h1 h;exact(Tm.Ad _).2 ⟨h3,by omega⟩
theorem QI:∀(k:Nat) (t:Tm) (n:Nat),t.err=0->(Ee k t n).2.2=0->Ge t (Ee k t n).1/\nf (Ee k t n).1/\(Ee k t n).1.err=0
 |0,t,n,he,h=>by
  simp only[Ee] at h ⊢;cases hx:Da (4096-t.size) t with
  |none=>rw[hx] at h;exact⟨.refl _,fun u hu=>N5 hu hx,he⟩
  |some p=>rw[hx] at h;cases h
 |k+1,t,n,he,h=>by
  simp only[Ee] at h ⊢;cases hx:Da (4096-t.size) t with
  |none=>rw[hx] at h;exact⟨.refl _,fun u hu=>N5 hu hx,he⟩
  |some p=>
   obtain⟨x,f⟩:=p;rw[hx] at h;cases f with
   |false=>cases h
   |true=>
    obtain⟨i1,i2,i3⟩:=QI k x (n+1) (QT he hx) h;exact⟨.step (Yhx _ t x (vb he).1 hx) i1,i2,i3⟩
theorem Vs(t:Tm)(steps:Int)(h:(xp t steps).2.2=0):(xp t steps).1.full<274877906944:=by
 unfold xp at h ⊢;by_cases he:t.err=0
 .rw[if_neg (by simp[he])] at h ⊢;by_cases hc:¬(0<=steps/\steps<=65536)\/t.near=false
  .rw[if_pos hc] at h;cases h
  .rw[if_neg hc] at h ⊢;obtain⟨_,_,h3⟩:=QI _ _ _ he h;have:=z6 h3;omega
 .rw[if_pos he] at h;exact absurd h he
def Gc:List Tm->List Tm->Int
 |x::l,y::m=>if GK x y 1000≠0 then GK x y 1000 else Gc l m
 |_,_=>0
mutual
def F9:Fm->Fm->Int
 | .mk k ty ts xs,.mk k' ty' ts' xs'=>if k=k'/\ty=ty' then(if Gc ts ts'≠0 then Gc ts ts' else GP xs xs') else 11
def GP:List Fm->List Fm->Int
 |x::l,y::m=>if F9 x y≠0 then F9 x y else GP l m
 |_,_=>0
end
theorem Yio(f g:Fm):F9 f g=if f.kind=g.kind/\f.ty=g.ty then(if Gc f.terms g.terms≠0 then Gc f.terms g.terms else GP f.args g.args) else 11:=by
 cases f;cases g;simp only[F9];rfl
theorem Ts:∀(l m:List Tm) (i:Nat) (hi:i<l.length) (hj:i<m.length),(∀j (h1:j<l.length) (h2:j<m.length),j<i->GK l[j] m[j] 1000=0)->GK l[i] m[i] 1000≠0->Gc l m=GK l[i] m[i] 1000
 |x::l,y::m,0,_,_,_,h=>by simp only[Wu] at h ⊢;simp only[Gc];rw[if_pos h]
 |x::l,y::m,i+1,hi,hj,hn,h=>by
  have h0:=hn 0 (by simp) (by simp) (by omega);simp only[Gc];rw[if_neg (by simpa using h0)];exact Ts l m i (by simpa using hi) (by simpa using hj) (fun j h1 h2 hji=>by have:=hn (j+1) (by simpa using h1) (by simpa using h2) (by omega);simpa using this) (by simpa using h)
theorem TB:∀(l m:List Tm),(∀j (h1:j<l.length) (h2:j<m.length),GK l[j] m[j] 1000=0)->Gc l m=0
 |[],_,_=>by simp only[Gc]
 |_::_,[],_=>by simp only[Gc]
 |x::l,y::m,hn=>by
  have h0:=hn 0 (by simp) (by simp);simp only[Gc];rw[if_neg (by simpa using h0)];exact TB l m fun j h1 h2=>by have:=hn (j+1) (by simpa using h1) (by simpa using h2);simpa using this
theorem U2:∀(l m:List Fm) (i:Nat) (hi:i<l.length) (hj:i<m.length),(∀j (h1:j<l.length) (h2:j<m.length),j<i->F9 l[j] m[j]=0)->F9 l[i] m[i]≠0->GP l m=F9 l[i] m[i]
 |x::l,y::m,0,_,_,_,h=>by simp only[Wu] at h ⊢;simp only[GP];rw[if_pos h]
 |x::l,y::m,i+1,hi,hj,hn,h=>by
  have h0:=hn 0 (by simp) (by simp) (by omega);simp only[GP];rw[if_neg (by simpa using h0)];exact U2 l m i (by simpa using hi) (by simpa using hj) (fun j h1 h2 hji=>by have:=hn (j+1) (by simpa using h1) (by simpa using h2) (by omega);simpa using this) (by simpa using h)
theorem RQ:∀(l m:List Fm),(∀j (h1:j<l.length) (h2:j<m.length),F9 l[j] m[j]=0)->GP l m=0
 |[],_,_=>by simp only[GP]
 |_::_,[],_=>by simp only[GP]
 |x::l,y::m,hn=>by
  have h0:=hn 0 (by simp) (by simp);simp only[GP];rw[if_neg (by simpa using h0)];exact RQ l m fun j h1 h2=>by have:=hn (j+1) (by simpa using h1) (by simpa using h2);simpa using this
def Nk(f g:Fm):Int:=if f.err≠0 then f.err else if g.err≠0 then g.err else F9 f g
@[simp] theorem Pf.Ai(k i:Int)(h:Ty)(ts:List Tm)(fs:List Fm)(as:List Pf):(Pf.mk k i h ts fs as).kind=k:=rfl
@[simp] theorem Pf.AJ(k i:Int)(h:Ty)(ts:List Tm)(fs:List Fm)(as:List Pf):(Pf.mk k i h ts fs as).index=i:=rfl
@[simp] theorem Pf.AQ(k i:Int)(h:Ty)(ts:List Tm)(fs:List Fm)(as:List Pf):(Pf.mk k i h ts fs as).ty=h:=rfl
@[simp] theorem Pf.Ah(k i:Int)(h:Ty)(ts:List Tm)(fs:List Fm)(as:List Pf):(Pf.mk k i h ts fs as).terms=ts:=rfl
@[simp] theorem Pf.Ak(k i:Int)(h:Ty)(ts:List Tm)(fs:List Fm)(as:List Pf):(Pf.mk k i h ts fs as).Ac=fs:=rfl
@[simp] theorem Pf.Ae(k i:Int)(h:Ty)(ts:List Tm)(fs:List Fm)(as:List Pf):(Pf.mk k i h ts fs as).args=as:=rfl
structure Nd where
 terms:Nat
 Ac:Nat
 args:Nat
 index:Bool
 typ:Bool
def OW:Nd:=⟨0,0,0,false,false⟩
def BD(k:Int):Option Nd:=
 if k=1\/k=2 then some ⟨0,0,0,true,false⟩
 else if k=3\/k=7 then some ⟨0,0,2,false,false⟩
 else if k=4\/k=5\/k=20 then some ⟨0,0,1,false,false⟩
 else if k=6 then some ⟨0,1,1,false,false⟩
 else if k=8\/k=12 then some ⟨0,0,1,false,true⟩
 else if k=9\/k=13 then some ⟨1,0,1,false,false⟩
 else if k=10\/k=14 then some ⟨1,1,1,false,false⟩
 else if k=11\/k=15 then some ⟨0,0,2,false,false⟩
 else if k=16\/k=17 then some ⟨1,1,2,false,false⟩
 else if k=18 then some ⟨1,0,0,false,false⟩
 else if k=19 then some ⟨0,1,2,false,false⟩ else none
def Nd.view(n:Nd):List V:=[.i n.terms,.i n.Ac,.i n.args,.bool n.index,.bool n.typ]
def Pf.head(p:Pf):Bool:=match BD p.kind with
 |none=>false
 |some n=>p.terms.length==n.terms&&p.Ac.length==n.Ac&&p.args.length==n.args&&decide (0<=p.index)&&(n.index||p.index==0)&&(if n.typ=true then p.ty.ok else p.ty.BL)
mutual
def Pf.shape:Pf->Bool
 | .mk k i h ts fs as=>Pf.head (.mk k i h ts fs as)&&ts.all Tm.shape&&fs.all Fm.shape&&Pf.Bc as
def Pf.Bc:List Pf->Bool
 |[]=>true
 |f::l=>f.shape&&Pf.Bc l
end
mutual
def Pf.size:Pf->Nat
 | .mk _ _ _ ts fs as=>1+(ts.map Tm.size).sum+(fs.map Fm.size).sum+Pf.sizes as
def Pf.sizes:List Pf->Nat
 |[]=>0
 |f::l=>f.size+Pf.sizes l
end
mutual
def Pf.full:Pf->Nat
 | .mk _ _ h ts fs as=>1+h.size+(ts.map Tm.full).sum+(fs.map Fm.full).sum+Pf.Au as
def Pf.Au:List Pf->Nat
 |[]=>0
 |f::l=>f.full+Pf.Au l
end
mutual
def Pf.small:Pf->Bool
 | .mk _ _ _ ts fs as=>ts.all (fun t=>decide (t.size<=4096))&&fs.all (fun f=>decide (f.size<=4096))&&Pf.Am as
def Pf.Am:List Pf->Bool
 |[]=>true
 |f::l=>f.small&&Pf.Am l
end
theorem Pf.Bq:∀l:List Pf,Pf.Bc l=l.all Pf.shape
 |[]=>rfl
 |f::l=>by rw[Pf.Bc,Pf.Bq l];rfl
theorem Pf.BF:∀l:List Pf,Pf.sizes l=(l.map Pf.size).sum
 |[]=>rfl
 |f::l=>by rw[Pf.sizes,Pf.BF l];rfl
theorem Pf.B3:∀l:List Pf,Pf.Au l=(l.map Pf.full).sum
 |[]=>rfl
 |f::l=>by rw[Pf.Au,Pf.B3 l];rfl
theorem Pf.Ea:∀l:List Pf,Pf.Am l=l.all Pf.small
 |[]=>rfl
 |f::l=>by rw[Pf.Am,Pf.Ea l];rfl
theorem Pf.Al(p:Pf):p.shape=(p.head&&p.terms.all Tm.shape&&p.Ac.all Fm.shape&&p.args.all Pf.shape):=by cases p;simp only[Pf.shape,Pf.Bq];rfl
theorem Pf.size_eq(p:Pf):p.size=1+(p.terms.map Tm.size).sum+(p.Ac.map Fm.size).sum+(p.args.map Pf.size).sum:=by cases p;simp only[Pf.size,Pf.BF];rfl
theorem Pf.Af(p:Pf):p.full=1+p.ty.size+(p.terms.map Tm.full).sum+(p.Ac.map Fm.full).sum+(p.args.map Pf.full).sum:=by cases p;simp only[Pf.full,Pf.B3];rfl
theorem Pf.BT(p:Pf):p.small=(p.terms.all (fun t=>decide (t.size<=4096))&&p.Ac.all (fun f=>decide (f.size<=4096))&&p.args.all Pf.small):=by cases p;simp only[Pf.small,Pf.Ea];rfl
theorem Pf.Aa(p:Pf):1<=p.full:=by rw[Pf.Af];omega
theorem Pf.size_pos(p:Pf):1<=p.size:=by rw[Pf.size_eq];omega
theorem Pf.ind{P:Pf->Prop}(h:∀f,(∀x∈f.args,P x)->P f)(f:Pf):P f:=by
 have:∀n,∀f:Pf,f.full<=n->P f:=by
  intro n;induction n with
  |zero=>intro f h;have:=f.Aa;omega
  |succ n ih=>
   intro f hf;refine h f fun x hx=>ih x ?_;have:=za Pf.full hx;have:=f.Af;omega
 exact this _ f (Wj _)
theorem Pf.Aj(p:Pf):p.size<=p.full:=by
 induction p using Pf.ind with
 |h p ih=>
  rw[p.size_eq,p.Af];have h1:=yw (f:=Pf.size) (g:=Pf.full) p.args ih;have h2:=yw (f:=Tm.size) (g:=Tm.full) p.terms fun x _=>x.Aj;have h3:=yw (f:=Fm.size) (g:=Fm.full) p.Ac fun x _=>x.Aj;omega
def Pf.err(p:Pf):Int:=if p.shape=false then 2 else if p.small=false\/p.size>16384 then 4 else 0
theorem Pf.Ad(p:Pf):p.err=0↔p.shape=true/\p.small=true/\p.size<=16384:=by
 unfold Pf.err;cases hs:p.shape with
 |false=>simp
 |true=>
  cases hm:p.small with
  |false=>simp
  |true=>
   by_cases h:p.size>16384
   .rw[if_neg (by simp),if_pos (.inr h)];constructor
    .intro h;cases h
    .rintro ⟨_,_,h2⟩;omega
   .rw[if_neg (by simp),if_neg (by simp;omega)];exact⟨fun _=>⟨rfl,rfl,by omega⟩,fun _=>rfl⟩
def BM:Pf:= .mk 0 0 (.mk 0 []) [] [] []
def wm(t:Tm):Pf:= .mk 18 0 (.mk 0 []) [t] [] []
theorem Zux{f g:Fm}(hf:f.shape=true)(hg:g.shape=true)(hk:f.kind=g.kind):f.terms.length=g.terms.length/\f.args.length=g.args.length:=by
 rw[Fm.Al,Wk,Wk] at hf hg;have h1:=hf.1.1;have h2:=hg.1.1;unfold Fm.head at h1 h2;rw[<-hk] at h2;by_cases k1:f.kind=1
 .rw[if_pos k1] at h1 h2;simp only[Wk,beq_iff_eq] at h1 h2;omega
 rw[if_neg k1] at h1 h2;by_cases k2:f.kind=2\/f.kind=3
 .rw[if_pos k2] at h1 h2;simp only[Wk,beq_iff_eq] at h1 h2;omega
 rw[if_neg k2] at h1 h2;by_cases k4:f.kind=4\/f.kind=5\/f.kind=6\/f.kind=7
 .rw[if_pos k4] at h1 h2;simp only[Wk,beq_iff_eq] at h1 h2;omega
 rw[if_neg k4] at h1;cases h1
end Go.Ab
