/- A part of the proofs of this seat. No conditions. -/
import Derived.Test.YtpnbmjgblakifaaGreatDoorA2
namespace Go.Ab
open Go
set_option linter.all false
@[simp] theorem Ygu(E:Env)(T:Nat)(k:IntKind)(n:Int):za E T (.int k n)= .int k n:=rfl
@[simp] theorem Yd8(E:Env)(T:Nat)(b:Bool):za E T (.bool b)= .bool b:=rfl
@[simp] theorem Ygw(E:Env)(T:Nat)(s:ByteArray):za E T (.string s)= .str s:=rfl
theorem yl{α:Type}(f:α->Nat)(l:List α):∀m (h:m<l.length),((l.take (m+1)).map f).sum=((l.take m).map f).sum+f l[m]:=by
 induction l with
 |nil=>intro m h;simp at h
 |cons t l ih=>
  intro m h;cases m with
  |zero=>simp
  |succ m=>simp only[List.length_cons] at h;simp only[List.take_succ_cons,List.map_cons,List.sum_cons,List.getElem_cons_succ,ih m (by omega)];omega
theorem zc{α:Type}(f:α->Nat){l:List α}{t:α}(h:t∈l):f t<=(l.map f).sum:=by
 induction l with
 |nil=>cases h
 |cons x l ih=>rcases List.mem_cons.1 h with rfl|h;· simp
               ·have:=ih h;simp only[List.map_cons,List.sum_cons];omega
theorem zn{α:Type}(f:α->Nat)(l:List α)(m:Nat):((l.take m).map f).sum<=(l.map f).sum:=by
 induction l generalizing m with
 |nil=>simp
 |cons t l ih=>cases m with
  |zero=>simp
  |succ m=>have:=ih m;simp only[List.take_succ_cons,List.map_cons,List.sum_cons];omega
theorem zd{α:Type}(f:α->Nat)(hf:∀x,1<=f x):∀l:List α,l.length<=(l.map f).sum
 |[]=>Nat.le_refl _
 |x::l=>by have:=zd f hf l;have:=hf x;simp only[List.length_cons,List.map_cons,List.sum_cons];omega
theorem Fk{α:Type}(p:α->Bool)(l:List α)(h:∀j (hj:j<l.length),p l[j]=true):l.all p=true:=by
 rw[List.all_eq_true];intro x hx;obtain⟨j,hj,rfl⟩:=List.mem_iff_getElem.1 hx;exact h j hj
theorem vh{α:Type}(p:α->Bool){l:List α}{j:Nat}(hj:j<l.length)(h:p l[j]=false):l.all p=false:=by
 cases hb:l.all p with
 |false=>rfl
 |true=>rw[List.all_eq_true.1 hb _ (List.getElem_mem hj)] at h;cases h
theorem yc{α:Type}{p:α->Prop}{l:List α}{m:Nat}(hm:m<l.length)(h:∀j (hj:j<l.length),j<m->p l[j])(h1:p l[m]):∀j (hj:j<l.length),j<m+1->p l[j]:=by
 intro j hj hlt;by_cases hjm:j=m
 ·subst hjm;exact h1
 ·exact h j hj (by omega)
def DF(k:Int):Option Nat:=if k=1\/k=2\/k=5 then some 0 else if k=3\/k=4 then some 2 else none
mutual
def Ty.shape:Ty->Bool
 | .mk k xs=>(match DF k with|some n=>xs.length==n|none=>false)&&Ty.Bb xs
def Ty.Bb:List Ty->Bool
 |[]=>true
 |t::l=>t.shape&&Ty.Bb l
end
mutual
def Ty.size:Ty->Nat
 | .mk _ xs=>1+Ty.sizes xs
def Ty.sizes:List Ty->Nat
 |[]=>0
 |t::l=>t.size+Ty.sizes l
end
theorem Ty.BG:∀l:List Ty,Ty.sizes l=(l.map Ty.size).sum
 |[]=>rfl
 |t::l=>by simp only[Ty.sizes,Ty.BG l,List.map_cons,List.sum_cons]
theorem Ty.Bt:∀l:List Ty,Ty.Bb l=l.all Ty.shape
 |[]=>rfl
 |t::l=>by simp only[Ty.Bb,Ty.Bt l,List.all_cons]
theorem Ty.size_eq(t:Ty):t.size=1+(t.args.map Ty.size).sum:=by cases t;simp only[Ty.size,Ty.BG,Ty.Ad]
theorem Ty.Ak(t:Ty):t.shape=((match DF t.kind with|some n=>t.args.length==n|none=>false)&&t.args.all Ty.shape):=by cases t;simp only[Ty.shape,Ty.Bt,Ty.Ad,Ty.Ah]
theorem Ty.size_pos(t:Ty):1<=t.size:=by rw[Ty.size_eq];omega
def Ty.nodes(t:Ty):Nat:=if t.shape then t.size else 0
theorem Ty.DL(t:Ty):t.nodes<=t.size:=by simp only[Ty.nodes];split<;>omega
theorem Ty.ind{P:Ty->Prop}(h:∀t,(∀x∈t.args,P x)->P t)(t:Ty):P t:=by
 have:∀b (t:Ty),t.size<=b->P t:=by
  intro b;induction b with
  |zero=>intro t ht;have:=t.size_pos;omega
  |succ b ih=>
   intro t ht;refine h t fun x hx=>ih x ?_;have:=zc Ty.size hx;have:=t.size_eq;omega
 exact this _ t (Nat.le_refl _)
def CV(k:Int):Option Nat:=
 if k=1\/k=4\/k=7\/k=13 then some 0 else if k=2\/k=5\/k=11\/k=12 then some 1 else if k=3\/k=8\/k=10 then some 2 else if k=6\/k=9 then some 3 else none
def wg(k:Int):Bool:=k==2||k==6||k==9
def Ty.BI(t:Ty):Bool:=t.kind==0&&t.args.length==0
def Ty.ok(t:Ty):Bool:=t.shape&&decide (t.size<=64)
def Tm.head(t:Tm):Bool:=(match CV t.kind with|some n=>t.args.length==n|none=>false)&&decide (0<=t.index)&&(t.index==0||t.kind==1)&&(bif wg t.kind then t.ty.ok else t.ty.BI)
mutual
def Tm.shape:Tm->Bool
 | .mk k i h xs=>(Tm.mk k i h xs).head&&Tm.Bb xs
def Tm.Bb:List Tm->Bool
 |[]=>true
 |t::l=>t.shape&&Tm.Bb l
end
mutual
def Tm.size:Tm->Nat
 | .mk _ _ _ xs=>1+Tm.sizes xs
def Tm.sizes:List Tm->Nat
 |[]=>0
 |t::l=>t.size+Tm.sizes l
end
mutual
def Tm.full:Tm->Nat
 | .mk _ _ h xs=>1+h.size+Tm.Au xs
def Tm.Au:List Tm->Nat
 |[]=>0
 |t::l=>t.full+Tm.Au l
end
theorem Tm.BG:∀l:List Tm,Tm.sizes l=(l.map Tm.size).sum
 |[]=>rfl
 |t::l=>by simp only[Tm.sizes,Tm.BG l,List.map_cons,List.sum_cons]
theorem Tm.B2:∀l:List Tm,Tm.Au l=(l.map Tm.full).sum
 |[]=>rfl
 |t::l=>by simp only[Tm.Au,Tm.B2 l,List.map_cons,List.sum_cons]
theorem Tm.Bt:∀l:List Tm,Tm.Bb l=l.all Tm.shape
 |[]=>rfl
 |t::l=>by simp only[Tm.Bb,Tm.Bt l,List.all_cons]
theorem Tm.size_eq(t:Tm):t.size=1+(t.args.map Tm.size).sum:=by cases t;simp only[Tm.size,Tm.BG,Tm.Ad]
theorem Tm.Ag(t:Tm):t.full=1+t.ty.size+(t.args.map Tm.full).sum:=by cases t;simp only[Tm.full,Tm.B2,Tm.Ad,Tm.AL]
theorem Tm.Ak(t:Tm):t.shape=(t.head&&t.args.all Tm.shape):=by cases t;simp only[Tm.shape,Tm.Bt,Tm.Ad]
theorem Tm.size_pos(t:Tm):1<=t.size:=by rw[Tm.size_eq];omega
theorem Tm.Aa(t:Tm):1<=t.full:=by rw[Tm.Ag];omega
theorem Tm.ind{P:Tm->Prop}(h:∀t,(∀x∈t.args,P x)->P t)(t:Tm):P t:=by
 have:∀b (t:Tm),t.size<=b->P t:=by
  intro b;induction b with
  |zero=>intro t ht;have:=t.size_pos;omega
  |succ b ih=>
   intro t ht;refine h t fun x hx=>ih x ?_;have:=zc Tm.size hx;have:=t.size_eq;omega
 exact this _ t (Nat.le_refl _)
theorem Tm.Aj(t:Tm):t.size<=t.full:=by
 induction t using Tm.ind with
 |h t ih=>
  have:∀l:List Tm,(∀x∈l,x.size<=x.full)->(l.map Tm.size).sum<=(l.map Tm.full).sum:=by
   intro l;induction l with
   |nil=>intro _;simp
   |cons x l ih=>intro h;have:=ih fun y hy=>h y (by simp[hy]);have:=h x (by simp);simp only[List.map_cons,List.sum_cons];omega
  have:=this t.args ih;rw[t.size_eq,t.Ag];omega
def Tm.nodes(t:Tm):Nat:=if t.shape then t.size else 0
theorem Tm.DL(t:Tm):t.nodes<=t.size:=by simp only[Tm.nodes];split<;>omega
def Ty.err(t:Ty):Int:=if t.shape=false then 2 else if t.size>64 then 4 else 0
def Ty.num(t:Ty):Int:=if t.err=0 then t.size else 0
def BF:Ty:= .mk 0 []
def Tm.err(t:Tm):Int:=if t.shape=false then 2 else if t.size>4096 then 4 else 0
def Tm.num(t:Tm):Int:=if t.err=0 then t.size else 0
def A0:Tm:= .mk 0 0 (.mk 0 []) []
def Mz(t:Ty):V:= .Az [.i t.nodes,.bool t.shape]
def Jk(t:Tm):V:= .Az [.i t.nodes,.bool t.shape]
abbrev big:Nat:=1099511627776
end Go.Ab
namespace Go.Ab
set_option linter.all false
mutual
def Ty.same:Ty->Ty->Bool
 | .mk k xs,.mk k' ys=>k==k'&&Ty.BH xs ys
def Ty.BH:List Ty->List Ty->Bool
 |[],[]=>true
 |x::xs,y::ys=>x.same y&&Ty.BH xs ys
 |_,_=>false
end
mutual
theorem Ty.B1:∀a b:Ty,a.same b=true↔a=b
 | .mk k xs,.mk k' ys=>by simp only[Ty.same,Bool.and_eq_true,beq_iff_eq,Ty.mk.injEq,Ty.BQ xs ys]
theorem Ty.BQ:∀a b:List Ty,Ty.BH a b=true↔a=b
 |[],[]=>by simp[Ty.BH]
 |x::xs,y::ys=>by simp only[Ty.BH,Bool.and_eq_true,List.cons.injEq,Ty.B1 x y,Ty.BQ xs ys]
 |[],_::_=>by simp[Ty.BH]
 |_::_,[]=>by simp[Ty.BH]
end
instance:DecidableEq Ty:=fun a b=>decidable_of_iff _ (Ty.B1 a b)
mutual
def Tm.same:Tm->Tm->Bool
 | .mk k i h xs,.mk k' i' h' ys=>k==k'&&i==i'&&decide (h=h')&&Tm.BH xs ys
def Tm.BH:List Tm->List Tm->Bool
 |[],[]=>true
 |x::xs,y::ys=>x.same y&&Tm.BH xs ys
 |_,_=>false
end
mutual
theorem Tm.B1:∀a b:Tm,a.same b=true↔a=b
 | .mk k i h xs,.mk k' i' h' ys=>by simp only[Tm.same,Bool.and_eq_true,beq_iff_eq,Tm.mk.injEq,Tm.BQ xs ys,decide_eq_true_eq,and_assoc]
theorem Tm.BQ:∀a b:List Tm,Tm.BH a b=true↔a=b
 |[],[]=>by simp[Tm.BH]
 |x::xs,y::ys=>by simp only[Tm.BH,Bool.and_eq_true,List.cons.injEq,Tm.B1 x y,Tm.BQ xs ys]
 |[],_::_=>by simp[Tm.BH]
 |_::_,[]=>by simp[Tm.BH]
end
instance:DecidableEq Tm:=fun a b=>decidable_of_iff _ (Tm.B1 a b)
theorem Ty.eq_iff(a b:Ty):a=b↔a.kind=b.kind/\a.args=b.args:=by cases a;cases b;simp
theorem Tm.eq_iff(a b:Tm):a=b↔a.kind=b.kind/\a.index=b.index/\a.ty=b.ty/\a.args=b.args:=by cases a;cases b;simp
theorem Um{α:Type}{xs ys:List α}(hl:xs.length=ys.length)(h:∀j (hj:j<xs.length),j<xs.length->xs[j]=ys[j]'(by omega)):xs=ys:=
 List.ext_getElem hl fun i h1 h2=>h i h1 h1
theorem W4{α:Type}{xs ys:List α}{m:Nat}(h1:m<xs.length)(h2:m<ys.length)(h:¬xs[m]=ys[m]):¬xs=ys:=fun he=>by subst he;exact h rfl
theorem U8{α:Type}{xs ys:List α}(hl:xs.length=ys.length){m:Nat}(hm:m<xs.length)(h:∀j (hj:j<xs.length),j<m->xs[j]=ys[j]'(by omega))(h1:xs[m]=ys[m]'(by omega)):∀j (hj:j<xs.length),j<m+1->xs[j]=ys[j]'(by omega):=by
 intro j hj hlt;by_cases hjm:j=m
 ·subst hjm;exact h1
 ·exact h j hj (by omega)
def up(k b:Int):Int:=if k=2 then b+1 else b
mutual
def Tm.vars(b:Int):Tm->List (Int×Int)
 | .mk k i _ xs=>(if k=1 then [(i,b)] else [])++Tm.BX (up k b) xs
def Tm.BX(b:Int):List Tm->List (Int×Int)
 |[]=>[]
 |t::l=>t.vars b++Tm.BX b l
end
theorem Tm.EO(b:Int):∀l:List Tm,Tm.BX b l=l.flatMap (Tm.vars b)
 |[]=>rfl
 |t::l=>by simp only[Tm.BX,Tm.EO b l,List.flatMap_cons]
theorem Tm.AQ(b:Int)(t:Tm):t.vars b=(if t.kind=1 then [(t.index,b)] else [])++t.args.flatMap (Tm.vars (up t.kind b)):=by cases t;simp only[Tm.vars,Tm.EO,Tm.Ah,Tm.Ay,Tm.Ad];rfl
mutual
def Tm.re(g:Int->Int->Tm)(b:Int):Tm->Tm
 | .mk k i h xs=>if k=1 then g i b else .mk k i h (Tm.res g (up k b) xs)
def Tm.res(g:Int->Int->Tm)(b:Int):List Tm->List Tm
 |[]=>[]
 |t::l=>t.re g b::Tm.res g b l
end
theorem Tm.DI(g:Int->Int->Tm)(b:Int):∀l:List Tm,Tm.res g b l=l.map (Tm.re g b)
 |[]=>rfl
 |t::l=>by simp only[Tm.res,Tm.DI g b l,List.map_cons]
theorem Tm.Bj(g:Int->Int->Tm)(b:Int)(t:Tm):t.re g b=if t.kind=1 then g t.index b else .mk t.kind t.index t.ty (t.args.map (Tm.re g (up t.kind b))):=by cases t;simp only[Tm.re,Tm.DI,Tm.Ah,Tm.Ay,Tm.Ad,Tm.AL];rfl
theorem Ky{α β:Type}(f:α->List β)(l:List α)(m:Nat)(h:m<l.length):(l.take (m+1)).flatMap f=(l.take m).flatMap f++f l[m]:=by
 rw[<-List.take_append_getElem h,List.flatMap_append];simp
theorem z8{α β:Type}(f:α->β)(l:List α)(m:Nat)(h:m<l.length):(l.take (m+1)).map f=(l.take m).map f++[f l[m]]:=by
 rw[<-List.take_append_getElem h,List.map_append];simp
theorem y0{α:Type}{f g:α->Nat}:∀(l:List α),(∀x∈l,f x<=g x)->(l.map f).sum<=(l.map g).sum
 |[],_=>Nat.le_refl _
 |x::l,h=>by have:=y0 l fun y hy=>h y (by simp[hy]);have:=h x (by simp);simp only[List.map_cons,List.sum_cons];omega
theorem UX(l:List Tm)(f:Tm->List (Int×Int))(h:∀x∈l,(f x).length<=x.size):(l.flatMap f).length<=(l.map Tm.size).sum:=by
 induction l with
 |nil=>simp
 |cons x l ih=>
  have:=ih fun y hy=>h y (by simp[hy]);have:=h x (by simp);simp only[List.flatMap_cons,List.length_append,List.map_cons,List.sum_cons];omega
theorem Tm.CH(t:Tm):∀b,(t.vars b).length<=t.size:=by
 induction t using Tm.ind with
 |h t ih=>
  intro b;rw[t.AQ,t.size_eq];have:=UX t.args (Tm.vars (up t.kind b)) fun x hx=>ih x hx _;split<;>simp only[List.length_append,List.length_cons,List.length_nil]<;>omega
def Tm.near(t:Tm):Bool:=(t.vars 0).all fun p=>decide (p.1<=536870912)
def cnt(at_:Int)(l:List (Int×Int)):Nat:=(l.filter fun p=>p.1-p.2==at_).length
theorem vk(at_:Int)(l l':List (Int×Int)):cnt at_ (l++l')=cnt at_ l+cnt at_ l':=by simp[cnt]
theorem MV(at_:Int)(l:List (Int×Int)):cnt at_ l<=l.length:=List.length_filter_le _ _
theorem Tm.AJ(t:Tm)(h:t.shape=true):∀b,∀p∈t.vars b,0<=p.1:=by
 induction t using Tm.ind with
 |h t ih=>
  intro b p hp;rw[t.Ak,Bool.and_eq_true] at h;rw[t.AQ,List.mem_append] at hp;rcases hp with hp|hp
  ·split at hp
   ·simp at hp;subst hp;have:=h.1;simp only[Tm.head,Bool.and_eq_true,decide_eq_true_eq] at this;exact this.1.1.2
   ·cases hp
  ·obtain ⟨x,hx,hp⟩:=List.mem_flatMap.1 hp;exact ih x hx (List.all_eq_true.1 h.2 x hx) _ p hp
theorem Yt(n k:Int)(hk:0<k): -k<n.tmod k:=by
 have h:=Int.natAbs_tmod n k;have h2:=Nat.mod_lt n.natAbs (show 0<k.natAbs by omega);omega
def Af:Ty:= .mk 1 []
def Am:Ty:= .mk 2 []
def Hq:Ty:= .mk 5 []
def Cy(a b:Ty):Ty:= .mk 3 [a,b]
def yy(a b:Ty):Ty:= .mk 4 [a,b]
def Bl(t:Ty):Ty×Int:=if t.err=0 then(t,0) else(BF,4)
def Bv(l:List Ty)(i:Nat):Ty:=l.getD i BF
def vi(k:Int)(h:Ty)(l:List Ty):Ty×Int:=
 let a:=Bv l 0
 let b:=Bv l 1
 let c:=Bv l 2
 if k=3 then(if ¬a.kind=4\/¬Bv a.args 0=b then(BF,7) else(Bv a.args 1,0))
 else if k=4 then(Af,0)
 else if k=5 then(if ¬a=Af then(BF,7) else(Af,0))
 else if k=6 then(if ¬a=h\/¬b=yy Af (yy h h)\/¬c=Af then(BF,7) else(h,0))
 else if k=7 then(Am,0)
 else if k=8 then(if ¬a=Af\/¬b=Am then(BF,7) else(Am,0))
 else if k=9 then(if ¬a=h\/¬b=yy Af (yy Am (yy h h))\/¬c=Am then(BF,7) else(h,0))
 else if k=10 then Bl (Cy a b)
 else if k=11\/k=12 then(if ¬a.kind=3 then(BF,7) else if k=11 then(Bv a.args 0,0) else(Bv a.args 1,0))
 else(Hq,0)
mutual
def Tm.inf:List Ty->Tm->Ty×Int
 |g,.mk k i h xs=>
  if k=1 then(if i>=g.length then(BF,6) else(Bv g (g.length-1-i.toNat),0))
  else if k=2 then(if(Tm.AH (g++[h]) xs).2≠0 then(BF,(Tm.AH (g++[h]) xs).2) else Bl (yy h (Bv (Tm.AH (g++[h]) xs).1 0)))
  else if(Tm.AH g xs).2≠0 then(BF,(Tm.AH g xs).2) else vi k h (Tm.AH g xs).1
def Tm.AH:List Ty->List Tm->List Ty×Int
 |_,[]=>([],0)
 |g,t::l=>if(t.inf g).2≠0 then([],(t.inf g).2) else if(Tm.AH g l).2≠0 then([],(Tm.AH g l).2) else((t.inf g).1::(Tm.AH g l).1,0)
end
theorem HL(at_:Int)(p:Int×Int):cnt at_ [p]=if p.1-p.2=at_ then 1 else 0:=by simp only[cnt,List.filter_cons,List.filter_nil];by_cases h:p.1-p.2=at_<;>simp[h]
def zl(fr by_:Int)(i b:Int):Tm:= .mk 1 (if i-b>=fr then i+by_ else i) (.mk 0 []) []
def xd(at_:Int)(s:Tm)(i b:Int):Tm:=if i-b=at_ then s.re (zl 0 (at_+b)) 0 else .mk 1 (if i-b>at_ then i-1 else i) (.mk 0 []) []
def Km(n k:Int):Int:=((n.tmod k)+k).tmod k
structure Dk where
 l:List Int
 at_:Nat
def Dk.ok(d:Dk):Prop:=d.at_<=d.l.length/\d.l.length<1099511627776
def Dk.next(d:Dk)(n:Int):Int×Dk:=if h:n<1\/d.l.length<=d.at_ then(0,d) else(Km (d.l[d.at_]'(by omega)) n,⟨d.l,d.at_+1⟩)
def Dk.cells(d:Dk):List V:=[.s .int d.l,.i d.at_]
def Sk(t:Tm)(at_:Int)(s:Tm):Int:=
 if t.err≠0 then t.err else if ¬(0<=at_/\at_<=4096) then 1 else if s.err≠0 then s.err else if t.near=false\/s.near=false then 1 else if(t.size:Int)+cnt at_ (t.vars 0)*(s.size-1)>4096 then 4 else 0
theorem vt{t:Tm}(h:t.err=0):t.shape=true/\t.size<=4096:=by
 simp only[Tm.err] at h;split at h
 ·omega
 ·split at h
  ·omega
  ·rename_i h1 h2;exact⟨by simpa using h1,by omega⟩
theorem Sf{t:Tm}(h:t.err=0)(hn:t.near=true):∀p∈t.vars 0,0<=p.1/\p.1<549755813888:=fun p hp=>
 ⟨t.AJ (vt h).1 0 p hp,by have:=List.all_eq_true.1 hn p hp;simp at this;omega⟩
theorem VF(c d:Int)(hc:0<=c/\c<=274877906944)(hd: -1<=d/\d<=4096): -274877906944<=c*d/\c*d<=1125899906842624:=by
 constructor
 ·have:=Int.mul_le_mul_of_nonneg_left hd.1 hc.1;omega
 ·have:=Int.mul_le_mul_of_nonneg_left hd.2 hc.1;omega
theorem Dk.AE{d:Dk}(h:d.ok)(n:Int):(d.next n).2.ok:=by
 simp only[Dk.next];split
 ·exact h
 ·rename_i hc;obtain⟨h1,h2⟩:=h;exact⟨by simp only;omega,h2⟩
def Dk.type:Nat->Dk->Ty×Dk
 |0,d=>let r:=d.next 7;(if r.1=3 then .mk 2 [] else if r.1=4 then .mk 5 [] else .mk 1 [],r.2)
 |n+1,d=>
  let r:=d.next 7
  if r.1=5\/r.1=6 then
   let a:=r.2.type n
   let b:=a.2.type n
   (.mk (if r.1=5 then 3 else 4) [a.1,b.1],b.2)
  else(if r.1=3 then .mk 2 [] else if r.1=4 then .mk 5 [] else .mk 1 [],r.2)
theorem Dk.Bw:∀(n:Nat) (d:Dk),d.ok->(d.type n).2.ok
 |0,d,h=>Dk.AE h 7
 |n+1,d,h=>by
  simp only[Dk.type];split
  ·exact Dk.Bw n _ (Dk.Bw n _ (Dk.AE h 7))
  ·exact Dk.AE h 7
theorem Dk.Ep(k:Int)(d:Dk):d.type k.toNat=(if 0<k/\((d.next 7).1=5\/(d.next 7).1=6) then
 (.mk (if(d.next 7).1=5 then 3 else 4) [((d.next 7).2.type (k-1).toNat).1,((((d.next 7).2.type (k-1).toNat).2).type (k-1).toNat).1],((((d.next 7).2.type (k-1).toNat).2).type (k-1).toNat).2)
 else(if(d.next 7).1=3 then .mk 2 [] else if(d.next 7).1=4 then .mk 5 [] else .mk 1 [],(d.next 7).2)):=by
 by_cases hk:0<k
 ·have e:k.toNat=(k-1).toNat+1:=by omega
  rw[e];simp only[Dk.type,hk,true_and]
 ·have e:k.toNat=0:=by omega
  rw[e];simp only[Dk.type,hk,false_and,if_false]
theorem Dk.Dq:∀(n:Nat) (d:Dk),(d.type n).1.size<=2^(n+1)-1
 |0,d=>by simp only[Dk.type];(repeat' split)<;>simp[Ty.size_eq]
 |n+1,d=>by
  have h1:=Dk.Dq n (d.next 7).2;have h2:=Dk.Dq n ((d.next 7).2.type n).2;have h3:2^(n+1+1)=2^(n+1)+2^(n+1):=by rw[Nat.pow_succ];omega
  have h4:2<=2^(n+1):=by rw[Nat.pow_succ];have:= @Nat.one_le_two_pow n;omega
  simp only[Dk.type];split
  ·rw[Ty.size_eq];simp only[Ty.Ad,List.map_cons,List.map_nil,List.sum_cons,List.sum_nil];omega
  ·have:∀x:Int,(Ty.mk x []).size=1:=fun x=>by simp[Ty.size_eq]
   simp only;(repeat' split)<;>rw[this]<;>omega
theorem Dk.Cz(d:Dk)(k:Int)(h:k<=20):(d.type k.toNat).1.size<1099511627776:=by
 have h1:=Dk.Dq k.toNat d;have h2:2^(k.toNat+1)<=2^21:=Nat.pow_le_pow_right (by omega) (by omega);omega
def Et:Nat->Tm
 |0=> .mk 4 0 (.mk 0 []) []
 |n+1=> .mk 5 0 (.mk 0 []) [Et n]
def xn(n:Int):Tm:=if 0<=n/\n<4096 then Et n.toNat else A0
def Dk.types:Nat->Dk->List Ty×Dk
 |0,d=>([],d)
 |n+1,d=>let a:=d.type 1;let b:=a.2.types n;(a.1::b.1,b.2)
theorem Dk.DO:∀(n:Nat) (d:Dk),d.types (n+1)=((d.types n).1++[((d.types n).2.type 1).1],((d.types n).2.type 1).2)
 |0,d=>rfl
 |n+1,d=>by
  have:=Dk.DO n (d.type 1).2;show((d.type 1).1::((d.type 1).2.types (n+1)).1,((d.type 1).2.types (n+1)).2)=_;rw[this];rfl
theorem Dk.DU:∀(n:Nat) (d:Dk),d.ok->(d.types n).2.ok
 |0,d,h=>h
 |n+1,d,h=>Dk.DU n _ (Dk.Bw 1 d h)
theorem Dk.Dh:∀(n:Nat) (d:Dk),(d.types n).1.length=n
 |0,d=>rfl
 |n+1,d=>by simp[Dk.types,Dk.Dh n]
theorem Zo7(n k:Int)(hk:0<k):0<=Km n k/\Km n k<k:=by
 have h1:=Yt n k hk;constructor
 ·exact Int.tmod_nonneg _ (by omega)
 ·exact Int.tmod_lt_of_pos _ hk
theorem Dk.Bx(d:Dk)(n:Int)(hn:0<n):0<=(d.next n).1/\(d.next n).1<n:=by
 simp only[Dk.next];split
 ·exact ⟨by simp,hn⟩
 ·exact Zo7 _ _ hn
def Dk.ctx(d:Dk):List Ty×Dk:=(d.next 4).2.types (d.next 4).1.toNat
def LG(f:Tm):List Tm->Tm
 |[]=>f
 |x::l=>LG (.mk 3 0 (.mk 0 []) [f,x]) l
def vT(i:Int):Tm:= .mk 1 i (.mk 0 []) []
def CS(t:Tm):Tm:= .mk 2 0 (.mk 1 []) [t]
def E0(b f n:Tm):Tm:= .mk 6 0 (.mk 1 []) [b,f,n]
def sT(t:Tm):Tm:= .mk 5 0 (.mk 0 []) [t]
def zT:Tm:= .mk 4 0 (.mk 0 []) []
def AO(f x:Tm):Tm:= .mk 3 0 (.mk 0 []) [f,x]
def H6:Tm:=CS (CS (sT (vT 0)))
def Cs:Tm:=CS (CS (E0 (vT 1) H6 (vT 0)))
def Cj:Tm:=CS (E0 zT (CS (CS (vT 1))) (vT 0))
def I3:Tm:=CS (CS (AO Cj (vT 0)))
def Eb:Tm:=CS (CS (E0 (vT 1) I3 (vT 0)))
def xm(t:Tm)(fr by_:Int):Int:=if t.err≠0 then t.err else if ¬(0<=fr/\fr<=4096)\/¬(0<=by_/\by_<=4096)\/t.near=false then 1 else 0
def wh(g:List Ty)(t:Ty):List Int:=((List.range g.length).filter fun i=>decide (g[g.length-1-i]? =some t)).map Int.ofNat
def v5:List Ty->Int
 |[]=>0
 |t::l=>if t.err≠0 then t.err else v5 l
theorem Zpu:∀(l:List Ty) (m:Nat) (hm:m<l.length),(∀j (hj:j<l.length),j<m->l[j].err=0)->l[m].err≠0->v5 l=l[m].err:=by
 intro l;induction l with
 |nil=>intro m hm;simp at hm
 |cons t l ih=>
  intro m hm h h1;cases m with
  |zero=>simp only[List.getElem_cons_zero] at h1;simp only[v5];rw[if_pos h1];rfl
  |succ m=>
   have h0:=h 0 (by simp) (by omega);simp only[List.getElem_cons_zero] at h0;simp only[v5,h0,ne_eq,not_true_eq_false,if_false,List.getElem_cons_succ];simp only[List.length_cons] at hm;exact ih m (by omega) (fun j hj hlt=>by have:=h (j+1) (by simp;omega) (by omega);simpa using this) h1
theorem Xn:∀(l:List Ty),(∀j (hj:j<l.length),j<l.length->l[j].err=0)->v5 l=0:=by
 intro l;induction l with
 |nil=>intro _;rfl
 |cons t l ih=>
  intro h;have h0:=h 0 (by simp) (by simp);simp only[List.getElem_cons_zero] at h0;simp only[v5,h0,ne_eq,not_true_eq_false,if_false];exact ih fun j hj _=>by have:=h (j+1) (by simp;omega) (by simp;omega);simpa using this
def xq(l:List Ty):Int:=if l.length>16 then 3 else v5 l
def LM(k:Int):Int:=if k=1\/k=4\/k=7\/k=13 then 0 else if k=2\/k=5\/k=11\/k=12 then 1 else if k=3\/k=8\/k=10 then 2 else if k=6\/k=9 then 3 else -1
def nT(k:Int)(l:List Tm):Tm:= .mk k 0 (.mk 0 []) l
def hT(k:Int)(s:Ty)(l:List Tm):Tm:= .mk k 0 s l
def BR(s:Ty)(x:Tm):Tm:= .mk 2 0 s [x]
def Gj(g:List Ty)(t:Ty)(i:Nat):Bool:=(Bv g (g.length-1-i)).kind==4&&decide (Bv (Bv g (g.length-1-i)).args 1=t)
def Kp(g:List Ty)(t:Ty):Option Nat:=(List.range g.length).find? (Gj g t)
abbrev EJ:=Dk->List Ty->Ty->Tm×Dk
def Dk.fin(rec:EJ)(pos:Bool)(d:Dk)(g:List Ty)(t:Ty):Tm×Dk:=
 if t.kind=1 then
  if pos=true then
   if(d.next 5).1=0 then(sT (rec (d.next 5).2 g t).1,(rec (d.next 5).2 g t).2)
   else if(d.next 5).1=1 then
    (AO (AO Cs (rec (d.next 5).2 g t).1) (rec (rec (d.next 5).2 g t).2 g t).1,(rec (rec (d.next 5).2 g t).2 g t).2)
   else if(d.next 5).1=2 then
    (AO (AO Eb (rec (d.next 5).2 g t).1) (rec (rec (d.next 5).2 g t).2 g t).1,(rec (rec (d.next 5).2 g t).2 g t).2)
   else(xn ((d.next 5).2.next 3).1,((d.next 5).2.next 3).2)
  else(xn (d.next 3).1,(d.next 3).2)
 else if t.kind=2 then
  if pos=true then
   if(d.next 2).1=0 then(nT 8 [(rec (d.next 2).2 g Af).1,(rec (rec (d.next 2).2 g Af).2 g t).1],(rec (rec (d.next 2).2 g Af).2 g t).2)
   else(nT 7 [],(d.next 2).2)
  else(nT 7 [],d)
 else if t.kind=3 then(nT 10 [(rec d g (Bv t.args 0)).1,(rec (rec d g (Bv t.args 0)).2 g (Bv t.args 1)).1],(rec (rec d g (Bv t.args 0)).2 g (Bv t.args 1)).2)
 else if t.kind=4 then(BR (Bv t.args 0) (rec d (g++[Bv t.args 0]) (Bv t.args 1)).1,(rec d (g++[Bv t.args 0]) (Bv t.args 1)).2)
 else(nT 13 [],d)
def Dk.m0(rec:EJ)(d:Dk)(g:List Ty)(t s:Ty):Tm×Dk:=(AO (BR s (rec d (g++[s]) t).1) (rec (rec d (g++[s]) t).2 g s).1,(rec (rec d (g++[s]) t).2 g s).2)
def Dk.m1(rec:EJ)(d:Dk)(g:List Ty)(t s:Ty):Tm×Dk:=(nT 11 [nT 10 [(rec d g t).1,(rec (rec d g t).2 g s).1]],(rec (rec d g t).2 g s).2)
def Dk.m2(rec:EJ)(d:Dk)(g:List Ty)(t:Ty):Tm×Dk:=
 (hT 6 t [(rec (rec d (g++[Af,t]) t).2 g t).1,BR Af (BR t (rec d (g++[Af,t]) t).1),xn ((rec (rec d (g++[Af,t]) t).2 g t).2.next 3).1],((rec (rec d (g++[Af,t]) t).2 g t).2.next 3).2)
def Dk.m3(rec:EJ)(d:Dk)(g:List Ty)(t:Ty):Tm×Dk:=
 (hT 9 t [(rec (rec d (g++[Af,Am,t]) t).2 g t).1,BR Af (BR Am (BR t (rec d (g++[Af,Am,t]) t).1)),(rec (rec (rec d (g++[Af,Am,t]) t).2 g t).2 g Am).1],(rec (rec (rec d (g++[Af,Am,t]) t).2 g t).2 g Am).2)
def Dk.m4(rec:EJ)(d:Dk)(g:List Ty)(t s:Ty):Tm×Dk:=(nT 12 [nT 10 [(rec d g s).1,(rec (rec d g s).2 g t).1]],(rec (rec d g s).2 g t).2)
def Dk.m5(rec:EJ)(pos:Bool)(d:Dk)(g:List Ty)(t:Ty):Tm×Dk:=
 match Kp g t with
 |some i=>(AO (vT i) (rec d g (Bv (Bv g (g.length-1-i)).args 0)).1,(rec d g (Bv (Bv g (g.length-1-i)).args 0)).2)
 |none=>d.fin rec pos g t
def Dk.mid(rec:EJ)(pos:Bool)(d:Dk)(g:List Ty)(t:Ty):Tm×Dk:=
 if pos=true then
  if(d.next 8).1=0 then((d.next 8).2.type 0).2.m0 rec g t ((d.next 8).2.type 0).1
  else if(d.next 8).1=1 then((d.next 8).2.type 0).2.m1 rec g t ((d.next 8).2.type 0).1
  else if(d.next 8).1=2 then(d.next 8).2.m2 rec g t
  else if(d.next 8).1=3 then(d.next 8).2.m3 rec g t
  else if(d.next 8).1=4 then((d.next 8).2.type 0).2.m4 rec g t ((d.next 8).2.type 0).1
  else if(d.next 8).1=5 then(d.next 8).2.m5 rec pos g t
  else(d.next 8).2.fin rec pos g t
 else d.fin rec pos g t
theorem Dk.HB{rec:EJ}{pos:Bool}{d:Dk}{g:List Ty}{t:Ty}(h:pos=true):d.mid rec pos g t=
 if(d.next 8).1=0 then((d.next 8).2.type 0).2.m0 rec g t ((d.next 8).2.type 0).1
 else if(d.next 8).1=1 then((d.next 8).2.type 0).2.m1 rec g t ((d.next 8).2.type 0).1
 else if(d.next 8).1=2 then(d.next 8).2.m2 rec g t
 else if(d.next 8).1=3 then(d.next 8).2.m3 rec g t
 else if(d.next 8).1=4 then((d.next 8).2.type 0).2.m4 rec g t ((d.next 8).2.type 0).1
 else if(d.next 8).1=5 then(d.next 8).2.m5 rec pos g t
 else(d.next 8).2.fin rec pos g t:=if_pos h
def Dk.gen(rec:EJ)(pos:Bool)(d:Dk)(g:List Ty)(t:Ty):Tm×Dk:=
 if wh g t=[] then d.mid rec pos g t
 else if 0<(d.next 3).1 then(vT ((wh g t).getD ((d.next 3).2.next (wh g t).length).1.toNat 0),((d.next 3).2.next (wh g t).length).2)
 else(d.next 3).2.mid rec pos g t
def Dk.tm:Nat->EJ
 |0,d,_,_=>(A0,d)
 |n+1,d,g,t=>d.gen (Dk.tm n) (decide (2<=n)) g t
def Ty.small(t:Ty):Prop:=t.shape=true/\t.size<=3
def Al(g:List Ty):Prop:=∀t∈g,t.small
inductive Mk:Nat->List Ty->Ty->Tm->Prop
 |var (n g t) (i:Nat) (hi:i<g.length) (h:Bv g (g.length-1-i)=t):Mk (n+1) g t (vT i)
 |app (n g t s a b) (hn:2<=n) (hs:s.shape=true) (h1:s.size=1) (ha:Mk n (g++[s]) t a) (hb:Mk n g s b):Mk (n+1) g t (AO (BR s a) b)
 |fst (n g t s a b) (hn:2<=n) (hs:s.shape=true) (h1:s.size=1) (ha:Mk n g t a) (hb:Mk n g s b):Mk (n+1) g t (nT 11 [nT 10 [a,b]])
 |snd (n g t s a b) (hn:2<=n) (hs:s.shape=true) (h1:s.size=1) (ha:Mk n g s a) (hb:Mk n g t b):Mk (n+1) g t (nT 12 [nT 10 [a,b]])
 |recu (n g t a b m) (hn:2<=n) (hm:m<3) (ha:Mk n (g++[Af,t]) t a) (hb:Mk n g t b):Mk (n+1) g t (hT 6 t [b,BR Af (BR t a),Et m])
 |fold (n g t a b c) (hn:2<=n) (ha:Mk n (g++[Af,Am,t]) t a) (hb:Mk n g t b) (hc:Mk n g Am c):Mk (n+1) g t (hT 9 t [b,BR Af (BR Am (BR t a)),c])
 |ctx (n g t s a) (hn:2<=n) (i:Nat) (hi:i<g.length) (h:Bv g (g.length-1-i)=yy s t) (h1:s.size=1) (ha:Mk n g s a):Mk (n+1) g t (AO (vT i) a)
 |succ (n g a) (hn:2<=n) (ha:Mk n g Af a):Mk (n+1) g Af (sT a)
 |plus (n g a b) (hn:2<=n) (ha:Mk n g Af a) (hb:Mk n g Af b):Mk (n+1) g Af (AO (AO Cs a) b)
 |sub (n g a b) (hn:2<=n) (ha:Mk n g Af a) (hb:Mk n g Af b):Mk (n+1) g Af (AO (AO Eb a) b)
 |num (n g m) (hm:m<3):Mk (n+1) g Af (Et m)
 |cons (n g a b) (hn:2<=n) (ha:Mk n g Af a) (hb:Mk n g Am b):Mk (n+1) g Am (nT 8 [a,b])
 |nil (n g):Mk (n+1) g Am (nT 7 [])
 |pair (n g s t a b) (h1:s.size=1) (h2:t.size=1) (ha:Mk n g s a) (hb:Mk n g t b):Mk (n+1) g (Cy s t) (nT 10 [a,b])
 |lam (n g s t a) (h1:s.size=1) (h2:t.size=1) (ha:Mk n (g++[s]) t a):Mk (n+1) g (yy s t) (BR s a)
 |unit (n g):Mk (n+1) g Hq (nT 13 [])
theorem Dk.GJ{rec:EJ}{pos:Bool}{d:Dk}{g:List Ty}{t:Ty}(h:∀d g t,d.ok->(rec d g t).2.ok)(hd:d.ok):(d.fin rec pos g t).2.ok:=by
 have h5:=Dk.AE hd 5;have h3:=Dk.AE hd 3;have h2:=Dk.AE hd 2;unfold Dk.fin;repeat' split
 all_goals first
  |exact hd|exact h3|exact h2|exact Dk.AE h5 3|exact h _ _ _ h5|exact h _ _ _ (h _ _ _ h5)|exact h _ _ _ (h _ _ _ h2)|exact h _ _ _ (h _ _ _ hd)|exact h _ _ _ hd
theorem Dk.GQ{rec:EJ}{pos:Bool}{d:Dk}{g:List Ty}{t:Ty}(h:∀d g t,d.ok->(rec d g t).2.ok)(hd:d.ok):(d.mid rec pos g t).2.ok:=by
 have h8:=Dk.AE hd 8;have hs:=Dk.Bw 0 _ h8;have hf:=Dk.GJ (pos:=pos) (g:=g) (t:=t) h h8;unfold Dk.mid Dk.m0 Dk.m1 Dk.m2 Dk.m3 Dk.m4 Dk.m5;repeat' split
 all_goals first
  |exact hf|exact Dk.GJ h hd|exact h _ _ _ (h _ _ _ hs)|exact Dk.AE (h _ _ _ (h _ _ _ h8)) 3|exact h _ _ _ (h _ _ _ (h _ _ _ h8))|exact h _ _ _ h8
theorem Dk.IY{rec:EJ}{pos:Bool}{d:Dk}{g:List Ty}{t:Ty}(h:∀d g t,d.ok->(rec d g t).2.ok)(hd:d.ok):(d.gen rec pos g t).2.ok:=by
 unfold Dk.gen;repeat' split
 ·exact Dk.GQ h hd
 ·exact Dk.AE (Dk.AE hd 3) _
 ·exact Dk.GQ h (Dk.AE hd 3)
theorem Dk.CA:∀(n:Nat) (d:Dk) (g:List Ty) (t:Ty),d.ok->(Dk.tm n d g t).2.ok
 |0,d,_,_,h=>h
 |n+1,d,g,t,h=>Dk.IY (fun d g t hd=>Dk.CA n d g t hd) h
theorem Ty.Ae(t:Ty):t.err=0↔t.shape=true/\t.size<=64:=by
 simp only[Ty.err];cases t.shape
 ·simp
 ·by_cases h:t.size>64
  ·simp[h]
  ·simp[h];omega
theorem Ty.G3{t x:Ty}(h:t.err=0)(hx:x∈t.args):x.err=0:=by
 rw[Ty.Ae] at h ⊢;have h1:=zc Ty.size hx;have h2:=t.size_eq;have h3:=h.1;rw[Ty.Ak,Bool.and_eq_true] at h3;exact⟨List.all_eq_true.1 h3.2 x hx,by omega⟩
theorem Ty.Ct{t:Ty}(h:t.shape=true)(hk:t.kind=3\/t.kind=4):∃x y,t.args=[x,y]:=by
 rw[Ty.Ak,Bool.and_eq_true] at h;have h1:DF t.kind=some 2:=by rcases hk with hk|hk<;>rw[hk]<;>rfl
 have h2:=h.1;rw[h1] at h2;simp at h2
 match hl:t.args,h2 with
 |[x,y],_=>exact⟨x,y,rfl⟩
theorem L6{l:List Ty}{i:Nat}(h:i<l.length):Bv l i=l[i]:=by simp[Bv,h]
theorem Oq{l:List Ty}{i:Nat}(h:i<l.length):Bv l i∈l:=by rw[L6 h];exact List.getElem_mem h
@[simp] theorem LV(x:Ty)(l:List Ty):Bv (x::l) 0=x:=rfl
@[simp] theorem N7(x y:Ty)(l:List Ty):Bv (x::y::l) 1=y:=rfl
@[simp] theorem Un(x y z:Ty)(l:List Ty):Bv (x::y::z::l) 2=z:=rfl
theorem Tm.GN(g:List Ty):∀(xs:List Tm) (m:Nat) (hm:m<xs.length),(∀j (hj:j<xs.length),j<m->(xs[j].inf g).2=0)->(xs[m].inf g).2≠0->Tm.AH g xs=([],(xs[m].inf g).2):=by
 intro xs;induction xs with
 |nil=>intro m hm;simp at hm
 |cons x l ih=>
  intro m hm h h1;cases m with
  |zero=>simp only[List.getElem_cons_zero] at h1 ⊢;simp only[Tm.AH];rw[if_pos h1]
  |succ m=>
   have h0:=h 0 (by simp) (by omega);simp only[List.getElem_cons_zero] at h0;simp only[List.length_cons] at hm;have h2:=ih m (by omega) (fun j hj hlt=>by have:=h (j+1) (by simp;omega) (by omega);simpa using this) (by simpa using h1);simp only[List.getElem_cons_succ] at h1 ⊢;simp only[Tm.AH,h0,ne_eq,not_true_eq_false,if_false,h2,h1,not_false_eq_true,if_true]
theorem Tm.EE(g:List Ty):∀(xs:List Tm),(∀x∈xs,(x.inf g).2=0)->Tm.AH g xs=(xs.map fun x=>(x.inf g).1,0):=by
 intro xs;induction xs with
 |nil=>intro _;rfl
 |cons x l ih=>
  intro h;have h0:=h x (by simp);have h1:=ih fun y hy=>h y (by simp[hy]);simp only[Tm.AH,h0,h1,ne_eq,not_true_eq_false,if_false,List.map_cons]
theorem Tm.CM(g:List Ty):∀(xs:List Tm),(Tm.AH g xs).2=0->∀x∈xs,(x.inf g).2=0:=by
 intro xs;induction xs with
 |nil=>intro _ x hx;cases hx
 |cons y l ih=>
  intro h x hx;simp only[Tm.AH] at h;by_cases h1:(y.inf g).2=0
  ·by_cases h2:(Tm.AH g l).2=0
   ·rcases List.mem_cons.1 hx with rfl|hx
    ·exact h1
    ·exact ih h2 x hx
   ·simp only[h1,h2,ne_eq,not_true_eq_false,if_false,not_false_eq_true,if_true] at h
  ·rw[if_pos h1] at h;exact absurd h h1
theorem Tm.AY(g:List Ty)(t:Tm):t.inf g=(if t.kind=1 then(if t.index>=g.length then(BF,6) else(Bv g (g.length-1-t.index.toNat),0))
 else if t.kind=2 then(if(Tm.AH (g++[t.ty]) t.args).2≠0 then(BF,(Tm.AH (g++[t.ty]) t.args).2) else Bl (yy t.ty (Bv (Tm.AH (g++[t.ty]) t.args).1 0)))
 else if(Tm.AH g t.args).2≠0 then(BF,(Tm.AH g t.args).2) else vi t.kind t.ty (Tm.AH g t.args).1):=by
 cases t;rfl
theorem Yq{t:Ty}(h:(Bl t).2=0):(Bl t).1.err=0:=by
 simp only[Bl] at h ⊢;split
 ·rename_i h1;exact h1
 ·rename_i h1;simp[h1] at h
theorem I5{t:Tm}(h:t.shape=true):CV t.kind=some t.args.length:=by
 rw[Tm.Ak,Bool.and_eq_true] at h;have h1:=h.1;simp only[Tm.head,Bool.and_eq_true] at h1;have h2:=h1.1.1.1;split at h2
 ·rename_i n hn;rw[hn];simp at h2;rw[h2]
 ·cases h2
theorem ze{t:Tm}(h:t.shape=true):∀x∈t.args,x.shape=true:=by
 rw[Tm.Ak,Bool.and_eq_true] at h;exact List.all_eq_true.1 h.2
theorem N8{t:Tm}(h:t.shape=true):0<=t.index/\(t.kind≠1->t.index=0):=by
 rw[Tm.Ak,Bool.and_eq_true] at h;have h1:=h.1;simp only[Tm.head,Bool.and_eq_true,decide_eq_true_eq,Bool.or_eq_true,beq_iff_eq] at h1;exact⟨h1.1.1.2,fun hk=>h1.1.2.resolve_right hk⟩
theorem Po{t:Tm}(h:t.shape=true)(hk:wg t.kind=true):t.ty.err=0:=by
 rw[Tm.Ak,Bool.and_eq_true] at h;have h1:=h.1;simp only[Tm.head,Bool.and_eq_true,hk,cond_true] at h1;have h2:=h1.2;simp only[Ty.ok,Bool.and_eq_true,decide_eq_true_eq] at h2;exact(Ty.Ae _).2 h2
theorem U5{k:Int}{n:Nat}(h:CV k=some n):(n=0/\(k=1\/k=4\/k=7\/k=13))\/(n=1/\(k=2\/k=5\/k=11\/k=12))\/(n=2/\(k=3\/k=8\/k=10))\/(n=3/\(k=6\/k=9)):=by
 simp only[CV] at h;(repeat' split at h)<;>simp_all<;>omega
theorem Mi{α:Type}{l:List α}(h:l.length=1):l=[l[0]'(by omega)]:=by
 match l,h with
 |[x],_=>rfl
theorem Qo{α:Type}{l:List α}(h:l.length=1):∃x,l=[x]:=⟨_,Mi h⟩
theorem NR{α:Type}{l:List α}(h:l.length=2):∃x y,l=[x,y]:=by
 match l,h with
 |[x,y],_=>exact⟨x,y,rfl⟩
theorem X6{α:Type}{l:List α}(h:l.length=3):∃x y z,l=[x,y,z]:=by
 match l,h with
 |[x,y,z],_=>exact⟨x,y,z,rfl⟩
theorem Zy9{k:Int}{h:Ty}{l:List Ty}(hk:CV k=some l.length)(hl:∀x∈l,x.err=0)(hh:wg k=true->h.err=0)(h0:(vi k h l).2=0):(vi k h l).1.err=0:=by
 have h1:∀i,i<l.length->(Bv l i).err=0:=fun i hi=>hl _ (Oq hi);have h2:∀i,i<l.length->(Bv l i).kind=3\/(Bv l i).kind=4->∀j,j<2->(Bv (Bv l i).args j).err=0:=by
  intro i hi hk j hj;obtain⟨x,y,hxy⟩:=Ty.Ct ((Ty.Ae _).1 (h1 i hi)).1 hk;refine Ty.G3 (h1 i hi) ?_;exact Oq (by rw[hxy];exact hj)
 rcases U5 hk with⟨hn,hk⟩|⟨hn,hk⟩|⟨hn,hk⟩|⟨hn,hk⟩
 ·rcases hk with rfl|rfl|rfl|rfl<;>rfl
 ·rcases hk with rfl|rfl|rfl|rfl
  ·rfl
  ·simp only[vi] at h0 ⊢;simp at h0 ⊢;split<;>first|rfl|(exfalso;rename_i hc;simp[hc] at h0)
  ·simp only[vi] at h0 ⊢;simp at h0 ⊢;by_cases hc:(Bv l 0).kind=3
   ·simp only[hc,if_true];exact h2 0 (by omega) (.inl hc) 0 (by omega)
   ·simp[hc] at h0
  ·simp only[vi] at h0 ⊢;simp at h0 ⊢;by_cases hc:(Bv l 0).kind=3
   ·simp only[hc,if_true];exact h2 0 (by omega) (.inl hc) 1 (by omega)
   ·simp[hc] at h0
 ·rcases hk with rfl|rfl|rfl
  ·simp only[vi] at h0 ⊢;simp only[if_true] at h0 ⊢;by_cases hc:¬(Bv l 0).kind=4\/¬Bv (Bv l 0).args 0=Bv l 1
   ·simp[hc] at h0
   ·rw[if_neg hc];have:(Bv l 0).kind=4:=by simp at hc;exact hc.1
    exact h2 0 (by omega) (.inr this) 1 (by omega)
  ·simp only[vi] at h0 ⊢;simp at h0 ⊢;split<;>first|rfl|(exfalso;rename_i hc;simp[hc] at h0)
  ·simp only[vi] at h0 ⊢;simp at h0 ⊢;exact Yq h0
 ·rcases hk with rfl|rfl
  ·simp only[vi] at h0 ⊢;simp at h0 ⊢;split
   ·rename_i hc;simp[hc] at h0
   ·exact hh rfl
  ·simp only[vi] at h0 ⊢;simp at h0 ⊢;split
   ·rename_i hc;simp[hc] at h0
   ·exact hh rfl
theorem Tm.DM(t:Tm):∀g:List Ty,t.shape=true->(∀x∈g,x.err=0)->(t.inf g).2=0->(t.inf g).1.err=0:=by
 induction t using Tm.ind with
 |h t ih=>
  intro g hsh hg h0;rw[Tm.AY] at h0 ⊢;by_cases h1:t.kind=1
  ·simp only[h1,if_true] at h0 ⊢;by_cases h2:t.index>=g.length
   ·simp[h2] at h0
   ·rw[if_neg h2];have:=(N8 hsh).1;exact hg _ (Oq (by omega))
  ·simp only[h1,if_false] at h0 ⊢;by_cases h2:t.kind=2
   ·simp only[h2,if_true] at h0 ⊢;by_cases h3:(Tm.AH (g++[t.ty]) t.args).2=0
    ·simp only[h3,ne_eq,not_true_eq_false,if_false] at h0 ⊢;exact Yq h0
    ·rw[if_pos h3] at h0;exact absurd h0 h3
   ·simp only[h2,if_false] at h0 ⊢;by_cases h3:(Tm.AH g t.args).2=0
    ·simp only[h3,ne_eq,not_true_eq_false,if_false] at h0 ⊢;have h4:=Tm.CM g t.args h3;have h5:=Tm.EE g t.args h4;rw[h5] at h0 ⊢;refine Zy9 (by rw[I5 hsh];simp) ?_ (Po hsh) h0;intro x hx;obtain⟨y,hy,rfl⟩:=List.mem_map.1 hx;exact ih y hy g (ze hsh y hy) hg (h4 y hy)
    ·rw[if_pos h3] at h0;exact absurd h0 h3
theorem L9{t:Ty}(h:t.shape=true)(hk:t.kind=1\/t.kind=2\/t.kind=5):t.args=[]:=by
 rw[Ty.Ak,Bool.and_eq_true] at h;have h1:DF t.kind=some 0:=by rcases hk with hk|hk|hk<;>rw[hk]<;>rfl
 have h2:=h.1;rw[h1] at h2;simp at h2;exact h2
theorem Ztp{t:Ty}(h:t.shape=true):t.kind=1\/t.kind=2\/t.kind=5\/t.kind=3\/t.kind=4:=by
 rw[Ty.Ak,Bool.and_eq_true] at h;have h2:=h.1;split at h2
 ·rename_i n hn;simp only[DF] at hn;split at hn
  ·omega
  ·split at hn
   ·omega
   ·cases hn
 ·cases h2
theorem U0{t:Ty}(h:t.shape=true):t=Af\/t=Am\/t=Hq\/∃a b,a.shape=true/\b.shape=true/\(t=Cy a b\/t=yy a b):=by
 have h0:=h;rw[Ty.Ak,Bool.and_eq_true] at h0;rcases Ztp h with hk|hk|hk|hk|hk
 ·exact .inl ((Ty.eq_iff _ _).2 ⟨hk,L9 h (by omega)⟩)
 ·exact .inr (.inl ((Ty.eq_iff _ _).2 ⟨hk,L9 h (by omega)⟩))
 ·exact .inr (.inr (.inl ((Ty.eq_iff _ _).2 ⟨hk,L9 h (by omega)⟩)))
 ·obtain ⟨a,b,hab⟩:=Ty.Ct h (.inl hk);have:=List.all_eq_true.1 h0.2;rw[hab] at this;exact .inr (.inr (.inr ⟨a,b,this a (by simp),this b (by simp),.inl ((Ty.eq_iff _ _).2 ⟨hk,hab⟩)⟩))
 ·obtain ⟨a,b,hab⟩:=Ty.Ct h (.inr hk);have:=List.all_eq_true.1 h0.2;rw[hab] at this;exact .inr (.inr (.inr ⟨a,b,this a (by simp),this b (by simp),.inr ((Ty.eq_iff _ _).2 ⟨hk,hab⟩)⟩))
theorem It(a b:Ty):(Cy a b).size=1+(a.size+b.size):=by simp[Cy,Ty.size,Ty.sizes]
theorem vb(a b:Ty):(yy a b).size=1+(a.size+b.size):=by simp[yy,Ty.size,Ty.sizes]
theorem PA{t:Ty}(h:t.small):t=Af\/t=Am\/t=Hq\/∃a b,a.shape=true/\b.shape=true/\a.size=1/\b.size=1/\(t=Cy a b\/t=yy a b):=by
 obtain⟨h1,h2⟩:=h;rcases U0 h1 with h3|h3|h3|⟨a,b,ha,hb,h3⟩
 ·exact .inl h3
 ·exact .inr (.inl h3)
 ·exact .inr (.inr (.inl h3))
 ·have pa:=a.size_pos;have pb:=b.size_pos;refine .inr (.inr (.inr ⟨a,b,ha,hb,?_,?_,h3⟩))<;>rcases h3 with rfl|rfl<;>(first|rw[It] at h2|rw[vb] at h2)<;>omega
theorem zx{t:Ty}(h:t.shape=true)(h1:t.size=1):t.small:=⟨h,by omega⟩
theorem zg:Af.small:=⟨rfl,by decide⟩
theorem yw:Am.small:=⟨rfl,by decide⟩
theorem zp{g l:List Ty}(h:Al g)(h1:Al l):Al (g++l):=fun t ht=>by
 rcases List.mem_append.1 ht with ht|ht
 ·exact h t ht
 ·exact h1 t ht
theorem zi{t:Ty}{l:List Ty}(h:t.small)(h1:Al l):Al (t::l):=fun x hx=>by
 rcases List.mem_cons.1 hx with rfl|hx
 ·exact h
 ·exact h1 x hx
theorem zm:Al []:=fun t ht=>by cases ht
theorem Pp{g:List Ty}(h:Al g){i:Nat}(hi:i<g.length):(Bv g (g.length-1-i)).small:=h _ (Oq (by omega))
theorem Dk.type0(d:Dk):(d.type 0).1.shape=true/\(d.type 0).1.size=1:=by
 simp only[Dk.type];(repeat' split)<;>exact⟨rfl,rfl⟩
theorem Nl(d:Dk):∃m,m<3/\xn (d.next 3).1=Et m:=by
 have h:=Dk.Bx d 3 (by omega);refine⟨(d.next 3).1.toNat,by omega,?_⟩;rw[xn,if_pos (by omega)]
theorem Zx8{g:List Ty}{t:Ty}{i:Int}(h:i∈wh g t):∃j:Nat,i=j/\j<g.length/\Bv g (g.length-1-j)=t:=by
 simp only[wh,List.mem_map,List.mem_filter,List.mem_range,decide_eq_true_eq] at h;obtain⟨j,⟨h1,h2⟩,rfl⟩:=h;refine⟨j,rfl,h1,?_⟩;simp only[Bv,List.getD_eq_getElem?_getD,h2,Option.getD_some]
theorem Zs0{g:List Ty}{t:Ty}(d:Dk)(h:¬wh g t=[]):∃j:Nat,(wh g t).getD (d.next (wh g t).length).1.toNat 0=j/\j<g.length/\Bv g (g.length-1-j)=t:=by
 have hl:0<(wh g t).length:=List.length_pos_iff.2 h;have hb:=Dk.Bx d (wh g t).length (by omega);have hlt:(d.next (wh g t).length).1.toNat<(wh g t).length:=by omega
 have:(wh g t).getD (d.next (wh g t).length).1.toNat 0∈wh g t:=by
  rw[List.getD_eq_getElem?_getD,List.getElem?_eq_getElem hlt];exact List.getElem_mem hlt
 exact Zx8 this
theorem Zsy{g:List Ty}{t:Ty}{i:Nat}(h:Kp g t=some i):i<g.length/\Gj g t i=true:=by
 have:=List.find?_some h;have h2:=List.mem_of_find?_eq_some h;exact⟨by simpa using h2,this⟩
theorem Yay{g:List Ty}{t:Ty}{i:Nat}(hg:Al g)(hi:i<g.length)(h:Gj g t i=true):∃s,s.shape=true/\s.size=1/\Bv g (g.length-1-i)=yy s t:=by
 simp only[Gj,Bool.and_eq_true,beq_iff_eq,decide_eq_true_eq] at h;have hs:=Pp hg hi;rcases PA hs with h3|h3|h3|⟨a,b,ha,hb,h1,h2,h3|h3⟩
 ·rw[h3] at h;exact absurd h.1 (by decide)
 ·rw[h3] at h;exact absurd h.1 (by decide)
 ·rw[h3] at h;exact absurd h.1 (by decide)
 ·rw[h3] at h;exact absurd h.1 (by simp[Cy])
 ·refine ⟨a,ha,h1,?_⟩;have:=h.2;rw[h3] at this ⊢;simp only[yy,Ty.Ad,N7] at this;rw[this]
abbrev NC(rec:EJ)(n:Nat):Prop:=∀d g t,Al g->t.small->1<=n->(n=1->t.size=1)->Mk n g t (rec d g t).1
theorem Dk.Fp{rec:EJ}{n:Nat}{pos:Bool}{d:Dk}{g:List Ty}{t:Ty}(H:NC rec n)(hp:pos=true->2<=n)(hg:Al g)(ht:t.small)(h0:n=0->t.size=1):Mk (n+1) g t (d.fin rec pos g t).1:=by
 rcases PA ht with rfl|rfl|rfl|⟨a,b,ha,hb,h1,h2,rfl|rfl⟩
 ·unfold Dk.fin;rw[if_pos (show Af.kind=1 from rfl)];by_cases hpos:pos=true
  ·have hn:=hp hpos;have hr:∀d,Mk n g Af (rec d g Af).1:=fun d=>H d g Af hg zg (by omega) (by omega);rw[if_pos hpos];split
   ·exact .succ n g _ hn (hr _)
   ·split
    ·exact .plus n g _ _ hn (hr _) (hr _)
    ·split
     ·exact .sub n g _ _ hn (hr _) (hr _)
     ·obtain ⟨m,hm,e⟩:=Nl (d.next 5).2;simp only[e];exact .num n g m hm
  ·rw[if_neg hpos];obtain⟨m,hm,e⟩:=Nl d;simp only[e];exact .num n g m hm
 ·unfold Dk.fin;rw[if_neg (by decide),if_pos (show Am.kind=2 from rfl)];by_cases hpos:pos=true
  ·have hn:=hp hpos;rw[if_pos hpos];split
   ·exact .cons n g _ _ hn (H _ g Af hg zg (by omega) (by omega)) (H _ g Am hg yw (by omega) (by omega))
   ·exact .nil n g
  ·rw[if_neg hpos];exact .nil n g
 ·unfold Dk.fin;rw[if_neg (by decide),if_neg (by decide),if_neg (by decide),if_neg (by decide)];exact .unit n g
 ·unfold Dk.fin;rw[if_neg (by simp[Cy]),if_neg (by simp[Cy]),if_pos (show(Cy a b).kind=3 from rfl)];have:n≠0:=fun h=>by have:=h0 h;rw[It] at this;omega
  exact .pair n g a b _ _ h1 h2 (H _ g a hg (zx ha h1) (by omega) fun _=>h1) (H _ g b hg (zx hb h2) (by omega) fun _=>h2)
 ·unfold Dk.fin;rw[if_neg (by simp[yy]),if_neg (by simp[yy]),if_neg (by simp[yy]),if_pos (show(yy a b).kind=4 from rfl)];have:n≠0:=fun h=>by have:=h0 h;rw[vb] at this;omega
  exact .lam n g a b _ h1 h2 (H _ (g++[a]) b (zp hg (zi (zx ha h1) zm)) (zx hb h2) (by omega) fun _=>h2)
theorem Dk.GW{rec:EJ}{n:Nat}{pos:Bool}{d:Dk}{g:List Ty}{t:Ty}(H:NC rec n)(hp:pos=true->2<=n)(hg:Al g)(ht:t.small)(h0:n=0->t.size=1):Mk (n+1) g t (d.mid rec pos g t).1:=by
 unfold Dk.mid Dk.m0 Dk.m1 Dk.m2 Dk.m3 Dk.m4 Dk.m5;by_cases hpos:pos=true
 ·have hn:=hp hpos;have hs:=Dk.type0 (d.next 8).2;have hss:=zx hs.1 hs.2;rw[if_pos hpos];split
  ·exact .app n g t _ _ _ hn hs.1 hs.2 (H _ _ _ (zp hg (zi hss zm)) ht (by omega) (by omega)) (H _ _ _ hg hss (by omega) (by omega))
  ·split
   ·exact .fst n g t _ _ _ hn hs.1 hs.2 (H _ _ _ hg ht (by omega) (by omega)) (H _ _ _ hg hss (by omega) (by omega))
   ·split
    ·obtain ⟨m,hm,e⟩:=Nl (rec (rec (d.next 8).2 (g++[Af,t]) t).2 g t).2;simp only[e];exact .recu n g t _ _ m hn hm (H _ _ _ (zp hg (zi zg (zi ht zm))) ht (by omega) (by omega)) (H _ _ _ hg ht (by omega) (by omega))
    ·split
     ·exact .fold n g t _ _ _ hn (H _ _ _ (zp hg (zi zg (zi yw (zi ht zm)))) ht (by omega) (by omega)) (H _ _ _ hg ht (by omega) (by omega)) (H _ _ _ hg yw (by omega) (by omega))
     ·split
      ·exact .snd n g t _ _ _ hn hs.1 hs.2 (H _ _ _ hg hss (by omega) (by omega)) (H _ _ _ hg ht (by omega) (by omega))
      ·split
       ·split
        ·rename_i i hi;obtain⟨h1,h2⟩:=Zsy hi;obtain⟨s,h3,h4,h5⟩:=Yay hg h1 h2;simp only[h5,yy,Ty.Ad,LV];exact .ctx n g t s _ hn i h1 h5 h4 (H _ _ _ hg (zx h3 h4) (by omega) (by omega))
        ·exact Dk.Fp H hp hg ht h0
       ·exact Dk.Fp H hp hg ht h0
 ·rw[if_neg hpos];exact Dk.Fp H hp hg ht h0
theorem Dk.Jp{rec:EJ}{n:Nat}{pos:Bool}{d:Dk}{g:List Ty}{t:Ty}(H:NC rec n)(hp:pos=true->2<=n)(hg:Al g)(ht:t.small)(h0:n=0->t.size=1):Mk (n+1) g t (d.gen rec pos g t).1:=by
 unfold Dk.gen;split
 ·exact Dk.GW H hp hg ht h0
 ·rename_i hl;split
  ·obtain ⟨j,e,h1,h2⟩:=Zs0 (d.next 3).2 hl;simp only[e];exact .var n g t j h1 h2
  ·exact Dk.GW H hp hg ht h0
theorem Dk.CF:∀n,NC (Dk.tm n) n
 |0=>fun d g t _ _ h _=>by omega
 |n+1=>fun d g t hg ht _ h1=>Dk.Jp (Dk.CF n) (by simp) hg ht (by omega)
theorem NS:∀m,(Et m).full=2*(m+1)
 |0=>rfl
 |m+1=>by simp[Et,Tm.full,Tm.Au,NS m,Ty.size,Ty.sizes];omega
theorem Mk.full{n:Nat}{g:List Ty}{t:Ty}{x:Tm}(h:Mk n g t x):Al g->t.small->x.full+20<=20*3^n:=by
 have e1:BF.size=1:=rfl;have e2:(Ty.mk 0 []).size=1:=rfl;have p:∀n,1<=3^n:=fun n=>Nat.one_le_pow _ _ (by omega);have q:∀n,3^(n+1)=3*3^n:=fun n=>by rw[Nat.pow_succ];omega
 induction h with
 |var n g t i hi h=>intro hg ht;have:=p n;have:=q n;simp[vT,Tm.full,Tm.Au,e2];omega
 |app n g t s a b hn hs h1 ha hb iha ihb=>
  intro hg ht;have:=iha (zp hg (zi (zx hs h1) zm)) ht;have:=ihb hg (zx hs h1);have:=p n;have:=q n;simp[AO,BR,Tm.full,Tm.Au,e2,h1];omega
 |fst n g t s a b hn hs h1 ha hb iha ihb=>
  intro hg ht;have:=iha hg ht;have:=ihb hg (zx hs h1);have:=p n;have:=q n;simp[nT,Tm.full,Tm.Au,e2];omega
 |snd n g t s a b hn hs h1 ha hb iha ihb=>
  intro hg ht;have:=iha hg (zx hs h1);have:=ihb hg ht;have:=p n;have:=q n;simp[nT,Tm.full,Tm.Au,e2];omega
 |recu n g t a b m hn hm ha hb iha ihb=>
  intro hg ht;have:=iha (zp hg (zi zg (zi ht zm))) ht;have:=ihb hg ht;have:=ht.2;have:=p n;have:=q n;have e3:Af.size=1:=rfl;simp[hT,BR,Tm.full,Tm.Au,e3,NS];omega
 |fold n g t a b c hn ha hb hc iha ihb ihc=>
  intro hg ht;have:=iha (zp hg (zi zg (zi yw (zi ht zm)))) ht;have:=ihb hg ht;have:=ihc hg yw;have:=ht.2;have:=p n;have:=q n;have e3:Af.size=1:=rfl;have e4:Am.size=1:=rfl;simp[hT,BR,Tm.full,Tm.Au,e3,e4];omega
 |ctx n g t s a hn i hi h h1 ha iha=>
  intro hg ht;have hs:s.shape=true:=by
   have:=Pp hg hi;rw[h] at this;have:=List.all_eq_true.1 ((Bool.and_eq_true _ _).mp ((Ty.Ak _).symm.trans this.1)).2 s (by simp[yy]);exact this
  have:=iha hg (zx hs h1);have:=p n;have:=q n;simp[AO,vT,Tm.full,Tm.Au,e2];omega
 |succ n g a hn ha iha=>intro hg ht;have:=iha hg zg;have:=p n;have:=q n;simp[sT,Tm.full,Tm.Au,e2];omega
 |plus n g a b hn ha hb iha ihb=>
  intro hg ht;have:=iha hg zg;have:=ihb hg zg;have:=p n;have:=q n;have e5:Cs.full<=18:=by decide
  simp[AO,Tm.full,Tm.Au,e2];omega
 |sub n g a b hn ha hb iha ihb=>
  intro hg ht;have:=iha hg zg;have:=ihb hg zg;have:=p n;have:=q n;have e5:Eb.full<=36:=by decide
  simp[AO,Tm.full,Tm.Au,e2];omega
 |num n g m hm=>intro hg ht;have:=p n;have:=q n;rw[NS];omega
 |cons n g a b hn ha hb iha ihb=>
  intro hg ht;have:=iha hg zg;have:=ihb hg yw;have:=p n;have:=q n;simp[nT,Tm.full,Tm.Au,e2];omega
 |nil n g=>intro hg ht;have:=p n;have:=q n;simp[nT,Tm.full,Tm.Au,e2];omega
 |pair n g s t a b h1 h2 ha hb iha ihb=>
  intro hg ht;have hs:=List.all_eq_true.1 ((Bool.and_eq_true _ _).mp ((Ty.Ak _).symm.trans ht.1)).2;have:=iha hg (zx (hs s (by simp[Cy])) h1);have:=ihb hg (zx (hs t (by simp[Cy])) h2);have:=p n;have:=q n;simp[nT,Tm.full,Tm.Au,e2];omega
 |lam n g s t a h1 h2 ha iha=>
  intro hg ht;have hs:=List.all_eq_true.1 ((Bool.and_eq_true _ _).mp ((Ty.Ak _).symm.trans ht.1)).2;have:=iha (zp hg (zi (zx (hs s (by simp[yy])) h1) zm)) (zx (hs t (by simp[yy])) h2);have:=p n;have:=q n;simp[BR,Tm.full,Tm.Au,h1];omega
 |unit n g=>intro hg ht;have:=p n;have:=q n;simp[nT,Tm.full,Tm.Au,e2];omega
theorem Qk{k:Int}{a b:Ty}(h:(Ty.mk k [a,b]).shape=true):a.shape=true/\b.shape=true:=by
 have hs:=List.all_eq_true.1 ((Bool.and_eq_true _ _).mp ((Ty.Ak _).symm.trans h)).2;exact⟨hs a (by simp),hs b (by simp)⟩
theorem Mk.ind{P:Nat->List Ty->Ty->Tm->Prop}
 (var:∀n g t (i:Nat),i<g.length->Bv g (g.length-1-i)=t->Al g->t.small->P (n+1) g t (vT i))
 (app:∀n g t s a b,2<=n->s.shape=true->s.size=1->Al g->t.small->P n (g++[s]) t a->P n g s b->P (n+1) g t (AO (BR s a) b))
 (fst:∀n g t s a b,2<=n->s.shape=true->s.size=1->Al g->t.small->P n g t a->P n g s b->P (n+1) g t (nT 11 [nT 10 [a,b]]))
 (snd:∀n g t s a b,2<=n->s.shape=true->s.size=1->Al g->t.small->P n g s a->P n g t b->P (n+1) g t (nT 12 [nT 10 [a,b]]))
 (recu:∀n g t a b m,2<=n->m<3->Al g->t.small->P n (g++[Af,t]) t a->P n g t b->P (n+1) g t (hT 6 t [b,BR Af (BR t a),Et m]))
 (fold:∀n g t a b c,2<=n->Al g->t.small->P n (g++[Af,Am,t]) t a->P n g t b->P n g Am c->P (n+1) g t (hT 9 t [b,BR Af (BR Am (BR t a)),c]))
 (ctx:∀n g t s a (i:Nat),2<=n->i<g.length->Bv g (g.length-1-i)=yy s t->s.shape=true->s.size=1->Al g->t.small->P n g s a->P (n+1) g t (AO (vT i) a))
 (succ:∀n g a,2<=n->Al g->P n g Af a->P (n+1) g Af (sT a))
 (plus:∀n g a b,2<=n->Al g->P n g Af a->P n g Af b->P (n+1) g Af (AO (AO Cs a) b))
 (sub:∀n g a b,2<=n->Al g->P n g Af a->P n g Af b->P (n+1) g Af (AO (AO Eb a) b))
 (num:∀n g m,m<3->Al g->P (n+1) g Af (Et m))
 (cons:∀n g a b,2<=n->Al g->P n g Af a->P n g Am b->P (n+1) g Am (nT 8 [a,b]))
 (nil:∀n g,Al g->P (n+1) g Am (nT 7 []))
 (pair:∀n g s t a b,s.shape=true->t.shape=true->s.size=1->t.size=1->1<=n->Al g->P n g s a->P n g t b->P (n+1) g (Cy s t) (nT 10 [a,b]))
 (lam:∀n g s t a,s.shape=true->t.shape=true->s.size=1->t.size=1->1<=n->Al g->P n (g++[s]) t a->P (n+1) g (yy s t) (BR s a))
 (unit:∀n g,Al g->P (n+1) g Hq (nT 13 []))
 {n:Nat} {g:List Ty} {t:Ty} {x:Tm} (h:Mk n g t x):Al g->t.small->P n g t x:=by
 have one:∀{n g t x},Mk n g t x->1<=n:=fun h=>by cases h<;>omega
 induction h with
 |var n g t i hi h=>exact fun hg ht=>var n g t i hi h hg ht
 |app n g t s a b hn hs h1 ha hb iha ihb=>exact fun hg ht=>app n g t s a b hn hs h1 hg ht (iha (zp hg (zi (zx hs h1) zm)) ht) (ihb hg (zx hs h1))
 |fst n g t s a b hn hs h1 ha hb iha ihb=>exact fun hg ht=>fst n g t s a b hn hs h1 hg ht (iha hg ht) (ihb hg (zx hs h1))
 |snd n g t s a b hn hs h1 ha hb iha ihb=>exact fun hg ht=>snd n g t s a b hn hs h1 hg ht (iha hg (zx hs h1)) (ihb hg ht)
 |recu n g t a b m hn hm ha hb iha ihb=>exact fun hg ht=>recu n g t a b m hn hm hg ht (iha (zp hg (zi zg (zi ht zm))) ht) (ihb hg ht)
 |fold n g t a b c hn ha hb hc iha ihb ihc=>exact fun hg ht=>fold n g t a b c hn hg ht (iha (zp hg (zi zg (zi yw (zi ht zm)))) ht) (ihb hg ht) (ihc hg yw)
 |ctx n g t s a hn i hi h h1 ha iha=>
  intro hg ht;have hs:s.shape=true:=by
   have:=Pp hg hi;rw[h] at this;exact(Qk this.1).1
  exact ctx n g t s a i hn hi h hs h1 hg ht (iha hg (zx hs h1))
 |succ n g a hn ha iha=>exact fun hg ht=>succ n g a hn hg (iha hg zg)
 |plus n g a b hn ha hb iha ihb=>exact fun hg ht=>plus n g a b hn hg (iha hg zg) (ihb hg zg)
 |sub n g a b hn ha hb iha ihb=>exact fun hg ht=>sub n g a b hn hg (iha hg zg) (ihb hg zg)
 |num n g m hm=>exact fun hg ht=>num n g m hm hg
 |cons n g a b hn ha hb iha ihb=>exact fun hg ht=>cons n g a b hn hg (iha hg zg) (ihb hg yw)
 |nil n g=>exact fun hg ht=>nil n g hg
 |pair n g s t a b h1 h2 ha hb iha ihb=>exact fun hg ht=>have hs:=Qk ht.1;pair n g s t a b hs.1 hs.2 h1 h2 (one ha) hg (iha hg (zx hs.1 h1)) (ihb hg (zx hs.2 h2))
 |lam n g s t a h1 h2 ha iha=>exact fun hg ht=>have hs:=Qk ht.1;lam n g s t a hs.1 hs.2 h1 h2 (one ha) hg (iha (zp hg (zi (zx hs.1 h1) zm)) (zx hs.2 h2))
 |unit n g=>exact fun hg ht=>unit n g hg
@[simp] theorem Ue(a b:Ty):(yy a b).kind=4:=rfl
@[simp] theorem XW(a b:Ty):(yy a b).args=[a,b]:=rfl
@[simp] theorem Yi8(a b:Ty):(Cy a b).kind=3:=rfl
@[simp] theorem Yj2(a b:Ty):(Cy a b).args=[a,b]:=rfl
theorem Wg{t:Ty}(h:t.err=0):Bl t=(t,0):=if_pos h
theorem w7{t:Ty}(h:t.small):t.err=0:=(Ty.Ae t).2 ⟨h.1,by have:=h.2;omega⟩
theorem Jx{a b:Ty}(ha:a.shape=true)(hb:b.shape=true):(yy a b).shape=true:=by simp[Ty.Ak (yy a b),ha,hb,DF]
theorem Sl{a b:Ty}(ha:a.shape=true)(hb:b.shape=true):(Cy a b).shape=true:=by simp[Ty.Ak (Cy a b),ha,hb,DF]
theorem Kq{a b:Ty}(ha:a.shape=true)(hb:b.shape=true)(h:a.size+b.size<=60):(yy a b).err=0:=(Ty.Ae _).2 ⟨Jx ha hb,by rw[vb];omega⟩
theorem Qu{a b:Ty}(ha:a.shape=true)(hb:b.shape=true)(h:a.size+b.size<=60):(Cy a b).err=0:=(Ty.Ae _).2 ⟨Sl ha hb,by rw[It];omega⟩
def EI(g:List Ty)(i:Nat):Ty:=Bv g (g.length-1-i)
theorem M4(g:List Ty)(i:Nat)(h:i<g.length):(vT i).inf g=(EI g i,0):=by
 rw[Tm.AY];have h1:¬((i:Int)>=(g.length:Int)):=by omega
 simp[vT,h1,EI]
theorem QT(g:List Ty)(a:Ty):EI (g++[a]) 0=a:=by simp[EI,Bv]
theorem WI(g:List Ty)(a:Ty)(i:Nat)(h:i<g.length):EI (g++[a]) (i+1)=EI g i:=by
 have e:g.length+1-1-(i+1)=g.length-1-i:=by omega
 simp only[EI,Bv,List.length_append,List.length_cons,List.length_nil,Nat.zero_add,e,List.getD_eq_getElem?_getD];rw[List.getElem?_append_left (by omega)]
theorem LB(g:List Ty)(a:Ty):(vT 0).inf (g++[a])=(a,0):=by
 have:=M4 (g++[a]) 0 (by simp);rw[QT] at this;exact this
theorem PN(g:List Ty)(a b:Ty):(vT 1).inf (g++[a]++[b])=(a,0):=by
 have:=M4 (g++[a]++[b]) 1 (by simp);rw[WI (g++[a]) b 0 (by simp),QT] at this;exact this
theorem xy{g:List Ty}{s t:Ty}{x:Tm}(h:x.inf (g++[s])=(t,0))(he:(yy s t).err=0):(BR s x).inf g=(yy s t,0):=by
 rw[Tm.AY];simp[BR,Tm.AH,h,Wg he]
theorem Iv{g:List Ty}{s t:Ty}{f x:Tm}(hf:f.inf g=(yy s t,0))(hx:x.inf g=(s,0)):(AO f x).inf g=(t,0):=by
 rw[Tm.AY];simp[AO,Tm.AH,hf,hx,vi]
theorem Qi{g:List Ty}{x:Tm}(h:x.inf g=(Af,0)):(sT x).inf g=(Af,0):=by
 rw[Tm.AY];simp[sT,Tm.AH,h,vi]
theorem S6(g:List Ty):zT.inf g=(Af,0):=by
 rw[Tm.AY];simp[zT,Tm.AH,vi]
theorem MS(g:List Ty):∀m,(Et m).inf g=(Af,0)
 |0=>S6 g
 |m+1=>Qi (MS g m)
theorem Nj{g:List Ty}{t:Ty}{b f x:Tm}(hb:b.inf g=(t,0))(hf:f.inf g=(yy Af (yy t t),0))(hx:x.inf g=(Af,0)):(hT 6 t [b,f,x]).inf g=(t,0):=by
 rw[Tm.AY];simp[hT,Tm.AH,hb,hf,hx,vi]
theorem Ycb{g:List Ty}{t:Ty}{b f x:Tm}(hb:b.inf g=(t,0))(hf:f.inf g=(yy Af (yy Am (yy t t)),0))(hx:x.inf g=(Am,0)):(hT 9 t [b,f,x]).inf g=(t,0):=by
 rw[Tm.AY];simp[hT,Tm.AH,hb,hf,hx,vi]
theorem NQ{g:List Ty}{s t:Ty}{a b:Tm}(ha:a.inf g=(s,0))(hb:b.inf g=(t,0))(he:(Cy s t).err=0):(nT 10 [a,b]).inf g=(Cy s t,0):=by
 rw[Tm.AY];simp[nT,Tm.AH,ha,hb,vi,Wg he]
theorem Yd4{g:List Ty}{s t:Ty}{x:Tm}(h:x.inf g=(Cy s t,0)):(nT 11 [x]).inf g=(s,0):=by
 rw[Tm.AY];simp[nT,Tm.AH,h,vi]
theorem Yf5{g:List Ty}{s t:Ty}{x:Tm}(h:x.inf g=(Cy s t,0)):(nT 12 [x]).inf g=(t,0):=by
 rw[Tm.AY];simp[nT,Tm.AH,h,vi]
theorem Zzy{g:List Ty}{a b:Tm}(ha:a.inf g=(Af,0))(hb:b.inf g=(Am,0)):(nT 8 [a,b]).inf g=(Am,0):=by
 rw[Tm.AY];simp[nT,Tm.AH,ha,hb,vi]
theorem TP{a:Ty}(ha:a.shape=true)(h:a.size<=30):(yy Af a).err=0:=Kq rfl ha (by have:Af.size=1:=rfl;omega)
theorem Ya7(g:List Ty):Cs.inf g=(yy Af (yy Af Af),0):=by
 refine xy (s:=Af) (xy (s:=Af) (Nj (t:=Af) (PN g Af Af) (xy (s:=Af) (xy (s:=Af) (Qi (LB _ _)) rfl) rfl) (LB _ _)) rfl) rfl
theorem Zzt(g:List Ty):Cj.inf g=(yy Af Af,0):=by
 refine xy (s:=Af) (Nj (t:=Af) (S6 _) (xy (s:=Af) (xy (s:=Af) (PN _ Af Af) rfl) rfl) (LB _ _)) rfl
theorem Yfm(g:List Ty):Eb.inf g=(yy Af (yy Af Af),0):=by
 refine xy (s:=Af) (xy (s:=Af) (Nj (t:=Af) (PN g Af Af) (xy (s:=Af) (xy (s:=Af) (Iv (Zzt _) (LB _ _)) rfl) rfl) (LB _ _)) rfl) rfl
theorem Mk.inf{n:Nat}{g:List Ty}{t:Ty}{x:Tm}(h:Mk n g t x)(hg:Al g)(ht:t.small):x.inf g=(t,0):=by
 refine Mk.ind (P:=fun n g t x=>x.inf g=(t,0)) ?_ ?_ ?_ ?_ ?_ ?_ ?_ ?_ ?_ ?_ ?_ ?_ ?_ ?_ ?_ ?_ h hg ht
 ·intro n g t i hi h _ _;rw[M4 g i hi];rw[<-h];rfl
 ·intro n g t s a b _ hs h1 _ ht ha hb;exact Iv (xy ha (Kq hs ht.1 (by have:=ht.2;omega))) hb
 ·intro n g t s a b _ hs h1 _ ht ha hb;exact Yd4 (NQ ha hb (Qu ht.1 hs (by have:=ht.2;omega)))
 ·intro n g t s a b _ hs h1 _ ht ha hb;exact Yf5 (NQ ha hb (Qu hs ht.1 (by have:=ht.2;omega)))
 ·intro n g t a b m _ _ _ ht ha hb;have h2:=ht.2;refine Nj hb (xy (xy (by rw[List.append_assoc];exact ha) (Kq ht.1 ht.1 (by omega))) (TP (Jx ht.1 ht.1) (by rw[vb];omega))) (MS g m)
 ·intro n g t a b c _ _ ht ha hb hc;have h2:=ht.2;have e1:Am.size=1:=rfl;refine Ycb hb (xy (xy (xy (by rw[List.append_assoc,List.append_assoc];exact ha) (Kq ht.1 ht.1 (by omega))) (Kq rfl (Jx ht.1 ht.1) (by rw[vb];omega))) (TP (Jx rfl (Jx ht.1 ht.1)) (by rw[vb,vb];omega))) hc
 ·intro n g t s a i _ hi h _ _ _ _ ha;exact Iv (s:=s) (by rw[M4 g i hi];rw[<-h];rfl) ha
 ·intro n g a _ _ ha;exact Qi ha
 ·intro n g a b _ _ ha hb;exact Iv (Iv (Ya7 g) ha) hb
 ·intro n g a b _ _ ha hb;exact Iv (Iv (Yfm g) ha) hb
 ·intro n g m _ _;exact MS g m
 ·intro n g a b _ _ ha hb;exact Zzy ha hb
 ·intro n g _;rw[Tm.AY];simp[nT,Tm.AH,vi]
 ·intro n g s t a b hs ht h1 h2 _ _ ha hb;exact NQ ha hb (Qu hs ht (by omega))
 ·intro n g s t a hs ht h1 h2 _ _ ha;exact xy ha (Kq hs ht (by omega))
 ·intro n g _;rw[Tm.AY];simp[nT,Tm.AH,vi]
theorem UO:(Ty.mk 0 []).BI=true:=rfl
theorem SQ{k:Int}{l:List Tm}(hk:CV k=some l.length)(ht:wg k=false)(h:∀x∈l,x.shape=true):(nT k l).shape=true:=by
 have:l.all Tm.shape=true:=List.all_eq_true.2 h;simp[nT,Tm.Ak,Tm.head,hk,ht,UO,this]
theorem Kg{t:Ty}(h1:t.shape=true)(h2:t.size<=64):t.ok=true:=by simp[Ty.ok,h1,h2]
theorem Tr{k:Int}{s:Ty}{l:List Tm}(hk:CV k=some l.length)(ht:wg k=true)(hs:s.ok=true)(h:∀x∈l,x.shape=true):(hT k s l).shape=true:=by
 have:l.all Tm.shape=true:=List.all_eq_true.2 h;simp[hT,Tm.Ak,Tm.head,hk,ht,hs,this]
theorem K8(i:Int)(h:0<=i):(vT i).shape=true:=by
 have:wg 1=false:=rfl;simp[vT,Tm.Ak,Tm.head,CV,this,UO,h]
theorem Re:∀m,(Et m).shape=true
 |0=>rfl
 |m+1=>SQ (k:=5) (l:=[Et m]) rfl rfl (by simp[Re m])
theorem wi{k:Int}{a b:Tm}(hk:CV k=some 2)(ht:wg k=false)(ha:a.shape=true)(hb:b.shape=true):(nT k [a,b]).shape=true:=SQ hk ht (by simp[ha,hb])
theorem S1{k:Int}{a:Tm}(hk:CV k=some 1)(ht:wg k=false)(ha:a.shape=true):(nT k [a]).shape=true:=SQ hk ht (by simp[ha])
theorem IC{s:Ty}{a:Tm}(hs:s.ok=true)(ha:a.shape=true):(BR s a).shape=true:=Tr (k:=2) rfl rfl hs (by simp[ha])
theorem UE{k:Int}{s:Ty}{a b c:Tm}(hk:CV k=some 3)(ht:wg k=true)(hs:s.ok=true)(ha:a.shape=true)(hb:b.shape=true)(hc:c.shape=true):(hT k s [a,b,c]).shape=true:=Tr hk ht hs (by simp[ha,hb,hc])
theorem Mk.shape{n:Nat}{g:List Ty}{t:Ty}{x:Tm}(h:Mk n g t x)(hg:Al g)(ht:t.small):x.shape=true:=by
 have ok:∀{t:Ty},t.small->t.ok=true:=fun h=>Kg h.1 (by have:=h.2;omega);refine Mk.ind (P:=fun n g t x=>x.shape=true) ?_ ?_ ?_ ?_ ?_ ?_ ?_ ?_ ?_ ?_ ?_ ?_ ?_ ?_ ?_ ?_ h hg ht
 ·intro n g t i hi h _ _;exact K8 _ (by omega)
 ·intro n g t s a b _ hs h1 _ ht ha hb;exact wi (k:=3) rfl rfl (IC (ok (zx hs h1)) ha) hb
 ·intro n g t s a b _ hs h1 _ ht ha hb;exact S1 rfl rfl (wi rfl rfl ha hb)
 ·intro n g t s a b _ hs h1 _ ht ha hb;exact S1 rfl rfl (wi rfl rfl ha hb)
 ·intro n g t a b m _ _ _ ht ha hb;exact UE rfl rfl (ok ht) hb (IC rfl (IC (ok ht) ha)) (Re m)
 ·intro n g t a b c _ _ ht ha hb hc;exact UE rfl rfl (ok ht) hb (IC rfl (IC rfl (IC (ok ht) ha))) hc
 ·intro n g t s a i _ hi h _ _ _ _ ha;exact wi (k:=3) rfl rfl (K8 _ (by omega)) ha
 ·intro n g a _ _ ha;exact S1 (k:=5) rfl rfl ha
 ·intro n g a b _ _ ha hb;exact wi (k:=3) rfl rfl (wi (k:=3) rfl rfl rfl ha) hb
 ·intro n g a b _ _ ha hb;exact wi (k:=3) rfl rfl (wi (k:=3) rfl rfl rfl ha) hb
 ·intro n g m _ _;exact Re m
 ·intro n g a b _ _ ha hb;exact wi rfl rfl ha hb
 ·intro n g _;rfl
 ·intro n g s t a b hs ht h1 h2 _ _ ha hb;exact wi rfl rfl ha hb
 ·intro n g s t a hs ht h1 h2 _ _ ha;exact IC (ok (zx hs h1)) ha
 ·intro n g _;rfl
def s1:Nat->Nat
 |0=>3|1=>3|2=>3|3=>24|n+4=>3*s1 (n+3)+4
def s3:Nat->Nat
 |0=>7|1=>7|2=>7|3=>24|n+4=>3*s1 (n+3)+4
theorem PW:∀n,3<=n->24<=s1 n
 |0,h=>by omega
 |1,h=>by omega
 |2,h=>by omega
 |3,_=>by decide
 |n+4,_=>by have:=PW (n+3) (by omega);simp only[s1];omega
theorem Tn:∀n,3<=n->s3 n=s1 n
 |0,h=>by omega
 |1,h=>by omega
 |2,h=>by omega
 |3,_=>rfl
 |n+4,_=>rfl
theorem GX(n:Nat)(hn:2<=n):3*s1 n+4<=s1 (n+1)/\2*s1 n+18<=s1 (n+1)/\2*s3 n+s1 n+4<=s3 (n+1)/\s1 (n+1)<=s3 (n+1)/\3<=s1 n/\s1 n<=s3 n/\2*s3 n+6<=s3 (n+1)/\s3 n+s1 n+2<=s3 (n+1):=by
 match n,hn with
 |2,_=>decide
 |n+3,_=>
  have h1:=PW (n+3) (by omega);have h2:=Tn (n+3) (by omega);have h3:s1 (n+3+1)=3*s1 (n+3)+4:=rfl;have h4:s3 (n+3+1)=3*s1 (n+3)+4:=rfl;omega
theorem Lc(n:Nat):3<=s1 n/\s1 n<=s3 n/\7<=s3 n:=by
 match n with
 |0=>decide
 |1=>decide
 |2=>decide
 |n+3=>have h1:=PW (n+3) (by omega);have h2:=Tn (n+3) (by omega);omega
theorem Yr(n:Nat)(hn:1<=n):2*s1 n+1<=s3 (n+1):=by
 match n,hn with
 |1,_=>decide
 |n+2,_=>have:=GX (n+2) (by omega);have:=Lc (n+2);omega
theorem QZ:∀m,(Et m).size=m+1
 |0=>rfl
 |m+1=>by simp[Et,Tm.size,Tm.sizes,QZ m];omega
theorem Mk.size{n:Nat}{g:List Ty}{t:Ty}{x:Tm}(h:Mk n g t x)(hg:Al g)(ht:t.small):x.size<=s3 n/\(t.size=1->x.size<=s1 n):=by
 have e1:Af.size=1:=rfl;have e2:Am.size=1:=rfl;refine Mk.ind (P:=fun n g t x=>x.size<=s3 n/\(t.size=1->x.size<=s1 n)) ?_ ?_ ?_ ?_ ?_ ?_ ?_ ?_ ?_ ?_ ?_ ?_ ?_ ?_ ?_ ?_ h hg ht
 ·intro n g t i hi h _ _;have:=Lc (n+1);simp[vT,Tm.size,Tm.sizes];omega
 ·intro n g t s a b hn hs h1 _ ht ha hb;have:=GX n hn;have:=hb.2 h1;simp[AO,BR,Tm.size,Tm.sizes];omega
 ·intro n g t s a b hn hs h1 _ ht ha hb;have:=GX n hn;have:=hb.2 h1;simp[nT,Tm.size,Tm.sizes];omega
 ·intro n g t s a b hn hs h1 _ ht ha hb;have:=GX n hn;have:=ha.2 h1;simp[nT,Tm.size,Tm.sizes];omega
 ·intro n g t a b m hn hm _ ht ha hb;have:=GX n hn;simp[hT,BR,Tm.size,Tm.sizes,QZ];omega
 ·intro n g t a b c hn _ ht ha hb hc;have:=GX n hn;have:=hc.2 e2;simp[hT,BR,Tm.size,Tm.sizes];omega
 ·intro n g t s a i hn hi h _ h1 _ _ ha;have:=GX n hn;have:=ha.2 h1;simp[AO,vT,Tm.size,Tm.sizes];omega
 ·intro n g a hn _ ha;have:=GX n hn;have:=ha.2 e1;simp[sT,Tm.size,Tm.sizes];omega
 ·intro n g a b hn _ ha hb;have:=GX n hn;have:=ha.2 e1;have:=hb.2 e1;have:Cs.size=9:=rfl;simp[AO,Tm.size,Tm.sizes];omega
 ·intro n g a b hn _ ha hb;have:=GX n hn;have:=ha.2 e1;have:=hb.2 e1;have:Eb.size=16:=rfl;simp[AO,Tm.size,Tm.sizes];omega
 ·intro n g m hm _;have:=Lc (n+1);rw[QZ];omega
 ·intro n g a b hn _ ha hb;have:=GX n hn;have:=ha.2 e1;have:=hb.2 e2;simp[nT,Tm.size,Tm.sizes];omega
 ·intro n g _;have:=Lc (n+1);simp[nT,Tm.size,Tm.sizes];omega
 ·intro n g s t a b hs ht h1 h2 hn _ ha hb;have:=Yr n hn;have:=ha.2 h1;have:=hb.2 h2;rw[It];simp[nT,Tm.size,Tm.sizes];omega
 ·intro n g s t a hs ht h1 h2 hn _ ha;have:=Yr n hn;have:=ha.2 h2;rw[vb];simp[BR,Tm.size,Tm.sizes];omega
 ·intro n g _;have:=Lc (n+1);simp[nT,Tm.size,Tm.sizes];omega
def c1:Nat->Nat
 |0=>1|1=>1|2=>1|n+3=>3*c1 (n+2)
def c3:Nat->Nat
 |0=>1|1=>1|2=>2|n+3=>2*c3 (n+2)+c1 (n+2)
theorem Zzw(at_ b k i:Int)(h:Ty)(xs:List Tm)(hk:k≠1):cnt at_ ((Tm.mk k i h xs).vars b)=(xs.map fun x=>cnt at_ (x.vars (up k b))).sum:=by
 rw[Tm.AQ];simp only[Tm.Ah,Tm.Ad,hk,if_false,List.nil_append];induction xs with
 |nil=>rfl
 |cons x l ih=>simp only[List.flatMap_cons,vk,List.map_cons,List.sum_cons,ih]
theorem Mw(t:Tm):∀(g:List Ty) (b:Int) (B:Int),(t.inf g).2=0->t.shape=true->(g.length:Int)+t.size<=B->∀p∈t.vars b,p.1<B:=by
 induction t using Tm.ind with
 |h t ih=>
  intro g b B h hs hB p hp;rw[Tm.AY] at h;have hsz:=t.size_eq;rw[t.AQ,List.mem_append] at hp;by_cases h1:t.kind=1
  ·have hargs:t.args=[]:=by
    have:=I5 hs;rw[h1] at this;exact List.eq_nil_of_length_eq_zero (Option.some.inj this).symm
   rw[if_pos h1] at h hp;simp only[hargs,List.flatMap_nil,List.not_mem_nil,or_false,List.mem_cons,or_false] at hp;subst hp;by_cases h2:t.index>=(g.length:Int)
   ·rw[if_pos h2] at h;exact absurd h (by simp)
   ·have:=t.size_pos;simp only;omega
  ·rw[if_neg h1] at h hp;simp only[List.not_mem_nil,false_or] at hp;obtain⟨x,hx,hp⟩:=List.mem_flatMap.1 hp;have hxs:=zc Tm.size hx;by_cases h2:t.kind=2
   ·rw[if_pos h2] at h;by_cases h3:(Tm.AH (g++[t.ty]) t.args).2=0
    ·exact ih x hx (g++[t.ty]) _ B (Tm.CM _ _ h3 x hx) (ze hs x hx) (by simp;omega) p hp
    ·rw[if_pos h3] at h;exact absurd h h3
   ·rw[if_neg h2] at h;by_cases h3:(Tm.AH g t.args).2=0
    ·exact ih x hx g _ B (Tm.CM _ _ h3 x hx) (ze hs x hx) (by omega) p hp
    ·rw[if_pos h3] at h;exact absurd h h3
theorem ub{g:Int->Int->Tm}{b:Int}{t:Tm}(h:t.kind=1):t.re g b=g t.index b:=by rw[Tm.Bj,if_pos h]
theorem xv{g:Int->Int->Tm}{b:Int}{t:Tm}(h:t.kind≠1):t.re g b= .mk t.kind t.index t.ty (t.args.map (Tm.re g (up t.kind b))):=by rw[Tm.Bj,if_neg h]
theorem HP{t:Tm}(hs:t.shape=true)(h:t.kind=1):t.args=[]:=by
 have:=I5 hs;rw[h] at this;exact List.eq_nil_of_length_eq_zero (Option.some.inj this).symm
theorem uk{t:Tm}(hs:t.shape=true)(h:t.kind=1)(b:Int):t.vars b=[(t.index,b)]:=by rw[t.AQ,if_pos h,HP hs h];rfl
theorem Ja{t:Tm}(h:t.kind≠1)(b:Int):t.vars b=t.args.flatMap (Tm.vars (up t.kind b)):=by rw[t.AQ,if_neg h];rfl
theorem LZ{t:Tm}(h:t.kind≠1){b:Int}{x:Tm}(hx:x∈t.args){p:Int×Int}(hp:p∈x.vars (up t.kind b)):p∈t.vars b:=by
 rw[Ja h];exact List.mem_flatMap.2 ⟨x,hx,hp⟩
theorem WU(g:Int->Int->Tm)(t:Tm):∀b,t.shape=true->(∀p∈t.vars b,(g p.1 p.2).shape=true)->(t.re g b).shape=true:=by
 induction t using Tm.ind with
 |h t ih=>
  intro b hs hg;by_cases h1:t.kind=1
  ·rw[ub h1];exact hg (t.index,b) (by rw[uk hs h1];simp)
  ·rw[xv h1];have hs0:=hs;rw[Tm.Ak,Bool.and_eq_true] at hs ⊢;refine⟨?_,?_⟩
   ·have:=hs.1;simp only[Tm.head,Tm.Ah,Tm.Ad,Tm.Ay,Tm.AL,List.length_map] at this ⊢;exact this
   ·simp only[Tm.Ad];refine List.all_eq_true.2 fun y hy=> ?_;obtain⟨x,hx,rfl⟩:=List.mem_map.1 hy;exact ih x hx _ (List.all_eq_true.1 hs.2 x hx) fun p hp=>hg p (LZ h1 hx hp)
theorem J3{fr by_:Int}{t:Tm}(b:Int)(hs:t.shape=true)(hb:0<=by_):(t.re (zl fr by_) b).shape=true:=
 WU _ t b hs fun p hp=>by
  have:=t.AJ hs b p hp;simp only[zl];exact K8 _ (by split<;>omega)
theorem L8(fr by_:Int)(t:Tm):∀b,t.shape=true->(t.re (zl fr by_) b).size=t.size:=by
 induction t using Tm.ind with
 |h t ih=>
  intro b hs;by_cases h1:t.kind=1
  ·rw[ub h1,t.size_eq,HP hs h1];simp[zl,Tm.size,Tm.sizes]
  ·rw[xv h1,t.size_eq,Tm.size_eq];simp only[Tm.Ad,List.map_map];congr 2;exact List.map_congr_left fun x hx=>ih x hx _ (ze hs x hx)
theorem Mo{at_:Int}{s t:Tm}(b:Int)(hs:s.shape=true)(ht:t.shape=true)(hb:0<=b)(ha:0<=at_)(hv:∀p∈t.vars b,0<=p.2):(t.re (xd at_ s) b).shape=true:=
 WU _ t b ht fun p hp=>by
  have:=t.AJ ht b p hp;have:=hv p hp;simp only[xd];split
  ·exact J3 0 hs (by omega)
  ·exact K8 _ (by split<;>omega)
theorem uj(t:Tm):∀b:Int,∀p∈t.vars b,b<=p.2:=by
 induction t using Tm.ind with
 |h t ih=>
  intro b p hp;rw[t.AQ,List.mem_append] at hp;rcases hp with hp|hp
  ·split at hp
   ·simp at hp;subst hp;exact Int.le_refl _
   ·cases hp
  ·obtain ⟨x,hx,hp⟩:=List.mem_flatMap.1 hp;have:=ih x hx _ p hp;have:b<=up t.kind b:=by simp only[up];split<;>omega
   omega
theorem OT(at_:Int)(s t:Tm)(hs:s.shape=true):∀b,t.shape=true->(t.re (xd at_ s) b).size=t.size+cnt at_ (t.vars b)*(s.size-1):=by
 have hp:=s.size_pos;induction t using Tm.ind with
 |h t ih=>
  intro b ht;by_cases h1:t.kind=1
  ·rw[ub h1,uk ht h1,HL,t.size_eq,HP ht h1];simp only[xd];split
   ·rw[L8 _ _ _ _ hs];simp;omega
   ·simp[Tm.size,Tm.sizes]
  ·rw[xv h1,t.size_eq,Tm.size_eq,Ja h1];simp only[Tm.Ad,List.map_map];have:∀l:List Tm,(∀x∈l,x∈t.args)->(l.map (Tm.size∘Tm.re (xd at_ s) (up t.kind b))).sum=(l.map Tm.size).sum+cnt at_ (l.flatMap (Tm.vars (up t.kind b)))*(s.size-1):=by
    intro l;induction l with
    |nil=>intro _;simp[cnt]
    |cons x l ihl=>
     intro hl;have h2:=ih x (hl x (by simp)) (up t.kind b) (ze ht x (hl x (by simp)));have h3:=ihl fun y hy=>hl y (by simp[hy]);simp only[List.map_cons,List.sum_cons,List.flatMap_cons,vk,Function.comp_apply,h2,h3,Nat.add_mul];omega
   rw[this t.args fun x hx=>hx];omega
theorem Yb1{g h:List Ty}{i:Nat}(hi:i<g.length):Bv (g++h) i=Bv g i:=by
 simp only[Bv,List.getD_eq_getElem?_getD,List.getElem?_append_left hi]
theorem Zxu{g h:List Ty}{i:Nat}(hi:g.length<=i):Bv (g++h) i=Bv h (i-g.length):=by
 simp only[Bv,List.getD_eq_getElem?_getD,List.getElem?_append_right hi]
theorem wc{g h:List Ty}{i:Nat}(hi:i<h.length):EI (g++h) i=EI h i:=by
 simp only[EI,List.length_append];rw[Zxu (by omega)];congr 1;omega
theorem I9{g h:List Ty}{i:Nat}(hi:h.length<=i)(hl:i<(g++h).length):EI (g++h) i=EI g (i-h.length):=by
 simp only[EI,List.length_append] at hl ⊢;rw[Yb1 (by omega)];congr 1;omega
theorem wq(g:List Ty)(i:Int)(h0:0<=i):(vT i).inf g=if i>=(g.length:Int) then(BF,6) else(EI g i.toNat,0):=by
 rw[Tm.AY];rfl
theorem J0{t:Tm}(hs:t.shape=true)(h:t.kind=1):t=vT t.index:=by
 refine(Tm.eq_iff _ _).2 ⟨h,rfl,?_,HP hs h⟩;rw[Tm.Ak,Bool.and_eq_true] at hs;have h1:=hs.1;simp only[Tm.head,Bool.and_eq_true,h] at h1;have h2:=h1.2;have:wg 1=false:=rfl;rw[this,cond_false] at h2;simp only[Ty.BI,Bool.and_eq_true,beq_iff_eq] at h2;exact(Ty.eq_iff _ _).2 ⟨h2.1,List.eq_nil_of_length_eq_zero h2.2⟩
theorem Yl{f:Tm->Tm}{g g':List Ty}:∀(l:List Tm),(∀x∈l,(f x).inf g'=x.inf g)->Tm.AH g' (l.map f)=Tm.AH g l:=by
 intro l;induction l with
 |nil=>intro _;rfl
 |cons x l ih=>
  intro h;simp only[List.map_cons,Tm.AH,h x (by simp),ih fun y hy=>h y (by simp[hy])]
theorem UQ(G:Int->Int->Tm)(t:Tm):∀(g g' h:List Ty) (b:Int),t.shape=true->
 (∀(i:Int) (h':List Ty) (b':Int),0<=i->(b'-b=h'.length-h.length)->h.length<=h'.length->(∃e,h'=h++e)->(G i b').inf (g'++h')=(vT i).inf (g++h'))->
 (t.re G b).inf (g'++h)=t.inf (g++h):=by
 induction t using Tm.ind with
 |h t ih=>
  intro g g' h b hs hG;by_cases h1:t.kind=1
  ·rw[ub h1];have:=hG t.index h b (N8 hs).1 (by omega) (by omega) ⟨[],by simp⟩;rw[this,<-J0 hs h1]
  ·rw[xv h1,Tm.AY,Tm.AY (t:=t)];simp only[Tm.Ah,Tm.AL,Tm.Ad,h1,if_false];by_cases h2:t.kind=2
   ·have e:up t.kind b=b+1:=if_pos h2;have:Tm.AH (g'++h++[t.ty]) (t.args.map (Tm.re G (up t.kind b)))=Tm.AH (g++h++[t.ty]) t.args:=by
     refine Yl t.args fun x hx=> ?_;rw[List.append_assoc,List.append_assoc];refine ih x hx g g' (h++[t.ty]) _ (ze hs x hx) fun i h' b' hi hb hl he=>hG i h' b' hi ?_ ?_ ?_
     ·rw[e] at hb;simp at hb;omega
     ·simp at hl;omega
     ·obtain ⟨e',he'⟩:=he;exact⟨[t.ty]++e',by rw[he',List.append_assoc]⟩
    simp only[h2,if_true,this];rw[<-h2,this]
   ·have e:up t.kind b=b:=if_neg h2;have:Tm.AH (g'++h) (t.args.map (Tm.re G (up t.kind b)))=Tm.AH (g++h) t.args:=Yl t.args fun x hx=>ih x hx g g' h _ (ze hs x hx) (by rw[e];exact hG);simp only[h2,if_false,this]
theorem SC(t:Tm)(g m h:List Ty)(fr b:Int)(hs:t.shape=true)(hh:(h.length:Int)=fr+b):(t.re (zl fr m.length) b).inf (g++m++h)=t.inf (g++h):=by
 refine UQ _ t g (g++m) h b hs fun i h' b' hi hb hl _=> ?_;have hlen:(h'.length:Int)=fr+b':=by omega
 show(vT (if i-b'>=fr then i+m.length else i)).inf _=_;by_cases hc:i-b'>=fr
 ·rw[if_pos hc,wq _ _ (by omega),wq _ _ hi];simp only[List.length_append];by_cases hr:i>=((g.length+h'.length:Nat):Int)
  ·rw[if_pos (by omega),if_pos hr]
  ·rw[if_neg (by omega),if_neg hr];have e1:(i+(m.length:Int)).toNat=i.toNat+m.length:=by omega
   rw[I9 (by omega) (by simp;omega),I9 (by omega) (by simp;omega),I9 (by omega) (by simp;omega)];congr 2;omega
 ·rw[if_neg hc,wq _ _ hi,wq _ _ hi];simp only[List.length_append];rw[if_neg (by omega),if_neg (by omega),wc (by omega),wc (by omega)]
theorem Qc(t s:Tm)(g h:List Ty)(σ:Ty)(at_ b:Int)(ht:t.shape=true)(hs:s.shape=true)(hh:(h.length:Int)=at_+b)(hσ:s.inf g=(σ,0)):(t.re (xd at_ s) b).inf (g++h)=t.inf (g++[σ]++h):=by
 refine UQ _ t (g++[σ]) g h b ht fun i h' b' hi hb hl _=> ?_;have hlen:(h'.length:Int)=at_+b':=by omega
 simp only[xd];by_cases hc:i-b'=at_
 ·rw[if_pos hc];have e:=SC s g h' [] 0 0 hs rfl;simp only[List.append_nil] at e;rw[<-hlen,e,hσ,wq _ _ hi];simp only[List.length_append,List.length_cons,List.length_nil];rw[if_neg (by omega),I9 (by omega) (by simp;omega)];rw[show i.toNat-h'.length=0 by omega,QT]
 ·rw[if_neg hc];by_cases hg:i-b'>at_
  ·rw[if_pos hg];show(vT (i-1)).inf _=_;rw[wq _ _ (by omega),wq _ _ hi];simp only[List.length_append,List.length_cons,List.length_nil];by_cases hr:i>=((g.length+(0+1)+h'.length:Nat):Int)
   ·rw[if_pos (by omega),if_pos hr]
   ·rw[if_neg (by omega),if_neg hr,I9 (by omega) (by simp;omega),I9 (by omega) (by simp;omega)];obtain⟨k,hk⟩:∃k,i.toNat-h'.length=k+1:=⟨i.toNat-h'.length-1,by omega⟩;rw[hk,WI g σ k (by omega)];congr 2;omega
  ·rw[if_neg hg];show(vT i).inf _=_;rw[wq _ _ hi,wq _ _ hi];simp only[List.length_append,List.length_cons,List.length_nil];rw[if_neg (by omega),if_neg (by omega),wc (by omega),wc (by omega)]
theorem ME{t:Tm}{g:List Ty}(h:(t.inf g).2=0)(hs:t.shape=true)(hb:g.length+t.size<=536870912):t.near=true:=
 List.all_eq_true.2 fun p hp=>by
  have:=Mw t g 0 536870912 h hs (by omega) p hp;simp;omega
theorem Tm.Ae(t:Tm):t.err=0↔t.shape=true/\t.size<=4096:=by
 simp only[Tm.err];cases t.shape
 ·simp
 ·by_cases h:t.size>4096
  ·simp[h]
  ·simp[h];omega
theorem Jw(fr by_:Int)(t:Tm):∀b,t.shape=true->(t.re (zl fr by_) b).full=t.full:=by
 induction t using Tm.ind with
 |h t ih=>
  intro b hs;by_cases h1:t.kind=1
  ·rw[ub h1]
   conv=>rhs;rw[J0 hs h1]
   simp[zl,vT,Tm.full,Tm.Au]
  ·rw[xv h1,t.Ag,Tm.Ag];simp only[Tm.Ad,Tm.AL,List.map_map];congr 2;exact List.map_congr_left fun x hx=>ih x hx _ (ze hs x hx)
theorem Yan(at_:Int)(s t:Tm)(hs:s.shape=true):∀b,t.shape=true->(t.re (xd at_ s) b).full<=t.full+cnt at_ (t.vars b)*s.full:=by
 induction t using Tm.ind with
 |h t ih=>
  intro b ht;by_cases h1:t.kind=1
  ·rw[ub h1,uk ht h1,HL];have e:t.full=2:=by rw[J0 ht h1];rfl
   simp only[xd];split
   ·rw[Jw _ _ _ _ hs];omega
   ·rw[e];simp[Tm.full,Tm.Au,Ty.size,Ty.sizes]
  ·rw[xv h1,t.Ag,Tm.Ag,Ja h1];simp only[Tm.Ad,Tm.AL,List.map_map];have:∀l:List Tm,(∀x∈l,x∈t.args)->(l.map (Tm.full∘Tm.re (xd at_ s) (up t.kind b))).sum<=(l.map Tm.full).sum+cnt at_ (l.flatMap (Tm.vars (up t.kind b)))*s.full:=by
    intro l;induction l with
    |nil=>intro _;simp
    |cons x l ihl=>
     intro hl;have h2:=ih x (hl x (by simp)) (up t.kind b) (ze ht x (hl x (by simp)));have h3:=ihl fun y hy=>hl y (by simp[hy]);simp only[List.map_cons,List.sum_cons,List.flatMap_cons,vk,Function.comp_apply,Nat.add_mul];omega
   have:=this t.args fun x hx=>hx;omega
theorem Dk.type1(d:Dk):(d.type 1).1.small:=by
 have e:=Dk.Ep 1 d;rw[show(1:Int).toNat=1 from rfl,show((1:Int)-1).toNat=0 from rfl] at e;have h1:=Dk.type0 (d.next 7).2;have h2:=Dk.type0 ((d.next 7).2.type 0).2;rw[e];generalize ((d.next 7).2.type 0).1=a at*;generalize (((d.next 7).2.type 0).2.type 0).1=b at*;split
 ·split
  ·exact ⟨Sl h1.1 h2.1,show(Cy a b).size<=3 by rw[It];omega⟩
  ·exact ⟨Jx h1.1 h2.1,show(yy a b).size<=3 by rw[vb];omega⟩
 ·split
  ·exact ⟨rfl,show(Ty.mk 2 []).size<=3 by decide⟩
  ·split
   ·exact ⟨rfl,show(Ty.mk 5 []).size<=3 by decide⟩
   ·exact ⟨rfl,show(Ty.mk 1 []).size<=3 by decide⟩
theorem Dk.C4:∀(n:Nat) (d:Dk),Al (d.types n).1
 |0,d=>zm
 |n+1,d=>zi (Dk.type1 d) (Dk.C4 n _)
theorem Dk.BW(d:Dk):Al d.ctx.1:=Dk.C4 _ _
theorem Dk.ED(d:Dk):d.ctx.1.length<=3:=by
 have:=Dk.Bx d 4 (by omega);simp only[Dk.ctx,Dk.Dh];omega
theorem Dk.Fo{d:Dk}(h:d.ok):d.ctx.2.ok:=Dk.DU _ _ (Dk.AE h 4)
def Em(g:List Ty)(t:Tm):Ty×Int:=if t.err≠0 then(BF,t.err) else t.inf g
def y3(g:List Ty)(t:Tm):Ty×Int:=if xq g≠0 then(BF,xq g) else Em g t
theorem Zxs{g:List Ty}(h:Al g)(hl:g.length<=16):xq g=0:=by
 unfold xq;rw[if_neg (by omega)];exact Xn g fun j hj _=>w7 (h _ (List.getElem_mem hj))
theorem Yk:∀{g:List Ty},v5 g=0->∀x∈g,x.err=0
 |[],_,x,hx=>by cases hx
 |t::l,h,x,hx=>by
  simp only[v5] at h;by_cases h1:t.err=0
  ·simp only[h1,ne_eq,not_true_eq_false,if_false] at h;rcases List.mem_cons.1 hx with rfl|hx
   ·exact h1
   ·exact Yk h x hx
  ·rw[if_pos h1] at h;exact absurd h h1
theorem ug{g:List Ty}(h:xq g=0):g.length<=16/\∀x∈g,x.err=0:=by
 unfold xq at h;by_cases h1:g.length>16
 ·rw[if_pos h1] at h;exact absurd h (by decide)
 ·rw[if_neg h1] at h;exact⟨by omega,Yk h⟩
theorem Mk.err{n:Nat}{g:List Ty}{t:Ty}{x:Tm}(h:Mk n g t x)(hg:Al g)(ht:t.small)(hn:n<=5):x.err=0:=by
 refine(Tm.Ae x).2 ⟨h.shape hg ht,?_⟩;have:=(h.size hg ht).1;have:s3 n<=232:=by
  match n,hn with
  |0,_=>decide
  |1,_=>decide
  |2,_=>decide
  |3,_=>decide
  |4,_=>decide
  |5,_=>decide
 omega
theorem Mk.Ft{n:Nat}{g:List Ty}{t:Ty}{x:Tm}(h:Mk n g t x)(hg:Al g)(ht:t.small)(hn:n<=5):x.size<=232:=by
 have:=(h.size hg ht).1;have:s3 n<=232:=by
  match n,hn with
  |0,_=>decide
  |1,_=>decide
  |2,_=>decide
  |3,_=>decide
  |4,_=>decide
  |5,_=>decide
 omega
theorem Mk.near{n:Nat}{g:List Ty}{t:Ty}{x:Tm}(h:Mk n g t x)(hg:Al g)(ht:t.small)(hn:n<=5)(hl:g.length<=100000):x.near=true:=
 ME (by rw[h.inf hg ht]) (h.shape hg ht) (by have:=h.Ft hg ht hn;omega)
def Ks(t:Ty):Sz:=⟨t,t.num⟩
def JF:Sz:=⟨BF,0⟩
def Pb(k:Int):List Int:=if k=4 then [1] else if k=5 then [1,1] else if k=7 then [2] else if k=8 then [2,1,2] else if k=13 then [5] else []
def XE(k:Int)(a b:Sz):Sz×Int:=if 1+a.nodes+b.nodes>64 then(JF,4) else(⟨.mk k [a.ty,b.ty],1+a.nodes+b.nodes⟩,0)
def L7(r:Ty)(l:List Ty):Ty:=l.foldr yy r
def stepT(t:Tm):Ty:=if t.kind=9 then L7 t.ty [Af,Am,t.ty] else L7 t.ty [Af,t.ty]
def pad3:List Ty->List V
 |[]=>JF.view++JF.view++JF.view
 |[a]=>(Ks a).view++JF.view++JF.view
 |[a,b]=>(Ks a).view++(Ks b).view++JF.view
 |a::b::c::_=>(Ks a).view++(Ks b).view++(Ks c).view
theorem Mk.weak{n:Nat}{g:List Ty}{t:Ty}{x:Tm}(m:List Ty)(h:Mk n g t x):Mk n (m++g) t x:=by
 induction h with
 |var n g t i hi h=>exact .var n _ t i (by simp;omega) ((wc hi).trans h)
 |app n g t s a b hn hs h1 _ _ iha ihb=>exact .app n _ t s a b hn hs h1 (by rw[List.append_assoc];exact iha) ihb
 |fst n g t s a b hn hs h1 _ _ iha ihb=>exact .fst n _ t s a b hn hs h1 iha ihb
 |snd n g t s a b hn hs h1 _ _ iha ihb=>exact .snd n _ t s a b hn hs h1 iha ihb
 |recu n g t a b m' hn hm _ _ iha ihb=>exact .recu n _ t a b m' hn hm (by rw[List.append_assoc];exact iha) ihb
 |fold n g t a b c hn _ _ _ iha ihb ihc=>exact .fold n _ t a b c hn (by rw[List.append_assoc];exact iha) ihb ihc
 |ctx n g t s a hn i hi h h1 _ iha=>exact .ctx n _ t s a hn i (by simp;omega) ((wc hi).trans h) h1 iha
 |succ n g a hn _ iha=>exact .succ n _ a hn iha
 |plus n g a b hn _ _ iha ihb=>exact .plus n _ a b hn iha ihb
 |sub n g a b hn _ _ iha ihb=>exact .sub n _ a b hn iha ihb
 |num n g m' hm=>exact .num n _ m' hm
 |cons n g a b hn _ _ iha ihb=>exact .cons n _ a b hn iha ihb
 |nil n g=>exact .nil n _
 |pair n g s t a b h1 h2 _ _ iha ihb=>exact .pair n _ s t a b h1 h2 iha ihb
 |lam n g s t a h1 h2 _ iha=>exact .lam n _ s t a h1 h2 (by rw[List.append_assoc];exact iha)
 |unit n g=>exact .unit n _
theorem Zzk{t:Ty}(h:t.small):t.ok=true:=Kg h.1 (by have:=h.2;omega)
def O9:List Tm->Int
 |[]=>0
 |t::l=>if t.err≠0 then t.err else O9 l
def Yi7(f:Tm)(l:List Tm):Nat:=f.size+(l.map fun x=>1+x.size).sum
def Yju(f:Tm)(l:List Tm):Int:=if f.err≠0 then f.err else if O9 l≠0 then O9 l else if Yi7 f l>4096 then 4 else 0
def Q1(f:Tm)(l:List Tm):Tm:=if Yju f l=0 then LG f l else A0
mutual
def Df:Ty->Tm
 | .mk k l=>if k=2 then nT 7 [] else if k=5 then nT 13 [] else if k=3 then nT 10 (LD l) else if k=4 then BR (Bv l 0) ((LD l).getD 1 A0) else nT 4 []
def LD:List Ty->List Tm
 |[]=>[]
 |t::l=>Df t::LD l
end
theorem Yft(a b:Ty):Df (Cy a b)=nT 10 [Df a,Df b]:=by simp[Cy,Df,LD]
theorem Yfd(a b:Ty):Df (yy a b)=BR a (Df b):=by simp[yy,Df,LD,Bv]
theorem Zui(t:Ty):t.shape=true->t.size<=64->(∀g,(Df t).inf g=(t,0))/\(Df t).shape=true/\(Df t).size<=t.size/\(Df t).full<=66*t.size:=by
 induction t using Ty.ind with
 |h t ih=>
  intro hs h64;rcases U0 hs with rfl|rfl|rfl|⟨a,b,ha,hb,rfl|rfl⟩
  ·exact ⟨fun g=>S6 g,by decide,by decide,by decide⟩
  ·exact ⟨fun g=>by simp[Df,Am,nT,Tm.inf,Tm.AH,vi],by decide,by decide,by decide⟩
  ·exact ⟨fun g=>by simp[Df,Hq,nT,Tm.inf,Tm.AH,vi],by decide,by decide,by decide⟩
  ·rw[It] at h64 ⊢;rw[Yft];obtain⟨a1,a2,a3,a4⟩:=ih a (by simp) ha (by omega);obtain⟨b1,b2,b3,b4⟩:=ih b (by simp) hb (by omega);refine⟨fun g=>NQ (a1 g) (b1 g) ((Ty.Ae _).2 ⟨Sl ha hb,by rw[It];omega⟩),wi rfl rfl a2 b2,?_,?_⟩
   ·simp only[nT,Tm.size,Tm.sizes];omega
   ·simp only[nT,Tm.full,Tm.Au,Ty.size,Ty.sizes];omega
  ·rw[vb] at h64 ⊢;rw[Yfd];obtain⟨b1,b2,b3,b4⟩:=ih b (by simp) hb (by omega);have hp:=a.size_pos;refine⟨fun g=>xy (b1 _) ((Ty.Ae _).2 ⟨Jx ha hb,by rw[vb];omega⟩),IC (Kg ha (by omega)) b2,?_,?_⟩
   ·simp only[BR,Tm.size,Tm.sizes];omega
   ·simp only[BR,Tm.full,Tm.Au];omega
@[simp] theorem Fm.Ah(k:Int)(h:Ty)(ts:List Tm)(as:List Fm):(Fm.mk k h ts as).kind=k:=rfl
@[simp] theorem Fm.AL(k:Int)(h:Ty)(ts:List Tm)(as:List Fm):(Fm.mk k h ts as).ty=h:=rfl
@[simp] theorem Fm.Ai(k:Int)(h:Ty)(ts:List Tm)(as:List Fm):(Fm.mk k h ts as).terms=ts:=rfl
@[simp] theorem Fm.Ad(k:Int)(h:Ty)(ts:List Tm)(as:List Fm):(Fm.mk k h ts as).args=as:=rfl
def xp(k:Int):Bool:=decide (4<=k)&&decide (k<=7)
def Fm.head(f:Fm):Bool:=
 if f.kind=1 then f.ty.BI&&f.terms.length==2&&f.args.length==0
 else if f.kind=2\/f.kind=3 then f.ty.BI&&f.terms.length==0&&f.args.length==2
 else if f.kind=4\/f.kind=5\/f.kind=6\/f.kind=7 then f.ty.ok&&f.terms.length==0&&f.args.length==1 else false
mutual
def Fm.shape:Fm->Bool
 | .mk k h ts as=>Fm.head (.mk k h ts as)&&ts.all Tm.shape&&Fm.Bb as
def Fm.Bb:List Fm->Bool
 |[]=>true
 |f::l=>f.shape&&Fm.Bb l
end
mutual
def Fm.size:Fm->Nat
 | .mk _ _ ts as=>1+(ts.map Tm.size).sum+Fm.sizes as
def Fm.sizes:List Fm->Nat
 |[]=>0
 |f::l=>f.size+Fm.sizes l
end
mutual
def Fm.full:Fm->Nat
 | .mk _ h ts as=>1+h.size+(ts.map Tm.full).sum+Fm.Au as
def Fm.Au:List Fm->Nat
 |[]=>0
 |f::l=>f.full+Fm.Au l
end
theorem Fm.Bt:∀l:List Fm,Fm.Bb l=l.all Fm.shape
 |[]=>rfl
 |f::l=>by rw[Fm.Bb,Fm.Bt l];rfl
theorem Fm.BG:∀l:List Fm,Fm.sizes l=(l.map Fm.size).sum
 |[]=>rfl
 |f::l=>by rw[Fm.sizes,Fm.BG l];rfl
theorem Fm.B2:∀l:List Fm,Fm.Au l=(l.map Fm.full).sum
 |[]=>rfl
 |f::l=>by rw[Fm.Au,Fm.B2 l];rfl
theorem Fm.Ak(f:Fm):f.shape=(f.head&&f.terms.all Tm.shape&&f.args.all Fm.shape):=by cases f;simp only[Fm.shape,Fm.Bt];rfl
theorem Fm.size_eq(f:Fm):f.size=1+(f.terms.map Tm.size).sum+(f.args.map Fm.size).sum:=by cases f;simp only[Fm.size,Fm.BG];rfl
theorem Fm.Ag(f:Fm):f.full=1+f.ty.size+(f.terms.map Tm.full).sum+(f.args.map Fm.full).sum:=by cases f;simp only[Fm.full,Fm.B2];rfl
theorem Fm.Aa(f:Fm):1<=f.full:=by rw[Fm.Ag];omega
theorem Fm.size_pos(f:Fm):1<=f.size:=by rw[Fm.size_eq];omega
theorem Fm.ind{P:Fm->Prop}(h:∀f,(∀x∈f.args,P x)->P f)(f:Fm):P f:=by
 have:∀n,∀f:Fm,f.full<=n->P f:=by
  intro n;induction n with
  |zero=>intro f h;have:=f.Aa;omega
  |succ n ih=>
   intro f hf;refine h f fun x hx=>ih x ?_;have:=zc Fm.full hx;have:=f.Ag;omega
 exact this _ f (Nat.le_refl _)
theorem Fm.Aj(f:Fm):f.size<=f.full:=by
 induction f using Fm.ind with
 |h f ih=>
  rw[f.size_eq,f.Ag];have h1:=y0 (f:=Fm.size) (g:=Fm.full) f.args ih;have h2:=y0 (f:=Tm.size) (g:=Tm.full) f.terms fun x _=>x.Aj;omega
def Fm.nodes(f:Fm):Nat:=if f.shape then f.size else 0
def Fm.err(f:Fm):Int:=if f.shape=false then 2 else if f.size>4096 then 4 else 0
def Fm.num(f:Fm):Int:=if f.err=0 then f.size else 0
def A1:Fm:= .mk 0 (.mk 0 []) [] []
def AP(a b:Tm):Fm:= .mk 1 (.mk 0 []) [a,b] []
theorem Jt{a b:Tm}(ha:a.shape=true)(hb:b.shape=true):(AP a b).shape=true:=by
 rw[Fm.Ak];simp[AP,Fm.head,ha,hb,Ty.BI]
theorem I6(a b:Tm):(AP a b).size=1+(a.size+b.size):=by rw[Fm.size_eq];simp[AP]
theorem Fm.Ae(f:Fm):f.err=0↔f.shape=true/\f.size<=4096:=by
 unfold Fm.err;cases hs:f.shape with
 |false=>simp
 |true=>
  by_cases h:f.size>4096
  ·rw[if_neg (by simp),if_pos h];constructor
   ·intro h;cases h
   ·rintro ⟨_,h2⟩;omega
  ·rw[if_neg (by simp),if_neg h];exact⟨fun _=>⟨rfl,by omega⟩,fun _=>rfl⟩
def Tm.arg(t:Tm)(i:Nat):Tm:=t.args.getD i A0
mutual
def yr(at_:Int):Tm->Nat
 | .mk k i h xs=>if k=1/\i=at_ then 1 else Nr (up k at_) xs
def Nr(at_:Int):List Tm->Nat
 |[]=>0
 |x::l=>yr at_ x+Nr at_ l
end
theorem X7(at_:Int):∀l:List Tm,Nr at_ l=(l.map (yr at_)).sum
 |[]=>rfl
 |x::l=>by rw[Nr,X7 at_ l];rfl
theorem NK(at_:Int)(t:Tm):yr at_ t=if t.kind=1/\t.index=at_ then 1 else(t.args.map (yr (up t.kind at_))).sum:=by
 cases t;simp only[yr,X7,Tm.Ah,Tm.Ay,Tm.Ad];rfl
theorem Li(t:Tm):∀at_,yr at_ t<=t.size:=by
 induction t using Tm.ind with
 |h t ih=>
  intro at_;rw[NK,t.size_eq];split
  ·omega
  ·have:=y0 (f:=yr (up t.kind at_)) (g:=Tm.size) t.args fun x hx=>ih x hx _;omega
theorem SZ(t:Tm):∀at_ b:Int,t.shape=true->yr (at_+b) t=cnt at_ (t.vars b):=by
 induction t using Tm.ind with
 |h t ih=>
  intro at_ b hs;rw[NK];by_cases h1:t.kind=1
  ·rw[uk hs h1,HL,HP hs h1];by_cases h:t.index=at_+b
   ·rw[if_pos ⟨h1,h⟩,if_pos (by show t.index-b=at_;omega)]
   ·rw[if_neg (fun hh=>h hh.2),if_neg (by show ¬t.index-b=at_;omega)];rfl
  ·rw[if_neg (fun hh=>h1 hh.1)];have hargs:=ze hs;obtain⟨k,i,th,xs⟩:=t;rw[Zzw at_ b k i th xs h1];have e:up k (at_+b)=at_+up k b:=by unfold up;split<;>omega
   simp only[Tm.Ah,Tm.Ad] at*;rw[e];congr 1;exact List.map_congr_left fun x hx=>ih x hx at_ (up k b) (hargs x hx)
def JB(t:Tm):Bool:=
 if t.kind=3 then(t.arg 0).kind==2&&((t.arg 1).args.length==0||decide (yr 0 ((t.arg 0).arg 0)<=1))
 else if t.kind=6 then(t.arg 2).kind==4
 else if t.kind=9 then(t.arg 2).kind==7
 else if t.kind=11\/t.kind=12 then(t.arg 0).kind==10 else false
def Io(t:Tm):Tm:=
 if t.kind=3 then((t.arg 0).arg 0).re (xd 0 (t.arg 1)) 0
 else if t.kind=11 then(t.arg 0).arg 0 else if t.kind=12 then(t.arg 0).arg 1 else t.arg 0
mutual
def FB:Tm->Option Tm
 | .mk k i h xs=>if JB (.mk k i h xs)=true then some (Io (.mk k i h xs)) else(I2 xs).map (Tm.mk k i h)
def I2:List Tm->Option (List Tm)
 |[]=>none
 |x::l=>match FB x with
  |some u=>some (u::l)
  |none=>(I2 l).map (x::·)
end
theorem UH(t:Tm):FB t=if JB t=true then some (Io t) else(I2 t.args).map (Tm.mk t.kind t.index t.ty):=by
 cases t;simp only[FB];rfl
theorem Wl:∀(xs ys:List Tm),I2 xs=some ys->∃(i:Nat) (hi:i<xs.length) (u:Tm),FB xs[i]=some u/\ys=xs.set i u/\∀(j:Nat) (hj:j<xs.length),j<i->FB xs[j]=none
 |[],ys,h=>by simp[I2] at h
 |x::l,ys,h=>by
  simp only[I2] at h;cases hx:FB x with
  |some u=>
   rw[hx] at h;cases h;exact⟨0,by simp,u,hx,rfl,fun j _ hj=>by omega⟩
  |none=>
   rw[hx] at h;simp only[Option.map_eq_some_iff] at h;obtain⟨zs,h1,rfl⟩:=h;obtain⟨i,hi,u,h2,rfl,h3⟩:=Wl l zs h1;refine⟨i+1,by simpa using hi,u,by simpa using h2,rfl,fun j hj hji=> ?_⟩;cases j with
   |zero=>exact hx
   |succ j=>have:=h3 j (by simpa using hj) (by omega);simpa using this
theorem vz{t:Tm}{g:List Ty}{T:Ty}(h1:t.kind≠1)(h2:t.kind≠2)(h:t.inf g=(T,0)):(∀x∈t.args,(x.inf g).2=0)/\vi t.kind t.ty (t.args.map fun x=>(x.inf g).1)=(T,0):=by
 rw[Tm.AY,if_neg h1,if_neg h2] at h;by_cases h3:(Tm.AH g t.args).2=0
 ·rw[if_neg (by simpa using h3)] at h;have h4:=Tm.CM g t.args h3;refine⟨h4,?_⟩;rw[Tm.EE g t.args h4] at h;exact h
 ·rw[if_pos h3] at h;exact absurd (congrArg Prod.snd h) h3
theorem NM{i:Int}{th T:Ty}{b:Tm}{g:List Ty}(h:(Tm.mk 2 i th [b]).inf g=(T,0)):(b.inf (g++[th])).2=0/\T=yy th (b.inf (g++[th])).1:=by
 rw[Tm.AY,if_neg (by simp),if_pos (by simp)] at h;simp only[Tm.Ad,Tm.AL] at h;by_cases h3:(b.inf (g++[th])).2=0
 ·refine ⟨h3,?_⟩;simp only[Tm.AH,h3,ne_eq,not_true_eq_false,if_false] at h;unfold Bl at h;split at h
  ·exact (congrArg Prod.fst h).symm
  ·exact absurd (congrArg Prod.snd h) (by simp)
 ·simp only[Tm.AH,h3,ne_eq,not_false_eq_true,if_true] at h;exact absurd (congrArg Prod.snd h) h3
theorem Yef{a b T:Ty}(h:Bl (Cy a b)=(T,0)):T=Cy a b:=by
 unfold Bl at h;split at h
 ·exact (congrArg Prod.fst h).symm
 ·exact absurd (congrArg Prod.snd h) (by simp)
theorem R5{i:Int}{th T:Ty}{x y:Tm}{g:List Ty}(h:(Tm.mk 10 i th [x,y]).inf g=(T,0)):(x.inf g).2=0/\(y.inf g).2=0/\T=Cy (x.inf g).1 (y.inf g).1:=by
 obtain⟨h1,h2⟩:=vz (by simp) (by simp) h;exact⟨h1 x (by simp),h1 y (by simp),Yef (by simpa[vi,Bv] using h2)⟩
theorem Js{t:Tm}(hs:t.shape=true){k:Int}(hk:t.kind=k)(ha:CV k=some 2):∃i th x y,t= .mk k i th [x,y]/\x.shape=true/\y.shape=true:=by
 have h:=I5 hs;have h2:=ze hs;obtain⟨k',i,th,xs⟩:=t;simp only[Tm.Ah,Tm.Ad] at*;subst hk;rw[ha] at h;obtain⟨x,y,rfl⟩:=NR (Option.some.inj h).symm;exact⟨i,th,x,y,rfl,h2 x (by simp),h2 y (by simp)⟩
theorem G9{t:Tm}(hs:t.shape=true){k:Int}(hk:t.kind=k)(ha:CV k=some 1):∃i th x,t= .mk k i th [x]/\x.shape=true:=by
 have h:=I5 hs;have h2:=ze hs;obtain⟨k',i,th,xs⟩:=t;simp only[Tm.Ah,Tm.Ad] at*;subst hk;rw[ha] at h;obtain⟨x,rfl⟩:=Qo (Option.some.inj h).symm;exact⟨i,th,x,rfl,h2 x (by simp)⟩
theorem Ko{t:Tm}(hs:t.shape=true){k:Int}(hk:t.kind=k)(ha:CV k=some 3):∃i th x y z,t= .mk k i th [x,y,z]/\x.shape=true/\y.shape=true/\z.shape=true:=by
 have h:=I5 hs;have h2:=ze hs;obtain⟨k',i,th,xs⟩:=t;simp only[Tm.Ah,Tm.Ad] at*;subst hk;rw[ha] at h;obtain⟨x,y,z,rfl⟩:=X6 (Option.some.inj h).symm;exact⟨i,th,x,y,z,rfl,h2 x (by simp),h2 y (by simp),h2 z (by simp)⟩
theorem Zms{t:Tm}(hs:t.shape=true)(h:JB t=true):
 (∃i th j s b a,t= .mk 3 i th [.mk 2 j s [b],a]/\b.shape=true/\a.shape=true/\(a.args.length=0\/yr 0 b<=1)/\Io t=b.re (xd 0 a) 0)\/
 (∃k i th x y z,(k=6\/k=9)/\t= .mk k i th [x,y,z]/\x.shape=true/\Io t=x)\/
 (∃k i th j s x y,(k=11\/k=12)/\t= .mk k i th [.mk 10 j s [x,y]]/\x.shape=true/\y.shape=true/\Io t=if k=11 then x else y):=by
 unfold JB at h;by_cases h3:t.kind=3
 ·left;rw[if_pos h3] at h;obtain⟨i,th,f,a,rfl,hf,ha⟩:=Js hs h3 rfl;simp only[Tm.arg,Tm.Ad,List.getD_cons_zero,List.getD_cons_succ,Bool.and_eq_true,beq_iff_eq,Bool.or_eq_true,decide_eq_true_eq] at h;obtain⟨j,s,b,rfl,hb⟩:=G9 hf h.1 rfl;exact⟨i,th,j,s,b,a,rfl,hb,ha,by simpa[Tm.arg] using h.2,rfl⟩
 ·rw[if_neg h3] at h;by_cases h6:t.kind=6
  ·obtain ⟨i,th,x,y,z,rfl,hx,_,_⟩:=Ko hs h6 rfl;exact .inr (.inl ⟨6,i,th,x,y,z,.inl rfl,rfl,hx,rfl⟩)
  ·rw[if_neg h6] at h;by_cases h9:t.kind=9
   ·obtain ⟨i,th,x,y,z,rfl,hx,_,_⟩:=Ko hs h9 rfl;exact .inr (.inl ⟨9,i,th,x,y,z,.inr rfl,rfl,hx,rfl⟩)
   ·rw[if_neg h9] at h;by_cases h11:t.kind=11\/t.kind=12
    ·rw[if_pos h11] at h;have ha:CV t.kind=some 1:=by rcases h11 with h|h<;>rw[h]<;>rfl
     obtain⟨i,th,p,rfl',hp⟩:=G9 hs rfl ha;rw[rfl'] at h;simp only[Tm.arg,Tm.Ad,List.getD_cons_zero,beq_iff_eq] at h;obtain⟨j,s,x,y,rfl,hx,hy⟩:=Js hp h rfl;refine .inr (.inr ⟨t.kind,i,th,j,s,x,y,h11,rfl',hx,hy,?_⟩);rcases h11 with hk|hk<;>rw[rfl',hk]<;>rfl
    ·rw[if_neg h11] at h;cases h
theorem Zxr{t:Tm}{g:List Ty}{T:Ty}(hs:t.shape=true)(h:t.inf g=(T,0))(hsm:JB t=true):(Io t).inf g=(T,0)/\(Io t).shape=true/\(Io t).size<t.size:=by
 rcases Zms hs hsm with⟨i,th,j,s,b,a,rfl,hb,ha,hor,e⟩|⟨k,i,th,x,y,z,hk,rfl,hx,e⟩|⟨k,i,th,j,s,x,y,hk,rfl,hx,hy,e⟩
 ·rw[e];obtain⟨h1,h2⟩:=vz (by simp) (by simp) h;have hf:(Tm.mk 2 j s [b]).inf g=(((Tm.mk 2 j s [b]).inf g).1,0):=by rw[<-h1 (.mk 2 j s [b]) (by simp)]
  obtain⟨h3,h4⟩:=NM hf;have ha0:=h1 a (by simp);simp only[Tm.Ah,Tm.AL,Tm.Ad,List.map_cons,List.map_nil,h4] at h2;have h5:s=(a.inf g).1/\(b.inf (g++[s])).1=T:=by
   simp only[vi,Bv,List.getD_cons_zero,List.getD_cons_succ,Ue,XW] at h2;by_cases h6:s=(a.inf g).1
   ·refine ⟨h6,?_⟩;simp[h6] at h2;rw[h6];exact h2
   ·simp[h6] at h2
  have hσ:a.inf g=(s,0):=by rw[h5.1,<-ha0]
  have hp:=Qc b a g [] s 0 0 hb ha rfl hσ;rw[List.append_nil,List.append_nil] at hp;refine⟨by rw[hp,<-h5.2,<-h3],Mo 0 ha hb (by omega) (by omega) (fun p hp=>uj b 0 p hp),?_⟩;rw[OT 0 a b ha 0 hb];have hc:=SZ b 0 0 hb;rw[show(0:Int)+0=0 from rfl] at hc;have hsz:(Tm.mk 3 i th [Tm.mk 2 j s [b],a]).size=2+b.size+a.size:=by simp only[Tm.size,Tm.sizes];omega
  rw[hsz,<-hc];have hap:=a.size_pos;rcases hor with h0|h0
  ·have:a.size=1:=by rw[a.size_eq,List.eq_nil_of_length_eq_zero h0];rfl
   rw[this];omega
  ·have:yr 0 b*(a.size-1)<=1*(a.size-1):=Nat.mul_le_mul_right _ h0;omega
 ·rw[e];have hne:(Tm.mk k i th [x,y,z]).kind≠1/\(Tm.mk k i th [x,y,z]).kind≠2:=by rcases hk with rfl|rfl<;>exact⟨by simp,by simp⟩
  obtain⟨h1,h2⟩:=vz hne.1 hne.2 h;have hx0:=h1 x (by simp);refine⟨?_,hx,by simp only[Tm.size,Tm.sizes];omega⟩;have h3:(x.inf g).1=th/\th=T:=by
   simp only[Tm.Ah,Tm.AL,Tm.Ad,List.map_cons,List.map_nil] at h2;rcases hk with rfl|rfl
   ·simp only[vi,Bv,List.getD_cons_zero,List.getD_cons_succ] at h2;by_cases h6:(x.inf g).1=th
    ·refine ⟨h6,?_⟩;simp[h6] at h2;split at h2
     ·simp at h2
     ·simpa using h2
    ·simp[h6] at h2
   ·simp only[vi,Bv,List.getD_cons_zero,List.getD_cons_succ] at h2;by_cases h6:(x.inf g).1=th
    ·refine ⟨h6,?_⟩;simp[h6] at h2;split at h2
     ·simp at h2
     ·simpa using h2
    ·simp[h6] at h2
  rw[<-h3.2,<-h3.1,<-hx0]
 ·rw[e];have hne:(Tm.mk k i th [Tm.mk 10 j s [x,y]]).kind≠1/\(Tm.mk k i th [Tm.mk 10 j s [x,y]]).kind≠2:=by rcases hk with rfl|rfl<;>exact⟨by simp,by simp⟩
  obtain⟨h1,h2⟩:=vz hne.1 hne.2 h;have hf:(Tm.mk 10 j s [x,y]).inf g=(((Tm.mk 10 j s [x,y]).inf g).1,0):=by rw[<-h1 (.mk 10 j s [x,y]) (by simp)]
  obtain⟨h3,h4,h5⟩:=R5 hf;simp only[Tm.Ah,Tm.AL,Tm.Ad,List.map_cons,List.map_nil,h5] at h2;rcases hk with rfl|rfl
  ·rw[if_pos rfl];refine⟨?_,hx,by simp only[Tm.size,Tm.sizes];omega⟩;simp[vi,Bv] at h2;rw[<-h2,<-h3]
  ·rw[if_neg (by decide)];refine⟨?_,hy,by simp only[Tm.size,Tm.sizes];omega⟩;simp[vi,Bv] at h2;rw[<-h2,<-h4]
theorem Q0{α:Type}(f:α->Nat)(u:α):∀(xs:List α) (i:Nat) (hi:i<xs.length),((xs.set i u).map f).sum+f xs[i]=(xs.map f).sum+f u
 |[],i,hi=>by simp at hi
 |x::l,0,_=>by simp only[List.set_cons_zero,List.map_cons,List.sum_cons,List.getElem_cons_zero];omega
 |x::l,i+1,hi=>by
  have:=Q0 f u l i (by simpa using hi);simp only[List.set_cons_succ,List.map_cons,List.sum_cons,List.getElem_cons_succ];omega
theorem NB(g:List Ty)(u:Tm):∀(xs:List Tm) (i:Nat) (hi:i<xs.length),u.inf g=xs[i].inf g->Tm.AH g (xs.set i u)=Tm.AH g xs
 |[],i,hi,_=>by simp at hi
 |x::l,0,_,h=>by
  simp only[List.getElem_cons_zero] at h;simp only[List.set_cons_zero,Tm.AH,h]
 |x::l,i+1,hi,h=>by
  simp only[List.set_cons_succ,Tm.AH];rw[NB g u l i (by simpa using hi) (by simpa using h)]
theorem VP(i:Int)(th:Ty)(xs:List Tm)(g:List Ty):(Tm.mk 2 i th xs).inf g=if(Tm.AH (g++[th]) xs).2≠0 then(BF,(Tm.AH (g++[th]) xs).2) else Bl (yy th (Bv (Tm.AH (g++[th]) xs).1 0)):=by
 rw[Tm.inf];rw[if_neg (by decide),if_pos rfl]
theorem Tb{i:Int}{th:Ty}{v b:Tm}{g:List Ty}(hv:v.inf (g++[th])=b.inf (g++[th])):(Tm.mk 2 i th [v]).inf g=(Tm.mk 2 i th [b]).inf g:=by
 have e:Tm.AH (g++[th]) [v]=Tm.AH (g++[th]) [b]:=NB (g++[th]) v [b] 0 (by simp) hv;rw[VP,VP,e]
theorem Ri{k i:Int}{th:Ty}{xs:List Tm}{m:Nat}{u:Tm}(h:(Tm.mk k i th xs).shape=true)(hu:u.shape=true):(Tm.mk k i th (xs.set m u)).shape=true:=by
 have hargs:=ze h;rw[Tm.Ak] at h ⊢;simp only[Bool.and_eq_true] at h ⊢;refine⟨?_,?_⟩
 ·have e:(Tm.mk k i th (xs.set m u)).head=(Tm.mk k i th xs).head:=by simp only[Tm.head,Tm.Ah,Tm.Ad,Tm.Ay,Tm.AL];cases CV k<;>simp<;>rfl
  rw[e];exact h.1
 ·refine List.all_eq_true.2 fun x hx=> ?_;rcases List.mem_or_eq_of_mem_set hx with hx|rfl
  ·exact hargs x hx
  ·exact hu
theorem AE(t:Tm):∀(g:List Ty) (T:Ty) (u:Tm),t.shape=true->t.inf g=(T,0)->FB t=some u->u.inf g=(T,0)/\u.shape=true/\u.size<t.size:=by
 induction t using Tm.ind with
 |h t ih=>
  intro g T u hs h hn;rw[UH] at hn;by_cases hsm:JB t=true
  ·rw[if_pos hsm] at hn;cases hn;exact Zxr hs h hsm
  ·rw[if_neg hsm,Option.map_eq_some_iff] at hn;obtain⟨ys,h1,rfl⟩:=hn;obtain⟨m,hm,v,h2,rfl,_⟩:=Wl _ _ h1;have hargs:=ze hs;have hx:=hargs _ (List.getElem_mem hm);have hmem:=List.getElem_mem hm;have hss:=fun(hv:v.size<(t.args[m]).size)=>Q0 Tm.size v t.args m hm;by_cases k1:t.kind=1
   ·exact absurd (HP hs k1) (fun hh=>by rw[hh] at hm;simp at hm)
   ·have key:∀g' T',(t.args[m]).inf g'=(T',0)->v.inf g'=(T',0)/\v.shape=true/\v.size<(t.args[m]).size:=fun g' T' hi=>ih _ hmem g' T' v hx hi h2;by_cases k2:t.kind=2
    ·obtain ⟨i,th,b,rfl,hb⟩:=G9 hs k2 rfl;obtain⟨h3,h4⟩:=NM h;have hm0:m=0:=by simp at hm;omega
     subst hm0;simp only[Tm.Ad,List.getElem_cons_zero] at*;obtain⟨q1,q2,q3⟩:=key (g++[th]) (b.inf (g++[th])).1 (by rw[<-h3]);refine⟨?_,Ri (m:=0) (xs:=[b]) hs q2,?_⟩
     ·have:v.inf (g++[th])=b.inf (g++[th]):=by rw[q1,<-h3]
      rw[<-h];simp only[List.set_cons_zero,Tm.Ah,Tm.AL,Tm.Ay];exact Tb this
     ·simp only[List.set_cons_zero,Tm.size,Tm.sizes];omega
    ·obtain ⟨h3,h4⟩:=vz k1 k2 h;have h5:=h3 _ hmem;obtain⟨q1,q2,q3⟩:=key g (t.args[m].inf g).1 (by rw[<-h5]);have hset:=hss q3;have hi:v.inf g=(t.args[m]).inf g:=by rw[q1,<-h5]
     refine⟨?_,?_,?_⟩
     ·rw[<-h,Tm.AY g (Tm.mk t.kind t.index t.ty (t.args.set m v)),if_neg (show ¬(Tm.mk t.kind t.index t.ty (t.args.set m v)).kind=1 from k1),if_neg (show ¬(Tm.mk t.kind t.index t.ty (t.args.set m v)).kind=2 from k2),t.AY,if_neg k1,if_neg k2];show(if(Tm.AH g (t.args.set m v)).2≠0 then(BF,(Tm.AH g (t.args.set m v)).2) else vi t.kind t.ty (Tm.AH g (t.args.set m v)).1)=_;rw[NB g v t.args m hm hi]
     ·obtain ⟨k,i,th,xs⟩:=t;exact Ri hs q2
     ·rw[t.size_eq,Tm.size_eq];simp only[Tm.Ad];omega
theorem yo(t:Tm):t.shape=true->t.full<=65*t.size:=by
 induction t using Tm.ind with
 |h t ih=>
  intro hs;have hargs:=ze hs;have hty:t.ty.size<=64:=by
   rw[Tm.Ak,Bool.and_eq_true] at hs;have:=hs.1;simp only[Tm.head,Bool.and_eq_true] at this;have h2:=this.2;cases hk:wg t.kind with
   |true=>rw[hk] at h2;simp only[cond_true,Ty.ok,Bool.and_eq_true,decide_eq_true_eq] at h2;exact h2.2
   |false=>
    rw[hk] at h2;simp only[cond_false,Ty.BI,Bool.and_eq_true,beq_iff_eq] at h2;rw[t.ty.size_eq,List.eq_nil_of_length_eq_zero h2.2];exact Nat.le_trans (Nat.le_of_eq rfl) (by decide)
  have hsum:=y0 (f:=Tm.full) (g:=fun x=>65*x.size) t.args fun x hx=>ih x hx (hargs x hx);have hmul:∀l:List Tm,(l.map fun x=>65*x.size).sum=65*(l.map Tm.size).sum:=by
   intro l;induction l with
   |nil=>rfl
   |cons x l ih=>simp only[List.map_cons,List.sum_cons,ih];omega
  rw[hmul] at hsum;rw[t.Ag,t.size_eq];omega
inductive GD:Tm->Tm->Nat->Prop
 |done {t:Tm} (h:FB t=none):GD t t 0
 |step {t u v:Tm} {n:Nat} (h:FB t=some u) (hr:GD u v n):GD t v (n+1)
theorem SN(a b:Tm):FB (nT 10 [a,b])=match FB a with|some u=>some (nT 10 [u,b])|none=>(FB b).map fun v=>nT 10 [a,v]:=by
 rw[UH,if_neg (by simp[JB,nT])];simp only[nT,Tm.Ad,Tm.Ah,Tm.Ay,Tm.AL,I2];cases FB a with
 |some u=>rfl
 |none=>
  cases FB b with
  |some v=>rfl
  |none=>rfl
theorem GD.right{a:Tm}(ha:FB a=none){b y:Tm}{m:Nat}(h:GD b y m):GD (nT 10 [a,b]) (nT 10 [a,y]) m:=by
 induction h with
 |done h=>exact .done (by rw[SN,ha,h];rfl)
 |step h _ ih=>exact .step (by rw[SN,ha,h];rfl) ih
theorem GD.pair{a x b y:Tm}{n m:Nat}(h:GD a x n)(hb:GD b y m):GD (nT 10 [a,b]) (nT 10 [x,y]) (n+m):=by
 induction h with
 |done h=>rw[Nat.zero_add];exact GD.right h hb
 |step h _ ih=>rw[Nat.add_right_comm];exact .step (by rw[SN,h]) ih
mutual
def Rl:Tm->Bool
 | .mk _ i _ xs=>decide (i>536870912)||XD xs
def XD:List Tm->Bool
 |[]=>false
 |x::l=>Rl x||XD l
end
def Dk.plain(d:Dk):Ty×Dk:=
 (if(d.next 6).1=0\/(d.next 6).1=1 then Af else if(d.next 6).1=2 then Am else if(d.next 6).1=3 then Hq else if(d.next 6).1=4 then Cy Af Am else Cy Af Af,(d.next 6).2)
def ue(k:Int)(a b:Fm):Fm:= .mk k (.mk 0 []) [] [a,b]
def Bo(k:Int)(s:Ty)(f:Fm):Fm:= .mk k s [] [f]
def Dk.IU(d:Dk)(g:List Ty):Fm×Dk:=(AP (Dk.tm 3 d g Af).1 (Dk.tm 3 (Dk.tm 3 d g Af).2 g Af).1,(Dk.tm 3 (Dk.tm 3 d g Af).2 g Af).2)
def Dk.fm:Nat->Dk->List Ty->Fm×Dk
 |0,d,g=>d.IU g
 |n+1,d,g=>
  if(d.next 9).1=0 then(ue 2 (Dk.fm n (d.next 9).2 g).1 (Dk.fm n (Dk.fm n (d.next 9).2 g).2 g).1,(Dk.fm n (Dk.fm n (d.next 9).2 g).2 g).2)
  else if(d.next 9).1=1\/(d.next 9).1=2 then(ue 3 (Dk.fm n (d.next 9).2 g).1 (Dk.fm n (Dk.fm n (d.next 9).2 g).2 g).1,(Dk.fm n (Dk.fm n (d.next 9).2 g).2 g).2)
  else if(d.next 9).1=3\/(d.next 9).1=4 then(Bo 4 ((d.next 9).2.type 1).1 (Dk.fm n ((d.next 9).2.type 1).2 (g++[((d.next 9).2.type 1).1])).1,(Dk.fm n ((d.next 9).2.type 1).2 (g++[((d.next 9).2.type 1).1])).2)
  else if(d.next 9).1=5 then(Bo 5 ((d.next 9).2.type 1).1 (Dk.fm n ((d.next 9).2.type 1).2 (g++[((d.next 9).2.type 1).1])).1,(Dk.fm n ((d.next 9).2.type 1).2 (g++[((d.next 9).2.type 1).1])).2)
  else if(d.next 9).1=6 then(Bo (6+(((d.next 9).2.type 0).2.next 2).1) ((d.next 9).2.type 0).1 (Dk.fm n (((d.next 9).2.type 0).2.next 2).2 (g++[((d.next 9).2.type 0).1])).1,(Dk.fm n (((d.next 9).2.type 0).2.next 2).2 (g++[((d.next 9).2.type 0).1])).2)
  else(d.next 9).2.IU g
theorem Dk.G4{d:Dk}{g:List Ty}(h:d.ok):(d.IU g).2.ok:=Dk.CA 3 _ g Af (Dk.CA 3 d g Af h)
theorem Dk.ER:∀(n:Nat) (d:Dk) (g:List Ty),d.ok->(Dk.fm n d g).2.ok:=by
 intro n;induction n with
 |zero=>exact fun d g h=>Dk.G4 h
 |succ n ih=>
  intro d g h;have h9:=Dk.AE h 9;simp only[Dk.fm];repeat' split
  ·exact ih _ _ (ih _ _ h9)
  ·exact ih _ _ (ih _ _ h9)
  ·exact ih _ _ (Dk.Bw 1 _ h9)
  ·exact ih _ _ (Dk.Bw 1 _ h9)
  ·exact ih _ _ (Dk.AE (Dk.Bw 0 _ h9) 2)
  ·exact Dk.G4 h9
theorem MN:s1 3<=60:=by decide
def DN(n:Nat)(f:Fm):Prop:=f.shape=true/\f.size+1<=122*2^n/\f.full+10<=1200*2^n
theorem Dk.E2(d:Dk){g:List Ty}(hg:Al g):DN 0 (d.IU g).1:=by
 have m1:=Dk.CF 3 d g Af hg zg (by omega) (by omega);have m2:=Dk.CF 3 (Dk.tm 3 d g Af).2 g Af hg zg (by omega) (by omega);have z1:=(m1.size hg zg).2 rfl;have z2:=(m2.size hg zg).2 rfl;have f1:=m1.full hg zg;have f2:=m2.full hg zg;have h3:=MN;refine⟨Jt (m1.shape hg zg) (m2.shape hg zg),?_,?_⟩
 ·show (AP _ _).size+1<=_;rw[I6];omega
 ·show (AP _ _).full+10<=_;rw[Fm.Ag];simp only[AP,Fm.AL,Fm.Ai,Fm.Ad,List.map_cons,List.map_nil,List.sum_cons,List.sum_nil,Ty.size,Ty.sizes];omega
theorem Ws{n:Nat}{k:Int}{a b:Fm}(hk:k=2\/k=3)(ha:DN n a)(hb:DN n b):DN (n+1) (ue k a b):=by
 obtain⟨a1,a2,a3⟩:=ha;obtain⟨b1,b2,b3⟩:=hb;refine⟨?_,?_,?_⟩
 ·rw[Fm.Ak];rcases hk with rfl|rfl<;>simp[ue,Fm.head,a1,b1,Ty.BI]
 ·rw[Fm.size_eq,Nat.pow_succ];simp only[ue,Fm.Ai,Fm.Ad,List.map_cons,List.map_nil,List.sum_cons,List.sum_nil];omega
 ·rw[Fm.Ag,Nat.pow_succ];have:1<=2^n:=Nat.one_le_two_pow;simp only[ue,Fm.AL,Fm.Ai,Fm.Ad,List.map_cons,List.map_nil,List.sum_cons,List.sum_nil,Ty.size,Ty.sizes];omega
theorem RB{n:Nat}{k:Int}{s:Ty}{f:Fm}(hk:4<=k/\k<=7)(hs:s.small)(hf:DN n f):DN (n+1) (Bo k s f):=by
 obtain⟨a1,a2,a3⟩:=hf;have hz:=hs.2;have:1<=2^n:=Nat.one_le_two_pow;refine⟨?_,?_,?_⟩
 ·rw[Fm.Ak];have h4:k=4\/k=5\/k=6\/k=7:=by omega
  rcases h4 with rfl|rfl|rfl|rfl<;>simp[Bo,Fm.head,a1,Zzk hs]
 ·rw[Fm.size_eq,Nat.pow_succ];simp only[Bo,Fm.Ai,Fm.Ad,List.map_cons,List.map_nil,List.sum_cons,List.sum_nil];omega
 ·rw[Fm.Ag,Nat.pow_succ];simp only[Bo,Fm.AL,Fm.Ai,Fm.Ad,List.map_cons,List.map_nil,List.sum_cons,List.sum_nil];omega
theorem DN.up{n:Nat}{f:Fm}(h:DN 0 f):DN (n+1) f:=by
 obtain⟨a1,a2,a3⟩:=h;have:1<=2^(n+1):=Nat.one_le_two_pow;exact⟨a1,by omega,by omega⟩
theorem Dk.Eu:∀(n:Nat) (d:Dk) (g:List Ty),Al g->DN n (Dk.fm n d g).1:=by
 intro n;induction n with
 |zero=>exact fun d g hg=>Dk.E2 d hg
 |succ n ih=>
  intro d g hg;have h2:=Dk.Bx (((d.next 9).2.type 0).2) 2 (by omega);have s1:=Dk.type1 (d.next 9).2;have s0:=Dk.type0 (d.next 9).2;have s0':=zx s0.1 s0.2;simp only[Dk.fm];repeat' split
  ·exact Ws (.inl rfl) (ih _ _ hg) (ih _ _ hg)
  ·exact Ws (.inr rfl) (ih _ _ hg) (ih _ _ hg)
  ·exact RB ⟨by omega,by omega⟩ s1 (ih _ _ (zp hg (zi s1 zm)))
  ·exact RB ⟨by omega,by omega⟩ s1 (ih _ _ (zp hg (zi s1 zm)))
  ·exact RB ⟨by omega,by omega⟩ s0' (ih _ _ (zp hg (zi s0' zm)))
  ·exact (Dk.E2 _ hg).up
def quFs(qs:List (Int×Ty))(f:Fm):Fm:=qs.foldr (fun q f=>Bo q.1 q.2 f) f
def imFs(ps:List Fm)(c:Fm):Fm:=ps.foldr (ue 3) c
theorem Ty.DP{t:Ty}(h:t.BI=true):t= .mk 0 []:=by
 obtain⟨k,as⟩:=t;simp only[Ty.BI,Ty.kind,Ty.args,Bool.and_eq_true,beq_iff_eq,List.length_eq_zero_iff] at h;rw[h.1,h.2]
def A3(k b:Int):Int:=if xp k=true then b+1 else b
mutual
def Fm.A2(b:Int):Fm->List (Tm×Int)
 | .mk k _ ts as=>ts.map (fun t=>(t,b))++Fm.F9 (A3 k b) as
def Fm.F9(b:Int):List Fm->List (Tm×Int)
 |[]=>[]
 |f::l=>f.A2 b++Fm.F9 b l
end
mutual
def Fm.re(g:Int->Tm->Tm)(b:Int):Fm->Fm
 | .mk k h ts as=> .mk k h (ts.map (g b)) (Fm.res g (A3 k b) as)
def Fm.res(g:Int->Tm->Tm)(b:Int):List Fm->List Fm
 |[]=>[]
 |f::l=>f.re g b::Fm.res g b l
end
theorem Fm.FF(b:Int):∀l:List Fm,Fm.F9 b l=l.flatMap (Fm.A2 b)
 |[]=>rfl
 |f::l=>by rw[Fm.F9,Fm.FF b l,List.flatMap_cons]
theorem Fm.DI(g:Int->Tm->Tm)(b:Int):∀l:List Fm,Fm.res g b l=l.map (Fm.re g b)
 |[]=>rfl
 |f::l=>by rw[Fm.res,Fm.DI g b l,List.map_cons]
theorem Fm.A5(b:Int)(f:Fm):f.A2 b=f.terms.map (fun t=>(t,b))++f.args.flatMap (Fm.A2 (A3 f.kind b)):=by cases f;simp only[Fm.A2,Fm.FF];rfl
theorem Fm.Bj(g:Int->Tm->Tm)(b:Int)(f:Fm):f.re g b= .mk f.kind f.ty (f.terms.map (g b)) (f.args.map (Fm.re g (A3 f.kind b))):=by cases f;simp only[Fm.re,Fm.DI];rfl
def ve(at_:Int):List (Tm×Int)->Nat
 |[]=>0
 |p::l=>cnt (at_+p.2) (p.1.vars 0)+ve at_ l
theorem yv(at_:Int):∀l l':List (Tm×Int),ve at_ (l++l')=ve at_ l+ve at_ l'
 |[],l'=>by simp[ve]
 |p::l,l'=>by simp only[List.cons_append,ve,yv at_ l l'];omega
theorem Kf(at_:Int):∀l:List (Tm×Int),ve at_ l<=(l.map fun p=>p.1.size).sum
 |[]=>Nat.le_refl _
 |p::l=>by
  have h1:=MV (at_+p.2) (p.1.vars 0);have h2:=p.1.CH 0;have h3:=Kf at_ l;simp only[ve,List.map_cons,List.sum_cons];omega
theorem Ml(f:Fm):∀b,((f.A2 b).map fun p=>p.1.size).sum+1<=f.size:=by
 induction f using Fm.ind with
 |h f ih=>
  intro b;rw[Fm.A5,Fm.size_eq];have h1:∀l:List Fm,(∀x∈l,∀b,((x.A2 b).map fun p=>p.1.size).sum+1<=x.size)->((l.flatMap (Fm.A2 (A3 f.kind b))).map fun p=>p.1.size).sum<=(l.map Fm.size).sum:=by
   intro l;induction l with
   |nil=>intro _;simp
   |cons x l ih2=>
    intro h;have h2:=ih2 fun y hy=>h y (by simp[hy]);have h3:=h x (by simp) (A3 f.kind b);simp only[List.flatMap_cons,List.map_append,List.sum_append,List.map_cons,List.sum_cons];omega
  have h2:=h1 f.args ih;have h3:((f.terms.map fun t=>(t,b)).map fun p=>p.1.size)=f.terms.map Tm.size:=by simp[Function.comp_def]
  rw[List.map_append,List.sum_append,h3];omega
theorem Yf8(f:Fm)(b:Int)(m:Nat):(((f.terms.take m).map fun t=>(t,b)).map fun p:Tm×Int=>p.1.size).sum<=f.size:=by
 have h1:=zn Tm.size f.terms m;have h3:(((f.terms.take m).map fun t=>(t,b)).map fun p:Tm×Int=>p.1.size)=(f.terms.take m).map Tm.size:=by simp[Function.comp_def]
 rw[h3,Fm.size_eq];omega
theorem Yaw(b:Int)(l:List Fm):((l.flatMap (Fm.A2 b)).map fun p:Tm×Int=>p.1.size).sum<=(l.map Fm.size).sum:=by
 induction l with
 |nil=>simp
 |cons x l ih=>
  have h3:=Ml x b;simp only[List.flatMap_cons,List.map_append,List.sum_append,List.map_cons,List.sum_cons];omega
theorem Ygk(f:Fm)(b:Int)(m:Nat)(h:m<f.args.length):((f.terms.map (fun t=>(t,b))++(f.args.take m).flatMap (Fm.A2 (A3 f.kind b))).map fun p:Tm×Int=>p.1.size).sum+(f.args[m]).size<=f.size:=by
 have h1:=Yaw (A3 f.kind b) (f.args.take m);have h2:=yl Fm.size f.args m h;have h4:=zn Fm.size f.args (m+1);have h3:((f.terms.map fun t=>(t,b)).map fun p:Tm×Int=>p.1.size)=f.terms.map Tm.size:=by simp[Function.comp_def]
 have e:=f.size_eq;rw[List.map_append,List.sum_append,h3];omega
theorem IZ(f:Fm):f.shape=true->∀b,∀p∈f.A2 b,p.1.shape=true:=by
 induction f using Fm.ind with
 |h f ih=>
  intro hs b p hp;rw[Fm.Ak,Bool.and_eq_true,Bool.and_eq_true] at hs;rw[Fm.A5,List.mem_append] at hp;rcases hp with hp|hp
  ·obtain ⟨t,ht,rfl⟩:=List.mem_map.1 hp;exact List.all_eq_true.1 hs.1.2 t ht
  ·obtain ⟨x,hx,hp⟩:=List.mem_flatMap.1 hp;exact ih x hx (List.all_eq_true.1 hs.2 x hx) _ p hp
def Tm.DK(t:Tm):Bool:=(t.vars 0).all fun p=>decide (p.1<=268435456)
def Fl(P:Tm->Bool)(b:Bool)(l:List (Tm×Int)):Bool:=b&&l.all fun p=>P p.1
theorem Ub(P:Tm->Bool)(b:Bool)(l l':List (Tm×Int)):Fl P (Fl P b l) l'=Fl P b (l++l'):=by simp[Fl,Bool.and_assoc]
theorem Nh(P:Tm->Bool)(b:Bool)(t:Tm)(i:Int):Fl P b [(t,i)]=(b&&P t):=by simp[Fl]
theorem RJ(P:Tm->Bool)(b:Bool):Fl P b []=b:=by simp[Fl]
def Fm.near(f:Fm):Bool:=(f.A2 0).all fun p=>p.1.near
def Fm.DK(f:Fm):Bool:=(f.A2 0).all fun p=>p.1.DK
def Fm.put(f:Fm)(at_:Int)(s:Tm):Fm:=f.re (fun b t=>t.re (xd (at_+b) s) 0) 0
def yq(f:Fm)(at_:Int)(s:Tm):Int:=
 if f.err≠0 then f.err else if ¬(0<=at_/\at_<=4096) then 1 else if s.err≠0 then s.err else if f.near=false\/s.near=false then 1 else if(f.size:Int)+ve at_ (f.A2 0)*(s.size-1)>4096 then 4 else 0
def TZ(n:Int):List Tm->Int->Fm->Fm×Int
 |[],_,f=>(f,0)
 |t::l,k,f=>
  if xm t 0 (n-1-k)≠0 then(A1,xm t 0 (n-1-k))
  else if yq f 0 (t.re (zl 0 (n-1-k)) 0)≠0 then(A1,yq f 0 (t.re (zl 0 (n-1-k)) 0))
  else TZ n l (k+1) (f.put 0 (t.re (zl 0 (n-1-k)) 0))
def fill(p:Fm)(l:List Tm):Fm×Int:=if p.err≠0 then(A1,p.err) else if 16<l.length then(A1,1) else TZ l.length l 0 p
theorem K0(t:Tm):t.shape=true->t.full<=65*t.size:=by
 induction t using Tm.ind with
 |h t ih=>
  intro hs;rw[Tm.Ak,Bool.and_eq_true] at hs;have h0:t.ty.size<=64:=by
   have:=hs.1;simp only[Tm.head,Bool.and_eq_true] at this;have h1:=this.2;cases hk:wg t.kind with
   |true=>rw[hk] at h1;simp only[cond_true,Ty.ok,Bool.and_eq_true,decide_eq_true_eq] at h1;exact h1.2
   |false=>
    rw[hk] at h1;have:=Ty.DP (show t.ty.BI=true from h1);rw[this];decide
  have h1:∀l:List Tm,(∀x∈l,x∈t.args)->(l.map Tm.full).sum<=65*(l.map Tm.size).sum:=by
   intro l;induction l with
   |nil=>intro _;simp
   |cons x l ih2=>
    intro h;have h2:=ih2 fun y hy=>h y (by simp[hy]);have hx:=h x (by simp);have h3:=ih x hx (List.all_eq_true.1 hs.2 x hx);simp only[List.map_cons,List.sum_cons];omega
  have h2:=h1 t.args fun _ h=>h;rw[Tm.Ag,Tm.size_eq];omega
theorem ID(f:Fm):f.shape=true->f.full<=65*f.size:=by
 induction f using Fm.ind with
 |h f ih=>
  intro hs;rw[Fm.Ak,Bool.and_eq_true,Bool.and_eq_true] at hs;obtain⟨⟨hh,ht⟩,ha⟩:=hs;have h0:f.ty.size<=64:=by
   simp only[Fm.head] at hh;split at hh
   ·simp only[Bool.and_eq_true] at hh;rw[Ty.DP hh.1.1];decide
   ·split at hh
    ·simp only[Bool.and_eq_true] at hh;rw[Ty.DP hh.1.1];decide
    ·split at hh
     ·simp only[Bool.and_eq_true,Ty.ok,decide_eq_true_eq] at hh;exact hh.1.1.2
     ·cases hh
  have h1:∀l:List Fm,(∀x∈l,x∈f.args)->(l.map Fm.full).sum<=65*(l.map Fm.size).sum:=by
   intro l;induction l with
   |nil=>intro _;simp
   |cons x l ih2=>
    intro h;have h2:=ih2 fun y hy=>h y (by simp[hy]);have hx:=h x (by simp);have h3:=ih x hx (List.all_eq_true.1 ha x hx);simp only[List.map_cons,List.sum_cons];omega
  have h2:∀l:List Tm,(∀x∈l,x∈f.terms)->(l.map Tm.full).sum<=65*(l.map Tm.size).sum:=by
   intro l;induction l with
   |nil=>intro _;simp
   |cons x l ih2=>
    intro h;have h2:=ih2 fun y hy=>h y (by simp[hy]);have hx:=h x (by simp);have h3:=K0 x (List.all_eq_true.1 ht x hx);simp only[List.map_cons,List.sum_cons];omega
  have h3:=h1 f.args fun _ h=>h;have h4:=h2 f.terms fun _ h=>h;rw[Fm.Ag,Fm.size_eq];omega
theorem yf{f:Fm}(h:f.err=0):f.full<=266240:=by
 have h1:=(Fm.Ae f).1 h;have:=ID f h1.1;omega
theorem z9{t:Tm}(h:t.err=0):t.full<=266240:=by
 have h1:=vt h;have:=K0 t h1.1;omega
theorem XU{f:Fm}(h:f.err=0)(hn:f.near=true):∀p∈f.A2 0,∀q∈p.1.vars 0,0<=q.1/\q.1<549755813888:=fun p hp q hq=>by
 have h1:p.1.shape=true:=IZ f ((Fm.Ae f).1 h).1 0 p hp;have h2:=List.all_eq_true.1 hn p hp;have h3:=List.all_eq_true.1 h2 q hq;simp at h3;exact⟨p.1.AJ h1 0 q hq,by omega⟩
theorem Xz(f:Fm):0<=f.num/\f.num<=4096:=by
 simp only[Fm.num];split
 ·rename_i h;have:=((Fm.Ae f).1 h).2;omega
 ·omega
mutual
def Fm.same:Fm->Fm->Bool
 | .mk k h ts xs,.mk k' h' ts' ys=>k==k'&&decide (h=h')&&decide (ts=ts')&&Fm.BH xs ys
def Fm.BH:List Fm->List Fm->Bool
 |[],[]=>true
 |x::xs,y::ys=>x.same y&&Fm.BH xs ys
 |_,_=>false
end
mutual
theorem Fm.B1:∀a b:Fm,a.same b=true↔a=b
 | .mk k h ts xs,.mk k' h' ts' ys=>by simp only[Fm.same,Bool.and_eq_true,beq_iff_eq,decide_eq_true_eq,Fm.mk.injEq,Fm.BQ xs ys,and_assoc]
theorem Fm.BQ:∀a b:List Fm,Fm.BH a b=true↔a=b
 |[],[]=>by simp[Fm.BH]
 |x::xs,y::ys=>by simp only[Fm.BH,Bool.and_eq_true,List.cons.injEq,Fm.B1 x y,Fm.BQ xs ys]
 |[],_::_=>by simp[Fm.BH]
 |_::_,[]=>by simp[Fm.BH]
end
instance:DecidableEq Fm:=fun a b=>decidable_of_iff _ (Fm.B1 a b)
theorem A7{g g':Int->Int->Tm}(t:Tm):∀b,(∀p∈t.vars b,g p.1 p.2=g' p.1 p.2)->t.re g b=t.re g' b:=by
 induction t using Tm.ind with
 |h t ih=>
  intro b h;by_cases h1:t.kind=1
  ·rw[ub h1,ub h1];exact h (t.index,b) (by rw[t.AQ,if_pos h1];simp)
  ·rw[xv h1,xv h1];congr 1;exact List.map_congr_left fun x hx=>ih x hx _ fun p hp=>h p (LZ h1 hx hp)
theorem Ybm{at_:Int}{l:List (Int×Int)}(h:cnt at_ l=0):∀p∈l,¬p.1-p.2=at_:=by
 intro p hp he;have h1:p∈l.filter fun p=>p.1-p.2==at_:=List.mem_filter.2 ⟨hp,by simp[he]⟩;have h2:=List.length_pos_of_mem h1;simp only[cnt] at h;omega
def Qw:Nat->Tm->Tm
 |0,t=>t
 |n+1,t=>(Qw n t).re (xd 0 A0) 0
def low(n:Nat)(t:Tm):Tm×Bool:=if ∀j,j<n->cnt 0 ((Qw j t).vars 0)=0 then(Qw n t,true) else(A0,false)
abbrev EH:=List (Int×Tm)
mutual
def mT(h b:Int):Tm->Tm->EH->Bool×EH
 | .mk k i ty as,t,m=>
   if k=1/\0<=i-b/\i-b<h then
    (if(i-b)∈m.map (·.1) then(true,m) else((low b.toNat t).2,m++[(i-b,(low b.toNat t).1)]))
   else if k=t.kind/\ty=t.ty then
    (if k=1 then(decide ((if b<=i then i-h else i)=t.index),m) else QO h (up k b) as t.args m)
   else(false,m)
def QO(h b:Int):List Tm->List Tm->EH->Bool×EH
 |[],_,m=>(true,m)
 |_::_,[],m=>(false,m)
 |p::ps,t::ts,m=>match mT h b p t m with|(true,m')=>QO h b ps ts m'|(false,m')=>(false,m')
end
mutual
def mF(h b:Int):Fm->Fm->EH->Bool×EH
 | .mk k ty ts as,f,m=>
   if k=f.kind/\ty=f.ty then(match QO h b ts f.terms m with|(true,m')=>VO h (A3 k b) as f.args m'|(false,m')=>(false,m'))
   else(false,m)
def VO(h b:Int):List Fm->List Fm->EH->Bool×EH
 |[],_,m=>(true,m)
 |_::_,[],m=>(false,m)
 |p::ps,f::fs,m=>match mF h b p f m with|(true,m')=>VO h b ps fs m'|(false,m')=>(false,m')
end
theorem OX{t:Tm}:∀{b b':Int},∀q∈t.vars b,∃q'∈t.vars b',q'.1=q.1:=by
 induction t using Tm.ind with
 |h t ih=>
  intro b b' q hq;rw[Tm.AQ,List.mem_append] at hq;rcases hq with hq|hq
  ·by_cases h1:t.kind=1
   ·rw[if_pos h1,List.mem_singleton] at hq;exact⟨(t.index,b'),by rw[Tm.AQ,if_pos h1];simp,by rw[hq]⟩
   ·rw[if_neg h1] at hq;cases hq
  ·obtain ⟨x,hx,hq⟩:=List.mem_flatMap.1 hq;obtain⟨q',h1,h2⟩:=ih x hx (b':=up t.kind b') q hq;exact⟨q',by rw[Tm.AQ];exact List.mem_append_right _ (List.mem_flatMap.2 ⟨x,hx,h1⟩),h2⟩
theorem VL{f:Fm}:∀{b b':Int},∀q∈f.A2 b,∃q'∈f.A2 b',q'.1=q.1:=by
 induction f using Fm.ind with
 |h f ih=>
  intro b b' q hq;rw[Fm.A5,List.mem_append] at hq;rcases hq with hq|hq
  ·obtain ⟨t,ht,rfl⟩:=List.mem_map.1 hq;exact⟨(t,b'),by rw[Fm.A5];exact List.mem_append_left _ (List.mem_map.2 ⟨t,ht,rfl⟩),rfl⟩
  ·obtain ⟨x,hx,hq⟩:=List.mem_flatMap.1 hq;obtain⟨q',h1,h2⟩:=ih x hx (b':=A3 f.kind b') q hq;exact⟨q',by rw[Fm.A5];exact List.mem_append_right _ (List.mem_flatMap.2 ⟨x,hx,h1⟩),h2⟩
theorem zw{f x:Fm}(h:f.shape=true)(hx:x∈f.args):x.shape=true:=by
 rw[Fm.Ak,Bool.and_eq_true] at h;exact List.all_eq_true.1 h.2 x hx
theorem ye{f:Fm}(h:f.shape=true){t:Tm}(ht:t∈f.terms):t.shape=true:=by
 rw[Fm.Ak,Bool.and_eq_true,Bool.and_eq_true] at h;exact List.all_eq_true.1 h.1.2 t ht
theorem Zvx(at_:Int)(s:Tm)(hs:s.shape=true)(f:Fm):f.shape=true->∀b,(f.re (fun b t=>t.re (xd (at_+b) s) 0) b).full<=f.full+ve at_ (f.A2 b)*s.full:=by
 induction f using Fm.ind with
 |h f ih=>
  intro hf b;have e3:(f.re (fun b t=>t.re (xd (at_+b) s) 0) b).full=1+f.ty.size+((f.terms.map fun t=>t.re (xd (at_+b) s) 0).map Tm.full).sum+((f.args.map (Fm.re (fun b t=>t.re (xd (at_+b) s) 0) (A3 f.kind b))).map Fm.full).sum:=by
   rw[Fm.Bj,Fm.Ag];rfl
  rw[e3,f.Ag,Fm.A5,yv,Nat.add_mul,List.map_map,List.map_map];have h1:∀l:List Tm,(∀x∈l,x∈f.terms)->(l.map (Tm.full∘fun t=>t.re (xd (at_+b) s) 0)).sum<=(l.map Tm.full).sum+ve at_ (l.map fun t=>(t,b))*s.full:=by
   intro l;induction l with
   |nil=>intro _;simp
   |cons x l ihl=>
    intro hl;have h2:=Yan (at_+b) s x hs 0 (ye hf (hl x (by simp)));have h3:=ihl fun y hy=>hl y (by simp[hy]);simp only[List.map_cons,List.sum_cons,Function.comp_apply,ve,Nat.add_mul];omega
  have h2:∀l:List Fm,(∀x∈l,x∈f.args)->(l.map (Fm.full∘Fm.re (fun b t=>t.re (xd (at_+b) s) 0) (A3 f.kind b))).sum<=(l.map Fm.full).sum+ve at_ (l.flatMap (Fm.A2 (A3 f.kind b)))*s.full:=by
   intro l;induction l with
   |nil=>intro _;simp
   |cons x l ihl=>
    intro hl;have h2:=ih x (hl x (by simp)) (zw hf (hl x (by simp))) (A3 f.kind b);have h3:=ihl fun y hy=>hl y (by simp[hy]);simp only[List.map_cons,List.sum_cons,Function.comp_apply,List.flatMap_cons,yv,Nat.add_mul];omega
  have h3:=h1 f.terms fun _ h=>h;have h4:=h2 f.args fun _ h=>h;omega
theorem Rh{f:Fm}{at_:Int}{s:Tm}(h:yq f at_ s=0):f.err=0/\s.err=0/\f.near=true/\s.near=true/\(f.size:Int)+ve at_ (f.A2 0)*(s.size-1)<=4096:=by
 simp only[yq] at h;split at h
 ·rename_i h1;exact absurd h h1
 ·rename_i h1;split at h
  ·omega
  ·split at h
   ·rename_i h2;exact absurd h h2
   ·rename_i h2;split at h
    ·omega
    ·rename_i h3;split at h
     ·omega
     ·rename_i h4;refine⟨Classical.not_not.1 h1,Classical.not_not.1 h2,?_,?_,by omega⟩
      ·cases hn:f.near with
       |true=>rfl
       |false=>exact absurd (.inl hn) h3
      ·cases hn:s.near with
       |true=>rfl
       |false=>exact absurd (.inr hn) h3
theorem U4{f:Fm}{at_:Int}{s:Tm}(h:yq f at_ s=0):(f.put at_ s).full<=1200000000:=by
 obtain⟨h1,h2,_,_,_⟩:=Rh h;have h3:=Zvx at_ s (vt h2).1 f ((Fm.Ae f).1 h1).1 0;have h4:=yf h1;have h5:=z9 h2;have h6:=Kf at_ (f.A2 0);have h7:=Ml f 0;have h8:=((Fm.Ae f).1 h1).2;have h9:ve at_ (f.A2 0)*s.full<=4096*266240:=Nat.mul_le_mul (by omega) h5;show(f.re _ 0).full<=_;omega
def Om:EH->Int->Option Tm
 |[],_=>none
 |p::m,k=>if p.1=k then some p.2 else Om m k
def Ylh:Tm:= .mk 4 0 (.mk 0 []) []
def QD(m:EH)(n:Nat):List Tm:=(List.range n).map fun k:Nat=>(Om m (k:Int)).getD Ylh
def Qn(p:Fm)(h:Int)(f:Fm):List Tm×Int:=
 if p.err≠0 then([],p.err) else if f.err≠0 then([],f.err) else if ¬(0<=h/\h<=16)\/p.DK=false\/f.DK=false then([],1)
 else if(mF h 0 p f []).1=false then([],11)
 else if(fill p (QD (mF h 0 p f []).2 h.toNat)).2≠0\/(fill p (QD (mF h 0 p f []).2 h.toNat)).1≠f then([],11)
 else if((mF h 0 p f []).2.length:Int)<h then([],13) else(QD (mF h 0 p f []).2 h.toNat,0)
theorem Ci(g g':Int->Int->Tm)(t:Tm):∀b,(t.re g b).re g' b=t.re (fun i c=>(g i c).re g' c) b:=by
 induction t using Tm.ind with
 |h t ih=>
  intro b;by_cases h1:t.kind=1
  ·rw[ub h1,ub h1]
  ·rw[xv h1,xv h1,xv (t:=Tm.mk _ _ _ _) (by simpa using h1)];simp only[Tm.Ah,Tm.Ay,Tm.AL,Tm.Ad,List.map_map];congr 1;exact List.map_congr_left fun x hx=>ih x hx _
theorem PG(g:Int->Int->Tm)(t:Tm):∀b,t.shape=true->(t.re g b).vars b=(t.vars b).flatMap fun p=>(g p.1 p.2).vars p.2:=by
 induction t using Tm.ind with
 |h t ih=>
  intro b hs;by_cases h1:t.kind=1
  ·rw[ub h1,uk hs h1];simp
  ·rw[xv h1,Ja h1,Ja (t:=Tm.mk _ _ _ _) (by simpa using h1)];simp only[Tm.Ah,Tm.Ad,List.flatMap_assoc,List.flatMap_map];have:∀l:List Tm,(∀x∈l,x∈t.args)->l.flatMap (fun x=>(x.re g (up t.kind b)).vars (up t.kind b))=l.flatMap fun x=>(x.vars (up t.kind b)).flatMap fun p=>(g p.1 p.2).vars p.2:=by
    intro l;induction l with
    |nil=>intro _;rfl
    |cons x l ihl=>
     intro h;rw[List.flatMap_cons,List.flatMap_cons,ihl fun y hy=>h y (by simp[hy]),ih x (h x (by simp)) _ (ze hs x (h x (by simp)))]
   exact this t.args fun _ h=>h
theorem Pe(k b c:Int):up k (b+c)=up k b+c:=by simp only[up];split<;>omega
theorem KU(t:Tm):∀b c:Int,t.vars (b+c)=(t.vars b).map fun p=>(p.1,p.2+c):=by
 induction t using Tm.ind with
 |h t ih=>
  intro b c;rw[t.AQ,t.AQ,List.map_append,Pe];congr 1
  ·split<;>rfl
  ·rw[List.map_flatMap];have:∀l:List Tm,(∀x∈l,x∈t.args)->l.flatMap (Tm.vars (up t.kind b+c))=l.flatMap fun x=>(x.vars (up t.kind b)).map fun p=>(p.1,p.2+c):=by
    intro l;induction l with
    |nil=>intro _;rfl
    |cons x l ihl=>
     intro h;rw[List.flatMap_cons,List.flatMap_cons,ihl fun y hy=>h y (by simp[hy]),ih x (h x (by simp))]
   exact this t.args fun _ h=>h
theorem DH(g:Int->Int->Tm)(c:Int)(t:Tm):∀b,t.re g (b+c)=t.re (fun i d=>g i (d+c)) b:=by
 induction t using Tm.ind with
 |h t ih=>
  intro b;by_cases h1:t.kind=1
  ·rw[ub h1,ub h1]
  ·rw[xv h1,xv h1,Pe];congr 1;exact List.map_congr_left fun x hx=>ih x hx _
theorem uy(g:Int->Int->Tm)(c:Int)(t:Tm):t.re g c=t.re (fun i d=>g i (d+c)) 0:=by
 have:=DH g c t 0
 rwa [Int.zero_add] at this
theorem E9(j:Int)(g:Int->Int->Tm)(c:Int):(vT j).re g c=g j c:=by rw[ub (show(vT j).kind=1 from rfl)];rfl
theorem Xh(j c:Int):(vT j).vars c=[(j,c)]:=by simp[vT,Tm.vars,Tm.BX]
theorem yz(fr by_ i b:Int):zl fr by_ i b=vT (if i-b>=fr then i+by_ else i):=rfl
theorem GV(at_:Int)(s:Tm)(i b:Int):xd at_ s i b=if i-b=at_ then s.re (zl 0 (at_+b)) 0 else vT (if i-b>at_ then i-1 else i):=rfl
theorem FJ{g:Int->Int->Tm}(t:Tm):∀b,t.shape=true->(∀p∈t.vars b,g p.1 p.2=vT p.1)->t.re g b=t:=by
 induction t using Tm.ind with
 |h t ih=>
  intro b hs hg;by_cases h1:t.kind=1
  ·rw[ub h1];have h2:=hg (t.index,b) (by rw[uk hs h1];simp);rw[h2];exact(J0 hs h1).symm
  ·rw[xv h1];have h2:t.args.map (Tm.re g (up t.kind b))=t.args:=by
    conv=>rhs;rw[<-List.map_id t.args]
    exact List.map_congr_left fun x hx=>ih x hx _ (ze hs x hx) fun p hp=>hg p (LZ h1 hx hp)
   rw[h2];cases t;rfl
theorem Q3(fr by_:Int)(t:Tm)(b:Int)(hs:t.shape=true):(t.re (zl fr by_) b).vars b=(t.vars b).map fun p=>(if p.1-p.2>=fr then p.1+by_ else p.1,p.2):=by
 rw[PG _ _ _ hs];simp only[yz,Xh];rw[List.map_eq_flatMap]
def Ru(l:List Tm)(i b:Int):Tm:=if i<b then vT i else if i-b<l.length then(l.getD (i-b).toNat A0).re (zl 0 b) 0 else vT (i-l.length)
def Sm(l:List Tm)(b:Int)(t:Tm):Tm:=t.re (Ru l) b
theorem Fm.A7{G G':Int->Tm->Tm}(f:Fm):∀b,(∀p∈f.A2 b,G p.2 p.1=G' p.2 p.1)->f.re G b=f.re G' b:=by
 induction f using Fm.ind with
 |h f ih=>
  intro b h;rw[Fm.Bj,Fm.Bj];congr 1
  ·exact List.map_congr_left fun x hx=>h (x,b) (by rw[Fm.A5];exact List.mem_append_left _ (List.mem_map.2 ⟨x,hx,rfl⟩))
  ·exact List.map_congr_left fun x hx=>ih x hx _ fun p hp=>h p (by rw[Fm.A5];exact List.mem_append_right _ (List.mem_flatMap.2 ⟨x,hx,hp⟩))
theorem Ke(k b:Int):b<=A3 k b/\A3 k b<=b+1:=by simp only[A3];split<;>omega
theorem WZ{f:Fm}:∀{b:Int},∀p∈f.A2 b,b<=p.2:=by
 induction f using Fm.ind with
 |h f ih=>
  intro b p hp;rw[Fm.A5,List.mem_append] at hp;rcases hp with hp|hp
  ·obtain ⟨t,_,rfl⟩:=List.mem_map.1 hp;exact Int.le_refl _
  ·obtain ⟨x,hx,hp⟩:=List.mem_flatMap.1 hp;have:=ih x hx p hp;have:=Ke f.kind b;omega
def Fm.sim(l:List Tm)(b:Int)(f:Fm):Fm:=f.re (Sm l) b
theorem O2{f:Fm}{at_:Int}{s:Tm}(ha:0<=at_)(hs:s.shape=true)(hf:f.shape=true):(f.put at_ s).shape=true:=by
 have key:∀(f:Fm) (b:Int),0<=b->f.shape=true->(f.re (fun b t=>t.re (xd (at_+b) s) 0) b).shape=true:=by
  intro f;induction f using Fm.ind with
  |h f ih=>
   intro b hb hf;have h0:=hf;rw[Fm.Ak,Bool.and_eq_true,Bool.and_eq_true] at h0;obtain⟨⟨h1,h2⟩,h3⟩:=h0;rw[Fm.Bj,Fm.Ak,Bool.and_eq_true,Bool.and_eq_true];refine⟨⟨?_,?_⟩,?_⟩
   ·simp only[Fm.head,Fm.Ah,Fm.AL,Fm.Ai,Fm.Ad,List.length_map] at h1 ⊢;exact h1
   ·rw[Fm.Ai,List.all_eq_true];intro y hy;obtain⟨x,hx,rfl⟩:=List.mem_map.1 hy;exact Mo 0 hs (List.all_eq_true.1 h2 x hx) (by omega) (by omega) fun p hp=>uj x 0 p hp
   ·rw[Fm.Ad,List.all_eq_true];intro y hy;obtain⟨x,hx,rfl⟩:=List.mem_map.1 hy;have:=Ke f.kind b;exact ih x hx _ (by omega) (List.all_eq_true.1 h3 x hx)
 exact key f 0 (by omega) hf
def HK(h:Int)(vs:List (Int×Int))(m m':EH):Prop:=∀k,k∈m'.map (·.1)↔k∈m.map (·.1)\/(0<=k/\k<h/\∃q∈vs,q.1-q.2=k)
theorem HK.app{h:Int}{m m' m'':EH}{vs vs':List (Int×Int)}(h1:HK h vs m m')(h2:HK h vs' m' m''):HK h (vs++vs') m m'':=fun k=>by
 rw[h2 k,h1 k];constructor
 ·rintro ((h3|⟨h3,h4,q,hq,h5⟩)|⟨h3,h4,q,hq,h5⟩)
  ·exact .inl h3
  ·exact .inr ⟨h3,h4,q,List.mem_append_left _ hq,h5⟩
  ·exact .inr ⟨h3,h4,q,List.mem_append_right _ hq,h5⟩
 ·rintro (h3|⟨h3,h4,q,hq,h5⟩)
  ·exact .inl (.inl h3)
  ·rcases List.mem_append.1 hq with hq|hq
   ·exact .inl (.inr ⟨h3,h4,q,hq,h5⟩)
   ·exact .inr ⟨h3,h4,q,hq,h5⟩
def Ykz(l:List (Tm×Int)):List (Int×Int):=l.flatMap fun q=>q.1.vars q.2
def Ti(l:List Tm)(m:EH):Prop:=(m.map (·.1)).Nodup/\∀q∈m,0<=q.1/\q.1<l.length/\q.2=l.getD q.1.toNat A0
theorem Zze(n:Nat):∀(l:List Int),l.Nodup->(∀k∈l,0<=k/\k<n)->l.length<=n/\((∀k:Nat,k<n->(k:Int)∈l)↔l.length=n):=by
 induction n with
 |zero=>
  intro l _ h;cases l with
  |nil=>simp
  |cons x l=>have:=h x (by simp);omega
 |succ n ih=>
  intro l hn h;have h1:(l.filter (·≠(n:Int))).Nodup:=hn.filter _;have h2:=ih _ h1 fun k hk=>by
   rw[List.mem_filter] at hk;have:=h k hk.1;have h3:k≠(n:Int):=by simpa using hk.2
   omega
  have hcount:l.length=(l.filter (·≠(n:Int))).length+(if(n:Int)∈l then 1 else 0):=by
   clear h2 h1 ih h;induction l with
   |nil=>simp
   |cons x l ihl=>
    rw[List.nodup_cons] at hn;have:=ihl hn.2;by_cases hx:x=(n:Int)
    ·subst hx;rw[if_neg hn.1] at this;simp at this ⊢;omega
    ·have e:((n:Int)∈x::l)↔(n:Int)∈l:=by simp[Ne.symm hx]
     simp only[e,List.length_cons,List.filter_cons,ne_eq,hx,not_false_eq_true,decide_true,if_true];simp only[ne_eq] at this;omega
  by_cases hmem:(n:Int)∈l
  ·rw[if_pos hmem] at hcount;refine⟨by omega,?_⟩;constructor
   ·intro h3;have:=h2.2.1 fun k hk=>List.mem_filter.2 ⟨h3 k (by omega),by simp;omega⟩;omega
   ·intro h3 k hk;by_cases hkn:k=n
    ·subst hkn;exact hmem
    ·exact (List.mem_filter.1 (h2.2.2 (by omega) k (by omega))).1
  ·rw[if_neg hmem] at hcount;refine⟨by omega,?_⟩;constructor
   ·intro h3;exact absurd (h3 n (by omega)) hmem
   ·intro h3;omega
theorem P9(G:Int->Tm->Tm)(f:Fm):∀b,(f.re G b).A2 b=(f.A2 b).map fun p=>(G p.2 p.1,p.2):=by
 induction f using Fm.ind with
 |h f ih=>
  intro b;rw[Fm.Bj,Fm.A5,Fm.A5];simp only[Fm.Ah,Fm.Ai,Fm.Ad,List.map_append,List.map_map,List.map_flatMap,List.flatMap_map];congr 1;have:∀l:List Fm,(∀x∈l,x∈f.args)->l.flatMap (fun x=>(x.re G (A3 f.kind b)).A2 (A3 f.kind b))=l.flatMap fun x=>(x.A2 (A3 f.kind b)).map fun p=>(G p.2 p.1,p.2):=by
   intro l;induction l with
   |nil=>intro _;rfl
   |cons x l ihl=>
    intro h;rw[List.flatMap_cons,List.flatMap_cons,ihl fun y hy=>h y (by simp[hy]),ih x (h x (by simp))]
  exact this f.args fun _ h=>h
theorem Zys{k:Int}{l:List (Tm×Int)}(h:ve k l=0):∀p∈l,cnt (k+p.2) (p.1.vars 0)=0:=by
 induction l with
 |nil=>intro p hp;cases hp
 |cons q l ih=>
  simp only[ve] at h;intro p hp;rcases List.mem_cons.1 hp with rfl|hp
  ·omega
  ·exact ih (by omega) p hp
theorem Ls(at_:Int)(s:Tm)(hs:s.shape=true)(f:Fm):f.shape=true->∀b,(f.re (fun b t=>t.re (xd (at_+b) s) 0) b).size=f.size+ve at_ (f.A2 b)*(s.size-1):=by
 induction f using Fm.ind with
 |h f ih=>
  intro hf b;have e3:(f.re (fun b t=>t.re (xd (at_+b) s) 0) b).size=1+((f.terms.map fun t=>t.re (xd (at_+b) s) 0).map Tm.size).sum+((f.args.map (Fm.re (fun b t=>t.re (xd (at_+b) s) 0) (A3 f.kind b))).map Fm.size).sum:=by
   rw[Fm.Bj,Fm.size_eq];rfl
  rw[e3,f.size_eq,Fm.A5,yv,Nat.add_mul,List.map_map,List.map_map];have h1:∀l:List Tm,(∀x∈l,x∈f.terms)->(l.map (Tm.size∘fun t=>t.re (xd (at_+b) s) 0)).sum=(l.map Tm.size).sum+ve at_ (l.map fun t=>(t,b))*(s.size-1):=by
   intro l;induction l with
   |nil=>intro _;simp[ve]
   |cons x l ihl=>
    intro hl;have h2:=OT (at_+b) s x hs 0 (ye hf (hl x (by simp)));have h3:=ihl fun y hy=>hl y (by simp[hy]);simp only[List.map_cons,List.sum_cons,Function.comp_apply,ve,Nat.add_mul];omega
  have h2:∀l:List Fm,(∀x∈l,x∈f.args)->(l.map (Fm.size∘Fm.re (fun b t=>t.re (xd (at_+b) s) 0) (A3 f.kind b))).sum=(l.map Fm.size).sum+ve at_ (l.flatMap (Fm.A2 (A3 f.kind b)))*(s.size-1):=by
   intro l;induction l with
   |nil=>intro _;simp[ve]
   |cons x l ihl=>
    intro hl;have h2:=ih x (hl x (by simp)) (zw hf (hl x (by simp))) (A3 f.kind b);have h3:=ihl fun y hy=>hl y (by simp[hy]);simp only[List.map_cons,List.sum_cons,Function.comp_apply,List.flatMap_cons,yv,Nat.add_mul];omega
  have h3:=h1 f.terms fun _ h=>h;have h4:=h2 f.args fun _ h=>h;omega
theorem Zzn{f:Fm}{at_:Int}{s:Tm}(ha:0<=at_)(h:yq f at_ s=0):(f.put at_ s).err=0:=by
 obtain⟨h1,h2,_,_,h5⟩:=Rh h;have hf:=(Fm.Ae f).1 h1;have hs:=(vt h2).1;refine(Fm.Ae _).2 ⟨O2 ha hs hf.1,?_⟩;have h6:=Ls at_ s hs f hf.1 0;have hsp:=s.size_pos;show(f.re _ 0).size<=4096;rw[h6];have h7:(((ve at_ (f.A2 0)*(s.size-1):Nat)):Int)=(ve at_ (f.A2 0):Int)*(s.size-1):=by
  rw[Int.natCast_mul,Int.natCast_sub hsp];rfl
 omega
def fine(s:Tm):Prop:=s.err=0/\∀q∈s.vars 0,q.1<=1000000
mutual
def Fm.Bl(g:List Ty):Fm->Prop
 | .mk k h ts as=>(∀t∈ts,t.inf g=(Af,0))/\Fm.GU (if xp k=true then g++[h] else g) as
def Fm.GU(g:List Ty):List Fm->Prop
 |[]=>True
 |f::l=>f.Bl g/\Fm.GU g l
end
def Dx(g:List Ty)(f:Fm):List Ty:=if xp f.kind=true then g++[f.ty] else g
theorem Fm.EY(g:List Ty):∀l:List Fm,Fm.GU g l↔∀x∈l,x.Bl g
 |[]=>by simp[Fm.GU]
 |f::l=>by simp only[Fm.GU,Fm.EY g l,List.mem_cons,forall_eq_or_imp]
theorem Fm.Bq(g:List Ty)(f:Fm):f.Bl g↔(∀t∈f.terms,t.inf g=(Af,0))/\∀x∈f.args,x.Bl (Dx g f):=by
 cases f;simp only[Fm.Bl,Fm.EY,Dx];rfl
theorem H7{g:List Ty}{f:Fm}(h:xp f.kind=true):Dx g f=g++[f.ty]:=if_pos h
theorem HV{g:List Ty}{f:Fm}(h:¬xp f.kind=true):Dx g f=g:=if_neg h
theorem Bp{k:Int}:xp k=true↔4<=k/\k<=7:=by simp[xp]
theorem Yj(d:Dk){g:List Ty}(hg:Al g):(d.IU g).1.Bl g:=by
 have m1:=(Dk.CF 3 d g Af hg zg (by omega) (by omega)).inf hg zg;have m2:=(Dk.CF 3 (Dk.tm 3 d g Af).2 g Af hg zg (by omega) (by omega)).inf hg zg;rw[Fm.Bq];refine⟨fun t ht=> ?_,fun x hx=>by cases hx⟩;simp only[Dk.IU,AP,Fm.Ai,List.mem_cons,List.not_mem_nil,or_false] at ht;rcases ht with rfl|rfl
 ·exact m1
 ·exact m2
theorem OU{k:Int}{a b:Fm}{g:List Ty}(hk:k=2\/k=3)(ha:a.Bl g)(hb:b.Bl g):(ue k a b).Bl g:=by
 rw[Fm.Bq];have e:Dx g (ue k a b)=g:=HV (by show ¬xp k=true;rw[Bp];omega);rw[e];refine And.intro (fun t ht=>by cases ht) (fun x hx=> ?_);simp only[ue,Fm.Ad,List.mem_cons,List.not_mem_nil,or_false] at hx;rcases hx with rfl|rfl
 ·exact ha
 ·exact hb
theorem IJ{k:Int}{s:Ty}{a:Fm}{g:List Ty}(hk:4<=k/\k<=7)(ha:a.Bl (g++[s])):(Bo k s a).Bl g:=by
 rw[Fm.Bq];have e:Dx g (Bo k s a)=g++[s]:=H7 (Bp.2 hk);rw[e];refine And.intro (fun t ht=>by cases ht) (fun x hx=> ?_);simp only[Bo,Fm.Ad,List.mem_cons,List.not_mem_nil,or_false] at hx;subst hx;exact ha
theorem Dk.GM:∀(n:Nat) (d:Dk) (g:List Ty),Al g->(Dk.fm n d g).1.Bl g:=by
 intro n;induction n with
 |zero=>exact fun d g hg=>Yj d hg
 |succ n ih=>
  intro d g hg;have h2:=Dk.Bx (((d.next 9).2.type 0).2) 2 (by omega);have s1:=Dk.type1 (d.next 9).2;have s0:=Dk.type0 (d.next 9).2;have s0':=zx s0.1 s0.2;simp only[Dk.fm];repeat' split
  ·exact OU (.inl rfl) (ih _ _ hg) (ih _ _ hg)
  ·exact OU (.inr rfl) (ih _ _ hg) (ih _ _ hg)
  ·exact IJ ⟨by omega,by omega⟩ (ih _ _ (zp hg (zi s1 zm)))
  ·exact IJ ⟨by omega,by omega⟩ (ih _ _ (zp hg (zi s1 zm)))
  ·exact IJ ⟨by omega,by omega⟩ (ih _ _ (zp hg (zi s0' zm)))
  ·exact Yj _ hg
theorem Pv(at_:Int)(s:Tm)(g:List Ty)(σ:Ty)(hs:s.shape=true)(hσ:s.inf g=(σ,0))(f:Fm):∀(h:List Ty) (b:Int),(h.length:Int)=at_+b->f.shape=true->f.Bl (g++[σ]++h)->
 (f.re (fun b t=>t.re (xd (at_+b) s) 0) b).Bl (g++h):=by
 induction f using Fm.ind with
 |h f ih=>
  intro h b hb hf hok;rw[Fm.Bq] at hok;rw[Fm.Bj,Fm.Bq];simp only[Fm.Ai,Fm.Ad];refine⟨fun y hy=> ?_,fun y hy=> ?_⟩
  ·obtain ⟨x,hx,rfl⟩:=List.mem_map.1 hy;rw[Qc x s g h σ (at_+b) 0 (ye hf hx) hs (by omega) hσ];exact hok.1 x hx
  ·obtain ⟨x,hx,rfl⟩:=List.mem_map.1 hy;have h1:=hok.2 x hx;by_cases hq:xp f.kind=true
   ·rw[H7 hq] at h1;rw[show ∀ts as,Dx (g++h) (Fm.mk f.kind f.ty ts as)=g++h++[f.ty] from fun ts as=>H7 (f:=Fm.mk f.kind f.ty ts as) hq];have e:A3 f.kind b=b+1:=if_pos hq;rw[e,List.append_assoc];rw[List.append_assoc] at h1;exact ih x hx (h++[f.ty]) (b+1) (by simp;omega) (zw hf hx) h1
   ·rw[HV hq] at h1;rw[show ∀ts as,Dx (g++h) (Fm.mk f.kind f.ty ts as)=g++h from fun ts as=>HV (f:=Fm.mk f.kind f.ty ts as) hq];have e:A3 f.kind b=b:=if_neg hq;rw[e];exact ih x hx h b hb (zw hf hx) h1
theorem Pu{f:Fm}:∀{g:List Ty} {b:Int},f.Bl g->f.shape=true->∀q∈f.A2 b,∀v∈q.1.vars 0,v.1<g.length+f.size:=by
 induction f using Fm.ind with
 |h f ih=>
  intro g b hok hf q hq v hv;have e:=f.size_eq;rw[Fm.Bq] at hok;rw[Fm.A5,List.mem_append] at hq;rcases hq with hq|hq
  ·obtain ⟨t,ht,rfl⟩:=List.mem_map.1 hq;have h1:=zc Tm.size ht;have h2:=hok.1 t ht;exact Mw t g 0 _ (by rw[h2]) (ye hf ht) (by omega) v hv
  ·obtain ⟨x,hx,hq⟩:=List.mem_flatMap.1 hq;have h1:=zc Fm.size hx;have h2:=ih x hx (hok.2 x hx) (zw hf hx) q hq v hv;have h3:(Dx g f).length<=g.length+1:=by simp only[Dx];split<;>simp
   omega
theorem Zuh{f:Fm}{g:List Ty}(h:f.Bl g)(he:f.err=0)(hg:g.length<=1000):f.near=true/\f.DK=true:=by
 have h1:=(Fm.Ae f).1 he;refine⟨List.all_eq_true.2 fun q hq=>List.all_eq_true.2 fun v hv=> ?_,List.all_eq_true.2 fun q hq=>List.all_eq_true.2 fun v hv=> ?_⟩
 ·have:=Pu h h1.1 q hq v hv;simp;omega
 ·have:=Pu h h1.1 q hq v hv;simp;omega
def Dk.pat(g:List Ty)(d:Dk):Nat->List Ty×List Tm×Dk
 |0=>(g,[],d)
 |n+1=>((Dk.pat g d n).1++[((Dk.pat g d n).2.2.type 0).1],(Dk.tm 4 ((Dk.pat g d n).2.2.type 0).2 g ((Dk.pat g d n).2.2.type 0).1).1::(Dk.pat g d n).2.1,(Dk.tm 4 ((Dk.pat g d n).2.2.type 0).2 g ((Dk.pat g d n).2.2.type 0).1).2)
theorem S3{α:Type}{f:α->Nat}{l:List α}(h:∀j (hj:j<l.length),f l[j]=0):(l.map f).sum=0:=by
 induction l with
 |nil=>rfl
 |cons x l ih=>
  have h0:=h 0 (by simp);have h1:=ih fun j hj=>by have:=h (j+1) (by simp;omega);simpa using this
  simp only[List.map_cons,List.sum_cons];simp only[List.getElem_cons_zero] at h0;omega
theorem PX{α:Type}{f:α->Nat}{l:List α}{m:Nat}(hm:m<l.length)(h:f l[m]≠0):(l.map f).sum≠0:=by
 have:=zc f (List.getElem_mem hm);omega
def xx(most:Int)(t:Tm):Bool:=(t.vars 0).all fun p=>decide (p.1<=most)
theorem Zv7(most b:Int)(t:Tm):(t.vars b).all (fun p=>decide (p.1<=most))=xx most t:=by
 have h:=KU t 0 b;rw[Int.zero_add] at h;rw[h,List.all_map];rfl
theorem S2{α β:Type}(f:α->List β)(p:β->Bool)(l:List α):(l.flatMap f).all p=l.all fun x=>(f x).all p:=by
 induction l with
 |nil=>rfl
 |cons x l ih=>rw[List.flatMap_cons,List.all_append,ih,List.all_cons]
theorem Zwc{most:Int}(h0:0<=most){t:Tm}(hs:t.shape=true):xx most t=(decide (t.index<=most)&&t.args.all (xx most)):=by
 simp only[xx];by_cases h1:t.kind=1
 ·rw[uk hs h1,HP hs h1];simp
 ·rw[Ja h1,S2,(N8 hs).2 h1,decide_eq_true h0,Bool.true_and];congr 1;funext x;exact Zv7 most _ x
theorem Te(t:Tm):t.near=xx 536870912 t:=rfl
def Fj(most:Int)(f:Fm):Bool:=(f.A2 0).all fun p=>xx most p.1
theorem Zy0(most:Int)(f:Fm):Fj most f=(f.terms.all (xx most)&&f.args.all (Fj most)):=by
 have key:∀(f:Fm) (b:Int),(f.A2 b).all (fun p=>xx most p.1)=Fj most f:=by
  intro f;induction f using Fm.ind with
  |h f ih=>
   intro b;have e:∀b,(f.A2 b).all (fun p=>xx most p.1)=(f.terms.all (xx most)&&f.args.all (Fj most)):=fun b=>by
    rw[Fm.A5,List.all_append,List.all_map,S2];congr 1;have:∀l:List Fm,(∀x∈l,x∈f.args)->(l.all fun x=>(x.A2 (A3 f.kind b)).all fun p=>xx most p.1)=l.all (Fj most):=by
     intro l;induction l with
     |nil=>intro _;rfl
     |cons x l ihl=>intro h;rw[List.all_cons,List.all_cons,ih x (h x (by simp)),ihl fun y hy=>h y (by simp[hy])]
    exact this f.args fun _ h=>h
   rw[e b,<-e 0];rfl
 have e:Fj most f=(f.A2 0).all fun p=>xx most p.1:=rfl;rw[e,Fm.A5,List.all_append,List.all_map,S2];congr 1;have:(fun x:Fm=>(x.A2 (A3 f.kind 0)).all fun p=>xx most p.1)=Fj most:=by funext x;exact key x _
 rw[this]
theorem Zpn(f:Fm):f.near=Fj 536870912 f:=rfl
theorem Ygl(k fr by_:Int)(x:Tm):x.re (zl (up k fr) by_) 0=x.re (zl fr by_) (up k 0):=by
 rw[uy (zl fr by_) (up k 0) x];refine A7 x 0 fun p _=> ?_;simp only[yz];congr 1;have:up k fr=fr+up k 0:=by have:=Pe k 0 fr;rw[Int.zero_add,Int.add_comm] at this;exact this
 rw[this];by_cases h:p.1-p.2>=fr+up k 0
 ·rw[if_pos h,if_pos (by omega)]
 ·rw[if_neg h,if_neg (by omega)]
theorem Zwd{fr by_:Int}{t:Tm}(h:t.kind≠1):t.re (zl fr by_) 0= .mk t.kind t.index t.ty (t.args.map fun x=>x.re (zl (up t.kind fr) by_) 0):=by
 rw[xv h];congr 1;exact List.map_congr_left fun x _=>(Ygl _ _ _ x).symm
def y8(at_:Int)(f:Fm):Nat:=ve at_ (f.A2 0)
theorem Ztn(at_:Int)(f:Fm):∀b c:Int,ve at_ (f.A2 (b+c))=ve (at_+c) (f.A2 b):=by
 induction f using Fm.ind with
 |h f ih=>
  intro b c;rw[Fm.A5,Fm.A5,yv,yv];have e:A3 f.kind (b+c)=A3 f.kind b+c:=by simp only[A3];split<;>omega
  rw[e];congr 1
  ·generalize f.terms=l;induction l with
   |nil=>rfl
   |cons x l ihl=>
    simp only[List.map_cons,ve,ihl];rw[show at_+(b+c)=at_+c+b by omega]
  ·have:∀l:List Fm,(∀x∈l,x∈f.args)->ve at_ (l.flatMap (Fm.A2 (A3 f.kind b+c)))=ve (at_+c) (l.flatMap (Fm.A2 (A3 f.kind b))):=by
    intro l;induction l with
    |nil=>intro _;rfl
    |cons x l ihl=>intro h;rw[List.flatMap_cons,List.flatMap_cons,yv,yv,ih x (h x (by simp)),ihl fun y hy=>h y (by simp[hy])]
   exact this f.args fun _ h=>h
theorem Vr{at_:Int}{f:Fm}(hs:f.shape=true):y8 at_ f=(f.terms.map (yr at_)).sum+(f.args.map (y8 (A3 f.kind at_))).sum:=by
 unfold y8;rw[Fm.A5,yv];congr 1
 ·have:∀l:List Tm,(∀x∈l,x.shape=true)->ve at_ (l.map fun t=>(t,(0:Int)))=(l.map (yr at_)).sum:=by
   intro l;induction l with
   |nil=>intro _;rfl
   |cons x l ih=>
    intro h;have h1:=SZ x at_ 0 (h x (by simp));simp only[List.map_cons,List.sum_cons,ve];rw[ih fun y hy=>h y (by simp[hy]),Int.add_zero];rw[Int.add_zero] at h1;rw[h1]
  exact this f.terms fun x hx=>ye hs hx
 ·have:∀l:List Fm,ve at_ (l.flatMap (Fm.A2 (A3 f.kind 0)))=(l.map fun f'=>ve (A3 f.kind at_) (f'.A2 0)).sum:=by
   intro l;induction l with
   |nil=>rfl
   |cons x l ih=>
    rw[List.flatMap_cons,yv,ih,List.map_cons,List.sum_cons];congr 1;have h1:=Ztn at_ x 0 (A3 f.kind 0);rw[Int.zero_add] at h1;rw[h1];congr 1;simp only[A3];split<;>omega
  exact this f.args
theorem SP(at_:Int)(f:Fm):y8 at_ f<=f.size:=by
 have h1:=Kf at_ (f.A2 0);have h2:=Ml f 0;unfold y8;omega
theorem Yfs(at_:Int)(s:Tm)(b:Int)(f:Fm):f.re (fun b t=>t.re (xd (at_+b) s) 0) b=f.re (fun b t=>t.re (xd at_ s) b) b:=by
 refine Fm.A7 f b fun p _=> ?_;rw[uy (xd at_ s) p.2];refine A7 p.1 0 fun q _=> ?_;simp only[GV];by_cases h:q.1-q.2=at_+p.2
 ·rw[if_pos h,if_pos (by omega)];congr 2;omega
 ·rw[if_neg h,if_neg (show ¬q.1-(q.2+p.2)=at_ by omega)];by_cases h2:q.1-q.2>at_+p.2
  ·rw[if_pos h2,if_pos (by omega)]
  ·rw[if_neg h2,if_neg (by omega)]
def xw{α:Type}(f:α->Int):List α->Int
 |[]=>0
 |x::l=>if f x≠0 then f x else xw f l
theorem Kt{α:Type}{f:α->Int}:∀{l:List α} {m:Nat} (hm:m<l.length),(∀j (hj:j<l.length),j<m->f l[j]=0)->f l[m]≠0->xw f l=f l[m]
 |[],m,hm,_,_=>by simp at hm
 |x::l,0,hm,_,h=>by simp only[xw,List.getElem_cons_zero] at h ⊢;rw[if_pos h]
 |x::l,m+1,hm,h0,h=>by
  have h1:=h0 0 (by simp) (by omega);simp only[List.getElem_cons_zero] at h1;simp only[xw,List.getElem_cons_succ] at h ⊢;rw[if_neg (by simp[h1])];exact Kt (by simpa using hm) (fun j hj hjm=>by have:=h0 (j+1) (by simpa using hj) (by omega);simpa using this) h
theorem vg{α:Type}{f:α->Int}:∀{l:List α},(∀j (hj:j<l.length),j<l.length->f l[j]=0)->xw f l=0
 |[],_=>rfl
 |x::l,h0=>by
  have h1:=h0 0 (by simp) (by simp);simp only[List.getElem_cons_zero] at h1;simp only[xw];rw[if_neg (by simp[h1])];exact vg fun j hj hjm=>by have:=h0 (j+1) (by simpa using hj) (by simpa using hj);simpa using this
theorem N4{α:Type}{f:α->Int}{l:List α}(h:∀x∈l,f x=0):xw f l=0:=vg fun j hj _=>h _ (List.getElem_mem hj)
def tE(g:List Ty)(t:Tm):Int:=if(Em g t).2≠0 then(Em g t).2 else if(Em g t).1.kind≠1 then 7 else 0
mutual
def Fm.EF(g:List Ty):Fm->Int
 | .mk k h ts as=>if xw (tE g) ts≠0 then xw (tE g) ts else Fm.HZ (if xp k=true then g++[h] else g) as
def Fm.HZ(g:List Ty):List Fm->Int
 |[]=>0
 |f::l=>if f.EF g≠0 then f.EF g else Fm.HZ g l
end
theorem Fm.FK(g:List Ty):∀l:List Fm,Fm.HZ g l=xw (Fm.EF g) l
 |[]=>rfl
 |f::l=>by rw[Fm.HZ,Fm.FK g l];rfl
theorem Fm.FD(g:List Ty)(f:Fm):f.EF g=if xw (tE g) f.terms≠0 then xw (tE g) f.terms else xw (Fm.EF (Dx g f)) f.args:=by
 cases f;simp only[Fm.EF,Fm.FK,Dx];rfl
def v3(g:List Ty)(f:Fm):Int:=if f.err≠0 then f.err else f.EF g
def ym(g:List Ty)(f:Fm):Int:=if xq g≠0 then xq g else v3 g f
theorem Yfq(f:Fm):∀g:List Ty,f.Bl g->f.shape=true->f.size<=4096->f.EF g=0:=by
 induction f using Fm.ind with
 |h f ih=>
  intro g hok hs hz;have e:=f.size_eq;rw[Fm.Bq] at hok;rw[Fm.FD];have h1:xw (tE g) f.terms=0:=N4 fun t ht=>by
   have h2:=zc Tm.size ht;have h3:t.err=0:=(Tm.Ae t).2 ⟨ye hs ht,by omega⟩;have h4:Em g t=(Af,0):=by simp only[Em];rw[if_neg (by simp[h3]),hok.1 t ht]
   simp only[tE,h4];rfl
  rw[if_neg (by simp[h1])];exact N4 fun x hx=>ih x hx _ (hok.2 x hx) (zw hs hx) (by have:=zc Fm.size hx;omega)
theorem Ua{f:Fm}{g:List Ty}(h:f.Bl g)(he:f.err=0)(hg:xq g=0):ym g f=0:=by
 have h1:=(Fm.Ae f).1 he;simp only[ym,v3];rw[if_neg (by simp[hg]),if_neg (by simp[he])];exact Yfq f g h h1.1 h1.2
abbrev Gn:=EH×Bool
def rH(k b:Int)(t:Tm)(s:Gn):Gn:=
 if k∈s.1.map (·.1) then s else if ∀j:Nat,j<b.toNat->cnt j (t.vars 0)=0 then(s.1++[(k,t.re (zl b (-b)) 0)],s.2) else(s.1,true)
mutual
def rT(h b:Int):Tm->Tm->Gn->Gn
 | .mk k i ty as,t,s=>
   if s.2=true then s
   else if k=1/\b<=i/\i<b+h then rH (i-b) b t s
   else if k=t.kind/\(if k=1/\b+h<=i then i-h else i)=t.index/\ty=t.ty/\as.length=t.args.length then Qd h (up k b) as t.args s
   else(s.1,true)
def Qd(h b:Int):List Tm->List Tm->Gn->Gn
 |[],_,s=>s
 |_::_,[],s=>s
 |p::ps,t::ts,s=>Qd h b ps ts (rT h b p t s)
end
mutual
def rF(h b:Int):Fm->Fm->Gn->Gn
 | .mk k ty ts as,f,s=>
   if s.2=true\/k≠f.kind\/ty≠f.ty then(s.1,true) else UT h (A3 k b) as f.args (Qd h b ts f.terms s)
def UT(h b:Int):List Fm->List Fm->Gn->Gn
 |[],_,s=>s
 |_::_,[],s=>s
 |p::ps,t::ts,s=>UT h b ps ts (rF h b p t s)
end
def Both(r:Bool×EH)(s:Gn):Prop:=(r.1=true/\s=(r.2,false))\/(r.1=false/\s.2=true)
def XR(h:Int)(m:EH):Prop:=(m.map (·.1)).Nodup/\∀k∈m.map (·.1),0<=k/\k<h
def Ylv:Tm:= .mk 13 0 (.mk 0 []) []
def PZ(m:EH)(n:Nat):List Tm:=(List.range n).map fun k:Nat=>(Om m (k:Int)).getD Ylv
def Yma(m:EH)(n:Nat):Bool:=(List.range n).any fun k:Nat=>(Om m (k:Int)).isNone
def RM(p:Fm)(h:Int)(f:Fm):List Tm×Int:=
 if p.err≠0 then([],p.err) else if f.err≠0 then([],f.err) else if ¬(0<=h/\h<=16)\/p.DK=false\/f.DK=false then([],1)
 else if(rF h 0 p f ([],false)).2=true then([],11)
 else if(fill p (PZ (rF h 0 p f ([],false)).1 h.toNat)).2≠0\/(fill p (PZ (rF h 0 p f ([],false)).1 h.toNat)).1≠f then([],11)
 else if Yma (rF h 0 p f ([],false)).1 h.toNat=true then([],13) else(PZ (rF h 0 p f ([],false)).1 h.toNat,0)
mutual
def Ty.cn(most:Int):Ty->Int
 | .mk _ as=>Ty.FR most 1 as
def Ty.FR(most n:Int):List Ty->Int
 |[]=>n
 |x::l=>if n<=most then Ty.FR most (n+x.cn (most-n)) l else n
end
mutual
def Tm.cn(most:Int):Tm->Int
 | .mk _ _ h as=>Tm.FR most (1+h.cn (most-1)) as
def Tm.FR(most n:Int):List Tm->Int
 |[]=>n
 |x::l=>if n<=most then Tm.FR most (n+x.cn (most-n)) l else n
end
mutual
def Fm.cn(most:Int):Fm->Int
 | .mk _ h ts as=>Fm.FR most (Tm.FR most (1+h.cn (most-1)) ts) as
def Fm.FR(most n:Int):List Fm->Int
 |[]=>n
 |x::l=>if n<=most then Fm.FR most (n+x.cn (most-n)) l else n
end
end Go.Ab
namespace Go.Ab
open Go
set_option linter.all false
def wsum(l:List Tm):Int:=l.foldl (fun n x=>IntKind.i64.wrap (n+x.cn 20000)) 0
end Go.Ab
namespace Go.Ab
set_option linter.all false
def v7(t:Tm):Bool:=
 if t.kind=3 then(t.arg 0).kind==2
 else if t.kind=6 then(t.arg 2).kind==4||(t.arg 2).kind==5
 else if t.kind=9 then(t.arg 2).kind==7||(t.arg 2).kind==8
 else if t.kind=11\/t.kind=12 then(t.arg 0).kind==10 else false
def Kx(t:Tm):Tm:=
 if t.kind=3 then((t.arg 0).arg 0).re (xd 0 (t.arg 1)) 0
 else if t.kind=6 then
  if(t.arg 2).kind=4 then t.arg 0 else AO (AO (t.arg 1) ((t.arg 2).arg 0)) (.mk 6 0 t.ty [t.arg 0,t.arg 1,(t.arg 2).arg 0])
 else if t.kind=9 then
  if(t.arg 2).kind=7 then t.arg 0 else AO (AO (AO (t.arg 1) ((t.arg 2).arg 0)) ((t.arg 2).arg 1)) (.mk 9 0 t.ty [t.arg 0,t.arg 1,(t.arg 2).arg 1])
 else if t.kind=11 then(t.arg 0).arg 0 else(t.arg 0).arg 1
def FY(t:Tm):Int:=(Kx t).size-t.size
inductive RV:Tm->Tm->Prop
 |beta (i th j s b a):RV (.mk 3 i th [.mk 2 j s [b],a]) (b.re (xd 0 a) 0)
 |rz (i th x f j s):RV (.mk 6 i th [x,f,.mk 4 j s []]) x
 |rs (i th x f j s n):RV (.mk 6 i th [x,f,.mk 5 j s [n]]) (AO (AO f n) (.mk 6 0 th [x,f,n]))
 |fz (i th x f j s):RV (.mk 9 i th [x,f,.mk 7 j s []]) x
 |fs (i th x f j s h l):RV (.mk 9 i th [x,f,.mk 8 j s [h,l]]) (AO (AO (AO f h) l) (.mk 9 0 th [x,f,l]))
 |p1 (i th j s x y):RV (.mk 11 i th [.mk 10 j s [x,y]]) x
 |p2 (i th j s x y):RV (.mk 12 i th [.mk 10 j s [x,y]]) y
theorem UI{t:Tm}(hs:t.shape=true){k:Int}(hk:t.kind=k)(ha:CV k=some 0):∃i th,t= .mk k i th []:=by
 obtain⟨k',i,th,xs⟩:=t;rw[Tm.Ak,Bool.and_eq_true] at hs;have h:=hs.1;simp only[Tm.head,Bool.and_eq_true,Tm.Ah,Tm.Ad] at h hk;subst hk;rw[ha] at h;have e:xs=[]:=List.eq_nil_of_length_eq_zero (by simpa using h.1.1.1);exact⟨i,th,by rw[e]⟩
theorem JV{t:Tm}(hs:t.shape=true)(h:v7 t=true):RV t (Kx t):=by
 unfold v7 at h;by_cases h3:t.kind=3
 ·rw[if_pos h3] at h;obtain⟨i,th,f,a,rfl,hf,ha⟩:=Js hs h3 rfl;simp only[Tm.arg,Tm.Ad,List.getD_cons_zero,beq_iff_eq] at h;obtain⟨j,s,b,rfl,hb⟩:=G9 hf h rfl;exact .beta i th j s b a
 rw[if_neg h3] at h;by_cases h6:t.kind=6
 ·rw[if_pos h6] at h;obtain⟨i,th,x,f,z,rfl,hx,hf,hz⟩:=Ko hs h6 rfl;simp only[Tm.arg,Tm.Ad,List.getD_cons_zero,List.getD_cons_succ,Bool.or_eq_true,beq_iff_eq] at h;rcases h with h|h
  ·obtain ⟨j,s,rfl⟩:=UI hz h rfl;exact .rz i th x f j s
  ·obtain ⟨j,s,n,rfl,hn⟩:=G9 hz h rfl;exact .rs i th x f j s n
 rw[if_neg h6] at h;by_cases h9:t.kind=9
 ·rw[if_pos h9] at h;obtain⟨i,th,x,f,z,rfl,hx,hf,hz⟩:=Ko hs h9 rfl;simp only[Tm.arg,Tm.Ad,List.getD_cons_zero,List.getD_cons_succ,Bool.or_eq_true,beq_iff_eq] at h;rcases h with h|h
  ·obtain ⟨j,s,rfl⟩:=UI hz h rfl;exact .fz i th x f j s
  ·obtain ⟨j,s,n,l,rfl,hn,hl⟩:=Js hz h rfl;exact .fs i th x f j s n l
 rw[if_neg h9] at h;by_cases h11:t.kind=11
 ·rw[if_pos (.inl h11)] at h;obtain⟨i,th,p,rfl,hp⟩:=G9 hs h11 rfl;simp only[Tm.arg,Tm.Ad,List.getD_cons_zero,beq_iff_eq] at h;obtain⟨j,s,x,y,rfl,hx,hy⟩:=Js hp h rfl;exact .p1 i th j s x y
 by_cases h12:t.kind=12
 ·rw[if_pos (.inr h12)] at h;obtain⟨i,th,p,rfl,hp⟩:=G9 hs h12 rfl;simp only[Tm.arg,Tm.Ad,List.getD_cons_zero,beq_iff_eq] at h;obtain⟨j,s,x,y,rfl,hx,hy⟩:=Js hp h rfl;exact .p2 i th j s x y
 ·rw[if_neg (by rintro(h|h);exact h11 h;exact h12 h)] at h;cases h
theorem MH{f x:Tm}(hf:f.shape=true)(hx:x.shape=true):(AO f x).shape=true:=by
 simp[AO,Tm.shape,Tm.Bb,Tm.head,CV,wg,Ty.BI,hf,hx]
theorem Zvb{t:Tm}(hs:t.shape=true)(h:v7 t=true):(Kx t).shape=true:=by
 have hv:=JV hs h;have hargs:=ze hs;generalize Kx t=u at hv;cases hv with
 |beta i th j s b a=>
  have h1:=ze (hargs (.mk 2 j s [b]) (by simp)) b (by simp);exact Mo 0 (hargs a (by simp)) h1 (Int.le_refl _) (Int.le_refl _) fun p hp=>uj b 0 p hp
 |rz=>exact hargs _ (by simp)
 |fz=>exact hargs _ (by simp)
 |rs i th x f j s n=>
  have h1:=ze (hargs (.mk 5 j s [n]) (by simp)) n (by simp);have hx:=hargs x (by simp);have hf:=hargs f (by simp);have hh:th.ok=true:=by rw[Tm.Ak,Bool.and_eq_true] at hs;have:=hs.1;simp[Tm.head,wg] at this;exact this.2
  refine MH (MH hf h1) ?_;simp[Tm.shape,Tm.Bb,Tm.head,CV,wg,hf,hx,h1,hh]
 |fs i th x f j s n l=>
  have h1:=ze (hargs (.mk 8 j s [n,l]) (by simp)) n (by simp);have h2:=ze (hargs (.mk 8 j s [n,l]) (by simp)) l (by simp);have hx:=hargs x (by simp);have hf:=hargs f (by simp);have hh:th.ok=true:=by rw[Tm.Ak,Bool.and_eq_true] at hs;have:=hs.1;simp[Tm.head,wg] at this;exact this.2
  refine MH (MH (MH hf h1) h2) ?_;simp[Tm.shape,Tm.Bb,Tm.head,CV,wg,hf,hx,h1,h2,hh]
 |p1 i th j s _ y=>exact ze (hargs (.mk 10 j s [u,y]) (by simp)) u (by simp)
 |p2 i th j s x _=>exact ze (hargs (.mk 10 j s [x,u]) (by simp)) u (by simp)
theorem Ybs{C:Int}(hC:0<=C){t u:Tm}(hs:t.shape=true)(h:RV t u)(hf:∀p∈t.vars 0,p.1-p.2<=C):∀p∈u.vars 0,p.1-p.2<=C:=by
 have hargs:=ze hs;cases h with
 |beta i th j s b a=>
  have hb:=ze (hargs (.mk 2 j s [b]) (by simp)) b (by simp);have ha:=hargs a (by simp);intro p hp;rw[PG _ _ _ hb,List.mem_flatMap] at hp;obtain⟨q,hq,hp⟩:=hp;have hq2:=uj b 0 q hq;have hfb:q.1-(q.2+1)<=C:=by
   refine hf (q.1,q.2+1) ?_;have e:b.vars 1=(b.vars 0).map fun p=>(p.1,p.2+1):=by have:=KU b 0 1;simpa using this
   have hm:(q.1,q.2+1)∈b.vars 1:=by rw[e];exact List.mem_map.2 ⟨q,hq,rfl⟩
   simp[Tm.vars,Tm.BX,up];exact .inl hm
  rw[GV] at hp;by_cases h0:q.1-q.2=0
  ·rw[if_pos h0] at hp;have e:(a.re (zl 0 (0+q.2)) 0).vars q.2=((a.re (zl 0 q.2) 0).vars 0).map fun p=>(p.1,p.2+q.2):=by have:=KU (a.re (zl 0 (0+q.2)) 0) 0 q.2;simpa using this
   rw[e,Q3 _ _ _ _ ha,List.map_map,List.mem_map] at hp;obtain⟨r,hr,rfl⟩:=hp;have hfa:=hf r (by
    simp only[Tm.vars,Tm.BX,up,List.mem_append];simp[hr])
   simp only[Function.comp_apply];split<;>omega
  ·rw[if_neg h0,Xh] at hp;simp only[List.mem_singleton] at hp;subst hp;simp only;split<;>omega
 |rz i th x f j s=>intro p hp;refine hf p ?_;simp[Tm.vars,Tm.BX,up,hp]
 |fz i th x f j s=>intro p hp;refine hf p ?_;simp[Tm.vars,Tm.BX,up,hp]
 |rs i th x f j s n=>
  intro p hp;refine hf p ?_;simp[AO,Tm.vars,Tm.BX,up] at hp ⊢;rcases hp with h|h|h|h|h<;>simp[h]
 |fs i th x f j s n l=>
  intro p hp;refine hf p ?_;simp[AO,Tm.vars,Tm.BX,up] at hp ⊢;rcases hp with h|h|h|h|h|h<;>simp[h]
 |p1 i th j s x y=>intro p hp;refine hf p ?_;simp[Tm.vars,Tm.BX,up,hp]
 |p2 i th j s x y=>intro p hp;refine hf p ?_;simp[Tm.vars,Tm.BX,up,hp]
mutual
def C3(room:Int):Tm->Option (Tm×Bool)
 | .mk k i h xs=>if v7 (.mk k i h xs)=true then some (if FY (.mk k i h xs)>room then(A0,false) else(Kx (.mk k i h xs),true)) else(F1 room xs).map fun p=>(.mk k i h p.1,p.2)
def F1(room:Int):List Tm->Option (List Tm×Bool)
 |[]=>none
 |x::l=>match C3 room x with
  |some p=>some (p.1::l,p.2)
  |none=>(F1 room l).map fun q=>(x::q.1,q.2)
end
theorem Gz(room:Int)(t:Tm):C3 room t=if v7 t=true then some (if FY t>room then(A0,false) else(Kx t,true)) else(F1 room t.args).map fun p=>(.mk t.kind t.index t.ty p.1,p.2):=by
 cases t;simp only[C3];rfl
theorem TQ(room:Int):∀(xs:List Tm) (i:Nat) (hi:i<xs.length) (u:Tm×Bool),C3 room xs[i]=some u->(∀(j:Nat) (hj:j<xs.length),j<i->C3 room xs[j]=none)->F1 room xs=some (xs.set i u.1,u.2)
 |[],i,hi,u,h,hn=>by simp at hi
 |x::l,0,hi,u,h,hn=>by
  simp only[List.getElem_cons_zero] at h;simp only[F1,h];rfl
 |x::l,i+1,hi,u,h,hn=>by
  have h0:=hn 0 (by simp) (by omega);simp only[List.getElem_cons_zero] at h0;have:=TQ room l i (by simpa using hi) u (by simpa using h) fun j hj hji=>by have:=hn (j+1) (by simpa using hj) (by omega);simpa using this
  simp only[F1,h0,this,Option.map_some];rfl
theorem X5(room:Int):∀(xs:List Tm),(∀(j:Nat) (hj:j<xs.length),j<xs.length->C3 room xs[j]=none)->F1 room xs=none
 |[],_=>rfl
 |x::l,h=>by
  have h0:=h 0 (by simp) (by simp);simp only[List.getElem_cons_zero] at h0;have:=X5 room l fun j hj _=>by have:=h (j+1) (by simpa using hj) (by simpa using hj);simpa using this
  simp only[F1,h0,this];rfl
theorem Oy(room:Int):∀(xs:List Tm) (q:List Tm×Bool),F1 room xs=some q->∃(i:Nat) (hi:i<xs.length) (u:Tm),C3 room xs[i]=some (u,q.2)/\q.1=xs.set i u
 |[],q,h=>by simp[F1] at h
 |x::l,q,h=>by
  simp only[F1] at h;cases hx:C3 room x with
  |some u=>rw[hx] at h;cases h;exact⟨0,by simp,u.1,by simpa using hx,rfl⟩
  |none=>
   rw[hx] at h;simp only[Option.map_eq_some_iff] at h;obtain⟨r,h1,rfl⟩:=h;obtain⟨i,hi,u,h2,h3⟩:=Oy room l r h1;exact⟨i+1,by simpa using hi,u,by simpa using h2,by simp[h3]⟩
theorem WA(room:Int)(t:Tm):∀u,t.shape=true->C3 room t=some (u,true)->u.shape=true/\(u.size:Int)<=t.size+room/\∀C:Int,0<=C->∀b:Int,0<=b->(∀p∈t.vars b,p.1-p.2<=C)->∀p∈u.vars b,p.1-p.2<=C:=by
 induction t using Tm.ind with
 |h t ih=>
  intro u hs h;rw[Gz] at h;by_cases hr:v7 t=true
  ·rw[if_pos hr] at h;by_cases hg:FY t>room
   ·rw[if_pos hg] at h;simp at h
   ·rw[if_neg hg] at h;simp at h;subst h;refine⟨Zvb hs hr,by simp only[FY] at hg;omega,fun C hC b hb hf=> ?_⟩;have e:∀x:Tm,x.vars b=(x.vars 0).map fun p=>(p.1,p.2+b):=fun x=>by have:=KU x 0 b;simpa using this
    rw[e] at hf ⊢;have:=Ybs (C:=C+b) (by omega) hs (JV hs hr) fun p hp=>by have:=hf _ (List.mem_map.2 ⟨p,hp,rfl⟩);simp only at this;omega
    intro p hp;obtain⟨q,hq,rfl⟩:=List.mem_map.1 hp;have:=this q hq;simp only;omega
  ·rw[if_neg hr] at h;simp only[Option.map_eq_some_iff] at h;obtain⟨q,h1,h2⟩:=h;obtain⟨i,hi,v,h3,h4⟩:=Oy room _ _ h1;have h5:q.2=true:=by simpa using (congrArg Prod.snd h2)
   have h6:u= .mk t.kind t.index t.ty (t.args.set i v):=by rw[<-h4];exact(congrArg Prod.fst h2).symm
   subst h6;rw[h5] at h3;have hm:=List.getElem_mem hi;obtain⟨i1,i2,i3⟩:=ih _ hm v (ze hs _ hm) h3;refine⟨?_,?_,?_⟩
   ·have:(Tm.mk t.kind t.index t.ty t.args).shape=true:=by cases t;exact hs
    exact Ri this i1
   ·have:=Q0 Tm.size v t.args i hi;rw[Tm.size_eq,Tm.size_eq t];simp only[Tm.Ad];omega
   ·intro C hC b hb hf p hp;rw[Tm.AQ] at hp hf;simp only[Tm.Ah,Tm.Ay,Tm.Ad,List.mem_append] at hp hf;rcases hp with hp|hp
    ·exact hf p (.inl hp)
    ·obtain ⟨y,hy,hp⟩:=List.mem_flatMap.1 hp;have hup:0<=up t.kind b:=by simp only[up];split<;>omega
     rcases List.mem_or_eq_of_mem_set hy with hy|hyv
     ·exact hf p (.inr (List.mem_flatMap.2 ⟨y,hy,hp⟩))
     ·rw[hyv] at hp;exact i3 C hC _ hup (fun p hp=>hf p (.inr (List.mem_flatMap.2 ⟨_,hm,hp⟩))) p hp
def Dr(σ:Int->Tm)(i c:Int):Tm:=if i<c then vT i else(σ (i-c)).re (zl 0 c) 0
theorem Yep(s:Tm)(m n c:Int)(hm:0<=m)(hn:m<=n):(s.re (zl 0 n) 0).re (zl m c) 0=s.re (zl 0 (n+c)) 0:=by
 rw[Ci];refine A7 s 0 fun p hp=> ?_;simp only[yz,E9];congr 1;by_cases h:p.1-p.2>=0
 ·rw[if_pos h,if_pos (by omega),if_pos h];omega
 ·rw[if_neg h,if_neg (by omega),if_neg h]
theorem Yhb(s a:Tm)(c n:Int)(hc:0<=c)(hn:c<=n):(s.re (zl 0 (n+1)) 0).re (xd 0 a) c=s.re (zl 0 n) 0:=by
 rw[uy _ c,Ci];refine A7 s 0 fun p hp=> ?_;simp only[yz,E9,GV];by_cases h:p.1-p.2>=0
 ·rw[if_pos h,if_neg (by omega),if_pos (by omega),if_pos h];congr 1;omega
 ·rw[if_neg h,if_neg (by omega),if_neg (by omega),if_neg h]
theorem Zvm(s:Tm)(c d:Int):s.re (zl 0 c) d=s.re (zl d c) 0:=by
 rw[uy _ d];refine A7 s 0 fun p hp=> ?_;simp only[yz];congr 1;by_cases h:p.1-p.2>=d
 ·rw[if_pos h,if_pos (by omega)]
 ·rw[if_neg h,if_neg (by omega)]
theorem Yaj(σ:Int->Tm)(a:Tm)(b c:Int)(hb:0<=b)(hc:0<=c):(a.re (zl 0 c) 0).re (fun i d=>Dr σ i (d+b)) c=(a.re (Dr σ) b).re (zl 0 c) 0:=by
 rw[uy _ c,Ci,uy (Dr σ) b,Ci];refine A7 a 0 fun p hp=> ?_;have h2:=uj a 0 p hp;simp only[yz,E9];by_cases h:p.1<p.2
 ·rw[if_neg (by omega)];simp only[Dr];rw[if_pos (by omega),if_pos (by omega),E9,yz,if_neg (by omega)]
 ·rw[if_pos (by omega)];simp only[Dr];by_cases h3:p.1<p.2+b
  ·rw[if_pos (by omega),if_pos h3,E9,yz,if_pos (by omega)]
  ·rw[if_neg (by omega),if_neg h3,Zvm _ c,Yep _ _ _ _ h2 (by omega)];rw[show p.1+c-(p.2+c+b)=p.1-(p.2+b) by omega,show p.2+c+b=p.2+b+c by omega]
theorem Ydz(σ:Int->Tm)(t a:Tm)(b:Int)(hb:0<=b):(t.re (xd 0 a) 0).re (Dr σ) b=(t.re (Dr σ) (b+1)).re (xd 0 (a.re (Dr σ) b)) 0:=by
 rw[uy (Dr σ) b,Ci,uy (Dr σ) (b+1),Ci];refine A7 t 0 fun p hp=> ?_;have h2:=uj t 0 p hp;by_cases h0:p.1-p.2=0
 ·have e:p.1=p.2:=by omega
  have e1:xd 0 a p.1 p.2=a.re (zl 0 p.2) 0:=by rw[GV,if_pos h0,Int.zero_add]
  have e2:Dr σ p.1 (p.2+(b+1))=vT p.1:=if_pos (by omega);rw[e1,e2,E9,GV,if_pos h0,Int.zero_add,Yaj σ a b p.2 hb h2]
 ·have e1:xd 0 a p.1 p.2=vT (if p.1-p.2>0 then p.1-1 else p.1):=by rw[GV,if_neg h0]
  rw[e1,E9];by_cases h:p.1<p.2
  ·rw[if_neg (by omega)];simp only[Dr];rw[if_pos (by omega),if_pos (by omega),E9,GV,if_neg (by omega),if_neg (by omega)]
  ·rw[if_pos (by omega)];simp only[Dr];by_cases h3:p.1<p.2+(b+1)
   ·rw[if_pos (by omega),if_pos h3,E9,GV,if_neg h0,if_pos (by omega)]
   ·rw[if_neg (by omega),if_neg h3,show p.2+(b+1)=(p.2+b)+1 by omega,Yhb _ _ _ _ h2 (by omega)];congr 2;omega
def Rp(a:Tm)(j:Int):Tm:=if j=0 then a else vT (j-1)
def Mt(n j:Int):Tm:=vT (j+n)
theorem Ya(a t:Tm):t.re (xd 0 a) 0=t.re (Dr (Rp a)) 0:=by
 refine A7 t 0 fun p hp=> ?_;rw[GV];simp only[Dr,Rp];by_cases h:p.1<p.2
 ·rw[if_neg (by omega),if_neg (by omega),if_pos h]
 ·rw[if_neg h];by_cases h0:p.1-p.2=0
  ·rw[if_pos h0,if_pos h0,Int.zero_add]
  ·rw[if_neg h0,if_neg h0,if_pos (by omega),E9,yz,if_pos (by omega)];congr 1;omega
theorem UK(n:Int)(hn:0<=n)(t:Tm):t.re (zl 0 n) 0=t.re (Dr (Mt n)) 0:=by
 refine A7 t 0 fun p hp=> ?_;rw[yz];simp only[Dr,Mt];by_cases h:p.1<p.2
 ·rw[if_neg (by omega),if_pos h]
 ·rw[if_neg h,if_pos (by omega),E9,yz,if_pos (by omega)];congr 1;omega
mutual
inductive BU:Tm->Tm->Prop
 |node {k i h xs ys} (hp:DW xs ys):BU (.mk k i h xs) (.mk k i h ys)
 |beta {i th j s b b' a a'} (hb:BU b b') (ha:BU a a'):BU (.mk 3 i th [.mk 2 j s [b],a]) (b'.re (xd 0 a') 0)
 |rz {i th x x' f j s} (hx:BU x x'):BU (.mk 6 i th [x,f,.mk 4 j s []]) x'
 |rs {i th x x' f f' j s n n'} (hx:BU x x') (hf:BU f f') (hn:BU n n'):BU (.mk 6 i th [x,f,.mk 5 j s [n]]) (AO (AO f' n') (.mk 6 0 th [x',f',n']))
 |fz {i th x x' f j s} (hx:BU x x'):BU (.mk 9 i th [x,f,.mk 7 j s []]) x'
 |fs {i th x x' f f' j s n n' l l'} (hx:BU x x') (hf:BU f f') (hn:BU n n') (hl:BU l l'):BU (.mk 9 i th [x,f,.mk 8 j s [n,l]]) (AO (AO (AO f' n') l') (.mk 9 0 th [x',f',l']))
 |p1 {i th j s x x' y} (hx:BU x x'):BU (.mk 11 i th [.mk 10 j s [x,y]]) x'
 |p2 {i th j s x y y'} (hy:BU y y'):BU (.mk 12 i th [.mk 10 j s [x,y]]) y'
inductive DW:List Tm->List Tm->Prop
 |nil:DW [] []
 |cons {x y xs ys} (h:BU x y) (hs:DW xs ys):DW (x::xs) (y::ys)
end
theorem RO:∀(xs:List Tm),(∀x∈xs,BU x x)->DW xs xs
 |[],_=> .nil
 |x::l,h=> .cons (h x (by simp)) (RO l fun y hy=>h y (by simp[hy]))
theorem BU.refl(t:Tm):BU t t:=by
 induction t using Tm.ind with
 |h t ih=>obtain⟨k,i,h,xs⟩:=t;exact .node (RO xs ih)
theorem Wp:∀(xs:List Tm) (i:Nat) (hi:i<xs.length) (u:Tm),BU xs[i] u->DW xs (xs.set i u)
 |x::l,0,_,u,h=> .cons h (RO l fun y _=>BU.refl y)
 |x::l,i+1,hi,u,h=> .cons (BU.refl x) (Wp l i (by simpa using hi) u (by simpa using h))
theorem Yhz{t u:Tm}(h:RV t u):BU t u:=by
 cases h with
 |beta=>exact .beta (.refl _) (.refl _)
 |rz=>exact .rz (.refl _)
 |rs=>exact .rs (.refl _) (.refl _) (.refl _)
 |fz=>exact .fz (.refl _)
 |fs=>exact .fs (.refl _) (.refl _) (.refl _) (.refl _)
 |p1=>exact .p1 (.refl _)
 |p2=>exact .p2 (.refl _)
theorem Yiv(room:Int)(t:Tm):∀u,t.shape=true->C3 room t=some (u,true)->BU t u:=by
 induction t using Tm.ind with
 |h t ih=>
  intro u hs h;rw[Gz] at h;by_cases hr:v7 t=true
  ·rw[if_pos hr] at h;by_cases hg:FY t>room
   ·rw[if_pos hg] at h;simp at h
   ·rw[if_neg hg] at h;simp at h;subst h;exact Yhz (JV hs hr)
  ·rw[if_neg hr] at h;simp only[Option.map_eq_some_iff] at h;obtain⟨q,h1,h2⟩:=h;obtain⟨i,hi,v,h3,h4⟩:=Oy room _ _ h1;have h5:q.2=true:=by simpa using (congrArg Prod.snd h2)
   have h6:u= .mk t.kind t.index t.ty (t.args.set i v):=by rw[<-h4];exact(congrArg Prod.fst h2).symm
   subst h6;rw[h5] at h3;have hm:=List.getElem_mem hi;have:=ih _ hm v (ze hs _ hm) h3;obtain⟨k,j,th,xs⟩:=t;exact .node (Wp xs i hi v this)
mutual
theorem E8{σ σ':Int->Tm}(hσ:∀i c,0<=c->BU (Dr σ i c) (Dr σ' i c)):∀{t u:Tm},BU t u->∀b:Int,0<=b->BU (t.re (Dr σ) b) (u.re (Dr σ') b)
 |_,_,.node (k:=k) (i:=i) (h:=h) (xs:=xs) (ys:=ys) hp,b,hb=>by
  by_cases h1:k=1
  ·subst h1;rw[ub (t:= .mk 1 i h xs) rfl,ub (t:= .mk 1 i h ys) rfl];exact hσ i b hb
  ·rw[xv (t:= .mk k i h xs) h1,xv (t:= .mk k i h ys) h1];exact .node (Xj hσ hp (up k b) (by simp only[up];split<;>omega))
 |_,_,.beta (b':=b') (a':=a') h1 h2,b,hb=>by
  rw[Ydz σ' b' a' b hb];simp only[Tm.re,Tm.res,up];simp only[show ¬((3:Int)=1) by decide,show ¬((3:Int)=2) by decide,show ¬((2:Int)=1) by decide,if_false,if_true];exact .beta (E8 hσ h1 (b+1) (by omega)) (E8 hσ h2 b hb)
 |_,_,.rz h1,b,hb=>by
  simp only[Tm.re,Tm.res,up];simp only[show ¬((6:Int)=1) by decide,show ¬((6:Int)=2) by decide,show ¬((4:Int)=1) by decide,if_false];exact .rz (E8 hσ h1 b hb)
 |_,_,.rs h1 h2 h3,b,hb=>by
  simp only[AO,Tm.re,Tm.res,up];simp only[show ¬((6:Int)=1) by decide,show ¬((6:Int)=2) by decide,show ¬((5:Int)=1) by decide,show ¬((5:Int)=2) by decide,show ¬((3:Int)=1) by decide,show ¬((3:Int)=2) by decide,if_false];exact .rs (E8 hσ h1 b hb) (E8 hσ h2 b hb) (E8 hσ h3 b hb)
 |_,_,.fz h1,b,hb=>by
  simp only[Tm.re,Tm.res,up];simp only[show ¬((9:Int)=1) by decide,show ¬((9:Int)=2) by decide,show ¬((7:Int)=1) by decide,if_false];exact .fz (E8 hσ h1 b hb)
 |_,_,.fs h1 h2 h3 h4,b,hb=>by
  simp only[AO,Tm.re,Tm.res,up];simp only[show ¬((9:Int)=1) by decide,show ¬((9:Int)=2) by decide,show ¬((8:Int)=1) by decide,show ¬((8:Int)=2) by decide,show ¬((3:Int)=1) by decide,show ¬((3:Int)=2) by decide,if_false];exact .fs (E8 hσ h1 b hb) (E8 hσ h2 b hb) (E8 hσ h3 b hb) (E8 hσ h4 b hb)
 |_,_,.p1 h1,b,hb=>by
  simp only[Tm.re,Tm.res,up];simp only[show ¬((11:Int)=1) by decide,show ¬((11:Int)=2) by decide,show ¬((10:Int)=1) by decide,show ¬((10:Int)=2) by decide,if_false];exact .p1 (E8 hσ h1 b hb)
 |_,_,.p2 h1,b,hb=>by
  simp only[Tm.re,Tm.res,up];simp only[show ¬((12:Int)=1) by decide,show ¬((12:Int)=2) by decide,show ¬((10:Int)=1) by decide,show ¬((10:Int)=2) by decide,if_false];exact .p2 (E8 hσ h1 b hb)
theorem Xj{σ σ':Int->Tm}(hσ:∀i c,0<=c->BU (Dr σ i c) (Dr σ' i c)):∀{xs ys:List Tm},DW xs ys->∀b:Int,0<=b->DW (xs.map (Tm.re (Dr σ) b)) (ys.map (Tm.re (Dr σ') b))
 |_,_,.nil,_,_=> .nil
 |_,_,.cons h hs,b,hb=> .cons (E8 hσ h b hb) (Xj hσ hs b hb)
end
theorem Zz0{t u:Tm}(h:BU t u)(n:Int)(hn:0<=n):BU (t.re (zl 0 n) 0) (u.re (zl 0 n) 0):=by
 rw[UK n hn,UK n hn];refine E8 (fun i c _=> ?_) h 0 (Int.le_refl _);exact BU.refl _
theorem Ygd{b b' a a':Tm}(hb:BU b b')(ha:BU a a'):BU (b.re (xd 0 a) 0) (b'.re (xd 0 a') 0):=by
 rw[Ya,Ya];refine E8 (fun i c hc=> ?_) hb 0 (Int.le_refl _);simp only[Dr,Rp];by_cases h:i<c
 ·rw[if_pos h,if_pos h];exact BU.refl _
 ·rw[if_neg h,if_neg h];by_cases h0:i-c=0
  ·rw[if_pos h0,if_pos h0];exact Zz0 ha c hc
  ·rw[if_neg h0,if_neg h0];exact BU.refl _
theorem Xy:∀(xs:List Tm),(∀x∈xs,∃w,∀u,BU x u->BU u w)->∃ws,∀ys,DW xs ys->DW ys ws
 |[],_=>⟨[],fun ys h=>by cases h;exact .nil⟩
 |x::l,h=>by
  obtain⟨w,hw⟩:=h x (by simp);obtain⟨ws,DX⟩:=Xy l fun y hy=>h y (by simp[hy]);exact⟨w::ws,fun ys hy=>by cases hy with|cons h1 h2=>exact .cons (hw _ h1) (DX _ h2)⟩
theorem K9{f f' x x':Tm}(hf:BU f f')(hx:BU x x'):BU (AO f x) (AO f' x'):= .node (.cons hf (.cons hx .nil))
theorem tri:∀(n:Nat) (t:Tm),t.size<=n->∃w,∀u,BU t u->BU u w:=by
 intro n;induction n with
 |zero=>intro t h;have:=t.size_pos;omega
 |succ n ih=>
 intro t ht;by_cases hr:∃u,RV t u
 ·obtain ⟨x0,hr⟩:=hr;cases hr with
  |beta i th j s b a=>
   simp only[Tm.size,Tm.sizes] at ht;obtain⟨wb,hb⟩:=ih b (by omega);obtain⟨wa,ha⟩:=ih a (by omega);refine⟨wb.re (xd 0 wa) 0,fun u hu=> ?_⟩;cases hu with
   |node hp=>
    cases hp with|cons h1 h2=>cases h2 with|cons h2 h3=>cases h3;cases h1 with|node h4=>cases h4 with|cons h4 h5=>cases h5;exact .beta (hb _ h4) (ha _ h2)
   |beta h1 h2=>exact Ygd (hb _ h1) (ha _ h2)
  |rz i th _ f j s=>
   simp only[Tm.size,Tm.sizes] at ht;obtain⟨wx,hx⟩:=ih x0 (by omega);refine⟨wx,fun u hu=> ?_⟩;cases hu with
   |node hp=>
    cases hp with|cons h1 h2=>cases h2 with|cons h2 h3=>cases h3 with|cons h3 h4=>cases h4;cases h3 with|node h5=>cases h5;exact .rz (hx _ h1)
   |rz h1=>exact hx _ h1
  |rs i th x f j s n=>
   simp only[Tm.size,Tm.sizes] at ht;obtain⟨wx,hx⟩:=ih x (by omega);obtain⟨wf,hf⟩:=ih f (by omega);obtain⟨wn,hn⟩:=ih n (by omega);refine⟨AO (AO wf wn) (.mk 6 0 th [wx,wf,wn]),fun u hu=> ?_⟩;cases hu with
   |node hp=>
    cases hp with|cons h1 h2=>cases h2 with|cons h2 h3=>cases h3 with|cons h3 h4=>cases h4;cases h3 with|node h5=>cases h5 with|cons h5 h6=>cases h6;exact .rs (hx _ h1) (hf _ h2) (hn _ h5)
   |rs h1 h2 h3=>exact K9 (K9 (hf _ h2) (hn _ h3)) (.node (.cons (hx _ h1) (.cons (hf _ h2) (.cons (hn _ h3) .nil))))
  |fz i th _ f j s=>
   simp only[Tm.size,Tm.sizes] at ht;obtain⟨wx,hx⟩:=ih x0 (by omega);refine⟨wx,fun u hu=> ?_⟩;cases hu with
   |node hp=>
    cases hp with|cons h1 h2=>cases h2 with|cons h2 h3=>cases h3 with|cons h3 h4=>cases h4;cases h3 with|node h5=>cases h5;exact .fz (hx _ h1)
   |fz h1=>exact hx _ h1
  |fs i th x f j s n l=>
   simp only[Tm.size,Tm.sizes] at ht;obtain⟨wx,hx⟩:=ih x (by omega);obtain⟨wf,hf⟩:=ih f (by omega);obtain⟨wn,hn⟩:=ih n (by omega);obtain⟨wl,hl⟩:=ih l (by omega);refine⟨AO (AO (AO wf wn) wl) (.mk 9 0 th [wx,wf,wl]),fun u hu=> ?_⟩;cases hu with
   |node hp=>
    cases hp with|cons h1 h2=>cases h2 with|cons h2 h3=>cases h3 with|cons h3 h4=>cases h4;cases h3 with|node h5=>cases h5 with|cons h5 h6=>cases h6 with|cons h6 h7=>cases h7;exact .fs (hx _ h1) (hf _ h2) (hn _ h5) (hl _ h6)
   |fs h1 h2 h3 h4=>exact K9 (K9 (K9 (hf _ h2) (hn _ h3)) (hl _ h4)) (.node (.cons (hx _ h1) (.cons (hf _ h2) (.cons (hl _ h4) .nil))))
  |p1 i th j s _ y=>
   simp only[Tm.size,Tm.sizes] at ht;obtain⟨wx,hx⟩:=ih x0 (by omega);refine⟨wx,fun u hu=> ?_⟩;cases hu with
   |node hp=>
    cases hp with|cons h1 h2=>cases h2;cases h1 with|node h5=>cases h5 with|cons h5 h6=>cases h6 with|cons h6 h7=>cases h7;exact .p1 (hx _ h5)
   |p1 h1=>exact hx _ h1
  |p2 i th j s x _=>
   simp only[Tm.size,Tm.sizes] at ht;obtain⟨wx,hx⟩:=ih x0 (by omega);refine⟨wx,fun u hu=> ?_⟩;cases hu with
   |node hp=>
    cases hp with|cons h1 h2=>cases h2;cases h1 with|node h5=>cases h5 with|cons h5 h6=>cases h6 with|cons h6 h7=>cases h7;exact .p2 (hx _ h6)
   |p2 h1=>exact hx _ h1
 ·obtain ⟨k,i,th,xs⟩:=t;have hz:=Tm.size_eq (.mk k i th xs);simp only[Tm.Ad] at hz;obtain⟨ws,DX⟩:=Xy xs fun x hx=>ih x (by have:=zc Tm.size hx;omega);refine⟨.mk k i th ws,fun u hu=> ?_⟩;cases hu with
  |node hp=>exact .node (DX _ hp)
  |beta=>exact absurd ⟨_,.beta ..⟩ hr
  |rz=>exact absurd ⟨_,.rz ..⟩ hr
  |rs=>exact absurd ⟨_,.rs ..⟩ hr
  |fz=>exact absurd ⟨_,.fz ..⟩ hr
  |fs=>exact absurd ⟨_,.fs ..⟩ hr
  |p1=>exact absurd ⟨_,.p1 ..⟩ hr
  |p2=>exact absurd ⟨_,.p2 ..⟩ hr
noncomputable def dev(t:Tm):Tm:=Classical.choose (tri _ t (Nat.le_refl _))
noncomputable def RI:Nat->Tm->Tm
 |0,t=>t
 |n+1,t=>RI n (dev t)
inductive Gx:Tm->Tm->Prop
 |refl (t:Tm):Gx t t
 |step {t s u:Tm} (h:BU t s) (hs:Gx s u):Gx t u
theorem Gx.trans{t s u:Tm}(h:Gx t s):Gx s u->Gx t u:=by
 induction h with
 |refl=>exact id
 |step h1 _ ih=>exact fun h=> .step h1 (ih h)
theorem Gx.one{t u:Tm}(h:BU t u):Gx t u:= .step h (.refl _)
def nf(t:Tm):Prop:=∀u,BU t u->u=t
mutual
theorem R3{room:Int}:∀{t u:Tm},BU t u->C3 room t=none->u=t
 |_,_,.node (k:=k) (i:=i) (h:=h) (xs:=xs) (ys:=ys) hp,hn=>by
  rw[Gz] at hn;by_cases hr:v7 (.mk k i h xs)=true
  ·rw[if_pos hr] at hn;cases hn
  ·rw[if_neg hr] at hn;simp only[Option.map_eq_none_iff,Tm.Ad] at hn;rw[Vq hp hn]
 |_,_,.beta ..,hn=>by rw[Gz] at hn;simp[v7,Tm.arg] at hn
 |_,_,.rz ..,hn=>by rw[Gz] at hn;simp[v7,Tm.arg] at hn
 |_,_,.rs ..,hn=>by rw[Gz] at hn;simp[v7,Tm.arg] at hn
 |_,_,.fz ..,hn=>by rw[Gz] at hn;simp[v7,Tm.arg] at hn
 |_,_,.fs ..,hn=>by rw[Gz] at hn;simp[v7,Tm.arg] at hn
 |_,_,.p1 ..,hn=>by rw[Gz] at hn;simp[v7,Tm.arg] at hn
 |_,_,.p2 ..,hn=>by rw[Gz] at hn;simp[v7,Tm.arg] at hn
theorem Vq{room:Int}:∀{xs ys:List Tm},DW xs ys->F1 room xs=none->ys=xs
 |_,_,.nil,_=>rfl
 |_,_,.cons (x:=x) (xs:=xs) h hs,hn=>by
  simp only[F1] at hn;cases hx:C3 room x with
  |some p=>rw[hx] at hn;cases hn
  |none=>
   rw[hx] at hn;simp only[Option.map_eq_none_iff] at hn;rw[R3 h hx,Vq hs hn]
end
def Eh:Nat->Tm->Nat->Tm×Int×Int
 |0,t,n=>match C3 (4096-t.size) t with
  |none=>(t,n,0)
  |some _=>(A0,0,5)
 |k+1,t,n=>match C3 (4096-t.size) t with
  |none=>(t,n,0)
  |some (x,true)=>Eh k x (n+1)
  |some (_,false)=>(A0,0,4)
def xz(t:Tm)(steps:Int):Tm×Int×Int:=
 if t.err≠0 then(A0,0,t.err) else if ¬(0<=steps/\steps<=65536)\/t.near=false then(A0,0,1) else Eh steps.toNat t 0
def Hv(a b:Tm)(steps:Int):Int:=
 if a.err≠0 then a.err else if b.err≠0 then b.err else if a=b then 0
 else if(xz a steps).2.2≠0 then(xz a steps).2.2 else if(xz b steps).2.2≠0 then(xz b steps).2.2
 else if(xz a steps).1=(xz b steps).1 then 0 else 11
theorem Sw{t u:Tm}(he:t.err=0)(h:C3 (4096-t.size) t=some (u,true)):u.err=0:=by
 obtain⟨h1,h2⟩:=vt he;obtain⟨h3,h4,_⟩:=WA _ t u h1 h;exact(Tm.Ae _).2 ⟨h3,by omega⟩
theorem RX:∀(k:Nat) (t:Tm) (n:Nat),t.err=0->(Eh k t n).2.2=0->Gx t (Eh k t n).1/\nf (Eh k t n).1/\(Eh k t n).1.err=0
 |0,t,n,he,h=>by
  simp only[Eh] at h ⊢;cases hx:C3 (4096-t.size) t with
  |none=>rw[hx] at h;exact⟨.refl _,fun u hu=>R3 hu hx,he⟩
  |some p=>rw[hx] at h;cases h
 |k+1,t,n,he,h=>by
  simp only[Eh] at h ⊢;cases hx:C3 (4096-t.size) t with
  |none=>rw[hx] at h;exact⟨.refl _,fun u hu=>R3 hu hx,he⟩
  |some p=>
   obtain⟨x,f⟩:=p;rw[hx] at h;cases f with
   |false=>cases h
   |true=>
    obtain⟨i1,i2,i3⟩:=RX k x (n+1) (Sw he hx) h;exact⟨.step (Yiv _ t x (vt he).1 hx) i1,i2,i3⟩
theorem U3(t:Tm)(steps:Int)(h:(xz t steps).2.2=0):(xz t steps).1.full<274877906944:=by
 unfold xz at h ⊢;by_cases he:t.err=0
 ·rw[if_neg (by simp[he])] at h ⊢;by_cases hc:¬(0<=steps/\steps<=65536)\/t.near=false
  ·rw[if_pos hc] at h;cases h
  ·rw[if_neg hc] at h ⊢;obtain⟨_,_,h3⟩:=RX _ _ _ he h;have:=z9 h3;omega
 ·rw[if_pos he] at h;exact absurd h he
def GC:List Tm->List Tm->Int
 |x::l,y::m=>if Hv x y 1000≠0 then Hv x y 1000 else GC l m
 |_,_=>0
mutual
def Gw:Fm->Fm->Int
 | .mk k ty ts xs,.mk k' ty' ts' xs'=>if k=k'/\ty=ty' then(if GC ts ts'≠0 then GC ts ts' else Hi xs xs') else 11
def Hi:List Fm->List Fm->Int
 |x::l,y::m=>if Gw x y≠0 then Gw x y else Hi l m
 |_,_=>0
end
theorem Yh9(f g:Fm):Gw f g=if f.kind=g.kind/\f.ty=g.ty then(if GC f.terms g.terms≠0 then GC f.terms g.terms else Hi f.args g.args) else 11:=by
 cases f;cases g;simp only[Gw];rfl
theorem VB:∀(l m:List Tm) (i:Nat) (hi:i<l.length) (hj:i<m.length),(∀j (h1:j<l.length) (h2:j<m.length),j<i->Hv l[j] m[j] 1000=0)->Hv l[i] m[i] 1000≠0->GC l m=Hv l[i] m[i] 1000
 |x::l,y::m,0,_,_,_,h=>by simp only[List.getElem_cons_zero] at h ⊢;simp only[GC];rw[if_pos h]
 |x::l,y::m,i+1,hi,hj,hn,h=>by
  have h0:=hn 0 (by simp) (by simp) (by omega);simp only[GC];rw[if_neg (by simpa using h0)];exact VB l m i (by simpa using hi) (by simpa using hj) (fun j h1 h2 hji=>by have:=hn (j+1) (by simpa using h1) (by simpa using h2) (by omega);simpa using this) (by simpa using h)
theorem Yd:∀(l m:List Tm),(∀j (h1:j<l.length) (h2:j<m.length),Hv l[j] m[j] 1000=0)->GC l m=0
 |[],_,_=>by simp only[GC]
 |_::_,[],_=>by simp only[GC]
 |x::l,y::m,hn=>by
  have h0:=hn 0 (by simp) (by simp);simp only[GC];rw[if_neg (by simpa using h0)];exact Yd l m fun j h1 h2=>by have:=hn (j+1) (by simpa using h1) (by simpa using h2);simpa using this
theorem V0:∀(l m:List Fm) (i:Nat) (hi:i<l.length) (hj:i<m.length),(∀j (h1:j<l.length) (h2:j<m.length),j<i->Gw l[j] m[j]=0)->Gw l[i] m[i]≠0->Hi l m=Gw l[i] m[i]
 |x::l,y::m,0,_,_,_,h=>by simp only[List.getElem_cons_zero] at h ⊢;simp only[Hi];rw[if_pos h]
 |x::l,y::m,i+1,hi,hj,hn,h=>by
  have h0:=hn 0 (by simp) (by simp) (by omega);simp only[Hi];rw[if_neg (by simpa using h0)];exact V0 l m i (by simpa using hi) (by simpa using hj) (fun j h1 h2 hji=>by have:=hn (j+1) (by simpa using h1) (by simpa using h2) (by omega);simpa using this) (by simpa using h)
theorem X4:∀(l m:List Fm),(∀j (h1:j<l.length) (h2:j<m.length),Gw l[j] m[j]=0)->Hi l m=0
 |[],_,_=>by simp only[Hi]
 |_::_,[],_=>by simp only[Hi]
 |x::l,y::m,hn=>by
  have h0:=hn 0 (by simp) (by simp);simp only[Hi];rw[if_neg (by simpa using h0)];exact X4 l m fun j h1 h2=>by have:=hn (j+1) (by simpa using h1) (by simpa using h2);simpa using this
def KZ(f g:Fm):Int:=if f.err≠0 then f.err else if g.err≠0 then g.err else Gw f g
@[simp] theorem Pf.Ah(k i:Int)(h:Ty)(ts:List Tm)(fs:List Fm)(as:List Pf):(Pf.mk k i h ts fs as).kind=k:=rfl
@[simp] theorem Pf.Ay(k i:Int)(h:Ty)(ts:List Tm)(fs:List Fm)(as:List Pf):(Pf.mk k i h ts fs as).index=i:=rfl
@[simp] theorem Pf.AL(k i:Int)(h:Ty)(ts:List Tm)(fs:List Fm)(as:List Pf):(Pf.mk k i h ts fs as).ty=h:=rfl
@[simp] theorem Pf.Ai(k i:Int)(h:Ty)(ts:List Tm)(fs:List Fm)(as:List Pf):(Pf.mk k i h ts fs as).terms=ts:=rfl
@[simp] theorem Pf.Ar(k i:Int)(h:Ty)(ts:List Tm)(fs:List Fm)(as:List Pf):(Pf.mk k i h ts fs as).Ac=fs:=rfl
@[simp] theorem Pf.Ad(k i:Int)(h:Ty)(ts:List Tm)(fs:List Fm)(as:List Pf):(Pf.mk k i h ts fs as).args=as:=rfl
structure Nd where
 terms:Nat
 Ac:Nat
 args:Nat
 index:Bool
 typ:Bool
def SW:Nd:=⟨0,0,0,false,false⟩
def BO(k:Int):Option Nd:=
 if k=1\/k=2 then some ⟨0,0,0,true,false⟩
 else if k=3\/k=7 then some ⟨0,0,2,false,false⟩
 else if k=4\/k=5\/k=20 then some ⟨0,0,1,false,false⟩
 else if k=6 then some ⟨0,1,1,false,false⟩
 else if k=8\/k=12 then some ⟨0,0,1,false,true⟩
 else if k=9\/k=13 then some ⟨1,0,1,false,false⟩
 else if k=10\/k=14 then some ⟨1,1,1,false,false⟩
 else if k=11\/k=15 then some ⟨0,0,2,false,false⟩
 else if k=16\/k=17 then some ⟨1,1,2,false,false⟩
 else if k=18 then some ⟨1,0,0,false,false⟩
 else if k=19 then some ⟨0,1,2,false,false⟩ else none
def Nd.view(n:Nd):List V:=[.i n.terms,.i n.Ac,.i n.args,.bool n.index,.bool n.typ]
def Pf.head(p:Pf):Bool:=match BO p.kind with
 |none=>false
 |some n=>p.terms.length==n.terms&&p.Ac.length==n.Ac&&p.args.length==n.args&&decide (0<=p.index)&&(n.index||p.index==0)&&(if n.typ=true then p.ty.ok else p.ty.BI)
mutual
def Pf.shape:Pf->Bool
 | .mk k i h ts fs as=>Pf.head (.mk k i h ts fs as)&&ts.all Tm.shape&&fs.all Fm.shape&&Pf.Bb as
def Pf.Bb:List Pf->Bool
 |[]=>true
 |f::l=>f.shape&&Pf.Bb l
end
mutual
def Pf.size:Pf->Nat
 | .mk _ _ _ ts fs as=>1+(ts.map Tm.size).sum+(fs.map Fm.size).sum+Pf.sizes as
def Pf.sizes:List Pf->Nat
 |[]=>0
 |f::l=>f.size+Pf.sizes l
end
mutual
def Pf.full:Pf->Nat
 | .mk _ _ h ts fs as=>1+h.size+(ts.map Tm.full).sum+(fs.map Fm.full).sum+Pf.Au as
def Pf.Au:List Pf->Nat
 |[]=>0
 |f::l=>f.full+Pf.Au l
end
mutual
def Pf.small:Pf->Bool
 | .mk _ _ _ ts fs as=>ts.all (fun t=>decide (t.size<=4096))&&fs.all (fun f=>decide (f.size<=4096))&&Pf.Al as
def Pf.Al:List Pf->Bool
 |[]=>true
 |f::l=>f.small&&Pf.Al l
end
theorem Pf.Bt:∀l:List Pf,Pf.Bb l=l.all Pf.shape
 |[]=>rfl
 |f::l=>by rw[Pf.Bb,Pf.Bt l];rfl
theorem Pf.BG:∀l:List Pf,Pf.sizes l=(l.map Pf.size).sum
 |[]=>rfl
 |f::l=>by rw[Pf.sizes,Pf.BG l];rfl
theorem Pf.B2:∀l:List Pf,Pf.Au l=(l.map Pf.full).sum
 |[]=>rfl
 |f::l=>by rw[Pf.Au,Pf.B2 l];rfl
theorem Pf.Ef:∀l:List Pf,Pf.Al l=l.all Pf.small
 |[]=>rfl
 |f::l=>by rw[Pf.Al,Pf.Ef l];rfl
theorem Pf.Ak(p:Pf):p.shape=(p.head&&p.terms.all Tm.shape&&p.Ac.all Fm.shape&&p.args.all Pf.shape):=by cases p;simp only[Pf.shape,Pf.Bt];rfl
theorem Pf.size_eq(p:Pf):p.size=1+(p.terms.map Tm.size).sum+(p.Ac.map Fm.size).sum+(p.args.map Pf.size).sum:=by cases p;simp only[Pf.size,Pf.BG];rfl
theorem Pf.Ag(p:Pf):p.full=1+p.ty.size+(p.terms.map Tm.full).sum+(p.Ac.map Fm.full).sum+(p.args.map Pf.full).sum:=by cases p;simp only[Pf.full,Pf.B2];rfl
theorem Pf.BZ(p:Pf):p.small=(p.terms.all (fun t=>decide (t.size<=4096))&&p.Ac.all (fun f=>decide (f.size<=4096))&&p.args.all Pf.small):=by cases p;simp only[Pf.small,Pf.Ef];rfl
theorem Pf.Aa(p:Pf):1<=p.full:=by rw[Pf.Ag];omega
theorem Pf.size_pos(p:Pf):1<=p.size:=by rw[Pf.size_eq];omega
theorem Pf.ind{P:Pf->Prop}(h:∀f,(∀x∈f.args,P x)->P f)(f:Pf):P f:=by
 have:∀n,∀f:Pf,f.full<=n->P f:=by
  intro n;induction n with
  |zero=>intro f h;have:=f.Aa;omega
  |succ n ih=>
   intro f hf;refine h f fun x hx=>ih x ?_;have:=zc Pf.full hx;have:=f.Ag;omega
 exact this _ f (Nat.le_refl _)
theorem Pf.Aj(p:Pf):p.size<=p.full:=by
 induction p using Pf.ind with
 |h p ih=>
  rw[p.size_eq,p.Ag];have h1:=y0 (f:=Pf.size) (g:=Pf.full) p.args ih;have h2:=y0 (f:=Tm.size) (g:=Tm.full) p.terms fun x _=>x.Aj;have h3:=y0 (f:=Fm.size) (g:=Fm.full) p.Ac fun x _=>x.Aj;omega
def Pf.err(p:Pf):Int:=if p.shape=false then 2 else if p.small=false\/p.size>16384 then 4 else 0
theorem Pf.Ae(p:Pf):p.err=0↔p.shape=true/\p.small=true/\p.size<=16384:=by
 unfold Pf.err;cases hs:p.shape with
 |false=>simp
 |true=>
  cases hm:p.small with
  |false=>simp
  |true=>
   by_cases h:p.size>16384
   ·rw[if_neg (by simp),if_pos (.inr h)];constructor
    ·intro h;cases h
    ·rintro ⟨_,_,h2⟩;omega
   ·rw[if_neg (by simp),if_neg (by simp;omega)];exact⟨fun _=>⟨rfl,rfl,by omega⟩,fun _=>rfl⟩
def Bc:Pf:= .mk 0 0 (.mk 0 []) [] [] []
def xe(t:Tm):Pf:= .mk 18 0 (.mk 0 []) [t] [] []
theorem Zv8{f g:Fm}(hf:f.shape=true)(hg:g.shape=true)(hk:f.kind=g.kind):f.terms.length=g.terms.length/\f.args.length=g.args.length:=by
 rw[Fm.Ak,Bool.and_eq_true,Bool.and_eq_true] at hf hg;have h1:=hf.1.1;have h2:=hg.1.1;unfold Fm.head at h1 h2;rw[<-hk] at h2;by_cases k1:f.kind=1
 ·rw[if_pos k1] at h1 h2;simp only[Bool.and_eq_true,beq_iff_eq] at h1 h2;omega
 rw[if_neg k1] at h1 h2;by_cases k2:f.kind=2\/f.kind=3
 ·rw[if_pos k2] at h1 h2;simp only[Bool.and_eq_true,beq_iff_eq] at h1 h2;omega
 rw[if_neg k2] at h1 h2;by_cases k4:f.kind=4\/f.kind=5\/f.kind=6\/f.kind=7
 ·rw[if_pos k4] at h1 h2;simp only[Bool.and_eq_true,beq_iff_eq] at h1 h2;omega
 rw[if_neg k4] at h1;cases h1
end Go.Ab
