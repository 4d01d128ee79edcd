/- A part of this seat's proofs. No conditions. -/
import Derived.Test.YtmhcohcihajegaaGreatDoorCAT1
import Derived.Test.YtmhcohcihajegaaGreatDoorCD1
namespace Go.Ab
open Go
set_option linter.all false
theorem Zx{k:Int}:∀{l:List Int},k∉l->Hu k l=none
 |[],_=>rfl
 |x::l,h=>by
  simp only[fW,not_or] at h;have h1:¬x=k:=fun e=>h.1 e.symm;simp only[Hu,if_neg h1,Zx h.2,jh]
theorem Zu{k:Int}:∀{l:List Int},k∈l->∃i,Hu k l=some i
 |[],h=>kM
 |x::l,h=>by
  by_cases hx:x=k
  .exact ⟨0,by simp[Hu,hx]⟩
  .obtain ⟨i,hi⟩:=Zu (l:=l) (by rcases fW.1 h with h|h;exact absurd h.symm hx;exact h);exact⟨i+1,by simp[Hu,hx,hi]⟩
theorem V1(k:Int)(ks:List Int):El k ks=if k∈ks then ks else ks++[k]:=by
 by_cases h:k∈ks
 .obtain ⟨i,hi⟩:=Zu h;rw[if_pos h,El,hi]
 .rw[if_neg h,El,Zx h]
variable{ks:List Int}{x:Int}
theorem Ycj{k:Int}:x∈El k ks↔x∈ks\/x=k:=by
 rw[V1]
 grind
theorem Zty{k:Int}(h:ks.Nodup):(El k ks).Nodup:=by
 rw[V1]
 grind
theorem Vy(k:Int)(ks:List Int)(b:Bool):HP k ks (List.replicate ks.length b) b=List.replicate (El k ks).length b:=by
 unfold HP El;split
 .simp
 .rw[ga,<-List.replicate_append_replicate];rfl
def CZ(acc l:List Int):List Int:=l.foldl (fun ks k=>El k ks) acc
variable(acc:List Int)
theorem R1(l l':List Int):CZ acc (l++l')=CZ (CZ acc l) l':=jM
theorem Rz:CZ acc []=acc:=rfl
theorem Zz(k:Int):CZ acc [k]=El k acc:=rfl
theorem Ri{x:Int}:∀{l acc:List Int},x∈CZ acc l↔x∈acc\/x∈l
 |[],acc=>by simp[CZ]
 |k::l,acc=>by
  show x∈CZ (El k acc) l↔_;rw[Ri,Ycj,fW,or_assoc]
theorem Ng:∀{l acc:List Int},acc.Nodup->(CZ acc l).Nodup
 |[],acc,h=>h
 |k::l,acc,h=>Ng (l:=l) (Zty h)
theorem R4:∀(l acc:List Int),(CZ acc l).length<=acc.length+l.length
 |[],acc=>by simp[CZ]
 |k::l,acc=>by
  have h1:=R4 l (El k acc);have h2:(El k acc).length<=acc.length+1:=by rw[V1];grind
  show(CZ (El k acc) l).length<=_
  grind
def D4(l:List (Int×Int)):List Int:=l.filterMap fun p=>if p.2<=p.1 then some (p.1-p.2) else none
variable(l:List (Int×Int))
theorem W8(l':List (Int×Int)):D4 (l++l')=D4 l++D4 l':=List.filterMap_append
theorem Zt:D4 []=[]:=rfl
theorem aA(i b:Int):D4 [(i,b)]=if b<=i then [i-b] else []:=by
 by_cases h:b<=i
 .simp[D4,h]
 .simp[D4,h]
theorem Yld:(D4 l).length<=l.length:=List.length_filterMap_le _ _
theorem Ymj{l:List (Int×Int)}:x∈D4 l↔0<=x/\∃p∈l,p.1-p.2=x:=by
 simp only[D4,ji]
 grind
theorem BB{x:Int}:∀{l:List (Int×Int)},(∃p∈l,p.1-p.2=x)↔cnt x l≠0
 |[]=>by simp[cnt]
 |p::l=>by
  have ih:=BB (x:=x) (l:=l);rw[show p::l=[p]++l from rfl,xy,vx]
  grind
def K1(t:Tm):List Int:=CZ [] (D4 (t.vars 0))
def JO(t:Tm):List Int:=x8 (K1 t)
theorem dw(t:Tm):(K1 t).Nodup:=Ng jm
variable{t:Tm}
theorem Ygn:x∈K1 t↔0<=x/\cnt x (t.vars 0)≠0:=by rw[K1,Ri,Ymj,BB];simp
theorem Ye5(t:Tm):(K1 t).length<=t.size:=by
 have h1:=R4 (D4 (t.vars 0)) [];have h2:=Yld (t.vars 0);have h3:=t.Db 0;simp only[K1,gB] at*;omega
variable(l:List Int)
theorem ue:(x8 l).Perm l:=List.mergeSort_perm l _
theorem N8:(x8 l).Pairwise (·<=·):=by
 have h:=List.pairwise_mergeSort (le:=fun x y:Int=>decide (x<=y)) (fun a b c h1 h2=>kr) (fun a b=>kr) l;exact h.imp fun h=>kr
variable{l' l:List Int}
theorem ck(hp:l.Perm l')(h:l.Pairwise (·<=·))(h':l'.Pairwise (·<=·)):l=l':=
 hp.eq_of_pairwise (le:=(·<=·)) (fun a b _ _ h1 h2=>kn) h h'
theorem Zot(hp:l.Perm l'):x8 l=x8 l':=
 ck ((ue l).trans (hp.trans (ue l').symm)) (N8 l) (N8 l')
theorem BR:x∈JO t↔0<=x/\cnt x (t.vars 0)≠0:=by rw[JO,(ue _).mem_iff,Ygn]
theorem Ztf(t:Tm):(JO t).Nodup:=(ue _).nodup_iff.2 (dw t)
theorem Yg7{x y:Tm}(hx:x.shape=true)(hy:y.shape=true){j:Int}(hj:0<=j):
 j∈JO (x.re (yq 0 y) 0)↔(j+1∈JO x\/(0∈JO x/\j∈JO y)):=by
 rw[BR,BR,BR,BR,<-BB,<-BB,<-BB,<-BB,Mv _ _ _ hx];have key:∀p∈x.vars 0,p.1-p.2=0->((∃q∈(yq 0 y p.1 p.2).vars p.2,q.1-q.2=j)↔∃q∈y.vars 0,q.1-q.2=j):=fun p hp h=>by
  have h1:=yw x 0 p hp;rw[xt,if_pos h,BB,BB,gL,MI,Ki _ _ _ _ hy,P9 (a':=j)];omega
 have key2:∀p∈x.vars 0,¬p.1-p.2=0->((∃q∈(yq 0 y p.1 p.2).vars p.2,q.1-q.2=j)↔p.1-p.2=j+1):=fun p hp h=>by
  rw[xt,if_neg h,Zip];simp only[gp,exists_eq_left];omega
 constructor
 .grind
 .rintro (⟨_,p,hp,h⟩|⟨⟨_,p,hp,h⟩,_,h1⟩)
  .obtain ⟨q,hq,h2⟩:=(key2 p hp kn).2 h
   grind
  .obtain ⟨q,hq,h2⟩:=(key p hp h).2 h1
   grind
def DN(l:List Int)(n:Int)(i:Nat):List Int:=l.take i++(l.getD i n::l.drop i)
def Me(l:List Int)(n:Int)(i:Nat):List Int:=l.take i++n::l.drop i
theorem Yg0(l:List Int)(n:Int):DN l n l.length=l++[n]:=by simp[DN]
variable{i:Nat}{n:Int}
theorem Yf0(h:i<=l.length):(DN l n i).length=l.length+1:=by simp[DN];omega
theorem Yli(h:i<l.length)(h':i<(DN l n (i+1)).length):(DN l n (i+1))[i]=l[i]:=by
 simp only[DN]
 grind
theorem Ycd(h:i<l.length):(DN l n (i+1)).set (i+1) l[i]=DN l n i:=by
 have h1:(l.take (i+1)).length=i+1:=kr
 simp only[DN];have e:l.take (i+1)=l.take i++[l[i]]:=ko
 rw[List.set_append_right (h:=by omega),h1,jd,iP,e,fK,List.singleton_append,<-jJ h]
 grind
theorem Yax(h:i<=l.length):(DN l n i).set i n=Me l n i:=by
 have h1:(l.take i).length=i:=kr
 simp only[DN,Me];simp_all
theorem Yei(l:List Int)(n:Int)(i:Nat):(Me l n i).Perm (n::l):=by
 have h1:(Me l n i).Perm (n::(l.take i++l.drop i)):=List.perm_middle;simp_all
theorem Zt7(hs:l.Pairwise (·<=·))(h:∀x∈l.drop i,n<x)(h':∀(hi:0<i) (hl:i-1<l.length),l[i-1]<=n)(hil:i<=l.length):(Me l n i).Pairwise (·<=·):=by
 have hs':=hs;rw[<-List.take_append_drop i l,kg] at hs;obtain⟨h1,h2,h3⟩:=hs;have ht:∀x∈l.take i,x<=n:=fun x hx=>by
  obtain⟨j,hj,hx2⟩:=jx.1 hx;have hj2:j<i:=kr
  rw[List.getElem_take] at hx2;have h4:=h' kn kn;rcases jk j (i-1) with h5|h5
  .have:=jI.1 hs' j (i-1) kn kn h5;omega
  grind
 rw[Me,kg];refine⟨h1,List.pairwise_cons.2 ⟨fun x hx=>kr,h2⟩,fun x hx y hy=> ?_⟩
 grind
theorem Yda{d:List Int}(h:∀x∈(x8 d).drop i,n<x)(h':∀(hi:0<i) (hl:i-1<(x8 d).length),(x8 d)[i-1]<=n)(hil:i<=(x8 d).length):Me (x8 d) n i=x8 (d++[n]):=by
 refine ck ?_ (Zt7 (N8 d) h h' hil) (N8 _);refine((Yei _ _ _).trans ((ue d).cons n)).trans (?_:(n::d).Perm _);exact((List.perm_append_comm (l₁:=[n]) (l₂:=d)).trans (ue _).symm)
theorem dY(d:List Int):(x8 d).length=d.length:=(ue d).length_eq
theorem Qg:x8 []=[]:=List.mergeSort_nil
theorem dK:∀{l ks:List Int},l.Nodup->(∀x∈l,x∈ks)->l.length<=ks.length
 |[],_,_,_=>iH _
 |x::l,ks,hn,h=>by
  obtain⟨h1,h2⟩:=List.nodup_cons.1 hn;have h3:=h x ko;have h4:=dK (l:=l) (ks:=ks.erase x) h2 fun y hy=>(List.mem_erase_of_ne (fun e:y=x=>h1 kr)).2 (h y kr)
  grind
variable{C:Int}
theorem RA(hs:t.shape=true){fr by_:Int}(hb:0<=by_)(hC:∀p∈t.vars 0,p.1<=C):∀p∈(t.re (zi fr by_) 0).vars 0,p.1<=C+by_:=fun p hp=>by
 rw[Ki _ _ _ _ hs] at hp
 grind
theorem Yfq(hC:∀p∈t.vars 0,p.1<=1000000):t.near=true:=fF.2 fun p hp=>by
 grind
theorem Yek(t:Tm)(a n m:Int)(hn:0<=n):(t.re (zi a n) 0).re (zi a m) 0=t.re (zi a (n+m)) 0:=by
 rw[Bz];refine Ax t 0 fun p hp=> ?_;simp only[z5,wh]
 grind
theorem ZH(hs:t.shape=true)(a:Int)(s:Tm):(t.re (zi a 1) 0).re (yq a s) 0=t:=by
 rw[Bz];refine Cc t 0 hs fun p hp=> ?_;simp only[z5,wh,xt]
 grind
theorem cnt_lifted(hs:t.shape=true)(a:Int):cnt a ((t.re (zi a 1) 0).vars 0)=0:=by
 rw[Ki _ _ _ _ hs];have:∀l:List (Int×Int),cnt a (l.map fun p=>(if p.1-p.2>=a then p.1+1 else p.1,p.2))=0:=by
  exact ry
 grind
def Fm.As(f:Fm)(fr by_:Int):Fm:=f.re (fun b t=>t.re (zi (fr+b) by_) 0) 0
theorem Ut{f:Fm}(h:f.shape=true):
 (f.kind=1/\f.args=[])\/((f.kind=2\/f.kind=3)/\f.terms=[])\/((f.kind=4\/f.kind=5\/f.kind=6\/f.kind=7)/\f.terms=[]/\f.ty.err=0):=by
 rw[Fm.Ak,fD,fD] at h;have h1:=h.1.1;unfold Fm.head at h1;by_cases h2:f.kind=1
 .rw[if_pos h2] at h1;simp only[fD,beq_iff_eq,ir] at h1;exact .inl ⟨h2,h1.2⟩
 rw[if_neg h2] at h1;by_cases h3:f.kind=2\/f.kind=3
 .rw[if_pos h3] at h1;simp only[fD,beq_iff_eq,ir] at h1;exact .inr (.inl ⟨h3,h1.1.2⟩)
 rw[if_neg h3] at h1;by_cases h4:f.kind=4\/f.kind=5\/f.kind=6\/f.kind=7
 .rw[if_pos h4] at h1;simp only[fD,beq_iff_eq,ir] at h1;refine .inr (.inr ⟨h4,h1.1.2,(Ty.Aa f.ty).2 ?_⟩);have:=h1.1.1;simp only[Ty.ok,fD,decide_eq_true_eq] at this;exact this
 rw[if_neg h4] at h1;cases h1
theorem Ztd{f:Fm}(hs:∀p∈f.A6 0,p.1.shape=true)(a:Int)(s:Tm):(f.As a 1).put a s=f:=by
 rw[Fm.put,Fm.As,Fm.Bz];refine Fm.Cc f 0 fun p hp=> ?_;exact ZH (hs p hp) (a+p.2) s
theorem cntF_lifted{f:Fm}(hs:∀p∈f.A6 0,p.1.shape=true)(a:Int):ud a ((f.As a 1).A6 0)=0:=by
 rw[Fm.As,QO];have:∀l:List (Tm×Int),(∀p∈l,p.1.shape=true)->ud a (l.map fun p=>(p.1.re (zi (a+p.2) 1) 0,p.2))=0:=by
  intro l;induction l with
  |nil=>intro _;rfl
  |cons p l ih=>
   intro h;simp only[fJ,ud];rw[show ud a (l.map fun p=>(p.1.re (zi (a+p.2) 1) 0,p.2))=0 from ih fun q hq=>h q kr];rw[cnt_lifted (h p ko)]
 grind
theorem Rx{α:Type}{f g:α->Nat}{l:List α}(h:∀x∈l,f x=g x):(l.map f).sum=(l.map g).sum:=by rw[fY h]
theorem Yfe{G:Int->Tm->Tm}(hG:∀b t,t.shape=true->(G b t).shape=true/\(G b t).size=t.size/\(G b t).full=t.full)(f:Fm):∀b,f.shape=true->(f.re G b).shape=true/\(f.re G b).size=f.size/\(f.re G b).full=f.full:=by
 induction f using Fm.ind with
 |h f ih=>
  intro b hf;have h0:=hf;rw[Fm.Ak,fD,fD] at h0;obtain⟨⟨h1,h2⟩,h3⟩:=h0;rw[Fm.A4];refine⟨?_,?_,?_⟩
  .rw[Fm.Ak,fD,fD];refine⟨⟨?_,?_⟩,?_⟩
   .exact rD
   all_goals simp_all
  .rw[Fm.size_eq,f.size_eq];simp only[Fm.Am,Fm.Af,gK];rw[Rx (f:=Tm.size∘G b) (g:=Tm.size) fun x hx=>(hG b x (fF.1 h2 x hx)).2.1,Rx (f:=Fm.size∘Fm.re G (A3 f.kind b)) (g:=Fm.size) fun x hx=>(ih x hx _ (fF.1 h3 x hx)).2.1]
  .rw[Fm.Ag,f.Ag];simp only[Fm.Am,Fm.Af,Fm.AO,gK];rw[Rx (f:=Tm.full∘G b) (g:=Tm.full) fun x hx=>(hG b x (fF.1 h2 x hx)).2.2,Rx (f:=Fm.full∘Fm.re G (A3 f.kind b)) (g:=Fm.full) fun x hx=>(ih x hx _ (fF.1 h3 x hx)).2.2]
theorem yt{f:Fm}(hf:f.shape=true){fr by_:Int}(hb:0<=by_):(f.As fr by_).shape=true/\(f.As fr by_).size=f.size/\(f.As fr by_).full=f.full:=
 Yfe (fun b t ht=>⟨y6 0 ht hb,NL _ _ t 0 ht,LA _ _ t 0 ht⟩) f 0 hf
theorem Yfv(g m:List Ty)(fr:Int)(f:Fm):∀(h:List Ty) (b:Int),(h.length:Int)=fr+b->f.shape=true->f.A9 (g++h)->
 (f.re (fun b t=>t.re (zi (fr+b) m.length) 0) b).A9 (g++m++h):=by
 induction f using Fm.ind with
 |h f ih=>
  intro h b hb hf hok;rw[Fm.A8] at hok;rw[Fm.A4,Fm.A8];simp only[Fm.Am,Fm.Af];refine⟨fun y hy=> ?_,fun y hy=> ?_⟩
  .obtain ⟨x,hx,rfl⟩:=fO.1 hy;rw[Qy x g m h (fr+b) 0 (yi hf hx) kn]
   grind
  .obtain ⟨x,hx,rfl⟩:=fO.1 hy;have h1:=hok.2 x hx;by_cases hq:wc f.kind=true
   .rw[Jg hq] at h1;rw[show ∀ts fs,C6 (g++m++h) (Fm.mk f.kind f.ty ts fs)=g++m++h++[f.ty] from fun ts fs=>Jg (f:=Fm.mk f.kind f.ty ts fs) hq];have e:A3 f.kind b=b+1:=if_pos hq;rw[e,fK (g++m)];rw[fK] at h1;exact ih x hx (h++[f.ty]) (b+1) kr (zp hf hx) h1
   .rw[II hq] at h1;rw[show ∀ts fs,C6 (g++m++h) (Fm.mk f.kind f.ty ts fs)=g++m++h from fun ts fs=>II (f:=Fm.mk f.kind f.ty ts fs) hq];have e:A3 f.kind b=b:=if_neg hq;rw[e];exact ih x hx h b hb (zp hf hx) h1
theorem Yj9{f:Fm}(hs:f.shape=true){fr by_:Int}(hb:0<=by_)(hC:∀p∈f.A6 0,∀q∈p.1.vars 0,q.1<=C):∀p∈(f.As fr by_).A6 0,∀q∈p.1.vars 0,0<=q.1/\q.1<=C+by_:=by
 intro p hp q hq;rw[Fm.As,QO] at hp;obtain⟨r,hr,rfl⟩:=fO.1 hp;have h1:=xj f hs 0 r hr;exact⟨Tm.AR _ (y6 0 h1 hb) 0 q hq,RA h1 hb (hC r hr) q hq⟩
theorem Uy{f:Fm}(hC:C<=1000000)(h:∀p∈f.A6 0,∀q∈p.1.vars 0,0<=q.1/\q.1<=C):f.near=true:=
 fF.2 fun p hp=>Yfq fun q hq=>kr
theorem JW{f:Fm}(he:f.err=0){fr by_:Int}(hb:0<=by_):(f.As fr by_).err=0:=by
 have h1:=(Fm.Aa f).1 he;obtain⟨h2,h3,_⟩:=yt h1.1 (fr:=fr) hb;exact(Fm.Aa _).2 ⟨h2,kn⟩
theorem Ymq{f:Fm}(h:ED 2 f):f.err=0:=(Fm.Aa f).2 ⟨h.1,by have:=h.2.1;omega⟩
end Go.Ab
namespace Go.Ab
set_option linter.all false
variable{T th:Ty}{i:Int}
theorem Rk{k:Int}{xs:List Tm}{g:List Ty}(k1:k≠1)(k2:k≠2)(h:(Tm.mk k i th xs).inf g=(T,0)):
 (∀x∈xs,x.inf g=((x.inf g).1,0))/\Cd k th (xs.map fun x=>(x.inf g).1)=(T,0):=by
 obtain⟨h1,h2⟩:=Jk (t:=Tm.mk k i th xs) k1 k2 h;exact⟨fun x hx=>by rw[<-h1 x hx],h2⟩
variable{n x:Tm}
theorem dS{f:Tm}{g:List Ty}(h:(Tm.mk 6 i th [x,f,n]).inf g=(T,0)):
 T=th/\x.inf g=(th,0)/\f.inf g=(xx Ac (xx th th),0)/\n.inf g=(Ac,0):=by
 obtain⟨h1,h2⟩:=Rk kq kq h;have hx:=h1 x ko;have hf:=h1 f ko;have hn:=h1 n ko;simp only[Cd,fJ,fU,OD,Q3,Zp,reduceIte,Int.reduceEq] at h2
 grind
theorem eT{f:Tm}{g:List Ty}(h:(Tm.mk 9 i th [x,f,n]).inf g=(T,0)):
 T=th/\x.inf g=(th,0)/\f.inf g=(xx Ac (xx Al (xx th th)),0)/\n.inf g=(Al,0):=by
 obtain⟨h1,h2⟩:=Rk kq kq h;have hx:=h1 x ko;have hf:=h1 f ko;have hn:=h1 n ko;simp only[Cd,fJ,fU,OD,Q3,Zp,reduceIte,Int.reduceEq] at h2
 grind
theorem dn{g:List Ty}(h:(Tm.mk 5 i th [x]).inf g=(T,0)):T=Ac/\x.inf g=(Ac,0):=by
 obtain⟨h1,h2⟩:=Rk kq kq h;have hx:=h1 x ko;simp only[Cd,fJ,fU,OD,reduceIte,Int.reduceEq] at h2
 grind
theorem ZV{y:Tm}{g:List Ty}(h:(Tm.mk 8 i th [x,y]).inf g=(T,0)):T=Al/\x.inf g=(Ac,0)/\y.inf g=(Al,0):=by
 obtain⟨h1,h2⟩:=Rk kq kq h;have hx:=h1 x ko;have hy:=h1 y ko;simp only[Cd,fJ,fU,OD,Q3,reduceIte,Int.reduceEq] at h2
 grind
theorem NP{f:Tm}{a b:Ty}{g:List Ty}(hf:f.inf g=(xx a b,0))(hx:x.inf g=(a,0)):(AE f x).inf g=(b,0):=Le hf hx
theorem Yay{f:Tm}{g:List Ty}(hx:x.inf g=(th,0))(hf:f.inf g=(xx Ac (xx th th),0))(hn:n.inf g=(Ac,0))(i:Int):(Tm.mk 6 i th [x,f,n]).inf g=(th,0):=by
 rw[Tm.Ba];simp[Tm.A1,hx,hf,hn,Cd]
theorem Zyi{f:Tm}{g:List Ty}(hx:x.inf g=(th,0))(hf:f.inf g=(xx Ac (xx Al (xx th th)),0))(hn:n.inf g=(Al,0))(i:Int):(Tm.mk 9 i th [x,f,n]).inf g=(th,0):=by
 rw[Tm.Ba];simp[Tm.A1,hx,hf,hn,Cd]
theorem Yqp{t u:Tm}(hv:RV t u){g:List Ty}(hs:t.shape=true)(h:t.inf g=(T,0)):u.inf g=(T,0):=by
 cases hv with
 |beta i th j s b a=>
  have hb:b.shape=true:=zd (zd hs (.mk 2 j s [b]) ko) b ko;have ha:a.shape=true:=zd hs a ko;obtain⟨h1,h2⟩:=Jk ko ko h;have hf:(Tm.mk 2 j s [b]).inf g=(((Tm.mk 2 j s [b]).inf g).1,0):=by rw[<-h1 (.mk 2 j s [b]) ko]
  obtain⟨h3,h4⟩:=Su hf;have ha0:=h1 a ko;simp only[Tm.Ai,Tm.AO,Tm.Af,fJ,fU,h4] at h2;have h5:s=(a.inf g).1/\(b.inf (g++[s])).1=T:=by
   simp only[Cd,BI,hO,iG,dA,Y5] at h2
   grind
  have hσ:a.inf g=(s,0):=kr
  have hp:=WG b a g [] s 0 0 hb ha rfl hσ
  grind
 |rz i th x f j s=>obtain⟨rfl,h1,_⟩:=dS h;exact h1
 |fz i th x f j s=>obtain⟨rfl,h1,_⟩:=eT h;exact h1
 |rs i th x f j s n=>
  obtain⟨rfl,h1,h2,h3⟩:=dS h;obtain⟨_,h4⟩:=dn h3;exact NP (NP h2 h4) (Yay h1 h2 h4 0)
 |fs i th x f j s n l=>
  obtain⟨rfl,h1,h2,h3⟩:=eT h;obtain⟨_,h4,h5⟩:=ZV h3;exact NP (NP (NP h2 h4) h5) (Zyi h1 h2 h5 0)
 |p1 i th j s _ y=>
  obtain⟨h1,h2⟩:=Jk ko ko h;have hf:(Tm.mk 10 j s [u,y]).inf g=(((Tm.mk 10 j s [u,y]).inf g).1,0):=by rw[<-h1 (.mk 10 j s [u,y]) ko]
  obtain⟨h3,h4,h5⟩:=Ud hf;simp only[Tm.Ai,Tm.AO,Tm.Af,fJ,fU,h5] at h2;simp[Cd,BI] at h2
  grind
 |p2 i th j s y _=>
  obtain⟨h1,h2⟩:=Jk ko ko h;have hf:(Tm.mk 10 j s [y,u]).inf g=(((Tm.mk 10 j s [y,u]).inf g).1,0):=by rw[<-h1 (.mk 10 j s [y,u]) ko]
  obtain⟨h3,h4,h5⟩:=Ud hf;simp only[Tm.Ai,Tm.AO,Tm.Af,fJ,fU,h5] at h2;simp[Cd,BI] at h2
  grind
theorem Yo6(room:Int)(t:Tm):∀(g:List Ty) (T:Ty) (u:Tm),t.shape=true->t.inf g=(T,0)->Dy room t=some (u,true)->u.inf g=(T,0):=by
 induction t using Tm.ind with
 |h t ih=>
  intro g T u hs h hn;rw[Ii] at hn;by_cases hr:vw t=true
  .rw[if_pos hr] at hn;split at hn
   .cases hn
   .cases hn;exact Yqp (NF hs hr) hs h
  .rw[if_neg hr,fE] at hn;obtain⟨q,h1,h2⟩:=hn;obtain⟨m,hm,v,h3,h4⟩:=SB _ _ _ h1;have e2:=congrArg Prod.snd h2;have e1:=congrArg Prod.fst h2;simp only at e1 e2;rw[e2] at h3;rw[<-e1,h4];have hargs:=zd hs;have hx:=hargs _ (fA hm);have hmem:=fA hm;by_cases k1:t.kind=1
   .exact absurd (KI hs k1) (fun hh=>kr)
   .have key:∀g' T',(t.args[m]).inf g'=(T',0)->v.inf g'=(T',0):=fun g' T' hi=>ih _ hmem g' T' v hx hi h3;by_cases k2:t.kind=2
    .obtain ⟨i,th,b,rfl,hb⟩:=Hp hs k2 rfl;obtain⟨h5,h6⟩:=Su h;have hm0:m=0:=by simp at hm;omega
     subst hm0;simp only[Tm.Af,fM] at*;have q1:=key (g++[th]) (b.inf (g++[th])).1 kr;have:v.inf (g++[th])=b.inf (g++[th]):=kr
     rw[<-h];simp only[iP,Tm.Ai,Tm.AO,Tm.AG];exact dM this
    .obtain ⟨h5,h6⟩:=Jk k1 k2 h;have h7:=h5 _ hmem;have q1:=key g (t.args[m].inf g).1 kr;have hi:v.inf g=(t.args[m]).inf g:=kr
     rw[<-h,Tm.Ba g (Tm.mk t.kind t.index t.ty (t.args.set m v)),if_neg (show ¬(Tm.mk t.kind t.index t.ty (t.args.set m v)).kind=1 from k1),if_neg (show ¬(Tm.mk t.kind t.index t.ty (t.args.set m v)).kind=2 from k2),t.Ba,if_neg k1,if_neg k2];show(if(Tm.A1 g (t.args.set m v)).2≠0 then(BH,(Tm.A1 g (t.args.set m v)).2) else Cd t.kind t.ty (Tm.A1 g (t.args.set m v)).1)=_;rw[Ru g v t.args m hm hi]
theorem Xj:∀(k:Nat) (t:Tm) (n:Nat) (g:List Ty) (T:Ty),t.err=0->t.inf g=(T,0)->(Dv k t n).2.2=0->(Dv k t n).1.inf g=(T,0)
 |0,t,n,g,T,he,hi,h=>by
  simp only[Dv] at h ⊢
  grind
 |k+1,t,n,g,T,he,hi,h=>by
  simp only[Dv] at h ⊢;cases hx:Dy (4096-t.size) t with
  |none=>exact hi
  |some p=>
   obtain⟨x,f⟩:=p;rw[hx] at h;cases f with
   |false=>cases h
   |true=>exact Xj k x (n+1) g T (UE he hx) (Yo6 _ t g T x (I8 he).1 hi hx) h
theorem Kn{t:Tm}{steps:Int}(h:(yv t steps).2.2=0):t.err=0/\(yv t steps).1.err=0/\BE t (yv t steps).1/\nf (yv t steps).1/\∀g T,t.inf g=(T,0)->(yv t steps).1.inf g=(T,0):=by
 unfold yv at h ⊢;by_cases h1:t.err≠0
 .grind
 .rw[if_neg h1] at h ⊢;have h1':t.err=0:=fC.1 h1;by_cases h2:¬(0<=steps/\steps<=65536)\/t.near=false
  .grind
  .rw[if_neg h2] at h ⊢;obtain⟨a,b,c⟩:=Uf _ t 0 h1' h;exact⟨h1',c,a,b,fun g T hi=>Xj _ t 0 g T h1' hi h⟩
end Go.Ab
namespace Go.Ab
open Go
set_option linter.all false
structure Ck where
 lems:List Fm
 tys:List Ty
 hyps:List Fm
def Ck.view(c:Ck):List V:=[.s .fm c.lems,.s .ty c.tys,.s .fm c.hyps]
def Ck.below(c:Ck)(l:List Ty):Ck:=⟨c.lems,c.tys++l,c.hyps.map fun f=>f.As 0 l.length⟩
def Ck.Ah(c:Ck)(f:Fm):Ck:=⟨c.lems,c.tys,c.hyps++[f]⟩
def Ck.room(c:Ck)(v h:Nat):Int:=if c.tys.length+v>16\/c.hyps.length+h>16 then 3 else 0
def Fl(a b:List Int):List Int:=x8 (CZ (CZ [] a) b)
def Eg(l:List Int)(n:Int):List Int:=(l.filter fun x=>decide (x>=n)).map (·-n)
def GV:List Int->Bool
 |[]=>false
 |x::_=>x==0
def FH(t:Tm):List Int:=if t.err=0 then JO t else []
def Cr(f:Fm)(t:Tm):Fm×Int:=(if xm f 0 t=0 then f.put 0 t else AK,xm f 0 t)
def E7(c:Ck)(t:Tm)(k:Int):Int:=if(yx c.tys t).2≠0 then(yx c.tys t).2 else if(yx c.tys t).1.kind≠k then 7 else 0
def wo:List Tm->List Tm×Int
 |[]=>([],0)
 |t::l=>if(yv t 1000).2.2≠0 then([],(yv t 1000).2.2) else if(wo l).2≠0 then([],(wo l).2) else((yv t 1000).1::(wo l).1,0)
mutual
def y9:Fm->Fm×Int
 | .mk k h ts zs=>if(wo ts).2≠0 then(AK,(wo ts).2) else if(xd zs).2≠0 then(AK,(xd zs).2) else(.mk k h (wo ts).1 (xd zs).1,0)
def xd:List Fm->List Fm×Int
 |[]=>([],0)
 |f::l=>if(y9 f).2≠0 then([],(y9 f).2) else if(xd l).2≠0 then([],(xd l).2) else((y9 f).1::(xd l).1,0)
end
mutual
def wi:Fm->Bool
 | .mk k _ _ zs=>if k=1 then false else if k=2 then(NN zs).getD 0 false||(NN zs).getD 1 false else if k=5 then true else(NN zs).getLastD false
def NN:List Fm->List Bool
 |[]=>[]
 |f::l=>wi f::NN l
end
abbrev Cj:=Fm×List Int×Int
abbrev Rs:=Ck->Cj
def yf(e:Int):Cj:=(AK,[],e)
def yy(r:Rs)(c:Ck)(f:Fm)(t:Tm):List Int×Int:=
 if(r c).2.2≠0 then([],(r c).2.2) else if(Cr f t).2≠0 then([],(Cr f t).2) else((r c).2.1,Gr (Cr f t).1 (r c).1)
def DH(r:Cj):Cj:=if r.2.2≠0 then yf r.2.2 else if r.1.err≠0 then yf 4 else(r.1,if wi r.1=true then r.2.1 else [],0)
def G6(c:Ck)(i:Int):Cj:=if i>=c.hyps.length then yf 8 else(c.hyps.getD (c.hyps.length-1-i.toNat) AK,[],0)
def G5(c:Ck)(i:Int):Cj:=if i>=c.lems.length then yf 9 else(c.lems.getD i.toNat AK,[],0)
def Hx(r0 r1:Rs)(c:Ck):Cj:=if(r0 c).2.2≠0 then yf (r0 c).2.2 else(vm 2 (r0 c).1 (r1 c).1,Fl (r0 c).2.1 (r1 c).2.1,(r1 c).2.2)
def G4(j:Nat)(r0:Rs)(c:Ck):Cj:=if(r0 c).2.2≠0 then yf (r0 c).2.2 else if(r0 c).1.kind≠2 then yf 10 else((r0 c).1.args.getD j AK,(r0 c).2.1,0)
def Hr(f:Fm)(r0:Rs)(c:Ck):Cj:=
 if y8 c.tys f≠0 then yf (y8 c.tys f) else if c.room 0 1≠0 then yf 3 else(vm 3 f (r0 (c.Ah f)).1,(r0 (c.Ah f)).2.1,(r0 (c.Ah f)).2.2)
def HA(r0 r1:Rs)(c:Ck):Cj:=
 if(r0 c).2.2≠0 then yf (r0 c).2.2 else if(r0 c).1.kind≠3 then yf 10 else if(r1 c).2.2≠0 then yf (r1 c).2.2
 else((r0 c).1.args.getD 1 AK,Fl (r0 c).2.1 (r1 c).2.1,Gr ((r0 c).1.args.getD 0 AK) (r1 c).1)
def Hq(k:Int)(s:Ty)(r0:Rs)(c:Ck):Cj:=
 if c.room 1 0≠0 then yf 3 else if(r0 (c.below [s])).2.2≠0 then yf (r0 (c.below [s])).2.2
 else if k=8 then(AL 4 s (r0 (c.below [s])).1,Eg (r0 (c.below [s])).2.1 1,0)
 else if GV (r0 (c.below [s])).2.1=true then yf 12 else(AL 6 s (r0 (c.below [s])).1,Eg (r0 (c.below [s])).2.1 1,0)
def kI(k u a b:Int):Int:=if k=u then a else b
def kL(k u:Int)(a b:List Int):List Int:=if k=u then a else b
theorem vg{α:Type}{l:List α}{i:Nat}(h:i<l.length)(d:α):l.getD i d=l[i]:=kr
def atR(k:Int)(t:Tm)(r0:Rs)(c:Ck):Cj:=
 if(yx c.tys t).2≠0 then yf (yx c.tys t).2 else if(r0 c).2.2≠0 then yf (r0 c).2.2
 else if(r0 c).1.kind≠kI k 13 6 4 then yf 10 else if(r0 c).1.ty≠(yx c.tys t).1 then yf 7
 else((Cr ((r0 c).1.args.getD 0 AK) t).1,kL k 13 (r0 c).2.1 (Fl (r0 c).2.1 (FH t)),(Cr ((r0 c).1.args.getD 0 AK) t).2)
def Hj(k:Int)(f:Fm)(t:Tm)(r0:Rs)(c:Ck):Cj:=
 if y8 c.tys f≠0 then yf (y8 c.tys f) else if f.kind≠kI k 14 7 5 then yf 10
 else if(yx c.tys t).2≠0 then yf (yx c.tys t).2 else if f.ty≠(yx c.tys t).1 then yf 7
 else(f,kL k 14 (yy r0 c (f.args.getD 0 AK) t).1 (Fl (yy r0 c (f.args.getD 0 AK) t).1 (FH t)),(yy r0 c (f.args.getD 0 AK) t).2)
def ul(f:Fm):Fm×Int:=
 if zq 0 f=0 then(f,0) else if(y9 f).2≠0 then(AK,(y9 f).2) else if zq 0 (y9 f).1≠0 then(AK,6) else((y9 f).1,0)
def GB(r1:Rs)(c:Ck)(a:Fm):Cj:=r1 ((c.below [a.ty]).Ah (a.args.getD 0 AK))
def HC(k:Int)(r0 r1:Rs)(c:Ck):Cj:=
 if(r0 c).2.2≠0 then yf (r0 c).2.2 else if(r0 c).1.kind≠kI k 15 7 5 then yf 10 else if c.room 1 1≠0 then yf 3
 else if(GB r1 c (r0 c).1).2.2≠0 then yf (GB r1 c (r0 c).1).2.2
 else if(ul (GB r1 c (r0 c).1).1).2≠0 then yf (ul (GB r1 c (r0 c).1).1).2
 else if k=15/\GV (GB r1 c (r0 c).1).2.1=true then yf 12
 else((ul (GB r1 c (r0 c).1).1).1.As 1 (-1),Fl (r0 c).2.1 (Eg (GB r1 c (r0 c).1).2.1 1),0)
def G7(f:Fm)(t:Tm)(r0 r1:Rs)(c:Ck):Cj:=
 if va (c.tys++[Ac]) f≠0 then yf (va (c.tys++[Ac]) f) else if E7 c t 1≠0 then yf (E7 c t 1)
 else if(yy r0 c f zT).2≠0 then yf (yy r0 c f zT).2 else if c.room 1 1≠0 then yf 3
 else if(yy r1 ((c.below [Ac]).Ah f) (f.As 1 1) (sT (vT 0))).2≠0 then yf (yy r1 ((c.below [Ac]).Ah f) (f.As 1 1) (sT (vT 0))).2
 else((Cr f t).1,Fl (Fl (FH t) (yy r0 c f zT).1) (Eg (yy r1 ((c.below [Ac]).Ah f) (f.As 1 1) (sT (vT 0))).1 1),(Cr f t).2)
def Dw:Tm:= .mk 7 0 (.mk 0 []) []
def BJ:Tm:= .mk 8 0 (.mk 0 []) [vT 1,vT 0]
def G2(f:Fm)(t:Tm)(r0 r1:Rs)(c:Ck):Cj:=
 if va (c.tys++[Al]) f≠0 then yf (va (c.tys++[Al]) f) else if E7 c t 2≠0 then yf (E7 c t 2)
 else if(yy r0 c f Dw).2≠0 then yf (yy r0 c f Dw).2 else if c.room 2 1≠0 then yf 3
 else if(yy r1 ((c.below [Ac,Al]).Ah (f.As 1 1)) (f.As 1 2) BJ).2≠0 then yf (yy r1 ((c.below [Ac,Al]).Ah (f.As 1 1)) (f.As 1 2) BJ).2
 else((Cr f t).1,Fl (Fl (FH t) (yy r0 c f Dw).1) (Eg (yy r1 ((c.below [Ac,Al]).Ah (f.As 1 1)) (f.As 1 2) BJ).1 2),(Cr f t).2)
def Io(t:Tm)(c:Ck):Cj:=(AV t t,[],E7 c t 1)
def GZ(f:Fm)(r0 r1:Rs)(c:Ck):Cj:=
 if va (c.tys++[Ac]) f≠0 then yf (va (c.tys++[Ac]) f) else if(r0 c).2.2≠0 then yf (r0 c).2.2 else if(r0 c).1.kind≠1 then yf 10
 else if(yy r1 c f ((r0 c).1.terms.getD 0 AB)).2≠0 then yf (yy r1 c f ((r0 c).1.terms.getD 0 AB)).2
 else((Cr f ((r0 c).1.terms.getD 1 AB)).1,(yy r1 c f ((r0 c).1.terms.getD 0 AB)).1,(Cr f ((r0 c).1.terms.getD 1 AB)).2)
def Ca:Tm:=AE (vT 1) (vT 0)
def Kx(a:Fm):Fm×Int:=Cr (((a.args.getD 0 AK).args.getD 0 AK).As 2 1) Ca
def LG(a:Fm):Ty:=xx a.ty (a.args.getD 0 AK).ty
def Hi(r0:Rs)(c:Ck):Cj:=
 if(r0 c).2.2≠0 then yf (r0 c).2.2 else if(r0 c).1.kind≠4\/((r0 c).1.args.getD 0 AK).kind≠5 then yf 10 else if(LG (r0 c).1).err≠0 then yf 4
 else(AL 5 (LG (r0 c).1) (AL 4 (r0 c).1.ty (Kx (r0 c).1).1),(r0 c).2.1,(Kx (r0 c).1).2)
def JC(k i:Int)(s:Ty)(ts:List Tm)(fs:List Fm)(rs:List Rs)(c:Ck):Cj:=
 if k=1 then G6 c i else if k=2 then G5 c i else if k=3 then Hx (rs.getD 0 fun _=>yf 0) (rs.getD 1 fun _=>yf 0) c
 else if k=4\/k=5 then G4 (k-4).toNat (rs.getD 0 fun _=>yf 0) c
 else if k=6 then Hr (fs.getD 0 AK) (rs.getD 0 fun _=>yf 0) c
 else if k=7 then HA (rs.getD 0 fun _=>yf 0) (rs.getD 1 fun _=>yf 0) c
 else if k=8\/k=12 then Hq k s (rs.getD 0 fun _=>yf 0) c
 else if k=9\/k=13 then atR k (ts.getD 0 AB) (rs.getD 0 fun _=>yf 0) c
 else if k=10\/k=14 then Hj k (fs.getD 0 AK) (ts.getD 0 AB) (rs.getD 0 fun _=>yf 0) c
 else if k=11\/k=15 then HC k (rs.getD 0 fun _=>yf 0) (rs.getD 1 fun _=>yf 0) c
 else if k=16 then G7 (fs.getD 0 AK) (ts.getD 0 AB) (rs.getD 0 fun _=>yf 0) (rs.getD 1 fun _=>yf 0) c
 else if k=17 then G2 (fs.getD 0 AK) (ts.getD 0 AB) (rs.getD 0 fun _=>yf 0) (rs.getD 1 fun _=>yf 0) c
 else if k=18 then Io (ts.getD 0 AB) c
 else if k=19 then GZ (fs.getD 0 AK) (rs.getD 0 fun _=>yf 0) (rs.getD 1 fun _=>yf 0) c
 else Hi (rs.getD 0 fun _=>yf 0) c
mutual
def yr:Pf->Rs
 | .mk k i s ts fs zs=>fun c=>DH (JC k i s ts fs (Qh zs) c)
def Qh:List Pf->List Rs
 |[]=>[]
 |p::l=>yr p::Qh l
end
theorem aF:∀l:List Pf,Qh l=l.map yr
 |[]=>rfl
 |p::l=>by rw[Qh,aF l];rfl
theorem wu(p:Pf)(c:Ck):yr p c=DH (JC p.kind p.index p.ty p.terms p.Ae (p.args.map yr) c):=by cases p;simp only[yr,aF];rfl
theorem cK:∀l:List Fm,NN l=l.map wi
 |[]=>rfl
 |p::l=>by rw[NN,cK l];rfl
theorem Mu(f:Fm):wi f=if f.kind=1 then false else if f.kind=2 then(f.args.map wi).getD 0 false||(f.args.map wi).getD 1 false else if f.kind=5 then true else(f.args.map wi).getLastD false:=by
 cases f;simp only[wi,cK];rfl
theorem PM(f:Fm):y9 f=if(wo f.terms).2≠0 then(AK,(wo f.terms).2) else if(xd f.args).2≠0 then(AK,(xd f.args).2) else(.mk f.kind f.ty (wo f.terms).1 (xd f.args).1,0):=by
 cases f;rfl
variable{c:Ck}
theorem xw{v h:Nat}(hr:c.room v h=0):c.tys.length+v<=16/\c.hyps.length+h<=16:=by
 unfold Ck.room at hr;omega
theorem Oz{v h:Nat}(hr:c.room v h≠0):c.room v h=3:=by unfold Ck.room at*;omega
theorem bU:∀{g:List Ty},(∀x∈g,x.err=0)->Jc g=0
 |[],_=>rfl
 |x::l,h=>by
  simp only[Jc];rw[if_neg kr];exact bU fun y hy=>h y kr
theorem Zzx{g:List Ty}(hl:g.length<=16)(h:∀x∈g,x.err=0):ww g=0:=by
 unfold ww;rw[if_neg kn];exact bU h
theorem Oe{α:Type}{f:α->Int}:∀{l:List α},ur f l=0->∀x∈l,f x=0
 |[],_,x,h=>kM
 |y::l,h,x,hx=>by
  simp only[ur] at h;by_cases h1:f y≠0
  .omega
  .rw[if_neg h1] at h;rcases fW.1 hx with rfl|hx
   .omega
   .exact Oe h x hx
theorem bu{t:Ty}(he:t.err=0)(hk:t.kind=1):t=Ac:=by
 exact qG
theorem Ymf{t:Ty}(he:t.err=0)(hk:t.kind=2):t=Al:=by
 exact qG
variable{t:Tm}
theorem bQ{g:List Ty}(hg:∀x∈g,x.err=0)(h:(EM g t).2=0):t.err=0/\t.inf g=((EM g t).1,0)/\(EM g t).1.err=0:=by
 unfold EM at h ⊢;by_cases h1:t.err≠0
 .grind
 .rw[if_neg h1] at h ⊢;have h1':=fC.1 h1;exact⟨h1',kr,Tm.Ex t g ((Tm.Aa t).1 h1').1 hg h⟩
theorem L4{g:List Ty}(h:(yx g t).2=0):ww g=0/\t.err=0/\t.inf g=((yx g t).1,0)/\(yx g t).1.err=0:=by
 unfold yx at h ⊢;by_cases h1:ww g≠0
 .grind
 .rw[if_neg h1] at h ⊢;have h1':=fC.1 h1;exact⟨h1',bQ (LW h1').2 h⟩
theorem Yl2(f:Fm):∀g:List Ty,(∀x∈g,x.err=0)->f.shape=true->f.Fk g=0->f.A9 g:=by
 induction f using Fm.ind with
 |h f ih=>
  intro g hg hs h;rw[Fm.GS] at h;by_cases h1:ur (tE g) f.terms≠0
  .omega
  .rw[if_neg h1] at h;rw[Fm.A8];refine⟨fun t ht=> ?_,fun x hx=> ?_⟩
   .have h2:=Oe (fC.1 h1) t ht;unfold tE at h2;by_cases h3:(EM g t).2≠0
    .omega
    .rw[if_neg h3] at h2;obtain⟨a,b,c⟩:=bQ hg (fC.1 h3);by_cases h4:(EM g t).1.kind≠1
     .omega
     .rw[b,bu c (fC.1 h4)]
   .have h2:=Oe h x hx;refine ih x hx _ ?_ (zp hs hx) h2;by_cases hq:wc f.kind=true
    .rw[Jg hq];intro y hy;rcases fV.1 hy with hy|hy
     .grind
     .simp only[gp] at hy;subst hy;have hk:=Bx.1 hq;rcases Ut hs with⟨h5,_⟩|⟨h5,_⟩|⟨_,_,h6⟩;all_goals omega
    .rw[II hq];exact hg
theorem uf{g:List Ty}{f:Fm}(hg:∀x∈g,x.err=0)(h:va g f=0):f.err=0/\f.A9 g:=by
 unfold va at h;by_cases h1:f.err≠0
 .omega
 .rw[if_neg h1] at h;have h1':=fC.1 h1;exact⟨h1',Yl2 f g hg ((Fm.Aa f).1 h1').1 h⟩
theorem we{g:List Ty}{f:Fm}(h:y8 g f=0):f.err=0/\f.A9 g:=by
 unfold y8 at h;by_cases h1:ww g≠0
 .omega
 .rw[if_neg h1] at h;exact uf (LW (fC.1 h1)).2 h
variable{k:Int}
theorem XW(h:E7 c t k=0):t.err=0/\t.inf c.tys=((yx c.tys t).1,0)/\(yx c.tys t).1.err=0/\(yx c.tys t).1.kind=k:=by
 unfold E7 at h;by_cases h1:(yx c.tys t).2≠0
 .omega
 .rw[if_neg h1] at h;obtain⟨_,a,b,d⟩:=L4 (fC.1 h1)
  grind
theorem RO(t:Tm):∀(g:List Ty) (b:Int),t.shape=true->(t.inf g).2=0->∀p∈t.vars b,p.1-p.2<g.length-b:=by
 induction t using Tm.ind with
 |h t ih=>
  intro g b hs h p hp;have hargs:=zd hs;by_cases k1:t.kind=1
  .rw[Jq hs k1] at hp;simp only[gp] at hp;subst hp;rw[Tm.Ba,if_pos k1] at h
   grind
  .rw[LV k1] at hp;obtain⟨x,hx,hp⟩:=gh.1 hp;by_cases k2:t.kind=2
   .have e:up t.kind b=b+1:=by simp[up,k2]
    rw[e] at hp;rw[Tm.Ba,if_neg k1,if_pos k2] at h;have h0:(Tm.A1 (g++[t.ty]) t.args).2=0:=by
     grind
    have:=ih x hx (g++[t.ty]) (b+1) (hargs x hx) (Tm.CH _ _ h0 x hx) p hp
    grind
   .have e:up t.kind b=b:=by simp[up,k2]
    rw[e] at hp;exact ih x hx g b (hargs x hx) ((Jk (T:=(t.inf g).1) k1 k2 kr).1 x hx) p hp
def Bb(n:Nat)(l:List Int):Prop:=l.Nodup/\∀u∈l,0<=u/\u<n
theorem Bb.nil(n:Nat):Bb n []:=⟨jm,fun u h=>kM⟩
variable{l:List Int}{n:Nat}
theorem Bb.len(h:Bb n l):l.length<=n:=(Ydq n l h.1 h.2).1
theorem AM{a b:List Int}{x:Int}:x∈Fl a b↔x∈a\/x∈b:=by
 rw[Fl,(ue _).mem_iff,Ri,Ri];simp
theorem Bb.union{a b:List Int}(ha:∀u∈a,0<=u/\u<(n:Int))(hb:∀u∈b,0<=u/\u<(n:Int)):Bb n (Fl a b):=by
 refine⟨?_,fun u hu=> ?_⟩
 .rw[Fl,(ue _).nodup_iff];exact Ng (Ng jm)
 .rcases AM.1 hu with h|h;all_goals grind
theorem B3{n x:Int}:x∈Eg l n↔0<=x/\x+n∈l:=by
 simp only[Eg,fO,iM,decide_eq_true_eq]
 grind
variable{m:Nat}
theorem Bb.out(h:Bb (n+m) l):Bb n (Eg l m):=by
 refine⟨?_,fun u hu=> ?_⟩
 .have h1:(l.filter fun x=>decide (x>=(m:Int))).Nodup:=h.1.filter _;unfold Eg
  grind
 .obtain ⟨h1,h2⟩:=B3.1 hu;have:=h.2 _ h2;omega
theorem JK{g:List Ty}{T:Ty}(h:t.inf g=(T,0)):Bb g.length (FH t):=by
 unfold FH;by_cases he:t.err=0
 .rw[if_pos he];refine⟨Ztf t,fun u hu=> ?_⟩;obtain⟨h0,h1⟩:=BR.1 hu;refine⟨h0,?_⟩;obtain⟨p,hp,e⟩:=BB.2 h1;have:=RO t g 0 ((Tm.Aa t).1 he).1 (by rw[h]) p hp;omega
 .rw[if_neg he];exact .nil _
theorem Ygj{g:List Ty}(m:List Ty)(hs:t.shape=true)(h:(t.inf g).2=0):t.inf (m++g)=t.inf g:=by
 have h1:=Qy t [] m g g.length 0 hs kn;rw[gz,gz] at h1;rw[<-h1];congr 1;refine(Cc t 0 hs fun p hp=> ?_).symm;have:=RO t g 0 hs h p hp;rw[z5,if_neg kn]
theorem Yen(f:Fm):∀(g m:List Ty),f.shape=true->f.A9 g->f.A9 (m++g):=by
 induction f using Fm.ind with
 |h f ih=>
  intro g m hs hok;rw[Fm.A8] at hok ⊢;refine⟨fun t ht=> ?_,fun x hx=> ?_⟩
  .have:=hok.1 t ht;rw[Ygj m (yi hs ht) kr];omega
  .have:=ih x hx _ m (zp hs hx) (hok.2 x hx);by_cases hq:wc f.kind=true
   .rw[Jg hq] at this ⊢;grind
   .rw[II hq] at this ⊢;omega
theorem xh{f x:Fm}(hf:f.err=0)(hx:x∈f.args):x.err=0:=by
 have h:=(Fm.Aa f).1 hf;have h1:=zc Fm.size hx;have h2:=f.size_eq;exact(Fm.Aa x).2 ⟨zp h.1 hx,kn⟩
theorem Mq{f:Fm}(hf:f.err=0)(ht:t∈f.terms):t.err=0:=by
 have h:=(Fm.Aa f).1 hf;have h1:=zc Tm.size ht;have h2:=f.size_eq;exact(Tm.Aa t).2 ⟨yi h.1 ht,kn⟩
theorem MA{f:Fm}(hs:f.shape=true)(hk:f.kind=2\/f.kind=3):∃a b,f=vm f.kind a b:=by
 rw[Fm.Ak,fD,fD] at hs;have h1:=hs.1.1;unfold Fm.head at h1;rw[if_neg kn,if_pos hk] at h1;simp only[fD,beq_iff_eq] at h1;clear hs;obtain⟨k,h,ts,zs⟩:=f;simp only[Fm.Ai,Fm.Am,Fm.Af] at h1 hk;have e1:ts=[]:=fX h1.1.2
 match zs,h1 with
 |[a,b],h1=>
  refine⟨a,b,?_⟩;have e2:h= .mk 0 []:=Ty.Ez kP;rw[e1,e2];rfl
 |[],h1=>grind
 |[a],h1=>grind
 |a::b::c::l,h1=>grind
theorem GM{f:Fm}(hs:f.shape=true)(hk:4<=f.kind/\f.kind<=7):∃a,f=AL f.kind f.ty a:=by
 rw[Fm.Ak,fD,fD] at hs;have h1:=hs.1.1;unfold Fm.head at h1;rw[if_neg kn,if_neg kn,if_pos kn] at h1;simp only[fD,beq_iff_eq] at h1;clear hs;obtain⟨k,h,ts,zs⟩:=f;simp only[Fm.Ai,Fm.Am,Fm.Af] at h1 hk;have e1:ts=[]:=fX h1.1.2
 match zs,h1 with
 |[a],h1=>exact⟨a,by rw[e1];rfl⟩
 |[],h1=>grind
 |a::b::l,h1=>grind
theorem QL{f:Fm}(hs:f.shape=true)(hk:f.kind=1):∃a b,f=AV a b:=by
 rw[Fm.Ak,fD,fD] at hs;have h1:=hs.1.1;unfold Fm.head at h1;rw[if_pos hk] at h1;simp only[fD,beq_iff_eq] at h1;clear hs;obtain⟨k,h,ts,zs⟩:=f;simp only[Fm.Ai,Fm.Am,Fm.Af] at h1 hk;have e1:zs=[]:=fX h1.2
 match ts,h1 with
 |[a,b],h1=>
  have e2:h= .mk 0 []:=Ty.Ez kP;exact⟨a,b,by rw[e1,e2,hk];rfl⟩
 |[],h1=>grind
 |[a],h1=>grind
 |a::b::c::l,h1=>grind
theorem Ks{f:Fm}(hf:f.shape=true)(hk:4<=f.kind/\f.kind<=7):f.ty.err=0:=by
 rcases Ut hf with⟨h,_⟩|⟨h,_⟩|⟨_,_,h⟩;all_goals omega
theorem Qi{a b:Fm}{g:List Ty}(hk:k=2\/k=3)(h:(vm k a b).A9 g):a.A9 g/\b.A9 g:=by
 rw[Fm.A8] at h;have e:C6 g (vm k a b)=g:=II (by show ¬wc k=true;rw[Bx];omega);rw[e] at h;exact⟨h.2 a kV,h.2 b kV⟩
theorem Gk{s:Ty}{a:Fm}{g:List Ty}(hk:4<=k/\k<=7)(h:(AL k s a).A9 g):a.A9 (g++[s]):=by
 rw[Fm.A8] at h;have e:C6 g (AL k s a)=g++[s]:=Jg (Bx.2 hk);rw[e] at h;exact h.2 a k7
variable{b:Tm}
theorem CK{a:Tm}{g:List Ty}:(AV a b).A9 g↔a.inf g=(Ac,0)/\b.inf g=(Ac,0):=by
 rw[Fm.A8];simp[AV]
theorem e8{a b:Fm}(hk:k=2\/k=3)(ha:a.shape=true)(hb:b.shape=true):(vm k a b).shape=true:=by
 rw[Fm.Ak];rcases hk with rfl|rfl<;>simp[vm,Fm.head,ha,hb,Ty.Bv,Ty.kind,Ty.args]
theorem Pw{s:Ty}{a:Fm}(hk:4<=k/\k<=7)(hs:s.err=0)(ha:a.shape=true):(AL k s a).shape=true:=by
 rw[Fm.Ak];have h1:=(Ty.Aa s).1 hs;have h2:s.ok=true:=Nm h1.1 h1.2;have:k=4\/k=5\/k=6\/k=7:=kn
 rcases this with rfl|rfl|rfl|rfl<;>simp[AL,Fm.head,ha,h2]
theorem R5(k:Int)(a b:Fm):(vm k a b).size=1+a.size+b.size:=by rw[Fm.size_eq];simp[vm];omega
theorem NR(k:Int)(s:Ty)(a:Fm):(AL k s a).size=1+a.size:=kz
theorem wy{f:Fm}{g h:List Ty}(m:List Ty)(hf:f.shape=true)(hok:f.A9 (g++h)):(f.As h.length m.length).A9 (g++m++h):=by
 have:=Yfv g m h.length f h 0 kn hf hok;exact this
theorem LC{f:Fm}{g:List Ty}{σ:Ty}(hf:f.A9 (g++[σ]))(ht:t.inf g=(σ,0))(h:(Cr f t).2=0):(Cr f t).1.err=0/\(Cr f t).1.A9 g:=by
 have h':xm f 0 t=0:=h;have e:(Cr f t).1=f.put 0 t:=if_pos h';obtain⟨h1,h2,_⟩:=Vc h';rw[e];refine⟨Ygx kn h',?_⟩;have h3:=Uc 0 t g σ ((Tm.Aa t).1 h2).1 ht f [] 0 rfl ((Fm.Aa f).1 h1).1 kr;rw[gq] at h3;exact h3
structure Ck.ok (c:Ck):Prop where
 ctx:ww c.tys=0
 nh:c.hyps.length<=16
 nl:c.lems.length<=32
 hyps:∀f∈c.hyps,f.err=0/\f.A9 c.tys
 lems:∀f∈c.lems,f.err=0/\f.A9 []
theorem Ck.ok.len(h:c.ok):c.tys.length<=16:=(LW h.ctx).1
theorem Ck.ok.all(h:c.ok):∀x∈c.tys,x.err=0:=(LW h.ctx).2
theorem Ck.ok.below{c:Ck}(h:c.ok){l:List Ty}(hl:c.tys.length+l.length<=16)(he:∀x∈l,x.err=0):(c.below l).ok:=by
 refine⟨Zzx mT fun x hx=> ?_,by simp[Ck.below];exact h.nh,h.nl,fun f hf=> ?_,h.lems⟩
 .rcases fV.1 hx with hx|hx
  .exact h.all x hx
  grind
 .obtain ⟨y,hy,rfl⟩:=fO.1 hf;obtain⟨h1,h2⟩:=h.hyps y hy;refine⟨JW h1 kn,?_⟩;have h3:=wy (g:=c.tys) (h:=[]) l ((Fm.Aa y).1 h1).1 kr;simpa[Ck.below] using h3
theorem Ck.ok.Ah{c:Ck}(h:c.ok){f:Fm}(hl:c.hyps.length+1<=16)(hf:f.err=0)(hok:f.A9 c.tys):(c.Ah f).ok:=by
 refine⟨h.ctx,by simp[Ck.Ah];omega,h.nl,fun y hy=> ?_,h.lems⟩;rcases fV.1 hy with hy|hy
 .exact h.hyps y hy
 .simp only[gp] at hy;subst hy;exact⟨hf,hok⟩
def Ft(c:Ck)(r:Cj):Prop:=r.2.2=0->r.1.shape=true/\r.1.size<=20000000/\r.1.A9 c.tys/\Bb c.tys.length r.2.1
def GI(c:Ck)(r:Cj):Prop:=(r.2.2=0->r.1.err=0/\r.1.A9 c.tys/\Bb c.tys.length r.2.1)/\(r.2.2≠0->r=yf r.2.2)
theorem zx(c:Ck){e:Int}(he:e≠0):Ft c (yf e):=fun h=>absurd h he
theorem Yly{r:Cj}(h:Ft c r):GI c (DH r):=by
 unfold DH;by_cases h1:r.2.2≠0
 .rw[if_pos h1];exact⟨fun h=>absurd h h1,fun _=>rfl⟩
 .rw[if_neg h1];by_cases h2:r.1.err≠0
  .rw[if_pos h2];exact⟨fun h=>absurd h kq,fun _=>rfl⟩
  .rw[if_neg h2];obtain⟨_,_,h4,h5⟩:=h (fC.1 h1);refine⟨fun _=>⟨fC.1 h2,h4,?_⟩,fun h=>absurd rfl h⟩;simp only;split
   .exact h5
   .exact .nil _
def BP(r:Rs):Prop:=∀c,c.ok->GI c (r c)
theorem BP.good{r:Rs}(h:BP r)(hc:c.ok)(he:(r c).2.2=0):(r c).1.err=0/\(r c).1.A9 c.tys/\Bb c.tys.length (r c).2.1:=(h c hc).1 he
theorem yu{f:Fm}(h:f.err=0):f.shape=true/\f.size<=20000000:=by
 have:=(Fm.Aa f).1 h;grind
variable{i:Int}
theorem aL(hc:c.ok)(hi:0<=i):Ft c (G6 c i):=by
 unfold G6;split
 .exact zx c kq
 .rename_i h;intro _;have hlt:c.hyps.length-1-i.toNat<c.hyps.length:=kn
  simp only;rw[vg hlt];obtain⟨h1,h2⟩:=hc.hyps _ (fA hlt);exact⟨(yu h1).1,(yu h1).2,h2,.nil _⟩
theorem Zr(hc:c.ok)(hi:0<=i):Ft c (G5 c i):=by
 unfold G5;split
 .exact zx c kq
 .rename_i h;intro _;have hlt:i.toNat<c.lems.length:=kn
  simp only;rw[vg hlt];obtain⟨h1,h2⟩:=hc.lems _ (fA hlt);have h3:=Yen _ [] c.tys (yu h1).1 h2;rw[gq] at h3;exact⟨(yu h1).1,(yu h1).2,h3,.nil _⟩
variable{r0 r1:Rs}
theorem de(h0:BP r0)(h1:BP r1)(hc:c.ok):Ft c (Hx r0 r1 c):=by
 unfold Hx;split
 .exact qf
 .rename_i h;intro he;obtain⟨a1,a2,a3⟩:=h0.good hc (fC.1 h);obtain⟨b1,b2,b3⟩:=h1.good hc he;have s1:=(Fm.Aa _).1 a1;have s2:=(Fm.Aa _).1 b1;exact⟨e8 (.inl rfl) s1.1 s2.1,by rw[R5];omega,Sr (.inl rfl) a2 b2,.union a3.2 b3.2⟩
theorem RS(h0:BP r0)(hc:c.ok){j:Nat}(hj:j<2):Ft c (G4 j r0 c):=by
 unfold G4;split
 .exact qf
 rename_i h;split
 .exact zx c kq
 rename_i h2;intro _;obtain⟨a1,a2,a3⟩:=h0.good hc (fC.1 h);have s1:=(Fm.Aa _).1 a1;obtain⟨x,y,e⟩:=MA s1.1 (.inl (fC.1 h2));have hk:(r0 c).1.kind=2:=fC.1 h2;rw[hk] at e;rw[e] at a2;obtain⟨o1,o2⟩:=Qi (.inl rfl) a2;have e1:=xh a1 (x:=x) (by rw[e];simp[vm]);have e2:=xh a1 (x:=y) (by rw[e];simp[vm]);have:(r0 c).1.args=[x,y]:=kH
 simp only[this];rcases j with _|_|j
 .exact ⟨(yu e1).1,(yu e1).2,o1,a3⟩
 .exact ⟨(yu e2).1,(yu e2).2,o2,a3⟩
 .omega
theorem bY(h0:BP r0){f:Fm}(hc:c.ok):Ft c (Hr f r0 c):=by
 unfold Hr;split
 .exact qf
 rename_i h;split
 .exact zx c kq
 rename_i h2;intro he;obtain⟨f1,f2⟩:=we (fC.1 h);have hr:=xw (fC.1 h2);obtain⟨a1,a2,a3⟩:=h0.good (hc.Ah (f:=f) hr.2 f1 f2) he;have s1:=(Fm.Aa _).1 a1;have s2:=(Fm.Aa _).1 f1;exact⟨e8 (.inr rfl) s2.1 s1.1,by rw[R5];omega,Sr (.inr rfl) f2 a2,a3⟩
theorem cg(h0:BP r0)(h1:BP r1)(hc:c.ok):Ft c (HA r0 r1 c):=by
 unfold HA;split
 .exact qf
 rename_i h;split
 .exact zx c kq
 rename_i h2;split
 .exact qf
 rename_i h3;intro _;obtain⟨a1,a2,a3⟩:=h0.good hc (fC.1 h);obtain⟨b1,b2,b3⟩:=h1.good hc (fC.1 h3);have s1:=(Fm.Aa _).1 a1;have hk:(r0 c).1.kind=3:=fC.1 h2;obtain⟨x,y,e⟩:=MA s1.1 (.inr hk);rw[hk] at e;rw[e] at a2;obtain⟨o1,o2⟩:=Qi (.inr rfl) a2;have e2:=xh a1 (x:=y) (by rw[e];simp[vm]);have:(r0 c).1.args=[x,y]:=kH
 simp only[this];exact⟨(yu e2).1,(yu e2).2,o2,.union a3.2 b3.2⟩
theorem R7(h0:BP r0){s:Ty}(hs:s.err=0)(hc:c.ok):Ft c (Hq k s r0 c):=by
 unfold Hq;split
 .exact zx c kq
 rename_i h;have hr:=xw (fC.1 h);have hb:=hc.below (l:=[s]) hr.1 kr;split
 .exact qf
 rename_i h2;obtain⟨a1,a2,a3⟩:=h0.good hb (fC.1 h2);have s1:=(Fm.Aa _).1 a1;have hu:Bb c.tys.length (Eg (r0 (c.below [s])).2.1 1):=by
  have:=Bb.out (n:=c.tys.length) (m:=1) (l:=(r0 (c.below [s])).2.1) (by simpa[Ck.below] using a3);omega
 split
 .intro _;exact⟨Pw kn hs s1.1,by rw[NR];omega,Ll kn a2,hu⟩
 split
 .exact zx c kq
 .intro _;exact⟨Pw kn hs s1.1,by rw[NR];omega,Ll kn a2,hu⟩
theorem QS(h0:BP r0)(hc:c.ok):Ft c (atR k t r0 c):=by
 unfold atR;split
 .exact qf
 rename_i h;split
 .exact qf
 rename_i h2;split
 .exact zx c kq
 rename_i h3;split
 .exact zx c kq
 rename_i h4;intro he;obtain⟨_,t1,t2,_⟩:=L4 (fC.1 h);obtain⟨a1,a2,a3⟩:=h0.good hc (fC.1 h2);have s1:=(Fm.Aa _).1 a1;have hk:(r0 c).1.kind=kI k 13 6 4:=fC.1 h3;have hk':4<=(r0 c).1.kind/\(r0 c).1.kind<=7:=by rw[hk,kI];omega
 obtain⟨x,e⟩:=GM s1.1 hk';rw[e] at a2;have o1:=Gk hk' a2;have hx:(r0 c).1.args.getD 0 AK=x:=kH
 rw[hx] at he ⊢;have hty:(r0 c).1.ty=(yx c.tys t).1:=fC.1 h4;rw[hty] at o1;obtain⟨p1,p2⟩:=LC o1 t2 he;refine⟨(yu p1).1,(yu p1).2,p2,?_⟩;simp only[kL];split
 .exact a3
 .exact .union a3.2 (JK t2).2
theorem uz(h0:BP r0)(hc:c.ok)(f:Fm)(t:Tm):Bb c.tys.length (yy r0 c f t).1:=by
 unfold yy;split
 .exact .nil _
 rename_i h;split
 .exact .nil _
 .exact (h0.good hc (fC.1 h)).2.2
theorem Q8(h0:BP r0){f:Fm}(hc:c.ok):Ft c (Hj k f t r0 c):=by
 unfold Hj;split
 .exact qf
 rename_i h;split
 .exact zx c kq
 split
 .exact qf
 rename_i h3;split
 .exact zx c kq
 intro _;obtain⟨f1,f2⟩:=we (fC.1 h);obtain⟨_,t1,t2,_⟩:=L4 (fC.1 h3);have hp:=uz h0 hc (f.args.getD 0 AK) t;refine⟨(yu f1).1,(yu f1).2,f2,?_⟩;simp only[kL];split
 .exact hp
 .exact .union hp.2 (JK t2).2
theorem Zb:∀(l:List Tm),(wo l).2=0->(wo l).1.length=l.length/\(∀t∈(wo l).1,t.err=0)/\∀(g:List Ty) (T:Ty),(∀t∈l,t.inf g=(T,0))->∀t∈(wo l).1,t.inf g=(T,0)
 |[],_=>⟨rfl,fun t h=>absurd h (gm),fun g T _ t h=>absurd h (gm)⟩
 |x::l,h=>by
  simp only[wo] at h ⊢;by_cases h1:(yv x 1000).2.2≠0
  .grind
  .rw[if_neg h1] at h ⊢;by_cases h2:(wo l).2≠0
   .grind
   .rw[if_neg h2];obtain⟨a1,a2,a3⟩:=Zb l (fC.1 h2);obtain⟨_,b1,_,_,b2⟩:=Kn (fC.1 h1)
    grind
theorem Qr(P:Fm->Fm->Prop):∀(l:List Fm),(∀f∈l,(y9 f).2=0->P f (y9 f).1)->(xd l).2=0->(xd l).1.length=l.length/\∀(i:Nat) (h1:i<l.length) (h2:i<(xd l).1.length),P l[i] (xd l).1[i]
 |[],_,_=>⟨rfl,fun i h=>kr⟩
 |x::l,hP,h=>by
  have h0:=h;simp only[xd] at h0;by_cases h1:(y9 x).2≠0
  .grind
  .rw[if_neg h1] at h0;by_cases h2:(xd l).2≠0
   .grind
   .have e:xd (x::l)=((y9 x).1::(xd l).1,0):=by simp only[xd];grind
    obtain⟨a1,a2⟩:=Qr P l (fun f hf=>hP f kr) (fC.1 h2)
    grind
theorem SY{α:Type}{f:α->Nat}{C:Nat}:∀(l:List α),(∀x∈l,f x<=C)->(l.map f).sum<=C*l.length
 |[],_=>ko
 |x::l,h=>by
  have h1:=SY l fun y hy=>h y kr;have h2:=h x ko;simp only[fJ,fT,fQ,Nat.mul_add,Nat.mul_one];omega
theorem Nb(f:Fm):(y9 f).2=0->f.shape=true->(y9 f).1.kind=f.kind/\(y9 f).1.shape=true/\(y9 f).1.size<=4096*f.size/\∀g,f.A9 g->(y9 f).1.A9 g:=by
 induction f using Fm.ind with
 |h f ih=>
  intro h hs;rw[PM] at h ⊢;by_cases h1:(wo f.terms).2≠0
  .grind
  rw[if_neg h1] at h ⊢;by_cases h2:(xd f.args).2≠0
  .grind
  rw[if_neg h2];obtain⟨a1,a2,a3⟩:=Zb f.terms (fC.1 h1);obtain⟨b1,b2⟩:=Qr (fun x y=>y.kind=x.kind/\y.shape=true/\y.size<=4096*x.size/\∀g,x.A9 g->y.A9 g) f.args (fun x hx he=>ih x hx he (zp hs hx)) (fC.1 h2);have hsh:(Fm.mk f.kind f.ty (wo f.terms).1 (xd f.args).1).shape=true:=by
   rw[Fm.Ak,fD,fD] at hs ⊢;refine⟨⟨?_,fF.2 fun t ht=>((Tm.Aa t).1 (a2 t ht)).1⟩,fF.2 fun y hy=> ?_⟩
   .have:=hs.1.1;unfold Fm.head at this ⊢;simp_all
   .obtain ⟨i,hi,rfl⟩:=gj hy;have hi':i<(xd f.args).1.length:=hi;simp_all
  refine⟨rfl,hsh,?_,fun g hok=> ?_⟩
  .have e1:=f.size_eq;rw[Fm.size_eq];simp only[Fm.Am,Fm.Af];have s1:=SY (f:=Tm.size) (C:=4096) (wo f.terms).1 fun t ht=>((Tm.Aa t).1 (a2 t ht)).2;have s2:=ze Tm.size Tm.size_pos f.terms;have s3:((xd f.args).1.map Fm.size).sum<=4096*(f.args.map Fm.size).sum:=by
    have:∀(l m:List Fm),m.length=l.length->(∀(i:Nat) (h1:i<l.length) (h2:i<m.length),m[i].size<=4096*l[i].size)->(m.map Fm.size).sum<=4096*(l.map Fm.size).sum:=by
     intro l;induction l with
     |nil=>simp
     |cons x l ihl=>
      intro m hm hh
      match m,hm with
      |y::m,hm=>
       have q1:=ihl m kr fun i h1 h2=>by have:=hh (i+1) kr kr;grind
       have q2:=hh 0 ko ko
       grind
    grind
   omega
  .rw[Fm.A8] at hok ⊢;refine⟨fun t ht=>a3 g Ac hok.1 t ht,fun y hy=> ?_⟩;obtain⟨i,hi,rfl⟩:=gj hy;have hi':i<(xd f.args).1.length:=hi;have hc:C6 g (Fm.mk f.kind f.ty (wo f.terms).1 (xd f.args).1)=C6 g f:=rfl;simp_all
theorem ML{f:Fm}(s:Tm)(hs:f.shape=true)(h:zq 0 f=0):f.As 1 (-1)=f.put 0 s:=by
 refine Fm.Ax f 0 fun p hp=> ?_;have h1:=TH h p hp;have h2:=u3 p hp;refine Ax p.1 0 fun q hq=> ?_;have h3:=Yg h1 q hq;rw[z5,xt]
 grind
theorem ZW{f:Fm}{g:List Ty}{σ:Ty}(hσ:σ.err=0)(hs:f.shape=true)(h:zq 0 f=0)(hok:f.A9 (g++[σ])):(f.As 1 (-1)).shape=true/\(f.As 1 (-1)).size=f.size/\(f.As 1 (-1)).A9 g:=by
 have h1:=(Ty.Aa σ).1 hσ;obtain⟨d1,d2,_⟩:=Yeh σ h1.1 h1.2;rw[ML (Hf σ) hs h];refine⟨uj kn d2 hs,?_,?_⟩
 .have:=v7 0 (Hf σ) d2 f hs 0;have e:ud 0 (f.A6 0)=0:=h;show(f.re (fun b t=>t.re (yq (0+b) (Hf σ)) 0) 0).size=f.size
  grind
 .have h3:=Uc 0 (Hf σ) g σ d2 (d1 g) f [] 0 rfl hs kr;rw[gq] at h3;exact h3
theorem Zj{f:Fm}(hf:f.err=0)(h:(ul f).2=0):(ul f).1.shape=true/\(ul f).1.size<=16777216/\zq 0 (ul f).1=0/\(∀g,f.A9 g->(ul f).1.A9 g)/\(ul f).1.kind=f.kind:=by
 have s1:=(Fm.Aa _).1 hf;unfold ul at h ⊢;by_cases h1:zq 0 f=0
 .grind
 rw[if_neg h1] at h ⊢;by_cases h2:(y9 f).2≠0
 .grind
 rw[if_neg h2] at h ⊢;by_cases h3:zq 0 (y9 f).1≠0
 .grind
 rw[if_neg h3];obtain⟨k,a,b,c⟩:=Nb f (fC.1 h2) s1.1
 grind
theorem R8(h0:BP r0)(h1:BP r1)(hc:c.ok):Ft c (HC k r0 r1 c):=by
 unfold HC;split
 .exact qf
 rename_i e0;split
 .exact zx c kq
 rename_i e1;split
 .exact zx c kq
 rename_i e2;split
 .exact qf
 rename_i e3;split
 .exact qf
 rename_i e4;split
 .exact zx c kq
 intro _;obtain⟨a1,a2,a3⟩:=h0.good hc (fC.1 e0);have s1:=(Fm.Aa _).1 a1;have hk:(r0 c).1.kind=kI k 15 7 5:=fC.1 e1;have hk':4<=(r0 c).1.kind/\(r0 c).1.kind<=7:=by rw[hk,kI];omega
 obtain⟨x,e⟩:=GM s1.1 hk';have ex:x.err=0:=xh a1 mB;rw[e] at a2;have o1:=Gk hk' a2;have hx:(r0 c).1.args.getD 0 AK=x:=kH
 have hr:=xw (fC.1 e2);have hte:=Ks s1.1 hk';have hb:((c.below [(r0 c).1.ty]).Ah x).ok:=(hc.below (l:=[(r0 c).1.ty]) hr.1 kr).Ah mq ex o1;have hob:GB r1 c (r0 c).1=r1 ((c.below [(r0 c).1.ty]).Ah x):=by unfold GB;rw[hx]
 rw[hob] at e3 e4 ⊢;obtain⟨b1,b2,b3⟩:=h1.good hb (fC.1 e3);obtain⟨f1,f2,f3,f4,_⟩:=Zj b1 (fC.1 e4);obtain⟨l1,l2,l3⟩:=ZW hte f1 f3 (f4 _ b2);have hu:=Bb.out (n:=c.tys.length) (m:=1) (l:=(r1 ((c.below [(r0 c).1.ty]).Ah x)).2.1) (by simpa[Ck.below,Ck.Ah] using b3);exact⟨l1,kr,l3,.union a3.2 hu.2⟩
theorem ej(g:List Ty):zT.inf g=(Ac,0):=kz
theorem Wq(g:List Ty):Dw.inf g=(Al,0):=kz
theorem Pb(h:E7 c t 1=0):t.err=0/\t.inf c.tys=(Ac,0):=by
 obtain⟨a,b,d,e⟩:=XW h;exact⟨a,by rw[b,bu d e]⟩
theorem Uq(h:E7 c t 2=0):t.err=0/\t.inf c.tys=(Al,0):=by
 obtain⟨a,b,d,e⟩:=XW h;exact⟨a,by rw[b,Ymf d e]⟩
theorem vo:Ac.err=0:=kq
theorem J0:Al.err=0:=kq
theorem Ck.ok.one(h:c.ok){s:Ty}(hs:s.err=0):∀x∈c.tys++[s],x.err=0:=fun x hx=>by
 rcases fV.1 hx with hx|hx
 .exact h.all x hx
 grind
theorem dB(h0:BP r0)(h1:BP r1){f:Fm}(hc:c.ok):Ft c (G7 f t r0 r1 c):=by
 unfold G7;split
 .exact qf
 rename_i e0;split
 .exact qf
 rename_i e1;split
 .exact qf
 rename_i e2;split
 .exact zx c kq
 rename_i e3;split
 .exact qf
 intro he;obtain⟨f1,f2⟩:=uf (hc.one vo) (fC.1 e0);obtain⟨t1,t2⟩:=Pb (fC.1 e1);obtain⟨p1,p2⟩:=LC f2 t2 he;have hr:=xw (fC.1 e3);have hb:((c.below [Ac]).Ah f).ok:=(hc.below (l:=[Ac]) hr.1 mc).Ah mq f1 f2;have hu:=Bb.out (n:=c.tys.length) (m:=1) (l:=(yy r1 ((c.below [Ac]).Ah f) (f.As 1 1) (sT (vT 0))).1) (by simpa[Ck.below,Ck.Ah] using uz h1 hb (f.As 1 1) (sT (vT 0)));refine⟨(yu p1).1,(yu p1).2,p2,.union (fun u hu=> ?_) hu.2⟩;rcases AM.1 hu with h|h
 .exact (JK t2).2 u h
 .exact (uz h0 hc f zT).2 u h
theorem XX(h0:BP r0)(h1:BP r1){f:Fm}(hc:c.ok):Ft c (G2 f t r0 r1 c):=by
 unfold G2;split
 .exact qf
 rename_i e0;split
 .exact qf
 rename_i e1;split
 .exact qf
 rename_i e2;split
 .exact zx c kq
 rename_i e3;split
 .exact qf
 intro he;obtain⟨f1,f2⟩:=uf (hc.one J0) (fC.1 e0);obtain⟨t1,t2⟩:=Uq (fC.1 e1);obtain⟨p1,p2⟩:=LC f2 t2 he;have hr:=xw (fC.1 e3);have hl:=wy (g:=c.tys) (h:=[Al]) [Ac] ((Fm.Aa f).1 f1).1 f2;have hb:((c.below [Ac,Al]).Ah (f.As 1 1)).ok:=(hc.below (l:=[Ac,Al]) hr.1 mD).Ah mq (JW f1 kn) (by simpa[Ck.below] using hl);have hu:=Bb.out (n:=c.tys.length) (m:=2) (l:=(yy r1 ((c.below [Ac,Al]).Ah (f.As 1 1)) (f.As 1 2) BJ).1) (by simpa[Ck.below,Ck.Ah] using uz h1 hb (f.As 1 2) BJ);refine⟨(yu p1).1,(yu p1).2,p2,.union (fun u hu=> ?_) hu.2⟩;rcases AM.1 hu with h|h
 .exact (JK t2).2 u h
 .exact (uz h0 hc f Dw).2 u h
theorem aO(hc:c.ok):Ft c (Io t c):=by
 intro he;obtain⟨t1,t2⟩:=Pb he;have s:=(Tm.Aa t).1 t1;exact⟨Lt s.1 s.1,by show(AV t t).size<=_;rw[Mp];omega,CK.2 ⟨t2,t2⟩,.nil _⟩
theorem az(h0:BP r0)(h1:BP r1){f:Fm}(hc:c.ok):Ft c (GZ f r0 r1 c):=by
 unfold GZ;split
 .exact qf
 rename_i e0;split
 .exact qf
 rename_i e1;split
 .exact zx c kq
 rename_i e2;split
 .exact qf
 intro he;obtain⟨f1,f2⟩:=uf (hc.one vo) (fC.1 e0);obtain⟨a1,a2,a3⟩:=h0.good hc (fC.1 e1);obtain⟨x,y,e⟩:=QL ((Fm.Aa _).1 a1).1 (fC.1 e2);rw[e] at a2;have hy:(r0 c).1.terms.getD 1 AB=y:=kH
 rw[hy] at he ⊢;obtain⟨p1,p2⟩:=LC f2 (CK.1 a2).2 he;exact⟨(yu p1).1,(yu p1).2,p2,uz h1 hc _ _⟩
theorem cL(g:List Ty)(s u:Ty):Ca.inf (g++[xx s u]++[s])=(u,0):=by
 refine NP (a:=s) ?_ ?_
 .rw[xe _ _ kn,if_neg kr,uu ko ko,vi ko];rfl
 .rw[xe _ _ kn,if_neg kr,vi ko];rfl
theorem Xu(h0:BP r0)(hc:c.ok):Ft c (Hi r0 c):=by
 unfold Hi;split
 .exact qf
 rename_i e0;split
 .exact zx c kq
 rename_i e1;split
 .exact zx c kq
 rename_i e2;intro he;obtain⟨a1,a2,a3⟩:=h0.good hc (fC.1 e0);rw[not_or,fC,fC] at e1;have s1:=(Fm.Aa _).1 a1;obtain⟨x,e⟩:=GM s1.1 kn;have ex:x.err=0:=xh a1 mB;have hx:(r0 c).1.args.getD 0 AK=x:=kH
 have hte:=Ks s1.1 kn;rw[hx] at e1;have s2:=(Fm.Aa _).1 ex;obtain⟨y,e'⟩:=GM s2.1 kn;have hte':=Ks s2.1 kn;have ey:y.err=0:=xh ex (by rw[e'];simp[AL]);have hy:x.args.getD 0 AK=y:=by rw[e'];rfl
 rw[e] at a2;have o1:=Gk kn a2;rw[e'] at o1;have o2:=Gk kn o1;have hcf:LG (r0 c).1=xx (r0 c).1.ty x.ty:=by unfold LG;rw[hx]
 have hcb:Kx (r0 c).1=Cr (y.As 2 1) Ca:=by unfold Kx;grind
 rw[hcf] at e2 ⊢;rw[hcb] at he ⊢;have hl:=wy (g:=c.tys) (h:=[(r0 c).1.ty,x.ty]) [xx (r0 c).1.ty x.ty] ((Fm.Aa y).1 ey).1 kr;have hl':(y.As 2 1).A9 (c.tys++[xx (r0 c).1.ty x.ty]++[(r0 c).1.ty]++[x.ty]):=kr
 obtain⟨p1,p2⟩:=LC hl' (cL _ _ _) he;have s3:=(Fm.Aa _).1 p1;refine⟨Pw kn (fC.1 e2) (Pw kn hte s3.1),by simp only[NR];omega,Ll kn (Ll kn p2),a3⟩
variable{l:List Pf}
theorem Um{i:Nat}(hi:i<l.length):(l.map yr).getD i (fun _=>yf 0)=yr l[i]:=by
 grind
theorem zh{p:Pf}(h:p.shape=true):p.head=true/\(∀t∈p.terms,t.shape=true)/\(∀f∈p.Ae,f.shape=true)/\∀x∈p.args,x.shape=true:=by
 rw[p.Ak] at h
 grind
theorem bD{t:Ty}(h:t.ok=true):t.err=0:=by
 simp only[Ty.ok,fD,decide_eq_true_eq] at h;exact(Ty.Aa t).2 h
theorem GF{p:Pf}(h:p.head=true):∃nd,B6 p.kind=some nd/\p.terms.length=nd.terms/\p.Ae.length=nd.Ae/\p.args.length=nd.args/\0<=p.index/\(nd.typ=true->p.ty.err=0)/\1<=p.kind/\p.kind<=20:=by
 unfold Pf.head at h;cases hn:B6 p.kind with
 |none=>grind
 |some nd=>
  rw[hn] at h;have hk:1<=p.kind/\p.kind<=20:=by
   refine gG fun hc=> ?_;have:B6 p.kind=none:=by
    unfold B6
    repeat rw[if_neg kn]
   grind
  simp only[fD,decide_eq_true_eq,beq_iff_eq] at h;refine⟨nd,rfl,kn,kn,kn,kn,fun ht=> ?_,hk⟩;simp only[ht,if_true] at h;exact bD h.2
theorem Kb(p:Pf):p.shape=true->BP (yr p):=by
 induction p using Pf.ind with
 |h p ih=>
  intro hs c hc;rw[wu];refine Yly ?_;obtain⟨h1,h2,h3,h4⟩:=zh hs;obtain⟨nd,n1,n2,n3,n4,n5,n6,n7⟩:=GF h1;have hrs:∀i,i<p.args.length->BP ((p.args.map yr).getD i fun _=>yf 0):=fun i hi=>by
   simp_all
  have hk:p.kind=1\/p.kind=2\/p.kind=3\/p.kind=4\/p.kind=5\/p.kind=6\/p.kind=7\/p.kind=8\/p.kind=9\/p.kind=10\/p.kind=11\/p.kind=12\/p.kind=13\/p.kind=14\/p.kind=15\/p.kind=16\/p.kind=17\/p.kind=18\/p.kind=19\/p.kind=20:=kn
  unfold JC;rcases hk with e|e|e|e|e|e|e|e|e|e|e|e|e|e|e|e|e|e|e|e<;>rw[e] at n1 ⊢<;>simp only[B6] at n1<;>(try(simp at n1))<;>(try subst n1)<;>simp only[reduceIte,Int.reduceEq,or_false,or_true]<;>simp only at n4 n6
  .exact aL hc n5
  .exact Zr hc n5
  .exact de (hrs 0 kn) (hrs 1 kn) hc
  .exact RS (hrs 0 kn) hc kq
  .exact RS (hrs 0 kn) hc kq
  .exact bY (hrs 0 kn) hc
  .exact cg (hrs 0 kn) (hrs 1 kn) hc
  .exact r9
  .exact QS (hrs 0 kn) hc
  .exact Q8 (hrs 0 kn) hc
  .exact sE
  .exact r9
  .exact QS (hrs 0 kn) hc
  .exact Q8 (hrs 0 kn) hc
  .exact sE
  .exact dB (hrs 0 kn) (hrs 1 kn) hc
  .exact XX (hrs 0 kn) (hrs 1 kn) hc
  .exact aO hc
  .exact az (hrs 0 kn) (hrs 1 kn) hc
  .exact Xu (hrs 0 kn) hc
theorem Py{α:Type}{l:List α}(h:l.length=1):∃a,l=[a]:=by
 match l,h with
 |[a],_=>simp
theorem dz{α:Type}{l:List α}(h:l.length=2):∃a b,l=[a,b]:=by
 match l,h with
 |[a,b],_=>simp
theorem Wc{α:Type}{l:List α}(h:l.length=0):l=[]:=fX h
theorem Yhf{p:Pf}(hs:p.shape=true)(hc:c.ok):Ft c (JC p.kind p.index p.ty p.terms p.Ae (p.args.map yr) c):=by
 obtain⟨h1,h2,h3,h4⟩:=zh hs;obtain⟨nd,n1,n2,n3,n4,n5,n6,n7⟩:=GF h1;have hrs:∀i,i<p.args.length->BP ((p.args.map yr).getD i fun _=>yf 0):=fun i hi=>by
  rw[Um hi];exact Kb _ (h4 _ (fA hi))
 have hk:p.kind=1\/p.kind=2\/p.kind=3\/p.kind=4\/p.kind=5\/p.kind=6\/p.kind=7\/p.kind=8\/p.kind=9\/p.kind=10\/p.kind=11\/p.kind=12\/p.kind=13\/p.kind=14\/p.kind=15\/p.kind=16\/p.kind=17\/p.kind=18\/p.kind=19\/p.kind=20:=kn
 unfold JC;rcases hk with e|e|e|e|e|e|e|e|e|e|e|e|e|e|e|e|e|e|e|e<;>rw[e] at n1 ⊢<;>simp only[B6] at n1<;>(try(simp at n1))<;>(try subst n1)<;>simp only[reduceIte,Int.reduceEq,or_false,or_true]<;>simp only at n4 n6
 .exact aL hc n5
 .exact Zr hc n5
 .exact de (hrs 0 kn) (hrs 1 kn) hc
 .exact RS (hrs 0 kn) hc kq
 .exact RS (hrs 0 kn) hc kq
 .exact bY (hrs 0 kn) hc
 .exact cg (hrs 0 kn) (hrs 1 kn) hc
 .exact r9
 .exact QS (hrs 0 kn) hc
 .exact Q8 (hrs 0 kn) hc
 .exact sE
 .exact r9
 .exact QS (hrs 0 kn) hc
 .exact Q8 (hrs 0 kn) hc
 .exact sE
 .exact dB (hrs 0 kn) (hrs 1 kn) hc
 .exact XX (hrs 0 kn) (hrs 1 kn) hc
 .exact aO hc
 .exact az (hrs 0 kn) (hrs 1 kn) hc
 .exact Xu (hrs 0 kn) hc
theorem cP(f:Fm):(f.args.getD 0 AK).full<=f.full+2:=by
 cases h:f.args with
 |nil=>exact gD (by decide:AK.full<=2) kn
 |cons x l=>
  have:=zc Fm.full (l:=f.args) (t:=x) kr;have:=f.Ag
  grind
def IA(lems:List Fm)(tys:List Ty)(hyps:List Fm):Int:=
 if lems.length>32 then 3 else if ur (y8 []) lems≠0 then ur (y8 []) lems else if ww tys≠0 then ww tys
 else if hyps.length>16 then 3 else ur (y8 tys) hyps
theorem Ym9{lems:List Fm}{tys:List Ty}{hyps:List Fm}(h:IA lems tys hyps=0):(Ck.mk lems tys hyps).ok:=by
 unfold IA at h;by_cases h1:lems.length>32
 .omega
 rw[if_neg h1] at h;by_cases h2:ur (y8 []) lems≠0
 .omega
 rw[if_neg h2] at h;by_cases h3:ww tys≠0
 .omega
 rw[if_neg h3] at h;by_cases h4:hyps.length>16
 .omega
 rw[if_neg h4] at h;exact⟨fC.1 h3,kr,kr,fun f hf=>we (Oe h f hf),fun f hf=>we (Oe (fC.1 h2) f hf)⟩
theorem WT(h:c.ok):IA c.lems c.tys c.hyps=0:=by
 unfold IA;rw[if_neg (by have:=h.nl;omega),if_neg,if_neg (by simp[h.ctx]),if_neg (by have:=h.nh;omega)]
 .exact Qm fun f hf=>Q4 (h.hyps f hf).2 (h.hyps f hf).1 h.ctx
 .rw[Qm fun f hf=>Q4 (h.lems f hf).2 (h.lems f hf).1 rfl];simp
def yb(lems:List Fm)(tys:List Ty)(hyps:List Fm)(p:Pf):Cj:=
 if IA lems tys hyps≠0 then yf (IA lems tys hyps) else if p.err≠0 then yf p.err else yr p ⟨lems,tys,hyps⟩
def AN(k:Int):Int:=if k=16\/k=17\/k=19 then 1 else 0
def Aw(k:Int):Int:=if k=17 then 2 else if k=8\/k=12\/k=11\/k=15\/k=16 then 1 else 0
def AA(k:Int):Int:=if k=6\/k=11\/k=15\/k=16\/k=17 then 1 else 0
def Ds(k:Int):List V:=match B6 k with
 |some n=>[.bool n.index,.bool n.typ,.i n.terms,.i n.Ae,.i n.args,.i (AN k),.i (Aw k),.i (AA k)]
 |none=>[.bool false,.bool false,.i 0,.i 0,.i 0,.i 0,.i 0,.i 0]
abbrev Tl:=Nat×Bool
def Ce:List Tm->Tl->Bool×Tl
 |[],s=>(true,s)
 |t::l,s=>if t.err=2 then(false,(s.1+t.num.toNat,s.2||t.err==4)) else Ce l (s.1+t.num.toNat,s.2||t.err==4)
def Cu:List Fm->Tl->Bool×Tl
 |[],s=>(true,s)
 |t::l,s=>if t.err=2 then(false,(s.1+t.num.toNat,s.2||t.err==4)) else Cu l (s.1+t.num.toNat,s.2||t.err==4)
def Pf.GQ(p:Pf):Bool:=match B6 p.kind with
 |none=>false
 |some n=>p.terms.length==n.terms&&p.Ae.length==n.Ae&&p.args.length==n.args&&decide (0<=p.index)&&(n.index||p.index==0)
def Pf.Ie(p:Pf):Bool:=match B6 p.kind with
 |none=>false
 |some n=>if n.typ=true then p.ty.ok else p.ty.Bv
mutual
def Em:Pf->Tl->Bool×Tl
 | .mk k i h ts fs zs,s=>
   if Pf.GQ (.mk k i h ts fs zs)=false then(false,s) else if Pf.Ie (.mk k i h ts fs zs)=false then(false,(s.1+1,s.2))
   else if(Ce ts (s.1+1,s.2)).1=false then Ce ts (s.1+1,s.2)
   else if(Cu fs (Ce ts (s.1+1,s.2)).2).1=false then Cu fs (Ce ts (s.1+1,s.2)).2
   else CU zs (Cu fs (Ce ts (s.1+1,s.2)).2).2
def CU:List Pf->Tl->Bool×Tl
 |[],s=>(true,s)
 |p::l,s=>if(Em p s).1=false then Em p s else CU l (Em p s).2
end
theorem dN(p:Pf)(s:Tl):Em p s=if p.GQ=false then(false,s) else if p.Ie=false then(false,(s.1+1,s.2))
 else if(Ce p.terms (s.1+1,s.2)).1=false then Ce p.terms (s.1+1,s.2)
 else if(Cu p.Ae (Ce p.terms (s.1+1,s.2)).2).1=false then Cu p.Ae (Ce p.terms (s.1+1,s.2)).2
 else CU p.args (Cu p.Ae (Ce p.terms (s.1+1,s.2)).2).2:=by
 cases p;rfl
theorem Vq:∀(l m:List Tm) (s:Tl),(Ce l s).1=true->Ce (l++m) s=Ce m (Ce l s).2
 |[],m,s,_=>rfl
 |t::l,m,s,h=>by
  simp only[Ce,iJ] at h ⊢;by_cases e:t.err=2
  .grind
  .rw[if_neg e] at h ⊢;rw[if_neg e];exact Vq l m _ h
theorem Tg:∀(l m:List Fm) (s:Tl),(Cu l s).1=true->Cu (l++m) s=Cu m (Cu l s).2
 |[],m,s,_=>rfl
 |t::l,m,s,h=>by
  simp only[Cu,iJ] at h ⊢;by_cases e:t.err=2
  .grind
  .rw[if_neg e] at h ⊢;rw[if_neg e];exact Tg l m _ h
theorem VX:∀(l m:List Pf) (s:Tl),(CU l s).1=true->CU (l++m) s=CU m (CU l s).2
 |[],m,s,_=>rfl
 |t::l,m,s,h=>by
  simp only[CU,iJ] at h ⊢;by_cases e:(Em t s).1=false
  .grind
  .rw[if_neg e] at h ⊢;rw[if_neg e];exact VX l m _ h
theorem bL{l:List Tm}{s:Tl}(hm:m<l.length)(h:(Ce (l.take m) s).1=true):Ce (l.take (m+1)) s=Ce [l[m]] (Ce (l.take m) s).2:=by
 rw[gQ hm,Vq _ _ _ h]
theorem Zh{l:List Tm}{s:Tl}(hm:m<l.length)(h:(Ce (l.take m) s).1=true)(he:l[m].err=2):Ce l s=(false,((Ce (l.take m) s).2.1+l[m].num.toNat,(Ce (l.take m) s).2.2||l[m].err==4)):=by
 have e:Ce l s=Ce (l.take m++l[m]::l.drop (m+1)) s:=ko
 rw[e,Vq _ _ _ h,Ce,if_pos he]
theorem bk{l:List Fm}{s:Tl}(hm:m<l.length)(h:(Cu (l.take m) s).1=true):Cu (l.take (m+1)) s=Cu [l[m]] (Cu (l.take m) s).2:=by
 rw[gQ hm,Tg _ _ _ h]
theorem eU{l:List Fm}{s:Tl}(hm:m<l.length)(h:(Cu (l.take m) s).1=true)(he:l[m].err=2):Cu l s=(false,((Cu (l.take m) s).2.1+l[m].num.toNat,(Cu (l.take m) s).2.2||l[m].err==4)):=by
 have e:Cu l s=Cu (l.take m++l[m]::l.drop (m+1)) s:=ko
 rw[e,Tg _ _ _ h,Cu,if_pos he]
theorem Zm{s:Tl}(hm:m<l.length)(h:(CU (l.take m) s).1=true):CU (l.take (m+1)) s=CU [l[m]] (CU (l.take m) s).2:=by
 rw[gQ hm,VX _ _ _ h]
theorem XQ(p:Pf)(s:Tl):CU [p] s=Em p s:=by
 simp only[CU]
 grind
theorem ak{s:Tl}(hm:m<l.length)(h:(CU (l.take m) s).1=true)(he:(Em l[m] (CU (l.take m) s).2).1=false):CU l s=Em l[m] (CU (l.take m) s).2:=by
 have e:CU l s=CU (l.take m++l[m]::l.drop (m+1)) s:=ko
 rw[e,VX _ _ _ h,CU,if_pos he]
theorem UG(t:Tm):(t.err=0/\t.shape=true/\t.size<=4096/\t.num=t.size)\/(t.err=2/\t.shape=false/\t.num=0)\/(t.err=4/\t.shape=true/\¬t.size<=4096/\t.num=0):=by
 unfold Tm.num Tm.err
 grind
theorem Zyu(t:Fm):(t.err=0/\t.shape=true/\t.size<=4096/\t.num=t.size)\/(t.err=2/\t.shape=false/\t.num=0)\/(t.err=4/\t.shape=true/\¬t.size<=4096/\t.num=0):=by
 unfold Fm.num Fm.err
 grind
theorem Na:∀(l:List Tm) (s:Tl),(Ce l s).1=l.all Tm.shape/\(Ce l s).2.1<=s.1+(l.map Tm.size).sum/\
 (l.all Tm.shape=true->(Ce l s).2.2=(s.2|| !(l.all fun t=>decide (t.size<=4096)))/\((l.all fun t=>decide (t.size<=4096))=true->(Ce l s).2.1=s.1+(l.map Tm.size).sum))
 |[],s=>by simp[Ce]
 |t::l,s=>by
  have ih:=Na l (s.1+t.num.toNat,s.2||t.err==4);simp only[Ce,jg,fJ,fT];rcases UG t with⟨h1,h2,h3,h4⟩|⟨h1,h2,h3⟩|⟨h1,h2,h3,h4⟩
  .rw[if_neg kn]
   grind
  all_goals grind
theorem MK:∀(l:List Fm) (s:Tl),(Cu l s).1=l.all Fm.shape/\(Cu l s).2.1<=s.1+(l.map Fm.size).sum/\
 (l.all Fm.shape=true->(Cu l s).2.2=(s.2|| !(l.all fun t=>decide (t.size<=4096)))/\((l.all fun t=>decide (t.size<=4096))=true->(Cu l s).2.1=s.1+(l.map Fm.size).sum))
 |[],s=>by simp[Cu]
 |t::l,s=>by
  have ih:=MK l (s.1+t.num.toNat,s.2||t.err==4);simp only[Cu,jg,fJ,fT];rcases Zyu t with⟨h1,h2,h3,h4⟩|⟨h1,h2,h3⟩|⟨h1,h2,h3,h4⟩
  .rw[if_neg kn]
   grind
  all_goals grind
theorem Zx0(p:Pf):p.head=(p.GQ&&p.Ie):=by
 unfold Pf.head Pf.GQ Pf.Ie;cases B6 p.kind<;>simp_all
theorem WD(l:List Pf)(ih:∀p∈l,∀s:Tl,(Em p s).1=p.shape/\(Em p s).2.1<=s.1+p.size/\(p.shape=true->(Em p s).2.2=(s.2|| !p.small)/\(p.small=true->(Em p s).2.1=s.1+p.size))):
 ∀s:Tl,(CU l s).1=l.all Pf.shape/\(CU l s).2.1<=s.1+(l.map Pf.size).sum/\(l.all Pf.shape=true->(CU l s).2.2=(s.2|| !(l.all Pf.small))/\(l.all Pf.small=true->(CU l s).2.1=s.1+(l.map Pf.size).sum)):=by
 induction l with
 |nil=>intro s;simp[CU]
 |cons p l ihl=>
  intro s;obtain⟨a1,a2,a3⟩:=ih p ko s;have b:=ihl (fun q hq=>ih q kr) (Em p s).2;simp only[CU,jg,fJ,fT]
  grind
theorem UO(p:Pf):∀s:Tl,(Em p s).1=p.shape/\(Em p s).2.1<=s.1+p.size/\(p.shape=true->(Em p s).2.2=(s.2|| !p.small)/\(p.small=true->(Em p s).2.1=s.1+p.size)):=by
 induction p using Pf.ind with
 |h p ih=>
  intro s;have hsz:=p.size_eq;rw[dN,p.Ak,p.CE,Zx0];by_cases h1:p.GQ=false
  .grind
  rw[if_neg h1];rw[iS] at h1;by_cases h2:p.Ie=false
  .grind
  rw[if_neg h2];rw[iS] at h2;rw[h1,h2];have t:=Na p.terms (s.1+1,s.2);have f:=MK p.Ae (Ce p.terms (s.1+1,s.2)).2;have a:=WD p.args ih (Cu p.Ae (Ce p.terms (s.1+1,s.2)).2).2
  grind
theorem T9{p:Pf}(hs:p.shape=true):∃nd,B6 p.kind=some nd/\p.terms.length=nd.terms/\p.Ae.length=nd.Ae/\p.args.length=nd.args/\0<=p.index/\(nd.index=false->p.index=0)/\(nd.typ=true->p.ty.err=0)/\(nd.typ=false->p.ty= .mk 0 [])/\1<=p.kind/\p.kind<=20:=by
 have h:=(zh hs).1;obtain⟨nd,n1,n2,n3,n4,n5,n6,n7⟩:=GF h;refine⟨nd,n1,n2,n3,n4,n5,?_,n6,?_,n7⟩
 .intro hi;unfold Pf.head at h
  grind
 .intro hi;unfold Pf.head at h;rw[n1] at h;simp only[fD,decide_eq_true_eq,beq_iff_eq,ic] at h;have h2:=h.2;rw[if_neg kr] at h2;exact Ty.Ez h2
def Pf.num(p:Pf):Int:=if p.err=0 then p.size else 0
theorem Z7{s:Tm}(hk:E7 c s 1=0)(he:(AV s s).err=0):yr (xz s) c=(AV s s,[],0):=by
 rw[wu];have e:JC (xz s).kind (xz s).index (xz s).ty (xz s).terms (xz s).Ae ((xz s).args.map yr) c=Io s c:=rfl;rw[e];unfold Io DH
 grind
def ZN(f:Fm)(p q:Pf):Pf:= .mk 19 0 (.mk 0 []) [] [f] [p,q]
theorem Rm(hc:c.ok){s:Tm}(he:s.err=0)(hi:s.inf c.tys=(Ac,0)):E7 c s 1=0:=by
 have e:yx c.tys s=(Ac,0):=by
  unfold yx EM;rw[if_neg (by simp[hc.ctx]),if_neg kn,hi]
 unfold E7;rw[e];rfl
structure CS (g:List Ty) (s:Tm):Prop where
 err:s.err=0
 inf:s.inf g=(Ac,0)
 size:s.size<=900
theorem CS.shape{g:List Ty}{s:Tm}(h:CS g s):s.shape=true:=((Tm.Aa s).1 h.err).1
theorem CS.near{g:List Ty}{s:Tm}(h:CS g s)(hg:g.length<=1000):s.near=true:=Kz (by rw[h.inf]) h.shape (by have:=h.size;omega)
theorem W7{a:Tm}(ha:a.shape=true)(hb:b.shape=true)(hz:a.size+b.size<=4095):(AV a b).err=0:=
 (Fm.Aa _).2 ⟨Lt ha hb,by rw[Mp];omega⟩
theorem Un{g:List Ty}{f:Fm}(h:f.A9 g)(he:f.err=0):va g f=0:=by
 have h1:=(Fm.Aa f).1 he;unfold va;rw[if_neg kn];exact dJ f g h h1.1 h1.2
theorem UT(g:List Ty)(u:Ty):(vT 0).inf (g++[u])=(u,0):=by
 rw[xe _ _ kn,if_neg ko];have:FK (g++[u]) 0=FK [u] 0:=vi ko;simp only[Int.toNat_zero];rw[this];rfl
theorem Yt8(a b:Tm):ud 0 ((AV a b).A6 0)=cnt 0 (a.vars 0)+cnt 0 (b.vars 0):=by
 rfl
theorem Yqd{a:Tm}(ha:a.near=true)(hb:b.near=true):(AV a b).near=true:=by
 unfold Fm.near;simp[AV,Fm.A6,Fm.HJ,ha,hb]
structure DW (g:List Ty) (a b:Tm):Prop where
 sa:a.shape=true
 sb:b.shape=true
 ia:a.inf (g++[Ac])=(Ac,0)
 ib:b.inf (g++[Ac])=(Ac,0)
 sz:a.size+b.size<=3000
theorem DW.err{g:List Ty}{a b:Tm}(h:DW g a b):(AV a b).err=0:=W7 h.sa h.sb (by have:=h.sz;omega)
theorem DW.near{g:List Ty}{a b:Tm}(h:DW g a b)(hg:g.length<=16):(AV a b).near=true:=
 Yqd (Kz (by rw[h.ia]) h.sa (by have:=h.sz;grind)) (Kz (by rw[h.ib]) h.sb (by have:=h.sz;grind))
theorem DW.put{g:List Ty}{a s:Tm}(h:DW g a b)(hg:g.length<=16)(hs:CS g s)(hz:1+a.size+b.size+(cnt 0 (a.vars 0)+cnt 0 (b.vars 0))*s.size<=4096):xm (AV a b) 0 s=0:=by
 unfold xm;rw[if_neg (by simp[h.err]),if_neg kn,if_neg (by simp[hs.err]),if_neg (by simp[h.near hg,hs.near kn]),if_neg];rw[Yt8,Mp]
 grind
def JL(g s:Tm)(p:Pf):Pf:=ZN (AV (AE (g.re (zi 0 1) 0) (s.re (zi 0 1) 0)) (AE (g.re (zi 0 1) 0) (vT 0))) p (xz (AE g s))
theorem CS.refl(hc:c.ok){s:Tm}(h:CS c.tys s):yr (xz s) c=(AV s s,[],0):=
 Z7 (Rm hc h.err h.inf) (W7 h.shape h.shape (by have:=h.size;omega))
theorem CS.IU{g:List Ty}{s:Tm}(hs:CS g s)(ht:CS g t):(AV s t).err=0:=W7 hs.shape ht.shape (by have:=hs.size;have:=ht.size;omega)
structure aH (g:List Ty) (f:Tm):Prop where
 err:f.err=0
 inf:f.inf g=(xx Ac Ac,0)
 size:f.size<=500
def Dk.DP:Nat->Dk->List Ty->List Fm×Dk
 |0,d,_=>([],d)
 |n+1,d,g=>((Dk.fm 2 d g).1::(Dk.DP n (Dk.fm 2 d g).2 g).1,(Dk.DP n (Dk.fm 2 d g).2 g).2)
theorem Dk.EA:∀(n:Nat) (d:Dk) (g:List Ty),Dk.DP (n+1) d g=((Dk.DP n d g).1++[(Dk.fm 2 (Dk.DP n d g).2 g).1],(Dk.fm 2 (Dk.DP n d g).2 g).2)
 |0,d,g=>rfl
 |n+1,d,g=>by
  have ih:=Dk.EA n (Dk.fm 2 d g).2 g;rw[Dk.DP,ih];rfl
theorem Dk.DD:∀(n:Nat) (d:Dk) (g:List Ty),(Dk.DP n d g).1.length=n
 |0,_,_=>rfl
 |n+1,d,g=>by simp[Dk.DP,Dk.DD n]
theorem Dk.EF:∀(n:Nat) (d:Dk) (g:List Ty),d.ok->(Dk.DP n d g).2.ok
 |0,_,_,h=>h
 |n+1,d,g,h=>Dk.EF n _ g (Dk.Gj 2 d g h)
theorem Dk.Et:∀(n:Nat) (d:Dk) (g:List Ty),Aj g->∀f∈(Dk.DP n d g).1,f.err=0/\f.A9 g
 |0,_,_,_,f,h=>kM
 |n+1,d,g,hg,f,h=>by
  simp only[Dk.DP,fW] at h;rcases h with rfl|h
  .exact ⟨Ymq (Dk.Cw 2 d g hg),Dk.Ji 2 d g hg⟩
  .exact Dk.Et n _ g hg f h
def Dk.M9(d:Dk):Nat:=(d.ctx.2.next 3).1.toNat
def Dk.KS(d:Dk):List Fm:=(Dk.DP d.M9 (d.ctx.2.next 3).2 d.ctx.1).1
def Dk.Nx(d:Dk):Dk:=(Dk.DP d.M9 (d.ctx.2.next 3).2 d.ctx.1).2
variable(d:Dk)
theorem Dk.Mb:d.M9<=2:=by have:=Dk.BC d.ctx.2 3 kn;unfold Dk.M9;omega
theorem Dk.LM{d:Dk}(h:d.ok):d.Nx.ok:=Dk.EF _ _ _ (Dk.AQ (Dk.GH h) 3)
theorem Dk.Hw:d.KS.length<=2:=by unfold Dk.KS;rw[Dk.DD];exact d.Mb
def Dk.UA(d:Dk):Ck:=⟨[],d.ctx.1,d.KS⟩
theorem Dk.MC:d.UA.ok:=
 ⟨Zzn (g:=d.ctx.1) d.CD (by have:=d.Hv;omega),by have:=d.Hw;simp only[Dk.UA];omega,by simp[Dk.UA],Dk.Et _ _ _ d.CD,fun f h=>kM⟩
theorem J4{g:List Ty}(hg:Aj g):CS g (Dk.tm 3 d g Ac).1/\(Dk.tm 3 d g Ac).1.size<=60:=by
 have m:=Dk.C8 3 d g Ac hg zj kn kn;have h1:=(m.size hg zj).2 rfl;have h2:=O9;exact⟨⟨m.err hg zj kn,m.inf hg zj,kn⟩,kn⟩
def Dk.w0(d:Dk):Tm×Dk:=Dk.tm 3 d.Nx d.ctx.1 Ac
def Dk.w1(d:Dk):Tm×Dk:=Dk.tm 3 d.w0.2 d.ctx.1 Ac
def Dk.w2(d:Dk):Tm×Dk:=Dk.tm 3 d.w1.2 d.ctx.1 Ac
theorem Dk.n2:CS d.ctx.1 d.w2.1/\d.w2.1.size<=60:=J4 _ d.CD
abbrev vd(i:Int):Pf:= .mk 1 i (.mk 0 []) [] [] []
theorem aJ(hi:0<=i):(vd i).err=0:=by
 rw[Pf.Aa];refine⟨?_,kz,by simp[Pf.size,Pf.sizes]⟩;rw[Pf.Ak];simp[Pf.head,B6,hi,Ty.Bv,Ty.kind,Ty.args]
theorem eC{s:Tm}(h:s.err=0):(xz s).err=0:=by
 have h1:=(Tm.Aa s).1 h;rw[Pf.Aa];refine⟨?_,?_,?_⟩
 .rw[Pf.Ak];simp[xz,Pf.head,B6,h1.1,Ty.Bv,Ty.kind,Ty.args]
 .rw[Pf.CE];simp[xz,h1.2]
 .rw[Pf.size_eq];simp[xz];omega
theorem Zx5(s:Tm):(xz s).size=1+s.size:=kz
theorem Z5(i:Int):(vd i).size=1:=kz
theorem BF.two{k i:Int}{h:Ty}{a b a' b':Tm}(ha:BF a a')(hb:BF b b'):BF (.mk k i h [a,b]) (.mk k i h [a',b']):= .node (.cons ha (.cons hb .nil))
theorem K7{g g':Int->Int->Tm}(h:∀i c,g i c=g' i c)(t:Tm)(b:Int):t.re g b=t.re g' b:=by
 have:g=g':=funext fun i=>funext fun c=>h i c
 grind
theorem Fm.Cq(G:Int->Tm->Tm)(c:Int)(f:Fm):∀b,f.re G (b+c)=f.re (fun b t=>G (b+c) t) b:=by
 induction f using Fm.ind with
 |h f ih=>
  intro b;have e:A3 f.kind (b+c)=A3 f.kind b+c:=by simp only[A3];grind
  rw[Fm.A4,Fm.A4,e];simp_all
theorem Fm.K7{G G':Int->Tm->Tm}(h:∀b t,0<=b->G b t=G' b t)(f:Fm):f.re G 0=f.re G' 0:=by
 refine Fm.Ax f 0 fun p hp=>h _ _ ?_;exact u3 p hp
theorem Wz(f:Fm)(a n:Int):f.As a n=f.re (fun b t=>t.re (zi (a+b) n) 0) 0:=rfl
theorem WI(f:Fm)(a:Int)(s:Tm):f.put a s=f.re (fun b t=>t.re (yq (a+b) s) 0) 0:=rfl
theorem Yqo(hk:wc k=true)(s:Ty)(f:Fm)(a:Int)(x:Tm):(AL k s f).put a x=AL k s (f.put (a+1) x):=by
 rw[WI,Fm.A4];simp only[AL,Fm.kind,Fm.ty,Fm.terms,Fm.args,fU,fJ];congr 2;have e:A3 k 0=0+1:=by simp[A3,hk]
 rw[e,Fm.Cq,WI]
 grind
theorem YT(f:Fm)(a n m:Int)(hn:0<=n):(f.As a n).As a m=f.As a (n+m):=by
 rw[Wz,Wz,Wz,Fm.Bz];exact Fm.K7 (fun b t _=>Yek t _ n m hn) f
structure Gf (g:List Ty) (f:Fm) (n:Nat):Prop where
 sh:f.shape=true
 sz:f.size<=n
 ok:f.A9 g
structure Gt (g:List Ty) (s:Tm) (T:Ty) (m:Nat):Prop where
 sh:s.shape=true
 sz:s.size<=m
 inf:s.inf g=(T,0)
theorem Gf.err{g:List Ty}{f:Fm}{n:Nat}(h:Gf g f n)(hn:n<=4096):f.err=0:=(Fm.Aa f).2 ⟨h.sh,gD h.sz hn⟩
theorem Gt.err{g:List Ty}{s:Tm}{T:Ty}{m:Nat}(h:Gt g s T m)(hn:m<=4096):s.err=0:=(Tm.Aa s).2 ⟨h.sh,gD h.sz hn⟩
theorem TF(f:Fm)(a:Int):ud a (f.A6 0)<=f.size:=by
 have h1:=MP a (f.A6 0);have h2:=OG f 0;omega
theorem Gf.put{g:List Ty}{f:Fm}{n m:Nat}{s:Tm}{T:Ty}(hf:Gf (g++[T]) f n)(hs:Gt g s T m)(hm:1<=m)(hz:n*m<=4096)(hg:g.length<=20):
 xm f 0 s=0/\Gf g (f.put 0 s) (n*m):=by
 have hn:n<=n*m:=Nat.le_mul_of_pos_right n hm;have ef:=hf.err kn;have hp:=s.size_pos;have p2:=f.size_pos;have hmz:m<=4096:=by
  have:1*m<=n*m:=gX m (by have:=hf.sz;omega);omega
 have es:=hs.err hmz;have nf:=(Yae hf.ok ef kr).1;have ns:=Kz (t:=s) (g:=g) (by rw[hs.inf]) hs.sh (by have:=hs.sz;omega);have hc:=TF f 0;have h1:ud 0 (f.A6 0)*(s.size-1)<=n*(m-1):=iD (gD hc hf.sz) (by have:=hs.sz;omega);have h2:n*(m-1)+n=n*m:=by rw[<-Nat.mul_succ];grind
 have h3:=hf.sz;refine⟨?_,uj kn hs.sh hf.sh,?_,?_⟩
 .unfold xm
  grind
 .have h4:=v7 0 s hs.sh f hf.sh 0;have h5:(f.put 0 s).size=f.size+ud 0 (f.A6 0)*(s.size-1):=h4;omega
 .have h6:=Uc 0 s g T hs.sh hs.inf f [] 0 rfl hf.sh (by simpa using hf.ok);have h7:(f.put 0 s).A9 (g++[]):=h6
  grind
theorem Gf.As{g h:List Ty}(m:List Ty){f:Fm}{n:Nat}(hf:Gf (g++h) f n):Gf (g++m++h) (f.As h.length m.length) n:=
 have hk:=yt hf.sh (fr:=h.length) (by_:=m.length) kn
 ⟨hk.1,by rw[hk.2.1];exact hf.sz,wy m hf.sh hf.ok⟩
theorem Gf.qu{g:List Ty}{s:Ty}{f:Fm}{n:Nat}(k:Int)(hk:4<=k/\k<=7)(hs:s.err=0)(hf:Gf (g++[s]) f n):Gf g (AL k s f) (n+1):=
 ⟨Pw hk hs hf.sh,by rw[NR];have:=hf.sz;omega,Ll hk hf.ok⟩
theorem Gt.nil(g:List Ty):Gt g Dw Al 1:=⟨kq,kq,Wq g⟩
theorem Gt.v0(g:List Ty)(u:Ty):Gt (g++[u]) (vT 0) u 1:=⟨kq,kq,UT g u⟩
theorem Gt.v1(g:List Ty)(u w:Ty):Gt (g++[u,w]) (vT 1) u 1:=by
 refine⟨kq,kq,?_⟩;rw[xe _ _ kn,if_neg kr];have:FK (g++[u,w]) 1=FK [u,w] 1:=vi ko;simp only[show(1:Int).toNat=1 from rfl];rw[this];rfl
theorem Gt.Ob(g:List Ty):Gt (g++[Ac]) (sT (vT 0)) Ac 2:=by
 have h:=Gt.v0 g Ac;exact⟨kq,kq,by
  have e:(sT (vT 0)).inf (g++[Ac])=(Ac,0):=by simp[sT,Tm.inf,Tm.A1,Cd,h.inf]
  exact e⟩
theorem Gt.cons(g:List Ty):Gt (g++[Ac,Al]) BJ Al 3:=by
 have h1:=(Gt.v1 g Ac Al).inf;have h0:(vT 0).inf (g++[Ac,Al])=(Al,0):=by
  have:=(Gt.v0 (g++[Ac]) Al).inf
  grind
 exact⟨kq,kq,by
  have e:BJ.inf (g++[Ac,Al])=(Al,0):=by simp[BJ,Tm.inf,Tm.A1,Cd,h0,h1]
  exact e⟩
theorem VB(hc:c.ok){s:Tm}{T:Ty}(he:s.err=0)(hi:s.inf c.tys=(T,0)):yx c.tys s=(T,0):=by
 unfold yx EM;rw[if_neg (by simp[hc.ctx]),if_neg kn,hi]
theorem Yf2(hc:c.ok){s:Tm}(he:s.err=0)(hi:s.inf c.tys=(Al,0)):E7 c s 2=0:=by
 unfold E7;rw[VB hc he hi];rfl
mutual
def Pf.up(fr b v:Int):Pf->Pf
 | .mk k i s ts fs zs=> .mk k i s (ts.map fun t=>t.re (zi (fr+v) b) 0) (fs.map fun f=>f.As (fr+(v+AN k)) b) (Pf.Gv fr b v (Aw k) zs)
def Pf.Gv(fr b v w:Int):List Pf->List Pf
 |[]=>[]
 |p::l=>Pf.up fr b (if l.length=0 then v+w else v) p::Pf.Gv fr b v w l
end
mutual
def Pf.lh(fr b y:Int):Pf->Pf
 | .mk k i s ts fs zs=>if k=1 then .mk 1 (if i-y>=fr then i+b else i) (.mk 0 []) [] [] [] else .mk k i s ts fs (Pf.lhs fr b y (AA k) zs)
def Pf.lhs(fr b y w:Int):List Pf->List Pf
 |[]=>[]
 |p::l=>Pf.lh fr b (if l.length=0 then y+w else y) p::Pf.lhs fr b y w l
end
theorem Pf.Fb(fr b v:Int)(p:Pf):p.up fr b v= .mk p.kind p.index p.ty (p.terms.map fun t=>t.re (zi (fr+v) b) 0) (p.Ae.map fun f=>f.As (fr+(v+AN p.kind)) b) (Pf.Gv fr b v (Aw p.kind) p.args):=kZ
theorem Pf.Gi(fr b y:Int)(p:Pf):p.lh fr b y=if p.kind=1 then .mk 1 (if p.index-y>=fr then p.index+b else p.index) (.mk 0 []) [] [] [] else .mk p.kind p.index p.ty p.terms p.Ae (Pf.lhs fr b y (AA p.kind) p.args):=kZ
theorem LB(fr b v w:Int):∀l:List Pf,(Pf.Gv fr b v w l).length=l.length
 |[]=>kz
 |p::l=>by simp only[Pf.Gv,fQ,LB fr b v w l]
theorem O0(fr b v w:Int):∀l:List Pf,(Pf.lhs fr b v w l).length=l.length
 |[]=>kz
 |p::l=>by simp only[Pf.lhs,fQ,O0 fr b v w l]
theorem On(fr b v w:Int):∀(l:List Pf) (m:Nat) (h:m<l.length) (h':m<(Pf.Gv fr b v w l).length),(Pf.Gv fr b v w l)[m]=l[m].up fr b (if m+1=l.length then v+w else v)
 |p::l,0,h,h'=>by
  simp only[Pf.Gv,fM,fQ];simp
 |p::l,m+1,h,h'=>by
  simp only[Pf.Gv,gi,fQ,gZ];exact On fr b v w l m kr _
theorem SG(fr b v w:Int):∀(l:List Pf) (m:Nat) (h:m<l.length) (h':m<(Pf.lhs fr b v w l).length),(Pf.lhs fr b v w l)[m]=l[m].lh fr b (if m+1=l.length then v+w else v)
 |p::l,0,h,h'=>by
  simp only[Pf.lhs,fM,fQ];simp
 |p::l,m+1,h,h'=>by
  simp only[Pf.lhs,gi,fQ,gZ];exact SG fr b v w l m kr _
mutual
def Pf.ix(C:Int):Pf->Prop
 | .mk _ _ _ ts fs zs=>(∀t∈ts,∀p∈t.vars 0,0<=p.1/\p.1<C)/\(∀f∈fs,∀p∈f.A6 0,∀q∈p.1.vars 0,0<=q.1/\q.1<C)/\Pf.ixs C zs
def Pf.ixs(C:Int):List Pf->Prop
 |[]=>True
 |p::l=>Pf.ix C p/\Pf.ixs C l
end
theorem ZK(C:Int):∀l:List Pf,Pf.ixs C l↔∀p∈l,p.ix C
 |[]=>by simp[Pf.ixs]
 |p::l=>by simp[Pf.ixs,ZK C l]
variable(C:Int)
theorem Pf.Bl(p:Pf):p.ix C↔(∀t∈p.terms,∀q∈t.vars 0,0<=q.1/\q.1<C)/\(∀f∈p.Ae,∀q∈f.A6 0,∀r∈q.1.vars 0,0<=r.1/\r.1<C)/\∀x∈p.args,x.ix C:=by
 cases p;simp only[Pf.ix,ZK];rfl
mutual
def Pf.hx(C:Int):Pf->Prop
 | .mk k i _ _ _ zs=>if k=1 then 0<=i/\i<C else Pf.hxs C zs
def Pf.hxs(C:Int):List Pf->Prop
 |[]=>True
 |p::l=>Pf.hx C p/\Pf.hxs C l
end
theorem YR(C:Int):∀l:List Pf,Pf.hxs C l↔∀p∈l,p.hx C
 |[]=>by simp[Pf.hxs]
 |p::l=>by simp[Pf.hxs,YR C l]
theorem Pf.Bj(p:Pf):p.hx C↔(p.kind=1->0<=p.index/\p.index<C)/\(p.kind≠1->∀x∈p.args,x.hx C):=by
 cases p with
 |mk k i s ts fs zs=>
  by_cases h:k=1
  .simp[Pf.hx,h,Pf.kind,Pf.index]
  .simp[Pf.hx,h,YR,Pf.kind,Pf.args]
theorem Ws{C:Int}(h:0<=i/\i<C):(vd i).hx C:=by simpa[vd,Pf.hx] using h
theorem Yrm(i:Int):(vd i).ix C:=by simp[Pf.ix,Pf.ixs]
end Go.Ab
namespace Go.Ab
open Go
set_option linter.all false
set_option maxHeartbeats 1000000
inductive FP:Fm->Fm->Prop
 |refl (f):FP f f
 |eq {a b b'} (h:BE b b'):FP (AV a b) (AV a b')
 |two {k a a' b b'} (ha:FP a a') (hb:FP b b'):FP (vm k a b) (vm k a' b')
 |qu {k s a a'} (ha:FP a a'):FP (AL k s a) (AL k s a')
def arg(f:Fm)(i:Nat):Fm:=f.args.getD i AK
def Cb(f:Fm)(i:Nat):Tm:=f.terms.getD i AB
theorem Zuc{F:Fm}{s:Tm}(hF:F.err=0)(hn:F.near=true)(hs:s.err=0)(hm:s.near=true):xm F 0 s=0\/xm F 0 s=4:=by
 unfold xm;rw[if_neg (by simp[hF]),if_neg kn,if_neg (by simp[hs]),if_neg (by simp[hn,hm])];split
 .exact .inr rfl
 .exact .inl rfl
theorem uo(k i:Int)(s:Ty)(ts:List Tm)(fs:List Fm)(zs:List Pf):(Pf.mk k i s ts fs zs).full=1+s.size+(ts.map Tm.full).sum+(fs.map Fm.full).sum+(zs.map Pf.full).sum:=Pf.Ag _
theorem Iy:(Ty.mk 0 []).size=1:=kq
theorem MB{s:Ty}(h:s.err=0):s.size<=64:=((Ty.Aa s).1 h).2
def Tw:Nat->Nat->Fm->Prop
 |0,L,f=>∃s t,f=AV s t/\f.size<=L
 |n+1,L,f=>(∃s t,f=AV s t/\f.size<=L)\/(∃k a b,(k=2\/k=3)/\f=vm k a b/\Tw n L a/\Tw n L b)\/∃k s a,(4<=k/\k<=7)/\s.small/\f=AL k s a/\Tw n L a
theorem Tw.size:∀{n L:Nat} {f:Fm},Tw n L f->f.size+1<=(L+1)*2^n
 |0,L,f,⟨s,t,e,h⟩=>kn
 |n+1,L,f,h=>by
  have hp:1<=2^n:=iY;have h2:(L+1)*2^(n+1)=2*((L+1)*2^n):=kr
  have h3:(L+1)*1<=(L+1)*2^n:=Nat.mul_le_mul_left _ hp;rcases h with⟨s,t,e,h⟩|⟨k,a,b,hk,e,ha,hb⟩|⟨k,s,a,hk,hs,e,ha⟩
  .omega
  .have h4:=ha.size;have h5:=hb.size;rw[e,R5];omega
  .have h4:=ha.size;rw[e,NR];omega
variable{n:Nat}
theorem Tw.up{L:Nat}{f:Fm}(h:Tw n L f):Tw (n+1) L f:=by
 induction n generalizing f with
 |zero=>exact .inl h
 |succ n ih=>
  rcases h with h|⟨k,a,b,hk,e,ha,hb⟩|⟨k,s,a,hk,hs,e,ha⟩
  .exact .inl h
  .exact .inr (.inl ⟨k,a,b,hk,e,ih ha,ih hb⟩)
  .exact .inr (.inr ⟨k,s,a,hk,hs,e,ih ha⟩)
variable{k:Int}
theorem Yng(hk:k=2\/k=3)(a b:Fm)(i:Int)(x:Tm):(vm k a b).put i x=vm k (a.put i x) (b.put i x):=by
 rw[WI,Fm.A4];have e:A3 k 0=0:=by rcases hk with rfl|rfl<;>rfl
 simp only[vm,Fm.kind,Fm.ty,Fm.terms,Fm.args,fU,fJ];rw[e];rfl
theorem Tw.put:∀{n L:Nat} {f:Fm},Tw n L f->f.shape=true->∀(i:Int) (x:Tm),0<=i->x.shape=true->x.size<=3->Tw n (3*L) (f.put i x)
 |0,L,f,⟨s,t,e,h⟩,hs,i,x,hi,hx,hz=>by
  have h1:=v7 i x hx f hs 0;have h2:(f.put i x).size=f.size+ud i (f.A6 0)*(x.size-1):=h1;have h3:=TF f i;have h4:ud i (f.A6 0)*(x.size-1)<=f.size*2:=iD h3 kn;subst e;exact⟨s.re (yq (i+0) x) 0,t.re (yq (i+0) x) 0,rfl,kn⟩
 |n+1,L,f,h,hs,i,x,hi,hx,hz=>by
  rcases h with⟨s,t,e,h⟩|⟨k,a,b,hk,e,ha,hb⟩|⟨k,s,a,hk,hsm,e,ha⟩
  .exact Tw.up' (Tw.put (n:=0) ⟨s,t,e,h⟩ hs i x hi hx hz)
  .subst e;have sa:a.shape=true:=zp hs (x:=a) kV;have sb:b.shape=true:=zp hs (x:=b) kV;rw[Yng hk];exact .inr (.inl ⟨k,_,_,hk,rfl,Tw.put ha sa i x hi hx hz,Tw.put hb sb i x hi hx hz⟩)
  .subst e;have sa:a.shape=true:=zp hs (x:=a) k7;rw[Yqo (Bx.2 hk)];exact .inr (.inr ⟨k,s,_,hk,hsm,rfl,Tw.put ha sa (i+1) x kn hx hz⟩)
where
 Tw.up' {n L:Nat} {f:Fm} (h:Tw 0 L f):Tw (n+1) L f:= .inl h
structure Pg (p:Pf) (n:Nat):Prop where
 sh:p.shape=true
 sm:p.small=true
 sz:p.size<=n
theorem Pg.err{p:Pf}{n:Nat}(h:Pg p n)(hn:n<=16384):p.err=0:=(Pf.Aa p).2 ⟨h.sh,h.sm,gD h.sz hn⟩
theorem Pg.of{p:Pf}(h:p.err=0):Pg p p.size:=have h1:=(Pf.Aa p).1 h;⟨h1.1,h1.2.1,fB _⟩
variable{m:Nat}
theorem Pg.mono{p:Pf}(h:Pg p n)(hn:n<=m):Pg p m:=⟨h.sh,h.sm,gD h.sz hn⟩
theorem Pg.hyp{i:Int}(h:0<=i):Pg (vd i) 1:=by
 have h1:=Pg.of (aJ h);rw[Z5] at h1;exact h1
theorem UN(k i:Int)(s:Ty)(ts:List Tm)(fs:List Fm)(zs:List Pf):(Pf.mk k i s ts fs zs).size=1+(ts.map Tm.size).sum+(fs.map Fm.size).sum+(zs.map Pf.size).sum:=Pf.size_eq _
theorem Pg.imp{p:Pf}{f:Fm}(hf:f.shape=true)(hz:f.size<=m)(hm:m<=4096)(hp:Pg p n):Pg (.mk 6 0 (.mk 0 []) [] [f] [p]) (1+m+n):=by
 refine⟨?_,?_,?_⟩
 .simp[Pf.shape,Pf.AZ,Pf.head,B6,hp.sh,hf,Ty.Bv,Ty.kind,Ty.args]
 .simp[Pf.small,Pf.Aj,hp.sm];omega
 .exact sM
theorem Pg.all{p:Pf}{s:Ty}(hk:k=8\/k=12)(hs:s.err=0)(hp:Pg p n):Pg (.mk k 0 s [] [] [p]) (1+n):=by
 have ho:s.ok=true:=by
  have h1:=(Ty.Aa s).1 hs;simp only[Ty.ok,fD,decide_eq_true_eq];exact h1
 refine⟨?_,?_,?_⟩
 .rcases hk with rfl|rfl<;>simp[Pf.shape,Pf.AZ,Pf.head,B6,hp.sh,ho]
 .simp[Pf.small,Pf.Aj,hp.sm]
 .exact sM
variable{t:Tm}
theorem Pg.ex{p:Pf}{f:Fm}{z:Nat}(hk:k=10\/k=14)(ht:t.shape=true)(hz:t.size<=z)(hz2:z<=4096)(hf:f.shape=true)(hm:f.size<=m)(hm2:m<=4096)(hp:Pg p n):Pg (.mk k 0 (.mk 0 []) [t] [f] [p]) (1+z+m+n):=by
 refine⟨?_,?_,?_⟩
 .rcases hk with rfl|rfl<;>simp[Pf.shape,Pf.AZ,Pf.head,B6,hp.sh,ht,hf,Ty.Bv,Ty.kind,Ty.args]
 .simp[Pf.small,Pf.Aj,hp.sm];omega
 .exact sM
theorem Pg.refl(ht:t.shape=true)(hz:t.size<=n)(hn:n<=4096):Pg (xz t) (1+n):=by
 have h:=Pg.of (eC (s:=t) ((Tm.Aa t).2 ⟨ht,kn⟩));rw[Zx5] at h;exact h.mono kn
theorem w8{a:Fm}(ha:a.shape=true)(x:Tm):(a.As 0 1).put 0 x=a:=Ztd (fun p hp=>xj a ha 0 p hp) 0 x
def PZ(f:Fm)(t:Tm)(p:Pf):Pf:= .mk 10 0 (.mk 0 []) [t] [f] [p]
theorem Ymy(a b:Tm)(i n:Int):(AV a b).As i n=AV (a.re (zi (i+0) n) 0) (b.re (zi (i+0) n) 0):=rfl
theorem Pg.some{p:Pf}{f:Fm}{z:Nat}(ht:t.shape=true)(hz:t.size<=z)(hz2:z<=4096)(hf:f.shape=true)(hm:f.size<=m)(hm2:m<=4096)(hp:Pg p n):Pg (PZ f t p) (1+z+m+n):=Pg.ex (.inl rfl) ht hz hz2 hf hm hm2 hp
theorem Si{α:Type}(f g:α->Nat):∀l:List α,(∀x∈l,f x<=65*g x)->(l.map f).sum<=65*(l.map g).sum
 |[],_=>ko
 |x::l,h=>by
  have h1:=h x ko;have h2:=Si f g l fun y hy=>h y kr
  grind
theorem Of(p:Pf):p.shape=true->p.full<=65*p.size:=by
 induction p using Pf.ind with
 |h p ih=>
  intro hs;obtain⟨h1,h2,h3,h4⟩:=zh hs;have ht:p.ty.size<=64:=by
   have hh:=h1;unfold Pf.head at hh;split at hh
   .cases hh
   .rename_i nd _;simp only[fD] at hh;have h5:=hh.2;split at h5
    .simp only[Ty.ok,fD,decide_eq_true_eq] at h5;omega
    .rw[Ty.Ez h5];decide
  have a1:=Si Tm.full Tm.size p.terms fun t ht=>OA t (h2 t ht);have a2:=Si Fm.full Fm.size p.Ae fun f hf=>K4 f (h3 f hf);have a3:=Si Pf.full Pf.size p.args fun x hx=>ih x hx (h4 x hx);have e1:=p.Ag;have e2:=p.size_eq;omega
end Go.Ab
namespace Go.Ab
open Go
set_option linter.all false
abbrev L8(n:Int):Int:=IntKind.i64.wrap n
def JN(fr by_:Int)(i b:Int):Tm:= .mk 1 (if L8 (i-b)>=fr then L8 (i+by_) else i) (.mk 0 []) []
def Tm.lw(t:Tm)(fr by_:Int):Tm:=t.re (JN fr by_) 0
def Fm.lw(f:Fm)(fr by_:Int):Fm:=f.re (fun b t=>t.lw (fr+b) by_) 0
theorem Ty.Jb(t:Ty):1<=t.size:=by cases t;simp only[Ty.size];omega
theorem Tm.IQ(t:Tm):2<=t.full:=by rw[Tm.Ag];have:=t.ty.Jb;omega
theorem MH{α:Type}{f g:α->Nat}:∀{l:List α},(∀x∈l,f x<=g x)->(l.map f).sum<=(l.map g).sum
 |[],_=>fB _
 |x::l,h=>by
  simp only[fJ,fT];have h1:=h x ko;have h2:=MH (l:=l) fun y hy=>h y kr;omega
theorem Tm.DU{G:Int->Int->Tm}(hG:∀i b,(G i b).full<=2)(t:Tm):∀b,(t.re G b).full<=t.full:=by
 induction t using Tm.ind with
 |h t ih=>
  intro b;by_cases h1:t.kind=1
  .rw[FC h1];have:=hG t.index b;have:=t.IQ;omega
  .rw[wr h1,t.Ag,Tm.Ag];simp only[Tm.Af,Tm.AO,gK];have:=MH (f:=Tm.full∘Tm.re G (up t.kind b)) (g:=Tm.full) fun x hx=>ih x hx (up t.kind b);omega
theorem Fm.DU{G:Int->Tm->Tm}(hG:∀b t,(G b t).full<=t.full)(f:Fm):∀b,(f.re G b).full<=f.full:=by
 induction f using Fm.ind with
 |h f ih=>
  intro b;rw[f.Ag,Fm.Ag,Fm.A4];simp only[Fm.Am,Fm.Af,Fm.AO,gK];have h1:=MH (l:=f.terms) (f:=Tm.full∘G b) (g:=Tm.full) fun x _=>hG b x;have h2:=MH (f:=Fm.full∘Fm.re G (A3 f.kind b)) (g:=Fm.full) fun x hx=>ih x hx (A3 f.kind b);omega
theorem Zy1(fr by_ i b:Int):(JN fr by_ i b).full<=2:=by simp[JN,Tm.full,Tm.Ay,Ty.size,Ty.sizes]
theorem Y3(t:Tm)(fr by_:Int):(t.lw fr by_).full<=t.full:=Tm.DU (Zy1 fr by_) t 0
theorem Yfp(f:Fm)(fr by_:Int):(f.lw fr by_).full<=f.full:=Fm.DU (fun b t=>Y3 t (fr+b) by_) f 0
mutual
def Pf.uw(fr b v:Int):Pf->Pf
 | .mk k i s ts fs zs=> .mk k i s (ts.map fun t=>t.lw (fr+v) b) (fs.map fun f=>f.lw (fr+(v+AN k)) b) (Pf.EK fr b v (Aw k) zs)
def Pf.EK(fr b v w:Int):List Pf->List Pf
 |[]=>[]
 |p::l=>Pf.uw fr b (if l.length=0 then v+w else v) p::Pf.EK fr b v w l
end
mutual
def Pf.hw(fr b y:Int):Pf->Pf
 | .mk k i s ts fs zs=>if k=1 then .mk 1 (if L8 (i-y)>=fr then L8 (i+b) else i) (.mk 0 []) [] [] [] else .mk k i s ts fs (Pf.EZ fr b y (AA k) zs)
def Pf.EZ(fr b y w:Int):List Pf->List Pf
 |[]=>[]
 |p::l=>Pf.hw fr b (if l.length=0 then y+w else y) p::Pf.EZ fr b y w l
end
theorem Pf.HE(fr b v:Int)(p:Pf):p.uw fr b v= .mk p.kind p.index p.ty (p.terms.map fun t=>t.lw (fr+v) b) (p.Ae.map fun f=>f.lw (fr+(v+AN p.kind)) b) (Pf.EK fr b v (Aw p.kind) p.args):=kZ
theorem Pf.Lr(fr b y:Int)(p:Pf):p.hw fr b y=if p.kind=1 then .mk 1 (if L8 (p.index-y)>=fr then L8 (p.index+b) else p.index) (.mk 0 []) [] [] [] else .mk p.kind p.index p.ty p.terms p.Ae (Pf.EZ fr b y (AA p.kind) p.args):=kZ
theorem SA(fr b v w:Int):∀l:List Pf,(Pf.EK fr b v w l).length=l.length
 |[]=>kz
 |p::l=>by simp only[Pf.EK,fQ,SA fr b v w l]
theorem WW(fr b v w:Int):∀l:List Pf,(Pf.EZ fr b v w l).length=l.length
 |[]=>kz
 |p::l=>by simp only[Pf.EZ,fQ,WW fr b v w l]
theorem dh(fr b v w:Int):∀(l:List Pf) (m:Nat) (h:m<l.length) (h':m<(Pf.EK fr b v w l).length),(Pf.EK fr b v w l)[m]=l[m].uw fr b (if m+1=l.length then v+w else v)
 |p::l,0,h,h'=>by
  simp only[Pf.EK,fM,fQ];simp
 |p::l,m+1,h,h'=>by
  simp only[Pf.EK,gi,fQ,gZ];exact dh fr b v w l m kr _
theorem Xi(fr b v w:Int):∀(l:List Pf) (m:Nat) (h:m<l.length) (h':m<(Pf.EZ fr b v w l).length),(Pf.EZ fr b v w l)[m]=l[m].hw fr b (if m+1=l.length then v+w else v)
 |p::l,0,h,h'=>by
  simp only[Pf.EZ,fM,fQ];simp
 |p::l,m+1,h,h'=>by
  simp only[Pf.EZ,gi,fQ,gZ];exact Xi fr b v w l m kr _
variable{b v w:Int}{l:List Pf}{m:Nat}
theorem Yfi{fr:Int}(h:m<l.length):(Pf.EK fr b v w l).take m++[l[m].uw fr b (if m+1=l.length then v+w else v)]=(Pf.EK fr b v w l).take (m+1):=by
 rw[<-dh fr b v w l m h (by rw[SA];exact h),fS]
theorem Yhw{fr:Int}(h:m<l.length):(Pf.EZ fr b v w l).take m++[l[m].hw fr b (if m+1=l.length then v+w else v)]=(Pf.EZ fr b v w l).take (m+1):=by
 rw[<-Xi fr b v w l m h (by rw[WW];exact h),fS]
theorem Yms{fr:Int}:(Pf.EK fr b v w l).take l.length=Pf.EK fr b v w l:=by rw[<-SA fr b v w l,fH]
theorem Ynf{fr:Int}:(Pf.EZ fr b v w l).take l.length=Pf.EZ fr b v w l:=by rw[<-WW fr b v w l,fH]
theorem Yb{fr b v w:Int}:∀{l:List Pf} {x:Pf},x∈Pf.EK fr b v w l->∃y∈l,∃v',x=y.uw fr b v'
 |[],x,h=>by simp[Pf.EK] at h
 |p::l,x,h=>by
  simp only[Pf.EK,fW] at h;rcases h with rfl|h
  .grind
  .obtain ⟨y,hy,e⟩:=Yb h
   grind
theorem ai{fr b v w:Int}:∀{l:List Pf},(∀p∈l,∀v,(p.uw fr b v).full<=p.full)->((Pf.EK fr b v w l).map Pf.full).sum<=(l.map Pf.full).sum
 |[],_=>by simp[Pf.EK]
 |p::l,h=>by
  simp only[Pf.EK,fJ,fT];have h1:=h p ko (if l.length=0 then v+w else v);have h2:=ai (v:=v) (w:=w) (l:=l) fun q hq=>h q kr;omega
theorem Yj6(fr b:Int)(p:Pf):∀v,(p.uw fr b v).full<=p.full:=by
 induction p using Pf.ind with
 |h p ih=>
  intro v;rw[p.Ag,Pf.Ag,Pf.HE];have h1:=MH (l:=p.terms) (f:=Tm.full∘fun t=>t.lw (fr+v) b) (g:=Tm.full) fun x _=>Y3 x (fr+v) b;have h2:=MH (l:=p.Ae) (f:=Fm.full∘fun t=>t.lw (fr+(v+AN p.kind)) b) (g:=Fm.full) fun x _=>Yfp x (fr+(v+AN p.kind)) b;have h3:=ai (v:=v) (w:=Aw p.kind) ih;simp only[Pf.terms,Pf.Ae,Pf.args,Pf.ty,gK] at*;omega
mutual
def Pf.nd:Pf->Prop
 | .mk k _ _ _ _ zs=>(∃n,B6 k=some n/\zs.length=n.args)/\Pf.PB zs
def Pf.PB:List Pf->Prop
 |[]=>True
 |p::l=>Pf.nd p/\Pf.PB l
end
theorem Yu:∀l:List Pf,Pf.PB l↔∀p∈l,p.nd
 |[]=>by simp[Pf.PB]
 |p::l=>by simp[Pf.PB,Yu l]
theorem Pf.BU(p:Pf):p.nd↔(∃n,B6 p.kind=some n/\p.args.length=n.args)/\∀x∈p.args,x.nd:=by
 cases p;simp only[Pf.nd,Yu];rfl
theorem Lg(p:Pf):p.shape=true->p.nd:=by
 induction p using Pf.ind with
 |h p ih=>
  intro hs;obtain⟨nd,n1,n2,n3,n4,_⟩:=T9 hs;exact(Pf.BU p).2 ⟨⟨nd,n1,n4⟩,fun x hx=>ih x hx ((zh hs).2.2.2 x hx)⟩
theorem Yt9(fr b:Int)(p:Pf):p.nd->∀v,(p.uw fr b v).nd:=by
 induction p using Pf.ind with
 |h p ih=>
  intro hn v;obtain⟨⟨n,n1,n2⟩,n3⟩:=(Pf.BU p).1 hn;rw[Pf.HE,Pf.BU];refine⟨⟨n,n1,by rw[<-n2];exact SA _ _ _ _ _⟩,fun x hx=> ?_⟩;obtain⟨y,hy,v',rfl⟩:=Yb hx
  grind
def Pf.H9(p:Pf)(v h:Int):Pf:=(p.uw 0 v 0).hw 0 h 0
def Fh:Tm:=Be Ac (sT (vT 0))
theorem X3{α:Type}{L:List (List α)}(h:m<L.length):(L.take m).flatten++L[m]=(L.take (m+1)).flatten:=by
 rw[<-fS h,List.flatten_append];simp
def Tm.RT(t:Tm):Prop:=∀q∈t.vars 0,0<=q.1/\q.1<10000
def Fm.RT(f:Fm):Prop:=∀q∈f.A6 0,∀r∈q.1.vars 0,0<=r.1/\r.1<10000
theorem Q2(f:Fm):∀(g:List Ty) (b:Int),f.shape=true->f.A9 g->∀q∈f.A6 b,∀r∈q.1.vars 0,0<=r.1/\r.1<g.length+f.size:=by
 induction f using Fm.ind with
 |h f ih=>
  intro g b hs h q hq r hr;rw[f.A0 b,fV] at hq;rw[Fm.A8] at h;have hsz:=f.size_eq;rcases hq with hq|hq
  .obtain ⟨t,ht,rfl⟩:=fO.1 hq;have hst:=yi hs ht;have h1:=zc Tm.size ht;exact⟨t.AR hst 0 r hr,Ot t g 0 (g.length+f.size) kr hst kn r hr⟩
  .obtain ⟨x,hx,hq⟩:=gh.1 hq;have h1:=zc Fm.size hx;have hl:(C6 g f).length<=g.length+1:=by unfold C6;grind
   have:=ih x hx _ _ (zp hs hx) (h.2 x hx) q hq r hr;omega
def DA(t:Tm):Prop:=t.shape=true/\t.RT/\t.full<=300000
def EL(f:Fm):Prop:=f.shape=true/\f.RT/\f.full<=300000
variable{t:Tm}
theorem DA.of{g:List Ty}{T:Ty}(he:t.err=0)(hi:t.inf g=(T,0))(hg:g.length<=20):DA t:=by
 obtain⟨h1,h2⟩:=(Tm.Aa t).1 he;have h3:=ye he;refine⟨h1,fun q hq=>⟨t.AR h1 0 q hq,?_⟩,kn⟩;have:=Ot t g 0 (g.length+t.size) (by rw[hi]) h1 kn q hq;omega
theorem EL.of{g:List Ty}{f:Fm}(he:f.err=0)(ho:f.A9 g)(hg:g.length<=20):EL f:=by
 obtain⟨h1,h2⟩:=(Fm.Aa f).1 he;have h3:=yh he;refine⟨h1,fun q hq r hr=> ?_,kn⟩;have:=Q2 f g 0 h1 ho q hq r hr;omega
mutual
def Pf.lx(C:Int):Pf->Prop
 | .mk k i _ _ _ zs=>(k=2->0<=i/\i<C)/\Pf.Mh C zs
def Pf.Mh(C:Int):List Pf->Prop
 |[]=>True
 |p::l=>Pf.lx C p/\Pf.Mh C l
end
theorem Xw(C:Int):∀l:List Pf,Pf.Mh C l↔∀p∈l,p.lx C
 |[]=>by simp[Pf.Mh]
 |p::l=>by simp[Pf.Mh,Xw C l]
theorem Pf.BK(C:Int)(p:Pf):p.lx C↔(p.kind=2->0<=p.index/\p.index<C)/\∀x∈p.args,x.lx C:=by cases p;simp only[Pf.lx,Xw];rfl
structure Made (n:Nat) (p:Pf):Prop where
 shape:p.shape=true
 full:p.full<=n
 ix:p.ix 10000
 hx:p.hx 10000
 lx:p.lx 10000
variable{n:Nat}
theorem Made.up{p:Pf}(h:Made n p)(hm:n<=m):Made m p:=⟨h.shape,gD h.full hm,h.ix,h.hx,h.lx⟩
variable{fs:List Fm}{i k:Int}{ts:List Tm}{zs:List Pf}
theorem Made.mk'{s:Ty}{nd:Nd}(hn:B6 k=some nd)(h1:ts.length=nd.terms)(h2:fs.length=nd.Ae)(h3:zs.length=nd.args)
 (hi:0<=i/\i<10000) (hi2:nd.index=true\/i=0) (hs:if nd.typ=true then s.ok=true else s.Bv=true) (hk:k=1->zs=[])
 (ht:∀t∈ts,DA t) (hf:∀f∈fs,EL f) (hz:∀x∈zs,∃m,Made m x) (hfull:(Pf.mk k i s ts fs zs).full<=n):Made n (Pf.mk k i s ts fs zs):=by
 refine⟨?_,hfull,(Pf.Bl _ _).2 ⟨fun t h=>(ht t h).2.1,fun f h=>(hf f h).2.1,fun x h=> ?_⟩,(Pf.Bj _ _).2 ⟨fun _=>hi,fun _ x h=> ?_⟩,(Pf.BK _ _).2 ⟨fun _=>hi,fun x h=> ?_⟩⟩
 .rw[Pf.Ak];simp only[fD,fF];refine⟨⟨⟨?_,fun t h=>(ht t h).1⟩,fun f h=>(hf f h).1⟩,fun x h=> ?_⟩
  .unfold Pf.head;simp_all
  .obtain ⟨m,hm⟩:=hz x h;exact hm.shape
 .obtain ⟨m,hm⟩:=hz x h;exact hm.ix
 .obtain ⟨m,hm⟩:=hz x h;exact hm.hx
 .obtain ⟨m,hm⟩:=hz x h;exact hm.lx
theorem Ya5{s:Ty}(h:s.err=0):s.ok=true:=Nm ((Ty.Aa s).1 h).1 ((Ty.Aa s).1 h).2
theorem ux{α:Type}{P:α->Prop}{a:α}(h:P a):∀x∈[a],P x:=fun x hx=>kr
theorem JS{α:Type}{P:α->Prop}{a b:α}(h:P a)(h':P b):∀x∈[a,b],P x:=fun x hx=>by
 grind
theorem Ge{α:Type}{P:α->Prop}:∀x∈([]:List α),P x:=fun x hx=>by cases hx
theorem Made.ref(h:DA t):Made 300010 (.mk 18 0 (.mk 0 []) [t] [] []):=
 .mk' rfl rfl rfl rfl kn (.inr rfl) rfl kq (ux h) Ge Ge (by rw[uo,Iy];have:=h.2.2;grind)
theorem Made.hyp(h:0<=i/\i<10000):Made 10 (vd i):=
 .mk' (nd:=⟨0,0,0,true,false⟩) rfl rfl rfl rfl h (.inl rfl) rfl (fun _=>rfl) Ge Ge Ge (by rw[uo,Iy];simp)
theorem Made.lem(h:0<=i/\i<10000):Made 10 (.mk 2 i (.mk 0 []) [] [] []):=
 .mk' (nd:=⟨0,0,0,true,false⟩) rfl rfl rfl rfl h (.inl rfl) rfl (fun _=>rfl) Ge Ge Ge (by rw[uo,Iy];simp)
theorem Made.two{k:Int}(hk:k=3\/k=7\/k=11\/k=15){n m:Nat}{p q:Pf}(hp:Made n p)(hq:Made m q):Made (n+m+2) (.mk k 0 (.mk 0 []) [] [] [p,q]):=by
 have h:=hp.full;have h':=hq.full;refine .mk' (nd:=⟨0,0,2,false,false⟩) ?_ rfl rfl rfl kn (.inr rfl) rfl (fun h=>kn) Ge Ge (JS ⟨_,hp⟩ ⟨_,hq⟩) lS;rcases hk with rfl|rfl|rfl|rfl<;>rfl
theorem Made.one(hk:k=4\/k=5\/k=20){p:Pf}(hp:Made n p):Made (n+2) (.mk k 0 (.mk 0 []) [] [] [p]):=by
 have h:=hp.full;refine .mk' (nd:=⟨0,0,1,false,false⟩) ?_ rfl rfl rfl kn (.inr rfl) rfl (fun h=>kn) Ge Ge (ux ⟨_,hp⟩) lS;rcases hk with rfl|rfl|rfl<;>rfl
theorem Made.imp{f:Fm}(hf:EL f){p:Pf}(hp:Made n p):Made (n+300002) (.mk 6 0 (.mk 0 []) [] [f] [p]):=by
 have h:=hp.full;have h':=hf.2.2;exact .mk' (nd:=⟨0,1,1,false,false⟩) rfl rfl rfl rfl kn (.inr rfl) rfl (fun h=>kn) Ge (ux hf) (ux ⟨_,hp⟩) lS
theorem Made.all(hk:k=8\/k=12){s:Ty}(hs:s.err=0){p:Pf}(hp:Made n p):Made (n+65) (.mk k 0 s [] [] [p]):=by
 have h:=hp.full;have h':=MB hs;refine .mk' (nd:=⟨0,0,1,false,true⟩) ?_ rfl rfl rfl kn (.inr rfl) (Ya5 hs) (fun h=>kn) Ge Ge (ux ⟨_,hp⟩) (by rw[uo];grind);rcases hk with rfl|rfl<;>rfl
theorem Made.at_(hk:k=9\/k=13)(ht:DA t){p:Pf}(hp:Made n p):Made (n+300002) (.mk k 0 (.mk 0 []) [t] [] [p]):=by
 have h:=hp.full;have h':=ht.2.2;refine .mk' (nd:=⟨1,0,1,false,false⟩) ?_ rfl rfl rfl kn (.inr rfl) rfl (fun h=>kn) (ux ht) Ge (ux ⟨_,hp⟩) lS;rcases hk with rfl|rfl<;>rfl
theorem Made.ex(hk:k=10\/k=14){f:Fm}(hf:EL f)(ht:DA t){p:Pf}(hp:Made n p):Made (n+600002) (.mk k 0 (.mk 0 []) [t] [f] [p]):=by
 have h:=hp.full;have h':=ht.2.2;have h2:=hf.2.2;refine .mk' (nd:=⟨1,1,1,false,false⟩) ?_ rfl rfl rfl kn (.inr rfl) rfl (fun h=>kn) (ux ht) (ux hf) (ux ⟨_,hp⟩) lS;rcases hk with rfl|rfl<;>rfl
theorem Made.ind(hk:k=16\/k=17){f:Fm}(hf:EL f)(ht:DA t){p q:Pf}(hp:Made n p)(hq:Made m q):Made (n+m+600002) (.mk k 0 (.mk 0 []) [t] [f] [p,q]):=by
 have h:=hp.full;have h1:=hq.full;have h':=ht.2.2;have h2:=hf.2.2;refine .mk' (nd:=⟨1,1,2,false,false⟩) ?_ rfl rfl rfl kn (.inr rfl) rfl (fun h=>kn) (ux ht) (ux hf) (JS ⟨_,hp⟩ ⟨_,hq⟩) lS;rcases hk with rfl|rfl<;>rfl
theorem Made.sub{f:Fm}(hf:EL f){p q:Pf}(hp:Made n p)(hq:Made m q):Made (n+m+300002) (.mk 19 0 (.mk 0 []) [] [f] [p,q]):=by
 have h:=hp.full;have h1:=hq.full;have h2:=hf.2.2;exact .mk' (nd:=⟨0,1,2,false,false⟩) rfl rfl rfl rfl kn (.inr rfl) rfl (fun h=>kn) Ge (ux hf) (JS ⟨_,hp⟩ ⟨_,hq⟩) lS
mutual
def Pf.pt(a:Int)(s:Tm)(v:Int):Pf->Pf
 | .mk k i h ts fs zs=> .mk k i h (ts.map fun t=>t.re (yq (a+v) s) 0) (fs.map fun f=>f.put (a+(v+AN k)) s) (Pf.pts a s v (Aw k) zs)
def Pf.pts(a:Int)(s:Tm)(v w:Int):List Pf->List Pf
 |[]=>[]
 |p::l=>Pf.pt a s (if l.length=0 then v+w else v) p::Pf.pts a s v w l
end
mutual
def Pf.ph(a:Int)(q:Pf)(v y:Int):Pf->Pf
 | .mk k i h ts fs zs=>if k=1 then(if i-y=a then q.H9 v (a+y) else if i-y>a then vd (i-1) else vd i) else .mk k i h ts fs (Pf.EO a q v y (Aw k) (AA k) zs)
def Pf.EO(a:Int)(q:Pf)(v y w z:Int):List Pf->List Pf
 |[]=>[]
 |p::l=>Pf.ph a q (if l.length=0 then v+w else v) (if l.length=0 then y+z else y) p::Pf.EO a q v y w z l
end
theorem Pf.Fa(a:Int)(s:Tm)(v:Int)(p:Pf):p.pt a s v= .mk p.kind p.index p.ty (p.terms.map fun t=>t.re (yq (a+v) s) 0) (p.Ae.map fun f=>f.put (a+(v+AN p.kind)) s) (Pf.pts a s v (Aw p.kind) p.args):=kZ
theorem Pf.Ht(a:Int)(q:Pf)(v y:Int)(p:Pf):Pf.ph a q v y p=if p.kind=1 then(if p.index-y=a then q.H9 v (a+y) else if p.index-y>a then vd (p.index-1) else vd p.index) else .mk p.kind p.index p.ty p.terms p.Ae (Pf.EO a q v y (Aw p.kind) (AA p.kind) p.args):=kZ
theorem K8(a:Int)(s:Tm)(v w:Int):∀l:List Pf,(Pf.pts a s v w l).length=l.length
 |[]=>kz
 |p::l=>by simp only[Pf.pts,fQ,K8 a s v w l]
theorem Pj(a:Int)(q:Pf)(v y w z:Int):∀l:List Pf,(Pf.EO a q v y w z l).length=l.length
 |[]=>kz
 |p::l=>by simp only[Pf.EO,fQ,Pj a q v y w z l]
theorem Nv(a:Int)(s:Tm)(v w:Int):∀(l:List Pf) (m:Nat) (h:m<l.length) (h':m<(Pf.pts a s v w l).length),(Pf.pts a s v w l)[m]=l[m].pt a s (if m+1=l.length then v+w else v)
 |p::l,0,h,h'=>by
  simp only[Pf.pts,fM,fQ];simp
 |p::l,m+1,h,h'=>by
  simp only[Pf.pts,gi,fQ,gZ];exact Nv a s v w l m kr _
theorem UH(a:Int)(q:Pf)(v y w z:Int):∀(l:List Pf) (m:Nat) (h:m<l.length) (h':m<(Pf.EO a q v y w z l).length),(Pf.EO a q v y w z l)[m]=Pf.ph a q (if m+1=l.length then v+w else v) (if m+1=l.length then y+z else y) l[m]
 |p::l,0,h,h'=>by
  simp only[Pf.EO,fM,fQ];simp
 |p::l,m+1,h,h'=>by
  simp only[Pf.EO,gi,fQ,gZ];exact UH a q v y w z l m kr _
theorem Ygc{a:Int}{s:Tm}(h:m<l.length):(Pf.pts a s v w l).take m++[l[m].pt a s (if m+1=l.length then v+w else v)]=(Pf.pts a s v w l).take (m+1):=by
 rw[<-Nv a s v w l m h (by rw[K8];exact h),fS]
variable{y:Int}
theorem Ye4{a:Int}{q:Pf}{z:Int}(h:m<l.length):(Pf.EO a q v y w z l).take m++[Pf.ph a q (if m+1=l.length then v+w else v) (if m+1=l.length then y+z else y) l[m]]=(Pf.EO a q v y w z l).take (m+1):=by
 rw[<-UH a q v y w z l m h (by rw[Pj];exact h),fS]
theorem Ylu{a:Int}{s:Tm}:(Pf.pts a s v w l).take l.length=Pf.pts a s v w l:=by rw[<-K8 a s v w l,fH]
theorem Yn4{a:Int}{q:Pf}{z:Int}:(Pf.EO a q v y w z l).take l.length=Pf.EO a q v y w z l:=by rw[<-Pj a q v y w z l,fH]
section
variable {α:Type}
mutual
def Pf.Ee(g:Int->Tm->α)(h:Int->Fm->α)(v:Int):Pf->List α
 | .mk k _ _ ts fs zs=>ts.map (g v)++fs.map (h (v+AN k))++(Pf.Bp g h v (Aw k) zs).flatten
def Pf.Bp(g:Int->Tm->α)(h:Int->Fm->α)(v w:Int):List Pf->List (List α)
 |[]=>[]
 |p::l=>Pf.Ee g h (if l.length=0 then v+w else v) p::Pf.Bp g h v w l
end
mutual
def Pf.DM(f:Int->Int->Int->List α)(y:Int):Pf->List α
 | .mk k i _ _ _ zs=>f k i y++(Pf.Bn f y (AA k) zs).flatten
def Pf.Bn(f:Int->Int->Int->List α)(y w:Int):List Pf->List (List α)
 |[]=>[]
 |p::l=>Pf.DM f (if l.length=0 then y+w else y) p::Pf.Bn f y w l
end
variable (g:Int->Tm->α) (h:Int->Fm->α) (f:Int->Int->Int->List α)
theorem Pf.CM(v:Int)(p:Pf):p.Ee g h v=p.terms.map (g v)++p.Ae.map (h (v+AN p.kind))++(Pf.Bp g h v (Aw p.kind) p.args).flatten:=kZ
theorem Pf.CC(y:Int)(p:Pf):p.DM f y=f p.kind p.index y++(Pf.Bn f y (AA p.kind) p.args).flatten:=kZ
theorem JE(v w:Int):∀l:List Pf,(Pf.Bp g h v w l).length=l.length
 |[]=>kz
 |p::l=>by simp only[Pf.Bp,fQ,JE v w l]
theorem JP(y w:Int):∀l:List Pf,(Pf.Bn f y w l).length=l.length
 |[]=>kz
 |p::l=>by simp only[Pf.Bn,fQ,JP y w l]
theorem Kq(v w:Int):∀(l:List Pf) (m:Nat) (hm:m<l.length) (h':m<(Pf.Bp g h v w l).length),(Pf.Bp g h v w l)[m]=l[m].Ee g h (if m+1=l.length then v+w else v)
 |p::l,0,hm,h'=>by
  simp only[Pf.Bp,fM,fQ];simp
 |p::l,m+1,hm,h'=>by
  simp only[Pf.Bp,gi,fQ,gZ];exact Kq v w l m kr _
theorem KM(y w:Int):∀(l:List Pf) (m:Nat) (hm:m<l.length) (h':m<(Pf.Bn f y w l).length),(Pf.Bn f y w l)[m]=l[m].DM f (if m+1=l.length then y+w else y)
 |p::l,0,hm,h'=>by
  simp only[Pf.Bn,fM,fQ];simp
 |p::l,m+1,hm,h'=>by
  simp only[Pf.Bn,gi,fQ,gZ];exact KM y w l m kr _
theorem Sw(hm:m<l.length):((Pf.Bp g h v w l).take m).flatten++l[m].Ee g h (if m+1=l.length then v+w else v)=((Pf.Bp g h v w l).take (m+1)).flatten:=by
 rw[<-Kq g h v w l m hm (by rw[JE];exact hm)];exact X3 _
theorem MZ(hm:m<l.length):((Pf.Bn f y w l).take m).flatten++l[m].DM f (if m+1=l.length then y+w else y)=((Pf.Bn f y w l).take (m+1)).flatten:=by
 rw[<-KM f y w l m hm (by rw[JP];exact hm)];exact X3 _
theorem Qd:(Pf.Bp g h v w l).take l.length=Pf.Bp g h v w l:=by rw[<-JE g h v w l,fH]
theorem Nh:(Pf.Bn f y w l).take l.length=Pf.Bn f y w l:=by rw[<-JP f y w l,fH]
theorem Ym8(p:Pf):∀v,(p.Ee g h v).length<=p.full:=by
 induction p using Pf.ind with
 |h p ih=>
  intro v;rw[Pf.CM,Pf.Ag];have key:∀(l:List Pf) (w:Int),(∀x∈l,x∈p.args)->(Pf.Bp g h v w l).flatten.length<=(l.map Pf.full).sum:=by
   intro l w;induction l with
   |nil=>intro _;simp[Pf.Bp]
   |cons x l ihl=>
    intro hx;simp only[Pf.Bp,iR,ga,fJ,fT]
    grind
  have h1:=key p.args (Aw p.kind) fun _ h=>h;have h2:=ze Tm.full Tm.Ad p.terms;have h3:=ze Fm.full Fm.Ad p.Ae
  grind
end
variable{β:Type}
theorem RH{α:Type}(X R:List β)(l:List α)(f:α->β)(m:Nat)(hm:m<l.length):X++(l.take m).map f++[f l[m]]<+:X++(l.map f++R):=by
 refine⟨(l.drop (m+1)).map f++R,?_⟩;have h0:(l.take m++[l[m]])++l.drop (m+1)=l:=ko
 grind
theorem Sj(X:List β)(LL:List (List β))(m:Nat)(hm:m<LL.length):X++(LL.take m).flatten++LL[m]<+:X++LL.flatten:=by
 refine⟨(LL.drop (m+1)).flatten,?_⟩;have h0:(LL.take m++[LL[m]])++LL.drop (m+1)=LL:=ko
 grind
def Dp(l:List (Int×Int)):Prop:=(∀q∈l,(0<=q.1/\q.1<=4096)/\0<=q.2/\q.2<=4096)/\l.length<=1000000000
theorem Dp.pre{l l':List (Int×Int)}(h:l<+:l')(ho:Dp l'):Dp l:=⟨fun q hq=>ho.1 q (h.subset hq),gD h.length_le ho.2⟩
def Dt(n k:Int)(l:List (Int×Int)):Int:=n+(l.map fun q=>q.2*(k-1)).sum
def D7(k:Int)(l:List (Int×Int)):Bool:=l.any fun q=>decide (q.1+q.2*(k-1)>4096)
theorem dF(n k:Int)(l:List (Int×Int))(q:Int×Int):Dt n k (l++[q])=Dt n k l+q.2*(k-1):=by
 unfold Dt
 grind
theorem YP(k:Int)(l:List (Int×Int))(q:Int×Int):D7 k (l++[q])=(D7 k l||decide (q.1+q.2*(k-1)>4096)):=by
 unfold D7;simp
theorem TS{n:Int}(hk:1<=k/\k<=4096)(hn:0<=n/\n<=1000000):∀{l:List (Int×Int)},Dp l->0<=Dt n k l/\Dt n k l<=1000000+16777216*l.length:=by
 intro l;induction l with
 |nil=>intro _;simp[Dt];omega
 |cons q l ih=>
  intro h;have h1:=ih (⟨fun x hx=>h.1 x kr,by have:=h.2;grind⟩);have h2:=(h.1 q ko).2;have e:Dt n k (q::l)=Dt n k l+q.2*(k-1):=by unfold Dt;grind
  have h3:0<=q.2*(k-1):=ki h2.1 kn;have h4:q.2*(k-1)<=4096*4095:=kj h2.2 kn kn kn
  grind
def BN(a:Int)(v:Int)(t:Tm):Int×Int:=((t.size:Int),(cnt (a+v) (t.vars 0):Int))
def BX(a:Int)(v:Int)(f:Fm):Int×Int:=((f.size:Int),(ud (a+v) (f.A6 0):Int))
theorem wq{p:Pf}(h:p.small=true):(∀t∈p.terms,t.size<=4096)/\(∀f∈p.Ae,f.size<=4096)/\∀x∈p.args,x.small=true:=by
 rw[Pf.CE] at h
 grind
theorem Ys5(a:Int)(p:Pf):p.small=true->p.full<=1000000000->∀v,Dp (p.Ee (BN a) (BX a) v):=by
 intro hs hf v;refine⟨?_,gD (Ym8 _ _ p v) hf⟩;clear hf;revert hs v;induction p using Pf.ind with
 |h p ih=>
  intro hs v q hq;obtain⟨s1,s2,s3⟩:=wq hs;rw[Pf.CM,fV,fV] at hq;rcases hq with(hq|hq)|hq
  .obtain ⟨t,ht,rfl⟩:=fO.1 hq;have h1:=s1 t ht;have h2:=Qj (a+v) (t.vars 0);have h3:=t.Db 0;simp only[BN];omega
  .obtain ⟨f,hf,rfl⟩:=fO.1 hq;have h1:=s2 f hf;have h2:=TF f (a+(v+AN p.kind));simp only[BX];omega
  .obtain ⟨l,hl,hq⟩:=iA.1 hq;obtain⟨m,hm,rfl⟩:=gj hl;rw[JE] at hm;rw[Kq _ _ _ _ _ _ hm] at hq
   grind
def DO(k i _y:Int):List Bool:=if k=1 then [decide (i<=536870912)] else []
def C3(a k i y:Int):List Int:=if k=1/\i-y=a then [i] else []
def dI(k i y:Int):List Int:=if k=1/\i>=y then [i-y] else []
theorem Ze(a:Int)(p:Pf):∀y,(p.DM (C3 a) y).length<=p.full:=by
 induction p using Pf.ind with
 |h p ih=>
  intro y;rw[Pf.CC,Pf.Ag,ga];have key:∀(l:List Pf) (w:Int),(∀x∈l,x∈p.args)->(Pf.Bn (C3 a) y w l).flatten.length<=(l.map Pf.full).sum:=by
   intro l w;induction l with
   |nil=>intro _;simp[Pf.Bn]
   |cons x l ihl=>
    intro hx;simp only[Pf.Bn,iR,ga,fJ,fT]
    grind
  have h1:=key p.args (AA p.kind) fun _ h=>h;have h2:(C3 a p.kind p.index y).length<=1:=nr
  omega
def Pf.Br(p:Pf):Bool:=(p.Ee (fun(_:Int) (t:Tm)=>t.near) (fun(_:Int) (f:Fm)=>f.near) 0).all id
def Pf.Bu(p:Pf):Bool:=(p.DM DO 0).all id
theorem Z2(p:Pf):p.shape=true->p.small=true->∀v,(p.Ee (fun(_:Int) (t:Tm)=>t.near) (fun(_:Int) (f:Fm)=>f.near) v).all id=true->p.ix 549755813888:=by
 induction p using Pf.ind with
 |h p ih=>
  intro hs hm v h;obtain⟨s1,s2,s3⟩:=wq hm;obtain⟨_,s4,s5,s6⟩:=zh hs;rw[Pf.CM,gC,gC,fD,fD] at h;obtain⟨⟨h1,h2⟩,h3⟩:=h;rw[fF] at h1 h2 h3;refine(Pf.Bl _ p).2 ⟨fun t ht=> ?_,fun f hf=> ?_,fun x hx=> ?_⟩
  .exact Uz ((Tm.Aa t).2 ⟨s4 t ht,s1 t ht⟩) kP
  .exact bq ((Fm.Aa f).2 ⟨s5 f hf,s2 f hf⟩) kP
  .obtain ⟨m,hm2,rfl⟩:=gj hx;refine ih _ hx (s6 _ hx) (s3 _ hx) (if m+1=p.args.length then v+Aw p.kind else v) (fF.2 fun b hb=> ?_);rw[<-Kq _ _ v (Aw p.kind) p.args m hm2 (by rw[JE];omega)] at hb;exact h3 b (iA.2 ⟨_,fA _,hb⟩)
theorem YA(p:Pf):p.shape=true->∀y,(p.DM DO y).all id=true->p.hx 549755813888:=by
 induction p using Pf.ind with
 |h p ih=>
  intro hs y h;obtain⟨hh,_,_,s6⟩:=zh hs;obtain⟨nd,_,_,_,_,hi,_⟩:=GF hh;rw[Pf.CC,gC,fD] at h;obtain⟨h1,h3⟩:=h;rw[fF] at h3;refine(Pf.Bj _ p).2 ⟨fun hk=>⟨hi,?_⟩,fun _ x hx=> ?_⟩
  .simp[DO,hk] at h1;omega
  .obtain ⟨m,hm2,rfl⟩:=gj hx;refine ih _ hx (s6 _ hx) (if m+1=p.args.length then y+AA p.kind else y) (fF.2 fun b hb=> ?_);rw[<-KM _ y (AA p.kind) p.args m hm2 (by rw[JP];omega)] at hb;exact h3 b (iA.2 ⟨_,fA _,hb⟩)
theorem Yig(p:Pf):p.ix 10000->∀v,(p.Ee (fun(_:Int) (t:Tm)=>t.near) (fun(_:Int) (f:Fm)=>f.near) v).all id=true:=by
 induction p using Pf.ind with
 |h p ih=>
  intro hix v;obtain⟨i1,i2,i3⟩:=(Pf.Bl _ p).1 hix;rw[Pf.CM,gC,gC,fD,fD];refine⟨⟨fF.2 fun b hb=> ?_,fF.2 fun b hb=> ?_⟩,fF.2 fun b hb=> ?_⟩
  .exact rT
  .obtain ⟨f,hf,rfl⟩:=fO.1 hb;exact Uy (C:=10000) kn fun q hq r hr=>kr
  .exact qx
theorem Yh9(p:Pf):p.nd->p.hx 10000->∀y,(p.DM DO y).all id=true:=by
 induction p using Pf.ind with
 |h p ih=>
  intro hs hh y;obtain⟨i1,i2⟩:=(Pf.Bj _ p).1 hh;obtain⟨⟨nd0,a1,a2⟩,a3⟩:=(Pf.BU p).1 hs;rw[Pf.CC,gC,fD];refine⟨fF.2 fun b hb=> ?_,fF.2 fun b hb=> ?_⟩
  .unfold DO at hb
   grind
  .exact qK
variable{C C':Int}
theorem KB{p:Pf}(h:p.ix C)(hc:C<=C'):p.ix C':=by
 induction p using Pf.ind with
 |h p ih=>
  obtain⟨i1,i2,i3⟩:=(Pf.Bl _ p).1 h;exact(Pf.Bl _ p).2 ⟨fun t ht q hq=>kr,fun f hf q hq r hr=>kr,fun x hx=>ih x hx (i3 x hx)⟩
theorem MW{p:Pf}(h:p.hx C)(hc:C<=C'):p.hx C':=by
 induction p using Pf.ind with
 |h p ih=>
  obtain⟨i1,i2⟩:=(Pf.Bj _ p).1 h;exact(Pf.Bj _ p).2 ⟨fun hk=>kn,fun hk x hx=>ih x hx (i2 hk x hx)⟩
def Lq(p:Pf)(a:Int)(s:Tm):List (Int×Int):=p.Ee (BN a) (BX a) 0
def vh(p:Pf)(a:Int)(s:Tm):Int:=
 if p.err≠0 then p.err else if ¬(0<=a/\a<=4096) then 1 else if s.err≠0 then s.err else if p.Br=false\/s.near=false then 1
 else if D7 s.size (Lq p a s)=true\/Dt p.size s.size (Lq p a s)>16384 then 4 else 0
def GD(p:Pf)(a:Int):Int:=(p.DM (C3 a) 0).length
def D8(p:Pf)(a:Int)(q:Pf):Int:=
 if p.err≠0 then p.err else if ¬(0<=a/\a<=16384) then 1 else if q.err≠0 then q.err else if p.Bu=false\/q.Bu=false\/q.Br=false then 1
 else if(p.size:Int)+GD p a*(q.size-1)>16384 then 4 else 0
section
variable {p q:Pf} {fr by_ a:Int} {s:Tm}
theorem ZC(h:p.err≠0):vh p a s=p.err:=by unfold vh;omega
theorem YE(h:p.err=0)(ha:¬(0<=a/\a<=4096)):vh p a s=1:=by unfold vh;omega
theorem Y1(h:p.err=0)(ha:0<=a/\a<=4096)(hs:s.err≠0):vh p a s=s.err:=by unfold vh;omega
theorem XS(h:p.err=0)(ha:0<=a/\a<=4096)(hs:s.err=0)(hn:p.Br=false\/s.near=false):vh p a s=1:=by unfold vh;grind
theorem Xx(h:p.err=0)(ha:0<=a/\a<=4096)(hs:s.err=0)(hn:¬(p.Br=false\/s.near=false)):vh p a s=if D7 s.size (Lq p a s)=true\/Dt p.size s.size (Lq p a s)>16384 then 4 else 0:=by
 unfold vh;grind
theorem c9(h:p.err≠0):D8 p a q=p.err:=by unfold D8;omega
theorem Y9(h:p.err=0)(ha:¬(0<=a/\a<=16384)):D8 p a q=1:=by unfold D8;omega
theorem YZ(h:p.err=0)(ha:0<=a/\a<=16384)(hs:q.err≠0):D8 p a q=q.err:=by unfold D8;omega
theorem ZT(h:p.err=0)(ha:0<=a/\a<=16384)(hs:q.err=0)(hn:p.Bu=false\/q.Bu=false\/q.Br=false):D8 p a q=1:=by unfold D8;grind
theorem eW(h:p.err=0)(ha:0<=a/\a<=16384)(hs:q.err=0)(hn:¬(p.Bu=false\/q.Bu=false\/q.Br=false)):D8 p a q=if(p.size:Int)+GD p a*(q.size-1)>16384 then 4 else 0:=by
 unfold D8;grind
end
theorem Rf{n:Int}(h: -9223372036854775808<=n/\n<9223372036854775808):L8 n=n:=by
 show IntKind.i64.wrap n=n;rw[IntKind.wrap_i64];omega
theorem Zs1(t:Tm):∀b:Int,∀p∈t.vars b,p.2<=b+t.size:=by
 induction t using Tm.ind with
 |h t ih=>
  intro b p hp;have hz:=t.size_eq;rw[Tm.AY] at hp;rcases fV.1 hp with hp|hp
  .grind
  .obtain ⟨x,hx,hp⟩:=gh.1 hp;have h1:=ih x hx _ p hp;have h2:=zc Tm.size hx;have h3:up t.kind b<=b+1:=nj
   omega
theorem Zy{fr by_:Int}(hix:∀q∈t.vars 0,0<=q.1/\q.1<549755813888)(hz:t.size<=1000000)(hb: -1000000<=by_/\by_<=1000000):t.lw fr by_=t.re (zi fr by_) 0:=by
 refine Ax t 0 fun q hq=> ?_;have h1:=hix q hq;have h2:=yw t 0 q hq;have h3:=Zs1 t 0 q hq;simp only[JN,zi];rw[Rf kn,Rf kn]
theorem Yo0{f:Fm}{fr by_:Int}(hs:f.shape=true)(hix:∀p∈f.A6 0,∀q∈p.1.vars 0,0<=q.1/\q.1<549755813888)(hz:f.size<=1000000)(hb: -1000000<=by_/\by_<=1000000):f.lw fr by_=f.As fr by_:=by
 refine Fm.Ax f 0 fun p hp=> ?_;exact Zy (hix p hp) (by have h1:=OG f 0;have h2:=zc (fun(p:Tm×Int)=>p.1.size) hp;omega) hb
theorem Y2(fr b v w:Int):∀l:List Pf,(∀p∈l,∀v,p.uw fr b v=p.up fr b v)->Pf.EK fr b v w l=Pf.Gv fr b v w l
 |[],_=>kz
 |p::l,h=>by
  simp only[Pf.EK,Pf.Gv];rw[h p ko,Y2 fr b v w l fun q hq=>h q kr]
theorem XL{p:Pf}{fr:Int}(hb: -1000000<=b/\b<=1000000):p.shape=true->p.small=true->p.ix 549755813888->∀v,p.uw fr b v=p.up fr b v:=by
 induction p using Pf.ind with
 |h p ih=>
  intro hs hm hix v;obtain⟨s1,s2,s3⟩:=wq hm;obtain⟨_,s4,s5,s6⟩:=zh hs;obtain⟨i1,i2,i3⟩:=(Pf.Bl _ p).1 hix;rw[Pf.HE,Pf.Fb,Y2 _ _ _ _ _ fun x hx v=>ih x hx (s6 x hx) (s3 x hx) (i3 x hx) v];congr 1
  .exact fY fun t ht=>Zy (i1 t ht) kr hb
  .exact fY fun f hf=>Yo0 (s5 f hf) (i2 f hf) kr hb
theorem ei{p:Pf}{fr:Int}(hb: -1000000<=b/\b<=1000000):p.nd->p.hx 549755813888->∀y:Int,(0<=y/\y+p.full<=1000000000000)->p.hw fr b y=p.lh fr b y:=by
 induction p using Pf.ind with
 |h p ih=>
  intro hs hh y hy;obtain⟨i1,i2⟩:=(Pf.Bj _ p).1 hh;obtain⟨⟨nd0,a1,a2⟩,a3⟩:=(Pf.BU p).1 hs;rw[Pf.Lr,Pf.Gi];by_cases hk:p.kind=1
  .rw[if_pos hk,if_pos hk];have:=i1 hk;rw[Rf kn,Rf kn]
  .rw[if_neg hk,if_neg hk];have hz:=p.Ag;have b2:0<=AA p.kind/\AA p.kind<=1:=nv
   congr 1;have key:∀(l:List Pf),(∀x∈l,x∈p.args)->Pf.EZ fr b y (AA p.kind) l=Pf.lhs fr b y (AA p.kind) l:=by
    intro l;induction l with
    |nil=>intro _;rfl
    |cons x l ihl=>
     intro hx;simp only[Pf.EZ,Pf.lhs];have h1:=hx x ko;have h2:=zc Pf.full h1
     grind
   grind
theorem R2{p:Pf}(hs:p.shape=true)(h1:ts.length=p.terms.length)(h2:fs.length=p.Ae.length)(h3:zs.length=p.args.length)
 (a1:∀t∈ts,t.shape=true) (a2:∀f∈fs,f.shape=true) (a3:∀x∈zs,x.shape=true):(Pf.mk p.kind p.index p.ty ts fs zs).shape=true:=by
 obtain⟨h,_⟩:=zh hs;rw[Pf.Ak];simp only[fD,fF];refine⟨⟨⟨?_,a1⟩,a2⟩,a3⟩;obtain⟨k,i,y,t0,f0,z0⟩:=p;simp only[Pf.Ai,Pf.AG,Pf.AO,Pf.Am,Pf.Au,Pf.Af] at h1 h2 h3 ⊢;unfold Pf.head at h ⊢;simp only[Pf.Ai,Pf.AG,Pf.AO,Pf.Am,Pf.Au,Pf.Af] at h ⊢
 grind
theorem Zxt(hi:0<=i):(vd i).shape=true:=((Pf.Aa _).1 (aJ hi)).1
theorem YI{p:Pf}(hs:p.shape=true)(hk:p.kind=1):p.size=1:=by
 obtain⟨hh,_⟩:=zh hs;obtain⟨nd,n1,n2,n3,n4,_⟩:=GF hh;rw[hk] at n1;have e:nd=⟨0,0,0,true,false⟩:=by
  unfold B6 at n1;grind
 subst e;have e1:=fX n2;have e2:=fX n3;have e3:=fX n4;rw[Pf.size_eq,e1,e2,e3];simp
def Pz(C:Int)(n:Nat)(p:Pf):Prop:=p.shape=true/\p.small=true/\p.size=n/\p.ix C
theorem UY{p:Pf}(hs:p.shape=true)(hm:p.small=true){k:Nat}(h1:ts.map Tm.size=p.terms.map Tm.size)(h2:fs.map Fm.size=p.Ae.map Fm.size)
 (a1:∀t∈ts,t.shape=true/\∀q∈t.vars 0,0<=q.1/\q.1<C) (a2:∀f∈fs,f.shape=true/\∀p∈f.A6 0,∀q∈p.1.vars 0,0<=q.1/\q.1<C) (h3:zs.length=p.args.length)
 (a3:∀x∈zs,∃m,Pz C m x) (hk:(zs.map Pf.size).sum=(p.args.map Pf.size).sum+k):Pz C (p.size+k) (Pf.mk p.kind p.index p.ty ts fs zs):=by
 obtain⟨s1,s2,s3⟩:=wq hm;have e1:ts.length=p.terms.length:=by have:=congrArg List.length h1;grind
 have e2:fs.length=p.Ae.length:=by have:=congrArg List.length h2;grind
 refine⟨R2 hs e1 e2 h3 (fun t h=>(a1 t h).1) (fun f h=>(a2 f h).1) (fun x h=>(a3 x h).choose_spec.1),?_,?_,(Pf.Bl _ _).2 ⟨fun t h=>(a1 t h).2,fun f h=>(a2 f h).2,fun x h=>(a3 x h).choose_spec.2.2.2⟩⟩
 .rw[Pf.CE];simp only[fD,fF,decide_eq_true_eq,Pf.Am,Pf.Au,Pf.Af];refine⟨⟨fun t h=> ?_,fun f h=> ?_⟩,fun x h=>(a3 x h).choose_spec.2.1⟩
  .have:t.size∈p.terms.map Tm.size:=h1▸fO.2 ⟨t,h,rfl⟩
   grind
  .have:f.size∈p.Ae.map Fm.size:=h2▸fO.2 ⟨f,h,rfl⟩
   grind
 .rw[Pf.size_eq,p.size_eq];simp only[Pf.Am,Pf.Au,Pf.Af,h1,h2,hk];omega
theorem bA{p:Pf}{fr n:Int}(hn:0<=n):p.shape=true->p.small=true->p.ix C->∀v,Pz (C+n) p.size (p.up fr n v):=by
 induction p using Pf.ind with
 |h p ih=>
  intro hs hm hix v;obtain⟨s1,s2,s3⟩:=wq hm;obtain⟨_,s4,s5,s6⟩:=zh hs;obtain⟨i1,i2,i3⟩:=(Pf.Bl _ p).1 hix;rw[Pf.Fb];have key:∀(l:List Pf),(∀x∈l,x∈p.args)->(∀x∈Pf.Gv fr n v (Aw p.kind) l,∃m,Pz (C+n) m x)/\((Pf.Gv fr n v (Aw p.kind) l).map Pf.size).sum=(l.map Pf.size).sum:=by
   intro l;induction l with
   |nil=>intro _;simp[Pf.Gv]
   |cons x l ihl=>
    intro hx;have h0:=hx x ko;obtain⟨a1,a2⟩:=ihl fun z hz=>hx z kr;have h1:=ih x h0 (s6 x h0) (s3 x h0) (i3 x h0);simp only[Pf.Gv,fW,fJ,fT];refine⟨fun z hz=> ?_,?_⟩
    .grind
    .rw[a2,(h1 _).2.2.1]
  obtain⟨k1,k2⟩:=key p.args fun _ h=>h;exact UY (k:=0) hs hm
   (by rw[gK];exact fY fun t ht=>NL (fr+v) n t 0 (s4 t ht))
   (by rw[gK];exact fY fun f hf=>(yt (s5 f hf) (fr:=fr+(v+AN p.kind)) hn).2.1)
   (fun y hy=>by
    obtain⟨t,ht,rfl⟩:=fO.1 hy;have h1:=y6 (fr:=fr+v) 0 (s4 t ht) hn;exact⟨h1,fun q hq=>⟨Tm.AR _ h1 0 q hq,by have:=RA (C:=C-1) (s4 t ht) hn (fun r hr=>kr) q hq;omega⟩⟩)
   (fun y hy=>by
    obtain⟨f,hf,rfl⟩:=fO.1 hy;exact⟨(yt (s5 f hf) hn).1,fun q hq r hr=>by have:=Yj9 (s5 f hf) (C:=C-1) hn (fun q hq r hr=>kr) q hq r hr;omega⟩)
   (LB _ _ _ _ _) k1 kn
theorem WX(C:Int)(hi:0<=i):Pz C 1 (vd i):=⟨Zxt hi,kz,Z5 i,Yrm C i⟩
theorem cH{p:Pf}{f:Int}(hb:0<=b):p.shape=true->p.small=true->p.ix C->∀y,Pz C p.size (p.lh f b y):=by
 induction p using Pf.ind with
 |h p ih=>
  intro hs hm hix y;obtain⟨s1,s2,s3⟩:=wq hm;obtain⟨hh,s4,s5,s6⟩:=zh hs;obtain⟨i1,i2,i3⟩:=(Pf.Bl _ p).1 hix;rw[Pf.Gi];by_cases hk:p.kind=1
  .rw[if_pos hk];obtain⟨_,_,_,_,_,hi,_⟩:=GF hh;have hz:p.size=1:=YI hs hk;rw[hz];exact WX C kn
  .rw[if_neg hk];have key:∀(l:List Pf),(∀x∈l,x∈p.args)->(∀x∈Pf.lhs f b y (AA p.kind) l,∃m,Pz C m x)/\((Pf.lhs f b y (AA p.kind) l).map Pf.size).sum=(l.map Pf.size).sum:=by
    intro l;induction l with
    |nil=>intro _;simp[Pf.lhs]
    |cons x l ihl=>
     intro hx;have h0:=hx x ko;obtain⟨a1,a2⟩:=ihl fun z hz=>hx z kr;have h1:=ih x h0 (s6 x h0) (s3 x h0) (i3 x h0);simp only[Pf.lhs,fW,fJ,fT];refine⟨fun z hz=> ?_,?_⟩
     .grind
     .rw[a2,(h1 _).2.2.1]
   obtain⟨k1,k2⟩:=key p.args fun _ h=>h;exact UY (k:=0) hs hm rfl rfl (fun t ht=>⟨s4 t ht,i1 t ht⟩) (fun f hf=>⟨s5 f hf,i2 f hf⟩) (O0 _ _ _ _ _) k1 kn
theorem Ye{p r:Pf}(hR:∀(v h:Int),0<=v->v<=200000->0<=h->h<=200000->Pz (C+200000) r.size (r.H9 v h))(hC:0<=C):
 p.shape=true->p.small=true->p.ix C->∀v y:Int,0<=v->0<=y->v+2*p.size<=200000->y+2*p.size<=200000->Pz (C+200000) (p.size+(p.DM (C3 0) y).length*(r.size-1)) (Pf.ph 0 r v y p):=by
 induction p using Pf.ind with
 |h p ih=>
  intro hs hm hix v y hv hy hvz hyz;obtain⟨s1,s2,s3⟩:=wq hm;obtain⟨hh,s4,s5,s6⟩:=zh hs;obtain⟨i1,i2,i3⟩:=(Pf.Bl _ p).1 hix;have hz:=p.size_eq;have rp:=r.size_pos;rw[Pf.Ht,Pf.CC];by_cases hk:p.kind=1
  .rw[if_pos hk];obtain⟨nd,n1,_,_,n4,hi,_⟩:=GF hh;have hz1:p.size=1:=YI hs hk;have hnil:p.args=[]:=by
    rw[hk] at n1;simp[B6] at n1
    grind
   rw[hz1,hnil];simp only[Pf.Bn,iy,gq];by_cases h0:p.index-y=0
   .rw[if_pos h0];have e:C3 0 p.kind p.index y=[p.index]:=nr
    grind
   .rw[if_neg h0];have e:C3 0 p.kind p.index y=[]:=nr
    rw[e];simp only[gB,kK,jc];split
    .exact WX _ kn
    .exact WX _ hi
  .rw[if_neg hk];have e:C3 0 p.kind p.index y=[]:=nr
   rw[e,gz];have b1:0<=Aw p.kind/\Aw p.kind<=2:=mA
   have b2:0<=AA p.kind/\AA p.kind<=1:=nv
   have key:∀(l:List Pf),(∀x∈l,x∈p.args)->(∀x∈Pf.EO 0 r v y (Aw p.kind) (AA p.kind) l,∃m,Pz (C+200000) m x)/\
    ((Pf.EO 0 r v y (Aw p.kind) (AA p.kind) l).map Pf.size).sum=(l.map Pf.size).sum+(Pf.Bn (C3 0) y (AA p.kind) l).flatten.length*(r.size-1):=by
    intro l;induction l with
    |nil=>intro _;simp[Pf.EO,Pf.Bn]
    |cons x l ihl=>
     intro hx;have h0:=hx x ko;have h2:=zc Pf.size h0;obtain⟨a1,a2⟩:=ihl fun z hz=>hx z kr;have h1:=ih x h0 (s6 x h0) (s3 x h0) (i3 x h0) (if l.length=0 then v+Aw p.kind else v) (if l.length=0 then y+AA p.kind else y) kn kn kn kn;simp only[Pf.EO,Pf.Bn,fW,fJ,fT,iR,ga];refine⟨fun z hz=> ?_,?_⟩
     .grind
     .rw[a2,h1.2.2.1,iw];omega
   obtain⟨k1,k2⟩:=key p.args fun _ h=>h;exact UY hs hm rfl rfl (fun t ht=>⟨s4 t ht,fun q hq=>kr⟩) (fun f hf=>⟨s5 f hf,fun q hq s hs=>kr⟩) (Pj _ _ _ _ _ _ _) k1 k2
theorem Pz.err{C:Int}{n:Nat}{p:Pf}(h:Pz C n p)(hn:n<=16384):p.err=0:=(Pf.Aa p).2 ⟨h.1,h.2.1,by rw[h.2.2.1];exact hn⟩
theorem Pz.near{C:Int}{n:Nat}{p:Pf}(h:Pz C n p)(hC:C<=1000000):p.Br=true:=by
 have key:∀(p:Pf),p.ix C->∀v,(p.Ee (fun(_:Int) (t:Tm)=>t.near) (fun(_:Int) (f:Fm)=>f.near) v).all id=true:=by
  intro p;induction p using Pf.ind with
  |h p ih=>
   intro hix v;obtain⟨i1,i2,i3⟩:=(Pf.Bl _ p).1 hix;rw[Pf.CM,gC,gC,fD,fD];refine⟨⟨fF.2 fun b hb=> ?_,fF.2 fun b hb=> ?_⟩,fF.2 fun b hb=> ?_⟩
   .exact rT
   .obtain ⟨f,hf,rfl⟩:=fO.1 hb;exact Uy hC fun q hq r hr=>kr
   .exact qx
 exact key p h.2.2.2 0
theorem dc(C fr n:Int)(p:Pf):p.hx C->∀v,(p.up fr n v).hx C:=by
 induction p using Pf.ind with
 |h p ih=>
  intro h v;obtain⟨h1,h2⟩:=(Pf.Bj C p).1 h;rw[Pf.Fb,Pf.Bj];simp only[Pf.Ai,Pf.AG,Pf.Af];refine⟨h1,fun hk x hx=> ?_⟩;obtain⟨m,hm,rfl⟩:=gj hx;rw[LB] at hm;rw[On _ _ _ _ _ _ hm]
  grind
theorem Made.err{n:Nat}{p:Pf}(h:Made n p):p.err=0\/p.err=4:=by
 unfold Pf.err;rw[h.shape];grind
theorem Nu:CB.full=2:=kq
structure Y8 (p r:Pf) (t:Tm) (x y a a' s b:Pf) (e f g h i j:Int):Prop where
 res:(g=4\/j=4)\/(e=0/\f=0/\g=0/\h=0/\i=0/\j=0/\y=p/\a'=b)
 fx:x.full<=200000000
 fa:a.full<=200000000
 fs:s.full<=200000000
 fy:y.full<=200000000
 fa':a'.full<=200000000
 fb:b.full<=200000000
def De(p:Pf)(a:Int)(s:Tm):Pf:=if vh p a s=0 then p.pt a s 0 else CB
def Ff(p:Pf)(a:Int)(q:Pf):Pf:=if D8 p a q=0 then Pf.ph a q 0 0 p else CB
theorem Yk7{p:Pf}{a:Int}{s:Tm}(h:vh p a s≠0):De p a s=CB:=if_neg h
theorem Yf7{p q:Pf}{a:Int}(h:D8 p a q≠0):Ff p a q=CB:=if_neg h
theorem LH{p:Pf}(h:p.err=0):p.full<=1064960:=by
 have h1:=(Pf.Aa p).1 h;have:=Of p h1.1;omega
def JI(k:Int)(l:List (Int×Int)):Int:=(l.map fun q=>q.2*(k-1)).sum
theorem VD(k:Int)(l l':List (Int×Int)):JI k (l++l')=JI k l+JI k l':=by
 unfold JI;simp
theorem Ykh(n k:Int)(l:List (Int×Int)):Dt n k l=n+JI k l:=rfl
theorem Xp{α:Type}{sz sz':α->Nat}{G:α->Int×Int}(l:List α)(h:∀x∈l,(sz' x:Int)=sz x+(G x).2*(k-1)):(((l.map sz').sum:Nat):Int)=((l.map sz).sum:Nat)+JI k (l.map G):=by
 unfold JI;induction l<;>grind
theorem Ytm{s:Tm}{a:Int}(ha:0<=a)(hs:s.shape=true)(p:Pf):p.shape=true->∀v,0<=v->(∀q∈p.Ee (BN a) (BX a) v,q.1+q.2*((s.size:Int)-1)<=4096)->
 (p.pt a s v).shape=true/\(p.pt a s v).small=true/\((p.pt a s v).size:Int)=p.size+JI s.size (p.Ee (BN a) (BX a) v):=by
 have sp:=s.size_pos;have cast:∀(n c:Nat),((n+c*(s.size-1):Nat):Int)=(n:Int)+(c:Int)*((s.size:Int)-1):=fun n c=>by
  grind
 induction p using Pf.ind with
 |h p ih=>
  intro hp v hv hq;obtain⟨_,s4,s5,s6⟩:=zh hp;have fv:0<=AN p.kind:=by unfold AN;omega
  have b1:0<=Aw p.kind:=mA
  rw[Pf.CM] at hq ⊢;have zt:∀t∈p.terms,((t.re (yq (a+v) s) 0).size:Int)=t.size+(BN a v t).2*((s.size:Int)-1):=fun t ht=>by
   rw[PG (a+v) s t hs 0 (s4 t ht),cast];rfl
  have zf:∀f∈p.Ae,((f.put (a+(v+AN p.kind)) s).size:Int)=f.size+(BX a (v+AN p.kind) f).2*((s.size:Int)-1):=fun f hf=>by
   have e:(f.put (a+(v+AN p.kind)) s).size=f.size+ud (a+(v+AN p.kind)) (f.A6 0)*(s.size-1):=v7 (a+(v+AN p.kind)) s hs f (s5 f hf) 0;rw[e,cast];rfl
  have key:∀(l:List Pf),(∀x∈l,x∈p.args)->(∀q∈(Pf.Bp (BN a) (BX a) v (Aw p.kind) l).flatten,q.1+q.2*((s.size:Int)-1)<=4096)->
   (∀x∈Pf.pts a s v (Aw p.kind) l,x.shape=true/\x.small=true)/\((((Pf.pts a s v (Aw p.kind) l).map Pf.size).sum:Nat):Int)=((l.map Pf.size).sum:Nat)+JI s.size (Pf.Bp (BN a) (BX a) v (Aw p.kind) l).flatten:=by
   intro l;induction l with
   |nil=>intro _ _;simp[Pf.pts,Pf.Bp,JI]
   |cons x l ihl=>
    intro hx hq;simp only[Pf.Bp,iR,fV] at hq;obtain⟨a1,a2⟩:=ihl (fun z hz=>hx z kr) fun q h=>hq q (.inr h);obtain⟨c1,c2,c3⟩:=ih x (hx x ko) (s6 x (hx x ko)) (if l.length=0 then v+Aw p.kind else v) kn fun q h=>hq q (.inl h);simp only[Pf.pts,Pf.Bp,fW,fJ,fT,iR];refine⟨fun z hz=> ?_,?_⟩
    .grind
    .rw[VD,ij,a2,c3];omega
  simp only[fV] at hq;obtain⟨k1,k2⟩:=key p.args (fun _ h=>h) fun q h=>hq q (.inr h);rw[Pf.Fa];refine⟨R2 hp (gH ..) (gH ..) (K8 _ _ _ _ _) (fun y hy=> ?_) (fun y hy=> ?_) (fun x h=>(k1 x h).1),?_,?_⟩
  .obtain ⟨t,ht,rfl⟩:=fO.1 hy;exact Pn 0 hs (s4 t ht) kn kn (fun p hp=>yw t 0 p hp)
  .obtain ⟨f,hf,rfl⟩:=fO.1 hy;exact uj kn hs (s5 f hf)
  .rw[Pf.CE];simp only[fD,fF,decide_eq_true_eq,Pf.Am,Pf.Au,Pf.Af];refine⟨⟨fun y hy=> ?_,fun y hy=> ?_⟩,fun x h=>(k1 x h).2⟩
   .obtain ⟨t,ht,rfl⟩:=fO.1 hy;have:=hq _ (.inl (.inl (fO.2 ⟨t,ht,rfl⟩)));have:=zt t ht;have:(BN a v t).1=t.size:=rfl;omega
   .obtain ⟨f,hf,rfl⟩:=fO.1 hy;have:=hq _ (.inl (.inr (fO.2 ⟨f,hf,rfl⟩)));have:=zf f hf;have:(BX a (v+AN p.kind) f).1=f.size:=rfl;omega
  .rw[Pf.size_eq,p.size_eq];simp only[Pf.Am,Pf.Au,Pf.Af,gK];have q1:=Xp (sz:=Tm.size) (sz':=Tm.size∘fun t=>t.re (yq (a+v) s) 0) (G:=BN a v) (k:=s.size) p.terms zt;have q2:=Xp (sz:=Fm.size) (sz':=Fm.size∘fun f=>f.put (a+(v+AN p.kind)) s) (G:=BX a (v+AN p.kind)) (k:=s.size) p.Ae zf;rw[VD,VD];omega
theorem Ys9(C a:Int)(s:Tm)(p:Pf):p.hx C->∀v,(p.pt a s v).hx C:=by
 induction p using Pf.ind with
 |h p ih=>
  intro h v;obtain⟨h1,h2⟩:=(Pf.Bj C p).1 h;rw[Pf.Fa,Pf.Bj];simp only[Pf.Ai,Pf.AG,Pf.Af];refine⟨h1,fun hk x hx=> ?_⟩;obtain⟨m,hm,rfl⟩:=gj hx;rw[K8] at hm;rw[Nv _ _ _ _ _ _ hm]
  grind
theorem Ysz(C a:Int)(s:Tm)(p:Pf):p.lx C->∀v,(p.pt a s v).lx C:=by
 induction p using Pf.ind with
 |h p ih=>
  intro h v;obtain⟨h1,h2⟩:=(Pf.BK C p).1 h;rw[Pf.Fa,Pf.BK];simp only[Pf.Ai,Pf.AG,Pf.Af];refine⟨h1,fun x hx=> ?_⟩;obtain⟨m,hm,rfl⟩:=gj hx;rw[K8] at hm;rw[Nv _ _ _ _ _ _ hm]
  grind
theorem Q7{p:Pf}(h:p.lx C)(hc:C<=C'):p.lx C':=by
 induction p using Pf.ind with
 |h p ih=>
  obtain⟨h1,h2⟩:=(Pf.BK C p).1 h;exact(Pf.BK C' p).2 ⟨fun hk=>kn,fun x hx=>ih x hx (h2 x hx)⟩
def yl(p:Pf):Int×Int:=if p.kind=16\/p.kind=17 then(p.kind,(p.terms.getD 0 AB).kind) else if 0<p.args.length then(p.kind,(p.args.getD 0 CB).kind) else(p.kind,0)
def GR:List (Int×Int):=[(4,3),(5,3),(7,6),(9,8),(13,12),(11,10),(15,14),(16,4),(16,5),(17,7),(17,8)]
theorem Ux{p:Pf}(h:p.kind=16\/p.kind=17):yl p=(p.kind,(p.terms.getD 0 AB).kind):=if_pos h
theorem SM{p:Pf}(h:¬(p.kind=16\/p.kind=17))(h0:0<p.args.length):yl p=(p.kind,(p.args.getD 0 CB).kind):=nw
theorem Sf{p:Pf}(h:¬(p.kind=16\/p.kind=17))(h0:¬0<p.args.length):yl p=(p.kind,0):=nw
def Gn(p:Pf):Bool:=decide (yl p∈GR)
def un(q:Pf)(t:Tm)(p:Pf):Pf×Int:=if vh q 0 t≠0 then(CB,vh q 0 t) else(Ff (De q 0 t) 0 p,D8 (De q 0 t) 0 p)
def vt(p:Pf)(t:Tm):Pf:= .mk p.kind p.index p.ty [t] p.Ae p.args
def Pf.arg(p:Pf)(i:Nat):Pf:=p.args.getD i CB
def Pf.Cb(p:Pf):Tm:=p.terms.getD 0 AB
def EY(t:Tm):Tm:=if wm t 0 1=0 then t.re (zi 0 1) 0 else AB
def Ip(p:Pf)(h l:Tm):Pf×Int:=
 if wm l 0 1≠0 then(CB,wm l 0 1) else if vh (p.arg 1) 0 (EY l)≠0 then(CB,vh (p.arg 1) 0 (EY l)) else un (De (p.arg 1) 0 (EY l)) h (vt p l)
def z7(p:Pf):Pf×Int:=
 if yl p=(4,3) then((p.arg 0).arg 0,0)
 else if yl p=(5,3) then((p.arg 0).arg 1,0)
 else if yl p=(7,6) then(Ff ((p.arg 0).arg 0) 0 (p.arg 1),D8 ((p.arg 0).arg 0) 0 (p.arg 1))
 else if yl p=(9,8)\/yl p=(13,12) then(De ((p.arg 0).arg 0) 0 p.Cb,vh ((p.arg 0).arg 0) 0 p.Cb)
 else if yl p=(11,10)\/yl p=(15,14) then un (p.arg 1) (p.arg 0).Cb ((p.arg 0).arg 0)
 else if yl p=(16,5) then un (p.arg 1) (p.Cb.args.getD 0 AB) (vt p (p.Cb.args.getD 0 AB))
 else if yl p=(17,8) then Ip p (p.Cb.args.getD 0 AB) (p.Cb.args.getD 1 AB)
 else(p.arg 0,0)
mutual
def Pf.nx:Pf->Pf×Bool×Int
 | .mk k i s ts fs zs=>if Gn (.mk k i s ts fs zs)=true then((z7 (.mk k i s ts fs zs)).1,true,(z7 (.mk k i s ts fs zs)).2)
   else(.mk k i s ts fs (Pf.CY zs).1,(Pf.CY zs).2.1,(Pf.CY zs).2.2)
def Pf.CY:List Pf->List Pf×Bool×Int
 |[]=>([],false,0)
 |p::l=>if(Pf.nx p).2.1=true\/(Pf.nx p).2.2≠0 then((Pf.nx p).1::l,(Pf.nx p).2.1,(Pf.nx p).2.2) else(p::(Pf.CY l).1,(Pf.CY l).2.1,(Pf.CY l).2.2)
end
theorem Pf.DC(p:Pf):p.nx=if Gn p=true then((z7 p).1,true,(z7 p).2) else(.mk p.kind p.index p.ty p.terms p.Ae (Pf.CY p.args).1,(Pf.CY p.args).2.1,(Pf.CY p.args).2.2):=kZ
mutual
def Pf.direct:Pf->Bool
 | .mk k i s ts fs zs=>if Gn (.mk k i s ts fs zs)=true then false else Pf.DF zs
def Pf.DF:List Pf->Bool
 |[]=>true
 |p::l=>Pf.direct p&&Pf.DF l
end
theorem Pf.E0(p:Pf):p.direct=if Gn p=true then false else Pf.DF p.args:=kZ
theorem VP:∀l:List Pf,Pf.DF l=l.all Pf.direct
 |[]=>rfl
 |p::l=>by simp only[Pf.DF,jg,VP l]
def xv(p:Pf):Pf×Bool×Int:=if p.nx.2.2≠0\/p.nx.1.err≠0 then(CB,false,4) else(p.nx.1,p.nx.2.1,0)
theorem Zs6{p:Pf}(hs:p.shape=true):(p.kind=16\/p.kind=17->p.terms≠[]):=by
 intro h;obtain⟨hh,_⟩:=zh hs;obtain⟨nd,n1,n2,_⟩:=GF hh;have:nd.terms=1:=by
  rcases h with h|h<;>(rw[h] at n1;unfold B6 at n1;grind)
 grind
theorem Tn{p:Pf}{a:Int}(h:vh p a t=0):p.err=0/\(0<=a/\a<=4096)/\t.err=0/\p.Br=true/\t.near=true/\D7 t.size (Lq p a t)=false/\Dt p.size t.size (Lq p a t)<=16384:=by
 have h1:p.err=0:=gG fun hc=>by rw[ZC hc] at h;omega
 have h2:0<=a/\a<=4096:=gG fun hc=>by rw[YE h1 hc] at h;cases h
 have h3:t.err=0:=gG fun hc=>by rw[Y1 h1 h2 hc] at h;omega
 have h4:¬(p.Br=false\/t.near=false):=fun hc=>by rw[XS h1 h2 h3 hc] at h;cases h
 rw[Xx h1 h2 h3 h4] at h
 grind
theorem U7{p:Pf}{a:Int}(h:vh p a t=0):(De p a t).err=0:=by
 obtain⟨h1,h2,h3,_,_,hB,hN⟩:=Tn h;obtain⟨g1,g2,g3⟩:=(Pf.Aa p).1 h1;have e:De p a t=p.pt a t 0:=by unfold De;grind
 unfold D7 at hB;rw[List.any_eq_false] at hB;rw[Ykh] at hN;obtain⟨k1,k2,k3⟩:=Ytm h2.1 ((Tm.Aa t).1 h3).1 p g1 0 kn fun q hq=>by
  have:=hB q hq
  grind
 unfold Lq at hN;rw[e,Pf.Aa];grind
theorem TL{p q:Pf}{a:Int}(h:D8 p a q=0):p.err=0/\(0<=a/\a<=16384)/\q.err=0/\p.Bu=true/\q.Bu=true/\q.Br=true/\(p.size:Int)+GD p a*(q.size-1)<=16384:=by
 have h1:p.err=0:=gG fun hc=>by rw[c9 hc] at h;omega
 have h2:0<=a/\a<=16384:=gG fun hc=>by rw[Y9 h1 hc] at h;cases h
 have h3:q.err=0:=gG fun hc=>by rw[YZ h1 h2 hc] at h;omega
 have h4:¬(p.Bu=false\/q.Bu=false\/q.Br=false):=fun hc=>by rw[ZT h1 h2 h3 hc] at h;cases h
 rw[eW h1 h2 h3 h4] at h
 grind
theorem M1{α:Type}{P:α->Int->Prop}(hP:∀x c c',P x c->c<=c'->P x c')(c0:Int):∀l:List α,(∀x∈l,∃c,P x c)->∃c,c0<=c/\∀x∈l,P x c
 |[],_=>⟨c0,kn,fun x h=>kM⟩
 |x::l,h=>by
  obtain⟨c,h1,h2⟩:=M1 hP c0 l fun y hy=>h y kr;obtain⟨d,h3⟩:=h x ko;by_cases hcd:c<=d
  .exact ⟨d,kn,fun y hy=>kr⟩
  .exact ⟨c,h1,fun y hy=>by rcases fW.1 hy with rfl|hy;exact hP _ _ _ h3 kn;grind⟩
theorem Ykr(p:Pf):p.shape=true->∃C:Int,549755813888<=C/\p.ix C:=by
 induction p using Pf.ind with
 |h p ih=>
  intro hs;obtain⟨_,s4,s5,s6⟩:=zh hs;have bv:∀l:List (Int×Int),(∀q∈l,0<=q.1)->∃c,(549755813888:Int)<=c/\∀q∈l,0<=q.1/\q.1<c:=fun l hl=>
   M1 (P:=fun(q:Int×Int) c=>0<=q.1/\q.1<c) (fun x c c' h h'=>⟨h.1,kn⟩) _ l fun q hq=>⟨q.1+1,hl q hq,kn⟩
  obtain⟨c1,g1,k1⟩:=M1 (P:=fun(t:Tm) c=>∀q∈t.vars 0,0<=q.1/\q.1<c) (fun x c c' h h' q hq=>⟨(h q hq).1,kr⟩) 549755813888 p.terms fun t ht=>by
   obtain⟨c,_,h⟩:=bv (t.vars 0) fun q hq=>t.AR (s4 t ht) 0 q hq;exact⟨c,h⟩
  obtain⟨c2,g2,k2⟩:=M1 (P:=fun(f:Fm) c=>∀z∈f.A6 0,∀q∈z.1.vars 0,0<=q.1/\q.1<c) (fun x c c' h h' z hz q hq=>⟨(h z hz q hq).1,kr⟩) 549755813888 p.Ae fun f hf=>by
   obtain⟨c,_,h⟩:=M1 (P:=fun(z:Tm×Int) c=>∀q∈z.1.vars 0,0<=q.1/\q.1<c) (fun x c c' h h' q hq=>⟨(h q hq).1,kr⟩) 0 (f.A6 0) fun z hz=>by
    obtain⟨c,_,h⟩:=bv (z.1.vars 0) fun q hq=>z.1.AR (xj f (s5 f hf) 0 z hz) 0 q hq;exact⟨c,h⟩
   exact⟨c,h⟩
  obtain⟨c3,g3,k3⟩:=M1 (P:=fun(x:Pf) c=>x.ix c) (fun x c c' h h'=>KB h h') 549755813888 p.args fun x hx=>by
   grind
  refine⟨c1+c2+c3,kn,(Pf.Bl _ p).2 ⟨fun t ht q hq=>⟨(k1 t ht q hq).1,kr⟩,fun f hf z hz q hq=>⟨(k2 f hf z hz q hq).1,kr⟩,fun x hx=>KB (k3 x hx) kn⟩⟩
theorem Yz{r:Pf}(he:r.err=0)(hn:r.Br=true)(hh:r.Bu=true){h:Int}(hv:0<=v/\v<=200000)(hh2:0<=h/\h<=200000):
 r.H9 v h=(r.up 0 v 0).lh 0 h 0/\Pz (549755813888+v) r.size ((r.up 0 v 0).lh 0 h 0):=by
 obtain⟨hs,hm,hz⟩:=(Pf.Aa r).1 he;have hi:=Z2 r hs hm 0 hn;have hx:=YA r hs 0 hh;have h1:=bA (fr:=0) (n:=v) (C:=549755813888) hv.1 hs hm hi 0;have hf:=Of _ h1.1;have h2:=h1.2.2.1;unfold Pf.H9;rw[XL kn hs hm hi 0];rw[ei kn (Lg _ h1.1) (dc _ _ _ _ hx 0) 0 kn];refine⟨rfl,?_⟩;have:=cH (f:=0) (b:=h) hh2.1 h1.1 h1.2.1 h1.2.2.2 0
 grind
theorem QX{p q:Pf}(h:D8 p 0 q=0):(Ff p 0 q).err=0:=by
 obtain⟨h1,_,h3,n1,n2,n3,hN⟩:=TL h;obtain⟨g1,g2,g3⟩:=(Pf.Aa p).1 h1;have rp:=q.size_pos;have e:Ff p 0 q=Pf.ph 0 q 0 0 p:=by unfold Ff;grind
 have hsz:((p.size+(p.DM (C3 0) 0).length*(q.size-1):Nat):Int)=(p.size:Int)+GD p 0*(q.size-1):=by
  unfold GD
  grind
 obtain⟨C,hC,hix⟩:=Ykr p g1;have hA:Pz _ _ (Pf.ph 0 q 0 0 p):=Ye (p:=p) (r:=q) (C:=C) (fun v h q1 q2 q3 q4=>by
  obtain⟨w1,w2⟩:=Yz h3 n3 n2 ⟨q1,q2⟩ ⟨q3,q4⟩;rw[w1];exact⟨w2.1,w2.2.1,w2.2.2.1,KB w2.2.2.2 kn⟩) kn g1 g2 hix 0 0 kn kn kn kn
 rw[e];exact hA.err kn
theorem Ny(p:Pf)(a:Int)(t:Tm):(De p a t).full<=1064960:=by
 by_cases h:vh p a t=0
 .exact LH (U7 h)
 .rw[Yk7 h,Nu];omega
theorem YY(p q:Pf):(Ff p 0 q).full<=1064960:=by
 by_cases h:D8 p 0 q=0
 .exact LH (QX h)
 .rw[Yf7 h,Nu];omega
theorem cu(q:Pf)(t:Tm)(p:Pf):(un q t p).1.full<=1064960:=by
 unfold un;split
 .simp only[Nu];omega
 .exact YY _ _
theorem Ypn(p:Pf):2<=p.full:=by rw[p.Ag];have:=p.ty.size_pos;omega
theorem Vm(p:Pf)(i:Nat):(p.arg i).full<=p.full:=by
 unfold Pf.arg;by_cases h:i<p.args.length
 .rw[vg h];have h1:=zc Pf.full (fA h);rw[p.Ag];omega
 .rw[List.getD,iC kn];exact gD (jD Nu) (Ypn p)
theorem Zsy(p:Pf):(z7 p).1.full<=p.full+1064960:=by
 have h0:=Vm p 0;have h1:=Vm (p.arg 0) 0;have h2:=Vm (p.arg 0) 1;unfold z7;repeat' split
 all_goals first
  |(simp only;omega)
  |(have:=YY ((p.arg 0).arg 0) (p.arg 1);simp only;omega)
  |(have:=Ny ((p.arg 0).arg 0) 0 p.Cb;simp only;omega)
  |(exact gD (cu _ _ _) kn)
  |(unfold Ip;split
    .simp only[Nu];omega
    .split
     .simp only[Nu];omega
     .exact gD (cu _ _ _) kn)
theorem Ymg(p:Pf):p.nx.1.full<=p.full+1064960:=by
 induction p using Pf.ind with
 |h p ih=>
  rw[Pf.DC];split
  .exact Zsy p
  .have key:∀l:List Pf,(∀x∈l,x∈p.args)->((Pf.CY l).1.map Pf.full).sum<=(l.map Pf.full).sum+1064960:=by
    intro l;induction l with
    |nil=>intro _;simp[Pf.CY]
    |cons x l ihl=>
     intro hx;have h1:=ih x (hx x ko);have h2:=ihl fun z hz=>hx z kr;simp only[Pf.CY]
     grind
   have h1:=key p.args fun _ h=>h;simp only;rw[Pf.Ag,p.Ag];simp only[Pf.AO,Pf.Am,Pf.Au,Pf.Af];omega
theorem Ov(p:Pf):(yl p).1=p.kind:=nw
theorem Xr:∀(l:List Pf) (m:Nat) (hm:m<l.length),(∀i (hi:i<l.length),i<m->l[i].nx.2.1=false/\l[i].nx.2.2=0)->(l[m].nx.2.1=true\/l[m].nx.2.2≠0)->Pf.CY l=(l.set m l[m].nx.1,l[m].nx.2.1,l[m].nx.2.2)
 |p::l,0,hm,h,hx=>by simp only[Pf.CY,fM] at hx ⊢;rw[if_pos hx];rfl
 |p::l,m+1,hm,h,hx=>by
  have h0:=h 0 ko kn;simp only[fM] at h0;simp only[Pf.CY,gi];rw[if_neg (by simp[h0.1,h0.2]),Xr l m nA (fun i hi him=>h (i+1) (by simpa using hi) kn) hx]
  rfl
theorem WN:∀(l:List Pf),(∀i (hi:i<l.length),l[i].nx.2.1=false/\l[i].nx.2.2=0)->Pf.CY l=(l,false,0)
 |[],_=>rfl
 |p::l,h=>by
  have h0:=h 0 ko;simp only[fM] at h0;simp only[Pf.CY];rw[if_neg (by simp[h0.1,h0.2]),WN l fun i hi=>h (i+1) (by simpa using hi)]
def Eb(k i _y:Int):List Bool:=if k=1\/k=2 then [decide (i<=536870912)] else []
def Pf.Da(p:Pf):Bool:=([p.Br&&p.Bu]++p.DM Eb 0).all id
def JH(p:Pf):Pf×Bool×Int:=if p.err≠0 then(CB,false,p.err) else if p.Da=false then(CB,false,1) else if(xv p).2.2≠0 then(CB,false,(xv p).2.2) else xv p
theorem Qz{p:Pf}(h:(xv p).2.2=0):p.nx.2.2=0/\(xv p).1=p.nx.1/\(xv p).2.1=p.nx.2.1/\p.nx.1.err=0:=by
 unfold xv at h ⊢;by_cases hc:p.nx.2.2≠0\/p.nx.1.err≠0
 .rw[if_pos hc] at h;cases h
 .rw[if_neg hc];exact⟨fC.1 fun h=>hc (.inl h),rfl,rfl,fC.1 fun h=>hc (.inr h)⟩
theorem aP(p:Pf):Pf.mk p.kind p.index p.ty p.terms p.Ae p.args=p:=kZ
theorem Zzo(p:Pf):p.direct=true->p.nx=(p,false,0):=by
 induction p using Pf.ind with
 |h p ih=>
  intro h;rw[Pf.E0] at h;have hr:¬Gn p=true:=fun hc=>by rw[if_pos hc] at h;cases h
  rw[if_neg hr,VP,fF] at h;rw[Pf.DC,if_neg hr,WN p.args fun i hi=>by rw[ih _ (fA hi) (h _ (fA hi))];exact⟨rfl,rfl⟩];rw[aP]
theorem Ycz(p:Pf):p.nx.2.1=false->p.nx.2.2=0->p.direct=true/\p.nx.1=p:=by
 induction p using Pf.ind with
 |h p ih=>
  intro h1 h2;have hr:¬Gn p=true:=fun hc=>by rw[Pf.DC,if_pos hc] at h1;cases h1
  rw[Pf.DC,if_neg hr] at h1 h2 ⊢;simp only at h1 h2 ⊢;have key:∀l:List Pf,(∀x∈l,x∈p.args)->(Pf.CY l).2.1=false->(Pf.CY l).2.2=0->(∀x∈l,x.direct=true)/\(Pf.CY l).1=l:=by
   intro l;induction l with
   |nil=>intro _ _ _;exact⟨fun x h=>by(cases h),rfl⟩
   |cons x l ihl=>
    intro hx g1 g2;simp only[Pf.CY] at g1 g2 ⊢;by_cases hc:x.nx.2.1=true\/x.nx.2.2≠0
    .rw[if_pos hc] at g1 g2;simp only at g1 g2;rcases hc with hc|hc
     .rw[g1] at hc;cases hc
     .exact absurd g2 hc
    .rw[if_neg hc] at g1 g2 ⊢;simp only at g1 g2 ⊢;obtain⟨a1,a2⟩:=ihl (fun z hz=>hx z (by simp[hz])) g1 g2;obtain⟨b1,b2⟩:=ih x (hx x ko) (by cases e:x.nx.2.1 with|false=>rfl|true=>exact absurd (.inl e) hc) (gG fun e=>hc (.inr e));refine⟨fun y hy=> ?_,by rw[a2]⟩;rcases fW.1 hy with rfl|hy
     .exact b1
     .exact a1 y hy
  obtain⟨k1,k2⟩:=key p.args (fun _ h=>h) h1 h2;refine⟨?_,by rw[k2,aP]⟩;rw[Pf.E0,if_neg hr,VP,fF];exact k1
theorem Ztw{p:Pf}(h:p.direct=true)(he:p.err=0):xv p=(p,false,0):=by
 unfold xv;rw[Zzo p h,if_neg lB]
theorem Zt2{p:Pf}(h1:(xv p).2.2=0)(h2:(xv p).2.1=false):p.direct=true:=by
 obtain⟨a,b,c,d⟩:=Qz h1;exact(Ycz p (c▸h2) a).1
theorem Ysq(p:Pf):p.nd->p.hx 10000->p.lx 10000->∀y,(p.DM Eb y).all id=true:=by
 induction p using Pf.ind with
 |h p ih=>
  intro hs hh hx y;obtain⟨i1,i2⟩:=(Pf.Bj _ p).1 hh;obtain⟨j1,j2⟩:=(Pf.BK _ p).1 hx;obtain⟨⟨nd0,a1,a2⟩,a3⟩:=(Pf.BU p).1 hs;rw[Pf.CC,gC,fD];refine⟨fF.2 fun b hb=> ?_,fF.2 fun b hb=> ?_⟩
  .unfold Eb at hb
   grind
  .exact qK
theorem Zz3{p:Pf}(hs:p.shape=true)(h1:p.ix 10000)(h2:p.hx 10000)(h3:p.lx 10000):p.Da=true:=by
 unfold Pf.Da;rw[show p.Br=true from Yig p h1 0,show p.Bu=true from Yh9 p (Lg p hs) h2 0];rw[gC,Ysq p (Lg p hs) h2 h3 0]
 rfl
theorem Made.near{p:Pf}(h:Made n p):p.Da=true:=Zz3 h.shape h.ix h.hx h.lx
end Go.Ab
namespace Go.Ab
set_option linter.all false
set_option maxRecDepth 10000
def Oh:Ed:= .mk 0 [] [] AB []
def Cl(t:Tm):Prop:=t.shape=true/\∀p∈t.vars 0,p.1<p.2
variable{c:Tm}
theorem Ysx(h:Cl c){g:Int->Int->Tm}(hg:∀i d,i<d->g i d=vT i)(b:Int)(hb:0<=b):c.re g b=c:=by
 refine Cc c b h.1 fun p hp=> ?_;have hv:=u7 c 0 b;rw[gL] at hv;rw[hv] at hp;obtain⟨q,hq,rfl⟩:=fO.1 hp;have:=h.2 q hq;exact hg _ _ lq
theorem cz(h:Cl c)(n b:Int)(hb:0<=b):c.re (zi 0 n) b=c:=Ysx h (fun i d hid=>by rw[z5,if_neg kn]) b hb
theorem cX:Cl zT:=⟨kq,by simp[zT,Tm.vars,Tm.BV]⟩
def NK(cs:List Tm)(j:Int):Tm:=if j.toNat<cs.length then cs.getD (cs.length-1-j.toNat) zT else zT
variable{cs:List Tm}
theorem Qe(h:∀c∈cs,Cl c)(j:Int):Cl (NK cs j):=by
 unfold NK;split
 .rename_i hj;rw[gy,fG kn];exact h _ (fA _)
 .exact cX
theorem Yho(t:Tm):∀(g:List Ty) (b:Int),(t.inf g).2=0->t.shape=true->∀p∈t.vars b,p.1-(p.2-b)<g.length:=by
 induction t using Tm.ind with
 |h t ih=>
  intro g b h hs p hp;rw[Tm.Ba] at h;rw[t.AY,fV] at hp;by_cases h1:t.kind=1
  .have hargs:t.args=[]:=by
    have:=KY hs;rw[h1] at this;exact fX (gV this).symm
   rw[if_pos h1] at h hp;simp only[hargs,je,gm,or_false,fW,or_false] at hp;subst hp;by_cases h2:t.index>=(g.length:Int)
   .rw[if_pos h2] at h;exact absurd h ko
   .simp only;omega
  .rw[if_neg h1] at h hp;simp only[gm,false_or] at hp;obtain⟨x,hx,hp⟩:=gh.1 hp;by_cases h2:t.kind=2
   .rw[if_pos h2] at h;by_cases h3:(Tm.A1 (g++[t.ty]) t.args).2=0
    .have:=ih x hx (g++[t.ty]) _ (Tm.CH _ _ h3 x hx) (zd hs x hx) p hp;have e:up t.kind b=b+1:=if_pos h2;rw[e] at this;simp at this;omega
    .rw[if_pos h3] at h;exact absurd h h3
   .rw[if_neg h2] at h;by_cases h3:(Tm.A1 g t.args).2=0
    .have:=ih x hx g _ (Tm.CH _ _ h3 x hx) (zd hs x hx) p hp;rw[PA h2] at this;exact this
    .rw[if_pos h3] at h;exact absurd h h3
def WB:Tm:= .mk 7 0 (.mk 0 []) []
def Ysm(x l:Tm):Tm:= .mk 8 0 (.mk 0 []) [x,l]
def SC:List Int->Tm
 |[]=>WB
 |x::l=>Ysm (Cy x.toNat) (SC l)
def P3:Tm:= .mk 13 0 (.mk 0 []) []
def XJ(a b:Tm):Tm:= .mk 10 0 (.mk 0 []) [a,b]
variable{k:Int}
theorem PY{xs:List Tm}(hk:CV k=some xs.length)(ht:x9 k=false)(h1:k≠1)(h2:k≠2)(h:∀x∈xs,Cl x):Cl (.mk k 0 (.mk 0 []) xs):=by
 refine⟨?_,fun p hp=> ?_⟩
 .rw[Tm.Ak,fD,fF];refine⟨?_,fun x hx=>(h x hx).1⟩;simp only[Tm.head,Tm.Ai,Tm.Af,Tm.AG,Tm.AO,hk,ht];simp[Ty.Bv,Ty.kind,Ty.args]
 .rw[Tm.AY,if_neg lT,gz] at hp;obtain⟨x,hx,hp⟩:=gh.1 hp;rw[PA (by simpa using h2)] at hp;exact(h x hx).2 p hp
theorem VQ:∀n,Cl (Cy n)
 |0=>cX
 |n+1=>PY (k:=5) (xs:=[Cy n]) rfl rfl kq kq (by simpa using VQ n)
theorem ew:∀l,Cl (SC l)
 |[]=>PY (k:=7) (xs:=[]) rfl rfl kq kq ko
 |x::l=>PY (k:=8) (xs:=[Cy x.toNat,SC l]) rfl rfl kq kq (by
  intro y hy;simp only[fW,gm,or_false] at hy;rcases hy with rfl|rfl
  .exact VQ _
  .exact ew l)
theorem Ynm:Cl P3:=PY (k:=13) (xs:=[]) rfl rfl kq kq ko
theorem Ypd{a b:Tm}(ha:Cl a)(hb:Cl b):Cl (XJ a b):=PY (k:=10) (xs:=[a,b]) rfl rfl kq kq (by
 intro y hy;simp only[fW,gm,or_false] at hy;rcases hy with rfl|rfl
 .exact ha
 .exact hb)
inductive Hh (C:Nat):Int->Ty->Ed->Tm->Prop
 |nat {E T n l p b e} (hT:T=Ac) (h:0<=n/\n<=E):Hh C E T (.mk n l p b e) (Cy n.toNat)
 |list {E T n l p b e} (hT:T=Al) (h:∀x∈l,0<=x/\x<=E) (hl:(l.length:Int)<=E):Hh C E T (.mk n l p b e) (SC l)
 |unit {E T r} (hT:T=Kj):Hh C E T r P3
 |pair {E T a b n l ra rb bd e ca cb} (hT:T=C4 a b) (ha:Hh C E a ra ca) (hb:Hh C E b rb cb):Hh C E T (.mk n l [ra,rb] bd e) (XJ ca cb)
 |fn {E T gs env cs a c b n l p} (hT:T=xx a c) (h1:env.length=gs.length) (h2:cs.length=gs.length)
  (h:∀i,i<gs.length->Hh C E (gs.getD i BH) (env.getD i Oh) (cs.getD i zT)) (hi:b.inf (gs++[a])=(c,0)) (hs:b.shape=true) (hh:a.ok=true) (hC:gs.length+b.size+1<=C):
  Hh C E T (.mk n l p b env) (.mk 2 0 a [b.re (z6 (NK cs)) 1])
theorem Hh.mono{C:Nat}{E E':Int}{T:Ty}{r:Ed}(h:Hh C E T r c)(he:E<=E'):Hh C E' T r c:=by
 induction h with
 |nat hT h=>exact .nat hT ⟨h.1,kn⟩
 |list hT h hl=>exact .list hT (fun x hx=>⟨(h x hx).1,by have:=(h x hx).2;omega⟩) kn
 |unit hT=>exact .unit hT
 |pair hT _ _ iha ihb=>exact .pair hT iha ihb
 |fn hT h1 h2 _ hi hs hh hC ih=>exact .fn hT h1 h2 (fun i h=>ih i h) hi hs hh hC
structure F9 (C:Nat) (E:Int) (gs:List Ty) (env:List Ed) (cs:List Tm):Prop where
 l1:env.length=gs.length
 l2:cs.length=gs.length
 h:∀i,i<gs.length->Hh C E (gs.getD i BH) (env.getD i Oh) (cs.getD i zT)
theorem F9.mono{C:Nat}{E E':Int}{gs env cs}(h:F9 C E gs env cs)(he:E<=E'):F9 C E' gs env cs:=⟨h.l1,h.l2,fun i hi=>(h.h i hi).mono he⟩
theorem OP{n:Nat}(h:∀i,i<n->Cl (cs.getD i zT))(hl:cs.length=n):∀c∈cs,Cl c:=by
 intro c hc;obtain⟨i,hi,rfl⟩:=gj hc;have:=h i kn
 rwa [gy,fG hi] at this
theorem Yqk{b:Tm}{gs:List Ty}{d:Nat}(hb:b.shape=true)(hi:(b.inf gs).2=0)(hg:gs.length<=cs.length+d)(hc:∀c∈cs,Cl c):
 (b.re (z6 (NK cs)) d).shape=true/\∀p∈(b.re (z6 (NK cs)) d).vars d,p.1<p.2:=by
 have hv:=Yho b gs d hi hb;refine⟨Q6 _ b d hb fun p hp=> ?_,fun p hp=> ?_⟩
 .simp only[z6];split
  .have:=Tm.AR b hb _ p hp;simp[vT,Tm.shape,Tm.AZ,Tm.head,CV,x9,Ty.Bv,Ty.kind,Ty.args,this]
  .rw[cz (Qe hc _) _ _ kn];exact(Qe hc _).1
 .rw[Mv _ _ _ hb] at hp;obtain⟨q,hq,hp⟩:=gh.1 hp;have h1:=hv q hq;have h2:=yw b d q hq;simp only[z6] at hp;split at hp
  .rw[Zip] at hp;simp only[fW,gm,or_false] at hp;subst hp;assumption
  .rw[cz (Qe hc _) _ _ kn] at hp;have hcl:=Qe hc (q.1-q.2);have hs:=u7 (NK cs (q.1-q.2)) 0 q.2;rw[gL] at hs;rw[hs] at hp;obtain⟨p',hp',rfl⟩:=fO.1 hp;have:=hcl.2 p' hp';simp only;omega
theorem Hh.cl{C:Nat}{E:Int}{T:Ty}{r:Ed}(h:Hh C E T r c):Cl c:=by
 induction h with
 |nat=>exact VQ _
 |list=>exact ew _
 |unit=>exact Ynm
 |pair _ _ _ iha ihb=>exact Ypd iha ihb
 | @fn T gs env cs a c b n l p hT h1 h2 _ hi hs hh hC ih=>
   have hcs:=OP ih h2;obtain⟨k1,k2⟩:=Yqk (gs:=gs++[a]) (d:=1) hs (by rw[hi]) kC hcs;refine⟨?_,fun p hp=> ?_⟩
   .rw[Tm.Ak,fD,fF];refine⟨by simp[Tm.head,CV,x9,hh],fun x hx=> ?_⟩;simp only[Tm.Af,fW,gm,or_false] at hx;subst hx;exact k1
   .rw[Tm.AY,if_neg ko,gz] at hp;simp only[Tm.Af,Tm.Ai,gx,je,gq,up,if_true] at hp;exact k2 p (by simpa using hp)
theorem F9.cl{C:Nat}{E:Int}{gs env cs}(h:F9 C E gs env cs):∀c∈cs,Cl c:=OP (fun i hi=>(h.h i hi).cl) h.l2
variable{x x' y y':Tm}
theorem Ypi{i:Int}{h:Ty}(hx:BE x x')(hy:BE y y'):BE (.mk k i h [x,y]) (.mk k i h [x',y']):=by
 have a1:BE (.mk k i h [x,y]) (.mk k i h [x',y]):=by
  induction hx with
  |refl=>exact .refl _
  |step h1 _ ih=>exact .step (.node (.cons h1 (.cons (BF.refl _) .nil))) ih
 refine a1.trans ?_;clear a1;induction hy with
 |refl=>exact .refl _
 |step h1 _ ih=>exact .step (.node (.cons (BF.refl _) (.cons h1 .nil))) ih
theorem Yq3{i:Int}{h:Ty}{z z':Tm}(hx:BE x x')(hy:BE y y')(hz:BE z z'):BE (.mk k i h [x,y,z]) (.mk k i h [x',y',z']):=by
 have a1:BE (.mk k i h [x,y,z]) (.mk k i h [x',y,z]):=by
  induction hx with
  |refl=>exact .refl _
  |step h1 _ ih=>exact .step (.node (.cons h1 (.cons (BF.refl _) (.cons (BF.refl _) .nil)))) ih
 have a2:BE (.mk k i h [x',y,z]) (.mk k i h [x',y',z]):=by
  clear a1;induction hy with
  |refl=>exact .refl _
  |step h1 _ ih=>exact .step (.node (.cons (BF.refl _) (.cons h1 (.cons (BF.refl _) .nil)))) ih
 refine(a1.trans a2).trans ?_;clear a1 a2;induction hz with
 |refl=>exact .refl _
 |step h1 _ ih=>exact .step (.node (.cons (BF.refl _) (.cons (BF.refl _) (.cons h1 .nil)))) ih
theorem Lc(hx:BE x x')(hy:BE y y'):BE (AE x y) (AE x' y'):=Ypi hx hy
end Go.Ab
namespace Go.Ab
open Go
set_option linter.all false
def nB(t:Tm):Prop:=Dy 0 t=none
variable{t:Tm}
theorem XZ(h:nB t):nf t:=fun u hu=>Rv hu h
theorem cG:∀(xs:List Tm),Gm 0 xs=none↔∀x∈xs,nB x
 |[]=>by simp[Gm]
 |x::l=>by
  simp only[Gm,fW,forall_eq_or_imp];unfold nB;cases hx:Dy 0 x with
  |some p=>simp
  |none=>simp only[iZ,true_and];exact cG l
theorem Jh(t:Tm):nB t↔vw t=false/\∀x∈t.args,nB x:=by
 unfold nB;rw[Ii];by_cases h:vw t=true
 .rw[if_pos h];simp[h]
 .rw[if_neg h,iZ,cG];simp[h];rfl
def NB(N:Nat)(t:Tm):Prop:=∃u,BE t u/\nB u/\u.size<=N
variable{N:Nat}
theorem NB.of(h:nB t)(hz:t.size<=N):NB N t:=⟨t,.refl t,h,hz⟩
variable{u:Tm}
theorem NB.st(h:NB N u)(hp:BE t u):NB N t:=by
 obtain⟨v,h1,h2,h3⟩:=h;exact⟨v,hp.trans h1,h2,h3⟩
variable{M:Nat}
theorem NB.le(h:NB N t)(hl:N<=M):NB M t:=by
 obtain⟨v,h1,h2,h3⟩:=h;exact⟨v,h1,h2,kn⟩
theorem NB.norm{s:Int}(h:NB N t)(hn:(yv t s).2.2=0):(yv t s).1.size<=N:=by
 obtain⟨u,h1,h2,h3⟩:=h;obtain⟨_,_,h4,h5,_⟩:=Kn hn;rw[W9 h5 (XZ h2) h4 h1];exact h3
theorem Lj(i:Int):nB (vT i):=rfl
variable{x:Tm}
theorem Tu{f:Tm}(hf:nB f)(hx:nB x)(hk:f.kind≠2):nB (AE f x):=by
 rw[Jh];refine⟨?_,?_⟩
 .simp[vw,AE,Tm.arg,hk]
 .simp only[AE,Tm.Af,fW,gm,or_false,forall_eq_or_imp,forall_eq];exact⟨hf,hx⟩
variable{i k:Int}{xs:List Tm}
theorem MM{h:Ty}(hk:k≠3/\k≠6/\k≠9/\k≠11/\k≠12)(hx:∀x∈xs,nB x):nB (.mk k i h xs):=by
 rw[Jh];refine⟨?_,hx⟩;obtain⟨h1,h2,h3,h4,h5⟩:=hk;simp[vw,h1,h2,h3,h4,h5]
variable{n:Tm}
theorem TR{h:Ty}{a f:Tm}(ha:nB a)(hf:nB f)(hn:nB n)(h4:n.kind≠4)(h5:n.kind≠5):nB (.mk 6 i h [a,f,n]):=by
 exact rA
theorem cC{h:Ty}{a f:Tm}(ha:nB a)(hf:nB f)(hn:nB n)(h4:n.kind≠7)(h5:n.kind≠8):nB (.mk 9 i h [a,f,n]):=by
 exact rA
theorem WJ(m n c:Int)(t:Tm):(t.re (zi m n) c).kind=t.kind:=by
 rw[Tm.A4];by_cases h:t.kind=1
 .rw[if_pos h,z5,h];rfl
 .rw[if_neg h];rfl
theorem Yl0(t:Tm)(F:Tm->Tm)(h:∀x,(F x).kind=x.kind)(hz:(F AB).kind=AB.kind)(k i:Int)(s:Ty)(j:Nat):((Tm.mk k i s (t.args.map F)).arg j).kind=(t.arg j).kind:=by
 simp only[Tm.arg,Tm.Af];by_cases hj:j<t.args.length
 .rw[vg kY,vg hj,jw,h]
 .have e1:(t.args.map F).getD j AB=AB:=by rw[gy,iC kY];rfl
  have e2:t.args.getD j AB=AB:=by rw[gy,iC kn];rfl
  rw[e1,e2]
theorem JJ(t:Tm):∀(m n c:Int),nB t->nB (t.re (zi m n) c):=by
 induction t using Tm.ind with
 |h t ih=>
  intro m n c h;rw[Jh] at h;rw[Tm.A4];by_cases hk:t.kind=1
  .rw[if_pos hk,z5];exact Lj _
  .rw[if_neg hk,Jh];refine⟨?_,?_⟩
   .have e:∀j,((Tm.mk t.kind t.index t.ty (t.args.map (Tm.re (zi m n) (up t.kind c)))).arg j).kind=(t.arg j).kind:=fun j=>Yl0 t _ (fun x=>WJ m n _ x) (WJ m n _ _) _ _ _ j;have h1:=h.1;unfold vw at h1 ⊢;simp only[e,Tm.Ai];exact h1
   .intro x hx;simp only[Tm.Af,fO] at hx;obtain⟨y,hy,rfl⟩:=hx;exact ih y hy m n _ (h.2 y hy)
theorem uv(t:Tm):∀(m n c:Int),(t.re (zi m n) c).size<=t.size:=by
 induction t using Tm.ind with
 |h t ih=>
  intro m n c;rw[Tm.A4];by_cases hk:t.kind=1
  .rw[if_pos hk,z5];exact t.size_pos
  .rw[if_neg hk,Tm.size_eq,Tm.size_eq t];simp only[Tm.Af,gK];have:∀(l:List Tm),(∀x∈l,x∈t.args)->(l.map (Tm.size∘Tm.re (zi m n) (up t.kind c))).sum<=(l.map Tm.size).sum:=by
    intro l;induction l with
    |nil=>intro _;simp
    |cons x l ih2=>
     intro hl;have h1:=ih x (hl x List.mem_cons_self) m n (up t.kind c);have h2:=ih2 fun y hy=>hl y (kf _ hy);simp only[fJ,fT,Function.comp];omega
   have:=this t.args fun x hx=>hx;omega
def ext(B:Tm)(σ:Int->Tm)(j:Int):Tm:=if j=0 then B else σ (j-1)
theorem NU(σ:Int->Tm)(B a:Tm)(c:Int)(hc:0<=c):(a.re (z6 σ) (c+1)).re (yq 0 B) c=a.re (z6 (ext B σ)) c:=by
 rw[Cq (z6 σ) 1 a c,Bz];refine Ax a c fun p hp=> ?_;have h2:=yw a c p hp;simp only[z6,ext];by_cases h:p.1<p.2
 .rw[if_pos kn,if_pos h,wh,xt,if_neg kn,if_neg kn]
 .by_cases h0:p.1-p.2=0
  .rw[if_pos kn,if_neg h,if_pos h0,wh,xt,if_pos h0,gL]
  .rw[if_neg kn,if_neg h,if_neg h0,Lh _ _ _ _ kn kn];congr 2;omega
def Sb(N:Nat)(σ:Int->Tm):Prop:=∀j,nB (σ j)/\(σ j).size<=N
theorem Sb.ext{N:Nat}{σ:Int->Tm}{B:Tm}(h:Sb N σ)(hB:nB B)(hz:B.size<=N):Sb N (ext B σ):=fun j=>by
 unfold Go.Ab.ext;by_cases h0:j=0
 .rw[if_pos h0];exact⟨hB,hz⟩
 .rw[if_neg h0];exact h _
theorem Sb.at_{σ:Int->Tm}(h:Sb N σ)(i c:Int):nB (z6 σ i c)/\(z6 σ i c).size<=N:=by
 have h1:=(h 0).1;have h2:=(h 0).2;have hp:=(σ 0).size_pos;unfold z6;by_cases hi:i<c
 .rw[if_pos hi];exact⟨Lj i,ny⟩
 .rw[if_neg hi];exact⟨JJ _ _ _ _ (h _).1,gD (uv _ _ _ _) (h _).2⟩
inductive Lf:Tm->Prop
 |v (i:Int):Lf (vT i)
 |num (m:Nat) (h:m<3):Lf (Cy m)
 |nil:Lf (nT 7 [])
 |unit:Lf (nT 13 [])
variable(m:Nat)
theorem T8(g:Int->Int->Tm):∀b,(Cy m).re g b=Cy m:=by
 induction m with
 |zero=>intro b;rfl
 |succ m ih=>intro b;simp only[Cy,Tm.re,Tm.res];rw[if_neg kq];rw[ih]
theorem ZX:nB (Cy m):=by
 induction m with
 |zero=>rfl
 |succ m ih=>exact MM kq fun x hx=>by simp at hx;subst hx;exact ih
theorem dm:(Cy m).size=m+1:=by
 induction m with
 |zero=>rfl
 |succ m ih=>simp only[Cy,Tm.size,Tm.sizes,ih];omega
theorem Lf.sb{a:Tm}(h:Lf a){σ:Int->Tm}(hs:Sb N σ)(hN:3<=N)(c:Int):nB (a.re (z6 σ) c)/\(a.re (z6 σ) c).size<=N:=by
 cases h with
 |v i=>rw[wh];exact hs.at_ i c
 |num m h=>rw[T8];exact⟨ZX m,by rw[dm];omega⟩
 |nil=>exact⟨rfl,ny⟩
 |unit=>exact⟨rfl,ny⟩
theorem Lf.kd{a:Tm}(h:Lf a):a.kind≠2:=by
 cases h with
 |v i=>exact(by decide:(1:Int)≠2)
 |num m h=>match m,h with
  |0,_=>decide
  |1,_=>decide
  |2,_=>decide
 |nil=>decide
 |unit=>decide
theorem Mk.TA{g:List Ty}{s:Ty}(h:Mk 1 g s x):Lf x:=by
 cases h with
 |var _ _ _ i hi _=>exact .v _
 |num _ _ m hm=>exact .num m hm
 |nil=>exact .nil
 |unit=>exact .unit
 |pair _ _ s t a b _ _ ha _=>nomatch ha
 |lam _ _ s t a _ _ ha=>nomatch ha
 |_=>omega
theorem Mk.Fz{g:List Ty}{s:Ty}(h:Mk 2 g s x):Lf x\/(∃a b,Lf a/\Lf b/\x=nT 10 [a,b])\/∃s a,Lf a/\x=Be s a:=by
 cases h with
 |var _ _ _ i hi _=>exact .inl (.v _)
 |num _ _ m hm=>exact .inl (.num m hm)
 |nil=>exact .inl .nil
 |unit=>exact .inl .unit
 |pair _ _ s t a b _ _ ha hb=>exact .inr (.inl ⟨a,b,ha.TA,hb.TA,rfl⟩)
 |lam _ _ s t a _ _ ha=>exact .inr (.inr ⟨s,a,ha.TA,rfl⟩)
 |_=>omega
theorem Oy(s t:Ty):(C4 s t).size≠1/\(xx s t).size≠1:=by have:=s.size_pos;have:=t.size_pos;simp[C4,xx,Ty.size,Ty.sizes];omega
theorem Mk.DZ{g:List Ty}{s:Ty}(h:Mk 2 g s x)(hs:s.size=1):Lf x:=by
 cases h with
 |var _ _ _ i hi _=>exact .v _
 |num _ _ m hm=>exact .num m hm
 |nil=>exact .nil
 |unit=>exact .unit
 |pair _ _ s t a b _ _ ha hb=>exact absurd hs (Oy s t).1
 |lam _ _ s t a _ _ ha=>exact absurd hs (Oy s t).2
 |_=>omega
theorem vk{h:Ty}{ys:List Tm}(hs:(Tm.mk k i h xs).shape=true)(hl:ys.length=xs.length)(hy:∀y∈ys,y.shape=true):(Tm.mk k i h ys).shape=true:=by
 rw[Tm.Ak,fD] at hs ⊢;refine⟨?_,?_⟩
 .have:=hs.1;simp only[Tm.head,Tm.Ai,Tm.Af,Tm.AG,Tm.AO] at this ⊢;rw[hl];exact this
 .simpa using hy
mutual
theorem xr:∀{t u:Tm},BF t u->t.shape=true->u.shape=true
 |_,_,.node hp,hs=>by
  have h:=Uk hp (zd hs);exact vk hs h.1 h.2
 |_,_,.beta (i:=i) (th:=th) (j:=j) (s:=s) (b:=b) (a:=a) (b':=b') (a':=a') h1 h2,hs=>by
  have hb:=xr h1 (zd (zd hs (.mk 2 j s [b]) ko) b ko);have ha:=xr h2 (zd hs a ko);have hl:(Tm.mk 2 j s [b']).shape=true:=vk (zd hs (.mk 2 j s [b]) ko) rfl (by simpa using hb);exact QF (t:= .mk 3 i th [.mk 2 j s [b'],a']) (vk hs rfl (by simp[hl,ha])) rfl
 |_,_,.rz (x:=x) h1,hs=>xr h1 (zd hs x ko)
 |_,_,.rs (i:=i) (th:=th) (x:=x) (x':=x') (f:=f) (f':=f') (j:=j) (s:=s) (n:=n) (n':=n') h1 h2 h3,hs=>by
  have hx:=xr h1 (zd hs x ko);have hf:=xr h2 (zd hs f ko);have hm:=zd hs (.mk 5 j s [n]) ko;have hn:=xr h3 (zd hm n ko);have hl:(Tm.mk 5 j s [n']).shape=true:=vk hm rfl (by simpa using hn);exact QF (t:= .mk 6 i th [x',f',.mk 5 j s [n']]) (vk hs rfl (by simp[hl,hx,hf])) rfl
 |_,_,.fz (x:=x) h1,hs=>xr h1 (zd hs x ko)
 |_,_,.fs (i:=i) (th:=th) (x:=x) (x':=x') (f:=f) (f':=f') (j:=j) (s:=s) (n:=n) (n':=n') (l:=l) (l':=l') h1 h2 h3 h4,hs=>by
  have hx:=xr h1 (zd hs x ko);have hf:=xr h2 (zd hs f ko);have hm:=zd hs (.mk 8 j s [n,l]) ko;have hn:=xr h3 (zd hm n ko);have hk:=xr h4 (zd hm l ko);have hl:(Tm.mk 8 j s [n',l']).shape=true:=vk hm rfl (by simp[hn,hk]);exact QF (t:= .mk 9 i th [x',f',.mk 8 j s [n',l']]) (vk hs rfl (by simp[hl,hx,hf])) rfl
 |_,_,.p1 (j:=j) (s:=s) (x:=x) (y:=y) h1,hs=>xr h1 (zd (zd hs (.mk 10 j s [x,y]) ko) x ko)
 |_,_,.p2 (j:=j) (s:=s) (x:=x) (y:=y) h1,hs=>xr h1 (zd (zd hs (.mk 10 j s [x,y]) ko) y ko)
theorem Uk:∀{xs ys:List Tm},DT xs ys->(∀x∈xs,x.shape=true)->ys.length=xs.length/\∀y∈ys,y.shape=true
 |_,_,.nil,_=>⟨rfl,ko⟩
 |_,_,.cons (x:=x) h hs,hx=>by
  have h1:=xr h (hx x ko);have h2:=Uk hs fun y hy=>hx y (by simp[hy]);refine⟨by simp[h2.1],?_⟩;intro y hy;rcases fW.1 hy with rfl|hy
  .exact h1
  .exact h2.2 y hy
end
theorem SS(h:BE t u):t.shape=true->u.shape=true:=by
 induction h with
 |refl=>exact id
 |step h1 _ ih=>exact fun hs=>ih (xr h1 hs)
theorem NS(s:Ty)(b a:Tm):BE (AE (Be s b) a) (b.re (yq 0 a) 0):= .one (.beta (.refl _) (.refl _))
theorem LD{s:Ty}{b:Tm}(h:nB b):nB (Be s b):=MM kq fun x hx=>by simp at hx;subst hx;exact h
theorem Yr{A:Tm}(hA:nB A)(th:Ty):∀(m:Tm),nB m->m.shape=true->∀i,NB (A.size+m.size+5) (.mk 6 i th [A,Ct,m]):=by
 intro m;induction m using Tm.ind with
 |h m ih=>
  intro hm hs i;have hsz:∀i,(Tm.mk 6 i th [A,Ct,m]).size=A.size+m.size+5:=fun i=>by
   have:Ct.size=4:=rfl;simp only[Tm.size,Tm.sizes,this];omega
  by_cases h4:m.kind=4
  .exact sH
  by_cases h5:m.kind=5
  .obtain ⟨j,s,v,rfl,hv⟩:=Hp hs h5 rfl;have hvn:=((Jh _).1 hm).2 v ko;obtain⟨u,h1,h2,h3⟩:=ih v ko hvn hv 0;have hz:(Tm.mk 5 j s [v]).size=v.size+1:=lF
   have e1:BE (.mk 6 i th [A,Ct,.mk 5 j s [v]]) (AE (AE Ct v) (.mk 6 0 th [A,Ct,v])):= .one (.rs (.refl _) (.refl _) (.refl _));have e2:BE (AE (AE Ct v) (.mk 6 0 th [A,Ct,v])) (AE (vv (sT (vT 0))) u):=Lc (.one (.beta (b':=vv (sT (vT 0))) (.refl _) (.refl _))) h1;have e3:BE (AE (vv (sT (vT 0))) u) (sT (u.re (zi 0 0) 0)):= .one (.beta (b':=sT (vT 0)) (.refl _) (.refl _));refine NB.st (u:=sT (u.re (zi 0 0) 0)) ?_ (e1.trans (e2.trans e3));refine .of (MM kq fun x hx=>by simp at hx;subst hx;exact JJ _ _ _ _ h2) ?_;have:=uv u 0 0 0;simp only[sT,Tm.size,Tm.sizes];omega
  .exact .of (TR hA rfl hm h4 h5) (by rw[hsz];exact fB _)
theorem Ymn{m:Tm}(hm:nB m)(hs:m.shape=true):NB (m.size+5) (AE BT m):=by
 have e1:BE (AE BT m) (Dm zT (vv (vv (vT 1))) (m.re (zi 0 0) 0)):= .one (.beta (b':=Dm zT (vv (vv (vT 1))) (vT 0)) (.refl _) (.refl _));have hn:=JJ m 0 0 0 hm;have hz:=uv m 0 0 0;have hs':=y6 (fr:=0) (by_:=0) 0 hs (gr _);have hk:=WJ 0 0 0 m;generalize m.re (zi 0 0) 0=w at*;refine NB.st ?_ e1;by_cases h4:w.kind=4
 .obtain ⟨j,s,rfl⟩:=KQ hs' h4 rfl;exact(NB.of (t:=zT) rfl (by show 1<=m.size+5;omega)).st (.one (.rz (.refl _)))
 by_cases h5:w.kind=5
 .obtain ⟨j,s,v,rfl,hv⟩:=Hp hs' h5 rfl;have hvn:=((Jh _).1 hn).2 v ko;have e2:BE (Dm zT (vv (vv (vT 1))) (.mk 5 j s [v])) (AE (AE (vv (vv (vT 1))) v) (.mk 6 0 (.mk 1 []) [zT,vv (vv (vT 1)),v])):= .one (.rs (.refl _) (.refl _) (.refl _));have e3:BE (AE (vv (vv (vT 1))) v) (vv (v.re (zi 0 1) 0)):= .one (.beta (b':=vv (vT 1)) (.refl _) (.refl _));have e4:∀r,BE (AE (vv (v.re (zi 0 1) 0)) r) ((v.re (zi 0 1) 0).re (yq 0 r) 0):=fun r=> .one (.beta (.refl _) (.refl _));refine NB.st ?_ (e2.trans ((Lc e3 (.refl _)).trans (e4 _)));have:=Lh v (.mk 6 0 (.mk 1 []) [zT,vv (vv (vT 1)),v]) 0 0 (gr _) (gr _);rw[gL] at this;rw[this];have h6:(Tm.mk 5 j s [v]).size=v.size+1:=lF
  exact .of (JJ _ _ _ _ hvn) (by have:=uv v 0 0 0;omega)
 .refine .of (TR rfl rfl hn h4 h5) ?_;simp only[Dm,Tm.size,Tm.sizes,zT,vv,vT];omega
def Jn(t u:Tm):Prop:=∃w,BE t w/\BE u w
theorem Jn.refl(t:Tm):Jn t t:=⟨t,.refl _,.refl _⟩
theorem Jn.symm(h:Jn t u):Jn u t:=by obtain⟨w,a,b⟩:=h;exact⟨w,b,a⟩
theorem Jn.of(h:BE t u):Jn t u:=⟨u,h,.refl _⟩
theorem VI:∀(n:Nat) (t:Tm),BE t (FW n t)
 |0,t=> .refl t
 |n+1,t=> .step (Oa (BF.refl t)) (VI n (dev t))
theorem Yh0{v:Tm}(h:BE t u)(h':BE t v):Jn u v:=by
 obtain⟨n,a⟩:=RC h;obtain⟨m,b⟩:=RC h';have e1:FW (n+m) t=FW m (FW n t):=Pa n m t;have e2:FW (n+m) t=FW n (FW m t):=by rw[Nat.add_comm];exact Pa m n t
 refine⟨FW (n+m) t,?_,?_⟩
 .rw[e1];exact a.trans (VI m _)
 .rw[e2];exact b.trans (VI n _)
theorem Jn.trans{t u v:Tm}(h:Jn t u)(h':Jn u v):Jn t v:=by
 obtain⟨w,a,b⟩:=h;obtain⟨z,c,d⟩:=h';obtain⟨y,e,f⟩:=Yh0 b c;exact⟨y,a.trans e,d.trans f⟩
theorem Jn.VA(h:Jn t u)(hu:nf u):BE t u:=by
 obtain⟨w,a,b⟩:=h;rw[OK hu b] at a;exact a
theorem Jn.eq{t u:Tm}(h:Jn t u)(ht:nf t)(hu:nf u):t=u:=by
 obtain⟨w,a,b⟩:=h;rw[<-OK hu b,<-OK ht a]
variable{b:Int}
theorem ay(σ:Int->Tm)(h:BE t u)(hb:0<=b):BE (t.re (z6 σ) b) (u.re (z6 σ) b):=by
 induction h with
 |refl=>exact .refl _
 |step h1 _ ih=>exact .step (u9 (fun i c _=>BF.refl _) h1 b hb) ih
theorem Jn.sub(h:Jn t u)(σ:Int->Tm)(hb:0<=b):Jn (t.re (z6 σ) b) (u.re (z6 σ) b):=by
 obtain⟨w,a,c⟩:=h;exact⟨_,ay σ a hb,ay σ c hb⟩
theorem dW(h:BE t u)(a:Tm):BE (t.re (yq 0 a) 0) (u.re (yq 0 a) 0):=by
 induction h with
 |refl=>exact .refl _
 |step h1 _ ih=>exact .step (QM h1 (BF.refl a)) ih
variable{a':Tm}
theorem bJ(t:Tm){a:Tm}(h:BE a a'):BE (t.re (yq 0 a) 0) (t.re (yq 0 a') 0):=by
 induction h with
 |refl=>exact .refl _
 |step h1 _ ih=>exact .step (QM (BF.refl t) h1) ih
theorem Jn.put{a:Tm}(h:Jn t u)(h':Jn a a'):Jn (t.re (yq 0 a) 0) (u.re (yq 0 a') 0):=by
 obtain⟨w,p,q⟩:=h;obtain⟨z,r,s⟩:=h';exact⟨w.re (yq 0 z) 0,(dW p a).trans (bJ w r),(dW q a').trans (bJ w s)⟩
theorem Ya(a t:Tm)(hb:0<=b):t.re (yq b a) 0=t.re (z6 (Cs a)) b:=by
 rw[xq (z6 (Cs a)) b t];refine Ax t 0 fun p hp=> ?_;rw[xt];simp only[z6,Cs];by_cases h1:p.1-p.2=b
 .grind
 .rw[if_neg h1];by_cases h2:p.1<p.2+b
  .grind
  .have e0:¬p.1-(p.2+b)=0:=kn
   have e1:p.1-p.2>b:=kn
   rw[if_neg h2,if_neg e0,if_pos e1,wh,z5,if_pos kn];grind
theorem U6(n:Int)(t:Tm)(hb:0<=b)(hn:0<=n):t.re (zi b n) 0=t.re (z6 (Gg n)) b:=by
 rw[xq (z6 (Gg n)) b t];refine Ax t 0 fun p hp=> ?_;have:=yw t 0 p hp;rw[z5];simp only[z6,Gg];by_cases h2:p.1<p.2+b
 .grind
 .rw[if_neg h2,if_pos kn,wh,z5]
  grind
theorem wv{x:Int}{h:Ty}(hk:k≠1)(h2:k≠2):cnt x ((Tm.mk k i h xs).vars 0)≠0↔∃y∈xs,cnt x (y.vars 0)≠0:=by
 rw[NJ x 0 k i h xs hk,PA h2];induction xs<;>grind
theorem I2{x:Int}{h:Ty}{b:Tm}:cnt x ((Tm.mk 2 i h [b]).vars 0)≠0↔cnt (x+1) (b.vars 0)≠0:=by
 rw[NJ x 0 2 i h [b] kq];simp only[fJ,fU,fT,gu,up];rw[if_pos trivial,gL,MI];simp
theorem Yr7{x:Int}{b a:Tm}(hb:b.shape=true)(ha:a.shape=true)(hx:0<=x)(h:cnt x ((b.re (yq 0 a) 0).vars 0)≠0):cnt (x+1) (b.vars 0)≠0\/cnt x (a.vars 0)≠0:=by
 rcases(Yg7 hb ha hx).1 (BR.2 ⟨hx,h⟩) with h|⟨_,h⟩
 .exact .inl (BR.1 h).2
 .exact .inr (BR.1 h).2
mutual
theorem Gw:∀{t u:Tm},BF t u->t.shape=true->∀x:Int,0<=x->cnt x (u.vars 0)≠0->cnt x (t.vars 0)≠0
 |_,_,.node (k:=k) (i:=i) (h:=h) (xs:=xs) (ys:=ys) hp,hs,x,hx,hu=>by
  by_cases k1:k=1
  .subst k1;have e:=(Jq hs rfl);have hl:=(Uk hp (zd hs));have e2:ys=[]:=by
    have:xs=[]:=by
     rw[Tm.Ak,fD] at hs;have:=hs.1;simp[Tm.head,CV] at this
     grind
    grind
   grind
  .by_cases k2:k=2
   .subst k2;cases hp with
    |nil=>exact hu
    |cons h1 h2=>
     cases h2 with
     |nil=>rw[I2] at hu ⊢;exact Gw h1 (zd hs _ ko) _ kn hu
     |cons h3 h4=>
      exfalso;rw[Tm.Ak,fD] at hs;have:=hs.1;simp[Tm.head,CV] at this
   .rw[wv k1 k2] at hu ⊢;exact XA hp (zd hs) x hx hu
 |_,_,.beta (i:=i) (th:=th) (j:=j) (s:=s) (b:=b) (a:=a) h1 h2,hs,x,hx,hu=>by
  have sl:=zd hs (.mk 2 j s [b]) ko;have sb:=zd sl b ko;have sa:=zd hs a ko;rw[wv kq kq];rcases Yr7 (xr h1 sb) (xr h2 sa) hx hu with h|h
  .exact ⟨.mk 2 j s [b],ko,I2.2 (Gw h1 sb _ kn h)⟩
  .exact ⟨a,ko,Gw h2 sa _ hx h⟩
 |_,_,.rz (x:=y) h1,hs,x,hx,hu=>by
  rw[wv kq kq];exact⟨y,ko,Gw h1 (zd hs y ko) x hx hu⟩
 |_,_,.rs (x:=y) (f:=f) (j:=j) (s:=s) (n:=n) h1 h2 h3,hs,x,hx,hu=>by
  have sn:=zd hs (.mk 5 j s [n]) ko;have a1:=Gw h1 (zd hs y ko) x hx;have a2:=Gw h2 (zd hs f ko) x hx;have a3:=Gw h3 (zd sn n ko) x hx;have a4:cnt x (n.vars 0)≠0->cnt x ((Tm.mk 5 j s [n]).vars 0)≠0:=fun h=>(wv kq kq).2 ⟨n,ko,h⟩;rw[wv kq kq];simp only[AE] at hu;rw[wv kq kq] at hu;obtain⟨z,hz,hu⟩:=hu;simp only[fW,gm,or_false] at hz;rcases hz with rfl|rfl
  .rw[wv kq kq] at hu
   grind
  .rw[wv kq kq] at hu
   grind
 |_,_,.fz (x:=y) h1,hs,x,hx,hu=>by
  rw[wv kq kq];exact⟨y,ko,Gw h1 (zd hs y ko) x hx hu⟩
 |_,_,.fs (x:=y) (f:=f) (j:=j) (s:=s) (n:=n) (l:=l) h1 h2 h3 h4,hs,x,hx,hu=>by
  have sn:=zd hs (.mk 8 j s [n,l]) ko;have a1:=Gw h1 (zd hs y ko) x hx;have a2:=Gw h2 (zd hs f ko) x hx;have a3:=Gw h3 (zd sn n ko) x hx;have a5:=Gw h4 (zd sn l ko) x hx;have a4:cnt x (n.vars 0)≠0\/cnt x (l.vars 0)≠0->cnt x ((Tm.mk 8 j s [n,l]).vars 0)≠0:=fun h=>(wv kq kq).2 (by
   grind)
  rw[wv kq kq];simp only[AE] at hu;rw[wv kq kq] at hu;obtain⟨z,hz,hu⟩:=hu;simp only[fW,gm,or_false] at hz;rcases hz with rfl|rfl
  .rw[wv kq kq] at hu;obtain⟨z,hz,hu⟩:=hu;simp only[fW,gm,or_false] at hz;rcases hz with rfl|rfl
   .rw[wv kq kq] at hu
    grind
   grind
  .rw[wv kq kq] at hu
   grind
 |_,_,.p1 (j:=j) (s:=s) (x:=y) (y:=z) h1,hs,x,hx,hu=>by
  have sn:=zd hs (.mk 10 j s [y,z]) ko;rw[wv kq kq];exact⟨.mk 10 j s [y,z],ko,(wv kq kq).2 ⟨y,ko,Gw h1 (zd sn y ko) x hx hu⟩⟩
 |_,_,.p2 (j:=j) (s:=s) (x:=z) (y:=y) h1,hs,x,hx,hu=>by
  have sn:=zd hs (.mk 10 j s [z,y]) ko;rw[wv kq kq];exact⟨.mk 10 j s [z,y],ko,(wv kq kq).2 ⟨y,ko,Gw h1 (zd sn y ko) x hx hu⟩⟩
theorem XA:∀{xs ys:List Tm},DT xs ys->(∀x∈xs,x.shape=true)->∀x:Int,0<=x->(∃y∈ys,cnt x (y.vars 0)≠0)->∃y∈xs,cnt x (y.vars 0)≠0
 |_,_,.nil,_,_,_,h=>h
 |_,_,.cons (x:=a) h hs,hsh,x,hx,hu=>by
  obtain⟨z,hz,hu⟩:=hu;rcases fW.1 hz with rfl|hz
  .exact ⟨a,ko,Gw h (hsh a ko) x hx hu⟩
  .obtain ⟨w,hw,h⟩:=XA hs (fun y hy=>hsh y kr) x hx ⟨z,hz,hu⟩
   grind
end
theorem Ysa(h:BE t u):t.shape=true->∀x:Int,0<=x->cnt x (u.vars 0)≠0->cnt x (t.vars 0)≠0:=by
 induction h with
 |refl=>omega
 |step h1 _ ih=>exact fun hs x hx h=>Gw h1 hs x hx (ih (xr h1 hs) x hx h)
theorem JX(s:Ty)(b:Tm)(g:Int->Int->Tm)(c:Int):(Be s b).re g c=Be s (b.re g (c+1)):=by
 simp only[Be,Tm.re,Tm.res,up];rfl
theorem MY(f x:Tm)(g:Int->Int->Tm)(c:Int):(AE f x).re g c=AE (f.re g c) (x.re g c):=by
 simp only[AE,Tm.re,Tm.res,up];rfl
theorem Sb.le{σ:Int->Tm}(h:Sb N σ)(hl:N<=M):Sb M σ:=fun j=>⟨(h j).1,by have:=(h j).2;omega⟩
theorem Yqs{A:Tm}(hA:nB A)(th:Ty):∀(m:Tm),nB m->m.shape=true->(Tm.mk 6 0 th [A,CN,m]).shape=true->NB (A.size+6*m.size+9) (.mk 6 0 th [A,CN,m]):=by
 intro m;induction m using Tm.ind with
 |h m ih=>
  intro hm hs hw;have hp:=m.size_pos;by_cases h4:m.kind=4
  .exact sH
  by_cases h5:m.kind=5
  .obtain ⟨j,s,v,rfl,hv⟩:=Hp hs h5 rfl;have hvn:=((Jh _).1 hm).2 v ko;have hw':(Tm.mk 6 0 th [A,CN,v]).shape=true:=vk hw rfl (by
    have h1:=zd hw A ko;have h2:=zd hw CN ko;simp[h1,h2,hv])
   obtain⟨u,h1,h2,h3⟩:=ih v ko hvn hv hw';have hz:(Tm.mk 5 j s [v]).size=v.size+1:=lF
   have e1:BE (.mk 6 0 th [A,CN,.mk 5 j s [v]]) (AE (AE CN v) (.mk 6 0 th [A,CN,v])):= .one (.rs (.refl _) (.refl _) (.refl _));have e2:BE (AE (AE CN v) (.mk 6 0 th [A,CN,v])) (AE (vv (AE BT (vT 0))) u):=Lc (.one (.beta (b':=vv (AE BT (vT 0))) (.refl _) (.refl _))) h1;have e3:BE (AE (vv (AE BT (vT 0))) u) (AE BT (u.re (zi 0 0) 0)):= .one (.beta (b':=AE BT (vT 0)) (.refl _) (.refl _));have:=uv u 0 0 0;exact((Ymn (JJ u 0 0 0 h2) (y6 0 (SS h1 hw') (gr _))).le kn).st (e1.trans (e2.trans e3))
  .have e1:BE (.mk 6 0 th [A,CN,m]) (.mk 6 0 th [A,vv (vv (Dm zT (vv (vv (vT 1))) (vT 0))),m]):=
    Yq3 (.refl _) (.one (.node (.cons (.node (.cons (.beta (b':=Dm zT (vv (vv (vT 1))) (vT 0)) (.refl _) (.refl _)) .nil)) .nil))) (.refl _)
   refine .st ?_ e1;refine .of (TR hA rfl hm h4 h5) ?_;have:(vv (vv (Dm zT (vv (vv (vT 1))) (vT 0)))).size=8:=rfl;simp only[Tm.size,Tm.sizes,this];omega
theorem TY(a:Tm)(σ:Int->Tm)(s1 s2:Ty)(h r r':Tm)(hr:BE r r'):BE (AE (AE (Be s1 (Be s2 (a.re (z6 σ) 2))) h) r) (a.re (z6 (ext r' (ext h σ))) 0):=by
 have e1:=NS s1 (Be s2 (a.re (z6 σ) 2)) h;rw[JX,show(2:Int)=(0+1)+1 by decide,NU σ h a (0+1) kq] at e1;have e2:=NS s2 (a.re (z6 (ext h σ)) (0+1)) r';rw[NU (ext h σ) r' a 0 kq] at e2;exact(Lc e1 hr).trans e2
theorem Yfz(a:Tm)(σ:Int->Tm)(s1 s2 s3:Ty)(h l r r':Tm)(hr:BE r r'):BE (AE (AE (AE (Be s1 (Be s2 (Be s3 (a.re (z6 σ) 3)))) h) l) r) (a.re (z6 (ext r' (ext l (ext h σ)))) 0):=by
 have e1:=NS s1 (Be s2 (Be s3 (a.re (z6 σ) 3))) h;rw[JX,JX,show(3:Int)=(0+1+1)+1 by decide,NU σ h a (0+1+1) kq] at e1;exact(Lc (Lc e1 (.refl _)) (.refl _)).trans (TY a (ext h σ) s2 s3 l r r' hr)
variable{B:Tm}
theorem Ymc{a:Tm}{σ:Int->Tm}(hB:nB B)(hz:B.size<=N)(ha:Lf a)(hs:Sb N σ)(hN:3<=N)(th s1 s2 s3:Ty):
 ∀(n:Tm),nB n->n.shape=true->n.size<=N->∀i,NB (3*N+4) (.mk 9 i th [B,Be s1 (Be s2 (Be s3 (a.re (z6 σ) 3))),n]):=by
 intro n;induction n using Tm.ind with
 |h n ih=>
  intro hn hsh hzn i;by_cases h7:n.kind=7
  .obtain ⟨j,s,rfl⟩:=KQ hsh h7 rfl;exact(NB.of hB kn).st (.one (.fz (.refl _)))
  by_cases h8:n.kind=8
  .obtain ⟨j,s,h,l,rfl,hh,hl⟩:=KK hsh h8 rfl;have hnh:=((Jh _).1 hn).2 h ko;have hnl:=((Jh _).1 hn).2 l ko;have hzz:(Tm.mk 8 j s [h,l]).size=h.size+l.size+1:=lF
   obtain⟨u,h1,h2,h3⟩:=ih l ko hnl hl kn 0;have e:=Yfz a σ s1 s2 s3 h l _ u h1;have hb:=ha.sb (((hs.le (by omega:N<=3*N+4)).ext hnh kn).ext hnl kn|>.ext h2 h3) kn 0;exact(NB.of hb.1 hb.2).st ((BE.one (.fs (.refl _) (.refl _) (.refl _) (.refl _))).trans e)
  .have h3:=ha.sb hs hN 3;refine .of (cC hB (LD (LD (LD h3.1))) hn h7 h8) ?_;have:=h3.2;simp only[Be,Tm.size,Tm.sizes];omega
theorem Ypb{a:Tm}{σ:Int->Tm}(hB:nB B)(hz:B.size<=N)(ha:Lf a)(hs:Sb N σ)(hN:3<=N)(th s1 s2:Ty):
 ∀(m:Nat),m<3->∀i,NB N (.mk 6 i th [B,Be s1 (Be s2 (a.re (z6 σ) 2)),Cy m]):=by
 intro m;induction m with
 |zero=>exact fun _ i=>(NB.of hB hz).st (.one (.rz (.refl _)))
 |succ m ih=>
  intro hm i;obtain⟨u,h1,h2,h3⟩:=ih kn 0;have e:=TY a σ s1 s2 (Cy m) _ u h1;have hb:=ha.sb ((hs.ext (ZX m) (by rw[dm];omega)).ext h2 h3) hN 0;exact(NB.of hb.1 hb.2).st ((BE.one (.rs (.refl _) (.refl _) (.refl _))).trans e)
theorem Yog(s:Ty)(x f n:Tm)(g:Int->Int->Tm)(c:Int):(hT 6 s [x,f,n]).re g c=hT 6 s [x.re g c,f.re g c,n.re g c]:=by
 simp only[hT,Tm.re,Tm.res,up];rfl
theorem Yp0(s:Ty)(x f n:Tm)(g:Int->Int->Tm)(c:Int):(hT 9 s [x,f,n]).re g c=hT 9 s [x.re g c,f.re g c,n.re g c]:=by
 simp only[hT,Tm.re,Tm.res,up];rfl
theorem S9(k:Int)(hk:k≠1)(h2:k≠2)(x:Tm)(g:Int->Int->Tm)(c:Int):(nT k [x]).re g c=nT k [x.re g c]:=by
 simp only[nT,Tm.re,Tm.res,up,if_neg hk,if_neg h2]
theorem SP(k:Int)(hk:k≠1)(h2:k≠2)(x y:Tm)(g:Int->Int->Tm)(c:Int):(nT k [x,y]).re g c=nT k [x.re g c,y.re g c]:=by
 simp only[nT,Tm.re,Tm.res,up,if_neg hk,if_neg h2]
theorem Lf.QU{a:Tm}(h:Lf a){σ:Int->Tm}(hs:∀j,0<=j->(σ j).shape=true)(h0:a.shape=true):(a.re (z6 σ) 0).shape=true:=by
 refine Q6 _ _ 0 h0 fun p hp=> ?_;have h2:=yw a 0 p hp;have h3:a.shape=true:=h0;unfold z6;by_cases hi:p.1<p.2
 .rw[if_pos hi];cases h with
  |v i=>simp[vT,Tm.vars,Tm.BV] at hp;subst hp;simp at hi h2 h0;simp[Tm.shape,vT,Tm.AZ,Tm.head,CV,x9,Ty.Bv] at h0 ⊢;omega
  |num m h=>rw[show(Cy m).vars 0=[] from by match m,h with|0,_=>rfl|1,_=>rfl|2,_=>rfl] at hp;simp at hp
  |nil=>simp[nT,Tm.vars,Tm.BV] at hp
  |unit=>simp[nT,Tm.vars,Tm.BV] at hp
 .rw[if_neg hi];exact y6 0 (hs _ kn) h2
theorem Yre(g:Int->Int->Tm)(c:Int):(Cy m).re g c=Cy m:=T8 m g c
variable{T:Tm}
theorem Mk.nb{g:List Ty}{s:Ty}(h:Mk 3 g s T)(h1:s.size=1)(hg:Aj g)(hss:s.small){σ:Int->Tm}(hN:3<=N)(hs:Sb N σ)(hsh:∀j,0<=j->(σ j).shape=true)
 (hf:∀(i:Nat) (s' t':Ty),i<g.length->BI g (g.length-1-i)=xx s' t'->∀B,nB B->B.size<=N->NB (7*N+19) (AE (σ i) B)):NB (7*N+19) (T.re (z6 σ) 0):=by
 have lf:∀{a:Tm} (c:Int),Lf a->nB (a.re (z6 σ) c)/\(a.re (z6 σ) c).size<=N:=fun c ha=>ha.sb hs hN c;have hn:(7*N+19>=N):=kn
 have hpl:∀{f:Tm} (A B:Tm),BE (AE (AE (vv (vv (Dm (vT 1) f (vT 0)))) A) B) (((Dm (vT 1) f (vT 0)).re (yq 0 A) 1).re (yq 0 B) 0):=fun A B=>
  (Lc (BE.one (.beta (.refl _) (.refl _))) (.refl _)).trans (.one (.beta (.refl _) (.refl _)))
 cases h with
 |var _ _ _ i hi _=>exact .of (lf 0 (.v _)).1 (by have:=(lf 0 (Lf.v (i:Int))).2;omega)
 |num _ _ m hm=>exact .of (lf 0 (.num m hm)).1 (by have:=(lf 0 (Lf.num m hm)).2;omega)
 |nil=>exact .of rfl (by show 1<=7*N+19;omega)
 |unit=>exact .of rfl (by show 1<=7*N+19;omega)
 |pair _ _ s t a b _ _ ha hb=>exact absurd h1 (Oy s t).1
 |lam _ _ s t a _ _ ha=>exact absurd h1 (Oy s t).2
 |app _ _ _ s a b _ hs' h1' ha hb=>
  have hB:=lf 0 (hb.DZ h1');have hA:=(ha.DZ h1).sb (hs.ext hB.1 hB.2) hN 0;rw[MY,JX];have e:=NS s (a.re (z6 σ) (0+1)) (b.re (z6 σ) 0);rw[NU _ _ _ 0 kq] at e;exact(NB.of hA.1 ot).st e
 |fst _ _ _ s a b _ hs' h1' ha hb=>
  rw[S9 11 kq kq,SP 10 kq kq];have hA:=lf 0 (ha.DZ h1);exact(NB.of hA.1 ot).st (.one (.p1 (.refl _)))
 |snd _ _ _ s a b _ hs' h1' ha hb=>
  rw[S9 12 kq kq,SP 10 kq kq];have hA:=lf 0 (hb.DZ h1);exact(NB.of hA.1 ot).st (.one (.p2 (.refl _)))
 |recu _ _ _ a b m _ hm ha hb=>
  have hB:=lf 0 (hb.DZ h1);rw[Yog,JX,JX,Yre];exact(Ypb hB.1 hB.2 (ha.DZ h1) hs hN s Ac s m hm 0).le hn
 |fold _ _ _ a b c _ ha hb hc=>
  have hB:=lf 0 (hb.DZ h1);have hC:=lf 0 (hc.DZ rfl);have hcs:=(hc.DZ rfl).QU hsh (hc.shape hg ⟨rfl,kq⟩);rw[Yp0,JX,JX,JX];exact(Ymc hB.1 hB.2 (ha.DZ h1) hs hN s Ac Al s _ hC.1 hcs hC.2 0).le kn
 |ctx _ _ _ s a _ i hi h h1' ha=>
  have hA:=lf 0 (ha.DZ h1');rw[MY,wh];have e:z6 σ (i:Int) 0=(σ i).re (zi 0 0) 0:=by unfold z6;rw[if_neg kn,Int.sub_zero]
  have e2:(σ i).re (zi 0 0) 0=σ i:=Cc _ 0 (hsh _ kn) fun p _=>by rw[z5];simp
  rw[e,e2];exact hf i _ _ hi h _ hA.1 hA.2
 |succ _ _ a _ ha=>
  have hA:=lf 0 (ha.DZ h1);have e:(sT a).re (z6 σ) 0=sT (a.re (z6 σ) 0):=S9 5 kq kq a _ 0;rw[e];refine .of (MM kq fun x hx=>by simp at hx;subst hx;exact hA.1) ?_;have:=hA.2;simp only[sT,Tm.size,Tm.sizes];omega
 |cons _ _ a b _ ha hb=>
  have hA:=lf 0 (ha.DZ rfl);have hB:=lf 0 (hb.DZ rfl);rw[SP 8 kq kq];refine .of (MM kq fun x hx=>by simp at hx;rcases hx with rfl|rfl;exact hA.1;exact hB.1) ?_;have:=hA.2;have:=hB.2;simp only[nT,Tm.size,Tm.sizes];omega
 |plus _ _ a b _ ha hb=>
  have hA:=lf 0 (ha.DZ rfl);have hB:=lf 0 (hb.DZ rfl);have sB:=(hb.DZ rfl).QU hsh (hb.shape hg ⟨rfl,kq⟩);rw[MY,MY];refine NB.st ?_ (hpl (f:=Ct) (a.re (z6 σ) 0) (b.re (z6 σ) 0));have e:((Dm (vT 1) Ct (vT 0)).re (yq 0 (a.re (z6 σ) 0)) 1).re (yq 0 (b.re (z6 σ) 0)) 0= .mk 6 0 (.mk 1 []) [((a.re (z6 σ) 0).re (zi 0 1) 0).re (yq 0 (b.re (z6 σ) 0)) 0,Ct,(b.re (z6 σ) 0).re (zi 0 0) 0]:=rfl;rw[e,show(1:Int)=0+1 by decide,Lh _ _ 0 0 kq kq];have z1:=uv (a.re (z6 σ) 0) 0 0 0;have z2:=uv (b.re (z6 σ) 0) 0 0 0;exact(Yr (JJ _ _ _ _ hA.1) _ _ (JJ _ _ _ _ hB.1) (y6 0 sB kq) 0).le (by have:=hA.2;have:=hB.2;omega)
 |sub _ _ a b _ ha hb=>
  have hA:=lf 0 (ha.DZ rfl);have hB:=lf 0 (hb.DZ rfl);have sA:=(ha.DZ rfl).QU hsh (ha.shape hg ⟨rfl,kq⟩);have sB:=(hb.DZ rfl).QU hsh (hb.shape hg ⟨rfl,kq⟩);rw[MY,MY];refine NB.st ?_ (hpl (f:=CN) (a.re (z6 σ) 0) (b.re (z6 σ) 0));have e:((Dm (vT 1) CN (vT 0)).re (yq 0 (a.re (z6 σ) 0)) 1).re (yq 0 (b.re (z6 σ) 0)) 0= .mk 6 0 (.mk 1 []) [((a.re (z6 σ) 0).re (zi 0 1) 0).re (yq 0 (b.re (z6 σ) 0)) 0,CN,(b.re (z6 σ) 0).re (zi 0 0) 0]:=rfl;rw[e,show(1:Int)=0+1 by decide,Lh _ _ 0 0 kq kq];have z1:=uv (a.re (z6 σ) 0) 0 0 0;have z2:=uv (b.re (z6 σ) 0) 0 0 0;have l1:=y6 (fr:=0) (by_:=0) 0 sA kq;have l2:=y6 (fr:=0) (by_:=0) 0 sB kq;refine(Yqs (JJ _ _ _ _ hA.1) _ _ (JJ _ _ _ _ hB.1) l2 ?_).le (by have:=hA.2;have:=hB.2;omega);have l3:CN.shape=true:=kq
  simp[Tm.shape,Tm.AZ,Tm.head,CV,x9,l1,l2,l3,Ty.ok];exact⟨kq,kq⟩
structure Q (N:Nat) (u:Tm):Prop where
 n:nB u
 z:u.size<=N
 f:∀B,nB B->B.size<=64->NB 467 (AE u B)
theorem Q.le(h:Q N u)(hl:N<=M):Q M u:=⟨h.n,by have:=h.z;omega,h.f⟩
theorem Q.stuck(h:nB u)(hz:u.size<=N)(hN:N<=64)(hk:u.kind≠2):Q N u:=
 ⟨h,hz,fun B hB hz'=> .of (Tu h hB hk) (by simp only[AE,Tm.size,Tm.sizes];omega)⟩
def Qs(N:Nat)(σ:Int->Tm):Prop:=∀j,Q N (σ j)
theorem Qs.sb{σ:Int->Tm}(h:Qs N σ):Sb N σ:=fun j=>⟨(h j).n,(h j).z⟩
theorem Qs.ext{N:Nat}{σ:Int->Tm}{B:Tm}(h:Qs N σ)(hB:Q N B):Qs N (ext B σ):=fun j=>by
 unfold Go.Ab.ext;by_cases h0:j=0
 .rw[if_pos h0];exact hB
 .rw[if_neg h0];exact h _
theorem Jy:Qs 3 vT:=fun j=> .stuck (Lj j) (by show 1<=3;omega) kn nZ
theorem Kc(t:Tm)(h:t.shape=true):t.re (zi 0 0) 0=t:=Cc _ 0 h fun p _=>by rw[z5];simp
theorem Qs.lf{σ:Int->Tm}(h:Qs N σ)(hN:3<=N)(h64:N<=64)(hsh:∀j,0<=j->(σ j).shape=true){a:Tm}(ha:Lf a)(hp:a.shape=true):Q N (a.re (z6 σ) 0):=by
 have hb:=ha.sb h.sb hN 0;cases ha with
 |v i=>
  rw[wh];have hi:0<=i:=by simp[Tm.shape,vT,Tm.AZ,Tm.head] at hp;exact of_decide_eq_true hp.1.2
  have e:z6 σ i 0=σ i:=by unfold z6;rw[if_neg kn,Int.sub_zero];exact Kc _ (hsh _ hi)
  rw[e];exact h i
 |num m hm=>rw[T8] at hb ⊢;exact .stuck hb.1 hb.2 h64 (Lf.kd (.num m hm))
 |nil=>exact .stuck hb.1 hb.2 h64 (by show(7:Int)≠2;decide)
 |unit=>exact .stuck hb.1 hb.2 h64 (by show(13:Int)≠2;decide)
theorem Tv{σ:Int->Tm}(h:Sb N σ)(hN:N<=64)(hB:nB B)(hz:B.size<=64):Sb 64 (ext B σ):=(h.le hN).ext hB hz
theorem Qs.Fz{σ:Int->Tm}(h:Qs N σ)(hN:3<=N)(h64:2*N+1<=64)(hsh:∀j,0<=j->(σ j).shape=true){a:Tm}(ha:Lf a\/(∃x y,Lf x/\Lf y/\a=nT 10 [x,y])\/∃s x,Lf x/\a=Be s x)(hp:a.shape=true):Q (2*N+1) (a.re (z6 σ) 0):=by
 rcases ha with hl|⟨x,y,hx,hy,rfl⟩|⟨s,x,hx,rfl⟩
 .exact (h.lf hN kn hsh hl hp).le kn
 .rw[SP 10 kq kq];have h1:=hx.sb h.sb hN 0;have h2:=hy.sb h.sb hN 0;refine .stuck (MM kq fun x hx=>by simp at hx;rcases hx with rfl|rfl;exact h1.1;exact h2.1) ?_ h64 (by show(10:Int)≠2;decide);have:=h1.2;have:=h2.2;simp only[nT,Tm.size,Tm.sizes];omega
 .rw[JX];have h1:=hx.sb h.sb hN (0+1);refine⟨LD h1.1,?_,?_⟩
  .have:=h1.2;simp only[Be,Tm.size,Tm.sizes];omega
  .intro B hB hz;have e:=NS s (x.re (z6 σ) (0+1)) B;rw[NU _ _ _ 0 kq] at e;have h2:=hx.sb (Tv h.sb kn hB hz) kn 0;exact(NB.of h2.1 (by have:=h2.2;omega)).st e
theorem Wx{σ:Int->Tm}(hB:B.shape=true)(h:∀j,0<=j->(σ j).shape=true)(j:Int)(hj:0<=j):(ext B σ j).shape=true:=by
 unfold ext;by_cases h0:j=0
 .rw[if_pos h0];exact hB
 .rw[if_neg h0];exact h _ kn
theorem ND(j:Int)(hj:0<=j):(vT j).shape=true:=by simp[Tm.shape,vT,Tm.AZ,Tm.head,CV,x9,Ty.Bv];exact decide_eq_true hj
theorem Np{a:Tm}(h:a.shape=true)(c:Int)(hc:0<=c):a.re (z6 vT) c=a:=Cc a c h fun p hp=>by
 have h2:=yw a c p hp;unfold z6;by_cases hi:p.1<p.2
 .rw[if_pos hi]
 .rw[if_neg hi,wh,z5,if_pos kn];congr 1;omega
theorem Ug:(Cy m).shape=true:=by
 induction m with
 |zero=>rfl
 |succ m ih=>simp[Cy,Tm.shape,Tm.AZ,Tm.head,CV,x9,Ty.Bv,ih]
theorem Mk.nbs{g:List Ty}{s:Ty}(h:Mk 3 g s T)(h1:s.size≠1)(hg:Aj g)(hss:s.small):∃u,BE T u/\Q 64 u:=by
 have Fz:∀{a:Tm},(Lf a\/(∃x y,Lf x/\Lf y/\a=nT 10 [x,y])\/∃s x,Lf x/\a=Be s x)->a.shape=true->Q 7 a:=fun ha hp=>by
  have:=Jy.Fz kn kn ND ha hp;rw[Np hp 0 kn] at this;exact this
 have lf:∀{a:Tm},Lf a->a.shape=true->Q 3 a:=fun ha hp=>by
  have:=Jy.lf kn kn ND ha hp;rw[Np hp 0 kn] at this;exact this
 have hS:=h.shape hg hss;have one:∀{s:Ty},s.shape=true->s.size=1->s.small:=fun hs h=>⟨hs,kn⟩;cases h with
 |var _ _ _ i hi _=>exact⟨_,.refl _,(lf (.v _) hS).le kn⟩
 |num _ _ m hm=>exact absurd rfl h1
 |nil=>exact absurd rfl h1
 |unit=>exact absurd rfl h1
 |succ _ _ a _ ha=>exact absurd rfl h1
 |plus _ _ a _ ha=>exact absurd rfl h1
 |sub _ _ a _ ha=>exact absurd rfl h1
 |cons _ _ a b _ ha hb=>exact absurd rfl h1
 |pair _ _ s t a b p1 p2 ha hb=>exact⟨_,.refl _,(Fz (.inr (.inl ⟨a,b,ha.DZ p1,hb.DZ p2,rfl⟩)) hS).le kn⟩
 |lam _ _ s t a p1 p2 ha=>exact⟨_,.refl _,(Fz (.inr (.inr ⟨_,a,ha.DZ p2,rfl⟩)) hS).le kn⟩
 |app _ _ _ s a b _ hs' h1' ha hb=>
  have sa:=ha.shape (zm hg (zg (one hs' h1') zk)) hss;have sb:=hb.shape hg (one hs' h1');have hB:=lf (hb.DZ h1') sb;have hA:=(Jy.ext hB).Fz kn kn (Wx sb ND) ha.Fz sa;refine⟨_,?_,hA.le kn⟩;have e:=NS s a b;rw[<-Np sa (0+1) kq,NU _ _ _ 0 kq] at e;rw[Np sa (0+1) kq] at e;exact e
 |fst _ _ _ s a b _ hs' h1' ha hb=>exact⟨_,.one (.p1 (.refl _)),(Fz ha.Fz (ha.shape hg hss)).le kn⟩
 |snd _ _ _ s a b _ hs' h1' ha hb=>exact⟨_,.one (.p2 (.refl _)),(Fz hb.Fz (hb.shape hg hss)).le kn⟩
 |recu _ _ _ a b m _ hm ha hb=>
  have sb:=hb.shape hg hss;have sa:=ha.shape (zm hg (zg ⟨kq,kq⟩ (zg hss zk))) hss;have hB:=Fz hb.Fz sb;have nq:∀m,m<3->Q 7 (Cy m):=fun m hm=>(lf (.num m hm) (Ug m)).le kn;have qv:Qs 7 vT:=fun j=>(Jy j).le kn;have key:∀(m:Nat) (r:Tm) (N:Nat),m<2->7<=N->2*N+1<=64->BE (hT 6 s [b,Be Ac (Be s a),Cy m]) r->Q N r->r.shape=true->
   BE (hT 6 s [b,Be Ac (Be s a),Cy (m+1)]) (a.re (z6 (Go.Ab.ext r (Go.Ab.ext (Cy m) vT))) 0)/\Q (2*N+1) (a.re (z6 (Go.Ab.ext r (Go.Ab.ext (Cy m) vT))) 0):=by
   intro m r N hm hN h64 hr hq hs;refine⟨?_,?_⟩
   .have e:=TY a vT Ac s (Cy m) _ r hr;rw[Np sa 2 kq] at e;exact(BE.one (.rs (.refl _) (.refl _) (.refl _))).trans e
   .exact Qs.Fz (Qs.ext (Qs.ext (fun j=>(Jy j).le kn) ((nq m kn).le kn)) hq) kn h64 (Wx hs (Wx (Ug m) ND)) ha.Fz sa
  have k0:BE (hT 6 s [b,Be Ac (Be s a),Cy 0]) b:= .one (.rz (.refl _));have hsh:∀m,m<3->(hT 6 s [b,Be Ac (Be s a),Cy m]).shape=true:=fun m' _=>vk hS rfl (by
   have:=zd hS;simp only[hT,Tm.Af,fW,gm,or_false,forall_eq_or_imp,forall_eq] at this ⊢;exact⟨this.1,this.2.1,Ug m'⟩)
  have k1:=key 0 b 7 kn kn kn k0 hB sb;have k2:=key 1 _ 15 kn kn kn k1.1 k1.2 (SS k1.1 (hsh 1 kn))
  match m,hm with
  |0,_=>exact⟨_,k0,hB.le kn⟩
  |1,_=>exact⟨_,k1.1,k1.2.le kn⟩
  |2,_=>exact⟨_,k2.1,k2.2.le kn⟩
 |fold _ _ _ a b c _ ha hb hc=>
  have sb:=hb.shape hg hss;have sa:=ha.shape (zm hg (zg ⟨kq,kq⟩ (zg ⟨kq,kq⟩ (zg hss zk)))) hss;have sc:=hc.shape hg ⟨kq,kq⟩;have hB:=Fz hb.Fz sb;have hA:=Fz ha.Fz sa;have hC:=lf (hc.DZ rfl) sc;by_cases h7:c.kind=7
  .obtain ⟨j,s',rfl⟩:=KQ sc h7 rfl;exact⟨b,.one (.fz (.refl _)),hB.le kn⟩
  .have h8:c.kind≠8:=by
    cases hc.DZ rfl with
    |v i=>show(1:Int)≠8;decide
    |num m h=>match m,h with
     |0,_=>decide
     |1,_=>decide
     |2,_=>decide
    |nil=>decide
    |unit=>decide
   refine⟨_,.refl _,.stuck (cC hB.n (LD (LD (LD hA.n))) hC.n h7 h8) ?_ kn (by show(9:Int)≠2;decide)⟩;have:=hB.z;have:=hA.z;have:=hC.z;simp only[hT,Be,Tm.size,Tm.sizes];omega
 |ctx _ _ _ s2 a _ i hi h h1' ha=>
  have p1:=s.size_pos;have p2:=s2.size_pos;have hs:=hg _ (fA (n:=g.length-1-i) kn);refine absurd ?_ h1;have e:BI g (g.length-1-i)=g[g.length-1-i]' kn:=by unfold BI;grind
  rw[<-e,h] at hs;have:=hs.2;simp[xx,Ty.size,Ty.sizes] at this;omega
theorem Yfw{a:Tm}(h:BE a a')(b:Tm):BE (b.re (yq 0 a) 0) (b.re (yq 0 a') 0):=by
 induction h with
 |refl=>exact .refl _
 |step h1 _ ih=>exact .step (QM (.refl b) h1) ih
theorem Ymw(h:nB n)(hz:n.size<=N):Sb N (Cs n):=fun j=>by
 have:=n.size_pos;unfold Cs;by_cases h0:j=0
 .rw[if_pos h0];exact⟨h,hz⟩
 .rw[if_neg h0];exact⟨Lj _,ny⟩
theorem Yfh(h:n.shape=true)(j:Int)(hj:0<=j):(Cs n j).shape=true:=by
 unfold Cs;by_cases h0:j=0
 .rw[if_pos h0];exact h
 .rw[if_neg h0];exact ND _ kn
theorem Mk.Dl{g:List Ty}{s:Ty}(h:Mk 3 g s T)(h1:s.size=1)(hg:Aj g)(hs:s.small):NB 40 T:=by
 have:=h.nb h1 hg hs (σ:=vT) (N:=3) kn (fun j=>⟨Lj j,by show 1<=3;omega⟩) ND fun i _ _ _ _ B hB hz=> .of (Tu (Lj _) hB nZ) (by
  simp only[AE,vT,Tm.size,Tm.sizes];omega)
 rw[Np (h.shape hg hs) 0 kq] at this;exact this
theorem Mk.TV{g:List Ty}{s:Ty}(hT:Mk 3 (g++[s]) Ac T)(ht:Mk 3 g s t)(hg:Aj g)(hs:s.small):NB 467 (T.re (yq 0 t) 0):=by
 have hg':=zm hg (zg hs zk);have sT:=ht.shape hg hs;have key:∃n,BE t n/\nB n/\n.size<=64/\(s.size≠1->∀B,nB B->B.size<=64->NB 467 (AE n B)):=by
  by_cases h1:s.size=1
  .obtain ⟨n,a,b,c⟩:=ht.Dl h1 hg hs;exact⟨n,a,b,kn,fun h=>absurd h1 h⟩
  .obtain ⟨n,a,q⟩:=ht.nbs h1 hg hs;exact⟨n,a,q.n,q.z,fun _=>q.f⟩
 obtain⟨n,p,hn,hz,hf⟩:=key;have sn:=SS p sT;refine NB.st ?_ (Yfw p T);rw[Ry];refine hT.nb rfl hg' ⟨kq,kq⟩ (N:=64) kn (Ymw hn hz) (Yfh sn) fun i s' t' hi h B hB hzB=> ?_;by_cases h0:i=0
 .subst h0;have e:BI (g++[s]) ((g++[s]).length-1-0)=s:=by unfold BI;simp
  rw[e] at h;refine hf ?_ B hB hzB;rw[h];exact(Oy s' t').2
 .have e:Cs n (i:Int)=vT ((i:Int)-1):=by unfold Cs;rw[if_neg kn]
  rw[e];exact .of (Tu (Lj _) hB nZ) (by simp only[AE,vT,Tm.size,Tm.sizes];omega)
def Zl(m n j:Int):Tm:=vT (if j>=m then j+n else j)
variable{m n:Int}
theorem X9(hm:0<=m)(hn:0<=m+n)(t:Tm):t.re (zi m n) 0=t.re (z6 (Zl m n)) 0:=by
 refine Ax t 0 fun p hp=> ?_;rw[z5];simp only[z6,Zl];by_cases h:p.1<p.2
 .rw[if_neg kn,if_pos h]
 .rw[if_neg h,wh,z5];by_cases h3:p.1-p.2>=m
  .rw[if_pos h3,if_pos h3,if_pos kn];congr 1;omega
  .rw[if_neg h3,if_neg h3,if_pos kn];congr 1;omega
theorem Yki(h:BE t u)(hm:0<=m)(hn:0<=m+n):BE (t.re (zi m n) 0) (u.re (zi m n) 0):=by
 induction h with
 |refl t=>exact .refl _
 |step h1 _ ih=>
  refine .step ?_ ih;rw[X9 hm hn,X9 hm hn];exact u9 (fun i c _=> .refl _) h1 0 (gr _)
theorem NB.As(h:NB N t)(hm:0<=m)(hn:0<=m+n):NB N (t.re (zi m n) 0):=by
 obtain⟨u,h1,h2,h3⟩:=h;exact⟨_,Yki h1 hm hn,JJ _ _ _ _ h2,by have:=uv u m n 0;omega⟩
inductive FB:Fm->Nat->Prop
 |eq {k h a b M N} (ha:NB M a) (hb:NB N b):FB (.mk k h [a,b] []) (1+M+N)
 |two {k h x y M N} (hx:FB x M) (hy:FB y N):FB (.mk k h [] [x,y]) (1+M+N)
 |qu {k h x M} (hx:FB x M):FB (.mk k h [] [x]) (1+M)
theorem FB.Dv{f:Fm}(h:FB f M):(y9 f).2=0->(y9 f).1.size<=M:=by
 induction h with
 | @eq k h a b M N ha hb=>
   intro hn;unfold y9 at hn ⊢;simp only[wo,xd] at hn ⊢;by_cases h1:(yv a 1000).2.2=0
   .by_cases h2:(yv b 1000).2.2=0
    .have:=ha.norm h1;have:=hb.norm h2;simp[h1,h2,Fm.size,Fm.sizes];omega
    .simp[h1,h2] at hn
   .simp[h1] at hn
 | @two k h x y M N hx hy ih1 ih2=>
   intro hn;unfold y9 at hn ⊢;simp only[wo,xd] at hn ⊢;by_cases h1:(y9 x).2=0
   .by_cases h2:(y9 y).2=0
    .have:=ih1 h1;have:=ih2 h2;simp[h1,h2,Fm.size,Fm.sizes];omega
    .simp[h1,h2] at hn
   .simp[h1] at hn
 | @qu k h x M hx ih=>
   intro hn;unfold y9 at hn ⊢;simp only[wo,xd] at hn ⊢;by_cases h1:(y9 x).2=0
   .have:=ih h1;simp[h1,Fm.size,Fm.sizes];omega
   .simp[h1] at hn
theorem FB.TN{f:Fm}(h:FB f M):∀(b fr n:Int),0<=fr+b->0<=fr+b+n->FB (f.re (fun b t=>t.re (zi (fr+b) n) 0) b) M:=by
 induction h with
 |eq ha hb=>exact fun b fr n h1 h2=> .eq (ha.As h1 h2) (hb.As h1 h2)
 | @two k h x y M N hx hy ih1 ih2=>
   intro b fr n h1 h2;have:b<=A3 k b:=by unfold A3;split<;>omega
   exact .two (ih1 _ fr n kn kn) (ih2 _ fr n kn kn)
 | @qu k h x M hx ih=>
   intro b fr n h1 h2;have:b<=A3 k b:=by unfold A3;split<;>omega
   exact .qu (ih _ fr n kn kn)
theorem FB.As{f:Fm}{M:Nat}(h:FB f M){fr n:Int}(h1:0<=fr)(h2:0<=fr+n):FB (f.As fr n) M:=h.TN 0 fr n kn kn
def FL(f:Fm)(M:Nat):Prop:=∃N,N<=M/\FB f N
theorem FL.le{f:Fm}(h:FL f M)(hl:M<=N):FL f N:=by obtain⟨K,h1,h2⟩:=h;exact⟨K,kn,h2⟩
theorem FL.As{f:Fm}{M:Nat}(h:FL f M){fr n:Int}(h1:0<=fr)(h2:0<=fr+n):FL (f.As fr n) M:=by obtain⟨K,q1,q2⟩:=h;exact⟨K,q1,q2.As h1 h2⟩
theorem FL.Dv{f:Fm}{M:Nat}(h:FL f M)(hn:(y9 f).2=0):(y9 f).1.size<=M:=by obtain⟨K,q1,q2⟩:=h;have:=q2.Dv hn;omega
theorem FL.two{k:Int}{x y:Fm}{M N:Nat}(hx:FL x M)(hy:FL y N):FL (vm k x y) (1+M+N):=by
 obtain⟨K,q1,q2⟩:=hx;obtain⟨L,q3,q4⟩:=hy;exact⟨1+K+L,kn,.two q2 q4⟩
theorem FL.qu{k:Int}{s:Ty}{x:Fm}{M:Nat}(hx:FL x M):FL (AL k s x) (1+M):=by
 obtain⟨K,q1,q2⟩:=hx;exact⟨1+K,kn,.qu q2⟩
theorem FL.eq{a b:Tm}{M N:Nat}(ha:NB M a)(hb:NB N b):FL (AV a b) (1+M+N):=⟨_,fB _,.eq ha hb⟩
theorem z8:Ac.small:=⟨kq,kq⟩
theorem Dk.Sd(d:Dk){g:List Ty}(hg:Aj g):Mk 3 g Ac (Dk.tm 3 d g Ac).1:=Dk.C8 3 d g Ac hg z8 kn kn
theorem Mk.z24{g:List Ty}(h:Mk 3 g Ac x)(hg:Aj g):x.size<=24:=(h.size hg z8).2 rfl
theorem Dk.Dx(d:Dk){g:List Ty}(hg:Aj g):FL (d.HM g).1 81/\(d.HM g).1.size<=49:=by
 have h1:=Dk.Sd d hg;have h2:=Dk.Sd (Dk.tm 3 d g Ac).2 hg;refine⟨.eq (h1.Dl rfl hg z8) (h2.Dl rfl hg z8),?_⟩;have:=h1.z24 hg;have:=h2.z24 hg;simp only[Dk.HM,AV,Fm.size,Fm.sizes,fJ,fU,fT,gu];omega
theorem O7(k:Int)(x y:Fm):(vm k x y).size=1+x.size+y.size:=by simp only[vm,Fm.size,Fm.sizes,fU,gu];omega
theorem G0(k:Int)(s:Ty)(x:Fm):(AL k s x).size=1+x.size:=by simp only[AL,Fm.size,Fm.sizes,fU,gu];omega
theorem Kh(a b:Tm):(AV a b).size=1+a.size+b.size:=by simp only[AV,Fm.size,Fm.sizes,fJ,fU,fT,gu];omega
theorem Dk.E4:∀(n:Nat) (d:Dk) (g:List Ty),Aj g->FL (Dk.fm n d g).1 (82*2^n-1)/\(Dk.fm n d g).1.size+1<=50*2^n:=by
 intro n;induction n with
 |zero=>intro d g hg;have:=d.Dx hg;exact⟨this.1,by have:=this.2;simp only[Dk.fm];omega⟩
 |succ n ih=>
  intro d g hg;have s1:=Dk.type1 (d.next 9).2;have s0:=Dk.type0 (d.next 9).2;have s0':=z4 s0.1 s0.2;have hp:1<=2^n:=iY;have hq:2^(n+1)=2*2^n:=by rw[jf];omega
  have tw:∀(k:Int) (x y:Fm),FL x (82*2^n-1)/\x.size+1<=50*2^n->FL y (82*2^n-1)/\y.size+1<=50*2^n->FL (vm k x y) (82*2^(n+1)-1)/\(vm k x y).size+1<=50*2^(n+1):=by
   intro k x y h1 h2;have:=h1.2;have:=h2.2;exact⟨(h1.1.two h2.1).le kn,by rw[O7];omega⟩
  have qu:∀(k:Int) (s:Ty) (x:Fm),FL x (82*2^n-1)/\x.size+1<=50*2^n->FL (AL k s x) (82*2^(n+1)-1)/\(AL k s x).size+1<=50*2^(n+1):=by
   intro k s x h1;have:=h1.2;exact⟨h1.1.qu.le kn,by rw[G0];omega⟩
  simp only[Dk.fm];repeat' split
  .exact tw _ _ _ (ih _ _ hg) (ih _ _ hg)
  .exact tw _ _ _ (ih _ _ hg) (ih _ _ hg)
  .exact qu _ _ _ (ih _ _ (zm hg (zg s1 zk)))
  .exact qu _ _ _ (ih _ _ (zm hg (zg s1 zk)))
  .exact qu _ _ _ (ih _ _ (zm hg (zg s0' zk)))
  .have:=(d.next 9).2.Dx hg;exact⟨this.1.le kn,by have:=this.2;omega⟩
def LJ(l m:List Tm):Prop:=l.length=m.length/\∀i (h1:i<l.length) (h2:i<m.length),Jn l[i] m[i]
mutual
def FJ:Fm->Fm->Prop
 | .mk k h ts xs,f=>f.kind=k/\f.ty=h/\LJ ts f.terms/\Gq xs f.args
def Gq:List Fm->List Fm->Prop
 |[],l=>l=[]
 |x::xs,l=>match l with|[]=>False|y::m=>FJ x y/\Gq xs m
end
theorem Z8:∀{l m:List Fm},Gq l m↔l.length=m.length/\∀i (h1:i<l.length) (h2:i<m.length),FJ l[i] m[i]
 |[],m=>by
  simp only[Gq]
  grind
 |x::l,[]=>by simp[Gq]
 |x::l,y::m=>by
  simp only[Gq];rw[Z8];constructor
  .grind
  .rintro ⟨hl,ha⟩;exact⟨ha 0 ko ko,kr,fun i h1 h2=>by have:=ha (i+1) kr kr;grind⟩
theorem Cf{f h:Fm}:FJ f h↔h.kind=f.kind/\h.ty=f.ty/\LJ f.terms h.terms/\f.args.length=h.args.length/\∀i (h1:i<f.args.length) (h2:i<h.args.length),FJ f.args[i] h.args[i]:=by
 cases f;simp only[FJ,Z8];rfl
theorem LJ.refl(l:List Tm):LJ l l:=⟨rfl,fun i _ _=>Jn.refl _⟩
theorem LJ.symm{l m:List Tm}(h:LJ l m):LJ m l:=⟨h.1.symm,fun i h1 h2=>(h.2 i h2 h1).symm⟩
theorem LJ.trans{l m n:List Tm}(h:LJ l m)(h':LJ m n):LJ l n:=⟨h.1.trans h'.1,fun i h1 h2=>(h.2 i h1 (by rw[<-h.1];exact h1)).trans (h'.2 i (by rw[<-h.1];exact h1) h2)⟩
theorem FJ.refl(f:Fm):FJ f f:=by
 induction f using Fm.ind with
 |h f ih=>exact Cf.2 ⟨rfl,rfl,.refl _,rfl,fun i h1 _=>ih _ (fA h1)⟩
theorem FJ.symm{f:Fm}:∀{h:Fm},FJ f h->FJ h f:=by
 induction f using Fm.ind with
 |h f ih=>
  intro h hj;obtain⟨a,b,c,d,e⟩:=Cf.1 hj;exact Cf.2 ⟨a.symm,b.symm,c.symm,d.symm,fun i h1 h2=>ih _ (fA h2) (e i h2 h1)⟩
theorem FJ.trans{f:Fm}:∀{h k:Fm},FJ f h->FJ h k->FJ f k:=by
 induction f using Fm.ind with
 |h f ih=>
  intro h k hj hk;obtain⟨a,b,c,d,e⟩:=Cf.1 hj;obtain⟨a',b',c',d',e'⟩:=Cf.1 hk;exact Cf.2 ⟨a'.trans a,b'.trans b,c.trans c',d.trans d',fun i h1 h2=>ih _ (fA h1) (e i h1 kn) (e' i kn h2)⟩
theorem FJ.re{G G':Int->Tm->Tm}(hG:∀b,0<=b->∀t u,Jn t u->Jn (G b t) (G' b u)){f:Fm}:∀{h:Fm},FJ f h->∀b:Int,0<=b->FJ (f.re G b) (h.re G' b):=by
 induction f using Fm.ind with
 |h f ih=>
  intro h hj b hb;obtain⟨a,b',c,d,e⟩:=Cf.1 hj;rw[Fm.A4,Fm.A4,Cf];simp only[Fm.Ai,Fm.AO,Fm.Am,Fm.Af,gH];refine⟨a,b',⟨by simp[c.1],fun i h1 h2=> ?_⟩,d,fun i h1 h2=> ?_⟩
  .simp only[gH] at h1 h2;simp only[jw];exact hG b hb _ _ (c.2 i h1 h2)
  .simp only[jw,a];exact ih _ (fA h1) (e i h1 h2) _ (by unfold A3;omega)
def Fm.sb(σ:Int->Tm)(v:Int)(f:Fm):Fm:=f.re (fun b t=>t.re (z6 σ) b) v
theorem FJ.sb{f h:Fm}(hj:FJ f h)(σ:Int->Tm){v:Int}(hv:0<=v):FJ (f.sb σ v) (h.sb σ v):=
 FJ.re (G:=fun b t=>t.re (z6 σ) b) (G':=fun b t=>t.re (z6 σ) b) (fun b hb t u h=>h.sub σ hb) hj v hv
theorem u6(f:Fm)(a:Tm){v:Int}(hv:0<=v):f.put v a=f.sb (Cs a) v:=by
 unfold Fm.sb Fm.put;have:=Fm.Cq (fun b t=>t.re (z6 (Cs a)) b) v f 0;rw[gL] at this;rw[this];refine Fm.Ax f 0 fun p hp=> ?_;have:=u3 p hp;rw[Ya _ _ kn,Int.add_comm]
theorem Ml(f:Fm){v:Int}(hv:0<=v)(hn:0<=n):f.As v n=f.sb (Gg n) v:=by
 unfold Fm.sb Fm.As;have:=Fm.Cq (fun b t=>t.re (z6 (Gg n)) b) v f 0;rw[gL] at this;rw[this];refine Fm.Ax f 0 fun p hp=> ?_;have:=u3 p hp;rw[U6 _ _ kn hn,Int.add_comm]
theorem FJ.As{f h:Fm}(hj:FJ f h){v n:Int}(hv:0<=v)(hn:0<=n):FJ (f.As v n) (h.As v n):=by
 rw[Ml _ hv hn,Ml _ hv hn];exact hj.sb _ hv
theorem dU(t:Tm){a:Tm}(h:BE a a')(hb:0<=b):BE (t.re (z6 (Cs a)) b) (t.re (z6 (Cs a')) b):=by
 induction h with
 |refl=>exact .refl _
 |step h1 _ ih=>
  refine .step (u9 (fun i c hc=> ?_) (BF.refl t) b hb) ih;simp only[z6,Cs];by_cases h:i<c
  .rw[if_pos h,if_pos h];exact BF.refl _
  .rw[if_neg h,if_neg h];by_cases h0:i-c=0
   .rw[if_pos h0,if_pos h0];exact Zk h1 c hc
   .rw[if_neg h0,if_neg h0];exact BF.refl _
theorem FJ.put{f h:Fm}(hj:FJ f h){a a':Tm}(ha:Jn a a'):FJ (f.put 0 a) (h.put 0 a'):=by
 rw[u6 _ _ (gr 0),u6 _ _ (gr 0)];refine FJ.re (G:=fun b t=>t.re (z6 (Cs a)) b) (G':=fun b t=>t.re (z6 (Cs a')) b) (fun b hb t u h=> ?_) hj 0 (gr 0);obtain⟨w,p,q⟩:=ha;exact(h.sub (Cs a) hb).trans ((Jn.of (dU u p hb)).trans (Jn.of (dU u q hb)).symm)
theorem FJ.cont{f:Fm}:∀{h:Fm},FJ f h->wi f=wi h:=by
 induction f using Fm.ind with
 |h f ih=>
  intro h hj;obtain⟨a,b,c,d,e⟩:=Cf.1 hj;have em:f.args.map wi=h.args.map wi:=by
   refine List.ext_getElem (by simp[d]) fun i h1 h2=> ?_
   grind
  rw[Mu,Mu,em,a]
theorem LJ.nil{l:List Tm}(h:LJ [] l):l=[]:=fX h.1.symm
theorem FJ.two{k:Int}{a b h:Fm}(hj:FJ (vm k a b) h):∃a' b',h=vm k a' b'/\FJ a a'/\FJ b b':=by
 obtain⟨k',s,ts,xs⟩:=h;obtain⟨e1,e2,e3,e4⟩:=(by have:=hj;unfold vm at this;simp only[FJ] at this;exact this);simp only[Fm.Ai,Fm.AO,Fm.Am,Fm.Af] at e1 e2 e3 e4;subst e1 e2;obtain rfl:=e3.nil
 match xs,e4 with
 |[],h=>simp[Gq] at h
 |[x],h=>simp[Gq] at h
 |x::y::z::l,h=>simp[Gq] at h
 |[x,y],h=>simp[Gq] at h;exact⟨x,y,rfl,h.1,h.2⟩
theorem FJ.qu{k:Int}{s:Ty}{a h:Fm}(hj:FJ (AL k s a) h):∃a',h=AL k s a'/\FJ a a':=by
 obtain⟨k',s',ts,xs⟩:=h;obtain⟨e1,e2,e3,e4⟩:=(by have:=hj;unfold AL at this;simp only[FJ] at this;exact this);simp only[Fm.Ai,Fm.AO,Fm.Am,Fm.Af] at e1 e2 e3 e4;subst e1 e2;obtain rfl:=e3.nil
 match xs,e4 with
 |[],h=>simp[Gq] at h
 |x::y::l,h=>simp[Gq] at h
 |[x],h=>simp[Gq] at h;exact⟨x,rfl,h⟩
theorem FJ.eq{a b:Tm}{h:Fm}(hj:FJ (AV a b) h):∃a' b',h=AV a' b'/\Jn a a'/\Jn b b':=by
 obtain⟨k',s',ts,xs⟩:=h;obtain⟨e1,e2,e3,e4⟩:=(by have:=hj;unfold AV at this;simp only[FJ] at this;exact this);simp only[Fm.Ai,Fm.AO,Fm.Am,Fm.Af] at e1 e2 e3 e4;subst e1 e2;simp only[Gq] at e4;subst e4
 match ts,e3 with
 |[],h=>exact absurd h.1 ko
 |[x],h=>exact absurd h.1 ko
 |x::y::z::l,h=>exact absurd h.1 ko
 |[x,y],h=>exact⟨x,y,rfl,h.2 0 ko ko,h.2 1 ko ko⟩
theorem FJ.Ju{a b a' b':Fm}(ha:FJ a a')(hb:FJ b b'):FJ (vm k a b) (vm k a' b'):=by
 unfold vm;simp only[FJ,Gq];exact⟨rfl,rfl,.refl _,ha,hb,rfl⟩
theorem FJ.Hl{s:Ty}{a a':Fm}(ha:FJ a a'):FJ (AL k s a) (AL k s a'):=by
 unfold AL;simp only[FJ,Gq];exact⟨rfl,rfl,.refl _,ha,rfl⟩
def JV(e:Int):Prop:=e=3\/e=4\/e=5
theorem Wg(he:t.err=0)(hn:t.near=true):(yv t 1000).2.2=0\/(yv t 1000).2.2=4\/(yv t 1000).2.2=5:=by
 unfold yv;rw[if_neg kn,if_neg kr];exact Wt _ _ _
theorem Yl6(h:Jn t u)(ht:t.err=0)(hu:u.err=0)(hn:t.near=true)(hm:u.near=true):FA t u 1000=0\/JV (FA t u 1000):=by
 unfold FA;rw[if_neg kn,if_neg kn];by_cases e:t=u
 .grind
 rw[if_neg e];by_cases h1:(yv t 1000).2.2=0
 .rw[if_neg kn];by_cases h2:(yv u 1000).2.2=0
  .rw[if_neg kn];obtain⟨_,_,a1,a2,_⟩:=Kn h1;obtain⟨_,_,b1,b2,_⟩:=Kn h2;rw[if_pos ((Jn.of a1).symm.trans (h.trans (Jn.of b1))|>.eq a2 b2)];omega
  .rw[if_pos h2];exact .inr (.inr ((Wg hu hm).resolve_left h2))
 .rw[if_pos h1];exact .inr (.inr ((Wg ht hn).resolve_left h1))
theorem Ynk{a b:Tm}(h:FA a b 1000=0):Jn a b:=by
 unfold FA at h;by_cases h1:a.err≠0
 .omega
 rw[if_neg h1] at h;by_cases h2:b.err≠0
 .omega
 rw[if_neg h2] at h;by_cases h3:a=b
 .subst h3;exact .refl _
 rw[if_neg h3] at h;by_cases h4:(yv a 1000).2.2≠0
 .omega
 rw[if_neg h4] at h;by_cases h5:(yv b 1000).2.2≠0
 .omega
 rw[if_neg h5] at h;by_cases h6:(yv a 1000).1=(yv b 1000).1
 .obtain ⟨_,_,a1,_⟩:=Kn (fC.1 h4);obtain⟨_,_,b1,_⟩:=Kn (fC.1 h5);exact⟨_,a1,h6▸b1⟩
 grind
theorem Yt:∀{l m:List Tm},l.length=m.length->E8 l m=0->LJ l m
 |[],[],_,_=> .refl _
 |[],_::_,h,_=>kM
 |_::_,[],h,_=>kM
 |x::l,y::m,hl,h=>by
  simp only[E8] at h;by_cases h1:FA x y 1000≠0
  .omega
  rw[if_neg h1] at h;have ih:=Yt kr h;refine⟨hl,fun i a b=> ?_⟩;cases i with
  |zero=>exact Ynk (fC.1 h1)
  |succ i=>exact ih.2 i kr kr
theorem Yrg{f:Fm}:∀{g:Fm},f.shape=true->g.shape=true->Gs f g=0->FJ f g:=by
 induction f using Fm.ind with
 |h f ih=>
  intro g hf hg h;rw[QD] at h;by_cases h1:f.kind=g.kind/\f.ty=g.ty
  .rw[if_pos h1] at h;by_cases h2:E8 f.terms g.terms≠0
   .omega
   rw[if_neg h2] at h;obtain⟨lt,la⟩:=YK hf hg h1.1;have key:∀(l m:List Fm),(∀x∈l,x∈f.args)->(∀y∈m,y.shape=true)->l.length=m.length->FI l m=0->∀i (h1:i<l.length) (h2:i<m.length),FJ l[i] m[i]:=by
    intro l;induction l with
    |nil=>simp
    |cons x l ihl=>
     intro m hx hm hl hmt i a b;cases m with
     |nil=>cases hl
     |cons y m=>
      simp only[FI] at hmt;by_cases h3:Gs x y≠0
      .omega
      rw[if_neg h3] at hmt;cases i with
      |zero=>exact ih x (hx x ko) (zp hf (hx x ko)) (hm y ko) (fC.1 h3)
      |succ i=>grind
   exact Cf.2 ⟨h1.1.symm,h1.2.symm,Yt lt (fC.1 h2),la,key _ _ (fun _ h=>h) (fun y hy=>zp hg hy) la h⟩
  grind
theorem Xy{f g:Fm}(h:Gr f g=0):FJ f g:=by
 unfold Gr at h;by_cases h1:f.err≠0
 .omega
 rw[if_neg h1] at h;by_cases h2:g.err≠0
 .omega
 rw[if_neg h2] at h;exact Yrg ((Fm.Aa f).1 (fC.1 h1)).1 ((Fm.Aa g).1 (fC.1 h2)).1 h
end Go.Ab
