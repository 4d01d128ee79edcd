/- A part of this seat's proofs. No conditions. -/
import Derived.Test.YtknjfffhfolkcaaGreatDoorHAT1
import Derived.Test.YtknjfffhfolkcaaGreatDoorHD1
namespace Go.Ab
open Go
set_option linter.all false
theorem Ve{k:Int}:∀{l:List Int},k∉l->EY k l=none
 |[],_=>rfl
 |x::l,h=>by
  simp only[WE,not_or] at h;have h1:¬x=k:=fun e=>h.1 e.symm;simp only[EY,if_neg h1,Ve h.2,Yn]
theorem U9{k:Int}:∀{l:List Int},k∈l->∃i,EY k l=some i
 |[],h=>by cases h
 |x::l,h=>by
  by_cases hx:x=k
  .exact ⟨0,by simp[EY,hx]⟩
  .obtain ⟨i,hi⟩:=U9 (l:=l) (by rcases WE.1 h with h|h;exact absurd h.symm hx;exact h);exact⟨i+1,by simp[EY,hx,hi]⟩
theorem PT(k:Int)(ks:List Int):ur k ks=if k∈ks then ks else ks++[k]:=by
 by_cases h:k∈ks
 .obtain ⟨i,hi⟩:=U9 h;rw[if_pos h,ur,hi]
 .rw[if_neg h,ur,Ve h]
theorem Zt4{k x:Int}{ks:List Int}:x∈ur k ks↔x∈ks\/x=k:=by
 rw[PT];split
 .rename_i h;constructor
  .exact Or.inl
  .rintro (h1|rfl)
   .exact h1
   .exact h
 .simp
theorem Zoc{k:Int}{ks:List Int}(h:ks.Nodup):(ur k ks).Nodup:=by
 rw[PT];split
 .exact h
 .rename_i h1;exact YV.2 ⟨h,by simp,fun a ha b hb e=>by simp at hb;subst hb;subst e;exact h1 ha⟩
theorem OM(k:Int)(ks:List Int)(b:Bool):FK k ks (List.replicate ks.length b) b=List.replicate (ur k ks).length b:=by
 unfold FK ur;split
 .rename_i i hi;apply List.ext_getElem?;intro j;rw[List.getElem?_set];split
  .rename_i e;subst e;have:=(uz hi).2;simp[List.getElem?_replicate,this]
  .rfl
 .rw[WD,<-List.replicate_append_replicate];rfl
def Cw(acc l:List Int):List Int:=l.foldl (fun ks k=>ur k ks) acc
theorem Nn(acc l l':List Int):Cw acc (l++l')=Cw (Cw acc l) l':=YY
theorem Ms(acc:List Int):Cw acc []=acc:=rfl
theorem TE(acc:List Int)(k:Int):Cw acc [k]=ur k acc:=rfl
theorem Nc{x:Int}:∀{l acc:List Int},x∈Cw acc l↔x∈acc\/x∈l
 |[],acc=>by simp[Cw]
 |k::l,acc=>by
  show x∈Cw (ur k acc) l↔_;rw[Nc,Zt4,WE,or_assoc]
theorem Ju:∀{l acc:List Int},acc.Nodup->(Cw acc l).Nodup
 |[],acc,h=>h
 |k::l,acc,h=>Ju (l:=l) (Zoc h)
theorem Ny:∀(l acc:List Int),(Cw acc l).length<=acc.length+l.length
 |[],acc=>by simp[Cw]
 |k::l,acc=>by
  have h1:=Ny l (ur k acc);have h2:(ur k acc).length<=acc.length+1:=by rw[PT];split<;>simp
  show(Cw (ur k acc) l).length<=_;rw[Wy];omega
def Dt(l:List (Int×Int)):List Int:=l.filterMap fun p=>if p.2<=p.1 then some (p.1-p.2) else none
theorem Q7(l l':List (Int×Int)):Dt (l++l')=Dt l++Dt l':=List.filterMap_append
theorem TA:Dt []=[]:=rfl
theorem VQ(i b:Int):Dt [(i,b)]=if b<=i then [i-b] else []:=by
 by_cases h:b<=i
 .simp[Dt,h]
 .simp[Dt,h]
theorem Yfm(l:List (Int×Int)):(Dt l).length<=l.length:=List.length_filterMap_le _ _
theorem Ye9{x:Int}{l:List (Int×Int)}:x∈Dt l↔0<=x/\∃p∈l,p.1-p.2=x:=by
 simp only[Dt,Yr];constructor
 .rintro ⟨p,hp,h⟩;split at h
  .cases h;exact⟨by omega,p,hp,rfl⟩
  .cases h
 .rintro ⟨h0,p,hp,h⟩;exact⟨p,hp,by rw[if_pos (by omega),h]⟩
theorem Ej{x:Int}:∀{l:List (Int×Int)},(∃p∈l,p.1-p.2=x)↔cnt x l≠0
 |[]=>by simp[cnt]
 |p::l=>by
  have ih:=Ej (x:=x) (l:=l);rw[show p::l=[p]++l from rfl,vu,HP];constructor
  .rintro ⟨q,hq,h⟩;rcases WH.1 hq with h1|h1
   .simp at h1;subst h1;rw[if_pos h];omega
   .have:=ih.1 ⟨q,h1,h⟩;omega
  .intro h;by_cases h1:p.1-p.2=x
   .exact ⟨p,by simp,h1⟩
   .rw[if_neg h1] at h;obtain⟨q,hq,h2⟩:=ih.2 (by omega);exact⟨q,by simp[hq],h2⟩
def HQ(t:Tm):List Int:=Cw [] (Dt (t.vars 0))
def JG(t:Tm):List Int:=yy (HQ t)
theorem TP(t:Tm):(HQ t).Nodup:=Ju Yx
theorem Zyz{t:Tm}{x:Int}:x∈HQ t↔0<=x/\cnt x (t.vars 0)≠0:=by rw[HQ,Nc,Ye9,Ej];simp
theorem Zz5(t:Tm):(HQ t).length<=t.size:=by
 have h1:=Ny (Dt (t.vars 0)) [];have h2:=Yfm (t.vars 0);have h3:=t.Ce 0;simp only[HQ,W3] at*;omega
theorem wc(l:List Int):(yy l).Perm l:=List.mergeSort_perm l _
theorem ME(l:List Int):(yy l).Pairwise (·<=·):=by
 have h:=List.pairwise_mergeSort (le:=fun x y:Int=>decide (x<=y)) (fun a b c h1 h2=>by simp only[decide_eq_true_eq] at*;omega) (fun a b=>by simp only[Xl,decide_eq_true_eq];omega) l;exact h.imp fun h=>by simpa using h
theorem RS{l l':List Int}(hp:l.Perm l')(h:l.Pairwise (·<=·))(h':l'.Pairwise (·<=·)):l=l':=
 hp.eq_of_pairwise (le:=(·<=·)) (fun a b _ _ h1 h2=>by omega) h h'
theorem Zka{l l':List Int}(hp:l.Perm l'):yy l=yy l':=
 RS ((wc l).trans (hp.trans (wc l').symm)) (ME l) (ME l')
theorem F1{t:Tm}{x:Int}:x∈JG t↔0<=x/\cnt x (t.vars 0)≠0:=by rw[JG,(wc _).mem_iff,Zyz]
theorem Zoi(t:Tm):(JG t).Nodup:=(wc _).nodup_iff.2 (TP t)
def Df(l:List Int)(n:Int)(i:Nat):List Int:=l.take i++(l.getD i n::l.drop i)
def HY(l:List Int)(n:Int)(i:Nat):List Int:=l.take i++n::l.drop i
theorem Zyu(l:List Int)(n:Int):Df l n l.length=l++[n]:=by simp[Df]
theorem Zyp{l:List Int}{n:Int}{i:Nat}(h:i<=l.length):(Df l n i).length=l.length+1:=by simp[Df];omega
theorem Ye0{l:List Int}{n:Int}{i:Nat}(h:i<l.length)(h':i<(Df l n (i+1)).length):(Df l n (i+1))[i]=l[i]:=by
 simp only[Df];rw[List.getElem_append_left (by simp;omega),List.getElem_take]
theorem Zxb{l:List Int}{n:Int}{i:Nat}(h:i<l.length):(Df l n (i+1)).set (i+1) l[i]=Df l n i:=by
 have h1:(l.take (i+1)).length=i+1:=by simp;omega
 simp only[Df];have e:l.take (i+1)=l.take i++[l[i]]:=by rw[List.take_succ,Wl h];rfl
 rw[Zi (h:=by omega),h1,X6,XV,e,Wr,List.singleton_append,<-Yj h];congr 2;rw[WJ,Wl h];rfl
theorem Zyb{l:List Int}{n:Int}{i:Nat}(h:i<=l.length):(Df l n i).set i n=HY l n i:=by
 have h1:(l.take i).length=i:=by simp;omega
 simp only[Df,HY];rw[Zi (h:=by omega),h1,X6,XV]
theorem Zu7(l:List Int)(n:Int)(i:Nat):(HY l n i).Perm (n::l):=by
 have h1:(HY l n i).Perm (n::(l.take i++l.drop i)):=List.perm_middle
 rwa [Xp] at h1
theorem Zpg{l:List Int}{n:Int}{i:Nat}(hs:l.Pairwise (·<=·))(h:∀x∈l.drop i,n<x)(h':∀(hi:0<i) (hl:i-1<l.length),l[i-1]<=n)(hil:i<=l.length):(HY l n i).Pairwise (·<=·):=by
 have hs':=hs;rw[<-Xp i l,Zl] at hs;obtain⟨h1,h2,h3⟩:=hs;have ht:∀x∈l.take i,x<=n:=fun x hx=>by
  obtain⟨j,hj,hx2⟩:=Ye.1 hx;have hj2:j<i:=by simp at hj;omega
  rw[List.getElem_take] at hx2;have h4:=h' (by omega) (by omega);rcases XM j (i-1) with h5|h5
  .have:=YU.1 hs' j (i-1) (by omega) (by omega) h5;omega
  .have h6:j=i-1:=by omega
   subst h6;omega
 rw[HY,Zl];refine⟨h1,List.pairwise_cons.2 ⟨fun x hx=>by have:=h x hx;omega,h2⟩,fun x hx y hy=> ?_⟩;rcases WE.1 hy with rfl|hy
 .exact ht x hx
 .exact h3 x hx y hy
theorem Zvi{d:List Int}{n:Int}{i:Nat}(h:∀x∈(yy d).drop i,n<x)(h':∀(hi:0<i) (hl:i-1<(yy d).length),(yy d)[i-1]<=n)(hil:i<=(yy d).length):HY (yy d) n i=yy (d++[n]):=by
 refine RS ?_ (Zpg (ME d) h h' hil) (ME _);refine((Zu7 _ _ _).trans ((wc d).cons n)).trans (?_:(n::d).Perm _);exact((List.perm_append_comm (l₁:=[n]) (l₂:=d)).trans (wc _).symm)
theorem R4(d:List Int):(yy d).length=d.length:=(wc d).length_eq
theorem NC:yy []=[]:=List.mergeSort_nil
theorem T0:∀{l ks:List Int},l.Nodup->(∀x∈l,x∈ks)->l.length<=ks.length
 |[],_,_,_=>XE _
 |x::l,ks,hn,h=>by
  obtain⟨h1,h2⟩:=List.nodup_cons.1 hn;have h3:=h x (by simp);have h4:=T0 (l:=l) (ks:=ks.erase x) h2 fun y hy=>(List.mem_erase_of_ne (fun e:y=x=>h1 (by rw[<-e];exact hy))).2 (h y (by simp[hy]));rw[List.length_erase_of_mem h3] at h4;have:0<ks.length:=Zb h3;simp only[Wy];omega
theorem NX{t:Tm}(hs:t.shape=true){fr by_ C:Int}(hb:0<=by_)(hC:∀p∈t.vars 0,p.1<=C):∀p∈(t.re (zx fr by_) 0).vars 0,p.1<=C+by_:=fun p hp=>by
 rw[R6 _ _ _ _ hs] at hp;obtain⟨q,hq,rfl⟩:=WA.1 hp;have:=hC q hq;simp only;split<;>omega
theorem Ybh{t:Tm}(hC:∀p∈t.vars 0,p.1<=1000000):t.near=true:=Wm.2 fun p hp=>by
 have:=hC p hp;simp only[decide_eq_true_eq];omega
def Fm.A9(f:Fm)(fr by_:Int):Fm:=f.re (fun b t=>t.re (zx (fr+b) by_) 0) 0
theorem P5{f:Fm}(h:f.shape=true):
 (f.kind=1/\f.args=[])\/((f.kind=2\/f.kind=3)/\f.terms=[])\/((f.kind=4\/f.kind=5\/f.kind=6\/f.kind=7)/\f.terms=[]/\f.ty.err=0):=by
 rw[Fm.Al,Wk,Wk] at h;have h1:=h.1.1;unfold Fm.head at h1;by_cases h2:f.kind=1
 .rw[if_pos h2] at h1;simp only[Wk,beq_iff_eq,XC] at h1;exact .inl ⟨h2,h1.2⟩
 rw[if_neg h2] at h1;by_cases h3:f.kind=2\/f.kind=3
 .rw[if_pos h3] at h1;simp only[Wk,beq_iff_eq,XC] at h1;exact .inr (.inl ⟨h3,h1.1.2⟩)
 rw[if_neg h3] at h1;by_cases h4:f.kind=4\/f.kind=5\/f.kind=6\/f.kind=7
 .rw[if_pos h4] at h1;simp only[Wk,beq_iff_eq,XC] at h1;refine .inr (.inr ⟨h4,h1.1.2,(Ty.Ad f.ty).2 ?_⟩);have:=h1.1.1;simp only[Ty.ok,Wk,decide_eq_true_eq] at this;exact this
 rw[if_neg h4] at h1;cases h1
theorem Nl{α:Type}{f g:α->Nat}{l:List α}(h:∀x∈l,f x=g x):(l.map f).sum=(l.map g).sum:=by rw[Xc h]
theorem Ybd{G:Int->Tm->Tm}(hG:∀b t,t.shape=true->(G b t).shape=true/\(G b t).size=t.size/\(G b t).full=t.full)(f:Fm):∀b,f.shape=true->(f.re G b).shape=true/\(f.re G b).size=f.size/\(f.re G b).full=f.full:=by
 induction f using Fm.ind with
 |h f ih=>
  intro b hf;have h0:=hf;rw[Fm.Al,Wk,Wk] at h0;obtain⟨⟨h1,h2⟩,h3⟩:=h0;rw[Fm.Bt];refine⟨?_,?_,?_⟩
  .rw[Fm.Al,Wk,Wk];refine⟨⟨?_,?_⟩,?_⟩
   .simp only[Fm.head,Fm.Ai,Fm.AQ,Fm.Ah,Fm.Ae,Xt] at h1 ⊢;exact h1
   .rw[Fm.Ah,Wm];intro y hy;obtain⟨x,hx,rfl⟩:=WA.1 hy;exact(hG b x (Wm.1 h2 x hx)).1
   .rw[Fm.Ae,Wm];intro y hy;obtain⟨x,hx,rfl⟩:=WA.1 hy;exact(ih x hx _ (Wm.1 h3 x hx)).1
  .rw[Fm.size_eq,f.size_eq];simp only[Fm.Ah,Fm.Ae,Xq];rw[Nl (f:=Tm.size∘G b) (g:=Tm.size) fun x hx=>(hG b x (Wm.1 h2 x hx)).2.1,Nl (f:=Fm.size∘Fm.re G (A3 f.kind b)) (g:=Fm.size) fun x hx=>(ih x hx _ (Wm.1 h3 x hx)).2.1]
  .rw[Fm.Af,f.Af];simp only[Fm.Ah,Fm.Ae,Fm.AQ,Xq];rw[Nl (f:=Tm.full∘G b) (g:=Tm.full) fun x hx=>(hG b x (Wm.1 h2 x hx)).2.2,Nl (f:=Fm.full∘Fm.re G (A3 f.kind b)) (g:=Fm.full) fun x hx=>(ih x hx _ (Wm.1 h3 x hx)).2.2]
theorem I6{f:Fm}(hf:f.shape=true){fr by_:Int}(hb:0<=by_):(f.A9 fr by_).shape=true/\(f.A9 fr by_).size=f.size/\(f.A9 fr by_).full=f.full:=
 Ybd (fun b t ht=>⟨vx 0 ht hb,J3 _ _ t 0 ht,I2 _ _ t 0 ht⟩) f 0 hf
theorem Zzb(g m:List Ty)(fr:Int)(f:Fm):∀(h:List Ty) (b:Int),(h.length:Int)=fr+b->f.shape=true->f.Bg (g++h)->
 (f.re (fun b t=>t.re (zx (fr+b) m.length) 0) b).Bg (g++m++h):=by
 induction f using Fm.ind with
 |h f ih=>
  intro h b hb hf hok;rw[Fm.Bn] at hok;rw[Fm.Bt,Fm.Bn];simp only[Fm.Ah,Fm.Ae];refine⟨fun y hy=> ?_,fun y hy=> ?_⟩
  .obtain ⟨x,hx,rfl⟩:=WA.1 hy;rw[Og x g m h (fr+b) 0 (yg hf hx) (by omega)];exact hok.1 x hx
  .obtain ⟨x,hx,rfl⟩:=WA.1 hy;have h1:=hok.2 x hx;by_cases hq:xg f.kind=true
   .rw[G1 hq] at h1;rw[show ∀ts fs,Dx (g++m++h) (Fm.mk f.kind f.ty ts fs)=g++m++h++[f.ty] from fun ts fs=>G1 (f:=Fm.mk f.kind f.ty ts fs) hq];have e:A3 f.kind b=b+1:=if_pos hq;rw[e,Wr (g++m)];rw[Wr] at h1;exact ih x hx (h++[f.ty]) (b+1) (by simp;omega) (zv hf hx) h1
   .rw[Hg hq] at h1;rw[show ∀ts fs,Dx (g++m++h) (Fm.mk f.kind f.ty ts fs)=g++m++h from fun ts fs=>Hg (f:=Fm.mk f.kind f.ty ts fs) hq];have e:A3 f.kind b=b:=if_neg hq;rw[e];exact ih x hx h b hb (zv hf hx) h1
theorem Yey{f:Fm}(hs:f.shape=true){fr by_ C:Int}(hb:0<=by_)(hC:∀p∈f.AZ 0,∀q∈p.1.vars 0,q.1<=C):∀p∈(f.A9 fr by_).AZ 0,∀q∈p.1.vars 0,0<=q.1/\q.1<=C+by_:=by
 intro p hp q hq;rw[Fm.A9,Vh] at hp;obtain⟨r,hr,rfl⟩:=WA.1 hp;have h1:=JD f hs 0 r hr;exact⟨Tm.AE _ (vx 0 h1 hb) 0 q hq,NX h1 hb (hC r hr) q hq⟩
theorem V8{f:Fm}{C:Int}(hC:C<=1000000)(h:∀p∈f.AZ 0,∀q∈p.1.vars 0,0<=q.1/\q.1<=C):f.near=true:=
 Wm.2 fun p hp=>Ybh fun q hq=>by have:=h p hp q hq;omega
theorem LO{f:Fm}(he:f.err=0){fr by_:Int}(hb:0<=by_):(f.A9 fr by_).err=0:=by
 have h1:=(Fm.Ad f).1 he;obtain⟨h2,h3,_⟩:=I6 h1.1 (fr:=fr) hb;exact(Fm.Ad _).2 ⟨h2,by rw[h3];exact h1.2⟩
theorem Yd2{f:Fm}(h:DO 2 f):f.err=0:=(Fm.Ad f).2 ⟨h.1,by have:=h.2.1;omega⟩
end Go.Ab
namespace Go.Ab
set_option linter.all false
theorem MF{k i:Int}{th T:Ty}{xs:List Tm}{g:List Ty}(k1:k≠1)(k2:k≠2)(h:(Tm.mk k i th xs).inf g=(T,0)):
 (∀x∈xs,x.inf g=((x.inf g).1,0))/\vo k th (xs.map fun x=>(x.inf g).1)=(T,0):=by
 obtain⟨h1,h2⟩:=Jf (t:=Tm.mk k i th xs) k1 k2 h;exact⟨fun x hx=>by rw[<-h1 x hx],h2⟩
theorem Sg{i:Int}{th T:Ty}{x f n:Tm}{g:List Ty}(h:(Tm.mk 6 i th [x,f,n]).inf g=(T,0)):
 T=th/\x.inf g=(th,0)/\f.inf g=(yv Ag (yv th th),0)/\n.inf g=(Ag,0):=by
 obtain⟨h1,h2⟩:=MF (by decide) (by decide) h;have hx:=h1 x (by simp);have hf:=h1 f (by simp);have hn:=h1 n (by simp);simp only[vo,Wn,WI,Lp,MZ,S8,reduceIte,Int.reduceEq] at h2;by_cases hc:¬(x.inf g).1=th\/¬(f.inf g).1=yv Ag (yv th th)\/¬(n.inf g).1=Ag
 .rw[if_pos hc] at h2;cases h2
 .rw[if_neg hc] at h2;have e:=congrArg Prod.fst h2;simp only[not_or,Ws] at hc;exact⟨e.symm,by rw[hx,hc.1],by rw[hf,hc.2.1],by rw[hn,hc.2.2]⟩
theorem UU{i:Int}{th T:Ty}{x f n:Tm}{g:List Ty}(h:(Tm.mk 9 i th [x,f,n]).inf g=(T,0)):
 T=th/\x.inf g=(th,0)/\f.inf g=(yv Ag (yv An (yv th th)),0)/\n.inf g=(An,0):=by
 obtain⟨h1,h2⟩:=MF (by decide) (by decide) h;have hx:=h1 x (by simp);have hf:=h1 f (by simp);have hn:=h1 n (by simp);simp only[vo,Wn,WI,Lp,MZ,S8,reduceIte,Int.reduceEq] at h2;by_cases hc:¬(x.inf g).1=th\/¬(f.inf g).1=yv Ag (yv An (yv th th))\/¬(n.inf g).1=An
 .rw[if_pos hc] at h2;cases h2
 .rw[if_neg hc] at h2;have e:=congrArg Prod.fst h2;simp only[not_or,Ws] at hc;exact⟨e.symm,by rw[hx,hc.1],by rw[hf,hc.2.1],by rw[hn,hc.2.2]⟩
theorem Zzr{i:Int}{th T:Ty}{x:Tm}{g:List Ty}(h:(Tm.mk 5 i th [x]).inf g=(T,0)):T=Ag/\x.inf g=(Ag,0):=by
 obtain⟨h1,h2⟩:=MF (by decide) (by decide) h;have hx:=h1 x (by simp);simp only[vo,Wn,WI,Lp,reduceIte,Int.reduceEq] at h2;by_cases hc:¬(x.inf g).1=Ag
 .rw[if_pos hc] at h2;cases h2
 .rw[if_neg hc] at h2;have e:=congrArg Prod.fst h2;exact⟨e.symm,by rw[hx,Ws.1 hc]⟩
theorem Zyv{i:Int}{th T:Ty}{x y:Tm}{g:List Ty}(h:(Tm.mk 8 i th [x,y]).inf g=(T,0)):T=An/\x.inf g=(Ag,0)/\y.inf g=(An,0):=by
 obtain⟨h1,h2⟩:=MF (by decide) (by decide) h;have hx:=h1 x (by simp);have hy:=h1 y (by simp);simp only[vo,Wn,WI,Lp,MZ,reduceIte,Int.reduceEq] at h2;by_cases hc:¬(x.inf g).1=Ag\/¬(y.inf g).1=An
 .rw[if_pos hc] at h2;cases h2
 .rw[if_neg hc] at h2;have e:=congrArg Prod.fst h2;simp only[not_or,Ws] at hc;exact⟨e.symm,by rw[hx,hc.1],by rw[hy,hc.2]⟩
theorem Jr{f x:Tm}{a b:Ty}{g:List Ty}(hf:f.inf g=(yv a b,0))(hx:x.inf g=(a,0)):(A0 f x).inf g=(b,0):=HN hf hx
theorem Zwm{th:Ty}{x f n:Tm}{g:List Ty}(hx:x.inf g=(th,0))(hf:f.inf g=(yv Ag (yv th th),0))(hn:n.inf g=(Ag,0))(i:Int):(Tm.mk 6 i th [x,f,n]).inf g=(th,0):=by
 rw[Tm.A1];simp[Tm.AK,hx,hf,hn,vo]
theorem Zs9{th:Ty}{x f n:Tm}{g:List Ty}(hx:x.inf g=(th,0))(hf:f.inf g=(yv Ag (yv An (yv th th)),0))(hn:n.inf g=(An,0))(i:Int):(Tm.mk 9 i th [x,f,n]).inf g=(th,0):=by
 rw[Tm.A1];simp[Tm.AK,hx,hf,hn,vo]
theorem Yii{t u:Tm}(hv:RV t u){g:List Ty}{T:Ty}(hs:t.shape=true)(h:t.inf g=(T,0)):u.inf g=(T,0):=by
 cases hv with
 |beta i th j s b a=>
  have hb:b.shape=true:=zg (zg hs (.mk 2 j s [b]) (by simp)) b (by simp);have ha:a.shape=true:=zg hs a (by simp);obtain⟨h1,h2⟩:=Jf (by simp) (by simp) h;have hf:(Tm.mk 2 j s [b]).inf g=(((Tm.mk 2 j s [b]).inf g).1,0):=by rw[<-h1 (.mk 2 j s [b]) (by simp)]
  obtain⟨h3,h4⟩:=Sw hf;have ha0:=h1 a (by simp);simp only[Tm.Ai,Tm.AQ,Tm.Ae,Wn,WI,h4] at h2;have h5:s=(a.inf g).1/\(b.inf (g++[s])).1=T:=by
   simp only[vo,Bz,XJ,YJ,Zvn,Zuv] at h2;by_cases h6:s=(a.inf g).1
   .refine ⟨h6,?_⟩;simp[h6] at h2;rw[h6];exact h2
   .simp[h6] at h2
  have hσ:a.inf g=(s,0):=by rw[h5.1,<-ha0]
  have hp:=RH b a g [] s 0 0 hb ha rfl hσ;rw[WR,WR] at hp;rw[hp,<-h5.2,<-h3]
 |rz i th x f j s=>obtain⟨rfl,h1,_⟩:=Sg h;exact h1
 |fz i th x f j s=>obtain⟨rfl,h1,_⟩:=UU h;exact h1
 |rs i th x f j s n=>
  obtain⟨rfl,h1,h2,h3⟩:=Sg h;obtain⟨_,h4⟩:=Zzr h3;exact Jr (Jr h2 h4) (Zwm h1 h2 h4 0)
 |fs i th x f j s n l=>
  obtain⟨rfl,h1,h2,h3⟩:=UU h;obtain⟨_,h4,h5⟩:=Zyv h3;exact Jr (Jr (Jr h2 h4) h5) (Zs9 h1 h2 h5 0)
 |p1 i th j s _ y=>
  obtain⟨h1,h2⟩:=Jf (by simp) (by simp) h;have hf:(Tm.mk 10 j s [u,y]).inf g=(((Tm.mk 10 j s [u,y]).inf g).1,0):=by rw[<-h1 (.mk 10 j s [u,y]) (by simp)]
  obtain⟨h3,h4,h5⟩:=Un hf;simp only[Tm.Ai,Tm.AQ,Tm.Ae,Wn,WI,h5] at h2;simp[vo,Bz] at h2;rw[<-h2,<-h3]
 |p2 i th j s y _=>
  obtain⟨h1,h2⟩:=Jf (by simp) (by simp) h;have hf:(Tm.mk 10 j s [y,u]).inf g=(((Tm.mk 10 j s [y,u]).inf g).1,0):=by rw[<-h1 (.mk 10 j s [y,u]) (by simp)]
  obtain⟨h3,h4,h5⟩:=Un hf;simp only[Tm.Ai,Tm.AQ,Tm.Ae,Wn,WI,h5] at h2;simp[vo,Bz] at h2;rw[<-h2,<-h4]
theorem Yhv(room:Int)(t:Tm):∀(g:List Ty) (T:Ty) (u:Tm),t.shape=true->t.inf g=(T,0)->Da room t=some (u,true)->u.inf g=(T,0):=by
 induction t using Tm.ind with
 |h t ih=>
  intro g T u hs h hn;rw[Gb] at hn;by_cases hr:vm t=true
  .rw[if_pos hr] at hn;split at hn
   .cases hn
   .cases hn;exact Yii (JU hs hr) hs h
  .rw[if_neg hr,Wo] at hn;obtain⟨q,h1,h2⟩:=hn;obtain⟨m,hm,v,h3,h4⟩:=NS _ _ _ h1;have e2:=congrArg Prod.snd h2;have e1:=congrArg Prod.fst h2;simp only at e1 e2;rw[e2] at h3;rw[<-e1,h4];have hargs:=zg hs;have hx:=hargs _ (Wi hm);have hmem:=Wi hm;by_cases k1:t.kind=1
   .exact absurd (HS hs k1) (fun hh=>by rw[hh] at hm;simp at hm)
   .have key:∀g' T',(t.args[m]).inf g'=(T',0)->v.inf g'=(T',0):=fun g' T' hi=>ih _ hmem g' T' v hx hi h3;by_cases k2:t.kind=2
    .obtain ⟨i,th,b,rfl,hb⟩:=I8 hs k2 rfl;obtain⟨h5,h6⟩:=Sw h;have hm0:m=0:=by simp at hm;omega
     subst hm0;simp only[Tm.Ae,Wu] at*;have q1:=key (g++[th]) (b.inf (g++[th])).1 (by rw[<-h5]);have:v.inf (g++[th])=b.inf (g++[th]):=by rw[q1,<-h5]
     rw[<-h];simp only[XV,Tm.Ai,Tm.AQ,Tm.AJ];exact Zt8 this
    .obtain ⟨h5,h6⟩:=Jf k1 k2 h;have h7:=h5 _ hmem;have q1:=key g (t.args[m].inf g).1 (by rw[<-h7]);have hi:v.inf g=(t.args[m]).inf g:=by rw[q1,<-h7]
     rw[<-h,Tm.A1 g (Tm.mk t.kind t.index t.ty (t.args.set m v)),if_neg (show ¬(Tm.mk t.kind t.index t.ty (t.args.set m v)).kind=1 from k1),if_neg (show ¬(Tm.mk t.kind t.index t.ty (t.args.set m v)).kind=2 from k2),t.A1,if_neg k1,if_neg k2];show(if(Tm.AK g (t.args.set m v)).2≠0 then(BJ,(Tm.AK g (t.args.set m v)).2) else vo t.kind t.ty (Tm.AK g (t.args.set m v)).1)=_;rw[Pt g v t.args m hm hi]
theorem V4:∀(k:Nat) (t:Tm) (n:Nat) (g:List Ty) (T:Ty),t.err=0->t.inf g=(T,0)->(Ee k t n).2.2=0->(Ee k t n).1.inf g=(T,0)
 |0,t,n,g,T,he,hi,h=>by
  simp only[Ee] at h ⊢;cases hx:Da (4096-t.size) t with
  |none=>exact hi
  |some p=>rw[hx] at h;cases h
 |k+1,t,n,g,T,he,hi,h=>by
  simp only[Ee] at h ⊢;cases hx:Da (4096-t.size) t with
  |none=>exact hi
  |some p=>
   obtain⟨x,f⟩:=p;rw[hx] at h;cases f with
   |false=>cases h
   |true=>exact V4 k x (n+1) g T (QT he hx) (Yhv _ t g T x (vb he).1 hi hx) h
theorem Zz2{t:Tm}{steps:Int}(h:(xp t steps).2.2=0):t.err=0/\(xp t steps).1.err=0/\Ge t (xp t steps).1/\nf (xp t steps).1/\∀g T,t.inf g=(T,0)->(xp t steps).1.inf g=(T,0):=by
 unfold xp at h ⊢;by_cases h1:t.err≠0
 .rw[if_pos h1] at h;exact absurd h h1
 .rw[if_neg h1] at h ⊢;have h1':t.err=0:=Ws.1 h1;by_cases h2:¬(0<=steps/\steps<=65536)\/t.near=false
  .rw[if_pos h2] at h;cases h
  .rw[if_neg h2] at h ⊢;obtain⟨a,b,c⟩:=QI _ t 0 h1' h;exact⟨h1',c,a,b,fun g T hi=>V4 _ t 0 g T h1' hi h⟩
end Go.Ab
namespace Go.Ab
open Go
set_option linter.all false
structure Ck where
 lems:List Fm
 tys:List Ty
 hyps:List Fm
def Ck.view(c:Ck):List V:=[.s .fm c.lems,.s .ty c.tys,.s .fm c.hyps]
def Ck.below(c:Ck)(l:List Ty):Ck:=⟨c.lems,c.tys++l,c.hyps.map fun f=>f.A9 0 l.length⟩
def Ck.AA(c:Ck)(f:Fm):Ck:=⟨c.lems,c.tys,c.hyps++[f]⟩
def Ck.room(c:Ck)(v h:Nat):Int:=if c.tys.length+v>16\/c.hyps.length+h>16 then 3 else 0
def vp(a b:List Int):List Int:=yy (Cw (Cw [] a) b)
def DR(l:List Int)(n:Int):List Int:=(l.filter fun x=>decide (x>=n)).map (·-n)
def Jw:List Int->Bool
 |[]=>false
 |x::_=>x==0
def E4(t:Tm):List Int:=if t.err=0 then JG t else []
def Du(f:Fm)(t:Tm):Fm×Int:=(if y1 f 0 t=0 then f.put 0 t else A7,y1 f 0 t)
def E2(c:Ck)(t:Tm)(k:Int):Int:=if(yz c.tys t).2≠0 then(yz c.tys t).2 else if(yz c.tys t).1.kind≠k then 7 else 0
def uu:List Tm->List Tm×Int
 |[]=>([],0)
 |t::l=>if(xp t 1000).2.2≠0 then([],(xp t 1000).2.2) else if(uu l).2≠0 then([],(uu l).2) else((xp t 1000).1::(uu l).1,0)
mutual
def xw:Fm->Fm×Int
 | .mk k h ts zs=>if(uu ts).2≠0 then(A7,(uu ts).2) else if(y8 zs).2≠0 then(A7,(y8 zs).2) else(.mk k h (uu ts).1 (y8 zs).1,0)
def y8:List Fm->List Fm×Int
 |[]=>([],0)
 |f::l=>if(xw f).2≠0 then([],(xw f).2) else if(y8 l).2≠0 then([],(y8 l).2) else((xw f).1::(y8 l).1,0)
end
mutual
def Ef:Fm->Bool
 | .mk k _ _ zs=>if k=1 then false else if k=2 then(JI zs).getD 0 false||(JI zs).getD 1 false else if k=5 then true else(JI zs).getLastD false
def JI:List Fm->List Bool
 |[]=>[]
 |f::l=>Ef f::JI l
end
abbrev Cz:=Fm×List Int×Int
abbrev Rs:=Ck->Cz
def yd(e:Int):Cz:=(A7,[],e)
def y4(r:Rs)(c:Ck)(f:Fm)(t:Tm):List Int×Int:=
 if(r c).2.2≠0 then([],(r c).2.2) else if(Du f t).2≠0 then([],(Du f t).2) else((r c).2.1,Nk (Du f t).1 (r c).1)
def JX(r:Cz):Cz:=if r.2.2≠0 then yd r.2.2 else if r.1.err≠0 then yd 4 else(r.1,if Ef r.1=true then r.2.1 else [],0)
def KM(c:Ck)(i:Int):Cz:=if i>=c.hyps.length then yd 8 else(c.hyps.getD (c.hyps.length-1-i.toNat) A7,[],0)
def Lm(c:Ck)(i:Int):Cz:=if i>=c.lems.length then yd 9 else(c.lems.getD i.toNat A7,[],0)
def Ke(r0 r1:Rs)(c:Ck):Cz:=if(r0 c).2.2≠0 then yd (r0 c).2.2 else(Cp 2 (r0 c).1 (r1 c).1,vp (r0 c).2.1 (r1 c).2.1,(r1 c).2.2)
def Kw(j:Nat)(r0:Rs)(c:Ck):Cz:=if(r0 c).2.2≠0 then yd (r0 c).2.2 else if(r0 c).1.kind≠2 then yd 10 else((r0 c).1.args.getD j A7,(r0 c).2.1,0)
def LN(f:Fm)(r0:Rs)(c:Ck):Cz:=
 if yq c.tys f≠0 then yd (yq c.tys f) else if c.room 0 1≠0 then yd 3 else(Cp 3 f (r0 (c.AA f)).1,(r0 (c.AA f)).2.1,(r0 (c.AA f)).2.2)
def Lz(r0 r1:Rs)(c:Ck):Cz:=
 if(r0 c).2.2≠0 then yd (r0 c).2.2 else if(r0 c).1.kind≠3 then yd 10 else if(r1 c).2.2≠0 then yd (r1 c).2.2
 else((r0 c).1.args.getD 1 A7,vp (r0 c).2.1 (r1 c).2.1,Nk ((r0 c).1.args.getD 0 A7) (r1 c).1)
def Lb(k:Int)(s:Ty)(r0:Rs)(c:Ck):Cz:=
 if c.room 1 0≠0 then yd 3 else if(r0 (c.below [s])).2.2≠0 then yd (r0 (c.below [s])).2.2
 else if k=8 then(Br 4 s (r0 (c.below [s])).1,DR (r0 (c.below [s])).2.1 1,0)
 else if Jw (r0 (c.below [s])).2.1=true then yd 12 else(Br 6 s (r0 (c.below [s])).1,DR (r0 (c.below [s])).2.1 1,0)
def kI(k u a b:Int):Int:=if k=u then a else b
def kL(k u:Int)(a b:List Int):List Int:=if k=u then a else b
theorem GB{α:Type}{l:List α}{i:Nat}(h:i<l.length)(d:α):l.getD i d=l[i]:=by simp[List.getD,h]
def atR(k:Int)(t:Tm)(r0:Rs)(c:Ck):Cz:=
 if(yz c.tys t).2≠0 then yd (yz c.tys t).2 else if(r0 c).2.2≠0 then yd (r0 c).2.2
 else if(r0 c).1.kind≠kI k 13 6 4 then yd 10 else if(r0 c).1.ty≠(yz c.tys t).1 then yd 7
 else((Du ((r0 c).1.args.getD 0 A7) t).1,kL k 13 (r0 c).2.1 (vp (r0 c).2.1 (E4 t)),(Du ((r0 c).1.args.getD 0 A7) t).2)
def Kt(k:Int)(f:Fm)(t:Tm)(r0:Rs)(c:Ck):Cz:=
 if yq c.tys f≠0 then yd (yq c.tys f) else if f.kind≠kI k 14 7 5 then yd 10
 else if(yz c.tys t).2≠0 then yd (yz c.tys t).2 else if f.ty≠(yz c.tys t).1 then yd 7
 else(f,kL k 14 (y4 r0 c (f.args.getD 0 A7) t).1 (vp (y4 r0 c (f.args.getD 0 A7) t).1 (E4 t)),(y4 r0 c (f.args.getD 0 A7) t).2)
def Ez(f:Fm):Fm×Int:=
 if y7 0 f=0 then(f,0) else if(xw f).2≠0 then(A7,(xw f).2) else if y7 0 (xw f).1≠0 then(A7,6) else((xw f).1,0)
def GV(r1:Rs)(c:Ck)(a:Fm):Cz:=r1 ((c.below [a.ty]).AA (a.args.getD 0 A7))
def KX(k:Int)(r0 r1:Rs)(c:Ck):Cz:=
 if(r0 c).2.2≠0 then yd (r0 c).2.2 else if(r0 c).1.kind≠kI k 15 7 5 then yd 10 else if c.room 1 1≠0 then yd 3
 else if(GV r1 c (r0 c).1).2.2≠0 then yd (GV r1 c (r0 c).1).2.2
 else if(Ez (GV r1 c (r0 c).1).1).2≠0 then yd (Ez (GV r1 c (r0 c).1).1).2
 else if k=15/\Jw (GV r1 c (r0 c).1).2.1=true then yd 12
 else((Ez (GV r1 c (r0 c).1).1).1.A9 1 (-1),vp (r0 c).2.1 (DR (GV r1 c (r0 c).1).2.1 1),0)
def KB(f:Fm)(t:Tm)(r0 r1:Rs)(c:Ck):Cz:=
 if vi (c.tys++[Ag]) f≠0 then yd (vi (c.tys++[Ag]) f) else if E2 c t 1≠0 then yd (E2 c t 1)
 else if(y4 r0 c f zT).2≠0 then yd (y4 r0 c f zT).2 else if c.room 1 1≠0 then yd 3
 else if(y4 r1 ((c.below [Ag]).AA f) (f.A9 1 1) (sT (vT 0))).2≠0 then yd (y4 r1 ((c.below [Ag]).AA f) (f.A9 1 1) (sT (vT 0))).2
 else((Du f t).1,vp (vp (E4 t) (y4 r0 c f zT).1) (DR (y4 r1 ((c.below [Ag]).AA f) (f.A9 1 1) (sT (vT 0))).1 1),(Du f t).2)
def Dv:Tm:= .mk 7 0 (.mk 0 []) []
def Ci:Tm:= .mk 8 0 (.mk 0 []) [vT 1,vT 0]
def K4(f:Fm)(t:Tm)(r0 r1:Rs)(c:Ck):Cz:=
 if vi (c.tys++[An]) f≠0 then yd (vi (c.tys++[An]) f) else if E2 c t 2≠0 then yd (E2 c t 2)
 else if(y4 r0 c f Dv).2≠0 then yd (y4 r0 c f Dv).2 else if c.room 2 1≠0 then yd 3
 else if(y4 r1 ((c.below [Ag,An]).AA (f.A9 1 1)) (f.A9 1 2) Ci).2≠0 then yd (y4 r1 ((c.below [Ag,An]).AA (f.A9 1 1)) (f.A9 1 2) Ci).2
 else((Du f t).1,vp (vp (E4 t) (y4 r0 c f Dv).1) (DR (y4 r1 ((c.below [Ag,An]).AA (f.A9 1 1)) (f.A9 1 2) Ci).1 2),(Du f t).2)
def JJ(t:Tm)(c:Ck):Cz:=(Bf t t,[],E2 c t 1)
def Kj(f:Fm)(r0 r1:Rs)(c:Ck):Cz:=
 if vi (c.tys++[Ag]) f≠0 then yd (vi (c.tys++[Ag]) f) else if(r0 c).2.2≠0 then yd (r0 c).2.2 else if(r0 c).1.kind≠1 then yd 10
 else if(y4 r1 c f ((r0 c).1.terms.getD 0 A4)).2≠0 then yd (y4 r1 c f ((r0 c).1.terms.getD 0 A4)).2
 else((Du f ((r0 c).1.terms.getD 1 A4)).1,(y4 r1 c f ((r0 c).1.terms.getD 0 A4)).1,(Du f ((r0 c).1.terms.getD 1 A4)).2)
def ED:Tm:=A0 (vT 1) (vT 0)
def Lo(a:Fm):Fm×Int:=Du (((a.args.getD 0 A7).args.getD 0 A7).A9 2 1) ED
def Li(a:Fm):Ty:=yv a.ty (a.args.getD 0 A7).ty
def LV(r0:Rs)(c:Ck):Cz:=
 if(r0 c).2.2≠0 then yd (r0 c).2.2 else if(r0 c).1.kind≠4\/((r0 c).1.args.getD 0 A7).kind≠5 then yd 10 else if(Li (r0 c).1).err≠0 then yd 4
 else(Br 5 (Li (r0 c).1) (Br 4 (r0 c).1.ty (Lo (r0 c).1).1),(r0 c).2.1,(Lo (r0 c).1).2)
def G8(k i:Int)(s:Ty)(ts:List Tm)(fs:List Fm)(rs:List Rs)(c:Ck):Cz:=
 if k=1 then KM c i else if k=2 then Lm c i else if k=3 then Ke (rs.getD 0 fun _=>yd 0) (rs.getD 1 fun _=>yd 0) c
 else if k=4\/k=5 then Kw (k-4).toNat (rs.getD 0 fun _=>yd 0) c
 else if k=6 then LN (fs.getD 0 A7) (rs.getD 0 fun _=>yd 0) c
 else if k=7 then Lz (rs.getD 0 fun _=>yd 0) (rs.getD 1 fun _=>yd 0) c
 else if k=8\/k=12 then Lb k s (rs.getD 0 fun _=>yd 0) c
 else if k=9\/k=13 then atR k (ts.getD 0 A4) (rs.getD 0 fun _=>yd 0) c
 else if k=10\/k=14 then Kt k (fs.getD 0 A7) (ts.getD 0 A4) (rs.getD 0 fun _=>yd 0) c
 else if k=11\/k=15 then KX k (rs.getD 0 fun _=>yd 0) (rs.getD 1 fun _=>yd 0) c
 else if k=16 then KB (fs.getD 0 A7) (ts.getD 0 A4) (rs.getD 0 fun _=>yd 0) (rs.getD 1 fun _=>yd 0) c
 else if k=17 then K4 (fs.getD 0 A7) (ts.getD 0 A4) (rs.getD 0 fun _=>yd 0) (rs.getD 1 fun _=>yd 0) c
 else if k=18 then JJ (ts.getD 0 A4) c
 else if k=19 then Kj (fs.getD 0 A7) (rs.getD 0 fun _=>yd 0) (rs.getD 1 fun _=>yd 0) c
 else LV (rs.getD 0 fun _=>yd 0) c
mutual
def Cn:Pf->Rs
 | .mk k i s ts fs zs=>fun c=>JX (G8 k i s ts fs (M7 zs) c)
def M7:List Pf->List Rs
 |[]=>[]
 |p::l=>Cn p::M7 l
end
theorem Vr:∀l:List Pf,M7 l=l.map Cn
 |[]=>rfl
 |p::l=>by rw[M7,Vr l];rfl
theorem QZ(p:Pf)(c:Ck):Cn p c=JX (G8 p.kind p.index p.ty p.terms p.Ac (p.args.map Cn) c):=by cases p;simp only[Cn,Vr];rfl
theorem Vq:∀l:List Fm,JI l=l.map Ef
 |[]=>rfl
 |p::l=>by rw[JI,Vq l];rfl
theorem Ot(f:Fm):Ef f=if f.kind=1 then false else if f.kind=2 then(f.args.map Ef).getD 0 false||(f.args.map Ef).getD 1 false else if f.kind=5 then true else(f.args.map Ef).getLastD false:=by
 cases f;simp only[Ef,Vq];rfl
theorem Uf(f:Fm):xw f=if(uu f.terms).2≠0 then(A7,(uu f.terms).2) else if(y8 f.args).2≠0 then(A7,(y8 f.args).2) else(.mk f.kind f.ty (uu f.terms).1 (y8 f.args).1,0):=by
 cases f;simp only[xw];rfl
theorem wj{c:Ck}{v h:Nat}(hr:c.room v h=0):c.tys.length+v<=16/\c.hyps.length+h<=16:=by
 unfold Ck.room at hr;split at hr
 .cases hr
 .rename_i hc;omega
theorem KG{c:Ck}{v h:Nat}(hr:c.room v h≠0):c.room v h=3:=by unfold Ck.room at*;split<;>simp_all
theorem S5:∀{g:List Ty},(∀x∈g,x.err=0)->vh g=0
 |[],_=>rfl
 |x::l,h=>by
  simp only[vh];rw[if_neg (by simp[h x (by simp)])];exact S5 fun y hy=>h y (by simp[hy])
theorem Zul{g:List Ty}(hl:g.length<=16)(h:∀x∈g,x.err=0):xd g=0:=by
 unfold xd;rw[if_neg (by omega)];exact S5 h
theorem KL{α:Type}{f:α->Int}:∀{l:List α},wi f l=0->∀x∈l,f x=0
 |[],_,x,h=>by cases h
 |y::l,h,x,hx=>by
  simp only[wi] at h;by_cases h1:f y≠0
  .rw[if_pos h1] at h;exact absurd h h1
  .rw[if_neg h1] at h;rcases WE.1 hx with rfl|hx
   .exact Ws.1 h1
   .exact KL h x hx
theorem Qz{t:Ty}(he:t.err=0)(hk:t.kind=1):t=Ag:=by
 have h:=((Ty.Ad t).1 he).1;obtain⟨k,zs⟩:=t;rw[Ty.Al,Wk] at h;have h1:=h.1;simp only[Ty.kind,Ty.args] at hk h1;subst hk;have h2:zs.length=0:=by simpa[DE] using h1
 rw[WB h2];rfl
theorem SC{t:Ty}(he:t.err=0)(hk:t.kind=2):t=An:=by
 have h:=((Ty.Ad t).1 he).1;obtain⟨k,zs⟩:=t;rw[Ty.Al,Wk] at h;have h1:=h.1;simp only[Ty.kind,Ty.args] at hk h1;subst hk;have h2:zs.length=0:=by simpa[DE] using h1
 rw[WB h2];rfl
theorem TU{g:List Ty}{t:Tm}(hg:∀x∈g,x.err=0)(h:(Ec g t).2=0):t.err=0/\t.inf g=((Ec g t).1,0)/\(Ec g t).1.err=0:=by
 unfold Ec at h ⊢;by_cases h1:t.err≠0
 .rw[if_pos h1] at h;exact absurd h h1
 .rw[if_neg h1] at h ⊢;have h1':=Ws.1 h1;exact⟨h1',by rw[<-h],Tm.DP t g ((Tm.Ad t).1 h1').1 hg h⟩
theorem Kk{g:List Ty}{t:Tm}(h:(yz g t).2=0):xd g=0/\t.err=0/\t.inf g=((yz g t).1,0)/\(yz g t).1.err=0:=by
 unfold yz at h ⊢;by_cases h1:xd g≠0
 .rw[if_pos h1] at h;exact absurd h h1
 .rw[if_neg h1] at h ⊢;have h1':=Ws.1 h1;exact⟨h1',TU (vr h1').2 h⟩
theorem Ydj(f:Fm):∀g:List Ty,(∀x∈g,x.err=0)->f.shape=true->f.Ei g=0->f.Bg g:=by
 induction f using Fm.ind with
 |h f ih=>
  intro g hg hs h;rw[Fm.Fc] at h;by_cases h1:wi (tE g) f.terms≠0
  .rw[if_pos h1] at h;exact absurd h h1
  .rw[if_neg h1] at h;rw[Fm.Bn];refine⟨fun t ht=> ?_,fun x hx=> ?_⟩
   .have h2:=KL (Ws.1 h1) t ht;unfold tE at h2;by_cases h3:(Ec g t).2≠0
    .rw[if_pos h3] at h2;exact absurd h2 h3
    .rw[if_neg h3] at h2;obtain⟨a,b,c⟩:=TU hg (Ws.1 h3);by_cases h4:(Ec g t).1.kind≠1
     .rw[if_pos h4] at h2;cases h2
     .rw[b,Qz c (Ws.1 h4)]
   .have h2:=KL h x hx;refine ih x hx _ ?_ (zv hs hx) h2;by_cases hq:xg f.kind=true
    .rw[G1 hq];intro y hy;rcases WH.1 hy with hy|hy
     .exact hg y hy
     .simp only[WN] at hy;subst hy;have hk:=Bj.1 hq;rcases P5 hs with⟨h5,_⟩|⟨h5,_⟩|⟨_,_,h6⟩
      .omega
      .omega
      .exact h6
    .rw[Hg hq];exact hg
theorem u6{g:List Ty}{f:Fm}(hg:∀x∈g,x.err=0)(h:vi g f=0):f.err=0/\f.Bg g:=by
 unfold vi at h;by_cases h1:f.err≠0
 .rw[if_pos h1] at h;exact absurd h h1
 .rw[if_neg h1] at h;have h1':=Ws.1 h1;exact⟨h1',Ydj f g hg ((Fm.Ad f).1 h1').1 h⟩
theorem xo{g:List Ty}{f:Fm}(h:yq g f=0):f.err=0/\f.Bg g:=by
 unfold yq at h;by_cases h1:xd g≠0
 .rw[if_pos h1] at h;exact absurd h h1
 .rw[if_neg h1] at h;exact u6 (vr (Ws.1 h1)).2 h
theorem Vn{c:Ck}{t:Tm}{k:Int}(h:E2 c t k=0):t.err=0/\t.inf c.tys=((yz c.tys t).1,0)/\(yz c.tys t).1.err=0/\(yz c.tys t).1.kind=k:=by
 unfold E2 at h;by_cases h1:(yz c.tys t).2≠0
 .rw[if_pos h1] at h;exact absurd h h1
 .rw[if_neg h1] at h;obtain⟨_,a,b,d⟩:=Kk (Ws.1 h1);refine⟨a,b,d,?_⟩;by_cases h2:(yz c.tys t).1.kind≠k
  .rw[if_pos h2] at h;cases h
  .exact Ws.1 h2
theorem UO(t:Tm):∀(g:List Ty) (b:Int),t.shape=true->(t.inf g).2=0->∀p∈t.vars b,p.1-p.2<g.length-b:=by
 induction t using Tm.ind with
 |h t ih=>
  intro g b hs h p hp;have hargs:=zg hs;by_cases k1:t.kind=1
  .rw[vy hs k1] at hp;simp only[WN] at hp;subst hp;rw[Tm.A1,if_pos k1] at h;by_cases hi:t.index>=g.length
   .rw[if_pos hi] at h;cases h
   .simp only;omega
  .rw[IW k1] at hp;obtain⟨x,hx,hp⟩:=WL.1 hp;by_cases k2:t.kind=2
   .have e:up t.kind b=b+1:=by simp[up,k2]
    rw[e] at hp;rw[Tm.A1,if_neg k1,if_pos k2] at h;have h0:(Tm.AK (g++[t.ty]) t.args).2=0:=by
     by_cases h1:(Tm.AK (g++[t.ty]) t.args).2≠0
     .rw[if_pos h1] at h;exact h
     .exact Ws.1 h1
    have:=ih x hx (g++[t.ty]) (b+1) (hargs x hx) (Tm.CJ _ _ h0 x hx) p hp;simp only[WD,Wy,W3] at this;omega
   .have e:up t.kind b=b:=by simp[up,k2]
    rw[e] at hp;exact ih x hx g b (hargs x hx) ((Jf (T:=(t.inf g).1) k1 k2 (by rw[<-h])).1 x hx) p hp
def A5(n:Nat)(l:List Int):Prop:=l.Nodup/\∀u∈l,0<=u/\u<n
theorem A5.nil(n:Nat):A5 n []:=⟨Yx,fun u h=>by cases h⟩
theorem A5.len{n:Nat}{l:List Int}(h:A5 n l):l.length<=n:=(Zxj n l h.1 h.2).1
theorem C2{a b:List Int}{x:Int}:x∈vp a b↔x∈a\/x∈b:=by
 rw[vp,(wc _).mem_iff,Nc,Nc];simp
theorem A5.union{n:Nat}{a b:List Int}(ha:∀u∈a,0<=u/\u<(n:Int))(hb:∀u∈b,0<=u/\u<(n:Int)):A5 n (vp a b):=by
 refine⟨?_,fun u hu=> ?_⟩
 .rw[vp,(wc _).nodup_iff];exact Ju (Ju Yx)
 .rcases C2.1 hu with h|h
  .exact ha u h
  .exact hb u h
theorem Gx{l:List Int}{n x:Int}:x∈DR l n↔0<=x/\x+n∈l:=by
 simp only[DR,WA,XP,decide_eq_true_eq];constructor
 .rintro ⟨y,⟨h1,h2⟩,rfl⟩;exact⟨by omega,by rw[Int.sub_add_cancel];exact h1⟩
 .rintro ⟨h1,h2⟩;exact⟨x+n,⟨h2,by omega⟩,by omega⟩
theorem A5.out{n m:Nat}{l:List Int}(h:A5 (n+m) l):A5 n (DR l m):=by
 refine⟨?_,fun u hu=> ?_⟩
 .have h1:(l.filter fun x=>decide (x>=(m:Int))).Nodup:=h.1.filter _;unfold DR;rw[YR,List.pairwise_map];exact(YR.1 h1).imp fun hne e=>hne (by omega)
 .obtain ⟨h1,h2⟩:=Gx.1 hu;have:=h.2 _ h2;exact⟨h1,by omega⟩
theorem v3{t:Tm}{g:List Ty}{T:Ty}(h:t.inf g=(T,0)):A5 g.length (E4 t):=by
 unfold E4;by_cases he:t.err=0
 .rw[if_pos he];refine⟨Zoi t,fun u hu=> ?_⟩;obtain⟨h0,h1⟩:=F1.1 hu;refine⟨h0,?_⟩;obtain⟨p,hp,e⟩:=Ej.2 h1;have:=UO t g 0 ((Tm.Ad t).1 he).1 (by rw[h]) p hp;omega
 .rw[if_neg he];exact .nil _
theorem Zzk{t:Tm}{g:List Ty}(m:List Ty)(hs:t.shape=true)(h:(t.inf g).2=0):t.inf (m++g)=t.inf g:=by
 have h1:=Og t [] m g g.length 0 hs (by omega);rw[WW,WW] at h1;rw[<-h1];congr 1;refine(Yiz t 0 hs fun p hp=> ?_).symm;have:=UO t g 0 hs h p hp;rw[Kg,if_neg (by omega)]
theorem Zt9(f:Fm):∀(g m:List Ty),f.shape=true->f.Bg g->f.Bg (m++g):=by
 induction f using Fm.ind with
 |h f ih=>
  intro g m hs hok;rw[Fm.Bn] at hok ⊢;refine⟨fun t ht=> ?_,fun x hx=> ?_⟩
  .have:=hok.1 t ht;rw[Zzk m (yg hs ht) (by rw[this])];exact this
  .have:=ih x hx _ m (zv hs hx) (hok.2 x hx);by_cases hq:xg f.kind=true
   .rw[G1 hq] at this ⊢;rw[Wr];exact this
   .rw[Hg hq] at this ⊢;exact this
theorem vf{f x:Fm}(hf:f.err=0)(hx:x∈f.args):x.err=0:=by
 have h:=(Fm.Ad f).1 hf;have h1:=za Fm.size hx;have h2:=f.size_eq;exact(Fm.Ad x).2 ⟨zv h.1 hx,by omega⟩
theorem RK{f:Fm}{t:Tm}(hf:f.err=0)(ht:t∈f.terms):t.err=0:=by
 have h:=(Fm.Ad f).1 hf;have h1:=za Tm.size ht;have h2:=f.size_eq;exact(Tm.Ad t).2 ⟨yg h.1 ht,by omega⟩
theorem Ks{f:Fm}(hs:f.shape=true)(hk:f.kind=2\/f.kind=3):∃a b,f=Cp f.kind a b:=by
 rw[Fm.Al,Wk,Wk] at hs;have h1:=hs.1.1;unfold Fm.head at h1;rw[if_neg (by omega),if_pos hk] at h1;simp only[Wk,beq_iff_eq] at h1;clear hs;obtain⟨k,h,ts,zs⟩:=f;simp only[Fm.Ai,Fm.Ah,Fm.Ae] at h1 hk;have e1:ts=[]:=WB h1.1.2
 match zs,h1 with
 |[a,b],h1=>
  refine⟨a,b,?_⟩;have e2:h= .mk 0 []:=Ty.DK (by simp_all);rw[e1,e2];rfl
 |[],h1=>simp at h1
 |[a],h1=>simp at h1
 |a::b::c::l,h1=>simp at h1
theorem GX{f:Fm}(hs:f.shape=true)(hk:4<=f.kind/\f.kind<=7):∃a,f=Br f.kind f.ty a:=by
 rw[Fm.Al,Wk,Wk] at hs;have h1:=hs.1.1;unfold Fm.head at h1;rw[if_neg (by omega),if_neg (by omega),if_pos (by omega)] at h1;simp only[Wk,beq_iff_eq] at h1;clear hs;obtain⟨k,h,ts,zs⟩:=f;simp only[Fm.Ai,Fm.Ah,Fm.Ae] at h1 hk;have e1:ts=[]:=WB h1.1.2
 match zs,h1 with
 |[a],h1=>exact⟨a,by rw[e1];rfl⟩
 |[],h1=>simp at h1
 |a::b::l,h1=>simp at h1
theorem Py{f:Fm}(hs:f.shape=true)(hk:f.kind=1):∃a b,f=Bf a b:=by
 rw[Fm.Al,Wk,Wk] at hs;have h1:=hs.1.1;unfold Fm.head at h1;rw[if_pos hk] at h1;simp only[Wk,beq_iff_eq] at h1;clear hs;obtain⟨k,h,ts,zs⟩:=f;simp only[Fm.Ai,Fm.Ah,Fm.Ae] at h1 hk;have e1:zs=[]:=WB h1.2
 match ts,h1 with
 |[a,b],h1=>
  have e2:h= .mk 0 []:=Ty.DK (by simp_all);exact⟨a,b,by rw[e1,e2,hk];rfl⟩
 |[],h1=>simp at h1
 |[a],h1=>simp at h1
 |a::b::c::l,h1=>simp at h1
theorem HE{f:Fm}(hf:f.shape=true)(hk:4<=f.kind/\f.kind<=7):f.ty.err=0:=by
 rcases P5 hf with⟨h,_⟩|⟨h,_⟩|⟨_,_,h⟩
 .omega
 .omega
 .exact h
theorem V0{k:Int}{a b:Fm}{g:List Ty}(hk:k=2\/k=3)(h:(Cp k a b).Bg g):a.Bg g/\b.Bg g:=by
 rw[Fm.Bn] at h;have e:Dx g (Cp k a b)=g:=Hg (by show ¬xg k=true;rw[Bj];omega);rw[e] at h;exact⟨h.2 a (by simp[Cp]),h.2 b (by simp[Cp])⟩
theorem I3{k:Int}{s:Ty}{a:Fm}{g:List Ty}(hk:4<=k/\k<=7)(h:(Br k s a).Bg g):a.Bg (g++[s]):=by
 rw[Fm.Bn] at h;have e:Dx g (Br k s a)=g++[s]:=G1 (Bj.2 hk);rw[e] at h;exact h.2 a (by simp[Br])
theorem CI{a b:Tm}{g:List Ty}:(Bf a b).Bg g↔a.inf g=(Ag,0)/\b.inf g=(Ag,0):=by
 rw[Fm.Bn];simp[Bf]
theorem VR{k:Int}{a b:Fm}(hk:k=2\/k=3)(ha:a.shape=true)(hb:b.shape=true):(Cp k a b).shape=true:=by
 rw[Fm.Al];rcases hk with rfl|rfl<;>simp[Cp,Fm.head,ha,hb,Ty.BL,Ty.kind,Ty.args]
theorem v9{k:Int}{s:Ty}{a:Fm}(hk:4<=k/\k<=7)(hs:s.err=0)(ha:a.shape=true):(Br k s a).shape=true:=by
 rw[Fm.Al];have h1:=(Ty.Ad s).1 hs;have h2:s.ok=true:=JA h1.1 h1.2;have:k=4\/k=5\/k=6\/k=7:=by omega
 rcases this with rfl|rfl|rfl|rfl<;>simp[Br,Fm.head,ha,h2]
theorem L7(k:Int)(a b:Fm):(Cp k a b).size=1+a.size+b.size:=by rw[Fm.size_eq];simp[Cp];omega
theorem JF(k:Int)(s:Ty)(a:Fm):(Br k s a).size=1+a.size:=by rw[Fm.size_eq];simp[Br]
theorem Ia{f:Fm}{g h:List Ty}(m:List Ty)(hf:f.shape=true)(hok:f.Bg (g++h)):(f.A9 h.length m.length).Bg (g++m++h):=by
 have:=Zzb g m h.length f h 0 (by omega) hf hok;exact this
theorem LQ{f:Fm}{t:Tm}{g:List Ty}{σ:Ty}(hf:f.Bg (g++[σ]))(ht:t.inf g=(σ,0))(h:(Du f t).2=0):(Du f t).1.err=0/\(Du f t).1.Bg g:=by
 have h':y1 f 0 t=0:=h;have e:(Du f t).1=f.put 0 t:=if_pos h';obtain⟨h1,h2,_⟩:=PW h';rw[e];refine⟨Zzc (by omega) h',?_⟩;have h3:=Pe 0 t g σ ((Tm.Ad t).1 h2).1 ht f [] 0 rfl ((Fm.Ad f).1 h1).1 (by simpa using hf);rw[WR] at h3;exact h3
structure Ck.ok (c:Ck):Prop where
 ctx:xd c.tys=0
 nh:c.hyps.length<=16
 nl:c.lems.length<=32
 hyps:∀f∈c.hyps,f.err=0/\f.Bg c.tys
 lems:∀f∈c.lems,f.err=0/\f.Bg []
theorem Ck.ok.len{c:Ck}(h:c.ok):c.tys.length<=16:=(vr h.ctx).1
theorem Ck.ok.all{c:Ck}(h:c.ok):∀x∈c.tys,x.err=0:=(vr h.ctx).2
theorem Ck.ok.below{c:Ck}(h:c.ok){l:List Ty}(hl:c.tys.length+l.length<=16)(he:∀x∈l,x.err=0):(c.below l).ok:=by
 refine⟨Zul (by simp[Ck.below];omega) fun x hx=> ?_,by simp[Ck.below];exact h.nh,h.nl,fun f hf=> ?_,h.lems⟩
 .rcases WH.1 hx with hx|hx
  .exact h.all x hx
  .exact he x hx
 .obtain ⟨y,hy,rfl⟩:=WA.1 hf;obtain⟨h1,h2⟩:=h.hyps y hy;refine⟨LO h1 (by omega),?_⟩;have h3:=Ia (g:=c.tys) (h:=[]) l ((Fm.Ad y).1 h1).1 (by simpa using h2);simpa[Ck.below] using h3
theorem Ck.ok.AA{c:Ck}(h:c.ok){f:Fm}(hl:c.hyps.length+1<=16)(hf:f.err=0)(hok:f.Bg c.tys):(c.AA f).ok:=by
 refine⟨h.ctx,by simp[Ck.AA];omega,h.nl,fun y hy=> ?_,h.lems⟩;rcases WH.1 hy with hy|hy
 .exact h.hyps y hy
 .simp only[WN] at hy;subst hy;exact⟨hf,hok⟩
def vg(c:Ck)(r:Cz):Prop:=r.2.2=0->r.1.shape=true/\r.1.size<=20000000/\r.1.Bg c.tys/\A5 c.tys.length r.2.1
def FF(c:Ck)(r:Cz):Prop:=(r.2.2=0->r.1.err=0/\r.1.Bg c.tys/\A5 c.tys.length r.2.1)/\(r.2.2≠0->r=yd r.2.2)
theorem zq(c:Ck){e:Int}(he:e≠0):vg c (yd e):=fun h=>absurd h he
theorem Yck{c:Ck}{r:Cz}(h:vg c r):FF c (JX r):=by
 unfold JX;by_cases h1:r.2.2≠0
 .rw[if_pos h1];exact⟨fun h=>absurd h h1,fun _=>rfl⟩
 .rw[if_neg h1];by_cases h2:r.1.err≠0
  .rw[if_pos h2];exact⟨fun h=>absurd h (by decide),fun _=>rfl⟩
  .rw[if_neg h2];obtain⟨_,_,h4,h5⟩:=h (Ws.1 h1);refine⟨fun _=>⟨Ws.1 h2,h4,?_⟩,fun h=>absurd rfl h⟩;simp only;split
   .exact h5
   .exact .nil _
def B8(r:Rs):Prop:=∀c,c.ok->FF c (r c)
theorem B8.good{r:Rs}(h:B8 r){c:Ck}(hc:c.ok)(he:(r c).2.2=0):(r c).1.err=0/\(r c).1.Bg c.tys/\A5 c.tys.length (r c).2.1:=(h c hc).1 he
theorem yi{f:Fm}(h:f.err=0):f.shape=true/\f.size<=20000000:=by
 have:=(Fm.Ad f).1 h;exact⟨this.1,by omega⟩
theorem V1{c:Ck}(hc:c.ok){i:Int}(hi:0<=i):vg c (KM c i):=by
 unfold KM;split
 .exact zq c (by decide)
 .rename_i h;intro _;have hlt:c.hyps.length-1-i.toNat<c.hyps.length:=by omega
  simp only;rw[GB hlt];obtain⟨h1,h2⟩:=hc.hyps _ (Wi hlt);exact⟨(yi h1).1,(yi h1).2,h2,.nil _⟩
theorem VP{c:Ck}(hc:c.ok){i:Int}(hi:0<=i):vg c (Lm c i):=by
 unfold Lm;split
 .exact zq c (by decide)
 .rename_i h;intro _;have hlt:i.toNat<c.lems.length:=by omega
  simp only;rw[GB hlt];obtain⟨h1,h2⟩:=hc.lems _ (Wi hlt);have h3:=Zt9 _ [] c.tys (yi h1).1 h2;rw[WR] at h3;exact⟨(yi h1).1,(yi h1).2,h3,.nil _⟩
theorem VI{r0 r1:Rs}(h0:B8 r0)(h1:B8 r1){c:Ck}(hc:c.ok):vg c (Ke r0 r1 c):=by
 unfold Ke;split
 .rename_i h;exact zq c h
 .rename_i h;intro he;obtain⟨a1,a2,a3⟩:=h0.good hc (Ws.1 h);obtain⟨b1,b2,b3⟩:=h1.good hc he;have s1:=(Fm.Ad _).1 a1;have s2:=(Fm.Ad _).1 b1;exact⟨VR (.inl rfl) s1.1 s2.1,by rw[L7];omega,NV (.inl rfl) a2 b2,.union a3.2 b3.2⟩
theorem Nh{r0:Rs}(h0:B8 r0){c:Ck}(hc:c.ok){j:Nat}(hj:j<2):vg c (Kw j r0 c):=by
 unfold Kw;split
 .rename_i h;exact zq c h
 rename_i h;split
 .exact zq c (by decide)
 rename_i h2;intro _;obtain⟨a1,a2,a3⟩:=h0.good hc (Ws.1 h);have s1:=(Fm.Ad _).1 a1;obtain⟨x,y,e⟩:=Ks s1.1 (.inl (Ws.1 h2));have hk:(r0 c).1.kind=2:=Ws.1 h2;rw[hk] at e;rw[e] at a2;obtain⟨o1,o2⟩:=V0 (.inl rfl) a2;have e1:=vf a1 (x:=x) (by rw[e];simp[Cp]);have e2:=vf a1 (x:=y) (by rw[e];simp[Cp]);have:(r0 c).1.args=[x,y]:=by rw[e];rfl
 simp only[this];rcases j with _|_|j
 .exact ⟨(yi e1).1,(yi e1).2,o1,a3⟩
 .exact ⟨(yi e2).1,(yi e2).2,o2,a3⟩
 .omega
theorem RM{r0:Rs}(h0:B8 r0){f:Fm}{c:Ck}(hc:c.ok):vg c (LN f r0 c):=by
 unfold LN;split
 .rename_i h;exact zq c h
 rename_i h;split
 .exact zq c (by decide)
 rename_i h2;intro he;obtain⟨f1,f2⟩:=xo (Ws.1 h);have hr:=wj (Ws.1 h2);obtain⟨a1,a2,a3⟩:=h0.good (hc.AA (f:=f) hr.2 f1 f2) he;have s1:=(Fm.Ad _).1 a1;have s2:=(Fm.Ad _).1 f1;exact⟨VR (.inr rfl) s2.1 s1.1,by rw[L7];omega,NV (.inr rfl) f2 a2,a3⟩
theorem SI{r0 r1:Rs}(h0:B8 r0)(h1:B8 r1){c:Ck}(hc:c.ok):vg c (Lz r0 r1 c):=by
 unfold Lz;split
 .rename_i h;exact zq c h
 rename_i h;split
 .exact zq c (by decide)
 rename_i h2;split
 .rename_i h;exact zq c h
 rename_i h3;intro _;obtain⟨a1,a2,a3⟩:=h0.good hc (Ws.1 h);obtain⟨b1,b2,b3⟩:=h1.good hc (Ws.1 h3);have s1:=(Fm.Ad _).1 a1;have hk:(r0 c).1.kind=3:=Ws.1 h2;obtain⟨x,y,e⟩:=Ks s1.1 (.inr hk);rw[hk] at e;rw[e] at a2;obtain⟨o1,o2⟩:=V0 (.inr rfl) a2;have e2:=vf a1 (x:=y) (by rw[e];simp[Cp]);have:(r0 c).1.args=[x,y]:=by rw[e];rfl
 simp only[this];exact⟨(yi e2).1,(yi e2).2,o2,.union a3.2 b3.2⟩
theorem MR{r0:Rs}(h0:B8 r0){k:Int}{s:Ty}(hs:s.err=0){c:Ck}(hc:c.ok):vg c (Lb k s r0 c):=by
 unfold Lb;split
 .exact zq c (by decide)
 rename_i h;have hr:=wj (Ws.1 h);have hb:=hc.below (l:=[s]) hr.1 (by simpa using hs);split
 .rename_i h;exact zq c h
 rename_i h2;obtain⟨a1,a2,a3⟩:=h0.good hb (Ws.1 h2);have s1:=(Fm.Ad _).1 a1;have hu:A5 c.tys.length (DR (r0 (c.below [s])).2.1 1):=by
  have:=A5.out (n:=c.tys.length) (m:=1) (l:=(r0 (c.below [s])).2.1) (by simpa[Ck.below] using a3);exact this
 split
 .intro _;exact⟨v9 (by omega) hs s1.1,by rw[JF];omega,HF (by omega) a2,hu⟩
 split
 .exact zq c (by decide)
 .intro _;exact⟨v9 (by omega) hs s1.1,by rw[JF];omega,HF (by omega) a2,hu⟩
theorem NM{r0:Rs}(h0:B8 r0){k:Int}{t:Tm}{c:Ck}(hc:c.ok):vg c (atR k t r0 c):=by
 unfold atR;split
 .rename_i h;exact zq c h
 rename_i h;split
 .rename_i h;exact zq c h
 rename_i h2;split
 .exact zq c (by decide)
 rename_i h3;split
 .exact zq c (by decide)
 rename_i h4;intro he;obtain⟨_,t1,t2,_⟩:=Kk (Ws.1 h);obtain⟨a1,a2,a3⟩:=h0.good hc (Ws.1 h2);have s1:=(Fm.Ad _).1 a1;have hk:(r0 c).1.kind=kI k 13 6 4:=Ws.1 h3;have hk':4<=(r0 c).1.kind/\(r0 c).1.kind<=7:=by rw[hk,kI];split<;>omega
 obtain⟨x,e⟩:=GX s1.1 hk';rw[e] at a2;have o1:=I3 hk' a2;have hx:(r0 c).1.args.getD 0 A7=x:=by rw[e];rfl
 rw[hx] at he ⊢;have hty:(r0 c).1.ty=(yz c.tys t).1:=Ws.1 h4;rw[hty] at o1;obtain⟨p1,p2⟩:=LQ o1 t2 he;refine⟨(yi p1).1,(yi p1).2,p2,?_⟩;simp only[kL];split
 .exact a3
 .exact .union a3.2 (v3 t2).2
theorem wq{r0:Rs}(h0:B8 r0){c:Ck}(hc:c.ok)(f:Fm)(t:Tm):A5 c.tys.length (y4 r0 c f t).1:=by
 unfold y4;split
 .exact .nil _
 rename_i h;split
 .exact .nil _
 .exact (h0.good hc (Ws.1 h)).2.2
theorem Mv{r0:Rs}(h0:B8 r0){k:Int}{f:Fm}{t:Tm}{c:Ck}(hc:c.ok):vg c (Kt k f t r0 c):=by
 unfold Kt;split
 .rename_i h;exact zq c h
 rename_i h;split
 .exact zq c (by decide)
 split
 .rename_i h;exact zq c h
 rename_i h3;split
 .exact zq c (by decide)
 intro _;obtain⟨f1,f2⟩:=xo (Ws.1 h);obtain⟨_,t1,t2,_⟩:=Kk (Ws.1 h3);have hp:=wq h0 hc (f.args.getD 0 A7) t;refine⟨(yi f1).1,(yi f1).2,f2,?_⟩;simp only[kL];split
 .exact hp
 .exact .union hp.2 (v3 t2).2
theorem Uk:∀(l:List Tm),(uu l).2=0->(uu l).1.length=l.length/\(∀t∈(uu l).1,t.err=0)/\∀(g:List Ty) (T:Ty),(∀t∈l,t.inf g=(T,0))->∀t∈(uu l).1,t.inf g=(T,0)
 |[],_=>⟨rfl,fun t h=>absurd h (WS),fun g T _ t h=>absurd h (WS)⟩
 |x::l,h=>by
  simp only[uu] at h ⊢;by_cases h1:(xp x 1000).2.2≠0
  .rw[if_pos h1] at h;exact absurd h h1
  .rw[if_neg h1] at h ⊢;by_cases h2:(uu l).2≠0
   .rw[if_pos h2] at h;exact absurd h h2
   .rw[if_neg h2];obtain⟨a1,a2,a3⟩:=Uk l (Ws.1 h2);obtain⟨_,b1,_,_,b2⟩:=Zz2 (Ws.1 h1);refine⟨by simp[a1],fun t ht=> ?_,fun g T hl t ht=> ?_⟩
    .rcases WE.1 ht with rfl|ht
     .exact b1
     .exact a2 t ht
    .rcases WE.1 ht with rfl|ht
     .exact b2 g T (hl x (by simp))
     .exact a3 g T (fun t ht=>hl t (by simp[ht])) t ht
theorem TY(P:Fm->Fm->Prop):∀(l:List Fm),(∀f∈l,(xw f).2=0->P f (xw f).1)->(y8 l).2=0->(y8 l).1.length=l.length/\∀(i:Nat) (h1:i<l.length) (h2:i<(y8 l).1.length),P l[i] (y8 l).1[i]
 |[],_,_=>⟨rfl,fun i h=>by simp at h⟩
 |x::l,hP,h=>by
  have h0:=h;simp only[y8] at h0;by_cases h1:(xw x).2≠0
  .rw[if_pos h1] at h0;exact absurd h0 h1
  .rw[if_neg h1] at h0;by_cases h2:(y8 l).2≠0
   .rw[if_pos h2] at h0;exact absurd h0 h2
   .have e:y8 (x::l)=((xw x).1::(y8 l).1,0):=by simp only[y8];rw[if_neg h1,if_neg h2]
    obtain⟨a1,a2⟩:=TY P l (fun f hf=>hP f (by simp[hf])) (Ws.1 h2);generalize y8 (x::l)=q at h e ⊢;subst e;refine⟨by simp[a1],fun i hi hj=> ?_⟩;cases i with
    |zero=>exact hP x (by simp) (Ws.1 h1)
    |succ i=>exact a2 i (by simpa using hi) (by simpa using hj)
theorem OO{α:Type}{f:α->Nat}{C:Nat}:∀(l:List α),(∀x∈l,f x<=C)->(l.map f).sum<=C*l.length
 |[],_=>by simp
 |x::l,h=>by
  have h1:=OO l fun y hy=>h y (by simp[hy]);have h2:=h x (by simp);simp only[Wn,Wt,Wy,Nat.mul_add,ZR];omega
theorem S6(f:Fm):(xw f).2=0->f.shape=true->(xw f).1.kind=f.kind/\(xw f).1.shape=true/\(xw f).1.size<=4096*f.size/\∀g,f.Bg g->(xw f).1.Bg g:=by
 induction f using Fm.ind with
 |h f ih=>
  intro h hs;rw[Uf] at h ⊢;by_cases h1:(uu f.terms).2≠0
  .rw[if_pos h1] at h;exact absurd h h1
  rw[if_neg h1] at h ⊢;by_cases h2:(y8 f.args).2≠0
  .rw[if_pos h2] at h;exact absurd h h2
  rw[if_neg h2];obtain⟨a1,a2,a3⟩:=Uk f.terms (Ws.1 h1);obtain⟨b1,b2⟩:=TY (fun x y=>y.kind=x.kind/\y.shape=true/\y.size<=4096*x.size/\∀g,x.Bg g->y.Bg g) f.args (fun x hx he=>ih x hx he (zv hs hx)) (Ws.1 h2);have hsh:(Fm.mk f.kind f.ty (uu f.terms).1 (y8 f.args).1).shape=true:=by
   rw[Fm.Al,Wk,Wk] at hs ⊢;refine⟨⟨?_,Wm.2 fun t ht=>((Tm.Ad t).1 (a2 t ht)).1⟩,Wm.2 fun y hy=> ?_⟩
   .have:=hs.1.1;unfold Fm.head at this ⊢;simp only[Fm.Ai,Fm.Ah,Fm.Ae,a1,b1] at this ⊢;exact this
   .obtain ⟨i,hi,rfl⟩:=WT hy;have hi':i<(y8 f.args).1.length:=hi;exact(b2 i (by omega) hi').2.1
  refine⟨rfl,hsh,?_,fun g hok=> ?_⟩
  .have e1:=f.size_eq;rw[Fm.size_eq];simp only[Fm.Ah,Fm.Ae];have s1:=OO (f:=Tm.size) (C:=4096) (uu f.terms).1 fun t ht=>((Tm.Ad t).1 (a2 t ht)).2;have s2:=zd Tm.size Tm.size_pos f.terms;have s3:((y8 f.args).1.map Fm.size).sum<=4096*(f.args.map Fm.size).sum:=by
    have:∀(l m:List Fm),m.length=l.length->(∀(i:Nat) (h1:i<l.length) (h2:i<m.length),m[i].size<=4096*l[i].size)->(m.map Fm.size).sum<=4096*(l.map Fm.size).sum:=by
     intro l;induction l with
     |nil=>intro m hm _;have:m=[]:=WB hm;subst this;simp
     |cons x l ihl=>
      intro m hm hh
      match m,hm with
      |y::m,hm=>
       have q1:=ihl m (by simpa using hm) fun i h1 h2=>by have:=hh (i+1) (by simpa using h1) (by simpa using h2);simpa using this
       have q2:=hh 0 (by simp) (by simp);simp only[Wu] at q2;simp only[Wn,Wt];omega
    exact this f.args _ b1 fun i h1 h2=>(b2 i h1 h2).2.2.1
   rw[a1] at s1;omega
  .rw[Fm.Bn] at hok ⊢;refine⟨fun t ht=>a3 g Ag hok.1 t ht,fun y hy=> ?_⟩;obtain⟨i,hi,rfl⟩:=WT hy;have hi':i<(y8 f.args).1.length:=hi;have hc:Dx g (Fm.mk f.kind f.ty (uu f.terms).1 (y8 f.args).1)=Dx g f:=rfl;rw[hc];exact(b2 i (by omega) hi').2.2.2 _ (hok.2 _ (Wi (by omega)))
theorem Zti{f:Fm}(s:Tm)(hs:f.shape=true)(h:y7 0 f=0):f.A9 1 (-1)=f.put 0 s:=by
 refine Fm.BU f 0 fun p hp=> ?_;have h1:=Zxi h p hp;have h2:=R9 p hp;refine BU p.1 0 fun q hq=> ?_;have h3:=Zy4 h1 q hq;rw[Kg,MD];have h4:=HO p.1 0 q hq;by_cases h5:q.1-q.2>=1+p.2
 .rw[if_pos h5,if_neg h3,if_pos (by omega)];rfl
 .rw[if_neg h5,if_neg h3,if_neg (by omega)]
theorem Zy3{f:Fm}{g:List Ty}{σ:Ty}(hσ:σ.err=0)(hs:f.shape=true)(h:y7 0 f=0)(hok:f.Bg (g++[σ])):(f.A9 1 (-1)).shape=true/\(f.A9 1 (-1)).size=f.size/\(f.A9 1 (-1)).Bg g:=by
 have h1:=(Ty.Ad σ).1 hσ;obtain⟨d1,d2,_⟩:=Zuk σ h1.1 h1.2;rw[Zti (Ey σ) hs h];refine⟨u3 (by omega) d2 hs,?_,?_⟩
 .have:=ua 0 (Ey σ) d2 f hs 0;have e:wr 0 (f.AZ 0)=0:=h;show(f.re (fun b t=>t.re (y9 (0+b) (Ey σ)) 0) 0).size=f.size;rw[this,e,Y8];rfl
 .have h3:=Pe 0 (Ey σ) g σ d2 (d1 g) f [] 0 rfl hs (by simpa using hok);rw[WR] at h3;exact h3
theorem Ybr{f:Fm}(hf:f.err=0)(h:(Ez f).2=0):(Ez f).1.shape=true/\(Ez f).1.size<=16777216/\y7 0 (Ez f).1=0/\(∀g,f.Bg g->(Ez f).1.Bg g)/\(Ez f).1.kind=f.kind:=by
 have s1:=(Fm.Ad _).1 hf;unfold Ez at h ⊢;by_cases h1:y7 0 f=0
 .rw[if_pos h1];exact⟨s1.1,by simp only;omega,h1,fun g h=>h,rfl⟩
 rw[if_neg h1] at h ⊢;by_cases h2:(xw f).2≠0
 .rw[if_pos h2] at h;exact absurd h h2
 rw[if_neg h2] at h ⊢;by_cases h3:y7 0 (xw f).1≠0
 .rw[if_pos h3] at h;cases h
 rw[if_neg h3];obtain⟨k,a,b,c⟩:=S6 f (Ws.1 h2) s1.1;exact⟨a,by simp only;omega,Ws.1 h3,c,k⟩
theorem MT{r0 r1:Rs}(h0:B8 r0)(h1:B8 r1){k:Int}{c:Ck}(hc:c.ok):vg c (KX k r0 r1 c):=by
 unfold KX;split
 .rename_i h;exact zq c h
 rename_i e0;split
 .exact zq c (by decide)
 rename_i e1;split
 .exact zq c (by decide)
 rename_i e2;split
 .rename_i h;exact zq c h
 rename_i e3;split
 .rename_i h;exact zq c h
 rename_i e4;split
 .exact zq c (by decide)
 intro _;obtain⟨a1,a2,a3⟩:=h0.good hc (Ws.1 e0);have s1:=(Fm.Ad _).1 a1;have hk:(r0 c).1.kind=kI k 15 7 5:=Ws.1 e1;have hk':4<=(r0 c).1.kind/\(r0 c).1.kind<=7:=by rw[hk,kI];split<;>omega
 obtain⟨x,e⟩:=GX s1.1 hk';have ex:x.err=0:=vf a1 (by rw[e];simp[Br]);rw[e] at a2;have o1:=I3 hk' a2;have hx:(r0 c).1.args.getD 0 A7=x:=by rw[e];rfl
 have hr:=wj (Ws.1 e2);have hte:=HE s1.1 hk';have hb:((c.below [(r0 c).1.ty]).AA x).ok:=(hc.below (l:=[(r0 c).1.ty]) hr.1 (by simpa using hte)).AA (by simpa[Ck.below] using hr.2) ex o1;have hob:GV r1 c (r0 c).1=r1 ((c.below [(r0 c).1.ty]).AA x):=by unfold GV;rw[hx]
 rw[hob] at e3 e4 ⊢;obtain⟨b1,b2,b3⟩:=h1.good hb (Ws.1 e3);obtain⟨f1,f2,f3,f4,_⟩:=Ybr b1 (Ws.1 e4);obtain⟨l1,l2,l3⟩:=Zy3 hte f1 f3 (f4 _ b2);have hu:=A5.out (n:=c.tys.length) (m:=1) (l:=(r1 ((c.below [(r0 c).1.ty]).AA x)).2.1) (by simpa[Ck.below,Ck.AA] using b3);exact⟨l1,by simp only;omega,l3,.union a3.2 hu.2⟩
theorem Ygp(g:List Ty):zT.inf g=(Ag,0):=by simp[zT,Tm.inf,Tm.AK,vo]
theorem Yfb(g:List Ty):Dv.inf g=(An,0):=by simp[Dv,Tm.inf,Tm.AK,vo]
theorem Qf{c:Ck}{t:Tm}(h:E2 c t 1=0):t.err=0/\t.inf c.tys=(Ag,0):=by
 obtain⟨a,b,d,e⟩:=Vn h;exact⟨a,by rw[b,Qz d e]⟩
theorem RX{c:Ck}{t:Tm}(h:E2 c t 2=0):t.err=0/\t.inf c.tys=(An,0):=by
 obtain⟨a,b,d,e⟩:=Vn h;exact⟨a,by rw[b,SC d e]⟩
theorem GZ:Ag.err=0:=by decide
theorem Lg:An.err=0:=by decide
theorem Ck.ok.one{c:Ck}(h:c.ok){s:Ty}(hs:s.err=0):∀x∈c.tys++[s],x.err=0:=fun x hx=>by
 rcases WH.1 hx with hx|hx
 .exact h.all x hx
 .simp only[WN] at hx;subst hx;exact hs
theorem Vc{r0 r1:Rs}(h0:B8 r0)(h1:B8 r1){f:Fm}{t:Tm}{c:Ck}(hc:c.ok):vg c (KB f t r0 r1 c):=by
 unfold KB;split
 .rename_i h;exact zq c h
 rename_i e0;split
 .rename_i h;exact zq c h
 rename_i e1;split
 .rename_i h;exact zq c h
 rename_i e2;split
 .exact zq c (by decide)
 rename_i e3;split
 .rename_i h;exact zq c h
 intro he;obtain⟨f1,f2⟩:=u6 (hc.one GZ) (Ws.1 e0);obtain⟨t1,t2⟩:=Qf (Ws.1 e1);obtain⟨p1,p2⟩:=LQ f2 t2 he;have hr:=wj (Ws.1 e3);have hb:((c.below [Ag]).AA f).ok:=(hc.below (l:=[Ag]) hr.1 (by simp[GZ])).AA (by simpa[Ck.below] using hr.2) f1 f2;have hu:=A5.out (n:=c.tys.length) (m:=1) (l:=(y4 r1 ((c.below [Ag]).AA f) (f.A9 1 1) (sT (vT 0))).1) (by simpa[Ck.below,Ck.AA] using wq h1 hb (f.A9 1 1) (sT (vT 0)));refine⟨(yi p1).1,(yi p1).2,p2,.union (fun u hu=> ?_) hu.2⟩;rcases C2.1 hu with h|h
 .exact (v3 t2).2 u h
 .exact (wq h0 hc f zT).2 u h
theorem Th{r0 r1:Rs}(h0:B8 r0)(h1:B8 r1){f:Fm}{t:Tm}{c:Ck}(hc:c.ok):vg c (K4 f t r0 r1 c):=by
 unfold K4;split
 .rename_i h;exact zq c h
 rename_i e0;split
 .rename_i h;exact zq c h
 rename_i e1;split
 .rename_i h;exact zq c h
 rename_i e2;split
 .exact zq c (by decide)
 rename_i e3;split
 .rename_i h;exact zq c h
 intro he;obtain⟨f1,f2⟩:=u6 (hc.one Lg) (Ws.1 e0);obtain⟨t1,t2⟩:=RX (Ws.1 e1);obtain⟨p1,p2⟩:=LQ f2 t2 he;have hr:=wj (Ws.1 e3);have hl:=Ia (g:=c.tys) (h:=[An]) [Ag] ((Fm.Ad f).1 f1).1 f2;have hb:((c.below [Ag,An]).AA (f.A9 1 1)).ok:=(hc.below (l:=[Ag,An]) hr.1 (by simp[GZ,Lg])).AA (by simpa[Ck.below] using hr.2) (LO f1 (by omega)) (by simpa[Ck.below] using hl);have hu:=A5.out (n:=c.tys.length) (m:=2) (l:=(y4 r1 ((c.below [Ag,An]).AA (f.A9 1 1)) (f.A9 1 2) Ci).1) (by simpa[Ck.below,Ck.AA] using wq h1 hb (f.A9 1 2) Ci);refine⟨(yi p1).1,(yi p1).2,p2,.union (fun u hu=> ?_) hu.2⟩;rcases C2.1 hu with h|h
 .exact (v3 t2).2 u h
 .exact (wq h0 hc f Dv).2 u h
theorem Ud{t:Tm}{c:Ck}(hc:c.ok):vg c (JJ t c):=by
 intro he;obtain⟨t1,t2⟩:=Qf he;have s:=(Tm.Ad t).1 t1;exact⟨IU s.1 s.1,by show(Bf t t).size<=_;rw[H6];omega,CI.2 ⟨t2,t2⟩,.nil _⟩
theorem Wd{r0 r1:Rs}(h0:B8 r0)(h1:B8 r1){f:Fm}{c:Ck}(hc:c.ok):vg c (Kj f r0 r1 c):=by
 unfold Kj;split
 .rename_i h;exact zq c h
 rename_i e0;split
 .rename_i h;exact zq c h
 rename_i e1;split
 .exact zq c (by decide)
 rename_i e2;split
 .rename_i h;exact zq c h
 intro he;obtain⟨f1,f2⟩:=u6 (hc.one GZ) (Ws.1 e0);obtain⟨a1,a2,a3⟩:=h0.good hc (Ws.1 e1);obtain⟨x,y,e⟩:=Py ((Fm.Ad _).1 a1).1 (Ws.1 e2);rw[e] at a2;have hy:(r0 c).1.terms.getD 1 A4=y:=by rw[e];rfl
 rw[hy] at he ⊢;obtain⟨p1,p2⟩:=LQ f2 (CI.1 a2).2 he;exact⟨(yi p1).1,(yi p1).2,p2,wq h1 hc _ _⟩
theorem Yaa(g:List Ty)(s u:Ty):ED.inf (g++[yv s u]++[s])=(u,0):=by
 refine Jr (a:=s) ?_ ?_
 .rw[we _ _ (by omega),if_neg (by simp;omega),Ja (by simp) (by simp),ww (by simp)];rfl
 .rw[we _ _ (by omega),if_neg (by simp;omega),ww (by simp)];rfl
theorem Td{r0:Rs}(h0:B8 r0){c:Ck}(hc:c.ok):vg c (LV r0 c):=by
 unfold LV;split
 .rename_i h;exact zq c h
 rename_i e0;split
 .exact zq c (by decide)
 rename_i e1;split
 .exact zq c (by decide)
 rename_i e2;intro he;obtain⟨a1,a2,a3⟩:=h0.good hc (Ws.1 e0);rw[not_or,Ws,Ws] at e1;have s1:=(Fm.Ad _).1 a1;obtain⟨x,e⟩:=GX s1.1 (by omega);have ex:x.err=0:=vf a1 (by rw[e];simp[Br]);have hx:(r0 c).1.args.getD 0 A7=x:=by rw[e];rfl
 have hte:=HE s1.1 (by omega);rw[hx] at e1;have s2:=(Fm.Ad _).1 ex;obtain⟨y,e'⟩:=GX s2.1 (by omega);have hte':=HE s2.1 (by omega);have ey:y.err=0:=vf ex (by rw[e'];simp[Br]);have hy:x.args.getD 0 A7=y:=by rw[e'];rfl
 rw[e] at a2;have o1:=I3 (by omega) a2;rw[e'] at o1;have o2:=I3 (by omega) o1;have hcf:Li (r0 c).1=yv (r0 c).1.ty x.ty:=by unfold Li;rw[hx]
 have hcb:Lo (r0 c).1=Du (y.A9 2 1) ED:=by unfold Lo;rw[hx,hy]
 rw[hcf] at e2 ⊢;rw[hcb] at he ⊢;have hl:=Ia (g:=c.tys) (h:=[(r0 c).1.ty,x.ty]) [yv (r0 c).1.ty x.ty] ((Fm.Ad y).1 ey).1 (by simpa using o2);have hl':(y.A9 2 1).Bg (c.tys++[yv (r0 c).1.ty x.ty]++[(r0 c).1.ty]++[x.ty]):=by simpa using hl
 obtain⟨p1,p2⟩:=LQ hl' (Yaa _ _ _) he;have s3:=(Fm.Ad _).1 p1;refine⟨v9 (by omega) (Ws.1 e2) (v9 (by omega) hte s3.1),by simp only[JF];omega,HF (by omega) (HF (by omega) p2),a3⟩
theorem RW{l:List Pf}{i:Nat}(hi:i<l.length):(l.map Cn).getD i (fun _=>yd 0)=Cn l[i]:=by
 rw[GB (by simpa using hi),List.getElem_map]
theorem ze{p:Pf}(h:p.shape=true):p.head=true/\(∀t∈p.terms,t.shape=true)/\(∀f∈p.Ac,f.shape=true)/\∀x∈p.args,x.shape=true:=by
 rw[p.Al] at h;simp only[Wk,Wm] at h;exact⟨h.1.1.1,h.1.1.2,h.1.2,h.2⟩
theorem Rx{t:Ty}(h:t.ok=true):t.err=0:=by
 simp only[Ty.ok,Wk,decide_eq_true_eq] at h;exact(Ty.Ad t).2 h
theorem F2{p:Pf}(h:p.head=true):∃nd,BD p.kind=some nd/\p.terms.length=nd.terms/\p.Ac.length=nd.Ac/\p.args.length=nd.args/\0<=p.index/\(nd.typ=true->p.ty.err=0)/\1<=p.kind/\p.kind<=20:=by
 unfold Pf.head at h;cases hn:BD p.kind with
 |none=>rw[hn] at h;cases h
 |some nd=>
  rw[hn] at h;have hk:1<=p.kind/\p.kind<=20:=by
   refine Xa fun hc=> ?_;have:BD p.kind=none:=by
    unfold BD
    repeat rw[if_neg (by omega)]
   rw[this] at hn;cases hn
  simp only[Wk,decide_eq_true_eq,beq_iff_eq] at h;refine⟨nd,rfl,by omega,by omega,by omega,by omega,fun ht=> ?_,hk⟩;simp only[ht,if_true] at h;exact Rx h.2
theorem Mn(p:Pf):p.shape=true->B8 (Cn p):=by
 induction p using Pf.ind with
 |h p ih=>
  intro hs c hc;rw[QZ];refine Yck ?_;obtain⟨h1,h2,h3,h4⟩:=ze hs;obtain⟨nd,n1,n2,n3,n4,n5,n6,n7⟩:=F2 h1;have hrs:∀i,i<p.args.length->B8 ((p.args.map Cn).getD i fun _=>yd 0):=fun i hi=>by
   rw[RW hi];exact ih _ (Wi hi) (h4 _ (Wi hi))
  have hk:p.kind=1\/p.kind=2\/p.kind=3\/p.kind=4\/p.kind=5\/p.kind=6\/p.kind=7\/p.kind=8\/p.kind=9\/p.kind=10\/p.kind=11\/p.kind=12\/p.kind=13\/p.kind=14\/p.kind=15\/p.kind=16\/p.kind=17\/p.kind=18\/p.kind=19\/p.kind=20:=by omega
  unfold G8;rcases hk with e|e|e|e|e|e|e|e|e|e|e|e|e|e|e|e|e|e|e|e<;>rw[e] at n1 ⊢<;>simp only[BD] at n1<;>(try(simp at n1))<;>(try subst n1)<;>simp only[reduceIte,Int.reduceEq,or_false,false_or,or_true,true_or]<;>simp only at n4 n6
  .exact V1 hc n5
  .exact VP hc n5
  .exact VI (hrs 0 (by omega)) (hrs 1 (by omega)) hc
  .exact Nh (hrs 0 (by omega)) hc (by decide)
  .exact Nh (hrs 0 (by omega)) hc (by decide)
  .exact RM (hrs 0 (by omega)) hc
  .exact SI (hrs 0 (by omega)) (hrs 1 (by omega)) hc
  .exact MR (hrs 0 (by omega)) (n6 trivial) hc
  .exact NM (hrs 0 (by omega)) hc
  .exact Mv (hrs 0 (by omega)) hc
  .exact MT (hrs 0 (by omega)) (hrs 1 (by omega)) hc
  .exact MR (hrs 0 (by omega)) (n6 trivial) hc
  .exact NM (hrs 0 (by omega)) hc
  .exact Mv (hrs 0 (by omega)) hc
  .exact MT (hrs 0 (by omega)) (hrs 1 (by omega)) hc
  .exact Vc (hrs 0 (by omega)) (hrs 1 (by omega)) hc
  .exact Th (hrs 0 (by omega)) (hrs 1 (by omega)) hc
  .exact Ud hc
  .exact Wd (hrs 0 (by omega)) (hrs 1 (by omega)) hc
  .exact Td (hrs 0 (by omega)) hc
theorem O6{α:Type}{l:List α}(h:l.length=1):∃a,l=[a]:=by
 match l,h with
 |[a],_=>exact⟨a,rfl⟩
theorem ln2{α:Type}{l:List α}(h:l.length=2):∃a b,l=[a,b]:=by
 match l,h with
 |[a,b],_=>exact⟨a,b,rfl⟩
theorem Oj{α:Type}{l:List α}(h:l.length=0):l=[]:=WB h
theorem Yay{p:Pf}(hs:p.shape=true){c:Ck}(hc:c.ok):vg c (G8 p.kind p.index p.ty p.terms p.Ac (p.args.map Cn) c):=by
 obtain⟨h1,h2,h3,h4⟩:=ze hs;obtain⟨nd,n1,n2,n3,n4,n5,n6,n7⟩:=F2 h1;have hrs:∀i,i<p.args.length->B8 ((p.args.map Cn).getD i fun _=>yd 0):=fun i hi=>by
  rw[RW hi];exact Mn _ (h4 _ (Wi hi))
 have hk:p.kind=1\/p.kind=2\/p.kind=3\/p.kind=4\/p.kind=5\/p.kind=6\/p.kind=7\/p.kind=8\/p.kind=9\/p.kind=10\/p.kind=11\/p.kind=12\/p.kind=13\/p.kind=14\/p.kind=15\/p.kind=16\/p.kind=17\/p.kind=18\/p.kind=19\/p.kind=20:=by omega
 unfold G8;rcases hk with e|e|e|e|e|e|e|e|e|e|e|e|e|e|e|e|e|e|e|e<;>rw[e] at n1 ⊢<;>simp only[BD] at n1<;>(try(simp at n1))<;>(try subst n1)<;>simp only[reduceIte,Int.reduceEq,or_false,false_or,or_true,true_or]<;>simp only at n4 n6
 .exact V1 hc n5
 .exact VP hc n5
 .exact VI (hrs 0 (by omega)) (hrs 1 (by omega)) hc
 .exact Nh (hrs 0 (by omega)) hc (by decide)
 .exact Nh (hrs 0 (by omega)) hc (by decide)
 .exact RM (hrs 0 (by omega)) hc
 .exact SI (hrs 0 (by omega)) (hrs 1 (by omega)) hc
 .exact MR (hrs 0 (by omega)) (n6 trivial) hc
 .exact NM (hrs 0 (by omega)) hc
 .exact Mv (hrs 0 (by omega)) hc
 .exact MT (hrs 0 (by omega)) (hrs 1 (by omega)) hc
 .exact MR (hrs 0 (by omega)) (n6 trivial) hc
 .exact NM (hrs 0 (by omega)) hc
 .exact Mv (hrs 0 (by omega)) hc
 .exact MT (hrs 0 (by omega)) (hrs 1 (by omega)) hc
 .exact Vc (hrs 0 (by omega)) (hrs 1 (by omega)) hc
 .exact Th (hrs 0 (by omega)) (hrs 1 (by omega)) hc
 .exact Ud hc
 .exact Wd (hrs 0 (by omega)) (hrs 1 (by omega)) hc
 .exact Td (hrs 0 (by omega)) hc
theorem V3(f:Fm):(f.args.getD 0 A7).full<=f.full+2:=by
 cases h:f.args with
 |nil=>exact W8 (by decide:A7.full<=2) (by omega)
 |cons x l=>
  have:=za Fm.full (l:=f.args) (t:=x) (by rw[h];simp);have:=f.Af;simp only[XJ];omega
def GH(lems:List Fm)(tys:List Ty)(hyps:List Fm):Int:=
 if lems.length>32 then 3 else if wi (yq []) lems≠0 then wi (yq []) lems else if xd tys≠0 then xd tys
 else if hyps.length>16 then 3 else wi (yq tys) hyps
theorem Ycx{lems:List Fm}{tys:List Ty}{hyps:List Fm}(h:GH lems tys hyps=0):(Ck.mk lems tys hyps).ok:=by
 unfold GH at h;by_cases h1:lems.length>32
 .rw[if_pos h1] at h;cases h
 rw[if_neg h1] at h;by_cases h2:wi (yq []) lems≠0
 .rw[if_pos h2] at h;exact absurd h h2
 rw[if_neg h2] at h;by_cases h3:xd tys≠0
 .rw[if_pos h3] at h;exact absurd h h3
 rw[if_neg h3] at h;by_cases h4:hyps.length>16
 .rw[if_pos h4] at h;cases h
 rw[if_neg h4] at h;exact⟨Ws.1 h3,by simp only;omega,by simp only;omega,fun f hf=>xo (KL h f hf),fun f hf=>xo (KL (Ws.1 h2) f hf)⟩
theorem VN{c:Ck}(h:c.ok):GH c.lems c.tys c.hyps=0:=by
 unfold GH;rw[if_neg (by have:=h.nl;omega),if_neg,if_neg (by simp[h.ctx]),if_neg (by have:=h.nh;omega)]
 .exact L5 fun f hf=>RI (h.hyps f hf).2 (h.hyps f hf).1 h.ctx
 .rw[L5 fun f hf=>RI (h.lems f hf).2 (h.lems f hf).1 rfl];simp
def IK(lems:List Fm)(tys:List Ty)(hyps:List Fm)(p:Pf):Cz:=
 if GH lems tys hyps≠0 then yd (GH lems tys hyps) else if p.err≠0 then yd p.err else Cn p ⟨lems,tys,hyps⟩
def Aw(k:Int):Int:=if k=16\/k=17\/k=19 then 1 else 0
def As(k:Int):Int:=if k=17 then 2 else if k=8\/k=12\/k=11\/k=15\/k=16 then 1 else 0
def At(k:Int):Int:=if k=6\/k=11\/k=15\/k=16\/k=17 then 1 else 0
def C0(k:Int):List V:=match BD k with
 |some n=>[.bool n.index,.bool n.typ,.i n.terms,.i n.Ac,.i n.args,.i (Aw k),.i (As k),.i (At k)]
 |none=>[.bool false,.bool false,.i 0,.i 0,.i 0,.i 0,.i 0,.i 0]
abbrev Tl:=Nat×Bool
def BV:List Tm->Tl->Bool×Tl
 |[],s=>(true,s)
 |t::l,s=>if t.err=2 then(false,(s.1+t.num.toNat,s.2||t.err==4)) else BV l (s.1+t.num.toNat,s.2||t.err==4)
def B7:List Fm->Tl->Bool×Tl
 |[],s=>(true,s)
 |t::l,s=>if t.err=2 then(false,(s.1+t.num.toNat,s.2||t.err==4)) else B7 l (s.1+t.num.toNat,s.2||t.err==4)
def Pf.Fa(p:Pf):Bool:=match BD p.kind with
 |none=>false
 |some n=>p.terms.length==n.terms&&p.Ac.length==n.Ac&&p.args.length==n.args&&decide (0<=p.index)&&(n.index||p.index==0)
def Pf.F4(p:Pf):Bool:=match BD p.kind with
 |none=>false
 |some n=>if n.typ=true then p.ty.ok else p.ty.BL
mutual
def Ds:Pf->Tl->Bool×Tl
 | .mk k i h ts fs zs,s=>
   if Pf.Fa (.mk k i h ts fs zs)=false then(false,s) else if Pf.F4 (.mk k i h ts fs zs)=false then(false,(s.1+1,s.2))
   else if(BV ts (s.1+1,s.2)).1=false then BV ts (s.1+1,s.2)
   else if(B7 fs (BV ts (s.1+1,s.2)).2).1=false then B7 fs (BV ts (s.1+1,s.2)).2
   else Cs zs (B7 fs (BV ts (s.1+1,s.2)).2).2
def Cs:List Pf->Tl->Bool×Tl
 |[],s=>(true,s)
 |p::l,s=>if(Ds p s).1=false then Ds p s else Cs l (Ds p s).2
end
theorem TZ(p:Pf)(s:Tl):Ds p s=if p.Fa=false then(false,s) else if p.F4=false then(false,(s.1+1,s.2))
 else if(BV p.terms (s.1+1,s.2)).1=false then BV p.terms (s.1+1,s.2)
 else if(B7 p.Ac (BV p.terms (s.1+1,s.2)).2).1=false then B7 p.Ac (BV p.terms (s.1+1,s.2)).2
 else Cs p.args (B7 p.Ac (BV p.terms (s.1+1,s.2)).2).2:=by
 cases p;simp only[Ds];rfl
theorem Rk:∀(l m:List Tm) (s:Tl),(BV l s).1=true->BV (l++m) s=BV m (BV l s).2
 |[],m,s,_=>rfl
 |t::l,m,s,h=>by
  simp only[BV,Xu] at h ⊢;by_cases e:t.err=2
  .rw[if_pos e] at h;cases h
  .rw[if_neg e] at h ⊢;rw[if_neg e];exact Rk l m _ h
theorem Qn:∀(l m:List Fm) (s:Tl),(B7 l s).1=true->B7 (l++m) s=B7 m (B7 l s).2
 |[],m,s,_=>rfl
 |t::l,m,s,h=>by
  simp only[B7,Xu] at h ⊢;by_cases e:t.err=2
  .rw[if_pos e] at h;cases h
  .rw[if_neg e] at h ⊢;rw[if_neg e];exact Qn l m _ h
theorem OK:∀(l m:List Pf) (s:Tl),(Cs l s).1=true->Cs (l++m) s=Cs m (Cs l s).2
 |[],m,s,_=>rfl
 |t::l,m,s,h=>by
  simp only[Cs,Xu] at h ⊢;by_cases e:(Ds t s).1=false
  .rw[if_pos e] at h;rw[e] at h;cases h
  .rw[if_neg e] at h ⊢;rw[if_neg e];exact OK l m _ h
theorem Qp{α:Type}{l:List α}{m:Nat}(hm:m<l.length):l=l.take m++l[m]::l.drop (m+1):=by
 rw[<-Yj hm,Xp]
theorem RE{l:List Tm}{m:Nat}{s:Tl}(hm:m<l.length)(h:(BV (l.take m) s).1=true):BV (l.take (m+1)) s=BV [l[m]] (BV (l.take m) s).2:=by
 rw[Xj hm,Rk _ _ _ h]
theorem S9{l:List Tm}{m:Nat}{s:Tl}(hm:m<l.length)(h:(BV (l.take m) s).1=true)(he:l[m].err=2):BV l s=(false,((BV (l.take m) s).2.1+l[m].num.toNat,(BV (l.take m) s).2.2||l[m].err==4)):=by
 have e:BV l s=BV (l.take m++l[m]::l.drop (m+1)) s:=by rw[<-Qp hm]
 rw[e,Rk _ _ _ h,BV,if_pos he]
theorem Ut{l:List Fm}{m:Nat}{s:Tl}(hm:m<l.length)(h:(B7 (l.take m) s).1=true):B7 (l.take (m+1)) s=B7 [l[m]] (B7 (l.take m) s).2:=by
 rw[Xj hm,Qn _ _ _ h]
theorem Uv{l:List Fm}{m:Nat}{s:Tl}(hm:m<l.length)(h:(B7 (l.take m) s).1=true)(he:l[m].err=2):B7 l s=(false,((B7 (l.take m) s).2.1+l[m].num.toNat,(B7 (l.take m) s).2.2||l[m].err==4)):=by
 have e:B7 l s=B7 (l.take m++l[m]::l.drop (m+1)) s:=by rw[<-Qp hm]
 rw[e,Qn _ _ _ h,B7,if_pos he]
theorem Te{l:List Pf}{m:Nat}{s:Tl}(hm:m<l.length)(h:(Cs (l.take m) s).1=true):Cs (l.take (m+1)) s=Cs [l[m]] (Cs (l.take m) s).2:=by
 rw[Xj hm,OK _ _ _ h]
theorem Wb(p:Pf)(s:Tl):Cs [p] s=Ds p s:=by
 simp only[Cs];cases h:(Ds p s).1 with
 |false=>simp
 |true=>simp only[YS,if_false];rw[<-h]
theorem Tv{l:List Pf}{m:Nat}{s:Tl}(hm:m<l.length)(h:(Cs (l.take m) s).1=true)(he:(Ds l[m] (Cs (l.take m) s).2).1=false):Cs l s=Ds l[m] (Cs (l.take m) s).2:=by
 have e:Cs l s=Cs (l.take m++l[m]::l.drop (m+1)) s:=by rw[<-Qp hm]
 rw[e,OK _ _ _ h,Cs,if_pos he]
theorem PG(t:Tm):(t.err=0/\t.shape=true/\t.size<=4096/\t.num=t.size)\/(t.err=2/\t.shape=false/\t.num=0)\/(t.err=4/\t.shape=true/\¬t.size<=4096/\t.num=0):=by
 unfold Tm.num Tm.err;cases h:t.shape with
 |false=>simp
 |true=>
  by_cases h2:t.size>4096
  .simp[h2]
  .simp[h2];omega
theorem Zr7(t:Fm):(t.err=0/\t.shape=true/\t.size<=4096/\t.num=t.size)\/(t.err=2/\t.shape=false/\t.num=0)\/(t.err=4/\t.shape=true/\¬t.size<=4096/\t.num=0):=by
 unfold Fm.num Fm.err;cases h:t.shape with
 |false=>simp
 |true=>
  by_cases h2:t.size>4096
  .simp[h2]
  .simp[h2];omega
theorem Jx:∀(l:List Tm) (s:Tl),(BV l s).1=l.all Tm.shape/\(BV l s).2.1<=s.1+(l.map Tm.size).sum/\
 (l.all Tm.shape=true->(BV l s).2.2=(s.2|| !(l.all fun t=>decide (t.size<=4096)))/\((l.all fun t=>decide (t.size<=4096))=true->(BV l s).2.1=s.1+(l.map Tm.size).sum))
 |[],s=>by simp[BV]
 |t::l,s=>by
  have ih:=Jx l (s.1+t.num.toNat,s.2||t.err==4);simp only[BV,Xh,Wn,Wt];rcases PG t with⟨h1,h2,h3,h4⟩|⟨h1,h2,h3⟩|⟨h1,h2,h3,h4⟩
  .rw[if_neg (by omega)];simp only[h1,h2,h3,h4,decide_true,WZ] at ih ⊢;simp only[Int.toNat_natCast] at ih ⊢;refine⟨ih.1,by omega,fun h=>⟨?_,fun h'=> ?_⟩⟩
   .rw[(ih.2.2 h).1];simp
   .rw[(ih.2.2 h).2 h'];omega
  .rw[if_pos h1];simp[h2,h3]
  .rw[if_neg (by omega)];simp only[h1,h2,h3,h4,decide_false,WZ,Xo] at ih ⊢;refine⟨ih.1,by have:=ih.2.1;simp only[Zm,XR] at this;omega,fun h=>⟨?_,fun h'=>by cases h'⟩⟩;rw[(ih.2.2 h).1];simp
theorem Jl:∀(l:List Fm) (s:Tl),(B7 l s).1=l.all Fm.shape/\(B7 l s).2.1<=s.1+(l.map Fm.size).sum/\
 (l.all Fm.shape=true->(B7 l s).2.2=(s.2|| !(l.all fun t=>decide (t.size<=4096)))/\((l.all fun t=>decide (t.size<=4096))=true->(B7 l s).2.1=s.1+(l.map Fm.size).sum))
 |[],s=>by simp[B7]
 |t::l,s=>by
  have ih:=Jl l (s.1+t.num.toNat,s.2||t.err==4);simp only[B7,Xh,Wn,Wt];rcases Zr7 t with⟨h1,h2,h3,h4⟩|⟨h1,h2,h3⟩|⟨h1,h2,h3,h4⟩
  .rw[if_neg (by omega)];simp only[h1,h2,h3,h4,decide_true,WZ] at ih ⊢;simp only[Int.toNat_natCast] at ih ⊢;refine⟨ih.1,by omega,fun h=>⟨?_,fun h'=> ?_⟩⟩
   .rw[(ih.2.2 h).1];simp
   .rw[(ih.2.2 h).2 h'];omega
  .rw[if_pos h1];simp[h2,h3]
  .rw[if_neg (by omega)];simp only[h1,h2,h3,h4,decide_false,WZ,Xo] at ih ⊢;refine⟨ih.1,by have:=ih.2.1;simp only[Zm,XR] at this;omega,fun h=>⟨?_,fun h'=>by cases h'⟩⟩;rw[(ih.2.2 h).1];simp
theorem Zsw(p:Pf):p.head=(p.Fa&&p.F4):=by
 unfold Pf.head Pf.Fa Pf.F4;cases BD p.kind with
 |none=>rfl
 |some n=>simp[YO]
theorem Od(l:List Pf)(ih:∀p∈l,∀s:Tl,(Ds p s).1=p.shape/\(Ds p s).2.1<=s.1+p.size/\(p.shape=true->(Ds p s).2.2=(s.2|| !p.small)/\(p.small=true->(Ds p s).2.1=s.1+p.size))):
 ∀s:Tl,(Cs l s).1=l.all Pf.shape/\(Cs l s).2.1<=s.1+(l.map Pf.size).sum/\(l.all Pf.shape=true->(Cs l s).2.2=(s.2|| !(l.all Pf.small))/\(l.all Pf.small=true->(Cs l s).2.1=s.1+(l.map Pf.size).sum)):=by
 induction l with
 |nil=>intro s;simp[Cs]
 |cons p l ihl=>
  intro s;obtain⟨a1,a2,a3⟩:=ih p (by simp) s;have b:=ihl (fun q hq=>ih q (by simp[hq])) (Ds p s).2;simp only[Cs,Xh,Wn,Wt];cases hp:p.shape with
  |false=>
   rw[hp] at a1;rw[if_pos a1];exact⟨by rw[a1];rfl,by omega,fun h=>by cases h⟩
  |true=>
   rw[hp] at a1;rw[if_neg (by simp[a1])];obtain⟨c1,c2⟩:=a3 hp;refine⟨by rw[b.1];simp,by omega,fun h=> ?_⟩;simp only[WZ] at h;obtain⟨d1,d2⟩:=b.2.2 h;refine⟨by rw[d1,c1];cases s.2<;>cases p.small<;>simp,fun h'=> ?_⟩;simp only[Wk] at h';rw[d2 h'.2,c2 h'.1];omega
theorem PK(p:Pf):∀s:Tl,(Ds p s).1=p.shape/\(Ds p s).2.1<=s.1+p.size/\(p.shape=true->(Ds p s).2.2=(s.2|| !p.small)/\(p.small=true->(Ds p s).2.1=s.1+p.size)):=by
 induction p using Pf.ind with
 |h p ih=>
  intro s;have hsz:=p.size_eq;rw[TZ,p.Al,p.BT,Zsw];by_cases h1:p.Fa=false
  .rw[if_pos h1,h1];exact⟨rfl,by simp only;omega,fun h=>by simp at h⟩
  rw[if_neg h1];rw[XF] at h1;by_cases h2:p.F4=false
  .rw[if_pos h2,h2];exact⟨by simp,by simp only;omega,fun h=>by simp at h⟩
  rw[if_neg h2];rw[XF] at h2;rw[h1,h2];have t:=Jx p.terms (s.1+1,s.2);have f:=Jl p.Ac (BV p.terms (s.1+1,s.2)).2;have a:=Od p.args ih (B7 p.Ac (BV p.terms (s.1+1,s.2)).2).2;by_cases h3:(BV p.terms (s.1+1,s.2)).1=false
  .rw[if_pos h3];have:p.terms.all Tm.shape=false:=by rw[<-t.1];exact h3
   exact⟨by rw[h3,this];rfl,by omega,fun h=>by simp[this] at h⟩
  rw[if_neg h3];rw[XF,t.1] at h3;by_cases h4:(B7 p.Ac (BV p.terms (s.1+1,s.2)).2).1=false
  .rw[if_pos h4];have:p.Ac.all Fm.shape=false:=by rw[<-f.1];exact h4
   exact⟨by rw[h4,h3,this];rfl,by omega,fun h=>by simp[this] at h⟩
  rw[if_neg h4];rw[XF,f.1] at h4;obtain⟨t1,t2⟩:=t.2.2 h3;obtain⟨f1,f2⟩:=f.2.2 h4;refine⟨by rw[a.1,h3,h4];rfl,by omega,fun h=> ?_⟩;have h5:p.args.all Pf.shape=true:=by simpa[h3,h4] using h
  obtain⟨a1,a2⟩:=a.2.2 h5;refine⟨?_,fun h'=> ?_⟩
  .rw[a1,f1,t1];cases s.2<;>cases(p.terms.all fun t=>decide (t.size<=4096))<;>cases(p.Ac.all fun t=>decide (t.size<=4096))<;>cases p.args.all Pf.small<;>rfl
  .simp only[Wk] at h';rw[a2 h'.2,f2 h'.1.2,t2 h'.1.1,hsz];omega
theorem xr{p:Pf}(hs:p.shape=true):∃nd,BD p.kind=some nd/\p.terms.length=nd.terms/\p.Ac.length=nd.Ac/\p.args.length=nd.args/\0<=p.index/\(nd.index=false->p.index=0)/\(nd.typ=true->p.ty.err=0)/\(nd.typ=false->p.ty= .mk 0 [])/\1<=p.kind/\p.kind<=20:=by
 have h:=(ze hs).1;obtain⟨nd,n1,n2,n3,n4,n5,n6,n7⟩:=F2 h;refine⟨nd,n1,n2,n3,n4,n5,?_,n6,?_,n7⟩
 .intro hi;unfold Pf.head at h;rw[n1] at h;simp only[Wk,decide_eq_true_eq,beq_iff_eq,Xl] at h;rcases h.1.2 with h2|h2
  .rw[hi] at h2;cases h2
  .exact h2
 .intro hi;unfold Pf.head at h;rw[n1] at h;simp only[Wk,decide_eq_true_eq,beq_iff_eq,Xl] at h;have h2:=h.2;rw[if_neg (by simp[hi])] at h2;exact Ty.DK h2
def Pf.num(p:Pf):Int:=if p.err=0 then p.size else 0
theorem Rw{c:Ck}{s:Tm}(hk:E2 c s 1=0)(he:(Bf s s).err=0):Cn (wm s) c=(Bf s s,[],0):=by
 rw[QZ];have e:G8 (wm s).kind (wm s).index (wm s).ty (wm s).terms (wm s).Ac ((wm s).args.map Cn) c=JJ s c:=rfl;rw[e];unfold JJ JX;rw[hk,if_neg (by simp),if_neg (by simp[he])];simp only;split<;>rfl
def R8(f:Fm)(p q:Pf):Pf:= .mk 19 0 (.mk 0 []) [] [f] [p,q]
theorem Vj{c:Ck}(hc:c.ok){s:Tm}(he:s.err=0)(hi:s.inf c.tys=(Ag,0)):E2 c s 1=0:=by
 have e:yz c.tys s=(Ag,0):=by
  unfold yz Ec;rw[if_neg (by simp[hc.ctx]),if_neg (by simp[he]),hi]
 unfold E2;rw[e];rfl
structure C9 (g:List Ty) (s:Tm):Prop where
 err:s.err=0
 inf:s.inf g=(Ag,0)
 size:s.size<=900
theorem C9.shape{g:List Ty}{s:Tm}(h:C9 g s):s.shape=true:=((Tm.Ad s).1 h.err).1
theorem C9.near{g:List Ty}{s:Tm}(h:C9 g s)(hg:g.length<=1000):s.near=true:=KR (by rw[h.inf]) h.shape (by have:=h.size;omega)
theorem RP{a b:Tm}(ha:a.shape=true)(hb:b.shape=true)(hz:a.size+b.size<=4095):(Bf a b).err=0:=
 (Fm.Ad _).2 ⟨IU ha hb,by rw[H6];omega⟩
theorem RR(g:List Ty)(u:Ty):(vT 0).inf (g++[u])=(u,0):=by
 rw[we _ _ (by omega),if_neg (by simp)];have:Ex (g++[u]) 0=Ex [u] 0:=ww (by simp);simp only[Zm];rw[this];rfl
theorem Yja(a b:Tm):wr 0 ((Bf a b).AZ 0)=cnt 0 (a.vars 0)+cnt 0 (b.vars 0):=by
 simp[Bf,Fm.AZ,Fm.FW,wr]
theorem Yge{a b:Tm}(ha:a.near=true)(hb:b.near=true):(Bf a b).near=true:=by
 unfold Fm.near;simp[Bf,Fm.AZ,Fm.FW,ha,hb]
structure Dj (g:List Ty) (a b:Tm):Prop where
 sa:a.shape=true
 sb:b.shape=true
 ia:a.inf (g++[Ag])=(Ag,0)
 ib:b.inf (g++[Ag])=(Ag,0)
 sz:a.size+b.size<=3000
theorem Dj.err{g:List Ty}{a b:Tm}(h:Dj g a b):(Bf a b).err=0:=RP h.sa h.sb (by have:=h.sz;omega)
theorem Dj.near{g:List Ty}{a b:Tm}(h:Dj g a b)(hg:g.length<=16):(Bf a b).near=true:=
 Yge (KR (by rw[h.ia]) h.sa (by have:=h.sz;simp;omega)) (KR (by rw[h.ib]) h.sb (by have:=h.sz;simp;omega))
theorem Dj.put{g:List Ty}{a b s:Tm}(h:Dj g a b)(hg:g.length<=16)(hs:C9 g s)(hz:1+a.size+b.size+(cnt 0 (a.vars 0)+cnt 0 (b.vars 0))*s.size<=4096):y1 (Bf a b) 0 s=0:=by
 unfold y1;rw[if_neg (by simp[h.err]),if_neg (by omega),if_neg (by simp[hs.err]),if_neg (by simp[h.near hg,hs.near (by omega)]),if_neg];rw[Yja,H6];have hp:=s.size_pos;have hm:(cnt 0 (a.vars 0)+cnt 0 (b.vars 0))*(s.size-1)<=(cnt 0 (a.vars 0)+cnt 0 (b.vars 0))*s.size:=Nat.mul_le_mul_left _ (by omega);have e:(((cnt 0 (a.vars 0)+cnt 0 (b.vars 0):Nat):Int)*((s.size:Int)-1))=(((cnt 0 (a.vars 0)+cnt 0 (b.vars 0))*(s.size-1):Nat):Int):=by
  rw[XQ];congr 1;omega
 rw[e];omega
def HG(g s:Tm)(p:Pf):Pf:=R8 (Bf (A0 (g.re (zx 0 1) 0) (s.re (zx 0 1) 0)) (A0 (g.re (zx 0 1) 0) (vT 0))) p (wm (A0 g s))
theorem C9.refl{c:Ck}(hc:c.ok){s:Tm}(h:C9 c.tys s):Cn (wm s) c=(Bf s s,[],0):=
 Rw (Vj hc h.err h.inf) (RP h.shape h.shape (by have:=h.size;omega))
structure VZ (g:List Ty) (f:Tm):Prop where
 err:f.err=0
 inf:f.inf g=(yv Ag Ag,0)
 size:f.size<=500
def Dk.CW:Nat->Dk->List Ty->List Fm×Dk
 |0,d,_=>([],d)
 |n+1,d,g=>((Dk.fm 2 d g).1::(Dk.CW n (Dk.fm 2 d g).2 g).1,(Dk.CW n (Dk.fm 2 d g).2 g).2)
theorem Dk.DL:∀(n:Nat) (d:Dk) (g:List Ty),Dk.CW (n+1) d g=((Dk.CW n d g).1++[(Dk.fm 2 (Dk.CW n d g).2 g).1],(Dk.fm 2 (Dk.CW n d g).2 g).2)
 |0,d,g=>rfl
 |n+1,d,g=>by
  have ih:=Dk.DL n (Dk.fm 2 d g).2 g;rw[Dk.CW,ih];rfl
theorem Dk.Db:∀(n:Nat) (d:Dk) (g:List Ty),(Dk.CW n d g).1.length=n
 |0,_,_=>rfl
 |n+1,d,g=>by simp[Dk.CW,Dk.Db n]
theorem Dk.DI:∀(n:Nat) (d:Dk) (g:List Ty),d.ok->(Dk.CW n d g).2.ok
 |0,_,_,h=>h
 |n+1,d,g,h=>Dk.DI n _ g (Dk.EG 2 d g h)
theorem Dk.DD:∀(n:Nat) (d:Dk) (g:List Ty),Am g->∀f∈(Dk.CW n d g).1,f.err=0/\f.Bg g
 |0,_,_,_,f,h=>by cases h
 |n+1,d,g,hg,f,h=>by
  simp only[Dk.CW,WE] at h;rcases h with rfl|h
  .exact ⟨Yd2 (Dk.Eu 2 d g hg),Dk.GD 2 d g hg⟩
  .exact Dk.DD n _ g hg f h
def Dk.Jm(d:Dk):Nat:=(d.ctx.2.next 3).1.toNat
def Dk.HM(d:Dk):List Fm:=(Dk.CW d.Jm (d.ctx.2.next 3).2 d.ctx.1).1
def Dk.KS(d:Dk):Dk:=(Dk.CW d.Jm (d.ctx.2.next 3).2 d.ctx.1).2
theorem Dk.It(d:Dk):d.Jm<=2:=by have:=Dk.Bv d.ctx.2 3 (by omega);unfold Dk.Jm;omega
theorem Dk.IA{d:Dk}(h:d.ok):d.KS.ok:=Dk.DI _ _ _ (Dk.AH (Dk.Fj h) 3)
theorem Dk.FA(d:Dk):d.HM.length<=2:=by unfold Dk.HM;rw[Dk.Db];exact d.It
def Dk.Rb(d:Dk):Ck:=⟨[],d.ctx.1,d.HM⟩
theorem Dk.Jg(d:Dk):d.Rb.ok:=
 ⟨Zub (g:=d.ctx.1) d.Cy (by have:=d.FE;omega),by have:=d.FA;simp only[Dk.Rb];omega,by simp[Dk.Rb],Dk.DD _ _ _ d.Cy,fun f h=>by cases h⟩
theorem un(d:Dk){g:List Ty}(hg:Am g):C9 g (Dk.tm 3 d g Ag).1/\(Dk.tm 3 d g Ag).1.size<=60:=by
 have m:=Dk.CY 3 d g Ag hg zh (by omega) (by omega);have h1:=(m.size hg zh).2 rfl;have h2:=Kx;exact⟨⟨m.err hg zh (by omega),m.inf hg zh,by omega⟩,by omega⟩
abbrev va(i:Int):Pf:= .mk 1 i (.mk 0 []) [] [] []
theorem Zzz{i:Int}(hi:0<=i):(va i).err=0:=by
 rw[Pf.Ad];refine⟨?_,by simp[Pf.small,Pf.Am],by simp[Pf.size,Pf.sizes]⟩;rw[Pf.Al];simp[Pf.head,BD,hi,Ty.BL,Ty.kind,Ty.args]
theorem Uz{s:Tm}(h:s.err=0):(wm s).err=0:=by
 have h1:=(Tm.Ad s).1 h;rw[Pf.Ad];refine⟨?_,?_,?_⟩
 .rw[Pf.Al];simp[wm,Pf.head,BD,h1.1,Ty.BL,Ty.kind,Ty.args]
 .rw[Pf.BT];simp[wm,h1.2]
 .rw[Pf.size_eq];simp[wm];omega
theorem Zsg(s:Tm):(wm s).size=1+s.size:=by rw[Pf.size_eq];simp[wm]
theorem Zxz(i:Int):(va i).size=1:=by rw[Pf.size_eq];simp[va]
theorem EZ{g g':Int->Int->Tm}(h:∀i c,g i c=g' i c)(t:Tm)(b:Int):t.re g b=t.re g' b:=by
 have:g=g':=funext fun i=>funext fun c=>h i c;rw[this]
theorem Fm.CM(G:Int->Tm->Tm)(c:Int)(f:Fm):∀b,f.re G (b+c)=f.re (fun b t=>G (b+c) t) b:=by
 induction f using Fm.ind with
 |h f ih=>
  intro b;have e:A3 f.kind (b+c)=A3 f.kind b+c:=by simp only[A3];split<;>omega
  rw[Fm.Bt,Fm.Bt,e];congr 1;exact Xc fun x hx=>ih x hx _
theorem Fm.EZ{G G':Int->Tm->Tm}(h:∀b t,0<=b->G b t=G' b t)(f:Fm):f.re G 0=f.re G' 0:=by
 refine Fm.BU f 0 fun p hp=>h _ _ ?_;exact R9 p hp
theorem Yh5(f:Fm)(a n:Int):f.A9 a n=f.re (fun b t=>t.re (zx (a+b) n) 0) 0:=rfl
theorem Nu(f:Fm)(a:Int)(s:Tm):f.put a s=f.re (fun b t=>t.re (y9 (a+b) s) 0) 0:=rfl
theorem Yg2{k:Int}(hk:xg k=true)(s:Ty)(f:Fm)(a:Int)(x:Tm):(Br k s f).put a x=Br k s (f.put (a+1) x):=by
 rw[Nu,Fm.Bt];simp only[Br,Fm.kind,Fm.ty,Fm.terms,Fm.args,WI,Wn];congr 2;have e:A3 k 0=0+1:=by simp[A3,hk]
 rw[e,Fm.CM,Nu];refine Fm.EZ (fun b t _=> ?_) f;rw[show a+(b+1)=a+1+b by omega]
structure Gf (g:List Ty) (f:Fm) (n:Nat):Prop where
 sh:f.shape=true
 sz:f.size<=n
 ok:f.Bg g
structure Gt (g:List Ty) (s:Tm) (T:Ty) (m:Nat):Prop where
 sh:s.shape=true
 sz:s.size<=m
 inf:s.inf g=(T,0)
theorem Gf.err{g:List Ty}{f:Fm}{n:Nat}(h:Gf g f n)(hn:n<=4096):f.err=0:=(Fm.Ad f).2 ⟨h.sh,W8 h.sz hn⟩
theorem Gt.err{g:List Ty}{s:Tm}{T:Ty}{m:Nat}(h:Gt g s T m)(hn:m<=4096):s.err=0:=(Tm.Ad s).2 ⟨h.sh,W8 h.sz hn⟩
theorem wy(f:Fm)(a:Int):wr a (f.AZ 0)<=f.size:=by
 have h1:=JZ a (f.AZ 0);have h2:=KF f 0;omega
theorem Gf.put{g:List Ty}{f:Fm}{n m:Nat}{s:Tm}{T:Ty}(hf:Gf (g++[T]) f n)(hs:Gt g s T m)(hm:1<=m)(hz:n*m<=4096)(hg:g.length<=20):
 y1 f 0 s=0/\Gf g (f.put 0 s) (n*m):=by
 have hn:n<=n*m:=Nat.le_mul_of_pos_right n hm;have ef:=hf.err (by omega);have hp:=s.size_pos;have p2:=f.size_pos;have hmz:m<=4096:=by
  have:1*m<=n*m:=Xw m (by have:=hf.sz;omega);omega
 have es:=hs.err hmz;have nf:=(Zvh hf.ok ef (by simp;omega)).1;have ns:=KR (t:=s) (g:=g) (by rw[hs.inf]) hs.sh (by have:=hs.sz;omega);have hc:=wy f 0;have h1:wr 0 (f.AZ 0)*(s.size-1)<=n*(m-1):=XU (W8 hc hf.sz) (by have:=hs.sz;omega);have h2:n*(m-1)+n=n*m:=by rw[<-Nat.mul_succ];congr 1;omega
 have h3:=hf.sz;refine⟨?_,u3 (by omega) hs.sh hf.sh,?_,?_⟩
 .unfold y1;rw[if_neg (by simp[ef]),if_neg (by omega),if_neg (by simp[es]),if_neg (by simp[nf,ns]),if_neg];have e:((wr 0 (f.AZ 0):Int)*((s.size:Int)-1))=((wr 0 (f.AZ 0)*(s.size-1):Nat):Int):=by
   rw[XQ];congr 1;omega
  rw[e];omega
 .have h4:=ua 0 s hs.sh f hf.sh 0;have h5:(f.put 0 s).size=f.size+wr 0 (f.AZ 0)*(s.size-1):=h4;omega
 .have h6:=Pe 0 s g T hs.sh hs.inf f [] 0 rfl hf.sh (by simpa using hf.ok);have h7:(f.put 0 s).Bg (g++[]):=h6;simpa using h7
theorem Gf.A9{g h:List Ty}(m:List Ty){f:Fm}{n:Nat}(hf:Gf (g++h) f n):Gf (g++m++h) (f.A9 h.length m.length) n:=
 have hk:=I6 hf.sh (fr:=h.length) (by_:=m.length) (by omega)
 ⟨hk.1,by rw[hk.2.1];exact hf.sz,Ia m hf.sh hf.ok⟩
theorem Gf.qu{g:List Ty}{s:Ty}{f:Fm}{n:Nat}(k:Int)(hk:4<=k/\k<=7)(hs:s.err=0)(hf:Gf (g++[s]) f n):Gf g (Br k s f) (n+1):=
 ⟨v9 hk hs hf.sh,by rw[JF];have:=hf.sz;omega,HF hk hf.ok⟩
theorem Gt.zero(g:List Ty):Gt g zT Ag 1:=⟨by decide,by decide,Ygp g⟩
theorem Gt.nil(g:List Ty):Gt g Dv An 1:=⟨by decide,by decide,Yfb g⟩
theorem Gt.v0(g:List Ty)(u:Ty):Gt (g++[u]) (vT 0) u 1:=⟨by decide,by decide,RR g u⟩
theorem Gt.v1(g:List Ty)(u w:Ty):Gt (g++[u,w]) (vT 1) u 1:=by
 refine⟨by decide,by decide,?_⟩;rw[we _ _ (by omega),if_neg (by simp;omega)];have:Ex (g++[u,w]) 1=Ex [u,w] 1:=ww (by simp);simp only[show(1:Int).toNat=1 from rfl];rw[this];rfl
theorem Gt.cons(g:List Ty):Gt (g++[Ag,An]) Ci An 3:=by
 have h1:=(Gt.v1 g Ag An).inf;have h0:(vT 0).inf (g++[Ag,An])=(An,0):=by
  have:=(Gt.v0 (g++[Ag]) An).inf;simpa using this
 exact⟨by decide,by decide,by
  have e:Ci.inf (g++[Ag,An])=(An,0):=by simp[Ci,Tm.inf,Tm.AK,vo,h0,h1]
  exact e⟩
mutual
def Pf.up(fr b v:Int):Pf->Pf
 | .mk k i s ts fs zs=> .mk k i s (ts.map fun t=>t.re (zx (fr+v) b) 0) (fs.map fun f=>f.A9 (fr+(v+Aw k)) b) (Pf.DT fr b v (As k) zs)
def Pf.DT(fr b v w:Int):List Pf->List Pf
 |[]=>[]
 |p::l=>Pf.up fr b (if l.length=0 then v+w else v) p::Pf.DT fr b v w l
end
mutual
def Pf.lh(fr b y:Int):Pf->Pf
 | .mk k i s ts fs zs=>if k=1 then .mk 1 (if i-y>=fr then i+b else i) (.mk 0 []) [] [] [] else .mk k i s ts fs (Pf.lhs fr b y (At k) zs)
def Pf.lhs(fr b y w:Int):List Pf->List Pf
 |[]=>[]
 |p::l=>Pf.lh fr b (if l.length=0 then y+w else y) p::Pf.lhs fr b y w l
end
theorem Pf.ET(fr b v:Int)(p:Pf):p.up fr b v= .mk p.kind p.index p.ty (p.terms.map fun t=>t.re (zx (fr+v) b) 0) (p.Ac.map fun f=>f.A9 (fr+(v+Aw p.kind)) b) (Pf.DT fr b v (As p.kind) p.args):=by cases p;simp only[Pf.up];rfl
theorem Pf.ES(fr b y:Int)(p:Pf):p.lh fr b y=if p.kind=1 then .mk 1 (if p.index-y>=fr then p.index+b else p.index) (.mk 0 []) [] [] [] else .mk p.kind p.index p.ty p.terms p.Ac (Pf.lhs fr b y (At p.kind) p.args):=by cases p;simp only[Pf.lh];rfl
theorem JC(fr b v w:Int):∀l:List Pf,(Pf.DT fr b v w l).length=l.length
 |[]=>by simp only[Pf.DT]
 |p::l=>by simp only[Pf.DT,Wy,JC fr b v w l]
theorem JR(fr b v w:Int):∀l:List Pf,(Pf.lhs fr b v w l).length=l.length
 |[]=>by simp only[Pf.lhs]
 |p::l=>by simp only[Pf.lhs,Wy,JR fr b v w l]
theorem NG(fr b v w:Int):∀(l:List Pf) (m:Nat) (h:m<l.length) (h':m<(Pf.DT fr b v w l).length),(Pf.DT fr b v w l)[m]=l[m].up fr b (if m+1=l.length then v+w else v)
 |p::l,0,h,h'=>by
  simp only[Pf.DT,Wu,Wy];by_cases e:l.length=0
  .rw[if_pos e,if_pos (by omega)]
  .rw[if_neg e,if_neg (by omega)]
 |p::l,m+1,h,h'=>by
  simp only[Pf.DT,WM,Wy,Xz];exact NG fr b v w l m (by simpa using h) _
theorem ND(fr b v w:Int):∀(l:List Pf) (m:Nat) (h:m<l.length) (h':m<(Pf.lhs fr b v w l).length),(Pf.lhs fr b v w l)[m]=l[m].lh fr b (if m+1=l.length then v+w else v)
 |p::l,0,h,h'=>by
  simp only[Pf.lhs,Wu,Wy];by_cases e:l.length=0
  .rw[if_pos e,if_pos (by omega)]
  .rw[if_neg e,if_neg (by omega)]
 |p::l,m+1,h,h'=>by
  simp only[Pf.lhs,WM,Wy,Xz];exact ND fr b v w l m (by simpa using h) _
theorem Zy7{fr b v w:Int}{l:List Pf}{m:Nat}(h:m<l.length):(Pf.DT fr b v w l).take m++[l[m].up fr b (if m+1=l.length then v+w else v)]=(Pf.DT fr b v w l).take (m+1):=by
 rw[<-NG fr b v w l m h (by rw[JC];exact h),Wv]
theorem Yas{fr b v w:Int}{l:List Pf}{m:Nat}(h:m<l.length):(Pf.lhs fr b v w l).take m++[l[m].lh fr b (if m+1=l.length then v+w else v)]=(Pf.lhs fr b v w l).take (m+1):=by
 rw[<-ND fr b v w l m h (by rw[JR];exact h),Wv]
theorem Ydm{fr b v w:Int}{l:List Pf}:(Pf.DT fr b v w l).take l.length=Pf.DT fr b v w l:=by rw[<-JC fr b v w l,Wp]
theorem Yee{fr b v w:Int}{l:List Pf}:(Pf.lhs fr b v w l).take l.length=Pf.lhs fr b v w l:=by rw[<-JR fr b v w l,Wp]
mutual
def Pf.ix(C:Int):Pf->Prop
 | .mk _ _ _ ts fs zs=>(∀t∈ts,∀p∈t.vars 0,0<=p.1/\p.1<C)/\(∀f∈fs,∀p∈f.AZ 0,∀q∈p.1.vars 0,0<=q.1/\q.1<C)/\Pf.ixs C zs
def Pf.ixs(C:Int):List Pf->Prop
 |[]=>True
 |p::l=>Pf.ix C p/\Pf.ixs C l
end
theorem UL(C:Int):∀l:List Pf,Pf.ixs C l↔∀p∈l,p.ix C
 |[]=>by simp[Pf.ixs]
 |p::l=>by simp[Pf.ixs,UL C l]
theorem Pf.AY(C:Int)(p:Pf):p.ix C↔(∀t∈p.terms,∀q∈t.vars 0,0<=q.1/\q.1<C)/\(∀f∈p.Ac,∀q∈f.AZ 0,∀r∈q.1.vars 0,0<=r.1/\r.1<C)/\∀x∈p.args,x.ix C:=by
 cases p;simp only[Pf.ix,UL];rfl
mutual
def Pf.hx(C:Int):Pf->Prop
 | .mk k i _ _ _ zs=>if k=1 then 0<=i/\i<C else Pf.hxs C zs
def Pf.hxs(C:Int):List Pf->Prop
 |[]=>True
 |p::l=>Pf.hx C p/\Pf.hxs C l
end
theorem TL(C:Int):∀l:List Pf,Pf.hxs C l↔∀p∈l,p.hx C
 |[]=>by simp[Pf.hxs]
 |p::l=>by simp[Pf.hxs,TL C l]
theorem Pf.A8(C:Int)(p:Pf):p.hx C↔(p.kind=1->0<=p.index/\p.index<C)/\(p.kind≠1->∀x∈p.args,x.hx C):=by
 cases p with
 |mk k i s ts fs zs=>
  by_cases h:k=1
  .simp[Pf.hx,h,Pf.kind,Pf.index]
  .simp[Pf.hx,h,TL,Pf.kind,Pf.args]
theorem Qs{C i:Int}(h:0<=i/\i<C):(va i).hx C:=by simpa[va,Pf.hx] using h
theorem Yfu(fr b y i:Int):(va i).lh fr b y=va (if i-y>=fr then i+b else i):=by simp[va,Pf.lh]
theorem Yhj(C i:Int):(va i).ix C:=by simp[va,Pf.ix,Pf.ixs]
end Go.Ab
namespace Go.Ab
open Go
set_option linter.all false
set_option maxHeartbeats 1000000
inductive FP:Fm->Fm->Prop
 |refl (f):FP f f
 |eq {a b b'} (h:Ge b b'):FP (Bf a b) (Bf a b')
 |two {k a a' b b'} (ha:FP a a') (hb:FP b b'):FP (Cp k a b) (Cp k a' b')
 |qu {k s a a'} (ha:FP a a'):FP (Br k s a) (Br k s a')
def arg(f:Fm)(i:Nat):Fm:=f.args.getD i A7
theorem wb(k i:Int)(s:Ty)(ts:List Tm)(fs:List Fm)(zs:List Pf):(Pf.mk k i s ts fs zs).full=1+s.size+(ts.map Tm.full).sum+(fs.map Fm.full).sum+(zs.map Pf.full).sum:=Pf.Af _
theorem ug:(Ty.mk 0 []).size=1:=by decide
theorem IC{s:Ty}(h:s.err=0):s.size<=64:=((Ty.Ad s).1 h).2
def Tw:Nat->Nat->Fm->Prop
 |0,L,f=>∃s t,f=Bf s t/\f.size<=L
 |n+1,L,f=>(∃s t,f=Bf s t/\f.size<=L)\/(∃k a b,(k=2\/k=3)/\f=Cp k a b/\Tw n L a/\Tw n L b)\/∃k s a,(4<=k/\k<=7)/\s.small/\f=Br k s a/\Tw n L a
theorem Tw.size:∀{n L:Nat} {f:Fm},Tw n L f->f.size+1<=(L+1)*2^n
 |0,L,f,⟨s,t,e,h⟩=>by simp;omega
 |n+1,L,f,h=>by
  have hp:1<=2^n:=X8;have h2:(L+1)*2^(n+1)=2*((L+1)*2^n):=by rw[XS];simp[Yv,Nat.mul_left_comm]
  have h3:(L+1)*1<=(L+1)*2^n:=Nat.mul_le_mul_left _ hp;rcases h with⟨s,t,e,h⟩|⟨k,a,b,hk,e,ha,hb⟩|⟨k,s,a,hk,hs,e,ha⟩
  .omega
  .have h4:=ha.size;have h5:=hb.size;rw[e,L7];omega
  .have h4:=ha.size;rw[e,JF];omega
theorem Yec{k:Int}(hk:k=2\/k=3)(a b:Fm)(i:Int)(x:Tm):(Cp k a b).put i x=Cp k (a.put i x) (b.put i x):=by
 rw[Nu,Fm.Bt];have e:A3 k 0=0:=by rcases hk with rfl|rfl<;>rfl
 simp only[Cp,Fm.kind,Fm.ty,Fm.terms,Fm.args,WI,Wn];rw[e];rfl
theorem Tw.put:∀{n L:Nat} {f:Fm},Tw n L f->f.shape=true->∀(i:Int) (x:Tm),0<=i->x.shape=true->x.size<=3->Tw n (3*L) (f.put i x)
 |0,L,f,⟨s,t,e,h⟩,hs,i,x,hi,hx,hz=>by
  have h1:=ua i x hx f hs 0;have h2:(f.put i x).size=f.size+wr i (f.AZ 0)*(x.size-1):=h1;have h3:=wy f i;have h4:wr i (f.AZ 0)*(x.size-1)<=f.size*2:=XU h3 (by omega);subst e;exact⟨s.re (y9 (i+0) x) 0,t.re (y9 (i+0) x) 0,rfl,by omega⟩
 |n+1,L,f,h,hs,i,x,hi,hx,hz=>by
  rcases h with⟨s,t,e,h⟩|⟨k,a,b,hk,e,ha,hb⟩|⟨k,s,a,hk,hsm,e,ha⟩
  .exact Tw.up' (Tw.put (n:=0) ⟨s,t,e,h⟩ hs i x hi hx hz)
  .subst e;have sa:a.shape=true:=zv hs (x:=a) (by simp[Cp]);have sb:b.shape=true:=zv hs (x:=b) (by simp[Cp]);rw[Yec hk];exact .inr (.inl ⟨k,_,_,hk,rfl,Tw.put ha sa i x hi hx hz,Tw.put hb sb i x hi hx hz⟩)
  .subst e;have sa:a.shape=true:=zv hs (x:=a) (by simp[Br]);rw[Yg2 (Bj.2 hk)];exact .inr (.inr ⟨k,s,_,hk,hsm,rfl,Tw.put ha sa (i+1) x (by omega) hx hz⟩)
where
 Tw.up' {n L:Nat} {f:Fm} (h:Tw 0 L f):Tw (n+1) L f:= .inl h
structure Pg (p:Pf) (n:Nat):Prop where
 sh:p.shape=true
 sm:p.small=true
 sz:p.size<=n
theorem Pg.err{p:Pf}{n:Nat}(h:Pg p n)(hn:n<=16384):p.err=0:=(Pf.Ad p).2 ⟨h.sh,h.sm,W8 h.sz hn⟩
theorem Pg.of{p:Pf}(h:p.err=0):Pg p p.size:=have h1:=(Pf.Ad p).1 h;⟨h1.1,h1.2.1,Wj _⟩
theorem Pg.mono{p:Pf}{n m:Nat}(h:Pg p n)(hn:n<=m):Pg p m:=⟨h.sh,h.sm,W8 h.sz hn⟩
theorem Ss(k i:Int)(s:Ty)(ts:List Tm)(fs:List Fm)(zs:List Pf):(Pf.mk k i s ts fs zs).size=1+(ts.map Tm.size).sum+(fs.map Fm.size).sum+(zs.map Pf.size).sum:=Pf.size_eq _
theorem Pg.all{k:Int}{p:Pf}{s:Ty}{n:Nat}(hk:k=8\/k=12)(hs:s.err=0)(hp:Pg p n):Pg (.mk k 0 s [] [] [p]) (1+n):=by
 have ho:s.ok=true:=by
  have h1:=(Ty.Ad s).1 hs;simp only[Ty.ok,Wk,decide_eq_true_eq];exact h1
 refine⟨?_,?_,?_⟩
 .rcases hk with rfl|rfl<;>simp[Pf.shape,Pf.Bc,Pf.head,BD,hp.sh,ho]
 .simp[Pf.small,Pf.Am,hp.sm]
 .have:=hp.sz;simp only[Ss,Wn,WI,Wt,WU];omega
theorem Pg.ex{k:Int}{p:Pf}{t:Tm}{f:Fm}{n m z:Nat}(hk:k=10\/k=14)(ht:t.shape=true)(hz:t.size<=z)(hz2:z<=4096)(hf:f.shape=true)(hm:f.size<=m)(hm2:m<=4096)(hp:Pg p n):Pg (.mk k 0 (.mk 0 []) [t] [f] [p]) (1+z+m+n):=by
 refine⟨?_,?_,?_⟩
 .rcases hk with rfl|rfl<;>simp[Pf.shape,Pf.Bc,Pf.head,BD,hp.sh,ht,hf,Ty.BL,Ty.kind,Ty.args]
 .simp[Pf.small,Pf.Am,hp.sm];omega
 .have:=hp.sz;simp only[Ss,Wn,WI,Wt,WU];omega
theorem Pg.refl{t:Tm}{n:Nat}(ht:t.shape=true)(hz:t.size<=n)(hn:n<=4096):Pg (wm t) (1+n):=by
 have h:=Pg.of (Uz (s:=t) ((Tm.Ad t).2 ⟨ht,by omega⟩));rw[Zsg] at h;exact h.mono (by omega)
def KC(f:Fm)(t:Tm)(p:Pf):Pf:= .mk 10 0 (.mk 0 []) [t] [f] [p]
theorem Yfj(a b:Tm)(i n:Int):(Bf a b).A9 i n=Bf (a.re (zx (i+0) n) 0) (b.re (zx (i+0) n) 0):=rfl
theorem Pg.some{p:Pf}{t:Tm}{f:Fm}{n m z:Nat}(ht:t.shape=true)(hz:t.size<=z)(hz2:z<=4096)(hf:f.shape=true)(hm:f.size<=m)(hm2:m<=4096)(hp:Pg p n):Pg (KC f t p) (1+z+m+n):=Pg.ex (.inl rfl) ht hz hz2 hf hm hm2 hp
theorem Nb{α:Type}(f g:α->Nat):∀l:List α,(∀x∈l,f x<=65*g x)->(l.map f).sum<=65*(l.map g).sum
 |[],_=>by simp
 |x::l,h=>by
  have h1:=h x (by simp);have h2:=Nb f g l fun y hy=>h y (by simp[hy]);simp only[Wn,Wt];omega
theorem IM(p:Pf):p.shape=true->p.full<=65*p.size:=by
 induction p using Pf.ind with
 |h p ih=>
  intro hs;obtain⟨h1,h2,h3,h4⟩:=ze hs;have ht:p.ty.size<=64:=by
   have hh:=h1;unfold Pf.head at hh;split at hh
   .cases hh
   .rename_i nd _;simp only[Wk] at hh;have h5:=hh.2;split at h5
    .simp only[Ty.ok,Wk,decide_eq_true_eq] at h5;exact h5.2
    .rw[Ty.DK h5];decide
  have a1:=Nb Tm.full Tm.size p.terms fun t ht=>KU t (h2 t ht);have a2:=Nb Fm.full Fm.size p.Ac fun f hf=>ux f (h3 f hf);have a3:=Nb Pf.full Pf.size p.args fun x hx=>ih x hx (h4 x hx);have e1:=p.Af;have e2:=p.size_eq;omega
end Go.Ab
namespace Go.Ab
open Go
set_option linter.all false
abbrev HZ(n:Int):Int:=IntKind.i64.wrap n
def GW(fr by_:Int)(i b:Int):Tm:= .mk 1 (if HZ (i-b)>=fr then HZ (i+by_) else i) (.mk 0 []) []
def Tm.lw(t:Tm)(fr by_:Int):Tm:=t.re (GW fr by_) 0
def Fm.lw(f:Fm)(fr by_:Int):Fm:=f.re (fun b t=>t.lw (fr+b) by_) 0
theorem Ty.EK(t:Ty):1<=t.size:=by cases t;simp only[Ty.size];omega
theorem Tm.Gg(t:Tm):2<=t.full:=by rw[Tm.Af];have:=t.ty.EK;omega
theorem u4{α:Type}{f g:α->Nat}:∀{l:List α},(∀x∈l,f x<=g x)->(l.map f).sum<=(l.map g).sum
 |[],_=>Wj _
 |x::l,h=>by
  simp only[Wn,Wt];have h1:=h x (by simp);have h2:=u4 (l:=l) fun y hy=>h y (by simp[hy]);omega
theorem Tm.Dl{G:Int->Int->Tm}(hG:∀i b,(G i b).full<=2)(t:Tm):∀b,(t.re G b).full<=t.full:=by
 induction t using Tm.ind with
 |h t ih=>
  intro b;by_cases h1:t.kind=1
  .rw[Fp h1];have:=hG t.index b;have:=t.Gg;omega
  .rw[wu h1,t.Af,Tm.Af];simp only[Tm.Ae,Tm.AQ,Xq];have:=u4 (f:=Tm.full∘Tm.re G (up t.kind b)) (g:=Tm.full) fun x hx=>ih x hx (up t.kind b);omega
theorem Fm.Dl{G:Int->Tm->Tm}(hG:∀b t,(G b t).full<=t.full)(f:Fm):∀b,(f.re G b).full<=f.full:=by
 induction f using Fm.ind with
 |h f ih=>
  intro b;rw[f.Af,Fm.Af,Fm.Bt];simp only[Fm.Ah,Fm.Ae,Fm.AQ,Xq];have h1:=u4 (l:=f.terms) (f:=Tm.full∘G b) (g:=Tm.full) fun x _=>hG b x;have h2:=u4 (f:=Fm.full∘Fm.re G (A3 f.kind b)) (g:=Fm.full) fun x hx=>ih x hx (A3 f.kind b);omega
theorem Zs1(fr by_ i b:Int):(GW fr by_ i b).full<=2:=by simp[GW,Tm.full,Tm.Au,Ty.size,Ty.sizes]
theorem SU(t:Tm)(fr by_:Int):(t.lw fr by_).full<=t.full:=Tm.Dl (Zs1 fr by_) t 0
theorem Yap(f:Fm)(fr by_:Int):(f.lw fr by_).full<=f.full:=Fm.Dl (fun b t=>SU t (fr+b) by_) f 0
mutual
def Pf.uw(fr b v:Int):Pf->Pf
 | .mk k i s ts fs zs=> .mk k i s (ts.map fun t=>t.lw (fr+v) b) (fs.map fun f=>f.lw (fr+(v+Aw k)) b) (Pf.DB fr b v (As k) zs)
def Pf.DB(fr b v w:Int):List Pf->List Pf
 |[]=>[]
 |p::l=>Pf.uw fr b (if l.length=0 then v+w else v) p::Pf.DB fr b v w l
end
mutual
def Pf.hw(fr b y:Int):Pf->Pf
 | .mk k i s ts fs zs=>if k=1 then .mk 1 (if HZ (i-y)>=fr then HZ (i+b) else i) (.mk 0 []) [] [] [] else .mk k i s ts fs (Pf.DZ fr b y (At k) zs)
def Pf.DZ(fr b y w:Int):List Pf->List Pf
 |[]=>[]
 |p::l=>Pf.hw fr b (if l.length=0 then y+w else y) p::Pf.DZ fr b y w l
end
theorem Pf.Fx(fr b v:Int)(p:Pf):p.uw fr b v= .mk p.kind p.index p.ty (p.terms.map fun t=>t.lw (fr+v) b) (p.Ac.map fun f=>f.lw (fr+(v+Aw p.kind)) b) (Pf.DB fr b v (As p.kind) p.args):=by cases p;simp only[Pf.uw];rfl
theorem Pf.Gm(fr b y:Int)(p:Pf):p.hw fr b y=if p.kind=1 then .mk 1 (if HZ (p.index-y)>=fr then HZ (p.index+b) else p.index) (.mk 0 []) [] [] [] else .mk p.kind p.index p.ty p.terms p.Ac (Pf.DZ fr b y (At p.kind) p.args):=by cases p;simp only[Pf.hw];rfl
theorem NP(fr b v w:Int):∀l:List Pf,(Pf.DB fr b v w l).length=l.length
 |[]=>by simp only[Pf.DB]
 |p::l=>by simp only[Pf.DB,Wy,NP fr b v w l]
theorem O4(fr b v w:Int):∀l:List Pf,(Pf.DZ fr b v w l).length=l.length
 |[]=>by simp only[Pf.DZ]
 |p::l=>by simp only[Pf.DZ,Wy,O4 fr b v w l]
theorem VJ(fr b v w:Int):∀(l:List Pf) (m:Nat) (h:m<l.length) (h':m<(Pf.DB fr b v w l).length),(Pf.DB fr b v w l)[m]=l[m].uw fr b (if m+1=l.length then v+w else v)
 |p::l,0,h,h'=>by
  simp only[Pf.DB,Wu,Wy];by_cases e:l.length=0
  .rw[if_pos e,if_pos (by omega)]
  .rw[if_neg e,if_neg (by omega)]
 |p::l,m+1,h,h'=>by
  simp only[Pf.DB,WM,Wy,Xz];exact VJ fr b v w l m (by simpa using h) _
theorem Si(fr b v w:Int):∀(l:List Pf) (m:Nat) (h:m<l.length) (h':m<(Pf.DZ fr b v w l).length),(Pf.DZ fr b v w l)[m]=l[m].hw fr b (if m+1=l.length then v+w else v)
 |p::l,0,h,h'=>by
  simp only[Pf.DZ,Wu,Wy];by_cases e:l.length=0
  .rw[if_pos e,if_pos (by omega)]
  .rw[if_neg e,if_neg (by omega)]
 |p::l,m+1,h,h'=>by
  simp only[Pf.DZ,WM,Wy,Xz];exact Si fr b v w l m (by simpa using h) _
theorem Zyy{fr b v w:Int}{l:List Pf}{m:Nat}(h:m<l.length):(Pf.DB fr b v w l).take m++[l[m].uw fr b (if m+1=l.length then v+w else v)]=(Pf.DB fr b v w l).take (m+1):=by
 rw[<-VJ fr b v w l m h (by rw[NP];exact h),Wv]
theorem Yba{fr b v w:Int}{l:List Pf}{m:Nat}(h:m<l.length):(Pf.DZ fr b v w l).take m++[l[m].hw fr b (if m+1=l.length then v+w else v)]=(Pf.DZ fr b v w l).take (m+1):=by
 rw[<-Si fr b v w l m h (by rw[O4];exact h),Wv]
theorem Yed{fr b v w:Int}{l:List Pf}:(Pf.DB fr b v w l).take l.length=Pf.DB fr b v w l:=by rw[<-NP fr b v w l,Wp]
theorem Yfc{fr b v w:Int}{l:List Pf}:(Pf.DZ fr b v w l).take l.length=Pf.DZ fr b v w l:=by rw[<-O4 fr b v w l,Wp]
theorem Vp{fr b v w:Int}:∀{l:List Pf} {x:Pf},x∈Pf.DB fr b v w l->∃y∈l,∃v',x=y.uw fr b v'
 |[],x,h=>by simp[Pf.DB] at h
 |p::l,x,h=>by
  simp only[Pf.DB,WE] at h;rcases h with rfl|h
  .exact ⟨p,by simp,_,rfl⟩
  .obtain ⟨y,hy,e⟩:=Vp h;exact⟨y,by simp[hy],e⟩
theorem Vi{fr b v w:Int}:∀{l:List Pf},(∀p∈l,∀v,(p.uw fr b v).full<=p.full)->((Pf.DB fr b v w l).map Pf.full).sum<=(l.map Pf.full).sum
 |[],_=>by simp[Pf.DB]
 |p::l,h=>by
  simp only[Pf.DB,Wn,Wt];have h1:=h p (by simp) (if l.length=0 then v+w else v);have h2:=Vi (v:=v) (w:=w) (l:=l) fun q hq=>h q (by simp[hq]);omega
theorem Ry{fr b v w:Int}:∀{l:List Pf},(∀p∈l,∀v,(p.hw fr b v).full<=p.full)->((Pf.DZ fr b v w l).map Pf.full).sum<=(l.map Pf.full).sum
 |[],_=>by simp[Pf.DZ]
 |p::l,h=>by
  simp only[Pf.DZ,Wn,Wt];have h1:=h p (by simp) (if l.length=0 then v+w else v);have h2:=Ry (v:=v) (w:=w) (l:=l) fun q hq=>h q (by simp[hq]);omega
theorem Tq(fr b:Int)(p:Pf):∀v,(p.uw fr b v).full<=p.full:=by
 induction p using Pf.ind with
 |h p ih=>
  intro v;rw[p.Af,Pf.Af,Pf.Fx];have h1:=u4 (l:=p.terms) (f:=Tm.full∘fun t=>t.lw (fr+v) b) (g:=Tm.full) fun x _=>SU x (fr+v) b;have h2:=u4 (l:=p.Ac) (f:=Fm.full∘fun t=>t.lw (fr+(v+Aw p.kind)) b) (g:=Fm.full) fun x _=>Yap x (fr+(v+Aw p.kind)) b;have h3:=Vi (v:=v) (w:=As p.kind) ih;simp only[Pf.terms,Pf.Ac,Pf.args,Pf.ty,Xq] at*;omega
theorem Ycq(fr b:Int)(p:Pf):∀v,(p.hw fr b v).full<=p.full:=by
 induction p using Pf.ind with
 |h p ih=>
  intro v;rw[Pf.Gm];by_cases hk:p.kind=1
  .rw[if_pos hk,p.Af];have:=p.ty.EK;simp only[Pf.full,Pf.Au,WI,WU,Ty.size,Ty.sizes];omega
  .rw[if_neg hk,p.Af,Pf.Af];have h3:=Ry (v:=v) (w:=At p.kind) ih;simp only[Pf.terms,Pf.Ac,Pf.args,Pf.ty] at*;omega
mutual
def Pf.nd:Pf->Prop
 | .mk k _ _ _ _ zs=>(∃n,BD k=some n/\zs.length=n.args)/\Pf.Lq zs
def Pf.Lq:List Pf->Prop
 |[]=>True
 |p::l=>Pf.nd p/\Pf.Lq l
end
theorem Tc:∀l:List Pf,Pf.Lq l↔∀p∈l,p.nd
 |[]=>by simp[Pf.Lq]
 |p::l=>by simp[Pf.Lq,Tc l]
theorem Pf.BK(p:Pf):p.nd↔(∃n,BD p.kind=some n/\p.args.length=n.args)/\∀x∈p.args,x.nd:=by
 cases p;simp only[Pf.nd,Tc];rfl
theorem Hw(p:Pf):p.shape=true->p.nd:=by
 induction p using Pf.ind with
 |h p ih=>
  intro hs;obtain⟨nd,n1,n2,n3,n4,_⟩:=xr hs;exact(Pf.BK p).2 ⟨⟨nd,n1,n4⟩,fun x hx=>ih x hx ((ze hs).2.2.2 x hx)⟩
theorem Yi8(fr b:Int)(p:Pf):p.nd->∀v,(p.uw fr b v).nd:=by
 induction p using Pf.ind with
 |h p ih=>
  intro hn v;obtain⟨⟨n,n1,n2⟩,n3⟩:=(Pf.BK p).1 hn;rw[Pf.Fx,Pf.BK];refine⟨⟨n,n1,by rw[<-n2];exact NP _ _ _ _ _⟩,fun x hx=> ?_⟩;obtain⟨y,hy,v',rfl⟩:=Vp hx;exact ih y hy (n3 y hy) v'
def Pf.F3(p:Pf)(v h:Int):Pf:=(p.uw 0 v 0).hw 0 h 0
theorem Zzl(p:Pf)(v h:Int):(p.F3 v h).full<=p.full:=W8 (Ycq _ _ _ _) (Tq _ _ _ _)
def Em:Tm:=B1 Ag (sT (vT 0))
theorem S2{α:Type}{L:List (List α)}{m:Nat}(h:m<L.length):(L.take m).flatten++L[m]=(L.take (m+1)).flatten:=by
 rw[<-Wv h,YK];simp
mutual
def Pf.cn(most:Int):Pf->Int
 | .mk _ _ h ts fs zs=>Pf.Av most (Fm.Av most (Tm.Av most (1+h.cn (most-1)) ts) fs) zs
def Pf.Av(most n:Int):List Pf->Int
 |[]=>n
 |x::l=>if n<=most then Pf.Av most (n+x.cn (most-n)) l else n
end
theorem Pf.CN(most:Int)(t:Pf):t.cn most=Pf.Av most (Fm.Av most (Tm.Av most (1+t.ty.cn (most-1)) t.terms) t.Ac) t.args:=by cases t;simp only[Pf.cn];rfl
theorem Pf.Bx(most:Int):∀(l l':List Pf) (n:Int),Pf.Av most n (l++l')=Pf.Av most (Pf.Av most n l) l'
 |[],l',n=>by simp only[WW,Pf.Av]
 |x::l,l',n=>by
  simp only[Xu,Pf.Av];by_cases h:n<=most
  .rw[if_pos h,if_pos h];exact Pf.Bx most l l' _
  .rw[if_neg h,if_neg h];cases l' with
   |nil=>simp only[Pf.Av]
   |cons y l'=>simp only[Pf.Av];rw[if_neg h]
theorem Pf.BZ{most n:Int}(h:¬n<=most):∀l:List Pf,Pf.Av most n l=n
 |[]=>by simp only[Pf.Av]
 |x::l=>by simp only[Pf.Av];rw[if_neg h]
theorem Pf.BN{most n:Int}{l:List Pf}{m:Nat}(hm:m<l.length)(h:Pf.Av most n (l.take m)<=most):Pf.Av most n (l.take (m+1))=Pf.Av most n (l.take m)+l[m].cn (most-Pf.Av most n (l.take m)):=by
 rw[<-Wv hm,Pf.Bx];simp only[Pf.Av];rw[if_pos h]
theorem Pf.B2{most n:Int}{l:List Pf}{m:Nat}(h:¬Pf.Av most n (l.take m)<=most):Pf.Av most n l=Pf.Av most n (l.take m):=by
 conv=>lhs;rw[<-Xp m l,Pf.Bx,Pf.BZ h]
theorem Fm.Eh(most:Int):∀(l:List Fm) (n:Int),n<=Fm.Av most n l/\(Fm.Av most n l<=n\/Fm.Av most n l<=most+2)/\(Fm.Av most n l<=most->Fm.Av most n l=n+(l.map Fm.full).sum)
 |[],n=>by simp only[Fm.Av];exact⟨by omega,.inl (by omega),fun _=>by simp⟩
 |x::l,n=>by
  simp only[Fm.Av];by_cases h:n<=most
  .rw[if_pos h];obtain⟨a1,a2,a3⟩:=x.BR (most-n);obtain⟨b1,b2,b3⟩:=Fm.Eh most l (n+x.cn (most-n));refine⟨by omega,by omega,fun hc=> ?_⟩;rw[b3 hc,a3 (by omega),Wn,Wt];omega
  .rw[if_neg h];exact⟨by omega,.inl (by omega),fun hc=>absurd hc h⟩
theorem Pf.BR(t:Pf):∀most:Int,1<=t.cn most/\(t.cn most<=2\/t.cn most<=most+2)/\(t.cn most<=most->t.cn most=t.full):=by
 induction t using Pf.ind with
 |h t ih=>
  intro most;rw[Pf.CN,Pf.Af];have key:∀(l:List Pf) (n:Int),(∀x∈l,x∈t.args)->n<=Pf.Av most n l/\(Pf.Av most n l<=n\/Pf.Av most n l<=most+2)/\(Pf.Av most n l<=most->Pf.Av most n l=n+(l.map Pf.full).sum):=by
   intro l;induction l with
   |nil=>intro n _;simp only[Pf.Av];refine⟨by omega,.inl (by omega),fun _=>by simp⟩
   |cons x l ihl=>
    intro n hx;simp only[Pf.Av];by_cases h:n<=most
    .rw[if_pos h];obtain⟨a1,a2,a3⟩:=ih x (hx x (by simp)) (most-n);obtain⟨b1,b2,b3⟩:=ihl (n+x.cn (most-n)) fun y hy=>hx y (by simp[hy]);refine⟨by omega,by omega,fun hc=> ?_⟩;rw[b3 hc,a3 (by omega),Wn,Wt];omega
    .rw[if_neg h];exact⟨by omega,.inl (by omega),fun hc=>absurd hc h⟩
  obtain⟨c1,c2,c3⟩:=t.ty.BR (most-1);obtain⟨d1,d2,d3⟩:=Tm.DJ most t.terms (1+t.ty.cn (most-1));obtain⟨e1,e2,e3⟩:=Fm.Eh most t.Ac (Tm.Av most (1+t.ty.cn (most-1)) t.terms);obtain⟨a1,a2,a3⟩:=key t.args (Fm.Av most (Tm.Av most (1+t.ty.cn (most-1)) t.terms) t.Ac) fun _ h=>h;exact⟨by omega,by omega,fun h=>by rw[a3 h,e3 (by omega),d3 (by omega),c3 (by omega)];omega⟩
def Tm.Rj(t:Tm):Prop:=∀q∈t.vars 0,0<=q.1/\q.1<10000
def Fm.Rj(f:Fm):Prop:=∀q∈f.AZ 0,∀r∈q.1.vars 0,0<=r.1/\r.1<10000
theorem QA(f:Fm):∀(g:List Ty) (b:Int),f.shape=true->f.Bg g->∀q∈f.AZ b,∀r∈q.1.vars 0,0<=r.1/\r.1<g.length+f.size:=by
 induction f using Fm.ind with
 |h f ih=>
  intro g b hs h q hq r hr;rw[f.Ba b,WH] at hq;rw[Fm.Bn] at h;have hsz:=f.size_eq;rcases hq with hq|hq
  .obtain ⟨t,ht,rfl⟩:=WA.1 hq;have hst:=yg hs ht;have h1:=za Tm.size ht;exact⟨t.AE hst 0 r hr,Ly t g 0 (g.length+f.size) (by rw[h.1 t ht]) hst (by omega) r hr⟩
  .obtain ⟨x,hx,hq⟩:=WL.1 hq;have h1:=za Fm.size hx;have hl:(Dx g f).length<=g.length+1:=by unfold Dx;split<;>simp
   have:=ih x hx _ _ (zv hs hx) (h.2 x hx) q hq r hr;omega
def C5(t:Tm):Prop:=t.shape=true/\t.Rj/\t.full<=300000
def DU(f:Fm):Prop:=f.shape=true/\f.Rj/\f.full<=300000
theorem C5.of{g:List Ty}{t:Tm}{T:Ty}(he:t.err=0)(hi:t.inf g=(T,0))(hg:g.length<=20):C5 t:=by
 obtain⟨h1,h2⟩:=(Tm.Ad t).1 he;have h3:=z6 he;refine⟨h1,fun q hq=>⟨t.AE h1 0 q hq,?_⟩,by omega⟩;have:=Ly t g 0 (g.length+t.size) (by rw[hi]) h1 (by omega) q hq;omega
theorem DU.of{g:List Ty}{f:Fm}(he:f.err=0)(ho:f.Bg g)(hg:g.length<=20):DU f:=by
 obtain⟨h1,h2⟩:=(Fm.Ad f).1 he;have h3:=ye he;refine⟨h1,fun q hq r hr=> ?_,by omega⟩;have:=QA f g 0 h1 ho q hq r hr;omega
mutual
def Pf.lx(C:Int):Pf->Prop
 | .mk k i _ _ _ zs=>(k=2->0<=i/\i<C)/\Pf.Jb C zs
def Pf.Jb(C:Int):List Pf->Prop
 |[]=>True
 |p::l=>Pf.lx C p/\Pf.Jb C l
end
theorem Vm(C:Int):∀l:List Pf,Pf.Jb C l↔∀p∈l,p.lx C
 |[]=>by simp[Pf.Jb]
 |p::l=>by simp[Pf.Jb,Vm C l]
theorem Pf.Bw(C:Int)(p:Pf):p.lx C↔(p.kind=2->0<=p.index/\p.index<C)/\∀x∈p.args,x.lx C:=by cases p;simp only[Pf.lx,Vm];rfl
structure Made (n:Nat) (p:Pf):Prop where
 shape:p.shape=true
 full:p.full<=n
 ix:p.ix 10000
 hx:p.hx 10000
 lx:p.lx 10000
theorem Made.up{n m:Nat}{p:Pf}(h:Made n p)(hm:n<=m):Made m p:=⟨h.shape,W8 h.full hm,h.ix,h.hx,h.lx⟩
theorem Made.mk'{k i:Int}{s:Ty}{ts:List Tm}{fs:List Fm}{zs:List Pf}{nd:Nd}{n:Nat}(hn:BD k=some nd)(h1:ts.length=nd.terms)(h2:fs.length=nd.Ac)(h3:zs.length=nd.args)
 (hi:0<=i/\i<10000) (hi2:nd.index=true\/i=0) (hs:if nd.typ=true then s.ok=true else s.BL=true) (hk:k=1->zs=[])
 (ht:∀t∈ts,C5 t) (hf:∀f∈fs,DU f) (hz:∀x∈zs,∃m,Made m x) (hfull:(Pf.mk k i s ts fs zs).full<=n):Made n (Pf.mk k i s ts fs zs):=by
 refine⟨?_,hfull,(Pf.AY _ _).2 ⟨fun t h=>(ht t h).2.1,fun f h=>(hf f h).2.1,fun x h=> ?_⟩,(Pf.A8 _ _).2 ⟨fun _=>hi,fun _ x h=> ?_⟩,(Pf.Bw _ _).2 ⟨fun _=>hi,fun x h=> ?_⟩⟩
 .rw[Pf.Al];simp only[Wk,Wm];refine⟨⟨⟨?_,fun t h=>(ht t h).1⟩,fun f h=>(hf f h).1⟩,fun x h=> ?_⟩
  .unfold Pf.head;simp only[Pf.Ai,Pf.Ah,Pf.Ak,Pf.Ae,Pf.AJ,Pf.AQ,hn,h1,h2,h3,beq_self_eq_true,WZ,hi.1,decide_true];rw[Wk];constructor
   .rcases hi2 with h|h
    .rw[h];rfl
    .rw[h];simp
   .by_cases hty:nd.typ=true
    .rw[if_pos hty] at hs ⊢;exact hs
    .rw[if_neg hty] at hs ⊢;exact hs
  .obtain ⟨m,hm⟩:=hz x h;exact hm.shape
 .obtain ⟨m,hm⟩:=hz x h;exact hm.ix
 .obtain ⟨m,hm⟩:=hz x h;exact hm.hx
 .obtain ⟨m,hm⟩:=hz x h;exact hm.lx
theorem Zxn{s:Ty}(h:s.err=0):s.ok=true:=JA ((Ty.Ad s).1 h).1 ((Ty.Ad s).1 h).2
theorem wo{α:Type}{P:α->Prop}{a:α}(h:P a):∀x∈[a],P x:=fun x hx=>by simp only[WN] at hx;subst hx;exact h
theorem GO{α:Type}{P:α->Prop}{a b:α}(h:P a)(h':P b):∀x∈[a,b],P x:=fun x hx=>by
 simp only[WE,WS,or_false] at hx;rcases hx with rfl|rfl
 .exact h
 .exact h'
theorem uc{α:Type}{P:α->Prop}:∀x∈([]:List α),P x:=fun x hx=>by cases hx
theorem Made.ref{t:Tm}(h:C5 t):Made 300010 (.mk 18 0 (.mk 0 []) [t] [] []):=
 .mk' rfl rfl rfl rfl (by omega) (.inr rfl) rfl (by decide) (wo h) uc uc (by rw[wb,ug];have:=h.2.2;simp;omega)
theorem Made.hyp{i:Int}(h:0<=i/\i<10000):Made 10 (va i):=
 .mk' (nd:=⟨0,0,0,true,false⟩) rfl rfl rfl rfl h (.inl rfl) rfl (fun _=>rfl) uc uc uc (by rw[wb,ug];simp)
theorem Made.lem{i:Int}(h:0<=i/\i<10000):Made 10 (.mk 2 i (.mk 0 []) [] [] []):=
 .mk' (nd:=⟨0,0,0,true,false⟩) rfl rfl rfl rfl h (.inl rfl) rfl (fun _=>rfl) uc uc uc (by rw[wb,ug];simp)
theorem Made.two{k:Int}(hk:k=3\/k=7\/k=11\/k=15){n m:Nat}{p q:Pf}(hp:Made n p)(hq:Made m q):Made (n+m+2) (.mk k 0 (.mk 0 []) [] [] [p,q]):=by
 have h:=hp.full;have h':=hq.full;refine .mk' (nd:=⟨0,0,2,false,false⟩) ?_ rfl rfl rfl (by omega) (.inr rfl) rfl (fun h=>by omega) uc uc (GO ⟨_,hp⟩ ⟨_,hq⟩) (by rw[wb,ug];simp;omega);rcases hk with rfl|rfl|rfl|rfl<;>rfl
theorem Made.one{k:Int}(hk:k=4\/k=5\/k=20){n:Nat}{p:Pf}(hp:Made n p):Made (n+2) (.mk k 0 (.mk 0 []) [] [] [p]):=by
 have h:=hp.full;refine .mk' (nd:=⟨0,0,1,false,false⟩) ?_ rfl rfl rfl (by omega) (.inr rfl) rfl (fun h=>by omega) uc uc (wo ⟨_,hp⟩) (by rw[wb,ug];simp;omega);rcases hk with rfl|rfl|rfl<;>rfl
theorem Made.imp{f:Fm}(hf:DU f){n:Nat}{p:Pf}(hp:Made n p):Made (n+300002) (.mk 6 0 (.mk 0 []) [] [f] [p]):=by
 have h:=hp.full;have h':=hf.2.2;exact .mk' (nd:=⟨0,1,1,false,false⟩) rfl rfl rfl rfl (by omega) (.inr rfl) rfl (fun h=>by omega) uc (wo hf) (wo ⟨_,hp⟩) (by rw[wb,ug];simp;omega)
theorem Made.all{k:Int}(hk:k=8\/k=12){s:Ty}(hs:s.err=0){n:Nat}{p:Pf}(hp:Made n p):Made (n+65) (.mk k 0 s [] [] [p]):=by
 have h:=hp.full;have h':=IC hs;refine .mk' (nd:=⟨0,0,1,false,true⟩) ?_ rfl rfl rfl (by omega) (.inr rfl) (Zxn hs) (fun h=>by omega) uc uc (wo ⟨_,hp⟩) (by rw[wb];simp;omega);rcases hk with rfl|rfl<;>rfl
theorem Made.at_{k:Int}(hk:k=9\/k=13){t:Tm}(ht:C5 t){n:Nat}{p:Pf}(hp:Made n p):Made (n+300002) (.mk k 0 (.mk 0 []) [t] [] [p]):=by
 have h:=hp.full;have h':=ht.2.2;refine .mk' (nd:=⟨1,0,1,false,false⟩) ?_ rfl rfl rfl (by omega) (.inr rfl) rfl (fun h=>by omega) (wo ht) uc (wo ⟨_,hp⟩) (by rw[wb,ug];simp;omega);rcases hk with rfl|rfl<;>rfl
theorem Made.ex{k:Int}(hk:k=10\/k=14){f:Fm}{t:Tm}(hf:DU f)(ht:C5 t){n:Nat}{p:Pf}(hp:Made n p):Made (n+600002) (.mk k 0 (.mk 0 []) [t] [f] [p]):=by
 have h:=hp.full;have h':=ht.2.2;have h2:=hf.2.2;refine .mk' (nd:=⟨1,1,1,false,false⟩) ?_ rfl rfl rfl (by omega) (.inr rfl) rfl (fun h=>by omega) (wo ht) (wo hf) (wo ⟨_,hp⟩) (by rw[wb,ug];simp;omega);rcases hk with rfl|rfl<;>rfl
theorem Made.ind{k:Int}(hk:k=16\/k=17){f:Fm}{t:Tm}(hf:DU f)(ht:C5 t){n m:Nat}{p q:Pf}(hp:Made n p)(hq:Made m q):Made (n+m+600002) (.mk k 0 (.mk 0 []) [t] [f] [p,q]):=by
 have h:=hp.full;have h1:=hq.full;have h':=ht.2.2;have h2:=hf.2.2;refine .mk' (nd:=⟨1,1,2,false,false⟩) ?_ rfl rfl rfl (by omega) (.inr rfl) rfl (fun h=>by omega) (wo ht) (wo hf) (GO ⟨_,hp⟩ ⟨_,hq⟩) (by rw[wb,ug];simp;omega);rcases hk with rfl|rfl<;>rfl
theorem Made.sub{f:Fm}(hf:DU f){n m:Nat}{p q:Pf}(hp:Made n p)(hq:Made m q):Made (n+m+300002) (.mk 19 0 (.mk 0 []) [] [f] [p,q]):=by
 have h:=hp.full;have h1:=hq.full;have h2:=hf.2.2;exact .mk' (nd:=⟨0,1,2,false,false⟩) rfl rfl rfl rfl (by omega) (.inr rfl) rfl (fun h=>by omega) uc (wo hf) (GO ⟨_,hp⟩ ⟨_,hq⟩) (by rw[wb,ug];simp;omega)
mutual
def Pf.pt(a:Int)(s:Tm)(v:Int):Pf->Pf
 | .mk k i h ts fs zs=> .mk k i h (ts.map fun t=>t.re (y9 (a+v) s) 0) (fs.map fun f=>f.put (a+(v+Aw k)) s) (Pf.pts a s v (As k) zs)
def Pf.pts(a:Int)(s:Tm)(v w:Int):List Pf->List Pf
 |[]=>[]
 |p::l=>Pf.pt a s (if l.length=0 then v+w else v) p::Pf.pts a s v w l
end
mutual
def Pf.ph(a:Int)(q:Pf)(v y:Int):Pf->Pf
 | .mk k i h ts fs zs=>if k=1 then(if i-y=a then q.F3 v (a+y) else if i-y>a then va (i-1) else va i) else .mk k i h ts fs (Pf.DA a q v y (As k) (At k) zs)
def Pf.DA(a:Int)(q:Pf)(v y w z:Int):List Pf->List Pf
 |[]=>[]
 |p::l=>Pf.ph a q (if l.length=0 then v+w else v) (if l.length=0 then y+z else y) p::Pf.DA a q v y w z l
end
theorem Pf.Dp(a:Int)(s:Tm)(v:Int)(p:Pf):p.pt a s v= .mk p.kind p.index p.ty (p.terms.map fun t=>t.re (y9 (a+v) s) 0) (p.Ac.map fun f=>f.put (a+(v+Aw p.kind)) s) (Pf.pts a s v (As p.kind) p.args):=by cases p;simp only[Pf.pt];rfl
theorem Pf.EW(a:Int)(q:Pf)(v y:Int)(p:Pf):Pf.ph a q v y p=if p.kind=1 then(if p.index-y=a then q.F3 v (a+y) else if p.index-y>a then va (p.index-1) else va p.index) else .mk p.kind p.index p.ty p.terms p.Ac (Pf.DA a q v y (As p.kind) (At p.kind) p.args):=by cases p;simp only[Pf.ph];rfl
theorem HH(a:Int)(s:Tm)(v w:Int):∀l:List Pf,(Pf.pts a s v w l).length=l.length
 |[]=>by simp only[Pf.pts]
 |p::l=>by simp only[Pf.pts,Wy,HH a s v w l]
theorem K0(a:Int)(q:Pf)(v y w z:Int):∀l:List Pf,(Pf.DA a q v y w z l).length=l.length
 |[]=>by simp only[Pf.DA]
 |p::l=>by simp only[Pf.DA,Wy,K0 a q v y w z l]
theorem Km(a:Int)(s:Tm)(v w:Int):∀(l:List Pf) (m:Nat) (h:m<l.length) (h':m<(Pf.pts a s v w l).length),(Pf.pts a s v w l)[m]=l[m].pt a s (if m+1=l.length then v+w else v)
 |p::l,0,h,h'=>by
  simp only[Pf.pts,Wu,Wy];by_cases e:l.length=0
  .rw[if_pos e,if_pos (by omega)]
  .rw[if_neg e,if_neg (by omega)]
 |p::l,m+1,h,h'=>by
  simp only[Pf.pts,WM,Wy,Xz];exact Km a s v w l m (by simpa using h) _
theorem Oi(a:Int)(q:Pf)(v y w z:Int):∀(l:List Pf) (m:Nat) (h:m<l.length) (h':m<(Pf.DA a q v y w z l).length),(Pf.DA a q v y w z l)[m]=Pf.ph a q (if m+1=l.length then v+w else v) (if m+1=l.length then y+z else y) l[m]
 |p::l,0,h,h'=>by
  simp only[Pf.DA,Wu,Wy];by_cases e:l.length=0
  .rw[if_pos e,if_pos e,if_pos (by omega),if_pos (by omega)]
  .rw[if_neg e,if_neg e,if_neg (by omega),if_neg (by omega)]
 |p::l,m+1,h,h'=>by
  simp only[Pf.DA,WM,Wy,Xz];exact Oi a q v y w z l m (by simpa using h) _
theorem Ug{a:Int}{s:Tm}{v w:Int}{l:List Pf}{m:Nat}(h:m<l.length):(Pf.pts a s v w l).take m++[l[m].pt a s (if m+1=l.length then v+w else v)]=(Pf.pts a s v w l).take (m+1):=by
 rw[<-Km a s v w l m h (by rw[HH];exact h),Wv]
theorem Uo{a:Int}{q:Pf}{v y w z:Int}{l:List Pf}{m:Nat}(h:m<l.length):(Pf.DA a q v y w z l).take m++[Pf.ph a q (if m+1=l.length then v+w else v) (if m+1=l.length then y+z else y) l[m]]=(Pf.DA a q v y w z l).take (m+1):=by
 rw[<-Oi a q v y w z l m h (by rw[K0];exact h),Wv]
theorem Vv{a:Int}{s:Tm}{v w:Int}{l:List Pf}:(Pf.pts a s v w l).take l.length=Pf.pts a s v w l:=by rw[<-HH a s v w l,Wp]
theorem R5{a:Int}{q:Pf}{v y w z:Int}{l:List Pf}:(Pf.DA a q v y w z l).take l.length=Pf.DA a q v y w z l:=by rw[<-K0 a q v y w z l,Wp]
section
variable {α:Type}
mutual
def Pf.Cm(g:Int->Tm->α)(h:Int->Fm->α)(v:Int):Pf->List α
 | .mk k _ _ ts fs zs=>ts.map (g v)++fs.map (h (v+Aw k))++(Pf.AL g h v (As k) zs).flatten
def Pf.AL(g:Int->Tm->α)(h:Int->Fm->α)(v w:Int):List Pf->List (List α)
 |[]=>[]
 |p::l=>Pf.Cm g h (if l.length=0 then v+w else v) p::Pf.AL g h v w l
end
mutual
def Pf.Cv(f:Int->Int->Int->List α)(y:Int):Pf->List α
 | .mk k i _ _ _ zs=>f k i y++(Pf.AM f y (At k) zs).flatten
def Pf.AM(f:Int->Int->Int->List α)(y w:Int):List Pf->List (List α)
 |[]=>[]
 |p::l=>Pf.Cv f (if l.length=0 then y+w else y) p::Pf.AM f y w l
end
variable (g:Int->Tm->α) (h:Int->Fm->α) (f:Int->Int->Int->List α)
theorem Pf.BE(v:Int)(p:Pf):p.Cm g h v=p.terms.map (g v)++p.Ac.map (h (v+Aw p.kind))++(Pf.AL g h v (As p.kind) p.args).flatten:=by cases p;simp only[Pf.Cm];rfl
theorem Pf.BG(y:Int)(p:Pf):p.Cv f y=f p.kind p.index y++(Pf.AM f y (At p.kind) p.args).flatten:=by cases p;simp only[Pf.Cv];rfl
theorem v4(v w:Int):∀l:List Pf,(Pf.AL g h v w l).length=l.length
 |[]=>by simp only[Pf.AL];rfl
 |p::l=>by simp only[Pf.AL,Wy,v4 v w l]
theorem vz(y w:Int):∀l:List Pf,(Pf.AM f y w l).length=l.length
 |[]=>by simp only[Pf.AM];rfl
 |p::l=>by simp only[Pf.AM,Wy,vz y w l]
theorem uv(v w:Int):∀(l:List Pf) (m:Nat) (hm:m<l.length) (h':m<(Pf.AL g h v w l).length),(Pf.AL g h v w l)[m]=l[m].Cm g h (if m+1=l.length then v+w else v)
 |p::l,0,hm,h'=>by
  simp only[Pf.AL,Wu,Wy];by_cases e:l.length=0
  .rw[if_pos e,if_pos (by omega)]
  .rw[if_neg e,if_neg (by omega)]
 |p::l,m+1,hm,h'=>by
  simp only[Pf.AL,WM,Wy,Xz];exact uv v w l m (by simpa using hm) _
theorem um(y w:Int):∀(l:List Pf) (m:Nat) (hm:m<l.length) (h':m<(Pf.AM f y w l).length),(Pf.AM f y w l)[m]=l[m].Cv f (if m+1=l.length then y+w else y)
 |p::l,0,hm,h'=>by
  simp only[Pf.AM,Wu,Wy];by_cases e:l.length=0
  .rw[if_pos e,if_pos (by omega)]
  .rw[if_neg e,if_neg (by omega)]
 |p::l,m+1,hm,h'=>by
  simp only[Pf.AM,WM,Wy,Xz];exact um y w l m (by simpa using hm) _
theorem K6{v w:Int}{l:List Pf}{m:Nat}(hm:m<l.length):((Pf.AL g h v w l).take m).flatten++l[m].Cm g h (if m+1=l.length then v+w else v)=((Pf.AL g h v w l).take (m+1)).flatten:=by
 rw[<-uv g h v w l m hm (by rw[v4];exact hm)];exact S2 _
theorem IX{y w:Int}{l:List Pf}{m:Nat}(hm:m<l.length):((Pf.AM f y w l).take m).flatten++l[m].Cv f (if m+1=l.length then y+w else y)=((Pf.AM f y w l).take (m+1)).flatten:=by
 rw[<-um f y w l m hm (by rw[vz];exact hm)];exact S2 _
theorem K7{v w:Int}{l:List Pf}:(Pf.AL g h v w l).take l.length=Pf.AL g h v w l:=by rw[<-v4 g h v w l,Wp]
theorem IL{y w:Int}{l:List Pf}:(Pf.AM f y w l).take l.length=Pf.AM f y w l:=by rw[<-vz f y w l,Wp]
theorem Ydk(p:Pf):∀v,(p.Cm g h v).length<=p.full:=by
 induction p using Pf.ind with
 |h p ih=>
  intro v;rw[Pf.BE,Pf.Af];have key:∀(l:List Pf) (w:Int),(∀x∈l,x∈p.args)->(Pf.AL g h v w l).flatten.length<=(l.map Pf.full).sum:=by
   intro l w;induction l with
   |nil=>intro _;simp[Pf.AL]
   |cons x l ihl=>
    intro hx;simp only[Pf.AL,Xd,WD,Wn,Wt];have h1:=ih x (hx x (by simp)) (if l.length=0 then v+w else v);have h2:=ihl fun y hy=>hx y (by simp[hy]);omega
  have h1:=key p.args (As p.kind) fun _ h=>h;have h2:=zd Tm.full Tm.Aa p.terms;have h3:=zd Fm.full Fm.Aa p.Ac;simp only[WD,Xt];omega
end
theorem MK{α β:Type}(X R:List β)(l:List α)(f:α->β)(m:Nat)(hm:m<l.length):X++(l.take m).map f++[f l[m]]<+:X++(l.map f++R):=by
 refine⟨(l.drop (m+1)).map f++R,?_⟩;have h0:(l.take m++[l[m]])++l.drop (m+1)=l:=by rw[Wv hm,Xp]
 have h:=congrArg (List.map f) h0;rw[Xv,Xv] at h;rw[<-h];simp only[Wn,WI,Wr]
theorem MW{β:Type}(X:List β)(LL:List (List β))(m:Nat)(hm:m<LL.length):X++(LL.take m).flatten++LL[m]<+:X++LL.flatten:=by
 refine⟨(LL.drop (m+1)).flatten,?_⟩;have h0:(LL.take m++[LL[m]])++LL.drop (m+1)=LL:=by rw[Wv hm,Xp]
 have h:=congrArg List.flatten h0;rw[YK,YK] at h;rw[<-h];simp only[Xd,Xi,WR,Wr]
def CV(l:List (Int×Int)):Prop:=(∀q∈l,(0<=q.1/\q.1<=4096)/\0<=q.2/\q.2<=4096)/\l.length<=1000000000
theorem CV.pre{l l':List (Int×Int)}(h:l<+:l')(ho:CV l'):CV l:=⟨fun q hq=>ho.1 q (h.subset hq),W8 h.length_le ho.2⟩
def CD(n k:Int)(l:List (Int×Int)):Int:=n+(l.map fun q=>q.2*(k-1)).sum
def C3(k:Int)(l:List (Int×Int)):Bool:=l.any fun q=>decide (q.1+q.2*(k-1)>4096)
theorem UR(n k:Int)(l:List (Int×Int))(q:Int×Int):CD n k (l++[q])=CD n k l+q.2*(k-1):=by
 unfold CD;rw[Xv,XY];simp[Xy]
theorem Uu(k:Int)(l:List (Int×Int))(q:Int×Int):C3 k (l++[q])=(C3 k l||decide (q.1+q.2*(k-1)>4096)):=by
 unfold C3;rw[YI];simp
theorem Ri{n k:Int}(hk:1<=k/\k<=4096)(hn:0<=n/\n<=1000000):∀{l:List (Int×Int)},CV l->0<=CD n k l/\CD n k l<=1000000+16777216*l.length:=by
 intro l;induction l with
 |nil=>intro _;simp[CD];omega
 |cons q l ih=>
  intro h;have h1:=ih (⟨fun x hx=>h.1 x (by simp[hx]),by have:=h.2;simp at this;omega⟩);have h2:=(h.1 q (by simp)).2;have e:CD n k (q::l)=CD n k l+q.2*(k-1):=by unfold CD;simp[Int.add_left_comm,ZD]
  have h3:0<=q.2*(k-1):=Yy h2.1 (by omega);have h4:q.2*(k-1)<=4096*4095:=Yz h2.2 (by omega) (by omega) (by omega);rw[e,Wy];omega
def AR(a:Int)(v:Int)(t:Tm):Int×Int:=((t.size:Int),(cnt (a+v) (t.vars 0):Int))
def AU(a:Int)(v:Int)(f:Fm):Int×Int:=((f.size:Int),(wr (a+v) (f.AZ 0):Int))
theorem y6{p:Pf}(h:p.small=true):(∀t∈p.terms,t.size<=4096)/\(∀f∈p.Ac,f.size<=4096)/\∀x∈p.args,x.small=true:=by
 rw[Pf.BT] at h;simp only[Wk,Wm,decide_eq_true_eq] at h;exact⟨h.1.1,h.1.2,h.2⟩
theorem Tn(a:Int)(p:Pf):p.small=true->p.full<=1000000000->∀v,CV (p.Cm (AR a) (AU a) v):=by
 intro hs hf v;refine⟨?_,W8 (Ydk _ _ p v) hf⟩;clear hf;revert hs v;induction p using Pf.ind with
 |h p ih=>
  intro hs v q hq;obtain⟨s1,s2,s3⟩:=y6 hs;rw[Pf.BE,WH,WH] at hq;rcases hq with(hq|hq)|hq
  .obtain ⟨t,ht,rfl⟩:=WA.1 hq;have h1:=s1 t ht;have h2:=JK (a+v) (t.vars 0);have h3:=t.Ce 0;simp only[AR];omega
  .obtain ⟨f,hf,rfl⟩:=WA.1 hq;have h1:=s2 f hf;have h2:=wy f (a+(v+Aw p.kind));simp only[AU];omega
  .obtain ⟨l,hl,hq⟩:=XD.1 hq;obtain⟨m,hm,rfl⟩:=WT hl;rw[v4] at hm;rw[uv _ _ _ _ _ _ hm] at hq;exact ih _ (Wi hm) (s3 _ (Wi hm)) _ q hq
def Dg(k i _y:Int):List Bool:=if k=1 then [decide (i<=536870912)] else []
def vj(a k i y:Int):List Int:=if k=1/\i-y=a then [i] else []
def Tb(k i y:Int):List Int:=if k=1/\i>=y then [i-y] else []
theorem Uh(a:Int)(p:Pf):∀y,(p.Cv (vj a) y).length<=p.full:=by
 induction p using Pf.ind with
 |h p ih=>
  intro y;rw[Pf.BG,Pf.Af,WD];have key:∀(l:List Pf) (w:Int),(∀x∈l,x∈p.args)->(Pf.AM (vj a) y w l).flatten.length<=(l.map Pf.full).sum:=by
   intro l w;induction l with
   |nil=>intro _;simp[Pf.AM]
   |cons x l ihl=>
    intro hx;simp only[Pf.AM,Xd,WD,Wn,Wt];have h1:=ih x (hx x (by simp)) (if l.length=0 then y+w else y);have h2:=ihl fun z hz=>hx z (by simp[hz]);omega
  have h1:=key p.args (At p.kind) fun _ h=>h;have h2:(vj a p.kind p.index y).length<=1:=by unfold vj;split<;>simp
  omega
def Pf.AG(p:Pf):Bool:=(p.Cm (fun(_:Int) (t:Tm)=>t.near) (fun(_:Int) (f:Fm)=>f.near) 0).all id
def Pf.AO(p:Pf):Bool:=(p.Cv Dg 0).all id
theorem Lr(p:Pf):p.shape=true->p.small=true->∀v,(p.Cm (fun(_:Int) (t:Tm)=>t.near) (fun(_:Int) (f:Fm)=>f.near) v).all id=true->p.ix 549755813888:=by
 induction p using Pf.ind with
 |h p ih=>
  intro hs hm v h;obtain⟨s1,s2,s3⟩:=y6 hm;obtain⟨_,s4,s5,s6⟩:=ze hs;rw[Pf.BE,WQ,WQ,Wk,Wk] at h;obtain⟨⟨h1,h2⟩,h3⟩:=h;rw[Wm] at h1 h2 h3;refine(Pf.AY _ p).2 ⟨fun t ht=> ?_,fun f hf=> ?_,fun x hx=> ?_⟩
  .exact PR ((Tm.Ad t).2 ⟨s4 t ht,s1 t ht⟩) (by simpa using h1 t.near (WA.2 ⟨t,ht,rfl⟩))
  .exact Rz ((Fm.Ad f).2 ⟨s5 f hf,s2 f hf⟩) (by simpa using h2 f.near (WA.2 ⟨f,hf,rfl⟩))
  .obtain ⟨m,hm2,rfl⟩:=WT hx;refine ih _ hx (s6 _ hx) (s3 _ hx) (if m+1=p.args.length then v+As p.kind else v) (Wm.2 fun b hb=> ?_);rw[<-uv _ _ v (As p.kind) p.args m hm2 (by rw[v4];exact hm2)] at hb;exact h3 b (XD.2 ⟨_,Wi _,hb⟩)
theorem MM(p:Pf):p.shape=true->∀y,(p.Cv Dg y).all id=true->p.hx 549755813888:=by
 induction p using Pf.ind with
 |h p ih=>
  intro hs y h;obtain⟨hh,_,_,s6⟩:=ze hs;obtain⟨nd,_,_,_,_,hi,_⟩:=F2 hh;rw[Pf.BG,WQ,Wk] at h;obtain⟨h1,h3⟩:=h;rw[Wm] at h3;refine(Pf.A8 _ p).2 ⟨fun hk=>⟨hi,?_⟩,fun _ x hx=> ?_⟩
  .simp[Dg,hk] at h1;omega
  .obtain ⟨m,hm2,rfl⟩:=WT hx;refine ih _ hx (s6 _ hx) (if m+1=p.args.length then y+At p.kind else y) (Wm.2 fun b hb=> ?_);rw[<-um _ y (At p.kind) p.args m hm2 (by rw[vz];exact hm2)] at hb;exact h3 b (XD.2 ⟨_,Wi _,hb⟩)
theorem Ybc(p:Pf):p.ix 10000->∀v,(p.Cm (fun(_:Int) (t:Tm)=>t.near) (fun(_:Int) (f:Fm)=>f.near) v).all id=true:=by
 induction p using Pf.ind with
 |h p ih=>
  intro hix v;obtain⟨i1,i2,i3⟩:=(Pf.AY _ p).1 hix;rw[Pf.BE,WQ,WQ,Wk,Wk];refine⟨⟨Wm.2 fun b hb=> ?_,Wm.2 fun b hb=> ?_⟩,Wm.2 fun b hb=> ?_⟩
  .obtain ⟨t,ht,rfl⟩:=WA.1 hb;exact Wm.2 fun q hq=>by have:=i1 t ht q hq;simp;omega
  .obtain ⟨f,hf,rfl⟩:=WA.1 hb;exact V8 (C:=10000) (by omega) fun q hq r hr=>by have:=i2 f hf q hq r hr;omega
  .obtain ⟨l,hl,hb⟩:=XD.1 hb;obtain⟨m,hm,rfl⟩:=WT hl;rw[v4] at hm;rw[uv _ _ _ _ _ _ hm] at hb;exact Wm.1 (ih _ (Wi hm) (i3 _ (Wi hm)) _) b hb
theorem Zze(p:Pf):p.nd->p.hx 10000->∀y,(p.Cv Dg y).all id=true:=by
 induction p using Pf.ind with
 |h p ih=>
  intro hs hh y;obtain⟨i1,i2⟩:=(Pf.A8 _ p).1 hh;obtain⟨⟨nd0,a1,a2⟩,a3⟩:=(Pf.BK p).1 hs;rw[Pf.BG,WQ,Wk];refine⟨Wm.2 fun b hb=> ?_,Wm.2 fun b hb=> ?_⟩
  .unfold Dg at hb;by_cases hk:p.kind=1
   .rw[if_pos hk] at hb;simp only[WN] at hb;subst hb;have:=i1 hk;simp;omega
   .rw[if_neg hk] at hb;cases hb
  .obtain ⟨l,hl,hb⟩:=XD.1 hb;obtain⟨m,hm,rfl⟩:=WT hl;rw[vz] at hm;rw[um _ _ _ _ _ hm] at hb;have hk:p.kind≠1:=fun e=>by
    rw[e] at a1;simp[BD] at a1;rw[<-a1] at a2;simp at a2;simp[a2] at hm
   exact Wm.1 (ih _ (Wi hm) (a3 _ (Wi hm)) (i2 hk _ (Wi hm)) _) b hb
theorem Gs{p:Pf}{C C':Int}(h:p.ix C)(hc:C<=C'):p.ix C':=by
 induction p using Pf.ind with
 |h p ih=>
  obtain⟨i1,i2,i3⟩:=(Pf.AY _ p).1 h;exact(Pf.AY _ p).2 ⟨fun t ht q hq=>by have:=i1 t ht q hq;omega,fun f hf q hq r hr=>by have:=i2 f hf q hq r hr;omega,fun x hx=>ih x hx (i3 x hx)⟩
theorem Ki{p:Pf}{C C':Int}(h:p.hx C)(hc:C<=C'):p.hx C':=by
 induction p using Pf.ind with
 |h p ih=>
  obtain⟨i1,i2⟩:=(Pf.A8 _ p).1 h;exact(Pf.A8 _ p).2 ⟨fun hk=>by have:=i1 hk;omega,fun hk x hx=>ih x hx (i2 hk x hx)⟩
def FM(p:Pf)(a:Int)(s:Tm):List (Int×Int):=p.Cm (AR a) (AU a) 0
def yu(p:Pf)(a:Int)(s:Tm):Int:=
 if p.err≠0 then p.err else if ¬(0<=a/\a<=4096) then 1 else if s.err≠0 then s.err else if p.AG=false\/s.near=false then 1
 else if C3 s.size (FM p a s)=true\/CD p.size s.size (FM p a s)>16384 then 4 else 0
def E3(p:Pf)(a:Int):Int:=(p.Cv (vj a) 0).length
def wz(p:Pf)(a:Int)(q:Pf):Int:=
 if p.err≠0 then p.err else if ¬(0<=a/\a<=16384) then 1 else if q.err≠0 then q.err else if p.AO=false\/q.AO=false\/q.AG=false then 1
 else if(p.size:Int)+E3 p a*(q.size-1)>16384 then 4 else 0
section
variable {p q:Pf} {fr by_ a:Int} {s:Tm}
theorem Ph(h:p.err≠0):yu p a s=p.err:=by unfold yu;rw[if_pos h]
theorem QJ(h:p.err=0)(ha:¬(0<=a/\a<=4096)):yu p a s=1:=by unfold yu;rw[if_neg (by simp[h]),if_pos ha]
theorem Px(h:p.err=0)(ha:0<=a/\a<=4096)(hs:s.err≠0):yu p a s=s.err:=by unfold yu;rw[if_neg (by simp[h]),if_neg (fun g=>g ha),if_pos hs]
theorem L2(h:p.err=0)(ha:0<=a/\a<=4096)(hs:s.err=0)(hn:p.AG=false\/s.near=false):yu p a s=1:=by unfold yu;rw[if_neg (by simp[h]),if_neg (fun g=>g ha),if_neg (by simp[hs]),if_pos hn]
theorem Pw(h:p.err=0)(ha:0<=a/\a<=4096)(hs:s.err=0)(hn:¬(p.AG=false\/s.near=false)):yu p a s=if C3 s.size (FM p a s)=true\/CD p.size s.size (FM p a s)>16384 then 4 else 0:=by
 unfold yu;rw[if_neg (by simp[h]),if_neg (fun g=>g ha),if_neg (by simp[hs]),if_neg hn]
theorem QC(h:p.err≠0):wz p a q=p.err:=by unfold wz;rw[if_pos h]
theorem Qa(h:p.err=0)(ha:¬(0<=a/\a<=16384)):wz p a q=1:=by unfold wz;rw[if_neg (by simp[h]),if_pos ha]
theorem Pu(h:p.err=0)(ha:0<=a/\a<=16384)(hs:q.err≠0):wz p a q=q.err:=by unfold wz;rw[if_neg (by simp[h]),if_neg (fun g=>g ha),if_pos hs]
theorem OC(h:p.err=0)(ha:0<=a/\a<=16384)(hs:q.err=0)(hn:p.AO=false\/q.AO=false\/q.AG=false):wz p a q=1:=by unfold wz;rw[if_neg (by simp[h]),if_neg (fun g=>g ha),if_neg (by simp[hs]),if_pos hn]
theorem O9(h:p.err=0)(ha:0<=a/\a<=16384)(hs:q.err=0)(hn:¬(p.AO=false\/q.AO=false\/q.AG=false)):wz p a q=if(p.size:Int)+E3 p a*(q.size-1)>16384 then 4 else 0:=by
 unfold wz;rw[if_neg (by simp[h]),if_neg (fun g=>g ha),if_neg (by simp[hs]),if_neg hn]
end
theorem UA{f:Int->Int->Int->List Int}(hf:∀k i y,(f k i y).length<=1)(p:Pf):∀y,(p.Cv f y).length<=p.full:=by
 induction p using Pf.ind with
 |h p ih=>
  intro y;rw[Pf.BG,Pf.Af,WD];have key:∀(l:List Pf) (w:Int),(∀x∈l,x∈p.args)->(Pf.AM f y w l).flatten.length<=(l.map Pf.full).sum:=by
   intro l w;induction l with
   |nil=>intro _;simp[Pf.AM]
   |cons x l ihl=>
    intro hx;simp only[Pf.AM,Xd,WD,Wn,Wt];have h1:=ih x (hx x (by simp)) (if l.length=0 then y+w else y);have h2:=ihl fun z hz=>hx z (by simp[hz]);omega
  have h1:=key p.args (At p.kind) fun _ h=>h;have h2:=hf p.kind p.index y;omega
theorem ML{n:Int}(h: -9223372036854775808<=n/\n<9223372036854775808):HZ n=n:=by
 show IntKind.i64.wrap n=n;rw[IntKind.wrap_i64];omega
theorem Zov(t:Tm):∀b:Int,∀p∈t.vars b,p.2<=b+t.size:=by
 induction t using Tm.ind with
 |h t ih=>
  intro b p hp;have hz:=t.size_eq;rw[Tm.AP] at hp;rcases WH.1 hp with hp|hp
  .by_cases hk:t.kind=1
   .rw[if_pos hk] at hp;simp only[WN] at hp;subst hp;simp only;omega
   .rw[if_neg hk] at hp;cases hp
  .obtain ⟨x,hx,hp⟩:=WL.1 hp;have h1:=ih x hx _ p hp;have h2:=za Tm.size hx;have h3:up t.kind b<=b+1:=by unfold up;split<;>omega
   omega
theorem Vu{t:Tm}{fr by_:Int}(hix:∀q∈t.vars 0,0<=q.1/\q.1<549755813888)(hz:t.size<=1000000)(hb: -1000000<=by_/\by_<=1000000):t.lw fr by_=t.re (zx fr by_) 0:=by
 refine BU t 0 fun q hq=> ?_;have h1:=hix q hq;have h2:=HO t 0 q hq;have h3:=Zov t 0 q hq;simp only[GW,zx];rw[ML (by omega),ML (by omega)]
theorem Yip{f:Fm}{fr by_:Int}(hs:f.shape=true)(hix:∀p∈f.AZ 0,∀q∈p.1.vars 0,0<=q.1/\q.1<549755813888)(hz:f.size<=1000000)(hb: -1000000<=by_/\by_<=1000000):f.lw fr by_=f.A9 fr by_:=by
 refine Fm.BU f 0 fun p hp=> ?_;exact Vu (hix p hp) (by have h1:=KF f 0;have h2:=za (fun(p:Tm×Int)=>p.1.size) hp;omega) hb
theorem U1(fr b v w:Int):∀l:List Pf,(∀p∈l,∀v,p.uw fr b v=p.up fr b v)->Pf.DB fr b v w l=Pf.DT fr b v w l
 |[],_=>by simp only[Pf.DB,Pf.DT]
 |p::l,h=>by
  simp only[Pf.DB,Pf.DT];rw[h p (by simp),U1 fr b v w l fun q hq=>h q (by simp[hq])]
theorem TM{p:Pf}{fr b:Int}(hb: -1000000<=b/\b<=1000000):p.shape=true->p.small=true->p.ix 549755813888->∀v,p.uw fr b v=p.up fr b v:=by
 induction p using Pf.ind with
 |h p ih=>
  intro hs hm hix v;obtain⟨s1,s2,s3⟩:=y6 hm;obtain⟨_,s4,s5,s6⟩:=ze hs;obtain⟨i1,i2,i3⟩:=(Pf.AY _ p).1 hix;rw[Pf.Fx,Pf.ET,U1 _ _ _ _ _ fun x hx v=>ih x hx (s6 x hx) (s3 x hx) (i3 x hx) v];congr 1
  .exact Xc fun t ht=>Vu (i1 t ht) (by have:=s1 t ht;omega) hb
  .exact Xc fun f hf=>Yip (s5 f hf) (i2 f hf) (by have:=s2 f hf;omega) hb
theorem UM{p:Pf}{fr b:Int}(hb: -1000000<=b/\b<=1000000):p.nd->p.hx 549755813888->∀y:Int,(0<=y/\y+p.full<=1000000000000)->p.hw fr b y=p.lh fr b y:=by
 induction p using Pf.ind with
 |h p ih=>
  intro hs hh y hy;obtain⟨i1,i2⟩:=(Pf.A8 _ p).1 hh;obtain⟨⟨nd0,a1,a2⟩,a3⟩:=(Pf.BK p).1 hs;rw[Pf.Gm,Pf.ES];by_cases hk:p.kind=1
  .rw[if_pos hk,if_pos hk];have:=i1 hk;rw[ML (by omega),ML (by omega)]
  .rw[if_neg hk,if_neg hk];have hz:=p.Af;have b2:0<=At p.kind/\At p.kind<=1:=by unfold At;split<;>omega
   congr 1;have key:∀(l:List Pf),(∀x∈l,x∈p.args)->Pf.DZ fr b y (At p.kind) l=Pf.lhs fr b y (At p.kind) l:=by
    intro l;induction l with
    |nil=>intro _;simp only[Pf.DZ,Pf.lhs]
    |cons x l ihl=>
     intro hx;simp only[Pf.DZ,Pf.lhs];have h1:=hx x (by simp);have h2:=za Pf.full h1;rw[ihl fun z hz=>hx z (by simp[hz]),ih x h1 (a3 x h1) (i2 hk x h1) _ (by split<;>omega)]
   exact key p.args fun _ h=>h
theorem Ma{p:Pf}{ts:List Tm}{fs:List Fm}{zs:List Pf}(hs:p.shape=true)(h1:ts.length=p.terms.length)(h2:fs.length=p.Ac.length)(h3:zs.length=p.args.length)
 (a1:∀t∈ts,t.shape=true) (a2:∀f∈fs,f.shape=true) (a3:∀x∈zs,x.shape=true):(Pf.mk p.kind p.index p.ty ts fs zs).shape=true:=by
 obtain⟨h,_⟩:=ze hs;rw[Pf.Al];simp only[Wk,Wm];refine⟨⟨⟨?_,a1⟩,a2⟩,a3⟩;obtain⟨k,i,y,t0,f0,z0⟩:=p;simp only[Pf.Ai,Pf.AJ,Pf.AQ,Pf.Ah,Pf.Ak,Pf.Ae] at h1 h2 h3 ⊢;unfold Pf.head at h ⊢;simp only[Pf.Ai,Pf.AJ,Pf.AQ,Pf.Ah,Pf.Ak,Pf.Ae] at h ⊢;cases hn:BD k with
 |none=>rw[hn] at h;cases h
 |some n=>
  rw[hn] at h;simp only[h1,h2,h3];exact h
theorem Zss{i:Int}(hi:0<=i):(va i).shape=true:=((Pf.Ad _).1 (Zzz hi)).1
theorem SP{p:Pf}(hs:p.shape=true)(hk:p.kind=1):p.size=1:=by
 obtain⟨hh,_⟩:=ze hs;obtain⟨nd,n1,n2,n3,n4,_⟩:=F2 hh;rw[hk] at n1;have e:nd=⟨0,0,0,true,false⟩:=by
  unfold BD at n1;simp at n1;exact n1.symm
 subst e;have e1:=WB n2;have e2:=WB n3;have e3:=WB n4;rw[Pf.size_eq,e1,e2,e3];simp
def Pz(C:Int)(n:Nat)(p:Pf):Prop:=p.shape=true/\p.small=true/\p.size=n/\p.ix C
theorem Pj{p:Pf}(hs:p.shape=true)(hm:p.small=true){ts:List Tm}{fs:List Fm}{zs:List Pf}{C:Int}{k:Nat}(h1:ts.map Tm.size=p.terms.map Tm.size)(h2:fs.map Fm.size=p.Ac.map Fm.size)
 (a1:∀t∈ts,t.shape=true/\∀q∈t.vars 0,0<=q.1/\q.1<C) (a2:∀f∈fs,f.shape=true/\∀p∈f.AZ 0,∀q∈p.1.vars 0,0<=q.1/\q.1<C) (h3:zs.length=p.args.length)
 (a3:∀x∈zs,∃m,Pz C m x) (hk:(zs.map Pf.size).sum=(p.args.map Pf.size).sum+k):Pz C (p.size+k) (Pf.mk p.kind p.index p.ty ts fs zs):=by
 obtain⟨s1,s2,s3⟩:=y6 hm;have e1:ts.length=p.terms.length:=by have:=congrArg List.length h1;simpa using this
 have e2:fs.length=p.Ac.length:=by have:=congrArg List.length h2;simpa using this
 refine⟨Ma hs e1 e2 h3 (fun t h=>(a1 t h).1) (fun f h=>(a2 f h).1) (fun x h=>(a3 x h).choose_spec.1),?_,?_,(Pf.AY _ _).2 ⟨fun t h=>(a1 t h).2,fun f h=>(a2 f h).2,fun x h=>(a3 x h).choose_spec.2.2.2⟩⟩
 .rw[Pf.BT];simp only[Wk,Wm,decide_eq_true_eq,Pf.Ah,Pf.Ak,Pf.Ae];refine⟨⟨fun t h=> ?_,fun f h=> ?_⟩,fun x h=>(a3 x h).choose_spec.2.1⟩
  .have:t.size∈p.terms.map Tm.size:=h1▸WA.2 ⟨t,h,rfl⟩;obtain⟨u,hu,e⟩:=WA.1 this;rw[<-e];exact s1 u hu
  .have:f.size∈p.Ac.map Fm.size:=h2▸WA.2 ⟨f,h,rfl⟩;obtain⟨u,hu,e⟩:=WA.1 this;rw[<-e];exact s2 u hu
 .rw[Pf.size_eq,p.size_eq];simp only[Pf.Ah,Pf.Ak,Pf.Ae,h1,h2,hk];omega
theorem Rd{p:Pf}{fr n C:Int}(hn:0<=n):p.shape=true->p.small=true->p.ix C->∀v,Pz (C+n) p.size (p.up fr n v):=by
 induction p using Pf.ind with
 |h p ih=>
  intro hs hm hix v;obtain⟨s1,s2,s3⟩:=y6 hm;obtain⟨_,s4,s5,s6⟩:=ze hs;obtain⟨i1,i2,i3⟩:=(Pf.AY _ p).1 hix;rw[Pf.ET];have key:∀(l:List Pf),(∀x∈l,x∈p.args)->(∀x∈Pf.DT fr n v (As p.kind) l,∃m,Pz (C+n) m x)/\((Pf.DT fr n v (As p.kind) l).map Pf.size).sum=(l.map Pf.size).sum:=by
   intro l;induction l with
   |nil=>intro _;simp[Pf.DT]
   |cons x l ihl=>
    intro hx;have h0:=hx x (by simp);obtain⟨a1,a2⟩:=ihl fun z hz=>hx z (by simp[hz]);have h1:=ih x h0 (s6 x h0) (s3 x h0) (i3 x h0);simp only[Pf.DT,WE,Wn,Wt];refine⟨fun z hz=> ?_,?_⟩
    .rcases hz with rfl|hz
     .exact ⟨_,h1 _⟩
     .exact a1 z hz
    .rw[a2,(h1 _).2.2.1]
  obtain⟨k1,k2⟩:=key p.args fun _ h=>h;exact Pj (k:=0) hs hm
   (by rw[Xq];exact Xc fun t ht=>J3 (fr+v) n t 0 (s4 t ht))
   (by rw[Xq];exact Xc fun f hf=>(I6 (s5 f hf) (fr:=fr+(v+Aw p.kind)) hn).2.1)
   (fun y hy=>by
    obtain⟨t,ht,rfl⟩:=WA.1 hy;have h1:=vx (fr:=fr+v) 0 (s4 t ht) hn;exact⟨h1,fun q hq=>⟨Tm.AE _ h1 0 q hq,by have:=NX (C:=C-1) (s4 t ht) hn (fun r hr=>by have:=i1 t ht r hr;omega) q hq;omega⟩⟩)
   (fun y hy=>by
    obtain⟨f,hf,rfl⟩:=WA.1 hy;exact⟨(I6 (s5 f hf) hn).1,fun q hq r hr=>by have:=Yey (s5 f hf) (C:=C-1) hn (fun q hq r hr=>by have:=i2 f hf q hq r hr;omega) q hq r hr;omega⟩)
   (JC _ _ _ _ _) k1 (by rw[k2];omega)
theorem PU(C:Int){i:Int}(hi:0<=i):Pz C 1 (va i):=⟨Zss hi,by simp[Pf.BT,va],Zxz i,Yhj C i⟩
theorem R3{p:Pf}{f b C:Int}(hb:0<=b):p.shape=true->p.small=true->p.ix C->∀y,Pz C p.size (p.lh f b y):=by
 induction p using Pf.ind with
 |h p ih=>
  intro hs hm hix y;obtain⟨s1,s2,s3⟩:=y6 hm;obtain⟨hh,s4,s5,s6⟩:=ze hs;obtain⟨i1,i2,i3⟩:=(Pf.AY _ p).1 hix;rw[Pf.ES];by_cases hk:p.kind=1
  .rw[if_pos hk];obtain⟨_,_,_,_,_,hi,_⟩:=F2 hh;have hz:p.size=1:=SP hs hk;rw[hz];exact PU C (by split<;>omega)
  .rw[if_neg hk];have key:∀(l:List Pf),(∀x∈l,x∈p.args)->(∀x∈Pf.lhs f b y (At p.kind) l,∃m,Pz C m x)/\((Pf.lhs f b y (At p.kind) l).map Pf.size).sum=(l.map Pf.size).sum:=by
    intro l;induction l with
    |nil=>intro _;simp[Pf.lhs]
    |cons x l ihl=>
     intro hx;have h0:=hx x (by simp);obtain⟨a1,a2⟩:=ihl fun z hz=>hx z (by simp[hz]);have h1:=ih x h0 (s6 x h0) (s3 x h0) (i3 x h0);simp only[Pf.lhs,WE,Wn,Wt];refine⟨fun z hz=> ?_,?_⟩
     .rcases hz with rfl|hz
      .exact ⟨_,h1 _⟩
      .exact a1 z hz
     .rw[a2,(h1 _).2.2.1]
   obtain⟨k1,k2⟩:=key p.args fun _ h=>h;exact Pj (k:=0) hs hm rfl rfl (fun t ht=>⟨s4 t ht,i1 t ht⟩) (fun f hf=>⟨s5 f hf,i2 f hf⟩) (JR _ _ _ _ _) k1 (by rw[k2];omega)
theorem UZ{p r:Pf}{C:Int}(hR:∀(v h:Int),0<=v->v<=200000->0<=h->h<=200000->Pz (C+200000) r.size (r.F3 v h))(hC:0<=C):
 p.shape=true->p.small=true->p.ix C->∀v y:Int,0<=v->0<=y->v+2*p.size<=200000->y+2*p.size<=200000->Pz (C+200000) (p.size+(p.Cv (vj 0) y).length*(r.size-1)) (Pf.ph 0 r v y p):=by
 induction p using Pf.ind with
 |h p ih=>
  intro hs hm hix v y hv hy hvz hyz;obtain⟨s1,s2,s3⟩:=y6 hm;obtain⟨hh,s4,s5,s6⟩:=ze hs;obtain⟨i1,i2,i3⟩:=(Pf.AY _ p).1 hix;have hz:=p.size_eq;have rp:=r.size_pos;rw[Pf.EW,Pf.BG];by_cases hk:p.kind=1
  .rw[if_pos hk];obtain⟨nd,n1,_,_,n4,hi,_⟩:=F2 hh;have hz1:p.size=1:=SP hs hk;have hnil:p.args=[]:=by
    rw[hk] at n1;simp[BD] at n1;rw[<-n1] at n4;exact WB n4
   rw[hz1,hnil];simp only[Pf.AM,Xi,WR];by_cases h0:p.index-y=0
   .rw[if_pos h0];have e:vj 0 p.kind p.index y=[p.index]:=by unfold vj;rw[if_pos ⟨hk,h0⟩]
    rw[e];have:=hR v (0+y) hv (by omega) (by omega) (by omega)
    rwa [show 1+[p.index].length*(r.size-1)=r.size by simp;omega]
   .rw[if_neg h0];have e:vj 0 p.kind p.index y=[]:=by unfold vj;rw[if_neg (fun h=>h0 h.2)]
    rw[e];simp only[W3,Y8,XR];split
    .exact PU _ (by omega)
    .exact PU _ hi
  .rw[if_neg hk];have e:vj 0 p.kind p.index y=[]:=by unfold vj;rw[if_neg (fun h=>hk h.1)]
   rw[e,WW];have b1:0<=As p.kind/\As p.kind<=2:=by unfold As;split<;>(try split)<;>omega
   have b2:0<=At p.kind/\At p.kind<=1:=by unfold At;split<;>omega
   have key:∀(l:List Pf),(∀x∈l,x∈p.args)->(∀x∈Pf.DA 0 r v y (As p.kind) (At p.kind) l,∃m,Pz (C+200000) m x)/\
    ((Pf.DA 0 r v y (As p.kind) (At p.kind) l).map Pf.size).sum=(l.map Pf.size).sum+(Pf.AM (vj 0) y (At p.kind) l).flatten.length*(r.size-1):=by
    intro l;induction l with
    |nil=>intro _;simp[Pf.DA,Pf.AM]
    |cons x l ihl=>
     intro hx;have h0:=hx x (by simp);have h2:=za Pf.size h0;obtain⟨a1,a2⟩:=ihl fun z hz=>hx z (by simp[hz]);have h1:=ih x h0 (s6 x h0) (s3 x h0) (i3 x h0) (if l.length=0 then v+As p.kind else v) (if l.length=0 then y+At p.kind else y) (by split<;>omega) (by split<;>omega) (by split<;>omega) (by split<;>omega);simp only[Pf.DA,Pf.AM,WE,Wn,Wt,Xd,WD];refine⟨fun z hz=> ?_,?_⟩
     .rcases hz with rfl|hz
      .exact ⟨_,h1⟩
      .exact a1 z hz
     .rw[a2,h1.2.2.1,W9];omega
   obtain⟨k1,k2⟩:=key p.args fun _ h=>h;exact Pj hs hm rfl rfl (fun t ht=>⟨s4 t ht,fun q hq=>by have:=i1 t ht q hq;omega⟩) (fun f hf=>⟨s5 f hf,fun q hq s hs=>by have:=i2 f hf q hq s hs;omega⟩) (K0 _ _ _ _ _ _ _) k1 k2
theorem Pz.err{C:Int}{n:Nat}{p:Pf}(h:Pz C n p)(hn:n<=16384):p.err=0:=(Pf.Ad p).2 ⟨h.1,h.2.1,by rw[h.2.2.1];exact hn⟩
theorem Pz.near{C:Int}{n:Nat}{p:Pf}(h:Pz C n p)(hC:C<=1000000):p.AG=true:=by
 have key:∀(p:Pf),p.ix C->∀v,(p.Cm (fun(_:Int) (t:Tm)=>t.near) (fun(_:Int) (f:Fm)=>f.near) v).all id=true:=by
  intro p;induction p using Pf.ind with
  |h p ih=>
   intro hix v;obtain⟨i1,i2,i3⟩:=(Pf.AY _ p).1 hix;rw[Pf.BE,WQ,WQ,Wk,Wk];refine⟨⟨Wm.2 fun b hb=> ?_,Wm.2 fun b hb=> ?_⟩,Wm.2 fun b hb=> ?_⟩
   .obtain ⟨t,ht,rfl⟩:=WA.1 hb;exact Wm.2 fun q hq=>by have:=i1 t ht q hq;simp;omega
   .obtain ⟨f,hf,rfl⟩:=WA.1 hb;exact V8 hC fun q hq r hr=>by have:=i2 f hf q hq r hr;omega
   .obtain ⟨l,hl,hb⟩:=XD.1 hb;obtain⟨m,hm,rfl⟩:=WT hl;rw[v4] at hm;rw[uv _ _ _ _ _ _ hm] at hb;exact Wm.1 (ih _ (Wi hm) (i3 _ (Wi hm)) _) b hb
 exact key p h.2.2.2 0
theorem Q6(C fr n:Int)(p:Pf):p.hx C->∀v,(p.up fr n v).hx C:=by
 induction p using Pf.ind with
 |h p ih=>
  intro h v;obtain⟨h1,h2⟩:=(Pf.A8 C p).1 h;rw[Pf.ET,Pf.A8];simp only[Pf.Ai,Pf.AJ,Pf.Ae];refine⟨h1,fun hk x hx=> ?_⟩;obtain⟨m,hm,rfl⟩:=WT hx;rw[JC] at hm;rw[NG _ _ _ _ _ _ hm];exact ih _ (Wi hm) (h2 hk _ (Wi hm)) _
theorem Made.err{n:Nat}{p:Pf}(h:Made n p):p.err=0\/p.err=4:=by
 unfold Pf.err;rw[h.shape];simp only[YS,if_false];split
 .exact .inr rfl
 .exact .inl rfl
theorem y5:BM.full=2:=by decide
structure TQ (p r:Pf) (t:Tm) (x y a a' s b:Pf) (e f g h i j:Int):Prop where
 res:(g=4\/j=4)\/(e=0/\f=0/\g=0/\h=0/\i=0/\j=0/\y=p/\a'=b)
 fx:x.full<=200000000
 fa:a.full<=200000000
 fs:s.full<=200000000
 fy:y.full<=200000000
 fa':a'.full<=200000000
 fb:b.full<=200000000
def w9(p:Pf)(a:Int)(s:Tm):Pf:=if yu p a s=0 then p.pt a s 0 else BM
def DY(p:Pf)(a:Int)(q:Pf):Pf:=if wz p a q=0 then Pf.ph a q 0 0 p else BM
theorem J7{p:Pf}{a:Int}{s:Tm}(h:yu p a s≠0):w9 p a s=BM:=if_neg h
theorem PI{p q:Pf}{a:Int}(h:wz p a q≠0):DY p a q=BM:=if_neg h
theorem yj{p:Pf}(h:p.err=0):p.full<=1064960:=by
 have h1:=(Pf.Ad p).1 h;have:=IM p h1.1;omega
def Fy(k:Int)(l:List (Int×Int)):Int:=(l.map fun q=>q.2*(k-1)).sum
theorem Jk(k:Int)(l l':List (Int×Int)):Fy k (l++l')=Fy k l+Fy k l':=by
 unfold Fy;induction l with
 |nil=>simp
 |cons q l ih=>simp only[Xu,Wn,Wt];rw[ih];omega
theorem We(n k:Int)(l:List (Int×Int)):CD n k l=n+Fy k l:=rfl
theorem NU{α:Type}{sz sz':α->Nat}{G:α->Int×Int}{k:Int}(l:List α)(h:∀x∈l,(sz' x:Int)=sz x+(G x).2*(k-1)):(((l.map sz').sum:Nat):Int)=((l.map sz).sum:Nat)+Fy k (l.map G):=by
 unfold Fy;induction l with
 |nil=>simp
 |cons x l ih=>
  have h1:=h x (by simp);have h2:=ih fun y hy=>h y (by simp[hy]);simp only[Wn,Wt];omega
theorem Yi6{s:Tm}{a:Int}(ha:0<=a)(hs:s.shape=true)(p:Pf):p.shape=true->∀v,0<=v->(∀q∈p.Cm (AR a) (AU a) v,q.1+q.2*((s.size:Int)-1)<=4096)->
 (p.pt a s v).shape=true/\(p.pt a s v).small=true/\((p.pt a s v).size:Int)=p.size+Fy s.size (p.Cm (AR a) (AU a) v):=by
 have sp:=s.size_pos;have cast:∀(n c:Nat),((n+c*(s.size-1):Nat):Int)=(n:Int)+(c:Int)*((s.size:Int)-1):=fun n c=>by
  rw[W5,XQ,show(((s.size-1:Nat)):Int)=(s.size:Int)-1 by omega]
 induction p using Pf.ind with
 |h p ih=>
  intro hp v hv hq;obtain⟨_,s4,s5,s6⟩:=ze hp;have fv:0<=Aw p.kind:=by unfold Aw;split<;>(try split)<;>omega
  have b1:0<=As p.kind:=by unfold As;split<;>(try split)<;>omega
  rw[Pf.BE] at hq ⊢;have zt:∀t∈p.terms,((t.re (y9 (a+v) s) 0).size:Int)=t.size+(AR a v t).2*((s.size:Int)-1):=fun t ht=>by
   rw[J4 (a+v) s t hs 0 (s4 t ht),cast];rfl
  have zf:∀f∈p.Ac,((f.put (a+(v+Aw p.kind)) s).size:Int)=f.size+(AU a (v+Aw p.kind) f).2*((s.size:Int)-1):=fun f hf=>by
   have e:(f.put (a+(v+Aw p.kind)) s).size=f.size+wr (a+(v+Aw p.kind)) (f.AZ 0)*(s.size-1):=ua (a+(v+Aw p.kind)) s hs f (s5 f hf) 0;rw[e,cast];unfold AU;rw[show a+(v+Aw p.kind)=a+(v+Aw p.kind) from rfl]
  have key:∀(l:List Pf),(∀x∈l,x∈p.args)->(∀q∈(Pf.AL (AR a) (AU a) v (As p.kind) l).flatten,q.1+q.2*((s.size:Int)-1)<=4096)->
   (∀x∈Pf.pts a s v (As p.kind) l,x.shape=true/\x.small=true)/\((((Pf.pts a s v (As p.kind) l).map Pf.size).sum:Nat):Int)=((l.map Pf.size).sum:Nat)+Fy s.size (Pf.AL (AR a) (AU a) v (As p.kind) l).flatten:=by
   intro l;induction l with
   |nil=>intro _ _;simp[Pf.pts,Pf.AL,Fy]
   |cons x l ihl=>
    intro hx hq;simp only[Pf.AL,Xd,WH] at hq;obtain⟨a1,a2⟩:=ihl (fun z hz=>hx z (by simp[hz])) fun q h=>hq q (.inr h);obtain⟨c1,c2,c3⟩:=ih x (hx x (by simp)) (s6 x (hx x (by simp))) (if l.length=0 then v+As p.kind else v) (by split<;>omega) fun q h=>hq q (.inl h);simp only[Pf.pts,Pf.AL,WE,Wn,Wt,Xd];refine⟨fun z hz=> ?_,?_⟩
    .rcases hz with rfl|hz
     .exact ⟨c1,c2⟩
     .exact a1 z hz
    .rw[Jk,W5,a2,c3];omega
  simp only[WH] at hq;obtain⟨k1,k2⟩:=key p.args (fun _ h=>h) fun q h=>hq q (.inr h);rw[Pf.Dp];refine⟨Ma hp (Xt ..) (Xt ..) (HH _ _ _ _ _) (fun y hy=> ?_) (fun y hy=> ?_) (fun x h=>(k1 x h).1),?_,?_⟩
  .obtain ⟨t,ht,rfl⟩:=WA.1 hy;exact LH 0 hs (s4 t ht) (by omega) (by omega) (fun p hp=>HO t 0 p hp)
  .obtain ⟨f,hf,rfl⟩:=WA.1 hy;exact u3 (by omega) hs (s5 f hf)
  .rw[Pf.BT];simp only[Wk,Wm,decide_eq_true_eq,Pf.Ah,Pf.Ak,Pf.Ae];refine⟨⟨fun y hy=> ?_,fun y hy=> ?_⟩,fun x h=>(k1 x h).2⟩
   .obtain ⟨t,ht,rfl⟩:=WA.1 hy;have:=hq _ (.inl (.inl (WA.2 ⟨t,ht,rfl⟩)));have:=zt t ht;have:(AR a v t).1=t.size:=rfl;omega
   .obtain ⟨f,hf,rfl⟩:=WA.1 hy;have:=hq _ (.inl (.inr (WA.2 ⟨f,hf,rfl⟩)));have:=zf f hf;have:(AU a (v+Aw p.kind) f).1=f.size:=rfl;omega
  .rw[Pf.size_eq,p.size_eq];simp only[Pf.Ah,Pf.Ak,Pf.Ae,Xq];have q1:=NU (sz:=Tm.size) (sz':=Tm.size∘fun t=>t.re (y9 (a+v) s) 0) (G:=AR a v) (k:=s.size) p.terms zt;have q2:=NU (sz:=Fm.size) (sz':=Fm.size∘fun f=>f.put (a+(v+Aw p.kind)) s) (G:=AU a (v+Aw p.kind)) (k:=s.size) p.Ac zf;rw[Jk,Jk];omega
theorem Yjn(C a:Int)(s:Tm)(p:Pf):p.hx C->∀v,(p.pt a s v).hx C:=by
 induction p using Pf.ind with
 |h p ih=>
  intro h v;obtain⟨h1,h2⟩:=(Pf.A8 C p).1 h;rw[Pf.Dp,Pf.A8];simp only[Pf.Ai,Pf.AJ,Pf.Ae];refine⟨h1,fun hk x hx=> ?_⟩;obtain⟨m,hm,rfl⟩:=WT hx;rw[HH] at hm;rw[Km _ _ _ _ _ _ hm];exact ih _ (Wi hm) (h2 hk _ (Wi hm)) _
theorem Yjk(C a:Int)(s:Tm)(p:Pf):p.lx C->∀v,(p.pt a s v).lx C:=by
 induction p using Pf.ind with
 |h p ih=>
  intro h v;obtain⟨h1,h2⟩:=(Pf.Bw C p).1 h;rw[Pf.Dp,Pf.Bw];simp only[Pf.Ai,Pf.AJ,Pf.Ae];refine⟨h1,fun x hx=> ?_⟩;obtain⟨m,hm,rfl⟩:=WT hx;rw[HH] at hm;rw[Km _ _ _ _ _ _ hm];exact ih _ (Wi hm) (h2 _ (Wi hm)) _
theorem PE{p:Pf}{C C':Int}(h:p.lx C)(hc:C<=C'):p.lx C':=by
 induction p using Pf.ind with
 |h p ih=>
  obtain⟨h1,h2⟩:=(Pf.Bw C p).1 h;exact(Pf.Bw C' p).2 ⟨fun hk=>by have:=h1 hk;omega,fun x hx=>ih x hx (h2 x hx)⟩
def z7(p:Pf):Int×Int:=if p.kind=16\/p.kind=17 then(p.kind,(p.terms.getD 0 A4).kind) else if 0<p.args.length then(p.kind,(p.args.getD 0 BM).kind) else(p.kind,0)
def DV:List (Int×Int):=[(4,3),(5,3),(7,6),(9,8),(13,12),(11,10),(15,14),(16,4),(16,5),(17,7),(17,8)]
theorem QH{p:Pf}(h:p.kind=16\/p.kind=17):z7 p=(p.kind,(p.terms.getD 0 A4).kind):=if_pos h
theorem Mj{p:Pf}(h:¬(p.kind=16\/p.kind=17))(h0:0<p.args.length):z7 p=(p.kind,(p.args.getD 0 BM).kind):=by unfold z7;rw[if_neg h,if_pos h0]
theorem QD{p:Pf}(h:¬(p.kind=16\/p.kind=17))(h0:¬0<p.args.length):z7 p=(p.kind,0):=by unfold z7;rw[if_neg h,if_neg h0]
def xl(p:Pf):Bool:=decide (z7 p∈DV)
def wd(q:Pf)(t:Tm)(p:Pf):Pf×Int:=if yu q 0 t≠0 then(BM,yu q 0 t) else(DY (w9 q 0 t) 0 p,wz (w9 q 0 t) 0 p)
def vq(p:Pf)(t:Tm):Pf:= .mk p.kind p.index p.ty [t] p.Ac p.args
def Pf.arg(p:Pf)(i:Nat):Pf:=p.args.getD i BM
def Pf.EE(p:Pf):Tm:=p.terms.getD 0 A4
def D7(t:Tm):Tm:=if yx t 0 1=0 then t.re (zx 0 1) 0 else A4
def Gr(p:Pf)(h l:Tm):Pf×Int:=
 if yx l 0 1≠0 then(BM,yx l 0 1) else if yu (p.arg 1) 0 (D7 l)≠0 then(BM,yu (p.arg 1) 0 (D7 l)) else wd (w9 (p.arg 1) 0 (D7 l)) h (vq p l)
def zj(p:Pf):Pf×Int:=
 if z7 p=(4,3) then((p.arg 0).arg 0,0)
 else if z7 p=(5,3) then((p.arg 0).arg 1,0)
 else if z7 p=(7,6) then(DY ((p.arg 0).arg 0) 0 (p.arg 1),wz ((p.arg 0).arg 0) 0 (p.arg 1))
 else if z7 p=(9,8)\/z7 p=(13,12) then(w9 ((p.arg 0).arg 0) 0 p.EE,yu ((p.arg 0).arg 0) 0 p.EE)
 else if z7 p=(11,10)\/z7 p=(15,14) then wd (p.arg 1) (p.arg 0).EE ((p.arg 0).arg 0)
 else if z7 p=(16,5) then wd (p.arg 1) (p.EE.args.getD 0 A4) (vq p (p.EE.args.getD 0 A4))
 else if z7 p=(17,8) then Gr p (p.EE.args.getD 0 A4) (p.EE.args.getD 1 A4)
 else(p.arg 0,0)
mutual
def Pf.nx:Pf->Pf×Bool×Int
 | .mk k i s ts fs zs=>if xl (.mk k i s ts fs zs)=true then((zj (.mk k i s ts fs zs)).1,true,(zj (.mk k i s ts fs zs)).2)
   else(.mk k i s ts fs (Pf.CQ zs).1,(Pf.CQ zs).2.1,(Pf.CQ zs).2.2)
def Pf.CQ:List Pf->List Pf×Bool×Int
 |[]=>([],false,0)
 |p::l=>if(Pf.nx p).2.1=true\/(Pf.nx p).2.2≠0 then((Pf.nx p).1::l,(Pf.nx p).2.1,(Pf.nx p).2.2) else(p::(Pf.CQ l).1,(Pf.CQ l).2.1,(Pf.CQ l).2.2)
end
theorem Pf.CF(p:Pf):p.nx=if xl p=true then((zj p).1,true,(zj p).2) else(.mk p.kind p.index p.ty p.terms p.Ac (Pf.CQ p.args).1,(Pf.CQ p.args).2.1,(Pf.CQ p.args).2.2):=by cases p;simp only[Pf.nx];rfl
mutual
def Pf.direct:Pf->Bool
 | .mk k i s ts fs zs=>if xl (.mk k i s ts fs zs)=true then false else Pf.C7 zs
def Pf.C7:List Pf->Bool
 |[]=>true
 |p::l=>Pf.direct p&&Pf.C7 l
end
theorem Pf.CO(p:Pf):p.direct=if xl p=true then false else Pf.C7 p.args:=by cases p;simp only[Pf.direct];rfl
theorem NN:∀l:List Pf,Pf.C7 l=l.all Pf.direct
 |[]=>rfl
 |p::l=>by simp only[Pf.C7,Xh,NN l]
def yn(p:Pf):Pf×Bool×Int:=if p.nx.2.2≠0\/p.nx.1.err≠0 then(BM,false,4) else(p.nx.1,p.nx.2.1,0)
theorem Pp{p:Pf}(hs:p.shape=true):(p.kind=16\/p.kind=17->p.terms≠[]):=by
 intro h;obtain⟨hh,_⟩:=ze hs;obtain⟨nd,n1,n2,_⟩:=F2 hh;have:nd.terms=1:=by
  rcases h with h|h<;>(rw[h] at n1;unfold BD at n1;simp at n1;rw[<-n1])
 intro hc;rw[hc,this] at n2;cases n2
theorem VK{p:Pf}{a:Int}{t:Tm}(h:yu p a t=0):p.err=0/\(0<=a/\a<=4096)/\t.err=0/\p.AG=true/\t.near=true/\C3 t.size (FM p a t)=false/\CD p.size t.size (FM p a t)<=16384:=by
 have h1:p.err=0:=Xa fun hc=>by rw[Ph hc] at h;exact hc h
 have h2:0<=a/\a<=4096:=Xa fun hc=>by rw[QJ h1 hc] at h;cases h
 have h3:t.err=0:=Xa fun hc=>by rw[Px h1 h2 hc] at h;exact hc h
 have h4:¬(p.AG=false\/t.near=false):=fun hc=>by rw[L2 h1 h2 h3 hc] at h;cases h
 rw[Pw h1 h2 h3 h4] at h;have h5:¬(C3 t.size (FM p a t)=true\/CD p.size t.size (FM p a t)>16384):=fun hc=>by rw[if_pos hc] at h;cases h
 refine⟨h1,h2,h3,?_,?_,?_,?_⟩
 .cases e:p.AG with|true=>rfl|false=>exact absurd (.inl e) h4
 .cases e:t.near with|true=>rfl|false=>exact absurd (.inr e) h4
 .cases e:C3 t.size (FM p a t) with|false=>rfl|true=>exact absurd (.inl e) h5
 .exact Int.not_lt.1 fun e=>h5 (.inr e)
theorem Ua{p:Pf}{a:Int}{t:Tm}(h:yu p a t=0):(w9 p a t).err=0:=by
 obtain⟨h1,h2,h3,_,_,hB,hN⟩:=VK h;obtain⟨g1,g2,g3⟩:=(Pf.Ad p).1 h1;have e:w9 p a t=p.pt a t 0:=by unfold w9;rw[if_pos h]
 unfold C3 at hB;rw[List.any_eq_false] at hB;rw[We] at hN;obtain⟨k1,k2,k3⟩:=Yi6 h2.1 ((Tm.Ad t).1 h3).1 p g1 0 (by omega) fun q hq=>by
  have:=hB q hq;simp at this;omega
 unfold FM at hN;rw[e,Pf.Ad];exact⟨k1,k2,by omega⟩
theorem RL{p q:Pf}{a:Int}(h:wz p a q=0):p.err=0/\(0<=a/\a<=16384)/\q.err=0/\p.AO=true/\q.AO=true/\q.AG=true/\(p.size:Int)+E3 p a*(q.size-1)<=16384:=by
 have h1:p.err=0:=Xa fun hc=>by rw[QC hc] at h;exact hc h
 have h2:0<=a/\a<=16384:=Xa fun hc=>by rw[Qa h1 hc] at h;cases h
 have h3:q.err=0:=Xa fun hc=>by rw[Pu h1 h2 hc] at h;exact hc h
 have h4:¬(p.AO=false\/q.AO=false\/q.AG=false):=fun hc=>by rw[OC h1 h2 h3 hc] at h;cases h
 rw[O9 h1 h2 h3 h4] at h;refine⟨h1,h2,h3,?_,?_,?_,?_⟩
 .cases e:p.AO with|true=>rfl|false=>exact absurd (.inl e) h4
 .cases e:q.AO with|true=>rfl|false=>exact absurd (.inr (.inl e)) h4
 .cases e:q.AG with|true=>rfl|false=>exact absurd (.inr (.inr e)) h4
 .exact Int.not_lt.1 fun e=>by rw[if_pos e] at h;cases h
theorem JW{α:Type}{P:α->Int->Prop}(hP:∀x c c',P x c->c<=c'->P x c')(c0:Int):∀l:List α,(∀x∈l,∃c,P x c)->∃c,c0<=c/\∀x∈l,P x c
 |[],_=>⟨c0,by omega,fun x h=>by cases h⟩
 |x::l,h=>by
  obtain⟨c,h1,h2⟩:=JW hP c0 l fun y hy=>h y (by simp[hy]);obtain⟨d,h3⟩:=h x (by simp);by_cases hcd:c<=d
  .exact ⟨d,by omega,fun y hy=>by rcases WE.1 hy with rfl|hy;exact h3;exact hP _ _ _ (h2 y hy) hcd⟩
  .exact ⟨c,h1,fun y hy=>by rcases WE.1 hy with rfl|hy;exact hP _ _ _ h3 (by omega);exact h2 y hy⟩
theorem Ydp(p:Pf):p.shape=true->∃C:Int,549755813888<=C/\p.ix C:=by
 induction p using Pf.ind with
 |h p ih=>
  intro hs;obtain⟨_,s4,s5,s6⟩:=ze hs;have bv:∀l:List (Int×Int),(∀q∈l,0<=q.1)->∃c,(549755813888:Int)<=c/\∀q∈l,0<=q.1/\q.1<c:=fun l hl=>
   JW (P:=fun(q:Int×Int) c=>0<=q.1/\q.1<c) (fun x c c' h h'=>⟨h.1,by omega⟩) _ l fun q hq=>⟨q.1+1,hl q hq,by omega⟩
  obtain⟨c1,g1,k1⟩:=JW (P:=fun(t:Tm) c=>∀q∈t.vars 0,0<=q.1/\q.1<c) (fun x c c' h h' q hq=>⟨(h q hq).1,by have:=(h q hq).2;omega⟩) 549755813888 p.terms fun t ht=>by
   obtain⟨c,_,h⟩:=bv (t.vars 0) fun q hq=>t.AE (s4 t ht) 0 q hq;exact⟨c,h⟩
  obtain⟨c2,g2,k2⟩:=JW (P:=fun(f:Fm) c=>∀z∈f.AZ 0,∀q∈z.1.vars 0,0<=q.1/\q.1<c) (fun x c c' h h' z hz q hq=>⟨(h z hz q hq).1,by have:=(h z hz q hq).2;omega⟩) 549755813888 p.Ac fun f hf=>by
   obtain⟨c,_,h⟩:=JW (P:=fun(z:Tm×Int) c=>∀q∈z.1.vars 0,0<=q.1/\q.1<c) (fun x c c' h h' q hq=>⟨(h q hq).1,by have:=(h q hq).2;omega⟩) 0 (f.AZ 0) fun z hz=>by
    obtain⟨c,_,h⟩:=bv (z.1.vars 0) fun q hq=>z.1.AE (JD f (s5 f hf) 0 z hz) 0 q hq;exact⟨c,h⟩
   exact⟨c,h⟩
  obtain⟨c3,g3,k3⟩:=JW (P:=fun(x:Pf) c=>x.ix c) (fun x c c' h h'=>Gs h h') 549755813888 p.args fun x hx=>by
   obtain⟨c,_,h⟩:=ih x hx (s6 x hx);exact⟨c,h⟩
  refine⟨c1+c2+c3,by omega,(Pf.AY _ p).2 ⟨fun t ht q hq=>⟨(k1 t ht q hq).1,by have:=(k1 t ht q hq).2;omega⟩,fun f hf z hz q hq=>⟨(k2 f hf z hz q hq).1,by have:=(k2 f hf z hz q hq).2;omega⟩,fun x hx=>Gs (k3 x hx) (by omega)⟩⟩
theorem Sx{r:Pf}(he:r.err=0)(hn:r.AG=true)(hh:r.AO=true){v h:Int}(hv:0<=v/\v<=200000)(hh2:0<=h/\h<=200000):
 r.F3 v h=(r.up 0 v 0).lh 0 h 0/\Pz (549755813888+v) r.size ((r.up 0 v 0).lh 0 h 0):=by
 obtain⟨hs,hm,hz⟩:=(Pf.Ad r).1 he;have hi:=Lr r hs hm 0 hn;have hx:=MM r hs 0 hh;have h1:=Rd (fr:=0) (n:=v) (C:=549755813888) hv.1 hs hm hi 0;have hf:=IM _ h1.1;have h2:=h1.2.2.1;unfold Pf.F3;rw[TM (by omega) hs hm hi 0];rw[UM (by omega) (Hw _ h1.1) (Q6 _ _ _ _ hx 0) 0 (by omega)];refine⟨rfl,?_⟩;have:=R3 (f:=0) (b:=h) hh2.1 h1.1 h1.2.1 h1.2.2.2 0
 rwa [h2] at this
theorem OE{p q:Pf}(h:wz p 0 q=0):(DY p 0 q).err=0:=by
 obtain⟨h1,_,h3,n1,n2,n3,hN⟩:=RL h;obtain⟨g1,g2,g3⟩:=(Pf.Ad p).1 h1;have rp:=q.size_pos;have e:DY p 0 q=Pf.ph 0 q 0 0 p:=by unfold DY;rw[if_pos h]
 have hsz:((p.size+(p.Cv (vj 0) 0).length*(q.size-1):Nat):Int)=(p.size:Int)+E3 p 0*(q.size-1):=by
  unfold E3;rw[W5,XQ,show(((q.size-1:Nat)):Int)=(q.size:Int)-1 by omega]
 obtain⟨C,hC,hix⟩:=Ydp p g1;have hA:Pz _ _ (Pf.ph 0 q 0 0 p):=UZ (p:=p) (r:=q) (C:=C) (fun v h q1 q2 q3 q4=>by
  obtain⟨w1,w2⟩:=Sx h3 n3 n2 ⟨q1,q2⟩ ⟨q3,q4⟩;rw[w1];exact⟨w2.1,w2.2.1,w2.2.2.1,Gs w2.2.2.2 (by omega)⟩) (by omega) g1 g2 hix 0 0 (by omega) (by omega) (by omega) (by omega)
 rw[e];exact hA.err (by omega)
theorem x6(p:Pf)(a:Int)(t:Tm):(w9 p a t).full<=1064960:=by
 by_cases h:yu p a t=0
 .exact yj (Ua h)
 .rw[J7 h,y5];omega
theorem TW(p q:Pf):(DY p 0 q).full<=1064960:=by
 by_cases h:wz p 0 q=0
 .exact yj (OE h)
 .rw[PI h,y5];omega
theorem TO(q:Pf)(t:Tm)(p:Pf):(wd q t p).1.full<=1064960:=by
 unfold wd;split
 .simp only[y5];omega
 .exact TW _ _
theorem Q8(p:Pf):2<=p.full:=by rw[p.Af];have:=p.ty.size_pos;omega
theorem QM(p:Pf)(i:Nat):(p.arg i).full<=p.full:=by
 unfold Pf.arg;by_cases h:i<p.args.length
 .rw[GB h];have h1:=za Pf.full (Wi h);rw[p.Af];omega
 .rw[List.getD,XG (by omega)];exact W8 (Yu y5) (Q8 p)
theorem Zpf(p:Pf):(zj p).1.full<=p.full+1064960:=by
 have h0:=QM p 0;have h1:=QM (p.arg 0) 0;have h2:=QM (p.arg 0) 1;unfold zj;repeat' split
 all_goals first
  |(simp only;omega)
  |(have:=TW ((p.arg 0).arg 0) (p.arg 1);simp only;omega)
  |(have:=x6 ((p.arg 0).arg 0) 0 p.EE;simp only;omega)
  |(exact W8 (TO _ _ _) (by omega))
  |(unfold Gr;split
    .simp only[y5];omega
    .split
     .simp only[y5];omega
     .exact W8 (TO _ _ _) (by omega))
theorem ON(p:Pf):p.nx.1.full<=p.full+1064960:=by
 induction p using Pf.ind with
 |h p ih=>
  rw[Pf.CF];split
  .exact Zpf p
  .have key:∀l:List Pf,(∀x∈l,x∈p.args)->((Pf.CQ l).1.map Pf.full).sum<=(l.map Pf.full).sum+1064960:=by
    intro l;induction l with
    |nil=>intro _;simp[Pf.CQ]
    |cons x l ihl=>
     intro hx;have h1:=ih x (hx x (by simp));have h2:=ihl fun z hz=>hx z (by simp[hz]);simp only[Pf.CQ];split
     .simp only[Wn,Wt];omega
     .simp only[Wn,Wt];omega
   have h1:=key p.args fun _ h=>h;simp only;rw[Pf.Af,p.Af];simp only[Pf.AQ,Pf.Ah,Pf.Ak,Pf.Ae];omega
theorem Kn(p:Pf):(z7 p).1=p.kind:=by unfold z7;split;rfl;split<;>rfl
theorem Oo:∀(l:List Pf) (m:Nat) (hm:m<l.length),(∀i (hi:i<l.length),i<m->l[i].nx.2.1=false/\l[i].nx.2.2=0)->(l[m].nx.2.1=true\/l[m].nx.2.2≠0)->Pf.CQ l=(l.set m l[m].nx.1,l[m].nx.2.1,l[m].nx.2.2)
 |p::l,0,hm,h,hx=>by simp only[Pf.CQ,Wu] at hx ⊢;rw[if_pos hx];rfl
 |p::l,m+1,hm,h,hx=>by
  have h0:=h 0 (by simp) (by omega);simp only[Wu] at h0;simp only[Pf.CQ,WM];rw[if_neg (by simp[h0.1,h0.2]),Oo l m (by simpa using hm) (fun i hi him=>h (i+1) (by simpa using hi) (by omega)) hx]
  rfl
theorem NJ:∀(l:List Pf),(∀i (hi:i<l.length),l[i].nx.2.1=false/\l[i].nx.2.2=0)->Pf.CQ l=(l,false,0)
 |[],_=>rfl
 |p::l,h=>by
  have h0:=h 0 (by simp);simp only[Wu] at h0;simp only[Pf.CQ];rw[if_neg (by simp[h0.1,h0.2]),NJ l fun i hi=>h (i+1) (by simpa using hi)]
def De(k i _y:Int):List Bool:=if k=1\/k=2 then [decide (i<=536870912)] else []
def Pf.BB(p:Pf):Bool:=([p.AG&&p.AO]++p.Cv De 0).all id
def FH:Nat->Pf->Int->Pf×Int×Int
 |0,p,n=>if p.direct=true then(p,n,0) else(BM,0,5)
 |k+1,p,n=>if(yn p).2.2≠0 then(BM,0,(yn p).2.2) else if(yn p).2.1=false then(p,n,0) else FH k (yn p).1 (n+1)
def FJ(p:Pf):Pf×Bool×Int:=if p.err≠0 then(BM,false,p.err) else if p.BB=false then(BM,false,1) else if(yn p).2.2≠0 then(BM,false,(yn p).2.2) else yn p
def Gd(p:Pf)(s:Int):Pf×Int×Int:=if p.err≠0 then(BM,0,p.err) else if s<0\/s>65536\/p.BB=false then(BM,0,1) else FH s.toNat p 0
theorem H9{p:Pf}(h:(yn p).2.2=0):p.nx.2.2=0/\(yn p).1=p.nx.1/\(yn p).2.1=p.nx.2.1/\p.nx.1.err=0:=by
 unfold yn at h ⊢;by_cases hc:p.nx.2.2≠0\/p.nx.1.err≠0
 .rw[if_pos hc] at h;cases h
 .rw[if_neg hc];exact⟨Ws.1 fun h=>hc (.inl h),rfl,rfl,Ws.1 fun h=>hc (.inr h)⟩
theorem Um(p:Pf):Pf.mk p.kind p.index p.ty p.terms p.Ac p.args=p:=by cases p;rfl
theorem Zvz(p:Pf):p.direct=true->p.nx=(p,false,0):=by
 induction p using Pf.ind with
 |h p ih=>
  intro h;rw[Pf.CO] at h;have hr:¬xl p=true:=fun hc=>by rw[if_pos hc] at h;cases h
  rw[if_neg hr,NN,Wm] at h;rw[Pf.CF,if_neg hr,NJ p.args fun i hi=>by rw[ih _ (Wi hi) (h _ (Wi hi))];exact⟨rfl,rfl⟩];rw[Um]
theorem Zyg(p:Pf):p.nx.2.1=false->p.nx.2.2=0->p.direct=true/\p.nx.1=p:=by
 induction p using Pf.ind with
 |h p ih=>
  intro h1 h2;have hr:¬xl p=true:=fun hc=>by rw[Pf.CF,if_pos hc] at h1;cases h1
  rw[Pf.CF,if_neg hr] at h1 h2 ⊢;simp only at h1 h2 ⊢;have key:∀l:List Pf,(∀x∈l,x∈p.args)->(Pf.CQ l).2.1=false->(Pf.CQ l).2.2=0->(∀x∈l,x.direct=true)/\(Pf.CQ l).1=l:=by
   intro l;induction l with
   |nil=>intro _ _ _;exact⟨fun x h=>by(cases h),rfl⟩
   |cons x l ihl=>
    intro hx g1 g2;simp only[Pf.CQ] at g1 g2 ⊢;by_cases hc:x.nx.2.1=true\/x.nx.2.2≠0
    .rw[if_pos hc] at g1 g2;simp only at g1 g2;rcases hc with hc|hc
     .rw[g1] at hc;cases hc
     .exact absurd g2 hc
    .rw[if_neg hc] at g1 g2 ⊢;simp only at g1 g2 ⊢;obtain⟨a1,a2⟩:=ihl (fun z hz=>hx z (by simp[hz])) g1 g2;obtain⟨b1,b2⟩:=ih x (hx x (by simp)) (by cases e:x.nx.2.1 with|false=>rfl|true=>exact absurd (.inl e) hc) (Xa fun e=>hc (.inr e));refine⟨fun y hy=> ?_,by rw[a2]⟩;rcases WE.1 hy with rfl|hy
     .exact b1
     .exact a1 y hy
  obtain⟨k1,k2⟩:=key p.args (fun _ h=>h) h1 h2;refine⟨?_,by rw[k2,Um]⟩;rw[Pf.CO,if_neg hr,NN,Wm];exact k1
theorem Zo3{p:Pf}(h:p.direct=true)(he:p.err=0):yn p=(p,false,0):=by
 unfold yn;rw[Zvz p h,if_neg (by simp[he])]
theorem Znw{p:Pf}(h1:(yn p).2.2=0)(h2:(yn p).2.1=false):p.direct=true:=by
 obtain⟨a,b,c,d⟩:=H9 h1;exact(Zyg p (c▸h2) a).1
theorem Zsk(k:Nat)(p:Pf)(n:Int):FH (k+1) p n=if(yn p).2.2≠0 then(BM,0,(yn p).2.2) else if(yn p).2.1=false then(p,n,0) else FH k (yn p).1 (n+1):=rfl
theorem Yjy(p:Pf):p.nd->p.hx 10000->p.lx 10000->∀y,(p.Cv De y).all id=true:=by
 induction p using Pf.ind with
 |h p ih=>
  intro hs hh hx y;obtain⟨i1,i2⟩:=(Pf.A8 _ p).1 hh;obtain⟨j1,j2⟩:=(Pf.Bw _ p).1 hx;obtain⟨⟨nd0,a1,a2⟩,a3⟩:=(Pf.BK p).1 hs;rw[Pf.BG,WQ,Wk];refine⟨Wm.2 fun b hb=> ?_,Wm.2 fun b hb=> ?_⟩
  .unfold De at hb;by_cases hk:p.kind=1\/p.kind=2
   .rw[if_pos hk] at hb;simp only[WN] at hb;subst hb;rcases hk with hk|hk
    .have:=i1 hk;simp;omega
    .have:=j1 hk;simp;omega
   .rw[if_neg hk] at hb;cases hb
  .obtain ⟨l,hl,hb⟩:=XD.1 hb;obtain⟨m,hm,rfl⟩:=WT hl;rw[vz] at hm;rw[um _ _ _ _ _ hm] at hb;have hk:p.kind≠1:=fun e=>by
    rw[e] at a1;simp[BD] at a1;rw[<-a1] at a2;simp at a2;simp[a2] at hm
   exact Wm.1 (ih _ (Wi hm) (a3 _ (Wi hm)) (i2 hk _ (Wi hm)) (j2 _ (Wi hm)) _) b hb
theorem Zts{p:Pf}(hs:p.shape=true)(h1:p.ix 10000)(h2:p.hx 10000)(h3:p.lx 10000):p.BB=true:=by
 unfold Pf.BB;rw[show p.AG=true from Ybc p h1 0,show p.AO=true from Zze p (Hw p hs) h2 0];rw[WQ,Yjy p (Hw p hs) h2 h3 0]
 rfl
theorem Made.near{n:Nat}{p:Pf}(h:Made n p):p.BB=true:=Zts h.shape h.ix h.hx h.lx
theorem Ob(t:Tm):∀b,∀q∈t.vars b,b<=q.2/\q.2<=b+t.size:=by
 induction t using Tm.ind with
 |h t ih=>
  intro b q hq;have hz:=t.size_eq;rw[t.AP,WH] at hq;rcases hq with hq|hq
  .split at hq
   .simp only[WN] at hq;subst hq;simp only;omega
   .cases hq
  .obtain ⟨x,hx,hq⟩:=WL.1 hq;have h1:=ih x hx _ q hq;have h2:=za Tm.size hx;have h3:b<=up t.kind b/\up t.kind b<=b+1:=by unfold up;split<;>omega
   omega
theorem Zw4(f:Fm):∀b,∀q∈f.AZ b,b<=q.2/\q.2<=b+f.size/\q.1.size<=f.size:=by
 induction f using Fm.ind with
 |h f ih=>
  intro b q hq;have hz:=f.size_eq;rw[f.Ba,WH] at hq;rcases hq with hq|hq
  .obtain ⟨t,ht,rfl⟩:=WA.1 hq;have h2:=za Tm.size ht;simp only;omega
  .obtain ⟨x,hx,hq⟩:=WL.1 hq;have h1:=ih x hx _ q hq;have h2:=za Fm.size hx;have h3:b<=A3 f.kind b/\A3 f.kind b<=b+1:=by unfold A3;split<;>omega
   omega
theorem SQ{t s:Tm}(ht:t.shape=true)(hs:s.shape=true){a C:Int}(ha:0<=a)(h:∀q∈t.vars 0,0<=q.1/\q.1<C)(h2:∀q∈s.vars 0,0<=q.1/\q.1<C):
 (t.re (y9 a s) 0).shape=true/\∀q∈(t.re (y9 a s) 0).vars 0,0<=q.1/\q.1<C+a+t.size:=by
 have hsh:=LH (at_:=a) 0 hs ht (by omega) ha fun p hp=>by have:=Ob t 0 p hp;omega
 refine⟨hsh,fun q hq=>⟨Tm.AE _ hsh 0 q hq,?_⟩⟩;rw[Ns _ _ _ ht] at hq;obtain⟨p,hp,hq⟩:=WL.1 hq;have hd:=Ob t 0 p hp;have hb:=h p hp;unfold y9 at hq;by_cases hc:p.1-p.2=a
 .rw[if_pos hc] at hq;obtain⟨q',hq',e⟩:=MQ (b':=0) q hq;have:=NX (fr:=0) (by_:=a+p.2) (C:=C-1) hs (by omega) (fun r hr=>by have:=h2 r hr;omega) q' hq';omega
 .rw[if_neg hc] at hq;simp only[Tm.vars,Tm.BX,if_true,WR,WN] at hq;subst hq;simp only;split<;>omega
theorem Ya2{f:Fm}{s:Tm}(hf:f.shape=true)(hs:s.shape=true){a C:Int}(ha:0<=a)(h:∀q∈f.AZ 0,∀r∈q.1.vars 0,0<=r.1/\r.1<C)(h2:∀q∈s.vars 0,0<=q.1/\q.1<C):
 ∀q∈(f.put a s).AZ 0,∀r∈q.1.vars 0,0<=r.1/\r.1<C+a+2*f.size:=by
 intro q hq r hr;rw[Fm.put,Vh] at hq;obtain⟨p,hp,rfl⟩:=WA.1 hq;have hd:=Zw4 f 0 p hp;have:=(SQ (a:=a+p.2) (C:=C) (JD f hf 0 p hp) hs (by omega) (h p hp) h2).2 r hr;omega
theorem Yi2{s:Tm}{C:Int}(hs:s.shape=true)(h2:∀q∈s.vars 0,0<=q.1/\q.1<C)(p:Pf):p.shape=true->p.small=true->p.ix C->∀v:Int,0<=v->v+2*p.size<=200000->(p.pt 0 s v).ix (C+250000):=by
 induction p using Pf.ind with
 |h p ih=>
  intro hp hm hix v hv hvz;obtain⟨s1,s2,s3⟩:=y6 hm;obtain⟨_,s4,s5,s6⟩:=ze hp;obtain⟨i1,i2,i3⟩:=(Pf.AY _ p).1 hix;have hz:=p.size_eq;have fv:0<=Aw p.kind/\Aw p.kind<=2:=by unfold Aw;split<;>(try split)<;>omega
  have b1:0<=As p.kind/\As p.kind<=2:=by unfold As;split<;>(try split)<;>omega
  rw[Pf.Dp,Pf.AY];simp only[Pf.Ah,Pf.Ak,Pf.Ae];refine⟨fun t ht q hq=> ?_,fun f hf q hq r hr=> ?_,fun x hx=> ?_⟩
  .obtain ⟨u,hu,rfl⟩:=WA.1 ht;have:=(SQ (a:=0+v) (s4 u hu) hs (by omega) (i1 u hu) h2).2 q hq;have:=s1 u hu;omega
  .obtain ⟨u,hu,rfl⟩:=WA.1 hf;have:=Ya2 (a:=0+(v+Aw p.kind)) (s5 u hu) hs (by omega) (i2 u hu) h2 q hq r hr;have:=s2 u hu;omega
  .obtain ⟨m,hm2,rfl⟩:=WT hx;rw[HH] at hm2;rw[Km _ _ _ _ _ _ hm2];have h3:=za Pf.size (Wi hm2);exact ih _ (Wi hm2) (s6 _ (Wi hm2)) (s3 _ (Wi hm2)) (i3 _ (Wi hm2)) _ (by split<;>omega) (by split<;>omega)
theorem Yjo{C f b:Int}(hb:0<=b)(p:Pf):p.hx C->∀y,(p.lh f b y).hx (C+b):=by
 induction p using Pf.ind with
 |h p ih=>
  intro h y;obtain⟨h1,h2⟩:=(Pf.A8 C p).1 h;rw[Pf.ES];by_cases hk:p.kind=1
  .rw[if_pos hk];have:=h1 hk;exact Qs (by split<;>omega)
  .rw[if_neg hk,Pf.A8];simp only[Pf.Ai,Pf.AJ,Pf.Ae];refine⟨fun h=>absurd h hk,fun _ x hx=> ?_⟩;obtain⟨m,hm,rfl⟩:=WT hx;rw[JR] at hm;rw[ND _ _ _ _ _ _ hm];exact ih _ (Wi hm) (h2 hk _ (Wi hm)) _
theorem PV(C i:Int):(va i).lx C:=by simp[va,Pf.lx,Pf.Jb]
theorem Yka{C f b:Int}(p:Pf):p.lx C->∀y,(p.lh f b y).lx C:=by
 induction p using Pf.ind with
 |h p ih=>
  intro h y;obtain⟨h1,h2⟩:=(Pf.Bw C p).1 h;rw[Pf.ES];by_cases hk:p.kind=1
  .rw[if_pos hk];exact PV _ _
  .rw[if_neg hk,Pf.Bw];simp only[Pf.Ai,Pf.AJ,Pf.Ae];refine⟨h1,fun x hx=> ?_⟩;obtain⟨m,hm,rfl⟩:=WT hx;rw[JR] at hm;rw[ND _ _ _ _ _ _ hm];exact ih _ (Wi hm) (h2 _ (Wi hm)) _
theorem Yjt{C fr n:Int}(p:Pf):p.lx C->∀v,(p.up fr n v).lx C:=by
 induction p using Pf.ind with
 |h p ih=>
  intro h v;obtain⟨h1,h2⟩:=(Pf.Bw C p).1 h;rw[Pf.ET,Pf.Bw];simp only[Pf.Ai,Pf.AJ,Pf.Ae];refine⟨h1,fun x hx=> ?_⟩;obtain⟨m,hm,rfl⟩:=WT hx;rw[JC] at hm;rw[NG _ _ _ _ _ _ hm];exact ih _ (Wi hm) (h2 _ (Wi hm)) _
structure Ib (C:Int) (p:Pf):Prop where
 ix:p.ix C
 hx:p.hx C
 lx:p.lx C
theorem Ib.mono{C C':Int}{p:Pf}(h:Ib C p)(hc:C<=C'):Ib C' p:=⟨Gs h.ix hc,Ki h.hx hc,PE h.lx hc⟩
theorem Ib.no{C:Int}:Ib C BM:=by
 constructor<;>simp[BM,Pf.ix,Pf.ixs,Pf.hx,Pf.hxs,Pf.lx,Pf.Jb]
theorem Ib.args{C:Int}{p:Pf}(hs:p.shape=true)(h:Ib C p):∀x∈p.args,Ib C x:=fun x hx=>by
 refine⟨((Pf.AY C p).1 h.ix).2.2 x hx,((Pf.A8 C p).1 h.hx).2 (fun hk=> ?_) x hx,((Pf.Bw C p).1 h.lx).2 x hx⟩;obtain⟨hh,_⟩:=ze hs;obtain⟨nd,n1,_,_,n4,_⟩:=F2 hh;rw[hk] at n1;simp[BD] at n1;rw[<-n1] at n4;rw[WB n4] at hx;cases hx
theorem Ib.arg{C:Int}{p:Pf}(hs:p.shape=true)(h:Ib C p)(i:Nat):Ib C (p.arg i):=by
 unfold Pf.arg;by_cases hi:i<p.args.length
 .rw[GB hi];exact h.args hs _ (Wi hi)
 .rw[List.getD,XG (by omega)];exact Ib.no
theorem Ib.terms{C:Int}{p:Pf}(h:Ib C p):∀t∈p.terms,∀q∈t.vars 0,0<=q.1/\q.1<C:=((Pf.AY C p).1 h.ix).1
theorem Ib.put{C:Int}{p:Pf}{t:Tm}(h:Ib C p)(h2:∀q∈t.vars 0,0<=q.1/\q.1<C)(he:yu p 0 t=0):Ib (C+250000) (w9 p 0 t):=by
 obtain⟨e1,_,e2,_⟩:=VK he;obtain⟨g1,g2,g3⟩:=(Pf.Ad p).1 e1;have e:w9 p 0 t=p.pt 0 t 0:=by unfold w9;rw[if_pos he]
 rw[e];exact⟨Yi2 ((Tm.Ad t).1 e2).1 h2 p g1 g2 h.ix 0 (by omega) (by omega),Ki (Yjn _ _ _ _ h.hx 0) (by omega),PE (Yjk _ _ _ _ h.lx 0) (by omega)⟩
theorem Vo{r:Pf}{C:Int}(he:r.err=0)(hr:Ib C r)(hC:C<=549755813888){v h:Int}(hv:0<=v/\v<=200000)(hh2:0<=h/\h<=200000):
 Pz (C+v) r.size (r.F3 v h)/\Ib (C+200000) (r.F3 v h):=by
 obtain⟨hs,hm,hz⟩:=(Pf.Ad r).1 he;have h1:=Rd (fr:=0) (n:=v) (C:=C) hv.1 hs hm hr.ix 0;have hf:=IM _ h1.1;have h2:=h1.2.2.1;have hx:=Q6 C 0 v r hr.hx 0;unfold Pf.F3;rw[TM (by omega) hs hm (Gs hr.ix hC) 0];rw[UM (by omega) (Hw _ h1.1) (Ki hx hC) 0 (by omega)];have:=R3 (f:=0) (b:=h) hh2.1 h1.1 h1.2.1 h1.2.2.2 0;rw[h2] at this;exact⟨this,Gs this.2.2.2 (by omega),Ki (Yjo hh2.1 _ hx 0) (by omega),PE (Yka _ (Yjt _ hr.lx 0) 0) (by omega)⟩
theorem Yiv{r:Pf}{C:Int}(hR:∀(v h:Int),0<=v->v<=200000->0<=h->h<=200000->Ib (C+200000) (r.F3 v h))(p:Pf):
 p.shape=true->p.hx C->p.lx C->∀v y:Int,0<=v->0<=y->v+2*p.size<=200000->y+2*p.size<=200000->(Pf.ph 0 r v y p).hx (C+200000)/\(Pf.ph 0 r v y p).lx (C+200000):=by
 induction p using Pf.ind with
 |h p ih=>
  intro hs h h' v y hv hy hvz hyz;obtain⟨hh,_,_,s6⟩:=ze hs;obtain⟨h1,h2⟩:=(Pf.A8 C p).1 h;obtain⟨j1,j2⟩:=(Pf.Bw C p).1 h';have hz:=p.size_eq;have b1:0<=As p.kind/\As p.kind<=2:=by unfold As;split<;>(try split)<;>omega
  have b2:0<=At p.kind/\At p.kind<=1:=by unfold At;split<;>omega
  rw[Pf.EW];by_cases hk:p.kind=1
  .rw[if_pos hk];have:=h1 hk;by_cases h0:p.index-y=0
   .rw[if_pos h0];have:=hR v (0+y) hv (by omega) (by omega) (by omega);exact⟨this.hx,this.lx⟩
   .rw[if_neg h0];split
    .exact ⟨Qs (by omega),PV _ _⟩
    .exact ⟨Qs (by omega),PV _ _⟩
  .rw[if_neg hk,Pf.A8,Pf.Bw];simp only[Pf.Ai,Pf.AJ,Pf.Ae];have key:∀x∈Pf.DA 0 r v y (As p.kind) (At p.kind) p.args,x.hx (C+200000)/\x.lx (C+200000):=fun x hx=>by
    obtain⟨m,hm,rfl⟩:=WT hx;rw[K0] at hm;rw[Oi _ _ _ _ _ _ _ _ hm];have h3:=za Pf.size (Wi hm);exact ih _ (Wi hm) (s6 _ (Wi hm)) (h2 hk _ (Wi hm)) (j2 _ (Wi hm)) _ _ (by split<;>omega) (by split<;>omega) (by split<;>omega) (by split<;>omega)
   exact⟨⟨fun h=>absurd h hk,fun _ x hx=>(key x hx).1⟩,⟨fun hk2=>by have:=j1 hk2;omega,fun x hx=>(key x hx).2⟩⟩
theorem Ib.J8{C:Int}{p q:Pf}(h:Ib C p)(h2:Ib C q)(h0:0<=C)(hC:C<=549755813888)(he:wz p 0 q=0):Ib (C+200000) (DY p 0 q):=by
 obtain⟨e1,_,e3,_⟩:=RL he;obtain⟨g1,g2,g3⟩:=(Pf.Ad p).1 e1;have e:DY p 0 q=Pf.ph 0 q 0 0 p:=by unfold DY;rw[if_pos he]
 rw[e];have hp:=UZ (p:=p) (r:=q) (C:=C) (fun v h q1 q2 q3 q4=>by
  obtain⟨w1,w2⟩:=Vo e3 h2 hC ⟨q1,q2⟩ ⟨q3,q4⟩;exact⟨w1.1,w1.2.1,w1.2.2.1,Gs w1.2.2.2 (by omega)⟩) h0 g1 g2 h.ix 0 0 (by omega) (by omega) (by omega) (by omega)
 have hl:=Yiv (r:=q) (C:=C) (fun v h q1 q2 q3 q4=>(Vo e3 h2 hC ⟨q1,q2⟩ ⟨q3,q4⟩).2) p g1 h.hx h.lx 0 0 (by omega) (by omega) (by omega) (by omega);exact⟨hp.2.2.2,hl.1,hl.2⟩
theorem P9{C:Int}{q:Pf}{t:Tm}{p:Pf}(h:Ib C q)(h2:∀r∈t.vars 0,0<=r.1/\r.1<C)(hp:Ib C p)(h0:0<=C)(hC:C<=500000000000)(he:(wd q t p).2=0):Ib (C+450000) (wd q t p).1:=by
 unfold wd at he ⊢;by_cases h1:yu q 0 t≠0
 .rw[if_pos h1] at he;exact absurd he h1
 rw[if_neg h1] at he ⊢;have:=(h.put h2 (Ws.1 h1)).J8 (hp.mono (by omega)) (by omega) (by omega) he;exact this.mono (by omega)
theorem TK{C:Int}{p:Pf}{t:Tm}(hk:p.kind≠1)(h:Ib C p)(h2:∀r∈t.vars 0,0<=r.1/\r.1<C):Ib C (vq p t):=by
 obtain⟨i1,i2,i3⟩:=(Pf.AY _ p).1 h.ix;obtain⟨j1,j2⟩:=(Pf.A8 _ p).1 h.hx;obtain⟨k1,k2⟩:=(Pf.Bw _ p).1 h.lx;unfold vq;refine⟨(Pf.AY _ _).2 ⟨fun u hu=> ?_,i2,i3⟩,(Pf.A8 _ _).2 ⟨j1,j2⟩,(Pf.Bw _ _).2 ⟨k1,k2⟩⟩;simp only[Pf.Ah,WN] at hu;subst hu;exact h2
theorem Sl{C:Int}{p:Pf}(h:Ib C p):∀q∈p.EE.vars 0,0<=q.1/\q.1<C:=by
 unfold Pf.EE;by_cases hi:0<p.terms.length
 .rw[GB hi];exact h.terms _ (Wi hi)
 .rw[List.getD,XG (by omega)];intro q hq;simp[A4,Tm.vars,Tm.BX] at hq
theorem Jt{C:Int}{t:Tm}(h:∀q∈t.vars 0,0<=q.1/\q.1<C)(i:Nat):∀q∈(t.args.getD i A4).vars 0,0<=q.1/\q.1<C:=by
 by_cases hi:i<t.args.length
 .rw[GB hi];intro q hq;obtain⟨q',h1,h2⟩:=MQ (b':=up t.kind 0) q hq;rw[<-h2];exact h q' (by rw[Tm.AP];exact W7 _ (WL.2 ⟨_,Wi hi,h1⟩))
 .rw[List.getD,XG (by omega)];intro q hq;simp[A4,Tm.vars,Tm.BX] at hq
theorem Zy8{C:Int}{t:Tm}(h0:0<=C)(h:∀q∈t.vars 0,0<=q.1/\q.1<C):∀q∈(D7 t).vars 0,0<=q.1/\q.1<C+1:=by
 unfold D7;split
 .next he=>
  have hs:t.err=0:=Xa fun hc=>by unfold yx at he;rw[if_pos hc] at he;exact hc he
  have hsh:=((Tm.Ad t).1 hs).1;intro q hq;exact⟨Tm.AE _ (vx 0 hsh (by omega)) 0 q hq,by have:=NX (C:=C-1) hsh (by omega) (fun r hr=>by have:=h r hr;omega) q hq;omega⟩
 .intro q hq;simp[A4,Tm.vars,Tm.BX] at hq
theorem Zxy{C:Int}{p:Pf}(hs:p.shape=true)(h:Ib C p)(h0:0<=C)(hC:C<=100000000000)(he:(zj p).2=0):Ib (C+1000000) (zj p).1:=by
 have a0:=h.arg hs 0;have a1:=h.arg hs 1;have s0:(p.arg 0).shape=true\/p.arg 0=BM:=by
  unfold Pf.arg;by_cases hi:0<p.args.length
  .rw[GB hi];exact .inl ((ze hs).2.2.2 _ (Wi hi))
  .rw[List.getD,XG (by omega)];exact .inr rfl
 have aa:∀i,Ib C ((p.arg 0).arg i):=fun i=>by
  rcases s0 with h|h
  .exact a0.arg h i
  .rw[h];have:BM.arg i=BM:=by unfold Pf.arg;simp[BM,Pf.args]
   rw[this];exact Ib.no
 have ht:=Sl h;have ht0:=Sl a0;have h16:∀k:Int,(z7 p).1=k->p.kind=k:=fun k e=>by rw[<-Kn];exact e
 unfold zj at he ⊢;by_cases c1:z7 p=(4,3)
 .rw[if_pos c1];exact(aa 0).mono (by omega)
 rw[if_neg c1] at he ⊢;by_cases c2:z7 p=(5,3)
 .rw[if_pos c2];exact(aa 1).mono (by omega)
 rw[if_neg c2] at he ⊢;by_cases c3:z7 p=(7,6)
 .rw[if_pos c3] at he ⊢;exact((aa 0).J8 a1 h0 (by omega) he).mono (by omega)
 rw[if_neg c3] at he ⊢;by_cases c4:z7 p=(9,8)\/z7 p=(13,12)
 .rw[if_pos c4] at he ⊢;exact((aa 0).put ht he).mono (by omega)
 rw[if_neg c4] at he ⊢;by_cases c5:z7 p=(11,10)\/z7 p=(15,14)
 .rw[if_pos c5] at he ⊢;exact(P9 a1 ht0 (aa 0) h0 (by omega) he).mono (by omega)
 rw[if_neg c5] at he ⊢;by_cases c6:z7 p=(16,5)
 .rw[if_pos c6] at he ⊢;have hk:=h16 16 (by rw[c6]);exact(P9 a1 (Jt ht 0) (TK (by omega) h (Jt ht 0)) h0 (by omega) he).mono (by omega)
 rw[if_neg c6] at he ⊢;by_cases c7:z7 p=(17,8)
 .rw[if_pos c7] at he ⊢;have hk:=h16 17 (by rw[c7]);unfold Gr at he ⊢;by_cases d1:yx (p.EE.args.getD 1 A4) 0 1≠0
  .rw[if_pos d1] at he;exact absurd he d1
  rw[if_neg d1] at he ⊢;by_cases d2:yu (p.arg 1) 0 (D7 (p.EE.args.getD 1 A4))≠0
  .rw[if_pos d2] at he;exact absurd he d2
  rw[if_neg d2] at he ⊢;have w:=Zy8 h0 (Jt ht 1);have e:=(a1.mono (C':=C+1) (by omega)).put w (Ws.1 d2);exact(P9 e (fun q hq=>by have:=Jt ht 0 q hq;omega) ((TK (by omega) h (Jt ht 1)).mono (by omega)) (by omega) (by omega) he).mono (by omega)
 rw[if_neg c7];exact a0.mono (by omega)
theorem Yi5{C:Int}(h0:0<=C)(hC:C<=100000000000)(p:Pf):p.shape=true->Ib C p->p.nx.2.2=0->Ib (C+1000000) p.nx.1:=by
 induction p using Pf.ind with
 |h p ih=>
  intro hs h he;rw[Pf.CF] at he ⊢;by_cases hr:xl p=true
  .rw[if_pos hr] at he ⊢;exact Zxy hs h h0 hC he
  rw[if_neg hr] at he ⊢;simp only at he ⊢;have key:∀l:List Pf,(∀x∈l,x∈p.args)->(Pf.CQ l).2.2=0->∀y∈(Pf.CQ l).1,Ib (C+1000000) y:=by
   intro l;induction l with
   |nil=>intro _ _ y hy;simp[Pf.CQ] at hy
   |cons x l ihl=>
    intro hx he y hy;have h1:=h.args hs;have hxm:=hx x (by simp);simp only[Pf.CQ] at he hy;by_cases hc:x.nx.2.1=true\/x.nx.2.2≠0
    .rw[if_pos hc] at he hy;simp only at he hy;rcases WE.1 hy with rfl|hy
     .exact ih x hxm ((ze hs).2.2.2 x hxm) (h1 x hxm) he
     .exact (h1 y (hx y (by simp[hy]))).mono (by omega)
    .rw[if_neg hc] at he hy;simp only at he hy;rcases WE.1 hy with rfl|hy
     .exact (h1 y hxm).mono (by omega)
     .exact ihl (fun z hz=>hx z (by simp[hz])) he y hy
  have k:=key p.args (fun _ h=>h) he;have hm:=h.mono (C':=C+1000000) (by omega);obtain⟨i1,i2,i3⟩:=(Pf.AY _ p).1 hm.ix;obtain⟨j1,j2⟩:=(Pf.A8 _ p).1 hm.hx;obtain⟨k1,k2⟩:=(Pf.Bw _ p).1 hm.lx;exact⟨(Pf.AY _ _).2 ⟨i1,i2,fun x hx=>(k x hx).ix⟩,(Pf.A8 _ _).2 ⟨j1,fun _ x hx=>(k x hx).hx⟩,(Pf.Bw _ _).2 ⟨k1,fun x hx=>(k x hx).lx⟩⟩
theorem Ycj{C:Int}{p:Pf}(h0:0<=C)(hC:C<=100000000000)(he:p.err=0)(h:Ib C p)(hs:(yn p).2.2=0):Ib (C+1000000) (yn p).1:=by
 obtain⟨e1,e2,e3,e4⟩:=H9 hs;rw[e2];exact Yi5 h0 hC p ((Pf.Ad p).1 he).1 h e1
theorem Ya8(p:Pf):p.ix 500000000->∀v,(p.Cm (fun(_:Int) (t:Tm)=>t.near) (fun(_:Int) (f:Fm)=>f.near) v).all id=true:=by
 induction p using Pf.ind with
 |h p ih=>
  intro hix v;obtain⟨i1,i2,i3⟩:=(Pf.AY _ p).1 hix;rw[Pf.BE,WQ,WQ,Wk,Wk];refine⟨⟨Wm.2 fun b hb=> ?_,Wm.2 fun b hb=> ?_⟩,Wm.2 fun b hb=> ?_⟩
  .obtain ⟨t,ht,rfl⟩:=WA.1 hb;exact Wm.2 fun q hq=>by have:=i1 t ht q hq;simp;omega
  .obtain ⟨f,hf,rfl⟩:=WA.1 hb;exact Wm.2 fun q hq=>Wm.2 fun r hr=>by have:=i2 f hf q hq r hr;simp;omega
  .obtain ⟨l,hl,hb⟩:=XD.1 hb;obtain⟨m,hm,rfl⟩:=WT hl;rw[v4] at hm;rw[uv _ _ _ _ _ _ hm] at hb;exact Wm.1 (ih _ (Wi hm) (i3 _ (Wi hm)) _) b hb
theorem V9(p:Pf):p.shape=true->Ib 500000000 p->∀y,(p.Cv Dg y).all id=true/\(p.Cv De y).all id=true:=by
 induction p using Pf.ind with
 |h p ih=>
  intro hs h y;obtain⟨i1,_⟩:=(Pf.A8 _ p).1 h.hx;obtain⟨j1,_⟩:=(Pf.Bw _ p).1 h.lx;have ha:=h.args hs;have hsa:=(ze hs).2.2.2;rw[Pf.BG,Pf.BG,WQ,WQ,Wk,Wk];refine⟨⟨Wm.2 fun b hb=> ?_,Wm.2 fun b hb=> ?_⟩,Wm.2 fun b hb=> ?_,Wm.2 fun b hb=> ?_⟩
  .unfold Dg at hb;by_cases hk:p.kind=1
   .rw[if_pos hk] at hb;simp only[WN] at hb;subst hb;have:=i1 hk;simp;omega
   .rw[if_neg hk] at hb;cases hb
  .obtain ⟨l,hl,hb⟩:=XD.1 hb;obtain⟨m,hm,rfl⟩:=WT hl;rw[vz] at hm;rw[um _ _ _ _ _ hm] at hb;exact Wm.1 (ih _ (Wi hm) (hsa _ (Wi hm)) (ha _ (Wi hm)) _).1 b hb
  .unfold De at hb;by_cases hk:p.kind=1\/p.kind=2
   .rw[if_pos hk] at hb;simp only[WN] at hb;subst hb;rcases hk with hk|hk
    .have:=i1 hk;simp;omega
    .have:=j1 hk;simp;omega
   .rw[if_neg hk] at hb;cases hb
  .obtain ⟨l,hl,hb⟩:=XD.1 hb;obtain⟨m,hm,rfl⟩:=WT hl;rw[vz] at hm;rw[um _ _ _ _ _ hm] at hb;exact Wm.1 (ih _ (Wi hm) (hsa _ (Wi hm)) (ha _ (Wi hm)) _).2 b hb
theorem Ib.near{p:Pf}(hs:p.shape=true)(h:Ib 500000000 p):p.BB=true:=by
 unfold Pf.BB;rw[show p.AG=true from Ya8 p h.ix 0,show p.AO=true from(V9 p hs h 0).1,WQ,(V9 p hs h 0).2]
 rfl
section
variable {α:Type}
theorem Zv1(a:Tm->α)(b:Fm->α)(p:Pf):∀v w:Int,p.Cm (fun _=>a) (fun _=>b) v=p.Cm (fun _=>a) (fun _=>b) w:=by
 induction p using Pf.ind with
 |h p ih=>
  intro v w;rw[Pf.BE,Pf.BE];congr 2;have key:∀(l:List Pf),(∀x∈l,x∈p.args)->Pf.AL (fun _=>a) (fun _=>b) v (As p.kind) l=Pf.AL (fun _=>a) (fun _=>b) w (As p.kind) l:=by
   intro l;induction l with
   |nil=>intro _;simp only[Pf.AL]
   |cons x l ihl=>
    intro hx;simp only[Pf.AL];rw[ihl fun z hz=>hx z (by simp[hz]),ih x (hx x (by simp)) _ (if l.length=0 then w+As p.kind else w)]
  exact key p.args fun _ h=>h
theorem Zxd(F:Int->Int->List α)(p:Pf):∀v w:Int,p.Cv (fun k i _=>F k i) v=p.Cv (fun k i _=>F k i) w:=by
 induction p using Pf.ind with
 |h p ih=>
  intro v w;rw[Pf.BG,Pf.BG];congr 2;have key:∀(l:List Pf),(∀x∈l,x∈p.args)->Pf.AM (fun k i _=>F k i) v (At p.kind) l=Pf.AM (fun k i _=>F k i) w (At p.kind) l:=by
   intro l;induction l with
   |nil=>intro _;simp only[Pf.AM]
   |cons x l ihl=>
    intro hx;simp only[Pf.AM];rw[ihl fun z hz=>hx z (by simp[hz]),ih x (hx x (by simp)) _ (if l.length=0 then w+At p.kind else w)]
  exact key p.args fun _ h=>h
end
theorem Ul(p:Pf):p.AG=(p.terms.all Tm.near&&p.Ac.all Fm.near&&p.args.all Pf.AG):=by
 unfold Pf.AG;rw[Pf.BE,WQ,WQ,Yi,Yi];congr 1;have key:∀(l:List Pf),(Pf.AL (fun(_:Int) (t:Tm)=>t.near) (fun(_:Int) (f:Fm)=>f.near) 0 (As p.kind) l).flatten.all id=l.all Pf.AG:=by
  intro l;induction l with
  |nil=>simp[Pf.AL]
  |cons x l ihl=>
   simp only[Pf.AL,Xd,WQ,Xh];rw[ihl,Zv1 Tm.near Fm.near x _ 0]
   rfl
 exact key p.args
theorem Wc{p:Pf}(hs:p.shape=true)(hk:p.kind=1):∃i,p=va i:=by
 obtain⟨nd,n1,n2,n3,n4,_,_,_,h7,_⟩:=xr hs;rw[hk] at n1;have e:nd=⟨0,0,0,true,false⟩:=by
  unfold BD at n1;simp at n1;exact n1.symm
 subst e;have e1:=WB n2;have e2:=WB n3;have e3:=WB n4;have e4:=h7 rfl;obtain⟨k,i,ty,ts,fs,zs⟩:=p;simp only[Pf.Ai,Pf.Ah,Pf.Ak,Pf.Ae,Pf.AQ] at hk e1 e2 e3 e4;subst hk e1 e2 e3 e4;exact⟨i,rfl⟩
theorem UI(p:Pf):p.shape=true->p.AG=true->p.ix 536870913:=by
 induction p using Pf.ind with
 |h p ih=>
  intro hs hn;obtain⟨_,s4,s5,s6⟩:=ze hs;rw[Ul] at hn;simp only[Wk,Wm] at hn;refine(Pf.AY _ p).2 ⟨fun t ht q hq=> ?_,fun f hf q hq r hr=> ?_,fun x hx=>ih x hx (s6 x hx) (hn.2 x hx)⟩
  .have h1:=Wm.1 (hn.1.1 t ht) q hq;have:=t.AE (s4 t ht) 0 q hq;simp at h1;omega
  .have h1:=Wm.1 (hn.1.2 f hf) q hq;have h2:=Wm.1 h1 r hr;have:=q.1.AE (JD f (s5 f hf) 0 q hq) 0 r hr;simp at h2;omega
theorem Zz1(a:Int)(q:Pf)(p:Pf):∀v y,(Pf.ph a q v y p).full<=p.full+p.size*q.full:=by
 induction p using Pf.ind with
 |h p ih=>
  intro v y;rw[Pf.EW];by_cases hk:p.kind=1
  .rw[if_pos hk];have h1:=Zzl q v (a+y);have h2:=Q8 p;have h3:q.full<=p.size*q.full:=Nat.le_mul_of_pos_left _ p.size_pos;have h4:∀i,(va i).full=2:=fun i=>by simp[va,Pf.full,Pf.Au,Ty.size,Ty.sizes]
   split
   .omega
   .split
    .rw[h4];omega
    .rw[h4];omega
  .rw[if_neg hk];have key:∀(l:List Pf),(∀x∈l,x∈p.args)->((Pf.DA a q v y (As p.kind) (At p.kind) l).map Pf.full).sum<=(l.map Pf.full).sum+(l.map Pf.size).sum*q.full:=by
    intro l;induction l with
    |nil=>intro _;simp[Pf.DA]
    |cons x l ihl=>
     intro hx;have h1:=ihl fun z hz=>hx z (by simp[hz]);have h2:=ih x (hx x (by simp)) (if l.length=0 then v+As p.kind else v) (if l.length=0 then y+At p.kind else y);simp only[Pf.DA,Wn,Wt,W9];omega
   have h1:=key p.args fun _ h=>h;have h2:(p.args.map Pf.size).sum*q.full<=p.size*q.full:=Xw _ (by rw[p.size_eq];omega);rw[Pf.Af,p.Af];simp only[Pf.AQ,Pf.Ah,Pf.Ak,Pf.Ae];omega
def M5(k0:Int)(k i:Int):List Bool:=if k=k0 then [decide (i<=536870912)] else []
def Pf.CZ(k0:Int)(p:Pf):Bool:=(p.Cv (fun k i _=>M5 k0 k i) 0).all id
theorem MN(k0:Int)(p:Pf):p.CZ k0=((if p.kind=k0 then decide (p.index<=536870912) else true)&&p.args.all (Pf.CZ k0)):=by
 unfold Pf.CZ;rw[Pf.BG,WQ];congr 1
 .unfold M5;split<;>simp
 .have key:∀(l:List Pf),(Pf.AM (fun k i _=>M5 k0 k i) 0 (At p.kind) l).flatten.all id=l.all (Pf.CZ k0):=by
   intro l;induction l with
   |nil=>simp[Pf.AM]
   |cons x l ihl=>
    simp only[Pf.AM,Xd,WQ,Xh];rw[ihl,Zxd (M5 k0) x _ 0]
    rfl
  exact key p.args
theorem U4(p:Pf):p.AO=p.CZ 1:=rfl
theorem Yj3(p:Pf):∀y,(p.Cv De y).all id=(p.CZ 1&&p.CZ 2):=by
 induction p using Pf.ind with
 |h p ih=>
  intro y;rw[Pf.BG,WQ,MN,MN];have key:∀(l:List Pf),(∀x∈l,x∈p.args)->(Pf.AM De y (At p.kind) l).flatten.all id=(l.all (Pf.CZ 1)&&l.all (Pf.CZ 2)):=by
   intro l;induction l with
   |nil=>intro _;simp[Pf.AM]
   |cons x l ihl=>
    intro hx;simp only[Pf.AM,Xd,WQ,Xh];rw[ihl fun z hz=>hx z (by simp[hz]),ih x (hx x (by simp))];cases x.CZ 1<;>cases x.CZ 2<;>simp
  rw[key p.args fun _ h=>h];unfold De;by_cases h1:p.kind=1
  .rw[if_pos (.inl h1),if_pos h1,if_neg (by omega)];simp[YO]
  .rw[if_neg h1];by_cases h2:p.kind=2
   .rw[if_pos (.inr h2),if_pos h2];simp only[Xh,Yw,id,Zv,WZ];cases p.args.all (Pf.CZ 1)<;>simp
   .rw[if_neg (by omega),if_neg h2];simp
theorem RJ(p:Pf):p.BB=(p.AG&&p.CZ 1&&p.CZ 2):=by
 unfold Pf.BB;rw[WQ,Yj3,U4];simp only[Xh,Yw,id,Zv];cases p.AG<;>cases p.CZ 1<;>cases p.CZ 2<;>rfl
def vw(l:List (Int×Int)):Int:=(l.map Prod.snd).sum
theorem uo(l l':List (Int×Int)):vw (l++l')=vw l+vw l':=by unfold vw;rw[Xv,XY]
theorem Yfd(n k:Int)(l:List (Int×Int)):CD n k l=n+vw l*(k-1):=by
 unfold CD vw;congr 1;induction l with
 |nil=>simp
 |cons q l ih=>simp only[Wn,Wt];rw[ih,Int.add_mul]
theorem MJ{l:List (Int×Int)}(h:∀q∈l,0<=q.2):0<=vw l:=by
 unfold vw;induction l with
 |nil=>simp
 |cons q l ih=>
  have h1:=h q (by simp);have h2:=ih fun x hx=>h x (by simp[hx]);simp only[Wn,Wt];omega
theorem Na{α:Type}(l:List α)(G:α->Int×Int)(F:α->Nat)(h:∀x,(G x).2<=F x):vw (l.map G)<=((l.map F).sum:Nat):=by
 unfold vw;induction l with
 |nil=>simp
 |cons x l ih=>
  have:=h x;simp only[Wn,Wt,W5];omega
theorem TV(a:Int)(p:Pf):∀v,0<=vw (p.Cm (AR a) (AU a) v)/\vw (p.Cm (AR a) (AU a) v)<=p.full:=by
 induction p using Pf.ind with
 |h p ih=>
  intro v;rw[Pf.BE,uo,uo,p.Af];have h1:0<=vw (p.terms.map (AR a v)):=MJ fun q hq=>by obtain⟨t,ht,rfl⟩:=WA.1 hq;simp only[AR];omega
  have h2:0<=vw (p.Ac.map (AU a (v+Aw p.kind))):=MJ fun q hq=>by obtain⟨t,ht,rfl⟩:=WA.1 hq;simp only[AU];omega
  have h3:=Na p.terms (AR a v) Tm.full fun t=>by
   have h1:=JK (a+v) (t.vars 0);have h2:=t.Ce 0;have h3:=t.Aj;simp only[AR];omega
  have h4:=Na p.Ac (AU a (v+Aw p.kind)) Fm.full fun t=>by
   have h1:=wy t (a+(v+Aw p.kind));have h3:=t.Aj;simp only[AU];omega
  have key:∀(l:List Pf),(∀x∈l,x∈p.args)->0<=vw (Pf.AL (AR a) (AU a) v (As p.kind) l).flatten/\vw (Pf.AL (AR a) (AU a) v (As p.kind) l).flatten<=((l.map Pf.full).sum:Nat):=by
   intro l;induction l with
   |nil=>intro _;simp[Pf.AL,vw]
   |cons x l ihl=>
    intro hx;have q1:=ihl fun z hz=>hx z (by simp[hz]);have q2:=ih x (hx x (by simp)) (if l.length=0 then v+As p.kind else v);simp only[Pf.AL,Xd,Wn,Wt,W5];rw[uo];omega
  have h5:=key p.args fun _ h=>h;have:=p.ty.size_pos;omega
theorem Zt6(a:Int)(l:List Pf)(v w:Int)(m:Nat):0<=vw ((Pf.AL (AR a) (AU a) v w l).take m).flatten/\vw ((Pf.AL (AR a) (AU a) v w l).take m).flatten<=((l.map Pf.full).sum:Nat):=by
 induction l generalizing m with
 |nil=>simp[Pf.AL,vw]
 |cons x l ih=>
  cases m with
  |zero=>
   simp only[WX,Xi];refine⟨by simp[vw],?_⟩;show(0:Int)<=_;omega
  |succ m=>
   have q1:=ih m;have q2:=TV a x (if l.length=0 then v+w else v);simp only[Pf.AL,Yl,Xd,Wn,Wt,W5];rw[uo];omega
theorem Ya0{s:Tm}{a:Int}(ha:0<=a)(hs:s.shape=true)(p:Pf):p.shape=true->∀v,0<=v->(p.pt a s v).small= !C3 s.size (p.Cm (AR a) (AU a) v):=by
 have sp:=s.size_pos;have cast:∀(n c:Nat),((n+c*(s.size-1):Nat):Int)=(n:Int)+(c:Int)*((s.size:Int)-1):=fun n c=>by
  rw[W5,XQ,show(((s.size-1:Nat)):Int)=(s.size:Int)-1 by omega]
 induction p using Pf.ind with
 |h p ih=>
  intro hp v hv;obtain⟨_,s4,s5,s6⟩:=ze hp;have fv:0<=Aw p.kind:=by unfold Aw;split<;>(try split)<;>omega
  have b1:0<=As p.kind:=by unfold As;split<;>(try split)<;>omega
  have zt:∀t∈p.terms,((t.re (y9 (a+v) s) 0).size:Int)=t.size+(AR a v t).2*((s.size:Int)-1):=fun t ht=>by
   rw[J4 (a+v) s t hs 0 (s4 t ht),cast];rfl
  have zf:∀f∈p.Ac,((f.put (a+(v+Aw p.kind)) s).size:Int)=f.size+(AU a (v+Aw p.kind) f).2*((s.size:Int)-1):=fun f hf=>by
   have e:(f.put (a+(v+Aw p.kind)) s).size=f.size+wr (a+(v+Aw p.kind)) (f.AZ 0)*(s.size-1):=ua (a+(v+Aw p.kind)) s hs f (s5 f hf) 0;rw[e,cast];unfold AU;rw[show a+(v+Aw p.kind)=a+(v+Aw p.kind) from rfl]
  have key:∀(l:List Pf),(∀x∈l,x∈p.args)->(Pf.pts a s v (As p.kind) l).all Pf.small= !((Pf.AL (AR a) (AU a) v (As p.kind) l).flatten.any fun q=>decide (q.1+q.2*((s.size:Int)-1)>4096)):=by
   intro l;induction l with
   |nil=>intro _;simp[Pf.pts,Pf.AL]
   |cons x l ihl=>
    intro hx;simp only[Pf.pts,Pf.AL,Xh,Xd,YI,YZ];rw[ihl fun z hz=>hx z (by simp[hz]),ih x (hx x (by simp)) (s6 x (hx x (by simp))) _ (by split<;>omega)]
    rfl
  rw[Pf.Dp,Pf.BT,Pf.BE];simp only[Pf.Ah,Pf.Ak,Pf.Ae];rw[key p.args fun _ h=>h];unfold C3;rw[YI,YI,YZ,YZ,Yi,Yi,List.any_map,List.any_map];congr 2
  .have k2:∀l:List Tm,(∀t∈l,t∈p.terms)->l.all ((fun t:Tm=>decide (t.size<=4096))∘fun t=>t.re (y9 (a+v) s) 0)= !l.any ((fun q:Int×Int=>decide (q.1+q.2*((s.size:Int)-1)>4096))∘AR a v):=by
    intro l;induction l with
    |nil=>intro _;rfl
    |cons x l ihl=>
     intro hx;simp only[Xh,List.any_cons,YZ,Function.comp];rw[ihl fun z hz=>hx z (by simp[hz])];congr 1;have:=zt x (hx x (by simp));rw[<-decide_not];refine decide_eq_decide.2 ?_;have:(AR a v x).1=x.size:=rfl;omega
   exact k2 p.terms fun _ h=>h
  .have k2:∀l:List Fm,(∀t∈l,t∈p.Ac)->l.all ((fun t:Fm=>decide (t.size<=4096))∘fun t=>t.put (a+(v+Aw p.kind)) s)= !l.any ((fun q:Int×Int=>decide (q.1+q.2*((s.size:Int)-1)>4096))∘AU a (v+Aw p.kind)):=by
    intro l;induction l with
    |nil=>intro _;rfl
    |cons x l ihl=>
     intro hx;simp only[Xh,List.any_cons,YZ,Function.comp];rw[ihl fun z hz=>hx z (by simp[hz])];congr 1;have:=zf x (hx x (by simp));rw[<-decide_not];refine decide_eq_decide.2 ?_;have:(AU a (v+Aw p.kind) x).1=x.size:=rfl;omega
   exact k2 p.Ac fun _ h=>h
theorem Yje{s:Tm}{a:Int}(ha:0<=a)(hs:s.shape=true)(p:Pf):p.shape=true->∀v,0<=v->
 (p.pt a s v).shape=true/\((p.pt a s v).size:Int)=p.size+Fy s.size (p.Cm (AR a) (AU a) v):=by
 have sp:=s.size_pos;have cast:∀(n c:Nat),((n+c*(s.size-1):Nat):Int)=(n:Int)+(c:Int)*((s.size:Int)-1):=fun n c=>by
  rw[W5,XQ,show(((s.size-1:Nat)):Int)=(s.size:Int)-1 by omega]
 induction p using Pf.ind with
 |h p ih=>
  intro hp v hv;obtain⟨_,s4,s5,s6⟩:=ze hp;have fv:0<=Aw p.kind:=by unfold Aw;split<;>(try split)<;>omega
  have b1:0<=As p.kind:=by unfold As;split<;>(try split)<;>omega
  rw[Pf.BE];have zt:∀t∈p.terms,((t.re (y9 (a+v) s) 0).size:Int)=t.size+(AR a v t).2*((s.size:Int)-1):=fun t ht=>by
   rw[J4 (a+v) s t hs 0 (s4 t ht),cast];rfl
  have zf:∀f∈p.Ac,((f.put (a+(v+Aw p.kind)) s).size:Int)=f.size+(AU a (v+Aw p.kind) f).2*((s.size:Int)-1):=fun f hf=>by
   have e:(f.put (a+(v+Aw p.kind)) s).size=f.size+wr (a+(v+Aw p.kind)) (f.AZ 0)*(s.size-1):=ua (a+(v+Aw p.kind)) s hs f (s5 f hf) 0;rw[e,cast];unfold AU;rw[show a+(v+Aw p.kind)=a+(v+Aw p.kind) from rfl]
  have key:∀(l:List Pf),(∀x∈l,x∈p.args)->
   (∀x∈Pf.pts a s v (As p.kind) l,x.shape=true)/\((((Pf.pts a s v (As p.kind) l).map Pf.size).sum:Nat):Int)=((l.map Pf.size).sum:Nat)+Fy s.size (Pf.AL (AR a) (AU a) v (As p.kind) l).flatten:=by
   intro l;induction l with
   |nil=>intro _;simp[Pf.pts,Pf.AL,Fy]
   |cons x l ihl=>
    intro hx;obtain⟨a1,a2⟩:=ihl (fun z hz=>hx z (by simp[hz]));obtain⟨c1,c3⟩:=ih x (hx x (by simp)) (s6 x (hx x (by simp))) (if l.length=0 then v+As p.kind else v) (by split<;>omega);simp only[Pf.pts,Pf.AL,WE,Wn,Wt,Xd];refine⟨fun z hz=> ?_,?_⟩
    .rcases hz with rfl|hz
     .exact c1
     .exact a1 z hz
    .rw[Jk,W5,a2,c3];omega
  obtain⟨k1,k2⟩:=key p.args (fun _ h=>h);rw[Pf.Dp];refine⟨Ma hp (Xt ..) (Xt ..) (HH _ _ _ _ _) (fun y hy=> ?_) (fun y hy=> ?_) k1,?_⟩
  .obtain ⟨t,ht,rfl⟩:=WA.1 hy;exact LH 0 hs (s4 t ht) (by omega) (by omega) (fun p hp=>HO t 0 p hp)
  .obtain ⟨f,hf,rfl⟩:=WA.1 hy;exact u3 (by omega) hs (s5 f hf)
  .rw[Pf.size_eq,p.size_eq];simp only[Pf.Ah,Pf.Ak,Pf.Ae,Xq];have q1:=NU (sz:=Tm.size) (sz':=Tm.size∘fun t=>t.re (y9 (a+v) s) 0) (G:=AR a v) (k:=s.size) p.terms zt;have q2:=NU (sz:=Fm.size) (sz':=Fm.size∘fun f=>f.put (a+(v+Aw p.kind)) s) (G:=AU a (v+Aw p.kind)) (k:=s.size) p.Ac zf;rw[Jk,Jk];omega
theorem MB{p:Pf}{k:Int}{nd:Nd}(hs:p.shape=true)(hk:p.kind=k)(hn:BD k=some nd):p.args.length=nd.args:=by
 obtain⟨hh,_⟩:=ze hs;obtain⟨nd',n1,n2,n3,n4,_⟩:=F2 hh;rw[hk,hn] at n1;obtain rfl:=W6 n1;exact n4
theorem Lh{p:Pf}(hs:p.shape=true){i:Nat}(hi:i<p.args.length):(p.arg i).shape=true:=by
 unfold Pf.arg;rw[GB hi];exact(ze hs).2.2.2 _ (Wi hi)
theorem R2{p:Pf}{k u:Int}(h:z7 p=(k,u))(hk:¬(k=16\/k=17))(hu:u≠0):p.kind=k/\0<p.args.length/\(p.arg 0).kind=u:=by
 have h1:p.kind=k:=by rw[<-Kn,h]
 have h2:¬(p.kind=16\/p.kind=17):=by rw[h1];exact hk
 by_cases h0:0<p.args.length
 .rw[Mj h2 h0] at h;exact⟨h1,h0,(Yt h).2⟩
 .rw[QD h2 h0] at h;exact absurd (Yt h).2.symm hu
theorem O5{q p:Pf}{t:Tm}(he:(wd q t p).2=0):(wd q t p).1.shape=true:=by
 unfold wd at he ⊢;by_cases h1:yu q 0 t≠0
 .rw[if_pos h1] at he;exact absurd he h1
 rw[if_neg h1] at he ⊢;exact((Pf.Ad _).1 (OE he)).1
theorem Zmp{p:Pf}(hs:p.shape=true)(hr:xl p=true)(he:(zj p).2=0):(zj p).1.shape=true:=by
 unfold zj at he ⊢;by_cases c1:z7 p=(4,3)
 .rw[if_pos c1];obtain⟨_,h0,h3⟩:=R2 c1 (by decide) (by decide);have s0:=Lh hs h0;have:=MB s0 h3 (nd:=⟨0,0,2,false,false⟩) rfl;exact Lh s0 (by rw[this];decide)
 rw[if_neg c1] at he ⊢;by_cases c2:z7 p=(5,3)
 .rw[if_pos c2];obtain⟨_,h0,h3⟩:=R2 c2 (by decide) (by decide);have s0:=Lh hs h0;have:=MB s0 h3 (nd:=⟨0,0,2,false,false⟩) rfl;exact Lh s0 (by rw[this];decide)
 rw[if_neg c2] at he ⊢;by_cases c3:z7 p=(7,6)
 .rw[if_pos c3] at he ⊢;exact((Pf.Ad _).1 (OE he)).1
 rw[if_neg c3] at he ⊢;by_cases c4:z7 p=(9,8)\/z7 p=(13,12)
 .rw[if_pos c4] at he ⊢;exact((Pf.Ad _).1 (Ua he)).1
 rw[if_neg c4] at he ⊢;by_cases c5:z7 p=(11,10)\/z7 p=(15,14)
 .rw[if_pos c5] at he ⊢;exact O5 he
 rw[if_neg c5] at he ⊢;by_cases c6:z7 p=(16,5)
 .rw[if_pos c6] at he ⊢;exact O5 he
 rw[if_neg c6] at he ⊢;by_cases c7:z7 p=(17,8)
 .rw[if_pos c7] at he ⊢;unfold Gr at he ⊢;by_cases d1:yx (p.EE.args.getD 1 A4) 0 1≠0
  .rw[if_pos d1] at he;exact absurd he d1
  rw[if_neg d1] at he ⊢;by_cases d2:yu (p.arg 1) 0 (D7 (p.EE.args.getD 1 A4))≠0
  .rw[if_pos d2] at he;exact absurd he d2
  rw[if_neg d2] at he ⊢;exact O5 he
 rw[if_neg c7];have h:=of_decide_eq_true hr;simp only[DV,WE,WS,or_false] at h;have hk:p.kind=16\/p.kind=17:=by
  rw[<-Kn];rcases h with h|h|h|h|h|h|h|h|h|h|h
  .exact absurd h c1
  .exact absurd h c2
  .exact absurd h c3
  .exact absurd (.inl h) c4
  .exact absurd (.inr h) c4
  .exact absurd (.inl h) c5
  .exact absurd (.inr h) c5
  .rw[h];exact .inl rfl
  .exact absurd h c6
  .rw[h];exact .inr rfl
  .exact absurd h c7
 refine Lh hs ?_;rcases hk with hk|hk
 .rw[MB hs hk (nd:=⟨1,1,2,false,false⟩) rfl];decide
 .rw[MB hs hk (nd:=⟨1,1,2,false,false⟩) rfl];decide
theorem UT:∀l:List Pf,(Pf.CQ l).1.length=l.length
 |[]=>rfl
 |p::l=>by
  simp only[Pf.CQ];split
  .rfl
  .simp only[Wy,UT l]
theorem Zyn(p:Pf):p.shape=true->p.nx.2.2=0->p.nx.1.shape=true:=by
 induction p using Pf.ind with
 |h p ih=>
  intro hs he;rw[Pf.CF] at he ⊢;by_cases hr:xl p=true
  .rw[if_pos hr] at he ⊢;exact Zmp hs hr he
  rw[if_neg hr] at he ⊢;simp only at he ⊢;obtain⟨_,s4,s5,s6⟩:=ze hs;have key:∀l:List Pf,(∀x∈l,x∈p.args)->(Pf.CQ l).2.2=0->∀y∈(Pf.CQ l).1,y.shape=true:=by
   intro l;induction l with
   |nil=>intro _ _ y hy;simp[Pf.CQ] at hy
   |cons x l ihl=>
    intro hx he y hy;have hxm:=hx x (by simp);simp only[Pf.CQ] at he hy;by_cases hc:x.nx.2.1=true\/x.nx.2.2≠0
    .rw[if_pos hc] at he hy;simp only at he hy;rcases WE.1 hy with rfl|hy
     .exact ih x hxm (s6 x hxm) he
     .exact s6 y (hx y (by simp[hy]))
    .rw[if_neg hc] at he hy;simp only at he hy;rcases WE.1 hy with rfl|hy
     .exact s6 y hxm
     .exact ihl (fun z hz=>hx z (by simp[hz])) he y hy
  exact Ma hs rfl rfl (UT _) s4 s5 (key p.args (fun _ h=>h) he)
def E0(p:Pf):Pf×Bool×Int:=if p.nx.2.2=0 then p.nx else(BM,true,p.nx.2.2)
theorem Ydn(p:Pf)(hs:p.shape=true):yn p=if(E0 p).2.2≠0\/((E0 p).1.small&&decide ((E0 p).1.size<=16384))=false then(BM,false,4) else((E0 p).1,(E0 p).2.1,0):=by
 unfold yn E0;by_cases h:p.nx.2.2=0
 .rw[if_pos h];have hs2:=Zyn p hs h;by_cases h2:p.nx.1.err=0
  .obtain ⟨_,g2,g3⟩:=(Pf.Ad _).1 h2;rw[if_neg (by simp[h,h2]),if_neg (by simp[h,g2,g3])]
  .rw[if_pos (.inr h2),if_pos];right;cases g2:p.nx.1.small with
   |false=>rfl
   |true=>
    rw[WZ];exact decide_eq_false fun g3=>h2 ((Pf.Ad _).2 ⟨hs2,g2,g3⟩)
 .rw[if_neg h,if_pos (.inl h),if_pos (.inl h)]
theorem Yei(p:Pf):(E0 p).1.full<=p.full+1064960:=by
 unfold E0;split
 .exact ON p
 .simp only[y5];have:=Q8 p;omega
theorem QB{q p:Pf}{t:Tm}(he:(wd q t p).2≠0):(wd q t p).1=BM:=by
 unfold wd at he ⊢;by_cases h1:yu q 0 t≠0
 .rw[if_pos h1]
 .rw[if_neg h1] at he ⊢;exact PI he
theorem Zuh(p:Pf):(zj p).2≠0->(zj p).1=BM:=by
 intro he;unfold zj at he ⊢;by_cases c1:z7 p=(4,3)
 .rw[if_pos c1] at he;exact absurd rfl he
 rw[if_neg c1] at he ⊢;by_cases c2:z7 p=(5,3)
 .rw[if_pos c2] at he;exact absurd rfl he
 rw[if_neg c2] at he ⊢;by_cases c3:z7 p=(7,6)
 .rw[if_pos c3] at he ⊢;exact PI he
 rw[if_neg c3] at he ⊢;by_cases c4:z7 p=(9,8)\/z7 p=(13,12)
 .rw[if_pos c4] at he ⊢;exact J7 he
 rw[if_neg c4] at he ⊢;by_cases c5:z7 p=(11,10)\/z7 p=(15,14)
 .rw[if_pos c5] at he ⊢;exact QB he
 rw[if_neg c5] at he ⊢;by_cases c6:z7 p=(16,5)
 .rw[if_pos c6] at he ⊢;exact QB he
 rw[if_neg c6] at he ⊢;by_cases c7:z7 p=(17,8)
 .rw[if_pos c7] at he ⊢;unfold Gr at he ⊢;by_cases d1:yx (p.EE.args.getD 1 A4) 0 1≠0
  .rw[if_pos d1]
  rw[if_neg d1] at he ⊢;by_cases d2:yu (p.arg 1) 0 (D7 (p.EE.args.getD 1 A4))≠0
  .rw[if_pos d2]
  rw[if_neg d2] at he ⊢;exact QB he
 rw[if_neg c7] at he;exact absurd rfl he
theorem SY{p:Pf}(he:p.err=0)(hn:p.BB=true):Ib 536870913 p:=by
 obtain⟨g1,g2,g3⟩:=(Pf.Ad p).1 he;rw[RJ] at hn;simp only[Wk] at hn;obtain⟨⟨h1,h2⟩,h3⟩:=hn;have key:∀(k0:Int) (p:Pf),p.CZ k0=true->(p.kind=k0->p.index<=536870912)/\∀x∈p.args,x.CZ k0=true:=fun k0 p h=>by
  rw[MN,Wk,Wm] at h;refine⟨fun hk=> ?_,h.2⟩;have:=h.1;rw[if_pos hk] at this;exact of_decide_eq_true this
 have kh:∀p:Pf,p.shape=true->p.CZ 1=true->p.hx 536870913:=by
  intro p;induction p using Pf.ind with
  |h p ih=>
   intro hs h;obtain⟨a1,a2⟩:=key 1 p h;obtain⟨hh,_,_,s6⟩:=ze hs;obtain⟨_,_,_,_,_,hi,_⟩:=F2 hh;exact(Pf.A8 _ p).2 ⟨fun hk=>⟨hi,by have:=a1 hk;omega⟩,fun _ x hx=>ih x hx (s6 x hx) (a2 x hx)⟩
 have kl:∀p:Pf,p.shape=true->p.CZ 2=true->p.lx 536870913:=by
  intro p;induction p using Pf.ind with
  |h p ih=>
   intro hs h;obtain⟨a1,a2⟩:=key 2 p h;obtain⟨hh,_,_,s6⟩:=ze hs;obtain⟨_,_,_,_,_,hi,_⟩:=F2 hh;exact(Pf.Bw _ p).2 ⟨fun hk=>⟨hi,by have:=a1 hk;omega⟩,fun x hx=>ih x hx (s6 x hx) (a2 x hx)⟩
 exact⟨UI p g1 h1,kh p g1 h2,kl p g1 h3⟩
end Go.Ab
