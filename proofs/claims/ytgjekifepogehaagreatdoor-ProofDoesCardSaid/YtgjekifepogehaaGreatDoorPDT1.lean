/- A part of this seat's proofs. No conditions. -/
import Derived.Test.YtgjekifepogehaaGreatDoorPAT1
import Derived.Test.YtgjekifepogehaaGreatDoorPD1
namespace Go.Ab
open Go
set_option linter.all false
theorem VG{k:Int}:∀{l:List Int},k∉l->G5 k l=none
 |[],_=>rfl
 |x::l,h=>by
  simp only[Z4,not_or] at h;have h1:¬x=k:=fun e=>h.1 e.symm;simp only[G5,if_neg h1,VG h.2,cD]
theorem VZ{k:Int}:∀{l:List Int},k∈l->∃i,G5 k l=some i
 |[],h=>eE
 |x::l,h=>by
  by_cases hx:x=k
  .exact ⟨0,by simp[G5,hx]⟩
  .obtain ⟨i,hi⟩:=VZ (l:=l) (by rcases Z4.1 h with h|h;exact absurd h.symm hx;exact h);exact⟨i+1,by simp[G5,hx,hi]⟩
theorem SB(k:Int)(ks:List Int):w9 k ks=if k∈ks then ks else ks++[k]:=by
 by_cases h:k∈ks
 .obtain ⟨i,hi⟩:=VZ h;rw[if_pos h,w9,hi]
 .rw[if_neg h,w9,VG h]
variable{ks:List Int}
theorem Zu2{k x:Int}:x∈w9 k ks↔x∈ks\/x=k:=by
 rw[SB]
 grind
theorem Zqj{k:Int}(h:ks.Nodup):(w9 k ks).Nodup:=by
 rw[SB]
 grind
theorem vx(k:Int)(ks:List Int)(b:Bool):Hv k ks (List.replicate ks.length b) b=List.replicate (w9 k ks).length b:=by
 unfold Hv w9;split
 .simp
 .rw[ZR,<-List.replicate_append_replicate];rfl
def Az(acc l:List Int):List Int:=l.foldl (fun ks k=>w9 k ks) acc
variable(acc:List Int)
theorem xr(l l':List Int):Az acc (l++l')=Az (Az acc l) l':=dn
theorem xl:Az acc []=acc:=rfl
theorem KR(k:Int):Az acc [k]=w9 k acc:=rfl
theorem C1{x:Int}:∀{l acc:List Int},x∈Az acc l↔x∈acc\/x∈l
 |[],acc=>by simp[Az]
 |k::l,acc=>by
  show x∈Az (w9 k acc) l↔_;rw[C1,Zu2,Z4,or_assoc]
theorem wh:∀{l acc:List Int},acc.Nodup->(Az acc l).Nodup
 |[],acc,h=>h
 |k::l,acc,h=>wh (l:=l) (Zqj h)
theorem IE:∀(l acc:List Int),(Az acc l).length<=acc.length+l.length
 |[],acc=>by simp[Az]
 |k::l,acc=>by
  have h1:=IE l (w9 k acc);have h2:(w9 k acc).length<=acc.length+1:=by rw[SB];grind
  show(Az (w9 k acc) l).length<=_
  grind
def BS(l:List (Int×Int)):List Int:=l.filterMap fun p=>if p.2<=p.1 then some (p.1-p.2) else none
variable(l:List (Int×Int))
theorem Ji(l':List (Int×Int)):BS (l++l')=BS l++BS l':=List.filterMap_append
theorem Ny:BS []=[]:=rfl
theorem Tt(i b:Int):BS [(i,b)]=if b<=i then [i-b] else []:=by
 by_cases h:b<=i
 .simp[BS,h]
 .simp[BS,h]
theorem Yx:(BS l).length<=l.length:=List.length_filterMap_le _ _
theorem Yee{x:Int}{l:List (Int×Int)}:x∈BS l↔0<=x/\∃p∈l,p.1-p.2=x:=by
 simp only[BS,cj]
 grind
theorem Fk{x:Int}:∀{l:List (Int×Int)},(∃p∈l,p.1-p.2=x)↔cnt x l≠0
 |[]=>by simp[cnt]
 |p::l=>by
  have ih:=Fk (x:=x) (l:=l);rw[show p::l=[p]++l from rfl,u3,J2]
  grind
def JH(t:Tm):List Int:=Az [] (BS (t.vars 0))
def LA(t:Tm):List Int:=yo (JH t)
variable(t:Tm)
theorem YX:(JH t).Nodup:=wh bp
theorem Yb5{t:Tm}{x:Int}:x∈JH t↔0<=x/\cnt x (t.vars 0)≠0:=by rw[JH,C1,Yee,Fk];simp
theorem Yb2:(JH t).length<=t.size:=by
 have h1:=IE (BS (t.vars 0)) [];have h2:=Yx (t.vars 0);have h3:=t.Cn 0;simp only[JH,Z7] at*;omega
variable(l:List Int)
theorem wx:(yo l).Perm l:=List.mergeSort_perm l _
theorem Qo:(yo l).Pairwise (·<=·):=by
 have h:=List.pairwise_mergeSort (le:=fun x y:Int=>decide (x<=y)) (fun a b c h1 h2=>ei) (fun a b=>ei) l;exact h.imp fun h=>ei
variable{l' l:List Int}
theorem U2(hp:l.Perm l')(h:l.Pairwise (·<=·))(h':l'.Pairwise (·<=·)):l=l':=
 hp.eq_of_pairwise (le:=(·<=·)) (fun a b _ _ h1 h2=>dY) h h'
theorem Zk0(hp:l.Perm l'):yo l=yo l':=
 U2 ((wx l).trans (hp.trans (wx l').symm)) (Qo l) (Qo l')
theorem Hi{t:Tm}{x:Int}:x∈LA t↔0<=x/\cnt x (t.vars 0)≠0:=by rw[LA,(wx _).mem_iff,Yb5]
theorem Zpo:(LA t).Nodup:=(wx _).nodup_iff.2 (YX t)
def DU(l:List Int)(n:Int)(i:Nat):List Int:=l.take i++(l.getD i n::l.drop i)
def Le(l:List Int)(n:Int)(i:Nat):List Int:=l.take i++n::l.drop i
theorem Zz1(l:List Int)(n:Int):DU l n l.length=l++[n]:=by simp[DU]
variable{n:Int}
theorem Yca{i:Nat}(h:i<=l.length):(DU l n i).length=l.length+1:=by simp[DU];omega
theorem Yf0{i:Nat}(h:i<l.length)(h':i<(DU l n (i+1)).length):(DU l n (i+1))[i]=l[i]:=by
 simp only[DU]
 grind
theorem Zvm{i:Nat}(h:i<l.length):(DU l n (i+1)).set (i+1) l[i]=DU l n i:=by
 have h1:(l.take (i+1)).length=i+1:=ei
 simp only[DU];have e:l.take (i+1)=l.take i++[l[i]]:=dZ
 rw[List.set_append_right (h:=by omega),h1,cw,cF,e,ZE,List.singleton_append,<-di h]
 grind
theorem Zys{i:Nat}(h:i<=l.length):(DU l n i).set i n=Le l n i:=by
 have h1:(l.take i).length=i:=ei
 simp only[DU,Le];simp_all
theorem Zzh(l:List Int)(n:Int)(i:Nat):(Le l n i).Perm (n::l):=by
 have h1:(Le l n i).Perm (n::(l.take i++l.drop i)):=bM;simp_all
theorem Zpr{i:Nat}(hs:l.Pairwise (·<=·))(h:∀x∈l.drop i,n<x)(h':∀(hi:0<i) (hl:i-1<l.length),l[i-1]<=n)(hil:i<=l.length):(Le l n i).Pairwise (·<=·):=by
 have hs':=hs;rw[<-bw i l,dW] at hs;obtain⟨h1,h2,h3⟩:=hs;have ht:∀x∈l.take i,x<=n:=fun x hx=>by
  obtain⟨j,hj,hx2⟩:=cr.1 hx;have hj2:j<i:=ei
  rw[List.getElem_take] at hx2;have h4:=h' dY dY;rcases cc j (i-1) with h5|h5
  .have:=dg.1 hs' j (i-1) dY dY h5;omega
  grind
 rw[Le,dW];refine⟨h1,List.pairwise_cons.2 ⟨fun x hx=>ei,h2⟩,fun x hx y hy=> ?_⟩
 grind
theorem Zxd{d:List Int}{i:Nat}(h:∀x∈(yo d).drop i,n<x)(h':∀(hi:0<i) (hl:i-1<(yo d).length),(yo d)[i-1]<=n)(hil:i<=(yo d).length):Le (yo d) n i=yo (d++[n]):=by
 refine U2 ?_ (Zpr (Qo d) h h' hil) (Qo _);refine((Zzh _ _ _).trans ((wx d).cons n)).trans (?_:(n::d).Perm _);exact((bz (l₁:=[n]) (l₂:=d)).trans (wx _).symm)
theorem M5(d:List Int):(yo d).length=d.length:=(wx d).length_eq
theorem Qm:yo []=[]:=List.mergeSort_nil
theorem VP:∀{l ks:List Int},l.Nodup->(∀x∈l,x∈ks)->l.length<=ks.length
 |[],_,_,_=>bL _
 |x::l,ks,hn,h=>by
  obtain⟨h1,h2⟩:=aR.1 hn;have h3:=h x dZ;have h4:=VP (l:=l) (ks:=ks.erase x) h2 fun y hy=>(List.mem_erase_of_ne (fun e:y=x=>h1 ei)).2 (h y ei)
  grind
variable{C:Int}
theorem Su{t:Tm}(hs:t.shape=true){fr by_:Int}(hb:0<=by_)(hC:∀p∈t.vars 0,p.1<=C):∀p∈(t.re (z8 fr by_) 0).vars 0,p.1<=C+by_:=fun p hp=>by
 rw[X9 _ _ _ _ hs] at hp
 grind
theorem Ya5{t:Tm}(hC:∀p∈t.vars 0,p.1<=1000000):t.near=true:=ZH.2 fun p hp=>by
 grind
theorem Zxe:EK []=[]:=rfl
theorem UJ(b:Int):EK [(t,b)]=t.vars b:=by simp[EK]
def Fm.Bi(f:Fm)(fr by_:Int):Fm:=f.re (fun b t=>t.re (z8 (fr+b) by_) 0) 0
def A3:Fm:=Bv (.mk 4 0 (.mk 0 []) []) (.mk 5 0 (.mk 0 []) [.mk 4 0 (.mk 0 []) []])
theorem TL{f:Fm}(h:f.shape=true):
 (f.kind=1/\f.args=[])\/((f.kind=2\/f.kind=3)/\f.terms=[])\/((f.kind=4\/f.kind=5\/f.kind=6\/f.kind=7)/\f.terms=[]/\f.ty.err=0):=by
 rw[Fm.Ak,ZC,ZC] at h;have h1:=h.1.1;unfold Fm.head at h1;by_cases h2:f.kind=1
 .rw[if_pos h2] at h1;simp only[ZC,beq_iff_eq,aO] at h1;exact .inl ⟨h2,h1.2⟩
 rw[if_neg h2] at h1;by_cases h3:f.kind=2\/f.kind=3
 .rw[if_pos h3] at h1;simp only[ZC,beq_iff_eq,aO] at h1;exact .inr (.inl ⟨h3,h1.1.2⟩)
 rw[if_neg h3] at h1;by_cases h4:f.kind=4\/f.kind=5\/f.kind=6\/f.kind=7
 .rw[if_pos h4] at h1;simp only[ZC,beq_iff_eq,aO] at h1;refine .inr (.inr ⟨h4,h1.1.2,(Ty.Ad f.ty).2 ?_⟩);have:=h1.1.1;simp only[Ty.ok,ZC,decide_eq_true_eq] at this;exact this
 rw[if_neg h4] at h1;cases h1
theorem PB{α:Type}{f g:α->Nat}{l:List α}(h:∀x∈l,f x=g x):(l.map f).sum=(l.map g).sum:=by rw[aF h]
theorem Ybd{G:Int->Tm->Tm}(hG:∀b t,t.shape=true->(G b t).shape=true/\(G b t).size=t.size/\(G b t).full=t.full)(f:Fm):∀b,f.shape=true->(f.re G b).shape=true/\(f.re G b).size=f.size/\(f.re G b).full=f.full:=by
 induction f using Fm.ind with
 |h f ih=>
  intro b hf;have h0:=hf;rw[Fm.Ak,ZC,ZC] at h0;obtain⟨⟨h1,h2⟩,h3⟩:=h0;rw[Fm.BJ];refine⟨?_,?_,?_⟩
  .rw[Fm.Ak,ZC,ZC];refine⟨⟨?_,?_⟩,?_⟩
   .exact nv
   all_goals simp_all
  .rw[Fm.size_eq,f.size_eq];simp only[Fm.AE,Fm.Ag,aK];rw[PB (f:=Tm.size∘G b) (g:=Tm.size) fun x hx=>(hG b x (ZH.1 h2 x hx)).2.1,PB (f:=Fm.size∘Fm.re G (AR f.kind b)) (g:=Fm.size) fun x hx=>(ih x hx _ (ZH.1 h3 x hx)).2.1]
  .rw[Fm.Af,f.Af];simp only[Fm.AE,Fm.Ag,Fm.Bk,aK];rw[PB (f:=Tm.full∘G b) (g:=Tm.full) fun x hx=>(hG b x (ZH.1 h2 x hx)).2.2,PB (f:=Fm.full∘Fm.re G (AR f.kind b)) (g:=Fm.full) fun x hx=>(ih x hx _ (ZH.1 h3 x hx)).2.2]
theorem Lf{f:Fm}(hf:f.shape=true){fr by_:Int}(hb:0<=by_):(f.Bi fr by_).shape=true/\(f.Bi fr by_).size=f.size/\(f.Bi fr by_).full=f.full:=
 Ybd (fun b t ht=>⟨NN 0 ht hb,OW _ _ t 0 ht,KE _ _ t 0 ht⟩) f 0 hf
theorem Zzs(g m:List Ty)(fr:Int)(f:Fm):∀(h:List Ty) (b:Int),(h.length:Int)=fr+b->f.shape=true->f.BF (g++h)->
 (f.re (fun b t=>t.re (z8 (fr+b) m.length) 0) b).BF (g++m++h):=by
 induction f using Fm.ind with
 |h f ih=>
  intro h b hb hf hok;rw[Fm.BD] at hok;rw[Fm.BJ,Fm.BD];simp only[Fm.AE,Fm.Ag];refine⟨fun y hy=> ?_,fun y hy=> ?_⟩
  .obtain ⟨x,hx,rfl⟩:=ZQ.1 hy;rw[Rn x g m h (fr+b) 0 (yh hf hx) dY]
   grind
  .obtain ⟨x,hx,rfl⟩:=ZQ.1 hy;have h1:=hok.2 x hx;by_cases hq:xy f.kind=true
   .rw[Jk hq] at h1;rw[show ∀ts fs,Ed (g++m++h) (Fm.mk f.kind f.ty ts fs)=g++m++h++[f.ty] from fun ts fs=>Jk (f:=Fm.mk f.kind f.ty ts fs) hq];have e:AR f.kind b=b+1:=if_pos hq;rw[e,ZE (g++m)];rw[ZE] at h1;exact ih x hx (h++[f.ty]) (b+1) ei (zv hf hx) h1
   .rw[JF hq] at h1;rw[show ∀ts fs,Ed (g++m++h) (Fm.mk f.kind f.ty ts fs)=g++m++h from fun ts fs=>JF (f:=Fm.mk f.kind f.ty ts fs) hq];have e:AR f.kind b=b:=if_neg hq;rw[e];exact ih x hx h b hb (zv hf hx) h1
theorem Ygd{f:Fm}(hs:f.shape=true){fr by_:Int}(hb:0<=by_)(hC:∀p∈f.AZ 0,∀q∈p.1.vars 0,q.1<=C):∀p∈(f.Bi fr by_).AZ 0,∀q∈p.1.vars 0,0<=q.1/\q.1<=C+by_:=by
 intro p hp q hq;rw[Fm.Bi,YO] at hp;obtain⟨r,hr,rfl⟩:=ZQ.1 hp;have h1:=LC f hs 0 r hr;exact⟨Tm.AJ _ (NN 0 h1 hb) 0 q hq,Su h1 hb (hC r hr) q hq⟩
theorem Wy{f:Fm}(hC:C<=1000000)(h:∀p∈f.AZ 0,∀q∈p.1.vars 0,0<=q.1/\q.1<=C):f.near=true:=
 ZH.2 fun p hp=>Ya5 fun q hq=>ei
theorem Mr{f:Fm}(he:f.err=0){fr by_:Int}(hb:0<=by_):(f.Bi fr by_).err=0:=by
 have h1:=(Fm.Ad f).1 he;obtain⟨h2,h3,_⟩:=Lf h1.1 (fr:=fr) hb;exact(Fm.Ad _).2 ⟨h2,dY⟩
theorem Yfl{f:Fm}(h:EG 2 f):f.err=0:=(Fm.Ad f).2 ⟨h.1,by have:=h.2.1;omega⟩
end Go.Ab
namespace Go.Ab
set_option linter.all false
variable{T th:Ty}
theorem PA{k i:Int}{xs:List Tm}{g:List Ty}(k1:k≠1)(k2:k≠2)(h:(Tm.mk k i th xs).inf g=(T,0)):
 (∀x∈xs,x.inf g=((x.inf g).1,0))/\Cy k th (xs.map fun x=>(x.inf g).1)=(T,0):=by
 obtain⟨h1,h2⟩:=Li (t:=Tm.mk k i th xs) k1 k2 h;exact⟨fun x hx=>by rw[<-h1 x hx],h2⟩
variable{n:Tm}
theorem WU{i:Int}{x f:Tm}{g:List Ty}(h:(Tm.mk 6 i th [x,f,n]).inf g=(T,0)):
 T=th/\x.inf g=(th,0)/\f.inf g=(xn Ae (xn th th),0)/\n.inf g=(Ae,0):=by
 obtain⟨h1,h2⟩:=PA ej ej h;have hx:=h1 x dZ;have hf:=h1 f dZ;have hn:=h1 n dZ;simp only[Cy,ZJ,Z2,MZ,P7,Uu,reduceIte,Int.reduceEq] at h2
 grind
theorem W6{i:Int}{x f:Tm}{g:List Ty}(h:(Tm.mk 9 i th [x,f,n]).inf g=(T,0)):
 T=th/\x.inf g=(th,0)/\f.inf g=(xn Ae (xn Ao (xn th th)),0)/\n.inf g=(Ao,0):=by
 obtain⟨h1,h2⟩:=PA ej ej h;have hx:=h1 x dZ;have hf:=h1 f dZ;have hn:=h1 n dZ;simp only[Cy,ZJ,Z2,MZ,P7,Uu,reduceIte,Int.reduceEq] at h2
 grind
theorem Yct{i:Int}{x:Tm}{g:List Ty}(h:(Tm.mk 5 i th [x]).inf g=(T,0)):T=Ae/\x.inf g=(Ae,0):=by
 obtain⟨h1,h2⟩:=PA ej ej h;have hx:=h1 x dZ;simp only[Cy,ZJ,Z2,MZ,reduceIte,Int.reduceEq] at h2
 grind
theorem Yce{i:Int}{x y:Tm}{g:List Ty}(h:(Tm.mk 8 i th [x,y]).inf g=(T,0)):T=Ao/\x.inf g=(Ae,0)/\y.inf g=(Ao,0):=by
 obtain⟨h1,h2⟩:=PA ej ej h;have hx:=h1 x dZ;have hy:=h1 y dZ;simp only[Cy,ZJ,Z2,MZ,P7,reduceIte,Int.reduceEq] at h2
 grind
theorem Lz{f x:Tm}{a b:Ty}{g:List Ty}(hf:f.inf g=(xn a b,0))(hx:x.inf g=(a,0)):(Bd f x).inf g=(b,0):=Kg hf hx
theorem Zyz{x f:Tm}{g:List Ty}(hx:x.inf g=(th,0))(hf:f.inf g=(xn Ae (xn th th),0))(hn:n.inf g=(Ae,0))(i:Int):(Tm.mk 6 i th [x,f,n]).inf g=(th,0):=by
 rw[Tm.Bp];simp[Tm.AV,hx,hf,hn,Cy]
theorem Ztl{x f:Tm}{g:List Ty}(hx:x.inf g=(th,0))(hf:f.inf g=(xn Ae (xn Ao (xn th th)),0))(hn:n.inf g=(Ao,0))(i:Int):(Tm.mk 9 i th [x,f,n]).inf g=(th,0):=by
 rw[Tm.Bp];simp[Tm.AV,hx,hf,hn,Cy]
theorem Yjw{t u:Tm}(hv:RV t u){g:List Ty}(hs:t.shape=true)(h:t.inf g=(T,0)):u.inf g=(T,0):=by
 cases hv with
 |beta i th j s b a=>
  have hb:b.shape=true:=ze (ze hs (.mk 2 j s [b]) dZ) b dZ;have ha:a.shape=true:=ze hs a dZ;obtain⟨h1,h2⟩:=Li dZ dZ h;have hf:(Tm.mk 2 j s [b]).inf g=(((Tm.mk 2 j s [b]).inf g).1,0):=by rw[<-h1 (.mk 2 j s [b]) dZ]
  obtain⟨h3,h4⟩:=WO hf;have ha0:=h1 a dZ;simp only[Tm.AA,Tm.Bk,Tm.Ag,ZJ,Z2,h4] at h2;have h5:s=(a.inf g).1/\(b.inf (g++[s])).1=T:=by
   simp only[Cy,B2,bK,cX,Zvp,Zxz] at h2
   grind
  have hσ:a.inf g=(s,0):=ei
  have hp:=Zz b a g [] s 0 0 hb ha rfl hσ
  grind
 |rz i th x f j s=>obtain⟨rfl,h1,_⟩:=WU h;exact h1
 |fz i th x f j s=>obtain⟨rfl,h1,_⟩:=W6 h;exact h1
 |rs i th x f j s n=>
  obtain⟨rfl,h1,h2,h3⟩:=WU h;obtain⟨_,h4⟩:=Yct h3;exact Lz (Lz h2 h4) (Zyz h1 h2 h4 0)
 |fs i th x f j s n l=>
  obtain⟨rfl,h1,h2,h3⟩:=W6 h;obtain⟨_,h4,h5⟩:=Yce h3;exact Lz (Lz (Lz h2 h4) h5) (Ztl h1 h2 h5 0)
 |p1 i th j s _ y=>
  obtain⟨h1,h2⟩:=Li dZ dZ h;have hf:(Tm.mk 10 j s [u,y]).inf g=(((Tm.mk 10 j s [u,y]).inf g).1,0):=by rw[<-h1 (.mk 10 j s [u,y]) dZ]
  obtain⟨h3,h4,h5⟩:=UL hf;simp only[Tm.AA,Tm.Bk,Tm.Ag,ZJ,Z2,h5] at h2;simp[Cy,B2] at h2
  grind
 |p2 i th j s y _=>
  obtain⟨h1,h2⟩:=Li dZ dZ h;have hf:(Tm.mk 10 j s [y,u]).inf g=(((Tm.mk 10 j s [y,u]).inf g).1,0):=by rw[<-h1 (.mk 10 j s [y,u]) dZ]
  obtain⟨h3,h4,h5⟩:=UL hf;simp only[Tm.AA,Tm.Bk,Tm.Ag,ZJ,Z2,h5] at h2;simp[Cy,B2] at h2
  grind
theorem Yin(room:Int)(t:Tm):∀(g:List Ty) (T:Ty) (u:Tm),t.shape=true->t.inf g=(T,0)->DX room t=some (u,true)->u.inf g=(T,0):=by
 induction t using Tm.ind with
 |h t ih=>
  intro g T u hs h hn;rw[HO] at hn;by_cases hr:uo t=true
  .rw[if_pos hr] at hn;split at hn
   .cases hn
   .cases hn;exact Yjw (Mq hs hr) hs h
  .rw[if_neg hr,ZG] at hn;obtain⟨q,h1,h2⟩:=hn;obtain⟨m,hm,v,h3,h4⟩:=Ph _ _ _ h1;have e2:=congrArg Prod.snd h2;have e1:=congrArg Prod.fst h2;simp only at e1 e2;rw[e2] at h3;rw[<-e1,h4];have hargs:=ze hs;have hx:=hargs _ (ZA hm);have hmem:=ZA hm;by_cases k1:t.kind=1
   .exact absurd (Km hs k1) (fun hh=>ei)
   .have key:∀g' T',(t.args[m]).inf g'=(T',0)->v.inf g'=(T',0):=fun g' T' hi=>ih _ hmem g' T' v hx hi h3;by_cases k2:t.kind=2
    .obtain ⟨i,th,b,rfl,hb⟩:=KA hs k2 rfl;obtain⟨h5,h6⟩:=WO h;have hm0:m=0:=by simp at hm;omega
     subst hm0;simp only[Tm.Ag,ZN] at*;have q1:=key (g++[th]) (b.inf (g++[th])).1 ei;have:v.inf (g++[th])=b.inf (g++[th]):=ei
     rw[<-h];simp only[cF,Tm.AA,Tm.Bk,Tm.Bo];exact Zxp this
    .obtain ⟨h5,h6⟩:=Li k1 k2 h;have h7:=h5 _ hmem;have q1:=key g (t.args[m].inf g).1 ei;have hi:v.inf g=(t.args[m]).inf g:=ei
     rw[<-h,Tm.Bp g (Tm.mk t.kind t.index t.ty (t.args.set m v)),if_neg (show ¬(Tm.mk t.kind t.index t.ty (t.args.set m v)).kind=1 from k1),if_neg (show ¬(Tm.mk t.kind t.index t.ty (t.args.set m v)).kind=2 from k2),t.Bp,if_neg k1,if_neg k2];show(if(Tm.AV g (t.args.set m v)).2≠0 then(BV,(Tm.AV g (t.args.set m v)).2) else Cy t.kind t.ty (Tm.AV g (t.args.set m v)).1)=_;rw[Ts g v t.args m hm hi]
theorem V2:∀(k:Nat) (t:Tm) (n:Nat) (g:List Ty) (T:Ty),t.err=0->t.inf g=(T,0)->(EY k t n).2.2=0->(EY k t n).1.inf g=(T,0)
 |0,t,n,g,T,he,hi,h=>by
  simp only[EY] at h ⊢
  grind
 |k+1,t,n,g,T,he,hi,h=>by
  simp only[EY] at h ⊢;cases hx:DX (4096-t.size) t with
  |none=>exact hi
  |some p=>
   obtain⟨x,f⟩:=p;rw[hx] at h;cases f with
   |false=>cases h
   |true=>exact V2 k x (n+1) g T (TJ he hx) (Yin _ t g T x (uc he).1 hi hx) h
theorem Zzw{t:Tm}{steps:Int}(h:(wa t steps).2.2=0):t.err=0/\(wa t steps).1.err=0/\HH t (wa t steps).1/\nf (wa t steps).1/\∀g T,t.inf g=(T,0)->(wa t steps).1.inf g=(T,0):=by
 unfold wa at h ⊢;by_cases h1:t.err≠0
 .grind
 .rw[if_neg h1] at h ⊢;have h1':t.err=0:=ZK.1 h1;by_cases h2:¬(0<=steps/\steps<=65536)\/t.near=false
  .grind
  .rw[if_neg h2] at h ⊢;obtain⟨a,b,c⟩:=R9 _ t 0 h1' h;exact⟨h1',c,a,b,fun g T hi=>V2 _ t 0 g T h1' hi h⟩
end Go.Ab
namespace Go.Ab
open Go
set_option linter.all false
structure Ck where
 lems:List Fm
 tys:List Ty
 hyps:List Fm
def Ck.view(c:Ck):List V:=[.s .fm c.lems,.s .ty c.tys,.s .fm c.hyps]
def Ck.below(c:Ck)(l:List Ty):Ck:=⟨c.lems,c.tys++l,c.hyps.map fun f=>f.Bi 0 l.length⟩
def Ck.AH(c:Ck)(f:Fm):Ck:=⟨c.lems,c.tys,c.hyps++[f]⟩
def Ck.room(c:Ck)(v h:Nat):Int:=if c.tys.length+v>16\/c.hyps.length+h>16 then 3 else 0
def ur(a b:List Int):List Int:=yo (Az (Az [] a) b)
def EH(l:List Int)(n:Int):List Int:=(l.filter fun x=>decide (x>=n)).map (·-n)
def LR:List Int->Bool
 |[]=>false
 |x::_=>x==0
def F9(t:Tm):List Int:=if t.err=0 then LA t else []
def D7(f:Fm)(t:Tm):Fm×Int:=(if xi f 0 t=0 then f.put 0 t else Bf,xi f 0 t)
def F8(c:Ck)(t:Tm)(k:Int):Int:=if(xm c.tys t).2≠0 then(xm c.tys t).2 else if(xm c.tys t).1.kind≠k then 7 else 0
def Ef:List Tm->List Tm×Int
 |[]=>([],0)
 |t::l=>if(wa t 1000).2.2≠0 then([],(wa t 1000).2.2) else if(Ef l).2≠0 then([],(Ef l).2) else((wa t 1000).1::(Ef l).1,0)
mutual
def wo:Fm->Fm×Int
 | .mk k h ts zs=>if(Ef ts).2≠0 then(Bf,(Ef ts).2) else if(xw zs).2≠0 then(Bf,(xw zs).2) else(.mk k h (Ef ts).1 (xw zs).1,0)
def xw:List Fm->List Fm×Int
 |[]=>([],0)
 |f::l=>if(wo f).2≠0 then([],(wo f).2) else if(xw l).2≠0 then([],(xw l).2) else((wo f).1::(xw l).1,0)
end
mutual
def E2:Fm->Bool
 | .mk k _ _ zs=>if k=1 then false else if k=2 then(Md zs).getD 0 false||(Md zs).getD 1 false else if k=5 then true else(Md zs).getLastD false
def Md:List Fm->List Bool
 |[]=>[]
 |f::l=>E2 f::Md l
end
abbrev C8:=Fm×List Int×Int
abbrev Rs:=Ck->C8
def ye(e:Int):C8:=(Bf,[],e)
def xo(r:Rs)(c:Ck)(f:Fm)(t:Tm):List Int×Int:=
 if(r c).2.2≠0 then([],(r c).2.2) else if(D7 f t).2≠0 then([],(D7 f t).2) else((r c).2.1,P9 (D7 f t).1 (r c).1)
def L6(r:C8):C8:=if r.2.2≠0 then ye r.2.2 else if r.1.err≠0 then ye 4 else(r.1,if E2 r.1=true then r.2.1 else [],0)
def MG(c:Ck)(i:Int):C8:=if i>=c.hyps.length then ye 8 else(c.hyps.getD (c.hyps.length-1-i.toNat) Bf,[],0)
def N7(c:Ck)(i:Int):C8:=if i>=c.lems.length then ye 9 else(c.lems.getD i.toNat Bf,[],0)
def Mw(r0 r1:Rs)(c:Ck):C8:=if(r0 c).2.2≠0 then ye (r0 c).2.2 else(CU 2 (r0 c).1 (r1 c).1,ur (r0 c).2.1 (r1 c).2.1,(r1 c).2.2)
def MS(j:Nat)(r0:Rs)(c:Ck):C8:=if(r0 c).2.2≠0 then ye (r0 c).2.2 else if(r0 c).1.kind≠2 then ye 10 else((r0 c).1.args.getD j Bf,(r0 c).2.1,0)
def NS(f:Fm)(r0:Rs)(c:Ck):C8:=
 if y9 c.tys f≠0 then ye (y9 c.tys f) else if c.room 0 1≠0 then ye 3 else(CU 3 f (r0 (c.AH f)).1,(r0 (c.AH f)).2.1,(r0 (c.AH f)).2.2)
def NH(r0 r1:Rs)(c:Ck):C8:=
 if(r0 c).2.2≠0 then ye (r0 c).2.2 else if(r0 c).1.kind≠3 then ye 10 else if(r1 c).2.2≠0 then ye (r1 c).2.2
 else((r0 c).1.args.getD 1 Bf,ur (r0 c).2.1 (r1 c).2.1,P9 ((r0 c).1.args.getD 0 Bf) (r1 c).1)
def Nw(k:Int)(s:Ty)(r0:Rs)(c:Ck):C8:=
 if c.room 1 0≠0 then ye 3 else if(r0 (c.below [s])).2.2≠0 then ye (r0 (c.below [s])).2.2
 else if k=8 then(BK 4 s (r0 (c.below [s])).1,EH (r0 (c.below [s])).2.1 1,0)
 else if LR (r0 (c.below [s])).2.1=true then ye 12 else(BK 6 s (r0 (c.below [s])).1,EH (r0 (c.below [s])).2.1 1,0)
def kI(k u a b:Int):Int:=if k=u then a else b
def kL(k u:Int)(a b:List Int):List Int:=if k=u then a else b
theorem N8{α:Type}{l:List α}{i:Nat}(h:i<l.length)(d:α):l.getD i d=l[i]:=ei
def atR(k:Int)(t:Tm)(r0:Rs)(c:Ck):C8:=
 if(xm c.tys t).2≠0 then ye (xm c.tys t).2 else if(r0 c).2.2≠0 then ye (r0 c).2.2
 else if(r0 c).1.kind≠kI k 13 6 4 then ye 10 else if(r0 c).1.ty≠(xm c.tys t).1 then ye 7
 else((D7 ((r0 c).1.args.getD 0 Bf) t).1,kL k 13 (r0 c).2.1 (ur (r0 c).2.1 (F9 t)),(D7 ((r0 c).1.args.getD 0 Bf) t).2)
def Nm(k:Int)(f:Fm)(t:Tm)(r0:Rs)(c:Ck):C8:=
 if y9 c.tys f≠0 then ye (y9 c.tys f) else if f.kind≠kI k 14 7 5 then ye 10
 else if(xm c.tys t).2≠0 then ye (xm c.tys t).2 else if f.ty≠(xm c.tys t).1 then ye 7
 else(f,kL k 14 (xo r0 c (f.args.getD 0 Bf) t).1 (ur (xo r0 c (f.args.getD 0 Bf) t).1 (F9 t)),(xo r0 c (f.args.getD 0 Bf) t).2)
def Fw(f:Fm):Fm×Int:=
 if xq 0 f=0 then(f,0) else if(wo f).2≠0 then(Bf,(wo f).2) else if xq 0 (wo f).1≠0 then(Bf,6) else((wo f).1,0)
def I6(r1:Rs)(c:Ck)(a:Fm):C8:=r1 ((c.below [a.ty]).AH (a.args.getD 0 Bf))
def MV(k:Int)(r0 r1:Rs)(c:Ck):C8:=
 if(r0 c).2.2≠0 then ye (r0 c).2.2 else if(r0 c).1.kind≠kI k 15 7 5 then ye 10 else if c.room 1 1≠0 then ye 3
 else if(I6 r1 c (r0 c).1).2.2≠0 then ye (I6 r1 c (r0 c).1).2.2
 else if(Fw (I6 r1 c (r0 c).1).1).2≠0 then ye (Fw (I6 r1 c (r0 c).1).1).2
 else if k=15/\LR (I6 r1 c (r0 c).1).2.1=true then ye 12
 else((Fw (I6 r1 c (r0 c).1).1).1.Bi 1 (-1),ur (r0 c).2.1 (EH (I6 r1 c (r0 c).1).2.1 1),0)
def M4(f:Fm)(t:Tm)(r0 r1:Rs)(c:Ck):C8:=
 if um (c.tys++[Ae]) f≠0 then ye (um (c.tys++[Ae]) f) else if F8 c t 1≠0 then ye (F8 c t 1)
 else if(xo r0 c f zT).2≠0 then ye (xo r0 c f zT).2 else if c.room 1 1≠0 then ye 3
 else if(xo r1 ((c.below [Ae]).AH f) (f.Bi 1 1) (sT (vT 0))).2≠0 then ye (xo r1 ((c.below [Ae]).AH f) (f.Bi 1 1) (sT (vT 0))).2
 else((D7 f t).1,ur (ur (F9 t) (xo r0 c f zT).1) (EH (xo r1 ((c.below [Ae]).AH f) (f.Bi 1 1) (sT (vT 0))).1 1),(D7 f t).2)
def Ej:Tm:= .mk 7 0 (.mk 0 []) []
def CH:Tm:= .mk 8 0 (.mk 0 []) [vT 1,vT 0]
def MO(f:Fm)(t:Tm)(r0 r1:Rs)(c:Ck):C8:=
 if um (c.tys++[Ao]) f≠0 then ye (um (c.tys++[Ao]) f) else if F8 c t 2≠0 then ye (F8 c t 2)
 else if(xo r0 c f Ej).2≠0 then ye (xo r0 c f Ej).2 else if c.room 2 1≠0 then ye 3
 else if(xo r1 ((c.below [Ae,Ao]).AH (f.Bi 1 1)) (f.Bi 1 2) CH).2≠0 then ye (xo r1 ((c.below [Ae,Ao]).AH (f.Bi 1 1)) (f.Bi 1 2) CH).2
 else((D7 f t).1,ur (ur (F9 t) (xo r0 c f Ej).1) (EH (xo r1 ((c.below [Ae,Ao]).AH (f.Bi 1 1)) (f.Bi 1 2) CH).1 2),(D7 f t).2)
def Mb(t:Tm)(c:Ck):C8:=(Bv t t,[],F8 c t 1)
def Ot(f:Fm)(r0 r1:Rs)(c:Ck):C8:=
 if um (c.tys++[Ae]) f≠0 then ye (um (c.tys++[Ae]) f) else if(r0 c).2.2≠0 then ye (r0 c).2.2 else if(r0 c).1.kind≠1 then ye 10
 else if(xo r1 c f ((r0 c).1.terms.getD 0 Da)).2≠0 then ye (xo r1 c f ((r0 c).1.terms.getD 0 Da)).2
 else((D7 f ((r0 c).1.terms.getD 1 Da)).1,(xo r1 c f ((r0 c).1.terms.getD 0 Da)).1,(D7 f ((r0 c).1.terms.getD 1 Da)).2)
def F6:Tm:=Bd (vT 1) (vT 0)
def ML(a:Fm):Fm×Int:=D7 (((a.args.getD 0 Bf).args.getD 0 Bf).Bi 2 1) F6
def Nv(a:Fm):Ty:=xn a.ty (a.args.getD 0 Bf).ty
def Oj(r0:Rs)(c:Ck):C8:=
 if(r0 c).2.2≠0 then ye (r0 c).2.2 else if(r0 c).1.kind≠4\/((r0 c).1.args.getD 0 Bf).kind≠5 then ye 10 else if(Nv (r0 c).1).err≠0 then ye 4
 else(BK 5 (Nv (r0 c).1) (BK 4 (r0 c).1.ty (ML (r0 c).1).1),(r0 c).2.1,(ML (r0 c).1).2)
def Jh(k i:Int)(s:Ty)(ts:List Tm)(fs:List Fm)(rs:List Rs)(c:Ck):C8:=
 if k=1 then MG c i else if k=2 then N7 c i else if k=3 then Mw (rs.getD 0 fun _=>ye 0) (rs.getD 1 fun _=>ye 0) c
 else if k=4\/k=5 then MS (k-4).toNat (rs.getD 0 fun _=>ye 0) c
 else if k=6 then NS (fs.getD 0 Bf) (rs.getD 0 fun _=>ye 0) c
 else if k=7 then NH (rs.getD 0 fun _=>ye 0) (rs.getD 1 fun _=>ye 0) c
 else if k=8\/k=12 then Nw k s (rs.getD 0 fun _=>ye 0) c
 else if k=9\/k=13 then atR k (ts.getD 0 Da) (rs.getD 0 fun _=>ye 0) c
 else if k=10\/k=14 then Nm k (fs.getD 0 Bf) (ts.getD 0 Da) (rs.getD 0 fun _=>ye 0) c
 else if k=11\/k=15 then MV k (rs.getD 0 fun _=>ye 0) (rs.getD 1 fun _=>ye 0) c
 else if k=16 then M4 (fs.getD 0 Bf) (ts.getD 0 Da) (rs.getD 0 fun _=>ye 0) (rs.getD 1 fun _=>ye 0) c
 else if k=17 then MO (fs.getD 0 Bf) (ts.getD 0 Da) (rs.getD 0 fun _=>ye 0) (rs.getD 1 fun _=>ye 0) c
 else if k=18 then Mb (ts.getD 0 Da) c
 else if k=19 then Ot (fs.getD 0 Bf) (rs.getD 0 fun _=>ye 0) (rs.getD 1 fun _=>ye 0) c
 else Oj (rs.getD 0 fun _=>ye 0) c
mutual
def CP:Pf->Rs
 | .mk k i s ts fs zs=>fun c=>L6 (Jh k i s ts fs (Qy zs) c)
def Qy:List Pf->List Rs
 |[]=>[]
 |p::l=>CP p::Qy l
end
theorem Vr:∀l:List Pf,Qy l=l.map CP
 |[]=>rfl
 |p::l=>by rw[Qy,Vr l];rfl
theorem SG(p:Pf)(c:Ck):CP p c=L6 (Jh p.kind p.index p.ty p.terms p.Aa (p.args.map CP) c):=by cases p;simp only[CP,Vr];rfl
theorem Yl:∀l:List Fm,Md l=l.map E2
 |[]=>rfl
 |p::l=>by rw[Md,Yl l];rfl
theorem SC(f:Fm):E2 f=if f.kind=1 then false else if f.kind=2 then(f.args.map E2).getD 0 false||(f.args.map E2).getD 1 false else if f.kind=5 then true else(f.args.map E2).getLastD false:=by
 cases f;simp only[E2,Yl];rfl
theorem Yb(f:Fm):wo f=if(Ef f.terms).2≠0 then(Bf,(Ef f.terms).2) else if(xw f.args).2≠0 then(Bf,(xw f.args).2) else(.mk f.kind f.ty (Ef f.terms).1 (xw f.args).1,0):=by
 cases f;rfl
variable{c:Ck}
theorem va{v h:Nat}(hr:c.room v h=0):c.tys.length+v<=16/\c.hyps.length+h<=16:=by
 unfold Ck.room at hr;omega
theorem MQ{v h:Nat}(hr:c.room v h≠0):c.room v h=3:=by unfold Ck.room at*;omega
theorem Yt:∀{g:List Ty},(∀x∈g,x.err=0)->ud g=0
 |[],_=>rfl
 |x::l,h=>by
  simp only[ud];rw[if_neg ei];exact Yt fun y hy=>h y ei
theorem Zza{g:List Ty}(hl:g.length<=16)(h:∀x∈g,x.err=0):xz g=0:=by
 unfold xz;rw[if_neg dY];exact Yt h
theorem M3{α:Type}{f:α->Int}:∀{l:List α},w8 f l=0->∀x∈l,f x=0
 |[],_,x,h=>eE
 |y::l,h,x,hx=>by
  simp only[w8] at h;by_cases h1:f y≠0
  .omega
  .rw[if_neg h1] at h;rcases Z4.1 hx with rfl|hx
   .omega
   .exact M3 h x hx
theorem Uh{t:Ty}(he:t.err=0)(hk:t.kind=1):t=Ae:=by
 exact lg
theorem X8{t:Ty}(he:t.err=0)(hk:t.kind=2):t=Ao:=by
 exact lg
variable{t:Tm}
theorem VA{g:List Ty}(hg:∀x∈g,x.err=0)(h:(E5 g t).2=0):t.err=0/\t.inf g=((E5 g t).1,0)/\(E5 g t).1.err=0:=by
 unfold E5 at h ⊢;by_cases h1:t.err≠0
 .grind
 .rw[if_neg h1] at h ⊢;have h1':=ZK.1 h1;exact⟨h1',ei,Tm.Eu t g ((Tm.Ad t).1 h1').1 hg h⟩
theorem Nk{g:List Ty}(h:(xm g t).2=0):xz g=0/\t.err=0/\t.inf g=((xm g t).1,0)/\(xm g t).1.err=0:=by
 unfold xm at h ⊢;by_cases h1:xz g≠0
 .grind
 .rw[if_neg h1] at h ⊢;have h1':=ZK.1 h1;exact⟨h1',VA (uv h1').2 h⟩
theorem Yd4(f:Fm):∀g:List Ty,(∀x∈g,x.err=0)->f.shape=true->f.Fe g=0->f.BF g:=by
 induction f using Fm.ind with
 |h f ih=>
  intro g hg hs h;rw[Fm.Gk] at h;by_cases h1:w8 (tE g) f.terms≠0
  .omega
  .rw[if_neg h1] at h;rw[Fm.BD];refine⟨fun t ht=> ?_,fun x hx=> ?_⟩
   .have h2:=M3 (ZK.1 h1) t ht;unfold tE at h2;by_cases h3:(E5 g t).2≠0
    .omega
    .rw[if_neg h3] at h2;obtain⟨a,b,c⟩:=VA hg (ZK.1 h3);by_cases h4:(E5 g t).1.kind≠1
     .omega
     .rw[b,Uh c (ZK.1 h4)]
   .have h2:=M3 h x hx;refine ih x hx _ ?_ (zv hs hx) h2;by_cases hq:xy f.kind=true
    .rw[Jk hq];intro y hy;rcases ZU.1 hy with hy|hy
     .grind
     .simp only[ah] at hy;subst hy;have hk:=Bx.1 hq;rcases TL hs with⟨h5,_⟩|⟨h5,_⟩|⟨_,_,h6⟩;all_goals omega
    .rw[JF hq];exact hg
theorem L3{g:List Ty}{f:Fm}(hg:∀x∈g,x.err=0)(h:um g f=0):f.err=0/\f.BF g:=by
 unfold um at h;by_cases h1:f.err≠0
 .omega
 .rw[if_neg h1] at h;have h1':=ZK.1 h1;exact⟨h1',Yd4 f g hg ((Fm.Ad f).1 h1').1 h⟩
theorem wd{g:List Ty}{f:Fm}(h:y9 g f=0):f.err=0/\f.BF g:=by
 unfold y9 at h;by_cases h1:xz g≠0
 .omega
 .rw[if_neg h1] at h;exact L3 (uv (ZK.1 h1)).2 h
variable{k:Int}
theorem Zw(h:F8 c t k=0):t.err=0/\t.inf c.tys=((xm c.tys t).1,0)/\(xm c.tys t).1.err=0/\(xm c.tys t).1.kind=k:=by
 unfold F8 at h;by_cases h1:(xm c.tys t).2≠0
 .omega
 .rw[if_neg h1] at h;obtain⟨_,a,b,d⟩:=Nk (ZK.1 h1)
  grind
theorem YV(t:Tm):∀(g:List Ty) (b:Int),t.shape=true->(t.inf g).2=0->∀p∈t.vars b,p.1-p.2<g.length-b:=by
 induction t using Tm.ind with
 |h t ih=>
  intro g b hs h p hp;have hargs:=ze hs;by_cases k1:t.kind=1
  .rw[I5 hs k1] at hp;simp only[ah] at hp;subst hp;rw[Tm.Bp,if_pos k1] at h
   grind
  .rw[KX k1] at hp;obtain⟨x,hx,hp⟩:=ZZ.1 hp;by_cases k2:t.kind=2
   .have e:up t.kind b=b+1:=by simp[up,k2]
    rw[e] at hp;rw[Tm.Bp,if_neg k1,if_pos k2] at h;have h0:(Tm.AV (g++[t.ty]) t.args).2=0:=by
     grind
    have:=ih x hx (g++[t.ty]) (b+1) (hargs x hx) (Tm.Dl _ _ h0 x hx) p hp
    grind
   .have e:up t.kind b=b:=by simp[up,k2]
    rw[e] at hp;exact ih x hx g b (hargs x hx) ((Li (T:=(t.inf g).1) k1 k2 ei).1 x hx) p hp
def Be(n:Nat)(l:List Int):Prop:=l.Nodup/\∀u∈l,0<=u/\u<n
theorem Be.nil(n:Nat):Be n []:=⟨bp,fun u h=>eE⟩
variable{l:List Int}{n:Nat}
theorem Be.len(h:Be n l):l.length<=n:=(Zxh n l h.1 h.2).1
theorem DJ{a b:List Int}{x:Int}:x∈ur a b↔x∈a\/x∈b:=by
 rw[ur,(wx _).mem_iff,C1,C1];simp
theorem Be.union{a b:List Int}(ha:∀u∈a,0<=u/\u<(n:Int))(hb:∀u∈b,0<=u/\u<(n:Int)):Be n (ur a b):=by
 refine⟨?_,fun u hu=> ?_⟩
 .rw[ur,(wx _).nodup_iff];exact wh (wh bp)
 .rcases DJ.1 hu with h|h;all_goals grind
theorem Ik{n x:Int}:x∈EH l n↔0<=x/\x+n∈l:=by
 simp only[EH,ZQ,bI,decide_eq_true_eq]
 grind
variable{m:Nat}
theorem Be.out(h:Be (n+m) l):Be n (EH l m):=by
 refine⟨?_,fun u hu=> ?_⟩
 .have h1:(l.filter fun x=>decide (x>=(m:Int))).Nodup:=h.1.filter _;unfold EH
  grind
 .obtain ⟨h1,h2⟩:=Ik.1 hu;have:=h.2 _ h2;omega
theorem I0{g:List Ty}{T:Ty}(h:t.inf g=(T,0)):Be g.length (F9 t):=by
 unfold F9;by_cases he:t.err=0
 .rw[if_pos he];refine⟨Zpo t,fun u hu=> ?_⟩;obtain⟨h0,h1⟩:=Hi.1 hu;refine⟨h0,?_⟩;obtain⟨p,hp,e⟩:=Fk.2 h1;have:=YV t g 0 ((Tm.Ad t).1 he).1 (by rw[h]) p hp;omega
 .rw[if_neg he];exact .nil _
theorem Yac{g:List Ty}(m:List Ty)(hs:t.shape=true)(h:(t.inf g).2=0):t.inf (m++g)=t.inf g:=by
 have h1:=Rn t [] m g g.length 0 hs dY;rw[Z3,Z3] at h1;rw[<-h1];congr 1;refine(Ykt t 0 hs fun p hp=> ?_).symm;have:=YV t g 0 hs h p hp;rw[NA,if_neg dY]
theorem Zyw(f:Fm):∀(g m:List Ty),f.shape=true->f.BF g->f.BF (m++g):=by
 induction f using Fm.ind with
 |h f ih=>
  intro g m hs hok;rw[Fm.BD] at hok ⊢;refine⟨fun t ht=> ?_,fun x hx=> ?_⟩
  .have:=hok.1 t ht;rw[Yac m (yh hs ht) ei];omega
  .have:=ih x hx _ m (zv hs hx) (hok.2 x hx);by_cases hq:xy f.kind=true
   .rw[Jk hq] at this ⊢;grind
   .rw[JF hq] at this ⊢;omega
theorem uk{f x:Fm}(hf:f.err=0)(hx:x∈f.args):x.err=0:=by
 have h:=(Fm.Ad f).1 hf;have h1:=zc Fm.size hx;have h2:=f.size_eq;exact(Fm.Ad x).2 ⟨zv h.1 hx,dY⟩
theorem VD{f:Fm}(hf:f.err=0)(ht:t∈f.terms):t.err=0:=by
 have h:=(Fm.Ad f).1 hf;have h1:=zc Tm.size ht;have h2:=f.size_eq;exact(Tm.Ad t).2 ⟨yh h.1 ht,dY⟩
theorem MJ{f:Fm}(hs:f.shape=true)(hk:f.kind=2\/f.kind=3):∃a b,f=CU f.kind a b:=by
 rw[Fm.Ak,ZC,ZC] at hs;have h1:=hs.1.1;unfold Fm.head at h1;rw[if_neg dY,if_pos hk] at h1;simp only[ZC,beq_iff_eq] at h1;clear hs;obtain⟨k,h,ts,zs⟩:=f;simp only[Fm.AA,Fm.AE,Fm.Ag] at h1 hk;have e1:ts=[]:=ZS h1.1.2
 match zs,h1 with
 |[a,b],h1=>
  refine⟨a,b,?_⟩;have e2:h= .mk 0 []:=Ty.Eh eS;rw[e1,e2];rfl
 |[],h1=>grind
 |[a],h1=>grind
 |a::b::c::l,h1=>grind
theorem Ja{f:Fm}(hs:f.shape=true)(hk:4<=f.kind/\f.kind<=7):∃a,f=BK f.kind f.ty a:=by
 rw[Fm.Ak,ZC,ZC] at hs;have h1:=hs.1.1;unfold Fm.head at h1;rw[if_neg dY,if_neg dY,if_pos dY] at h1;simp only[ZC,beq_iff_eq] at h1;clear hs;obtain⟨k,h,ts,zs⟩:=f;simp only[Fm.AA,Fm.AE,Fm.Ag] at h1 hk;have e1:ts=[]:=ZS h1.1.2
 match zs,h1 with
 |[a],h1=>exact⟨a,by rw[e1];rfl⟩
 |[],h1=>grind
 |a::b::l,h1=>grind
theorem RH{f:Fm}(hs:f.shape=true)(hk:f.kind=1):∃a b,f=Bv a b:=by
 rw[Fm.Ak,ZC,ZC] at hs;have h1:=hs.1.1;unfold Fm.head at h1;rw[if_pos hk] at h1;simp only[ZC,beq_iff_eq] at h1;clear hs;obtain⟨k,h,ts,zs⟩:=f;simp only[Fm.AA,Fm.AE,Fm.Ag] at h1 hk;have e1:zs=[]:=ZS h1.2
 match ts,h1 with
 |[a,b],h1=>
  have e2:h= .mk 0 []:=Ty.Eh eS;exact⟨a,b,by rw[e1,e2,hk];rfl⟩
 |[],h1=>grind
 |[a],h1=>grind
 |a::b::c::l,h1=>grind
theorem J1{f:Fm}(hf:f.shape=true)(hk:4<=f.kind/\f.kind<=7):f.ty.err=0:=by
 rcases TL hf with⟨h,_⟩|⟨h,_⟩|⟨_,_,h⟩;all_goals omega
theorem Wd{a b:Fm}{g:List Ty}(hk:k=2\/k=3)(h:(CU k a b).BF g):a.BF g/\b.BF g:=by
 rw[Fm.BD] at h;have e:Ed g (CU k a b)=g:=JF (by show ¬xy k=true;rw[Bx];omega);rw[e] at h;exact⟨h.2 a fZ,h.2 b fZ⟩
theorem Lc{s:Ty}{a:Fm}{g:List Ty}(hk:4<=k/\k<=7)(h:(BK k s a).BF g):a.BF (g++[s]):=by
 rw[Fm.BD] at h;have e:Ed g (BK k s a)=g++[s]:=Jk (Bx.2 hk);rw[e] at h;exact h.2 a (by simp[BK])
variable{b:Tm}
theorem DE{a:Tm}{g:List Ty}:(Bv a b).BF g↔a.inf g=(Ae,0)/\b.inf g=(Ae,0):=by
 rw[Fm.BD];simp[Bv]
theorem X3{a b:Fm}(hk:k=2\/k=3)(ha:a.shape=true)(hb:b.shape=true):(CU k a b).shape=true:=by
 rw[Fm.Ak];rcases hk with rfl|rfl<;>simp[CU,Fm.head,ha,hb,Ty.B3,Ty.kind,Ty.args]
theorem N6{s:Ty}{a:Fm}(hk:4<=k/\k<=7)(hs:s.err=0)(ha:a.shape=true):(BK k s a).shape=true:=by
 rw[Fm.Ak];have h1:=(Ty.Ad s).1 hs;have h2:s.ok=true:=Lt h1.1 h1.2;have:k=4\/k=5\/k=6\/k=7:=dY
 rcases this with rfl|rfl|rfl|rfl<;>simp[BK,Fm.head,ha,h2]
theorem Oz(k:Int)(a b:Fm):(CU k a b).size=1+a.size+b.size:=by rw[Fm.size_eq];simp[CU];omega
theorem LZ(k:Int)(s:Ty)(a:Fm):(BK k s a).size=1+a.size:=eC
theorem Ld{f:Fm}{g h:List Ty}(m:List Ty)(hf:f.shape=true)(hok:f.BF (g++h)):(f.Bi h.length m.length).BF (g++m++h):=by
 have:=Zzs g m h.length f h 0 dY hf hok;exact this
theorem MD{f:Fm}{g:List Ty}{σ:Ty}(hf:f.BF (g++[σ]))(ht:t.inf g=(σ,0))(h:(D7 f t).2=0):(D7 f t).1.err=0/\(D7 f t).1.BF g:=by
 have h':xi f 0 t=0:=h;have e:(D7 f t).1=f.put 0 t:=if_pos h';obtain⟨h1,h2,_⟩:=Ud h';rw[e];refine⟨Yar dY h',?_⟩;have h3:=SJ 0 t g σ ((Tm.Ad t).1 h2).1 ht f [] 0 rfl ((Fm.Ad f).1 h1).1 ei;rw[ZY] at h3;exact h3
structure Ck.ok (c:Ck):Prop where
 ctx:xz c.tys=0
 nh:c.hyps.length<=16
 nl:c.lems.length<=32
 hyps:∀f∈c.hyps,f.err=0/\f.BF c.tys
 lems:∀f∈c.lems,f.err=0/\f.BF []
theorem Ck.ok.len(h:c.ok):c.tys.length<=16:=(uv h.ctx).1
theorem Ck.ok.all(h:c.ok):∀x∈c.tys,x.err=0:=(uv h.ctx).2
theorem Ck.ok.below{c:Ck}(h:c.ok){l:List Ty}(hl:c.tys.length+l.length<=16)(he:∀x∈l,x.err=0):(c.below l).ok:=by
 refine⟨Zza gZ fun x hx=> ?_,by simp[Ck.below];exact h.nh,h.nl,fun f hf=> ?_,h.lems⟩
 .rcases ZU.1 hx with hx|hx
  .exact h.all x hx
  grind
 .obtain ⟨y,hy,rfl⟩:=ZQ.1 hf;obtain⟨h1,h2⟩:=h.hyps y hy;refine⟨Mr h1 dY,?_⟩;have h3:=Ld (g:=c.tys) (h:=[]) l ((Fm.Ad y).1 h1).1 ei;simpa[Ck.below] using h3
theorem Ck.ok.AH{c:Ck}(h:c.ok){f:Fm}(hl:c.hyps.length+1<=16)(hf:f.err=0)(hok:f.BF c.tys):(c.AH f).ok:=by
 refine⟨h.ctx,by simp[Ck.AH];omega,h.nl,fun y hy=> ?_,h.lems⟩;rcases ZU.1 hy with hy|hy
 .exact h.hyps y hy
 .simp only[ah] at hy;subst hy;exact⟨hf,hok⟩
def ul(c:Ck)(r:C8):Prop:=r.2.2=0->r.1.shape=true/\r.1.size<=20000000/\r.1.BF c.tys/\Be c.tys.length r.2.1
def GV(c:Ck)(r:C8):Prop:=(r.2.2=0->r.1.err=0/\r.1.BF c.tys/\Be c.tys.length r.2.1)/\(r.2.2≠0->r=ye r.2.2)
theorem zq(c:Ck){e:Int}(he:e≠0):ul c (ye e):=fun h=>absurd h he
theorem Ygy{r:C8}(h:ul c r):GV c (L6 r):=by
 unfold L6;by_cases h1:r.2.2≠0
 .rw[if_pos h1];exact⟨fun h=>absurd h h1,fun _=>rfl⟩
 .rw[if_neg h1];by_cases h2:r.1.err≠0
  .rw[if_pos h2];exact⟨fun h=>absurd h ej,fun _=>rfl⟩
  .rw[if_neg h2];obtain⟨_,_,h4,h5⟩:=h (ZK.1 h1);refine⟨fun _=>⟨ZK.1 h2,h4,?_⟩,fun h=>absurd rfl h⟩;simp only;split
   .exact h5
   .exact .nil _
def Cq(r:Rs):Prop:=∀c,c.ok->GV c (r c)
theorem Cq.good{r:Rs}(h:Cq r)(hc:c.ok)(he:(r c).2.2=0):(r c).1.err=0/\(r c).1.BF c.tys/\Be c.tys.length (r c).2.1:=(h c hc).1 he
theorem ym{f:Fm}(h:f.err=0):f.shape=true/\f.size<=20000000:=by
 have:=(Fm.Ad f).1 h;grind
theorem UK(hc:c.ok){i:Int}(hi:0<=i):ul c (MG c i):=by
 unfold MG;split
 .exact zq c ej
 .rename_i h;intro _;have hlt:c.hyps.length-1-i.toNat<c.hyps.length:=dY
  simp only;rw[N8 hlt];obtain⟨h1,h2⟩:=hc.hyps _ (ZA hlt);exact⟨(ym h1).1,(ym h1).2,h2,.nil _⟩
theorem Vt(hc:c.ok){i:Int}(hi:0<=i):ul c (N7 c i):=by
 unfold N7;split
 .exact zq c ej
 .rename_i h;intro _;have hlt:i.toNat<c.lems.length:=dY
  simp only;rw[N8 hlt];obtain⟨h1,h2⟩:=hc.lems _ (ZA hlt);have h3:=Zyw _ [] c.tys (ym h1).1 h2;rw[ZY] at h3;exact⟨(ym h1).1,(ym h1).2,h3,.nil _⟩
theorem Wt{r0 r1:Rs}(h0:Cq r0)(h1:Cq r1)(hc:c.ok):ul c (Mw r0 r1 c):=by
 unfold Mw;split
 .exact ku
 .rename_i h;intro he;obtain⟨a1,a2,a3⟩:=h0.good hc (ZK.1 h);obtain⟨b1,b2,b3⟩:=h1.good hc he;have s1:=(Fm.Ad _).1 a1;have s2:=(Fm.Ad _).1 b1;exact⟨X3 (.inl rfl) s1.1 s2.1,by rw[Oz];omega,P5 (.inl rfl) a2 b2,.union a3.2 b3.2⟩
theorem Qa{r0:Rs}(h0:Cq r0)(hc:c.ok){j:Nat}(hj:j<2):ul c (MS j r0 c):=by
 unfold MS;split
 .exact ku
 rename_i h;split
 .exact zq c ej
 rename_i h2;intro _;obtain⟨a1,a2,a3⟩:=h0.good hc (ZK.1 h);have s1:=(Fm.Ad _).1 a1;obtain⟨x,y,e⟩:=MJ s1.1 (.inl (ZK.1 h2));have hk:(r0 c).1.kind=2:=ZK.1 h2;rw[hk] at e;rw[e] at a2;obtain⟨o1,o2⟩:=Wd (.inl rfl) a2;have e1:=uk a1 (x:=x) (by rw[e];simp[CU]);have e2:=uk a1 (x:=y) (by rw[e];simp[CU]);have:(r0 c).1.args=[x,y]:=fH
 simp only[this];rcases j with _|_|j
 .exact ⟨(ym e1).1,(ym e1).2,o1,a3⟩
 .exact ⟨(ym e2).1,(ym e2).2,o2,a3⟩
 .omega
theorem UU{r0:Rs}(h0:Cq r0){f:Fm}(hc:c.ok):ul c (NS f r0 c):=by
 unfold NS;split
 .exact ku
 rename_i h;split
 .exact zq c ej
 rename_i h2;intro he;obtain⟨f1,f2⟩:=wd (ZK.1 h);have hr:=va (ZK.1 h2);obtain⟨a1,a2,a3⟩:=h0.good (hc.AH (f:=f) hr.2 f1 f2) he;have s1:=(Fm.Ad _).1 a1;have s2:=(Fm.Ad _).1 f1;exact⟨X3 (.inr rfl) s2.1 s1.1,by rw[Oz];omega,P5 (.inr rfl) f2 a2,a3⟩
theorem Xp{r0 r1:Rs}(h0:Cq r0)(h1:Cq r1)(hc:c.ok):ul c (NH r0 r1 c):=by
 unfold NH;split
 .exact ku
 rename_i h;split
 .exact zq c ej
 rename_i h2;split
 .exact ku
 rename_i h3;intro _;obtain⟨a1,a2,a3⟩:=h0.good hc (ZK.1 h);obtain⟨b1,b2,b3⟩:=h1.good hc (ZK.1 h3);have s1:=(Fm.Ad _).1 a1;have hk:(r0 c).1.kind=3:=ZK.1 h2;obtain⟨x,y,e⟩:=MJ s1.1 (.inr hk);rw[hk] at e;rw[e] at a2;obtain⟨o1,o2⟩:=Wd (.inr rfl) a2;have e2:=uk a1 (x:=y) (by rw[e];simp[CU]);have:(r0 c).1.args=[x,y]:=fH
 simp only[this];exact⟨(ym e2).1,(ym e2).2,o2,.union a3.2 b3.2⟩
theorem PK{r0:Rs}(h0:Cq r0){s:Ty}(hs:s.err=0)(hc:c.ok):ul c (Nw k s r0 c):=by
 unfold Nw;split
 .exact zq c ej
 rename_i h;have hr:=va (ZK.1 h);have hb:=hc.below (l:=[s]) hr.1 ei;split
 .exact ku
 rename_i h2;obtain⟨a1,a2,a3⟩:=h0.good hb (ZK.1 h2);have s1:=(Fm.Ad _).1 a1;have hu:Be c.tys.length (EH (r0 (c.below [s])).2.1 1):=by
  have:=Be.out (n:=c.tys.length) (m:=1) (l:=(r0 (c.below [s])).2.1) (by simpa[Ck.below] using a3);omega
 split
 .intro _;exact⟨N6 dY hs s1.1,by rw[LZ];omega,Kr dY a2,hu⟩
 split
 .exact zq c ej
 .intro _;exact⟨N6 dY hs s1.1,by rw[LZ];omega,Kr dY a2,hu⟩
theorem Pq{r0:Rs}(h0:Cq r0)(hc:c.ok):ul c (atR k t r0 c):=by
 unfold atR;split
 .exact ku
 rename_i h;split
 .exact ku
 rename_i h2;split
 .exact zq c ej
 rename_i h3;split
 .exact zq c ej
 rename_i h4;intro he;obtain⟨_,t1,t2,_⟩:=Nk (ZK.1 h);obtain⟨a1,a2,a3⟩:=h0.good hc (ZK.1 h2);have s1:=(Fm.Ad _).1 a1;have hk:(r0 c).1.kind=kI k 13 6 4:=ZK.1 h3;have hk':4<=(r0 c).1.kind/\(r0 c).1.kind<=7:=by rw[hk,kI];omega
 obtain⟨x,e⟩:=Ja s1.1 hk';rw[e] at a2;have o1:=Lc hk' a2;have hx:(r0 c).1.args.getD 0 Bf=x:=fH
 rw[hx] at he ⊢;have hty:(r0 c).1.ty=(xm c.tys t).1:=ZK.1 h4;rw[hty] at o1;obtain⟨p1,p2⟩:=MD o1 t2 he;refine⟨(ym p1).1,(ym p1).2,p2,?_⟩;simp only[kL];split
 .exact a3
 .exact .union a3.2 (I0 t2).2
theorem vh{r0:Rs}(h0:Cq r0)(hc:c.ok)(f:Fm)(t:Tm):Be c.tys.length (xo r0 c f t).1:=by
 unfold xo;split
 .exact .nil _
 rename_i h;split
 .exact .nil _
 .exact (h0.good hc (ZK.1 h)).2.2
theorem QA{r0:Rs}(h0:Cq r0){f:Fm}(hc:c.ok):ul c (Nm k f t r0 c):=by
 unfold Nm;split
 .exact ku
 rename_i h;split
 .exact zq c ej
 split
 .exact ku
 rename_i h3;split
 .exact zq c ej
 intro _;obtain⟨f1,f2⟩:=wd (ZK.1 h);obtain⟨_,t1,t2,_⟩:=Nk (ZK.1 h3);have hp:=vh h0 hc (f.args.getD 0 Bf) t;refine⟨(ym f1).1,(ym f1).2,f2,?_⟩;simp only[kL];split
 .exact hp
 .exact .union hp.2 (I0 t2).2
theorem XW:∀(l:List Tm),(Ef l).2=0->(Ef l).1.length=l.length/\(∀t∈(Ef l).1,t.err=0)/\∀(g:List Ty) (T:Ty),(∀t∈l,t.inf g=(T,0))->∀t∈(Ef l).1,t.inf g=(T,0)
 |[],_=>⟨rfl,fun t h=>absurd h (aP),fun g T _ t h=>absurd h (aP)⟩
 |x::l,h=>by
  simp only[Ef] at h ⊢;by_cases h1:(wa x 1000).2.2≠0
  .grind
  .rw[if_neg h1] at h ⊢;by_cases h2:(Ef l).2≠0
   .grind
   .rw[if_neg h2];obtain⟨a1,a2,a3⟩:=XW l (ZK.1 h2);obtain⟨_,b1,_,_,b2⟩:=Zzw (ZK.1 h1)
    grind
theorem Um(P:Fm->Fm->Prop):∀(l:List Fm),(∀f∈l,(wo f).2=0->P f (wo f).1)->(xw l).2=0->(xw l).1.length=l.length/\∀(i:Nat) (h1:i<l.length) (h2:i<(xw l).1.length),P l[i] (xw l).1[i]
 |[],_,_=>⟨rfl,fun i h=>ei⟩
 |x::l,hP,h=>by
  have h0:=h;simp only[xw] at h0;by_cases h1:(wo x).2≠0
  .grind
  .rw[if_neg h1] at h0;by_cases h2:(xw l).2≠0
   .grind
   .have e:xw (x::l)=((wo x).1::(xw l).1,0):=by simp only[xw];grind
    obtain⟨a1,a2⟩:=Um P l (fun f hf=>hP f ei) (ZK.1 h2)
    grind
theorem Rr{α:Type}{f:α->Nat}{C:Nat}:∀(l:List α),(∀x∈l,f x<=C)->(l.map f).sum<=C*l.length
 |[],_=>dZ
 |x::l,h=>by
  have h1:=Rr l fun y hy=>h y ei;have h2:=h x dZ;simp only[ZJ,ZW,ZO,Nat.mul_add,eX];omega
theorem Zu(f:Fm):(wo f).2=0->f.shape=true->(wo f).1.kind=f.kind/\(wo f).1.shape=true/\(wo f).1.size<=4096*f.size/\∀g,f.BF g->(wo f).1.BF g:=by
 induction f using Fm.ind with
 |h f ih=>
  intro h hs;rw[Yb] at h ⊢;by_cases h1:(Ef f.terms).2≠0
  .grind
  rw[if_neg h1] at h ⊢;by_cases h2:(xw f.args).2≠0
  .grind
  rw[if_neg h2];obtain⟨a1,a2,a3⟩:=XW f.terms (ZK.1 h1);obtain⟨b1,b2⟩:=Um (fun x y=>y.kind=x.kind/\y.shape=true/\y.size<=4096*x.size/\∀g,x.BF g->y.BF g) f.args (fun x hx he=>ih x hx he (zv hs hx)) (ZK.1 h2);have hsh:(Fm.mk f.kind f.ty (Ef f.terms).1 (xw f.args).1).shape=true:=by
   rw[Fm.Ak,ZC,ZC] at hs ⊢;refine⟨⟨?_,ZH.2 fun t ht=>((Tm.Ad t).1 (a2 t ht)).1⟩,ZH.2 fun y hy=> ?_⟩
   .have:=hs.1.1;unfold Fm.head at this ⊢;simp_all
   .obtain ⟨i,hi,rfl⟩:=aa hy;have hi':i<(xw f.args).1.length:=hi;simp_all
  refine⟨rfl,hsh,?_,fun g hok=> ?_⟩
  .have e1:=f.size_eq;rw[Fm.size_eq];simp only[Fm.AE,Fm.Ag];have s1:=Rr (f:=Tm.size) (C:=4096) (Ef f.terms).1 fun t ht=>((Tm.Ad t).1 (a2 t ht)).2;have s2:=zd Tm.size Tm.size_pos f.terms;have s3:((xw f.args).1.map Fm.size).sum<=4096*(f.args.map Fm.size).sum:=by
    have:∀(l m:List Fm),m.length=l.length->(∀(i:Nat) (h1:i<l.length) (h2:i<m.length),m[i].size<=4096*l[i].size)->(m.map Fm.size).sum<=4096*(l.map Fm.size).sum:=by
     intro l;induction l with
     |nil=>simp
     |cons x l ihl=>
      intro m hm hh
      match m,hm with
      |y::m,hm=>
       have q1:=ihl m ei fun i h1 h2=>by have:=hh (i+1) ei ei;grind
       have q2:=hh 0 dZ dZ
       grind
    grind
   omega
  .rw[Fm.BD] at hok ⊢;refine⟨fun t ht=>a3 g Ae hok.1 t ht,fun y hy=> ?_⟩;obtain⟨i,hi,rfl⟩:=aa hy;have hi':i<(xw f.args).1.length:=hi;have hc:Ed g (Fm.mk f.kind f.ty (Ef f.terms).1 (xw f.args).1)=Ed g f:=rfl;simp_all
theorem Zy7{f:Fm}(s:Tm)(hs:f.shape=true)(h:xq 0 f=0):f.Bi 1 (-1)=f.put 0 s:=by
 refine Fm.Cb f 0 fun p hp=> ?_;have h1:=Zv5 h p hp;have h2:=RO p hp;refine Cb p.1 0 fun q hq=> ?_;have h3:=Ybo h1 q hq;rw[NA,Pm]
 grind
theorem Ycm{f:Fm}{g:List Ty}{σ:Ty}(hσ:σ.err=0)(hs:f.shape=true)(h:xq 0 f=0)(hok:f.BF (g++[σ])):(f.Bi 1 (-1)).shape=true/\(f.Bi 1 (-1)).size=f.size/\(f.Bi 1 (-1)).BF g:=by
 have h1:=(Ty.Ad σ).1 hσ;obtain⟨d1,d2,_⟩:=Zwy σ h1.1 h1.2;rw[Zy7 (G2 σ) hs h];refine⟨Ml dY d2 hs,?_,?_⟩
 .have:=J5 0 (G2 σ) d2 f hs 0;have e:ug 0 (f.AZ 0)=0:=h;show(f.re (fun b t=>t.re (xt (0+b) (G2 σ)) 0) 0).size=f.size
  grind
 .have h3:=SJ 0 (G2 σ) g σ d2 (d1 g) f [] 0 rfl hs ei;rw[ZY] at h3;exact h3
theorem Yan{f:Fm}(hf:f.err=0)(h:(Fw f).2=0):(Fw f).1.shape=true/\(Fw f).1.size<=16777216/\xq 0 (Fw f).1=0/\(∀g,f.BF g->(Fw f).1.BF g)/\(Fw f).1.kind=f.kind:=by
 have s1:=(Fm.Ad _).1 hf;unfold Fw at h ⊢;by_cases h1:xq 0 f=0
 .grind
 rw[if_neg h1] at h ⊢;by_cases h2:(wo f).2≠0
 .grind
 rw[if_neg h2] at h ⊢;by_cases h3:xq 0 (wo f).1≠0
 .grind
 rw[if_neg h3];obtain⟨k,a,b,c⟩:=Zu f (ZK.1 h2) s1.1
 grind
theorem Qw{r0 r1:Rs}(h0:Cq r0)(h1:Cq r1)(hc:c.ok):ul c (MV k r0 r1 c):=by
 unfold MV;split
 .exact ku
 rename_i e0;split
 .exact zq c ej
 rename_i e1;split
 .exact zq c ej
 rename_i e2;split
 .exact ku
 rename_i e3;split
 .exact ku
 rename_i e4;split
 .exact zq c ej
 intro _;obtain⟨a1,a2,a3⟩:=h0.good hc (ZK.1 e0);have s1:=(Fm.Ad _).1 a1;have hk:(r0 c).1.kind=kI k 15 7 5:=ZK.1 e1;have hk':4<=(r0 c).1.kind/\(r0 c).1.kind<=7:=by rw[hk,kI];omega
 obtain⟨x,e⟩:=Ja s1.1 hk';have ex:x.err=0:=uk a1 (by rw[e];simp[BK]);rw[e] at a2;have o1:=Lc hk' a2;have hx:(r0 c).1.args.getD 0 Bf=x:=fH
 have hr:=va (ZK.1 e2);have hte:=J1 s1.1 hk';have hb:((c.below [(r0 c).1.ty]).AH x).ok:=(hc.below (l:=[(r0 c).1.ty]) hr.1 ei).AH gG ex o1;have hob:I6 r1 c (r0 c).1=r1 ((c.below [(r0 c).1.ty]).AH x):=by unfold I6;rw[hx]
 rw[hob] at e3 e4 ⊢;obtain⟨b1,b2,b3⟩:=h1.good hb (ZK.1 e3);obtain⟨f1,f2,f3,f4,_⟩:=Yan b1 (ZK.1 e4);obtain⟨l1,l2,l3⟩:=Ycm hte f1 f3 (f4 _ b2);have hu:=Be.out (n:=c.tys.length) (m:=1) (l:=(r1 ((c.below [(r0 c).1.ty]).AH x)).2.1) (by simpa[Ck.below,Ck.AH] using b3);exact⟨l1,ei,l3,.union a3.2 hu.2⟩
theorem Ye0(g:List Ty):Ej.inf g=(Ao,0):=eC
theorem R6(h:F8 c t 1=0):t.err=0/\t.inf c.tys=(Ae,0):=by
 obtain⟨a,b,d,e⟩:=Zw h;exact⟨a,by rw[b,Uh d e]⟩
theorem YZ(h:F8 c t 2=0):t.err=0/\t.inf c.tys=(Ao,0):=by
 obtain⟨a,b,d,e⟩:=Zw h;exact⟨a,by rw[b,X8 d e]⟩
theorem Jg:Ae.err=0:=ej
theorem M8:Ao.err=0:=ej
theorem Ck.ok.one(h:c.ok){s:Ty}(hs:s.err=0):∀x∈c.tys++[s],x.err=0:=fun x hx=>by
 rcases ZU.1 hx with hx|hx
 .exact h.all x hx
 grind
theorem Wx{r0 r1:Rs}(h0:Cq r0)(h1:Cq r1){f:Fm}(hc:c.ok):ul c (M4 f t r0 r1 c):=by
 unfold M4;split
 .exact ku
 rename_i e0;split
 .exact ku
 rename_i e1;split
 .exact ku
 rename_i e2;split
 .exact zq c ej
 rename_i e3;split
 .exact ku
 intro he;obtain⟨f1,f2⟩:=L3 (hc.one Jg) (ZK.1 e0);obtain⟨t1,t2⟩:=R6 (ZK.1 e1);obtain⟨p1,p2⟩:=MD f2 t2 he;have hr:=va (ZK.1 e3);have hb:((c.below [Ae]).AH f).ok:=(hc.below (l:=[Ae]) hr.1 (by simp[Jg])).AH gG f1 f2;have hu:=Be.out (n:=c.tys.length) (m:=1) (l:=(xo r1 ((c.below [Ae]).AH f) (f.Bi 1 1) (sT (vT 0))).1) (by simpa[Ck.below,Ck.AH] using vh h1 hb (f.Bi 1 1) (sT (vT 0)));refine⟨(ym p1).1,(ym p1).2,p2,.union (fun u hu=> ?_) hu.2⟩;rcases DJ.1 hu with h|h
 .exact (I0 t2).2 u h
 .exact (vh h0 hc f zT).2 u h
theorem Vz{r0 r1:Rs}(h0:Cq r0)(h1:Cq r1){f:Fm}(hc:c.ok):ul c (MO f t r0 r1 c):=by
 unfold MO;split
 .exact ku
 rename_i e0;split
 .exact ku
 rename_i e1;split
 .exact ku
 rename_i e2;split
 .exact zq c ej
 rename_i e3;split
 .exact ku
 intro he;obtain⟨f1,f2⟩:=L3 (hc.one M8) (ZK.1 e0);obtain⟨t1,t2⟩:=YZ (ZK.1 e1);obtain⟨p1,p2⟩:=MD f2 t2 he;have hr:=va (ZK.1 e3);have hl:=Ld (g:=c.tys) (h:=[Ao]) [Ae] ((Fm.Ad f).1 f1).1 f2;have hb:((c.below [Ae,Ao]).AH (f.Bi 1 1)).ok:=(hc.below (l:=[Ae,Ao]) hr.1 (by simp[Jg,M8])).AH gG (Mr f1 dY) (by simpa[Ck.below] using hl);have hu:=Be.out (n:=c.tys.length) (m:=2) (l:=(xo r1 ((c.below [Ae,Ao]).AH (f.Bi 1 1)) (f.Bi 1 2) CH).1) (by simpa[Ck.below,Ck.AH] using vh h1 hb (f.Bi 1 2) CH);refine⟨(ym p1).1,(ym p1).2,p2,.union (fun u hu=> ?_) hu.2⟩;rcases DJ.1 hu with h|h
 .exact (I0 t2).2 u h
 .exact (vh h0 hc f Ej).2 u h
theorem Uv(hc:c.ok):ul c (Mb t c):=by
 intro he;obtain⟨t1,t2⟩:=R6 he;have s:=(Tm.Ad t).1 t1;exact⟨KO s.1 s.1,by show(Bv t t).size<=_;rw[K6];omega,DE.2 ⟨t2,t2⟩,.nil _⟩
theorem Xl{r0 r1:Rs}(h0:Cq r0)(h1:Cq r1){f:Fm}(hc:c.ok):ul c (Ot f r0 r1 c):=by
 unfold Ot;split
 .exact ku
 rename_i e0;split
 .exact ku
 rename_i e1;split
 .exact zq c ej
 rename_i e2;split
 .exact ku
 intro he;obtain⟨f1,f2⟩:=L3 (hc.one Jg) (ZK.1 e0);obtain⟨a1,a2,a3⟩:=h0.good hc (ZK.1 e1);obtain⟨x,y,e⟩:=RH ((Fm.Ad _).1 a1).1 (ZK.1 e2);rw[e] at a2;have hy:(r0 c).1.terms.getD 1 Da=y:=fH
 rw[hy] at he ⊢;obtain⟨p1,p2⟩:=MD f2 (DE.1 a2).2 he;exact⟨(ym p1).1,(ym p1).2,p2,vh h1 hc _ _⟩
theorem Ya4(g:List Ty)(s u:Ty):F6.inf (g++[xn s u]++[s])=(u,0):=by
 refine Lz (a:=s) ?_ ?_
 .rw[wz _ _ dY,if_neg ei,KW dZ dZ,vt dZ];rfl
 .rw[wz _ _ dY,if_neg ei,vt dZ];rfl
theorem W7{r0:Rs}(h0:Cq r0)(hc:c.ok):ul c (Oj r0 c):=by
 unfold Oj;split
 .exact ku
 rename_i e0;split
 .exact zq c ej
 rename_i e1;split
 .exact zq c ej
 rename_i e2;intro he;obtain⟨a1,a2,a3⟩:=h0.good hc (ZK.1 e0);rw[not_or,ZK,ZK] at e1;have s1:=(Fm.Ad _).1 a1;obtain⟨x,e⟩:=Ja s1.1 dY;have ex:x.err=0:=uk a1 (by rw[e];simp[BK]);have hx:(r0 c).1.args.getD 0 Bf=x:=fH
 have hte:=J1 s1.1 dY;rw[hx] at e1;have s2:=(Fm.Ad _).1 ex;obtain⟨y,e'⟩:=Ja s2.1 dY;have hte':=J1 s2.1 dY;have ey:y.err=0:=uk ex (by rw[e'];simp[BK]);have hy:x.args.getD 0 Bf=y:=by rw[e'];rfl
 rw[e] at a2;have o1:=Lc dY a2;rw[e'] at o1;have o2:=Lc dY o1;have hcf:Nv (r0 c).1=xn (r0 c).1.ty x.ty:=by unfold Nv;rw[hx]
 have hcb:ML (r0 c).1=D7 (y.Bi 2 1) F6:=by unfold ML;grind
 rw[hcf] at e2 ⊢;rw[hcb] at he ⊢;have hl:=Ld (g:=c.tys) (h:=[(r0 c).1.ty,x.ty]) [xn (r0 c).1.ty x.ty] ((Fm.Ad y).1 ey).1 ei;have hl':(y.Bi 2 1).BF (c.tys++[xn (r0 c).1.ty x.ty]++[(r0 c).1.ty]++[x.ty]):=ei
 obtain⟨p1,p2⟩:=MD hl' (Ya4 _ _ _) he;have s3:=(Fm.Ad _).1 p1;refine⟨N6 dY (ZK.1 e2) (N6 dY hte s3.1),by simp only[LZ];omega,Kr dY (Kr dY p2),a3⟩
variable{l:List Pf}
theorem Ykn{i:Nat}(hi:i<l.length):(l.map CP).getD i (fun _=>ye 0)=CP l[i]:=by
 grind
theorem zk{p:Pf}(h:p.shape=true):p.head=true/\(∀t∈p.terms,t.shape=true)/\(∀f∈p.Aa,f.shape=true)/\∀x∈p.args,x.shape=true:=by
 rw[p.Ak] at h
 grind
theorem Vc{t:Ty}(h:t.ok=true):t.err=0:=by
 simp only[Ty.ok,ZC,decide_eq_true_eq] at h;exact(Ty.Ad t).2 h
theorem I9{p:Pf}(h:p.head=true):∃nd,BZ p.kind=some nd/\p.terms.length=nd.terms/\p.Aa.length=nd.Aa/\p.args.length=nd.args/\0<=p.index/\(nd.typ=true->p.ty.err=0)/\1<=p.kind/\p.kind<=20:=by
 unfold Pf.head at h;cases hn:BZ p.kind with
 |none=>grind
 |some nd=>
  rw[hn] at h;have hk:1<=p.kind/\p.kind<=20:=by
   refine bW fun hc=> ?_;have:BZ p.kind=none:=by
    unfold BZ
    repeat rw[if_neg dY]
   grind
  simp only[ZC,decide_eq_true_eq,beq_iff_eq] at h;refine⟨nd,rfl,dY,dY,dY,dY,fun ht=> ?_,hk⟩;simp only[ht,if_true] at h;exact Vc h.2
theorem Ql(p:Pf):p.shape=true->Cq (CP p):=by
 induction p using Pf.ind with
 |h p ih=>
  intro hs c hc;rw[SG];refine Ygy ?_;obtain⟨h1,h2,h3,h4⟩:=zk hs;obtain⟨nd,n1,n2,n3,n4,n5,n6,n7⟩:=I9 h1;have hrs:∀i,i<p.args.length->Cq ((p.args.map CP).getD i fun _=>ye 0):=fun i hi=>by
   simp_all
  have hk:p.kind=1\/p.kind=2\/p.kind=3\/p.kind=4\/p.kind=5\/p.kind=6\/p.kind=7\/p.kind=8\/p.kind=9\/p.kind=10\/p.kind=11\/p.kind=12\/p.kind=13\/p.kind=14\/p.kind=15\/p.kind=16\/p.kind=17\/p.kind=18\/p.kind=19\/p.kind=20:=dY
  unfold Jh;rcases hk with e|e|e|e|e|e|e|e|e|e|e|e|e|e|e|e|e|e|e|e<;>rw[e] at n1 ⊢<;>simp only[BZ] at n1<;>(try(simp at n1))<;>(try subst n1)<;>simp only[reduceIte,Int.reduceEq,or_false,or_true]<;>simp only at n4 n6
  .exact UK hc n5
  .exact Vt hc n5
  .exact Wt (hrs 0 dY) (hrs 1 dY) hc
  .exact Qa (hrs 0 dY) hc ej
  .exact Qa (hrs 0 dY) hc ej
  .exact UU (hrs 0 dY) hc
  .exact Xp (hrs 0 dY) (hrs 1 dY) hc
  .exact mF
  .exact Pq (hrs 0 dY) hc
  .exact QA (hrs 0 dY) hc
  .exact mP
  .exact mF
  .exact Pq (hrs 0 dY) hc
  .exact QA (hrs 0 dY) hc
  .exact mP
  .exact Wx (hrs 0 dY) (hrs 1 dY) hc
  .exact Vz (hrs 0 dY) (hrs 1 dY) hc
  .exact Uv hc
  .exact Xl (hrs 0 dY) (hrs 1 dY) hc
  .exact W7 (hrs 0 dY) hc
theorem TW{α:Type}{l:List α}(h:l.length=1):∃a,l=[a]:=by
 match l,h with
 |[a],_=>simp
theorem ln2{α:Type}{l:List α}(h:l.length=2):∃a b,l=[a,b]:=by
 match l,h with
 |[a,b],_=>simp
theorem RX{α:Type}{l:List α}(h:l.length=0):l=[]:=ZS h
theorem Yal{p:Pf}(hs:p.shape=true)(hc:c.ok):ul c (Jh p.kind p.index p.ty p.terms p.Aa (p.args.map CP) c):=by
 obtain⟨h1,h2,h3,h4⟩:=zk hs;obtain⟨nd,n1,n2,n3,n4,n5,n6,n7⟩:=I9 h1;have hrs:∀i,i<p.args.length->Cq ((p.args.map CP).getD i fun _=>ye 0):=fun i hi=>by
  rw[Ykn hi];exact Ql _ (h4 _ (ZA hi))
 have hk:p.kind=1\/p.kind=2\/p.kind=3\/p.kind=4\/p.kind=5\/p.kind=6\/p.kind=7\/p.kind=8\/p.kind=9\/p.kind=10\/p.kind=11\/p.kind=12\/p.kind=13\/p.kind=14\/p.kind=15\/p.kind=16\/p.kind=17\/p.kind=18\/p.kind=19\/p.kind=20:=dY
 unfold Jh;rcases hk with e|e|e|e|e|e|e|e|e|e|e|e|e|e|e|e|e|e|e|e<;>rw[e] at n1 ⊢<;>simp only[BZ] at n1<;>(try(simp at n1))<;>(try subst n1)<;>simp only[reduceIte,Int.reduceEq,or_false,or_true]<;>simp only at n4 n6
 .exact UK hc n5
 .exact Vt hc n5
 .exact Wt (hrs 0 dY) (hrs 1 dY) hc
 .exact Qa (hrs 0 dY) hc ej
 .exact Qa (hrs 0 dY) hc ej
 .exact UU (hrs 0 dY) hc
 .exact Xp (hrs 0 dY) (hrs 1 dY) hc
 .exact mF
 .exact Pq (hrs 0 dY) hc
 .exact QA (hrs 0 dY) hc
 .exact mP
 .exact mF
 .exact Pq (hrs 0 dY) hc
 .exact QA (hrs 0 dY) hc
 .exact mP
 .exact Wx (hrs 0 dY) (hrs 1 dY) hc
 .exact Vz (hrs 0 dY) (hrs 1 dY) hc
 .exact Uv hc
 .exact Xl (hrs 0 dY) (hrs 1 dY) hc
 .exact W7 (hrs 0 dY) hc
theorem Zk(f:Fm):(f.args.getD 0 Bf).full<=f.full+2:=by
 cases h:f.args with
 |nil=>exact ay (by decide:Bf.full<=2) dY
 |cons x l=>
  have:=zc Fm.full (l:=f.args) (t:=x) ei;have:=f.Af
  grind
def I2(lems:List Fm)(tys:List Ty)(hyps:List Fm):Int:=
 if lems.length>32 then 3 else if w8 (y9 []) lems≠0 then w8 (y9 []) lems else if xz tys≠0 then xz tys
 else if hyps.length>16 then 3 else w8 (y9 tys) hyps
theorem Yge{lems:List Fm}{tys:List Ty}{hyps:List Fm}(h:I2 lems tys hyps=0):(Ck.mk lems tys hyps).ok:=by
 unfold I2 at h;by_cases h1:lems.length>32
 .omega
 rw[if_neg h1] at h;by_cases h2:w8 (y9 []) lems≠0
 .omega
 rw[if_neg h2] at h;by_cases h3:xz tys≠0
 .omega
 rw[if_neg h3] at h;by_cases h4:hyps.length>16
 .omega
 rw[if_neg h4] at h;exact⟨ZK.1 h3,ei,ei,fun f hf=>wd (M3 h f hf),fun f hf=>wd (M3 (ZK.1 h2) f hf)⟩
theorem Ygg(h:c.ok):I2 c.lems c.tys c.hyps=0:=by
 unfold I2;rw[if_neg (by have:=h.nl;omega),if_neg,if_neg (by simp[h.ctx]),if_neg (by have:=h.nh;omega)]
 .exact OH fun f hf=>Vx (h.hyps f hf).2 (h.hyps f hf).1 h.ctx
 .rw[OH fun f hf=>Vx (h.lems f hf).2 (h.lems f hf).1 rfl];simp
def N9(lems:List Fm)(tys:List Ty)(hyps:List Fm)(p:Pf):C8:=
 if I2 lems tys hyps≠0 then ye (I2 lems tys hyps) else if p.err≠0 then ye p.err else CP p ⟨lems,tys,hyps⟩
def Au(k:Int):Int:=if k=16\/k=17\/k=19 then 1 else 0
def Ap(k:Int):Int:=if k=17 then 2 else if k=8\/k=12\/k=11\/k=15\/k=16 then 1 else 0
def Ar(k:Int):Int:=if k=6\/k=11\/k=15\/k=16\/k=17 then 1 else 0
def Dq(k:Int):List V:=match BZ k with
 |some n=>[.bool n.index,.bool n.typ,.i n.terms,.i n.Aa,.i n.args,.i (Au k),.i (Ap k),.i (Ar k)]
 |none=>[.bool false,.bool false,.i 0,.i 0,.i 0,.i 0,.i 0,.i 0]
abbrev Tl:=Nat×Bool
def Ce:List Tm->Tl->Bool×Tl
 |[],s=>(true,s)
 |t::l,s=>if t.err=2 then(false,(s.1+t.num.toNat,s.2||t.err==4)) else Ce l (s.1+t.num.toNat,s.2||t.err==4)
def Cr:List Fm->Tl->Bool×Tl
 |[],s=>(true,s)
 |t::l,s=>if t.err=2 then(false,(s.1+t.num.toNat,s.2||t.err==4)) else Cr l (s.1+t.num.toNat,s.2||t.err==4)
def Pf.Ge(p:Pf):Bool:=match BZ p.kind with
 |none=>false
 |some n=>p.terms.length==n.terms&&p.Aa.length==n.Aa&&p.args.length==n.args&&decide (0<=p.index)&&(n.index||p.index==0)
def Pf.Hr(p:Pf):Bool:=match BZ p.kind with
 |none=>false
 |some n=>if n.typ=true then p.ty.ok else p.ty.B3
mutual
def Ee:Pf->Tl->Bool×Tl
 | .mk k i h ts fs zs,s=>
   if Pf.Ge (.mk k i h ts fs zs)=false then(false,s) else if Pf.Hr (.mk k i h ts fs zs)=false then(false,(s.1+1,s.2))
   else if(Ce ts (s.1+1,s.2)).1=false then Ce ts (s.1+1,s.2)
   else if(Cr fs (Ce ts (s.1+1,s.2)).2).1=false then Cr fs (Ce ts (s.1+1,s.2)).2
   else CX zs (Cr fs (Ce ts (s.1+1,s.2)).2).2
def CX:List Pf->Tl->Bool×Tl
 |[],s=>(true,s)
 |p::l,s=>if(Ee p s).1=false then Ee p s else CX l (Ee p s).2
end
theorem V7(p:Pf)(s:Tl):Ee p s=if p.Ge=false then(false,s) else if p.Hr=false then(false,(s.1+1,s.2))
 else if(Ce p.terms (s.1+1,s.2)).1=false then Ce p.terms (s.1+1,s.2)
 else if(Cr p.Aa (Ce p.terms (s.1+1,s.2)).2).1=false then Cr p.Aa (Ce p.terms (s.1+1,s.2)).2
 else CX p.args (Cr p.Aa (Ce p.terms (s.1+1,s.2)).2).2:=by
 cases p;rfl
theorem Tb:∀(l m:List Tm) (s:Tl),(Ce l s).1=true->Ce (l++m) s=Ce m (Ce l s).2
 |[],m,s,_=>rfl
 |t::l,m,s,h=>by
  simp only[Ce,aE] at h ⊢;by_cases e:t.err=2
  .grind
  .rw[if_neg e] at h ⊢;rw[if_neg e];exact Tb l m _ h
theorem TS:∀(l m:List Fm) (s:Tl),(Cr l s).1=true->Cr (l++m) s=Cr m (Cr l s).2
 |[],m,s,_=>rfl
 |t::l,m,s,h=>by
  simp only[Cr,aE] at h ⊢;by_cases e:t.err=2
  .grind
  .rw[if_neg e] at h ⊢;rw[if_neg e];exact TS l m _ h
theorem SW:∀(l m:List Pf) (s:Tl),(CX l s).1=true->CX (l++m) s=CX m (CX l s).2
 |[],m,s,_=>rfl
 |t::l,m,s,h=>by
  simp only[CX,aE] at h ⊢;by_cases e:(Ee t s).1=false
  .grind
  .rw[if_neg e] at h ⊢;rw[if_neg e];exact SW l m _ h
theorem VL{l:List Tm}{s:Tl}(hm:m<l.length)(h:(Ce (l.take m) s).1=true):Ce (l.take (m+1)) s=Ce [l[m]] (Ce (l.take m) s).2:=by
 rw[aT hm,Tb _ _ _ h]
theorem Xu{l:List Tm}{s:Tl}(hm:m<l.length)(h:(Ce (l.take m) s).1=true)(he:l[m].err=2):Ce l s=(false,((Ce (l.take m) s).2.1+l[m].num.toNat,(Ce (l.take m) s).2.2||l[m].err==4)):=by
 have e:Ce l s=Ce (l.take m++l[m]::l.drop (m+1)) s:=dZ
 rw[e,Tb _ _ _ h,Ce,if_pos he]
theorem UB{l:List Fm}{s:Tl}(hm:m<l.length)(h:(Cr (l.take m) s).1=true):Cr (l.take (m+1)) s=Cr [l[m]] (Cr (l.take m) s).2:=by
 rw[aT hm,TS _ _ _ h]
theorem Vf{l:List Fm}{s:Tl}(hm:m<l.length)(h:(Cr (l.take m) s).1=true)(he:l[m].err=2):Cr l s=(false,((Cr (l.take m) s).2.1+l[m].num.toNat,(Cr (l.take m) s).2.2||l[m].err==4)):=by
 have e:Cr l s=Cr (l.take m++l[m]::l.drop (m+1)) s:=dZ
 rw[e,TS _ _ _ h,Cr,if_pos he]
theorem U4{s:Tl}(hm:m<l.length)(h:(CX (l.take m) s).1=true):CX (l.take (m+1)) s=CX [l[m]] (CX (l.take m) s).2:=by
 rw[aT hm,SW _ _ _ h]
theorem U0(p:Pf)(s:Tl):CX [p] s=Ee p s:=by
 simp only[CX]
 grind
theorem UX{s:Tl}(hm:m<l.length)(h:(CX (l.take m) s).1=true)(he:(Ee l[m] (CX (l.take m) s).2).1=false):CX l s=Ee l[m] (CX (l.take m) s).2:=by
 have e:CX l s=CX (l.take m++l[m]::l.drop (m+1)) s:=dZ
 rw[e,SW _ _ _ h,CX,if_pos he]
theorem Rh(t:Tm):(t.err=0/\t.shape=true/\t.size<=4096/\t.num=t.size)\/(t.err=2/\t.shape=false/\t.num=0)\/(t.err=4/\t.shape=true/\¬t.size<=4096/\t.num=0):=by
 unfold Tm.num Tm.err
 grind
theorem Zt0(t:Fm):(t.err=0/\t.shape=true/\t.size<=4096/\t.num=t.size)\/(t.err=2/\t.shape=false/\t.num=0)\/(t.err=4/\t.shape=true/\¬t.size<=4096/\t.num=0):=by
 unfold Fm.num Fm.err
 grind
theorem Lx:∀(l:List Tm) (s:Tl),(Ce l s).1=l.all Tm.shape/\(Ce l s).2.1<=s.1+(l.map Tm.size).sum/\
 (l.all Tm.shape=true->(Ce l s).2.2=(s.2|| !(l.all fun t=>decide (t.size<=4096)))/\((l.all fun t=>decide (t.size<=4096))=true->(Ce l s).2.1=s.1+(l.map Tm.size).sum))
 |[],s=>by simp[Ce]
 |t::l,s=>by
  have ih:=Lx l (s.1+t.num.toNat,s.2||t.err==4);simp only[Ce,bk,ZJ,ZW];rcases Rh t with⟨h1,h2,h3,h4⟩|⟨h1,h2,h3⟩|⟨h1,h2,h3,h4⟩
  .rw[if_neg dY]
   grind
  all_goals grind
theorem Mg:∀(l:List Fm) (s:Tl),(Cr l s).1=l.all Fm.shape/\(Cr l s).2.1<=s.1+(l.map Fm.size).sum/\
 (l.all Fm.shape=true->(Cr l s).2.2=(s.2|| !(l.all fun t=>decide (t.size<=4096)))/\((l.all fun t=>decide (t.size<=4096))=true->(Cr l s).2.1=s.1+(l.map Fm.size).sum))
 |[],s=>by simp[Cr]
 |t::l,s=>by
  have ih:=Mg l (s.1+t.num.toNat,s.2||t.err==4);simp only[Cr,bk,ZJ,ZW];rcases Zt0 t with⟨h1,h2,h3,h4⟩|⟨h1,h2,h3⟩|⟨h1,h2,h3,h4⟩
  .rw[if_neg dY]
   grind
  all_goals grind
theorem Zty(p:Pf):p.head=(p.Ge&&p.Hr):=by
 unfold Pf.head Pf.Ge Pf.Hr;cases BZ p.kind<;>simp_all
theorem Tg(l:List Pf)(ih:∀p∈l,∀s:Tl,(Ee p s).1=p.shape/\(Ee p s).2.1<=s.1+p.size/\(p.shape=true->(Ee p s).2.2=(s.2|| !p.small)/\(p.small=true->(Ee p s).2.1=s.1+p.size))):
 ∀s:Tl,(CX l s).1=l.all Pf.shape/\(CX l s).2.1<=s.1+(l.map Pf.size).sum/\(l.all Pf.shape=true->(CX l s).2.2=(s.2|| !(l.all Pf.small))/\(l.all Pf.small=true->(CX l s).2.1=s.1+(l.map Pf.size).sum)):=by
 induction l with
 |nil=>intro s;simp[CX]
 |cons p l ihl=>
  intro s;obtain⟨a1,a2,a3⟩:=ih p dZ s;have b:=ihl (fun q hq=>ih q ei) (Ee p s).2;simp only[CX,bk,ZJ,ZW]
  grind
theorem SF(p:Pf):∀s:Tl,(Ee p s).1=p.shape/\(Ee p s).2.1<=s.1+p.size/\(p.shape=true->(Ee p s).2.2=(s.2|| !p.small)/\(p.small=true->(Ee p s).2.1=s.1+p.size)):=by
 induction p using Pf.ind with
 |h p ih=>
  intro s;have hsz:=p.size_eq;rw[V7,p.Ak,p.Cl,Zty];by_cases h1:p.Ge=false
  .grind
  rw[if_neg h1];rw[cm] at h1;by_cases h2:p.Hr=false
  .grind
  rw[if_neg h2];rw[cm] at h2;rw[h1,h2];have t:=Lx p.terms (s.1+1,s.2);have f:=Mg p.Aa (Ce p.terms (s.1+1,s.2)).2;have a:=Tg p.args ih (Cr p.Aa (Ce p.terms (s.1+1,s.2)).2).2
  grind
theorem Jq{p:Pf}(hs:p.shape=true):∃nd,BZ p.kind=some nd/\p.terms.length=nd.terms/\p.Aa.length=nd.Aa/\p.args.length=nd.args/\0<=p.index/\(nd.index=false->p.index=0)/\(nd.typ=true->p.ty.err=0)/\(nd.typ=false->p.ty= .mk 0 [])/\1<=p.kind/\p.kind<=20:=by
 have h:=(zk hs).1;obtain⟨nd,n1,n2,n3,n4,n5,n6,n7⟩:=I9 h;refine⟨nd,n1,n2,n3,n4,n5,?_,n6,?_,n7⟩
 .intro hi;unfold Pf.head at h
  grind
 .intro hi;unfold Pf.head at h;rw[n1] at h;simp only[ZC,decide_eq_true_eq,beq_iff_eq,aV] at h;have h2:=h.2;rw[if_neg ei] at h2;exact Ty.Eh h2
def Pf.num(p:Pf):Int:=if p.err=0 then p.size else 0
theorem Ya6{s:Tm}(hk:F8 c s 1=0)(he:(Bv s s).err=0):CP (ub s) c=(Bv s s,[],0):=by
 rw[SG];have e:Jh (ub s).kind (ub s).index (ub s).ty (ub s).terms (ub s).Aa ((ub s).args.map CP) c=Mb s c:=rfl;rw[e];unfold Mb L6
 grind
def V8(f:Fm)(p q:Pf):Pf:= .mk 19 0 (.mk 0 []) [] [f] [p,q]
theorem Yec(hc:c.ok){s:Tm}(he:s.err=0)(hi:s.inf c.tys=(Ae,0)):F8 c s 1=0:=by
 have e:xm c.tys s=(Ae,0):=by
  unfold xm E5;rw[if_neg (by simp[hc.ctx]),if_neg dY,hi]
 unfold F8;rw[e];rfl
structure D5 (g:List Ty) (s:Tm):Prop where
 err:s.err=0
 inf:s.inf g=(Ae,0)
 size:s.size<=900
theorem D5.shape{g:List Ty}{s:Tm}(h:D5 g s):s.shape=true:=((Tm.Ad s).1 h.err).1
theorem D5.near{g:List Ty}{s:Tm}(h:D5 g s)(hg:g.length<=1000):s.near=true:=Oi (by rw[h.inf]) h.shape (by have:=h.size;omega)
theorem Wv{a:Tm}(ha:a.shape=true)(hb:b.shape=true)(hz:a.size+b.size<=4095):(Bv a b).err=0:=
 (Fm.Ad _).2 ⟨KO ha hb,by rw[K6];omega⟩
theorem VK(g:List Ty)(u:Ty):(vT 0).inf (g++[u])=(u,0):=by
 rw[wz _ _ dY,if_neg dZ];have:Fz (g++[u]) 0=Fz [u] 0:=vt dZ;simp only[Int.toNat_zero];rw[this];rfl
theorem Yk8(a b:Tm):ug 0 ((Bv a b).AZ 0)=cnt 0 (a.vars 0)+cnt 0 (b.vars 0):=by
 rfl
theorem Yjb{a:Tm}(ha:a.near=true)(hb:b.near=true):(Bv a b).near=true:=by
 unfold Fm.near;simp[Bv,Fm.AZ,Fm.IK,ha,hb]
structure DY (g:List Ty) (a b:Tm):Prop where
 sa:a.shape=true
 sb:b.shape=true
 ia:a.inf (g++[Ae])=(Ae,0)
 ib:b.inf (g++[Ae])=(Ae,0)
 sz:a.size+b.size<=3000
theorem DY.err{g:List Ty}{a b:Tm}(h:DY g a b):(Bv a b).err=0:=Wv h.sa h.sb (by have:=h.sz;omega)
theorem DY.near{g:List Ty}{a b:Tm}(h:DY g a b)(hg:g.length<=16):(Bv a b).near=true:=
 Yjb (Oi (by rw[h.ia]) h.sa (by have:=h.sz;grind)) (Oi (by rw[h.ib]) h.sb (by have:=h.sz;grind))
theorem DY.put{g:List Ty}{a s:Tm}(h:DY g a b)(hg:g.length<=16)(hs:D5 g s)(hz:1+a.size+b.size+(cnt 0 (a.vars 0)+cnt 0 (b.vars 0))*s.size<=4096):xi (Bv a b) 0 s=0:=by
 unfold xi;rw[if_neg (by simp[h.err]),if_neg dY,if_neg (by simp[hs.err]),if_neg (by simp[h.near hg,hs.near dY]),if_neg];rw[Yk8,K6]
 grind
def JT(g s:Tm)(p:Pf):Pf:=V8 (Bv (Bd (g.re (z8 0 1) 0) (s.re (z8 0 1) 0)) (Bd (g.re (z8 0 1) 0) (vT 0))) p (ub (Bd g s))
theorem D5.refl(hc:c.ok){s:Tm}(h:D5 c.tys s):CP (ub s) c=(Bv s s,[],0):=
 Ya6 (Yec hc h.err h.inf) (Wv h.shape h.shape (by have:=h.size;omega))
structure Zd (g:List Ty) (f:Tm):Prop where
 err:f.err=0
 inf:f.inf g=(xn Ae Ae,0)
 size:f.size<=500
def Dk.DB:Nat->Dk->List Ty->List Fm×Dk
 |0,d,_=>([],d)
 |n+1,d,g=>((Dk.fm 2 d g).1::(Dk.DB n (Dk.fm 2 d g).2 g).1,(Dk.DB n (Dk.fm 2 d g).2 g).2)
theorem Dk.Ek:∀(n:Nat) (d:Dk) (g:List Ty),Dk.DB (n+1) d g=((Dk.DB n d g).1++[(Dk.fm 2 (Dk.DB n d g).2 g).1],(Dk.fm 2 (Dk.DB n d g).2 g).2)
 |0,d,g=>rfl
 |n+1,d,g=>by
  have ih:=Dk.Ek n (Dk.fm 2 d g).2 g;rw[Dk.DB,ih];rfl
theorem Dk.DO:∀(n:Nat) (d:Dk) (g:List Ty),(Dk.DB n d g).1.length=n
 |0,_,_=>rfl
 |n+1,d,g=>by simp[Dk.DB,Dk.DO n]
theorem Dk.Ey:∀(n:Nat) (d:Dk) (g:List Ty),d.ok->(Dk.DB n d g).2.ok
 |0,_,_,h=>h
 |n+1,d,g,h=>Dk.Ey n _ g (Dk.FG 2 d g h)
theorem Dk.Et:∀(n:Nat) (d:Dk) (g:List Ty),Am g->∀f∈(Dk.DB n d g).1,f.err=0/\f.BF g
 |0,_,_,_,f,h=>eE
 |n+1,d,g,hg,f,h=>by
  simp only[Dk.DB,Z4] at h;rcases h with rfl|h
  .exact ⟨Yfl (Dk.Ff 2 d g hg),Dk.Ix 2 d g hg⟩
  .exact Dk.Et n _ g hg f h
def Dk.Me(d:Dk):Nat:=(d.ctx.2.next 3).1.toNat
def Dk.JZ(d:Dk):List Fm:=(Dk.DB d.Me (d.ctx.2.next 3).2 d.ctx.1).1
def Dk.On(d:Dk):Dk:=(Dk.DB d.Me (d.ctx.2.next 3).2 d.ctx.1).2
variable(d:Dk)
theorem Dk.Kz:d.Me<=2:=by have:=Dk.Bh d.ctx.2 3 dY;unfold Dk.Me;omega
theorem Dk.KF{d:Dk}(h:d.ok):d.On.ok:=Dk.Ey _ _ _ (Dk.AG (Dk.Gv h) 3)
theorem Dk.Jl:d.JZ.length<=2:=by unfold Dk.JZ;rw[Dk.DO];exact d.Kz
def Dk.QW(d:Dk):Ck:=⟨[],d.ctx.1,d.JZ⟩
theorem Dk.KU:d.QW.ok:=
 ⟨Zwm (g:=d.ctx.1) d.C3 (by have:=d.Fq;omega),by have:=d.Jl;simp only[Dk.QW];omega,by simp[Dk.QW],Dk.Et _ _ _ d.C3,fun f h=>eE⟩
theorem JR{g:List Ty}(hg:Am g):D5 g (Dk.tm 3 d g Ae).1/\(Dk.tm 3 d g Ae).1.size<=60:=by
 have m:=Dk.De 3 d g Ae hg zi dY dY;have h1:=(m.size hg zi).2 rfl;have h2:=N1;exact⟨⟨m.err hg zi dY,m.inf hg zi,dY⟩,dY⟩
abbrev x8(i:Int):Pf:= .mk 1 i (.mk 0 []) [] [] []
theorem Zzr{i:Int}(hi:0<=i):(x8 i).err=0:=by
 rw[Pf.Ad];refine⟨?_,eC,by simp[Pf.size,Pf.sizes]⟩;rw[Pf.Ak];simp[Pf.head,BZ,hi,Ty.B3,Ty.kind,Ty.args]
theorem Zx3{s:Tm}(h:s.err=0):(ub s).err=0:=by
 have h1:=(Tm.Ad s).1 h;rw[Pf.Ad];refine⟨?_,?_,?_⟩
 .rw[Pf.Ak];simp[ub,Pf.head,BZ,h1.1,Ty.B3,Ty.kind,Ty.args]
 .rw[Pf.Cl];simp[ub,h1.2]
 .rw[Pf.size_eq];simp[ub];omega
theorem Ztj(s:Tm):(ub s).size=1+s.size:=eC
theorem Zvn(i:Int):(x8 i).size=1:=eC
theorem GK{g g':Int->Int->Tm}(h:∀i c,g i c=g' i c)(t:Tm)(b:Int):t.re g b=t.re g' b:=by
 have:g=g':=funext fun i=>funext fun c=>h i c
 grind
theorem Fm.Dd(G:Int->Tm->Tm)(c:Int)(f:Fm):∀b,f.re G (b+c)=f.re (fun b t=>G (b+c) t) b:=by
 induction f using Fm.ind with
 |h f ih=>
  intro b;have e:AR f.kind (b+c)=AR f.kind b+c:=by simp only[AR];grind
  rw[Fm.BJ,Fm.BJ,e];simp_all
theorem Fm.GK{G G':Int->Tm->Tm}(h:∀b t,0<=b->G b t=G' b t)(f:Fm):f.re G 0=f.re G' 0:=by
 refine Fm.Cb f 0 fun p hp=>h _ _ ?_;exact RO p hp
theorem Yj8(f:Fm)(a n:Int):f.Bi a n=f.re (fun b t=>t.re (z8 (a+b) n) 0) 0:=rfl
theorem P6(f:Fm)(a:Int)(s:Tm):f.put a s=f.re (fun b t=>t.re (xt (a+b) s) 0) 0:=rfl
theorem Yh1(hk:xy k=true)(s:Ty)(f:Fm)(a:Int)(x:Tm):(BK k s f).put a x=BK k s (f.put (a+1) x):=by
 rw[P6,Fm.BJ];simp only[BK,Fm.kind,Fm.ty,Fm.terms,Fm.args,Z2,ZJ];congr 2;have e:AR k 0=0+1:=by simp[AR,hk]
 rw[e,Fm.Dd,P6]
 grind
structure Gf (g:List Ty) (f:Fm) (n:Nat):Prop where
 sh:f.shape=true
 sz:f.size<=n
 ok:f.BF g
structure Gt (g:List Ty) (s:Tm) (T:Ty) (m:Nat):Prop where
 sh:s.shape=true
 sz:s.size<=m
 inf:s.inf g=(T,0)
theorem Gf.err{g:List Ty}{f:Fm}{n:Nat}(h:Gf g f n)(hn:n<=4096):f.err=0:=(Fm.Ad f).2 ⟨h.sh,ay h.sz hn⟩
theorem Gt.err{g:List Ty}{s:Tm}{T:Ty}{m:Nat}(h:Gt g s T m)(hn:m<=4096):s.err=0:=(Tm.Ad s).2 ⟨h.sh,ay h.sz hn⟩
theorem vw(f:Fm)(a:Int):ug a (f.AZ 0)<=f.size:=by
 have h1:=LH a (f.AZ 0);have h2:=Nl f 0;omega
theorem Gf.put{g:List Ty}{f:Fm}{n m:Nat}{s:Tm}{T:Ty}(hf:Gf (g++[T]) f n)(hs:Gt g s T m)(hm:1<=m)(hz:n*m<=4096)(hg:g.length<=20):
 xi f 0 s=0/\Gf g (f.put 0 s) (n*m):=by
 have hn:n<=n*m:=Nat.le_mul_of_pos_right n hm;have ef:=hf.err dY;have hp:=s.size_pos;have p2:=f.size_pos;have hmz:m<=4096:=by
  have:1*m<=n*m:=aL m (by have:=hf.sz;omega);omega
 have es:=hs.err hmz;have nf:=(Zwo hf.ok ef ei).1;have ns:=Oi (t:=s) (g:=g) (by rw[hs.inf]) hs.sh (by have:=hs.sz;omega);have hc:=vw f 0;have h1:ug 0 (f.AZ 0)*(s.size-1)<=n*(m-1):=bh (ay hc hf.sz) (by have:=hs.sz;omega);have h2:n*(m-1)+n=n*m:=by rw[<-Nat.mul_succ];grind
 have h3:=hf.sz;refine⟨?_,Ml dY hs.sh hf.sh,?_,?_⟩
 .unfold xi
  grind
 .have h4:=J5 0 s hs.sh f hf.sh 0;have h5:(f.put 0 s).size=f.size+ug 0 (f.AZ 0)*(s.size-1):=h4;omega
 .have h6:=SJ 0 s g T hs.sh hs.inf f [] 0 rfl hf.sh (by simpa using hf.ok);have h7:(f.put 0 s).BF (g++[]):=h6
  grind
theorem Gf.Bi{g h:List Ty}(m:List Ty){f:Fm}{n:Nat}(hf:Gf (g++h) f n):Gf (g++m++h) (f.Bi h.length m.length) n:=
 have hk:=Lf hf.sh (fr:=h.length) (by_:=m.length) dY
 ⟨hk.1,by rw[hk.2.1];exact hf.sz,Ld m hf.sh hf.ok⟩
theorem Gf.qu{g:List Ty}{s:Ty}{f:Fm}(k:Int)(hk:4<=k/\k<=7)(hs:s.err=0)(hf:Gf (g++[s]) f n):Gf g (BK k s f) (n+1):=
 ⟨N6 hk hs hf.sh,by rw[LZ];have:=hf.sz;omega,Kr hk hf.ok⟩
theorem Gt.nil(g:List Ty):Gt g Ej Ao 1:=⟨ej,ej,Ye0 g⟩
theorem Gt.v0(g:List Ty)(u:Ty):Gt (g++[u]) (vT 0) u 1:=⟨ej,ej,VK g u⟩
theorem Gt.v1(g:List Ty)(u w:Ty):Gt (g++[u,w]) (vT 1) u 1:=by
 refine⟨ej,ej,?_⟩;rw[wz _ _ dY,if_neg ei];have:Fz (g++[u,w]) 1=Fz [u,w] 1:=vt dZ;simp only[show(1:Int).toNat=1 from rfl];rw[this];rfl
theorem Gt.cons(g:List Ty):Gt (g++[Ae,Ao]) CH Ao 3:=by
 have h1:=(Gt.v1 g Ae Ao).inf;have h0:(vT 0).inf (g++[Ae,Ao])=(Ao,0):=by
  have:=(Gt.v0 (g++[Ae]) Ao).inf
  grind
 exact⟨ej,ej,by
  have e:CH.inf (g++[Ae,Ao])=(Ao,0):=by simp[CH,Tm.inf,Tm.AV,Cy,h0,h1]
  exact e⟩
mutual
def Pf.up(fr b v:Int):Pf->Pf
 | .mk k i s ts fs zs=> .mk k i s (ts.map fun t=>t.re (z8 (fr+v) b) 0) (fs.map fun f=>f.Bi (fr+(v+Au k)) b) (Pf.E3 fr b v (Ap k) zs)
def Pf.E3(fr b v w:Int):List Pf->List Pf
 |[]=>[]
 |p::l=>Pf.up fr b (if l.length=0 then v+w else v) p::Pf.E3 fr b v w l
end
mutual
def Pf.lh(fr b y:Int):Pf->Pf
 | .mk k i s ts fs zs=>if k=1 then .mk 1 (if i-y>=fr then i+b else i) (.mk 0 []) [] [] [] else .mk k i s ts fs (Pf.lhs fr b y (Ar k) zs)
def Pf.lhs(fr b y w:Int):List Pf->List Pf
 |[]=>[]
 |p::l=>Pf.lh fr b (if l.length=0 then y+w else y) p::Pf.lhs fr b y w l
end
theorem Pf.GJ(fr b v:Int)(p:Pf):p.up fr b v= .mk p.kind p.index p.ty (p.terms.map fun t=>t.re (z8 (fr+v) b) 0) (p.Aa.map fun f=>f.Bi (fr+(v+Au p.kind)) b) (Pf.E3 fr b v (Ap p.kind) p.args):=fF
theorem Pf.IL(fr b y:Int)(p:Pf):p.lh fr b y=if p.kind=1 then .mk 1 (if p.index-y>=fr then p.index+b else p.index) (.mk 0 []) [] [] [] else .mk p.kind p.index p.ty p.terms p.Aa (Pf.lhs fr b y (Ar p.kind) p.args):=fF
theorem N3(fr b v w:Int):∀l:List Pf,(Pf.E3 fr b v w l).length=l.length
 |[]=>eC
 |p::l=>by simp only[Pf.E3,ZO,N3 fr b v w l]
theorem PG(fr b v w:Int):∀l:List Pf,(Pf.lhs fr b v w l).length=l.length
 |[]=>eC
 |p::l=>by simp only[Pf.lhs,ZO,PG fr b v w l]
theorem SV(fr b v w:Int):∀(l:List Pf) (m:Nat) (h:m<l.length) (h':m<(Pf.E3 fr b v w l).length),(Pf.E3 fr b v w l)[m]=l[m].up fr b (if m+1=l.length then v+w else v)
 |p::l,0,h,h'=>by
  simp only[Pf.E3,ZN,ZO];simp
 |p::l,m+1,h,h'=>by
  simp only[Pf.E3,Z0,ZO,aG];exact SV fr b v w l m ei _
theorem YY(fr b v w:Int):∀(l:List Pf) (m:Nat) (h:m<l.length) (h':m<(Pf.lhs fr b v w l).length),(Pf.lhs fr b v w l)[m]=l[m].lh fr b (if m+1=l.length then v+w else v)
 |p::l,0,h,h'=>by
  simp only[Pf.lhs,ZN,ZO];simp
 |p::l,m+1,h,h'=>by
  simp only[Pf.lhs,Z0,ZO,aG];exact YY fr b v w l m ei _
variable{v w b:Int}
theorem Ycy{fr:Int}(h:m<l.length):(Pf.E3 fr b v w l).take m++[l[m].up fr b (if m+1=l.length then v+w else v)]=(Pf.E3 fr b v w l).take (m+1):=by
 rw[<-SV fr b v w l m h (by rw[N3];exact h),ZM]
theorem Ya2{fr:Int}(h:m<l.length):(Pf.lhs fr b v w l).take m++[l[m].lh fr b (if m+1=l.length then v+w else v)]=(Pf.lhs fr b v w l).take (m+1):=by
 rw[<-YY fr b v w l m h (by rw[PG];exact h),ZM]
theorem Ygc{fr:Int}:(Pf.E3 fr b v w l).take l.length=Pf.E3 fr b v w l:=by rw[<-N3 fr b v w l,ZF]
theorem Yet{fr:Int}:(Pf.lhs fr b v w l).take l.length=Pf.lhs fr b v w l:=by rw[<-PG fr b v w l,ZF]
mutual
def Pf.ix(C:Int):Pf->Prop
 | .mk _ _ _ ts fs zs=>(∀t∈ts,∀p∈t.vars 0,0<=p.1/\p.1<C)/\(∀f∈fs,∀p∈f.AZ 0,∀q∈p.1.vars 0,0<=q.1/\q.1<C)/\Pf.ixs C zs
def Pf.ixs(C:Int):List Pf->Prop
 |[]=>True
 |p::l=>Pf.ix C p/\Pf.ixs C l
end
theorem UZ(C:Int):∀l:List Pf,Pf.ixs C l↔∀p∈l,p.ix C
 |[]=>by simp[Pf.ixs]
 |p::l=>by simp[Pf.ixs,UZ C l]
variable(C:Int)
theorem Pf.Bq(p:Pf):p.ix C↔(∀t∈p.terms,∀q∈t.vars 0,0<=q.1/\q.1<C)/\(∀f∈p.Aa,∀q∈f.AZ 0,∀r∈q.1.vars 0,0<=r.1/\r.1<C)/\∀x∈p.args,x.ix C:=by
 cases p;simp only[Pf.ix,UZ];rfl
mutual
def Pf.hx(C:Int):Pf->Prop
 | .mk k i _ _ _ zs=>if k=1 then 0<=i/\i<C else Pf.hxs C zs
def Pf.hxs(C:Int):List Pf->Prop
 |[]=>True
 |p::l=>Pf.hx C p/\Pf.hxs C l
end
theorem Uk(C:Int):∀l:List Pf,Pf.hxs C l↔∀p∈l,p.hx C
 |[]=>by simp[Pf.hxs]
 |p::l=>by simp[Pf.hxs,Uk C l]
theorem Pf.Br(p:Pf):p.hx C↔(p.kind=1->0<=p.index/\p.index<C)/\(p.kind≠1->∀x∈p.args,x.hx C):=by
 cases p with
 |mk k i s ts fs zs=>
  by_cases h:k=1
  .simp[Pf.hx,h,Pf.kind,Pf.index]
  .simp[Pf.hx,h,Uk,Pf.kind,Pf.args]
theorem Yid{C i:Int}(h:0<=i/\i<C):(x8 i).hx C:=by simpa[x8,Pf.hx] using h
theorem Yiy(fr b y i:Int):(x8 i).lh fr b y=x8 (if i-y>=fr then i+b else i):=eC
theorem Yjv(i:Int):(x8 i).ix C:=by simp[Pf.ix,Pf.ixs]
end Go.Ab
namespace Go.Ab
open Go
set_option linter.all false
set_option maxHeartbeats 1000000
inductive FP:Fm->Fm->Prop
 |refl (f):FP f f
 |eq {a b b'} (h:HH b b'):FP (Bv a b) (Bv a b')
 |two {k a a' b b'} (ha:FP a a') (hb:FP b b'):FP (CU k a b) (CU k a' b')
 |qu {k s a a'} (ha:FP a a'):FP (BK k s a) (BK k s a')
def arg(f:Fm)(i:Nat):Fm:=f.args.getD i Bf
def Ks(f:Fm)(i:Nat):Tm:=f.terms.getD i Da
theorem wy(k i:Int)(s:Ty)(ts:List Tm)(fs:List Fm)(zs:List Pf):(Pf.mk k i s ts fs zs).full=1+s.size+(ts.map Tm.full).sum+(fs.map Fm.full).sum+(zs.map Pf.full).sum:=Pf.Af _
theorem HM:(Ty.mk 0 []).size=1:=ej
theorem Ll{s:Ty}(h:s.err=0):s.size<=64:=((Ty.Ad s).1 h).2
def Tw:Nat->Nat->Fm->Prop
 |0,L,f=>∃s t,f=Bv s t/\f.size<=L
 |n+1,L,f=>(∃s t,f=Bv s t/\f.size<=L)\/(∃k a b,(k=2\/k=3)/\f=CU k a b/\Tw n L a/\Tw n L b)\/∃k s a,(4<=k/\k<=7)/\s.small/\f=BK k s a/\Tw n L a
theorem Tw.size:∀{n L:Nat} {f:Fm},Tw n L f->f.size+1<=(L+1)*2^n
 |0,L,f,⟨s,t,e,h⟩=>dY
 |n+1,L,f,h=>by
  have hp:1<=2^n:=cH;have h2:(L+1)*2^(n+1)=2*((L+1)*2^n):=ei
  have h3:(L+1)*1<=(L+1)*2^n:=Nat.mul_le_mul_left _ hp;rcases h with⟨s,t,e,h⟩|⟨k,a,b,hk,e,ha,hb⟩|⟨k,s,a,hk,hs,e,ha⟩
  .omega
  .have h4:=ha.size;have h5:=hb.size;rw[e,Oz];omega
  .have h4:=ha.size;rw[e,LZ];omega
variable{k:Int}
theorem Ygw(hk:k=2\/k=3)(a b:Fm)(i:Int)(x:Tm):(CU k a b).put i x=CU k (a.put i x) (b.put i x):=by
 rw[P6,Fm.BJ];have e:AR k 0=0:=by rcases hk with rfl|rfl<;>rfl
 simp only[CU,Fm.kind,Fm.ty,Fm.terms,Fm.args,Z2,ZJ];rw[e];rfl
theorem Tw.put:∀{n L:Nat} {f:Fm},Tw n L f->f.shape=true->∀(i:Int) (x:Tm),0<=i->x.shape=true->x.size<=3->Tw n (3*L) (f.put i x)
 |0,L,f,⟨s,t,e,h⟩,hs,i,x,hi,hx,hz=>by
  have h1:=J5 i x hx f hs 0;have h2:(f.put i x).size=f.size+ug i (f.AZ 0)*(x.size-1):=h1;have h3:=vw f i;have h4:ug i (f.AZ 0)*(x.size-1)<=f.size*2:=bh h3 dY;subst e;exact⟨s.re (xt (i+0) x) 0,t.re (xt (i+0) x) 0,rfl,dY⟩
 |n+1,L,f,h,hs,i,x,hi,hx,hz=>by
  rcases h with⟨s,t,e,h⟩|⟨k,a,b,hk,e,ha,hb⟩|⟨k,s,a,hk,hsm,e,ha⟩
  .exact Tw.up' (Tw.put (n:=0) ⟨s,t,e,h⟩ hs i x hi hx hz)
  .subst e;have sa:a.shape=true:=zv hs (x:=a) fZ;have sb:b.shape=true:=zv hs (x:=b) fZ;rw[Ygw hk];exact .inr (.inl ⟨k,_,_,hk,rfl,Tw.put ha sa i x hi hx hz,Tw.put hb sb i x hi hx hz⟩)
  .subst e;have sa:a.shape=true:=zv hs (x:=a) (by simp[BK]);rw[Yh1 (Bx.2 hk)];exact .inr (.inr ⟨k,s,_,hk,hsm,rfl,Tw.put ha sa (i+1) x dY hx hz⟩)
where
 Tw.up' {n L:Nat} {f:Fm} (h:Tw 0 L f):Tw (n+1) L f:= .inl h
structure Pg (p:Pf) (n:Nat):Prop where
 sh:p.shape=true
 sm:p.small=true
 sz:p.size<=n
theorem Pg.err{p:Pf}{n:Nat}(h:Pg p n)(hn:n<=16384):p.err=0:=(Pf.Ad p).2 ⟨h.sh,h.sm,ay h.sz hn⟩
theorem Pg.of{p:Pf}(h:p.err=0):Pg p p.size:=have h1:=(Pf.Ad p).1 h;⟨h1.1,h1.2.1,ZB _⟩
variable{m n:Nat}
theorem Pg.mono{p:Pf}(h:Pg p n)(hn:n<=m):Pg p m:=⟨h.sh,h.sm,ay h.sz hn⟩
theorem UH(k i:Int)(s:Ty)(ts:List Tm)(fs:List Fm)(zs:List Pf):(Pf.mk k i s ts fs zs).size=1+(ts.map Tm.size).sum+(fs.map Fm.size).sum+(zs.map Pf.size).sum:=Pf.size_eq _
theorem Pg.all{p:Pf}{s:Ty}(hk:k=8\/k=12)(hs:s.err=0)(hp:Pg p n):Pg (.mk k 0 s [] [] [p]) (1+n):=by
 have ho:s.ok=true:=by
  have h1:=(Ty.Ad s).1 hs;simp only[Ty.ok,ZC,decide_eq_true_eq];exact h1
 refine⟨?_,?_,?_⟩
 .rcases hk with rfl|rfl<;>simp[Pf.shape,Pf.Bl,Pf.head,BZ,hp.sh,ho]
 .simp[Pf.small,Pf.Am,hp.sm]
 .have:=hp.sz;simp only[UH,ZJ,Z2,ZW,aN];omega
variable{t:Tm}
theorem Pg.ex{p:Pf}{f:Fm}{z:Nat}(hk:k=10\/k=14)(ht:t.shape=true)(hz:t.size<=z)(hz2:z<=4096)(hf:f.shape=true)(hm:f.size<=m)(hm2:m<=4096)(hp:Pg p n):Pg (.mk k 0 (.mk 0 []) [t] [f] [p]) (1+z+m+n):=by
 refine⟨?_,?_,?_⟩
 .rcases hk with rfl|rfl<;>simp[Pf.shape,Pf.Bl,Pf.head,BZ,hp.sh,ht,hf,Ty.B3,Ty.kind,Ty.args]
 .simp[Pf.small,Pf.Am,hp.sm];omega
 .have:=hp.sz;simp only[UH,ZJ,Z2,ZW,aN];omega
theorem Pg.refl(ht:t.shape=true)(hz:t.size<=n)(hn:n<=4096):Pg (ub t) (1+n):=by
 have h:=Pg.of (Zx3 (s:=t) ((Tm.Ad t).2 ⟨ht,dY⟩));rw[Ztj] at h;exact h.mono dY
def MP(f:Fm)(t:Tm)(p:Pf):Pf:= .mk 10 0 (.mk 0 []) [t] [f] [p]
theorem Yfc(a b:Tm)(i n:Int):(Bv a b).Bi i n=Bv (a.re (z8 (i+0) n) 0) (b.re (z8 (i+0) n) 0):=rfl
theorem Pg.some{p:Pf}{f:Fm}{z:Nat}(ht:t.shape=true)(hz:t.size<=z)(hz2:z<=4096)(hf:f.shape=true)(hm:f.size<=m)(hm2:m<=4096)(hp:Pg p n):Pg (MP f t p) (1+z+m+n):=Pg.ex (.inl rfl) ht hz hz2 hf hm hm2 hp
theorem Pw{α:Type}(f g:α->Nat):∀l:List α,(∀x∈l,f x<=65*g x)->(l.map f).sum<=65*(l.map g).sum
 |[],_=>dZ
 |x::l,h=>by
  have h1:=h x dZ;have h2:=Pw f g l fun y hy=>h y ei
  grind
theorem Lu(p:Pf):p.shape=true->p.full<=65*p.size:=by
 induction p using Pf.ind with
 |h p ih=>
  intro hs;obtain⟨h1,h2,h3,h4⟩:=zk hs;have ht:p.ty.size<=64:=by
   have hh:=h1;unfold Pf.head at hh;split at hh
   .cases hh
   .rename_i nd _;simp only[ZC] at hh;have h5:=hh.2;split at h5
    .simp only[Ty.ok,ZC,decide_eq_true_eq] at h5;omega
    .rw[Ty.Eh h5];decide
  have a1:=Pw Tm.full Tm.size p.terms fun t ht=>Mx t (h2 t ht);have a2:=Pw Fm.full Fm.size p.Aa fun f hf=>JK f (h3 f hf);have a3:=Pw Pf.full Pf.size p.args fun x hx=>ih x hx (h4 x hx);have e1:=p.Af;have e2:=p.size_eq;omega
end Go.Ab
namespace Go.Ab
open Go
set_option linter.all false
abbrev K9(n:Int):Int:=IntKind.i64.wrap n
def IY(fr by_:Int)(i b:Int):Tm:= .mk 1 (if K9 (i-b)>=fr then K9 (i+by_) else i) (.mk 0 []) []
def Tm.lw(t:Tm)(fr by_:Int):Tm:=t.re (IY fr by_) 0
def Fm.lw(f:Fm)(fr by_:Int):Fm:=f.re (fun b t=>t.lw (fr+b) by_) 0
theorem Ty.FO(t:Ty):1<=t.size:=by cases t;simp only[Ty.size];omega
theorem Tm.Iq(t:Tm):2<=t.full:=by rw[Tm.Af];have:=t.ty.FO;omega
theorem LQ{α:Type}{f g:α->Nat}:∀{l:List α},(∀x∈l,f x<=g x)->(l.map f).sum<=(l.map g).sum
 |[],_=>ZB _
 |x::l,h=>by
  simp only[ZJ,ZW];have h1:=h x dZ;have h2:=LQ (l:=l) fun y hy=>h y ei;omega
theorem Tm.Eg{G:Int->Int->Tm}(hG:∀i b,(G i b).full<=2)(t:Tm):∀b,(t.re G b).full<=t.full:=by
 induction t using Tm.ind with
 |h t ih=>
  intro b;by_cases h1:t.kind=1
  .rw[G7 h1];have:=hG t.index b;have:=t.Iq;omega
  .rw[vm h1,t.Af,Tm.Af];simp only[Tm.Ag,Tm.Bk,aK];have:=LQ (f:=Tm.full∘Tm.re G (up t.kind b)) (g:=Tm.full) fun x hx=>ih x hx (up t.kind b);omega
theorem Fm.Eg{G:Int->Tm->Tm}(hG:∀b t,(G b t).full<=t.full)(f:Fm):∀b,(f.re G b).full<=f.full:=by
 induction f using Fm.ind with
 |h f ih=>
  intro b;rw[f.Af,Fm.Af,Fm.BJ];simp only[Fm.AE,Fm.Ag,Fm.Bk,aK];have h1:=LQ (l:=f.terms) (f:=Tm.full∘G b) (g:=Tm.full) fun x _=>hG b x;have h2:=LQ (f:=Fm.full∘Fm.re G (AR f.kind b)) (g:=Fm.full) fun x hx=>ih x hx (AR f.kind b);omega
theorem Ztw(fr by_ i b:Int):(IY fr by_ i b).full<=2:=by simp[IY,Tm.full,Tm.Av,Ty.size,Ty.sizes]
theorem Zc(t:Tm)(fr by_:Int):(t.lw fr by_).full<=t.full:=Tm.Eg (Ztw fr by_) t 0
theorem Yco(f:Fm)(fr by_:Int):(f.lw fr by_).full<=f.full:=Fm.Eg (fun b t=>Zc t (fr+b) by_) f 0
mutual
def Pf.uw(fr b v:Int):Pf->Pf
 | .mk k i s ts fs zs=> .mk k i s (ts.map fun t=>t.lw (fr+v) b) (fs.map fun f=>f.lw (fr+(v+Au k)) b) (Pf.EI fr b v (Ap k) zs)
def Pf.EI(fr b v w:Int):List Pf->List Pf
 |[]=>[]
 |p::l=>Pf.uw fr b (if l.length=0 then v+w else v) p::Pf.EI fr b v w l
end
mutual
def Pf.hw(fr b y:Int):Pf->Pf
 | .mk k i s ts fs zs=>if k=1 then .mk 1 (if K9 (i-y)>=fr then K9 (i+b) else i) (.mk 0 []) [] [] [] else .mk k i s ts fs (Pf.Fi fr b y (Ar k) zs)
def Pf.Fi(fr b y w:Int):List Pf->List Pf
 |[]=>[]
 |p::l=>Pf.hw fr b (if l.length=0 then y+w else y) p::Pf.Fi fr b y w l
end
theorem Pf.GG(fr b v:Int)(p:Pf):p.uw fr b v= .mk p.kind p.index p.ty (p.terms.map fun t=>t.lw (fr+v) b) (p.Aa.map fun f=>f.lw (fr+(v+Au p.kind)) b) (Pf.EI fr b v (Ap p.kind) p.args):=fF
theorem Pf.Iu(fr b y:Int)(p:Pf):p.hw fr b y=if p.kind=1 then .mk 1 (if K9 (p.index-y)>=fr then K9 (p.index+b) else p.index) (.mk 0 []) [] [] [] else .mk p.kind p.index p.ty p.terms p.Aa (Pf.Fi fr b y (Ar p.kind) p.args):=fF
theorem O5(fr b v w:Int):∀l:List Pf,(Pf.EI fr b v w l).length=l.length
 |[]=>eC
 |p::l=>by simp only[Pf.EI,ZO,O5 fr b v w l]
theorem RU(fr b v w:Int):∀l:List Pf,(Pf.Fi fr b v w l).length=l.length
 |[]=>eC
 |p::l=>by simp only[Pf.Fi,ZO,RU fr b v w l]
theorem Y2(fr b v w:Int):∀(l:List Pf) (m:Nat) (h:m<l.length) (h':m<(Pf.EI fr b v w l).length),(Pf.EI fr b v w l)[m]=l[m].uw fr b (if m+1=l.length then v+w else v)
 |p::l,0,h,h'=>by
  simp only[Pf.EI,ZN,ZO];simp
 |p::l,m+1,h,h'=>by
  simp only[Pf.EI,Z0,ZO,aG];exact Y2 fr b v w l m ei _
theorem XZ(fr b v w:Int):∀(l:List Pf) (m:Nat) (h:m<l.length) (h':m<(Pf.Fi fr b v w l).length),(Pf.Fi fr b v w l)[m]=l[m].hw fr b (if m+1=l.length then v+w else v)
 |p::l,0,h,h'=>by
  simp only[Pf.Fi,ZN,ZO];simp
 |p::l,m+1,h,h'=>by
  simp only[Pf.Fi,Z0,ZO,aG];exact XZ fr b v w l m ei _
variable{b v w:Int}{l:List Pf}{m:Nat}
theorem Zzu{fr:Int}(h:m<l.length):(Pf.EI fr b v w l).take m++[l[m].uw fr b (if m+1=l.length then v+w else v)]=(Pf.EI fr b v w l).take (m+1):=by
 rw[<-Y2 fr b v w l m h (by rw[O5];exact h),ZM]
theorem Yb0{fr:Int}(h:m<l.length):(Pf.Fi fr b v w l).take m++[l[m].hw fr b (if m+1=l.length then v+w else v)]=(Pf.Fi fr b v w l).take (m+1):=by
 rw[<-XZ fr b v w l m h (by rw[RU];exact h),ZM]
theorem Ye4{fr:Int}:(Pf.EI fr b v w l).take l.length=Pf.EI fr b v w l:=by rw[<-O5 fr b v w l,ZF]
theorem Yfp{fr:Int}:(Pf.Fi fr b v w l).take l.length=Pf.Fi fr b v w l:=by rw[<-RU fr b v w l,ZF]
theorem XX{fr b v w:Int}:∀{l:List Pf} {x:Pf},x∈Pf.EI fr b v w l->∃y∈l,∃v',x=y.uw fr b v'
 |[],x,h=>by simp[Pf.EI] at h
 |p::l,x,h=>by
  simp only[Pf.EI,Z4] at h;rcases h with rfl|h
  .grind
  .obtain ⟨y,hy,e⟩:=XX h
   grind
theorem XR{fr b v w:Int}:∀{l:List Pf},(∀p∈l,∀v,(p.uw fr b v).full<=p.full)->((Pf.EI fr b v w l).map Pf.full).sum<=(l.map Pf.full).sum
 |[],_=>by simp[Pf.EI]
 |p::l,h=>by
  simp only[Pf.EI,ZJ,ZW];have h1:=h p dZ (if l.length=0 then v+w else v);have h2:=XR (v:=v) (w:=w) (l:=l) fun q hq=>h q ei;omega
theorem XG{fr b v w:Int}:∀{l:List Pf},(∀p∈l,∀v,(p.hw fr b v).full<=p.full)->((Pf.Fi fr b v w l).map Pf.full).sum<=(l.map Pf.full).sum
 |[],_=>by simp[Pf.Fi]
 |p::l,h=>by
  simp only[Pf.Fi,ZJ,ZW];have h1:=h p dZ (if l.length=0 then v+w else v);have h2:=XG (v:=v) (w:=w) (l:=l) fun q hq=>h q ei;omega
theorem OM(fr b:Int)(p:Pf):∀v,(p.uw fr b v).full<=p.full:=by
 induction p using Pf.ind with
 |h p ih=>
  intro v;rw[p.Af,Pf.Af,Pf.GG];have h1:=LQ (l:=p.terms) (f:=Tm.full∘fun t=>t.lw (fr+v) b) (g:=Tm.full) fun x _=>Zc x (fr+v) b;have h2:=LQ (l:=p.Aa) (f:=Fm.full∘fun t=>t.lw (fr+(v+Au p.kind)) b) (g:=Fm.full) fun x _=>Yco x (fr+(v+Au p.kind)) b;have h3:=XR (v:=v) (w:=Ap p.kind) ih;simp only[Pf.terms,Pf.Aa,Pf.args,Pf.ty,aK] at*;omega
theorem R3(fr b:Int)(p:Pf):∀v,(p.hw fr b v).full<=p.full:=by
 induction p using Pf.ind with
 |h p ih=>
  intro v;rw[Pf.Iu];by_cases hk:p.kind=1
  .rw[if_pos hk,p.Af];have:=p.ty.FO;simp only[Pf.full,Pf.Av,Z2,aN,Ty.size,Ty.sizes];omega
  .rw[if_neg hk,p.Af,Pf.Af];have h3:=XG (v:=v) (w:=Ar p.kind) ih;simp_all
mutual
def Pf.nd:Pf->Prop
 | .mk k _ _ _ _ zs=>(∃n,BZ k=some n/\zs.length=n.args)/\Pf.Mz zs
def Pf.Mz:List Pf->Prop
 |[]=>True
 |p::l=>Pf.nd p/\Pf.Mz l
end
theorem Zq:∀l:List Pf,Pf.Mz l↔∀p∈l,p.nd
 |[]=>by simp[Pf.Mz]
 |p::l=>by simp[Pf.Mz,Zq l]
theorem Pf.Bt(p:Pf):p.nd↔(∃n,BZ p.kind=some n/\p.args.length=n.args)/\∀x∈p.args,x.nd:=by
 cases p;simp only[Pf.nd,Zq];rfl
theorem Lb(p:Pf):p.shape=true->p.nd:=by
 induction p using Pf.ind with
 |h p ih=>
  intro hs;obtain⟨nd,n1,n2,n3,n4,_⟩:=Jq hs;exact(Pf.Bt p).2 ⟨⟨nd,n1,n4⟩,fun x hx=>ih x hx ((zk hs).2.2.2 x hx)⟩
theorem Yku(fr b:Int)(p:Pf):p.nd->∀v,(p.uw fr b v).nd:=by
 induction p using Pf.ind with
 |h p ih=>
  intro hn v;obtain⟨⟨n,n1,n2⟩,n3⟩:=(Pf.Bt p).1 hn;rw[Pf.GG,Pf.Bt];refine⟨⟨n,n1,by rw[<-n2];exact O5 _ _ _ _ _⟩,fun x hx=> ?_⟩;obtain⟨y,hy,v',rfl⟩:=XX hx
  grind
def Pf.Kj(p:Pf)(v h:Int):Pf:=(p.uw 0 v 0).hw 0 h 0
theorem Yb9(p:Pf)(v h:Int):(p.Kj v h).full<=p.full:=ay (R3 _ _ _ _) (OM _ _ _ _)
def Hw:Tm:=Cf Ae (sT (vT 0))
def Fm.CD(f:Fm)(b:Int):List Int:=(f.AZ b).flatMap fun p=>BS (p.1.vars p.2)
theorem EE(f:Fm)(b:Int):f.CD b=f.terms.flatMap (fun t=>BS (t.vars b))++f.args.flatMap (fun a=>a.CD (AR f.kind b)):=by
 unfold Fm.CD;rw[f.AY b,bu];congr 1
 .rw[dA]
 .rw[List.flatMap_assoc]
mutual
def Pf.CD(b:Int):Pf->List Int
 | .mk k _ _ ts fs zs=>ts.flatMap (fun t=>BS (t.vars b))++fs.flatMap (fun f=>f.CD (b+Au k))++(Pf.Cp b (Ap k) zs).flatten
def Pf.Cp(b w:Int):List Pf->List (List Int)
 |[]=>[]
 |p::l=>Pf.CD (if l.length=0 then b+w else b) p::Pf.Cp b w l
end
mutual
def Pf.D9(y:Int):Pf->List Int
 | .mk k i _ _ _ zs=>(if k=1/\i>=y then [i-y] else [])++(Pf.Cc y (Ar k) zs).flatten
def Pf.Cc(y w:Int):List Pf->List (List Int)
 |[]=>[]
 |p::l=>Pf.D9 (if l.length=0 then y+w else y) p::Pf.Cc y w l
end
mutual
def Pf.Dt:Pf->List Int
 | .mk k i _ _ _ zs=>(if k=2 then [i] else [])++(Pf.JQ zs).flatten
def Pf.JQ:List Pf->List (List Int)
 |[]=>[]
 |p::l=>Pf.Dt p::Pf.JQ l
end
theorem Pf.EE(b:Int)(p:Pf):p.CD b=p.terms.flatMap (fun t=>BS (t.vars b))++p.Aa.flatMap (fun f=>f.CD (b+Au p.kind))++(Pf.Cp b (Ap p.kind) p.args).flatten:=fF
theorem Pf.Gu(y:Int)(p:Pf):p.D9 y=(if p.kind=1/\p.index>=y then [p.index-y] else [])++(Pf.Cc y (Ar p.kind) p.args).flatten:=fF
theorem Ze:∀l:List Pf,Pf.JQ l=l.map Pf.Dt
 |[]=>rfl
 |p::l=>by rw[Pf.JQ,Ze l];rfl
theorem Pf.Gx(p:Pf):p.Dt=(if p.kind=2 then [p.index] else [])++(p.args.map Pf.Dt).flatten:=by cases p;simp only[Pf.Dt,Ze];rfl
theorem SD(b w:Int):∀l:List Pf,(Pf.Cp b w l).length=l.length
 |[]=>eC
 |p::l=>by simp only[Pf.Cp,ZO,SD b w l]
theorem Ua(b w:Int):∀l:List Pf,(Pf.Cc b w l).length=l.length
 |[]=>eC
 |p::l=>by simp only[Pf.Cc,ZO,Ua b w l]
theorem Uz(b w:Int):∀(l:List Pf) (m:Nat) (h:m<l.length) (h':m<(Pf.Cp b w l).length),(Pf.Cp b w l)[m]=l[m].CD (if m+1=l.length then b+w else b)
 |p::l,0,h,h'=>by
  simp only[Pf.Cp,ZN,ZO];simp
 |p::l,m+1,h,h'=>by
  simp only[Pf.Cp,Z0,ZO,aG];exact Uz b w l m ei _
theorem UA(b w:Int):∀(l:List Pf) (m:Nat) (h:m<l.length) (h':m<(Pf.Cc b w l).length),(Pf.Cc b w l)[m]=l[m].D9 (if m+1=l.length then b+w else b)
 |p::l,0,h,h'=>by
  simp only[Pf.Cc,ZN,ZO];simp
 |p::l,m+1,h,h'=>by
  simp only[Pf.Cc,Z0,ZO,aG];exact UA b w l m ei _
theorem ND{α:Type}{L:List (List α)}(h:m<L.length):(L.take m).flatten++L[m]=(L.take (m+1)).flatten:=by
 rw[<-ZM h,cB];simp
theorem Zu1(h:m<l.length):((Pf.Cp b w l).take m).flatten++l[m].CD (if m+1=l.length then b+w else b)=((Pf.Cp b w l).take (m+1)).flatten:=by
 rw[<-Uz b w l m h (by rw[SD];exact h)];exact ND _
theorem Zuw(h:m<l.length):((Pf.Cc b w l).take m).flatten++l[m].D9 (if m+1=l.length then b+w else b)=((Pf.Cc b w l).take (m+1)).flatten:=by
 rw[<-UA b w l m h (by rw[Ua];exact h)];exact ND _
theorem Zxa(h:m<l.length):((l.map Pf.Dt).take m).flatten++l[m].Dt=((l.map Pf.Dt).take (m+1)).flatten:=by
 have:=ND (L:=l.map Pf.Dt) (m:=m) ei
 grind
theorem Ybt:(Pf.Cp b w l).take l.length=Pf.Cp b w l:=by rw[<-SD b w l,ZF]
theorem Zn:(Pf.Cc b w l).take l.length=Pf.Cc b w l:=by rw[<-Ua b w l,ZF]
theorem VW:(l.map Pf.Dt).take l.length=l.map Pf.Dt:=by rw[aC dZ]
theorem u6{α β:Type}{g:α->List β}{w:α->Nat}:∀{l:List α},(∀x∈l,(g x).length<=w x)->(l.flatMap g).length<=(l.map w).sum
 |[],_=>dZ
 |x::l,h=>by
  simp only[Z1,ZR,ZJ,ZW];have h1:=h x dZ;have h2:=u6 (l:=l) fun y hy=>h y ei;omega
theorem Xv(t:Tm)(b:Int):(BS (t.vars b)).length<=t.full:=by
 have h2:=Yx (t.vars b);have h3:=t.Cn b;have h4:=t.Ah;omega
theorem Zwj(f:Fm):∀b,(f.CD b).length<=f.full:=by
 induction f using Fm.ind with
 |h f ih=>
  intro b;rw[EE,f.Af,ZR];have h1:=u6 (l:=f.terms) (g:=fun t=>BS (t.vars b)) (w:=Tm.full) fun t _=>Xv t b;have h2:=u6 (l:=f.args) (g:=fun a=>a.CD (AR f.kind b)) (w:=Fm.full) fun t ht=>ih t ht _;omega
theorem Wl{b w:Int}:∀{l:List Pf},(∀p∈l,∀v,(p.CD v).length<=p.full)->(Pf.Cp b w l).flatten.length<=(l.map Pf.full).sum
 |[],_=>by simp[Pf.Cp]
 |p::l,h=>by
  simp only[Pf.Cp,az,ZR,ZJ,ZW];have h1:=h p dZ (if l.length=0 then b+w else b);have h2:=Wl (b:=b) (w:=w) (l:=l) fun q hq=>h q ei;omega
theorem XF{b w:Int}:∀{l:List Pf},(∀p∈l,∀v,(p.D9 v).length<=p.full)->(Pf.Cc b w l).flatten.length<=(l.map Pf.full).sum
 |[],_=>by simp[Pf.Cc]
 |p::l,h=>by
  simp only[Pf.Cc,az,ZR,ZJ,ZW];have h1:=h p dZ (if l.length=0 then b+w else b);have h2:=XF (b:=b) (w:=w) (l:=l) fun q hq=>h q ei;omega
theorem Q7(p:Pf):∀b,(p.CD b).length<=p.full:=by
 induction p using Pf.ind with
 |h p ih=>
  intro b;rw[Pf.EE,p.Af,ZR,ZR];have h1:=u6 (l:=p.terms) (g:=fun t=>BS (t.vars b)) (w:=Tm.full) fun t _=>Xv t b;have h2:=u6 (l:=p.Aa) (g:=fun f=>f.CD (b+Au p.kind)) (w:=Fm.full) fun f _=>Zwj f _;have h3:=Wl (b:=b) (w:=Ap p.kind) ih;omega
theorem Zvi(p:Pf):∀b,(p.D9 b).length<=p.full:=by
 induction p using Pf.ind with
 |h p ih=>
  intro b;rw[Pf.Gu,p.Af,ZR];have h3:=XF (b:=b) (w:=Ar p.kind) ih
  grind
theorem Zvz(p:Pf):p.Dt.length<=p.full:=by
 induction p using Pf.ind with
 |h p ih=>
  rw[Pf.Gx,p.Af,ZR];have h3:((p.args.map Pf.Dt).flatten).length<=(p.args.map Pf.full).sum:=by
   have:=u6 (l:=p.args) (g:=Pf.Dt) (w:=Pf.full) ih
   grind
  grind
def Tm.B7(t:Tm):Prop:=∀b,∀p∈t.vars b,0<=p.1/\p.1<9223372036854775808
def Fm.B7(f:Fm):Prop:=∀b,∀p∈f.AZ b,p.1.B7
variable{t:Tm}
theorem Tm.Ep(h:∀p∈t.vars 0,0<=p.1/\p.1<9223372036854775808):t.B7:=fun b p hp=>by
 have e:=Lp t 0 b
 grind
theorem Fm.IB{f x:Fm}(h:f.B7)(hx:x∈f.args):x.B7:=fun b p hp=>by
 have key:∀(y:Fm) (b c:Int) (p:Tm×Int),p∈y.AZ b->∃q∈y.AZ c,q.1=p.1:=by
  intro y;induction y using Fm.ind with
  |h y ih=>
   intro b c p hp;rw[Fm.AY] at hp ⊢;rcases ZU.1 hp with hp|hp
   .obtain ⟨t,ht,rfl⟩:=ZQ.1 hp;exact⟨(t,c),aU _ (ZQ.2 ⟨t,ht,rfl⟩),rfl⟩
   .obtain ⟨z,hz,hp⟩:=ZZ.1 hp;obtain⟨q,hq,e⟩:=ih z hz _ (AR y.kind c) p hp
    grind
 obtain⟨q,hq,e⟩:=key x b (AR f.kind 0) p hp;rw[<-e];exact h 0 q gu
theorem Fm.HD{f:Fm}(h:f.B7)(ht:t∈f.terms):t.B7:=
 h 0 (t,0) gu
mutual
def Pf.B7:Pf->Prop
 | .mk _ i _ ts fs zs=>(0<=i/\i<9223372036854775808)/\(∀t∈ts,t.B7)/\(∀f∈fs,f.B7)/\Pf.HB zs
def Pf.HB:List Pf->Prop
 |[]=>True
 |p::l=>Pf.B7 p/\Pf.HB l
end
theorem WE:∀l:List Pf,Pf.HB l↔∀p∈l,p.B7
 |[]=>by simp[Pf.HB]
 |p::l=>by simp[Pf.HB,WE l]
theorem Pf.Dr(p:Pf):p.B7↔(0<=p.index/\p.index<9223372036854775808)/\(∀t∈p.terms,t.B7)/\(∀f∈p.Aa,f.B7)/\∀x∈p.args,x.B7:=by
 cases p;simp only[Pf.B7,WE];rfl
def G8(p:Pf):List Int:=yo (Az [] (p.D9 0))
def H7(p:Pf):List Int:=yo (Az [] p.Dt)
def Jm(p:Pf):List Int:=yo (Az [] (p.CD 0))
mutual
def Pf.cn(most:Int):Pf->Int
 | .mk _ _ h ts fs zs=>Pf.AD most (Fm.AD most (Tm.AD most (1+h.cn (most-1)) ts) fs) zs
def Pf.AD(most n:Int):List Pf->Int
 |[]=>n
 |x::l=>if n<=most then Pf.AD most (n+x.cn (most-n)) l else n
end
theorem Pf.Dc(most:Int)(t:Pf):t.cn most=Pf.AD most (Fm.AD most (Tm.AD most (1+t.ty.cn (most-1)) t.terms) t.Aa) t.args:=gA
theorem Pf.BL(most:Int):∀(l l':List Pf) (n:Int),Pf.AD most n (l++l')=Pf.AD most (Pf.AD most n l) l'
 |[],l',n=>eC
 |x::l,l',n=>by
  simp only[aE,Pf.AD];by_cases h:n<=most
  .rw[if_pos h,if_pos h];exact Pf.BL most l l' _
  .rw[if_neg h,if_neg h];cases l' with
   |nil=>rfl
   |cons y l'=>simp only[Pf.AD];omega
variable{most n:Int}
theorem Pf.Ci(h:¬n<=most):∀l:List Pf,Pf.AD most n l=n
 |[]=>eC
 |x::l=>by simp only[Pf.AD];omega
theorem Pf.B5(hm:m<l.length)(h:Pf.AD most n (l.take m)<=most):Pf.AD most n (l.take (m+1))=Pf.AD most n (l.take m)+l[m].cn (most-Pf.AD most n (l.take m)):=by
 rw[<-ZM hm,Pf.BL];simp only[Pf.AD];omega
theorem Pf.Cj(h:¬Pf.AD most n (l.take m)<=most):Pf.AD most n l=Pf.AD most n (l.take m):=by
 conv=>lhs;rw[<-bw m l,Pf.BL,Pf.Ci h]
theorem Fm.Fh(most:Int):∀(l:List Fm) (n:Int),n<=Fm.AD most n l/\(Fm.AD most n l<=n\/Fm.AD most n l<=most+2)/\(Fm.AD most n l<=most->Fm.AD most n l=n+(l.map Fm.full).sum)
 |[],n=>by simp only[Fm.AD];simp
 |x::l,n=>by
  simp only[Fm.AD];by_cases h:n<=most
  .rw[if_pos h];obtain⟨a1,a2,a3⟩:=x.BX (most-n);obtain⟨b1,b2,b3⟩:=Fm.Fh most l (n+x.cn (most-n))
   grind
  omega
theorem Pf.BX(t:Pf):∀most:Int,1<=t.cn most/\(t.cn most<=2\/t.cn most<=most+2)/\(t.cn most<=most->t.cn most=t.full):=by
 induction t using Pf.ind with
 |h t ih=>
  intro most;rw[Pf.Dc,Pf.Af];have key:∀(l:List Pf) (n:Int),(∀x∈l,x∈t.args)->n<=Pf.AD most n l/\(Pf.AD most n l<=n\/Pf.AD most n l<=most+2)/\(Pf.AD most n l<=most->Pf.AD most n l=n+(l.map Pf.full).sum):=by
   intro l;induction l with
   |nil=>intro n _;simp only[Pf.AD];simp
   |cons x l ihl=>
    intro n hx;simp only[Pf.AD]
    grind
  obtain⟨c1,c2,c3⟩:=t.ty.BX (most-1);obtain⟨d1,d2,d3⟩:=Tm.EF most t.terms (1+t.ty.cn (most-1));obtain⟨e1,e2,e3⟩:=Fm.Fh most t.Aa (Tm.AD most (1+t.ty.cn (most-1)) t.terms)
  grind
def Tm.IW(t:Tm):Prop:=∀q∈t.vars 0,0<=q.1/\q.1<10000
def Fm.IW(f:Fm):Prop:=∀q∈f.AZ 0,∀r∈q.1.vars 0,0<=r.1/\r.1<10000
theorem Tz(f:Fm):∀(g:List Ty) (b:Int),f.shape=true->f.BF g->∀q∈f.AZ b,∀r∈q.1.vars 0,0<=r.1/\r.1<g.length+f.size:=by
 induction f using Fm.ind with
 |h f ih=>
  intro g b hs h q hq r hr;rw[f.AY b,ZU] at hq;rw[Fm.BD] at h;have hsz:=f.size_eq;rcases hq with hq|hq
  .obtain ⟨t,ht,rfl⟩:=ZQ.1 hq;have hst:=yh hs ht;have h1:=zc Tm.size ht;exact⟨t.AJ hst 0 r hr,MX t g 0 (g.length+f.size) ei hst dY r hr⟩
  .obtain ⟨x,hx,hq⟩:=ZZ.1 hq;have h1:=zc Fm.size hx;have hl:(Ed g f).length<=g.length+1:=by unfold Ed;grind
   have:=ih x hx _ _ (zv hs hx) (h.2 x hx) q hq r hr;omega
def Ec(t:Tm):Prop:=t.shape=true/\t.IW/\t.full<=300000
def ES(f:Fm):Prop:=f.shape=true/\f.IW/\f.full<=300000
theorem Ec.of{g:List Ty}{T:Ty}(he:t.err=0)(hi:t.inf g=(T,0))(hg:g.length<=20):Ec t:=by
 obtain⟨h1,h2⟩:=(Tm.Ad t).1 he;have h3:=yd he;refine⟨h1,fun q hq=>⟨t.AJ h1 0 q hq,?_⟩,dY⟩;have:=MX t g 0 (g.length+t.size) (by rw[hi]) h1 dY q hq;omega
theorem ES.of{g:List Ty}{f:Fm}(he:f.err=0)(ho:f.BF g)(hg:g.length<=20):ES f:=by
 obtain⟨h1,h2⟩:=(Fm.Ad f).1 he;have h3:=yw he;refine⟨h1,fun q hq r hr=> ?_,dY⟩;have:=Tz f g 0 h1 ho q hq r hr;omega
mutual
def Pf.lx(C:Int):Pf->Prop
 | .mk k i _ _ _ zs=>(k=2->0<=i/\i<C)/\Pf.LK C zs
def Pf.LK(C:Int):List Pf->Prop
 |[]=>True
 |p::l=>Pf.lx C p/\Pf.LK C l
end
theorem XM(C:Int):∀l:List Pf,Pf.LK C l↔∀p∈l,p.lx C
 |[]=>by simp[Pf.LK]
 |p::l=>by simp[Pf.LK,XM C l]
theorem Pf.CA(C:Int)(p:Pf):p.lx C↔(p.kind=2->0<=p.index/\p.index<C)/\∀x∈p.args,x.lx C:=by cases p;simp only[Pf.lx,XM];rfl
structure Made (n:Nat) (p:Pf):Prop where
 shape:p.shape=true
 full:p.full<=n
 ix:p.ix 10000
 hx:p.hx 10000
 lx:p.lx 10000
variable{n:Nat}
theorem Made.up{p:Pf}(h:Made n p)(hm:n<=m):Made m p:=⟨h.shape,ay h.full hm,h.ix,h.hx,h.lx⟩
variable{fs:List Fm}{k:Int}{ts:List Tm}{zs:List Pf}
theorem Made.mk'{i:Int}{s:Ty}{nd:Nd}(hn:BZ k=some nd)(h1:ts.length=nd.terms)(h2:fs.length=nd.Aa)(h3:zs.length=nd.args)
 (hi:0<=i/\i<10000) (hi2:nd.index=true\/i=0) (hs:if nd.typ=true then s.ok=true else s.B3=true) (hk:k=1->zs=[])
 (ht:∀t∈ts,Ec t) (hf:∀f∈fs,ES f) (hz:∀x∈zs,∃m,Made m x) (hfull:(Pf.mk k i s ts fs zs).full<=n):Made n (Pf.mk k i s ts fs zs):=by
 refine⟨?_,hfull,(Pf.Bq _ _).2 ⟨fun t h=>(ht t h).2.1,fun f h=>(hf f h).2.1,fun x h=> ?_⟩,(Pf.Br _ _).2 ⟨fun _=>hi,fun _ x h=> ?_⟩,(Pf.CA _ _).2 ⟨fun _=>hi,fun x h=> ?_⟩⟩
 .rw[Pf.Ak];simp only[ZC,ZH];refine⟨⟨⟨?_,fun t h=>(ht t h).1⟩,fun f h=>(hf f h).1⟩,fun x h=> ?_⟩
  .unfold Pf.head;simp_all
  .obtain ⟨m,hm⟩:=hz x h;exact hm.shape
 .obtain ⟨m,hm⟩:=hz x h;exact hm.ix
 .obtain ⟨m,hm⟩:=hz x h;exact hm.hx
 .obtain ⟨m,hm⟩:=hz x h;exact hm.lx
theorem Zxu{s:Ty}(h:s.err=0):s.ok=true:=Lt ((Ty.Ad s).1 h).1 ((Ty.Ad s).1 h).2
theorem ve{α:Type}{P:α->Prop}{a:α}(h:P a):∀x∈[a],P x:=fun x hx=>ei
theorem I3{α:Type}{P:α->Prop}{a b:α}(h:P a)(h':P b):∀x∈[a,b],P x:=fun x hx=>by
 grind
theorem FZ{α:Type}{P:α->Prop}:∀x∈([]:List α),P x:=fun x hx=>by cases hx
theorem Made.ref(h:Ec t):Made 300010 (.mk 18 0 (.mk 0 []) [t] [] []):=
 .mk' rfl rfl rfl rfl dY (.inr rfl) rfl ej (ve h) FZ FZ (by rw[wy,HM];have:=h.2.2;grind)
theorem Made.hyp{i:Int}(h:0<=i/\i<10000):Made 10 (x8 i):=
 .mk' (nd:=⟨0,0,0,true,false⟩) rfl rfl rfl rfl h (.inl rfl) rfl (fun _=>rfl) FZ FZ FZ (by rw[wy,HM];simp)
theorem Made.lem{i:Int}(h:0<=i/\i<10000):Made 10 (.mk 2 i (.mk 0 []) [] [] []):=
 .mk' (nd:=⟨0,0,0,true,false⟩) rfl rfl rfl rfl h (.inl rfl) rfl (fun _=>rfl) FZ FZ FZ (by rw[wy,HM];simp)
theorem Made.two(hk:k=3\/k=7\/k=11\/k=15){p q:Pf}(hp:Made n p)(hq:Made m q):Made (n+m+2) (.mk k 0 (.mk 0 []) [] [] [p,q]):=by
 have h:=hp.full;have h':=hq.full;refine .mk' (nd:=⟨0,0,2,false,false⟩) ?_ rfl rfl rfl dY (.inr rfl) rfl (fun h=>dY) FZ FZ (I3 ⟨_,hp⟩ ⟨_,hq⟩) fU;rcases hk with rfl|rfl|rfl|rfl<;>rfl
theorem Made.one(hk:k=4\/k=5\/k=20){p:Pf}(hp:Made n p):Made (n+2) (.mk k 0 (.mk 0 []) [] [] [p]):=by
 have h:=hp.full;refine .mk' (nd:=⟨0,0,1,false,false⟩) ?_ rfl rfl rfl dY (.inr rfl) rfl (fun h=>dY) FZ FZ (ve ⟨_,hp⟩) fU;rcases hk with rfl|rfl|rfl<;>rfl
theorem Made.imp{f:Fm}(hf:ES f){p:Pf}(hp:Made n p):Made (n+300002) (.mk 6 0 (.mk 0 []) [] [f] [p]):=by
 have h:=hp.full;have h':=hf.2.2;exact .mk' (nd:=⟨0,1,1,false,false⟩) rfl rfl rfl rfl dY (.inr rfl) rfl (fun h=>dY) FZ (ve hf) (ve ⟨_,hp⟩) fU
theorem Made.all(hk:k=8\/k=12){s:Ty}(hs:s.err=0){p:Pf}(hp:Made n p):Made (n+65) (.mk k 0 s [] [] [p]):=by
 have h:=hp.full;have h':=Ll hs;refine .mk' (nd:=⟨0,0,1,false,true⟩) ?_ rfl rfl rfl dY (.inr rfl) (Zxu hs) (fun h=>dY) FZ FZ (ve ⟨_,hp⟩) (by rw[wy];grind);rcases hk with rfl|rfl<;>rfl
theorem Made.at_(hk:k=9\/k=13)(ht:Ec t){p:Pf}(hp:Made n p):Made (n+300002) (.mk k 0 (.mk 0 []) [t] [] [p]):=by
 have h:=hp.full;have h':=ht.2.2;refine .mk' (nd:=⟨1,0,1,false,false⟩) ?_ rfl rfl rfl dY (.inr rfl) rfl (fun h=>dY) (ve ht) FZ (ve ⟨_,hp⟩) fU;rcases hk with rfl|rfl<;>rfl
theorem Made.ex(hk:k=10\/k=14){f:Fm}(hf:ES f)(ht:Ec t){p:Pf}(hp:Made n p):Made (n+600002) (.mk k 0 (.mk 0 []) [t] [f] [p]):=by
 have h:=hp.full;have h':=ht.2.2;have h2:=hf.2.2;refine .mk' (nd:=⟨1,1,1,false,false⟩) ?_ rfl rfl rfl dY (.inr rfl) rfl (fun h=>dY) (ve ht) (ve hf) (ve ⟨_,hp⟩) fU;rcases hk with rfl|rfl<;>rfl
theorem Made.ind(hk:k=16\/k=17){f:Fm}(hf:ES f)(ht:Ec t){p q:Pf}(hp:Made n p)(hq:Made m q):Made (n+m+600002) (.mk k 0 (.mk 0 []) [t] [f] [p,q]):=by
 have h:=hp.full;have h1:=hq.full;have h':=ht.2.2;have h2:=hf.2.2;refine .mk' (nd:=⟨1,1,2,false,false⟩) ?_ rfl rfl rfl dY (.inr rfl) rfl (fun h=>dY) (ve ht) (ve hf) (I3 ⟨_,hp⟩ ⟨_,hq⟩) fU;rcases hk with rfl|rfl<;>rfl
theorem Made.sub{f:Fm}(hf:ES f){p q:Pf}(hp:Made n p)(hq:Made m q):Made (n+m+300002) (.mk 19 0 (.mk 0 []) [] [f] [p,q]):=by
 have h:=hp.full;have h1:=hq.full;have h2:=hf.2.2;exact .mk' (nd:=⟨0,1,2,false,false⟩) rfl rfl rfl rfl dY (.inr rfl) rfl (fun h=>dY) FZ (ve hf) (I3 ⟨_,hp⟩ ⟨_,hq⟩) fU
mutual
def Pf.pt(a:Int)(s:Tm)(v:Int):Pf->Pf
 | .mk k i h ts fs zs=> .mk k i h (ts.map fun t=>t.re (xt (a+v) s) 0) (fs.map fun f=>f.put (a+(v+Au k)) s) (Pf.pts a s v (Ap k) zs)
def Pf.pts(a:Int)(s:Tm)(v w:Int):List Pf->List Pf
 |[]=>[]
 |p::l=>Pf.pt a s (if l.length=0 then v+w else v) p::Pf.pts a s v w l
end
mutual
def Pf.ph(a:Int)(q:Pf)(v y:Int):Pf->Pf
 | .mk k i h ts fs zs=>if k=1 then(if i-y=a then q.Kj v (a+y) else if i-y>a then x8 (i-1) else x8 i) else .mk k i h ts fs (Pf.FB a q v y (Ap k) (Ar k) zs)
def Pf.FB(a:Int)(q:Pf)(v y w z:Int):List Pf->List Pf
 |[]=>[]
 |p::l=>Pf.ph a q (if l.length=0 then v+w else v) (if l.length=0 then y+z else y) p::Pf.FB a q v y w z l
end
theorem Pf.D6(a:Int)(s:Tm)(v:Int)(p:Pf):p.pt a s v= .mk p.kind p.index p.ty (p.terms.map fun t=>t.re (xt (a+v) s) 0) (p.Aa.map fun f=>f.put (a+(v+Au p.kind)) s) (Pf.pts a s v (Ap p.kind) p.args):=fF
theorem Pf.IM(a:Int)(q:Pf)(v y:Int)(p:Pf):Pf.ph a q v y p=if p.kind=1 then(if p.index-y=a then q.Kj v (a+y) else if p.index-y>a then x8 (p.index-1) else x8 p.index) else .mk p.kind p.index p.ty p.terms p.Aa (Pf.FB a q v y (Ap p.kind) (Ar p.kind) p.args):=fF
theorem JS(a:Int)(s:Tm)(v w:Int):∀l:List Pf,(Pf.pts a s v w l).length=l.length
 |[]=>eC
 |p::l=>by simp only[Pf.pts,ZO,JS a s v w l]
theorem Tc(a:Int)(q:Pf)(v y w z:Int):∀l:List Pf,(Pf.FB a q v y w z l).length=l.length
 |[]=>eC
 |p::l=>by simp only[Pf.FB,ZO,Tc a q v y w z l]
theorem Ov(a:Int)(s:Tm)(v w:Int):∀(l:List Pf) (m:Nat) (h:m<l.length) (h':m<(Pf.pts a s v w l).length),(Pf.pts a s v w l)[m]=l[m].pt a s (if m+1=l.length then v+w else v)
 |p::l,0,h,h'=>by
  simp only[Pf.pts,ZN,ZO];simp
 |p::l,m+1,h,h'=>by
  simp only[Pf.pts,Z0,ZO,aG];exact Ov a s v w l m ei _
theorem VV(a:Int)(q:Pf)(v y w z:Int):∀(l:List Pf) (m:Nat) (h:m<l.length) (h':m<(Pf.FB a q v y w z l).length),(Pf.FB a q v y w z l)[m]=Pf.ph a q (if m+1=l.length then v+w else v) (if m+1=l.length then y+z else y) l[m]
 |p::l,0,h,h'=>by
  simp only[Pf.FB,ZN,ZO];simp
 |p::l,m+1,h,h'=>by
  simp only[Pf.FB,Z0,ZO,aG];exact VV a q v y w z l m ei _
theorem XP{a:Int}{s:Tm}(h:m<l.length):(Pf.pts a s v w l).take m++[l[m].pt a s (if m+1=l.length then v+w else v)]=(Pf.pts a s v w l).take (m+1):=by
 rw[<-Ov a s v w l m h (by rw[JS];exact h),ZM]
theorem Xa{a:Int}{q:Pf}{y z:Int}(h:m<l.length):(Pf.FB a q v y w z l).take m++[Pf.ph a q (if m+1=l.length then v+w else v) (if m+1=l.length then y+z else y) l[m]]=(Pf.FB a q v y w z l).take (m+1):=by
 rw[<-VV a q v y w z l m h (by rw[Tc];exact h),ZM]
theorem UP{a:Int}{s:Tm}:(Pf.pts a s v w l).take l.length=Pf.pts a s v w l:=by rw[<-JS a s v w l,ZF]
theorem XI{a:Int}{q:Pf}{y z:Int}:(Pf.FB a q v y w z l).take l.length=Pf.FB a q v y w z l:=by rw[<-Tc a q v y w z l,ZF]
section
variable {α:Type}
mutual
def Pf.CE(g:Int->Tm->α)(h:Int->Fm->α)(v:Int):Pf->List α
 | .mk k _ _ ts fs zs=>ts.map (g v)++fs.map (h (v+Au k))++(Pf.AN g h v (Ap k) zs).flatten
def Pf.AN(g:Int->Tm->α)(h:Int->Fm->α)(v w:Int):List Pf->List (List α)
 |[]=>[]
 |p::l=>Pf.CE g h (if l.length=0 then v+w else v) p::Pf.AN g h v w l
end
mutual
def Pf.B8(f:Int->Int->Int->List α)(y:Int):Pf->List α
 | .mk k i _ _ _ zs=>f k i y++(Pf.AO f y (Ar k) zs).flatten
def Pf.AO(f:Int->Int->Int->List α)(y w:Int):List Pf->List (List α)
 |[]=>[]
 |p::l=>Pf.B8 f (if l.length=0 then y+w else y) p::Pf.AO f y w l
end
variable (g:Int->Tm->α) (h:Int->Fm->α) (f:Int->Int->Int->List α)
theorem Pf.BN(v:Int)(p:Pf):p.CE g h v=p.terms.map (g v)++p.Aa.map (h (v+Au p.kind))++(Pf.AN g h v (Ap p.kind) p.args).flatten:=fF
theorem Pf.BE(y:Int)(p:Pf):p.B8 f y=f p.kind p.index y++(Pf.AO f y (Ar p.kind) p.args).flatten:=fF
theorem Jb(v w:Int):∀l:List Pf,(Pf.AN g h v w l).length=l.length
 |[]=>eC
 |p::l=>by simp only[Pf.AN,ZO,Jb v w l]
theorem vk(y w:Int):∀l:List Pf,(Pf.AO f y w l).length=l.length
 |[]=>eC
 |p::l=>by simp only[Pf.AO,ZO,vk y w l]
theorem Jr(v w:Int):∀(l:List Pf) (m:Nat) (hm:m<l.length) (h':m<(Pf.AN g h v w l).length),(Pf.AN g h v w l)[m]=l[m].CE g h (if m+1=l.length then v+w else v)
 |p::l,0,hm,h'=>by
  simp only[Pf.AN,ZN,ZO];simp
 |p::l,m+1,hm,h'=>by
  simp only[Pf.AN,Z0,ZO,aG];exact Jr v w l m ei _
theorem uj(y w:Int):∀(l:List Pf) (m:Nat) (hm:m<l.length) (h':m<(Pf.AO f y w l).length),(Pf.AO f y w l)[m]=l[m].B8 f (if m+1=l.length then y+w else y)
 |p::l,0,hm,h'=>by
  simp only[Pf.AO,ZN,ZO];simp
 |p::l,m+1,hm,h'=>by
  simp only[Pf.AO,Z0,ZO,aG];exact uj y w l m ei _
theorem KP(hm:m<l.length):((Pf.AN g h v w l).take m).flatten++l[m].CE g h (if m+1=l.length then v+w else v)=((Pf.AN g h v w l).take (m+1)).flatten:=by
 rw[<-Jr g h v w l m hm (by rw[Jb];exact hm)];exact ND _
theorem ue{y:Int}(hm:m<l.length):((Pf.AO f y w l).take m).flatten++l[m].B8 f (if m+1=l.length then y+w else y)=((Pf.AO f y w l).take (m+1)).flatten:=by
 rw[<-uj f y w l m hm (by rw[vk];exact hm)];exact ND _
theorem KN:(Pf.AN g h v w l).take l.length=Pf.AN g h v w l:=by rw[<-Jb g h v w l,ZF]
theorem JE{y:Int}:(Pf.AO f y w l).take l.length=Pf.AO f y w l:=by rw[<-vk f y w l,ZF]
theorem Yfi(p:Pf):∀v,(p.CE g h v).length<=p.full:=by
 induction p using Pf.ind with
 |h p ih=>
  intro v;rw[Pf.BN,Pf.Af];have key:∀(l:List Pf) (w:Int),(∀x∈l,x∈p.args)->(Pf.AN g h v w l).flatten.length<=(l.map Pf.full).sum:=by
   intro l w;induction l with
   |nil=>intro _;simp[Pf.AN]
   |cons x l ihl=>
    intro hx;simp only[Pf.AN,az,ZR,ZJ,ZW]
    grind
  have h1:=key p.args (Ap p.kind) fun _ h=>h;have h2:=zd Tm.full Tm.Ac p.terms;have h3:=zd Fm.full Fm.Ac p.Aa
  grind
end
variable{β:Type}
theorem PO{α:Type}(X R:List β)(l:List α)(f:α->β)(m:Nat)(hm:m<l.length):X++(l.take m).map f++[f l[m]]<+:X++(l.map f++R):=by
 refine⟨(l.drop (m+1)).map f++R,?_⟩;have h0:(l.take m++[l[m]])++l.drop (m+1)=l:=dZ
 grind
theorem OC(X:List β)(LL:List (List β))(m:Nat)(hm:m<LL.length):X++(LL.take m).flatten++LL[m]<+:X++LL.flatten:=by
 refine⟨(LL.drop (m+1)).flatten,?_⟩;have h0:(LL.take m++[LL[m]])++LL.drop (m+1)=LL:=dZ
 grind
def DA(l:List (Int×Int)):Prop:=(∀q∈l,(0<=q.1/\q.1<=4096)/\0<=q.2/\q.2<=4096)/\l.length<=1000000000
variable{l:List (Int×Int)}
theorem DA.pre{l':List (Int×Int)}(h:l<+:l')(ho:DA l'):DA l:=⟨fun q hq=>ho.1 q (h.subset hq),ay h.length_le ho.2⟩
def Di(n k:Int)(l:List (Int×Int)):Int:=n+(l.map fun q=>q.2*(k-1)).sum
def DQ(k:Int)(l:List (Int×Int)):Bool:=l.any fun q=>decide (q.1+q.2*(k-1)>4096)
theorem Wf(n k:Int)(l:List (Int×Int))(q:Int×Int):Di n k (l++[q])=Di n k l+q.2*(k-1):=by
 unfold Di
 grind
theorem Zg(k:Int)(l:List (Int×Int))(q:Int×Int):DQ k (l++[q])=(DQ k l||decide (q.1+q.2*(k-1)>4096)):=by
 unfold DQ;simp
theorem SU{n:Int}(hk:1<=k/\k<=4096)(hn:0<=n/\n<=1000000):∀{l:List (Int×Int)},DA l->0<=Di n k l/\Di n k l<=1000000+16777216*l.length:=by
 intro l;induction l with
 |nil=>intro _;simp[Di];omega
 |cons q l ih=>
  intro h;have h1:=ih (⟨fun x hx=>h.1 x ei,by have:=h.2;grind⟩);have h2:=(h.1 q dZ).2;have e:Di n k (q::l)=Di n k l+q.2*(k-1):=by unfold Di;grind
  have h3:0<=q.2*(k-1):=cN h2.1 dY;have h4:q.2*(k-1)<=4096*4095:=cO h2.2 dY dY dY
  grind
def A6(a:Int)(v:Int)(t:Tm):Int×Int:=((t.size:Int),(cnt (a+v) (t.vars 0):Int))
def A8(a:Int)(v:Int)(f:Fm):Int×Int:=((f.size:Int),(ug (a+v) (f.AZ 0):Int))
theorem wq{p:Pf}(h:p.small=true):(∀t∈p.terms,t.size<=4096)/\(∀f∈p.Aa,f.size<=4096)/\∀x∈p.args,x.small=true:=by
 rw[Pf.Cl] at h
 grind
theorem YQ(a:Int)(p:Pf):p.small=true->p.full<=1000000000->∀v,DA (p.CE (A6 a) (A8 a) v):=by
 intro hs hf v;refine⟨?_,ay (Yfi _ _ p v) hf⟩;clear hf;revert hs v;induction p using Pf.ind with
 |h p ih=>
  intro hs v q hq;obtain⟨s1,s2,s3⟩:=wq hs;rw[Pf.BN,ZU,ZU] at hq;rcases hq with(hq|hq)|hq
  .obtain ⟨t,ht,rfl⟩:=ZQ.1 hq;have h1:=s1 t ht;have h2:=LW (a+v) (t.vars 0);have h3:=t.Cn 0;simp only[A6];omega
  .obtain ⟨f,hf,rfl⟩:=ZQ.1 hq;have h1:=s2 f hf;have h2:=vw f (a+(v+Au p.kind));simp only[A8];omega
  .obtain ⟨l,hl,hq⟩:=aX.1 hq;obtain⟨m,hm,rfl⟩:=aa hl;rw[Jb] at hm;rw[Jr _ _ _ _ _ _ hm] at hq
   grind
def DK(k i _y:Int):List Bool:=if k=1 then [decide (i<=536870912)] else []
def Cs(a k i y:Int):List Int:=if k=1/\i-y=a then [i] else []
def CL(k i y:Int):List Int:=if k=1/\i>=y then [i-y] else []
theorem Wj(a:Int)(p:Pf):∀y,(p.B8 (Cs a) y).length<=p.full:=by
 induction p using Pf.ind with
 |h p ih=>
  intro y;rw[Pf.BE,Pf.Af,ZR];have key:∀(l:List Pf) (w:Int),(∀x∈l,x∈p.args)->(Pf.AO (Cs a) y w l).flatten.length<=(l.map Pf.full).sum:=by
   exact l8
  have h1:=key p.args (Ar p.kind) fun _ h=>h;have h2:(Cs a p.kind p.index y).length<=1:=by unfold Cs;grind
  omega
def Pf.AL(p:Pf):Bool:=(p.CE (fun(_:Int) (t:Tm)=>t.near) (fun(_:Int) (f:Fm)=>f.near) 0).all id
def Pf.A5(p:Pf):Bool:=(p.B8 DK 0).all id
theorem Lv(p:Pf):p.shape=true->p.small=true->∀v,(p.CE (fun(_:Int) (t:Tm)=>t.near) (fun(_:Int) (f:Fm)=>f.near) v).all id=true->p.ix 549755813888:=by
 induction p using Pf.ind with
 |h p ih=>
  intro hs hm v h;obtain⟨s1,s2,s3⟩:=wq hm;obtain⟨_,s4,s5,s6⟩:=zk hs;rw[Pf.BN,Z6,Z6,ZC,ZC] at h;obtain⟨⟨h1,h2⟩,h3⟩:=h;rw[ZH] at h1 h2 h3;refine(Pf.Bq _ p).2 ⟨fun t ht=> ?_,fun f hf=> ?_,fun x hx=> ?_⟩
  .exact Wc ((Tm.Ad t).2 ⟨s4 t ht,s1 t ht⟩) eS
  .exact UM ((Fm.Ad f).2 ⟨s5 f hf,s2 f hf⟩) eS
  .obtain ⟨m,hm2,rfl⟩:=aa hx;refine ih _ hx (s6 _ hx) (s3 _ hx) (if m+1=p.args.length then v+Ap p.kind else v) (ZH.2 fun b hb=> ?_);rw[<-Jr _ _ v (Ap p.kind) p.args m hm2 (by rw[Jb];omega)] at hb;exact h3 b (aX.2 ⟨_,ZA _,hb⟩)
theorem Oe(p:Pf):p.shape=true->∀y,(p.B8 DK y).all id=true->p.hx 549755813888:=by
 induction p using Pf.ind with
 |h p ih=>
  intro hs y h;obtain⟨hh,_,_,s6⟩:=zk hs;obtain⟨nd,_,_,_,_,hi,_⟩:=I9 hh;rw[Pf.BE,Z6,ZC] at h;obtain⟨h1,h3⟩:=h;rw[ZH] at h3;refine(Pf.Br _ p).2 ⟨fun hk=>⟨hi,?_⟩,fun _ x hx=> ?_⟩
  .simp[DK,hk] at h1;omega
  .obtain ⟨m,hm2,rfl⟩:=aa hx;refine ih _ hx (s6 _ hx) (if m+1=p.args.length then y+Ar p.kind else y) (ZH.2 fun b hb=> ?_);rw[<-uj _ y (Ar p.kind) p.args m hm2 (by rw[vk];omega)] at hb;exact h3 b (aX.2 ⟨_,ZA _,hb⟩)
theorem Yba(p:Pf):p.ix 10000->∀v,(p.CE (fun(_:Int) (t:Tm)=>t.near) (fun(_:Int) (f:Fm)=>f.near) v).all id=true:=by
 induction p using Pf.ind with
 |h p ih=>
  intro hix v;obtain⟨i1,i2,i3⟩:=(Pf.Bq _ p).1 hix;rw[Pf.BN,Z6,Z6,ZC,ZC];refine⟨⟨ZH.2 fun b hb=> ?_,ZH.2 fun b hb=> ?_⟩,ZH.2 fun b hb=> ?_⟩
  .exact mq
  .obtain ⟨f,hf,rfl⟩:=ZQ.1 hb;exact Wy (C:=10000) dY fun q hq r hr=>ei
  .exact kT
theorem Zz9(p:Pf):p.nd->p.hx 10000->∀y,(p.B8 DK y).all id=true:=by
 induction p using Pf.ind with
 |h p ih=>
  intro hs hh y;obtain⟨i1,i2⟩:=(Pf.Br _ p).1 hh;obtain⟨⟨nd0,a1,a2⟩,a3⟩:=(Pf.Bt p).1 hs;rw[Pf.BE,Z6,ZC];refine⟨ZH.2 fun b hb=> ?_,ZH.2 fun b hb=> ?_⟩
  .unfold DK at hb
   grind
  .exact lF
variable{C C':Int}
theorem Ue{p:Pf}(h:p.ix C)(hc:C<=C'):p.ix C':=by
 induction p using Pf.ind with
 |h p ih=>
  obtain⟨i1,i2,i3⟩:=(Pf.Bq _ p).1 h;exact(Pf.Bq _ p).2 ⟨fun t ht q hq=>ei,fun f hf q hq r hr=>ei,fun x hx=>ih x hx (i3 x hx)⟩
theorem Ri{p:Pf}(h:p.hx C)(hc:C<=C'):p.hx C':=by
 induction p using Pf.ind with
 |h p ih=>
  obtain⟨i1,i2⟩:=(Pf.Br _ p).1 h;exact(Pf.Br _ p).2 ⟨fun hk=>dY,fun hk x hx=>ih x hx (i2 hk x hx)⟩
def Ip(p:Pf)(fr by_:Int):Int:=if p.err≠0 then p.err else if ¬(0<=fr/\fr<=4096)\/¬(0<=by_/\by_<=4096)\/p.AL=false then 1 else 0
def H6(p:Pf)(fr by_:Int):Int:=if p.err≠0 then p.err else if ¬(0<=fr/\fr<=16384)\/¬(0<=by_/\by_<=16384)\/p.A5=false then 1 else 0
def I1(p:Pf)(a:Int)(s:Tm):List (Int×Int):=p.CE (A6 a) (A8 a) 0
def Eb(p:Pf)(a:Int)(s:Tm):Int:=
 if p.err≠0 then p.err else if ¬(0<=a/\a<=4096) then 1 else if s.err≠0 then s.err else if p.AL=false\/s.near=false then 1
 else if DQ s.size (I1 p a s)=true\/Di p.size s.size (I1 p a s)>16384 then 4 else 0
def Hl(p:Pf)(a:Int):Int:=(p.B8 (Cs a) 0).length
def Fu(p:Pf)(a:Int)(q:Pf):Int:=
 if p.err≠0 then p.err else if ¬(0<=a/\a<=16384) then 1 else if q.err≠0 then q.err else if p.A5=false\/q.A5=false\/q.AL=false then 1
 else if(p.size:Int)+Hl p a*(q.size-1)>16384 then 4 else 0
section
variable {p q:Pf} {fr by_ a:Int} {s:Tm}
theorem Yu(h:p.err≠0):Ip p fr by_=p.err:=by unfold Ip;omega
theorem Yr(h:p.err=0)(hg:¬(0<=fr/\fr<=4096)\/¬(0<=by_/\by_<=4096)\/p.AL=false):Ip p fr by_=1:=by unfold Ip;grind
theorem Uy(h:p.err=0)(hg:¬(¬(0<=fr/\fr<=4096)\/¬(0<=by_/\by_<=4096)\/p.AL=false)):Ip p fr by_=0:=by unfold Ip;grind
theorem Ws(h:p.err≠0):H6 p fr by_=p.err:=by unfold H6;omega
theorem Up(h:p.err=0)(hg:¬(0<=fr/\fr<=16384)\/¬(0<=by_/\by_<=16384)\/p.A5=false):H6 p fr by_=1:=by unfold H6;grind
theorem UF(h:p.err=0)(hg:¬(¬(0<=fr/\fr<=16384)\/¬(0<=by_/\by_<=16384)\/p.A5=false)):H6 p fr by_=0:=by unfold H6;grind
theorem Td(h:p.err≠0):Eb p a s=p.err:=by unfold Eb;omega
theorem RD(h:p.err=0)(ha:¬(0<=a/\a<=4096)):Eb p a s=1:=by unfold Eb;omega
theorem Ti(h:p.err=0)(ha:0<=a/\a<=4096)(hs:s.err≠0):Eb p a s=s.err:=by unfold Eb;omega
theorem TM(h:p.err=0)(ha:0<=a/\a<=4096)(hs:s.err=0)(hn:p.AL=false\/s.near=false):Eb p a s=1:=by unfold Eb;grind
theorem TH(h:p.err=0)(ha:0<=a/\a<=4096)(hs:s.err=0)(hn:¬(p.AL=false\/s.near=false)):Eb p a s=if DQ s.size (I1 p a s)=true\/Di p.size s.size (I1 p a s)>16384 then 4 else 0:=by
 unfold Eb;grind
theorem RM(h:p.err≠0):Fu p a q=p.err:=by unfold Fu;omega
theorem Q8(h:p.err=0)(ha:¬(0<=a/\a<=16384)):Fu p a q=1:=by unfold Fu;omega
theorem Q4(h:p.err=0)(ha:0<=a/\a<=16384)(hs:q.err≠0):Fu p a q=q.err:=by unfold Fu;omega
theorem Vy(h:p.err=0)(ha:0<=a/\a<=16384)(hs:q.err=0)(hn:p.A5=false\/q.A5=false\/q.AL=false):Fu p a q=1:=by unfold Fu;grind
theorem XN(h:p.err=0)(ha:0<=a/\a<=16384)(hs:q.err=0)(hn:¬(p.A5=false\/q.A5=false\/q.AL=false)):Fu p a q=if(p.size:Int)+Hl p a*(q.size-1)>16384 then 4 else 0:=by
 unfold Fu;grind
end
def CO(k i _y:Int):List Int:=if k=2 then [i] else []
theorem Xk(y w:Int):∀l:List Pf,(∀p∈l,∀y,p.D9 y=p.B8 CL y)->Pf.Cc y w l=Pf.AO CL y w l
 |[],_=>eC
 |p::l,h=>by
  simp only[Pf.Cc,Pf.AO];rw[h p dZ,Xk y w l fun q hq=>h q ei]
theorem YS(p:Pf):∀y,p.D9 y=p.B8 CL y:=by
 induction p using Pf.ind with
 |h p ih=>
  intro y;rw[Pf.Gu,Pf.BE,Xk _ _ _ ih]
  rfl
theorem Yke(p:Pf):p.D9 0=p.B8 CL 0:=YS p 0
theorem Y7(y w:Int):∀l:List Pf,(∀p∈l,∀y,p.Dt=p.B8 CO y)->l.map Pf.Dt=Pf.AO CO y w l
 |[],_=>eC
 |p::l,h=>by
  simp only[ZJ,Pf.AO];rw[h p dZ (if l.length=0 then y+w else y),Y7 y w l fun q hq=>h q ei]
theorem YW(p:Pf):∀y,p.Dt=p.B8 CO y:=by
 induction p using Pf.ind with
 |h p ih=>
  intro y;rw[Pf.Gx,Pf.BE,Y7 y (Ar p.kind) p.args ih]
  rfl
theorem Yj2(p:Pf):p.Dt=p.B8 CO 0:=YW p 0
theorem Mp{f:Int->Int->Int->List Int}(hf:∀k i y,(f k i y).length<=1)(p:Pf):∀y,(p.B8 f y).length<=p.full:=by
 induction p using Pf.ind with
 |h p ih=>
  intro y;rw[Pf.BE,Pf.Af,ZR];have key:∀(l:List Pf) (w:Int),(∀x∈l,x∈p.args)->(Pf.AO f y w l).flatten.length<=(l.map Pf.full).sum:=by
   exact l8
  grind
theorem Sj{x:Int}(h:0<=x/\x<9223372036854775808):(Lit.int .i64 x).wf=true:=by
 have h4:IntKind.i64.min<=x/\x<=IntKind.i64.max:=by
  rw[show IntKind.i64.min= -9223372036854775808 by rfl,show IntKind.i64.max=9223372036854775807 by rfl];omega
 simpa[Lit.wf] using h4
theorem Yil(C:Int)(p:Pf):p.hx C->p.nd->∀y,0<=y->∀x∈p.B8 CL y,0<=x/\x<C:=by
 induction p using Pf.ind with
 |h p ih=>
  intro hh hs y hy x hx;obtain⟨i1,i2⟩:=(Pf.Br _ p).1 hh;obtain⟨⟨nd0,a1,a2⟩,a3⟩:=(Pf.Bt p).1 hs;rw[Pf.BE,ZU] at hx;rcases hx with hx|hx
  .unfold CL at hx
   grind
  .obtain ⟨l,hl,hx⟩:=aX.1 hx;obtain⟨m,hm,rfl⟩:=aa hl;rw[vk] at hm;rw[uj _ _ _ _ _ hm] at hx;have hk:p.kind≠1:=fun e=>by
    rw[e] at a1;simp[BZ] at a1
    grind
   have b2:0<=Ar p.kind:=by unfold Ar;omega
   grind
theorem Yjz(C:Int)(p:Pf):p.lx C->∀y,∀x∈p.B8 CO y,0<=x/\x<C:=by
 induction p using Pf.ind with
 |h p ih=>
  intro hh y x hx;obtain⟨i1,i2⟩:=(Pf.CA _ p).1 hh;rw[Pf.BE,ZU] at hx;rcases hx with hx|hx
  .unfold CO at hx
   grind
  .obtain ⟨l,hl,hx⟩:=aX.1 hx;obtain⟨m,hm,rfl⟩:=aa hl;rw[vk] at hm;rw[uj _ _ _ _ _ hm] at hx
   grind
theorem Yir(p:Pf)(hs:p.shape=true)(hf:p.full<=100000000000)(hx:p.hx 9223372036854775808):(∀x∈Az [] (p.B8 CL 0),(Lit.int .i64 x).wf=true)/\(Az [] (p.B8 CL 0)).length<549755813888:=by
 refine⟨fun x h=>Sj ?_,?_⟩
 .rcases C1.1 h with h|h
  .cases h
  .exact Yil _ p hx (Lb p hs) 0 dY x h
 .have h1:=IE (p.B8 CL 0) [];have h2:=Mp (f:=CL) (fun k i y=>by unfold CL;grind) p 0
  grind
theorem Yh8(p:Pf)(hs:p.shape=true)(hf:p.full<=100000000000)(hx:p.lx 9223372036854775808):(∀x∈Az [] (p.B8 CO 0),(Lit.int .i64 x).wf=true)/\(Az [] (p.B8 CO 0)).length<549755813888:=by
 refine⟨fun x h=>Sj ?_,?_⟩
 .rcases C1.1 h with h|h
  .cases h
  .exact Yjz _ p hx 0 x h
 .have h1:=IE (p.B8 CO 0) [];have h2:=Mp (f:=CO) (fun k i y=>by unfold CO;grind) p 0
  grind
theorem OL{n:Int}(h: -9223372036854775808<=n/\n<9223372036854775808):K9 n=n:=by
 show IntKind.i64.wrap n=n;rw[IntKind.wrap_i64];omega
theorem Zp2(t:Tm):∀b:Int,∀p∈t.vars b,p.2<=b+t.size:=by
 induction t using Tm.ind with
 |h t ih=>
  intro b p hp;have hz:=t.size_eq;rw[Tm.AU] at hp;rcases ZU.1 hp with hp|hp
  .grind
  .obtain ⟨x,hx,hp⟩:=ZZ.1 hp;have h1:=ih x hx _ p hp;have h2:=zc Tm.size hx;have h3:up t.kind b<=b+1:=by unfold up;omega
   omega
theorem WR{fr by_:Int}(hix:∀q∈t.vars 0,0<=q.1/\q.1<549755813888)(hz:t.size<=1000000)(hb: -1000000<=by_/\by_<=1000000):t.lw fr by_=t.re (z8 fr by_) 0:=by
 refine Cb t 0 fun q hq=> ?_;have h1:=hix q hq;have h2:=Jj t 0 q hq;have h3:=Zp2 t 0 q hq;simp only[IY,z8];rw[OL dY,OL dY]
theorem Yi3{f:Fm}{fr by_:Int}(hs:f.shape=true)(hix:∀p∈f.AZ 0,∀q∈p.1.vars 0,0<=q.1/\q.1<549755813888)(hz:f.size<=1000000)(hb: -1000000<=by_/\by_<=1000000):f.lw fr by_=f.Bi fr by_:=by
 refine Fm.Cb f 0 fun p hp=> ?_;exact WR (hix p hp) (by have h1:=Nl f 0;have h2:=zc (fun(p:Tm×Int)=>p.1.size) hp;omega) hb
theorem UG(fr b v w:Int):∀l:List Pf,(∀p∈l,∀v,p.uw fr b v=p.up fr b v)->Pf.EI fr b v w l=Pf.E3 fr b v w l
 |[],_=>eC
 |p::l,h=>by
  simp only[Pf.EI,Pf.E3];rw[h p dZ,UG fr b v w l fun q hq=>h q ei]
theorem WV{p:Pf}{fr:Int}(hb: -1000000<=b/\b<=1000000):p.shape=true->p.small=true->p.ix 549755813888->∀v,p.uw fr b v=p.up fr b v:=by
 induction p using Pf.ind with
 |h p ih=>
  intro hs hm hix v;obtain⟨s1,s2,s3⟩:=wq hm;obtain⟨_,s4,s5,s6⟩:=zk hs;obtain⟨i1,i2,i3⟩:=(Pf.Bq _ p).1 hix;rw[Pf.GG,Pf.GJ,UG _ _ _ _ _ fun x hx v=>ih x hx (s6 x hx) (s3 x hx) (i3 x hx) v];congr 1
  .exact aF fun t ht=>WR (i1 t ht) ei hb
  .exact aF fun f hf=>Yi3 (s5 f hf) (i2 f hf) ei hb
theorem YN{p:Pf}{fr:Int}(hb: -1000000<=b/\b<=1000000):p.nd->p.hx 549755813888->∀y:Int,(0<=y/\y+p.full<=1000000000000)->p.hw fr b y=p.lh fr b y:=by
 induction p using Pf.ind with
 |h p ih=>
  intro hs hh y hy;obtain⟨i1,i2⟩:=(Pf.Br _ p).1 hh;obtain⟨⟨nd0,a1,a2⟩,a3⟩:=(Pf.Bt p).1 hs;rw[Pf.Iu,Pf.IL];by_cases hk:p.kind=1
  .rw[if_pos hk,if_pos hk];have:=i1 hk;rw[OL dY,OL dY]
  .rw[if_neg hk,if_neg hk];have hz:=p.Af;have b2:0<=Ar p.kind/\Ar p.kind<=1:=by unfold Ar;omega
   congr 1;have key:∀(l:List Pf),(∀x∈l,x∈p.args)->Pf.Fi fr b y (Ar p.kind) l=Pf.lhs fr b y (Ar p.kind) l:=by
    intro l;induction l with
    |nil=>intro _;rfl
    |cons x l ihl=>
     intro hx;simp only[Pf.Fi,Pf.lhs];have h1:=hx x dZ;have h2:=zc Pf.full h1
     grind
   grind
theorem Sy{p:Pf}(hs:p.shape=true)(h1:ts.length=p.terms.length)(h2:fs.length=p.Aa.length)(h3:zs.length=p.args.length)
 (a1:∀t∈ts,t.shape=true) (a2:∀f∈fs,f.shape=true) (a3:∀x∈zs,x.shape=true):(Pf.mk p.kind p.index p.ty ts fs zs).shape=true:=by
 obtain⟨h,_⟩:=zk hs;rw[Pf.Ak];simp only[ZC,ZH];refine⟨⟨⟨?_,a1⟩,a2⟩,a3⟩;obtain⟨k,i,y,t0,f0,z0⟩:=p;simp only[Pf.AA,Pf.Bo,Pf.Bk,Pf.AE,Pf.B4,Pf.Ag] at h1 h2 h3 ⊢;unfold Pf.head at h ⊢;simp only[Pf.AA,Pf.Bo,Pf.Bk,Pf.AE,Pf.B4,Pf.Ag] at h ⊢
 grind
theorem Zs9{i:Int}(hi:0<=i):(x8 i).shape=true:=((Pf.Ad _).1 (Zzr hi)).1
theorem Zs3{p:Pf}(hs:p.shape=true)(hk:p.kind=1):p.size=1:=by
 obtain⟨hh,_⟩:=zk hs;obtain⟨nd,n1,n2,n3,n4,_⟩:=I9 hh;rw[hk] at n1;have e:nd=⟨0,0,0,true,false⟩:=by
  unfold BZ at n1;grind
 subst e;have e1:=ZS n2;have e2:=ZS n3;have e3:=ZS n4;rw[Pf.size_eq,e1,e2,e3];simp
def Pz(C:Int)(n:Nat)(p:Pf):Prop:=p.shape=true/\p.small=true/\p.size=n/\p.ix C
theorem UE{p:Pf}(hs:p.shape=true)(hm:p.small=true){k:Nat}(h1:ts.map Tm.size=p.terms.map Tm.size)(h2:fs.map Fm.size=p.Aa.map Fm.size)
 (a1:∀t∈ts,t.shape=true/\∀q∈t.vars 0,0<=q.1/\q.1<C) (a2:∀f∈fs,f.shape=true/\∀p∈f.AZ 0,∀q∈p.1.vars 0,0<=q.1/\q.1<C) (h3:zs.length=p.args.length)
 (a3:∀x∈zs,∃m,Pz C m x) (hk:(zs.map Pf.size).sum=(p.args.map Pf.size).sum+k):Pz C (p.size+k) (Pf.mk p.kind p.index p.ty ts fs zs):=by
 obtain⟨s1,s2,s3⟩:=wq hm;have e1:ts.length=p.terms.length:=by have:=congrArg List.length h1;grind
 have e2:fs.length=p.Aa.length:=by have:=congrArg List.length h2;grind
 refine⟨Sy hs e1 e2 h3 (fun t h=>(a1 t h).1) (fun f h=>(a2 f h).1) (fun x h=>(a3 x h).choose_spec.1),?_,?_,(Pf.Bq _ _).2 ⟨fun t h=>(a1 t h).2,fun f h=>(a2 f h).2,fun x h=>(a3 x h).choose_spec.2.2.2⟩⟩
 .rw[Pf.Cl];simp only[ZC,ZH,decide_eq_true_eq,Pf.AE,Pf.B4,Pf.Ag];refine⟨⟨fun t h=> ?_,fun f h=> ?_⟩,fun x h=>(a3 x h).choose_spec.2.1⟩
  .have:t.size∈p.terms.map Tm.size:=h1▸ZQ.2 ⟨t,h,rfl⟩
   grind
  .have:f.size∈p.Aa.map Fm.size:=h2▸ZQ.2 ⟨f,h,rfl⟩
   grind
 .rw[Pf.size_eq,p.size_eq];simp only[Pf.AE,Pf.B4,Pf.Ag,h1,h2,hk];omega
theorem UW{p:Pf}{fr n:Int}(hn:0<=n):p.shape=true->p.small=true->p.ix C->∀v,Pz (C+n) p.size (p.up fr n v):=by
 induction p using Pf.ind with
 |h p ih=>
  intro hs hm hix v;obtain⟨s1,s2,s3⟩:=wq hm;obtain⟨_,s4,s5,s6⟩:=zk hs;obtain⟨i1,i2,i3⟩:=(Pf.Bq _ p).1 hix;rw[Pf.GJ];have key:∀(l:List Pf),(∀x∈l,x∈p.args)->(∀x∈Pf.E3 fr n v (Ap p.kind) l,∃m,Pz (C+n) m x)/\((Pf.E3 fr n v (Ap p.kind) l).map Pf.size).sum=(l.map Pf.size).sum:=by
   intro l;induction l with
   |nil=>intro _;simp[Pf.E3]
   |cons x l ihl=>
    intro hx;have h0:=hx x dZ;obtain⟨a1,a2⟩:=ihl fun z hz=>hx z ei;have h1:=ih x h0 (s6 x h0) (s3 x h0) (i3 x h0);simp only[Pf.E3,Z4,ZJ,ZW];refine⟨fun z hz=> ?_,?_⟩
    .grind
    .rw[a2,(h1 _).2.2.1]
  obtain⟨k1,k2⟩:=key p.args fun _ h=>h;exact UE (k:=0) hs hm
   (by rw[aK];exact aF fun t ht=>OW (fr+v) n t 0 (s4 t ht))
   (by rw[aK];exact aF fun f hf=>(Lf (s5 f hf) (fr:=fr+(v+Au p.kind)) hn).2.1)
   (fun y hy=>by
    obtain⟨t,ht,rfl⟩:=ZQ.1 hy;have h1:=NN (fr:=fr+v) 0 (s4 t ht) hn;exact⟨h1,fun q hq=>⟨Tm.AJ _ h1 0 q hq,by have:=Su (C:=C-1) (s4 t ht) hn (fun r hr=>ei) q hq;omega⟩⟩)
   (fun y hy=>by
    obtain⟨f,hf,rfl⟩:=ZQ.1 hy;exact⟨(Lf (s5 f hf) hn).1,fun q hq r hr=>by have:=Ygd (s5 f hf) (C:=C-1) hn (fun q hq r hr=>ei) q hq r hr;omega⟩)
   (N3 _ _ _ _ _) k1 dY
theorem Yef(C:Int){i:Int}(hi:0<=i):Pz C 1 (x8 i):=⟨Zs9 hi,eC,Zvn i,Yjv C i⟩
theorem Ylg{p:Pf}{f:Int}(hb:0<=b):p.shape=true->p.small=true->p.ix C->∀y,Pz C p.size (p.lh f b y):=by
 induction p using Pf.ind with
 |h p ih=>
  intro hs hm hix y;obtain⟨s1,s2,s3⟩:=wq hm;obtain⟨hh,s4,s5,s6⟩:=zk hs;obtain⟨i1,i2,i3⟩:=(Pf.Bq _ p).1 hix;rw[Pf.IL];by_cases hk:p.kind=1
  .rw[if_pos hk];obtain⟨_,_,_,_,_,hi,_⟩:=I9 hh;have hz:p.size=1:=Zs3 hs hk;rw[hz];exact Yef C dY
  .rw[if_neg hk];have key:∀(l:List Pf),(∀x∈l,x∈p.args)->(∀x∈Pf.lhs f b y (Ar p.kind) l,∃m,Pz C m x)/\((Pf.lhs f b y (Ar p.kind) l).map Pf.size).sum=(l.map Pf.size).sum:=by
    intro l;induction l with
    |nil=>intro _;simp[Pf.lhs]
    |cons x l ihl=>
     intro hx;have h0:=hx x dZ;obtain⟨a1,a2⟩:=ihl fun z hz=>hx z ei;have h1:=ih x h0 (s6 x h0) (s3 x h0) (i3 x h0);simp only[Pf.lhs,Z4,ZJ,ZW];refine⟨fun z hz=> ?_,?_⟩
     .grind
     .rw[a2,(h1 _).2.2.1]
   obtain⟨k1,k2⟩:=key p.args fun _ h=>h;exact UE (k:=0) hs hm rfl rfl (fun t ht=>⟨s4 t ht,i1 t ht⟩) (fun f hf=>⟨s5 f hf,i2 f hf⟩) (PG _ _ _ _ _) k1 dY
theorem Pz.err{C:Int}{n:Nat}{p:Pf}(h:Pz C n p)(hn:n<=16384):p.err=0:=(Pf.Ad p).2 ⟨h.1,h.2.1,by rw[h.2.2.1];exact hn⟩
theorem Pz.near{C:Int}{n:Nat}{p:Pf}(h:Pz C n p)(hC:C<=1000000):p.AL=true:=by
 have key:∀(p:Pf),p.ix C->∀v,(p.CE (fun(_:Int) (t:Tm)=>t.near) (fun(_:Int) (f:Fm)=>f.near) v).all id=true:=by
  intro p;induction p using Pf.ind with
  |h p ih=>
   intro hix v;obtain⟨i1,i2,i3⟩:=(Pf.Bq _ p).1 hix;rw[Pf.BN,Z6,Z6,ZC,ZC];refine⟨⟨ZH.2 fun b hb=> ?_,ZH.2 fun b hb=> ?_⟩,ZH.2 fun b hb=> ?_⟩
   .exact mq
   .obtain ⟨f,hf,rfl⟩:=ZQ.1 hb;exact Wy hC fun q hq r hr=>ei
   .exact kT
 exact key p h.2.2.2 0
theorem Vk(C fr n:Int)(p:Pf):p.hx C->∀v,(p.up fr n v).hx C:=by
 induction p using Pf.ind with
 |h p ih=>
  intro h v;obtain⟨h1,h2⟩:=(Pf.Br C p).1 h;rw[Pf.GJ,Pf.Br];simp only[Pf.AA,Pf.Bo,Pf.Ag];refine⟨h1,fun hk x hx=> ?_⟩;obtain⟨m,hm,rfl⟩:=aa hx;rw[N3] at hm;rw[SV _ _ _ _ _ _ hm]
  grind
theorem Made.err{n:Nat}{p:Pf}(h:Made n p):p.err=0\/p.err=4:=by
 unfold Pf.err;rw[h.shape];grind
theorem Zxq:C4.full=2:=ej
structure Yg (p r:Pf) (t:Tm) (x y a a' s b:Pf) (e f g h i j:Int):Prop where
 res:(g=4\/j=4)\/(e=0/\f=0/\g=0/\h=0/\i=0/\j=0/\y=p/\a'=b)
 fx:x.full<=200000000
 fa:a.full<=200000000
 fs:s.full<=200000000
 fy:y.full<=200000000
 fa':a'.full<=200000000
 fb:b.full<=200000000
def Gb(p:Pf)(a:Int)(s:Tm):Pf:=if Eb p a s=0 then p.pt a s 0 else C4
def Kp(p:Pf)(a:Int)(q:Pf):Pf:=if Fu p a q=0 then Pf.ph a q 0 0 p else C4
theorem Yfe{p:Pf}{a:Int}{s:Tm}(h:Eb p a s≠0):Gb p a s=C4:=if_neg h
theorem U5{p:Pf}(h:p.err=0):p.full<=1064960:=by
 have h1:=(Pf.Ad p).1 h;have:=Lu p h1.1;omega
def GM(k:Int)(l:List (Int×Int)):Int:=(l.map fun q=>q.2*(k-1)).sum
theorem LU(k:Int)(l l':List (Int×Int)):GM k (l++l')=GM k l+GM k l':=by
 unfold GM;simp
theorem Yz(n k:Int)(l:List (Int×Int)):Di n k l=n+GM k l:=rfl
theorem Pc{α:Type}{sz sz':α->Nat}{G:α->Int×Int}(l:List α)(h:∀x∈l,(sz' x:Int)=sz x+(G x).2*(k-1)):(((l.map sz').sum:Nat):Int)=((l.map sz).sum:Nat)+GM k (l.map G):=by
 unfold GM;induction l<;>grind
theorem Yks{s:Tm}{a:Int}(ha:0<=a)(hs:s.shape=true)(p:Pf):p.shape=true->∀v,0<=v->(∀q∈p.CE (A6 a) (A8 a) v,q.1+q.2*((s.size:Int)-1)<=4096)->
 (p.pt a s v).shape=true/\(p.pt a s v).small=true/\((p.pt a s v).size:Int)=p.size+GM s.size (p.CE (A6 a) (A8 a) v):=by
 have sp:=s.size_pos;have cast:∀(n c:Nat),((n+c*(s.size-1):Nat):Int)=(n:Int)+(c:Int)*((s.size:Int)-1):=fun n c=>by
  grind
 induction p using Pf.ind with
 |h p ih=>
  intro hp v hv hq;obtain⟨_,s4,s5,s6⟩:=zk hp;have fv:0<=Au p.kind:=iA
  have b1:0<=Ap p.kind:=iB
  rw[Pf.BN] at hq ⊢;have zt:∀t∈p.terms,((t.re (xt (a+v) s) 0).size:Int)=t.size+(A6 a v t).2*((s.size:Int)-1):=fun t ht=>by
   exact ng
  have zf:∀f∈p.Aa,((f.put (a+(v+Au p.kind)) s).size:Int)=f.size+(A8 a (v+Au p.kind) f).2*((s.size:Int)-1):=fun f hf=>by
   exact kK
  have key:∀(l:List Pf),(∀x∈l,x∈p.args)->(∀q∈(Pf.AN (A6 a) (A8 a) v (Ap p.kind) l).flatten,q.1+q.2*((s.size:Int)-1)<=4096)->
   (∀x∈Pf.pts a s v (Ap p.kind) l,x.shape=true/\x.small=true)/\((((Pf.pts a s v (Ap p.kind) l).map Pf.size).sum:Nat):Int)=((l.map Pf.size).sum:Nat)+GM s.size (Pf.AN (A6 a) (A8 a) v (Ap p.kind) l).flatten:=by
   intro l;induction l with
   |nil=>intro _ _;simp[Pf.pts,Pf.AN,GM]
   |cons x l ihl=>
    intro hx hq;simp only[Pf.AN,az,ZU] at hq;obtain⟨a1,a2⟩:=ihl (fun z hz=>hx z ei) fun q h=>hq q (.inr h);obtain⟨c1,c2,c3⟩:=ih x (hx x dZ) (s6 x (hx x dZ)) (if l.length=0 then v+Ap p.kind else v) dY fun q h=>hq q (.inl h);simp only[Pf.pts,Pf.AN,Z4,ZJ,ZW,az];refine⟨fun z hz=> ?_,?_⟩
    .grind
    .rw[LU,aA,a2,c3];omega
  simp only[ZU] at hq;obtain⟨k1,k2⟩:=key p.args (fun _ h=>h) fun q h=>hq q (.inr h);rw[Pf.D6];refine⟨Sy hp (aI ..) (aI ..) (JS _ _ _ _ _) (fun y hy=> ?_) (fun y hy=> ?_) (fun x h=>(k1 x h).1),?_,?_⟩
  .exact mL
  .obtain ⟨f,hf,rfl⟩:=ZQ.1 hy;exact Ml dY hs (s5 f hf)
  .rw[Pf.Cl];simp only[ZC,ZH,decide_eq_true_eq,Pf.AE,Pf.B4,Pf.Ag];refine⟨⟨fun y hy=> ?_,fun y hy=> ?_⟩,fun x h=>(k1 x h).2⟩
   .obtain ⟨t,ht,rfl⟩:=ZQ.1 hy;have:=hq _ (.inl (.inl (ZQ.2 ⟨t,ht,rfl⟩)));have:=zt t ht;have:(A6 a v t).1=t.size:=rfl;omega
   .obtain ⟨f,hf,rfl⟩:=ZQ.1 hy;have:=hq _ (.inl (.inr (ZQ.2 ⟨f,hf,rfl⟩)));have:=zf f hf;have:(A8 a (v+Au p.kind) f).1=f.size:=rfl;omega
  .exact kG
theorem Ykx(C a:Int)(s:Tm)(p:Pf):p.hx C->∀v,(p.pt a s v).hx C:=by
 induction p using Pf.ind with
 |h p ih=>
  intro h v;obtain⟨h1,h2⟩:=(Pf.Br C p).1 h;rw[Pf.D6,Pf.Br];simp only[Pf.AA,Pf.Bo,Pf.Ag];refine⟨h1,fun hk x hx=> ?_⟩;obtain⟨m,hm,rfl⟩:=aa hx;rw[JS] at hm;rw[Ov _ _ _ _ _ _ hm]
  grind
theorem Ykz(C a:Int)(s:Tm)(p:Pf):p.lx C->∀v,(p.pt a s v).lx C:=by
 induction p using Pf.ind with
 |h p ih=>
  intro h v;obtain⟨h1,h2⟩:=(Pf.CA C p).1 h;rw[Pf.D6,Pf.CA];simp only[Pf.AA,Pf.Bo,Pf.Ag];refine⟨h1,fun x hx=> ?_⟩;obtain⟨m,hm,rfl⟩:=aa hx;rw[JS] at hm;rw[Ov _ _ _ _ _ _ hm]
  grind
theorem Us{p:Pf}(h:p.lx C)(hc:C<=C'):p.lx C':=by
 induction p using Pf.ind with
 |h p ih=>
  obtain⟨h1,h2⟩:=(Pf.CA C p).1 h;exact(Pf.CA C' p).2 ⟨fun hk=>dY,fun x hx=>ih x hx (h2 x hx)⟩
theorem Yb1(p:Pf)(hf:p.full<=100000000000):(G8 p).length<1099511627776:=by
 unfold G8;rw[M5,YS];have h1:=IE (p.B8 CL 0) [];have h2:=Mp (f:=CL) (fun k i y=>by unfold CL;split<;>simp) p 0;simp at h1;omega
theorem Yab(p:Pf)(hf:p.full<=100000000000):(H7 p).length<1099511627776:=by
 unfold H7;rw[M5,YW p 0];have h1:=IE (p.B8 CO 0) [];have h2:=Mp (f:=CO) (fun k i y=>by unfold CO;split<;>simp) p 0;simp at h1;omega
def IP(p:Pf):Int×Int:=if p.kind=16\/p.kind=17 then(p.kind,(p.terms.getD 0 Da).kind) else if 0<p.args.length then(p.kind,(p.args.getD 0 C4).kind) else(p.kind,0)
def SM:List (Int×Int):=[(4,3),(5,3),(7,6),(9,8),(13,12),(11,10),(15,14),(16,4),(16,5),(17,7),(17,8)]
def Yhq(p:Pf):Bool:=decide (IP p∈SM)
def TK(q:Pf)(t:Tm)(p:Pf):Pf×Int:=if Eb q 0 t≠0 then(C4,Eb q 0 t) else(Kp (Gb q 0 t) 0 p,Fu (Gb q 0 t) 0 p)
def Yc(p:Pf)(t:Tm):Pf:= .mk p.kind p.index p.ty [t] p.Aa p.args
def Pf.arg(p:Pf)(i:Nat):Pf:=p.args.getD i C4
def Pf.Ks(p:Pf):Tm:=p.terms.getD 0 Da
def Sm(t:Tm):Tm:=if TR t 0 1=0 then t.re (z8 0 1) 0 else Da
def Yk9(p:Pf)(h l:Tm):Pf×Int:=
 if TR l 0 1≠0 then(C4,TR l 0 1) else if Eb (p.arg 1) 0 (Sm l)≠0 then(C4,Eb (p.arg 1) 0 (Sm l)) else TK (Gb (p.arg 1) 0 (Sm l)) h (Yc p l)
def Wu(p:Pf):Pf×Int:=
 if IP p=(4,3) then((p.arg 0).arg 0,0)
 else if IP p=(5,3) then((p.arg 0).arg 1,0)
 else if IP p=(7,6) then(Kp ((p.arg 0).arg 0) 0 (p.arg 1),Fu ((p.arg 0).arg 0) 0 (p.arg 1))
 else if IP p=(9,8)\/IP p=(13,12) then(Gb ((p.arg 0).arg 0) 0 p.Ks,Eb ((p.arg 0).arg 0) 0 p.Ks)
 else if IP p=(11,10)\/IP p=(15,14) then TK (p.arg 1) (p.arg 0).Ks ((p.arg 0).arg 0)
 else if IP p=(16,5) then TK (p.arg 1) (p.Ks.args.getD 0 Da) (Yc p (p.Ks.args.getD 0 Da))
 else if IP p=(17,8) then Yk9 p (p.Ks.args.getD 0 Da) (p.Ks.args.getD 1 Da)
 else(p.arg 0,0)
mutual
def Pf.nx:Pf->Pf×Bool×Int
 | .mk k i s ts fs zs=>if Yhq (.mk k i s ts fs zs)=true then((Wu (.mk k i s ts fs zs)).1,true,(Wu (.mk k i s ts fs zs)).2)
   else(.mk k i s ts fs (Pf.L1 zs).1,(Pf.L1 zs).2.1,(Pf.L1 zs).2.2)
def Pf.L1:List Pf->List Pf×Bool×Int
 |[]=>([],false,0)
 |p::l=>if(Pf.nx p).2.1=true\/(Pf.nx p).2.2≠0 then((Pf.nx p).1::l,(Pf.nx p).2.1,(Pf.nx p).2.2) else(p::(Pf.L1 l).1,(Pf.L1 l).2.1,(Pf.L1 l).2.2)
end
theorem Vd{p:Pf}{a:Int}(h:Eb p a t=0):p.err=0/\(0<=a/\a<=4096)/\t.err=0/\p.AL=true/\t.near=true/\DQ t.size (I1 p a t)=false/\Di p.size t.size (I1 p a t)<=16384:=by
 have h1:p.err=0:=bW fun hc=>by rw[Td hc] at h;omega
 have h2:0<=a/\a<=4096:=bW fun hc=>by rw[RD h1 hc] at h;cases h
 have h3:t.err=0:=bW fun hc=>by rw[Ti h1 h2 hc] at h;omega
 have h4:¬(p.AL=false\/t.near=false):=fun hc=>by rw[TM h1 h2 h3 hc] at h;cases h
 rw[TH h1 h2 h3 h4] at h
 grind
theorem Yez{p:Pf}{a:Int}(h:Eb p a t=0):(Gb p a t).err=0:=by
 obtain⟨h1,h2,h3,_,_,hB,hN⟩:=Vd h;obtain⟨g1,g2,g3⟩:=(Pf.Ad p).1 h1;have e:Gb p a t=p.pt a t 0:=by unfold Gb;grind
 unfold DQ at hB;rw[List.any_eq_false] at hB;rw[Yz] at hN;obtain⟨k1,k2,k3⟩:=Yks h2.1 ((Tm.Ad t).1 h3).1 p g1 0 dY fun q hq=>by
  have:=hB q hq
  grind
 unfold I1 at hN;rw[e,Pf.Ad];grind
theorem Yav{r:Pf}(he:r.err=0)(hn:r.AL=true)(hh:r.A5=true){h:Int}(hv:0<=v/\v<=200000)(hh2:0<=h/\h<=200000):
 r.Kj v h=(r.up 0 v 0).lh 0 h 0/\Pz (549755813888+v) r.size ((r.up 0 v 0).lh 0 h 0):=by
 obtain⟨hs,hm,hz⟩:=(Pf.Ad r).1 he;have hi:=Lv r hs hm 0 hn;have hx:=Oe r hs 0 hh;have h1:=UW (fr:=0) (n:=v) (C:=549755813888) hv.1 hs hm hi 0;have hf:=Lu _ h1.1;have h2:=h1.2.2.1;unfold Pf.Kj;rw[WV dY hs hm hi 0];rw[YN dY (Lb _ h1.1) (Vk _ _ _ _ hx 0) 0 dY];refine⟨rfl,?_⟩;have:=Ylg (f:=0) (b:=h) hh2.1 h1.1 h1.2.1 h1.2.2.2 0
 grind
theorem Zu9(p:Pf)(a:Int)(t:Tm):(Gb p a t).full<=1064960:=by
 by_cases h:Eb p a t=0
 .exact U5 (Yez h)
 .rw[Yfe h,Zxq];omega
theorem Yih(p:Pf):2<=p.full:=by rw[p.Af];have:=p.ty.size_pos;omega
def MN(k i _y:Int):List Bool:=if k=1\/k=2 then [decide (i<=536870912)] else []
def Pf.F5(p:Pf):Bool:=([p.AL&&p.A5]++p.B8 MN 0).all id
theorem Yk0(p:Pf):p.nd->p.hx 10000->p.lx 10000->∀y,(p.B8 MN y).all id=true:=by
 induction p using Pf.ind with
 |h p ih=>
  intro hs hh hx y;obtain⟨i1,i2⟩:=(Pf.Br _ p).1 hh;obtain⟨j1,j2⟩:=(Pf.CA _ p).1 hx;obtain⟨⟨nd0,a1,a2⟩,a3⟩:=(Pf.Bt p).1 hs;rw[Pf.BE,Z6,ZC];refine⟨ZH.2 fun b hb=> ?_,ZH.2 fun b hb=> ?_⟩
  .unfold MN at hb
   grind
  .exact lF
theorem Zvk{p:Pf}(hs:p.shape=true)(h1:p.ix 10000)(h2:p.hx 10000)(h3:p.lx 10000):p.F5=true:=by
 unfold Pf.F5;rw[show p.AL=true from Yba p h1 0,show p.A5=true from Zz9 p (Lb p hs) h2 0];rw[Z6,Yk0 p (Lb p hs) h2 h3 0]
 rfl
theorem Made.near{p:Pf}(h:Made n p):p.F5=true:=Zvk h.shape h.ix h.hx h.lx
theorem Un(t:Tm):∀b,∀q∈t.vars b,b<=q.2/\q.2<=b+t.size:=by
 induction t using Tm.ind with
 |h t ih=>
  intro b q hq;have hz:=t.size_eq;rw[t.AU,ZU] at hq;rcases hq with hq|hq
  .grind
  .obtain ⟨x,hx,hq⟩:=ZZ.1 hq;have h1:=ih x hx _ q hq;have h2:=zc Tm.size hx;have h3:b<=up t.kind b/\up t.kind b<=b+1:=by unfold up;omega
   omega
theorem Zuq(f:Fm):∀b,∀q∈f.AZ b,b<=q.2/\q.2<=b+f.size/\q.1.size<=f.size:=by
 induction f using Fm.ind with
 |h f ih=>
  intro b q hq;have hz:=f.size_eq;rw[f.AY,ZU] at hq;rcases hq with hq|hq
  .obtain ⟨t,ht,rfl⟩:=ZQ.1 hq;have h2:=zc Tm.size ht
   grind
  .obtain ⟨x,hx,hq⟩:=ZZ.1 hq;have h1:=ih x hx _ q hq;have h2:=zc Fm.size hx;have h3:b<=AR f.kind b/\AR f.kind b<=b+1:=by unfold AR;omega
   omega
theorem V5{s:Tm}(ht:t.shape=true)(hs:s.shape=true){a:Int}(ha:0<=a)(h:∀q∈t.vars 0,0<=q.1/\q.1<C)(h2:∀q∈s.vars 0,0<=q.1/\q.1<C):
 (t.re (xt a s) 0).shape=true/\∀q∈(t.re (xt a s) 0).vars 0,0<=q.1/\q.1<C+a+t.size:=by
 have hsh:=N4 (at_:=a) 0 hs ht dY ha fun p hp=>by have:=Un t 0 p hp;omega
 refine⟨hsh,fun q hq=>⟨Tm.AJ _ hsh 0 q hq,?_⟩⟩;rw[QM _ _ _ ht] at hq;obtain⟨p,hp,hq⟩:=ZZ.1 hq;have hd:=Un t 0 p hp;have hb:=h p hp;unfold xt at hq;by_cases hc:p.1-p.2=a
 .rw[if_pos hc] at hq;obtain⟨q',hq',e⟩:=Sg (b':=0) q hq;have:=Su (fr:=0) (by_:=a+p.2) (C:=C-1) hs dY (fun r hr=>ei) q' hq';omega
 .rw[if_neg hc] at hq;simp only[Tm.vars,Tm.CJ,if_true,ZY,ah] at hq
  grind
theorem Ycn{f:Fm}{s:Tm}(hf:f.shape=true)(hs:s.shape=true){a:Int}(ha:0<=a)(h:∀q∈f.AZ 0,∀r∈q.1.vars 0,0<=r.1/\r.1<C)(h2:∀q∈s.vars 0,0<=q.1/\q.1<C):
 ∀q∈(f.put a s).AZ 0,∀r∈q.1.vars 0,0<=r.1/\r.1<C+a+2*f.size:=by
 intro q hq r hr;rw[Fm.put,YO] at hq;obtain⟨p,hp,rfl⟩:=ZQ.1 hq;have hd:=Zuq f 0 p hp;have:=(V5 (a:=a+p.2) (C:=C) (LC f hf 0 p hp) hs dY (h p hp) h2).2 r hr;omega
theorem Yk6{s:Tm}(hs:s.shape=true)(h2:∀q∈s.vars 0,0<=q.1/\q.1<C)(p:Pf):p.shape=true->p.small=true->p.ix C->∀v:Int,0<=v->v+2*p.size<=200000->(p.pt 0 s v).ix (C+250000):=by
 induction p using Pf.ind with
 |h p ih=>
  intro hp hm hix v hv hvz;obtain⟨s1,s2,s3⟩:=wq hm;obtain⟨_,s4,s5,s6⟩:=zk hp;obtain⟨i1,i2,i3⟩:=(Pf.Bq _ p).1 hix;have hz:=p.size_eq;have fv:0<=Au p.kind/\Au p.kind<=2:=iA
  have b1:0<=Ap p.kind/\Ap p.kind<=2:=iB
  rw[Pf.D6,Pf.Bq];simp only[Pf.AE,Pf.B4,Pf.Ag];refine⟨fun t ht q hq=> ?_,fun f hf q hq r hr=> ?_,fun x hx=> ?_⟩
  .obtain ⟨u,hu,rfl⟩:=ZQ.1 ht;have:=(V5 (a:=0+v) (s4 u hu) hs dY (i1 u hu) h2).2 q hq
   grind
  .obtain ⟨u,hu,rfl⟩:=ZQ.1 hf;have:=Ycn (a:=0+(v+Au p.kind)) (s5 u hu) hs dY (i2 u hu) h2 q hq r hr
   grind
  .obtain ⟨m,hm2,rfl⟩:=aa hx;rw[JS] at hm2;rw[Ov _ _ _ _ _ _ hm2];have h3:=zc Pf.size (ZA hm2)
   grind
structure Ib (C:Int) (p:Pf):Prop where
 ix:p.ix C
 hx:p.hx C
 lx:p.lx C
theorem Ib.mono{p:Pf}(h:Ib C p)(hc:C<=C'):Ib C' p:=⟨Ue h.ix hc,Ri h.hx hc,Us h.lx hc⟩
theorem Ib.no:Ib C C4:=by
 constructor<;>simp[C4,Pf.ix,Pf.ixs,Pf.hx,Pf.hxs,Pf.lx,Pf.LK]
theorem Ib.args{C:Int}{p:Pf}(hs:p.shape=true)(h:Ib C p):∀x∈p.args,Ib C x:=fun x hx=>by
 refine⟨((Pf.Bq C p).1 h.ix).2.2 x hx,((Pf.Br C p).1 h.hx).2 (fun hk=> ?_) x hx,((Pf.CA C p).1 h.lx).2 x hx⟩;obtain⟨hh,_⟩:=zk hs;obtain⟨nd,n1,_,_,n4,_⟩:=I9 hh;rw[hk] at n1;simp[BZ] at n1
 grind
theorem Ib.arg{C:Int}{p:Pf}(hs:p.shape=true)(h:Ib C p)(i:Nat):Ib C (p.arg i):=by
 unfold Pf.arg;by_cases hi:i<p.args.length
 .rw[N8 hi];exact h.args hs _ (ZA hi)
 .rw[List.getD,dU dY];exact Ib.no
theorem Ib.terms{C:Int}{p:Pf}(h:Ib C p):∀t∈p.terms,∀q∈t.vars 0,0<=q.1/\q.1<C:=((Pf.Bq C p).1 h.ix).1
theorem Ib.put{p:Pf}(h:Ib C p)(h2:∀q∈t.vars 0,0<=q.1/\q.1<C)(he:Eb p 0 t=0):Ib (C+250000) (Gb p 0 t):=by
 obtain⟨e1,_,e2,_⟩:=Vd he;obtain⟨g1,g2,g3⟩:=(Pf.Ad p).1 e1;have e:Gb p 0 t=p.pt 0 t 0:=by unfold Gb;grind
 rw[e];exact⟨Yk6 ((Tm.Ad t).1 e2).1 h2 p g1 g2 h.ix 0 dY dY,Ri (Ykx _ _ _ _ h.hx 0) dY,Us (Ykz _ _ _ _ h.lx 0) dY⟩
theorem Ybf(p:Pf):p.ix 500000000->∀v,(p.CE (fun(_:Int) (t:Tm)=>t.near) (fun(_:Int) (f:Fm)=>f.near) v).all id=true:=by
 induction p using Pf.ind with
 |h p ih=>
  intro hix v;obtain⟨i1,i2,i3⟩:=(Pf.Bq _ p).1 hix;rw[Pf.BN,Z6,Z6,ZC,ZC];refine⟨⟨ZH.2 fun b hb=> ?_,ZH.2 fun b hb=> ?_⟩,ZH.2 fun b hb=> ?_⟩
  .exact mq
  .obtain ⟨f,hf,rfl⟩:=ZQ.1 hb;exact ZH.2 fun q hq=>ZH.2 fun r hr=>ei
  .exact kT
theorem VE(p:Pf):p.shape=true->Ib 500000000 p->∀y,(p.B8 DK y).all id=true/\(p.B8 MN y).all id=true:=by
 induction p using Pf.ind with
 |h p ih=>
  intro hs h y;obtain⟨i1,_⟩:=(Pf.Br _ p).1 h.hx;obtain⟨j1,_⟩:=(Pf.CA _ p).1 h.lx;have ha:=h.args hs;have hsa:=(zk hs).2.2.2;rw[Pf.BE,Pf.BE,Z6,Z6,ZC,ZC];refine⟨⟨ZH.2 fun b hb=> ?_,ZH.2 fun b hb=> ?_⟩,ZH.2 fun b hb=> ?_,ZH.2 fun b hb=> ?_⟩
  .unfold DK at hb
   grind
  .exact mj
  .unfold MN at hb
   grind
  .exact mj
theorem Ib.near{p:Pf}(hs:p.shape=true)(h:Ib 500000000 p):p.F5=true:=by
 unfold Pf.F5;rw[show p.AL=true from Ybf p h.ix 0,show p.A5=true from(VE p hs h 0).1,Z6,(VE p hs h 0).2]
 rfl
section
variable {α:Type}
theorem Zxl(a:Tm->α)(b:Fm->α)(p:Pf):∀v w:Int,p.CE (fun _=>a) (fun _=>b) v=p.CE (fun _=>a) (fun _=>b) w:=by
 induction p using Pf.ind with
 |h p ih=>
  intro v w;rw[Pf.BN,Pf.BN];congr 2;have key:∀(l:List Pf),(∀x∈l,x∈p.args)->Pf.AN (fun _=>a) (fun _=>b) v (Ap p.kind) l=Pf.AN (fun _=>a) (fun _=>b) w (Ap p.kind) l:=by
   intro l;induction l with
   |nil=>intro _;rfl
   |cons x l ihl=>
    intro hx;simp only[Pf.AN]
    grind
  grind
theorem Zvo(F:Int->Int->List α)(p:Pf):∀v w:Int,p.B8 (fun k i _=>F k i) v=p.B8 (fun k i _=>F k i) w:=by
 induction p using Pf.ind with
 |h p ih=>
  intro v w;rw[Pf.BE,Pf.BE];congr 2;have key:∀(l:List Pf),(∀x∈l,x∈p.args)->Pf.AO (fun k i _=>F k i) v (Ar p.kind) l=Pf.AO (fun k i _=>F k i) w (Ar p.kind) l:=by
   intro l;induction l with
   |nil=>intro _;rfl
   |cons x l ihl=>
    intro hx;simp only[Pf.AO]
    grind
  grind
end
theorem W3(p:Pf):p.AL=(p.terms.all Tm.near&&p.Aa.all Fm.near&&p.args.all Pf.AL):=by
 unfold Pf.AL;rw[Pf.BN,Z6,Z6,cz,cz];congr 1;have key:∀(l:List Pf),(Pf.AN (fun(_:Int) (t:Tm)=>t.near) (fun(_:Int) (f:Fm)=>f.near) 0 (Ap p.kind) l).flatten.all id=l.all Pf.AL:=by
  intro l;induction l with
  |nil=>rfl
  |cons x l ihl=>
   simp only[Pf.AN,az,Z6,bk];rw[ihl,Zxl Tm.near Fm.near x _ 0]
   rfl
 exact key p.args
theorem Uq{p:Pf}(hs:p.shape=true)(hk:p.kind=1):∃i,p=x8 i:=by
 obtain⟨nd,n1,n2,n3,n4,_,_,_,h7,_⟩:=Jq hs;rw[hk] at n1;have e:nd=⟨0,0,0,true,false⟩:=by
  unfold BZ at n1;grind
 subst e;have e1:=ZS n2;have e2:=ZS n3;have e3:=ZS n4;have e4:=h7 rfl;obtain⟨k,i,ty,ts,fs,zs⟩:=p;simp_all
theorem Zup(p:Pf):p.shape=true->p.AL=true->p.ix 536870913:=by
 induction p using Pf.ind with
 |h p ih=>
  intro hs hn;obtain⟨_,s4,s5,s6⟩:=zk hs;rw[W3] at hn;simp only[ZC,ZH] at hn;refine(Pf.Bq _ p).2 ⟨fun t ht q hq=> ?_,fun f hf q hq r hr=> ?_,fun x hx=>ih x hx (s6 x hx) (hn.2 x hx)⟩
  .have h1:=ZH.1 (hn.1.1 t ht) q hq;have:=t.AJ (s4 t ht) 0 q hq
   grind
  .have h1:=ZH.1 (hn.1.2 f hf) q hq;have h2:=ZH.1 h1 r hr;have:=q.1.AJ (LC f (s5 f hf) 0 q hq) 0 r hr
   grind
theorem Zj(a:Int)(q:Pf)(p:Pf):∀v y,(Pf.ph a q v y p).full<=p.full+p.size*q.full:=by
 induction p using Pf.ind with
 |h p ih=>
  intro v y;rw[Pf.IM];by_cases hk:p.kind=1
  .rw[if_pos hk];have h1:=Yb9 q v (a+y);have h2:=Yih p;have h3:q.full<=p.size*q.full:=Nat.le_mul_of_pos_left _ p.size_pos;have h4:∀i,(x8 i).full=2:=fun i=>eC
   grind
  .rw[if_neg hk];have key:∀(l:List Pf),(∀x∈l,x∈p.args)->((Pf.FB a q v y (Ap p.kind) (Ar p.kind) l).map Pf.full).sum<=(l.map Pf.full).sum+(l.map Pf.size).sum*q.full:=by
    intro l;induction l with
    |nil=>intro _;simp[Pf.FB]
    |cons x l ihl=>
     intro hx;have h1:=ihl fun z hz=>hx z ei;have h2:=ih x (hx x dZ) (if l.length=0 then v+Ap p.kind else v) (if l.length=0 then y+Ar p.kind else y);simp only[Pf.FB,ZJ,ZW,aM];omega
   have h1:=key p.args fun _ h=>h;have h2:(p.args.map Pf.size).sum*q.full<=p.size*q.full:=aL _ (by rw[p.size_eq];omega);rw[Pf.Af,p.Af];simp only[Pf.Bk,Pf.AE,Pf.B4,Pf.Ag];omega
def Pv(k0:Int)(k i:Int):List Bool:=if k=k0 then [decide (i<=536870912)] else []
def Pf.Gj(k0:Int)(p:Pf):Bool:=(p.B8 (fun k i _=>Pv k0 k i) 0).all id
theorem Yjr(k0:Int)(p:Pf):p.Gj k0=((if p.kind=k0 then decide (p.index<=536870912) else true)&&p.args.all (Pf.Gj k0)):=by
 unfold Pf.Gj;rw[Pf.BE,Z6];congr 1
 .unfold Pv;grind
 .have key:∀(l:List Pf),(Pf.AO (fun k i _=>Pv k0 k i) 0 (Ar p.kind) l).flatten.all id=l.all (Pf.Gj k0):=by
   intro l;induction l with
   |nil=>rfl
   |cons x l ihl=>
    simp only[Pf.AO,az,Z6,bk];rw[ihl,Zvo (Pv k0) x _ 0]
    rfl
  exact key p.args
theorem UR(p:Pf):p.A5=p.Gj 1:=rfl
def u7(l:List (Int×Int)):Int:=(l.map Prod.snd).sum
theorem JM(l l':List (Int×Int)):u7 (l++l')=u7 l+u7 l':=by unfold u7;simp
theorem Ye5(n k:Int)(l:List (Int×Int)):Di n k l=n+u7 l*(k-1):=by
 unfold Di u7;congr 1;induction l<;>grind
theorem O3(h:∀q∈l,0<=q.2):0<=u7 l:=by
 unfold u7;induction l<;>grind
theorem O1{α:Type}(l:List α)(G:α->Int×Int)(F:α->Nat)(h:∀x,(G x).2<=F x):u7 (l.map G)<=((l.map F).sum:Nat):=by
 unfold u7;induction l<;>grind
theorem YA(a:Int)(p:Pf):∀v,0<=u7 (p.CE (A6 a) (A8 a) v)/\u7 (p.CE (A6 a) (A8 a) v)<=p.full:=by
 induction p using Pf.ind with
 |h p ih=>
  intro v;rw[Pf.BN,JM,JM,p.Af];have h1:0<=u7 (p.terms.map (A6 a v)):=O3 fun q hq=>jv
  have h2:0<=u7 (p.Aa.map (A8 a (v+Au p.kind))):=O3 fun q hq=>jw
  have h3:=O1 p.terms (A6 a v) Tm.full fun t=>by
   have h1:=LW (a+v) (t.vars 0);have h2:=t.Cn 0;have h3:=t.Ah;simp only[A6];omega
  have h4:=O1 p.Aa (A8 a (v+Au p.kind)) Fm.full fun t=>by
   have h1:=vw t (a+(v+Au p.kind));have h3:=t.Ah;simp only[A8];omega
  have key:∀(l:List Pf),(∀x∈l,x∈p.args)->0<=u7 (Pf.AN (A6 a) (A8 a) v (Ap p.kind) l).flatten/\u7 (Pf.AN (A6 a) (A8 a) v (Ap p.kind) l).flatten<=((l.map Pf.full).sum:Nat):=by
   intro l;induction l with
   |nil=>intro _;simp[Pf.AN,u7]
   |cons x l ihl=>
    intro hx;have q1:=ihl fun z hz=>hx z ei;have q2:=ih x (hx x dZ) (if l.length=0 then v+Ap p.kind else v);simp only[Pf.AN,az,ZJ,ZW,aA];rw[JM];omega
  grind
theorem Zum(a:Int)(l:List Pf)(v w:Int)(m:Nat):0<=u7 ((Pf.AN (A6 a) (A8 a) v w l).take m).flatten/\u7 ((Pf.AN (A6 a) (A8 a) v w l).take m).flatten<=((l.map Pf.full).sum:Nat):=by
 induction l generalizing m with
 |nil=>simp[Pf.AN,u7]
 |cons x l ih=>
  cases m with
  |zero=>
   simp only[ZX,Z5];refine⟨by simp[u7],?_⟩;show(0:Int)<=_;omega
  |succ m=>
   have q1:=ih m;have q2:=YA a x (if l.length=0 then v+w else v);simp only[Pf.AN,List.take_succ_cons,az,ZJ,ZW,aA];rw[JM];omega
theorem Yax{s:Tm}{a:Int}(ha:0<=a)(hs:s.shape=true)(p:Pf):p.shape=true->∀v,0<=v->(p.pt a s v).small= !DQ s.size (p.CE (A6 a) (A8 a) v):=by
 have sp:=s.size_pos;have cast:∀(n c:Nat),((n+c*(s.size-1):Nat):Int)=(n:Int)+(c:Int)*((s.size:Int)-1):=fun n c=>by
  grind
 induction p using Pf.ind with
 |h p ih=>
  intro hp v hv;obtain⟨_,s4,s5,s6⟩:=zk hp;have fv:0<=Au p.kind:=iA
  have b1:0<=Ap p.kind:=iB
  have zt:∀t∈p.terms,((t.re (xt (a+v) s) 0).size:Int)=t.size+(A6 a v t).2*((s.size:Int)-1):=fun t ht=>by
   exact ng
  have zf:∀f∈p.Aa,((f.put (a+(v+Au p.kind)) s).size:Int)=f.size+(A8 a (v+Au p.kind) f).2*((s.size:Int)-1):=fun f hf=>by
   exact kK
  have key:∀(l:List Pf),(∀x∈l,x∈p.args)->(Pf.pts a s v (Ap p.kind) l).all Pf.small= !((Pf.AN (A6 a) (A8 a) v (Ap p.kind) l).flatten.any fun q=>decide (q.1+q.2*((s.size:Int)-1)>4096)):=by
   intro l;induction l with
   |nil=>intro _;rfl
   |cons x l ihl=>
    intro hx;simp only[Pf.pts,Pf.AN,bk,az,dS,dw];rw[ihl fun z hz=>hx z ei,ih x (hx x dZ) (s6 x (hx x dZ)) _ dY]
    rfl
  rw[Pf.D6,Pf.Cl,Pf.BN];simp only[Pf.AE,Pf.B4,Pf.Ag];rw[key p.args fun _ h=>h];unfold DQ;rw[dS,dS,dw,dw,cz,cz,List.any_map,List.any_map];congr 2
  .have k2:∀l:List Tm,(∀t∈l,t∈p.terms)->l.all ((fun t:Tm=>decide (t.size<=4096))∘fun t=>t.re (xt (a+v) s) 0)= !l.any ((fun q:Int×Int=>decide (q.1+q.2*((s.size:Int)-1)>4096))∘A6 a v):=by
    intro l;induction l with
    |nil=>simp
    |cons x l ihl=>
     intro hx;simp only[bk,List.any_cons,dw,Function.comp];rw[ihl fun z hz=>hx z ei];congr 1;have:=zt x (hx x dZ);rw[<-decide_not];refine decide_eq_decide.2 ?_;have:(A6 a v x).1=x.size:=rfl;omega
   grind
  .have k2:∀l:List Fm,(∀t∈l,t∈p.Aa)->l.all ((fun t:Fm=>decide (t.size<=4096))∘fun t=>t.put (a+(v+Au p.kind)) s)= !l.any ((fun q:Int×Int=>decide (q.1+q.2*((s.size:Int)-1)>4096))∘A8 a (v+Au p.kind)):=by
    intro l;induction l with
    |nil=>simp
    |cons x l ihl=>
     intro hx;simp only[bk,List.any_cons,dw,Function.comp];rw[ihl fun z hz=>hx z ei];congr 1;have:=zf x (hx x dZ);rw[<-decide_not];refine decide_eq_decide.2 ?_;have:(A8 a (v+Au p.kind) x).1=x.size:=rfl;omega
   grind
theorem Ykl{s:Tm}{a:Int}(ha:0<=a)(hs:s.shape=true)(p:Pf):p.shape=true->∀v,0<=v->
 (p.pt a s v).shape=true/\((p.pt a s v).size:Int)=p.size+GM s.size (p.CE (A6 a) (A8 a) v):=by
 have sp:=s.size_pos;have cast:∀(n c:Nat),((n+c*(s.size-1):Nat):Int)=(n:Int)+(c:Int)*((s.size:Int)-1):=fun n c=>by
  grind
 induction p using Pf.ind with
 |h p ih=>
  intro hp v hv;obtain⟨_,s4,s5,s6⟩:=zk hp;have fv:0<=Au p.kind:=iA
  have b1:0<=Ap p.kind:=iB
  rw[Pf.BN];have zt:∀t∈p.terms,((t.re (xt (a+v) s) 0).size:Int)=t.size+(A6 a v t).2*((s.size:Int)-1):=fun t ht=>by
   exact ng
  have zf:∀f∈p.Aa,((f.put (a+(v+Au p.kind)) s).size:Int)=f.size+(A8 a (v+Au p.kind) f).2*((s.size:Int)-1):=fun f hf=>by
   exact kK
  have key:∀(l:List Pf),(∀x∈l,x∈p.args)->
   (∀x∈Pf.pts a s v (Ap p.kind) l,x.shape=true)/\((((Pf.pts a s v (Ap p.kind) l).map Pf.size).sum:Nat):Int)=((l.map Pf.size).sum:Nat)+GM s.size (Pf.AN (A6 a) (A8 a) v (Ap p.kind) l).flatten:=by
   intro l;induction l with
   |nil=>intro _;simp[Pf.pts,Pf.AN,GM]
   |cons x l ihl=>
    intro hx;obtain⟨a1,a2⟩:=ihl (fun z hz=>hx z ei);obtain⟨c1,c3⟩:=ih x (hx x dZ) (s6 x (hx x dZ)) (if l.length=0 then v+Ap p.kind else v) dY;simp only[Pf.pts,Pf.AN,Z4,ZJ,ZW,az];refine⟨fun z hz=> ?_,?_⟩
    .grind
    .rw[LU,aA,a2,c3];omega
  obtain⟨k1,k2⟩:=key p.args (fun _ h=>h);rw[Pf.D6];refine⟨Sy hp (aI ..) (aI ..) (JS _ _ _ _ _) (fun y hy=> ?_) (fun y hy=> ?_) k1,?_⟩
  .exact mL
  .obtain ⟨f,hf,rfl⟩:=ZQ.1 hy;exact Ml dY hs (s5 f hf)
  .exact kG
end Go.Ab
namespace Go.Ab
set_option linter.all false
theorem RK.FL{c:EC}(KD:RK c)(G:c.sem->Prop)(hset:∀x zs,G x->(∀a∈zs,G a)->G (KD.set x zs))(harg:∀x,G x->∀a∈KD.args x,G a):∀(n:Nat) (d:Dk) (F:c.sem->c.sem) (s:c.sem),(∀x,G x->G (F x))->G s->
 (∀x,G x->G ((KD.walk n d F s).1 x))/\G (KD.walk n d F s).2.1
 |0,d,F,s,hF,hs=>⟨hF,hs⟩
 |n+1,d,F,s,hF,hs=>by
  unfold RK.walk;split
  .grind
  .split
   .split
    .rename_i hk;refine KD.FL G hset harg n _ _ _ (fun x hx=>hF _ (hset _ _ hs fun a ha=> ?_)) (harg _ hs _ (ZA hk))
     grind
    grind
   grind
theorem Yik{q:Int}(h:0<=q/\q<9223372036854775808):(vT q).B7:=Tm.Ep fun p hp=>by
 simp[vT,Tm.vars,Tm.CJ] at hp
 grind
mutual
def Pf.gx:Pf->Prop
 | .mk _ i _ ts fs zs=>i<9223372036854775808/\(∀t∈ts,t.B7)/\(∀f∈fs,f.B7)/\Pf.LG zs
def Pf.LG:List Pf->Prop
 |[]=>True
 |p::l=>Pf.gx p/\Pf.LG l
end
theorem Xy:∀l:List Pf,Pf.LG l↔∀p∈l,p.gx
 |[]=>by simp[Pf.LG]
 |p::l=>by simp[Pf.LG,Xy l]
theorem Pf.Cg(p:Pf):p.gx↔p.index<9223372036854775808/\(∀t∈p.terms,t.B7)/\(∀f∈p.Aa,f.B7)/\∀x∈p.args,x.gx:=by
 cases p;simp only[Pf.gx,Xy];rfl
theorem TV(p:Pf):p.shape=true->p.gx->p.B7:=by
 induction p using Pf.ind with
 |h p ih=>
  intro hs hg;obtain⟨h1,h2,h3,h4⟩:=(Pf.Cg p).1 hg;obtain⟨s1,_,_,s4⟩:=zk hs;obtain⟨_,_,_,_,_,hi,_⟩:=I9 s1;exact(Pf.Dr p).2 ⟨⟨hi,h1⟩,h2,h3,fun x hx=>ih x hx (s4 x hx) (h4 x hx)⟩
theorem Ykf(p:Pf):p.B7->p.hx 9223372036854775808:=by
 induction p using Pf.ind with
 |h p ih=>
  intro h;obtain⟨h1,_,_,h4⟩:=(Pf.Dr p).1 h;exact(Pf.Br _ p).2 ⟨fun _=>h1,fun _ x hx=>ih x hx (h4 x hx)⟩
theorem Yht(p:Pf):p.B7->p.lx 9223372036854775808:=by
 induction p using Pf.ind with
 |h p ih=>
  intro h;obtain⟨h1,_,_,h4⟩:=(Pf.Dr p).1 h;exact(Pf.CA _ p).2 ⟨fun _=>h1,fun x hx=>ih x hx (h4 x hx)⟩
theorem Yb4{p:Pf}(h:p.head=true){nd:Nd}(hn:BZ p.kind=some nd):nd.index=true\/p.index=0:=by
 unfold Pf.head at h
 grind
theorem Ybm(p:Pf):p.shape=true->p.ix 10000->p.hx 10000->p.lx 10000->p.gx:=by
 induction p using Pf.ind with
 |h p ih=>
  intro hs hx hh hl;obtain⟨s1,_,_,s4⟩:=zk hs;obtain⟨x1,x2,x3⟩:=(Pf.Bq _ p).1 hx;obtain⟨h1,h2⟩:=(Pf.Br _ p).1 hh;obtain⟨l1,l2⟩:=(Pf.CA _ p).1 hl;obtain⟨nd,n1,n2,n3,n4,hi,_⟩:=I9 s1;have hi2:=Yb4 s1 n1;refine(Pf.Cg p).2 ⟨?_,fun t ht=>Tm.Ep fun q hq=>ei,fun f hf=>fun b q hq=> ?_,fun x hx=>ih x hx (s4 x hx) (x3 x hx) ?_ (l2 x hx)⟩
  .by_cases k1:p.kind=1
   .omega
   .by_cases k2:p.kind=2
    .omega
    .have e:nd.index=false:=by
      unfold BZ at n1;rw[if_neg dY] at n1
      repeat(split at n1;· grind)
      cases n1
     grind
  .obtain ⟨q',hq',e⟩:=O7 (b':=0) q hq;rw[<-e];exact Tm.Ep fun r hr=>ei
  .by_cases k1:p.kind=1
   .have e:nd.args=0:=by
     rw[k1] at n1;simp[BZ] at n1
     grind
    grind
   grind
theorem Made.gx{n:Nat}{p:Pf}(h:Made n p):p.gx:=Ybm p h.shape h.ix h.hx h.lx
theorem Zti(x:Pf)(zs:List Pf)(hx:x.gx)(ha:∀a∈zs,a.gx):(Pf.mk x.kind x.index x.ty x.terms x.Aa zs).gx:=by
 obtain⟨h1,h2,h3,_⟩:=(Pf.Cg x).1 hx;exact(Pf.Cg _).2 ⟨h1,h2,h3,ha⟩
end Go.Ab
