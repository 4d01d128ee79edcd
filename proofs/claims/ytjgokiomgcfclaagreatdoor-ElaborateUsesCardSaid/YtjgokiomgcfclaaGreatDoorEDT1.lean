/- A part of the proofs of this seat. No conditions. -/
import Derived.Test.YtjgokiomgcfclaaGreatDoorEAT1
import Derived.Test.YtjgokiomgcfclaaGreatDoorED2
namespace Go.Ab
open Go
set_option linter.all false
theorem UC{k:Int}:∀{l:List Int},k∉l->vn k l=none
 |[],_=>rfl
 |x::l,h=>by
  simp only[List.mem_cons,not_or] at h;have h1:¬x=k:=fun e=>h.1 e.symm;simp only[vn,if_neg h1,UC h.2,Option.map_none]
theorem U6{k:Int}:∀{l:List Int},k∈l->∃i,vn k l=some i
 |[],h=>by cases h
 |x::l,h=>by
  by_cases hx:x=k
  ·exact ⟨0,by simp[vn,hx]⟩
  ·obtain ⟨i,hi⟩:=U6 (l:=l) (by rcases List.mem_cons.1 h with h|h;exact absurd h.symm hx;exact h);exact⟨i+1,by simp[vn,hx,hi]⟩
theorem P7(k:Int)(ks:List Int):vm k ks=if k∈ks then ks else ks++[k]:=by
 by_cases h:k∈ks
 ·obtain ⟨i,hi⟩:=U6 h;rw[if_pos h,vm,hi]
 ·rw[if_neg h,vm,UC h]
theorem Zwf{k x:Int}{ks:List Int}:x∈vm k ks↔x∈ks\/x=k:=by
 rw[P7];split
 ·rename_i h;constructor
  ·exact Or.inl
  ·rintro (h1|rfl)
   ·exact h1
   ·exact h
 ·simp
theorem Zoz{k:Int}{ks:List Int}(h:ks.Nodup):(vm k ks).Nodup:=by
 rw[P7];split
 ·exact h
 ·rename_i h1;exact List.nodup_append.2 ⟨h,by simp,fun a ha b hb e=>by simp at hb;subst hb;subst e;exact h1 ha⟩
theorem Qy(k:Int)(ks:List Int)(b:Bool):DX k ks (List.replicate ks.length b) b=List.replicate (vm k ks).length b:=by
 unfold DX vm;split
 ·rename_i i hi;apply List.ext_getElem?;intro j;rw[List.getElem?_set];split
  ·rename_i e;subst e;have:=(x3 hi).2;simp[List.getElem?_replicate,this]
  ·rfl
 ·rw[List.length_append,<-List.replicate_append_replicate];rfl
def BL(acc l:List Int):List Int:=l.foldl (fun ks k=>vm k ks) acc
theorem NP(acc l l':List Int):BL acc (l++l')=BL (BL acc l) l':=List.foldl_append
theorem MV(acc:List Int):BL acc []=acc:=rfl
theorem Wd(acc:List Int)(k:Int):BL acc [k]=vm k acc:=rfl
theorem Nu{x:Int}:∀{l acc:List Int},x∈BL acc l↔x∈acc\/x∈l
 |[],acc=>by simp[BL]
 |k::l,acc=>by
  show x∈BL (vm k acc) l↔_;rw[Nu,Zwf,List.mem_cons,or_assoc]
theorem Jp:∀{l acc:List Int},acc.Nodup->(BL acc l).Nodup
 |[],acc,h=>h
 |k::l,acc,h=>Jp (l:=l) (Zoz h)
theorem Oc:∀(l acc:List Int),(BL acc l).length<=acc.length+l.length
 |[],acc=>by simp[BL]
 |k::l,acc=>by
  have h1:=Oc l (vm k acc);have h2:(vm k acc).length<=acc.length+1:=by rw[P7];split<;>simp
  show(BL (vm k acc) l).length<=_;rw[List.length_cons];omega
def CF(l:List (Int×Int)):List Int:=l.filterMap fun p=>if p.2<=p.1 then some (p.1-p.2) else none
theorem PG(l l':List (Int×Int)):CF (l++l')=CF l++CF l':=List.filterMap_append
theorem UK:CF []=[]:=rfl
theorem Wg(i b:Int):CF [(i,b)]=if b<=i then [i-b] else []:=by
 by_cases h:b<=i
 ·simp[CF,h]
 ·simp[CF,h]
theorem Ydj(l:List (Int×Int)):(CF l).length<=l.length:=List.length_filterMap_le _ _
theorem Yca{x:Int}{l:List (Int×Int)}:x∈CF l↔0<=x/\∃p∈l,p.1-p.2=x:=by
 simp only[CF,List.mem_filterMap];constructor
 ·rintro ⟨p,hp,h⟩;split at h
  ·cases h;exact⟨by omega,p,hp,rfl⟩
  ·cases h
 ·rintro ⟨h0,p,hp,h⟩;exact⟨p,hp,by rw[if_pos (by omega),h]⟩
theorem DZ{x:Int}:∀{l:List (Int×Int)},(∃p∈l,p.1-p.2=x)↔cnt x l≠0
 |[]=>by simp[cnt]
 |p::l=>by
  have ih:=DZ (x:=x) (l:=l);rw[show p::l=[p]++l from rfl,xg,ua];constructor
  ·rintro ⟨q,hq,h⟩;rcases List.mem_append.1 hq with h1|h1
   ·simp at h1;subst h1;rw[if_pos h];omega
   ·have:=ih.1 ⟨q,h1,h⟩;omega
  ·intro h;by_cases h1:p.1-p.2=x
   ·exact ⟨p,by simp,h1⟩
   ·rw[if_neg h1] at h;obtain⟨q,hq,h2⟩:=ih.2 (by omega);exact⟨q,by simp[hq],h2⟩
def HJ(t:Tm):List Int:=BL [] (CF (t.vars 0))
def JI(t:Tm):List Int:=y0 (HJ t)
theorem SQ(t:Tm):(HJ t).Nodup:=Jp List.nodup_nil
theorem Zxt{t:Tm}{x:Int}:x∈HJ t↔0<=x/\cnt x (t.vars 0)≠0:=by rw[HJ,Nu,Yca,DZ];simp
theorem Zzr(t:Tm):(HJ t).length<=t.size:=by
 have h1:=Oc (CF (t.vars 0)) [];have h2:=Ydj (t.vars 0);have h3:=t.CE 0;simp only[HJ,List.length_nil] at*;omega
theorem wv(l:List Int):(y0 l).Perm l:=List.mergeSort_perm l _
theorem Ni(l:List Int):(y0 l).Pairwise (·<=·):=by
 have h:=List.pairwise_mergeSort (le:=fun x y:Int=>decide (x<=y)) (fun a b c h1 h2=>by simp only[decide_eq_true_eq] at*;omega) (fun a b=>by simp only[Bool.or_eq_true,decide_eq_true_eq];omega) l;exact h.imp fun h=>by simpa using h
theorem SZ{l l':List Int}(hp:l.Perm l')(h:l.Pairwise (·<=·))(h':l'.Pairwise (·<=·)):l=l':=
 hp.eq_of_pairwise (le:=(·<=·)) (fun a b _ _ h1 h2=>by omega) h h'
theorem Zjv{l l':List Int}(hp:l.Perm l'):y0 l=y0 l':=
 SZ ((wv l).trans (hp.trans (wv l').symm)) (Ni l) (Ni l')
theorem FB{t:Tm}{x:Int}:x∈JI t↔0<=x/\cnt x (t.vars 0)≠0:=by rw[JI,(wv _).mem_iff,Zxt]
theorem Zo8(t:Tm):(JI t).Nodup:=(wv _).nodup_iff.2 (SQ t)
def shI(fr by_ v:Int):Int:=if v>=fr then v+by_ else v
def CH(l:List Int)(n:Int)(i:Nat):List Int:=l.take i++(l.getD i n::l.drop i)
def I5(l:List Int)(n:Int)(i:Nat):List Int:=l.take i++n::l.drop i
theorem Yag(l:List Int)(n:Int):CH l n l.length=l++[n]:=by simp[CH]
theorem Zzn{l:List Int}{n:Int}{i:Nat}(h:i<=l.length):(CH l n i).length=l.length+1:=by simp[CH];omega
theorem Yby{l:List Int}{n:Int}{i:Nat}(h:i<l.length)(h':i<(CH l n (i+1)).length):(CH l n (i+1))[i]=l[i]:=by
 simp only[CH];rw[List.getElem_append_left (by simp;omega),List.getElem_take]
theorem Zv1{l:List Int}{n:Int}{i:Nat}(h:i<l.length):(CH l n (i+1)).set (i+1) l[i]=CH l n i:=by
 have h1:(l.take (i+1)).length=i+1:=by simp;omega
 simp only[CH];have e:l.take (i+1)=l.take i++[l[i]]:=by rw[List.take_succ,List.getElem?_eq_getElem h];rfl
 rw[List.set_append_right (h:=by omega),h1,Nat.sub_self,List.set_cons_zero,e,List.append_assoc,List.singleton_append,<-List.drop_eq_getElem_cons h];congr 2;rw[List.getD_eq_getElem?_getD,List.getElem?_eq_getElem h];rfl
theorem Zvl{l:List Int}{n:Int}{i:Nat}(h:i<=l.length):(CH l n i).set i n=I5 l n i:=by
 have h1:(l.take i).length=i:=by simp;omega
 simp only[CH,I5];rw[List.set_append_right (h:=by omega),h1,Nat.sub_self,List.set_cons_zero]
theorem Zvf(l:List Int)(n:Int)(i:Nat):(I5 l n i).Perm (n::l):=by
 have h1:(I5 l n i).Perm (n::(l.take i++l.drop i)):=List.perm_middle
 rwa [List.take_append_drop] at h1
theorem Znk{l:List Int}{n:Int}{i:Nat}(hs:l.Pairwise (·<=·))(h:∀x∈l.drop i,n<x)(h':∀(hi:0<i) (hl:i-1<l.length),l[i-1]<=n)(hil:i<=l.length):(I5 l n i).Pairwise (·<=·):=by
 have hs':=hs;rw[<-List.take_append_drop i l,List.pairwise_append] at hs;obtain⟨h1,h2,h3⟩:=hs;have ht:∀x∈l.take i,x<=n:=fun x hx=>by
  obtain⟨j,hj,hx2⟩:=List.mem_iff_getElem.1 hx;have hj2:j<i:=by simp at hj;omega
  rw[List.getElem_take] at hx2;have h4:=h' (by omega) (by omega);rcases Nat.lt_or_ge j (i-1) with h5|h5
  ·have:=List.pairwise_iff_getElem.1 hs' j (i-1) (by omega) (by omega) h5;omega
  ·have h6:j=i-1:=by omega
   subst h6;omega
 rw[I5,List.pairwise_append];refine⟨h1,List.pairwise_cons.2 ⟨fun x hx=>by have:=h x hx;omega,h2⟩,fun x hx y hy=> ?_⟩;rcases List.mem_cons.1 hy with rfl|hy
 ·exact ht x hx
 ·exact h3 x hx y hy
theorem Zvz{d:List Int}{n:Int}{i:Nat}(h:∀x∈(y0 d).drop i,n<x)(h':∀(hi:0<i) (hl:i-1<(y0 d).length),(y0 d)[i-1]<=n)(hil:i<=(y0 d).length):I5 (y0 d) n i=y0 (d++[n]):=by
 refine SZ ?_ (Znk (Ni d) h h' hil) (Ni _);refine((Zvf _ _ _).trans ((wv d).cons n)).trans (?_:(n::d).Perm _);exact((List.perm_append_comm (l₁:=[n]) (l₂:=d)).trans (wv _).symm)
theorem R4(d:List Int):(y0 d).length=d.length:=(wv d).length_eq
theorem MK:y0 []=[]:=List.mergeSort_nil
theorem VB:∀{l ks:List Int},l.Nodup->(∀x∈l,x∈ks)->l.length<=ks.length
 |[],_,_,_=>Nat.zero_le _
 |x::l,ks,hn,h=>by
  obtain⟨h1,h2⟩:=List.nodup_cons.1 hn;have h3:=h x (by simp);have h4:=VB (l:=l) (ks:=ks.erase x) h2 fun y hy=>(List.mem_erase_of_ne (fun e:y=x=>h1 (by rw[<-e];exact hy))).2 (h y (by simp[hy]));rw[List.length_erase_of_mem h3] at h4;have:0<ks.length:=List.length_pos_of_mem h3;simp only[List.length_cons];omega
theorem Zzh{t:Tm}(hC:∀p∈t.vars 0,p.1<=1000000):t.near=true:=List.all_eq_true.2 fun p hp=>by
 have:=hC p hp;simp only[decide_eq_true_eq];omega
def Yhq(t:Tm)(a:Int):Int:=if t.err≠0 then t.err else if ¬(0<=a/\a<=4096) then 1 else if 0<cnt a (t.vars 0) then 6 else 0
def S4(l:List Int):List Int:=(l.filter fun v=>decide (v≠0)).map (·-1)
def Te(a b:List Int):List Int:=BL (BL [] (S4 a)) (if 0∈a then b else [])
def hasM(a:List Int)(m:Nat):Bool:=decide (0∈a.take m)
def wM(a:List Int)(m:Nat):List Int:=BL [] (S4 (a.take m))
def wN(a b:List Int)(h:Bool)(m:Nat):List Int:=BL (wM a a.length) (if h=true then b.take m else [])
def Yir(f:Fm):List Int:=BL [] (CF (Fi (f.AU 0)))
def P9(f:Fm):List Int:=y0 (Yir f)
def Fm.A4(f:Fm)(fr by_:Int):Fm:=f.re (fun b t=>t.re (zn (fr+b) by_) 0) 0
def Nk(f:Fm)(fr by_:Int):Int:=if f.err≠0 then f.err else if ¬(0<=fr/\fr<=4096)\/¬(0<=by_/\by_<=4096)\/f.near=false then 1 else 0
def Ygg(f:Fm)(a:Int):Int:=if f.err≠0 then f.err else if ¬(0<=a/\a<=4096) then 1 else if 0<wc a (f.AU 0) then 6 else 0
def KR:Fm:=AM (.mk 4 0 (.mk 0 []) []) (.mk 5 0 (.mk 0 []) [.mk 4 0 (.mk 0 []) []])
def Ff(f:Fm):Fm:= .mk 3 (.mk 0 []) [] [f,KR]
def Nt:Fm:=AM (.mk 1 0 (.mk 0 []) []) (.mk 4 0 (.mk 0 []) [])
def orF(a b:Fm):Fm:= .mk 5 Aa [] [.mk 2 (.mk 0 []) [] [.mk 3 (.mk 0 []) [] [Nt,a],.mk 3 (.mk 0 []) [] [.mk 3 (.mk 0 []) [] [Nt,KR],b]]]
theorem Ny{f:Fm}(h:f.shape=true):
 (f.kind=1/\f.args=[])\/((f.kind=2\/f.kind=3)/\f.terms=[])\/((f.kind=4\/f.kind=5\/f.kind=6\/f.kind=7)/\f.terms=[]/\f.ty.err=0):=by
 rw[Fm.Ag,Bool.and_eq_true,Bool.and_eq_true] at h;have h1:=h.1.1;unfold Fm.head at h1;by_cases h2:f.kind=1
 ·rw[if_pos h2] at h1;simp only[Bool.and_eq_true,beq_iff_eq,List.length_eq_zero_iff] at h1;exact .inl ⟨h2,h1.2⟩
 rw[if_neg h2] at h1;by_cases h3:f.kind=2\/f.kind=3
 ·rw[if_pos h3] at h1;simp only[Bool.and_eq_true,beq_iff_eq,List.length_eq_zero_iff] at h1;exact .inr (.inl ⟨h3,h1.1.2⟩)
 rw[if_neg h3] at h1;by_cases h4:f.kind=4\/f.kind=5\/f.kind=6\/f.kind=7
 ·rw[if_pos h4] at h1;simp only[Bool.and_eq_true,beq_iff_eq,List.length_eq_zero_iff] at h1;refine .inr (.inr ⟨h4,h1.1.2,(Ty.Ad f.ty).2 ?_⟩);have:=h1.1.1;simp only[Ty.ok,Bool.and_eq_true,decide_eq_true_eq] at this;exact this
 rw[if_neg h4] at h1;cases h1
theorem M9{α:Type}{f g:α->Nat}{l:List α}(h:∀x∈l,f x=g x):(l.map f).sum=(l.map g).sum:=by rw[List.map_congr_left h]
theorem Zyp{G:Int->Tm->Tm}(hG:∀b t,t.shape=true->(G b t).shape=true/\(G b t).size=t.size/\(G b t).full=t.full)(f:Fm):∀b,f.shape=true->(f.re G b).shape=true/\(f.re G b).size=f.size/\(f.re G b).full=f.full:=by
 induction f using Fm.ind with
 |h f ih=>
  intro b hf;have h0:=hf;rw[Fm.Ag,Bool.and_eq_true,Bool.and_eq_true] at h0;obtain⟨⟨h1,h2⟩,h3⟩:=h0;rw[Fm.Bn];refine⟨?_,?_,?_⟩
  ·rw[Fm.Ag,Bool.and_eq_true,Bool.and_eq_true];refine⟨⟨?_,?_⟩,?_⟩
   ·simp only[Fm.head,Fm.Am,Fm.AD,Fm.Ar,Fm.Ae,List.length_map] at h1 ⊢;exact h1
   ·rw[Fm.Ar,List.all_eq_true];intro y hy;obtain⟨x,hx,rfl⟩:=List.mem_map.1 hy;exact(hG b x (List.all_eq_true.1 h2 x hx)).1
   ·rw[Fm.Ae,List.all_eq_true];intro y hy;obtain⟨x,hx,rfl⟩:=List.mem_map.1 hy;exact(ih x hx _ (List.all_eq_true.1 h3 x hx)).1
  ·rw[Fm.size_eq,f.size_eq];simp only[Fm.Ar,Fm.Ae,List.map_map];rw[M9 (f:=Tm.size∘G b) (g:=Tm.size) fun x hx=>(hG b x (List.all_eq_true.1 h2 x hx)).2.1,M9 (f:=Fm.size∘Fm.re G (AB f.kind b)) (g:=Fm.size) fun x hx=>(ih x hx _ (List.all_eq_true.1 h3 x hx)).2.1]
  ·rw[Fm.Af,f.Af];simp only[Fm.Ar,Fm.Ae,Fm.AD,List.map_map];rw[M9 (f:=Tm.full∘G b) (g:=Tm.full) fun x hx=>(hG b x (List.all_eq_true.1 h2 x hx)).2.2,M9 (f:=Fm.full∘Fm.re G (AB f.kind b)) (g:=Fm.full) fun x hx=>(ih x hx _ (List.all_eq_true.1 h3 x hx)).2.2]
theorem Lw{f:Fm}(hf:f.shape=true){fr by_:Int}(hb:0<=by_):(f.A4 fr by_).shape=true/\(f.A4 fr by_).size=f.size/\(f.A4 fr by_).full=f.full:=
 Zyp (fun b t ht=>⟨Lg 0 ht hb,MH _ _ t 0 ht,wj _ _ t 0 ht⟩) f 0 hf
theorem Zzi(g m:List Ty)(fr:Int)(f:Fm):∀(h:List Ty) (b:Int),(h.length:Int)=fr+b->f.shape=true->f.A9 (g++h)->
 (f.re (fun b t=>t.re (zn (fr+b) m.length) 0) b).A9 (g++m++h):=by
 induction f using Fm.ind with
 |h f ih=>
  intro h b hb hf hok;rw[Fm.Bg] at hok;rw[Fm.Bn,Fm.Bg];simp only[Fm.Ar,Fm.Ae];refine⟨fun y hy=> ?_,fun y hy=> ?_⟩
  ·obtain ⟨x,hx,rfl⟩:=List.mem_map.1 hy;rw[O9 x g m h (fr+b) 0 (zw hf hx) (by omega)];exact hok.1 x hx
  ·obtain ⟨x,hx,rfl⟩:=List.mem_map.1 hy;have h1:=hok.2 x hx;by_cases hq:y7 f.kind=true
   ·rw[HC hq] at h1;rw[show ∀ts fs,Cx (g++m++h) (Fm.mk f.kind f.ty ts fs)=g++m++h++[f.ty] from fun ts fs=>HC (f:=Fm.mk f.kind f.ty ts fs) hq];have e:AB f.kind b=b+1:=if_pos hq;rw[e,List.append_assoc (g++m)];rw[List.append_assoc] at h1;exact ih x hx (h++[f.ty]) (b+1) (by simp;omega) (zl hf hx) h1
   ·rw[Ht hq] at h1;rw[show ∀ts fs,Cx (g++m++h) (Fm.mk f.kind f.ty ts fs)=g++m++h from fun ts fs=>Ht (f:=Fm.mk f.kind f.ty ts fs) hq];have e:AB f.kind b=b:=if_neg hq;rw[e];exact ih x hx h b hb (zl hf hx) h1
theorem Ue{f:Fm}{C:Int}(hC:C<=1000000)(h:∀p∈f.AU 0,∀q∈p.1.vars 0,0<=q.1/\q.1<=C):f.near=true:=
 List.all_eq_true.2 fun p hp=>Zzh fun q hq=>by have:=h p hp q hq;omega
theorem Lx{f:Fm}(he:f.err=0){fr by_:Int}(hb:0<=by_):(f.A4 fr by_).err=0:=by
 have h1:=(Fm.Ad f).1 he;obtain⟨h2,h3,_⟩:=Lw h1.1 (fr:=fr) hb;exact(Fm.Ad _).2 ⟨h2,by rw[h3];exact h1.2⟩
theorem Ybw{f:Fm}(h:C4 2 f):f.err=0:=(Fm.Ad f).2 ⟨h.1,by have:=h.2.1;omega⟩
def exF:Fm:= .mk 4 Aa [] [.mk 1 (.mk 0 []) [vT 0,vT 1] []]
end Go.Ab
namespace Go.Ab
set_option linter.all false
theorem Of{k i:Int}{th T:Ty}{xs:List Tm}{g:List Ty}(k1:k≠1)(k2:k≠2)(h:(Tm.mk k i th xs).inf g=(T,0)):
 (∀x∈xs,x.inf g=((x.inf g).1,0))/\yk k th (xs.map fun x=>(x.inf g).1)=(T,0):=by
 obtain⟨h1,h2⟩:=vp (t:=Tm.mk k i th xs) k1 k2 h;exact⟨fun x hx=>by rw[<-h1 x hx],h2⟩
theorem Tj{i:Int}{th T:Ty}{x f n:Tm}{g:List Ty}(h:(Tm.mk 6 i th [x,f,n]).inf g=(T,0)):
 T=th/\x.inf g=(th,0)/\f.inf g=(yo Aa (yo th th),0)/\n.inf g=(Aa,0):=by
 obtain⟨h1,h2⟩:=Of (by decide) (by decide) h;have hx:=h1 x (by simp);have hf:=h1 f (by simp);have hn:=h1 n (by simp);simp only[yk,List.map_cons,List.map_nil,KX,Og,Sx,reduceIte,Int.reduceEq] at h2;by_cases hc:¬(x.inf g).1=th\/¬(f.inf g).1=yo Aa (yo th th)\/¬(n.inf g).1=Aa
 ·rw[if_pos hc] at h2;cases h2
 ·rw[if_neg hc] at h2;have e:=congrArg Prod.fst h2;simp only[not_or,Decidable.not_not] at hc;exact⟨e.symm,by rw[hx,hc.1],by rw[hf,hc.2.1],by rw[hn,hc.2.2]⟩
theorem S3{i:Int}{th T:Ty}{x f n:Tm}{g:List Ty}(h:(Tm.mk 9 i th [x,f,n]).inf g=(T,0)):
 T=th/\x.inf g=(th,0)/\f.inf g=(yo Aa (yo Ah (yo th th)),0)/\n.inf g=(Ah,0):=by
 obtain⟨h1,h2⟩:=Of (by decide) (by decide) h;have hx:=h1 x (by simp);have hf:=h1 f (by simp);have hn:=h1 n (by simp);simp only[yk,List.map_cons,List.map_nil,KX,Og,Sx,reduceIte,Int.reduceEq] at h2;by_cases hc:¬(x.inf g).1=th\/¬(f.inf g).1=yo Aa (yo Ah (yo th th))\/¬(n.inf g).1=Ah
 ·rw[if_pos hc] at h2;cases h2
 ·rw[if_neg hc] at h2;have e:=congrArg Prod.fst h2;simp only[not_or,Decidable.not_not] at hc;exact⟨e.symm,by rw[hx,hc.1],by rw[hf,hc.2.1],by rw[hn,hc.2.2]⟩
theorem Yal{i:Int}{th T:Ty}{x:Tm}{g:List Ty}(h:(Tm.mk 5 i th [x]).inf g=(T,0)):T=Aa/\x.inf g=(Aa,0):=by
 obtain⟨h1,h2⟩:=Of (by decide) (by decide) h;have hx:=h1 x (by simp);simp only[yk,List.map_cons,List.map_nil,KX,reduceIte,Int.reduceEq] at h2;by_cases hc:¬(x.inf g).1=Aa
 ·rw[if_pos hc] at h2;cases h2
 ·rw[if_neg hc] at h2;have e:=congrArg Prod.fst h2;exact⟨e.symm,by rw[hx,Decidable.not_not.1 hc]⟩
theorem Zyh{i:Int}{th T:Ty}{x y:Tm}{g:List Ty}(h:(Tm.mk 8 i th [x,y]).inf g=(T,0)):T=Ah/\x.inf g=(Aa,0)/\y.inf g=(Ah,0):=by
 obtain⟨h1,h2⟩:=Of (by decide) (by decide) h;have hx:=h1 x (by simp);have hy:=h1 y (by simp);simp only[yk,List.map_cons,List.map_nil,KX,Og,reduceIte,Int.reduceEq] at h2;by_cases hc:¬(x.inf g).1=Aa\/¬(y.inf g).1=Ah
 ·rw[if_pos hc] at h2;cases h2
 ·rw[if_neg hc] at h2;have e:=congrArg Prod.fst h2;simp only[not_or,Decidable.not_not] at hc;exact⟨e.symm,by rw[hx,hc.1],by rw[hy,hc.2]⟩
theorem J3{f x:Tm}{a b:Ty}{g:List Ty}(hf:f.inf g=(yo a b,0))(hx:x.inf g=(a,0)):(AP f x).inf g=(b,0):=Ig hf hx
theorem Zun{th:Ty}{x f n:Tm}{g:List Ty}(hx:x.inf g=(th,0))(hf:f.inf g=(yo Aa (yo th th),0))(hn:n.inf g=(Aa,0))(i:Int):(Tm.mk 6 i th [x,f,n]).inf g=(th,0):=by
 rw[Tm.AJ];simp[Tm.Ay,hx,hf,hn,yk]
theorem Zr1{th:Ty}{x f n:Tm}{g:List Ty}(hx:x.inf g=(th,0))(hf:f.inf g=(yo Aa (yo Ah (yo th th)),0))(hn:n.inf g=(Ah,0))(i:Int):(Tm.mk 9 i th [x,f,n]).inf g=(th,0):=by
 rw[Tm.AJ];simp[Tm.Ay,hx,hf,hn,yk]
theorem Yfm{t u:Tm}(hv:RV t u){g:List Ty}{T:Ty}(hs:t.shape=true)(h:t.inf g=(T,0)):u.inf g=(T,0):=by
 cases hv with
 |beta i th j s b a=>
  have hb:b.shape=true:=zg (zg hs (.mk 2 j s [b]) (by simp)) b (by simp);have ha:a.shape=true:=zg hs a (by simp);obtain⟨h1,h2⟩:=vp (by simp) (by simp) h;have hf:(Tm.mk 2 j s [b]).inf g=(((Tm.mk 2 j s [b]).inf g).1,0):=by rw[<-h1 (.mk 2 j s [b]) (by simp)]
  obtain⟨h3,h4⟩:=N5 hf;have ha0:=h1 a (by simp);simp only[Tm.Am,Tm.AD,Tm.Ae,List.map_cons,List.map_nil,h4] at h2;have h5:s=(a.inf g).1/\(b.inf (g++[s])).1=T:=by
   simp only[yk,Bj,List.getD_cons_zero,List.getD_cons_succ,U8,Wt] at h2;by_cases h6:s=(a.inf g).1
   ·refine ⟨h6,?_⟩;simp[h6] at h2;rw[h6];exact h2
   ·simp[h6] at h2
  have hσ:a.inf g=(s,0):=by rw[h5.1,<-ha0]
  have hp:=RC b a g [] s 0 0 hb ha rfl hσ;rw[List.append_nil,List.append_nil] at hp;rw[hp,<-h5.2,<-h3]
 |rz i th x f j s=>obtain⟨rfl,h1,_⟩:=Tj h;exact h1
 |fz i th x f j s=>obtain⟨rfl,h1,_⟩:=S3 h;exact h1
 |rs i th x f j s n=>
  obtain⟨rfl,h1,h2,h3⟩:=Tj h;obtain⟨_,h4⟩:=Yal h3;exact J3 (J3 h2 h4) (Zun h1 h2 h4 0)
 |fs i th x f j s n l=>
  obtain⟨rfl,h1,h2,h3⟩:=S3 h;obtain⟨_,h4,h5⟩:=Zyh h3;exact J3 (J3 (J3 h2 h4) h5) (Zr1 h1 h2 h5 0)
 |p1 i th j s _ y=>
  obtain⟨h1,h2⟩:=vp (by simp) (by simp) h;have hf:(Tm.mk 10 j s [u,y]).inf g=(((Tm.mk 10 j s [u,y]).inf g).1,0):=by rw[<-h1 (.mk 10 j s [u,y]) (by simp)]
  obtain⟨h3,h4,h5⟩:=Q1 hf;simp only[Tm.Am,Tm.AD,Tm.Ae,List.map_cons,List.map_nil,h5] at h2;simp[yk,Bj] at h2;rw[<-h2,<-h3]
 |p2 i th j s y _=>
  obtain⟨h1,h2⟩:=vp (by simp) (by simp) h;have hf:(Tm.mk 10 j s [y,u]).inf g=(((Tm.mk 10 j s [y,u]).inf g).1,0):=by rw[<-h1 (.mk 10 j s [y,u]) (by simp)]
  obtain⟨h3,h4,h5⟩:=Q1 hf;simp only[Tm.Am,Tm.AD,Tm.Ae,List.map_cons,List.map_nil,h5] at h2;simp[yk,Bj] at h2;rw[<-h2,<-h4]
theorem Yfk(room:Int)(t:Tm):∀(g:List Ty) (T:Ty) (u:Tm),t.shape=true->t.inf g=(T,0)->Cy room t=some (u,true)->u.inf g=(T,0):=by
 induction t using Tm.ind with
 |h t ih=>
  intro g T u hs h hn;rw[FR] at hn;by_cases hr:v6 t=true
  ·rw[if_pos hr] at hn;split at hn
   ·cases hn
   ·cases hn;exact Yfm (Jw hs hr) hs h
  ·rw[if_neg hr,Option.map_eq_some_iff] at hn;obtain⟨q,h1,h2⟩:=hn;obtain⟨m,hm,v,h3,h4⟩:=N7 _ _ _ h1;have e2:=congrArg Prod.snd h2;have e1:=congrArg Prod.fst h2;simp only at e1 e2;rw[e2] at h3;rw[<-e1,h4];have hargs:=zg hs;have hx:=hargs _ (List.getElem_mem hm);have hmem:=List.getElem_mem hm;by_cases k1:t.kind=1
   ·exact absurd (uh hs k1) (fun hh=>by rw[hh] at hm;simp at hm)
   ·have key:∀g' T',(t.args[m]).inf g'=(T',0)->v.inf g'=(T',0):=fun g' T' hi=>ih _ hmem g' T' v hx hi h3;by_cases k2:t.kind=2
    ·obtain ⟨i,th,b,rfl,hb⟩:=GA hs k2 rfl;obtain⟨h5,h6⟩:=N5 h;have hm0:m=0:=by simp at hm;omega
     subst hm0;simp only[Tm.Ae,List.getElem_cons_zero] at*;have q1:=key (g++[th]) (b.inf (g++[th])).1 (by rw[<-h5]);have:v.inf (g++[th])=b.inf (g++[th]):=by rw[q1,<-h5]
     rw[<-h];simp only[List.set_cons_zero,Tm.Am,Tm.AD,Tm.AV];exact Sb this
    ·obtain ⟨h5,h6⟩:=vp k1 k2 h;have h7:=h5 _ hmem;have q1:=key g (t.args[m].inf g).1 (by rw[<-h7]);have hi:v.inf g=(t.args[m]).inf g:=by rw[q1,<-h7]
     rw[<-h,Tm.AJ g (Tm.mk t.kind t.index t.ty (t.args.set m v)),if_neg (show ¬(Tm.mk t.kind t.index t.ty (t.args.set m v)).kind=1 from k1),if_neg (show ¬(Tm.mk t.kind t.index t.ty (t.args.set m v)).kind=2 from k2),t.AJ,if_neg k1,if_neg k2];show(if(Tm.Ay g (t.args.set m v)).2≠0 then(AY,(Tm.Ay g (t.args.set m v)).2) else yk t.kind t.ty (Tm.Ay g (t.args.set m v)).1)=_;rw[MR g v t.args m hm hi]
theorem UR:∀(k:Nat) (t:Tm) (n:Nat) (g:List Ty) (T:Ty),t.err=0->t.inf g=(T,0)->(DH k t n).2.2=0->(DH k t n).1.inf g=(T,0)
 |0,t,n,g,T,he,hi,h=>by
  simp only[DH] at h ⊢;cases hx:Cy (4096-t.size) t with
  |none=>exact hi
  |some p=>rw[hx] at h;cases h
 |k+1,t,n,g,T,he,hi,h=>by
  simp only[DH] at h ⊢;cases hx:Cy (4096-t.size) t with
  |none=>exact hi
  |some p=>
   obtain⟨x,f⟩:=p;rw[hx] at h;cases f with
   |false=>cases h
   |true=>exact UR k x (n+1) g T (PR he hx) (Yfk _ t g T x (y5 he).1 hi hx) h
theorem Zyv{t:Tm}{steps:Int}(h:(xw t steps).2.2=0):t.err=0/\(xw t steps).1.err=0/\FT t (xw t steps).1/\nf (xw t steps).1/\∀g T,t.inf g=(T,0)->(xw t steps).1.inf g=(T,0):=by
 unfold xw at h ⊢;by_cases h1:t.err≠0
 ·rw[if_pos h1] at h;exact absurd h h1
 ·rw[if_neg h1] at h ⊢;have h1':t.err=0:=Decidable.not_not.1 h1;by_cases h2:¬(0<=steps/\steps<=65536)\/t.near=false
  ·rw[if_pos h2] at h;cases h
  ·rw[if_neg h2] at h ⊢;obtain⟨a,b,c⟩:=OQ _ t 0 h1' h;exact⟨h1',c,a,b,fun g T hi=>UR _ t 0 g T h1' hi h⟩
end Go.Ab
namespace Go.Ab
open Go
set_option linter.all false
structure Ck where
 lems:List Fm
 tys:List Ty
 hyps:List Fm
def Ck.view(c:Ck):List V:=[.s .fm c.lems,.s .ty c.tys,.s .fm c.hyps]
def Ck.below(c:Ck)(l:List Ty):Ck:=⟨c.lems,c.tys++l,c.hyps.map fun f=>f.A4 0 l.length⟩
def Ck.Au(c:Ck)(f:Fm):Ck:=⟨c.lems,c.tys,c.hyps++[f]⟩
def Ck.room(c:Ck)(v h:Nat):Int:=if c.tys.length+v>16\/c.hyps.length+h>16 then 3 else 0
def v7(a b:List Int):List Int:=y0 (BL (BL [] a) b)
def Ds(l:List Int)(n:Int):List Int:=(l.filter fun x=>decide (x>=n)).map (·-n)
def Jy:List Int->Bool
 |[]=>false
 |x::_=>x==0
def Ex(t:Tm):List Int:=if t.err=0 then JI t else []
def CP(f:Fm)(t:Tm):Fm×Int:=(if ye f 0 t=0 then f.put 0 t else Az,ye f 0 t)
def Ey(c:Ck)(t:Tm)(k:Int):Int:=if(y3 c.tys t).2≠0 then(y3 c.tys t).2 else if(y3 c.tys t).1.kind≠k then 7 else 0
def C2:List Tm->List Tm×Int
 |[]=>([],0)
 |t::l=>if(xw t 1000).2.2≠0 then([],(xw t 1000).2.2) else if(C2 l).2≠0 then([],(C2 l).2) else((xw t 1000).1::(C2 l).1,0)
mutual
def x7:Fm->Fm×Int
 | .mk k h ts zs=>if(C2 ts).2≠0 then(Az,(C2 ts).2) else if(y8 zs).2≠0 then(Az,(y8 zs).2) else(.mk k h (C2 ts).1 (y8 zs).1,0)
def y8:List Fm->List Fm×Int
 |[]=>([],0)
 |f::l=>if(x7 f).2≠0 then([],(x7 f).2) else if(y8 l).2≠0 then([],(y8 l).2) else((x7 f).1::(y8 l).1,0)
end
mutual
def DJ:Fm->Bool
 | .mk k _ _ zs=>if k=1 then false else if k=2 then(JW zs).getD 0 false||(JW zs).getD 1 false else if k=5 then true else(JW zs).getLastD false
def JW:List Fm->List Bool
 |[]=>[]
 |f::l=>DJ f::JW l
end
abbrev B4:=Fm×List Int×Int
abbrev Rs:=Ck->B4
def yg(e:Int):B4:=(Az,[],e)
def y6(r:Rs)(c:Ck)(f:Fm)(t:Tm):List Int×Int:=
 if(r c).2.2≠0 then([],(r c).2.2) else if(CP f t).2≠0 then([],(CP f t).2) else((r c).2.1,LJ (CP f t).1 (r c).1)
def Ju(r:B4):B4:=if r.2.2≠0 then yg r.2.2 else if r.1.err≠0 then yg 4 else(r.1,if DJ r.1=true then r.2.1 else [],0)
def Mb(c:Ck)(i:Int):B4:=if i>=c.hyps.length then yg 8 else(c.hyps.getD (c.hyps.length-1-i.toNat) Az,[],0)
def KB(c:Ck)(i:Int):B4:=if i>=c.lems.length then yg 9 else(c.lems.getD i.toNat Az,[],0)
def LU(r0 r1:Rs)(c:Ck):B4:=if(r0 c).2.2≠0 then yg (r0 c).2.2 else(vy 2 (r0 c).1 (r1 c).1,v7 (r0 c).2.1 (r1 c).2.1,(r1 c).2.2)
def Ko(j:Nat)(r0:Rs)(c:Ck):B4:=if(r0 c).2.2≠0 then yg (r0 c).2.2 else if(r0 c).1.kind≠2 then yg 10 else((r0 c).1.args.getD j Az,(r0 c).2.1,0)
def Lz(f:Fm)(r0:Rs)(c:Ck):B4:=
 if yb c.tys f≠0 then yg (yb c.tys f) else if c.room 0 1≠0 then yg 3 else(vy 3 f (r0 (c.Au f)).1,(r0 (c.Au f)).2.1,(r0 (c.Au f)).2.2)
def Kq(r0 r1:Rs)(c:Ck):B4:=
 if(r0 c).2.2≠0 then yg (r0 c).2.2 else if(r0 c).1.kind≠3 then yg 10 else if(r1 c).2.2≠0 then yg (r1 c).2.2
 else((r0 c).1.args.getD 1 Az,v7 (r0 c).2.1 (r1 c).2.1,LJ ((r0 c).1.args.getD 0 Az) (r1 c).1)
def Md(k:Int)(s:Ty)(r0:Rs)(c:Ck):B4:=
 if c.room 1 0≠0 then yg 3 else if(r0 (c.below [s])).2.2≠0 then yg (r0 (c.below [s])).2.2
 else if k=8 then(Be 4 s (r0 (c.below [s])).1,Ds (r0 (c.below [s])).2.1 1,0)
 else if Jy (r0 (c.below [s])).2.1=true then yg 12 else(Be 6 s (r0 (c.below [s])).1,Ds (r0 (c.below [s])).2.1 1,0)
def kI(k u a b:Int):Int:=if k=u then a else b
def kL(k u:Int)(a b:List Int):List Int:=if k=u then a else b
theorem Mn{α:Type}{l:List α}{i:Nat}(h:i<l.length)(d:α):l.getD i d=l[i]:=by simp[List.getD,h]
def atR(k:Int)(t:Tm)(r0:Rs)(c:Ck):B4:=
 if(y3 c.tys t).2≠0 then yg (y3 c.tys t).2 else if(r0 c).2.2≠0 then yg (r0 c).2.2
 else if(r0 c).1.kind≠kI k 13 6 4 then yg 10 else if(r0 c).1.ty≠(y3 c.tys t).1 then yg 7
 else((CP ((r0 c).1.args.getD 0 Az) t).1,kL k 13 (r0 c).2.1 (v7 (r0 c).2.1 (Ex t)),(CP ((r0 c).1.args.getD 0 Az) t).2)
def KO(k:Int)(f:Fm)(t:Tm)(r0:Rs)(c:Ck):B4:=
 if yb c.tys f≠0 then yg (yb c.tys f) else if f.kind≠kI k 14 7 5 then yg 10
 else if(y3 c.tys t).2≠0 then yg (y3 c.tys t).2 else if f.ty≠(y3 c.tys t).1 then yg 7
 else(f,kL k 14 (y6 r0 c (f.args.getD 0 Az) t).1 (v7 (y6 r0 c (f.args.getD 0 Az) t).1 (Ex t)),(y6 r0 c (f.args.getD 0 Az) t).2)
def Eb(f:Fm):Fm×Int:=
 if y9 0 f=0 then(f,0) else if(x7 f).2≠0 then(Az,(x7 f).2) else if y9 0 (x7 f).1≠0 then(Az,6) else((x7 f).1,0)
def Gz(r1:Rs)(c:Ck)(a:Fm):B4:=r1 ((c.below [a.ty]).Au (a.args.getD 0 Az))
def K3(k:Int)(r0 r1:Rs)(c:Ck):B4:=
 if(r0 c).2.2≠0 then yg (r0 c).2.2 else if(r0 c).1.kind≠kI k 15 7 5 then yg 10 else if c.room 1 1≠0 then yg 3
 else if(Gz r1 c (r0 c).1).2.2≠0 then yg (Gz r1 c (r0 c).1).2.2
 else if(Eb (Gz r1 c (r0 c).1).1).2≠0 then yg (Eb (Gz r1 c (r0 c).1).1).2
 else if k=15/\Jy (Gz r1 c (r0 c).1).2.1=true then yg 12
 else((Eb (Gz r1 c (r0 c).1).1).1.A4 1 (-1),v7 (r0 c).2.1 (Ds (Gz r1 c (r0 c).1).2.1 1),0)
def LK(f:Fm)(t:Tm)(r0 r1:Rs)(c:Ck):B4:=
 if w4 (c.tys++[Aa]) f≠0 then yg (w4 (c.tys++[Aa]) f) else if Ey c t 1≠0 then yg (Ey c t 1)
 else if(y6 r0 c f zT).2≠0 then yg (y6 r0 c f zT).2 else if c.room 1 1≠0 then yg 3
 else if(y6 r1 ((c.below [Aa]).Au f) (f.A4 1 1) (sT (vT 0))).2≠0 then yg (y6 r1 ((c.below [Aa]).Au f) (f.A4 1 1) (sT (vT 0))).2
 else((CP f t).1,v7 (v7 (Ex t) (y6 r0 c f zT).1) (Ds (y6 r1 ((c.below [Aa]).Au f) (f.A4 1 1) (sT (vT 0))).1 1),(CP f t).2)
def CK:Tm:= .mk 7 0 (.mk 0 []) []
def BQ:Tm:= .mk 8 0 (.mk 0 []) [vT 1,vT 0]
def Lj(f:Fm)(t:Tm)(r0 r1:Rs)(c:Ck):B4:=
 if w4 (c.tys++[Ah]) f≠0 then yg (w4 (c.tys++[Ah]) f) else if Ey c t 2≠0 then yg (Ey c t 2)
 else if(y6 r0 c f CK).2≠0 then yg (y6 r0 c f CK).2 else if c.room 2 1≠0 then yg 3
 else if(y6 r1 ((c.below [Aa,Ah]).Au (f.A4 1 1)) (f.A4 1 2) BQ).2≠0 then yg (y6 r1 ((c.below [Aa,Ah]).Au (f.A4 1 1)) (f.A4 1 2) BQ).2
 else((CP f t).1,v7 (v7 (Ex t) (y6 r0 c f CK).1) (Ds (y6 r1 ((c.below [Aa,Ah]).Au (f.A4 1 1)) (f.A4 1 2) BQ).1 2),(CP f t).2)
def JC(t:Tm)(c:Ck):B4:=(AM t t,[],Ey c t 1)
def Ma(f:Fm)(r0 r1:Rs)(c:Ck):B4:=
 if w4 (c.tys++[Aa]) f≠0 then yg (w4 (c.tys++[Aa]) f) else if(r0 c).2.2≠0 then yg (r0 c).2.2 else if(r0 c).1.kind≠1 then yg 10
 else if(y6 r1 c f ((r0 c).1.terms.getD 0 va)).2≠0 then yg (y6 r1 c f ((r0 c).1.terms.getD 0 va)).2
 else((CP f ((r0 c).1.terms.getD 1 va)).1,(y6 r1 c f ((r0 c).1.terms.getD 0 va)).1,(CP f ((r0 c).1.terms.getD 1 va)).2)
def Eo:Tm:=AP (vT 1) (vT 0)
def L3(a:Fm):Fm×Int:=CP (((a.args.getD 0 Az).args.getD 0 Az).A4 2 1) Eo
def Kt(a:Fm):Ty:=yo a.ty (a.args.getD 0 Az).ty
def LW(r0:Rs)(c:Ck):B4:=
 if(r0 c).2.2≠0 then yg (r0 c).2.2 else if(r0 c).1.kind≠4\/((r0 c).1.args.getD 0 Az).kind≠5 then yg 10 else if(Kt (r0 c).1).err≠0 then yg 4
 else(Be 5 (Kt (r0 c).1) (Be 4 (r0 c).1.ty (L3 (r0 c).1).1),(r0 c).2.1,(L3 (r0 c).1).2)
def Hv(k i:Int)(s:Ty)(ts:List Tm)(fs:List Fm)(rs:List Rs)(c:Ck):B4:=
 if k=1 then Mb c i else if k=2 then KB c i else if k=3 then LU (rs.getD 0 fun _=>yg 0) (rs.getD 1 fun _=>yg 0) c
 else if k=4\/k=5 then Ko (k-4).toNat (rs.getD 0 fun _=>yg 0) c
 else if k=6 then Lz (fs.getD 0 Az) (rs.getD 0 fun _=>yg 0) c
 else if k=7 then Kq (rs.getD 0 fun _=>yg 0) (rs.getD 1 fun _=>yg 0) c
 else if k=8\/k=12 then Md k s (rs.getD 0 fun _=>yg 0) c
 else if k=9\/k=13 then atR k (ts.getD 0 va) (rs.getD 0 fun _=>yg 0) c
 else if k=10\/k=14 then KO k (fs.getD 0 Az) (ts.getD 0 va) (rs.getD 0 fun _=>yg 0) c
 else if k=11\/k=15 then K3 k (rs.getD 0 fun _=>yg 0) (rs.getD 1 fun _=>yg 0) c
 else if k=16 then LK (fs.getD 0 Az) (ts.getD 0 va) (rs.getD 0 fun _=>yg 0) (rs.getD 1 fun _=>yg 0) c
 else if k=17 then Lj (fs.getD 0 Az) (ts.getD 0 va) (rs.getD 0 fun _=>yg 0) (rs.getD 1 fun _=>yg 0) c
 else if k=18 then JC (ts.getD 0 va) c
 else if k=19 then Ma (fs.getD 0 Az) (rs.getD 0 fun _=>yg 0) (rs.getD 1 fun _=>yg 0) c
 else LW (rs.getD 0 fun _=>yg 0) c
mutual
def BR:Pf->Rs
 | .mk k i s ts fs zs=>fun c=>Ju (Hv k i s ts fs (NY zs) c)
def NY:List Pf->List Rs
 |[]=>[]
 |p::l=>BR p::NY l
end
theorem VO:∀l:List Pf,NY l=l.map BR
 |[]=>rfl
 |p::l=>by rw[NY,VO l];rfl
theorem Q3(p:Pf)(c:Ck):BR p c=Ju (Hv p.kind p.index p.ty p.terms p.Aq (p.args.map BR) c):=by cases p;simp only[BR,VO];rfl
theorem UW:∀l:List Fm,JW l=l.map DJ
 |[]=>rfl
 |p::l=>by rw[JW,UW l];rfl
theorem Q5(f:Fm):DJ f=if f.kind=1 then false else if f.kind=2 then(f.args.map DJ).getD 0 false||(f.args.map DJ).getD 1 false else if f.kind=5 then true else(f.args.map DJ).getLastD false:=by
 cases f;simp only[DJ,UW];rfl
theorem Vc(f:Fm):x7 f=if(C2 f.terms).2≠0 then(Az,(C2 f.terms).2) else if(y8 f.args).2≠0 then(Az,(y8 f.args).2) else(.mk f.kind f.ty (C2 f.terms).1 (y8 f.args).1,0):=by
 cases f;simp only[x7];rfl
theorem ww{c:Ck}{v h:Nat}(hr:c.room v h=0):c.tys.length+v<=16/\c.hyps.length+h<=16:=by
 unfold Ck.room at hr;split at hr
 ·cases hr
 ·rename_i hc;omega
theorem KY{c:Ck}{v h:Nat}(hr:c.room v h≠0):c.room v h=3:=by unfold Ck.room at*;split<;>simp_all
theorem V8:∀{g:List Ty},(∀x∈g,x.err=0)->vo g=0
 |[],_=>rfl
 |x::l,h=>by
  simp only[vo];rw[if_neg (by simp[h x (by simp)])];exact V8 fun y hy=>h y (by simp[hy])
theorem Zw2{g:List Ty}(hl:g.length<=16)(h:∀x∈g,x.err=0):y1 g=0:=by
 unfold y1;rw[if_neg (by omega)];exact V8 h
theorem ud{α:Type}{f:α->Int}:∀{l:List α},yw f l=0->∀x∈l,f x=0
 |[],_,x,h=>by cases h
 |y::l,h,x,hx=>by
  simp only[yw] at h;by_cases h1:f y≠0
  ·rw[if_pos h1] at h;exact absurd h h1
  ·rw[if_neg h1] at h;rcases List.mem_cons.1 hx with rfl|hx
   ·exact Decidable.not_not.1 h1
   ·exact ud h x hx
theorem Jv{t:Ty}(he:t.err=0)(hk:t.kind=1):t=Aa:=by
 have h:=((Ty.Ad t).1 he).1;obtain⟨k,zs⟩:=t;rw[Ty.Ag,Bool.and_eq_true] at h;have h1:=h.1;simp only[Ty.kind,Ty.args] at hk h1;subst hk;have h2:zs.length=0:=by simpa[CS] using h1
 rw[List.eq_nil_of_length_eq_zero h2];rfl
theorem Oe{t:Ty}(he:t.err=0)(hk:t.kind=2):t=Ah:=by
 have h:=((Ty.Ad t).1 he).1;obtain⟨k,zs⟩:=t;rw[Ty.Ag,Bool.and_eq_true] at h;have h1:=h.1;simp only[Ty.kind,Ty.args] at hk h1;subst hk;have h2:zs.length=0:=by simpa[CS] using h1
 rw[List.eq_nil_of_length_eq_zero h2];rfl
theorem Vi{g:List Ty}{t:Tm}(hg:∀x∈g,x.err=0)(h:(Dr g t).2=0):t.err=0/\t.inf g=((Dr g t).1,0)/\(Dr g t).1.err=0:=by
 unfold Dr at h ⊢;by_cases h1:t.err≠0
 ·rw[if_pos h1] at h;exact absurd h h1
 ·rw[if_neg h1] at h ⊢;have h1':=Decidable.not_not.1 h1;exact⟨h1',by rw[<-h],Tm.Bv t g ((Tm.Ad t).1 h1').1 hg h⟩
theorem K2{g:List Ty}{t:Tm}(h:(y3 g t).2=0):y1 g=0/\t.err=0/\t.inf g=((y3 g t).1,0)/\(y3 g t).1.err=0:=by
 unfold y3 at h ⊢;by_cases h1:y1 g≠0
 ·rw[if_pos h1] at h;exact absurd h h1
 ·rw[if_neg h1] at h ⊢;have h1':=Decidable.not_not.1 h1;exact⟨h1',Vi (vk h1').2 h⟩
theorem Yda(f:Fm):∀g:List Ty,(∀x∈g,x.err=0)->f.shape=true->f.BJ g=0->f.A9 g:=by
 induction f using Fm.ind with
 |h f ih=>
  intro g hg hs h;rw[Fm.DO] at h;by_cases h1:yw (tE g) f.terms≠0
  ·rw[if_pos h1] at h;exact absurd h h1
  ·rw[if_neg h1] at h;rw[Fm.Bg];refine⟨fun t ht=> ?_,fun x hx=> ?_⟩
   ·have h2:=ud (Decidable.not_not.1 h1) t ht;unfold tE at h2;by_cases h3:(Dr g t).2≠0
    ·rw[if_pos h3] at h2;exact absurd h2 h3
    ·rw[if_neg h3] at h2;obtain⟨a,b,c⟩:=Vi hg (Decidable.not_not.1 h3);by_cases h4:(Dr g t).1.kind≠1
     ·rw[if_pos h4] at h2;cases h2
     ·rw[b,Jv c (Decidable.not_not.1 h4)]
   ·have h2:=ud h x hx;refine ih x hx _ ?_ (zl hs hx) h2;by_cases hq:y7 f.kind=true
    ·rw[HC hq];intro y hy;rcases List.mem_append.1 hy with hy|hy
     ·exact hg y hy
     ·simp only[List.mem_singleton] at hy;subst hy;have hk:=A6.1 hq;rcases Ny hs with⟨h5,_⟩|⟨h5,_⟩|⟨_,_,h6⟩
      ·omega
      ·omega
      ·exact h6
    ·rw[Ht hq];exact hg
theorem JG{g:List Ty}{f:Fm}(hg:∀x∈g,x.err=0)(h:w4 g f=0):f.err=0/\f.A9 g:=by
 unfold w4 at h;by_cases h1:f.err≠0
 ·rw[if_pos h1] at h;exact absurd h h1
 ·rw[if_neg h1] at h;have h1':=Decidable.not_not.1 h1;exact⟨h1',Yda f g hg ((Fm.Ad f).1 h1').1 h⟩
theorem xv{g:List Ty}{f:Fm}(h:yb g f=0):f.err=0/\f.A9 g:=by
 unfold yb at h;by_cases h1:y1 g≠0
 ·rw[if_pos h1] at h;exact absurd h h1
 ·rw[if_neg h1] at h;exact JG (vk (Decidable.not_not.1 h1)).2 h
theorem Sr{c:Ck}{t:Tm}{k:Int}(h:Ey c t k=0):t.err=0/\t.inf c.tys=((y3 c.tys t).1,0)/\(y3 c.tys t).1.err=0/\(y3 c.tys t).1.kind=k:=by
 unfold Ey at h;by_cases h1:(y3 c.tys t).2≠0
 ·rw[if_pos h1] at h;exact absurd h h1
 ·rw[if_neg h1] at h;obtain⟨_,a,b,d⟩:=K2 (Decidable.not_not.1 h1);refine⟨a,b,d,?_⟩;by_cases h2:(y3 c.tys t).1.kind≠k
  ·rw[if_pos h2] at h;cases h
  ·exact Decidable.not_not.1 h2
theorem Th(t:Tm):∀(g:List Ty) (b:Int),t.shape=true->(t.inf g).2=0->∀p∈t.vars b,p.1-p.2<g.length-b:=by
 induction t using Tm.ind with
 |h t ih=>
  intro g b hs h p hp;have hargs:=zg hs;by_cases k1:t.kind=1
  ·rw[w8 hs k1] at hp;simp only[List.mem_singleton] at hp;subst hp;rw[Tm.AJ,if_pos k1] at h;by_cases hi:t.index>=g.length
   ·rw[if_pos hi] at h;cases h
   ·simp only;omega
  ·rw[uk k1] at hp;obtain⟨x,hx,hp⟩:=List.mem_flatMap.1 hp;by_cases k2:t.kind=2
   ·have e:up t.kind b=b+1:=by simp[up,k2]
    rw[e] at hp;rw[Tm.AJ,if_neg k1,if_pos k2] at h;have h0:(Tm.Ay (g++[t.ty]) t.args).2=0:=by
     by_cases h1:(Tm.Ay (g++[t.ty]) t.args).2≠0
     ·rw[if_pos h1] at h;exact h
     ·exact Decidable.not_not.1 h1
    have:=ih x hx (g++[t.ty]) (b+1) (hargs x hx) (Tm.Cg _ _ h0 x hx) p hp;simp only[List.length_append,List.length_cons,List.length_nil] at this;omega
   ·have e:up t.kind b=b:=by simp[up,k2]
    rw[e] at hp;exact ih x hx g b (hargs x hx) ((vp (T:=(t.inf g).1) k1 k2 (by rw[<-h])).1 x hx) p hp
def A3(n:Nat)(l:List Int):Prop:=l.Nodup/\∀u∈l,0<=u/\u<n
theorem A3.nil(n:Nat):A3 n []:=⟨List.nodup_nil,fun u h=>by cases h⟩
theorem A3.len{n:Nat}{l:List Int}(h:A3 n l):l.length<=n:=(UA n l h.1 h.2).1
theorem Cv{a b:List Int}{x:Int}:x∈v7 a b↔x∈a\/x∈b:=by
 rw[v7,(wv _).mem_iff,Nu,Nu];simp
theorem A3.union{n:Nat}{a b:List Int}(ha:∀u∈a,0<=u/\u<(n:Int))(hb:∀u∈b,0<=u/\u<(n:Int)):A3 n (v7 a b):=by
 refine⟨?_,fun u hu=> ?_⟩
 ·rw[v7,(wv _).nodup_iff];exact Jp (Jp List.nodup_nil)
 ·rcases Cv.1 hu with h|h
  ·exact ha u h
  ·exact hb u h
theorem F1{l:List Int}{n x:Int}:x∈Ds l n↔0<=x/\x+n∈l:=by
 simp only[Ds,List.mem_map,List.mem_filter,decide_eq_true_eq];constructor
 ·rintro ⟨y,⟨h1,h2⟩,rfl⟩;exact⟨by omega,by rw[Int.sub_add_cancel];exact h1⟩
 ·rintro ⟨h1,h2⟩;exact⟨x+n,⟨h2,by omega⟩,by omega⟩
theorem A3.out{n m:Nat}{l:List Int}(h:A3 (n+m) l):A3 n (Ds l m):=by
 refine⟨?_,fun u hu=> ?_⟩
 ·have h1:(l.filter fun x=>decide (x>=(m:Int))).Nodup:=h.1.filter _;unfold Ds;rw[List.nodup_iff_pairwise_ne,List.pairwise_map];exact(List.nodup_iff_pairwise_ne.1 h1).imp fun hne e=>hne (by omega)
 ·obtain ⟨h1,h2⟩:=F1.1 hu;have:=h.2 _ h2;exact⟨h1,by omega⟩
theorem ug{t:Tm}{g:List Ty}{T:Ty}(h:t.inf g=(T,0)):A3 g.length (Ex t):=by
 unfold Ex;by_cases he:t.err=0
 ·rw[if_pos he];refine⟨Zo8 t,fun u hu=> ?_⟩;obtain⟨h0,h1⟩:=FB.1 hu;refine⟨h0,?_⟩;obtain⟨p,hp,e⟩:=DZ.2 h1;have:=Th t g 0 ((Tm.Ad t).1 he).1 (by rw[h]) p hp;omega
 ·rw[if_neg he];exact .nil _
theorem Zx5{t:Tm}{g:List Ty}(m:List Ty)(hs:t.shape=true)(h:(t.inf g).2=0):t.inf (m++g)=t.inf g:=by
 have h1:=O9 t [] m g g.length 0 hs (by omega);rw[List.nil_append,List.nil_append] at h1;rw[<-h1];congr 1;refine(Sj t 0 hs fun p hp=> ?_).symm;have:=Th t g 0 hs h p hp;rw[xi,if_neg (by omega)]
theorem Zvw(f:Fm):∀(g m:List Ty),f.shape=true->f.A9 g->f.A9 (m++g):=by
 induction f using Fm.ind with
 |h f ih=>
  intro g m hs hok;rw[Fm.Bg] at hok ⊢;refine⟨fun t ht=> ?_,fun x hx=> ?_⟩
  ·have:=hok.1 t ht;rw[Zx5 m (zw hs ht) (by rw[this])];exact this
  ·have:=ih x hx _ m (zl hs hx) (hok.2 x hx);by_cases hq:y7 f.kind=true
   ·rw[HC hq] at this ⊢;rw[List.append_assoc];exact this
   ·rw[Ht hq] at this ⊢;exact this
theorem vw{f x:Fm}(hf:f.err=0)(hx:x∈f.args):x.err=0:=by
 have h:=(Fm.Ad f).1 hf;have h1:=ze Fm.size hx;have h2:=f.size_eq;exact(Fm.Ad x).2 ⟨zl h.1 hx,by omega⟩
theorem Uf{f:Fm}{t:Tm}(hf:f.err=0)(ht:t∈f.terms):t.err=0:=by
 have h:=(Fm.Ad f).1 hf;have h1:=ze Tm.size ht;have h2:=f.size_eq;exact(Tm.Ad t).2 ⟨zw h.1 ht,by omega⟩
theorem LI{f:Fm}(hs:f.shape=true)(hk:f.kind=2\/f.kind=3):∃a b,f=vy f.kind a b:=by
 rw[Fm.Ag,Bool.and_eq_true,Bool.and_eq_true] at hs;have h1:=hs.1.1;unfold Fm.head at h1;rw[if_neg (by omega),if_pos hk] at h1;simp only[Bool.and_eq_true,beq_iff_eq] at h1;clear hs;obtain⟨k,h,ts,zs⟩:=f;simp only[Fm.Am,Fm.Ar,Fm.Ae] at h1 hk;have e1:ts=[]:=List.eq_nil_of_length_eq_zero h1.1.2
 match zs,h1 with
 |[a,b],h1=>
  refine⟨a,b,?_⟩;have e2:h= .mk 0 []:=Ty.Dj (by simp_all);rw[e1,e2];rfl
 |[],h1=>simp at h1
 |[a],h1=>simp at h1
 |a::b::c::l,h1=>simp at h1
theorem GV{f:Fm}(hs:f.shape=true)(hk:4<=f.kind/\f.kind<=7):∃a,f=Be f.kind f.ty a:=by
 rw[Fm.Ag,Bool.and_eq_true,Bool.and_eq_true] at hs;have h1:=hs.1.1;unfold Fm.head at h1;rw[if_neg (by omega),if_neg (by omega),if_pos (by omega)] at h1;simp only[Bool.and_eq_true,beq_iff_eq] at h1;clear hs;obtain⟨k,h,ts,zs⟩:=f;simp only[Fm.Am,Fm.Ar,Fm.Ae] at h1 hk;have e1:ts=[]:=List.eq_nil_of_length_eq_zero h1.1.2
 match zs,h1 with
 |[a],h1=>exact⟨a,by rw[e1];rfl⟩
 |[],h1=>simp at h1
 |a::b::l,h1=>simp at h1
theorem Rz{f:Fm}(hs:f.shape=true)(hk:f.kind=1):∃a b,f=AM a b:=by
 rw[Fm.Ag,Bool.and_eq_true,Bool.and_eq_true] at hs;have h1:=hs.1.1;unfold Fm.head at h1;rw[if_pos hk] at h1;simp only[Bool.and_eq_true,beq_iff_eq] at h1;clear hs;obtain⟨k,h,ts,zs⟩:=f;simp only[Fm.Am,Fm.Ar,Fm.Ae] at h1 hk;have e1:zs=[]:=List.eq_nil_of_length_eq_zero h1.2
 match ts,h1 with
 |[a,b],h1=>
  have e2:h= .mk 0 []:=Ty.Dj (by simp_all);exact⟨a,b,by rw[e1,e2,hk];rfl⟩
 |[],h1=>simp at h1
 |[a],h1=>simp at h1
 |a::b::c::l,h1=>simp at h1
theorem HI{f:Fm}(hf:f.shape=true)(hk:4<=f.kind/\f.kind<=7):f.ty.err=0:=by
 rcases Ny hf with⟨h,_⟩|⟨h,_⟩|⟨_,_,h⟩
 ·omega
 ·omega
 ·exact h
theorem Ul{k:Int}{a b:Fm}{g:List Ty}(hk:k=2\/k=3)(h:(vy k a b).A9 g):a.A9 g/\b.A9 g:=by
 rw[Fm.Bg] at h;have e:Cx g (vy k a b)=g:=Ht (by show ¬y7 k=true;rw[A6];omega);rw[e] at h;exact⟨h.2 a (by simp[vy]),h.2 b (by simp[vy])⟩
theorem I0{k:Int}{s:Ty}{a:Fm}{g:List Ty}(hk:4<=k/\k<=7)(h:(Be k s a).A9 g):a.A9 (g++[s]):=by
 rw[Fm.Bg] at h;have e:Cx g (Be k s a)=g++[s]:=HC (A6.2 hk);rw[e] at h;exact h.2 a (by simp[Be])
theorem Ci{a b:Tm}{g:List Ty}:(AM a b).A9 g↔a.inf g=(Aa,0)/\b.inf g=(Aa,0):=by
 rw[Fm.Bg];simp[AM]
theorem R5{k:Int}{a b:Fm}(hk:k=2\/k=3)(ha:a.shape=true)(hb:b.shape=true):(vy k a b).shape=true:=by
 rw[Fm.Ag];rcases hk with rfl|rfl<;>simp[vy,Fm.head,ha,hb,Ty.Bw,Ty.kind,Ty.args]
theorem ul{k:Int}{s:Ty}{a:Fm}(hk:4<=k/\k<=7)(hs:s.err=0)(ha:a.shape=true):(Be k s a).shape=true:=by
 rw[Fm.Ag];have h1:=(Ty.Ad s).1 hs;have h2:s.ok=true:=LQ h1.1 h1.2;have:k=4\/k=5\/k=6\/k=7:=by omega
 rcases this with rfl|rfl|rfl|rfl<;>simp[Be,Fm.head,ha,h2]
theorem N4(k:Int)(a b:Fm):(vy k a b).size=1+a.size+b.size:=by rw[Fm.size_eq];simp[vy];omega
theorem JN(k:Int)(s:Ty)(a:Fm):(Be k s a).size=1+a.size:=by rw[Fm.size_eq];simp[Be]
theorem IX{f:Fm}{g h:List Ty}(m:List Ty)(hf:f.shape=true)(hok:f.A9 (g++h)):(f.A4 h.length m.length).A9 (g++m++h):=by
 have:=Zzi g m h.length f h 0 (by omega) hf hok;exact this
theorem LX{f:Fm}{t:Tm}{g:List Ty}{σ:Ty}(hf:f.A9 (g++[σ]))(ht:t.inf g=(σ,0))(h:(CP f t).2=0):(CP f t).1.err=0/\(CP f t).1.A9 g:=by
 have h':ye f 0 t=0:=h;have e:(CP f t).1=f.put 0 t:=if_pos h';obtain⟨h1,h2,_⟩:=OJ h';rw[e];refine⟨Un (by omega) h',?_⟩;have h3:=O4 0 t g σ ((Tm.Ad t).1 h2).1 ht f [] 0 rfl ((Fm.Ad f).1 h1).1 (by simpa using hf);rw[List.append_nil] at h3;exact h3
structure Ck.ok (c:Ck):Prop where
 ctx:y1 c.tys=0
 nh:c.hyps.length<=16
 nl:c.lems.length<=32
 hyps:∀f∈c.hyps,f.err=0/\f.A9 c.tys
 lems:∀f∈c.lems,f.err=0/\f.A9 []
theorem Ck.ok.len{c:Ck}(h:c.ok):c.tys.length<=16:=(vk h.ctx).1
theorem Ck.ok.all{c:Ck}(h:c.ok):∀x∈c.tys,x.err=0:=(vk h.ctx).2
theorem Ck.ok.below{c:Ck}(h:c.ok){l:List Ty}(hl:c.tys.length+l.length<=16)(he:∀x∈l,x.err=0):(c.below l).ok:=by
 refine⟨Zw2 (by simp[Ck.below];omega) fun x hx=> ?_,by simp[Ck.below];exact h.nh,h.nl,fun f hf=> ?_,h.lems⟩
 ·rcases List.mem_append.1 hx with hx|hx
  ·exact h.all x hx
  ·exact he x hx
 ·obtain ⟨y,hy,rfl⟩:=List.mem_map.1 hf;obtain⟨h1,h2⟩:=h.hyps y hy;refine⟨Lx h1 (by omega),?_⟩;have h3:=IX (g:=c.tys) (h:=[]) l ((Fm.Ad y).1 h1).1 (by simpa using h2);simpa[Ck.below] using h3
theorem Ck.ok.Au{c:Ck}(h:c.ok){f:Fm}(hl:c.hyps.length+1<=16)(hf:f.err=0)(hok:f.A9 c.tys):(c.Au f).ok:=by
 refine⟨h.ctx,by simp[Ck.Au];omega,h.nl,fun y hy=> ?_,h.lems⟩;rcases List.mem_append.1 hy with hy|hy
 ·exact h.hyps y hy
 ·simp only[List.mem_singleton] at hy;subst hy;exact⟨hf,hok⟩
def vv(c:Ck)(r:B4):Prop:=r.2.2=0->r.1.shape=true/\r.1.size<=20000000/\r.1.A9 c.tys/\A3 c.tys.length r.2.1
def E2(c:Ck)(r:B4):Prop:=(r.2.2=0->r.1.err=0/\r.1.A9 c.tys/\A3 c.tys.length r.2.1)/\(r.2.2≠0->r=yg r.2.2)
theorem zx(c:Ck){e:Int}(he:e≠0):vv c (yg e):=fun h=>absurd h he
theorem Yej{c:Ck}{r:B4}(h:vv c r):E2 c (Ju r):=by
 unfold Ju;by_cases h1:r.2.2≠0
 ·rw[if_pos h1];exact⟨fun h=>absurd h h1,fun _=>rfl⟩
 ·rw[if_neg h1];by_cases h2:r.1.err≠0
  ·rw[if_pos h2];exact⟨fun h=>absurd h (by decide),fun _=>rfl⟩
  ·rw[if_neg h2];obtain⟨_,_,h4,h5⟩:=h (Decidable.not_not.1 h1);refine⟨fun _=>⟨Decidable.not_not.1 h2,h4,?_⟩,fun h=>absurd rfl h⟩;simp only;split
   ·exact h5
   ·exact .nil _
def BK(r:Rs):Prop:=∀c,c.ok->E2 c (r c)
theorem BK.good{r:Rs}(h:BK r){c:Ck}(hc:c.ok)(he:(r c).2.2=0):(r c).1.err=0/\(r c).1.A9 c.tys/\A3 c.tys.length (r c).2.1:=(h c hc).1 he
theorem yp{f:Fm}(h:f.err=0):f.shape=true/\f.size<=20000000:=by
 have:=(Fm.Ad f).1 h;exact⟨this.1,by omega⟩
theorem TQ{c:Ck}(hc:c.ok){i:Int}(hi:0<=i):vv c (Mb c i):=by
 unfold Mb;split
 ·exact zx c (by decide)
 ·rename_i h;intro _;have hlt:c.hyps.length-1-i.toNat<c.hyps.length:=by omega
  simp only;rw[Mn hlt];obtain⟨h1,h2⟩:=hc.hyps _ (List.getElem_mem hlt);exact⟨(yp h1).1,(yp h1).2,h2,.nil _⟩
theorem SA{c:Ck}(hc:c.ok){i:Int}(hi:0<=i):vv c (KB c i):=by
 unfold KB;split
 ·exact zx c (by decide)
 ·rename_i h;intro _;have hlt:i.toNat<c.lems.length:=by omega
  simp only;rw[Mn hlt];obtain⟨h1,h2⟩:=hc.lems _ (List.getElem_mem hlt);have h3:=Zvw _ [] c.tys (yp h1).1 h2;rw[List.append_nil] at h3;exact⟨(yp h1).1,(yp h1).2,h3,.nil _⟩
theorem Sv{r0 r1:Rs}(h0:BK r0)(h1:BK r1){c:Ck}(hc:c.ok):vv c (LU r0 r1 c):=by
 unfold LU;split
 ·rename_i h;exact zx c h
 ·rename_i h;intro he;obtain⟨a1,a2,a3⟩:=h0.good hc (Decidable.not_not.1 h);obtain⟨b1,b2,b3⟩:=h1.good hc he;have s1:=(Fm.Ad _).1 a1;have s2:=(Fm.Ad _).1 b1;exact⟨R5 (.inl rfl) s1.1 s2.1,by rw[N4];omega,M6 (.inl rfl) a2 b2,.union a3.2 b3.2⟩
theorem MQ{r0:Rs}(h0:BK r0){c:Ck}(hc:c.ok){j:Nat}(hj:j<2):vv c (Ko j r0 c):=by
 unfold Ko;split
 ·rename_i h;exact zx c h
 rename_i h;split
 ·exact zx c (by decide)
 rename_i h2;intro _;obtain⟨a1,a2,a3⟩:=h0.good hc (Decidable.not_not.1 h);have s1:=(Fm.Ad _).1 a1;obtain⟨x,y,e⟩:=LI s1.1 (.inl (Decidable.not_not.1 h2));have hk:(r0 c).1.kind=2:=Decidable.not_not.1 h2;rw[hk] at e;rw[e] at a2;obtain⟨o1,o2⟩:=Ul (.inl rfl) a2;have e1:=vw a1 (x:=x) (by rw[e];simp[vy]);have e2:=vw a1 (x:=y) (by rw[e];simp[vy]);have:(r0 c).1.args=[x,y]:=by rw[e];rfl
 simp only[this];rcases j with _|_|j
 ·exact ⟨(yp e1).1,(yp e1).2,o1,a3⟩
 ·exact ⟨(yp e2).1,(yp e2).2,o2,a3⟩
 ·omega
theorem To{r0:Rs}(h0:BK r0){f:Fm}{c:Ck}(hc:c.ok):vv c (Lz f r0 c):=by
 unfold Lz;split
 ·rename_i h;exact zx c h
 rename_i h;split
 ·exact zx c (by decide)
 rename_i h2;intro he;obtain⟨f1,f2⟩:=xv (Decidable.not_not.1 h);have hr:=ww (Decidable.not_not.1 h2);obtain⟨a1,a2,a3⟩:=h0.good (hc.Au (f:=f) hr.2 f1 f2) he;have s1:=(Fm.Ad _).1 a1;have s2:=(Fm.Ad _).1 f1;exact⟨R5 (.inr rfl) s2.1 s1.1,by rw[N4];omega,M6 (.inr rfl) f2 a2,a3⟩
theorem UB{r0 r1:Rs}(h0:BK r0)(h1:BK r1){c:Ck}(hc:c.ok):vv c (Kq r0 r1 c):=by
 unfold Kq;split
 ·rename_i h;exact zx c h
 rename_i h;split
 ·exact zx c (by decide)
 rename_i h2;split
 ·rename_i h;exact zx c h
 rename_i h3;intro _;obtain⟨a1,a2,a3⟩:=h0.good hc (Decidable.not_not.1 h);obtain⟨b1,b2,b3⟩:=h1.good hc (Decidable.not_not.1 h3);have s1:=(Fm.Ad _).1 a1;have hk:(r0 c).1.kind=3:=Decidable.not_not.1 h2;obtain⟨x,y,e⟩:=LI s1.1 (.inr hk);rw[hk] at e;rw[e] at a2;obtain⟨o1,o2⟩:=Ul (.inr rfl) a2;have e2:=vw a1 (x:=y) (by rw[e];simp[vy]);have:(r0 c).1.args=[x,y]:=by rw[e];rfl
 simp only[this];exact⟨(yp e2).1,(yp e2).2,o2,.union a3.2 b3.2⟩
theorem Ob{r0:Rs}(h0:BK r0){k:Int}{s:Ty}(hs:s.err=0){c:Ck}(hc:c.ok):vv c (Md k s r0 c):=by
 unfold Md;split
 ·exact zx c (by decide)
 rename_i h;have hr:=ww (Decidable.not_not.1 h);have hb:=hc.below (l:=[s]) hr.1 (by simpa using hs);split
 ·rename_i h;exact zx c h
 rename_i h2;obtain⟨a1,a2,a3⟩:=h0.good hb (Decidable.not_not.1 h2);have s1:=(Fm.Ad _).1 a1;have hu:A3 c.tys.length (Ds (r0 (c.below [s])).2.1 1):=by
  have:=A3.out (n:=c.tys.length) (m:=1) (l:=(r0 (c.below [s])).2.1) (by simpa[Ck.below] using a3);exact this
 split
 ·intro _;exact⟨ul (by omega) hs s1.1,by rw[JN];omega,Ic (by omega) a2,hu⟩
 split
 ·exact zx c (by decide)
 ·intro _;exact⟨ul (by omega) hs s1.1,by rw[JN];omega,Ic (by omega) a2,hu⟩
theorem NV{r0:Rs}(h0:BK r0){k:Int}{t:Tm}{c:Ck}(hc:c.ok):vv c (atR k t r0 c):=by
 unfold atR;split
 ·rename_i h;exact zx c h
 rename_i h;split
 ·rename_i h;exact zx c h
 rename_i h2;split
 ·exact zx c (by decide)
 rename_i h3;split
 ·exact zx c (by decide)
 rename_i h4;intro he;obtain⟨_,t1,t2,_⟩:=K2 (Decidable.not_not.1 h);obtain⟨a1,a2,a3⟩:=h0.good hc (Decidable.not_not.1 h2);have s1:=(Fm.Ad _).1 a1;have hk:(r0 c).1.kind=kI k 13 6 4:=Decidable.not_not.1 h3;have hk':4<=(r0 c).1.kind/\(r0 c).1.kind<=7:=by rw[hk,kI];split<;>omega
 obtain⟨x,e⟩:=GV s1.1 hk';rw[e] at a2;have o1:=I0 hk' a2;have hx:(r0 c).1.args.getD 0 Az=x:=by rw[e];rfl
 rw[hx] at he ⊢;have hty:(r0 c).1.ty=(y3 c.tys t).1:=Decidable.not_not.1 h4;rw[hty] at o1;obtain⟨p1,p2⟩:=LX o1 t2 he;refine⟨(yp p1).1,(yp p1).2,p2,?_⟩;simp only[kL];split
 ·exact a3
 ·exact .union a3.2 (ug t2).2
theorem w9{r0:Rs}(h0:BK r0){c:Ck}(hc:c.ok)(f:Fm)(t:Tm):A3 c.tys.length (y6 r0 c f t).1:=by
 unfold y6;split
 ·exact .nil _
 rename_i h;split
 ·exact .nil _
 ·exact (h0.good hc (Decidable.not_not.1 h)).2.2
theorem Nc{r0:Rs}(h0:BK r0){k:Int}{f:Fm}{t:Tm}{c:Ck}(hc:c.ok):vv c (KO k f t r0 c):=by
 unfold KO;split
 ·rename_i h;exact zx c h
 rename_i h;split
 ·exact zx c (by decide)
 split
 ·rename_i h;exact zx c h
 rename_i h3;split
 ·exact zx c (by decide)
 intro _;obtain⟨f1,f2⟩:=xv (Decidable.not_not.1 h);obtain⟨_,t1,t2,_⟩:=K2 (Decidable.not_not.1 h3);have hp:=w9 h0 hc (f.args.getD 0 Az) t;refine⟨(yp f1).1,(yp f1).2,f2,?_⟩;simp only[kL];split
 ·exact hp
 ·exact .union hp.2 (ug t2).2
theorem T0:∀(l:List Tm),(C2 l).2=0->(C2 l).1.length=l.length/\(∀t∈(C2 l).1,t.err=0)/\∀(g:List Ty) (T:Ty),(∀t∈l,t.inf g=(T,0))->∀t∈(C2 l).1,t.inf g=(T,0)
 |[],_=>⟨rfl,fun t h=>absurd h (List.not_mem_nil),fun g T _ t h=>absurd h (List.not_mem_nil)⟩
 |x::l,h=>by
  simp only[C2] at h ⊢;by_cases h1:(xw x 1000).2.2≠0
  ·rw[if_pos h1] at h;exact absurd h h1
  ·rw[if_neg h1] at h ⊢;by_cases h2:(C2 l).2≠0
   ·rw[if_pos h2] at h;exact absurd h h2
   ·rw[if_neg h2];obtain⟨a1,a2,a3⟩:=T0 l (Decidable.not_not.1 h2);obtain⟨_,b1,_,_,b2⟩:=Zyv (Decidable.not_not.1 h1);refine⟨by simp[a1],fun t ht=> ?_,fun g T hl t ht=> ?_⟩
    ·rcases List.mem_cons.1 ht with rfl|ht
     ·exact b1
     ·exact a2 t ht
    ·rcases List.mem_cons.1 ht with rfl|ht
     ·exact b2 g T (hl x (by simp))
     ·exact a3 g T (fun t ht=>hl t (by simp[ht])) t ht
theorem VH(P:Fm->Fm->Prop):∀(l:List Fm),(∀f∈l,(x7 f).2=0->P f (x7 f).1)->(y8 l).2=0->(y8 l).1.length=l.length/\∀(i:Nat) (h1:i<l.length) (h2:i<(y8 l).1.length),P l[i] (y8 l).1[i]
 |[],_,_=>⟨rfl,fun i h=>by simp at h⟩
 |x::l,hP,h=>by
  have h0:=h;simp only[y8] at h0;by_cases h1:(x7 x).2≠0
  ·rw[if_pos h1] at h0;exact absurd h0 h1
  ·rw[if_neg h1] at h0;by_cases h2:(y8 l).2≠0
   ·rw[if_pos h2] at h0;exact absurd h0 h2
   ·have e:y8 (x::l)=((x7 x).1::(y8 l).1,0):=by simp only[y8];rw[if_neg h1,if_neg h2]
    obtain⟨a1,a2⟩:=VH P l (fun f hf=>hP f (by simp[hf])) (Decidable.not_not.1 h2);generalize y8 (x::l)=q at h e ⊢;subst e;refine⟨by simp[a1],fun i hi hj=> ?_⟩;cases i with
    |zero=>exact hP x (by simp) (Decidable.not_not.1 h1)
    |succ i=>exact a2 i (by simpa using hi) (by simpa using hj)
theorem OR{α:Type}{f:α->Nat}{C:Nat}:∀(l:List α),(∀x∈l,f x<=C)->(l.map f).sum<=C*l.length
 |[],_=>by simp
 |x::l,h=>by
  have h1:=OR l fun y hy=>h y (by simp[hy]);have h2:=h x (by simp);simp only[List.map_cons,List.sum_cons,List.length_cons,Nat.mul_add,Nat.mul_one];omega
theorem S9(f:Fm):(x7 f).2=0->f.shape=true->(x7 f).1.kind=f.kind/\(x7 f).1.shape=true/\(x7 f).1.size<=4096*f.size/\∀g,f.A9 g->(x7 f).1.A9 g:=by
 induction f using Fm.ind with
 |h f ih=>
  intro h hs;rw[Vc] at h ⊢;by_cases h1:(C2 f.terms).2≠0
  ·rw[if_pos h1] at h;exact absurd h h1
  rw[if_neg h1] at h ⊢;by_cases h2:(y8 f.args).2≠0
  ·rw[if_pos h2] at h;exact absurd h h2
  rw[if_neg h2];obtain⟨a1,a2,a3⟩:=T0 f.terms (Decidable.not_not.1 h1);obtain⟨b1,b2⟩:=VH (fun x y=>y.kind=x.kind/\y.shape=true/\y.size<=4096*x.size/\∀g,x.A9 g->y.A9 g) f.args (fun x hx he=>ih x hx he (zl hs hx)) (Decidable.not_not.1 h2);have hsh:(Fm.mk f.kind f.ty (C2 f.terms).1 (y8 f.args).1).shape=true:=by
   rw[Fm.Ag,Bool.and_eq_true,Bool.and_eq_true] at hs ⊢;refine⟨⟨?_,List.all_eq_true.2 fun t ht=>((Tm.Ad t).1 (a2 t ht)).1⟩,List.all_eq_true.2 fun y hy=> ?_⟩
   ·have:=hs.1.1;unfold Fm.head at this ⊢;simp only[Fm.Am,Fm.Ar,Fm.Ae,a1,b1] at this ⊢;exact this
   ·obtain ⟨i,hi,rfl⟩:=List.getElem_of_mem hy;have hi':i<(y8 f.args).1.length:=hi;exact(b2 i (by omega) hi').2.1
  refine⟨rfl,hsh,?_,fun g hok=> ?_⟩
  ·have e1:=f.size_eq;rw[Fm.size_eq];simp only[Fm.Ar,Fm.Ae];have s1:=OR (f:=Tm.size) (C:=4096) (C2 f.terms).1 fun t ht=>((Tm.Ad t).1 (a2 t ht)).2;have s2:=zh Tm.size Tm.size_pos f.terms;have s3:((y8 f.args).1.map Fm.size).sum<=4096*(f.args.map Fm.size).sum:=by
    have:∀(l m:List Fm),m.length=l.length->(∀(i:Nat) (h1:i<l.length) (h2:i<m.length),m[i].size<=4096*l[i].size)->(m.map Fm.size).sum<=4096*(l.map Fm.size).sum:=by
     intro l;induction l with
     |nil=>intro m hm _;have:m=[]:=List.eq_nil_of_length_eq_zero hm;subst this;simp
     |cons x l ihl=>
      intro m hm hh
      match m,hm with
      |y::m,hm=>
       have q1:=ihl m (by simpa using hm) fun i h1 h2=>by have:=hh (i+1) (by simpa using h1) (by simpa using h2);simpa using this
       have q2:=hh 0 (by simp) (by simp);simp only[List.getElem_cons_zero] at q2;simp only[List.map_cons,List.sum_cons];omega
    exact this f.args _ b1 fun i h1 h2=>(b2 i h1 h2).2.2.1
   rw[a1] at s1;omega
  ·rw[Fm.Bg] at hok ⊢;refine⟨fun t ht=>a3 g Aa hok.1 t ht,fun y hy=> ?_⟩;obtain⟨i,hi,rfl⟩:=List.getElem_of_mem hy;have hi':i<(y8 f.args).1.length:=hi;have hc:Cx g (Fm.mk f.kind f.ty (C2 f.terms).1 (y8 f.args).1)=Cx g f:=rfl;rw[hc];exact(b2 i (by omega) hi').2.2.2 _ (hok.2 _ (List.getElem_mem (by omega)))
theorem Zwb{f:Fm}(s:Tm)(hs:f.shape=true)(h:y9 0 f=0):f.A4 1 (-1)=f.put 0 s:=by
 refine Fm.AZ f 0 fun p hp=> ?_;have h1:=U2 h p hp;have h2:=Qc p hp;refine AZ p.1 0 fun q hq=> ?_;have h3:=ID h1 q hq;rw[xi,v9];have h4:=vu p.1 0 q hq;by_cases h5:q.1-q.2>=1+p.2
 ·rw[if_pos h5,if_neg h3,if_pos (by omega)];rfl
 ·rw[if_neg h5,if_neg h3,if_neg (by omega)]
theorem Yaa{f:Fm}{g:List Ty}{σ:Ty}(hσ:σ.err=0)(hs:f.shape=true)(h:y9 0 f=0)(hok:f.A9 (g++[σ])):(f.A4 1 (-1)).shape=true/\(f.A4 1 (-1)).size=f.size/\(f.A4 1 (-1)).A9 g:=by
 have h1:=(Ty.Ad σ).1 hσ;obtain⟨d1,d2,_⟩:=Zuu σ h1.1 h1.2;rw[Zwb (CM σ) hs h];refine⟨Lc (by omega) d2 hs,?_,?_⟩
 ·have:=LB 0 (CM σ) d2 f hs 0;have e:wc 0 (f.AU 0)=0:=h;show(f.re (fun b t=>t.re (xm (0+b) (CM σ)) 0) 0).size=f.size;rw[this,e,Nat.zero_mul];rfl
 ·have h3:=O4 0 (CM σ) g σ d2 (d1 g) f [] 0 rfl hs (by simpa using hok);rw[List.append_nil] at h3;exact h3
theorem Zx2{f:Fm}(hf:f.err=0)(h:(Eb f).2=0):(Eb f).1.shape=true/\(Eb f).1.size<=16777216/\y9 0 (Eb f).1=0/\(∀g,f.A9 g->(Eb f).1.A9 g)/\(Eb f).1.kind=f.kind:=by
 have s1:=(Fm.Ad _).1 hf;unfold Eb at h ⊢;by_cases h1:y9 0 f=0
 ·rw[if_pos h1];exact⟨s1.1,by simp only;omega,h1,fun g h=>h,rfl⟩
 rw[if_neg h1] at h ⊢;by_cases h2:(x7 f).2≠0
 ·rw[if_pos h2] at h;exact absurd h h2
 rw[if_neg h2] at h ⊢;by_cases h3:y9 0 (x7 f).1≠0
 ·rw[if_pos h3] at h;cases h
 rw[if_neg h3];obtain⟨k,a,b,c⟩:=S9 f (Decidable.not_not.1 h2) s1.1;exact⟨a,by simp only;omega,Decidable.not_not.1 h3,c,k⟩
theorem MD{r0 r1:Rs}(h0:BK r0)(h1:BK r1){k:Int}{c:Ck}(hc:c.ok):vv c (K3 k r0 r1 c):=by
 unfold K3;split
 ·rename_i h;exact zx c h
 rename_i e0;split
 ·exact zx c (by decide)
 rename_i e1;split
 ·exact zx c (by decide)
 rename_i e2;split
 ·rename_i h;exact zx c h
 rename_i e3;split
 ·rename_i h;exact zx c h
 rename_i e4;split
 ·exact zx c (by decide)
 intro _;obtain⟨a1,a2,a3⟩:=h0.good hc (Decidable.not_not.1 e0);have s1:=(Fm.Ad _).1 a1;have hk:(r0 c).1.kind=kI k 15 7 5:=Decidable.not_not.1 e1;have hk':4<=(r0 c).1.kind/\(r0 c).1.kind<=7:=by rw[hk,kI];split<;>omega
 obtain⟨x,e⟩:=GV s1.1 hk';have ex:x.err=0:=vw a1 (by rw[e];simp[Be]);rw[e] at a2;have o1:=I0 hk' a2;have hx:(r0 c).1.args.getD 0 Az=x:=by rw[e];rfl
 have hr:=ww (Decidable.not_not.1 e2);have hte:=HI s1.1 hk';have hb:((c.below [(r0 c).1.ty]).Au x).ok:=(hc.below (l:=[(r0 c).1.ty]) hr.1 (by simpa using hte)).Au (by simpa[Ck.below] using hr.2) ex o1;have hob:Gz r1 c (r0 c).1=r1 ((c.below [(r0 c).1.ty]).Au x):=by unfold Gz;rw[hx]
 rw[hob] at e3 e4 ⊢;obtain⟨b1,b2,b3⟩:=h1.good hb (Decidable.not_not.1 e3);obtain⟨f1,f2,f3,f4,_⟩:=Zx2 b1 (Decidable.not_not.1 e4);obtain⟨l1,l2,l3⟩:=Yaa hte f1 f3 (f4 _ b2);have hu:=A3.out (n:=c.tys.length) (m:=1) (l:=(r1 ((c.below [(r0 c).1.ty]).Au x)).2.1) (by simpa[Ck.below,Ck.Au] using b3);exact⟨l1,by simp only;omega,l3,.union a3.2 hu.2⟩
theorem Yf8(g:List Ty):zT.inf g=(Aa,0):=by simp[zT,Tm.inf,Tm.Ay,yk]
theorem Yb1(g:List Ty):CK.inf g=(Ah,0):=by simp[CK,Tm.inf,Tm.Ay,yk]
theorem Rf{c:Ck}{t:Tm}(h:Ey c t 1=0):t.err=0/\t.inf c.tys=(Aa,0):=by
 obtain⟨a,b,d,e⟩:=Sr h;exact⟨a,by rw[b,Jv d e]⟩
theorem Vx{c:Ck}{t:Tm}(h:Ey c t 2=0):t.err=0/\t.inf c.tys=(Ah,0):=by
 obtain⟨a,b,d,e⟩:=Sr h;exact⟨a,by rw[b,Oe d e]⟩
theorem Hh:Aa.err=0:=by decide
theorem KF:Ah.err=0:=by decide
theorem Ck.ok.one{c:Ck}(h:c.ok){s:Ty}(hs:s.err=0):∀x∈c.tys++[s],x.err=0:=fun x hx=>by
 rcases List.mem_append.1 hx with hx|hx
 ·exact h.all x hx
 ·simp only[List.mem_singleton] at hx;subst hx;exact hs
theorem We{r0 r1:Rs}(h0:BK r0)(h1:BK r1){f:Fm}{t:Tm}{c:Ck}(hc:c.ok):vv c (LK f t r0 r1 c):=by
 unfold LK;split
 ·rename_i h;exact zx c h
 rename_i e0;split
 ·rename_i h;exact zx c h
 rename_i e1;split
 ·rename_i h;exact zx c h
 rename_i e2;split
 ·exact zx c (by decide)
 rename_i e3;split
 ·rename_i h;exact zx c h
 intro he;obtain⟨f1,f2⟩:=JG (hc.one Hh) (Decidable.not_not.1 e0);obtain⟨t1,t2⟩:=Rf (Decidable.not_not.1 e1);obtain⟨p1,p2⟩:=LX f2 t2 he;have hr:=ww (Decidable.not_not.1 e3);have hb:((c.below [Aa]).Au f).ok:=(hc.below (l:=[Aa]) hr.1 (by simp[Hh])).Au (by simpa[Ck.below] using hr.2) f1 f2;have hu:=A3.out (n:=c.tys.length) (m:=1) (l:=(y6 r1 ((c.below [Aa]).Au f) (f.A4 1 1) (sT (vT 0))).1) (by simpa[Ck.below,Ck.Au] using w9 h1 hb (f.A4 1 1) (sT (vT 0)));refine⟨(yp p1).1,(yp p1).2,p2,.union (fun u hu=> ?_) hu.2⟩;rcases Cv.1 hu with h|h
 ·exact (ug t2).2 u h
 ·exact (w9 h0 hc f zT).2 u h
theorem VF{r0 r1:Rs}(h0:BK r0)(h1:BK r1){f:Fm}{t:Tm}{c:Ck}(hc:c.ok):vv c (Lj f t r0 r1 c):=by
 unfold Lj;split
 ·rename_i h;exact zx c h
 rename_i e0;split
 ·rename_i h;exact zx c h
 rename_i e1;split
 ·rename_i h;exact zx c h
 rename_i e2;split
 ·exact zx c (by decide)
 rename_i e3;split
 ·rename_i h;exact zx c h
 intro he;obtain⟨f1,f2⟩:=JG (hc.one KF) (Decidable.not_not.1 e0);obtain⟨t1,t2⟩:=Vx (Decidable.not_not.1 e1);obtain⟨p1,p2⟩:=LX f2 t2 he;have hr:=ww (Decidable.not_not.1 e3);have hl:=IX (g:=c.tys) (h:=[Ah]) [Aa] ((Fm.Ad f).1 f1).1 f2;have hb:((c.below [Aa,Ah]).Au (f.A4 1 1)).ok:=(hc.below (l:=[Aa,Ah]) hr.1 (by simp[Hh,KF])).Au (by simpa[Ck.below] using hr.2) (Lx f1 (by omega)) (by simpa[Ck.below] using hl);have hu:=A3.out (n:=c.tys.length) (m:=2) (l:=(y6 r1 ((c.below [Aa,Ah]).Au (f.A4 1 1)) (f.A4 1 2) BQ).1) (by simpa[Ck.below,Ck.Au] using w9 h1 hb (f.A4 1 2) BQ);refine⟨(yp p1).1,(yp p1).2,p2,.union (fun u hu=> ?_) hu.2⟩;rcases Cv.1 hu with h|h
 ·exact (ug t2).2 u h
 ·exact (w9 h0 hc f CK).2 u h
theorem Tn{t:Tm}{c:Ck}(hc:c.ok):vv c (JC t c):=by
 intro he;obtain⟨t1,t2⟩:=Rf he;have s:=(Tm.Ad t).1 t1;exact⟨Jd s.1 s.1,by show(AM t t).size<=_;rw[Iy];omega,Ci.2 ⟨t2,t2⟩,.nil _⟩
theorem Uw{r0 r1:Rs}(h0:BK r0)(h1:BK r1){f:Fm}{c:Ck}(hc:c.ok):vv c (Ma f r0 r1 c):=by
 unfold Ma;split
 ·rename_i h;exact zx c h
 rename_i e0;split
 ·rename_i h;exact zx c h
 rename_i e1;split
 ·exact zx c (by decide)
 rename_i e2;split
 ·rename_i h;exact zx c h
 intro he;obtain⟨f1,f2⟩:=JG (hc.one Hh) (Decidable.not_not.1 e0);obtain⟨a1,a2,a3⟩:=h0.good hc (Decidable.not_not.1 e1);obtain⟨x,y,e⟩:=Rz ((Fm.Ad _).1 a1).1 (Decidable.not_not.1 e2);rw[e] at a2;have hy:(r0 c).1.terms.getD 1 va=y:=by rw[e];rfl
 rw[hy] at he ⊢;obtain⟨p1,p2⟩:=LX f2 (Ci.1 a2).2 he;exact⟨(yp p1).1,(yp p1).2,p2,w9 h1 hc _ _⟩
theorem Zy8(g:List Ty)(s u:Ty):Eo.inf (g++[yo s u]++[s])=(u,0):=by
 refine J3 (a:=s) ?_ ?_
 ·rw[wm _ _ (by omega),if_neg (by simp;omega),II (by simp) (by simp),x5 (by simp)];rfl
 ·rw[wm _ _ (by omega),if_neg (by simp;omega),x5 (by simp)];rfl
theorem Vv{r0:Rs}(h0:BK r0){c:Ck}(hc:c.ok):vv c (LW r0 c):=by
 unfold LW;split
 ·rename_i h;exact zx c h
 rename_i e0;split
 ·exact zx c (by decide)
 rename_i e1;split
 ·exact zx c (by decide)
 rename_i e2;intro he;obtain⟨a1,a2,a3⟩:=h0.good hc (Decidable.not_not.1 e0);rw[not_or,Decidable.not_not,Decidable.not_not] at e1;have s1:=(Fm.Ad _).1 a1;obtain⟨x,e⟩:=GV s1.1 (by omega);have ex:x.err=0:=vw a1 (by rw[e];simp[Be]);have hx:(r0 c).1.args.getD 0 Az=x:=by rw[e];rfl
 have hte:=HI s1.1 (by omega);rw[hx] at e1;have s2:=(Fm.Ad _).1 ex;obtain⟨y,e'⟩:=GV s2.1 (by omega);have hte':=HI s2.1 (by omega);have ey:y.err=0:=vw ex (by rw[e'];simp[Be]);have hy:x.args.getD 0 Az=y:=by rw[e'];rfl
 rw[e] at a2;have o1:=I0 (by omega) a2;rw[e'] at o1;have o2:=I0 (by omega) o1;have hcf:Kt (r0 c).1=yo (r0 c).1.ty x.ty:=by unfold Kt;rw[hx]
 have hcb:L3 (r0 c).1=CP (y.A4 2 1) Eo:=by unfold L3;rw[hx,hy]
 rw[hcf] at e2 ⊢;rw[hcb] at he ⊢;have hl:=IX (g:=c.tys) (h:=[(r0 c).1.ty,x.ty]) [yo (r0 c).1.ty x.ty] ((Fm.Ad y).1 ey).1 (by simpa using o2);have hl':(y.A4 2 1).A9 (c.tys++[yo (r0 c).1.ty x.ty]++[(r0 c).1.ty]++[x.ty]):=by simpa using hl
 obtain⟨p1,p2⟩:=LX hl' (Zy8 _ _ _) he;have s3:=(Fm.Ad _).1 p1;refine⟨ul (by omega) (Decidable.not_not.1 e2) (ul (by omega) hte s3.1),by simp only[JN];omega,Ic (by omega) (Ic (by omega) p2),a3⟩
def PfOk(p:Pf):Prop:=p.shape=true/\p.small=true
theorem Vr{l:List Pf}{i:Nat}(hi:i<l.length):(l.map BR).getD i (fun _=>yg 0)=BR l[i]:=by
 rw[Mn (by simpa using hi),List.getElem_map]
theorem wg{p:Pf}(h:p.shape=true):p.head=true/\(∀t∈p.terms,t.shape=true)/\(∀f∈p.Aq,f.shape=true)/\∀x∈p.args,x.shape=true:=by
 rw[p.Ag] at h;simp only[Bool.and_eq_true,List.all_eq_true] at h;exact⟨h.1.1.1,h.1.1.2,h.1.2,h.2⟩
theorem Yd9{t:Ty}(h:t.ok=true):t.err=0:=by
 simp only[Ty.ok,Bool.and_eq_true,decide_eq_true_eq] at h;exact(Ty.Ad t).2 h
theorem Qz{p:Pf}(h:p.head=true):∃nd,C1 p.kind=some nd/\p.terms.length=nd.terms/\p.Aq.length=nd.Aq/\p.args.length=nd.args/\0<=p.index/\(nd.typ=true->p.ty.err=0)/\1<=p.kind/\p.kind<=20:=by
 unfold Pf.head at h;cases hn:C1 p.kind with
 |none=>rw[hn] at h;cases h
 |some nd=>
  rw[hn] at h;have hk:1<=p.kind/\p.kind<=20:=by
   refine Decidable.byContradiction fun hc=> ?_;have:C1 p.kind=none:=by
    unfold C1
    repeat rw[if_neg (by omega)]
   rw[this] at hn;cases hn
  simp only[Bool.and_eq_true,decide_eq_true_eq,beq_iff_eq] at h;refine⟨nd,rfl,by omega,by omega,by omega,by omega,fun ht=> ?_,hk⟩;simp only[ht,if_true] at h;exact Yd9 h.2
theorem N8(p:Pf):p.shape=true->BK (BR p):=by
 induction p using Pf.ind with
 |h p ih=>
  intro hs c hc;rw[Q3];refine Yej ?_;obtain⟨h1,h2,h3,h4⟩:=wg hs;obtain⟨nd,n1,n2,n3,n4,n5,n6,n7⟩:=Qz h1;have hrs:∀i,i<p.args.length->BK ((p.args.map BR).getD i fun _=>yg 0):=fun i hi=>by
   rw[Vr hi];exact ih _ (List.getElem_mem hi) (h4 _ (List.getElem_mem hi))
  have hk:p.kind=1\/p.kind=2\/p.kind=3\/p.kind=4\/p.kind=5\/p.kind=6\/p.kind=7\/p.kind=8\/p.kind=9\/p.kind=10\/p.kind=11\/p.kind=12\/p.kind=13\/p.kind=14\/p.kind=15\/p.kind=16\/p.kind=17\/p.kind=18\/p.kind=19\/p.kind=20:=by omega
  unfold Hv;rcases hk with e|e|e|e|e|e|e|e|e|e|e|e|e|e|e|e|e|e|e|e<;>rw[e] at n1 ⊢<;>simp only[C1] at n1<;>(try(simp at n1))<;>(try subst n1)<;>simp only[reduceIte,Int.reduceEq,or_false,false_or,or_true,true_or]<;>simp only at n4 n6
  ·exact TQ hc n5
  ·exact SA hc n5
  ·exact Sv (hrs 0 (by omega)) (hrs 1 (by omega)) hc
  ·exact MQ (hrs 0 (by omega)) hc (by decide)
  ·exact MQ (hrs 0 (by omega)) hc (by decide)
  ·exact To (hrs 0 (by omega)) hc
  ·exact UB (hrs 0 (by omega)) (hrs 1 (by omega)) hc
  ·exact Ob (hrs 0 (by omega)) (n6 trivial) hc
  ·exact NV (hrs 0 (by omega)) hc
  ·exact Nc (hrs 0 (by omega)) hc
  ·exact MD (hrs 0 (by omega)) (hrs 1 (by omega)) hc
  ·exact Ob (hrs 0 (by omega)) (n6 trivial) hc
  ·exact NV (hrs 0 (by omega)) hc
  ·exact Nc (hrs 0 (by omega)) hc
  ·exact MD (hrs 0 (by omega)) (hrs 1 (by omega)) hc
  ·exact We (hrs 0 (by omega)) (hrs 1 (by omega)) hc
  ·exact VF (hrs 0 (by omega)) (hrs 1 (by omega)) hc
  ·exact Tn hc
  ·exact Uw (hrs 0 (by omega)) (hrs 1 (by omega)) hc
  ·exact Vv (hrs 0 (by omega)) hc
theorem OY{α:Type}{l:List α}(h:l.length=1):∃a,l=[a]:=by
 match l,h with
 |[a],_=>exact⟨a,rfl⟩
theorem ln2{α:Type}{l:List α}(h:l.length=2):∃a b,l=[a,b]:=by
 match l,h with
 |[a,b],_=>exact⟨a,b,rfl⟩
theorem Qh{α:Type}{l:List α}(h:l.length=0):l=[]:=List.eq_nil_of_length_eq_zero h
theorem Yam{p:Pf}(hs:p.shape=true){c:Ck}(hc:c.ok):vv c (Hv p.kind p.index p.ty p.terms p.Aq (p.args.map BR) c):=by
 obtain⟨h1,h2,h3,h4⟩:=wg hs;obtain⟨nd,n1,n2,n3,n4,n5,n6,n7⟩:=Qz h1;have hrs:∀i,i<p.args.length->BK ((p.args.map BR).getD i fun _=>yg 0):=fun i hi=>by
  rw[Vr hi];exact N8 _ (h4 _ (List.getElem_mem hi))
 have hk:p.kind=1\/p.kind=2\/p.kind=3\/p.kind=4\/p.kind=5\/p.kind=6\/p.kind=7\/p.kind=8\/p.kind=9\/p.kind=10\/p.kind=11\/p.kind=12\/p.kind=13\/p.kind=14\/p.kind=15\/p.kind=16\/p.kind=17\/p.kind=18\/p.kind=19\/p.kind=20:=by omega
 unfold Hv;rcases hk with e|e|e|e|e|e|e|e|e|e|e|e|e|e|e|e|e|e|e|e<;>rw[e] at n1 ⊢<;>simp only[C1] at n1<;>(try(simp at n1))<;>(try subst n1)<;>simp only[reduceIte,Int.reduceEq,or_false,false_or,or_true,true_or]<;>simp only at n4 n6
 ·exact TQ hc n5
 ·exact SA hc n5
 ·exact Sv (hrs 0 (by omega)) (hrs 1 (by omega)) hc
 ·exact MQ (hrs 0 (by omega)) hc (by decide)
 ·exact MQ (hrs 0 (by omega)) hc (by decide)
 ·exact To (hrs 0 (by omega)) hc
 ·exact UB (hrs 0 (by omega)) (hrs 1 (by omega)) hc
 ·exact Ob (hrs 0 (by omega)) (n6 trivial) hc
 ·exact NV (hrs 0 (by omega)) hc
 ·exact Nc (hrs 0 (by omega)) hc
 ·exact MD (hrs 0 (by omega)) (hrs 1 (by omega)) hc
 ·exact Ob (hrs 0 (by omega)) (n6 trivial) hc
 ·exact NV (hrs 0 (by omega)) hc
 ·exact Nc (hrs 0 (by omega)) hc
 ·exact MD (hrs 0 (by omega)) (hrs 1 (by omega)) hc
 ·exact We (hrs 0 (by omega)) (hrs 1 (by omega)) hc
 ·exact VF (hrs 0 (by omega)) (hrs 1 (by omega)) hc
 ·exact Tn hc
 ·exact Uw (hrs 0 (by omega)) (hrs 1 (by omega)) hc
 ·exact Vv (hrs 0 (by omega)) hc
theorem T8(f:Fm):(f.args.getD 0 Az).full<=f.full+2:=by
 cases h:f.args with
 |nil=>exact Nat.le_trans (by decide:Az.full<=2) (by omega)
 |cons x l=>
  have:=ze Fm.full (l:=f.args) (t:=x) (by rw[h];simp);have:=f.Af;simp only[List.getD_cons_zero];omega
def CU(lems:List Fm)(tys:List Ty)(hyps:List Fm):Int:=
 if lems.length>32 then 3 else if yw (yb []) lems≠0 then yw (yb []) lems else if y1 tys≠0 then y1 tys
 else if hyps.length>16 then 3 else yw (yb tys) hyps
theorem V9{lems:List Fm}{tys:List Ty}{hyps:List Fm}(h:CU lems tys hyps=0):(Ck.mk lems tys hyps).ok:=by
 unfold CU at h;by_cases h1:lems.length>32
 ·rw[if_pos h1] at h;cases h
 rw[if_neg h1] at h;by_cases h2:yw (yb []) lems≠0
 ·rw[if_pos h2] at h;exact absurd h h2
 rw[if_neg h2] at h;by_cases h3:y1 tys≠0
 ·rw[if_pos h3] at h;exact absurd h h3
 rw[if_neg h3] at h;by_cases h4:hyps.length>16
 ·rw[if_pos h4] at h;cases h
 rw[if_neg h4] at h;exact⟨Decidable.not_not.1 h3,by simp only;omega,by simp only;omega,fun f hf=>xv (ud h f hf),fun f hf=>xv (ud (Decidable.not_not.1 h2) f hf)⟩
theorem RH{c:Ck}(h:c.ok):CU c.lems c.tys c.hyps=0:=by
 unfold CU;rw[if_neg (by have:=h.nl;omega),if_neg,if_neg (by simp[h.ctx]),if_neg (by have:=h.nh;omega)]
 ·exact ML fun f hf=>Wu (h.hyps f hf).2 (h.hyps f hf).1 h.ctx
 ·rw[ML fun f hf=>Wu (h.lems f hf).2 (h.lems f hf).1 rfl];simp
def GH(lems:List Fm)(tys:List Ty)(hyps:List Fm)(p:Pf):B4:=
 if CU lems tys hyps≠0 then yg (CU lems tys hyps) else if p.err≠0 then yg p.err else BR p ⟨lems,tys,hyps⟩
def Yht(lems:List Fm)(tys:List Ty)(hyps:List Fm)(p:Pf)(f:Fm):Int:=
 if(GH lems tys hyps p).2.2≠0 then(GH lems tys hyps p).2.2 else if yb tys f≠0 then yb tys f else LJ (GH lems tys hyps p).1 f
def DF(k:Int):Int:=if k=16\/k=17\/k=19 then 1 else 0
def El(k:Int):Int:=if k=17 then 2 else if k=8\/k=12\/k=11\/k=15\/k=16 then 1 else 0
def Gw(k:Int):Int:=if k=6\/k=11\/k=15\/k=16\/k=17 then 1 else 0
def ruC(k:Int):List V:=match C1 k with
 |some n=>[.bool n.index,.bool n.typ,.i n.terms,.i n.Aq,.i n.args,.i (DF k),.i (El k),.i (Gw k)]
 |none=>[.bool false,.bool false,.i 0,.i 0,.i 0,.i 0,.i 0,.i 0]
abbrev Tl:=Nat×Bool
def J9:List Tm->Tl->Bool×Tl
 |[],s=>(true,s)
 |t::l,s=>if t.err=2 then(false,(s.1+t.num.toNat,s.2||t.err==4)) else J9 l (s.1+t.num.toNat,s.2||t.err==4)
def N2:List Fm->Tl->Bool×Tl
 |[],s=>(true,s)
 |t::l,s=>if t.err=2 then(false,(s.1+t.num.toNat,s.2||t.err==4)) else N2 l (s.1+t.num.toNat,s.2||t.err==4)
def Pf.hdA(p:Pf):Bool:=match C1 p.kind with
 |none=>false
 |some n=>p.terms.length==n.terms&&p.Aq.length==n.Aq&&p.args.length==n.args&&decide (0<=p.index)&&(n.index||p.index==0)
def Pf.hdT(p:Pf):Bool:=match C1 p.kind with
 |none=>false
 |some n=>if n.typ=true then p.ty.ok else p.ty.Bw
mutual
def Rx:Pf->Tl->Bool×Tl
 | .mk k i h ts fs zs,s=>
   if Pf.hdA (.mk k i h ts fs zs)=false then(false,s) else if Pf.hdT (.mk k i h ts fs zs)=false then(false,(s.1+1,s.2))
   else if(J9 ts (s.1+1,s.2)).1=false then J9 ts (s.1+1,s.2)
   else if(N2 fs (J9 ts (s.1+1,s.2)).2).1=false then N2 fs (J9 ts (s.1+1,s.2)).2
   else LG zs (N2 fs (J9 ts (s.1+1,s.2)).2).2
def LG:List Pf->Tl->Bool×Tl
 |[],s=>(true,s)
 |p::l,s=>if(Rx p s).1=false then Rx p s else LG l (Rx p s).2
end
theorem Zzl{p:Pf}(hs:p.shape=true):∃nd,C1 p.kind=some nd/\p.terms.length=nd.terms/\p.Aq.length=nd.Aq/\p.args.length=nd.args/\0<=p.index/\(nd.index=false->p.index=0)/\(nd.typ=true->p.ty.err=0)/\(nd.typ=false->p.ty= .mk 0 [])/\1<=p.kind/\p.kind<=20:=by
 have h:=(wg hs).1;obtain⟨nd,n1,n2,n3,n4,n5,n6,n7⟩:=Qz h;refine⟨nd,n1,n2,n3,n4,n5,?_,n6,?_,n7⟩
 ·intro hi;unfold Pf.head at h;rw[n1] at h;simp only[Bool.and_eq_true,decide_eq_true_eq,beq_iff_eq,Bool.or_eq_true] at h;rcases h.1.2 with h2|h2
  ·rw[hi] at h2;cases h2
  ·exact h2
 ·intro hi;unfold Pf.head at h;rw[n1] at h;simp only[Bool.and_eq_true,decide_eq_true_eq,beq_iff_eq,Bool.or_eq_true] at h;have h2:=h.2;rw[if_neg (by simp[hi])] at h2;exact Ty.Dj h2
def Pf.num(p:Pf):Int:=if p.err=0 then p.size else 0
theorem Vm{c:Ck}{s:Tm}(hk:Ey c s 1=0)(he:(AM s s).err=0):BR (xd s) c=(AM s s,[],0):=by
 rw[Q3];have e:Hv (xd s).kind (xd s).index (xd s).ty (xd s).terms (xd s).Aq ((xd s).args.map BR) c=JC s c:=rfl;rw[e];unfold JC Ju;rw[hk,if_neg (by simp),if_neg (by simp[he])];simp only;split<;>rfl
def FM(f:Fm)(p q:Pf):Pf:= .mk 19 0 (.mk 0 []) [] [f] [p,q]
theorem UP{c:Ck}(hc:c.ok){s:Tm}(he:s.err=0)(hi:s.inf c.tys=(Aa,0)):Ey c s 1=0:=by
 have e:y3 c.tys s=(Aa,0):=by
  unfold y3 Dr;rw[if_neg (by simp[hc.ctx]),if_neg (by simp[he]),hi]
 unfold Ey;rw[e];rfl
structure B5 (g:List Ty) (s:Tm):Prop where
 err:s.err=0
 inf:s.inf g=(Aa,0)
 size:s.size<=900
theorem B5.shape{g:List Ty}{s:Tm}(h:B5 g s):s.shape=true:=((Tm.Ad s).1 h.err).1
theorem B5.near{g:List Ty}{s:Tm}(h:B5 g s)(hg:g.length<=1000):s.near=true:=KZ (by rw[h.inf]) h.shape (by have:=h.size;omega)
theorem Rt{a b:Tm}(ha:a.shape=true)(hb:b.shape=true)(hz:a.size+b.size<=4095):(AM a b).err=0:=
 (Fm.Ad _).2 ⟨Jd ha hb,by rw[Iy];omega⟩
theorem R3(g:List Ty)(u:Ty):(vT 0).inf (g++[u])=(u,0):=by
 rw[wm _ _ (by omega),if_neg (by simp)];have:D9 (g++[u]) 0=D9 [u] 0:=x5 (by simp);simp only[Int.toNat_zero];rw[this];rfl
theorem Yhy(a b:Tm):wc 0 ((AM a b).AU 0)=cnt 0 (a.vars 0)+cnt 0 (b.vars 0):=by
 simp[AM,Fm.AU,Fm.Fv,wc]
theorem Ygc{a b:Tm}(ha:a.near=true)(hb:b.near=true):(AM a b).near=true:=by
 unfold Fm.near;simp[AM,Fm.AU,Fm.Fv,ha,hb]
structure CJ (g:List Ty) (a b:Tm):Prop where
 sa:a.shape=true
 sb:b.shape=true
 ia:a.inf (g++[Aa])=(Aa,0)
 ib:b.inf (g++[Aa])=(Aa,0)
 sz:a.size+b.size<=3000
theorem CJ.err{g:List Ty}{a b:Tm}(h:CJ g a b):(AM a b).err=0:=Rt h.sa h.sb (by have:=h.sz;omega)
theorem CJ.near{g:List Ty}{a b:Tm}(h:CJ g a b)(hg:g.length<=16):(AM a b).near=true:=
 Ygc (KZ (by rw[h.ia]) h.sa (by have:=h.sz;simp;omega)) (KZ (by rw[h.ib]) h.sb (by have:=h.sz;simp;omega))
theorem CJ.put{g:List Ty}{a b s:Tm}(h:CJ g a b)(hg:g.length<=16)(hs:B5 g s)(hz:1+a.size+b.size+(cnt 0 (a.vars 0)+cnt 0 (b.vars 0))*s.size<=4096):ye (AM a b) 0 s=0:=by
 unfold ye;rw[if_neg (by simp[h.err]),if_neg (by omega),if_neg (by simp[hs.err]),if_neg (by simp[h.near hg,hs.near (by omega)]),if_neg];rw[Yhy,Iy];have hp:=s.size_pos;have hm:(cnt 0 (a.vars 0)+cnt 0 (b.vars 0))*(s.size-1)<=(cnt 0 (a.vars 0)+cnt 0 (b.vars 0))*s.size:=Nat.mul_le_mul_left _ (by omega);have e:(((cnt 0 (a.vars 0)+cnt 0 (b.vars 0):Nat):Int)*((s.size:Int)-1))=(((cnt 0 (a.vars 0)+cnt 0 (b.vars 0))*(s.size-1):Nat):Int):=by
  rw[Int.natCast_mul];congr 1;omega
 rw[e];omega
def L5(s:Tm)(p:Pf):Pf:=FM (AM (vT 0) (s.re (zn 0 1) 0)) p (xd s)
def Ra(s:Tm)(p q:Pf):Pf:=FM (AM (s.re (zn 0 1) 0) (vT 0)) q p
def HK(g s:Tm)(p:Pf):Pf:=FM (AM (AP (g.re (zn 0 1) 0) (s.re (zn 0 1) 0)) (AP (g.re (zn 0 1) 0) (vT 0))) p (xd (AP g s))
def injP(s:Tm)(p:Pf):Pf:=FM (AM (s.re (zn 0 1) 0) (AP BS (vT 0))) p (xd s)
def TG(s t n:Tm):Tm:= .mk 6 0 Aa [s,BB Aa (BB Aa (t.re (zn 0 2) 0)),n]
def NW(p:Pf):Pf:=FM (AM zT (TG zT (sT zT) (vT 0))) p (xd zT)
theorem B5.refl{c:Ck}(hc:c.ok){s:Tm}(h:B5 c.tys s):BR (xd s) c=(AM s s,[],0):=
 Vm (UP hc h.err h.inf) (Rt h.shape h.shape (by have:=h.size;omega))
theorem B5.Gj{g:List Ty}{s t:Tm}(hs:B5 g s)(ht:B5 g t):(AM s t).err=0:=Rt hs.shape ht.shape (by have:=hs.size;have:=ht.size;omega)
structure Uy (g:List Ty) (f:Tm):Prop where
 err:f.err=0
 inf:f.inf g=(yo Aa Aa,0)
 size:f.size<=500
def Dk.CI:Nat->Dk->List Ty->List Fm×Dk
 |0,d,_=>([],d)
 |n+1,d,g=>((Dk.fm 2 d g).1::(Dk.CI n (Dk.fm 2 d g).2 g).1,(Dk.CI n (Dk.fm 2 d g).2 g).2)
theorem Dk.Db:∀(n:Nat) (d:Dk) (g:List Ty),Dk.CI (n+1) d g=((Dk.CI n d g).1++[(Dk.fm 2 (Dk.CI n d g).2 g).1],(Dk.fm 2 (Dk.CI n d g).2 g).2)
 |0,d,g=>rfl
 |n+1,d,g=>by
  have ih:=Dk.Db n (Dk.fm 2 d g).2 g;rw[Dk.CI,ih];rfl
theorem Dk.Cz:∀(n:Nat) (d:Dk) (g:List Ty),(Dk.CI n d g).1.length=n
 |0,_,_=>rfl
 |n+1,d,g=>by simp[Dk.CI,Dk.Cz n]
theorem Dk.Dc:∀(n:Nat) (d:Dk) (g:List Ty),d.ok->(Dk.CI n d g).2.ok
 |0,_,_,h=>h
 |n+1,d,g,h=>Dk.Dc n _ g (Dk.DC 2 d g h)
theorem Dk.Dd:∀(n:Nat) (d:Dk) (g:List Ty),Ai g->∀f∈(Dk.CI n d g).1,f.err=0/\f.A9 g
 |0,_,_,_,f,h=>by cases h
 |n+1,d,g,hg,f,h=>by
  simp only[Dk.CI,List.mem_cons] at h;rcases h with rfl|h
  ·exact ⟨Ybw (Dk.CC 2 d g hg),Dk.EM 2 d g hg⟩
  ·exact Dk.Dd n _ g hg f h
def Dk.JB(d:Dk):Nat:=(d.ctx.2.next 3).1.toNat
def Dk.EV(d:Dk):List Fm:=(Dk.CI d.JB (d.ctx.2.next 3).2 d.ctx.1).1
def Dk.Hj(d:Dk):Dk:=(Dk.CI d.JB (d.ctx.2.next 3).2 d.ctx.1).2
theorem Dk.Ik(d:Dk):d.JB<=2:=by have:=Dk.Bb d.ctx.2 3 (by omega);unfold Dk.JB;omega
theorem Dk.Ip{d:Dk}(h:d.ok):d.Hj.ok:=Dk.Dc _ _ _ (Dk.AA (Dk.DP h) 3)
theorem Dk.EZ(d:Dk):d.EV.length<=2:=by unfold Dk.EV;rw[Dk.Cz];exact d.Ik
def Dk.Mu(d:Dk):Ck:=⟨[],d.ctx.1,d.EV⟩
theorem Dk.Gv(d:Dk):d.Mu.ok:=
 ⟨Zvi (g:=d.ctx.1) d.Bx (by have:=d.Cl;omega),by have:=d.EZ;simp only[Dk.Mu];omega,by simp[Dk.Mu],Dk.Dd _ _ _ d.Bx,fun f h=>by cases h⟩
theorem u9(d:Dk){g:List Ty}(hg:Ai g):B5 g (Dk.tm 3 d g Aa).1/\(Dk.tm 3 d g Aa).1.size<=60:=by
 have m:=Dk.Cc 3 d g Aa hg zi (by omega) (by omega);have h1:=(m.size hg zi).2 rfl;have h2:=KG;exact⟨⟨m.err hg zi (by omega),m.inf hg zi,by omega⟩,by omega⟩
def Dk.w0(d:Dk):Tm×Dk:=Dk.tm 3 d.Hj d.ctx.1 Aa
def Dk.w1(d:Dk):Tm×Dk:=Dk.tm 3 d.w0.2 d.ctx.1 Aa
def Dk.w2(d:Dk):Tm×Dk:=Dk.tm 3 d.w1.2 d.ctx.1 Aa
def Dk.wH(d:Dk):List Fm:=d.EV++[AM d.w0.1 d.w1.1,AM d.w1.1 d.w2.1]
def Dk.wC(d:Dk):Ck:=⟨[],d.ctx.1,d.wH⟩
abbrev uv(i:Int):Pf:= .mk 1 i (.mk 0 []) [] [] []
theorem SO{s:Tm}(h:s.err=0):(xd s).err=0:=by
 have h1:=(Tm.Ad s).1 h;rw[Pf.Ad];refine⟨?_,?_,?_⟩
 ·rw[Pf.Ag];simp[xd,Pf.head,C1,h1.1,Ty.Bw,Ty.kind,Ty.args]
 ·rw[Pf.CA];simp[xd,h1.2]
 ·rw[Pf.size_eq];simp[xd];omega
theorem Zsn(s:Tm):(xd s).size=1+s.size:=by rw[Pf.size_eq];simp[xd]
def Gb(a:Int)(fs:List Tm)(n m:Nat):St:=⟨13,if m=0 then a else 0,[fs.getD (n-1-m) va],[]⟩
def Il(a:Int)(n m:Nat):St:=⟨14,if m=0 then(if n=0 then a else 0) else 0,[],[]⟩
def Ez(a:Int)(fs:List Tm)(n m:Nat):List St:=(List.range m).map (Gb a fs n)
def Ev(a:Int)(n m:Nat):List St:=(List.range m).map (Il a n)
theorem NH(a:Int)(fs:List Tm)(n m:Nat):Ez a fs n (m+1)=Ez a fs n m++[Gb a fs n m]:=by simp[Ez,List.range_succ]
theorem MU(a:Int)(n m:Nat):Ev a n (m+1)=Ev a n m++[Il a n m]:=by simp[Ev,List.range_succ]
def Q6(a:Int)(n m:Nat):St:=⟨1,if m=0 then(if n=0 then a else 0) else 0,[],[]⟩
def vd(lem:Bool)(i:Int):List St:=if lem=true then [⟨15,i,[],[]⟩] else []
def GM(lem:Bool)(i:Int):Int:=if lem=true then 0 else i
def useR(lem:Bool)(i:Int)(n:Nat)(ps:List Fm)(c g:Fm):List St×List Fm×Int:=
 if(xq c n g).2≠0 then([],[],(xq c n g).2)
 else if yw (fun p=>(fill p (xq c n g).1).2) ps≠0 then([],[],yw (fun p=>(fill p (xq c n g).1).2) ps)
 else(vd lem i++Ez (GM lem i) (xq c n g).1 n n++Ev (GM lem i) n ps.length++[Q6 (GM lem i) n ps.length],ps.map fun p=>(fill p (xq c n g).1).1,0)
theorem Zsj{p f:Fm}{h:Int}(he:(xq p h f).2=0):(xq p h f).1.length=h.toNat/\0<=h/\h<=16:=by
 unfold xq at he ⊢;by_cases h1:p.err≠0
 ·rw[if_pos h1] at he;exact absurd he h1
 rw[if_neg h1] at he ⊢;by_cases h2:f.err≠0
 ·rw[if_pos h2] at he;exact absurd he h2
 rw[if_neg h2] at he ⊢;by_cases h3:¬(0<=h/\h<=16)\/p.AK=false\/f.AK=false
 ·rw[if_pos h3] at he;cases he
 rw[if_neg h3] at he ⊢;have hr:0<=h/\h<=16:=Classical.not_not.1 fun hc=>h3 (.inl hc);by_cases h4:(mF h 0 p f []).1=false
 ·rw[if_pos h4] at he;cases he
 rw[if_neg h4] at he ⊢;split at he
 ·cases he
 ·next h5=>
  rw[if_neg h5];split at he
  ·cases he
  ·next h6=>
   rw[if_neg h6];exact⟨by simp[Cp],hr.1,hr.2⟩
def lim(e:Int):Prop:=e=0\/e=4\/e=5\/e=3
def Dk.nH(d:Dk):List Fm:=d.wH++[AM (sT d.w0.1) (sT d.w2.1),AM zT (sT d.w1.1)]
def Dk.nC(d:Dk):Ck:=⟨[],d.ctx.1,d.nH⟩
theorem Ib{g g':Int->Int->Tm}(h:∀i c,g i c=g' i c)(t:Tm)(b:Int):t.re g b=t.re g' b:=by
 have:g=g':=funext fun i=>funext fun c=>h i c;rw[this]
theorem Fm.C3(G:Int->Tm->Tm)(c:Int)(f:Fm):∀b,f.re G (b+c)=f.re (fun b t=>G (b+c) t) b:=by
 induction f using Fm.ind with
 |h f ih=>
  intro b;have e:AB f.kind (b+c)=AB f.kind b+c:=by simp only[AB];split<;>omega
  rw[Fm.Bn,Fm.Bn,e];congr 1;exact List.map_congr_left fun x hx=>ih x hx _
theorem Fm.Ib{G G':Int->Tm->Tm}(h:∀b t,0<=b->G b t=G' b t)(f:Fm):f.re G 0=f.re G' 0:=by
 refine Fm.AZ f 0 fun p hp=>h _ _ ?_;exact Qc p hp
theorem Qa(f:Fm)(a:Int)(s:Tm):f.put a s=f.re (fun b t=>t.re (xm (a+b) s) 0) 0:=rfl
theorem Yg0{k:Int}(hk:y7 k=true)(s:Ty)(f:Fm)(a:Int)(x:Tm):(Be k s f).put a x=Be k s (f.put (a+1) x):=by
 rw[Qa,Fm.Bn];simp only[Be,Fm.kind,Fm.ty,Fm.terms,Fm.args,List.map_nil,List.map_cons];congr 2;have e:AB k 0=0+1:=by simp[AB,hk]
 rw[e,Fm.C3,Qa];refine Fm.Ib (fun b t _=> ?_) f;rw[show a+(b+1)=a+1+b by omega]
structure Gf (g:List Ty) (f:Fm) (n:Nat):Prop where
 sh:f.shape=true
 sz:f.size<=n
 ok:f.A9 g
structure Gt (g:List Ty) (s:Tm) (T:Ty) (m:Nat):Prop where
 sh:s.shape=true
 sz:s.size<=m
 inf:s.inf g=(T,0)
theorem Gf.err{g:List Ty}{f:Fm}{n:Nat}(h:Gf g f n)(hn:n<=4096):f.err=0:=(Fm.Ad f).2 ⟨h.sh,Nat.le_trans h.sz hn⟩
theorem Gt.err{g:List Ty}{s:Tm}{T:Ty}{m:Nat}(h:Gt g s T m)(hn:m<=4096):s.err=0:=(Tm.Ad s).2 ⟨h.sh,Nat.le_trans h.sz hn⟩
theorem TU(f:Fm)(a:Int):wc a (f.AU 0)<=f.size:=by
 have h1:=Je a (f.AU 0);have h2:=Lr f 0;omega
theorem Gf.put{g:List Ty}{f:Fm}{n m:Nat}{s:Tm}{T:Ty}(hf:Gf (g++[T]) f n)(hs:Gt g s T m)(hm:1<=m)(hz:n*m<=4096)(hg:g.length<=20):
 ye f 0 s=0/\Gf g (f.put 0 s) (n*m):=by
 have hn:n<=n*m:=Nat.le_mul_of_pos_right n hm;have ef:=hf.err (by omega);have hp:=s.size_pos;have p2:=f.size_pos;have hmz:m<=4096:=by
  have:1*m<=n*m:=Nat.mul_le_mul_right m (by have:=hf.sz;omega);omega
 have es:=hs.err hmz;have nf:=(Zs4 hf.ok ef (by simp;omega)).1;have ns:=KZ (t:=s) (g:=g) (by rw[hs.inf]) hs.sh (by have:=hs.sz;omega);have hc:=TU f 0;have h1:wc 0 (f.AU 0)*(s.size-1)<=n*(m-1):=Nat.mul_le_mul (Nat.le_trans hc hf.sz) (by have:=hs.sz;omega);have h2:n*(m-1)+n=n*m:=by rw[<-Nat.mul_succ];congr 1;omega
 have h3:=hf.sz;refine⟨?_,Lc (by omega) hs.sh hf.sh,?_,?_⟩
 ·unfold ye;rw[if_neg (by simp[ef]),if_neg (by omega),if_neg (by simp[es]),if_neg (by simp[nf,ns]),if_neg];have e:((wc 0 (f.AU 0):Int)*((s.size:Int)-1))=((wc 0 (f.AU 0)*(s.size-1):Nat):Int):=by
   rw[Int.natCast_mul];congr 1;omega
  rw[e];omega
 ·have h4:=LB 0 s hs.sh f hf.sh 0;have h5:(f.put 0 s).size=f.size+wc 0 (f.AU 0)*(s.size-1):=h4;omega
 ·have h6:=O4 0 s g T hs.sh hs.inf f [] 0 rfl hf.sh (by simpa using hf.ok);have h7:(f.put 0 s).A9 (g++[]):=h6;simpa using h7
theorem Gf.A4{g h:List Ty}(m:List Ty){f:Fm}{n:Nat}(hf:Gf (g++h) f n):Gf (g++m++h) (f.A4 h.length m.length) n:=
 have hk:=Lw hf.sh (fr:=h.length) (by_:=m.length) (by omega)
 ⟨hk.1,by rw[hk.2.1];exact hf.sz,IX m hf.sh hf.ok⟩
theorem Gf.qu{g:List Ty}{s:Ty}{f:Fm}{n:Nat}(k:Int)(hk:4<=k/\k<=7)(hs:s.err=0)(hf:Gf (g++[s]) f n):Gf g (Be k s f) (n+1):=
 ⟨ul hk hs hf.sh,by rw[JN];have:=hf.sz;omega,Ic hk hf.ok⟩
theorem Gt.zero(g:List Ty):Gt g zT Aa 1:=⟨by decide,by decide,Yf8 g⟩
theorem Gt.nil(g:List Ty):Gt g CK Ah 1:=⟨by decide,by decide,Yb1 g⟩
theorem Gt.v0(g:List Ty)(u:Ty):Gt (g++[u]) (vT 0) u 1:=⟨by decide,by decide,R3 g u⟩
theorem Gt.v1(g:List Ty)(u w:Ty):Gt (g++[u,w]) (vT 1) u 1:=by
 refine⟨by decide,by decide,?_⟩;rw[wm _ _ (by omega),if_neg (by simp;omega)];have:D9 (g++[u,w]) 1=D9 [u,w] 1:=x5 (by simp);simp only[show(1:Int).toNat=1 from rfl];rw[this];rfl
theorem Gt.cons(g:List Ty):Gt (g++[Aa,Ah]) BQ Ah 3:=by
 have h1:=(Gt.v1 g Aa Ah).inf;have h0:(vT 0).inf (g++[Aa,Ah])=(Ah,0):=by
  have:=(Gt.v0 (g++[Aa]) Ah).inf;simpa using this
 exact⟨by decide,by decide,by
  have e:BQ.inf (g++[Aa,Ah])=(Ah,0):=by simp[BQ,Tm.inf,Tm.Ay,yk,h0,h1]
  exact e⟩
def Yhr(f:Fm)(p q:Pf):Pf:= .mk 8 0 Aa [] [] [.mk 16 0 (.mk 0 []) [vT 0] [f.A4 1 1] [p,.mk 9 0 (.mk 0 []) [vT 0] [] [q]]]
def Qu(f:Fm)(p q:Pf):Pf:= .mk 8 0 Ah [] [] [.mk 17 0 (.mk 0 []) [vT 0] [f.A4 1 1] [p,.mk 9 0 (.mk 0 []) [vT 0] [] [.mk 9 0 (.mk 0 []) [vT 1] [] [q]]]]
end Go.Ab
namespace Go.Ab
open Go
set_option linter.all false
set_option maxHeartbeats 1000000
def Dk.cf(d:Dk):Fm×Dk:=Dk.fm 2 d.Hj (d.ctx.1++[Aa])
def Dk.cg(d:Dk):Fm×Dk:=Dk.fm 2 d.cf.2 (d.ctx.1++[Ah])
def Yh1(f:Fm):Fm:=f.put 0 zT
def Yh0(f:Fm):Fm:=(f.A4 1 1).put 0 (sT (vT 0))
def Yib(f:Fm):Fm:=f.put 0 CK
def Yin(f:Fm):Fm:=(f.A4 1 2).put 0 BQ
def Dk.cH(d:Dk):List Fm:=d.EV++[Yh1 d.cf.1,Be 4 Aa (Yh0 d.cf.1),Yib d.cg.1,Be 4 Aa (Be 4 Ah (Yin d.cg.1))]
def Dk.cC(d:Dk):Ck:=⟨[],d.ctx.1,d.cH⟩
end Go.Ab
namespace Go.Ab
open Go
set_option linter.all false
mutual
def Pf.up(fr b v:Int):Pf->Pf
 | .mk k i s ts fs zs=> .mk k i s (ts.map fun t=>t.re (zn (fr+v) b) 0) (fs.map fun f=>f.A4 (fr+(v+DF k)) b) (Pf.S0 fr b v (El k) zs)
def Pf.S0(fr b v w:Int):List Pf->List Pf
 |[]=>[]
 |p::l=>Pf.up fr b (if l.length=0 then v+w else v) p::Pf.S0 fr b v w l
end
mutual
def Pf.lh(fr b y:Int):Pf->Pf
 | .mk k i s ts fs zs=>if k=1 then .mk 1 (if i-y>=fr then i+b else i) (.mk 0 []) [] [] [] else .mk k i s ts fs (Pf.lhs fr b y (Gw k) zs)
def Pf.lhs(fr b y w:Int):List Pf->List Pf
 |[]=>[]
 |p::l=>Pf.lh fr b (if l.length=0 then y+w else y) p::Pf.lhs fr b y w l
end
mutual
def Pf.ix(C:Int):Pf->Prop
 | .mk _ _ _ ts fs zs=>(∀t∈ts,∀p∈t.vars 0,0<=p.1/\p.1<C)/\(∀f∈fs,∀p∈f.AU 0,∀q∈p.1.vars 0,0<=q.1/\q.1<C)/\Pf.ixs C zs
def Pf.ixs(C:Int):List Pf->Prop
 |[]=>True
 |p::l=>Pf.ix C p/\Pf.ixs C l
end
theorem RF(C:Int):∀l:List Pf,Pf.ixs C l↔∀p∈l,p.ix C
 |[]=>by simp[Pf.ixs]
 |p::l=>by simp[Pf.ixs,RF C l]
theorem Pf.EG(C:Int)(p:Pf):p.ix C↔(∀t∈p.terms,∀q∈t.vars 0,0<=q.1/\q.1<C)/\(∀f∈p.Aq,∀q∈f.AU 0,∀r∈q.1.vars 0,0<=r.1/\r.1<C)/\∀x∈p.args,x.ix C:=by
 cases p;simp only[Pf.ix,RF];rfl
mutual
def Pf.hx(C:Int):Pf->Prop
 | .mk k i _ _ _ zs=>if k=1 then 0<=i/\i<C else Pf.hxs C zs
def Pf.hxs(C:Int):List Pf->Prop
 |[]=>True
 |p::l=>Pf.hx C p/\Pf.hxs C l
end
theorem Tz(C:Int):∀l:List Pf,Pf.hxs C l↔∀p∈l,p.hx C
 |[]=>by simp[Pf.hxs]
 |p::l=>by simp[Pf.hxs,Tz C l]
theorem Pf.EK(C:Int)(p:Pf):p.hx C↔(p.kind=1->0<=p.index/\p.index<C)/\(p.kind≠1->∀x∈p.args,x.hx C):=by
 cases p with
 |mk k i s ts fs zs=>
  by_cases h:k=1
  ·simp[Pf.hx,h,Pf.kind,Pf.index]
  ·simp[Pf.hx,h,Tz,Pf.kind,Pf.args]
end Go.Ab
namespace Go.Ab
open Go
set_option linter.all false
set_option maxHeartbeats 1000000
inductive FP:Fm->Fm->Prop
 |refl (f):FP f f
 |eq {a b b'} (h:FT b b'):FP (AM a b) (AM a b')
 |two {k a a' b b'} (ha:FP a a') (hb:FP b b'):FP (vy k a b) (vy k a' b')
 |qu {k s a a'} (ha:FP a a'):FP (Be k s a) (Be k s a')
def lim3(e:Int):Prop:=e=0\/e=4\/e=5
mutual
def Fm.dp:Fm->Nat
 | .mk _ _ _ zs=>1+Fm.VX zs
def Fm.VX:List Fm->Nat
 |[]=>0
 |f::l=>Fm.dp f+Fm.VX l
end
def arg(f:Fm)(i:Nat):Fm:=f.args.getD i Az
def E8(f:Fm)(i:Nat):Tm:=f.terms.getD i va
def exM(s t:Tm):Fm:=AM (s.re (zn 0 1) 0) (TG (s.re (zn 0 1) 0) (t.re (zn 0 1) 0) (vT 0))
def ED:Nat->Int->Fm->Int->Pf×Int
 |0,_,_,h=>(uv h,-1)
 |n+1,r,f,h=>
  if r-f.num<0\/f.err≠0 then(uv h,-1)
  else if f.kind=2 then(.mk 3 0 (.mk 0 []) [] [] [(ED n (r-f.num) (arg f 0) h).1,(ED n (ED n (r-f.num) (arg f 0) h).2 (arg f 1) h).1],(ED n (ED n (r-f.num) (arg f 0) h).2 (arg f 1) h).2)
  else if f.kind=3 then(.mk 6 0 (.mk 0 []) [] [arg f 0] [(ED n (r-f.num) (arg f 1) (h+1)).1],(ED n (r-f.num) (arg f 1) (h+1)).2)
  else if f.kind=4\/f.kind=6 then(.mk (if f.kind=6 then 12 else 8) 0 f.ty [] [] [(ED n (r-f.num) (arg f 0) h).1],(ED n (r-f.num) (arg f 0) h).2)
  else if f.kind=5\/f.kind=7 then
   if ye (arg f 0) 0 (CM f.ty)≠0 then(uv h,-1)
   else(.mk (if f.kind=7 then 14 else 10) 0 (.mk 0 []) [CM f.ty] [f] [(ED n (r-f.num) ((arg f 0).put 0 (CM f.ty)) h).1],(ED n (r-f.num) ((arg f 0).put 0 (CM f.ty)) h).2)
  else(FM (exM (E8 f 0) (E8 f 1)) (uv h) (xd (E8 f 0)),r-f.num)
def Acc(c:Ck)(p:Pf)(f:Fm):Prop:=(∃x,BR p c=(x,[],0)/\FP x f/\x.err=0/\x.A9 c.tys)\/∃e,BR p c=yg e/\(e=3\/e=4\/e=5)
def Ln(out p:Pf):Pf:= .mk 7 0 (.mk 0 []) [] [] [.mk 6 0 (.mk 0 []) [] [KR] [out],p]
theorem wo(k i:Int)(s:Ty)(ts:List Tm)(fs:List Fm)(zs:List Pf):(Pf.mk k i s ts fs zs).full=1+s.size+(ts.map Tm.full).sum+(fs.map Fm.full).sum+(zs.map Pf.full).sum:=Pf.Af _
theorem uy:(Ty.mk 0 []).size=1:=by decide
theorem Jm{s:Ty}(h:s.err=0):s.size<=64:=((Ty.Ad s).1 h).2
def Yio(p:Pf):Pf×Int:=if p.err=0 then(p,0) else(Dq,4)
def exfR(n:Nat)(f:Fm)(p:Pf):Pf×Int:=if(ED n 262144 f 0).2<0 then(Dq,4) else Yio (Ln (ED n 262144 f 0).1 p)
def Dk.xf(d:Dk):Fm×Dk:=Dk.fm 3 d.Hj d.ctx.1
def Dk.xC(d:Dk):Ck:=⟨[],d.ctx.1,d.EV++[KR]⟩
def Tw:Nat->Nat->Fm->Prop
 |0,L,f=>∃s t,f=AM s t/\f.size<=L
 |n+1,L,f=>(∃s t,f=AM s t/\f.size<=L)\/(∃k a b,(k=2\/k=3)/\f=vy k a b/\Tw n L a/\Tw n L b)\/∃k s a,(4<=k/\k<=7)/\s.small/\f=Be k s a/\Tw n L a
theorem Tw.size:∀{n L:Nat} {f:Fm},Tw n L f->f.size+1<=(L+1)*2^n
 |0,L,f,⟨s,t,e,h⟩=>by simp;omega
 |n+1,L,f,h=>by
  have hp:1<=2^n:=Nat.one_le_two_pow;have h2:(L+1)*2^(n+1)=2*((L+1)*2^n):=by rw[Nat.pow_succ];simp[Nat.mul_comm,Nat.mul_left_comm]
  have h3:(L+1)*1<=(L+1)*2^n:=Nat.mul_le_mul_left _ hp;rcases h with⟨s,t,e,h⟩|⟨k,a,b,hk,e,ha,hb⟩|⟨k,s,a,hk,hs,e,ha⟩
  ·omega
  ·have h4:=ha.size;have h5:=hb.size;rw[e,N4];omega
  ·have h4:=ha.size;rw[e,JN];omega
theorem Tw.up{n L:Nat}{f:Fm}(h:Tw n L f):Tw (n+1) L f:=by
 induction n generalizing f with
 |zero=>exact .inl h
 |succ n ih=>
  rcases h with h|⟨k,a,b,hk,e,ha,hb⟩|⟨k,s,a,hk,hs,e,ha⟩
  ·exact .inl h
  ·exact .inr (.inl ⟨k,a,b,hk,e,ih ha,ih hb⟩)
  ·exact .inr (.inr ⟨k,s,a,hk,hs,e,ih ha⟩)
theorem Yc4{k:Int}(hk:k=2\/k=3)(a b:Fm)(i:Int)(x:Tm):(vy k a b).put i x=vy k (a.put i x) (b.put i x):=by
 rw[Qa,Fm.Bn];have e:AB k 0=0:=by rcases hk with rfl|rfl<;>rfl
 simp only[vy,Fm.kind,Fm.ty,Fm.terms,Fm.args,List.map_nil,List.map_cons];rw[e];rfl
theorem Tw.put:∀{n L:Nat} {f:Fm},Tw n L f->f.shape=true->∀(i:Int) (x:Tm),0<=i->x.shape=true->x.size<=3->Tw n (3*L) (f.put i x)
 |0,L,f,⟨s,t,e,h⟩,hs,i,x,hi,hx,hz=>by
  have h1:=LB i x hx f hs 0;have h2:(f.put i x).size=f.size+wc i (f.AU 0)*(x.size-1):=h1;have h3:=TU f i;have h4:wc i (f.AU 0)*(x.size-1)<=f.size*2:=Nat.mul_le_mul h3 (by omega);subst e;exact⟨s.re (xm (i+0) x) 0,t.re (xm (i+0) x) 0,rfl,by omega⟩
 |n+1,L,f,h,hs,i,x,hi,hx,hz=>by
  rcases h with⟨s,t,e,h⟩|⟨k,a,b,hk,e,ha,hb⟩|⟨k,s,a,hk,hsm,e,ha⟩
  ·exact Tw.up' (Tw.put (n:=0) ⟨s,t,e,h⟩ hs i x hi hx hz)
  ·subst e;have sa:a.shape=true:=zl hs (x:=a) (by simp[vy]);have sb:b.shape=true:=zl hs (x:=b) (by simp[vy]);rw[Yc4 hk];exact .inr (.inl ⟨k,_,_,hk,rfl,Tw.put ha sa i x hi hx hz,Tw.put hb sb i x hi hx hz⟩)
  ·subst e;have sa:a.shape=true:=zl hs (x:=a) (by simp[Be]);rw[Yg0 (A6.2 hk)];exact .inr (.inr ⟨k,s,_,hk,hsm,rfl,Tw.put ha sa (i+1) x (by omega) hx hz⟩)
where
 Tw.up' {n L:Nat} {f:Fm} (h:Tw 0 L f):Tw (n+1) L f:= .inl h
def cost:Nat->Nat->Nat
 |0,L=>L
 |n+1,L=>(L+1)*2^(n+1)+2*cost n L+cost n (3*L)
def R2:Nat->Nat->Nat
 |0,L=>3*L+8
 |n+1,L=>10+3*L+(L+1)*2^(n+1)+2*R2 n L+R2 n (3*L)
structure Pg (p:Pf) (n:Nat):Prop where
 sh:p.shape=true
 sm:p.small=true
 sz:p.size<=n
theorem Pg.err{p:Pf}{n:Nat}(h:Pg p n)(hn:n<=16384):p.err=0:=(Pf.Ad p).2 ⟨h.sh,h.sm,Nat.le_trans h.sz hn⟩
theorem Pg.of{p:Pf}(h:p.err=0):Pg p p.size:=have h1:=(Pf.Ad p).1 h;⟨h1.1,h1.2.1,Nat.le_refl _⟩
theorem Pg.mono{p:Pf}{n m:Nat}(h:Pg p n)(hn:n<=m):Pg p m:=⟨h.sh,h.sm,Nat.le_trans h.sz hn⟩
theorem Rv(k i:Int)(s:Ty)(ts:List Tm)(fs:List Fm)(zs:List Pf):(Pf.mk k i s ts fs zs).size=1+(ts.map Tm.size).sum+(fs.map Fm.size).sum+(zs.map Pf.size).sum:=Pf.size_eq _
theorem Pg.imp{p:Pf}{f:Fm}{n m:Nat}(hf:f.shape=true)(hz:f.size<=m)(hm:m<=4096)(hp:Pg p n):Pg (.mk 6 0 (.mk 0 []) [] [f] [p]) (1+m+n):=by
 refine⟨?_,?_,?_⟩
 ·simp[Pf.shape,Pf.A5,Pf.head,C1,hp.sh,hf,Ty.Bw,Ty.kind,Ty.args]
 ·simp[Pf.small,Pf.Ai,hp.sm];omega
 ·have:=hp.sz;simp only[Rv,List.map_cons,List.map_nil,List.sum_cons,List.sum_nil];omega
theorem Pg.all{k:Int}{p:Pf}{s:Ty}{n:Nat}(hk:k=8\/k=12)(hs:s.err=0)(hp:Pg p n):Pg (.mk k 0 s [] [] [p]) (1+n):=by
 have ho:s.ok=true:=by
  have h1:=(Ty.Ad s).1 hs;simp only[Ty.ok,Bool.and_eq_true,decide_eq_true_eq];exact h1
 refine⟨?_,?_,?_⟩
 ·rcases hk with rfl|rfl<;>simp[Pf.shape,Pf.A5,Pf.head,C1,hp.sh,ho]
 ·simp[Pf.small,Pf.Ai,hp.sm]
 ·have:=hp.sz;simp only[Rv,List.map_cons,List.map_nil,List.sum_cons,List.sum_nil];omega
theorem Pg.ex{k:Int}{p:Pf}{t:Tm}{f:Fm}{n m z:Nat}(hk:k=10\/k=14)(ht:t.shape=true)(hz:t.size<=z)(hz2:z<=4096)(hf:f.shape=true)(hm:f.size<=m)(hm2:m<=4096)(hp:Pg p n):Pg (.mk k 0 (.mk 0 []) [t] [f] [p]) (1+z+m+n):=by
 refine⟨?_,?_,?_⟩
 ·rcases hk with rfl|rfl<;>simp[Pf.shape,Pf.A5,Pf.head,C1,hp.sh,ht,hf,Ty.Bw,Ty.kind,Ty.args]
 ·simp[Pf.small,Pf.Ai,hp.sm];omega
 ·have:=hp.sz;simp only[Rv,List.map_cons,List.map_nil,List.sum_cons,List.sum_nil];omega
theorem Pg.refl{t:Tm}{n:Nat}(ht:t.shape=true)(hz:t.size<=n)(hn:n<=4096):Pg (xd t) (1+n):=by
 have h:=Pg.of (SO (s:=t) ((Tm.Ad t).2 ⟨ht,by omega⟩));rw[Zsn] at h;exact h.mono (by omega)
def orB(a b:Fm):Fm:=vy 2 (vy 3 Nt (a.A4 0 1)) (vy 3 (Ff Nt) (b.A4 0 1))
def IV(a b:Fm):Fm:=orF (a.A4 0 1) (b.A4 0 1)
def Fu(p q:Pf):Pf:= .mk 7 0 (.mk 0 []) [] [] [p,q]
def Ej(f:Fm)(p:Pf):Pf:= .mk 6 0 (.mk 0 []) [] [f] [p]
def MA(p q:Pf):Pf:= .mk 3 0 (.mk 0 []) [] [] [p,q]
def Hu(f:Fm)(t:Tm)(p:Pf):Pf:= .mk 10 0 (.mk 0 []) [t] [f] [p]
def Yhx(a b:Fm)(i:Int)(x:Pf):Pf:=Hu (IV a b) zT (MA (Ej (AM zT zT) (uv (i+1))) (Ej (Ff (AM zT zT)) (Ln x (Fu (uv 0) (xd zT)))))
def Yfo(a b:Fm)(i:Int)(x:Pf):Pf:=Hu (IV a b) (sT zT) (MA (Ej (AM (sT zT) zT) (Ln x (L5 (sT zT) (uv 0)))) (Ej (Ff (AM (sT zT) zT)) (uv (i+1))))
def QJ(x:Tm)(a b:Fm)(n:Int):Fm:=vy 2 (vy 3 (AM x zT) (a.A4 0 n)) (vy 3 (Ff (AM x zT)) (b.A4 0 n))
def Yh8(a b c:Fm):Fm:=vy 3 (QJ (vT 0) a b 2) (c.A4 0 2)
def J8:Tm:=sT (vT 0)
def TR(p:Pf):Pf:= .mk 4 0 (.mk 0 []) [] [] [p]
def Ua(p:Pf):Pf:= .mk 5 0 (.mk 0 []) [] [] [p]
def Yip(a b:Fm)(q:Pf):Pf:=Ej (QJ zT a b 1) (Fu q (Fu (TR (uv 0)) (xd zT)))
def QD:Pf:=Ej (AM J8 zT) (NW (L5 J8 (uv 0)))
def Yh7(a b:Fm)(r:Pf):Pf:=Ej (QJ J8 a b 2) (Fu r (Fu (Ua (uv 0)) QD))
def KV(f:Fm)(t:Tm)(p q:Pf):Pf:= .mk 16 0 (.mk 0 []) [t] [f] [p,q]
def Ye4(a b c:Fm)(p q r:Pf):Pf:= .mk 11 0 (.mk 0 []) [] [] [p,Fu (KV (Yh8 a b c) (vT 0) (Yip a b q) (Yh7 a b r)) (uv 0)]
theorem Yc1(a b:Tm)(i n:Int):(AM a b).A4 i n=AM (a.re (zn (i+0) n) 0) (b.re (zn (i+0) n) 0):=rfl
theorem Pg.some{p:Pf}{t:Tm}{f:Fm}{n m z:Nat}(ht:t.shape=true)(hz:t.size<=z)(hz2:z<=4096)(hf:f.shape=true)(hm:f.size<=m)(hm2:m<=4096)(hp:Pg p n):Pg (Hu f t p) (1+z+m+n):=Pg.ex (.inl rfl) ht hz hz2 hf hm hm2 hp
def Dk.oA(d:Dk):Fm×Dk:=Dk.fm 2 d.Hj d.ctx.1
def Dk.oB(d:Dk):Fm×Dk:=Dk.fm 2 d.oA.2 d.ctx.1
def Dk.oC(d:Dk):Fm×Dk:=Dk.fm 1 d.oB.2 d.ctx.1
def Dk.oH(d:Dk):List Fm:=d.EV++[d.oA.1,d.oB.1,IV d.oA.1 d.oB.1,vy 3 d.oA.1 d.oC.1,vy 3 d.oB.1 d.oC.1]
def Dk.oK(d:Dk):Ck:=⟨[],d.ctx.1,d.oH⟩
def Dk.oL(d:Dk):Pf:=Yhx d.oA.1 d.oB.1 4 (ED d.oB.1.dp 262144 d.oB.1 0).1
def Dk.oR(d:Dk):Pf:=Yfo d.oA.1 d.oB.1 3 (ED d.oA.1.dp 262144 d.oA.1 0).1
def Dk.oX(d:Dk):Pf:=Ye4 d.oA.1 d.oB.1 d.oC.1 (uv 2) (uv 3) (uv 3)
theorem Mv{α:Type}(f g:α->Nat):∀l:List α,(∀x∈l,f x<=65*g x)->(l.map f).sum<=65*(l.map g).sum
 |[],_=>by simp
 |x::l,h=>by
  have h1:=h x (by simp);have h2:=Mv f g l fun y hy=>h y (by simp[hy]);simp only[List.map_cons,List.sum_cons];omega
theorem Zzj(p:Pf):p.shape=true->p.full<=65*p.size:=by
 induction p using Pf.ind with
 |h p ih=>
  intro hs;obtain⟨h1,h2,h3,h4⟩:=wg hs;have ht:p.ty.size<=64:=by
   have hh:=h1;unfold Pf.head at hh;split at hh
   ·cases hh
   ·rename_i nd _;simp only[Bool.and_eq_true] at hh;have h5:=hh.2;split at h5
    ·simp only[Ty.ok,Bool.and_eq_true,decide_eq_true_eq] at h5;exact h5.2
    ·rw[Ty.Dj h5];decide
  have a1:=Mv Tm.full Tm.size p.terms fun t ht=>JM t (h2 t ht);have a2:=Mv Fm.full Fm.size p.Aq fun f hf=>HN f (h3 f hf);have a3:=Mv Pf.full Pf.size p.args fun x hx=>ih x hx (h4 x hx);have e1:=p.Af;have e2:=p.size_eq;omega
end Go.Ab
namespace Go.Ab
open Go
set_option linter.all false
abbrev N6(n:Int):Int:=IntKind.i64.wrap n
def Yhw(fr by_:Int)(i b:Int):Tm:= .mk 1 (if N6 (i-b)>=fr then N6 (i+by_) else i) (.mk 0 []) []
def Tm.lw(t:Tm)(fr by_:Int):Tm:=t.re (Yhw fr by_) 0
def Fm.lw(f:Fm)(fr by_:Int):Fm:=f.re (fun b t=>t.lw (fr+b) by_) 0
theorem Ty.Gs(t:Ty):1<=t.size:=by cases t;simp only[Ty.size];omega
theorem Tm.F8(t:Tm):2<=t.full:=by rw[Tm.Af];have:=t.ty.Gs;omega
theorem NT{α:Type}{f g:α->Nat}:∀{l:List α},(∀x∈l,f x<=g x)->(l.map f).sum<=(l.map g).sum
 |[],_=>Nat.le_refl _
 |x::l,h=>by
  simp only[List.map_cons,List.sum_cons];have h1:=h x (by simp);have h2:=NT (l:=l) fun y hy=>h y (by simp[hy]);omega
theorem Tm.ES{G:Int->Int->Tm}(hG:∀i b,(G i b).full<=2)(t:Tm):∀b,(t.re G b).full<=t.full:=by
 induction t using Tm.ind with
 |h t ih=>
  intro b;by_cases h1:t.kind=1
  ·rw[vr h1];have:=hG t.index b;have:=t.F8;omega
  ·rw[xn h1,t.Af,Tm.Af];simp only[Tm.Ae,Tm.AD,List.map_map];have:=NT (f:=Tm.full∘Tm.re G (up t.kind b)) (g:=Tm.full) fun x hx=>ih x hx (up t.kind b);omega
theorem Fm.ES{G:Int->Tm->Tm}(hG:∀b t,(G b t).full<=t.full)(f:Fm):∀b,(f.re G b).full<=f.full:=by
 induction f using Fm.ind with
 |h f ih=>
  intro b;rw[f.Af,Fm.Af,Fm.Bn];simp only[Fm.Ar,Fm.Ae,Fm.AD,List.map_map];have h1:=NT (l:=f.terms) (f:=Tm.full∘G b) (g:=Tm.full) fun x _=>hG b x;have h2:=NT (f:=Fm.full∘Fm.re G (AB f.kind b)) (g:=Fm.full) fun x hx=>ih x hx (AB f.kind b);omega
mutual
def Pf.uw(fr b v:Int):Pf->Pf
 | .mk k i s ts fs zs=> .mk k i s (ts.map fun t=>t.lw (fr+v) b) (fs.map fun f=>f.lw (fr+(v+DF k)) b) (Pf.SI fr b v (El k) zs)
def Pf.SI(fr b v w:Int):List Pf->List Pf
 |[]=>[]
 |p::l=>Pf.uw fr b (if l.length=0 then v+w else v) p::Pf.SI fr b v w l
end
mutual
def Pf.hw(fr b y:Int):Pf->Pf
 | .mk k i s ts fs zs=>if k=1 then .mk 1 (if N6 (i-y)>=fr then N6 (i+b) else i) (.mk 0 []) [] [] [] else .mk k i s ts fs (Pf.Kl fr b y (Gw k) zs)
def Pf.Kl(fr b y w:Int):List Pf->List Pf
 |[]=>[]
 |p::l=>Pf.hw fr b (if l.length=0 then y+w else y) p::Pf.Kl fr b y w l
end
mutual
def Pf.nd:Pf->Prop
 | .mk k _ _ _ _ zs=>(∃n,C1 k=some n/\zs.length=n.args)/\Pf.Wk zs
def Pf.Wk:List Pf->Prop
 |[]=>True
 |p::l=>Pf.nd p/\Pf.Wk l
end
def Pf.Hz(p:Pf)(v h:Int):Pf:=(p.uw 0 v 0).hw 0 h 0
def PK(s:Tm)(p:Pf):Pf:=FM (AM (vT 0) (s.lw 0 1)) p (xd s)
def Ox(s:Tm)(p q:Pf):Pf:=FM (AM (s.lw 0 1) (vT 0)) q p
def Yiu(g s:Tm)(p:Pf):Pf:=FM (AM (AP (g.lw 0 1) (s.lw 0 1)) (AP (g.lw 0 1) (vT 0))) p (xd (AP g s))
def Pc(s:Tm)(p:Pf):Pf:=FM (AM (s.lw 0 1) (AP BS (vT 0))) p (xd s)
def Yc8(s t n:Tm):Tm:= .mk 6 0 Aa [s,BB Aa (BB Aa (t.lw 0 2)),n]
def exW(s t:Tm):Fm:=AM (s.lw 0 1) (Yc8 (s.lw 0 1) (t.lw 0 1) (vT 0))
def Ef:Nat->Int->Fm->Int->Pf×Int
 |0,_,_,h=>(uv h,-1)
 |n+1,r,f,h=>
  if r-f.num<0\/f.err≠0 then(uv h,-1)
  else if f.kind=2 then(.mk 3 0 (.mk 0 []) [] [] [(Ef n (r-f.num) (arg f 0) h).1,(Ef n (Ef n (r-f.num) (arg f 0) h).2 (arg f 1) h).1],(Ef n (Ef n (r-f.num) (arg f 0) h).2 (arg f 1) h).2)
  else if f.kind=3 then(.mk 6 0 (.mk 0 []) [] [arg f 0] [(Ef n (r-f.num) (arg f 1) (h+1)).1],(Ef n (r-f.num) (arg f 1) (h+1)).2)
  else if f.kind=4\/f.kind=6 then(.mk (if f.kind=6 then 12 else 8) 0 f.ty [] [] [(Ef n (r-f.num) (arg f 0) h).1],(Ef n (r-f.num) (arg f 0) h).2)
  else if f.kind=5\/f.kind=7 then
   if ye (arg f 0) 0 (CM f.ty)≠0 then(uv h,-1)
   else(.mk (if f.kind=7 then 14 else 10) 0 (.mk 0 []) [CM f.ty] [f] [(Ef n (r-f.num) ((arg f 0).put 0 (CM f.ty)) h).1],(Ef n (r-f.num) ((arg f 0).put 0 (CM f.ty)) h).2)
  else(FM (exW (E8 f 0) (E8 f 1)) (uv h) (xd (E8 f 0)),r-f.num)
def LD(a b:Fm)(p x:Pf):Pf:=Hu (IV a b) zT (MA (Ej (AM zT zT) (p.Hz 0 1)) (Ej (Ff (AM zT zT)) (Ln x (Fu (uv 0) (xd zT)))))
def KN(a b:Fm)(p x:Pf):Pf:=Hu (IV a b) (sT zT) (MA (Ej (AM (sT zT) zT) (Ln x (PK (sT zT) (uv 0)))) (Ej (Ff (AM (sT zT) zT)) (p.Hz 0 1)))
def PV(x:Tm)(a b:Fm)(n:Int):Fm:=vy 2 (vy 3 (AM x zT) (a.lw 0 n)) (vy 3 (Ff (AM x zT)) (b.lw 0 n))
def Yhh(a b c:Fm):Fm:=vy 3 (PV (vT 0) a b 2) (c.lw 0 2)
def Yfi(a b:Fm)(q:Pf):Pf:=Ej (PV zT a b 1) (Fu q (Fu (TR (uv 0)) (xd zT)))
def Qf:Pf:=Ej (AM J8 zT) (NW (PK J8 (uv 0)))
def Yfu(a b:Fm)(r:Pf):Pf:=Ej (PV J8 a b 2) (Fu r (Fu (Ua (uv 0)) Qf))
def VP(a b c:Fm)(p q r:Pf):Pf:= .mk 11 0 (.mk 0 []) [] [] [p,Fu (KV (Yhh a b c) (vT 0) (Yfi a b (q.Hz 1 2)) (Yfu a b (r.Hz 2 3))) (uv 0)]
def QN(f:Fm)(p q:Pf):Pf:= .mk 8 0 Aa [] [] [.mk 16 0 (.mk 0 []) [vT 0] [f.lw 1 1] [p.Hz 1 0,.mk 9 0 (.mk 0 []) [vT 0] [] [q.Hz 2 1]]]
def Ygr(f:Fm)(p q:Pf):Pf:= .mk 8 0 Ah [] [] [.mk 17 0 (.mk 0 []) [vT 0] [f.lw 1 1] [p.Hz 1 0,.mk 9 0 (.mk 0 []) [vT 0] [] [.mk 9 0 (.mk 0 []) [vT 1] [] [q.Hz 3 1]]]]
def Ew(s t:Tm):Fm:=AM s t
def KE(s t:Tm):Fm:=IV (Ew s t) (Ff (Ew s t))
def Wi(s t:Tm)(p:Pf):Pf:=LD (Ew s t) (Ff (Ew s t)) p (Ef (Ff (Ew s t)).dp 262144 (Ff (Ew s t)) 0).1
def Ru(s t:Tm)(p:Pf):Pf:=KN (Ew s t) (Ff (Ew s t)) (Ej (Ew s t) p) (Ef (Ew s t).dp 262144 (Ew s t) 0).1
def PU(s:Ty)(p:Pf):Pf:= .mk 8 0 s [] [] [p]
def OW(t:Tm)(p:Pf):Pf:= .mk 9 0 (.mk 0 []) [t] [] [p]
def Rg:Pf:=QN (KE zT (vT 0)) (Wi zT zT (xd zT)) (PU Aa (Ru zT (sT (vT 0)) (NW (uv 0))))
def EF:Tm:=BB Aa (sT (vT 0))
def PO:Pf:=Ej (Ew (vT 1) (vT 0)) (Wi (sT (vT 1)) (sT (vT 0)) (Yiu EF (vT 1) (uv 0)))
def Q4:Pf:=Ej (Ff (Ew (vT 1) (vT 0))) (Ru (sT (vT 1)) (sT (vT 0)) (Fu (uv 1) (Pc (vT 1) (uv 0))))
def Oq:Pf:=VP (Ew (vT 1) (vT 0)) (Ff (Ew (vT 1) (vT 0))) (KE (sT (vT 1)) (sT (vT 0))) (OW (vT 0) (uv 0)) PO Q4
def QG:Pf:=QN (KE (sT (vT 1)) (vT 0)) (Ru (sT (vT 0)) zT (NW (PK (sT (vT 0)) (uv 0)))) (PU Aa Oq)
def eqP:Pf:=PU Aa (.mk 16 0 (.mk 0 []) [vT 0] [Be 4 Aa (KE (vT 1) (vT 0))] [Rg,QG])
def US:Fm:=Be 4 Aa (Be 4 Aa (KE (vT 1) (vT 0)))
def Fm.Lo(f:Fm)(b:Int):List Int:=(f.AU b).flatMap fun p=>CF (p.1.vars p.2)
mutual
def Pf.Lo(b:Int):Pf->List Int
 | .mk k _ _ ts fs zs=>ts.flatMap (fun t=>CF (t.vars b))++fs.flatMap (fun f=>f.Lo (b+DF k))++(Pf.Le b (El k) zs).flatten
def Pf.Le(b w:Int):List Pf->List (List Int)
 |[]=>[]
 |p::l=>Pf.Lo (if l.length=0 then b+w else b) p::Pf.Le b w l
end
mutual
def Pf.FQ(y:Int):Pf->List Int
 | .mk k i _ _ _ zs=>(if k=1/\i>=y then [i-y] else [])++(Pf.FG y (Gw k) zs).flatten
def Pf.FG(y w:Int):List Pf->List (List Int)
 |[]=>[]
 |p::l=>Pf.FQ (if l.length=0 then y+w else y) p::Pf.FG y w l
end
mutual
def Pf.G0:Pf->List Int
 | .mk k i _ _ _ zs=>(if k=2 then [i] else [])++(Pf.G2 zs).flatten
def Pf.G2:List Pf->List (List Int)
 |[]=>[]
 |p::l=>Pf.G0 p::Pf.G2 l
end
theorem Pf.IG(y:Int)(p:Pf):p.FQ y=(if p.kind=1/\p.index>=y then [p.index-y] else [])++(Pf.FG y (Gw p.kind) p.args).flatten:=by cases p;simp only[Pf.FQ];rfl
theorem UT:∀l:List Pf,Pf.G2 l=l.map Pf.G0
 |[]=>rfl
 |p::l=>by rw[Pf.G2,UT l];rfl
theorem Pf.Ja(p:Pf):p.G0=(if p.kind=2 then [p.index] else [])++(p.args.map Pf.G0).flatten:=by cases p;simp only[Pf.G0,UT];rfl
def Tm.Dm(t:Tm):Prop:=∀b,∀p∈t.vars b,0<=p.1/\p.1<9223372036854775808
def Fm.Dm(f:Fm):Prop:=∀b,∀p∈f.AU b,p.1.Dm
mutual
def Pf.Dm:Pf->Prop
 | .mk _ i _ ts fs zs=>(0<=i/\i<9223372036854775808)/\(∀t∈ts,t.Dm)/\(∀f∈fs,f.Dm)/\Pf.LZ zs
def Pf.LZ:List Pf->Prop
 |[]=>True
 |p::l=>Pf.Dm p/\Pf.LZ l
end
def Ol(p:Pf):List Int:=y0 (BL [] (p.FQ 0))
def Ri(p:Pf):List Int:=y0 (BL [] p.G0)
def Vq(p:Pf):List Int:=y0 (BL [] (p.Lo 0))
def Tp(f:Fm):List Int:=y0 (BL [] (f.Lo 0))
mutual
def Pf.cn(most:Int):Pf->Int
 | .mk _ _ h ts fs zs=>Pf.E9 most (Fm.E9 most (Tm.E9 most (1+h.cn (most-1)) ts) fs) zs
def Pf.E9(most n:Int):List Pf->Int
 |[]=>n
 |x::l=>if n<=most then Pf.E9 most (n+x.cn (most-n)) l else n
end
def Tm.D8(t:Tm):Prop:=∀q∈t.vars 0,0<=q.1/\q.1<10000
def Fm.D8(f:Fm):Prop:=∀q∈f.AU 0,∀r∈q.1.vars 0,0<=r.1/\r.1<10000
theorem Ok(f:Fm):∀(g:List Ty) (b:Int),f.shape=true->f.A9 g->∀q∈f.AU b,∀r∈q.1.vars 0,0<=r.1/\r.1<g.length+f.size:=by
 induction f using Fm.ind with
 |h f ih=>
  intro g b hs h q hq r hr;rw[f.AR b,List.mem_append] at hq;rw[Fm.Bg] at h;have hsz:=f.size_eq;rcases hq with hq|hq
  ·obtain ⟨t,ht,rfl⟩:=List.mem_map.1 hq;have hst:=zw hs ht;have h1:=ze Tm.size ht;exact⟨t.AH hst 0 r hr,Mm t g 0 (g.length+f.size) (by rw[h.1 t ht]) hst (by omega) r hr⟩
  ·obtain ⟨x,hx,hq⟩:=List.mem_flatMap.1 hq;have h1:=ze Fm.size hx;have hl:(Cx g f).length<=g.length+1:=by unfold Cx;split<;>simp
   have:=ih x hx _ _ (zl hs hx) (h.2 x hx) q hq r hr;omega
def CR(t:Tm):Prop:=t.shape=true/\t.D8/\t.full<=300000
def DB(f:Fm):Prop:=f.shape=true/\f.D8/\f.full<=300000
theorem CR.of{g:List Ty}{t:Tm}{T:Ty}(he:t.err=0)(hi:t.inf g=(T,0))(hg:g.length<=20):CR t:=by
 obtain⟨h1,h2⟩:=(Tm.Ad t).1 he;have h3:=yl he;refine⟨h1,fun q hq=>⟨t.AH h1 0 q hq,?_⟩,by omega⟩;have:=Mm t g 0 (g.length+t.size) (by rw[hi]) h1 (by omega) q hq;omega
theorem DB.of{g:List Ty}{f:Fm}(he:f.err=0)(ho:f.A9 g)(hg:g.length<=20):DB f:=by
 obtain⟨h1,h2⟩:=(Fm.Ad f).1 he;have h3:=z9 he;refine⟨h1,fun q hq r hr=> ?_,by omega⟩;have:=Ok f g 0 h1 ho q hq r hr;omega
mutual
def Pf.lx(C:Int):Pf->Prop
 | .mk k i _ _ _ zs=>(k=2->0<=i/\i<C)/\Pf.Kp C zs
def Pf.Kp(C:Int):List Pf->Prop
 |[]=>True
 |p::l=>Pf.lx C p/\Pf.Kp C l
end
theorem Td(C:Int):∀l:List Pf,Pf.Kp C l↔∀p∈l,p.lx C
 |[]=>by simp[Pf.Kp]
 |p::l=>by simp[Pf.Kp,Td C l]
theorem Pf.ET(C:Int)(p:Pf):p.lx C↔(p.kind=2->0<=p.index/\p.index<C)/\∀x∈p.args,x.lx C:=by cases p;simp only[Pf.lx,Td];rfl
structure Made (n:Nat) (p:Pf):Prop where
 shape:p.shape=true
 full:p.full<=n
 ix:p.ix 10000
 hx:p.hx 10000
 lx:p.lx 10000
theorem Made.up{n m:Nat}{p:Pf}(h:Made n p)(hm:n<=m):Made m p:=⟨h.shape,Nat.le_trans h.full hm,h.ix,h.hx,h.lx⟩
theorem Made.mk'{k i:Int}{s:Ty}{ts:List Tm}{fs:List Fm}{zs:List Pf}{nd:Nd}{n:Nat}(hn:C1 k=some nd)(h1:ts.length=nd.terms)(h2:fs.length=nd.Aq)(h3:zs.length=nd.args)
 (hi:0<=i/\i<10000) (hi2:nd.index=true\/i=0) (hs:if nd.typ=true then s.ok=true else s.Bw=true) (hk:k=1->zs=[])
 (ht:∀t∈ts,CR t) (hf:∀f∈fs,DB f) (hz:∀x∈zs,∃m,Made m x) (hfull:(Pf.mk k i s ts fs zs).full<=n):Made n (Pf.mk k i s ts fs zs):=by
 refine⟨?_,hfull,(Pf.EG _ _).2 ⟨fun t h=>(ht t h).2.1,fun f h=>(hf f h).2.1,fun x h=> ?_⟩,(Pf.EK _ _).2 ⟨fun _=>hi,fun _ x h=> ?_⟩,(Pf.ET _ _).2 ⟨fun _=>hi,fun x h=> ?_⟩⟩
 ·rw[Pf.Ag];simp only[Bool.and_eq_true,List.all_eq_true];refine⟨⟨⟨?_,fun t h=>(ht t h).1⟩,fun f h=>(hf f h).1⟩,fun x h=> ?_⟩
  ·unfold Pf.head;simp only[Pf.Am,Pf.Ar,Pf.Ca,Pf.Ae,Pf.AV,Pf.AD,hn,h1,h2,h3,beq_self_eq_true,Bool.true_and,hi.1,decide_true];rw[Bool.and_eq_true];constructor
   ·rcases hi2 with h|h
    ·rw[h];rfl
    ·rw[h];simp
   ·by_cases hty:nd.typ=true
    ·rw[if_pos hty] at hs ⊢;exact hs
    ·rw[if_neg hty] at hs ⊢;exact hs
  ·obtain ⟨m,hm⟩:=hz x h;exact hm.shape
 ·obtain ⟨m,hm⟩:=hz x h;exact hm.ix
 ·obtain ⟨m,hm⟩:=hz x h;exact hm.hx
 ·obtain ⟨m,hm⟩:=hz x h;exact hm.lx
theorem Zuj{s:Ty}(h:s.err=0):s.ok=true:=LQ ((Ty.Ad s).1 h).1 ((Ty.Ad s).1 h).2
theorem w7{α:Type}{P:α->Prop}{a:α}(h:P a):∀x∈[a],P x:=fun x hx=>by simp only[List.mem_singleton] at hx;subst hx;exact h
theorem GR{α:Type}{P:α->Prop}{a b:α}(h:P a)(h':P b):∀x∈[a,b],P x:=fun x hx=>by
 simp only[List.mem_cons,List.not_mem_nil,or_false] at hx;rcases hx with rfl|rfl
 ·exact h
 ·exact h'
theorem ur{α:Type}{P:α->Prop}:∀x∈([]:List α),P x:=fun x hx=>by cases hx
theorem Made.ref{t:Tm}(h:CR t):Made 300010 (.mk 18 0 (.mk 0 []) [t] [] []):=
 .mk' rfl rfl rfl rfl (by omega) (.inr rfl) rfl (by decide) (w7 h) ur ur (by rw[wo,uy];have:=h.2.2;simp;omega)
theorem Made.hyp{i:Int}(h:0<=i/\i<10000):Made 10 (uv i):=
 .mk' (nd:=⟨0,0,0,true,false⟩) rfl rfl rfl rfl h (.inl rfl) rfl (fun _=>rfl) ur ur ur (by rw[wo,uy];simp)
theorem Made.lem{i:Int}(h:0<=i/\i<10000):Made 10 (.mk 2 i (.mk 0 []) [] [] []):=
 .mk' (nd:=⟨0,0,0,true,false⟩) rfl rfl rfl rfl h (.inl rfl) rfl (fun _=>rfl) ur ur ur (by rw[wo,uy];simp)
theorem Made.two{k:Int}(hk:k=3\/k=7\/k=11\/k=15){n m:Nat}{p q:Pf}(hp:Made n p)(hq:Made m q):Made (n+m+2) (.mk k 0 (.mk 0 []) [] [] [p,q]):=by
 have h:=hp.full;have h':=hq.full;refine .mk' (nd:=⟨0,0,2,false,false⟩) ?_ rfl rfl rfl (by omega) (.inr rfl) rfl (fun h=>by omega) ur ur (GR ⟨_,hp⟩ ⟨_,hq⟩) (by rw[wo,uy];simp;omega);rcases hk with rfl|rfl|rfl|rfl<;>rfl
theorem Made.one{k:Int}(hk:k=4\/k=5\/k=20){n:Nat}{p:Pf}(hp:Made n p):Made (n+2) (.mk k 0 (.mk 0 []) [] [] [p]):=by
 have h:=hp.full;refine .mk' (nd:=⟨0,0,1,false,false⟩) ?_ rfl rfl rfl (by omega) (.inr rfl) rfl (fun h=>by omega) ur ur (w7 ⟨_,hp⟩) (by rw[wo,uy];simp;omega);rcases hk with rfl|rfl|rfl<;>rfl
theorem Made.imp{f:Fm}(hf:DB f){n:Nat}{p:Pf}(hp:Made n p):Made (n+300002) (.mk 6 0 (.mk 0 []) [] [f] [p]):=by
 have h:=hp.full;have h':=hf.2.2;exact .mk' (nd:=⟨0,1,1,false,false⟩) rfl rfl rfl rfl (by omega) (.inr rfl) rfl (fun h=>by omega) ur (w7 hf) (w7 ⟨_,hp⟩) (by rw[wo,uy];simp;omega)
theorem Made.all{k:Int}(hk:k=8\/k=12){s:Ty}(hs:s.err=0){n:Nat}{p:Pf}(hp:Made n p):Made (n+65) (.mk k 0 s [] [] [p]):=by
 have h:=hp.full;have h':=Jm hs;refine .mk' (nd:=⟨0,0,1,false,true⟩) ?_ rfl rfl rfl (by omega) (.inr rfl) (Zuj hs) (fun h=>by omega) ur ur (w7 ⟨_,hp⟩) (by rw[wo];simp;omega);rcases hk with rfl|rfl<;>rfl
theorem Made.at_{k:Int}(hk:k=9\/k=13){t:Tm}(ht:CR t){n:Nat}{p:Pf}(hp:Made n p):Made (n+300002) (.mk k 0 (.mk 0 []) [t] [] [p]):=by
 have h:=hp.full;have h':=ht.2.2;refine .mk' (nd:=⟨1,0,1,false,false⟩) ?_ rfl rfl rfl (by omega) (.inr rfl) rfl (fun h=>by omega) (w7 ht) ur (w7 ⟨_,hp⟩) (by rw[wo,uy];simp;omega);rcases hk with rfl|rfl<;>rfl
theorem Made.ex{k:Int}(hk:k=10\/k=14){f:Fm}{t:Tm}(hf:DB f)(ht:CR t){n:Nat}{p:Pf}(hp:Made n p):Made (n+600002) (.mk k 0 (.mk 0 []) [t] [f] [p]):=by
 have h:=hp.full;have h':=ht.2.2;have h2:=hf.2.2;refine .mk' (nd:=⟨1,1,1,false,false⟩) ?_ rfl rfl rfl (by omega) (.inr rfl) rfl (fun h=>by omega) (w7 ht) (w7 hf) (w7 ⟨_,hp⟩) (by rw[wo,uy];simp;omega);rcases hk with rfl|rfl<;>rfl
theorem Made.ind{k:Int}(hk:k=16\/k=17){f:Fm}{t:Tm}(hf:DB f)(ht:CR t){n m:Nat}{p q:Pf}(hp:Made n p)(hq:Made m q):Made (n+m+600002) (.mk k 0 (.mk 0 []) [t] [f] [p,q]):=by
 have h:=hp.full;have h1:=hq.full;have h':=ht.2.2;have h2:=hf.2.2;refine .mk' (nd:=⟨1,1,2,false,false⟩) ?_ rfl rfl rfl (by omega) (.inr rfl) rfl (fun h=>by omega) (w7 ht) (w7 hf) (GR ⟨_,hp⟩ ⟨_,hq⟩) (by rw[wo,uy];simp;omega);rcases hk with rfl|rfl<;>rfl
theorem Made.sub{f:Fm}(hf:DB f){n m:Nat}{p q:Pf}(hp:Made n p)(hq:Made m q):Made (n+m+300002) (.mk 19 0 (.mk 0 []) [] [f] [p,q]):=by
 have h:=hp.full;have h1:=hq.full;have h2:=hf.2.2;exact .mk' (nd:=⟨0,1,2,false,false⟩) rfl rfl rfl rfl (by omega) (.inr rfl) rfl (fun h=>by omega) ur (w7 hf) (GR ⟨_,hp⟩ ⟨_,hq⟩) (by rw[wo,uy];simp;omega)
mutual
def Pf.pt(a:Int)(s:Tm)(v:Int):Pf->Pf
 | .mk k i h ts fs zs=> .mk k i h (ts.map fun t=>t.re (xm (a+v) s) 0) (fs.map fun f=>f.put (a+(v+DF k)) s) (Pf.pts a s v (El k) zs)
def Pf.pts(a:Int)(s:Tm)(v w:Int):List Pf->List Pf
 |[]=>[]
 |p::l=>Pf.pt a s (if l.length=0 then v+w else v) p::Pf.pts a s v w l
end
mutual
def Pf.ph(a:Int)(q:Pf)(v y:Int):Pf->Pf
 | .mk k i h ts fs zs=>if k=1 then(if i-y=a then q.Hz v (a+y) else if i-y>a then uv (i-1) else uv i) else .mk k i h ts fs (Pf.Vy a q v y (El k) (Gw k) zs)
def Pf.Vy(a:Int)(q:Pf)(v y w z:Int):List Pf->List Pf
 |[]=>[]
 |p::l=>Pf.ph a q (if l.length=0 then v+w else v) (if l.length=0 then y+z else y) p::Pf.Vy a q v y w z l
end
theorem Pf.Fc(a:Int)(s:Tm)(v:Int)(p:Pf):p.pt a s v= .mk p.kind p.index p.ty (p.terms.map fun t=>t.re (xm (a+v) s) 0) (p.Aq.map fun f=>f.put (a+(v+DF p.kind)) s) (Pf.pts a s v (El p.kind) p.args):=by cases p;simp only[Pf.pt];rfl
theorem Lp(a:Int)(s:Tm)(v w:Int):∀l:List Pf,(Pf.pts a s v w l).length=l.length
 |[]=>by simp only[Pf.pts]
 |p::l=>by simp only[Pf.pts,List.length_cons,Lp a s v w l]
theorem QM(a:Int)(s:Tm)(v w:Int):∀(l:List Pf) (m:Nat) (h:m<l.length) (h':m<(Pf.pts a s v w l).length),(Pf.pts a s v w l)[m]=l[m].pt a s (if m+1=l.length then v+w else v)
 |p::l,0,h,h'=>by
  simp only[Pf.pts,List.getElem_cons_zero,List.length_cons];by_cases e:l.length=0
  ·rw[if_pos e,if_pos (by omega)]
  ·rw[if_neg e,if_neg (by omega)]
 |p::l,m+1,h,h'=>by
  simp only[Pf.pts,List.getElem_cons_succ,List.length_cons,Nat.add_right_cancel_iff];exact QM a s v w l m (by simpa using h) _
section
variable {α:Type}
mutual
def Pf.GQ(g:Int->Tm->α)(h:Int->Fm->α)(v:Int):Pf->List α
 | .mk k _ _ ts fs zs=>ts.map (g v)++fs.map (h (v+DF k))++(Pf.Cr g h v (El k) zs).flatten
def Pf.Cr(g:Int->Tm->α)(h:Int->Fm->α)(v w:Int):List Pf->List (List α)
 |[]=>[]
 |p::l=>Pf.GQ g h (if l.length=0 then v+w else v) p::Pf.Cr g h v w l
end
mutual
def Pf.FN(f:Int->Int->Int->List α)(y:Int):Pf->List α
 | .mk k i _ _ _ zs=>f k i y++(Pf.CY f y (Gw k) zs).flatten
def Pf.CY(f:Int->Int->Int->List α)(y w:Int):List Pf->List (List α)
 |[]=>[]
 |p::l=>Pf.FN f (if l.length=0 then y+w else y) p::Pf.CY f y w l
end
variable (g:Int->Tm->α) (h:Int->Fm->α) (f:Int->Int->Int->List α)
theorem Pf.EN(v:Int)(p:Pf):p.GQ g h v=p.terms.map (g v)++p.Aq.map (h (v+DF p.kind))++(Pf.Cr g h v (El p.kind) p.args).flatten:=by cases p;simp only[Pf.GQ];rfl
theorem Pf.D5(y:Int)(p:Pf):p.FN f y=f p.kind p.index y++(Pf.CY f y (Gw p.kind) p.args).flatten:=by cases p;simp only[Pf.FN];rfl
theorem Ov(v w:Int):∀l:List Pf,(Pf.Cr g h v w l).length=l.length
 |[]=>by simp only[Pf.Cr];rfl
 |p::l=>by simp only[Pf.Cr,List.length_cons,Ov v w l]
theorem P3(v w:Int):∀(l:List Pf) (m:Nat) (hm:m<l.length) (h':m<(Pf.Cr g h v w l).length),(Pf.Cr g h v w l)[m]=l[m].GQ g h (if m+1=l.length then v+w else v)
 |p::l,0,hm,h'=>by
  simp only[Pf.Cr,List.getElem_cons_zero,List.length_cons];by_cases e:l.length=0
  ·rw[if_pos e,if_pos (by omega)]
  ·rw[if_neg e,if_neg (by omega)]
 |p::l,m+1,hm,h'=>by
  simp only[Pf.Cr,List.getElem_cons_succ,List.length_cons,Nat.add_right_cancel_iff];exact P3 v w l m (by simpa using hm) _
end
def IY(l:List (Int×Int)):Prop:=(∀q∈l,(0<=q.1/\q.1<=4096)/\0<=q.2/\q.2<=4096)/\l.length<=1000000000
theorem IY.pre{l l':List (Int×Int)}(h:l<+:l')(ho:IY l'):IY l:=⟨fun q hq=>ho.1 q (h.subset hq),Nat.le_trans h.length_le ho.2⟩
def L0(n k:Int)(l:List (Int×Int)):Int:=n+(l.map fun q=>q.2*(k-1)).sum
def Kc(k:Int)(l:List (Int×Int)):Bool:=l.any fun q=>decide (q.1+q.2*(k-1)>4096)
def HO(a:Int)(v:Int)(t:Tm):Int×Int:=((t.size:Int),(cnt (a+v) (t.vars 0):Int))
def G5(a:Int)(v:Int)(f:Fm):Int×Int:=((f.size:Int),(wc (a+v) (f.AU 0):Int))
def nhF(k i _y:Int):List Bool:=if k=1 then [decide (i<=536870912)] else []
def PW(a k i y:Int):List Int:=if k=1/\i-y=a then [i] else []
def On(k i y:Int):List Int:=if k=1/\i>=y then [i-y] else []
def Pf.C5(p:Pf):Bool:=(p.GQ (fun(_:Int) (t:Tm)=>t.near) (fun(_:Int) (f:Fm)=>f.near) 0).all id
def Pf.Fh(p:Pf):Bool:=(p.FN nhF 0).all id
theorem Yad(p:Pf):p.ix 10000->∀v,(p.GQ (fun(_:Int) (t:Tm)=>t.near) (fun(_:Int) (f:Fm)=>f.near) v).all id=true:=by
 induction p using Pf.ind with
 |h p ih=>
  intro hix v;obtain⟨i1,i2,i3⟩:=(Pf.EG _ p).1 hix;rw[Pf.EN,List.all_append,List.all_append,Bool.and_eq_true,Bool.and_eq_true];refine⟨⟨List.all_eq_true.2 fun b hb=> ?_,List.all_eq_true.2 fun b hb=> ?_⟩,List.all_eq_true.2 fun b hb=> ?_⟩
  ·obtain ⟨t,ht,rfl⟩:=List.mem_map.1 hb;exact List.all_eq_true.2 fun q hq=>by have:=i1 t ht q hq;simp;omega
  ·obtain ⟨f,hf,rfl⟩:=List.mem_map.1 hb;exact Ue (C:=10000) (by omega) fun q hq r hr=>by have:=i2 f hf q hq r hr;omega
  ·obtain ⟨l,hl,hb⟩:=List.mem_flatten.1 hb;obtain⟨m,hm,rfl⟩:=List.getElem_of_mem hl;rw[Ov] at hm;rw[P3 _ _ _ _ _ _ hm] at hb;exact List.all_eq_true.1 (ih _ (List.getElem_mem hm) (i3 _ (List.getElem_mem hm)) _) b hb
def Yg6(p:Pf)(fr by_:Int):Int:=if p.err≠0 then p.err else if ¬(0<=fr/\fr<=4096)\/¬(0<=by_/\by_<=4096)\/p.C5=false then 1 else 0
def Pj(p:Pf)(fr by_:Int):Int:=if p.err≠0 then p.err else if ¬(0<=fr/\fr<=16384)\/¬(0<=by_/\by_<=16384)\/p.Fh=false then 1 else 0
def GX(p:Pf)(a:Int)(s:Tm):List (Int×Int):=p.GQ (HO a) (G5 a) 0
def FV(p:Pf)(a:Int)(s:Tm):Int:=
 if p.err≠0 then p.err else if ¬(0<=a/\a<=4096) then 1 else if s.err≠0 then s.err else if p.C5=false\/s.near=false then 1
 else if Kc s.size (GX p a s)=true\/L0 p.size s.size (GX p a s)>16384 then 4 else 0
def Rp(p:Pf)(a:Int):Int:=(p.FN (PW a) 0).length
def Ph(p:Pf)(a:Int)(q:Pf):Int:=
 if p.err≠0 then p.err else if ¬(0<=a/\a<=16384) then 1 else if q.err≠0 then q.err else if p.Fh=false\/q.Fh=false\/q.C5=false then 1
 else if(p.size:Int)+Rp p a*(q.size-1)>16384 then 4 else 0
section
variable {p q:Pf} {fr by_ a:Int} {s:Tm}
theorem Yek(h:p.err≠0):FV p a s=p.err:=by unfold FV;rw[if_pos h]
theorem Ycb(h:p.err=0)(ha:0<=a/\a<=4096)(hs:s.err=0)(hn:¬(p.C5=false\/s.near=false)):FV p a s=if Kc s.size (GX p a s)=true\/L0 p.size s.size (GX p a s)>16384 then 4 else 0:=by
 unfold FV;rw[if_neg (by simp[h]),if_neg (fun g=>g ha),if_neg (by simp[hs]),if_neg hn]
end
def Px(k i _y:Int):List Int:=if k=2 then [i] else []
theorem VC(y w:Int):∀l:List Pf,(∀p∈l,∀y,p.FQ y=p.FN On y)->Pf.FG y w l=Pf.CY On y w l
 |[],_=>by simp only[Pf.FG,Pf.CY]
 |p::l,h=>by
  simp only[Pf.FG,Pf.CY];rw[h p (by simp),VC y w l fun q hq=>h q (by simp[hq])]
theorem VD(p:Pf):∀y,p.FQ y=p.FN On y:=by
 induction p using Pf.ind with
 |h p ih=>
  intro y;rw[Pf.IG,Pf.D5,VC _ _ _ ih]
  rfl
theorem SW(y w:Int):∀l:List Pf,(∀p∈l,∀y,p.G0=p.FN Px y)->l.map Pf.G0=Pf.CY Px y w l
 |[],_=>by simp only[Pf.CY];rfl
 |p::l,h=>by
  simp only[List.map_cons,Pf.CY];rw[h p (by simp) (if l.length=0 then y+w else y),SW y w l fun q hq=>h q (by simp[hq])]
theorem TT(p:Pf):∀y,p.G0=p.FN Px y:=by
 induction p using Pf.ind with
 |h p ih=>
  intro y;rw[Pf.Ja,Pf.D5,SW y (Gw p.kind) p.args ih]
  rfl
theorem Zyi{p:Pf}{ts:List Tm}{fs:List Fm}{zs:List Pf}(hs:p.shape=true)(h1:ts.length=p.terms.length)(h2:fs.length=p.Aq.length)(h3:zs.length=p.args.length)
 (a1:∀t∈ts,t.shape=true) (a2:∀f∈fs,f.shape=true) (a3:∀x∈zs,x.shape=true):(Pf.mk p.kind p.index p.ty ts fs zs).shape=true:=by
 obtain⟨h,_⟩:=wg hs;rw[Pf.Ag];simp only[Bool.and_eq_true,List.all_eq_true];refine⟨⟨⟨?_,a1⟩,a2⟩,a3⟩;obtain⟨k,i,y,t0,f0,z0⟩:=p;simp only[Pf.Am,Pf.AV,Pf.AD,Pf.Ar,Pf.Ca,Pf.Ae] at h1 h2 h3 ⊢;unfold Pf.head at h ⊢;simp only[Pf.Am,Pf.AV,Pf.AD,Pf.Ar,Pf.Ca,Pf.Ae] at h ⊢;cases hn:C1 k with
 |none=>rw[hn] at h;cases h
 |some n=>
  rw[hn] at h;simp only[h1,h2,h3];exact h
def Pz(C:Int)(n:Nat)(p:Pf):Prop:=p.shape=true/\p.small=true/\p.size=n/\p.ix C
theorem Pz.err{C:Int}{n:Nat}{p:Pf}(h:Pz C n p)(hn:n<=16384):p.err=0:=(Pf.Ad p).2 ⟨h.1,h.2.1,by rw[h.2.2.1];exact hn⟩
theorem Pz.near{C:Int}{n:Nat}{p:Pf}(h:Pz C n p)(hC:C<=1000000):p.C5=true:=by
 have key:∀(p:Pf),p.ix C->∀v,(p.GQ (fun(_:Int) (t:Tm)=>t.near) (fun(_:Int) (f:Fm)=>f.near) v).all id=true:=by
  intro p;induction p using Pf.ind with
  |h p ih=>
   intro hix v;obtain⟨i1,i2,i3⟩:=(Pf.EG _ p).1 hix;rw[Pf.EN,List.all_append,List.all_append,Bool.and_eq_true,Bool.and_eq_true];refine⟨⟨List.all_eq_true.2 fun b hb=> ?_,List.all_eq_true.2 fun b hb=> ?_⟩,List.all_eq_true.2 fun b hb=> ?_⟩
   ·obtain ⟨t,ht,rfl⟩:=List.mem_map.1 hb;exact List.all_eq_true.2 fun q hq=>by have:=i1 t ht q hq;simp;omega
   ·obtain ⟨f,hf,rfl⟩:=List.mem_map.1 hb;exact Ue hC fun q hq r hr=>by have:=i2 f hf q hq r hr;omega
   ·obtain ⟨l,hl,hb⟩:=List.mem_flatten.1 hb;obtain⟨m,hm,rfl⟩:=List.getElem_of_mem hl;rw[Ov] at hm;rw[P3 _ _ _ _ _ _ hm] at hb;exact List.all_eq_true.1 (ih _ (List.getElem_mem hm) (i3 _ (List.getElem_mem hm)) _) b hb
 exact key p h.2.2.2 0
section
variable {α:Type} (F:Int->Int->Int->List α)
theorem Tv(a:Int)(s:Tm)(p:Pf):∀v y,(p.pt a s v).FN F y=p.FN F y:=by
 induction p using Pf.ind with
 |h p ih=>
  intro v y;rw[Pf.Fc,Pf.D5,p.D5];simp only[Pf.Am,Pf.AV,Pf.Ae];congr 2;have key:∀(l:List Pf),(∀x∈l,x∈p.args)->Pf.CY F y (Gw p.kind) (Pf.pts a s v (El p.kind) l)=Pf.CY F y (Gw p.kind) l:=by
   intro l;induction l with
   |nil=>intro _;simp only[Pf.pts]
   |cons x l ihl=>
    intro hx;simp only[Pf.pts,Pf.CY,Lp];rw[ihl fun z hz=>hx z (by simp[hz]),ih x (hx x (by simp))]
  exact key p.args fun _ h=>h
end
theorem Made.err{n:Nat}{p:Pf}(h:Made n p):p.err=0\/p.err=4:=by
 unfold Pf.err;rw[h.shape];simp only[Bool.true_eq_false,if_false];split
 ·exact .inr rfl
 ·exact .inl rfl
structure U0 (p r:Pf) (t:Tm) (x y a a' s b:Pf) (e f g h i j:Int):Prop where
 res:(g=4\/j=4)\/(e=0/\f=0/\g=0/\h=0/\i=0/\j=0/\y=p/\a'=b)
 fx:x.full<=200000000
 fa:a.full<=200000000
 fs:s.full<=200000000
 fy:y.full<=200000000
 fa':a'.full<=200000000
 fb:b.full<=200000000
def Sk(p:Pf)(fr b:Int):Pf:=if Yg6 p fr b=0 then p.uw fr b 0 else Dq
def Gq(p:Pf)(a:Int)(s:Tm):Pf:=if FV p a s=0 then p.pt a s 0 else Dq
def Ta(p:Pf)(a:Int)(q:Pf):Pf:=if Ph p a q=0 then Pf.ph a q 0 0 p else Dq
def GW(k:Int)(l:List (Int×Int)):Int:=(l.map fun q=>q.2*(k-1)).sum
theorem Qb(k:Int)(l l':List (Int×Int)):GW k (l++l')=GW k l+GW k l':=by
 unfold GW;induction l with
 |nil=>simp
 |cons q l ih=>simp only[List.cons_append,List.map_cons,List.sum_cons];rw[ih];omega
theorem Ydn(n k:Int)(l:List (Int×Int)):L0 n k l=n+GW k l:=rfl
theorem R6{α:Type}{sz sz':α->Nat}{G:α->Int×Int}{k:Int}(l:List α)(h:∀x∈l,(sz' x:Int)=sz x+(G x).2*(k-1)):(((l.map sz').sum:Nat):Int)=((l.map sz).sum:Nat)+GW k (l.map G):=by
 unfold GW;induction l with
 |nil=>simp
 |cons x l ih=>
  have h1:=h x (by simp);have h2:=ih fun y hy=>h y (by simp[hy]);simp only[List.map_cons,List.sum_cons];omega
theorem Yid{s:Tm}{a:Int}(ha:0<=a)(hs:s.shape=true)(p:Pf):p.shape=true->∀v,0<=v->(∀q∈p.GQ (HO a) (G5 a) v,q.1+q.2*((s.size:Int)-1)<=4096)->
 (p.pt a s v).shape=true/\(p.pt a s v).small=true/\((p.pt a s v).size:Int)=p.size+GW s.size (p.GQ (HO a) (G5 a) v):=by
 have sp:=s.size_pos;have cast:∀(n c:Nat),((n+c*(s.size-1):Nat):Int)=(n:Int)+(c:Int)*((s.size:Int)-1):=fun n c=>by
  rw[Int.natCast_add,Int.natCast_mul,show(((s.size-1:Nat)):Int)=(s.size:Int)-1 by omega]
 induction p using Pf.ind with
 |h p ih=>
  intro hp v hv hq;obtain⟨_,s4,s5,s6⟩:=wg hp;have fv:0<=DF p.kind:=by unfold DF;split<;>(try split)<;>omega
  have b1:0<=El p.kind:=by unfold El;split<;>(try split)<;>omega
  rw[Pf.EN] at hq ⊢;have zt:∀t∈p.terms,((t.re (xm (a+v) s) 0).size:Int)=t.size+(HO a v t).2*((s.size:Int)-1):=fun t ht=>by
   rw[MY (a+v) s t hs 0 (s4 t ht),cast];rfl
  have zf:∀f∈p.Aq,((f.put (a+(v+DF p.kind)) s).size:Int)=f.size+(G5 a (v+DF p.kind) f).2*((s.size:Int)-1):=fun f hf=>by
   have e:(f.put (a+(v+DF p.kind)) s).size=f.size+wc (a+(v+DF p.kind)) (f.AU 0)*(s.size-1):=LB (a+(v+DF p.kind)) s hs f (s5 f hf) 0;rw[e,cast];unfold G5;rw[show a+(v+DF p.kind)=a+(v+DF p.kind) from rfl]
  have key:∀(l:List Pf),(∀x∈l,x∈p.args)->(∀q∈(Pf.Cr (HO a) (G5 a) v (El p.kind) l).flatten,q.1+q.2*((s.size:Int)-1)<=4096)->
   (∀x∈Pf.pts a s v (El p.kind) l,x.shape=true/\x.small=true)/\((((Pf.pts a s v (El p.kind) l).map Pf.size).sum:Nat):Int)=((l.map Pf.size).sum:Nat)+GW s.size (Pf.Cr (HO a) (G5 a) v (El p.kind) l).flatten:=by
   intro l;induction l with
   |nil=>intro _ _;simp[Pf.pts,Pf.Cr,GW]
   |cons x l ihl=>
    intro hx hq;simp only[Pf.Cr,List.flatten_cons,List.mem_append] at hq;obtain⟨a1,a2⟩:=ihl (fun z hz=>hx z (by simp[hz])) fun q h=>hq q (.inr h);obtain⟨c1,c2,c3⟩:=ih x (hx x (by simp)) (s6 x (hx x (by simp))) (if l.length=0 then v+El p.kind else v) (by split<;>omega) fun q h=>hq q (.inl h);simp only[Pf.pts,Pf.Cr,List.mem_cons,List.map_cons,List.sum_cons,List.flatten_cons];refine⟨fun z hz=> ?_,?_⟩
    ·rcases hz with rfl|hz
     ·exact ⟨c1,c2⟩
     ·exact a1 z hz
    ·rw[Qb,Int.natCast_add,a2,c3];omega
  simp only[List.mem_append] at hq;obtain⟨k1,k2⟩:=key p.args (fun _ h=>h) fun q h=>hq q (.inr h);rw[Pf.Fc];refine⟨Zyi hp (List.length_map ..) (List.length_map ..) (Lp _ _ _ _ _) (fun y hy=> ?_) (fun y hy=> ?_) (fun x h=>(k1 x h).1),?_,?_⟩
  ·obtain ⟨t,ht,rfl⟩:=List.mem_map.1 hy;exact Nj 0 hs (s4 t ht) (by omega) (by omega) (fun p hp=>vu t 0 p hp)
  ·obtain ⟨f,hf,rfl⟩:=List.mem_map.1 hy;exact Lc (by omega) hs (s5 f hf)
  ·rw[Pf.CA];simp only[Bool.and_eq_true,List.all_eq_true,decide_eq_true_eq,Pf.Ar,Pf.Ca,Pf.Ae];refine⟨⟨fun y hy=> ?_,fun y hy=> ?_⟩,fun x h=>(k1 x h).2⟩
   ·obtain ⟨t,ht,rfl⟩:=List.mem_map.1 hy;have:=hq _ (.inl (.inl (List.mem_map.2 ⟨t,ht,rfl⟩)));have:=zt t ht;have:(HO a v t).1=t.size:=rfl;omega
   ·obtain ⟨f,hf,rfl⟩:=List.mem_map.1 hy;have:=hq _ (.inl (.inr (List.mem_map.2 ⟨f,hf,rfl⟩)));have:=zf f hf;have:(G5 a (v+DF p.kind) f).1=f.size:=rfl;omega
  ·rw[Pf.size_eq,p.size_eq];simp only[Pf.Ar,Pf.Ca,Pf.Ae,List.map_map];have q1:=R6 (sz:=Tm.size) (sz':=Tm.size∘fun t=>t.re (xm (a+v) s) 0) (G:=HO a v) (k:=s.size) p.terms zt;have q2:=R6 (sz:=Fm.size) (sz':=Fm.size∘fun f=>f.put (a+(v+DF p.kind)) s) (G:=G5 a (v+DF p.kind)) (k:=s.size) p.Aq zf;rw[Qb,Qb];omega
theorem Yh3(C a:Int)(s:Tm)(p:Pf):p.hx C->∀v,(p.pt a s v).hx C:=by
 induction p using Pf.ind with
 |h p ih=>
  intro h v;obtain⟨h1,h2⟩:=(Pf.EK C p).1 h;rw[Pf.Fc,Pf.EK];simp only[Pf.Am,Pf.AV,Pf.Ae];refine⟨h1,fun hk x hx=> ?_⟩;obtain⟨m,hm,rfl⟩:=List.getElem_of_mem hx;rw[Lp] at hm;rw[QM _ _ _ _ _ _ hm];exact ih _ (List.getElem_mem hm) (h2 hk _ (List.getElem_mem hm)) _
theorem Yhz(C a:Int)(s:Tm)(p:Pf):p.lx C->∀v,(p.pt a s v).lx C:=by
 induction p using Pf.ind with
 |h p ih=>
  intro h v;obtain⟨h1,h2⟩:=(Pf.ET C p).1 h;rw[Pf.Fc,Pf.ET];simp only[Pf.Am,Pf.AV,Pf.Ae];refine⟨h1,fun x hx=> ?_⟩;obtain⟨m,hm,rfl⟩:=List.getElem_of_mem hx;rw[Lp] at hm;rw[QM _ _ _ _ _ _ hm];exact ih _ (List.getElem_mem hm) (h2 _ (List.getElem_mem hm)) _
def twoP(p q:Pf):Pf:= .mk 3 0 (.mk 0 []) [] [] [p,q]
theorem keeps{n:Nat}{p:Pf}{t:Tm}{a:Int}(hp:Made n p)(ha:0<=a/\a<=4096)(ht:t.err=0)(htn:t.near=true):
 FV p a t=4\/(p.err=0/\FV p a t=0/\(Gq p a t).err=0/\Ol (Gq p a t)=Ol p/\Ri (Gq p a t)=Ri p/\(Gq p a t).hx 10000/\(Gq p a t).lx 10000):=by
 rcases hp.err with he|he;case inr=>exact .inl (by rw[Yek (by omega),he])
 obtain⟨g1,g2,g3⟩:=(Pf.Ad p).1 he;have h5:=Ycb (a:=a) he ha ht (by rw[show p.C5=true from Yad p hp.ix 0,htn];simp);by_cases hb:Kc t.size (GX p a t)=true\/L0 p.size t.size (GX p a t)>16384
 ·rw[if_pos hb] at h5;exact .inl h5
 rw[if_neg hb] at h5;have e:Gq p a t=p.pt a t 0:=by unfold Gq;rw[if_pos h5]
 have hB:Kc t.size (GX p a t)=false:=by cases h:Kc t.size (GX p a t) with|false=>rfl|true=>exact absurd (.inl h) hb
 unfold Kc at hB;rw[List.any_eq_false] at hB;have hN:L0 p.size t.size (GX p a t)<=16384:=by
  refine Int.not_lt.1 fun h=>hb (.inr h)
 rw[Ydn] at hN;obtain⟨k1,k2,k3⟩:=Yid ha.1 ((Tm.Ad t).1 ht).1 p g1 0 (by omega) fun q hq=>by
  have:=hB q hq;simp at this;omega
 unfold GX at hN;refine .inr ⟨he,h5,?_,?_,?_,?_,?_⟩
 ·rw[e,Pf.Ad];exact⟨k1,k2,by omega⟩
 ·rw[e];unfold Ol;rw[VD,VD,Tv]
 ·rw[e];unfold Ri;rw[TT _ 0,TT p 0,Tv]
 ·rw[e];exact Yh3 _ _ _ _ hp.hx 0
 ·rw[e];exact Yhz _ _ _ _ hp.lx 0
def GK(p:Pf):Int×Int:=if p.kind=16\/p.kind=17 then(p.kind,(p.terms.getD 0 va).kind) else if 0<p.args.length then(p.kind,(p.args.getD 0 Dq).kind) else(p.kind,0)
def Q7:List (Int×Int):=[(4,3),(5,3),(7,6),(9,8),(13,12),(11,10),(15,14),(16,4),(16,5),(17,7),(17,8)]
def UU(p:Pf):Bool:=decide (GK p∈Q7)
def Ro(q:Pf)(t:Tm)(p:Pf):Pf×Int:=if FV q 0 t≠0 then(Dq,FV q 0 t) else(Ta (Gq q 0 t) 0 p,Ph (Gq q 0 t) 0 p)
def SY(p:Pf)(t:Tm):Pf:= .mk p.kind p.index p.ty [t] p.Aq p.args
def Pf.arg(p:Pf)(i:Nat):Pf:=p.args.getD i Dq
def Pf.E8(p:Pf):Tm:=p.terms.getD 0 va
def QT(t:Tm):Tm:=if yh t 0 1=0 then t.re (zn 0 1) 0 else va
def Yh2(p:Pf)(h l:Tm):Pf×Int:=
 if yh l 0 1≠0 then(Dq,yh l 0 1) else if FV (p.arg 1) 0 (QT l)≠0 then(Dq,FV (p.arg 1) 0 (QT l)) else Ro (Gq (p.arg 1) 0 (QT l)) h (SY p l)
def TX(p:Pf):Pf×Int:=
 if GK p=(4,3) then((p.arg 0).arg 0,0)
 else if GK p=(5,3) then((p.arg 0).arg 1,0)
 else if GK p=(7,6) then(Ta ((p.arg 0).arg 0) 0 (p.arg 1),Ph ((p.arg 0).arg 0) 0 (p.arg 1))
 else if GK p=(9,8)\/GK p=(13,12) then(Gq ((p.arg 0).arg 0) 0 p.E8,FV ((p.arg 0).arg 0) 0 p.E8)
 else if GK p=(11,10)\/GK p=(15,14) then Ro (p.arg 1) (p.arg 0).E8 ((p.arg 0).arg 0)
 else if GK p=(16,5) then Ro (p.arg 1) (p.E8.args.getD 0 va) (SY p (p.E8.args.getD 0 va))
 else if GK p=(17,8) then Yh2 p (p.E8.args.getD 0 va) (p.E8.args.getD 1 va)
 else(p.arg 0,0)
mutual
def Pf.nx:Pf->Pf×Bool×Int
 | .mk k i s ts fs zs=>if UU (.mk k i s ts fs zs)=true then((TX (.mk k i s ts fs zs)).1,true,(TX (.mk k i s ts fs zs)).2)
   else(.mk k i s ts fs (Pf.JS zs).1,(Pf.JS zs).2.1,(Pf.JS zs).2.2)
def Pf.JS:List Pf->List Pf×Bool×Int
 |[]=>([],false,0)
 |p::l=>if(Pf.nx p).2.1=true\/(Pf.nx p).2.2≠0 then((Pf.nx p).1::l,(Pf.nx p).2.1,(Pf.nx p).2.2) else(p::(Pf.JS l).1,(Pf.JS l).2.1,(Pf.JS l).2.2)
end
mutual
def Pf.direct:Pf->Bool
 | .mk k i s ts fs zs=>if UU (.mk k i s ts fs zs)=true then false else Pf.E1 zs
def Pf.E1:List Pf->Bool
 |[]=>true
 |p::l=>Pf.direct p&&Pf.E1 l
end
def Jf(p:Pf):Pf×Bool×Int:=if p.nx.2.2≠0\/p.nx.1.err≠0 then(Dq,false,4) else(p.nx.1,p.nx.2.1,0)
def lnF(k i _y:Int):List Bool:=if k=1\/k=2 then [decide (i<=536870912)] else []
def Pf.HU(p:Pf):Bool:=([p.C5&&p.Fh]++p.FN lnF 0).all id
def TJ:Nat->Pf->Int->Pf×Int×Int
 |0,p,n=>if p.direct=true then(p,n,0) else(Dq,0,5)
 |k+1,p,n=>if(Jf p).2.2≠0 then(Dq,0,(Jf p).2.2) else if(Jf p).2.1=false then(p,n,0) else TJ k (Jf p).1 (n+1)
def V2(p:Pf):Pf×Bool×Int:=if p.err≠0 then(Dq,false,p.err) else if p.HU=false then(Dq,false,1) else if(Jf p).2.2≠0 then(Dq,false,(Jf p).2.2) else Jf p
def TB(p:Pf)(s:Int):Pf×Int×Int:=if p.err≠0 then(Dq,0,p.err) else if s<0\/s>65536\/p.HU=false then(Dq,0,1) else TJ s.toNat p 0
end Go.Ab
