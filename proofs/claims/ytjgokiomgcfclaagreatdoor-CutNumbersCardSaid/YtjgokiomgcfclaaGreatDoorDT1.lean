/- A part of the proofs of this seat. No conditions. -/
import Derived.Test.YtjgokiomgcfclaaGreatDoorAT1
import Derived.Test.YtjgokiomgcfclaaGreatDoorD1
namespace Go.Ab
open Go
set_option linter.all false
theorem V3{k:Int}:∀{l:List Int},k∉l->uc k l=none
 |[],_=>rfl
 |x::l,h=>by
  simp only[List.mem_cons,not_or] at h;have h1:¬x=k:=fun e=>h.1 e.symm;simp only[uc,if_neg h1,V3 h.2,Option.map_none]
theorem ZH{k:Int}:∀{l:List Int},k∈l->∃i,uc k l=some i
 |[],h=>by cases h
 |x::l,h=>by
  by_cases hx:x=k
  ·exact ⟨0,by simp[uc,hx]⟩
  ·obtain ⟨i,hi⟩:=ZH (l:=l) (by rcases List.mem_cons.1 h with h|h;exact absurd h.symm hx;exact h);exact⟨i+1,by simp[uc,hx,hi]⟩
theorem Ri(k:Int)(ks:List Int):ub k ks=if k∈ks then ks else ks++[k]:=by
 by_cases h:k∈ks
 ·obtain ⟨i,hi⟩:=ZH h;rw[if_pos h,ub,hi]
 ·rw[if_neg h,ub,V3 h]
theorem Yal{k x:Int}{ks:List Int}:x∈ub k ks↔x∈ks\/x=k:=by
 rw[Ri];split
 ·rename_i h;constructor
  ·exact Or.inl
  ·rintro (h1|rfl)
   ·exact h1
   ·exact h
 ·simp
theorem Zqn{k:Int}{ks:List Int}(h:ks.Nodup):(ub k ks).Nodup:=by
 rw[Ri];split
 ·exact h
 ·rename_i h1;exact List.nodup_append.2 ⟨h,by simp,fun a ha b hb e=>by simp at hb;subst hb;subst e;exact h1 ha⟩
theorem Te(k:Int)(ks:List Int)(b:Bool):EL k ks (List.replicate ks.length b) b=List.replicate (ub k ks).length b:=by
 unfold EL ub;split
 ·rename_i i hi;apply List.ext_getElem?;intro j;rw[List.getElem?_set];split
  ·rename_i e;subst e;have:=(wq hi).2;simp[List.getElem?_replicate,this]
  ·rfl
 ·rw[List.length_append,<-List.replicate_append_replicate];rfl
def Cd(acc l:List Int):List Int:=l.foldl (fun ks k=>ub k ks) acc
theorem Pc(acc l l':List Int):Cd acc (l++l')=Cd (Cd acc l) l':=List.foldl_append
theorem Ow(acc:List Int):Cd acc []=acc:=rfl
theorem U3(acc:List Int)(k:Int):Cd acc [k]=ub k acc:=rfl
theorem Pr{x:Int}:∀{l acc:List Int},x∈Cd acc l↔x∈acc\/x∈l
 |[],acc=>by simp[Cd]
 |k::l,acc=>by
  show x∈Cd (ub k acc) l↔_;rw[Pr,Yal,List.mem_cons,or_assoc]
theorem KP:∀{l acc:List Int},acc.Nodup->(Cd acc l).Nodup
 |[],acc,h=>h
 |k::l,acc,h=>KP (l:=l) (Zqn h)
theorem Ox:∀(l acc:List Int),(Cd acc l).length<=acc.length+l.length
 |[],acc=>by simp[Cd]
 |k::l,acc=>by
  have h1:=Ox l (ub k acc);have h2:(ub k acc).length<=acc.length+1:=by rw[Ri];split<;>simp
  show(Cd (ub k acc) l).length<=_;rw[List.length_cons];omega
def Dg(l:List (Int×Int)):List Int:=l.filterMap fun p=>if p.2<=p.1 then some (p.1-p.2) else none
theorem TO(l l':List (Int×Int)):Dg (l++l')=Dg l++Dg l':=List.filterMap_append
theorem Wo:Dg []=[]:=rfl
theorem WG(i b:Int):Dg [(i,b)]=if b<=i then [i-b] else []:=by
 by_cases h:b<=i
 ·simp[Dg,h]
 ·simp[Dg,h]
theorem Yhp(l:List (Int×Int)):(Dg l).length<=l.length:=List.length_filterMap_le _ _
theorem Yjs{x:Int}{l:List (Int×Int)}:x∈Dg l↔0<=x/\∃p∈l,p.1-p.2=x:=by
 simp only[Dg,List.mem_filterMap];constructor
 ·rintro ⟨p,hp,h⟩;split at h
  ·cases h;exact⟨by omega,p,hp,rfl⟩
  ·cases h
 ·rintro ⟨h0,p,hp,h⟩;exact⟨p,hp,by rw[if_pos (by omega),h]⟩
theorem EF{x:Int}:∀{l:List (Int×Int)},(∃p∈l,p.1-p.2=x)↔cnt x l≠0
 |[]=>by simp[cnt]
 |p::l=>by
  have ih:=EF (x:=x) (l:=l);rw[show p::l=[p]++l from rfl,x6,uz];constructor
  ·rintro ⟨q,hq,h⟩;rcases List.mem_append.1 hq with h1|h1
   ·simp at h1;subst h1;rw[if_pos h];omega
   ·have:=ih.1 ⟨q,h1,h⟩;omega
  ·intro h;by_cases h1:p.1-p.2=x
   ·exact ⟨p,by simp,h1⟩
   ·rw[if_neg h1] at h;obtain⟨q,hq,h2⟩:=ih.2 (by omega);exact⟨q,by simp[hq],h2⟩
def Ja(t:Tm):List Int:=Cd [] (Dg (t.vars 0))
def Lz(t:Tm):List Int:=y8 (Ja t)
theorem XW(t:Tm):(Ja t).Nodup:=KP List.nodup_nil
theorem Yen{t:Tm}{x:Int}:x∈Ja t↔0<=x/\cnt x (t.vars 0)≠0:=by rw[Ja,Pr,Yjs,EF];simp
theorem Yfm(t:Tm):(Ja t).length<=t.size:=by
 have h1:=Ox (Dg (t.vars 0)) [];have h2:=Yhp (t.vars 0);have h3:=t.CQ 0;simp only[Ja,List.length_nil] at*;omega
theorem vh(l:List Int):(y8 l).Perm l:=List.mergeSort_perm l _
theorem OX(l:List Int):(y8 l).Pairwise (·<=·):=by
 have h:=List.pairwise_mergeSort (le:=fun x y:Int=>decide (x<=y)) (fun a b c h1 h2=>by simp only[decide_eq_true_eq] at*;omega) (fun a b=>by simp only[Bool.or_eq_true,decide_eq_true_eq];omega) l;exact h.imp fun h=>by simpa using h
theorem XL{l l':List Int}(hp:l.Perm l')(h:l.Pairwise (·<=·))(h':l'.Pairwise (·<=·)):l=l':=
 hp.eq_of_pairwise (le:=(·<=·)) (fun a b _ _ h1 h2=>by omega) h h'
theorem Zm2{l l':List Int}(hp:l.Perm l'):y8 l=y8 l':=
 XL ((vh l).trans (hp.trans (vh l').symm)) (OX l) (OX l')
theorem GH{t:Tm}{x:Int}:x∈Lz t↔0<=x/\cnt x (t.vars 0)≠0:=by rw[Lz,(vh _).mem_iff,Yen]
theorem Zrs(t:Tm):(Lz t).Nodup:=(vh _).nodup_iff.2 (XW t)
def shI(fr by_ v:Int):Int:=if v>=fr then v+by_ else v
def Di(l:List Int)(n:Int)(i:Nat):List Int:=l.take i++(l.getD i n::l.drop i)
def KA(l:List Int)(n:Int)(i:Nat):List Int:=l.take i++n::l.drop i
theorem Yev(l:List Int)(n:Int):Di l n l.length=l++[n]:=by simp[Di]
theorem Yfu{l:List Int}{n:Int}{i:Nat}(h:i<=l.length):(Di l n i).length=l.length+1:=by simp[Di];omega
theorem Yjt{l:List Int}{n:Int}{i:Nat}(h:i<l.length)(h':i<(Di l n (i+1)).length):(Di l n (i+1))[i]=l[i]:=by
 simp only[Di];rw[List.getElem_append_left (by simp;omega),List.getElem_take]
theorem Zz0{l:List Int}{n:Int}{i:Nat}(h:i<l.length):(Di l n (i+1)).set (i+1) l[i]=Di l n i:=by
 have h1:(l.take (i+1)).length=i+1:=by simp;omega
 simp only[Di];have e:l.take (i+1)=l.take i++[l[i]]:=by rw[List.take_succ,List.getElem?_eq_getElem h];rfl
 rw[List.set_append_right (h:=by omega),h1,Nat.sub_self,List.set_cons_zero,e,List.append_assoc,List.singleton_append,<-List.drop_eq_getElem_cons h];congr 2;rw[List.getD_eq_getElem?_getD,List.getElem?_eq_getElem h];rfl
theorem Zyp{l:List Int}{n:Int}{i:Nat}(h:i<=l.length):(Di l n i).set i n=KA l n i:=by
 have h1:(l.take i).length=i:=by simp;omega
 simp only[Di,KA];rw[List.set_append_right (h:=by omega),h1,Nat.sub_self,List.set_cons_zero]
theorem Ya7(l:List Int)(n:Int)(i:Nat):(KA l n i).Perm (n::l):=by
 have h1:(KA l n i).Perm (n::(l.take i++l.drop i)):=List.perm_middle
 rwa [List.take_append_drop] at h1
theorem Zq2{l:List Int}{n:Int}{i:Nat}(hs:l.Pairwise (·<=·))(h:∀x∈l.drop i,n<x)(h':∀(hi:0<i) (hl:i-1<l.length),l[i-1]<=n)(hil:i<=l.length):(KA l n i).Pairwise (·<=·):=by
 have hs':=hs;rw[<-List.take_append_drop i l,List.pairwise_append] at hs;obtain⟨h1,h2,h3⟩:=hs;have ht:∀x∈l.take i,x<=n:=fun x hx=>by
  obtain⟨j,hj,hx2⟩:=List.mem_iff_getElem.1 hx;have hj2:j<i:=by simp at hj;omega
  rw[List.getElem_take] at hx2;have h4:=h' (by omega) (by omega);rcases Nat.lt_or_ge j (i-1) with h5|h5
  ·have:=List.pairwise_iff_getElem.1 hs' j (i-1) (by omega) (by omega) h5;omega
  ·have h6:j=i-1:=by omega
   subst h6;omega
 rw[KA,List.pairwise_append];refine⟨h1,List.pairwise_cons.2 ⟨fun x hx=>by have:=h x hx;omega,h2⟩,fun x hx y hy=> ?_⟩;rcases List.mem_cons.1 hy with rfl|hy
 ·exact ht x hx
 ·exact h3 x hx y hy
theorem Zx8{d:List Int}{n:Int}{i:Nat}(h:∀x∈(y8 d).drop i,n<x)(h':∀(hi:0<i) (hl:i-1<(y8 d).length),(y8 d)[i-1]<=n)(hil:i<=(y8 d).length):KA (y8 d) n i=y8 (d++[n]):=by
 refine XL ?_ (Zq2 (OX d) h h' hil) (OX _);refine((Ya7 _ _ _).trans ((vh d).cons n)).trans (?_:(n::d).Perm _);exact((List.perm_append_comm (l₁:=[n]) (l₂:=d)).trans (vh _).symm)
theorem U0(d:List Int):(y8 d).length=d.length:=(vh d).length_eq
theorem Oi:y8 []=[]:=List.mergeSort_nil
theorem UJ:∀{l ks:List Int},l.Nodup->(∀x∈l,x∈ks)->l.length<=ks.length
 |[],_,_,_=>Nat.zero_le _
 |x::l,ks,hn,h=>by
  obtain⟨h1,h2⟩:=List.nodup_cons.1 hn;have h3:=h x (by simp);have h4:=UJ (l:=l) (ks:=ks.erase x) h2 fun y hy=>(List.mem_erase_of_ne (fun e:y=x=>h1 (by rw[<-e];exact hy))).2 (h y (by simp[hy]));rw[List.length_erase_of_mem h3] at h4;have:0<ks.length:=List.length_pos_of_mem h3;simp only[List.length_cons];omega
theorem Yet{t:Tm}(hC:∀p∈t.vars 0,p.1<=1000000):t.near=true:=List.all_eq_true.2 fun p hp=>by
 have:=hC p hp;simp only[decide_eq_true_eq];omega
def Yoc(t:Tm)(a:Int):Int:=if t.err≠0 then t.err else if ¬(0<=a/\a<=4096) then 1 else if 0<cnt a (t.vars 0) then 6 else 0
def Yb(l:List Int):List Int:=(l.filter fun v=>decide (v≠0)).map (·-1)
def VB(a b:List Int):List Int:=Cd (Cd [] (Yb a)) (if 0∈a then b else [])
def hasM(a:List Int)(m:Nat):Bool:=decide (0∈a.take m)
def wM(a:List Int)(m:Nat):List Int:=Cd [] (Yb (a.take m))
def wN(a b:List Int)(h:Bool)(m:Nat):List Int:=Cd (wM a a.length) (if h=true then b.take m else [])
def Ypp(f:Fm):List Int:=Cd [] (Dg (F3 (f.AZ 0)))
def TX(f:Fm):List Int:=y8 (Ypp f)
def Fm.Bd(f:Fm)(fr by_:Int):Fm:=f.re (fun b t=>t.re (zo (fr+b) by_) 0) 0
def OY(f:Fm)(fr by_:Int):Int:=if f.err≠0 then f.err else if ¬(0<=fr/\fr<=4096)\/¬(0<=by_/\by_<=4096)\/f.near=false then 1 else 0
def Yn8(f:Fm)(a:Int):Int:=if f.err≠0 then f.err else if ¬(0<=a/\a<=4096) then 1 else if 0<w6 a (f.AZ 0) then 6 else 0
def NU:Fm:=AV (.mk 4 0 (.mk 0 []) []) (.mk 5 0 (.mk 0 []) [.mk 4 0 (.mk 0 []) []])
def Gp(f:Fm):Fm:= .mk 3 (.mk 0 []) [] [f,NU]
def PE:Fm:=AV (.mk 1 0 (.mk 0 []) []) (.mk 4 0 (.mk 0 []) [])
def orF(a b:Fm):Fm:= .mk 5 Af [] [.mk 2 (.mk 0 []) [] [.mk 3 (.mk 0 []) [] [PE,a],.mk 3 (.mk 0 []) [] [.mk 3 (.mk 0 []) [] [PE,NU],b]]]
theorem ON{f:Fm}(h:f.shape=true):
 (f.kind=1/\f.args=[])\/((f.kind=2\/f.kind=3)/\f.terms=[])\/((f.kind=4\/f.kind=5\/f.kind=6\/f.kind=7)/\f.terms=[]/\f.ty.err=0):=by
 rw[Fm.Ai,Bool.and_eq_true,Bool.and_eq_true] at h;have h1:=h.1.1;unfold Fm.head at h1;by_cases h2:f.kind=1
 ·rw[if_pos h2] at h1;simp only[Bool.and_eq_true,beq_iff_eq,List.length_eq_zero_iff] at h1;exact .inl ⟨h2,h1.2⟩
 rw[if_neg h2] at h1;by_cases h3:f.kind=2\/f.kind=3
 ·rw[if_pos h3] at h1;simp only[Bool.and_eq_true,beq_iff_eq,List.length_eq_zero_iff] at h1;exact .inr (.inl ⟨h3,h1.1.2⟩)
 rw[if_neg h3] at h1;by_cases h4:f.kind=4\/f.kind=5\/f.kind=6\/f.kind=7
 ·rw[if_pos h4] at h1;simp only[Bool.and_eq_true,beq_iff_eq,List.length_eq_zero_iff] at h1;refine .inr (.inr ⟨h4,h1.1.2,(Ty.Ae f.ty).2 ?_⟩);have:=h1.1.1;simp only[Ty.ok,Bool.and_eq_true,decide_eq_true_eq] at this;exact this
 rw[if_neg h4] at h1;cases h1
theorem OH{α:Type}{f g:α->Nat}{l:List α}(h:∀x∈l,f x=g x):(l.map f).sum=(l.map g).sum:=by rw[List.map_congr_left h]
theorem Yea{G:Int->Tm->Tm}(hG:∀b t,t.shape=true->(G b t).shape=true/\(G b t).size=t.size/\(G b t).full=t.full)(f:Fm):∀b,f.shape=true->(f.re G b).shape=true/\(f.re G b).size=f.size/\(f.re G b).full=f.full:=by
 induction f using Fm.ind with
 |h f ih=>
  intro b hf;have h0:=hf;rw[Fm.Ai,Bool.and_eq_true,Bool.and_eq_true] at h0;obtain⟨⟨h1,h2⟩,h3⟩:=h0;rw[Fm.Bz];refine⟨?_,?_,?_⟩
  ·rw[Fm.Ai,Bool.and_eq_true,Bool.and_eq_true];refine⟨⟨?_,?_⟩,?_⟩
   ·simp only[Fm.head,Fm.Ah,Fm.AL,Fm.Am,Fm.Ac,List.length_map] at h1 ⊢;exact h1
   ·rw[Fm.Am,List.all_eq_true];intro y hy;obtain⟨x,hx,rfl⟩:=List.mem_map.1 hy;exact(hG b x (List.all_eq_true.1 h2 x hx)).1
   ·rw[Fm.Ac,List.all_eq_true];intro y hy;obtain⟨x,hx,rfl⟩:=List.mem_map.1 hy;exact(ih x hx _ (List.all_eq_true.1 h3 x hx)).1
  ·rw[Fm.size_eq,f.size_eq];simp only[Fm.Am,Fm.Ac,List.map_map];rw[OH (f:=Tm.size∘G b) (g:=Tm.size) fun x hx=>(hG b x (List.all_eq_true.1 h2 x hx)).2.1,OH (f:=Fm.size∘Fm.re G (AE f.kind b)) (g:=Fm.size) fun x hx=>(ih x hx _ (List.all_eq_true.1 h3 x hx)).2.1]
  ·rw[Fm.Ag,f.Ag];simp only[Fm.Am,Fm.Ac,Fm.AL,List.map_map];rw[OH (f:=Tm.full∘G b) (g:=Tm.full) fun x hx=>(hG b x (List.all_eq_true.1 h2 x hx)).2.2,OH (f:=Fm.full∘Fm.re G (AE f.kind b)) (g:=Fm.full) fun x hx=>(ih x hx _ (List.all_eq_true.1 h3 x hx)).2.2]
theorem Kt{f:Fm}(hf:f.shape=true){fr by_:Int}(hb:0<=by_):(f.Bd fr by_).shape=true/\(f.Bd fr by_).size=f.size/\(f.Bd fr by_).full=f.full:=
 Yea (fun b t ht=>⟨u9 0 ht hb,ND _ _ t 0 ht,vb _ _ t 0 ht⟩) f 0 hf
theorem Yd9(g m:List Ty)(fr:Int)(f:Fm):∀(h:List Ty) (b:Int),(h.length:Int)=fr+b->f.shape=true->f.Bk (g++h)->
 (f.re (fun b t=>t.re (zo (fr+b) m.length) 0) b).Bk (g++m++h):=by
 induction f using Fm.ind with
 |h f ih=>
  intro h b hb hf hok;rw[Fm.Bu] at hok;rw[Fm.Bz,Fm.Bu];simp only[Fm.Am,Fm.Ac];refine⟨fun y hy=> ?_,fun y hy=> ?_⟩
  ·obtain ⟨x,hx,rfl⟩:=List.mem_map.1 hy;rw[RK x g m h (fr+b) 0 (zy hf hx) (by omega)];exact hok.1 x hx
  ·obtain ⟨x,hx,rfl⟩:=List.mem_map.1 hy;have h1:=hok.2 x hx;by_cases hq:xq f.kind=true
   ·rw[IG hq] at h1;rw[show ∀ts fs,Dd (g++m++h) (Fm.mk f.kind f.ty ts fs)=g++m++h++[f.ty] from fun ts fs=>IG (f:=Fm.mk f.kind f.ty ts fs) hq];have e:AE f.kind b=b+1:=if_pos hq;rw[e,List.append_assoc (g++m)];rw[List.append_assoc] at h1;exact ih x hx (h++[f.ty]) (b+1) (by simp;omega) (zn hf hx) h1
   ·rw[It hq] at h1;rw[show ∀ts fs,Dd (g++m++h) (Fm.mk f.kind f.ty ts fs)=g++m++h from fun ts fs=>It (f:=Fm.mk f.kind f.ty ts fs) hq];have e:AE f.kind b=b:=if_neg hq;rw[e];exact ih x hx h b hb (zn hf hx) h1
theorem Yp{f:Fm}{C:Int}(hC:C<=1000000)(h:∀p∈f.AZ 0,∀q∈p.1.vars 0,0<=q.1/\q.1<=C):f.near=true:=
 List.all_eq_true.2 fun p hp=>Yet fun q hq=>by have:=h p hp q hq;omega
theorem Na{f:Fm}(he:f.err=0){fr by_:Int}(hb:0<=by_):(f.Bd fr by_).err=0:=by
 have h1:=(Fm.Ae f).1 he;obtain⟨h2,h3,_⟩:=Kt h1.1 (fr:=fr) hb;exact(Fm.Ae _).2 ⟨h2,by rw[h3];exact h1.2⟩
def exF:Fm:= .mk 4 Af [] [.mk 1 (.mk 0 []) [vT 0,vT 1] []]
end Go.Ab
namespace Go.Ab
set_option linter.all false
theorem PG{k i:Int}{th T:Ty}{xs:List Tm}{g:List Ty}(k1:k≠1)(k2:k≠2)(h:(Tm.mk k i th xs).inf g=(T,0)):
 (∀x∈xs,x.inf g=((x.inf g).1,0))/\yr k th (xs.map fun x=>(x.inf g).1)=(T,0):=by
 obtain⟨h1,h2⟩:=uh (t:=Tm.mk k i th xs) k1 k2 h;exact⟨fun x hx=>by rw[<-h1 x hx],h2⟩
theorem V4{i:Int}{th T:Ty}{x f n:Tm}{g:List Ty}(h:(Tm.mk 6 i th [x,f,n]).inf g=(T,0)):
 T=th/\x.inf g=(th,0)/\f.inf g=(yt Af (yt th th),0)/\n.inf g=(Af,0):=by
 obtain⟨h1,h2⟩:=PG (by decide) (by decide) h;have hx:=h1 x (by simp);have hf:=h1 f (by simp);have hn:=h1 n (by simp);simp only[yr,List.map_cons,List.map_nil,NZ,N7,YA,reduceIte,Int.reduceEq] at h2;by_cases hc:¬(x.inf g).1=th\/¬(f.inf g).1=yt Af (yt th th)\/¬(n.inf g).1=Af
 ·rw[if_pos hc] at h2;cases h2
 ·rw[if_neg hc] at h2;have e:=congrArg Prod.fst h2;simp only[not_or,Decidable.not_not] at hc;exact⟨e.symm,by rw[hx,hc.1],by rw[hf,hc.2.1],by rw[hn,hc.2.2]⟩
theorem Wz{i:Int}{th T:Ty}{x f n:Tm}{g:List Ty}(h:(Tm.mk 9 i th [x,f,n]).inf g=(T,0)):
 T=th/\x.inf g=(th,0)/\f.inf g=(yt Af (yt Al (yt th th)),0)/\n.inf g=(Al,0):=by
 obtain⟨h1,h2⟩:=PG (by decide) (by decide) h;have hx:=h1 x (by simp);have hf:=h1 f (by simp);have hn:=h1 n (by simp);simp only[yr,List.map_cons,List.map_nil,NZ,N7,YA,reduceIte,Int.reduceEq] at h2;by_cases hc:¬(x.inf g).1=th\/¬(f.inf g).1=yt Af (yt Al (yt th th))\/¬(n.inf g).1=Al
 ·rw[if_pos hc] at h2;cases h2
 ·rw[if_neg hc] at h2;have e:=congrArg Prod.fst h2;simp only[not_or,Decidable.not_not] at hc;exact⟨e.symm,by rw[hx,hc.1],by rw[hf,hc.2.1],by rw[hn,hc.2.2]⟩
theorem Yed{i:Int}{th T:Ty}{x:Tm}{g:List Ty}(h:(Tm.mk 5 i th [x]).inf g=(T,0)):T=Af/\x.inf g=(Af,0):=by
 obtain⟨h1,h2⟩:=PG (by decide) (by decide) h;have hx:=h1 x (by simp);simp only[yr,List.map_cons,List.map_nil,NZ,reduceIte,Int.reduceEq] at h2;by_cases hc:¬(x.inf g).1=Af
 ·rw[if_pos hc] at h2;cases h2
 ·rw[if_neg hc] at h2;have e:=congrArg Prod.fst h2;exact⟨e.symm,by rw[hx,Decidable.not_not.1 hc]⟩
theorem Yd1{i:Int}{th T:Ty}{x y:Tm}{g:List Ty}(h:(Tm.mk 8 i th [x,y]).inf g=(T,0)):T=Al/\x.inf g=(Af,0)/\y.inf g=(Al,0):=by
 obtain⟨h1,h2⟩:=PG (by decide) (by decide) h;have hx:=h1 x (by simp);have hy:=h1 y (by simp);simp only[yr,List.map_cons,List.map_nil,NZ,N7,reduceIte,Int.reduceEq] at h2;by_cases hc:¬(x.inf g).1=Af\/¬(y.inf g).1=Al
 ·rw[if_pos hc] at h2;cases h2
 ·rw[if_neg hc] at h2;have e:=congrArg Prod.fst h2;simp only[not_or,Decidable.not_not] at hc;exact⟨e.symm,by rw[hx,hc.1],by rw[hy,hc.2]⟩
theorem KY{f x:Tm}{a b:Ty}{g:List Ty}(hf:f.inf g=(yt a b,0))(hx:x.inf g=(a,0)):(A0 f x).inf g=(b,0):=Jy hf hx
theorem Zxf{th:Ty}{x f n:Tm}{g:List Ty}(hx:x.inf g=(th,0))(hf:f.inf g=(yt Af (yt th th),0))(hn:n.inf g=(Af,0))(i:Int):(Tm.mk 6 i th [x,f,n]).inf g=(th,0):=by
 rw[Tm.AO];simp[Tm.AD,hx,hf,hn,yr]
theorem Zu7{th:Ty}{x f n:Tm}{g:List Ty}(hx:x.inf g=(th,0))(hf:f.inf g=(yt Af (yt Al (yt th th)),0))(hn:n.inf g=(Al,0))(i:Int):(Tm.mk 9 i th [x,f,n]).inf g=(th,0):=by
 rw[Tm.AO];simp[Tm.AD,hx,hf,hn,yr]
theorem Ylh{t u:Tm}(hv:RV t u){g:List Ty}{T:Ty}(hs:t.shape=true)(h:t.inf g=(T,0)):u.inf g=(T,0):=by
 cases hv with
 |beta i th j s b a=>
  have hb:b.shape=true:=zh (zh hs (.mk 2 j s [b]) (by simp)) b (by simp);have ha:a.shape=true:=zh hs a (by simp);obtain⟨h1,h2⟩:=uh (by simp) (by simp) h;have hf:(Tm.mk 2 j s [b]).inf g=(((Tm.mk 2 j s [b]).inf g).1,0):=by rw[<-h1 (.mk 2 j s [b]) (by simp)]
  obtain⟨h3,h4⟩:=Oc hf;have ha0:=h1 a (by simp);simp only[Tm.Ah,Tm.AL,Tm.Ac,List.map_cons,List.map_nil,h4] at h2;have h5:s=(a.inf g).1/\(b.inf (g++[s])).1=T:=by
   simp only[yr,Bx,List.getD_cons_zero,List.getD_cons_succ,Wm,V1] at h2;by_cases h6:s=(a.inf g).1
   ·refine ⟨h6,?_⟩;simp[h6] at h2;rw[h6];exact h2
   ·simp[h6] at h2
  have hσ:a.inf g=(s,0):=by rw[h5.1,<-ha0]
  have hp:=SQ b a g [] s 0 0 hb ha rfl hσ;rw[List.append_nil,List.append_nil] at hp;rw[hp,<-h5.2,<-h3]
 |rz i th x f j s=>obtain⟨rfl,h1,_⟩:=V4 h;exact h1
 |fz i th x f j s=>obtain⟨rfl,h1,_⟩:=Wz h;exact h1
 |rs i th x f j s n=>
  obtain⟨rfl,h1,h2,h3⟩:=V4 h;obtain⟨_,h4⟩:=Yed h3;exact KY (KY h2 h4) (Zxf h1 h2 h4 0)
 |fs i th x f j s n l=>
  obtain⟨rfl,h1,h2,h3⟩:=Wz h;obtain⟨_,h4,h5⟩:=Yd1 h3;exact KY (KY (KY h2 h4) h5) (Zu7 h1 h2 h5 0)
 |p1 i th j s _ y=>
  obtain⟨h1,h2⟩:=uh (by simp) (by simp) h;have hf:(Tm.mk 10 j s [u,y]).inf g=(((Tm.mk 10 j s [u,y]).inf g).1,0):=by rw[<-h1 (.mk 10 j s [u,y]) (by simp)]
  obtain⟨h3,h4,h5⟩:=Uc hf;simp only[Tm.Ah,Tm.AL,Tm.Ac,List.map_cons,List.map_nil,h5] at h2;simp[yr,Bx] at h2;rw[<-h2,<-h3]
 |p2 i th j s y _=>
  obtain⟨h1,h2⟩:=uh (by simp) (by simp) h;have hf:(Tm.mk 10 j s [y,u]).inf g=(((Tm.mk 10 j s [y,u]).inf g).1,0):=by rw[<-h1 (.mk 10 j s [y,u]) (by simp)]
  obtain⟨h3,h4,h5⟩:=Uc hf;simp only[Tm.Ah,Tm.AL,Tm.Ac,List.map_cons,List.map_nil,h5] at h2;simp[yr,Bx] at h2;rw[<-h2,<-h4]
theorem Ykp(room:Int)(t:Tm):∀(g:List Ty) (T:Ty) (u:Tm),t.shape=true->t.inf g=(T,0)->Db room t=some (u,true)->u.inf g=(T,0):=by
 induction t using Tm.ind with
 |h t ih=>
  intro g T u hs h hn;rw[GZ] at hn;by_cases hr:un t=true
  ·rw[if_pos hr] at hn;split at hn
   ·cases hn
   ·cases hn;exact Ylh (La hs hr) hs h
  ·rw[if_neg hr,Option.map_eq_some_iff] at hn;obtain⟨q,h1,h2⟩:=hn;obtain⟨m,hm,v,h3,h4⟩:=PO _ _ _ h1;have e2:=congrArg Prod.snd h2;have e1:=congrArg Prod.fst h2;simp only at e1 e2;rw[e2] at h3;rw[<-e1,h4];have hargs:=zh hs;have hx:=hargs _ (List.getElem_mem hm);have hmem:=List.getElem_mem hm;by_cases k1:t.kind=1
   ·exact absurd (HI hs k1) (fun hh=>by rw[hh] at hm;simp at hm)
   ·have key:∀g' T',(t.args[m]).inf g'=(T',0)->v.inf g'=(T',0):=fun g' T' hi=>ih _ hmem g' T' v hx hi h3;by_cases k2:t.kind=2
    ·obtain ⟨i,th,b,rfl,hb⟩:=H9 hs k2 rfl;obtain⟨h5,h6⟩:=Oc h;have hm0:m=0:=by simp at hm;omega
     subst hm0;simp only[Tm.Ac,List.getElem_cons_zero] at*;have q1:=key (g++[th]) (b.inf (g++[th])).1 (by rw[<-h5]);have:v.inf (g++[th])=b.inf (g++[th]):=by rw[q1,<-h5]
     rw[<-h];simp only[List.set_cons_zero,Tm.Ah,Tm.AL,Tm.A4];exact VN this
    ·obtain ⟨h5,h6⟩:=uh k1 k2 h;have h7:=h5 _ hmem;have q1:=key g (t.args[m].inf g).1 (by rw[<-h7]);have hi:v.inf g=(t.args[m]).inf g:=by rw[q1,<-h7]
     rw[<-h,Tm.AO g (Tm.mk t.kind t.index t.ty (t.args.set m v)),if_neg (show ¬(Tm.mk t.kind t.index t.ty (t.args.set m v)).kind=1 from k1),if_neg (show ¬(Tm.mk t.kind t.index t.ty (t.args.set m v)).kind=2 from k2),t.AO,if_neg k1,if_neg k2];show(if(Tm.AD g (t.args.set m v)).2≠0 then(Ba,(Tm.AD g (t.args.set m v)).2) else yr t.kind t.ty (Tm.AD g (t.args.set m v)).1)=_;rw[Pj g v t.args m hm hi]
theorem Wt:∀(k:Nat) (t:Tm) (n:Nat) (g:List Ty) (T:Ty),t.err=0->t.inf g=(T,0)->(Ex k t n).2.2=0->(Ex k t n).1.inf g=(T,0)
 |0,t,n,g,T,he,hi,h=>by
  simp only[Ex] at h ⊢;cases hx:Db (4096-t.size) t with
  |none=>exact hi
  |some p=>rw[hx] at h;cases h
 |k+1,t,n,g,T,he,hi,h=>by
  simp only[Ex] at h ⊢;cases hx:Db (4096-t.size) t with
  |none=>exact hi
  |some p=>
   obtain⟨x,f⟩:=p;rw[hx] at h;cases f with
   |false=>cases h
   |true=>exact Wt k x (n+1) g T (QF he hx) (Ykp _ t g T x (xn he).1 hi hx) h
theorem Yew{t:Tm}{steps:Int}(h:(wg t steps).2.2=0):t.err=0/\(wg t steps).1.err=0/\G1 t (wg t steps).1/\nf (wg t steps).1/\∀g T,t.inf g=(T,0)->(wg t steps).1.inf g=(T,0):=by
 unfold wg at h ⊢;by_cases h1:t.err≠0
 ·rw[if_pos h1] at h;exact absurd h h1
 ·rw[if_neg h1] at h ⊢;have h1':t.err=0:=Decidable.not_not.1 h1;by_cases h2:¬(0<=steps/\steps<=65536)\/t.near=false
  ·rw[if_pos h2] at h;cases h
  ·rw[if_neg h2] at h ⊢;obtain⟨a,b,c⟩:=TZ _ t 0 h1' h;exact⟨h1',c,a,b,fun g T hi=>Wt _ t 0 g T h1' hi h⟩
end Go.Ab
namespace Go.Ab
open Go
set_option linter.all false
structure Ck where
 lems:List Fm
 tys:List Ty
 hyps:List Fm
def Ck.view(c:Ck):List V:=[.s .fm c.lems,.s .ty c.tys,.s .fm c.hyps]
def Ck.below(c:Ck)(l:List Ty):Ck:=⟨c.lems,c.tys++l,c.hyps.map fun f=>f.Bd 0 l.length⟩
def Ck.AA(c:Ck)(f:Fm):Ck:=⟨c.lems,c.tys,c.hyps++[f]⟩
def Ck.room(c:Ck)(v h:Nat):Int:=if c.tys.length+v>16\/c.hyps.length+h>16 then 3 else 0
def ur(a b:List Int):List Int:=y8 (Cd (Cd [] a) b)
def Ee(l:List Int)(n:Int):List Int:=(l.filter fun x=>decide (x>=n)).map (·-n)
def K7:List Int->Bool
 |[]=>false
 |x::_=>x==0
def Fq(t:Tm):List Int:=if t.err=0 then Lz t else []
def Dy(f:Fm)(t:Tm):Fm×Int:=(if yj f 0 t=0 then f.put 0 t else AG,yj f 0 t)
def Fu(c:Ck)(t:Tm)(k:Int):Int:=if(xj c.tys t).2≠0 then(xj c.tys t).2 else if(xj c.tys t).1.kind≠k then 7 else 0
def DK:List Tm->List Tm×Int
 |[]=>([],0)
 |t::l=>if(wg t 1000).2.2≠0 then([],(wg t 1000).2.2) else if(DK l).2≠0 then([],(DK l).2) else((wg t 1000).1::(DK l).1,0)
mutual
def wy:Fm->Fm×Int
 | .mk k h ts zs=>if(DK ts).2≠0 then(AG,(DK ts).2) else if(xz zs).2≠0 then(AG,(xz zs).2) else(.mk k h (DK ts).1 (xz zs).1,0)
def xz:List Fm->List Fm×Int
 |[]=>([],0)
 |f::l=>if(wy f).2≠0 then([],(wy f).2) else if(xz l).2≠0 then([],(xz l).2) else((wy f).1::(xz l).1,0)
end
mutual
def Eu:Fm->Bool
 | .mk k _ _ zs=>if k=1 then false else if k=2 then(KZ zs).getD 0 false||(KZ zs).getD 1 false else if k=5 then true else(KZ zs).getLastD false
def KZ:List Fm->List Bool
 |[]=>[]
 |f::l=>Eu f::KZ l
end
abbrev CC:=Fm×List Int×Int
abbrev Rs:=Ck->CC
def yn(e:Int):CC:=(AG,[],e)
def xr(r:Rs)(c:Ck)(f:Fm)(t:Tm):List Int×Int:=
 if(r c).2.2≠0 then([],(r c).2.2) else if(Dy f t).2≠0 then([],(Dy f t).2) else((r c).2.1,Lv (Dy f t).1 (r c).1)
def KJ(r:CC):CC:=if r.2.2≠0 then yn r.2.2 else if r.1.err≠0 then yn 4 else(r.1,if Eu r.1=true then r.2.1 else [],0)
def N5(c:Ck)(i:Int):CC:=if i>=c.hyps.length then yn 8 else(c.hyps.getD (c.hyps.length-1-i.toNat) AG,[],0)
def L6(c:Ck)(i:Int):CC:=if i>=c.lems.length then yn 9 else(c.lems.getD i.toNat AG,[],0)
def Mv(r0 r1:Rs)(c:Ck):CC:=if(r0 c).2.2≠0 then yn (r0 c).2.2 else(uo 2 (r0 c).1 (r1 c).1,ur (r0 c).2.1 (r1 c).2.1,(r1 c).2.2)
def MA(j:Nat)(r0:Rs)(c:Ck):CC:=if(r0 c).2.2≠0 then yn (r0 c).2.2 else if(r0 c).1.kind≠2 then yn 10 else((r0 c).1.args.getD j AG,(r0 c).2.1,0)
def N2(f:Fm)(r0:Rs)(c:Ck):CC:=
 if yg c.tys f≠0 then yn (yg c.tys f) else if c.room 0 1≠0 then yn 3 else(uo 3 f (r0 (c.AA f)).1,(r0 (c.AA f)).2.1,(r0 (c.AA f)).2.2)
def Nh(r0 r1:Rs)(c:Ck):CC:=
 if(r0 c).2.2≠0 then yn (r0 c).2.2 else if(r0 c).1.kind≠3 then yn 10 else if(r1 c).2.2≠0 then yn (r1 c).2.2
 else((r0 c).1.args.getD 1 AG,ur (r0 c).2.1 (r1 c).2.1,Lv ((r0 c).1.args.getD 0 AG) (r1 c).1)
def Me(k:Int)(s:Ty)(r0:Rs)(c:Ck):CC:=
 if c.room 1 0≠0 then yn 3 else if(r0 (c.below [s])).2.2≠0 then yn (r0 (c.below [s])).2.2
 else if k=8 then(Bp 4 s (r0 (c.below [s])).1,Ee (r0 (c.below [s])).2.1 1,0)
 else if K7 (r0 (c.below [s])).2.1=true then yn 12 else(Bp 6 s (r0 (c.below [s])).1,Ee (r0 (c.below [s])).2.1 1,0)
def kI(k u a b:Int):Int:=if k=u then a else b
def kL(k u:Int)(a b:List Int):List Int:=if k=u then a else b
theorem KB{α:Type}{l:List α}{i:Nat}(h:i<l.length)(d:α):l.getD i d=l[i]:=by simp[List.getD,h]
def atR(k:Int)(t:Tm)(r0:Rs)(c:Ck):CC:=
 if(xj c.tys t).2≠0 then yn (xj c.tys t).2 else if(r0 c).2.2≠0 then yn (r0 c).2.2
 else if(r0 c).1.kind≠kI k 13 6 4 then yn 10 else if(r0 c).1.ty≠(xj c.tys t).1 then yn 7
 else((Dy ((r0 c).1.args.getD 0 AG) t).1,kL k 13 (r0 c).2.1 (ur (r0 c).2.1 (Fq t)),(Dy ((r0 c).1.args.getD 0 AG) t).2)
def NL(k:Int)(f:Fm)(t:Tm)(r0:Rs)(c:Ck):CC:=
 if yg c.tys f≠0 then yn (yg c.tys f) else if f.kind≠kI k 14 7 5 then yn 10
 else if(xj c.tys t).2≠0 then yn (xj c.tys t).2 else if f.ty≠(xj c.tys t).1 then yn 7
 else(f,kL k 14 (xr r0 c (f.args.getD 0 AG) t).1 (ur (xr r0 c (f.args.getD 0 AG) t).1 (Fq t)),(xr r0 c (f.args.getD 0 AG) t).2)
def ES(f:Fm):Fm×Int:=
 if xy 0 f=0 then(f,0) else if(wy f).2≠0 then(AG,(wy f).2) else if xy 0 (wy f).1≠0 then(AG,6) else((wy f).1,0)
def HY(r1:Rs)(c:Ck)(a:Fm):CC:=r1 ((c.below [a.ty]).AA (a.args.getD 0 AG))
def MR(k:Int)(r0 r1:Rs)(c:Ck):CC:=
 if(r0 c).2.2≠0 then yn (r0 c).2.2 else if(r0 c).1.kind≠kI k 15 7 5 then yn 10 else if c.room 1 1≠0 then yn 3
 else if(HY r1 c (r0 c).1).2.2≠0 then yn (HY r1 c (r0 c).1).2.2
 else if(ES (HY r1 c (r0 c).1).1).2≠0 then yn (ES (HY r1 c (r0 c).1).1).2
 else if k=15/\K7 (HY r1 c (r0 c).1).2.1=true then yn 12
 else((ES (HY r1 c (r0 c).1).1).1.Bd 1 (-1),ur (r0 c).2.1 (Ee (HY r1 c (r0 c).1).2.1 1),0)
def MC(f:Fm)(t:Tm)(r0 r1:Rs)(c:Ck):CC:=
 if vp (c.tys++[Af]) f≠0 then yn (vp (c.tys++[Af]) f) else if Fu c t 1≠0 then yn (Fu c t 1)
 else if(xr r0 c f zT).2≠0 then yn (xr r0 c f zT).2 else if c.room 1 1≠0 then yn 3
 else if(xr r1 ((c.below [Af]).AA f) (f.Bd 1 1) (sT (vT 0))).2≠0 then yn (xr r1 ((c.below [Af]).AA f) (f.Bd 1 1) (sT (vT 0))).2
 else((Dy f t).1,ur (ur (Fq t) (xr r0 c f zT).1) (Ee (xr r1 ((c.below [Af]).AA f) (f.Bd 1 1) (sT (vT 0))).1 1),(Dy f t).2)
def Ds:Tm:= .mk 7 0 (.mk 0 []) []
def Cf:Tm:= .mk 8 0 (.mk 0 []) [vT 1,vT 0]
def L4(f:Fm)(t:Tm)(r0 r1:Rs)(c:Ck):CC:=
 if vp (c.tys++[Al]) f≠0 then yn (vp (c.tys++[Al]) f) else if Fu c t 2≠0 then yn (Fu c t 2)
 else if(xr r0 c f Ds).2≠0 then yn (xr r0 c f Ds).2 else if c.room 2 1≠0 then yn 3
 else if(xr r1 ((c.below [Af,Al]).AA (f.Bd 1 1)) (f.Bd 1 2) Cf).2≠0 then yn (xr r1 ((c.below [Af,Al]).AA (f.Bd 1 1)) (f.Bd 1 2) Cf).2
 else((Dy f t).1,ur (ur (Fq t) (xr r0 c f Ds).1) (Ee (xr r1 ((c.below [Af,Al]).AA (f.Bd 1 1)) (f.Bd 1 2) Cf).1 2),(Dy f t).2)
def Lt(t:Tm)(c:Ck):CC:=(AV t t,[],Fu c t 1)
def MD(f:Fm)(r0 r1:Rs)(c:Ck):CC:=
 if vp (c.tys++[Af]) f≠0 then yn (vp (c.tys++[Af]) f) else if(r0 c).2.2≠0 then yn (r0 c).2.2 else if(r0 c).1.kind≠1 then yn 10
 else if(xr r1 c f ((r0 c).1.terms.getD 0 AU)).2≠0 then yn (xr r1 c f ((r0 c).1.terms.getD 0 AU)).2
 else((Dy f ((r0 c).1.terms.getD 1 AU)).1,(xr r1 c f ((r0 c).1.terms.getD 0 AU)).1,(Dy f ((r0 c).1.terms.getD 1 AU)).2)
def EZ:Tm:=A0 (vT 1) (vT 0)
def NC(a:Fm):Fm×Int:=Dy (((a.args.getD 0 AG).args.getD 0 AG).Bd 2 1) EZ
def NW(a:Fm):Ty:=yt a.ty (a.args.getD 0 AG).ty
def NT(r0:Rs)(c:Ck):CC:=
 if(r0 c).2.2≠0 then yn (r0 c).2.2 else if(r0 c).1.kind≠4\/((r0 c).1.args.getD 0 AG).kind≠5 then yn 10 else if(NW (r0 c).1).err≠0 then yn 4
 else(Bp 5 (NW (r0 c).1) (Bp 4 (r0 c).1.ty (NC (r0 c).1).1),(r0 c).2.1,(NC (r0 c).1).2)
def Iy(k i:Int)(s:Ty)(ts:List Tm)(fs:List Fm)(rs:List Rs)(c:Ck):CC:=
 if k=1 then N5 c i else if k=2 then L6 c i else if k=3 then Mv (rs.getD 0 fun _=>yn 0) (rs.getD 1 fun _=>yn 0) c
 else if k=4\/k=5 then MA (k-4).toNat (rs.getD 0 fun _=>yn 0) c
 else if k=6 then N2 (fs.getD 0 AG) (rs.getD 0 fun _=>yn 0) c
 else if k=7 then Nh (rs.getD 0 fun _=>yn 0) (rs.getD 1 fun _=>yn 0) c
 else if k=8\/k=12 then Me k s (rs.getD 0 fun _=>yn 0) c
 else if k=9\/k=13 then atR k (ts.getD 0 AU) (rs.getD 0 fun _=>yn 0) c
 else if k=10\/k=14 then NL k (fs.getD 0 AG) (ts.getD 0 AU) (rs.getD 0 fun _=>yn 0) c
 else if k=11\/k=15 then MR k (rs.getD 0 fun _=>yn 0) (rs.getD 1 fun _=>yn 0) c
 else if k=16 then MC (fs.getD 0 AG) (ts.getD 0 AU) (rs.getD 0 fun _=>yn 0) (rs.getD 1 fun _=>yn 0) c
 else if k=17 then L4 (fs.getD 0 AG) (ts.getD 0 AU) (rs.getD 0 fun _=>yn 0) (rs.getD 1 fun _=>yn 0) c
 else if k=18 then Lt (ts.getD 0 AU) c
 else if k=19 then MD (fs.getD 0 AG) (rs.getD 0 fun _=>yn 0) (rs.getD 1 fun _=>yn 0) c
 else NT (rs.getD 0 fun _=>yn 0) c
mutual
def Ci:Pf->Rs
 | .mk k i s ts fs zs=>fun c=>KJ (Iy k i s ts fs (PV zs) c)
def PV:List Pf->List Rs
 |[]=>[]
 |p::l=>Ci p::PV l
end
theorem Xz:∀l:List Pf,PV l=l.map Ci
 |[]=>rfl
 |p::l=>by rw[PV,Xz l];rfl
theorem Sj(p:Pf)(c:Ck):Ci p c=KJ (Iy p.kind p.index p.ty p.terms p.Ad (p.args.map Ci) c):=by cases p;simp only[Ci,Xz];rfl
theorem ZR:∀l:List Fm,KZ l=l.map Eu
 |[]=>rfl
 |p::l=>by rw[KZ,ZR l];rfl
theorem Ss(f:Fm):Eu f=if f.kind=1 then false else if f.kind=2 then(f.args.map Eu).getD 0 false||(f.args.map Eu).getD 1 false else if f.kind=5 then true else(f.args.map Eu).getLastD false:=by
 cases f;simp only[Eu,ZR];rfl
theorem YL(f:Fm):wy f=if(DK f.terms).2≠0 then(AG,(DK f.terms).2) else if(xz f.args).2≠0 then(AG,(xz f.args).2) else(.mk f.kind f.ty (DK f.terms).1 (xz f.args).1,0):=by
 cases f;simp only[wy];rfl
theorem vk{c:Ck}{v h:Nat}(hr:c.room v h=0):c.tys.length+v<=16/\c.hyps.length+h<=16:=by
 unfold Ck.room at hr;split at hr
 ·cases hr
 ·rename_i hc;omega
theorem Mq{c:Ck}{v h:Nat}(hr:c.room v h≠0):c.room v h=3:=by unfold Ck.room at*;split<;>simp_all
theorem Yk:∀{g:List Ty},(∀x∈g,x.err=0)->ug g=0
 |[],_=>rfl
 |x::l,h=>by
  simp only[ug];rw[if_neg (by simp[h x (by simp)])];exact Yk fun y hy=>h y (by simp[hy])
theorem Ybx{g:List Ty}(hl:g.length<=16)(h:∀x∈g,x.err=0):xg g=0:=by
 unfold xg;rw[if_neg (by omega)];exact Yk h
theorem u6{α:Type}{f:α->Int}:∀{l:List α},yz f l=0->∀x∈l,f x=0
 |[],_,x,h=>by cases h
 |y::l,h,x,hx=>by
  simp only[yz] at h;by_cases h1:f y≠0
  ·rw[if_pos h1] at h;exact absurd h h1
  ·rw[if_neg h1] at h;rcases List.mem_cons.1 hx with rfl|hx
   ·exact Decidable.not_not.1 h1
   ·exact u6 h x hx
theorem K5{t:Ty}(he:t.err=0)(hk:t.kind=1):t=Af:=by
 have h:=((Ty.Ae t).1 he).1;obtain⟨k,zs⟩:=t;rw[Ty.Ai,Bool.and_eq_true] at h;have h1:=h.1;simp only[Ty.kind,Ty.args] at hk h1;subst hk;have h2:zs.length=0:=by simpa[DA] using h1
 rw[List.eq_nil_of_length_eq_zero h2];rfl
theorem OP{t:Ty}(he:t.err=0)(hk:t.kind=2):t=Al:=by
 have h:=((Ty.Ae t).1 he).1;obtain⟨k,zs⟩:=t;rw[Ty.Ai,Bool.and_eq_true] at h;have h1:=h.1;simp only[Ty.kind,Ty.args] at hk h1;subst hk;have h2:zs.length=0:=by simpa[DA] using h1
 rw[List.eq_nil_of_length_eq_zero h2];rfl
theorem X4{g:List Ty}{t:Tm}(hg:∀x∈g,x.err=0)(h:(Ec g t).2=0):t.err=0/\t.inf g=((Ec g t).1,0)/\(Ec g t).1.err=0:=by
 unfold Ec at h ⊢;by_cases h1:t.err≠0
 ·rw[if_pos h1] at h;exact absurd h h1
 ·rw[if_neg h1] at h ⊢;have h1':=Decidable.not_not.1 h1;exact⟨h1',by rw[<-h],Tm.BP t g ((Tm.Ae t).1 h1').1 hg h⟩
theorem Mm{g:List Ty}{t:Tm}(h:(xj g t).2=0):xg g=0/\t.err=0/\t.inf g=((xj g t).1,0)/\(xj g t).1.err=0:=by
 unfold xj at h ⊢;by_cases h1:xg g≠0
 ·rw[if_pos h1] at h;exact absurd h h1
 ·rw[if_neg h1] at h ⊢;have h1':=Decidable.not_not.1 h1;exact⟨h1',X4 (ua h1').2 h⟩
theorem Yia(f:Fm):∀g:List Ty,(∀x∈g,x.err=0)->f.shape=true->f.B9 g=0->f.Bk g:=by
 induction f using Fm.ind with
 |h f ih=>
  intro g hg hs h;rw[Fm.EN] at h;by_cases h1:yz (tE g) f.terms≠0
  ·rw[if_pos h1] at h;exact absurd h h1
  ·rw[if_neg h1] at h;rw[Fm.Bu];refine⟨fun t ht=> ?_,fun x hx=> ?_⟩
   ·have h2:=u6 (Decidable.not_not.1 h1) t ht;unfold tE at h2;by_cases h3:(Ec g t).2≠0
    ·rw[if_pos h3] at h2;exact absurd h2 h3
    ·rw[if_neg h3] at h2;obtain⟨a,b,c⟩:=X4 hg (Decidable.not_not.1 h3);by_cases h4:(Ec g t).1.kind≠1
     ·rw[if_pos h4] at h2;cases h2
     ·rw[b,K5 c (Decidable.not_not.1 h4)]
   ·have h2:=u6 h x hx;refine ih x hx _ ?_ (zn hs hx) h2;by_cases hq:xq f.kind=true
    ·rw[IG hq];intro y hy;rcases List.mem_append.1 hy with hy|hy
     ·exact hg y hy
     ·simp only[List.mem_singleton] at hy;subst hy;have hk:=Bf.1 hq;rcases ON hs with⟨h5,_⟩|⟨h5,_⟩|⟨_,_,h6⟩
      ·omega
      ·omega
      ·exact h6
    ·rw[It hq];exact hg
theorem LC{g:List Ty}{f:Fm}(hg:∀x∈g,x.err=0)(h:vp g f=0):f.err=0/\f.Bk g:=by
 unfold vp at h;by_cases h1:f.err≠0
 ·rw[if_pos h1] at h;exact absurd h h1
 ·rw[if_neg h1] at h;have h1':=Decidable.not_not.1 h1;exact⟨h1',Yia f g hg ((Fm.Ae f).1 h1').1 h⟩
theorem wj{g:List Ty}{f:Fm}(h:yg g f=0):f.err=0/\f.Bk g:=by
 unfold yg at h;by_cases h1:xg g≠0
 ·rw[if_pos h1] at h;exact absurd h h1
 ·rw[if_neg h1] at h;exact LC (ua (Decidable.not_not.1 h1)).2 h
theorem XH{c:Ck}{t:Tm}{k:Int}(h:Fu c t k=0):t.err=0/\t.inf c.tys=((xj c.tys t).1,0)/\(xj c.tys t).1.err=0/\(xj c.tys t).1.kind=k:=by
 unfold Fu at h;by_cases h1:(xj c.tys t).2≠0
 ·rw[if_pos h1] at h;exact absurd h h1
 ·rw[if_neg h1] at h;obtain⟨_,a,b,d⟩:=Mm (Decidable.not_not.1 h1);refine⟨a,b,d,?_⟩;by_cases h2:(xj c.tys t).1.kind≠k
  ·rw[if_pos h2] at h;cases h
  ·exact Decidable.not_not.1 h2
theorem W4(t:Tm):∀(g:List Ty) (b:Int),t.shape=true->(t.inf g).2=0->∀p∈t.vars b,p.1-p.2<g.length-b:=by
 induction t using Tm.ind with
 |h t ih=>
  intro g b hs h p hp;have hargs:=zh hs;by_cases k1:t.kind=1
  ·rw[vu hs k1] at hp;simp only[List.mem_singleton] at hp;subst hp;rw[Tm.AO,if_pos k1] at h;by_cases hi:t.index>=g.length
   ·rw[if_pos hi] at h;cases h
   ·simp only;omega
  ·rw[Ju k1] at hp;obtain⟨x,hx,hp⟩:=List.mem_flatMap.1 hp;by_cases k2:t.kind=2
   ·have e:up t.kind b=b+1:=by simp[up,k2]
    rw[e] at hp;rw[Tm.AO,if_neg k1,if_pos k2] at h;have h0:(Tm.AD (g++[t.ty]) t.args).2=0:=by
     by_cases h1:(Tm.AD (g++[t.ty]) t.args).2≠0
     ·rw[if_pos h1] at h;exact h
     ·exact Decidable.not_not.1 h1
    have:=ih x hx (g++[t.ty]) (b+1) (hargs x hx) (Tm.CN _ _ h0 x hx) p hp;simp only[List.length_append,List.length_cons,List.length_nil] at this;omega
   ·have e:up t.kind b=b:=by simp[up,k2]
    rw[e] at hp;exact ih x hx g b (hargs x hx) ((uh (T:=(t.inf g).1) k1 k2 (by rw[<-h])).1 x hx) p hp
def Be(n:Nat)(l:List Int):Prop:=l.Nodup/\∀u∈l,0<=u/\u<n
theorem Be.nil(n:Nat):Be n []:=⟨List.nodup_nil,fun u h=>by cases h⟩
theorem Be.len{n:Nat}{l:List Int}(h:Be n l):l.length<=n:=(Yg n l h.1 h.2).1
theorem C7{a b:List Int}{x:Int}:x∈ur a b↔x∈a\/x∈b:=by
 rw[ur,(vh _).mem_iff,Pr,Pr];simp
theorem Be.union{n:Nat}{a b:List Int}(ha:∀u∈a,0<=u/\u<(n:Int))(hb:∀u∈b,0<=u/\u<(n:Int)):Be n (ur a b):=by
 refine⟨?_,fun u hu=> ?_⟩
 ·rw[ur,(vh _).nodup_iff];exact KP (KP List.nodup_nil)
 ·rcases C7.1 hu with h|h
  ·exact ha u h
  ·exact hb u h
theorem Hp{l:List Int}{n x:Int}:x∈Ee l n↔0<=x/\x+n∈l:=by
 simp only[Ee,List.mem_map,List.mem_filter,decide_eq_true_eq];constructor
 ·rintro ⟨y,⟨h1,h2⟩,rfl⟩;exact⟨by omega,by rw[Int.sub_add_cancel];exact h1⟩
 ·rintro ⟨h1,h2⟩;exact⟨x+n,⟨h2,by omega⟩,by omega⟩
theorem Be.out{n m:Nat}{l:List Int}(h:Be (n+m) l):Be n (Ee l m):=by
 refine⟨?_,fun u hu=> ?_⟩
 ·have h1:(l.filter fun x=>decide (x>=(m:Int))).Nodup:=h.1.filter _;unfold Ee;rw[List.nodup_iff_pairwise_ne,List.pairwise_map];exact(List.nodup_iff_pairwise_ne.1 h1).imp fun hne e=>hne (by omega)
 ·obtain ⟨h1,h2⟩:=Hp.1 hu;have:=h.2 _ h2;exact⟨h1,by omega⟩
theorem HH{t:Tm}{g:List Ty}{T:Ty}(h:t.inf g=(T,0)):Be g.length (Fq t):=by
 unfold Fq;by_cases he:t.err=0
 ·rw[if_pos he];refine⟨Zrs t,fun u hu=> ?_⟩;obtain⟨h0,h1⟩:=GH.1 hu;refine⟨h0,?_⟩;obtain⟨p,hp,e⟩:=EF.2 h1;have:=W4 t g 0 ((Tm.Ae t).1 he).1 (by rw[h]) p hp;omega
 ·rw[if_neg he];exact .nil _
theorem Yez{t:Tm}{g:List Ty}(m:List Ty)(hs:t.shape=true)(h:(t.inf g).2=0):t.inf (m++g)=t.inf g:=by
 have h1:=RK t [] m g g.length 0 hs (by omega);rw[List.nil_append,List.nil_append] at h1;rw[<-h1];congr 1;refine(Xb t 0 hs fun p hp=> ?_).symm;have:=W4 t g 0 hs h p hp;rw[x7,if_neg (by omega)]
theorem Zwu(f:Fm):∀(g m:List Ty),f.shape=true->f.Bk g->f.Bk (m++g):=by
 induction f using Fm.ind with
 |h f ih=>
  intro g m hs hok;rw[Fm.Bu] at hok ⊢;refine⟨fun t ht=> ?_,fun x hx=> ?_⟩
  ·have:=hok.1 t ht;rw[Yez m (zy hs ht) (by rw[this])];exact this
  ·have:=ih x hx _ m (zn hs hx) (hok.2 x hx);by_cases hq:xq f.kind=true
   ·rw[IG hq] at this ⊢;rw[List.append_assoc];exact this
   ·rw[It hq] at this ⊢;exact this
theorem uf{f x:Fm}(hf:f.err=0)(hx:x∈f.args):x.err=0:=by
 have h:=(Fm.Ae f).1 hf;have h1:=ze Fm.size hx;have h2:=f.size_eq;exact(Fm.Ae x).2 ⟨zn h.1 hx,by omega⟩
theorem ZE{f:Fm}{t:Tm}(hf:f.err=0)(ht:t∈f.terms):t.err=0:=by
 have h:=(Fm.Ae f).1 hf;have h1:=ze Tm.size ht;have h2:=f.size_eq;exact(Tm.Ae t).2 ⟨zy h.1 ht,by omega⟩
theorem L3{f:Fm}(hs:f.shape=true)(hk:f.kind=2\/f.kind=3):∃a b,f=uo f.kind a b:=by
 rw[Fm.Ai,Bool.and_eq_true,Bool.and_eq_true] at hs;have h1:=hs.1.1;unfold Fm.head at h1;rw[if_neg (by omega),if_pos hk] at h1;simp only[Bool.and_eq_true,beq_iff_eq] at h1;clear hs;obtain⟨k,h,ts,zs⟩:=f;simp only[Fm.Ah,Fm.Am,Fm.Ac] at h1 hk;have e1:ts=[]:=List.eq_nil_of_length_eq_zero h1.1.2
 match zs,h1 with
 |[a,b],h1=>
  refine⟨a,b,?_⟩;have e2:h= .mk 0 []:=Ty.D6 (by simp_all);rw[e1,e2];rfl
 |[],h1=>simp at h1
 |[a],h1=>simp at h1
 |a::b::c::l,h1=>simp at h1
theorem HP{f:Fm}(hs:f.shape=true)(hk:4<=f.kind/\f.kind<=7):∃a,f=Bp f.kind f.ty a:=by
 rw[Fm.Ai,Bool.and_eq_true,Bool.and_eq_true] at hs;have h1:=hs.1.1;unfold Fm.head at h1;rw[if_neg (by omega),if_neg (by omega),if_pos (by omega)] at h1;simp only[Bool.and_eq_true,beq_iff_eq] at h1;clear hs;obtain⟨k,h,ts,zs⟩:=f;simp only[Fm.Ah,Fm.Am,Fm.Ac] at h1 hk;have e1:ts=[]:=List.eq_nil_of_length_eq_zero h1.1.2
 match zs,h1 with
 |[a],h1=>exact⟨a,by rw[e1];rfl⟩
 |[],h1=>simp at h1
 |a::b::l,h1=>simp at h1
theorem SF{f:Fm}(hs:f.shape=true)(hk:f.kind=1):∃a b,f=AV a b:=by
 rw[Fm.Ai,Bool.and_eq_true,Bool.and_eq_true] at hs;have h1:=hs.1.1;unfold Fm.head at h1;rw[if_pos hk] at h1;simp only[Bool.and_eq_true,beq_iff_eq] at h1;clear hs;obtain⟨k,h,ts,zs⟩:=f;simp only[Fm.Ah,Fm.Am,Fm.Ac] at h1 hk;have e1:zs=[]:=List.eq_nil_of_length_eq_zero h1.2
 match ts,h1 with
 |[a,b],h1=>
  have e2:h= .mk 0 []:=Ty.D6 (by simp_all);exact⟨a,b,by rw[e1,e2,hk];rfl⟩
 |[],h1=>simp at h1
 |[a],h1=>simp at h1
 |a::b::c::l,h1=>simp at h1
theorem I2{f:Fm}(hf:f.shape=true)(hk:4<=f.kind/\f.kind<=7):f.ty.err=0:=by
 rcases ON hf with⟨h,_⟩|⟨h,_⟩|⟨_,_,h⟩
 ·omega
 ·omega
 ·exact h
theorem V5{k:Int}{a b:Fm}{g:List Ty}(hk:k=2\/k=3)(h:(uo k a b).Bk g):a.Bk g/\b.Bk g:=by
 rw[Fm.Bu] at h;have e:Dd g (uo k a b)=g:=It (by show ¬xq k=true;rw[Bf];omega);rw[e] at h;exact⟨h.2 a (by simp[uo]),h.2 b (by simp[uo])⟩
theorem JQ{k:Int}{s:Ty}{a:Fm}{g:List Ty}(hk:4<=k/\k<=7)(h:(Bp k s a).Bk g):a.Bk (g++[s]):=by
 rw[Fm.Bu] at h;have e:Dd g (Bp k s a)=g++[s]:=IG (Bf.2 hk);rw[e] at h;exact h.2 a (by simp[Bp])
theorem CP{a b:Tm}{g:List Ty}:(AV a b).Bk g↔a.inf g=(Af,0)/\b.inf g=(Af,0):=by
 rw[Fm.Bu];simp[AV]
theorem Uz{k:Int}{a b:Fm}(hk:k=2\/k=3)(ha:a.shape=true)(hb:b.shape=true):(uo k a b).shape=true:=by
 rw[Fm.Ai];rcases hk with rfl|rfl<;>simp[uo,Fm.head,ha,hb,Ty.BJ,Ty.kind,Ty.args]
theorem MG{k:Int}{s:Ty}{a:Fm}(hk:4<=k/\k<=7)(hs:s.err=0)(ha:a.shape=true):(Bp k s a).shape=true:=by
 rw[Fm.Ai];have h1:=(Ty.Ae s).1 hs;have h2:s.ok=true:=Li h1.1 h1.2;have:k=4\/k=5\/k=6\/k=7:=by omega
 rcases this with rfl|rfl|rfl|rfl<;>simp[Bp,Fm.head,ha,h2]
theorem Oy(k:Int)(a b:Fm):(uo k a b).size=1+a.size+b.size:=by rw[Fm.size_eq];simp[uo];omega
theorem Le(k:Int)(s:Ty)(a:Fm):(Bp k s a).size=1+a.size:=by rw[Fm.size_eq];simp[Bp]
theorem KG{f:Fm}{g h:List Ty}(m:List Ty)(hf:f.shape=true)(hok:f.Bk (g++h)):(f.Bd h.length m.length).Bk (g++m++h):=by
 have:=Yd9 g m h.length f h 0 (by omega) hf hok;exact this
theorem M1{f:Fm}{t:Tm}{g:List Ty}{σ:Ty}(hf:f.Bk (g++[σ]))(ht:t.inf g=(σ,0))(h:(Dy f t).2=0):(Dy f t).1.err=0/\(Dy f t).1.Bk g:=by
 have h':yj f 0 t=0:=h;have e:(Dy f t).1=f.put 0 t:=if_pos h';obtain⟨h1,h2,_⟩:=Q7 h';rw[e];refine⟨Xi (by omega) h',?_⟩;have h3:=SY 0 t g σ ((Tm.Ae t).1 h2).1 ht f [] 0 rfl ((Fm.Ae f).1 h1).1 (by simpa using hf);rw[List.append_nil] at h3;exact h3
structure Ck.ok (c:Ck):Prop where
 ctx:xg c.tys=0
 nh:c.hyps.length<=16
 nl:c.lems.length<=32
 hyps:∀f∈c.hyps,f.err=0/\f.Bk c.tys
 lems:∀f∈c.lems,f.err=0/\f.Bk []
theorem Ck.ok.len{c:Ck}(h:c.ok):c.tys.length<=16:=(ua h.ctx).1
theorem Ck.ok.all{c:Ck}(h:c.ok):∀x∈c.tys,x.err=0:=(ua h.ctx).2
theorem Ck.ok.below{c:Ck}(h:c.ok){l:List Ty}(hl:c.tys.length+l.length<=16)(he:∀x∈l,x.err=0):(c.below l).ok:=by
 refine⟨Ybx (by simp[Ck.below];omega) fun x hx=> ?_,by simp[Ck.below];exact h.nh,h.nl,fun f hf=> ?_,h.lems⟩
 ·rcases List.mem_append.1 hx with hx|hx
  ·exact h.all x hx
  ·exact he x hx
 ·obtain ⟨y,hy,rfl⟩:=List.mem_map.1 hf;obtain⟨h1,h2⟩:=h.hyps y hy;refine⟨Na h1 (by omega),?_⟩;have h3:=KG (g:=c.tys) (h:=[]) l ((Fm.Ae y).1 h1).1 (by simpa using h2);simpa[Ck.below] using h3
theorem Ck.ok.AA{c:Ck}(h:c.ok){f:Fm}(hl:c.hyps.length+1<=16)(hf:f.err=0)(hok:f.Bk c.tys):(c.AA f).ok:=by
 refine⟨h.ctx,by simp[Ck.AA];omega,h.nl,fun y hy=> ?_,h.lems⟩;rcases List.mem_append.1 hy with hy|hy
 ·exact h.hyps y hy
 ·simp only[List.mem_singleton] at hy;subst hy;exact⟨hf,hok⟩
def ud(c:Ck)(r:CC):Prop:=r.2.2=0->r.1.shape=true/\r.1.size<=20000000/\r.1.Bk c.tys/\Be c.tys.length r.2.1
def F5(c:Ck)(r:CC):Prop:=(r.2.2=0->r.1.err=0/\r.1.Bk c.tys/\Be c.tys.length r.2.1)/\(r.2.2≠0->r=yn r.2.2)
theorem z7(c:Ck){e:Int}(he:e≠0):ud c (yn e):=fun h=>absurd h he
theorem Yjr{c:Ck}{r:CC}(h:ud c r):F5 c (KJ r):=by
 unfold KJ;by_cases h1:r.2.2≠0
 ·rw[if_pos h1];exact⟨fun h=>absurd h h1,fun _=>rfl⟩
 ·rw[if_neg h1];by_cases h2:r.1.err≠0
  ·rw[if_pos h2];exact⟨fun h=>absurd h (by decide),fun _=>rfl⟩
  ·rw[if_neg h2];obtain⟨_,_,h4,h5⟩:=h (Decidable.not_not.1 h1);refine⟨fun _=>⟨Decidable.not_not.1 h2,h4,?_⟩,fun h=>absurd rfl h⟩;simp only;split
   ·exact h5
   ·exact .nil _
def Cb(r:Rs):Prop:=∀c,c.ok->F5 c (r c)
theorem Cb.good{r:Rs}(h:Cb r){c:Ck}(hc:c.ok)(he:(r c).2.2=0):(r c).1.err=0/\(r c).1.Bk c.tys/\Be c.tys.length (r c).2.1:=(h c hc).1 he
theorem yu{f:Fm}(h:f.err=0):f.shape=true/\f.size<=20000000:=by
 have:=(Fm.Ae f).1 h;exact⟨this.1,by omega⟩
theorem UP{c:Ck}(hc:c.ok){i:Int}(hi:0<=i):ud c (N5 c i):=by
 unfold N5;split
 ·exact z7 c (by decide)
 ·rename_i h;intro _;have hlt:c.hyps.length-1-i.toNat<c.hyps.length:=by omega
  simp only;rw[KB hlt];obtain⟨h1,h2⟩:=hc.hyps _ (List.getElem_mem hlt);exact⟨(yu h1).1,(yu h1).2,h2,.nil _⟩
theorem YZ{c:Ck}(hc:c.ok){i:Int}(hi:0<=i):ud c (L6 c i):=by
 unfold L6;split
 ·exact z7 c (by decide)
 ·rename_i h;intro _;have hlt:i.toNat<c.lems.length:=by omega
  simp only;rw[KB hlt];obtain⟨h1,h2⟩:=hc.lems _ (List.getElem_mem hlt);have h3:=Zwu _ [] c.tys (yu h1).1 h2;rw[List.append_nil] at h3;exact⟨(yu h1).1,(yu h1).2,h3,.nil _⟩
theorem Vw{r0 r1:Rs}(h0:Cb r0)(h1:Cb r1){c:Ck}(hc:c.ok):ud c (Mv r0 r1 c):=by
 unfold Mv;split
 ·rename_i h;exact z7 c h
 ·rename_i h;intro he;obtain⟨a1,a2,a3⟩:=h0.good hc (Decidable.not_not.1 h);obtain⟨b1,b2,b3⟩:=h1.good hc he;have s1:=(Fm.Ae _).1 a1;have s2:=(Fm.Ae _).1 b1;exact⟨Uz (.inl rfl) s1.1 s2.1,by rw[Oy];omega,O8 (.inl rfl) a2 b2,.union a3.2 b3.2⟩
theorem PZ{r0:Rs}(h0:Cb r0){c:Ck}(hc:c.ok){j:Nat}(hj:j<2):ud c (MA j r0 c):=by
 unfold MA;split
 ·rename_i h;exact z7 c h
 rename_i h;split
 ·exact z7 c (by decide)
 rename_i h2;intro _;obtain⟨a1,a2,a3⟩:=h0.good hc (Decidable.not_not.1 h);have s1:=(Fm.Ae _).1 a1;obtain⟨x,y,e⟩:=L3 s1.1 (.inl (Decidable.not_not.1 h2));have hk:(r0 c).1.kind=2:=Decidable.not_not.1 h2;rw[hk] at e;rw[e] at a2;obtain⟨o1,o2⟩:=V5 (.inl rfl) a2;have e1:=uf a1 (x:=x) (by rw[e];simp[uo]);have e2:=uf a1 (x:=y) (by rw[e];simp[uo]);have:(r0 c).1.args=[x,y]:=by rw[e];rfl
 simp only[this];rcases j with _|_|j
 ·exact ⟨(yu e1).1,(yu e1).2,o1,a3⟩
 ·exact ⟨(yu e2).1,(yu e2).2,o2,a3⟩
 ·omega
theorem WB{r0:Rs}(h0:Cb r0){f:Fm}{c:Ck}(hc:c.ok):ud c (N2 f r0 c):=by
 unfold N2;split
 ·rename_i h;exact z7 c h
 rename_i h;split
 ·exact z7 c (by decide)
 rename_i h2;intro he;obtain⟨f1,f2⟩:=wj (Decidable.not_not.1 h);have hr:=vk (Decidable.not_not.1 h2);obtain⟨a1,a2,a3⟩:=h0.good (hc.AA (f:=f) hr.2 f1 f2) he;have s1:=(Fm.Ae _).1 a1;have s2:=(Fm.Ae _).1 f1;exact⟨Uz (.inr rfl) s2.1 s1.1,by rw[Oy];omega,O8 (.inr rfl) f2 a2,a3⟩
theorem ZA{r0 r1:Rs}(h0:Cb r0)(h1:Cb r1){c:Ck}(hc:c.ok):ud c (Nh r0 r1 c):=by
 unfold Nh;split
 ·rename_i h;exact z7 c h
 rename_i h;split
 ·exact z7 c (by decide)
 rename_i h2;split
 ·rename_i h;exact z7 c h
 rename_i h3;intro _;obtain⟨a1,a2,a3⟩:=h0.good hc (Decidable.not_not.1 h);obtain⟨b1,b2,b3⟩:=h1.good hc (Decidable.not_not.1 h3);have s1:=(Fm.Ae _).1 a1;have hk:(r0 c).1.kind=3:=Decidable.not_not.1 h2;obtain⟨x,y,e⟩:=L3 s1.1 (.inr hk);rw[hk] at e;rw[e] at a2;obtain⟨o1,o2⟩:=V5 (.inr rfl) a2;have e2:=uf a1 (x:=y) (by rw[e];simp[uo]);have:(r0 c).1.args=[x,y]:=by rw[e];rfl
 simp only[this];exact⟨(yu e2).1,(yu e2).2,o2,.union a3.2 b3.2⟩
theorem Oa{r0:Rs}(h0:Cb r0){k:Int}{s:Ty}(hs:s.err=0){c:Ck}(hc:c.ok):ud c (Me k s r0 c):=by
 unfold Me;split
 ·exact z7 c (by decide)
 rename_i h;have hr:=vk (Decidable.not_not.1 h);have hb:=hc.below (l:=[s]) hr.1 (by simpa using hs);split
 ·rename_i h;exact z7 c h
 rename_i h2;obtain⟨a1,a2,a3⟩:=h0.good hb (Decidable.not_not.1 h2);have s1:=(Fm.Ae _).1 a1;have hu:Be c.tys.length (Ee (r0 (c.below [s])).2.1 1):=by
  have:=Be.out (n:=c.tys.length) (m:=1) (l:=(r0 (c.below [s])).2.1) (by simpa[Ck.below] using a3);exact this
 split
 ·intro _;exact⟨MG (by omega) hs s1.1,by rw[Le];omega,JB (by omega) a2,hu⟩
 split
 ·exact z7 c (by decide)
 ·intro _;exact⟨MG (by omega) hs s1.1,by rw[Le];omega,JB (by omega) a2,hu⟩
theorem Pw{r0:Rs}(h0:Cb r0){k:Int}{t:Tm}{c:Ck}(hc:c.ok):ud c (atR k t r0 c):=by
 unfold atR;split
 ·rename_i h;exact z7 c h
 rename_i h;split
 ·rename_i h;exact z7 c h
 rename_i h2;split
 ·exact z7 c (by decide)
 rename_i h3;split
 ·exact z7 c (by decide)
 rename_i h4;intro he;obtain⟨_,t1,t2,_⟩:=Mm (Decidable.not_not.1 h);obtain⟨a1,a2,a3⟩:=h0.good hc (Decidable.not_not.1 h2);have s1:=(Fm.Ae _).1 a1;have hk:(r0 c).1.kind=kI k 13 6 4:=Decidable.not_not.1 h3;have hk':4<=(r0 c).1.kind/\(r0 c).1.kind<=7:=by rw[hk,kI];split<;>omega
 obtain⟨x,e⟩:=HP s1.1 hk';rw[e] at a2;have o1:=JQ hk' a2;have hx:(r0 c).1.args.getD 0 AG=x:=by rw[e];rfl
 rw[hx] at he ⊢;have hty:(r0 c).1.ty=(xj c.tys t).1:=Decidable.not_not.1 h4;rw[hty] at o1;obtain⟨p1,p2⟩:=M1 o1 t2 he;refine⟨(yu p1).1,(yu p1).2,p2,?_⟩;simp only[kL];split
 ·exact a3
 ·exact .union a3.2 (HH t2).2
theorem vt{r0:Rs}(h0:Cb r0){c:Ck}(hc:c.ok)(f:Fm)(t:Tm):Be c.tys.length (xr r0 c f t).1:=by
 unfold xr;split
 ·exact .nil _
 rename_i h;split
 ·exact .nil _
 ·exact (h0.good hc (Decidable.not_not.1 h)).2.2
theorem PF{r0:Rs}(h0:Cb r0){k:Int}{f:Fm}{t:Tm}{c:Ck}(hc:c.ok):ud c (NL k f t r0 c):=by
 unfold NL;split
 ·rename_i h;exact z7 c h
 rename_i h;split
 ·exact z7 c (by decide)
 split
 ·rename_i h;exact z7 c h
 rename_i h3;split
 ·exact z7 c (by decide)
 intro _;obtain⟨f1,f2⟩:=wj (Decidable.not_not.1 h);obtain⟨_,t1,t2,_⟩:=Mm (Decidable.not_not.1 h3);have hp:=vt h0 hc (f.args.getD 0 AG) t;refine⟨(yu f1).1,(yu f1).2,f2,?_⟩;simp only[kL];split
 ·exact hp
 ·exact .union hp.2 (HH t2).2
theorem Zj:∀(l:List Tm),(DK l).2=0->(DK l).1.length=l.length/\(∀t∈(DK l).1,t.err=0)/\∀(g:List Ty) (T:Ty),(∀t∈l,t.inf g=(T,0))->∀t∈(DK l).1,t.inf g=(T,0)
 |[],_=>⟨rfl,fun t h=>absurd h (List.not_mem_nil),fun g T _ t h=>absurd h (List.not_mem_nil)⟩
 |x::l,h=>by
  simp only[DK] at h ⊢;by_cases h1:(wg x 1000).2.2≠0
  ·rw[if_pos h1] at h;exact absurd h h1
  ·rw[if_neg h1] at h ⊢;by_cases h2:(DK l).2≠0
   ·rw[if_pos h2] at h;exact absurd h h2
   ·rw[if_neg h2];obtain⟨a1,a2,a3⟩:=Zj l (Decidable.not_not.1 h2);obtain⟨_,b1,_,_,b2⟩:=Yew (Decidable.not_not.1 h1);refine⟨by simp[a1],fun t ht=> ?_,fun g T hl t ht=> ?_⟩
    ·rcases List.mem_cons.1 ht with rfl|ht
     ·exact b1
     ·exact a2 t ht
    ·rcases List.mem_cons.1 ht with rfl|ht
     ·exact b2 g T (hl x (by simp))
     ·exact a3 g T (fun t ht=>hl t (by simp[ht])) t ht
theorem Xh(P:Fm->Fm->Prop):∀(l:List Fm),(∀f∈l,(wy f).2=0->P f (wy f).1)->(xz l).2=0->(xz l).1.length=l.length/\∀(i:Nat) (h1:i<l.length) (h2:i<(xz l).1.length),P l[i] (xz l).1[i]
 |[],_,_=>⟨rfl,fun i h=>by simp at h⟩
 |x::l,hP,h=>by
  have h0:=h;simp only[xz] at h0;by_cases h1:(wy x).2≠0
  ·rw[if_pos h1] at h0;exact absurd h0 h1
  ·rw[if_neg h1] at h0;by_cases h2:(xz l).2≠0
   ·rw[if_pos h2] at h0;exact absurd h0 h2
   ·have e:xz (x::l)=((wy x).1::(xz l).1,0):=by simp only[xz];rw[if_neg h1,if_neg h2]
    obtain⟨a1,a2⟩:=Xh P l (fun f hf=>hP f (by simp[hf])) (Decidable.not_not.1 h2);generalize xz (x::l)=q at h e ⊢;subst e;refine⟨by simp[a1],fun i hi hj=> ?_⟩;cases i with
    |zero=>exact hP x (by simp) (Decidable.not_not.1 h1)
    |succ i=>exact a2 i (by simpa using hi) (by simpa using hj)
theorem TU{α:Type}{f:α->Nat}{C:Nat}:∀(l:List α),(∀x∈l,f x<=C)->(l.map f).sum<=C*l.length
 |[],_=>by simp
 |x::l,h=>by
  have h1:=TU l fun y hy=>h y (by simp[hy]);have h2:=h x (by simp);simp only[List.map_cons,List.sum_cons,List.length_cons,Nat.mul_add,Nat.mul_one];omega
theorem XE(f:Fm):(wy f).2=0->f.shape=true->(wy f).1.kind=f.kind/\(wy f).1.shape=true/\(wy f).1.size<=4096*f.size/\∀g,f.Bk g->(wy f).1.Bk g:=by
 induction f using Fm.ind with
 |h f ih=>
  intro h hs;rw[YL] at h ⊢;by_cases h1:(DK f.terms).2≠0
  ·rw[if_pos h1] at h;exact absurd h h1
  rw[if_neg h1] at h ⊢;by_cases h2:(xz f.args).2≠0
  ·rw[if_pos h2] at h;exact absurd h h2
  rw[if_neg h2];obtain⟨a1,a2,a3⟩:=Zj f.terms (Decidable.not_not.1 h1);obtain⟨b1,b2⟩:=Xh (fun x y=>y.kind=x.kind/\y.shape=true/\y.size<=4096*x.size/\∀g,x.Bk g->y.Bk g) f.args (fun x hx he=>ih x hx he (zn hs hx)) (Decidable.not_not.1 h2);have hsh:(Fm.mk f.kind f.ty (DK f.terms).1 (xz f.args).1).shape=true:=by
   rw[Fm.Ai,Bool.and_eq_true,Bool.and_eq_true] at hs ⊢;refine⟨⟨?_,List.all_eq_true.2 fun t ht=>((Tm.Ae t).1 (a2 t ht)).1⟩,List.all_eq_true.2 fun y hy=> ?_⟩
   ·have:=hs.1.1;unfold Fm.head at this ⊢;simp only[Fm.Ah,Fm.Am,Fm.Ac,a1,b1] at this ⊢;exact this
   ·obtain ⟨i,hi,rfl⟩:=List.getElem_of_mem hy;have hi':i<(xz f.args).1.length:=hi;exact(b2 i (by omega) hi').2.1
  refine⟨rfl,hsh,?_,fun g hok=> ?_⟩
  ·have e1:=f.size_eq;rw[Fm.size_eq];simp only[Fm.Am,Fm.Ac];have s1:=TU (f:=Tm.size) (C:=4096) (DK f.terms).1 fun t ht=>((Tm.Ae t).1 (a2 t ht)).2;have s2:=zg Tm.size Tm.size_pos f.terms;have s3:((xz f.args).1.map Fm.size).sum<=4096*(f.args.map Fm.size).sum:=by
    have:∀(l m:List Fm),m.length=l.length->(∀(i:Nat) (h1:i<l.length) (h2:i<m.length),m[i].size<=4096*l[i].size)->(m.map Fm.size).sum<=4096*(l.map Fm.size).sum:=by
     intro l;induction l with
     |nil=>intro m hm _;have:m=[]:=List.eq_nil_of_length_eq_zero hm;subst this;simp
     |cons x l ihl=>
      intro m hm hh
      match m,hm with
      |y::m,hm=>
       have q1:=ihl m (by simpa using hm) fun i h1 h2=>by have:=hh (i+1) (by simpa using h1) (by simpa using h2);simpa using this
       have q2:=hh 0 (by simp) (by simp);simp only[List.getElem_cons_zero] at q2;simp only[List.map_cons,List.sum_cons];omega
    exact this f.args _ b1 fun i h1 h2=>(b2 i h1 h2).2.2.1
   rw[a1] at s1;omega
  ·rw[Fm.Bu] at hok ⊢;refine⟨fun t ht=>a3 g Af hok.1 t ht,fun y hy=> ?_⟩;obtain⟨i,hi,rfl⟩:=List.getElem_of_mem hy;have hi':i<(xz f.args).1.length:=hi;have hc:Dd g (Fm.mk f.kind f.ty (DK f.terms).1 (xz f.args).1)=Dd g f:=rfl;rw[hc];exact(b2 i (by omega) hi').2.2.2 _ (hok.2 _ (List.getElem_mem (by omega)))
theorem Zy2{f:Fm}(s:Tm)(hs:f.shape=true)(h:xy 0 f=0):f.Bd 1 (-1)=f.put 0 s:=by
 refine Fm.A1 f 0 fun p hp=> ?_;have h1:=Xf h p hp;have h2:=Q0 p hp;refine A1 p.1 0 fun q hq=> ?_;have h3:=Ks h1 q hq;rw[x7,uv];have h4:=vv p.1 0 q hq;by_cases h5:q.1-q.2>=1+p.2
 ·rw[if_pos h5,if_neg h3,if_pos (by omega)];rfl
 ·rw[if_neg h5,if_neg h3,if_neg (by omega)]
theorem Yft{f:Fm}{g:List Ty}{σ:Ty}(hσ:σ.err=0)(hs:f.shape=true)(h:xy 0 f=0)(hok:f.Bk (g++[σ])):(f.Bd 1 (-1)).shape=true/\(f.Bd 1 (-1)).size=f.size/\(f.Bd 1 (-1)).Bk g:=by
 have h1:=(Ty.Ae σ).1 hσ;obtain⟨d1,d2,_⟩:=Zxs σ h1.1 h1.2;rw[Zy2 (Dr σ) hs h];refine⟨Mw (by omega) d2 hs,?_,?_⟩
 ·have:=My 0 (Dr σ) d2 f hs 0;have e:w6 0 (f.AZ 0)=0:=h;show(f.re (fun b t=>t.re (xu (0+b) (Dr σ)) 0) 0).size=f.size;rw[this,e,Nat.zero_mul];rfl
 ·have h3:=SY 0 (Dr σ) g σ d2 (d1 g) f [] 0 rfl hs (by simpa using hok);rw[List.append_nil] at h3;exact h3
theorem Yex{f:Fm}(hf:f.err=0)(h:(ES f).2=0):(ES f).1.shape=true/\(ES f).1.size<=16777216/\xy 0 (ES f).1=0/\(∀g,f.Bk g->(ES f).1.Bk g)/\(ES f).1.kind=f.kind:=by
 have s1:=(Fm.Ae _).1 hf;unfold ES at h ⊢;by_cases h1:xy 0 f=0
 ·rw[if_pos h1];exact⟨s1.1,by simp only;omega,h1,fun g h=>h,rfl⟩
 rw[if_neg h1] at h ⊢;by_cases h2:(wy f).2≠0
 ·rw[if_pos h2] at h;exact absurd h h2
 rw[if_neg h2] at h ⊢;by_cases h3:xy 0 (wy f).1≠0
 ·rw[if_pos h3] at h;cases h
 rw[if_neg h3];obtain⟨k,a,b,c⟩:=XE f (Decidable.not_not.1 h2) s1.1;exact⟨a,by simp only;omega,Decidable.not_not.1 h3,c,k⟩
theorem PW{r0 r1:Rs}(h0:Cb r0)(h1:Cb r1){k:Int}{c:Ck}(hc:c.ok):ud c (MR k r0 r1 c):=by
 unfold MR;split
 ·rename_i h;exact z7 c h
 rename_i e0;split
 ·exact z7 c (by decide)
 rename_i e1;split
 ·exact z7 c (by decide)
 rename_i e2;split
 ·rename_i h;exact z7 c h
 rename_i e3;split
 ·rename_i h;exact z7 c h
 rename_i e4;split
 ·exact z7 c (by decide)
 intro _;obtain⟨a1,a2,a3⟩:=h0.good hc (Decidable.not_not.1 e0);have s1:=(Fm.Ae _).1 a1;have hk:(r0 c).1.kind=kI k 15 7 5:=Decidable.not_not.1 e1;have hk':4<=(r0 c).1.kind/\(r0 c).1.kind<=7:=by rw[hk,kI];split<;>omega
 obtain⟨x,e⟩:=HP s1.1 hk';have ex:x.err=0:=uf a1 (by rw[e];simp[Bp]);rw[e] at a2;have o1:=JQ hk' a2;have hx:(r0 c).1.args.getD 0 AG=x:=by rw[e];rfl
 have hr:=vk (Decidable.not_not.1 e2);have hte:=I2 s1.1 hk';have hb:((c.below [(r0 c).1.ty]).AA x).ok:=(hc.below (l:=[(r0 c).1.ty]) hr.1 (by simpa using hte)).AA (by simpa[Ck.below] using hr.2) ex o1;have hob:HY r1 c (r0 c).1=r1 ((c.below [(r0 c).1.ty]).AA x):=by unfold HY;rw[hx]
 rw[hob] at e3 e4 ⊢;obtain⟨b1,b2,b3⟩:=h1.good hb (Decidable.not_not.1 e3);obtain⟨f1,f2,f3,f4,_⟩:=Yex b1 (Decidable.not_not.1 e4);obtain⟨l1,l2,l3⟩:=Yft hte f1 f3 (f4 _ b2);have hu:=Be.out (n:=c.tys.length) (m:=1) (l:=(r1 ((c.below [(r0 c).1.ty]).AA x)).2.1) (by simpa[Ck.below,Ck.AA] using b3);exact⟨l1,by simp only;omega,l3,.union a3.2 hu.2⟩
theorem Ylx(g:List Ty):zT.inf g=(Af,0):=by simp[zT,Tm.inf,Tm.AD,yr]
theorem Yg2(g:List Ty):Ds.inf g=(Al,0):=by simp[Ds,Tm.inf,Tm.AD,yr]
theorem TT{c:Ck}{t:Tm}(h:Fu c t 1=0):t.err=0/\t.inf c.tys=(Af,0):=by
 obtain⟨a,b,d,e⟩:=XH h;exact⟨a,by rw[b,K5 d e]⟩
theorem Xx{c:Ck}{t:Tm}(h:Fu c t 2=0):t.err=0/\t.inf c.tys=(Al,0):=by
 obtain⟨a,b,d,e⟩:=XH h;exact⟨a,by rw[b,OP d e]⟩
theorem IQ:Af.err=0:=by decide
theorem Nf:Al.err=0:=by decide
theorem Ck.ok.one{c:Ck}(h:c.ok){s:Ty}(hs:s.err=0):∀x∈c.tys++[s],x.err=0:=fun x hx=>by
 rcases List.mem_append.1 hx with hx|hx
 ·exact h.all x hx
 ·simp only[List.mem_singleton] at hx;subst hx;exact hs
theorem Yz{r0 r1:Rs}(h0:Cb r0)(h1:Cb r1){f:Fm}{t:Tm}{c:Ck}(hc:c.ok):ud c (MC f t r0 r1 c):=by
 unfold MC;split
 ·rename_i h;exact z7 c h
 rename_i e0;split
 ·rename_i h;exact z7 c h
 rename_i e1;split
 ·rename_i h;exact z7 c h
 rename_i e2;split
 ·exact z7 c (by decide)
 rename_i e3;split
 ·rename_i h;exact z7 c h
 intro he;obtain⟨f1,f2⟩:=LC (hc.one IQ) (Decidable.not_not.1 e0);obtain⟨t1,t2⟩:=TT (Decidable.not_not.1 e1);obtain⟨p1,p2⟩:=M1 f2 t2 he;have hr:=vk (Decidable.not_not.1 e3);have hb:((c.below [Af]).AA f).ok:=(hc.below (l:=[Af]) hr.1 (by simp[IQ])).AA (by simpa[Ck.below] using hr.2) f1 f2;have hu:=Be.out (n:=c.tys.length) (m:=1) (l:=(xr r1 ((c.below [Af]).AA f) (f.Bd 1 1) (sT (vT 0))).1) (by simpa[Ck.below,Ck.AA] using vt h1 hb (f.Bd 1 1) (sT (vT 0)));refine⟨(yu p1).1,(yu p1).2,p2,.union (fun u hu=> ?_) hu.2⟩;rcases C7.1 hu with h|h
 ·exact (HH t2).2 u h
 ·exact (vt h0 hc f zT).2 u h
theorem Za{r0 r1:Rs}(h0:Cb r0)(h1:Cb r1){f:Fm}{t:Tm}{c:Ck}(hc:c.ok):ud c (L4 f t r0 r1 c):=by
 unfold L4;split
 ·rename_i h;exact z7 c h
 rename_i e0;split
 ·rename_i h;exact z7 c h
 rename_i e1;split
 ·rename_i h;exact z7 c h
 rename_i e2;split
 ·exact z7 c (by decide)
 rename_i e3;split
 ·rename_i h;exact z7 c h
 intro he;obtain⟨f1,f2⟩:=LC (hc.one Nf) (Decidable.not_not.1 e0);obtain⟨t1,t2⟩:=Xx (Decidable.not_not.1 e1);obtain⟨p1,p2⟩:=M1 f2 t2 he;have hr:=vk (Decidable.not_not.1 e3);have hl:=KG (g:=c.tys) (h:=[Al]) [Af] ((Fm.Ae f).1 f1).1 f2;have hb:((c.below [Af,Al]).AA (f.Bd 1 1)).ok:=(hc.below (l:=[Af,Al]) hr.1 (by simp[IQ,Nf])).AA (by simpa[Ck.below] using hr.2) (Na f1 (by omega)) (by simpa[Ck.below] using hl);have hu:=Be.out (n:=c.tys.length) (m:=2) (l:=(xr r1 ((c.below [Af,Al]).AA (f.Bd 1 1)) (f.Bd 1 2) Cf).1) (by simpa[Ck.below,Ck.AA] using vt h1 hb (f.Bd 1 2) Cf);refine⟨(yu p1).1,(yu p1).2,p2,.union (fun u hu=> ?_) hu.2⟩;rcases C7.1 hu with h|h
 ·exact (HH t2).2 u h
 ·exact (vt h0 hc f Ds).2 u h
theorem VC{t:Tm}{c:Ck}(hc:c.ok):ud c (Lt t c):=by
 intro he;obtain⟨t1,t2⟩:=TT he;have s:=(Tm.Ae t).1 t1;exact⟨KH s.1 s.1,by show(AV t t).size<=_;rw[Kj];omega,CP.2 ⟨t2,t2⟩,.nil _⟩
theorem VL{r0 r1:Rs}(h0:Cb r0)(h1:Cb r1){f:Fm}{c:Ck}(hc:c.ok):ud c (MD f r0 r1 c):=by
 unfold MD;split
 ·rename_i h;exact z7 c h
 rename_i e0;split
 ·rename_i h;exact z7 c h
 rename_i e1;split
 ·exact z7 c (by decide)
 rename_i e2;split
 ·rename_i h;exact z7 c h
 intro he;obtain⟨f1,f2⟩:=LC (hc.one IQ) (Decidable.not_not.1 e0);obtain⟨a1,a2,a3⟩:=h0.good hc (Decidable.not_not.1 e1);obtain⟨x,y,e⟩:=SF ((Fm.Ae _).1 a1).1 (Decidable.not_not.1 e2);rw[e] at a2;have hy:(r0 c).1.terms.getD 1 AU=y:=by rw[e];rfl
 rw[hy] at he ⊢;obtain⟨p1,p2⟩:=M1 f2 (CP.1 a2).2 he;exact⟨(yu p1).1,(yu p1).2,p2,vt h1 hc _ _⟩
theorem Ycu(g:List Ty)(s u:Ty):EZ.inf (g++[yt s u]++[s])=(u,0):=by
 refine KY (a:=s) ?_ ?_
 ·rw[vi _ _ (by omega),if_neg (by simp;omega),KD (by simp) (by simp),wu (by simp)];rfl
 ·rw[vi _ _ (by omega),if_neg (by simp;omega),wu (by simp)];rfl
theorem Un{r0:Rs}(h0:Cb r0){c:Ck}(hc:c.ok):ud c (NT r0 c):=by
 unfold NT;split
 ·rename_i h;exact z7 c h
 rename_i e0;split
 ·exact z7 c (by decide)
 rename_i e1;split
 ·exact z7 c (by decide)
 rename_i e2;intro he;obtain⟨a1,a2,a3⟩:=h0.good hc (Decidable.not_not.1 e0);rw[not_or,Decidable.not_not,Decidable.not_not] at e1;have s1:=(Fm.Ae _).1 a1;obtain⟨x,e⟩:=HP s1.1 (by omega);have ex:x.err=0:=uf a1 (by rw[e];simp[Bp]);have hx:(r0 c).1.args.getD 0 AG=x:=by rw[e];rfl
 have hte:=I2 s1.1 (by omega);rw[hx] at e1;have s2:=(Fm.Ae _).1 ex;obtain⟨y,e'⟩:=HP s2.1 (by omega);have hte':=I2 s2.1 (by omega);have ey:y.err=0:=uf ex (by rw[e'];simp[Bp]);have hy:x.args.getD 0 AG=y:=by rw[e'];rfl
 rw[e] at a2;have o1:=JQ (by omega) a2;rw[e'] at o1;have o2:=JQ (by omega) o1;have hcf:NW (r0 c).1=yt (r0 c).1.ty x.ty:=by unfold NW;rw[hx]
 have hcb:NC (r0 c).1=Dy (y.Bd 2 1) EZ:=by unfold NC;rw[hx,hy]
 rw[hcf] at e2 ⊢;rw[hcb] at he ⊢;have hl:=KG (g:=c.tys) (h:=[(r0 c).1.ty,x.ty]) [yt (r0 c).1.ty x.ty] ((Fm.Ae y).1 ey).1 (by simpa using o2);have hl':(y.Bd 2 1).Bk (c.tys++[yt (r0 c).1.ty x.ty]++[(r0 c).1.ty]++[x.ty]):=by simpa using hl
 obtain⟨p1,p2⟩:=M1 hl' (Ycu _ _ _) he;have s3:=(Fm.Ae _).1 p1;refine⟨MG (by omega) (Decidable.not_not.1 e2) (MG (by omega) hte s3.1),by simp only[Le];omega,JB (by omega) (JB (by omega) p2),a3⟩
def PfOk(p:Pf):Prop:=p.shape=true/\p.small=true
theorem XX{l:List Pf}{i:Nat}(hi:i<l.length):(l.map Ci).getD i (fun _=>yn 0)=Ci l[i]:=by
 rw[KB (by simpa using hi),List.getElem_map]
theorem zl{p:Pf}(h:p.shape=true):p.head=true/\(∀t∈p.terms,t.shape=true)/\(∀f∈p.Ad,f.shape=true)/\∀x∈p.args,x.shape=true:=by
 rw[p.Ai] at h;simp only[Bool.and_eq_true,List.all_eq_true] at h;exact⟨h.1.1.1,h.1.1.2,h.1.2,h.2⟩
theorem Zv{t:Ty}(h:t.ok=true):t.err=0:=by
 simp only[Ty.ok,Bool.and_eq_true,decide_eq_true_eq] at h;exact(Ty.Ae t).2 h
theorem HF{p:Pf}(h:p.head=true):∃nd,BX p.kind=some nd/\p.terms.length=nd.terms/\p.Ad.length=nd.Ad/\p.args.length=nd.args/\0<=p.index/\(nd.typ=true->p.ty.err=0)/\1<=p.kind/\p.kind<=20:=by
 unfold Pf.head at h;cases hn:BX p.kind with
 |none=>rw[hn] at h;cases h
 |some nd=>
  rw[hn] at h;have hk:1<=p.kind/\p.kind<=20:=by
   refine Decidable.byContradiction fun hc=> ?_;have:BX p.kind=none:=by
    unfold BX
    repeat rw[if_neg (by omega)]
   rw[this] at hn;cases hn
  simp only[Bool.and_eq_true,decide_eq_true_eq,beq_iff_eq] at h;refine⟨nd,rfl,by omega,by omega,by omega,by omega,fun ht=> ?_,hk⟩;simp only[ht,if_true] at h;exact Zv h.2
theorem OU(p:Pf):p.shape=true->Cb (Ci p):=by
 induction p using Pf.ind with
 |h p ih=>
  intro hs c hc;rw[Sj];refine Yjr ?_;obtain⟨h1,h2,h3,h4⟩:=zl hs;obtain⟨nd,n1,n2,n3,n4,n5,n6,n7⟩:=HF h1;have hrs:∀i,i<p.args.length->Cb ((p.args.map Ci).getD i fun _=>yn 0):=fun i hi=>by
   rw[XX hi];exact ih _ (List.getElem_mem hi) (h4 _ (List.getElem_mem hi))
  have hk:p.kind=1\/p.kind=2\/p.kind=3\/p.kind=4\/p.kind=5\/p.kind=6\/p.kind=7\/p.kind=8\/p.kind=9\/p.kind=10\/p.kind=11\/p.kind=12\/p.kind=13\/p.kind=14\/p.kind=15\/p.kind=16\/p.kind=17\/p.kind=18\/p.kind=19\/p.kind=20:=by omega
  unfold Iy;rcases hk with e|e|e|e|e|e|e|e|e|e|e|e|e|e|e|e|e|e|e|e<;>rw[e] at n1 ⊢<;>simp only[BX] at n1<;>(try(simp at n1))<;>(try subst n1)<;>simp only[reduceIte,Int.reduceEq,or_false,false_or,or_true,true_or]<;>simp only at n4 n6
  ·exact UP hc n5
  ·exact YZ hc n5
  ·exact Vw (hrs 0 (by omega)) (hrs 1 (by omega)) hc
  ·exact PZ (hrs 0 (by omega)) hc (by decide)
  ·exact PZ (hrs 0 (by omega)) hc (by decide)
  ·exact WB (hrs 0 (by omega)) hc
  ·exact ZA (hrs 0 (by omega)) (hrs 1 (by omega)) hc
  ·exact Oa (hrs 0 (by omega)) (n6 trivial) hc
  ·exact Pw (hrs 0 (by omega)) hc
  ·exact PF (hrs 0 (by omega)) hc
  ·exact PW (hrs 0 (by omega)) (hrs 1 (by omega)) hc
  ·exact Oa (hrs 0 (by omega)) (n6 trivial) hc
  ·exact Pw (hrs 0 (by omega)) hc
  ·exact PF (hrs 0 (by omega)) hc
  ·exact PW (hrs 0 (by omega)) (hrs 1 (by omega)) hc
  ·exact Yz (hrs 0 (by omega)) (hrs 1 (by omega)) hc
  ·exact Za (hrs 0 (by omega)) (hrs 1 (by omega)) hc
  ·exact VC hc
  ·exact VL (hrs 0 (by omega)) (hrs 1 (by omega)) hc
  ·exact Un (hrs 0 (by omega)) hc
theorem Sb{α:Type}{l:List α}(h:l.length=1):∃a,l=[a]:=by
 match l,h with
 |[a],_=>exact⟨a,rfl⟩
theorem ln2{α:Type}{l:List α}(h:l.length=2):∃a b,l=[a,b]:=by
 match l,h with
 |[a,b],_=>exact⟨a,b,rfl⟩
theorem Sx{α:Type}{l:List α}(h:l.length=0):l=[]:=List.eq_nil_of_length_eq_zero h
theorem Ydz{p:Pf}(hs:p.shape=true){c:Ck}(hc:c.ok):ud c (Iy p.kind p.index p.ty p.terms p.Ad (p.args.map Ci) c):=by
 obtain⟨h1,h2,h3,h4⟩:=zl hs;obtain⟨nd,n1,n2,n3,n4,n5,n6,n7⟩:=HF h1;have hrs:∀i,i<p.args.length->Cb ((p.args.map Ci).getD i fun _=>yn 0):=fun i hi=>by
  rw[XX hi];exact OU _ (h4 _ (List.getElem_mem hi))
 have hk:p.kind=1\/p.kind=2\/p.kind=3\/p.kind=4\/p.kind=5\/p.kind=6\/p.kind=7\/p.kind=8\/p.kind=9\/p.kind=10\/p.kind=11\/p.kind=12\/p.kind=13\/p.kind=14\/p.kind=15\/p.kind=16\/p.kind=17\/p.kind=18\/p.kind=19\/p.kind=20:=by omega
 unfold Iy;rcases hk with e|e|e|e|e|e|e|e|e|e|e|e|e|e|e|e|e|e|e|e<;>rw[e] at n1 ⊢<;>simp only[BX] at n1<;>(try(simp at n1))<;>(try subst n1)<;>simp only[reduceIte,Int.reduceEq,or_false,false_or,or_true,true_or]<;>simp only at n4 n6
 ·exact UP hc n5
 ·exact YZ hc n5
 ·exact Vw (hrs 0 (by omega)) (hrs 1 (by omega)) hc
 ·exact PZ (hrs 0 (by omega)) hc (by decide)
 ·exact PZ (hrs 0 (by omega)) hc (by decide)
 ·exact WB (hrs 0 (by omega)) hc
 ·exact ZA (hrs 0 (by omega)) (hrs 1 (by omega)) hc
 ·exact Oa (hrs 0 (by omega)) (n6 trivial) hc
 ·exact Pw (hrs 0 (by omega)) hc
 ·exact PF (hrs 0 (by omega)) hc
 ·exact PW (hrs 0 (by omega)) (hrs 1 (by omega)) hc
 ·exact Oa (hrs 0 (by omega)) (n6 trivial) hc
 ·exact Pw (hrs 0 (by omega)) hc
 ·exact PF (hrs 0 (by omega)) hc
 ·exact PW (hrs 0 (by omega)) (hrs 1 (by omega)) hc
 ·exact Yz (hrs 0 (by omega)) (hrs 1 (by omega)) hc
 ·exact Za (hrs 0 (by omega)) (hrs 1 (by omega)) hc
 ·exact VC hc
 ·exact VL (hrs 0 (by omega)) (hrs 1 (by omega)) hc
 ·exact Un (hrs 0 (by omega)) hc
theorem ZJ(f:Fm):(f.args.getD 0 AG).full<=f.full+2:=by
 cases h:f.args with
 |nil=>exact Nat.le_trans (by decide:AG.full<=2) (by omega)
 |cons x l=>
  have:=ze Fm.full (l:=f.args) (t:=x) (by rw[h];simp);have:=f.Ag;simp only[List.getD_cons_zero];omega
def DG(lems:List Fm)(tys:List Ty)(hyps:List Fm):Int:=
 if lems.length>32 then 3 else if yz (yg []) lems≠0 then yz (yg []) lems else if xg tys≠0 then xg tys
 else if hyps.length>16 then 3 else yz (yg tys) hyps
theorem Zf{lems:List Fm}{tys:List Ty}{hyps:List Fm}(h:DG lems tys hyps=0):(Ck.mk lems tys hyps).ok:=by
 unfold DG at h;by_cases h1:lems.length>32
 ·rw[if_pos h1] at h;cases h
 rw[if_neg h1] at h;by_cases h2:yz (yg []) lems≠0
 ·rw[if_pos h2] at h;exact absurd h h2
 rw[if_neg h2] at h;by_cases h3:xg tys≠0
 ·rw[if_pos h3] at h;exact absurd h h3
 rw[if_neg h3] at h;by_cases h4:hyps.length>16
 ·rw[if_pos h4] at h;cases h
 rw[if_neg h4] at h;exact⟨Decidable.not_not.1 h3,by simp only;omega,by simp only;omega,fun f hf=>wj (u6 h f hf),fun f hf=>wj (u6 (Decidable.not_not.1 h2) f hf)⟩
def v9(lems:List Fm)(tys:List Ty)(hyps:List Fm)(p:Pf):CC:=
 if DG lems tys hyps≠0 then yn (DG lems tys hyps) else if p.err≠0 then yn p.err else Ci p ⟨lems,tys,hyps⟩
def Yoe(lems:List Fm)(tys:List Ty)(hyps:List Fm)(p:Pf)(f:Fm):Int:=
 if(v9 lems tys hyps p).2.2≠0 then(v9 lems tys hyps p).2.2 else if yg tys f≠0 then yg tys f else Lv (v9 lems tys hyps p).1 f
def AK(k:Int):Int:=if k=16\/k=17\/k=19 then 1 else 0
def Az(k:Int):Int:=if k=17 then 2 else if k=8\/k=12\/k=11\/k=15\/k=16 then 1 else 0
def Ay(k:Int):Int:=if k=6\/k=11\/k=15\/k=16\/k=17 then 1 else 0
def C2(k:Int):List V:=match BX k with
 |some n=>[.bool n.index,.bool n.typ,.i n.terms,.i n.Ad,.i n.args,.i (AK k),.i (Az k),.i (Ay k)]
 |none=>[.bool false,.bool false,.i 0,.i 0,.i 0,.i 0,.i 0,.i 0]
abbrev Tl:=Nat×Bool
def BZ:List Tm->Tl->Bool×Tl
 |[],s=>(true,s)
 |t::l,s=>if t.err=2 then(false,(s.1+t.num.toNat,s.2||t.err==4)) else BZ l (s.1+t.num.toNat,s.2||t.err==4)
def Ca:List Fm->Tl->Bool×Tl
 |[],s=>(true,s)
 |t::l,s=>if t.err=2 then(false,(s.1+t.num.toNat,s.2||t.err==4)) else Ca l (s.1+t.num.toNat,s.2||t.err==4)
def Pf.FF(p:Pf):Bool:=match BX p.kind with
 |none=>false
 |some n=>p.terms.length==n.terms&&p.Ad.length==n.Ad&&p.args.length==n.args&&decide (0<=p.index)&&(n.index||p.index==0)
def Pf.Gs(p:Pf):Bool:=match BX p.kind with
 |none=>false
 |some n=>if n.typ=true then p.ty.ok else p.ty.BJ
mutual
def Dz:Pf->Tl->Bool×Tl
 | .mk k i h ts fs zs,s=>
   if Pf.FF (.mk k i h ts fs zs)=false then(false,s) else if Pf.Gs (.mk k i h ts fs zs)=false then(false,(s.1+1,s.2))
   else if(BZ ts (s.1+1,s.2)).1=false then BZ ts (s.1+1,s.2)
   else if(Ca fs (BZ ts (s.1+1,s.2)).2).1=false then Ca fs (BZ ts (s.1+1,s.2)).2
   else Cr zs (Ca fs (BZ ts (s.1+1,s.2)).2).2
def Cr:List Pf->Tl->Bool×Tl
 |[],s=>(true,s)
 |p::l,s=>if(Dz p s).1=false then Dz p s else Cr l (Dz p s).2
end
theorem SX{p:Pf}(hs:p.shape=true):∃nd,BX p.kind=some nd/\p.terms.length=nd.terms/\p.Ad.length=nd.Ad/\p.args.length=nd.args/\0<=p.index/\(nd.index=false->p.index=0)/\(nd.typ=true->p.ty.err=0)/\(nd.typ=false->p.ty= .mk 0 [])/\1<=p.kind/\p.kind<=20:=by
 have h:=(zl hs).1;obtain⟨nd,n1,n2,n3,n4,n5,n6,n7⟩:=HF h;refine⟨nd,n1,n2,n3,n4,n5,?_,n6,?_,n7⟩
 ·intro hi;unfold Pf.head at h;rw[n1] at h;simp only[Bool.and_eq_true,decide_eq_true_eq,beq_iff_eq,Bool.or_eq_true] at h;rcases h.1.2 with h2|h2
  ·rw[hi] at h2;cases h2
  ·exact h2
 ·intro hi;unfold Pf.head at h;rw[n1] at h;simp only[Bool.and_eq_true,decide_eq_true_eq,beq_iff_eq,Bool.or_eq_true] at h;have h2:=h.2;rw[if_neg (by simp[hi])] at h2;exact Ty.D6 h2
def Pf.num(p:Pf):Int:=if p.err=0 then p.size else 0
theorem Uq{c:Ck}{s:Tm}(hk:Fu c s 1=0)(he:(AV s s).err=0):Ci (xx s) c=(AV s s,[],0):=by
 rw[Sj];have e:Iy (xx s).kind (xx s).index (xx s).ty (xx s).terms (xx s).Ad ((xx s).args.map Ci) c=Lt s c:=rfl;rw[e];unfold Lt KJ;rw[hk,if_neg (by simp),if_neg (by simp[he])];simp only;split<;>rfl
def GM(f:Fm)(p q:Pf):Pf:= .mk 19 0 (.mk 0 []) [] [f] [p,q]
theorem XJ{c:Ck}(hc:c.ok){s:Tm}(he:s.err=0)(hi:s.inf c.tys=(Af,0)):Fu c s 1=0:=by
 have e:xj c.tys s=(Af,0):=by
  unfold xj Ec;rw[if_neg (by simp[hc.ctx]),if_neg (by simp[he]),hi]
 unfold Fu;rw[e];rfl
structure CD (g:List Ty) (s:Tm):Prop where
 err:s.err=0
 inf:s.inf g=(Af,0)
 size:s.size<=900
theorem CD.shape{g:List Ty}{s:Tm}(h:CD g s):s.shape=true:=((Tm.Ae s).1 h.err).1
theorem CD.near{g:List Ty}{s:Tm}(h:CD g s)(hg:g.length<=1000):s.near=true:=MI (by rw[h.inf]) h.shape (by have:=h.size;omega)
theorem Ta{a b:Tm}(ha:a.shape=true)(hb:b.shape=true)(hz:a.size+b.size<=4095):(AV a b).err=0:=
 (Fm.Ae _).2 ⟨KH ha hb,by rw[Kj];omega⟩
theorem YU(g:List Ty)(u:Ty):(vT 0).inf (g++[u])=(u,0):=by
 rw[vi _ _ (by omega),if_neg (by simp)];have:ER (g++[u]) 0=ER [u] 0:=wu (by simp);simp only[Int.toNat_zero];rw[this];rfl
theorem Yph(a b:Tm):w6 0 ((AV a b).AZ 0)=cnt 0 (a.vars 0)+cnt 0 (b.vars 0):=by
 simp[AV,Fm.AZ,Fm.Gz,w6]
theorem Ynh{a b:Tm}(ha:a.near=true)(hb:b.near=true):(AV a b).near=true:=by
 unfold Fm.near;simp[AV,Fm.AZ,Fm.Gz,ha,hb]
structure Dt (g:List Ty) (a b:Tm):Prop where
 sa:a.shape=true
 sb:b.shape=true
 ia:a.inf (g++[Af])=(Af,0)
 ib:b.inf (g++[Af])=(Af,0)
 sz:a.size+b.size<=3000
theorem Dt.err{g:List Ty}{a b:Tm}(h:Dt g a b):(AV a b).err=0:=Ta h.sa h.sb (by have:=h.sz;omega)
theorem Dt.near{g:List Ty}{a b:Tm}(h:Dt g a b)(hg:g.length<=16):(AV a b).near=true:=
 Ynh (MI (by rw[h.ia]) h.sa (by have:=h.sz;simp;omega)) (MI (by rw[h.ib]) h.sb (by have:=h.sz;simp;omega))
theorem Dt.put{g:List Ty}{a b s:Tm}(h:Dt g a b)(hg:g.length<=16)(hs:CD g s)(hz:1+a.size+b.size+(cnt 0 (a.vars 0)+cnt 0 (b.vars 0))*s.size<=4096):yj (AV a b) 0 s=0:=by
 unfold yj;rw[if_neg (by simp[h.err]),if_neg (by omega),if_neg (by simp[hs.err]),if_neg (by simp[h.near hg,hs.near (by omega)]),if_neg];rw[Yph,Kj];have hp:=s.size_pos;have hm:(cnt 0 (a.vars 0)+cnt 0 (b.vars 0))*(s.size-1)<=(cnt 0 (a.vars 0)+cnt 0 (b.vars 0))*s.size:=Nat.mul_le_mul_left _ (by omega);have e:(((cnt 0 (a.vars 0)+cnt 0 (b.vars 0):Nat):Int)*((s.size:Int)-1))=(((cnt 0 (a.vars 0)+cnt 0 (b.vars 0))*(s.size-1):Nat):Int):=by
  rw[Int.natCast_mul];congr 1;omega
 rw[e];omega
def MW(s:Tm)(p:Pf):Pf:=GM (AV (vT 0) (s.re (zo 0 1) 0)) p (xx s)
def Rw(s:Tm)(p q:Pf):Pf:=GM (AV (s.re (zo 0 1) 0) (vT 0)) q p
def I1(g s:Tm)(p:Pf):Pf:=GM (AV (A0 (g.re (zo 0 1) 0) (s.re (zo 0 1) 0)) (A0 (g.re (zo 0 1) 0) (vT 0))) p (xx (A0 g s))
def injP(s:Tm)(p:Pf):Pf:=GM (AV (s.re (zo 0 1) 0) (A0 Cl (vT 0))) p (xx s)
def Zt(s t n:Tm):Tm:= .mk 6 0 Af [s,BV Af (BV Af (t.re (zo 0 2) 0)),n]
def Qb(p:Pf):Pf:=GM (AV zT (Zt zT (sT zT) (vT 0))) p (xx zT)
theorem CD.refl{c:Ck}(hc:c.ok){s:Tm}(h:CD c.tys s):Ci (xx s) c=(AV s s,[],0):=
 Uq (XJ hc h.err h.inf) (Ta h.shape h.shape (by have:=h.size;omega))
structure YR (g:List Ty) (f:Tm):Prop where
 err:f.err=0
 inf:f.inf g=(yt Af Af,0)
 size:f.size<=500
def Dk.Dj:Nat->Dk->List Ty->List Fm×Dk
 |0,d,_=>([],d)
 |n+1,d,g=>((Dk.fm 2 d g).1::(Dk.Dj n (Dk.fm 2 d g).2 g).1,(Dk.Dj n (Dk.fm 2 d g).2 g).2)
def Dk.Lb(d:Dk):Nat:=(d.ctx.2.next 3).1.toNat
def Dk.FE(d:Dk):List Fm:=(Dk.Dj d.Lb (d.ctx.2.next 3).2 d.ctx.1).1
def Dk.IF(d:Dk):Dk:=(Dk.Dj d.Lb (d.ctx.2.next 3).2 d.ctx.1).2
def Dk.Od(d:Dk):Ck:=⟨[],d.ctx.1,d.FE⟩
def Dk.w0(d:Dk):Tm×Dk:=Dk.tm 3 d.IF d.ctx.1 Af
def Dk.w1(d:Dk):Tm×Dk:=Dk.tm 3 d.w0.2 d.ctx.1 Af
def Dk.w2(d:Dk):Tm×Dk:=Dk.tm 3 d.w1.2 d.ctx.1 Af
def Dk.wH(d:Dk):List Fm:=d.FE++[AV d.w0.1 d.w1.1,AV d.w1.1 d.w2.1]
def Dk.wC(d:Dk):Ck:=⟨[],d.ctx.1,d.wH⟩
abbrev w8(i:Int):Pf:= .mk 1 i (.mk 0 []) [] [] []
theorem Zd{s:Tm}(h:s.err=0):(xx s).err=0:=by
 have h1:=(Tm.Ae s).1 h;rw[Pf.Ae];refine⟨?_,?_,?_⟩
 ·rw[Pf.Ai];simp[xx,Pf.head,BX,h1.1,Ty.BJ,Ty.kind,Ty.args]
 ·rw[Pf.B6];simp[xx,h1.2]
 ·rw[Pf.size_eq];simp[xx];omega
theorem Zvb(s:Tm):(xx s).size=1+s.size:=by rw[Pf.size_eq];simp[xx]
def lim(e:Int):Prop:=e=0\/e=4\/e=5\/e=3
def Dk.nH(d:Dk):List Fm:=d.wH++[AV (sT d.w0.1) (sT d.w2.1),AV zT (sT d.w1.1)]
def Dk.nC(d:Dk):Ck:=⟨[],d.ctx.1,d.nH⟩
theorem Jz{g g':Int->Int->Tm}(h:∀i c,g i c=g' i c)(t:Tm)(b:Int):t.re g b=t.re g' b:=by
 have:g=g':=funext fun i=>funext fun c=>h i c;rw[this]
theorem Fm.DQ(G:Int->Tm->Tm)(c:Int)(f:Fm):∀b,f.re G (b+c)=f.re (fun b t=>G (b+c) t) b:=by
 induction f using Fm.ind with
 |h f ih=>
  intro b;have e:AE f.kind (b+c)=AE f.kind b+c:=by simp only[AE];split<;>omega
  rw[Fm.Bz,Fm.Bz,e];congr 1;exact List.map_congr_left fun x hx=>ih x hx _
theorem Fm.Jz{G G':Int->Tm->Tm}(h:∀b t,0<=b->G b t=G' b t)(f:Fm):f.re G 0=f.re G' 0:=by
 refine Fm.A1 f 0 fun p hp=>h _ _ ?_;exact Q0 p hp
theorem Th(f:Fm)(a:Int)(s:Tm):f.put a s=f.re (fun b t=>t.re (xu (a+b) s) 0) 0:=rfl
theorem Ymw{k:Int}(hk:xq k=true)(s:Ty)(f:Fm)(a:Int)(x:Tm):(Bp k s f).put a x=Bp k s (f.put (a+1) x):=by
 rw[Th,Fm.Bz];simp only[Bp,Fm.kind,Fm.ty,Fm.terms,Fm.args,List.map_nil,List.map_cons];congr 2;have e:AE k 0=0+1:=by simp[AE,hk]
 rw[e,Fm.DQ,Th];refine Fm.Jz (fun b t _=> ?_) f;rw[show a+(b+1)=a+1+b by omega]
structure Gf (g:List Ty) (f:Fm) (n:Nat):Prop where
 sh:f.shape=true
 sz:f.size<=n
 ok:f.Bk g
structure Gt (g:List Ty) (s:Tm) (T:Ty) (m:Nat):Prop where
 sh:s.shape=true
 sz:s.size<=m
 inf:s.inf g=(T,0)
theorem Gf.err{g:List Ty}{f:Fm}{n:Nat}(h:Gf g f n)(hn:n<=4096):f.err=0:=(Fm.Ae f).2 ⟨h.sh,Nat.le_trans h.sz hn⟩
theorem Gt.err{g:List Ty}{s:Tm}{T:Ty}{m:Nat}(h:Gt g s T m)(hn:m<=4096):s.err=0:=(Tm.Ae s).2 ⟨h.sh,Nat.le_trans h.sz hn⟩
theorem Rj(f:Fm)(a:Int):w6 a (f.AZ 0)<=f.size:=by
 have h1:=Ky a (f.AZ 0);have h2:=K0 f 0;omega
theorem Gf.put{g:List Ty}{f:Fm}{n m:Nat}{s:Tm}{T:Ty}(hf:Gf (g++[T]) f n)(hs:Gt g s T m)(hm:1<=m)(hz:n*m<=4096)(hg:g.length<=20):
 yj f 0 s=0/\Gf g (f.put 0 s) (n*m):=by
 have hn:n<=n*m:=Nat.le_mul_of_pos_right n hm;have ef:=hf.err (by omega);have hp:=s.size_pos;have p2:=f.size_pos;have hmz:m<=4096:=by
  have:1*m<=n*m:=Nat.mul_le_mul_right m (by have:=hf.sz;omega);omega
 have es:=hs.err hmz;have nf:=(Zyq hf.ok ef (by simp;omega)).1;have ns:=MI (t:=s) (g:=g) (by rw[hs.inf]) hs.sh (by have:=hs.sz;omega);have hc:=Rj f 0;have h1:w6 0 (f.AZ 0)*(s.size-1)<=n*(m-1):=Nat.mul_le_mul (Nat.le_trans hc hf.sz) (by have:=hs.sz;omega);have h2:n*(m-1)+n=n*m:=by rw[<-Nat.mul_succ];congr 1;omega
 have h3:=hf.sz;refine⟨?_,Mw (by omega) hs.sh hf.sh,?_,?_⟩
 ·unfold yj;rw[if_neg (by simp[ef]),if_neg (by omega),if_neg (by simp[es]),if_neg (by simp[nf,ns]),if_neg];have e:((w6 0 (f.AZ 0):Int)*((s.size:Int)-1))=((w6 0 (f.AZ 0)*(s.size-1):Nat):Int):=by
   rw[Int.natCast_mul];congr 1;omega
  rw[e];omega
 ·have h4:=My 0 s hs.sh f hf.sh 0;have h5:(f.put 0 s).size=f.size+w6 0 (f.AZ 0)*(s.size-1):=h4;omega
 ·have h6:=SY 0 s g T hs.sh hs.inf f [] 0 rfl hf.sh (by simpa using hf.ok);have h7:(f.put 0 s).Bk (g++[]):=h6;simpa using h7
theorem Gf.Bd{g h:List Ty}(m:List Ty){f:Fm}{n:Nat}(hf:Gf (g++h) f n):Gf (g++m++h) (f.Bd h.length m.length) n:=
 have hk:=Kt hf.sh (fr:=h.length) (by_:=m.length) (by omega)
 ⟨hk.1,by rw[hk.2.1];exact hf.sz,KG m hf.sh hf.ok⟩
theorem Gt.zero(g:List Ty):Gt g zT Af 1:=⟨by decide,by decide,Ylx g⟩
theorem Gt.nil(g:List Ty):Gt g Ds Al 1:=⟨by decide,by decide,Yg2 g⟩
theorem Gt.v0(g:List Ty)(u:Ty):Gt (g++[u]) (vT 0) u 1:=⟨by decide,by decide,YU g u⟩
theorem Gt.v1(g:List Ty)(u w:Ty):Gt (g++[u,w]) (vT 1) u 1:=by
 refine⟨by decide,by decide,?_⟩;rw[vi _ _ (by omega),if_neg (by simp;omega)];have:ER (g++[u,w]) 1=ER [u,w] 1:=wu (by simp);simp only[show(1:Int).toNat=1 from rfl];rw[this];rfl
theorem Gt.cons(g:List Ty):Gt (g++[Af,Al]) Cf Al 3:=by
 have h1:=(Gt.v1 g Af Al).inf;have h0:(vT 0).inf (g++[Af,Al])=(Al,0):=by
  have:=(Gt.v0 (g++[Af]) Al).inf;simpa using this
 exact⟨by decide,by decide,by
  have e:Cf.inf (g++[Af,Al])=(Al,0):=by simp[Cf,Tm.inf,Tm.AD,yr,h0,h1]
  exact e⟩
def Yod(f:Fm)(p q:Pf):Pf:= .mk 8 0 Af [] [] [.mk 16 0 (.mk 0 []) [vT 0] [f.Bd 1 1] [p,.mk 9 0 (.mk 0 []) [vT 0] [] [q]]]
def RN(f:Fm)(p q:Pf):Pf:= .mk 8 0 Al [] [] [.mk 17 0 (.mk 0 []) [vT 0] [f.Bd 1 1] [p,.mk 9 0 (.mk 0 []) [vT 0] [] [.mk 9 0 (.mk 0 []) [vT 1] [] [q]]]]
end Go.Ab
namespace Go.Ab
open Go
set_option linter.all false
set_option maxHeartbeats 1000000
def Dk.cf(d:Dk):Fm×Dk:=Dk.fm 2 d.IF (d.ctx.1++[Af])
def Dk.cg(d:Dk):Fm×Dk:=Dk.fm 2 d.cf.2 (d.ctx.1++[Al])
def Ypa(f:Fm):Fm:=f.put 0 zT
def Yoy(f:Fm):Fm:=(f.Bd 1 1).put 0 (sT (vT 0))
def Yos(f:Fm):Fm:=f.put 0 Ds
def Yoi(f:Fm):Fm:=(f.Bd 1 2).put 0 Cf
def Dk.cH(d:Dk):List Fm:=d.FE++[Ypa d.cf.1,Bp 4 Af (Yoy d.cf.1),Yos d.cg.1,Bp 4 Af (Bp 4 Al (Yoi d.cg.1))]
def Dk.cC(d:Dk):Ck:=⟨[],d.ctx.1,d.cH⟩
end Go.Ab
namespace Go.Ab
open Go
set_option linter.all false
mutual
def Pf.up(fr b v:Int):Pf->Pf
 | .mk k i s ts fs zs=> .mk k i s (ts.map fun t=>t.re (zo (fr+v) b) 0) (fs.map fun f=>f.Bd (fr+(v+AK k)) b) (Pf.Fo fr b v (Az k) zs)
def Pf.Fo(fr b v w:Int):List Pf->List Pf
 |[]=>[]
 |p::l=>Pf.up fr b (if l.length=0 then v+w else v) p::Pf.Fo fr b v w l
end
mutual
def Pf.lh(fr b y:Int):Pf->Pf
 | .mk k i s ts fs zs=>if k=1 then .mk 1 (if i-y>=fr then i+b else i) (.mk 0 []) [] [] [] else .mk k i s ts fs (Pf.lhs fr b y (Ay k) zs)
def Pf.lhs(fr b y w:Int):List Pf->List Pf
 |[]=>[]
 |p::l=>Pf.lh fr b (if l.length=0 then y+w else y) p::Pf.lhs fr b y w l
end
mutual
def Pf.ix(C:Int):Pf->Prop
 | .mk _ _ _ ts fs zs=>(∀t∈ts,∀p∈t.vars 0,0<=p.1/\p.1<C)/\(∀f∈fs,∀p∈f.AZ 0,∀q∈p.1.vars 0,0<=q.1/\q.1<C)/\Pf.ixs C zs
def Pf.ixs(C:Int):List Pf->Prop
 |[]=>True
 |p::l=>Pf.ix C p/\Pf.ixs C l
end
theorem WR(C:Int):∀l:List Pf,Pf.ixs C l↔∀p∈l,p.ix C
 |[]=>by simp[Pf.ixs]
 |p::l=>by simp[Pf.ixs,WR C l]
theorem Pf.BA(C:Int)(p:Pf):p.ix C↔(∀t∈p.terms,∀q∈t.vars 0,0<=q.1/\q.1<C)/\(∀f∈p.Ad,∀q∈f.AZ 0,∀r∈q.1.vars 0,0<=r.1/\r.1<C)/\∀x∈p.args,x.ix C:=by
 cases p;simp only[Pf.ix,WR];rfl
mutual
def Pf.hx(C:Int):Pf->Prop
 | .mk k i _ _ _ zs=>if k=1 then 0<=i/\i<C else Pf.hxs C zs
def Pf.hxs(C:Int):List Pf->Prop
 |[]=>True
 |p::l=>Pf.hx C p/\Pf.hxs C l
end
theorem Ye(C:Int):∀l:List Pf,Pf.hxs C l↔∀p∈l,p.hx C
 |[]=>by simp[Pf.hxs]
 |p::l=>by simp[Pf.hxs,Ye C l]
theorem Pf.BS(C:Int)(p:Pf):p.hx C↔(p.kind=1->0<=p.index/\p.index<C)/\(p.kind≠1->∀x∈p.args,x.hx C):=by
 cases p with
 |mk k i s ts fs zs=>
  by_cases h:k=1
  ·simp[Pf.hx,h,Pf.kind,Pf.index]
  ·simp[Pf.hx,h,Ye,Pf.kind,Pf.args]
end Go.Ab
namespace Go.Ab
open Go
set_option linter.all false
set_option maxHeartbeats 1000000
inductive FP:Fm->Fm->Prop
 |refl (f):FP f f
 |eq {a b b'} (h:G1 b b'):FP (AV a b) (AV a b')
 |two {k a a' b b'} (ha:FP a a') (hb:FP b b'):FP (uo k a b) (uo k a' b')
 |qu {k s a a'} (ha:FP a a'):FP (Bp k s a) (Bp k s a')
def lim3(e:Int):Prop:=e=0\/e=4\/e=5
mutual
def Fm.dp:Fm->Nat
 | .mk _ _ _ zs=>1+Fm.XQ zs
def Fm.XQ:List Fm->Nat
 |[]=>0
 |f::l=>Fm.dp f+Fm.XQ l
end
def arg(f:Fm)(i:Nat):Fm:=f.args.getD i AG
def Fv(f:Fm)(i:Nat):Tm:=f.terms.getD i AU
def exM(s t:Tm):Fm:=AV (s.re (zo 0 1) 0) (Zt (s.re (zo 0 1) 0) (t.re (zo 0 1) 0) (vT 0))
def FV:Nat->Int->Fm->Int->Pf×Int
 |0,_,_,h=>(w8 h,-1)
 |n+1,r,f,h=>
  if r-f.num<0\/f.err≠0 then(w8 h,-1)
  else if f.kind=2 then(.mk 3 0 (.mk 0 []) [] [] [(FV n (r-f.num) (arg f 0) h).1,(FV n (FV n (r-f.num) (arg f 0) h).2 (arg f 1) h).1],(FV n (FV n (r-f.num) (arg f 0) h).2 (arg f 1) h).2)
  else if f.kind=3 then(.mk 6 0 (.mk 0 []) [] [arg f 0] [(FV n (r-f.num) (arg f 1) (h+1)).1],(FV n (r-f.num) (arg f 1) (h+1)).2)
  else if f.kind=4\/f.kind=6 then(.mk (if f.kind=6 then 12 else 8) 0 f.ty [] [] [(FV n (r-f.num) (arg f 0) h).1],(FV n (r-f.num) (arg f 0) h).2)
  else if f.kind=5\/f.kind=7 then
   if yj (arg f 0) 0 (Dr f.ty)≠0 then(w8 h,-1)
   else(.mk (if f.kind=7 then 14 else 10) 0 (.mk 0 []) [Dr f.ty] [f] [(FV n (r-f.num) ((arg f 0).put 0 (Dr f.ty)) h).1],(FV n (r-f.num) ((arg f 0).put 0 (Dr f.ty)) h).2)
  else(GM (exM (Fv f 0) (Fv f 1)) (w8 h) (xx (Fv f 0)),r-f.num)
def Acc(c:Ck)(p:Pf)(f:Fm):Prop:=(∃x,Ci p c=(x,[],0)/\FP x f/\x.err=0/\x.Bk c.tys)\/∃e,Ci p c=yn e/\(e=3\/e=4\/e=5)
def M6(out p:Pf):Pf:= .mk 7 0 (.mk 0 []) [] [] [.mk 6 0 (.mk 0 []) [] [NU] [out],p]
theorem vg(k i:Int)(s:Ty)(ts:List Tm)(fs:List Fm)(zs:List Pf):(Pf.mk k i s ts fs zs).full=1+s.size+(ts.map Tm.full).sum+(fs.map Fm.full).sum+(zs.map Pf.full).sum:=Pf.Ag _
theorem G0:(Ty.mk 0 []).size=1:=by decide
theorem JJ{s:Ty}(h:s.err=0):s.size<=64:=((Ty.Ae s).1 h).2
def Yop(p:Pf):Pf×Int:=if p.err=0 then(p,0) else(BR,4)
def exfR(n:Nat)(f:Fm)(p:Pf):Pf×Int:=if(FV n 262144 f 0).2<0 then(BR,4) else Yop (M6 (FV n 262144 f 0).1 p)
def Dk.xf(d:Dk):Fm×Dk:=Dk.fm 3 d.IF d.ctx.1
def Dk.xC(d:Dk):Ck:=⟨[],d.ctx.1,d.FE++[NU]⟩
def Tw:Nat->Nat->Fm->Prop
 |0,L,f=>∃s t,f=AV s t/\f.size<=L
 |n+1,L,f=>(∃s t,f=AV s t/\f.size<=L)\/(∃k a b,(k=2\/k=3)/\f=uo k a b/\Tw n L a/\Tw n L b)\/∃k s a,(4<=k/\k<=7)/\s.small/\f=Bp k s a/\Tw n L a
theorem Tw.size:∀{n L:Nat} {f:Fm},Tw n L f->f.size+1<=(L+1)*2^n
 |0,L,f,⟨s,t,e,h⟩=>by simp;omega
 |n+1,L,f,h=>by
  have hp:1<=2^n:=Nat.one_le_two_pow;have h2:(L+1)*2^(n+1)=2*((L+1)*2^n):=by rw[Nat.pow_succ];simp[Nat.mul_comm,Nat.mul_left_comm]
  have h3:(L+1)*1<=(L+1)*2^n:=Nat.mul_le_mul_left _ hp;rcases h with⟨s,t,e,h⟩|⟨k,a,b,hk,e,ha,hb⟩|⟨k,s,a,hk,hs,e,ha⟩
  ·omega
  ·have h4:=ha.size;have h5:=hb.size;rw[e,Oy];omega
  ·have h4:=ha.size;rw[e,Le];omega
theorem Tw.up{n L:Nat}{f:Fm}(h:Tw n L f):Tw (n+1) L f:=by
 induction n generalizing f with
 |zero=>exact .inl h
 |succ n ih=>
  rcases h with h|⟨k,a,b,hk,e,ha,hb⟩|⟨k,s,a,hk,hs,e,ha⟩
  ·exact .inl h
  ·exact .inr (.inl ⟨k,a,b,hk,e,ih ha,ih hb⟩)
  ·exact .inr (.inr ⟨k,s,a,hk,hs,e,ih ha⟩)
theorem Ygw{k:Int}(hk:k=2\/k=3)(a b:Fm)(i:Int)(x:Tm):(uo k a b).put i x=uo k (a.put i x) (b.put i x):=by
 rw[Th,Fm.Bz];have e:AE k 0=0:=by rcases hk with rfl|rfl<;>rfl
 simp only[uo,Fm.kind,Fm.ty,Fm.terms,Fm.args,List.map_nil,List.map_cons];rw[e];rfl
theorem Tw.put:∀{n L:Nat} {f:Fm},Tw n L f->f.shape=true->∀(i:Int) (x:Tm),0<=i->x.shape=true->x.size<=3->Tw n (3*L) (f.put i x)
 |0,L,f,⟨s,t,e,h⟩,hs,i,x,hi,hx,hz=>by
  have h1:=My i x hx f hs 0;have h2:(f.put i x).size=f.size+w6 i (f.AZ 0)*(x.size-1):=h1;have h3:=Rj f i;have h4:w6 i (f.AZ 0)*(x.size-1)<=f.size*2:=Nat.mul_le_mul h3 (by omega);subst e;exact⟨s.re (xu (i+0) x) 0,t.re (xu (i+0) x) 0,rfl,by omega⟩
 |n+1,L,f,h,hs,i,x,hi,hx,hz=>by
  rcases h with⟨s,t,e,h⟩|⟨k,a,b,hk,e,ha,hb⟩|⟨k,s,a,hk,hsm,e,ha⟩
  ·exact Tw.up' (Tw.put (n:=0) ⟨s,t,e,h⟩ hs i x hi hx hz)
  ·subst e;have sa:a.shape=true:=zn hs (x:=a) (by simp[uo]);have sb:b.shape=true:=zn hs (x:=b) (by simp[uo]);rw[Ygw hk];exact .inr (.inl ⟨k,_,_,hk,rfl,Tw.put ha sa i x hi hx hz,Tw.put hb sb i x hi hx hz⟩)
  ·subst e;have sa:a.shape=true:=zn hs (x:=a) (by simp[Bp]);rw[Ymw (Bf.2 hk)];exact .inr (.inr ⟨k,s,_,hk,hsm,rfl,Tw.put ha sa (i+1) x (by omega) hx hz⟩)
where
 Tw.up' {n L:Nat} {f:Fm} (h:Tw 0 L f):Tw (n+1) L f:= .inl h
def cost:Nat->Nat->Nat
 |0,L=>L
 |n+1,L=>(L+1)*2^(n+1)+2*cost n L+cost n (3*L)
def Wp:Nat->Nat->Nat
 |0,L=>3*L+8
 |n+1,L=>10+3*L+(L+1)*2^(n+1)+2*Wp n L+Wp n (3*L)
structure Pg (p:Pf) (n:Nat):Prop where
 sh:p.shape=true
 sm:p.small=true
 sz:p.size<=n
theorem Pg.err{p:Pf}{n:Nat}(h:Pg p n)(hn:n<=16384):p.err=0:=(Pf.Ae p).2 ⟨h.sh,h.sm,Nat.le_trans h.sz hn⟩
theorem Pg.of{p:Pf}(h:p.err=0):Pg p p.size:=have h1:=(Pf.Ae p).1 h;⟨h1.1,h1.2.1,Nat.le_refl _⟩
theorem Pg.mono{p:Pf}{n m:Nat}(h:Pg p n)(hn:n<=m):Pg p m:=⟨h.sh,h.sm,Nat.le_trans h.sz hn⟩
theorem Qp(k i:Int)(s:Ty)(ts:List Tm)(fs:List Fm)(zs:List Pf):(Pf.mk k i s ts fs zs).size=1+(ts.map Tm.size).sum+(fs.map Fm.size).sum+(zs.map Pf.size).sum:=Pf.size_eq _
theorem Pg.imp{p:Pf}{f:Fm}{n m:Nat}(hf:f.shape=true)(hz:f.size<=m)(hm:m<=4096)(hp:Pg p n):Pg (.mk 6 0 (.mk 0 []) [] [f] [p]) (1+m+n):=by
 refine⟨?_,?_,?_⟩
 ·simp[Pf.shape,Pf.Bg,Pf.head,BX,hp.sh,hf,Ty.BJ,Ty.kind,Ty.args]
 ·simp[Pf.small,Pf.Ap,hp.sm];omega
 ·have:=hp.sz;simp only[Qp,List.map_cons,List.map_nil,List.sum_cons,List.sum_nil];omega
theorem Pg.all{k:Int}{p:Pf}{s:Ty}{n:Nat}(hk:k=8\/k=12)(hs:s.err=0)(hp:Pg p n):Pg (.mk k 0 s [] [] [p]) (1+n):=by
 have ho:s.ok=true:=by
  have h1:=(Ty.Ae s).1 hs;simp only[Ty.ok,Bool.and_eq_true,decide_eq_true_eq];exact h1
 refine⟨?_,?_,?_⟩
 ·rcases hk with rfl|rfl<;>simp[Pf.shape,Pf.Bg,Pf.head,BX,hp.sh,ho]
 ·simp[Pf.small,Pf.Ap,hp.sm]
 ·have:=hp.sz;simp only[Qp,List.map_cons,List.map_nil,List.sum_cons,List.sum_nil];omega
theorem Pg.ex{k:Int}{p:Pf}{t:Tm}{f:Fm}{n m z:Nat}(hk:k=10\/k=14)(ht:t.shape=true)(hz:t.size<=z)(hz2:z<=4096)(hf:f.shape=true)(hm:f.size<=m)(hm2:m<=4096)(hp:Pg p n):Pg (.mk k 0 (.mk 0 []) [t] [f] [p]) (1+z+m+n):=by
 refine⟨?_,?_,?_⟩
 ·rcases hk with rfl|rfl<;>simp[Pf.shape,Pf.Bg,Pf.head,BX,hp.sh,ht,hf,Ty.BJ,Ty.kind,Ty.args]
 ·simp[Pf.small,Pf.Ap,hp.sm];omega
 ·have:=hp.sz;simp only[Qp,List.map_cons,List.map_nil,List.sum_cons,List.sum_nil];omega
theorem Pg.refl{t:Tm}{n:Nat}(ht:t.shape=true)(hz:t.size<=n)(hn:n<=4096):Pg (xx t) (1+n):=by
 have h:=Pg.of (Zd (s:=t) ((Tm.Ae t).2 ⟨ht,by omega⟩));rw[Zvb] at h;exact h.mono (by omega)
def orB(a b:Fm):Fm:=uo 2 (uo 3 PE (a.Bd 0 1)) (uo 3 (Gp PE) (b.Bd 0 1))
def Kh(a b:Fm):Fm:=orF (a.Bd 0 1) (b.Bd 0 1)
def GF(p q:Pf):Pf:= .mk 7 0 (.mk 0 []) [] [] [p,q]
def E0(f:Fm)(p:Pf):Pf:= .mk 6 0 (.mk 0 []) [] [f] [p]
def OL(p q:Pf):Pf:= .mk 3 0 (.mk 0 []) [] [] [p,q]
def Ii(f:Fm)(t:Tm)(p:Pf):Pf:= .mk 10 0 (.mk 0 []) [t] [f] [p]
def Yo5(a b:Fm)(i:Int)(x:Pf):Pf:=Ii (Kh a b) zT (OL (E0 (AV zT zT) (w8 (i+1))) (E0 (Gp (AV zT zT)) (M6 x (GF (w8 0) (xx zT)))))
def Yl7(a b:Fm)(i:Int)(x:Pf):Pf:=Ii (Kh a b) (sT zT) (OL (E0 (AV (sT zT) zT) (M6 x (MW (sT zT) (w8 0)))) (E0 (Gp (AV (sT zT) zT)) (w8 (i+1))))
def S8(x:Tm)(a b:Fm)(n:Int):Fm:=uo 2 (uo 3 (AV x zT) (a.Bd 0 n)) (uo 3 (Gp (AV x zT)) (b.Bd 0 n))
def Yps(a b c:Fm):Fm:=uo 3 (S8 (vT 0) a b 2) (c.Bd 0 2)
def K3:Tm:=sT (vT 0)
def Zh(p:Pf):Pf:= .mk 4 0 (.mk 0 []) [] [] [p]
def Vj(p:Pf):Pf:= .mk 5 0 (.mk 0 []) [] [] [p]
def Ypl(a b:Fm)(q:Pf):Pf:=E0 (S8 zT a b 1) (GF q (GF (Zh (w8 0)) (xx zT)))
def Qx:Pf:=E0 (AV K3 zT) (Qb (MW K3 (w8 0)))
def Yoj(a b:Fm)(r:Pf):Pf:=E0 (S8 K3 a b 2) (GF r (GF (Vj (w8 0)) Qx))
def Nw(f:Fm)(t:Tm)(p q:Pf):Pf:= .mk 16 0 (.mk 0 []) [t] [f] [p,q]
def Ynr(a b c:Fm)(p q r:Pf):Pf:= .mk 11 0 (.mk 0 []) [] [] [p,GF (Nw (Yps a b c) (vT 0) (Ypl a b q) (Yoj a b r)) (w8 0)]
theorem Pg.some{p:Pf}{t:Tm}{f:Fm}{n m z:Nat}(ht:t.shape=true)(hz:t.size<=z)(hz2:z<=4096)(hf:f.shape=true)(hm:f.size<=m)(hm2:m<=4096)(hp:Pg p n):Pg (Ii f t p) (1+z+m+n):=Pg.ex (.inl rfl) ht hz hz2 hf hm hm2 hp
def Dk.oA(d:Dk):Fm×Dk:=Dk.fm 2 d.IF d.ctx.1
def Dk.oB(d:Dk):Fm×Dk:=Dk.fm 2 d.oA.2 d.ctx.1
def Dk.oC(d:Dk):Fm×Dk:=Dk.fm 1 d.oB.2 d.ctx.1
def Dk.oH(d:Dk):List Fm:=d.FE++[d.oA.1,d.oB.1,Kh d.oA.1 d.oB.1,uo 3 d.oA.1 d.oC.1,uo 3 d.oB.1 d.oC.1]
def Dk.oK(d:Dk):Ck:=⟨[],d.ctx.1,d.oH⟩
def Dk.oL(d:Dk):Pf:=Yo5 d.oA.1 d.oB.1 4 (FV d.oB.1.dp 262144 d.oB.1 0).1
def Dk.oR(d:Dk):Pf:=Yl7 d.oA.1 d.oB.1 3 (FV d.oA.1.dp 262144 d.oA.1 0).1
def Dk.oX(d:Dk):Pf:=Ynr d.oA.1 d.oB.1 d.oC.1 (w8 2) (w8 3) (w8 3)
theorem OD{α:Type}(f g:α->Nat):∀l:List α,(∀x∈l,f x<=65*g x)->(l.map f).sum<=65*(l.map g).sum
 |[],_=>by simp
 |x::l,h=>by
  have h1:=h x (by simp);have h2:=OD f g l fun y hy=>h y (by simp[hy]);simp only[List.map_cons,List.sum_cons];omega
theorem Qm(p:Pf):p.shape=true->p.full<=65*p.size:=by
 induction p using Pf.ind with
 |h p ih=>
  intro hs;obtain⟨h1,h2,h3,h4⟩:=zl hs;have ht:p.ty.size<=64:=by
   have hh:=h1;unfold Pf.head at hh;split at hh
   ·cases hh
   ·rename_i nd _;simp only[Bool.and_eq_true] at hh;have h5:=hh.2;split at h5
    ·simp only[Ty.ok,Bool.and_eq_true,decide_eq_true_eq] at h5;exact h5.2
    ·rw[Ty.D6 h5];decide
  have a1:=OD Tm.full Tm.size p.terms fun t ht=>KV t (h2 t ht);have a2:=OD Fm.full Fm.size p.Ad fun f hf=>Jv f (h3 f hf);have a3:=OD Pf.full Pf.size p.args fun x hx=>ih x hx (h4 x hx);have e1:=p.Ag;have e2:=p.size_eq;omega
end Go.Ab
namespace Go.Ab
open Go
set_option linter.all false
abbrev Kl(n:Int):Int:=IntKind.i64.wrap n
def HO(fr by_:Int)(i b:Int):Tm:= .mk 1 (if Kl (i-b)>=fr then Kl (i+by_) else i) (.mk 0 []) []
def Tm.lw(t:Tm)(fr by_:Int):Tm:=t.re (HO fr by_) 0
def Fm.lw(f:Fm)(fr by_:Int):Fm:=f.re (fun b t=>t.lw (fr+b) by_) 0
theorem Ty.Hl(t:Ty):1<=t.size:=by cases t;simp only[Ty.size];omega
theorem Tm.G2(t:Tm):2<=t.full:=by rw[Tm.Ag];have:=t.ty.Hl;omega
theorem LI{α:Type}{f g:α->Nat}:∀{l:List α},(∀x∈l,f x<=g x)->(l.map f).sum<=(l.map g).sum
 |[],_=>Nat.le_refl _
 |x::l,h=>by
  simp only[List.map_cons,List.sum_cons];have h1:=h x (by simp);have h2:=LI (l:=l) fun y hy=>h y (by simp[hy]);omega
theorem Tm.Du{G:Int->Int->Tm}(hG:∀i b,(G i b).full<=2)(t:Tm):∀b,(t.re G b).full<=t.full:=by
 induction t using Tm.ind with
 |h t ih=>
  intro b;by_cases h1:t.kind=1
  ·rw[uj h1];have:=hG t.index b;have:=t.G2;omega
  ·rw[x8 h1,t.Ag,Tm.Ag];simp only[Tm.Ac,Tm.AL,List.map_map];have:=LI (f:=Tm.full∘Tm.re G (up t.kind b)) (g:=Tm.full) fun x hx=>ih x hx (up t.kind b);omega
theorem Fm.Du{G:Int->Tm->Tm}(hG:∀b t,(G b t).full<=t.full)(f:Fm):∀b,(f.re G b).full<=f.full:=by
 induction f using Fm.ind with
 |h f ih=>
  intro b;rw[f.Ag,Fm.Ag,Fm.Bz];simp only[Fm.Am,Fm.Ac,Fm.AL,List.map_map];have h1:=LI (l:=f.terms) (f:=Tm.full∘G b) (g:=Tm.full) fun x _=>hG b x;have h2:=LI (f:=Fm.full∘Fm.re G (AE f.kind b)) (g:=Fm.full) fun x hx=>ih x hx (AE f.kind b);omega
mutual
def Pf.uw(fr b v:Int):Pf->Pf
 | .mk k i s ts fs zs=> .mk k i s (ts.map fun t=>t.lw (fr+v) b) (fs.map fun f=>f.lw (fr+(v+AK k)) b) (Pf.DL fr b v (Az k) zs)
def Pf.DL(fr b v w:Int):List Pf->List Pf
 |[]=>[]
 |p::l=>Pf.uw fr b (if l.length=0 then v+w else v) p::Pf.DL fr b v w l
end
mutual
def Pf.hw(fr b y:Int):Pf->Pf
 | .mk k i s ts fs zs=>if k=1 then .mk 1 (if Kl (i-y)>=fr then Kl (i+b) else i) (.mk 0 []) [] [] [] else .mk k i s ts fs (Pf.Ea fr b y (Ay k) zs)
def Pf.Ea(fr b y w:Int):List Pf->List Pf
 |[]=>[]
 |p::l=>Pf.hw fr b (if l.length=0 then y+w else y) p::Pf.Ea fr b y w l
end
mutual
def Pf.nd:Pf->Prop
 | .mk k _ _ _ _ zs=>(∃n,BX k=some n/\zs.length=n.args)/\Pf.Mi zs
def Pf.Mi:List Pf->Prop
 |[]=>True
 |p::l=>Pf.nd p/\Pf.Mi l
end
def Pf.Fw(p:Pf)(v h:Int):Pf:=(p.uw 0 v 0).hw 0 h 0
def R3(s:Tm)(p:Pf):Pf:=GM (AV (vT 0) (s.lw 0 1)) p (xx s)
def S7(s:Tm)(p q:Pf):Pf:=GM (AV (s.lw 0 1) (vT 0)) q p
def Yok(g s:Tm)(p:Pf):Pf:=GM (AV (A0 (g.lw 0 1) (s.lw 0 1)) (A0 (g.lw 0 1) (vT 0))) p (xx (A0 g s))
def QG(s:Tm)(p:Pf):Pf:=GM (AV (s.lw 0 1) (A0 Cl (vT 0))) p (xx s)
def Yhn(s t n:Tm):Tm:= .mk 6 0 Af [s,BV Af (BV Af (t.lw 0 2)),n]
def exW(s t:Tm):Fm:=AV (s.lw 0 1) (Yhn (s.lw 0 1) (t.lw 0 1) (vT 0))
def EY:Nat->Int->Fm->Int->Pf×Int
 |0,_,_,h=>(w8 h,-1)
 |n+1,r,f,h=>
  if r-f.num<0\/f.err≠0 then(w8 h,-1)
  else if f.kind=2 then(.mk 3 0 (.mk 0 []) [] [] [(EY n (r-f.num) (arg f 0) h).1,(EY n (EY n (r-f.num) (arg f 0) h).2 (arg f 1) h).1],(EY n (EY n (r-f.num) (arg f 0) h).2 (arg f 1) h).2)
  else if f.kind=3 then(.mk 6 0 (.mk 0 []) [] [arg f 0] [(EY n (r-f.num) (arg f 1) (h+1)).1],(EY n (r-f.num) (arg f 1) (h+1)).2)
  else if f.kind=4\/f.kind=6 then(.mk (if f.kind=6 then 12 else 8) 0 f.ty [] [] [(EY n (r-f.num) (arg f 0) h).1],(EY n (r-f.num) (arg f 0) h).2)
  else if f.kind=5\/f.kind=7 then
   if yj (arg f 0) 0 (Dr f.ty)≠0 then(w8 h,-1)
   else(.mk (if f.kind=7 then 14 else 10) 0 (.mk 0 []) [Dr f.ty] [f] [(EY n (r-f.num) ((arg f 0).put 0 (Dr f.ty)) h).1],(EY n (r-f.num) ((arg f 0).put 0 (Dr f.ty)) h).2)
  else(GM (exW (Fv f 0) (Fv f 1)) (w8 h) (xx (Fv f 0)),r-f.num)
def M4(a b:Fm)(p x:Pf):Pf:=Ii (Kh a b) zT (OL (E0 (AV zT zT) (p.Fw 0 1)) (E0 (Gp (AV zT zT)) (M6 x (GF (w8 0) (xx zT)))))
def NQ(a b:Fm)(p x:Pf):Pf:=Ii (Kh a b) (sT zT) (OL (E0 (AV (sT zT) zT) (M6 x (R3 (sT zT) (w8 0)))) (E0 (Gp (AV (sT zT) zT)) (p.Fw 0 1)))
def Qw(x:Tm)(a b:Fm)(n:Int):Fm:=uo 2 (uo 3 (AV x zT) (a.lw 0 n)) (uo 3 (Gp (AV x zT)) (b.lw 0 n))
def Ym1(a b c:Fm):Fm:=uo 3 (Qw (vT 0) a b 2) (c.lw 0 2)
def Ymi(a b:Fm)(q:Pf):Pf:=E0 (Qw zT a b 1) (GF q (GF (Zh (w8 0)) (xx zT)))
def Q8:Pf:=E0 (AV K3 zT) (Qb (R3 K3 (w8 0)))
def Ynp(a b:Fm)(r:Pf):Pf:=E0 (Qw K3 a b 2) (GF r (GF (Vj (w8 0)) Q8))
def WU(a b c:Fm)(p q r:Pf):Pf:= .mk 11 0 (.mk 0 []) [] [] [p,GF (Nw (Ym1 a b c) (vT 0) (Ymi a b (q.Fw 1 2)) (Ynp a b (r.Fw 2 3))) (w8 0)]
def QM(f:Fm)(p q:Pf):Pf:= .mk 8 0 Af [] [] [.mk 16 0 (.mk 0 []) [vT 0] [f.lw 1 1] [p.Fw 1 0,.mk 9 0 (.mk 0 []) [vT 0] [] [q.Fw 2 1]]]
def Yld(f:Fm)(p q:Pf):Pf:= .mk 8 0 Al [] [] [.mk 17 0 (.mk 0 []) [vT 0] [f.lw 1 1] [p.Fw 1 0,.mk 9 0 (.mk 0 []) [vT 0] [] [.mk 9 0 (.mk 0 []) [vT 1] [] [q.Fw 3 1]]]]
def FA(s t:Tm):Fm:=AV s t
def LW(s t:Tm):Fm:=Kh (FA s t) (Gp (FA s t))
def Vv(s t:Tm)(p:Pf):Pf:=M4 (FA s t) (Gp (FA s t)) p (EY (Gp (FA s t)).dp 262144 (Gp (FA s t)) 0).1
def S5(s t:Tm)(p:Pf):Pf:=NQ (FA s t) (Gp (FA s t)) (E0 (FA s t) p) (EY (FA s t).dp 262144 (FA s t) 0).1
def Sf(s:Ty)(p:Pf):Pf:= .mk 8 0 s [] [] [p]
def RM(t:Tm)(p:Pf):Pf:= .mk 9 0 (.mk 0 []) [t] [] [p]
def QL:Pf:=QM (LW zT (vT 0)) (Vv zT zT (xx zT)) (Sf Af (S5 zT (sT (vT 0)) (Qb (w8 0))))
def E9:Tm:=BV Af (sT (vT 0))
def Rz:Pf:=E0 (FA (vT 1) (vT 0)) (Vv (sT (vT 1)) (sT (vT 0)) (Yok E9 (vT 1) (w8 0)))
def Qr:Pf:=E0 (Gp (FA (vT 1) (vT 0))) (S5 (sT (vT 1)) (sT (vT 0)) (GF (w8 1) (QG (vT 1) (w8 0))))
def Sw:Pf:=WU (FA (vT 1) (vT 0)) (Gp (FA (vT 1) (vT 0))) (LW (sT (vT 1)) (sT (vT 0))) (RM (vT 0) (w8 0)) Rz Qr
def TV:Pf:=QM (LW (sT (vT 1)) (vT 0)) (S5 (sT (vT 0)) zT (Qb (R3 (sT (vT 0)) (w8 0)))) (Sf Af Sw)
def eqP:Pf:=Sf Af (.mk 16 0 (.mk 0 []) [vT 0] [Bp 4 Af (LW (vT 1) (vT 0))] [QL,TV])
def ZM:Fm:=Bp 4 Af (Bp 4 Af (LW (vT 1) (vT 0)))
def Fm.MQ(f:Fm)(b:Int):List Int:=(f.AZ b).flatMap fun p=>Dg (p.1.vars p.2)
mutual
def Pf.MQ(b:Int):Pf->List Int
 | .mk k _ _ ts fs zs=>ts.flatMap (fun t=>Dg (t.vars b))++fs.flatMap (fun f=>f.MQ (b+AK k))++(Pf.ML b (Az k) zs).flatten
def Pf.ML(b w:Int):List Pf->List (List Int)
 |[]=>[]
 |p::l=>Pf.MQ (if l.length=0 then b+w else b) p::Pf.ML b w l
end
mutual
def Pf.GP(y:Int):Pf->List Int
 | .mk k i _ _ _ zs=>(if k=1/\i>=y then [i-y] else [])++(Pf.GC y (Ay k) zs).flatten
def Pf.GC(y w:Int):List Pf->List (List Int)
 |[]=>[]
 |p::l=>Pf.GP (if l.length=0 then y+w else y) p::Pf.GC y w l
end
mutual
def Pf.Iv:Pf->List Int
 | .mk k i _ _ _ zs=>(if k=2 then [i] else [])++(Pf.Io zs).flatten
def Pf.Io:List Pf->List (List Int)
 |[]=>[]
 |p::l=>Pf.Iv p::Pf.Io l
end
theorem Pf.Kw(y:Int)(p:Pf):p.GP y=(if p.kind=1/\p.index>=y then [p.index-y] else [])++(Pf.GC y (Ay p.kind) p.args).flatten:=by cases p;simp only[Pf.GP];rfl
theorem Vh:∀l:List Pf,Pf.Io l=l.map Pf.Iv
 |[]=>rfl
 |p::l=>by rw[Pf.Io,Vh l];rfl
theorem Pf.J0(p:Pf):p.Iv=(if p.kind=2 then [p.index] else [])++(p.args.map Pf.Iv).flatten:=by cases p;simp only[Pf.Iv,Vh];rfl
def Tm.DI(t:Tm):Prop:=∀b,∀p∈t.vars b,0<=p.1/\p.1<9223372036854775808
def Fm.DI(f:Fm):Prop:=∀b,∀p∈f.AZ b,p.1.DI
mutual
def Pf.DI:Pf->Prop
 | .mk _ i _ ts fs zs=>(0<=i/\i<9223372036854775808)/\(∀t∈ts,t.DI)/\(∀f∈fs,f.DI)/\Pf.MH zs
def Pf.MH:List Pf->Prop
 |[]=>True
 |p::l=>Pf.DI p/\Pf.MH l
end
def QS(p:Pf):List Int:=y8 (Cd [] (p.GP 0))
def Tq(p:Pf):List Int:=y8 (Cd [] p.Iv)
def WK(p:Pf):List Int:=y8 (Cd [] (p.MQ 0))
def Y9(f:Fm):List Int:=y8 (Cd [] (f.MQ 0))
mutual
def Pf.cn(most:Int):Pf->Int
 | .mk _ _ h ts fs zs=>Pf.Gg most (Fm.Gg most (Tm.Gg most (1+h.cn (most-1)) ts) fs) zs
def Pf.Gg(most n:Int):List Pf->Int
 |[]=>n
 |x::l=>if n<=most then Pf.Gg most (n+x.cn (most-n)) l else n
end
def Tm.EX(t:Tm):Prop:=∀q∈t.vars 0,0<=q.1/\q.1<10000
def Fm.EX(f:Fm):Prop:=∀q∈f.AZ 0,∀r∈q.1.vars 0,0<=r.1/\r.1<10000
theorem RF(f:Fm):∀(g:List Ty) (b:Int),f.shape=true->f.Bk g->∀q∈f.AZ b,∀r∈q.1.vars 0,0<=r.1/\r.1<g.length+f.size:=by
 induction f using Fm.ind with
 |h f ih=>
  intro g b hs h q hq r hr;rw[f.A6 b,List.mem_append] at hq;rw[Fm.Bu] at h;have hsz:=f.size_eq;rcases hq with hq|hq
  ·obtain ⟨t,ht,rfl⟩:=List.mem_map.1 hq;have hst:=zy hs ht;have h1:=ze Tm.size ht;exact⟨t.AB hst 0 r hr,Mz t g 0 (g.length+f.size) (by rw[h.1 t ht]) hst (by omega) r hr⟩
  ·obtain ⟨x,hx,hq⟩:=List.mem_flatMap.1 hq;have h1:=ze Fm.size hx;have hl:(Dd g f).length<=g.length+1:=by unfold Dd;split<;>simp
   have:=ih x hx _ _ (zn hs hx) (h.2 x hx) q hq r hr;omega
def Dx(t:Tm):Prop:=t.shape=true/\t.EX/\t.full<=300000
def Ek(f:Fm):Prop:=f.shape=true/\f.EX/\f.full<=300000
mutual
def Pf.lx(C:Int):Pf->Prop
 | .mk k i _ _ _ zs=>(k=2->0<=i/\i<C)/\Pf.Lu C zs
def Pf.Lu(C:Int):List Pf->Prop
 |[]=>True
 |p::l=>Pf.lx C p/\Pf.Lu C l
end
theorem WY(C:Int):∀l:List Pf,Pf.Lu C l↔∀p∈l,p.lx C
 |[]=>by simp[Pf.Lu]
 |p::l=>by simp[Pf.Lu,WY C l]
theorem Pf.CL(C:Int)(p:Pf):p.lx C↔(p.kind=2->0<=p.index/\p.index<C)/\∀x∈p.args,x.lx C:=by cases p;simp only[Pf.lx,WY];rfl
structure Made (n:Nat) (p:Pf):Prop where
 shape:p.shape=true
 full:p.full<=n
 ix:p.ix 10000
 hx:p.hx 10000
 lx:p.lx 10000
theorem Made.up{n m:Nat}{p:Pf}(h:Made n p)(hm:n<=m):Made m p:=⟨h.shape,Nat.le_trans h.full hm,h.ix,h.hx,h.lx⟩
theorem Made.mk'{k i:Int}{s:Ty}{ts:List Tm}{fs:List Fm}{zs:List Pf}{nd:Nd}{n:Nat}(hn:BX k=some nd)(h1:ts.length=nd.terms)(h2:fs.length=nd.Ad)(h3:zs.length=nd.args)
 (hi:0<=i/\i<10000) (hi2:nd.index=true\/i=0) (hs:if nd.typ=true then s.ok=true else s.BJ=true) (hk:k=1->zs=[])
 (ht:∀t∈ts,Dx t) (hf:∀f∈fs,Ek f) (hz:∀x∈zs,∃m,Made m x) (hfull:(Pf.mk k i s ts fs zs).full<=n):Made n (Pf.mk k i s ts fs zs):=by
 refine⟨?_,hfull,(Pf.BA _ _).2 ⟨fun t h=>(ht t h).2.1,fun f h=>(hf f h).2.1,fun x h=> ?_⟩,(Pf.BS _ _).2 ⟨fun _=>hi,fun _ x h=> ?_⟩,(Pf.CL _ _).2 ⟨fun _=>hi,fun x h=> ?_⟩⟩
 ·rw[Pf.Ai];simp only[Bool.and_eq_true,List.all_eq_true];refine⟨⟨⟨?_,fun t h=>(ht t h).1⟩,fun f h=>(hf f h).1⟩,fun x h=> ?_⟩
  ·unfold Pf.head;simp only[Pf.Ah,Pf.Am,Pf.Au,Pf.Ac,Pf.A4,Pf.AL,hn,h1,h2,h3,beq_self_eq_true,Bool.true_and,hi.1,decide_true];rw[Bool.and_eq_true];constructor
   ·rcases hi2 with h|h
    ·rw[h];rfl
    ·rw[h];simp
   ·by_cases hty:nd.typ=true
    ·rw[if_pos hty] at hs ⊢;exact hs
    ·rw[if_neg hty] at hs ⊢;exact hs
  ·obtain ⟨m,hm⟩:=hz x h;exact hm.shape
 ·obtain ⟨m,hm⟩:=hz x h;exact hm.ix
 ·obtain ⟨m,hm⟩:=hz x h;exact hm.hx
 ·obtain ⟨m,hm⟩:=hz x h;exact hm.lx
theorem Zzw{s:Ty}(h:s.err=0):s.ok=true:=Li ((Ty.Ae s).1 h).1 ((Ty.Ae s).1 h).2
theorem vo{α:Type}{P:α->Prop}{a:α}(h:P a):∀x∈[a],P x:=fun x hx=>by simp only[List.mem_singleton] at hx;subst hx;exact h
theorem Ia{α:Type}{P:α->Prop}{a b:α}(h:P a)(h':P b):∀x∈[a,b],P x:=fun x hx=>by
 simp only[List.mem_cons,List.not_mem_nil,or_false] at hx;rcases hx with rfl|rfl
 ·exact h
 ·exact h'
theorem Fi{α:Type}{P:α->Prop}:∀x∈([]:List α),P x:=fun x hx=>by cases hx
theorem Made.one{k:Int}(hk:k=4\/k=5\/k=20){n:Nat}{p:Pf}(hp:Made n p):Made (n+2) (.mk k 0 (.mk 0 []) [] [] [p]):=by
 have h:=hp.full;refine .mk' (nd:=⟨0,0,1,false,false⟩) ?_ rfl rfl rfl (by omega) (.inr rfl) rfl (fun h=>by omega) Fi Fi (vo ⟨_,hp⟩) (by rw[vg,G0];simp;omega);rcases hk with rfl|rfl|rfl<;>rfl
theorem Made.imp{f:Fm}(hf:Ek f){n:Nat}{p:Pf}(hp:Made n p):Made (n+300002) (.mk 6 0 (.mk 0 []) [] [f] [p]):=by
 have h:=hp.full;have h':=hf.2.2;exact .mk' (nd:=⟨0,1,1,false,false⟩) rfl rfl rfl rfl (by omega) (.inr rfl) rfl (fun h=>by omega) Fi (vo hf) (vo ⟨_,hp⟩) (by rw[vg,G0];simp;omega)
theorem Made.all{k:Int}(hk:k=8\/k=12){s:Ty}(hs:s.err=0){n:Nat}{p:Pf}(hp:Made n p):Made (n+65) (.mk k 0 s [] [] [p]):=by
 have h:=hp.full;have h':=JJ hs;refine .mk' (nd:=⟨0,0,1,false,true⟩) ?_ rfl rfl rfl (by omega) (.inr rfl) (Zzw hs) (fun h=>by omega) Fi Fi (vo ⟨_,hp⟩) (by rw[vg];simp;omega);rcases hk with rfl|rfl<;>rfl
theorem Made.at_{k:Int}(hk:k=9\/k=13){t:Tm}(ht:Dx t){n:Nat}{p:Pf}(hp:Made n p):Made (n+300002) (.mk k 0 (.mk 0 []) [t] [] [p]):=by
 have h:=hp.full;have h':=ht.2.2;refine .mk' (nd:=⟨1,0,1,false,false⟩) ?_ rfl rfl rfl (by omega) (.inr rfl) rfl (fun h=>by omega) (vo ht) Fi (vo ⟨_,hp⟩) (by rw[vg,G0];simp;omega);rcases hk with rfl|rfl<;>rfl
theorem Made.sub{f:Fm}(hf:Ek f){n m:Nat}{p q:Pf}(hp:Made n p)(hq:Made m q):Made (n+m+300002) (.mk 19 0 (.mk 0 []) [] [f] [p,q]):=by
 have h:=hp.full;have h1:=hq.full;have h2:=hf.2.2;exact .mk' (nd:=⟨0,1,2,false,false⟩) rfl rfl rfl rfl (by omega) (.inr rfl) rfl (fun h=>by omega) Fi (vo hf) (Ia ⟨_,hp⟩ ⟨_,hq⟩) (by rw[vg,G0];simp;omega)
mutual
def Pf.pt(a:Int)(s:Tm)(v:Int):Pf->Pf
 | .mk k i h ts fs zs=> .mk k i h (ts.map fun t=>t.re (xu (a+v) s) 0) (fs.map fun f=>f.put (a+(v+AK k)) s) (Pf.pts a s v (Az k) zs)
def Pf.pts(a:Int)(s:Tm)(v w:Int):List Pf->List Pf
 |[]=>[]
 |p::l=>Pf.pt a s (if l.length=0 then v+w else v) p::Pf.pts a s v w l
end
mutual
def Pf.ph(a:Int)(q:Pf)(v y:Int):Pf->Pf
 | .mk k i h ts fs zs=>if k=1 then(if i-y=a then q.Fw v (a+y) else if i-y>a then w8 (i-1) else w8 i) else .mk k i h ts fs (Pf.EJ a q v y (Az k) (Ay k) zs)
def Pf.EJ(a:Int)(q:Pf)(v y w z:Int):List Pf->List Pf
 |[]=>[]
 |p::l=>Pf.ph a q (if l.length=0 then v+w else v) (if l.length=0 then y+z else y) p::Pf.EJ a q v y w z l
end
theorem Pf.Ev(a:Int)(s:Tm)(v:Int)(p:Pf):p.pt a s v= .mk p.kind p.index p.ty (p.terms.map fun t=>t.re (xu (a+v) s) 0) (p.Ad.map fun f=>f.put (a+(v+AK p.kind)) s) (Pf.pts a s v (Az p.kind) p.args):=by cases p;simp only[Pf.pt];rfl
theorem Jg(a:Int)(s:Tm)(v w:Int):∀l:List Pf,(Pf.pts a s v w l).length=l.length
 |[]=>by simp only[Pf.pts]
 |p::l=>by simp only[Pf.pts,List.length_cons,Jg a s v w l]
theorem Ny(a:Int)(s:Tm)(v w:Int):∀(l:List Pf) (m:Nat) (h:m<l.length) (h':m<(Pf.pts a s v w l).length),(Pf.pts a s v w l)[m]=l[m].pt a s (if m+1=l.length then v+w else v)
 |p::l,0,h,h'=>by
  simp only[Pf.pts,List.getElem_cons_zero,List.length_cons];by_cases e:l.length=0
  ·rw[if_pos e,if_pos (by omega)]
  ·rw[if_neg e,if_neg (by omega)]
 |p::l,m+1,h,h'=>by
  simp only[Pf.pts,List.getElem_cons_succ,List.length_cons,Nat.add_right_cancel_iff];exact Ny a s v w l m (by simpa using h) _
section
variable {α:Type}
mutual
def Pf.DB(g:Int->Tm->α)(h:Int->Fm->α)(v:Int):Pf->List α
 | .mk k _ _ ts fs zs=>ts.map (g v)++fs.map (h (v+AK k))++(Pf.Bo g h v (Az k) zs).flatten
def Pf.Bo(g:Int->Tm->α)(h:Int->Fm->α)(v w:Int):List Pf->List (List α)
 |[]=>[]
 |p::l=>Pf.DB g h (if l.length=0 then v+w else v) p::Pf.Bo g h v w l
end
mutual
def Pf.Cw(f:Int->Int->Int->List α)(y:Int):Pf->List α
 | .mk k i _ _ _ zs=>f k i y++(Pf.AY f y (Ay k) zs).flatten
def Pf.AY(f:Int->Int->Int->List α)(y w:Int):List Pf->List (List α)
 |[]=>[]
 |p::l=>Pf.Cw f (if l.length=0 then y+w else y) p::Pf.AY f y w l
end
variable (g:Int->Tm->α) (h:Int->Fm->α) (f:Int->Int->Int->List α)
theorem Pf.Co(v:Int)(p:Pf):p.DB g h v=p.terms.map (g v)++p.Ad.map (h (v+AK p.kind))++(Pf.Bo g h v (Az p.kind) p.args).flatten:=by cases p;simp only[Pf.DB];rfl
theorem Pf.BC(y:Int)(p:Pf):p.Cw f y=f p.kind p.index y++(Pf.AY f y (Ay p.kind) p.args).flatten:=by cases p;simp only[Pf.Cw];rfl
theorem HX(v w:Int):∀l:List Pf,(Pf.Bo g h v w l).length=l.length
 |[]=>by simp only[Pf.Bo];rfl
 |p::l=>by simp only[Pf.Bo,List.length_cons,HX v w l]
theorem IY(v w:Int):∀(l:List Pf) (m:Nat) (hm:m<l.length) (h':m<(Pf.Bo g h v w l).length),(Pf.Bo g h v w l)[m]=l[m].DB g h (if m+1=l.length then v+w else v)
 |p::l,0,hm,h'=>by
  simp only[Pf.Bo,List.getElem_cons_zero,List.length_cons];by_cases e:l.length=0
  ·rw[if_pos e,if_pos (by omega)]
  ·rw[if_neg e,if_neg (by omega)]
 |p::l,m+1,hm,h'=>by
  simp only[Pf.Bo,List.getElem_cons_succ,List.length_cons,Nat.add_right_cancel_iff];exact IY v w l m (by simpa using hm) _
end
def CY(l:List (Int×Int)):Prop:=(∀q∈l,(0<=q.1/\q.1<=4096)/\0<=q.2/\q.2<=4096)/\l.length<=1000000000
theorem CY.pre{l l':List (Int×Int)}(h:l<+:l')(ho:CY l'):CY l:=⟨fun q hq=>ho.1 q (h.subset hq),Nat.le_trans h.length_le ho.2⟩
def CM(n k:Int)(l:List (Int×Int)):Int:=n+(l.map fun q=>q.2*(k-1)).sum
def C1(k:Int)(l:List (Int×Int)):Bool:=l.any fun q=>decide (q.1+q.2*(k-1)>4096)
def BI(a:Int)(v:Int)(t:Tm):Int×Int:=((t.size:Int),(cnt (a+v) (t.vars 0):Int))
def BM(a:Int)(v:Int)(f:Fm):Int×Int:=((f.size:Int),(w6 (a+v) (f.AZ 0):Int))
def Dl(k i _y:Int):List Bool:=if k=1 then [decide (i<=536870912)] else []
def Cy(a k i y:Int):List Int:=if k=1/\i-y=a then [i] else []
def N3(k i y:Int):List Int:=if k=1/\i>=y then [i-y] else []
def Pf.Bh(p:Pf):Bool:=(p.DB (fun(_:Int) (t:Tm)=>t.near) (fun(_:Int) (f:Fm)=>f.near) 0).all id
def Pf.Bj(p:Pf):Bool:=(p.Cw Dl 0).all id
theorem Uo(p:Pf):p.ix 10000->∀v,(p.DB (fun(_:Int) (t:Tm)=>t.near) (fun(_:Int) (f:Fm)=>f.near) v).all id=true:=by
 induction p using Pf.ind with
 |h p ih=>
  intro hix v;obtain⟨i1,i2,i3⟩:=(Pf.BA _ p).1 hix;rw[Pf.Co,List.all_append,List.all_append,Bool.and_eq_true,Bool.and_eq_true];refine⟨⟨List.all_eq_true.2 fun b hb=> ?_,List.all_eq_true.2 fun b hb=> ?_⟩,List.all_eq_true.2 fun b hb=> ?_⟩
  ·obtain ⟨t,ht,rfl⟩:=List.mem_map.1 hb;exact List.all_eq_true.2 fun q hq=>by have:=i1 t ht q hq;simp;omega
  ·obtain ⟨f,hf,rfl⟩:=List.mem_map.1 hb;exact Yp (C:=10000) (by omega) fun q hq r hr=>by have:=i2 f hf q hq r hr;omega
  ·obtain ⟨l,hl,hb⟩:=List.mem_flatten.1 hb;obtain⟨m,hm,rfl⟩:=List.getElem_of_mem hl;rw[HX] at hm;rw[IY _ _ _ _ _ _ hm] at hb;exact List.all_eq_true.1 (ih _ (List.getElem_mem hm) (i3 _ (List.getElem_mem hm)) _) b hb
def Yny(p:Pf)(fr by_:Int):Int:=if p.err≠0 then p.err else if ¬(0<=fr/\fr<=4096)\/¬(0<=by_/\by_<=4096)\/p.Bh=false then 1 else 0
def Tj(p:Pf)(fr by_:Int):Int:=if p.err≠0 then p.err else if ¬(0<=fr/\fr<=16384)\/¬(0<=by_/\by_<=16384)\/p.Bj=false then 1 else 0
def E8(p:Pf)(a:Int)(s:Tm):List (Int×Int):=p.DB (BI a) (BM a) 0
def vn(p:Pf)(a:Int)(s:Tm):Int:=
 if p.err≠0 then p.err else if ¬(0<=a/\a<=4096) then 1 else if s.err≠0 then s.err else if p.Bh=false\/s.near=false then 1
 else if C1 s.size (E8 p a s)=true\/CM p.size s.size (E8 p a s)>16384 then 4 else 0
def FD(p:Pf)(a:Int):Int:=(p.Cw (Cy a) 0).length
def Eb(p:Pf)(a:Int)(q:Pf):Int:=
 if p.err≠0 then p.err else if ¬(0<=a/\a<=16384) then 1 else if q.err≠0 then q.err else if p.Bj=false\/q.Bj=false\/q.Bh=false then 1
 else if(p.size:Int)+FD p a*(q.size-1)>16384 then 4 else 0
section
variable {p q:Pf} {fr by_ a:Int} {s:Tm}
theorem SD(h:p.err≠0):vn p a s=p.err:=by unfold vn;rw[if_pos h]
theorem T0(h:p.err=0)(ha:0<=a/\a<=4096)(hs:s.err=0)(hn:¬(p.Bh=false\/s.near=false)):vn p a s=if C1 s.size (E8 p a s)=true\/CM p.size s.size (E8 p a s)>16384 then 4 else 0:=by
 unfold vn;rw[if_neg (by simp[h]),if_neg (fun g=>g ha),if_neg (by simp[hs]),if_neg hn]
end
def QY(k i _y:Int):List Int:=if k=2 then [i] else []
theorem U7(y w:Int):∀l:List Pf,(∀p∈l,∀y,p.GP y=p.Cw N3 y)->Pf.GC y w l=Pf.AY N3 y w l
 |[],_=>by simp only[Pf.GC,Pf.AY]
 |p::l,h=>by
  simp only[Pf.GC,Pf.AY];rw[h p (by simp),U7 y w l fun q hq=>h q (by simp[hq])]
theorem ZI(p:Pf):∀y,p.GP y=p.Cw N3 y:=by
 induction p using Pf.ind with
 |h p ih=>
  intro y;rw[Pf.Kw,Pf.BC,U7 _ _ _ ih]
  rfl
theorem Zi(y w:Int):∀l:List Pf,(∀p∈l,∀y,p.Iv=p.Cw QY y)->l.map Pf.Iv=Pf.AY QY y w l
 |[],_=>by simp only[Pf.AY];rfl
 |p::l,h=>by
  simp only[List.map_cons,Pf.AY];rw[h p (by simp) (if l.length=0 then y+w else y),Zi y w l fun q hq=>h q (by simp[hq])]
theorem Ur(p:Pf):∀y,p.Iv=p.Cw QY y:=by
 induction p using Pf.ind with
 |h p ih=>
  intro y;rw[Pf.J0,Pf.BC,Zi y (Ay p.kind) p.args ih]
  rfl
theorem ZL{p:Pf}{ts:List Tm}{fs:List Fm}{zs:List Pf}(hs:p.shape=true)(h1:ts.length=p.terms.length)(h2:fs.length=p.Ad.length)(h3:zs.length=p.args.length)
 (a1:∀t∈ts,t.shape=true) (a2:∀f∈fs,f.shape=true) (a3:∀x∈zs,x.shape=true):(Pf.mk p.kind p.index p.ty ts fs zs).shape=true:=by
 obtain⟨h,_⟩:=zl hs;rw[Pf.Ai];simp only[Bool.and_eq_true,List.all_eq_true];refine⟨⟨⟨?_,a1⟩,a2⟩,a3⟩;obtain⟨k,i,y,t0,f0,z0⟩:=p;simp only[Pf.Ah,Pf.A4,Pf.AL,Pf.Am,Pf.Au,Pf.Ac] at h1 h2 h3 ⊢;unfold Pf.head at h ⊢;simp only[Pf.Ah,Pf.A4,Pf.AL,Pf.Am,Pf.Au,Pf.Ac] at h ⊢;cases hn:BX k with
 |none=>rw[hn] at h;cases h
 |some n=>
  rw[hn] at h;simp only[h1,h2,h3];exact h
def Pz(C:Int)(n:Nat)(p:Pf):Prop:=p.shape=true/\p.small=true/\p.size=n/\p.ix C
theorem Pz.err{C:Int}{n:Nat}{p:Pf}(h:Pz C n p)(hn:n<=16384):p.err=0:=(Pf.Ae p).2 ⟨h.1,h.2.1,by rw[h.2.2.1];exact hn⟩
theorem Pz.near{C:Int}{n:Nat}{p:Pf}(h:Pz C n p)(hC:C<=1000000):p.Bh=true:=by
 have key:∀(p:Pf),p.ix C->∀v,(p.DB (fun(_:Int) (t:Tm)=>t.near) (fun(_:Int) (f:Fm)=>f.near) v).all id=true:=by
  intro p;induction p using Pf.ind with
  |h p ih=>
   intro hix v;obtain⟨i1,i2,i3⟩:=(Pf.BA _ p).1 hix;rw[Pf.Co,List.all_append,List.all_append,Bool.and_eq_true,Bool.and_eq_true];refine⟨⟨List.all_eq_true.2 fun b hb=> ?_,List.all_eq_true.2 fun b hb=> ?_⟩,List.all_eq_true.2 fun b hb=> ?_⟩
   ·obtain ⟨t,ht,rfl⟩:=List.mem_map.1 hb;exact List.all_eq_true.2 fun q hq=>by have:=i1 t ht q hq;simp;omega
   ·obtain ⟨f,hf,rfl⟩:=List.mem_map.1 hb;exact Yp hC fun q hq r hr=>by have:=i2 f hf q hq r hr;omega
   ·obtain ⟨l,hl,hb⟩:=List.mem_flatten.1 hb;obtain⟨m,hm,rfl⟩:=List.getElem_of_mem hl;rw[HX] at hm;rw[IY _ _ _ _ _ _ hm] at hb;exact List.all_eq_true.1 (ih _ (List.getElem_mem hm) (i3 _ (List.getElem_mem hm)) _) b hb
 exact key p h.2.2.2 0
section
variable {α:Type} (F:Int->Int->Int->List α)
theorem VS(a:Int)(s:Tm)(p:Pf):∀v y,(p.pt a s v).Cw F y=p.Cw F y:=by
 induction p using Pf.ind with
 |h p ih=>
  intro v y;rw[Pf.Ev,Pf.BC,p.BC];simp only[Pf.Ah,Pf.A4,Pf.Ac];congr 2;have key:∀(l:List Pf),(∀x∈l,x∈p.args)->Pf.AY F y (Ay p.kind) (Pf.pts a s v (Az p.kind) l)=Pf.AY F y (Ay p.kind) l:=by
   intro l;induction l with
   |nil=>intro _;simp only[Pf.pts]
   |cons x l ihl=>
    intro hx;simp only[Pf.pts,Pf.AY,Jg];rw[ihl fun z hz=>hx z (by simp[hz]),ih x (hx x (by simp))]
  exact key p.args fun _ h=>h
end
theorem Made.err{n:Nat}{p:Pf}(h:Made n p):p.err=0\/p.err=4:=by
 unfold Pf.err;rw[h.shape];simp only[Bool.true_eq_false,if_false];split
 ·exact .inr rfl
 ·exact .inl rfl
structure Xa (p r:Pf) (t:Tm) (x y a a' s b:Pf) (e f g h i j:Int):Prop where
 res:(g=4\/j=4)\/(e=0/\f=0/\g=0/\h=0/\i=0/\j=0/\y=p/\a'=b)
 fx:x.full<=200000000
 fa:a.full<=200000000
 fs:s.full<=200000000
 fy:y.full<=200000000
 fa':a'.full<=200000000
 fb:b.full<=200000000
def VX(p:Pf)(fr b:Int):Pf:=if Yny p fr b=0 then p.uw fr b 0 else BR
def CG(p:Pf)(a:Int)(s:Tm):Pf:=if vn p a s=0 then p.pt a s 0 else BR
def HL(p:Pf)(a:Int)(q:Pf):Pf:=if Eb p a q=0 then Pf.ph a q 0 0 p else BR
def H6(k:Int)(l:List (Int×Int)):Int:=(l.map fun q=>q.2*(k-1)).sum
theorem RC(k:Int)(l l':List (Int×Int)):H6 k (l++l')=H6 k l+H6 k l':=by
 unfold H6;induction l with
 |nil=>simp
 |cons q l ih=>simp only[List.cons_append,List.map_cons,List.sum_cons];rw[ih];omega
theorem UY(n k:Int)(l:List (Int×Int)):CM n k l=n+H6 k l:=rfl
theorem ZB{α:Type}{sz sz':α->Nat}{G:α->Int×Int}{k:Int}(l:List α)(h:∀x∈l,(sz' x:Int)=sz x+(G x).2*(k-1)):(((l.map sz').sum:Nat):Int)=((l.map sz).sum:Nat)+H6 k (l.map G):=by
 unfold H6;induction l with
 |nil=>simp
 |cons x l ih=>
  have h1:=h x (by simp);have h2:=ih fun y hy=>h y (by simp[hy]);simp only[List.map_cons,List.sum_cons];omega
theorem Ut{s:Tm}{a:Int}(ha:0<=a)(hs:s.shape=true)(p:Pf):p.shape=true->∀v,0<=v->(∀q∈p.DB (BI a) (BM a) v,q.1+q.2*((s.size:Int)-1)<=4096)->
 (p.pt a s v).shape=true/\(p.pt a s v).small=true/\((p.pt a s v).size:Int)=p.size+H6 s.size (p.DB (BI a) (BM a) v):=by
 have sp:=s.size_pos;have cast:∀(n c:Nat),((n+c*(s.size-1):Nat):Int)=(n:Int)+(c:Int)*((s.size:Int)-1):=fun n c=>by
  rw[Int.natCast_add,Int.natCast_mul,show(((s.size-1:Nat)):Int)=(s.size:Int)-1 by omega]
 induction p using Pf.ind with
 |h p ih=>
  intro hp v hv hq;obtain⟨_,s4,s5,s6⟩:=zl hp;have fv:0<=AK p.kind:=by unfold AK;split<;>(try split)<;>omega
  have b1:0<=Az p.kind:=by unfold Az;split<;>(try split)<;>omega
  rw[Pf.Co] at hq ⊢;have zt:∀t∈p.terms,((t.re (xu (a+v) s) 0).size:Int)=t.size+(BI a v t).2*((s.size:Int)-1):=fun t ht=>by
   rw[OM (a+v) s t hs 0 (s4 t ht),cast];rfl
  have zf:∀f∈p.Ad,((f.put (a+(v+AK p.kind)) s).size:Int)=f.size+(BM a (v+AK p.kind) f).2*((s.size:Int)-1):=fun f hf=>by
   have e:(f.put (a+(v+AK p.kind)) s).size=f.size+w6 (a+(v+AK p.kind)) (f.AZ 0)*(s.size-1):=My (a+(v+AK p.kind)) s hs f (s5 f hf) 0;rw[e,cast];unfold BM;rw[show a+(v+AK p.kind)=a+(v+AK p.kind) from rfl]
  have key:∀(l:List Pf),(∀x∈l,x∈p.args)->(∀q∈(Pf.Bo (BI a) (BM a) v (Az p.kind) l).flatten,q.1+q.2*((s.size:Int)-1)<=4096)->
   (∀x∈Pf.pts a s v (Az p.kind) l,x.shape=true/\x.small=true)/\((((Pf.pts a s v (Az p.kind) l).map Pf.size).sum:Nat):Int)=((l.map Pf.size).sum:Nat)+H6 s.size (Pf.Bo (BI a) (BM a) v (Az p.kind) l).flatten:=by
   intro l;induction l with
   |nil=>intro _ _;simp[Pf.pts,Pf.Bo,H6]
   |cons x l ihl=>
    intro hx hq;simp only[Pf.Bo,List.flatten_cons,List.mem_append] at hq;obtain⟨a1,a2⟩:=ihl (fun z hz=>hx z (by simp[hz])) fun q h=>hq q (.inr h);obtain⟨c1,c2,c3⟩:=ih x (hx x (by simp)) (s6 x (hx x (by simp))) (if l.length=0 then v+Az p.kind else v) (by split<;>omega) fun q h=>hq q (.inl h);simp only[Pf.pts,Pf.Bo,List.mem_cons,List.map_cons,List.sum_cons,List.flatten_cons];refine⟨fun z hz=> ?_,?_⟩
    ·rcases hz with rfl|hz
     ·exact ⟨c1,c2⟩
     ·exact a1 z hz
    ·rw[RC,Int.natCast_add,a2,c3];omega
  simp only[List.mem_append] at hq;obtain⟨k1,k2⟩:=key p.args (fun _ h=>h) fun q h=>hq q (.inr h);rw[Pf.Ev];refine⟨ZL hp (List.length_map ..) (List.length_map ..) (Jg _ _ _ _ _) (fun y hy=> ?_) (fun y hy=> ?_) (fun x h=>(k1 x h).1),?_,?_⟩
  ·obtain ⟨t,ht,rfl⟩:=List.mem_map.1 hy;exact MP 0 hs (s4 t ht) (by omega) (by omega) (fun p hp=>vv t 0 p hp)
  ·obtain ⟨f,hf,rfl⟩:=List.mem_map.1 hy;exact Mw (by omega) hs (s5 f hf)
  ·rw[Pf.B6];simp only[Bool.and_eq_true,List.all_eq_true,decide_eq_true_eq,Pf.Am,Pf.Au,Pf.Ac];refine⟨⟨fun y hy=> ?_,fun y hy=> ?_⟩,fun x h=>(k1 x h).2⟩
   ·obtain ⟨t,ht,rfl⟩:=List.mem_map.1 hy;have:=hq _ (.inl (.inl (List.mem_map.2 ⟨t,ht,rfl⟩)));have:=zt t ht;have:(BI a v t).1=t.size:=rfl;omega
   ·obtain ⟨f,hf,rfl⟩:=List.mem_map.1 hy;have:=hq _ (.inl (.inr (List.mem_map.2 ⟨f,hf,rfl⟩)));have:=zf f hf;have:(BM a (v+AK p.kind) f).1=f.size:=rfl;omega
  ·rw[Pf.size_eq,p.size_eq];simp only[Pf.Am,Pf.Au,Pf.Ac,List.map_map];have q1:=ZB (sz:=Tm.size) (sz':=Tm.size∘fun t=>t.re (xu (a+v) s) 0) (G:=BI a v) (k:=s.size) p.terms zt;have q2:=ZB (sz:=Fm.size) (sz':=Fm.size∘fun f=>f.put (a+(v+AK p.kind)) s) (G:=BM a (v+AK p.kind)) (k:=s.size) p.Ad zf;rw[RC,RC];omega
theorem W7(C a:Int)(s:Tm)(p:Pf):p.hx C->∀v,(p.pt a s v).hx C:=by
 induction p using Pf.ind with
 |h p ih=>
  intro h v;obtain⟨h1,h2⟩:=(Pf.BS C p).1 h;rw[Pf.Ev,Pf.BS];simp only[Pf.Ah,Pf.A4,Pf.Ac];refine⟨h1,fun hk x hx=> ?_⟩;obtain⟨m,hm,rfl⟩:=List.getElem_of_mem hx;rw[Jg] at hm;rw[Ny _ _ _ _ _ _ hm];exact ih _ (List.getElem_mem hm) (h2 hk _ (List.getElem_mem hm)) _
theorem VV(C a:Int)(s:Tm)(p:Pf):p.lx C->∀v,(p.pt a s v).lx C:=by
 induction p using Pf.ind with
 |h p ih=>
  intro h v;obtain⟨h1,h2⟩:=(Pf.CL C p).1 h;rw[Pf.Ev,Pf.CL];simp only[Pf.Ah,Pf.A4,Pf.Ac];refine⟨h1,fun x hx=> ?_⟩;obtain⟨m,hm,rfl⟩:=List.getElem_of_mem hx;rw[Jg] at hm;rw[Ny _ _ _ _ _ _ hm];exact ih _ (List.getElem_mem hm) (h2 _ (List.getElem_mem hm)) _
def twoP(p q:Pf):Pf:= .mk 3 0 (.mk 0 []) [] [] [p,q]
theorem keeps{n:Nat}{p:Pf}{t:Tm}{a:Int}(hp:Made n p)(ha:0<=a/\a<=4096)(ht:t.err=0)(htn:t.near=true):
 vn p a t=4\/(p.err=0/\vn p a t=0/\(CG p a t).err=0/\QS (CG p a t)=QS p/\Tq (CG p a t)=Tq p/\(CG p a t).hx 10000/\(CG p a t).lx 10000):=by
 rcases hp.err with he|he;case inr=>exact .inl (by rw[SD (by omega),he])
 obtain⟨g1,g2,g3⟩:=(Pf.Ae p).1 he;have h5:=T0 (a:=a) he ha ht (by rw[show p.Bh=true from Uo p hp.ix 0,htn];simp);by_cases hb:C1 t.size (E8 p a t)=true\/CM p.size t.size (E8 p a t)>16384
 ·rw[if_pos hb] at h5;exact .inl h5
 rw[if_neg hb] at h5;have e:CG p a t=p.pt a t 0:=by unfold CG;rw[if_pos h5]
 have hB:C1 t.size (E8 p a t)=false:=by cases h:C1 t.size (E8 p a t) with|false=>rfl|true=>exact absurd (.inl h) hb
 unfold C1 at hB;rw[List.any_eq_false] at hB;have hN:CM p.size t.size (E8 p a t)<=16384:=by
  refine Int.not_lt.1 fun h=>hb (.inr h)
 rw[UY] at hN;obtain⟨k1,k2,k3⟩:=Ut ha.1 ((Tm.Ae t).1 ht).1 p g1 0 (by omega) fun q hq=>by
  have:=hB q hq;simp at this;omega
 unfold E8 at hN;refine .inr ⟨he,h5,?_,?_,?_,?_,?_⟩
 ·rw[e,Pf.Ae];exact⟨k1,k2,by omega⟩
 ·rw[e];unfold QS;rw[ZI,ZI,VS]
 ·rw[e];unfold Tq;rw[Ur _ 0,Ur p 0,VS]
 ·rw[e];exact W7 _ _ _ _ hp.hx 0
 ·rw[e];exact VV _ _ _ _ hp.lx 0
def xv(p:Pf):Int×Int:=if p.kind=16\/p.kind=17 then(p.kind,(p.terms.getD 0 AU).kind) else if 0<p.args.length then(p.kind,(p.args.getD 0 BR).kind) else(p.kind,0)
def IV:List (Int×Int):=[(4,3),(5,3),(7,6),(9,8),(13,12),(11,10),(15,14),(16,4),(16,5),(17,7),(17,8)]
def HD(p:Pf):Bool:=decide (xv p∈IV)
def ET(q:Pf)(t:Tm)(p:Pf):Pf×Int:=if vn q 0 t≠0 then(BR,vn q 0 t) else(HL (CG q 0 t) 0 p,Eb (CG q 0 t) 0 p)
def GA(p:Pf)(t:Tm):Pf:= .mk p.kind p.index p.ty [t] p.Ad p.args
def Pf.arg(p:Pf)(i:Nat):Pf:=p.args.getD i BR
def Pf.Fv(p:Pf):Tm:=p.terms.getD 0 AU
def F4(t:Tm):Tm:=if yk t 0 1=0 then t.re (zo 0 1) 0 else AU
def Ll(p:Pf)(h l:Tm):Pf×Int:=
 if yk l 0 1≠0 then(BR,yk l 0 1) else if vn (p.arg 1) 0 (F4 l)≠0 then(BR,vn (p.arg 1) 0 (F4 l)) else ET (CG (p.arg 1) 0 (F4 l)) h (GA p l)
def yi(p:Pf):Pf×Int:=
 if xv p=(4,3) then((p.arg 0).arg 0,0)
 else if xv p=(5,3) then((p.arg 0).arg 1,0)
 else if xv p=(7,6) then(HL ((p.arg 0).arg 0) 0 (p.arg 1),Eb ((p.arg 0).arg 0) 0 (p.arg 1))
 else if xv p=(9,8)\/xv p=(13,12) then(CG ((p.arg 0).arg 0) 0 p.Fv,vn ((p.arg 0).arg 0) 0 p.Fv)
 else if xv p=(11,10)\/xv p=(15,14) then ET (p.arg 1) (p.arg 0).Fv ((p.arg 0).arg 0)
 else if xv p=(16,5) then ET (p.arg 1) (p.Fv.args.getD 0 AU) (GA p (p.Fv.args.getD 0 AU))
 else if xv p=(17,8) then Ll p (p.Fv.args.getD 0 AU) (p.Fv.args.getD 1 AU)
 else(p.arg 0,0)
mutual
def Pf.nx:Pf->Pf×Bool×Int
 | .mk k i s ts fs zs=>if HD (.mk k i s ts fs zs)=true then((yi (.mk k i s ts fs zs)).1,true,(yi (.mk k i s ts fs zs)).2)
   else(.mk k i s ts fs (Pf.Fl zs).1,(Pf.Fl zs).2.1,(Pf.Fl zs).2.2)
def Pf.Fl:List Pf->List Pf×Bool×Int
 |[]=>([],false,0)
 |p::l=>if(Pf.nx p).2.1=true\/(Pf.nx p).2.2≠0 then((Pf.nx p).1::l,(Pf.nx p).2.1,(Pf.nx p).2.2) else(p::(Pf.Fl l).1,(Pf.Fl l).2.1,(Pf.Fl l).2.2)
end
mutual
def Pf.direct:Pf->Bool
 | .mk k i s ts fs zs=>if HD (.mk k i s ts fs zs)=true then false else Pf.Dh zs
def Pf.Dh:List Pf->Bool
 |[]=>true
 |p::l=>Pf.direct p&&Pf.Dh l
end
def DM(p:Pf):Pf×Bool×Int:=if p.nx.2.2≠0\/p.nx.1.err≠0 then(BR,false,4) else(p.nx.1,p.nx.2.1,0)
def DF(k i _y:Int):List Bool:=if k=1\/k=2 then [decide (i<=536870912)] else []
def Pf.Cn(p:Pf):Bool:=([p.Bh&&p.Bj]++p.Cw DF 0).all id
def Lf:Nat->Pf->Int->Pf×Int×Int
 |0,p,n=>if p.direct=true then(p,n,0) else(BR,0,5)
 |k+1,p,n=>if(DM p).2.2≠0 then(BR,0,(DM p).2.2) else if(DM p).2.1=false then(p,n,0) else Lf k (DM p).1 (n+1)
def Lj(p:Pf):Pf×Bool×Int:=if p.err≠0 then(BR,false,p.err) else if p.Cn=false then(BR,false,1) else if(DM p).2.2≠0 then(BR,false,(DM p).2.2) else DM p
def JZ(p:Pf)(s:Int):Pf×Int×Int:=if p.err≠0 then(BR,0,p.err) else if s<0\/s>65536\/p.Cn=false then(BR,0,1) else Lf s.toNat p 0
end Go.Ab
