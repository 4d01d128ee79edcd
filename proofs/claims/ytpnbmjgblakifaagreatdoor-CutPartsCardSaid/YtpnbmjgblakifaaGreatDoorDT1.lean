/- A part of the proofs of this seat. No conditions. -/
import Derived.Test.YtpnbmjgblakifaaGreatDoorAT1
import Derived.Test.YtpnbmjgblakifaaGreatDoorD1
namespace Go.Ab
open Go
set_option linter.all false
theorem XN{k:Int}:∀{l:List Int},k∉l->Ey k l=none
 |[],_=>rfl
 |x::l,h=>by
  simp only[List.mem_cons,not_or] at h;have h1:¬x=k:=fun e=>h.1 e.symm;simp only[Ey,if_neg h1,XN h.2,Option.map_none]
theorem W9{k:Int}:∀{l:List Int},k∈l->∃i,Ey k l=some i
 |[],h=>by cases h
 |x::l,h=>by
  by_cases hx:x=k
  ·exact ⟨0,by simp[Ey,hx]⟩
  ·obtain ⟨i,hi⟩:=W9 (l:=l) (by rcases List.mem_cons.1 h with h|h;exact absurd h.symm hx;exact h);exact⟨i+1,by simp[Ey,hx,hi]⟩
theorem Ra(k:Int)(ks:List Int):v9 k ks=if k∈ks then ks else ks++[k]:=by
 by_cases h:k∈ks
 ·obtain ⟨i,hi⟩:=W9 h;rw[if_pos h,v9,hi]
 ·rw[if_neg h,v9,XN h]
theorem Zxe{k x:Int}{ks:List Int}:x∈v9 k ks↔x∈ks\/x=k:=by
 rw[Ra];split
 ·rename_i h;constructor
  ·exact Or.inl
  ·rintro (h1|rfl)
   ·exact h1
   ·exact h
 ·simp
theorem Zoy{k:Int}{ks:List Int}(h:ks.Nodup):(v9 k ks).Nodup:=by
 rw[Ra];split
 ·exact h
 ·rename_i h1;exact List.nodup_append.2 ⟨h,by simp,fun a ha b hb e=>by simp at hb;subst hb;subst e;exact h1 ha⟩
theorem Kn(k:Int)(ks:List Int)(b:Bool):FC k ks (List.replicate ks.length b) b=List.replicate (v9 k ks).length b:=by
 unfold FC v9;split
 ·rename_i i hi;apply List.ext_getElem?;intro j;rw[List.getElem?_set];split
  ·rename_i e;subst e;have:=(Mp hi).2;simp[List.getElem?_replicate,this]
  ·rfl
 ·rw[List.length_append,<-List.replicate_append_replicate];rfl
def BA(acc l:List Int):List Int:=l.foldl (fun ks k=>v9 k ks) acc
theorem Zip(acc l l':List Int):BA acc (l++l')=BA (BA acc l) l':=List.foldl_append
theorem JJ(acc:List Int):BA acc []=acc:=rfl
theorem Qp(acc:List Int)(k:Int):BA acc [k]=v9 k acc:=rfl
theorem C9{x:Int}:∀{l acc:List Int},x∈BA acc l↔x∈acc\/x∈l
 |[],acc=>by simp[BA]
 |k::l,acc=>by
  show x∈BA (v9 k acc) l↔_;rw[C9,Zxe,List.mem_cons,or_assoc]
theorem JG:∀{l acc:List Int},acc.Nodup->(BA acc l).Nodup
 |[],acc,h=>h
 |k::l,acc,h=>JG (l:=l) (Zoy h)
theorem LO:∀(l acc:List Int),(BA acc l).length<=acc.length+l.length
 |[],acc=>by simp[BA]
 |k::l,acc=>by
  have h1:=LO l (v9 k acc);have h2:(v9 k acc).length<=acc.length+1:=by rw[Ra];split<;>simp
  show(BA (v9 k acc) l).length<=_;rw[List.length_cons];omega
def C7(l:List (Int×Int)):List Int:=l.filterMap fun p=>if p.2<=p.1 then some (p.1-p.2) else none
theorem RE(l l':List (Int×Int)):C7 (l++l')=C7 l++C7 l':=List.filterMap_append
theorem We:C7 []=[]:=rfl
theorem Vp(i b:Int):C7 [(i,b)]=if b<=i then [i-b] else []:=by
 by_cases h:b<=i
 ·simp[C7,h]
 ·simp[C7,h]
theorem Yfk(l:List (Int×Int)):(C7 l).length<=l.length:=List.length_filterMap_le _ _
theorem Yd3{x:Int}{l:List (Int×Int)}:x∈C7 l↔0<=x/\∃p∈l,p.1-p.2=x:=by
 simp only[C7,List.mem_filterMap];constructor
 ·rintro ⟨p,hp,h⟩;split at h
  ·cases h;exact⟨by omega,p,hp,rfl⟩
  ·cases h
 ·rintro ⟨h0,p,hp,h⟩;exact⟨p,hp,by rw[if_pos (by omega),h]⟩
theorem Er{x:Int}:∀{l:List (Int×Int)},(∃p∈l,p.1-p.2=x)↔cnt x l≠0
 |[]=>by simp[cnt]
 |p::l=>by
  have ih:=Er (x:=x) (l:=l);rw[show p::l=[p]++l from rfl,vk,HL];constructor
  ·rintro ⟨q,hq,h⟩;rcases List.mem_append.1 hq with h1|h1
   ·simp at h1;subst h1;rw[if_pos h];omega
   ·have:=ih.1 ⟨q,h1,h⟩;omega
  ·intro h;by_cases h1:p.1-p.2=x
   ·exact ⟨p,by simp,h1⟩
   ·rw[if_neg h1] at h;obtain⟨q,hq,h2⟩:=ih.2 (by omega);exact⟨q,by simp[hq],h2⟩
def IA(t:Tm):List Int:=BA [] (C7 (t.vars 0))
def Kl(t:Tm):List Int:=yj (IA t)
theorem V5(t:Tm):(IA t).Nodup:=JG List.nodup_nil
theorem Ybt{t:Tm}{x:Int}:x∈IA t↔0<=x/\cnt x (t.vars 0)≠0:=by rw[IA,C9,Yd3,Er];simp
theorem Ya9(t:Tm):(IA t).length<=t.size:=by
 have h1:=LO (C7 (t.vars 0)) [];have h2:=Yfk (t.vars 0);have h3:=t.CH 0;simp only[IA,List.length_nil] at*;omega
theorem ww(l:List Int):(yj l).Perm l:=List.mergeSort_perm l _
theorem MW(l:List Int):(yj l).Pairwise (·<=·):=by
 have h:=List.pairwise_mergeSort (le:=fun x y:Int=>decide (x<=y)) (fun a b c h1 h2=>by simp only[decide_eq_true_eq] at*;omega) (fun a b=>by simp only[Bool.or_eq_true,decide_eq_true_eq];omega) l;exact h.imp fun h=>by simpa using h
theorem U1{l l':List Int}(hp:l.Perm l')(h:l.Pairwise (·<=·))(h':l'.Pairwise (·<=·)):l=l':=
 hp.eq_of_pairwise (le:=(·<=·)) (fun a b _ _ h1 h2=>by omega) h h'
theorem Zmf{l l':List Int}(hp:l.Perm l'):yj l=yj l':=
 U1 ((ww l).trans (hp.trans (ww l').symm)) (MW l) (MW l')
theorem F4{t:Tm}{x:Int}:x∈Kl t↔0<=x/\cnt x (t.vars 0)≠0:=by rw[Kl,(ww _).mem_iff,Ybt]
theorem Zpm(t:Tm):(Kl t).Nodup:=(ww _).nodup_iff.2 (V5 t)
def shI(fr by_ v:Int):Int:=if v>=fr then v+by_ else v
def Db(l:List Int)(n:Int)(i:Nat):List Int:=l.take i++(l.getD i n::l.drop i)
def JD(l:List Int)(n:Int)(i:Nat):List Int:=l.take i++n::l.drop i
theorem Ya5(l:List Int)(n:Int):Db l n l.length=l++[n]:=by simp[Db]
theorem Zzq{l:List Int}{n:Int}{i:Nat}(h:i<=l.length):(Db l n i).length=l.length+1:=by simp[Db];omega
theorem Ydn{l:List Int}{n:Int}{i:Nat}(h:i<l.length)(h':i<(Db l n (i+1)).length):(Db l n (i+1))[i]=l[i]:=by
 simp only[Db];rw[List.getElem_append_left (by simp;omega),List.getElem_take]
theorem Zx5{l:List Int}{n:Int}{i:Nat}(h:i<l.length):(Db l n (i+1)).set (i+1) l[i]=Db l n i:=by
 have h1:(l.take (i+1)).length=i+1:=by simp;omega
 simp only[Db];have e:l.take (i+1)=l.take i++[l[i]]:=by rw[List.take_succ,List.getElem?_eq_getElem h];rfl
 rw[List.set_append_right (h:=by omega),h1,Nat.sub_self,List.set_cons_zero,e,List.append_assoc,List.singleton_append,<-List.drop_eq_getElem_cons h];congr 2;rw[List.getD_eq_getElem?_getD,List.getElem?_eq_getElem h];rfl
theorem Zws{l:List Int}{n:Int}{i:Nat}(h:i<=l.length):(Db l n i).set i n=JD l n i:=by
 have h1:(l.take i).length=i:=by simp;omega
 simp only[Db,JD];rw[List.set_append_right (h:=by omega),h1,Nat.sub_self,List.set_cons_zero]
theorem Zyi(l:List Int)(n:Int)(i:Nat):(JD l n i).Perm (n::l):=by
 have h1:(JD l n i).Perm (n::(l.take i++l.drop i)):=List.perm_middle
 rwa [List.take_append_drop] at h1
theorem Zqa{l:List Int}{n:Int}{i:Nat}(hs:l.Pairwise (·<=·))(h:∀x∈l.drop i,n<x)(h':∀(hi:0<i) (hl:i-1<l.length),l[i-1]<=n)(hil:i<=l.length):(JD l n i).Pairwise (·<=·):=by
 have hs':=hs;rw[<-List.take_append_drop i l,List.pairwise_append] at hs;obtain⟨h1,h2,h3⟩:=hs;have ht:∀x∈l.take i,x<=n:=fun x hx=>by
  obtain⟨j,hj,hx2⟩:=List.mem_iff_getElem.1 hx;have hj2:j<i:=by simp at hj;omega
  rw[List.getElem_take] at hx2;have h4:=h' (by omega) (by omega);rcases Nat.lt_or_ge j (i-1) with h5|h5
  ·have:=List.pairwise_iff_getElem.1 hs' j (i-1) (by omega) (by omega) h5;omega
  ·have h6:j=i-1:=by omega
   subst h6;omega
 rw[JD,List.pairwise_append];refine⟨h1,List.pairwise_cons.2 ⟨fun x hx=>by have:=h x hx;omega,h2⟩,fun x hx y hy=> ?_⟩;rcases List.mem_cons.1 hy with rfl|hy
 ·exact ht x hx
 ·exact h3 x hx y hy
theorem Zuk{d:List Int}{n:Int}{i:Nat}(h:∀x∈(yj d).drop i,n<x)(h':∀(hi:0<i) (hl:i-1<(yj d).length),(yj d)[i-1]<=n)(hil:i<=(yj d).length):JD (yj d) n i=yj (d++[n]):=by
 refine U1 ?_ (Zqa (MW d) h h' hil) (MW _);refine((Zyi _ _ _).trans ((ww d).cons n)).trans (?_:(n::d).Perm _);exact((List.perm_append_comm (l₁:=[n]) (l₂:=d)).trans (ww _).symm)
theorem Wh(d:List Int):(yj d).length=d.length:=(ww d).length_eq
theorem OH:yj []=[]:=List.mergeSort_nil
theorem WB:∀{l ks:List Int},l.Nodup->(∀x∈l,x∈ks)->l.length<=ks.length
 |[],_,_,_=>Nat.zero_le _
 |x::l,ks,hn,h=>by
  obtain⟨h1,h2⟩:=List.nodup_cons.1 hn;have h3:=h x (by simp);have h4:=WB (l:=l) (ks:=ks.erase x) h2 fun y hy=>(List.mem_erase_of_ne (fun e:y=x=>h1 (by rw[<-e];exact hy))).2 (h y (by simp[hy]));rw[List.length_erase_of_mem h3] at h4;have:0<ks.length:=List.length_pos_of_mem h3;simp only[List.length_cons];omega
theorem OE{t:Tm}(hs:t.shape=true){fr by_ C:Int}(hb:0<=by_)(hC:∀p∈t.vars 0,p.1<=C):∀p∈(t.re (zl fr by_) 0).vars 0,p.1<=C+by_:=fun p hp=>by
 rw[Q3 _ _ _ _ hs] at hp;obtain⟨q,hq,rfl⟩:=List.mem_map.1 hp;have:=hC q hq;simp only;split<;>omega
theorem Yal{t:Tm}(hC:∀p∈t.vars 0,p.1<=1000000):t.near=true:=List.all_eq_true.2 fun p hp=>by
 have:=hC p hp;simp only[decide_eq_true_eq];omega
def Ykd(t:Tm)(a:Int):Int:=if t.err≠0 then t.err else if ¬(0<=a/\a<=4096) then 1 else if 0<cnt a (t.vars 0) then 6 else 0
def V4(l:List Int):List Int:=(l.filter fun v=>decide (v≠0)).map (·-1)
def TV(a b:List Int):List Int:=BA (BA [] (V4 a)) (if 0∈a then b else [])
def hasM(a:List Int)(m:Nat):Bool:=decide (0∈a.take m)
def wM(a:List Int)(m:Nat):List Int:=BA [] (V4 (a.take m))
def wN(a b:List Int)(h:Bool)(m:Nat):List Int:=BA (wM a a.length) (if h=true then b.take m else [])
def Yle(f:Fm):List Int:=BA [] (C7 (Ykz (f.A2 0)))
def RK(f:Fm):List Int:=yj (Yle f)
def Fm.AV(f:Fm)(fr by_:Int):Fm:=f.re (fun b t=>t.re (zl (fr+b) by_) 0) 0
def Ou(f:Fm)(fr by_:Int):Int:=if f.err≠0 then f.err else if ¬(0<=fr/\fr<=4096)\/¬(0<=by_/\by_<=4096)\/f.near=false then 1 else 0
def Yir(f:Fm)(a:Int):Int:=if f.err≠0 then f.err else if ¬(0<=a/\a<=4096) then 1 else if 0<ve a (f.A2 0) then 6 else 0
def CG:Fm:=AP (.mk 4 0 (.mk 0 []) []) (.mk 5 0 (.mk 0 []) [.mk 4 0 (.mk 0 []) []])
def FV(f:Fm):Fm:= .mk 3 (.mk 0 []) [] [f,CG]
def OL:Fm:=AP (.mk 1 0 (.mk 0 []) []) (.mk 4 0 (.mk 0 []) [])
def orF(a b:Fm):Fm:= .mk 5 Af [] [.mk 2 (.mk 0 []) [] [.mk 3 (.mk 0 []) [] [OL,a],.mk 3 (.mk 0 []) [] [.mk 3 (.mk 0 []) [] [OL,CG],b]]]
theorem Qm{f:Fm}(h:f.shape=true):
 (f.kind=1/\f.args=[])\/((f.kind=2\/f.kind=3)/\f.terms=[])\/((f.kind=4\/f.kind=5\/f.kind=6\/f.kind=7)/\f.terms=[]/\f.ty.err=0):=by
 rw[Fm.Ak,Bool.and_eq_true,Bool.and_eq_true] at h;have h1:=h.1.1;unfold Fm.head at h1;by_cases h2:f.kind=1
 ·rw[if_pos h2] at h1;simp only[Bool.and_eq_true,beq_iff_eq,List.length_eq_zero_iff] at h1;exact .inl ⟨h2,h1.2⟩
 rw[if_neg h2] at h1;by_cases h3:f.kind=2\/f.kind=3
 ·rw[if_pos h3] at h1;simp only[Bool.and_eq_true,beq_iff_eq,List.length_eq_zero_iff] at h1;exact .inr (.inl ⟨h3,h1.1.2⟩)
 rw[if_neg h3] at h1;by_cases h4:f.kind=4\/f.kind=5\/f.kind=6\/f.kind=7
 ·rw[if_pos h4] at h1;simp only[Bool.and_eq_true,beq_iff_eq,List.length_eq_zero_iff] at h1;refine .inr (.inr ⟨h4,h1.1.2,(Ty.Ae f.ty).2 ?_⟩);have:=h1.1.1;simp only[Ty.ok,Bool.and_eq_true,decide_eq_true_eq] at this;exact this
 rw[if_neg h4] at h1;cases h1
theorem Oj{α:Type}{f g:α->Nat}{l:List α}(h:∀x∈l,f x=g x):(l.map f).sum=(l.map g).sum:=by rw[List.map_congr_left h]
theorem Yck{G:Int->Tm->Tm}(hG:∀b t,t.shape=true->(G b t).shape=true/\(G b t).size=t.size/\(G b t).full=t.full)(f:Fm):∀b,f.shape=true->(f.re G b).shape=true/\(f.re G b).size=f.size/\(f.re G b).full=f.full:=by
 induction f using Fm.ind with
 |h f ih=>
  intro b hf;have h0:=hf;rw[Fm.Ak,Bool.and_eq_true,Bool.and_eq_true] at h0;obtain⟨⟨h1,h2⟩,h3⟩:=h0;rw[Fm.Bj];refine⟨?_,?_,?_⟩
  ·rw[Fm.Ak,Bool.and_eq_true,Bool.and_eq_true];refine⟨⟨?_,?_⟩,?_⟩
   ·simp only[Fm.head,Fm.Ah,Fm.AL,Fm.Ai,Fm.Ad,List.length_map] at h1 ⊢;exact h1
   ·rw[Fm.Ai,List.all_eq_true];intro y hy;obtain⟨x,hx,rfl⟩:=List.mem_map.1 hy;exact(hG b x (List.all_eq_true.1 h2 x hx)).1
   ·rw[Fm.Ad,List.all_eq_true];intro y hy;obtain⟨x,hx,rfl⟩:=List.mem_map.1 hy;exact(ih x hx _ (List.all_eq_true.1 h3 x hx)).1
  ·rw[Fm.size_eq,f.size_eq];simp only[Fm.Ai,Fm.Ad,List.map_map];rw[Oj (f:=Tm.size∘G b) (g:=Tm.size) fun x hx=>(hG b x (List.all_eq_true.1 h2 x hx)).2.1,Oj (f:=Fm.size∘Fm.re G (A3 f.kind b)) (g:=Fm.size) fun x hx=>(ih x hx _ (List.all_eq_true.1 h3 x hx)).2.1]
  ·rw[Fm.Ag,f.Ag];simp only[Fm.Ai,Fm.Ad,Fm.AL,List.map_map];rw[Oj (f:=Tm.full∘G b) (g:=Tm.full) fun x hx=>(hG b x (List.all_eq_true.1 h2 x hx)).2.2,Oj (f:=Fm.full∘Fm.re G (A3 f.kind b)) (g:=Fm.full) fun x hx=>(ih x hx _ (List.all_eq_true.1 h3 x hx)).2.2]
theorem uu{f:Fm}(hf:f.shape=true){fr by_:Int}(hb:0<=by_):(f.AV fr by_).shape=true/\(f.AV fr by_).size=f.size/\(f.AV fr by_).full=f.full:=
 Yck (fun b t ht=>⟨J3 0 ht hb,L8 _ _ t 0 ht,Jw _ _ t 0 ht⟩) f 0 hf
theorem Ybw(g m:List Ty)(fr:Int)(f:Fm):∀(h:List Ty) (b:Int),(h.length:Int)=fr+b->f.shape=true->f.Bl (g++h)->
 (f.re (fun b t=>t.re (zl (fr+b) m.length) 0) b).Bl (g++m++h):=by
 induction f using Fm.ind with
 |h f ih=>
  intro h b hb hf hok;rw[Fm.Bq] at hok;rw[Fm.Bj,Fm.Bq];simp only[Fm.Ai,Fm.Ad];refine⟨fun y hy=> ?_,fun y hy=> ?_⟩
  ·obtain ⟨x,hx,rfl⟩:=List.mem_map.1 hy;rw[SC x g m h (fr+b) 0 (ye hf hx) (by omega)];exact hok.1 x hx
  ·obtain ⟨x,hx,rfl⟩:=List.mem_map.1 hy;have h1:=hok.2 x hx;by_cases hq:xp f.kind=true
   ·rw[H7 hq] at h1;rw[show ∀ts fs,Dx (g++m++h) (Fm.mk f.kind f.ty ts fs)=g++m++h++[f.ty] from fun ts fs=>H7 (f:=Fm.mk f.kind f.ty ts fs) hq];have e:A3 f.kind b=b+1:=if_pos hq;rw[e,List.append_assoc (g++m)];rw[List.append_assoc] at h1;exact ih x hx (h++[f.ty]) (b+1) (by simp;omega) (zw hf hx) h1
   ·rw[HV hq] at h1;rw[show ∀ts fs,Dx (g++m++h) (Fm.mk f.kind f.ty ts fs)=g++m++h from fun ts fs=>HV (f:=Fm.mk f.kind f.ty ts fs) hq];have e:A3 f.kind b=b:=if_neg hq;rw[e];exact ih x hx h b hb (zw hf hx) h1
theorem Yed{f:Fm}(hs:f.shape=true){fr by_ C:Int}(hb:0<=by_)(hC:∀p∈f.A2 0,∀q∈p.1.vars 0,q.1<=C):∀p∈(f.AV fr by_).A2 0,∀q∈p.1.vars 0,0<=q.1/\q.1<=C+by_:=by
 intro p hp q hq;rw[Fm.AV,P9] at hp;obtain⟨r,hr,rfl⟩:=List.mem_map.1 hp;have h1:=IZ f hs 0 r hr;exact⟨Tm.AJ _ (J3 0 h1 hb) 0 q hq,OE h1 hb (hC r hr) q hq⟩
theorem Vw{f:Fm}{C:Int}(hC:C<=1000000)(h:∀p∈f.A2 0,∀q∈p.1.vars 0,0<=q.1/\q.1<=C):f.near=true:=
 List.all_eq_true.2 fun p hp=>Yal fun q hq=>by have:=h p hp q hq;omega
theorem K5{f:Fm}(he:f.err=0){fr by_:Int}(hb:0<=by_):(f.AV fr by_).err=0:=by
 have h1:=(Fm.Ae f).1 he;obtain⟨h2,h3,_⟩:=uu h1.1 (fr:=fr) hb;exact(Fm.Ae _).2 ⟨h2,by rw[h3];exact h1.2⟩
theorem Ye0{f:Fm}(h:DN 2 f):f.err=0:=(Fm.Ae f).2 ⟨h.1,by have:=h.2.1;omega⟩
def exF:Fm:= .mk 4 Af [] [.mk 1 (.mk 0 []) [vT 0,vT 1] []]
end Go.Ab
namespace Go.Ab
set_option linter.all false
theorem NG{k i:Int}{th T:Ty}{xs:List Tm}{g:List Ty}(k1:k≠1)(k2:k≠2)(h:(Tm.mk k i th xs).inf g=(T,0)):
 (∀x∈xs,x.inf g=((x.inf g).1,0))/\vi k th (xs.map fun x=>(x.inf g).1)=(T,0):=by
 obtain⟨h1,h2⟩:=vz (t:=Tm.mk k i th xs) k1 k2 h;exact⟨fun x hx=>by rw[<-h1 x hx],h2⟩
theorem Vo{i:Int}{th T:Ty}{x f n:Tm}{g:List Ty}(h:(Tm.mk 6 i th [x,f,n]).inf g=(T,0)):
 T=th/\x.inf g=(th,0)/\f.inf g=(yy Af (yy th th),0)/\n.inf g=(Af,0):=by
 obtain⟨h1,h2⟩:=NG (by decide) (by decide) h;have hx:=h1 x (by simp);have hf:=h1 f (by simp);have hn:=h1 n (by simp);simp only[vi,List.map_cons,List.map_nil,LV,N7,Un,reduceIte,Int.reduceEq] at h2;by_cases hc:¬(x.inf g).1=th\/¬(f.inf g).1=yy Af (yy th th)\/¬(n.inf g).1=Af
 ·rw[if_pos hc] at h2;cases h2
 ·rw[if_neg hc] at h2;have e:=congrArg Prod.fst h2;simp only[not_or,Decidable.not_not] at hc;exact⟨e.symm,by rw[hx,hc.1],by rw[hf,hc.2.1],by rw[hn,hc.2.2]⟩
theorem Wj{i:Int}{th T:Ty}{x f n:Tm}{g:List Ty}(h:(Tm.mk 9 i th [x,f,n]).inf g=(T,0)):
 T=th/\x.inf g=(th,0)/\f.inf g=(yy Af (yy Am (yy th th)),0)/\n.inf g=(Am,0):=by
 obtain⟨h1,h2⟩:=NG (by decide) (by decide) h;have hx:=h1 x (by simp);have hf:=h1 f (by simp);have hn:=h1 n (by simp);simp only[vi,List.map_cons,List.map_nil,LV,N7,Un,reduceIte,Int.reduceEq] at h2;by_cases hc:¬(x.inf g).1=th\/¬(f.inf g).1=yy Af (yy Am (yy th th))\/¬(n.inf g).1=Am
 ·rw[if_pos hc] at h2;cases h2
 ·rw[if_neg hc] at h2;have e:=congrArg Prod.fst h2;simp only[not_or,Decidable.not_not] at hc;exact⟨e.symm,by rw[hx,hc.1],by rw[hf,hc.2.1],by rw[hn,hc.2.2]⟩
theorem Zzm{i:Int}{th T:Ty}{x:Tm}{g:List Ty}(h:(Tm.mk 5 i th [x]).inf g=(T,0)):T=Af/\x.inf g=(Af,0):=by
 obtain⟨h1,h2⟩:=NG (by decide) (by decide) h;have hx:=h1 x (by simp);simp only[vi,List.map_cons,List.map_nil,LV,reduceIte,Int.reduceEq] at h2;by_cases hc:¬(x.inf g).1=Af
 ·rw[if_pos hc] at h2;cases h2
 ·rw[if_neg hc] at h2;have e:=congrArg Prod.fst h2;exact⟨e.symm,by rw[hx,Decidable.not_not.1 hc]⟩
theorem Ycc{i:Int}{th T:Ty}{x y:Tm}{g:List Ty}(h:(Tm.mk 8 i th [x,y]).inf g=(T,0)):T=Am/\x.inf g=(Af,0)/\y.inf g=(Am,0):=by
 obtain⟨h1,h2⟩:=NG (by decide) (by decide) h;have hx:=h1 x (by simp);have hy:=h1 y (by simp);simp only[vi,List.map_cons,List.map_nil,LV,N7,reduceIte,Int.reduceEq] at h2;by_cases hc:¬(x.inf g).1=Af\/¬(y.inf g).1=Am
 ·rw[if_pos hc] at h2;cases h2
 ·rw[if_neg hc] at h2;have e:=congrArg Prod.fst h2;simp only[not_or,Decidable.not_not] at hc;exact⟨e.symm,by rw[hx,hc.1],by rw[hy,hc.2]⟩
theorem J5{f x:Tm}{a b:Ty}{g:List Ty}(hf:f.inf g=(yy a b,0))(hx:x.inf g=(a,0)):(AO f x).inf g=(b,0):=Iv hf hx
theorem Zxb{th:Ty}{x f n:Tm}{g:List Ty}(hx:x.inf g=(th,0))(hf:f.inf g=(yy Af (yy th th),0))(hn:n.inf g=(Af,0))(i:Int):(Tm.mk 6 i th [x,f,n]).inf g=(th,0):=by
 rw[Tm.AY];simp[Tm.AH,hx,hf,hn,vi]
theorem Ztm{th:Ty}{x f n:Tm}{g:List Ty}(hx:x.inf g=(th,0))(hf:f.inf g=(yy Af (yy Am (yy th th)),0))(hn:n.inf g=(Am,0))(i:Int):(Tm.mk 9 i th [x,f,n]).inf g=(th,0):=by
 rw[Tm.AY];simp[Tm.AH,hx,hf,hn,vi]
theorem Yi4{t u:Tm}(hv:RV t u){g:List Ty}{T:Ty}(hs:t.shape=true)(h:t.inf g=(T,0)):u.inf g=(T,0):=by
 cases hv with
 |beta i th j s b a=>
  have hb:b.shape=true:=ze (ze hs (.mk 2 j s [b]) (by simp)) b (by simp);have ha:a.shape=true:=ze hs a (by simp);obtain⟨h1,h2⟩:=vz (by simp) (by simp) h;have hf:(Tm.mk 2 j s [b]).inf g=(((Tm.mk 2 j s [b]).inf g).1,0):=by rw[<-h1 (.mk 2 j s [b]) (by simp)]
  obtain⟨h3,h4⟩:=NM hf;have ha0:=h1 a (by simp);simp only[Tm.Ah,Tm.AL,Tm.Ad,List.map_cons,List.map_nil,h4] at h2;have h5:s=(a.inf g).1/\(b.inf (g++[s])).1=T:=by
   simp only[vi,Bv,List.getD_cons_zero,List.getD_cons_succ,Ue,XW] at h2;by_cases h6:s=(a.inf g).1
   ·refine ⟨h6,?_⟩;simp[h6] at h2;rw[h6];exact h2
   ·simp[h6] at h2
  have hσ:a.inf g=(s,0):=by rw[h5.1,<-ha0]
  have hp:=Qc b a g [] s 0 0 hb ha rfl hσ;rw[List.append_nil,List.append_nil] at hp;rw[hp,<-h5.2,<-h3]
 |rz i th x f j s=>obtain⟨rfl,h1,_⟩:=Vo h;exact h1
 |fz i th x f j s=>obtain⟨rfl,h1,_⟩:=Wj h;exact h1
 |rs i th x f j s n=>
  obtain⟨rfl,h1,h2,h3⟩:=Vo h;obtain⟨_,h4⟩:=Zzm h3;exact J5 (J5 h2 h4) (Zxb h1 h2 h4 0)
 |fs i th x f j s n l=>
  obtain⟨rfl,h1,h2,h3⟩:=Wj h;obtain⟨_,h4,h5⟩:=Ycc h3;exact J5 (J5 (J5 h2 h4) h5) (Ztm h1 h2 h5 0)
 |p1 i th j s _ y=>
  obtain⟨h1,h2⟩:=vz (by simp) (by simp) h;have hf:(Tm.mk 10 j s [u,y]).inf g=(((Tm.mk 10 j s [u,y]).inf g).1,0):=by rw[<-h1 (.mk 10 j s [u,y]) (by simp)]
  obtain⟨h3,h4,h5⟩:=R5 hf;simp only[Tm.Ah,Tm.AL,Tm.Ad,List.map_cons,List.map_nil,h5] at h2;simp[vi,Bv] at h2;rw[<-h2,<-h3]
 |p2 i th j s y _=>
  obtain⟨h1,h2⟩:=vz (by simp) (by simp) h;have hf:(Tm.mk 10 j s [y,u]).inf g=(((Tm.mk 10 j s [y,u]).inf g).1,0):=by rw[<-h1 (.mk 10 j s [y,u]) (by simp)]
  obtain⟨h3,h4,h5⟩:=R5 hf;simp only[Tm.Ah,Tm.AL,Tm.Ad,List.map_cons,List.map_nil,h5] at h2;simp[vi,Bv] at h2;rw[<-h2,<-h4]
theorem Yhy(room:Int)(t:Tm):∀(g:List Ty) (T:Ty) (u:Tm),t.shape=true->t.inf g=(T,0)->C3 room t=some (u,true)->u.inf g=(T,0):=by
 induction t using Tm.ind with
 |h t ih=>
  intro g T u hs h hn;rw[Gz] at hn;by_cases hr:v7 t=true
  ·rw[if_pos hr] at hn;split at hn
   ·cases hn
   ·cases hn;exact Yi4 (JV hs hr) hs h
  ·rw[if_neg hr,Option.map_eq_some_iff] at hn;obtain⟨q,h1,h2⟩:=hn;obtain⟨m,hm,v,h3,h4⟩:=Oy _ _ _ h1;have e2:=congrArg Prod.snd h2;have e1:=congrArg Prod.fst h2;simp only at e1 e2;rw[e2] at h3;rw[<-e1,h4];have hargs:=ze hs;have hx:=hargs _ (List.getElem_mem hm);have hmem:=List.getElem_mem hm;by_cases k1:t.kind=1
   ·exact absurd (HP hs k1) (fun hh=>by rw[hh] at hm;simp at hm)
   ·have key:∀g' T',(t.args[m]).inf g'=(T',0)->v.inf g'=(T',0):=fun g' T' hi=>ih _ hmem g' T' v hx hi h3;by_cases k2:t.kind=2
    ·obtain ⟨i,th,b,rfl,hb⟩:=G9 hs k2 rfl;obtain⟨h5,h6⟩:=NM h;have hm0:m=0:=by simp at hm;omega
     subst hm0;simp only[Tm.Ad,List.getElem_cons_zero] at*;have q1:=key (g++[th]) (b.inf (g++[th])).1 (by rw[<-h5]);have:v.inf (g++[th])=b.inf (g++[th]):=by rw[q1,<-h5]
     rw[<-h];simp only[List.set_cons_zero,Tm.Ah,Tm.AL,Tm.Ay];exact Tb this
    ·obtain ⟨h5,h6⟩:=vz k1 k2 h;have h7:=h5 _ hmem;have q1:=key g (t.args[m].inf g).1 (by rw[<-h7]);have hi:v.inf g=(t.args[m]).inf g:=by rw[q1,<-h7]
     rw[<-h,Tm.AY g (Tm.mk t.kind t.index t.ty (t.args.set m v)),if_neg (show ¬(Tm.mk t.kind t.index t.ty (t.args.set m v)).kind=1 from k1),if_neg (show ¬(Tm.mk t.kind t.index t.ty (t.args.set m v)).kind=2 from k2),t.AY,if_neg k1,if_neg k2];show(if(Tm.AH g (t.args.set m v)).2≠0 then(BF,(Tm.AH g (t.args.set m v)).2) else vi t.kind t.ty (Tm.AH g (t.args.set m v)).1)=_;rw[NB g v t.args m hm hi]
theorem Yi:∀(k:Nat) (t:Tm) (n:Nat) (g:List Ty) (T:Ty),t.err=0->t.inf g=(T,0)->(Eh k t n).2.2=0->(Eh k t n).1.inf g=(T,0)
 |0,t,n,g,T,he,hi,h=>by
  simp only[Eh] at h ⊢;cases hx:C3 (4096-t.size) t with
  |none=>exact hi
  |some p=>rw[hx] at h;cases h
 |k+1,t,n,g,T,he,hi,h=>by
  simp only[Eh] at h ⊢;cases hx:C3 (4096-t.size) t with
  |none=>exact hi
  |some p=>
   obtain⟨x,f⟩:=p;rw[hx] at h;cases f with
   |false=>cases h
   |true=>exact Yi k x (n+1) g T (Sw he hx) (Yhy _ t g T x (vt he).1 hi hx) h
theorem Zzx{t:Tm}{steps:Int}(h:(xz t steps).2.2=0):t.err=0/\(xz t steps).1.err=0/\Gx t (xz t steps).1/\nf (xz t steps).1/\∀g T,t.inf g=(T,0)->(xz t steps).1.inf g=(T,0):=by
 unfold xz at h ⊢;by_cases h1:t.err≠0
 ·rw[if_pos h1] at h;exact absurd h h1
 ·rw[if_neg h1] at h ⊢;have h1':t.err=0:=Decidable.not_not.1 h1;by_cases h2:¬(0<=steps/\steps<=65536)\/t.near=false
  ·rw[if_pos h2] at h;cases h
  ·rw[if_neg h2] at h ⊢;obtain⟨a,b,c⟩:=RX _ t 0 h1' h;exact⟨h1',c,a,b,fun g T hi=>Yi _ t 0 g T h1' hi h⟩
end Go.Ab
namespace Go.Ab
open Go
set_option linter.all false
structure Ck where
 lems:List Fm
 tys:List Ty
 hyps:List Fm
def Ck.view(c:Ck):List V:=[.s .fm c.lems,.s .ty c.tys,.s .fm c.hyps]
def Ck.below(c:Ck)(l:List Ty):Ck:=⟨c.lems,c.tys++l,c.hyps.map fun f=>f.AV 0 l.length⟩
def Ck.AA(c:Ck)(f:Fm):Ck:=⟨c.lems,c.tys,c.hyps++[f]⟩
def Ck.room(c:Ck)(v h:Nat):Int:=if c.tys.length+v>16\/c.hyps.length+h>16 then 3 else 0
def ua(a b:List Int):List Int:=yj (BA (BA [] a) b)
def DZ(l:List Int)(n:Int):List Int:=(l.filter fun x=>decide (x>=n)).map (·-n)
def Ku:List Int->Bool
 |[]=>false
 |x::_=>x==0
def Fb(t:Tm):List Int:=if t.err=0 then Kl t else []
def Dv(f:Fm)(t:Tm):Fm×Int:=(if yq f 0 t=0 then f.put 0 t else A1,yq f 0 t)
def Fa(c:Ck)(t:Tm)(k:Int):Int:=if(y3 c.tys t).2≠0 then(y3 c.tys t).2 else if(y3 c.tys t).1.kind≠k then 7 else 0
def DE:List Tm->List Tm×Int
 |[]=>([],0)
 |t::l=>if(xz t 1000).2.2≠0 then([],(xz t 1000).2.2) else if(DE l).2≠0 then([],(DE l).2) else((xz t 1000).1::(DE l).1,0)
mutual
def we:Fm->Fm×Int
 | .mk k h ts zs=>if(DE ts).2≠0 then(A1,(DE ts).2) else if(y9 zs).2≠0 then(A1,(y9 zs).2) else(.mk k h (DE ts).1 (y9 zs).1,0)
def y9:List Fm->List Fm×Int
 |[]=>([],0)
 |f::l=>if(we f).2≠0 then([],(we f).2) else if(y9 l).2≠0 then([],(y9 l).2) else((we f).1::(y9 l).1,0)
end
mutual
def Eg:Fm->Bool
 | .mk k _ _ zs=>if k=1 then false else if k=2 then(JX zs).getD 0 false||(JX zs).getD 1 false else if k=5 then true else(JX zs).getLastD false
def JX:List Fm->List Bool
 |[]=>[]
 |f::l=>Eg f::JX l
end
abbrev CC:=Fm×List Int×Int
abbrev Rs:=Ck->CC
def yb(e:Int):CC:=(A1,[],e)
def y5(r:Rs)(c:Ck)(f:Fm)(t:Tm):List Int×Int:=
 if(r c).2.2≠0 then([],(r c).2.2) else if(Dv f t).2≠0 then([],(Dv f t).2) else((r c).2.1,KZ (Dv f t).1 (r c).1)
def Kw(r:CC):CC:=if r.2.2≠0 then yb r.2.2 else if r.1.err≠0 then yb 4 else(r.1,if Eg r.1=true then r.2.1 else [],0)
def Le(c:Ck)(i:Int):CC:=if i>=c.hyps.length then yb 8 else(c.hyps.getD (c.hyps.length-1-i.toNat) A1,[],0)
def Lb(c:Ck)(i:Int):CC:=if i>=c.lems.length then yb 9 else(c.lems.getD i.toNat A1,[],0)
def Mm(r0 r1:Rs)(c:Ck):CC:=if(r0 c).2.2≠0 then yb (r0 c).2.2 else(ue 2 (r0 c).1 (r1 c).1,ua (r0 c).2.1 (r1 c).2.1,(r1 c).2.2)
def Lr(j:Nat)(r0:Rs)(c:Ck):CC:=if(r0 c).2.2≠0 then yb (r0 c).2.2 else if(r0 c).1.kind≠2 then yb 10 else((r0 c).1.args.getD j A1,(r0 c).2.1,0)
def Lg(f:Fm)(r0:Rs)(c:Ck):CC:=
 if ym c.tys f≠0 then yb (ym c.tys f) else if c.room 0 1≠0 then yb 3 else(ue 3 f (r0 (c.AA f)).1,(r0 (c.AA f)).2.1,(r0 (c.AA f)).2.2)
def Mq(r0 r1:Rs)(c:Ck):CC:=
 if(r0 c).2.2≠0 then yb (r0 c).2.2 else if(r0 c).1.kind≠3 then yb 10 else if(r1 c).2.2≠0 then yb (r1 c).2.2
 else((r0 c).1.args.getD 1 A1,ua (r0 c).2.1 (r1 c).2.1,KZ ((r0 c).1.args.getD 0 A1) (r1 c).1)
def Lm(k:Int)(s:Ty)(r0:Rs)(c:Ck):CC:=
 if c.room 1 0≠0 then yb 3 else if(r0 (c.below [s])).2.2≠0 then yb (r0 (c.below [s])).2.2
 else if k=8 then(Bo 4 s (r0 (c.below [s])).1,DZ (r0 (c.below [s])).2.1 1,0)
 else if Ku (r0 (c.below [s])).2.1=true then yb 12 else(Bo 6 s (r0 (c.below [s])).1,DZ (r0 (c.below [s])).2.1 1,0)
def kI(k u a b:Int):Int:=if k=u then a else b
def kL(k u:Int)(a b:List Int):List Int:=if k=u then a else b
theorem G8{α:Type}{l:List α}{i:Nat}(h:i<l.length)(d:α):l.getD i d=l[i]:=by simp[List.getD,h]
def atR(k:Int)(t:Tm)(r0:Rs)(c:Ck):CC:=
 if(y3 c.tys t).2≠0 then yb (y3 c.tys t).2 else if(r0 c).2.2≠0 then yb (r0 c).2.2
 else if(r0 c).1.kind≠kI k 13 6 4 then yb 10 else if(r0 c).1.ty≠(y3 c.tys t).1 then yb 7
 else((Dv ((r0 c).1.args.getD 0 A1) t).1,kL k 13 (r0 c).2.1 (ua (r0 c).2.1 (Fb t)),(Dv ((r0 c).1.args.getD 0 A1) t).2)
def Ma(k:Int)(f:Fm)(t:Tm)(r0:Rs)(c:Ck):CC:=
 if ym c.tys f≠0 then yb (ym c.tys f) else if f.kind≠kI k 14 7 5 then yb 10
 else if(y3 c.tys t).2≠0 then yb (y3 c.tys t).2 else if f.ty≠(y3 c.tys t).1 then yb 7
 else(f,kL k 14 (y5 r0 c (f.args.getD 0 A1) t).1 (ua (y5 r0 c (f.args.getD 0 A1) t).1 (Fb t)),(y5 r0 c (f.args.getD 0 A1) t).2)
def EN(f:Fm):Fm×Int:=
 if y8 0 f=0 then(f,0) else if(we f).2≠0 then(A1,(we f).2) else if y8 0 (we f).1≠0 then(A1,6) else((we f).1,0)
def Hp(r1:Rs)(c:Ck)(a:Fm):CC:=r1 ((c.below [a.ty]).AA (a.args.getD 0 A1))
def MO(k:Int)(r0 r1:Rs)(c:Ck):CC:=
 if(r0 c).2.2≠0 then yb (r0 c).2.2 else if(r0 c).1.kind≠kI k 15 7 5 then yb 10 else if c.room 1 1≠0 then yb 3
 else if(Hp r1 c (r0 c).1).2.2≠0 then yb (Hp r1 c (r0 c).1).2.2
 else if(EN (Hp r1 c (r0 c).1).1).2≠0 then yb (EN (Hp r1 c (r0 c).1).1).2
 else if k=15/\Ku (Hp r1 c (r0 c).1).2.1=true then yb 12
 else((EN (Hp r1 c (r0 c).1).1).1.AV 1 (-1),ua (r0 c).2.1 (DZ (Hp r1 c (r0 c).1).2.1 1),0)
def Lu(f:Fm)(t:Tm)(r0 r1:Rs)(c:Ck):CC:=
 if v3 (c.tys++[Af]) f≠0 then yb (v3 (c.tys++[Af]) f) else if Fa c t 1≠0 then yb (Fa c t 1)
 else if(y5 r0 c f zT).2≠0 then yb (y5 r0 c f zT).2 else if c.room 1 1≠0 then yb 3
 else if(y5 r1 ((c.below [Af]).AA f) (f.AV 1 1) (sT (vT 0))).2≠0 then yb (y5 r1 ((c.below [Af]).AA f) (f.AV 1 1) (sT (vT 0))).2
 else((Dv f t).1,ua (ua (Fb t) (y5 r0 c f zT).1) (DZ (y5 r1 ((c.below [Af]).AA f) (f.AV 1 1) (sT (vT 0))).1 1),(Dv f t).2)
def Dj:Tm:= .mk 7 0 (.mk 0 []) []
def Cb:Tm:= .mk 8 0 (.mk 0 []) [vT 1,vT 0]
def KW(f:Fm)(t:Tm)(r0 r1:Rs)(c:Ck):CC:=
 if v3 (c.tys++[Am]) f≠0 then yb (v3 (c.tys++[Am]) f) else if Fa c t 2≠0 then yb (Fa c t 2)
 else if(y5 r0 c f Dj).2≠0 then yb (y5 r0 c f Dj).2 else if c.room 2 1≠0 then yb 3
 else if(y5 r1 ((c.below [Af,Am]).AA (f.AV 1 1)) (f.AV 1 2) Cb).2≠0 then yb (y5 r1 ((c.below [Af,Am]).AA (f.AV 1 1)) (f.AV 1 2) Cb).2
 else((Dv f t).1,ua (ua (Fb t) (y5 r0 c f Dj).1) (DZ (y5 r1 ((c.below [Af,Am]).AA (f.AV 1 1)) (f.AV 1 2) Cb).1 2),(Dv f t).2)
def JY(t:Tm)(c:Ck):CC:=(AP t t,[],Fa c t 1)
def MP(f:Fm)(r0 r1:Rs)(c:Ck):CC:=
 if v3 (c.tys++[Af]) f≠0 then yb (v3 (c.tys++[Af]) f) else if(r0 c).2.2≠0 then yb (r0 c).2.2 else if(r0 c).1.kind≠1 then yb 10
 else if(y5 r1 c f ((r0 c).1.terms.getD 0 A0)).2≠0 then yb (y5 r1 c f ((r0 c).1.terms.getD 0 A0)).2
 else((Dv f ((r0 c).1.terms.getD 1 A0)).1,(y5 r1 c f ((r0 c).1.terms.getD 0 A0)).1,(Dv f ((r0 c).1.terms.getD 1 A0)).2)
def EV:Tm:=AO (vT 1) (vT 0)
def K6(a:Fm):Fm×Int:=Dv (((a.args.getD 0 A1).args.getD 0 A1).AV 2 1) EV
def La(a:Fm):Ty:=yy a.ty (a.args.getD 0 A1).ty
def LK(r0:Rs)(c:Ck):CC:=
 if(r0 c).2.2≠0 then yb (r0 c).2.2 else if(r0 c).1.kind≠4\/((r0 c).1.args.getD 0 A1).kind≠5 then yb 10 else if(La (r0 c).1).err≠0 then yb 4
 else(Bo 5 (La (r0 c).1) (Bo 4 (r0 c).1.ty (K6 (r0 c).1).1),(r0 c).2.1,(K6 (r0 c).1).2)
def HG(k i:Int)(s:Ty)(ts:List Tm)(fs:List Fm)(rs:List Rs)(c:Ck):CC:=
 if k=1 then Le c i else if k=2 then Lb c i else if k=3 then Mm (rs.getD 0 fun _=>yb 0) (rs.getD 1 fun _=>yb 0) c
 else if k=4\/k=5 then Lr (k-4).toNat (rs.getD 0 fun _=>yb 0) c
 else if k=6 then Lg (fs.getD 0 A1) (rs.getD 0 fun _=>yb 0) c
 else if k=7 then Mq (rs.getD 0 fun _=>yb 0) (rs.getD 1 fun _=>yb 0) c
 else if k=8\/k=12 then Lm k s (rs.getD 0 fun _=>yb 0) c
 else if k=9\/k=13 then atR k (ts.getD 0 A0) (rs.getD 0 fun _=>yb 0) c
 else if k=10\/k=14 then Ma k (fs.getD 0 A1) (ts.getD 0 A0) (rs.getD 0 fun _=>yb 0) c
 else if k=11\/k=15 then MO k (rs.getD 0 fun _=>yb 0) (rs.getD 1 fun _=>yb 0) c
 else if k=16 then Lu (fs.getD 0 A1) (ts.getD 0 A0) (rs.getD 0 fun _=>yb 0) (rs.getD 1 fun _=>yb 0) c
 else if k=17 then KW (fs.getD 0 A1) (ts.getD 0 A0) (rs.getD 0 fun _=>yb 0) (rs.getD 1 fun _=>yb 0) c
 else if k=18 then JY (ts.getD 0 A0) c
 else if k=19 then MP (fs.getD 0 A1) (rs.getD 0 fun _=>yb 0) (rs.getD 1 fun _=>yb 0) c
 else LK (rs.getD 0 fun _=>yb 0) c
mutual
def Cf:Pf->Rs
 | .mk k i s ts fs zs=>fun c=>Kw (HG k i s ts fs (Ny zs) c)
def Ny:List Pf->List Rs
 |[]=>[]
 |p::l=>Cf p::Ny l
end
theorem XO:∀l:List Pf,Ny l=l.map Cf
 |[]=>rfl
 |p::l=>by rw[Ny,XO l];rfl
theorem R8(p:Pf)(c:Ck):Cf p c=Kw (HG p.kind p.index p.ty p.terms p.Ac (p.args.map Cf) c):=by cases p;simp only[Cf,XO];rfl
theorem XJ:∀l:List Fm,JX l=l.map Eg
 |[]=>rfl
 |p::l=>by rw[JX,XJ l];rfl
theorem Qh(f:Fm):Eg f=if f.kind=1 then false else if f.kind=2 then(f.args.map Eg).getD 0 false||(f.args.map Eg).getD 1 false else if f.kind=5 then true else(f.args.map Eg).getLastD false:=by
 cases f;simp only[Eg,XJ];rfl
theorem XM(f:Fm):we f=if(DE f.terms).2≠0 then(A1,(DE f.terms).2) else if(y9 f.args).2≠0 then(A1,(y9 f.args).2) else(.mk f.kind f.ty (DE f.terms).1 (y9 f.args).1,0):=by
 cases f;simp only[we];rfl
theorem wy{c:Ck}{v h:Nat}(hr:c.room v h=0):c.tys.length+v<=16/\c.hyps.length+h<=16:=by
 unfold Ck.room at hr;split at hr
 ·cases hr
 ·rename_i hc;omega
theorem MM{c:Ck}{v h:Nat}(hr:c.room v h≠0):c.room v h=3:=by unfold Ck.room at*;split<;>simp_all
theorem Yh:∀{g:List Ty},(∀x∈g,x.err=0)->v5 g=0
 |[],_=>rfl
 |x::l,h=>by
  simp only[v5];rw[if_neg (by simp[h x (by simp)])];exact Yh fun y hy=>h y (by simp[hy])
theorem Zvv{g:List Ty}(hl:g.length<=16)(h:∀x∈g,x.err=0):xq g=0:=by
 unfold xq;rw[if_neg (by omega)];exact Yh h
theorem LQ{α:Type}{f:α->Int}:∀{l:List α},xw f l=0->∀x∈l,f x=0
 |[],_,x,h=>by cases h
 |y::l,h,x,hx=>by
  simp only[xw] at h;by_cases h1:f y≠0
  ·rw[if_pos h1] at h;exact absurd h h1
  ·rw[if_neg h1] at h;rcases List.mem_cons.1 hx with rfl|hx
   ·exact Decidable.not_not.1 h1
   ·exact LQ h x hx
theorem Q2{t:Ty}(he:t.err=0)(hk:t.kind=1):t=Af:=by
 have h:=((Ty.Ae t).1 he).1;obtain⟨k,zs⟩:=t;rw[Ty.Ak,Bool.and_eq_true] at h;have h1:=h.1;simp only[Ty.kind,Ty.args] at hk h1;subst hk;have h2:zs.length=0:=by simpa[DF] using h1
 rw[List.eq_nil_of_length_eq_zero h2];rfl
theorem Yc{t:Ty}(he:t.err=0)(hk:t.kind=2):t=Am:=by
 have h:=((Ty.Ae t).1 he).1;obtain⟨k,zs⟩:=t;rw[Ty.Ak,Bool.and_eq_true] at h;have h1:=h.1;simp only[Ty.kind,Ty.args] at hk h1;subst hk;have h2:zs.length=0:=by simpa[DF] using h1
 rw[List.eq_nil_of_length_eq_zero h2];rfl
theorem Wt{g:List Ty}{t:Tm}(hg:∀x∈g,x.err=0)(h:(Em g t).2=0):t.err=0/\t.inf g=((Em g t).1,0)/\(Em g t).1.err=0:=by
 unfold Em at h ⊢;by_cases h1:t.err≠0
 ·rw[if_pos h1] at h;exact absurd h h1
 ·rw[if_neg h1] at h ⊢;have h1':=Decidable.not_not.1 h1;exact⟨h1',by rw[<-h],Tm.DM t g ((Tm.Ae t).1 h1').1 hg h⟩
theorem Lo{g:List Ty}{t:Tm}(h:(y3 g t).2=0):xq g=0/\t.err=0/\t.inf g=((y3 g t).1,0)/\(y3 g t).1.err=0:=by
 unfold y3 at h ⊢;by_cases h1:xq g≠0
 ·rw[if_pos h1] at h;exact absurd h h1
 ·rw[if_neg h1] at h ⊢;have h1':=Decidable.not_not.1 h1;exact⟨h1',Wt (ug h1').2 h⟩
theorem Ydy(f:Fm):∀g:List Ty,(∀x∈g,x.err=0)->f.shape=true->f.EF g=0->f.Bl g:=by
 induction f using Fm.ind with
 |h f ih=>
  intro g hg hs h;rw[Fm.FD] at h;by_cases h1:xw (tE g) f.terms≠0
  ·rw[if_pos h1] at h;exact absurd h h1
  ·rw[if_neg h1] at h;rw[Fm.Bq];refine⟨fun t ht=> ?_,fun x hx=> ?_⟩
   ·have h2:=LQ (Decidable.not_not.1 h1) t ht;unfold tE at h2;by_cases h3:(Em g t).2≠0
    ·rw[if_pos h3] at h2;exact absurd h2 h3
    ·rw[if_neg h3] at h2;obtain⟨a,b,c⟩:=Wt hg (Decidable.not_not.1 h3);by_cases h4:(Em g t).1.kind≠1
     ·rw[if_pos h4] at h2;cases h2
     ·rw[b,Q2 c (Decidable.not_not.1 h4)]
   ·have h2:=LQ h x hx;refine ih x hx _ ?_ (zw hs hx) h2;by_cases hq:xp f.kind=true
    ·rw[H7 hq];intro y hy;rcases List.mem_append.1 hy with hy|hy
     ·exact hg y hy
     ·simp only[List.mem_singleton] at hy;subst hy;have hk:=Bp.1 hq;rcases Qm hs with⟨h5,_⟩|⟨h5,_⟩|⟨_,_,h6⟩
      ·omega
      ·omega
      ·exact h6
    ·rw[HV hq];exact hg
theorem J2{g:List Ty}{f:Fm}(hg:∀x∈g,x.err=0)(h:v3 g f=0):f.err=0/\f.Bl g:=by
 unfold v3 at h;by_cases h1:f.err≠0
 ·rw[if_pos h1] at h;exact absurd h h1
 ·rw[if_neg h1] at h;have h1':=Decidable.not_not.1 h1;exact⟨h1',Ydy f g hg ((Fm.Ae f).1 h1').1 h⟩
theorem x6{g:List Ty}{f:Fm}(h:ym g f=0):f.err=0/\f.Bl g:=by
 unfold ym at h;by_cases h1:xq g≠0
 ·rw[if_pos h1] at h;exact absurd h h1
 ·rw[if_neg h1] at h;exact J2 (ug (Decidable.not_not.1 h1)).2 h
theorem XF{c:Ck}{t:Tm}{k:Int}(h:Fa c t k=0):t.err=0/\t.inf c.tys=((y3 c.tys t).1,0)/\(y3 c.tys t).1.err=0/\(y3 c.tys t).1.kind=k:=by
 unfold Fa at h;by_cases h1:(y3 c.tys t).2≠0
 ·rw[if_pos h1] at h;exact absurd h h1
 ·rw[if_neg h1] at h;obtain⟨_,a,b,d⟩:=Lo (Decidable.not_not.1 h1);refine⟨a,b,d,?_⟩;by_cases h2:(y3 c.tys t).1.kind≠k
  ·rw[if_pos h2] at h;cases h
  ·exact Decidable.not_not.1 h2
theorem Th(t:Tm):∀(g:List Ty) (b:Int),t.shape=true->(t.inf g).2=0->∀p∈t.vars b,p.1-p.2<g.length-b:=by
 induction t using Tm.ind with
 |h t ih=>
  intro g b hs h p hp;have hargs:=ze hs;by_cases k1:t.kind=1
  ·rw[uk hs k1] at hp;simp only[List.mem_singleton] at hp;subst hp;rw[Tm.AY,if_pos k1] at h;by_cases hi:t.index>=g.length
   ·rw[if_pos hi] at h;cases h
   ·simp only;omega
  ·rw[Ja k1] at hp;obtain⟨x,hx,hp⟩:=List.mem_flatMap.1 hp;by_cases k2:t.kind=2
   ·have e:up t.kind b=b+1:=by simp[up,k2]
    rw[e] at hp;rw[Tm.AY,if_neg k1,if_pos k2] at h;have h0:(Tm.AH (g++[t.ty]) t.args).2=0:=by
     by_cases h1:(Tm.AH (g++[t.ty]) t.args).2≠0
     ·rw[if_pos h1] at h;exact h
     ·exact Decidable.not_not.1 h1
    have:=ih x hx (g++[t.ty]) (b+1) (hargs x hx) (Tm.CM _ _ h0 x hx) p hp;simp only[List.length_append,List.length_cons,List.length_nil] at this;omega
   ·have e:up t.kind b=b:=by simp[up,k2]
    rw[e] at hp;exact ih x hx g b (hargs x hx) ((vz (T:=(t.inf g).1) k1 k2 (by rw[<-h])).1 x hx) p hp
def Ba(n:Nat)(l:List Int):Prop:=l.Nodup/\∀u∈l,0<=u/\u<n
theorem Ba.nil(n:Nat):Ba n []:=⟨List.nodup_nil,fun u h=>by cases h⟩
theorem Ba.len{n:Nat}{l:List Int}(h:Ba n l):l.length<=n:=(Zze n l h.1 h.2).1
theorem C0{a b:List Int}{x:Int}:x∈ua a b↔x∈a\/x∈b:=by
 rw[ua,(ww _).mem_iff,C9,C9];simp
theorem Ba.union{n:Nat}{a b:List Int}(ha:∀u∈a,0<=u/\u<(n:Int))(hb:∀u∈b,0<=u/\u<(n:Int)):Ba n (ua a b):=by
 refine⟨?_,fun u hu=> ?_⟩
 ·rw[ua,(ww _).nodup_iff];exact JG (JG List.nodup_nil)
 ·rcases C0.1 hu with h|h
  ·exact ha u h
  ·exact hb u h
theorem GK{l:List Int}{n x:Int}:x∈DZ l n↔0<=x/\x+n∈l:=by
 simp only[DZ,List.mem_map,List.mem_filter,decide_eq_true_eq];constructor
 ·rintro ⟨y,⟨h1,h2⟩,rfl⟩;exact⟨by omega,by rw[Int.sub_add_cancel];exact h1⟩
 ·rintro ⟨h1,h2⟩;exact⟨x+n,⟨h2,by omega⟩,by omega⟩
theorem Ba.out{n m:Nat}{l:List Int}(h:Ba (n+m) l):Ba n (DZ l m):=by
 refine⟨?_,fun u hu=> ?_⟩
 ·have h1:(l.filter fun x=>decide (x>=(m:Int))).Nodup:=h.1.filter _;unfold DZ;rw[List.nodup_iff_pairwise_ne,List.pairwise_map];exact(List.nodup_iff_pairwise_ne.1 h1).imp fun hne e=>hne (by omega)
 ·obtain ⟨h1,h2⟩:=GK.1 hu;have:=h.2 _ h2;exact⟨h1,by omega⟩
theorem un{t:Tm}{g:List Ty}{T:Ty}(h:t.inf g=(T,0)):Ba g.length (Fb t):=by
 unfold Fb;by_cases he:t.err=0
 ·rw[if_pos he];refine⟨Zpm t,fun u hu=> ?_⟩;obtain⟨h0,h1⟩:=F4.1 hu;refine⟨h0,?_⟩;obtain⟨p,hp,e⟩:=Er.2 h1;have:=Th t g 0 ((Tm.Ae t).1 he).1 (by rw[h]) p hp;omega
 ·rw[if_neg he];exact .nil _
theorem Yb5{t:Tm}{g:List Ty}(m:List Ty)(hs:t.shape=true)(h:(t.inf g).2=0):t.inf (m++g)=t.inf g:=by
 have h1:=SC t [] m g g.length 0 hs (by omega);rw[List.nil_append,List.nil_append] at h1;rw[<-h1];congr 1;refine(FJ t 0 hs fun p hp=> ?_).symm;have:=Th t g 0 hs h p hp;rw[yz,if_neg (by omega)]
theorem Zw4(f:Fm):∀(g m:List Ty),f.shape=true->f.Bl g->f.Bl (m++g):=by
 induction f using Fm.ind with
 |h f ih=>
  intro g m hs hok;rw[Fm.Bq] at hok ⊢;refine⟨fun t ht=> ?_,fun x hx=> ?_⟩
  ·have:=hok.1 t ht;rw[Yb5 m (ye hs ht) (by rw[this])];exact this
  ·have:=ih x hx _ m (zw hs hx) (hok.2 x hx);by_cases hq:xp f.kind=true
   ·rw[H7 hq] at this ⊢;rw[List.append_assoc];exact this
   ·rw[HV hq] at this ⊢;exact this
theorem vw{f x:Fm}(hf:f.err=0)(hx:x∈f.args):x.err=0:=by
 have h:=(Fm.Ae f).1 hf;have h1:=zc Fm.size hx;have h2:=f.size_eq;exact(Fm.Ae x).2 ⟨zw h.1 hx,by omega⟩
theorem Ts{f:Fm}{t:Tm}(hf:f.err=0)(ht:t∈f.terms):t.err=0:=by
 have h:=(Fm.Ae f).1 hf;have h1:=zc Tm.size ht;have h2:=f.size_eq;exact(Tm.Ae t).2 ⟨ye h.1 ht,by omega⟩
theorem MJ{f:Fm}(hs:f.shape=true)(hk:f.kind=2\/f.kind=3):∃a b,f=ue f.kind a b:=by
 rw[Fm.Ak,Bool.and_eq_true,Bool.and_eq_true] at hs;have h1:=hs.1.1;unfold Fm.head at h1;rw[if_neg (by omega),if_pos hk] at h1;simp only[Bool.and_eq_true,beq_iff_eq] at h1;clear hs;obtain⟨k,h,ts,zs⟩:=f;simp only[Fm.Ah,Fm.Ai,Fm.Ad] at h1 hk;have e1:ts=[]:=List.eq_nil_of_length_eq_zero h1.1.2
 match zs,h1 with
 |[a,b],h1=>
  refine⟨a,b,?_⟩;have e2:h= .mk 0 []:=Ty.DP (by simp_all);rw[e1,e2];rfl
 |[],h1=>simp at h1
 |[a],h1=>simp at h1
 |a::b::c::l,h1=>simp at h1
theorem Hw{f:Fm}(hs:f.shape=true)(hk:4<=f.kind/\f.kind<=7):∃a,f=Bo f.kind f.ty a:=by
 rw[Fm.Ak,Bool.and_eq_true,Bool.and_eq_true] at hs;have h1:=hs.1.1;unfold Fm.head at h1;rw[if_neg (by omega),if_neg (by omega),if_pos (by omega)] at h1;simp only[Bool.and_eq_true,beq_iff_eq] at h1;clear hs;obtain⟨k,h,ts,zs⟩:=f;simp only[Fm.Ah,Fm.Ai,Fm.Ad] at h1 hk;have e1:ts=[]:=List.eq_nil_of_length_eq_zero h1.1.2
 match zs,h1 with
 |[a],h1=>exact⟨a,by rw[e1];rfl⟩
 |[],h1=>simp at h1
 |a::b::l,h1=>simp at h1
theorem Py{f:Fm}(hs:f.shape=true)(hk:f.kind=1):∃a b,f=AP a b:=by
 rw[Fm.Ak,Bool.and_eq_true,Bool.and_eq_true] at hs;have h1:=hs.1.1;unfold Fm.head at h1;rw[if_pos hk] at h1;simp only[Bool.and_eq_true,beq_iff_eq] at h1;clear hs;obtain⟨k,h,ts,zs⟩:=f;simp only[Fm.Ah,Fm.Ai,Fm.Ad] at h1 hk;have e1:zs=[]:=List.eq_nil_of_length_eq_zero h1.2
 match ts,h1 with
 |[a,b],h1=>
  have e2:h= .mk 0 []:=Ty.DP (by simp_all);exact⟨a,b,by rw[e1,e2,hk];rfl⟩
 |[],h1=>simp at h1
 |[a],h1=>simp at h1
 |a::b::c::l,h1=>simp at h1
theorem Ix{f:Fm}(hf:f.shape=true)(hk:4<=f.kind/\f.kind<=7):f.ty.err=0:=by
 rcases Qm hf with⟨h,_⟩|⟨h,_⟩|⟨_,_,h⟩
 ·omega
 ·omega
 ·exact h
theorem XP{k:Int}{a b:Fm}{g:List Ty}(hk:k=2\/k=3)(h:(ue k a b).Bl g):a.Bl g/\b.Bl g:=by
 rw[Fm.Bq] at h;have e:Dx g (ue k a b)=g:=HV (by show ¬xp k=true;rw[Bp];omega);rw[e] at h;exact⟨h.2 a (by simp[ue]),h.2 b (by simp[ue])⟩
theorem Ju{k:Int}{s:Ty}{a:Fm}{g:List Ty}(hk:4<=k/\k<=7)(h:(Bo k s a).Bl g):a.Bl (g++[s]):=by
 rw[Fm.Bq] at h;have e:Dx g (Bo k s a)=g++[s]:=H7 (Bp.2 hk);rw[e] at h;exact h.2 a (by simp[Bo])
theorem CL{a b:Tm}{g:List Ty}:(AP a b).Bl g↔a.inf g=(Af,0)/\b.inf g=(Af,0):=by
 rw[Fm.Bq];simp[AP]
theorem W8{k:Int}{a b:Fm}(hk:k=2\/k=3)(ha:a.shape=true)(hb:b.shape=true):(ue k a b).shape=true:=by
 rw[Fm.Ak];rcases hk with rfl|rfl<;>simp[ue,Fm.head,ha,hb,Ty.BI,Ty.kind,Ty.args]
theorem u3{k:Int}{s:Ty}{a:Fm}(hk:4<=k/\k<=7)(hs:s.err=0)(ha:a.shape=true):(Bo k s a).shape=true:=by
 rw[Fm.Ak];have h1:=(Ty.Ae s).1 hs;have h2:s.ok=true:=Kg h1.1 h1.2;have:k=4\/k=5\/k=6\/k=7:=by omega
 rcases this with rfl|rfl|rfl|rfl<;>simp[Bo,Fm.head,ha,h2]
theorem Ok(k:Int)(a b:Fm):(ue k a b).size=1+a.size+b.size:=by rw[Fm.size_eq];simp[ue];omega
theorem J1(k:Int)(s:Ty)(a:Fm):(Bo k s a).size=1+a.size:=by rw[Fm.size_eq];simp[Bo]
theorem Jo{f:Fm}{g h:List Ty}(m:List Ty)(hf:f.shape=true)(hok:f.Bl (g++h)):(f.AV h.length m.length).Bl (g++m++h):=by
 have:=Ybw g m h.length f h 0 (by omega) hf hok;exact this
theorem L1{f:Fm}{t:Tm}{g:List Ty}{σ:Ty}(hf:f.Bl (g++[σ]))(ht:t.inf g=(σ,0))(h:(Dv f t).2=0):(Dv f t).1.err=0/\(Dv f t).1.Bl g:=by
 have h':yq f 0 t=0:=h;have e:(Dv f t).1=f.put 0 t:=if_pos h';obtain⟨h1,h2,_⟩:=Rh h';rw[e];refine⟨Zzn (by omega) h',?_⟩;have h3:=Pv 0 t g σ ((Tm.Ae t).1 h2).1 ht f [] 0 rfl ((Fm.Ae f).1 h1).1 (by simpa using hf);rw[List.append_nil] at h3;exact h3
structure Ck.ok (c:Ck):Prop where
 ctx:xq c.tys=0
 nh:c.hyps.length<=16
 nl:c.lems.length<=32
 hyps:∀f∈c.hyps,f.err=0/\f.Bl c.tys
 lems:∀f∈c.lems,f.err=0/\f.Bl []
theorem Ck.ok.len{c:Ck}(h:c.ok):c.tys.length<=16:=(ug h.ctx).1
theorem Ck.ok.all{c:Ck}(h:c.ok):∀x∈c.tys,x.err=0:=(ug h.ctx).2
theorem Ck.ok.below{c:Ck}(h:c.ok){l:List Ty}(hl:c.tys.length+l.length<=16)(he:∀x∈l,x.err=0):(c.below l).ok:=by
 refine⟨Zvv (by simp[Ck.below];omega) fun x hx=> ?_,by simp[Ck.below];exact h.nh,h.nl,fun f hf=> ?_,h.lems⟩
 ·rcases List.mem_append.1 hx with hx|hx
  ·exact h.all x hx
  ·exact he x hx
 ·obtain ⟨y,hy,rfl⟩:=List.mem_map.1 hf;obtain⟨h1,h2⟩:=h.hyps y hy;refine⟨K5 h1 (by omega),?_⟩;have h3:=Jo (g:=c.tys) (h:=[]) l ((Fm.Ae y).1 h1).1 (by simpa using h2);simpa[Ck.below] using h3
theorem Ck.ok.AA{c:Ck}(h:c.ok){f:Fm}(hl:c.hyps.length+1<=16)(hf:f.err=0)(hok:f.Bl c.tys):(c.AA f).ok:=by
 refine⟨h.ctx,by simp[Ck.AA];omega,h.nl,fun y hy=> ?_,h.lems⟩;rcases List.mem_append.1 hy with hy|hy
 ·exact h.hyps y hy
 ·simp only[List.mem_singleton] at hy;subst hy;exact⟨hf,hok⟩
def v6(c:Ck)(r:CC):Prop:=r.2.2=0->r.1.shape=true/\r.1.size<=20000000/\r.1.Bl c.tys/\Ba c.tys.length r.2.1
def FH(c:Ck)(r:CC):Prop:=(r.2.2=0->r.1.err=0/\r.1.Bl c.tys/\Ba c.tys.length r.2.1)/\(r.2.2≠0->r=yb r.2.2)
theorem zq(c:Ck){e:Int}(he:e≠0):v6 c (yb e):=fun h=>absurd h he
theorem Yek{c:Ck}{r:CC}(h:v6 c r):FH c (Kw r):=by
 unfold Kw;by_cases h1:r.2.2≠0
 ·rw[if_pos h1];exact⟨fun h=>absurd h h1,fun _=>rfl⟩
 ·rw[if_neg h1];by_cases h2:r.1.err≠0
  ·rw[if_pos h2];exact⟨fun h=>absurd h (by decide),fun _=>rfl⟩
  ·rw[if_neg h2];obtain⟨_,_,h4,h5⟩:=h (Decidable.not_not.1 h1);refine⟨fun _=>⟨Decidable.not_not.1 h2,h4,?_⟩,fun h=>absurd rfl h⟩;simp only;split
   ·exact h5
   ·exact .nil _
def B4(r:Rs):Prop:=∀c,c.ok->FH c (r c)
theorem B4.good{r:Rs}(h:B4 r){c:Ck}(hc:c.ok)(he:(r c).2.2=0):(r c).1.err=0/\(r c).1.Bl c.tys/\Ba c.tys.length (r c).2.1:=(h c hc).1 he
theorem yi{f:Fm}(h:f.err=0):f.shape=true/\f.size<=20000000:=by
 have:=(Fm.Ae f).1 h;exact⟨this.1,by omega⟩
theorem UL{c:Ck}(hc:c.ok){i:Int}(hi:0<=i):v6 c (Le c i):=by
 unfold Le;split
 ·exact zq c (by decide)
 ·rename_i h;intro _;have hlt:c.hyps.length-1-i.toNat<c.hyps.length:=by omega
  simp only;rw[G8 hlt];obtain⟨h1,h2⟩:=hc.hyps _ (List.getElem_mem hlt);exact⟨(yi h1).1,(yi h1).2,h2,.nil _⟩
theorem VZ{c:Ck}(hc:c.ok){i:Int}(hi:0<=i):v6 c (Lb c i):=by
 unfold Lb;split
 ·exact zq c (by decide)
 ·rename_i h;intro _;have hlt:i.toNat<c.lems.length:=by omega
  simp only;rw[G8 hlt];obtain⟨h1,h2⟩:=hc.lems _ (List.getElem_mem hlt);have h3:=Zw4 _ [] c.tys (yi h1).1 h2;rw[List.append_nil] at h3;exact⟨(yi h1).1,(yi h1).2,h3,.nil _⟩
theorem XL{r0 r1:Rs}(h0:B4 r0)(h1:B4 r1){c:Ck}(hc:c.ok):v6 c (Mm r0 r1 c):=by
 unfold Mm;split
 ·rename_i h;exact zq c h
 ·rename_i h;intro he;obtain⟨a1,a2,a3⟩:=h0.good hc (Decidable.not_not.1 h);obtain⟨b1,b2,b3⟩:=h1.good hc he;have s1:=(Fm.Ae _).1 a1;have s2:=(Fm.Ae _).1 b1;exact⟨W8 (.inl rfl) s1.1 s2.1,by rw[Ok];omega,OU (.inl rfl) a2 b2,.union a3.2 b3.2⟩
theorem Nu{r0:Rs}(h0:B4 r0){c:Ck}(hc:c.ok){j:Nat}(hj:j<2):v6 c (Lr j r0 c):=by
 unfold Lr;split
 ·rename_i h;exact zq c h
 rename_i h;split
 ·exact zq c (by decide)
 rename_i h2;intro _;obtain⟨a1,a2,a3⟩:=h0.good hc (Decidable.not_not.1 h);have s1:=(Fm.Ae _).1 a1;obtain⟨x,y,e⟩:=MJ s1.1 (.inl (Decidable.not_not.1 h2));have hk:(r0 c).1.kind=2:=Decidable.not_not.1 h2;rw[hk] at e;rw[e] at a2;obtain⟨o1,o2⟩:=XP (.inl rfl) a2;have e1:=vw a1 (x:=x) (by rw[e];simp[ue]);have e2:=vw a1 (x:=y) (by rw[e];simp[ue]);have:(r0 c).1.args=[x,y]:=by rw[e];rfl
 simp only[this];rcases j with _|_|j
 ·exact ⟨(yi e1).1,(yi e1).2,o1,a3⟩
 ·exact ⟨(yi e2).1,(yi e2).2,o2,a3⟩
 ·omega
theorem VG{r0:Rs}(h0:B4 r0){f:Fm}{c:Ck}(hc:c.ok):v6 c (Lg f r0 c):=by
 unfold Lg;split
 ·rename_i h;exact zq c h
 rename_i h;split
 ·exact zq c (by decide)
 rename_i h2;intro he;obtain⟨f1,f2⟩:=x6 (Decidable.not_not.1 h);have hr:=wy (Decidable.not_not.1 h2);obtain⟨a1,a2,a3⟩:=h0.good (hc.AA (f:=f) hr.2 f1 f2) he;have s1:=(Fm.Ae _).1 a1;have s2:=(Fm.Ae _).1 f1;exact⟨W8 (.inr rfl) s2.1 s1.1,by rw[Ok];omega,OU (.inr rfl) f2 a2,a3⟩
theorem TM{r0 r1:Rs}(h0:B4 r0)(h1:B4 r1){c:Ck}(hc:c.ok):v6 c (Mq r0 r1 c):=by
 unfold Mq;split
 ·rename_i h;exact zq c h
 rename_i h;split
 ·exact zq c (by decide)
 rename_i h2;split
 ·rename_i h;exact zq c h
 rename_i h3;intro _;obtain⟨a1,a2,a3⟩:=h0.good hc (Decidable.not_not.1 h);obtain⟨b1,b2,b3⟩:=h1.good hc (Decidable.not_not.1 h3);have s1:=(Fm.Ae _).1 a1;have hk:(r0 c).1.kind=3:=Decidable.not_not.1 h2;obtain⟨x,y,e⟩:=MJ s1.1 (.inr hk);rw[hk] at e;rw[e] at a2;obtain⟨o1,o2⟩:=XP (.inr rfl) a2;have e2:=vw a1 (x:=y) (by rw[e];simp[ue]);have:(r0 c).1.args=[x,y]:=by rw[e];rfl
 simp only[this];exact⟨(yi e2).1,(yi e2).2,o2,.union a3.2 b3.2⟩
theorem Nm{r0:Rs}(h0:B4 r0){k:Int}{s:Ty}(hs:s.err=0){c:Ck}(hc:c.ok):v6 c (Lm k s r0 c):=by
 unfold Lm;split
 ·exact zq c (by decide)
 rename_i h;have hr:=wy (Decidable.not_not.1 h);have hb:=hc.below (l:=[s]) hr.1 (by simpa using hs);split
 ·rename_i h;exact zq c h
 rename_i h2;obtain⟨a1,a2,a3⟩:=h0.good hb (Decidable.not_not.1 h2);have s1:=(Fm.Ae _).1 a1;have hu:Ba c.tys.length (DZ (r0 (c.below [s])).2.1 1):=by
  have:=Ba.out (n:=c.tys.length) (m:=1) (l:=(r0 (c.below [s])).2.1) (by simpa[Ck.below] using a3);exact this
 split
 ·intro _;exact⟨u3 (by omega) hs s1.1,by rw[J1];omega,IJ (by omega) a2,hu⟩
 split
 ·exact zq c (by decide)
 ·intro _;exact⟨u3 (by omega) hs s1.1,by rw[J1];omega,IJ (by omega) a2,hu⟩
theorem Nw{r0:Rs}(h0:B4 r0){k:Int}{t:Tm}{c:Ck}(hc:c.ok):v6 c (atR k t r0 c):=by
 unfold atR;split
 ·rename_i h;exact zq c h
 rename_i h;split
 ·rename_i h;exact zq c h
 rename_i h2;split
 ·exact zq c (by decide)
 rename_i h3;split
 ·exact zq c (by decide)
 rename_i h4;intro he;obtain⟨_,t1,t2,_⟩:=Lo (Decidable.not_not.1 h);obtain⟨a1,a2,a3⟩:=h0.good hc (Decidable.not_not.1 h2);have s1:=(Fm.Ae _).1 a1;have hk:(r0 c).1.kind=kI k 13 6 4:=Decidable.not_not.1 h3;have hk':4<=(r0 c).1.kind/\(r0 c).1.kind<=7:=by rw[hk,kI];split<;>omega
 obtain⟨x,e⟩:=Hw s1.1 hk';rw[e] at a2;have o1:=Ju hk' a2;have hx:(r0 c).1.args.getD 0 A1=x:=by rw[e];rfl
 rw[hx] at he ⊢;have hty:(r0 c).1.ty=(y3 c.tys t).1:=Decidable.not_not.1 h4;rw[hty] at o1;obtain⟨p1,p2⟩:=L1 o1 t2 he;refine⟨(yi p1).1,(yi p1).2,p2,?_⟩;simp only[kL];split
 ·exact a3
 ·exact .union a3.2 (un t2).2
theorem vf{r0:Rs}(h0:B4 r0){c:Ck}(hc:c.ok)(f:Fm)(t:Tm):Ba c.tys.length (y5 r0 c f t).1:=by
 unfold y5;split
 ·exact .nil _
 rename_i h;split
 ·exact .nil _
 ·exact (h0.good hc (Decidable.not_not.1 h)).2.2
theorem MY{r0:Rs}(h0:B4 r0){k:Int}{f:Fm}{t:Tm}{c:Ck}(hc:c.ok):v6 c (Ma k f t r0 c):=by
 unfold Ma;split
 ·rename_i h;exact zq c h
 rename_i h;split
 ·exact zq c (by decide)
 split
 ·rename_i h;exact zq c h
 rename_i h3;split
 ·exact zq c (by decide)
 intro _;obtain⟨f1,f2⟩:=x6 (Decidable.not_not.1 h);obtain⟨_,t1,t2,_⟩:=Lo (Decidable.not_not.1 h3);have hp:=vf h0 hc (f.args.getD 0 A1) t;refine⟨(yi f1).1,(yi f1).2,f2,?_⟩;simp only[kL];split
 ·exact hp
 ·exact .union hp.2 (un t2).2
theorem TX:∀(l:List Tm),(DE l).2=0->(DE l).1.length=l.length/\(∀t∈(DE l).1,t.err=0)/\∀(g:List Ty) (T:Ty),(∀t∈l,t.inf g=(T,0))->∀t∈(DE l).1,t.inf g=(T,0)
 |[],_=>⟨rfl,fun t h=>absurd h (List.not_mem_nil),fun g T _ t h=>absurd h (List.not_mem_nil)⟩
 |x::l,h=>by
  simp only[DE] at h ⊢;by_cases h1:(xz x 1000).2.2≠0
  ·rw[if_pos h1] at h;exact absurd h h1
  ·rw[if_neg h1] at h ⊢;by_cases h2:(DE l).2≠0
   ·rw[if_pos h2] at h;exact absurd h h2
   ·rw[if_neg h2];obtain⟨a1,a2,a3⟩:=TX l (Decidable.not_not.1 h2);obtain⟨_,b1,_,_,b2⟩:=Zzx (Decidable.not_not.1 h1);refine⟨by simp[a1],fun t ht=> ?_,fun g T hl t ht=> ?_⟩
    ·rcases List.mem_cons.1 ht with rfl|ht
     ·exact b1
     ·exact a2 t ht
    ·rcases List.mem_cons.1 ht with rfl|ht
     ·exact b2 g T (hl x (by simp))
     ·exact a3 g T (fun t ht=>hl t (by simp[ht])) t ht
theorem WV(P:Fm->Fm->Prop):∀(l:List Fm),(∀f∈l,(we f).2=0->P f (we f).1)->(y9 l).2=0->(y9 l).1.length=l.length/\∀(i:Nat) (h1:i<l.length) (h2:i<(y9 l).1.length),P l[i] (y9 l).1[i]
 |[],_,_=>⟨rfl,fun i h=>by simp at h⟩
 |x::l,hP,h=>by
  have h0:=h;simp only[y9] at h0;by_cases h1:(we x).2≠0
  ·rw[if_pos h1] at h0;exact absurd h0 h1
  ·rw[if_neg h1] at h0;by_cases h2:(y9 l).2≠0
   ·rw[if_pos h2] at h0;exact absurd h0 h2
   ·have e:y9 (x::l)=((we x).1::(y9 l).1,0):=by simp only[y9];rw[if_neg h1,if_neg h2]
    obtain⟨a1,a2⟩:=WV P l (fun f hf=>hP f (by simp[hf])) (Decidable.not_not.1 h2);generalize y9 (x::l)=q at h e ⊢;subst e;refine⟨by simp[a1],fun i hi hj=> ?_⟩;cases i with
    |zero=>exact hP x (by simp) (Decidable.not_not.1 h1)
    |succ i=>exact a2 i (by simpa using hi) (by simpa using hj)
theorem PK{α:Type}{f:α->Nat}{C:Nat}:∀(l:List α),(∀x∈l,f x<=C)->(l.map f).sum<=C*l.length
 |[],_=>by simp
 |x::l,h=>by
  have h1:=PK l fun y hy=>h y (by simp[hy]);have h2:=h x (by simp);simp only[List.map_cons,List.sum_cons,List.length_cons,Nat.mul_add,Nat.mul_one];omega
theorem Vd(f:Fm):(we f).2=0->f.shape=true->(we f).1.kind=f.kind/\(we f).1.shape=true/\(we f).1.size<=4096*f.size/\∀g,f.Bl g->(we f).1.Bl g:=by
 induction f using Fm.ind with
 |h f ih=>
  intro h hs;rw[XM] at h ⊢;by_cases h1:(DE f.terms).2≠0
  ·rw[if_pos h1] at h;exact absurd h h1
  rw[if_neg h1] at h ⊢;by_cases h2:(y9 f.args).2≠0
  ·rw[if_pos h2] at h;exact absurd h h2
  rw[if_neg h2];obtain⟨a1,a2,a3⟩:=TX f.terms (Decidable.not_not.1 h1);obtain⟨b1,b2⟩:=WV (fun x y=>y.kind=x.kind/\y.shape=true/\y.size<=4096*x.size/\∀g,x.Bl g->y.Bl g) f.args (fun x hx he=>ih x hx he (zw hs hx)) (Decidable.not_not.1 h2);have hsh:(Fm.mk f.kind f.ty (DE f.terms).1 (y9 f.args).1).shape=true:=by
   rw[Fm.Ak,Bool.and_eq_true,Bool.and_eq_true] at hs ⊢;refine⟨⟨?_,List.all_eq_true.2 fun t ht=>((Tm.Ae t).1 (a2 t ht)).1⟩,List.all_eq_true.2 fun y hy=> ?_⟩
   ·have:=hs.1.1;unfold Fm.head at this ⊢;simp only[Fm.Ah,Fm.Ai,Fm.Ad,a1,b1] at this ⊢;exact this
   ·obtain ⟨i,hi,rfl⟩:=List.getElem_of_mem hy;have hi':i<(y9 f.args).1.length:=hi;exact(b2 i (by omega) hi').2.1
  refine⟨rfl,hsh,?_,fun g hok=> ?_⟩
  ·have e1:=f.size_eq;rw[Fm.size_eq];simp only[Fm.Ai,Fm.Ad];have s1:=PK (f:=Tm.size) (C:=4096) (DE f.terms).1 fun t ht=>((Tm.Ae t).1 (a2 t ht)).2;have s2:=zd Tm.size Tm.size_pos f.terms;have s3:((y9 f.args).1.map Fm.size).sum<=4096*(f.args.map Fm.size).sum:=by
    have:∀(l m:List Fm),m.length=l.length->(∀(i:Nat) (h1:i<l.length) (h2:i<m.length),m[i].size<=4096*l[i].size)->(m.map Fm.size).sum<=4096*(l.map Fm.size).sum:=by
     intro l;induction l with
     |nil=>intro m hm _;have:m=[]:=List.eq_nil_of_length_eq_zero hm;subst this;simp
     |cons x l ihl=>
      intro m hm hh
      match m,hm with
      |y::m,hm=>
       have q1:=ihl m (by simpa using hm) fun i h1 h2=>by have:=hh (i+1) (by simpa using h1) (by simpa using h2);simpa using this
       have q2:=hh 0 (by simp) (by simp);simp only[List.getElem_cons_zero] at q2;simp only[List.map_cons,List.sum_cons];omega
    exact this f.args _ b1 fun i h1 h2=>(b2 i h1 h2).2.2.1
   rw[a1] at s1;omega
  ·rw[Fm.Bq] at hok ⊢;refine⟨fun t ht=>a3 g Af hok.1 t ht,fun y hy=> ?_⟩;obtain⟨i,hi,rfl⟩:=List.getElem_of_mem hy;have hi':i<(y9 f.args).1.length:=hi;have hc:Dx g (Fm.mk f.kind f.ty (DE f.terms).1 (y9 f.args).1)=Dx g f:=rfl;rw[hc];exact(b2 i (by omega) hi').2.2.2 _ (hok.2 _ (List.getElem_mem (by omega)))
theorem Zvz{f:Fm}(s:Tm)(hs:f.shape=true)(h:y8 0 f=0):f.AV 1 (-1)=f.put 0 s:=by
 refine Fm.A7 f 0 fun p hp=> ?_;have h1:=Zys h p hp;have h2:=WZ p hp;refine A7 p.1 0 fun q hq=> ?_;have h3:=Ybm h1 q hq;rw[yz,GV];have h4:=uj p.1 0 q hq;by_cases h5:q.1-q.2>=1+p.2
 ·rw[if_pos h5,if_neg h3,if_pos (by omega)];rfl
 ·rw[if_neg h5,if_neg h3,if_neg (by omega)]
theorem Zz7{f:Fm}{g:List Ty}{σ:Ty}(hσ:σ.err=0)(hs:f.shape=true)(h:y8 0 f=0)(hok:f.Bl (g++[σ])):(f.AV 1 (-1)).shape=true/\(f.AV 1 (-1)).size=f.size/\(f.AV 1 (-1)).Bl g:=by
 have h1:=(Ty.Ae σ).1 hσ;obtain⟨d1,d2,_⟩:=Zui σ h1.1 h1.2;rw[Zvz (Df σ) hs h];refine⟨O2 (by omega) d2 hs,?_,?_⟩
 ·have:=Ls 0 (Df σ) d2 f hs 0;have e:ve 0 (f.A2 0)=0:=h;show(f.re (fun b t=>t.re (xd (0+b) (Df σ)) 0) 0).size=f.size;rw[this,e,Nat.zero_mul];rfl
 ·have h3:=Pv 0 (Df σ) g σ d2 (d1 g) f [] 0 rfl hs (by simpa using hok);rw[List.append_nil] at h3;exact h3
theorem Ycg{f:Fm}(hf:f.err=0)(h:(EN f).2=0):(EN f).1.shape=true/\(EN f).1.size<=16777216/\y8 0 (EN f).1=0/\(∀g,f.Bl g->(EN f).1.Bl g)/\(EN f).1.kind=f.kind:=by
 have s1:=(Fm.Ae _).1 hf;unfold EN at h ⊢;by_cases h1:y8 0 f=0
 ·rw[if_pos h1];exact⟨s1.1,by simp only;omega,h1,fun g h=>h,rfl⟩
 rw[if_neg h1] at h ⊢;by_cases h2:(we f).2≠0
 ·rw[if_pos h2] at h;exact absurd h h2
 rw[if_neg h2] at h ⊢;by_cases h3:y8 0 (we f).1≠0
 ·rw[if_pos h3] at h;cases h
 rw[if_neg h3];obtain⟨k,a,b,c⟩:=Vd f (Decidable.not_not.1 h2) s1.1;exact⟨a,by simp only;omega,Decidable.not_not.1 h3,c,k⟩
theorem Oe{r0 r1:Rs}(h0:B4 r0)(h1:B4 r1){k:Int}{c:Ck}(hc:c.ok):v6 c (MO k r0 r1 c):=by
 unfold MO;split
 ·rename_i h;exact zq c h
 rename_i e0;split
 ·exact zq c (by decide)
 rename_i e1;split
 ·exact zq c (by decide)
 rename_i e2;split
 ·rename_i h;exact zq c h
 rename_i e3;split
 ·rename_i h;exact zq c h
 rename_i e4;split
 ·exact zq c (by decide)
 intro _;obtain⟨a1,a2,a3⟩:=h0.good hc (Decidable.not_not.1 e0);have s1:=(Fm.Ae _).1 a1;have hk:(r0 c).1.kind=kI k 15 7 5:=Decidable.not_not.1 e1;have hk':4<=(r0 c).1.kind/\(r0 c).1.kind<=7:=by rw[hk,kI];split<;>omega
 obtain⟨x,e⟩:=Hw s1.1 hk';have ex:x.err=0:=vw a1 (by rw[e];simp[Bo]);rw[e] at a2;have o1:=Ju hk' a2;have hx:(r0 c).1.args.getD 0 A1=x:=by rw[e];rfl
 have hr:=wy (Decidable.not_not.1 e2);have hte:=Ix s1.1 hk';have hb:((c.below [(r0 c).1.ty]).AA x).ok:=(hc.below (l:=[(r0 c).1.ty]) hr.1 (by simpa using hte)).AA (by simpa[Ck.below] using hr.2) ex o1;have hob:Hp r1 c (r0 c).1=r1 ((c.below [(r0 c).1.ty]).AA x):=by unfold Hp;rw[hx]
 rw[hob] at e3 e4 ⊢;obtain⟨b1,b2,b3⟩:=h1.good hb (Decidable.not_not.1 e3);obtain⟨f1,f2,f3,f4,_⟩:=Ycg b1 (Decidable.not_not.1 e4);obtain⟨l1,l2,l3⟩:=Zz7 hte f1 f3 (f4 _ b2);have hu:=Ba.out (n:=c.tys.length) (m:=1) (l:=(r1 ((c.below [(r0 c).1.ty]).AA x)).2.1) (by simpa[Ck.below,Ck.AA] using b3);exact⟨l1,by simp only;omega,l3,.union a3.2 hu.2⟩
theorem Yg6(g:List Ty):zT.inf g=(Af,0):=by simp[zT,Tm.inf,Tm.AH,vi]
theorem Yfx(g:List Ty):Dj.inf g=(Am,0):=by simp[Dj,Tm.inf,Tm.AH,vi]
theorem Sa{c:Ck}{t:Tm}(h:Fa c t 1=0):t.err=0/\t.inf c.tys=(Af,0):=by
 obtain⟨a,b,d,e⟩:=XF h;exact⟨a,by rw[b,Q2 d e]⟩
theorem Vh{c:Ck}{t:Tm}(h:Fa c t 2=0):t.err=0/\t.inf c.tys=(Am,0):=by
 obtain⟨a,b,d,e⟩:=XF h;exact⟨a,by rw[b,Yc d e]⟩
theorem HR:Af.err=0:=by decide
theorem LW:Am.err=0:=by decide
theorem Ck.ok.one{c:Ck}(h:c.ok){s:Ty}(hs:s.err=0):∀x∈c.tys++[s],x.err=0:=fun x hx=>by
 rcases List.mem_append.1 hx with hx|hx
 ·exact h.all x hx
 ·simp only[List.mem_singleton] at hx;subst hx;exact hs
theorem Uu{r0 r1:Rs}(h0:B4 r0)(h1:B4 r1){f:Fm}{t:Tm}{c:Ck}(hc:c.ok):v6 c (Lu f t r0 r1 c):=by
 unfold Lu;split
 ·rename_i h;exact zq c h
 rename_i e0;split
 ·rename_i h;exact zq c h
 rename_i e1;split
 ·rename_i h;exact zq c h
 rename_i e2;split
 ·exact zq c (by decide)
 rename_i e3;split
 ·rename_i h;exact zq c h
 intro he;obtain⟨f1,f2⟩:=J2 (hc.one HR) (Decidable.not_not.1 e0);obtain⟨t1,t2⟩:=Sa (Decidable.not_not.1 e1);obtain⟨p1,p2⟩:=L1 f2 t2 he;have hr:=wy (Decidable.not_not.1 e3);have hb:((c.below [Af]).AA f).ok:=(hc.below (l:=[Af]) hr.1 (by simp[HR])).AA (by simpa[Ck.below] using hr.2) f1 f2;have hu:=Ba.out (n:=c.tys.length) (m:=1) (l:=(y5 r1 ((c.below [Af]).AA f) (f.AV 1 1) (sT (vT 0))).1) (by simpa[Ck.below,Ck.AA] using vf h1 hb (f.AV 1 1) (sT (vT 0)));refine⟨(yi p1).1,(yi p1).2,p2,.union (fun u hu=> ?_) hu.2⟩;rcases C0.1 hu with h|h
 ·exact (un t2).2 u h
 ·exact (vf h0 hc f zT).2 u h
theorem T8{r0 r1:Rs}(h0:B4 r0)(h1:B4 r1){f:Fm}{t:Tm}{c:Ck}(hc:c.ok):v6 c (KW f t r0 r1 c):=by
 unfold KW;split
 ·rename_i h;exact zq c h
 rename_i e0;split
 ·rename_i h;exact zq c h
 rename_i e1;split
 ·rename_i h;exact zq c h
 rename_i e2;split
 ·exact zq c (by decide)
 rename_i e3;split
 ·rename_i h;exact zq c h
 intro he;obtain⟨f1,f2⟩:=J2 (hc.one LW) (Decidable.not_not.1 e0);obtain⟨t1,t2⟩:=Vh (Decidable.not_not.1 e1);obtain⟨p1,p2⟩:=L1 f2 t2 he;have hr:=wy (Decidable.not_not.1 e3);have hl:=Jo (g:=c.tys) (h:=[Am]) [Af] ((Fm.Ae f).1 f1).1 f2;have hb:((c.below [Af,Am]).AA (f.AV 1 1)).ok:=(hc.below (l:=[Af,Am]) hr.1 (by simp[HR,LW])).AA (by simpa[Ck.below] using hr.2) (K5 f1 (by omega)) (by simpa[Ck.below] using hl);have hu:=Ba.out (n:=c.tys.length) (m:=2) (l:=(y5 r1 ((c.below [Af,Am]).AA (f.AV 1 1)) (f.AV 1 2) Cb).1) (by simpa[Ck.below,Ck.AA] using vf h1 hb (f.AV 1 2) Cb);refine⟨(yi p1).1,(yi p1).2,p2,.union (fun u hu=> ?_) hu.2⟩;rcases C0.1 hu with h|h
 ·exact (un t2).2 u h
 ·exact (vf h0 hc f Dj).2 u h
theorem Yo{t:Tm}{c:Ck}(hc:c.ok):v6 c (JY t c):=by
 intro he;obtain⟨t1,t2⟩:=Sa he;have s:=(Tm.Ae t).1 t1;exact⟨Jt s.1 s.1,by show(AP t t).size<=_;rw[I6];omega,CL.2 ⟨t2,t2⟩,.nil _⟩
theorem UD{r0 r1:Rs}(h0:B4 r0)(h1:B4 r1){f:Fm}{c:Ck}(hc:c.ok):v6 c (MP f r0 r1 c):=by
 unfold MP;split
 ·rename_i h;exact zq c h
 rename_i e0;split
 ·rename_i h;exact zq c h
 rename_i e1;split
 ·exact zq c (by decide)
 rename_i e2;split
 ·rename_i h;exact zq c h
 intro he;obtain⟨f1,f2⟩:=J2 (hc.one HR) (Decidable.not_not.1 e0);obtain⟨a1,a2,a3⟩:=h0.good hc (Decidable.not_not.1 e1);obtain⟨x,y,e⟩:=Py ((Fm.Ae _).1 a1).1 (Decidable.not_not.1 e2);rw[e] at a2;have hy:(r0 c).1.terms.getD 1 A0=y:=by rw[e];rfl
 rw[hy] at he ⊢;obtain⟨p1,p2⟩:=L1 f2 (CL.1 a2).2 he;exact⟨(yi p1).1,(yi p1).2,p2,vf h1 hc _ _⟩
theorem Ya0(g:List Ty)(s u:Ty):EV.inf (g++[yy s u]++[s])=(u,0):=by
 refine J5 (a:=s) ?_ ?_
 ·rw[wq _ _ (by omega),if_neg (by simp;omega),I9 (by simp) (by simp),wc (by simp)];rfl
 ·rw[wq _ _ (by omega),if_neg (by simp;omega),wc (by simp)];rfl
theorem WQ{r0:Rs}(h0:B4 r0){c:Ck}(hc:c.ok):v6 c (LK r0 c):=by
 unfold LK;split
 ·rename_i h;exact zq c h
 rename_i e0;split
 ·exact zq c (by decide)
 rename_i e1;split
 ·exact zq c (by decide)
 rename_i e2;intro he;obtain⟨a1,a2,a3⟩:=h0.good hc (Decidable.not_not.1 e0);rw[not_or,Decidable.not_not,Decidable.not_not] at e1;have s1:=(Fm.Ae _).1 a1;obtain⟨x,e⟩:=Hw s1.1 (by omega);have ex:x.err=0:=vw a1 (by rw[e];simp[Bo]);have hx:(r0 c).1.args.getD 0 A1=x:=by rw[e];rfl
 have hte:=Ix s1.1 (by omega);rw[hx] at e1;have s2:=(Fm.Ae _).1 ex;obtain⟨y,e'⟩:=Hw s2.1 (by omega);have hte':=Ix s2.1 (by omega);have ey:y.err=0:=vw ex (by rw[e'];simp[Bo]);have hy:x.args.getD 0 A1=y:=by rw[e'];rfl
 rw[e] at a2;have o1:=Ju (by omega) a2;rw[e'] at o1;have o2:=Ju (by omega) o1;have hcf:La (r0 c).1=yy (r0 c).1.ty x.ty:=by unfold La;rw[hx]
 have hcb:K6 (r0 c).1=Dv (y.AV 2 1) EV:=by unfold K6;rw[hx,hy]
 rw[hcf] at e2 ⊢;rw[hcb] at he ⊢;have hl:=Jo (g:=c.tys) (h:=[(r0 c).1.ty,x.ty]) [yy (r0 c).1.ty x.ty] ((Fm.Ae y).1 ey).1 (by simpa using o2);have hl':(y.AV 2 1).Bl (c.tys++[yy (r0 c).1.ty x.ty]++[(r0 c).1.ty]++[x.ty]):=by simpa using hl
 obtain⟨p1,p2⟩:=L1 hl' (Ya0 _ _ _) he;have s3:=(Fm.Ae _).1 p1;refine⟨u3 (by omega) (Decidable.not_not.1 e2) (u3 (by omega) hte s3.1),by simp only[J1];omega,IJ (by omega) (IJ (by omega) p2),a3⟩
def PfOk(p:Pf):Prop:=p.shape=true/\p.small=true
theorem WO{l:List Pf}{i:Nat}(hi:i<l.length):(l.map Cf).getD i (fun _=>yb 0)=Cf l[i]:=by
 rw[G8 (by simpa using hi),List.getElem_map]
theorem zh{p:Pf}(h:p.shape=true):p.head=true/\(∀t∈p.terms,t.shape=true)/\(∀f∈p.Ac,f.shape=true)/\∀x∈p.args,x.shape=true:=by
 rw[p.Ak] at h;simp only[Bool.and_eq_true,List.all_eq_true] at h;exact⟨h.1.1.1,h.1.1.2,h.1.2,h.2⟩
theorem Vt{t:Ty}(h:t.ok=true):t.err=0:=by
 simp only[Ty.ok,Bool.and_eq_true,decide_eq_true_eq] at h;exact(Ty.Ae t).2 h
theorem Hz{p:Pf}(h:p.head=true):∃nd,BO p.kind=some nd/\p.terms.length=nd.terms/\p.Ac.length=nd.Ac/\p.args.length=nd.args/\0<=p.index/\(nd.typ=true->p.ty.err=0)/\1<=p.kind/\p.kind<=20:=by
 unfold Pf.head at h;cases hn:BO p.kind with
 |none=>rw[hn] at h;cases h
 |some nd=>
  rw[hn] at h;have hk:1<=p.kind/\p.kind<=20:=by
   refine Decidable.byContradiction fun hc=> ?_;have:BO p.kind=none:=by
    unfold BO
    repeat rw[if_neg (by omega)]
   rw[this] at hn;cases hn
  simp only[Bool.and_eq_true,decide_eq_true_eq,beq_iff_eq] at h;refine⟨nd,rfl,by omega,by omega,by omega,by omega,fun ht=> ?_,hk⟩;simp only[ht,if_true] at h;exact Vt h.2
theorem MT(p:Pf):p.shape=true->B4 (Cf p):=by
 induction p using Pf.ind with
 |h p ih=>
  intro hs c hc;rw[R8];refine Yek ?_;obtain⟨h1,h2,h3,h4⟩:=zh hs;obtain⟨nd,n1,n2,n3,n4,n5,n6,n7⟩:=Hz h1;have hrs:∀i,i<p.args.length->B4 ((p.args.map Cf).getD i fun _=>yb 0):=fun i hi=>by
   rw[WO hi];exact ih _ (List.getElem_mem hi) (h4 _ (List.getElem_mem hi))
  have hk:p.kind=1\/p.kind=2\/p.kind=3\/p.kind=4\/p.kind=5\/p.kind=6\/p.kind=7\/p.kind=8\/p.kind=9\/p.kind=10\/p.kind=11\/p.kind=12\/p.kind=13\/p.kind=14\/p.kind=15\/p.kind=16\/p.kind=17\/p.kind=18\/p.kind=19\/p.kind=20:=by omega
  unfold HG;rcases hk with e|e|e|e|e|e|e|e|e|e|e|e|e|e|e|e|e|e|e|e<;>rw[e] at n1 ⊢<;>simp only[BO] at n1<;>(try(simp at n1))<;>(try subst n1)<;>simp only[reduceIte,Int.reduceEq,or_false,false_or,or_true,true_or]<;>simp only at n4 n6
  ·exact UL hc n5
  ·exact VZ hc n5
  ·exact XL (hrs 0 (by omega)) (hrs 1 (by omega)) hc
  ·exact Nu (hrs 0 (by omega)) hc (by decide)
  ·exact Nu (hrs 0 (by omega)) hc (by decide)
  ·exact VG (hrs 0 (by omega)) hc
  ·exact TM (hrs 0 (by omega)) (hrs 1 (by omega)) hc
  ·exact Nm (hrs 0 (by omega)) (n6 trivial) hc
  ·exact Nw (hrs 0 (by omega)) hc
  ·exact MY (hrs 0 (by omega)) hc
  ·exact Oe (hrs 0 (by omega)) (hrs 1 (by omega)) hc
  ·exact Nm (hrs 0 (by omega)) (n6 trivial) hc
  ·exact Nw (hrs 0 (by omega)) hc
  ·exact MY (hrs 0 (by omega)) hc
  ·exact Oe (hrs 0 (by omega)) (hrs 1 (by omega)) hc
  ·exact Uu (hrs 0 (by omega)) (hrs 1 (by omega)) hc
  ·exact T8 (hrs 0 (by omega)) (hrs 1 (by omega)) hc
  ·exact Yo hc
  ·exact UD (hrs 0 (by omega)) (hrs 1 (by omega)) hc
  ·exact WQ (hrs 0 (by omega)) hc
theorem Qq{α:Type}{l:List α}(h:l.length=1):∃a,l=[a]:=by
 match l,h with
 |[a],_=>exact⟨a,rfl⟩
theorem ln2{α:Type}{l:List α}(h:l.length=2):∃a b,l=[a,b]:=by
 match l,h with
 |[a,b],_=>exact⟨a,b,rfl⟩
theorem O7{α:Type}{l:List α}(h:l.length=0):l=[]:=List.eq_nil_of_length_eq_zero h
theorem Zz6{p:Pf}(hs:p.shape=true){c:Ck}(hc:c.ok):v6 c (HG p.kind p.index p.ty p.terms p.Ac (p.args.map Cf) c):=by
 obtain⟨h1,h2,h3,h4⟩:=zh hs;obtain⟨nd,n1,n2,n3,n4,n5,n6,n7⟩:=Hz h1;have hrs:∀i,i<p.args.length->B4 ((p.args.map Cf).getD i fun _=>yb 0):=fun i hi=>by
  rw[WO hi];exact MT _ (h4 _ (List.getElem_mem hi))
 have hk:p.kind=1\/p.kind=2\/p.kind=3\/p.kind=4\/p.kind=5\/p.kind=6\/p.kind=7\/p.kind=8\/p.kind=9\/p.kind=10\/p.kind=11\/p.kind=12\/p.kind=13\/p.kind=14\/p.kind=15\/p.kind=16\/p.kind=17\/p.kind=18\/p.kind=19\/p.kind=20:=by omega
 unfold HG;rcases hk with e|e|e|e|e|e|e|e|e|e|e|e|e|e|e|e|e|e|e|e<;>rw[e] at n1 ⊢<;>simp only[BO] at n1<;>(try(simp at n1))<;>(try subst n1)<;>simp only[reduceIte,Int.reduceEq,or_false,false_or,or_true,true_or]<;>simp only at n4 n6
 ·exact UL hc n5
 ·exact VZ hc n5
 ·exact XL (hrs 0 (by omega)) (hrs 1 (by omega)) hc
 ·exact Nu (hrs 0 (by omega)) hc (by decide)
 ·exact Nu (hrs 0 (by omega)) hc (by decide)
 ·exact VG (hrs 0 (by omega)) hc
 ·exact TM (hrs 0 (by omega)) (hrs 1 (by omega)) hc
 ·exact Nm (hrs 0 (by omega)) (n6 trivial) hc
 ·exact Nw (hrs 0 (by omega)) hc
 ·exact MY (hrs 0 (by omega)) hc
 ·exact Oe (hrs 0 (by omega)) (hrs 1 (by omega)) hc
 ·exact Nm (hrs 0 (by omega)) (n6 trivial) hc
 ·exact Nw (hrs 0 (by omega)) hc
 ·exact MY (hrs 0 (by omega)) hc
 ·exact Oe (hrs 0 (by omega)) (hrs 1 (by omega)) hc
 ·exact Uu (hrs 0 (by omega)) (hrs 1 (by omega)) hc
 ·exact T8 (hrs 0 (by omega)) (hrs 1 (by omega)) hc
 ·exact Yo hc
 ·exact UD (hrs 0 (by omega)) (hrs 1 (by omega)) hc
 ·exact WQ (hrs 0 (by omega)) hc
theorem VI(f:Fm):(f.args.getD 0 A1).full<=f.full+2:=by
 cases h:f.args with
 |nil=>exact Nat.le_trans (by decide:A1.full<=2) (by omega)
 |cons x l=>
  have:=zc Fm.full (l:=f.args) (t:=x) (by rw[h];simp);have:=f.Ag;simp only[List.getD_cons_zero];omega
def G5(lems:List Fm)(tys:List Ty)(hyps:List Fm):Int:=
 if lems.length>32 then 3 else if xw (ym []) lems≠0 then xw (ym []) lems else if xq tys≠0 then xq tys
 else if hyps.length>16 then 3 else xw (ym tys) hyps
theorem Yet{lems:List Fm}{tys:List Ty}{hyps:List Fm}(h:G5 lems tys hyps=0):(Ck.mk lems tys hyps).ok:=by
 unfold G5 at h;by_cases h1:lems.length>32
 ·rw[if_pos h1] at h;cases h
 rw[if_neg h1] at h;by_cases h2:xw (ym []) lems≠0
 ·rw[if_pos h2] at h;exact absurd h h2
 rw[if_neg h2] at h;by_cases h3:xq tys≠0
 ·rw[if_pos h3] at h;exact absurd h h3
 rw[if_neg h3] at h;by_cases h4:hyps.length>16
 ·rw[if_pos h4] at h;cases h
 rw[if_neg h4] at h;exact⟨Decidable.not_not.1 h3,by simp only;omega,by simp only;omega,fun f hf=>x6 (LQ h f hf),fun f hf=>x6 (LQ (Decidable.not_not.1 h2) f hf)⟩
theorem Ta{c:Ck}(h:c.ok):G5 c.lems c.tys c.hyps=0:=by
 unfold G5;rw[if_neg (by have:=h.nl;omega),if_neg,if_neg (by simp[h.ctx]),if_neg (by have:=h.nh;omega)]
 ·exact N4 fun f hf=>Ua (h.hyps f hf).2 (h.hyps f hf).1 h.ctx
 ·rw[N4 fun f hf=>Ua (h.lems f hf).2 (h.lems f hf).1 rfl];simp
def Hy(lems:List Fm)(tys:List Ty)(hyps:List Fm)(p:Pf):CC:=
 if G5 lems tys hyps≠0 then yb (G5 lems tys hyps) else if p.err≠0 then yb p.err else Cf p ⟨lems,tys,hyps⟩
def Ykg(lems:List Fm)(tys:List Ty)(hyps:List Fm)(p:Pf)(f:Fm):Int:=
 if(Hy lems tys hyps p).2.2≠0 then(Hy lems tys hyps p).2.2 else if ym tys f≠0 then ym tys f else KZ (Hy lems tys hyps p).1 f
def AD(k:Int):Int:=if k=16\/k=17\/k=19 then 1 else 0
def As(k:Int):Int:=if k=17 then 2 else if k=8\/k=12\/k=11\/k=15\/k=16 then 1 else 0
def At(k:Int):Int:=if k=6\/k=11\/k=15\/k=16\/k=17 then 1 else 0
def CR(k:Int):List V:=match BO k with
 |some n=>[.bool n.index,.bool n.typ,.i n.terms,.i n.Ac,.i n.args,.i (AD k),.i (As k),.i (At k)]
 |none=>[.bool false,.bool false,.i 0,.i 0,.i 0,.i 0,.i 0,.i 0]
abbrev Tl:=Nat×Bool
def BV:List Tm->Tl->Bool×Tl
 |[],s=>(true,s)
 |t::l,s=>if t.err=2 then(false,(s.1+t.num.toNat,s.2||t.err==4)) else BV l (s.1+t.num.toNat,s.2||t.err==4)
def B5:List Fm->Tl->Bool×Tl
 |[],s=>(true,s)
 |t::l,s=>if t.err=2 then(false,(s.1+t.num.toNat,s.2||t.err==4)) else B5 l (s.1+t.num.toNat,s.2||t.err==4)
def Pf.Fg(p:Pf):Bool:=match BO p.kind with
 |none=>false
 |some n=>p.terms.length==n.terms&&p.Ac.length==n.Ac&&p.args.length==n.args&&decide (0<=p.index)&&(n.index||p.index==0)
def Pf.Ga(p:Pf):Bool:=match BO p.kind with
 |none=>false
 |some n=>if n.typ=true then p.ty.ok else p.ty.BI
mutual
def Dt:Pf->Tl->Bool×Tl
 | .mk k i h ts fs zs,s=>
   if Pf.Fg (.mk k i h ts fs zs)=false then(false,s) else if Pf.Ga (.mk k i h ts fs zs)=false then(false,(s.1+1,s.2))
   else if(BV ts (s.1+1,s.2)).1=false then BV ts (s.1+1,s.2)
   else if(B5 fs (BV ts (s.1+1,s.2)).2).1=false then B5 fs (BV ts (s.1+1,s.2)).2
   else Cp zs (B5 fs (BV ts (s.1+1,s.2)).2).2
def Cp:List Pf->Tl->Bool×Tl
 |[],s=>(true,s)
 |p::l,s=>if(Dt p s).1=false then Dt p s else Cp l (Dt p s).2
end
theorem Wy(p:Pf)(s:Tl):Dt p s=if p.Fg=false then(false,s) else if p.Ga=false then(false,(s.1+1,s.2))
 else if(BV p.terms (s.1+1,s.2)).1=false then BV p.terms (s.1+1,s.2)
 else if(B5 p.Ac (BV p.terms (s.1+1,s.2)).2).1=false then B5 p.Ac (BV p.terms (s.1+1,s.2)).2
 else Cp p.args (B5 p.Ac (BV p.terms (s.1+1,s.2)).2).2:=by
 cases p;simp only[Dt];rfl
theorem Pj:∀(l m:List Tm) (s:Tl),(BV l s).1=true->BV (l++m) s=BV m (BV l s).2
 |[],m,s,_=>rfl
 |t::l,m,s,h=>by
  simp only[BV,List.cons_append] at h ⊢;by_cases e:t.err=2
  ·rw[if_pos e] at h;cases h
  ·rw[if_neg e] at h ⊢;rw[if_neg e];exact Pj l m _ h
theorem Sr:∀(l m:List Fm) (s:Tl),(B5 l s).1=true->B5 (l++m) s=B5 m (B5 l s).2
 |[],m,s,_=>rfl
 |t::l,m,s,h=>by
  simp only[B5,List.cons_append] at h ⊢;by_cases e:t.err=2
  ·rw[if_pos e] at h;cases h
  ·rw[if_neg e] at h ⊢;rw[if_neg e];exact Sr l m _ h
theorem Sj:∀(l m:List Pf) (s:Tl),(Cp l s).1=true->Cp (l++m) s=Cp m (Cp l s).2
 |[],m,s,_=>rfl
 |t::l,m,s,h=>by
  simp only[Cp,List.cons_append] at h ⊢;by_cases e:(Dt t s).1=false
  ·rw[if_pos e] at h;rw[e] at h;cases h
  ·rw[if_neg e] at h ⊢;rw[if_neg e];exact Sj l m _ h
theorem Ss{α:Type}{l:List α}{m:Nat}(hm:m<l.length):l=l.take m++l[m]::l.drop (m+1):=by
 rw[<-List.drop_eq_getElem_cons hm,List.take_append_drop]
theorem VM{l:List Tm}{m:Nat}{s:Tl}(hm:m<l.length)(h:(BV (l.take m) s).1=true):BV (l.take (m+1)) s=BV [l[m]] (BV (l.take m) s).2:=by
 rw[List.take_succ_eq_append_getElem hm,Pj _ _ _ h]
theorem UW{l:List Tm}{m:Nat}{s:Tl}(hm:m<l.length)(h:(BV (l.take m) s).1=true)(he:l[m].err=2):BV l s=(false,((BV (l.take m) s).2.1+l[m].num.toNat,(BV (l.take m) s).2.2||l[m].err==4)):=by
 have e:BV l s=BV (l.take m++l[m]::l.drop (m+1)) s:=by rw[<-Ss hm]
 rw[e,Pj _ _ _ h,BV,if_pos he]
theorem TW{l:List Fm}{m:Nat}{s:Tl}(hm:m<l.length)(h:(B5 (l.take m) s).1=true):B5 (l.take (m+1)) s=B5 [l[m]] (B5 (l.take m) s).2:=by
 rw[List.take_succ_eq_append_getElem hm,Sr _ _ _ h]
theorem W6{l:List Fm}{m:Nat}{s:Tl}(hm:m<l.length)(h:(B5 (l.take m) s).1=true)(he:l[m].err=2):B5 l s=(false,((B5 (l.take m) s).2.1+l[m].num.toNat,(B5 (l.take m) s).2.2||l[m].err==4)):=by
 have e:B5 l s=B5 (l.take m++l[m]::l.drop (m+1)) s:=by rw[<-Ss hm]
 rw[e,Sr _ _ _ h,B5,if_pos he]
theorem VC{l:List Pf}{m:Nat}{s:Tl}(hm:m<l.length)(h:(Cp (l.take m) s).1=true):Cp (l.take (m+1)) s=Cp [l[m]] (Cp (l.take m) s).2:=by
 rw[List.take_succ_eq_append_getElem hm,Sj _ _ _ h]
theorem XK(p:Pf)(s:Tl):Cp [p] s=Dt p s:=by
 simp only[Cp];cases h:(Dt p s).1 with
 |false=>simp
 |true=>simp only[Bool.true_eq_false,if_false];rw[<-h]
theorem Wm{l:List Pf}{m:Nat}{s:Tl}(hm:m<l.length)(h:(Cp (l.take m) s).1=true)(he:(Dt l[m] (Cp (l.take m) s).2).1=false):Cp l s=Dt l[m] (Cp (l.take m) s).2:=by
 have e:Cp l s=Cp (l.take m++l[m]::l.drop (m+1)) s:=by rw[<-Ss hm]
 rw[e,Sj _ _ _ h,Cp,if_pos he]
theorem Qt(t:Tm):(t.err=0/\t.shape=true/\t.size<=4096/\t.num=t.size)\/(t.err=2/\t.shape=false/\t.num=0)\/(t.err=4/\t.shape=true/\¬t.size<=4096/\t.num=0):=by
 unfold Tm.num Tm.err;cases h:t.shape with
 |false=>simp
 |true=>
  by_cases h2:t.size>4096
  ·simp[h2]
  ·simp[h2];omega
theorem Ztb(t:Fm):(t.err=0/\t.shape=true/\t.size<=4096/\t.num=t.size)\/(t.err=2/\t.shape=false/\t.num=0)\/(t.err=4/\t.shape=true/\¬t.size<=4096/\t.num=0):=by
 unfold Fm.num Fm.err;cases h:t.shape with
 |false=>simp
 |true=>
  by_cases h2:t.size>4096
  ·simp[h2]
  ·simp[h2];omega
theorem J6:∀(l:List Tm) (s:Tl),(BV l s).1=l.all Tm.shape/\(BV l s).2.1<=s.1+(l.map Tm.size).sum/\
 (l.all Tm.shape=true->(BV l s).2.2=(s.2|| !(l.all fun t=>decide (t.size<=4096)))/\((l.all fun t=>decide (t.size<=4096))=true->(BV l s).2.1=s.1+(l.map Tm.size).sum))
 |[],s=>by simp[BV]
 |t::l,s=>by
  have ih:=J6 l (s.1+t.num.toNat,s.2||t.err==4);simp only[BV,List.all_cons,List.map_cons,List.sum_cons];rcases Qt t with⟨h1,h2,h3,h4⟩|⟨h1,h2,h3⟩|⟨h1,h2,h3,h4⟩
  ·rw[if_neg (by omega)];simp only[h1,h2,h3,h4,decide_true,Bool.true_and] at ih ⊢;simp only[Int.toNat_natCast] at ih ⊢;refine⟨ih.1,by omega,fun h=>⟨?_,fun h'=> ?_⟩⟩
   ·rw[(ih.2.2 h).1];simp
   ·rw[(ih.2.2 h).2 h'];omega
  ·rw[if_pos h1];simp[h2,h3]
  ·rw[if_neg (by omega)];simp only[h1,h2,h3,h4,decide_false,Bool.true_and,Bool.false_and] at ih ⊢;refine⟨ih.1,by have:=ih.2.1;simp only[Int.toNat_zero,Nat.add_zero] at this;omega,fun h=>⟨?_,fun h'=>by cases h'⟩⟩;rw[(ih.2.2 h).1];simp
theorem Kj:∀(l:List Fm) (s:Tl),(B5 l s).1=l.all Fm.shape/\(B5 l s).2.1<=s.1+(l.map Fm.size).sum/\
 (l.all Fm.shape=true->(B5 l s).2.2=(s.2|| !(l.all fun t=>decide (t.size<=4096)))/\((l.all fun t=>decide (t.size<=4096))=true->(B5 l s).2.1=s.1+(l.map Fm.size).sum))
 |[],s=>by simp[B5]
 |t::l,s=>by
  have ih:=Kj l (s.1+t.num.toNat,s.2||t.err==4);simp only[B5,List.all_cons,List.map_cons,List.sum_cons];rcases Ztb t with⟨h1,h2,h3,h4⟩|⟨h1,h2,h3⟩|⟨h1,h2,h3,h4⟩
  ·rw[if_neg (by omega)];simp only[h1,h2,h3,h4,decide_true,Bool.true_and] at ih ⊢;simp only[Int.toNat_natCast] at ih ⊢;refine⟨ih.1,by omega,fun h=>⟨?_,fun h'=> ?_⟩⟩
   ·rw[(ih.2.2 h).1];simp
   ·rw[(ih.2.2 h).2 h'];omega
  ·rw[if_pos h1];simp[h2,h3]
  ·rw[if_neg (by omega)];simp only[h1,h2,h3,h4,decide_false,Bool.true_and,Bool.false_and] at ih ⊢;refine⟨ih.1,by have:=ih.2.1;simp only[Int.toNat_zero,Nat.add_zero] at this;omega,fun h=>⟨?_,fun h'=>by cases h'⟩⟩;rw[(ih.2.2 h).1];simp
theorem Zsu(p:Pf):p.head=(p.Fg&&p.Ga):=by
 unfold Pf.head Pf.Fg Pf.Ga;cases BO p.kind with
 |none=>rfl
 |some n=>simp[Bool.and_assoc]
theorem Rx(l:List Pf)(ih:∀p∈l,∀s:Tl,(Dt p s).1=p.shape/\(Dt p s).2.1<=s.1+p.size/\(p.shape=true->(Dt p s).2.2=(s.2|| !p.small)/\(p.small=true->(Dt p s).2.1=s.1+p.size))):
 ∀s:Tl,(Cp l s).1=l.all Pf.shape/\(Cp l s).2.1<=s.1+(l.map Pf.size).sum/\(l.all Pf.shape=true->(Cp l s).2.2=(s.2|| !(l.all Pf.small))/\(l.all Pf.small=true->(Cp l s).2.1=s.1+(l.map Pf.size).sum)):=by
 induction l with
 |nil=>intro s;simp[Cp]
 |cons p l ihl=>
  intro s;obtain⟨a1,a2,a3⟩:=ih p (by simp) s;have b:=ihl (fun q hq=>ih q (by simp[hq])) (Dt p s).2;simp only[Cp,List.all_cons,List.map_cons,List.sum_cons];cases hp:p.shape with
  |false=>
   rw[hp] at a1;rw[if_pos a1];exact⟨by rw[a1];rfl,by omega,fun h=>by cases h⟩
  |true=>
   rw[hp] at a1;rw[if_neg (by simp[a1])];obtain⟨c1,c2⟩:=a3 hp;refine⟨by rw[b.1];simp,by omega,fun h=> ?_⟩;simp only[Bool.true_and] at h;obtain⟨d1,d2⟩:=b.2.2 h;refine⟨by rw[d1,c1];cases s.2<;>cases p.small<;>simp,fun h'=> ?_⟩;simp only[Bool.and_eq_true] at h';rw[d2 h'.2,c2 h'.1];omega
theorem Qe(p:Pf):∀s:Tl,(Dt p s).1=p.shape/\(Dt p s).2.1<=s.1+p.size/\(p.shape=true->(Dt p s).2.2=(s.2|| !p.small)/\(p.small=true->(Dt p s).2.1=s.1+p.size)):=by
 induction p using Pf.ind with
 |h p ih=>
  intro s;have hsz:=p.size_eq;rw[Wy,p.Ak,p.BZ,Zsu];by_cases h1:p.Fg=false
  ·rw[if_pos h1,h1];exact⟨rfl,by simp only;omega,fun h=>by simp at h⟩
  rw[if_neg h1];rw[Bool.not_eq_false] at h1;by_cases h2:p.Ga=false
  ·rw[if_pos h2,h2];exact⟨by simp,by simp only;omega,fun h=>by simp at h⟩
  rw[if_neg h2];rw[Bool.not_eq_false] at h2;rw[h1,h2];have t:=J6 p.terms (s.1+1,s.2);have f:=Kj p.Ac (BV p.terms (s.1+1,s.2)).2;have a:=Rx p.args ih (B5 p.Ac (BV p.terms (s.1+1,s.2)).2).2;by_cases h3:(BV p.terms (s.1+1,s.2)).1=false
  ·rw[if_pos h3];have:p.terms.all Tm.shape=false:=by rw[<-t.1];exact h3
   exact⟨by rw[h3,this];rfl,by omega,fun h=>by simp[this] at h⟩
  rw[if_neg h3];rw[Bool.not_eq_false,t.1] at h3;by_cases h4:(B5 p.Ac (BV p.terms (s.1+1,s.2)).2).1=false
  ·rw[if_pos h4];have:p.Ac.all Fm.shape=false:=by rw[<-f.1];exact h4
   exact⟨by rw[h4,h3,this];rfl,by omega,fun h=>by simp[this] at h⟩
  rw[if_neg h4];rw[Bool.not_eq_false,f.1] at h4;obtain⟨t1,t2⟩:=t.2.2 h3;obtain⟨f1,f2⟩:=f.2.2 h4;refine⟨by rw[a.1,h3,h4];rfl,by omega,fun h=> ?_⟩;have h5:p.args.all Pf.shape=true:=by simpa[h3,h4] using h
  obtain⟨a1,a2⟩:=a.2.2 h5;refine⟨?_,fun h'=> ?_⟩
  ·rw[a1,f1,t1];cases s.2<;>cases(p.terms.all fun t=>decide (t.size<=4096))<;>cases(p.Ac.all fun t=>decide (t.size<=4096))<;>cases p.args.all Pf.small<;>rfl
  ·simp only[Bool.and_eq_true] at h';rw[a2 h'.2,f2 h'.1.2,t2 h'.1.1,hsz];omega
theorem QU{p:Pf}(hs:p.shape=true):∃nd,BO p.kind=some nd/\p.terms.length=nd.terms/\p.Ac.length=nd.Ac/\p.args.length=nd.args/\0<=p.index/\(nd.index=false->p.index=0)/\(nd.typ=true->p.ty.err=0)/\(nd.typ=false->p.ty= .mk 0 [])/\1<=p.kind/\p.kind<=20:=by
 have h:=(zh hs).1;obtain⟨nd,n1,n2,n3,n4,n5,n6,n7⟩:=Hz h;refine⟨nd,n1,n2,n3,n4,n5,?_,n6,?_,n7⟩
 ·intro hi;unfold Pf.head at h;rw[n1] at h;simp only[Bool.and_eq_true,decide_eq_true_eq,beq_iff_eq,Bool.or_eq_true] at h;rcases h.1.2 with h2|h2
  ·rw[hi] at h2;cases h2
  ·exact h2
 ·intro hi;unfold Pf.head at h;rw[n1] at h;simp only[Bool.and_eq_true,decide_eq_true_eq,beq_iff_eq,Bool.or_eq_true] at h;have h2:=h.2;rw[if_neg (by simp[hi])] at h2;exact Ty.DP h2
def Pf.num(p:Pf):Int:=if p.err=0 then p.size else 0
theorem V2{c:Ck}{s:Tm}(hk:Fa c s 1=0)(he:(AP s s).err=0):Cf (xe s) c=(AP s s,[],0):=by
 rw[R8];have e:HG (xe s).kind (xe s).index (xe s).ty (xe s).terms (xe s).Ac ((xe s).args.map Cf) c=JY s c:=rfl;rw[e];unfold JY Kw;rw[hk,if_neg (by simp),if_neg (by simp[he])];simp only;split<;>rfl
def Gv(f:Fm)(p q:Pf):Pf:= .mk 19 0 (.mk 0 []) [] [f] [p,q]
theorem WS{c:Ck}(hc:c.ok){s:Tm}(he:s.err=0)(hi:s.inf c.tys=(Af,0)):Fa c s 1=0:=by
 have e:y3 c.tys s=(Af,0):=by
  unfold y3 Em;rw[if_neg (by simp[hc.ctx]),if_neg (by simp[he]),hi]
 unfold Fa;rw[e];rfl
structure CB (g:List Ty) (s:Tm):Prop where
 err:s.err=0
 inf:s.inf g=(Af,0)
 size:s.size<=900
theorem CB.shape{g:List Ty}{s:Tm}(h:CB g s):s.shape=true:=((Tm.Ae s).1 h.err).1
theorem CB.near{g:List Ty}{s:Tm}(h:CB g s)(hg:g.length<=1000):s.near=true:=ME (by rw[h.inf]) h.shape (by have:=h.size;omega)
theorem PM{a b:Tm}(ha:a.shape=true)(hb:b.shape=true)(hz:a.size+b.size<=4095):(AP a b).err=0:=
 (Fm.Ae _).2 ⟨Jt ha hb,by rw[I6];omega⟩
theorem Vf(g:List Ty)(u:Ty):(vT 0).inf (g++[u])=(u,0):=by
 rw[wq _ _ (by omega),if_neg (by simp)];have:EI (g++[u]) 0=EI [u] 0:=wc (by simp);simp only[Int.toNat_zero];rw[this];rfl
theorem Ykt(a b:Tm):ve 0 ((AP a b).A2 0)=cnt 0 (a.vars 0)+cnt 0 (b.vars 0):=by
 simp[AP,Fm.A2,Fm.F9,ve]
theorem Yij{a b:Tm}(ha:a.near=true)(hb:b.near=true):(AP a b).near=true:=by
 unfold Fm.near;simp[AP,Fm.A2,Fm.F9,ha,hb]
structure Dm (g:List Ty) (a b:Tm):Prop where
 sa:a.shape=true
 sb:b.shape=true
 ia:a.inf (g++[Af])=(Af,0)
 ib:b.inf (g++[Af])=(Af,0)
 sz:a.size+b.size<=3000
theorem Dm.err{g:List Ty}{a b:Tm}(h:Dm g a b):(AP a b).err=0:=PM h.sa h.sb (by have:=h.sz;omega)
theorem Dm.near{g:List Ty}{a b:Tm}(h:Dm g a b)(hg:g.length<=16):(AP a b).near=true:=
 Yij (ME (by rw[h.ia]) h.sa (by have:=h.sz;simp;omega)) (ME (by rw[h.ib]) h.sb (by have:=h.sz;simp;omega))
theorem Dm.put{g:List Ty}{a b s:Tm}(h:Dm g a b)(hg:g.length<=16)(hs:CB g s)(hz:1+a.size+b.size+(cnt 0 (a.vars 0)+cnt 0 (b.vars 0))*s.size<=4096):yq (AP a b) 0 s=0:=by
 unfold yq;rw[if_neg (by simp[h.err]),if_neg (by omega),if_neg (by simp[hs.err]),if_neg (by simp[h.near hg,hs.near (by omega)]),if_neg];rw[Ykt,I6];have hp:=s.size_pos;have hm:(cnt 0 (a.vars 0)+cnt 0 (b.vars 0))*(s.size-1)<=(cnt 0 (a.vars 0)+cnt 0 (b.vars 0))*s.size:=Nat.mul_le_mul_left _ (by omega);have e:(((cnt 0 (a.vars 0)+cnt 0 (b.vars 0):Nat):Int)*((s.size:Int)-1))=(((cnt 0 (a.vars 0)+cnt 0 (b.vars 0))*(s.size-1):Nat):Int):=by
  rw[Int.natCast_mul];congr 1;omega
 rw[e];omega
def ML(s:Tm)(p:Pf):Pf:=Gv (AP (vT 0) (s.re (zl 0 1) 0)) p (xe s)
def Rr(s:Tm)(p q:Pf):Pf:=Gv (AP (s.re (zl 0 1) 0) (vT 0)) q p
def IE(g s:Tm)(p:Pf):Pf:=Gv (AP (AO (g.re (zl 0 1) 0) (s.re (zl 0 1) 0)) (AO (g.re (zl 0 1) 0) (vT 0))) p (xe (AO g s))
def injP(s:Tm)(p:Pf):Pf:=Gv (AP (s.re (zl 0 1) 0) (AO Cj (vT 0))) p (xe s)
def UY(s t n:Tm):Tm:= .mk 6 0 Af [s,BR Af (BR Af (t.re (zl 0 2) 0)),n]
def Ob(p:Pf):Pf:=Gv (AP zT (UY zT (sT zT) (vT 0))) p (xe zT)
theorem CB.refl{c:Ck}(hc:c.ok){s:Tm}(h:CB c.tys s):Cf (xe s) c=(AP s s,[],0):=
 V2 (WS hc h.err h.inf) (PM h.shape h.shape (by have:=h.size;omega))
structure Vj (g:List Ty) (f:Tm):Prop where
 err:f.err=0
 inf:f.inf g=(yy Af Af,0)
 size:f.size<=500
def Dk.De:Nat->Dk->List Ty->List Fm×Dk
 |0,d,_=>([],d)
 |n+1,d,g=>((Dk.fm 2 d g).1::(Dk.De n (Dk.fm 2 d g).2 g).1,(Dk.De n (Dk.fm 2 d g).2 g).2)
theorem Dk.DR:∀(n:Nat) (d:Dk) (g:List Ty),Dk.De (n+1) d g=((Dk.De n d g).1++[(Dk.fm 2 (Dk.De n d g).2 g).1],(Dk.fm 2 (Dk.De n d g).2 g).2)
 |0,d,g=>rfl
 |n+1,d,g=>by
  have ih:=Dk.DR n (Dk.fm 2 d g).2 g;rw[Dk.De,ih];rfl
theorem Dk.C6:∀(n:Nat) (d:Dk) (g:List Ty),(Dk.De n d g).1.length=n
 |0,_,_=>rfl
 |n+1,d,g=>by simp[Dk.De,Dk.C6 n]
theorem Dk.DQ:∀(n:Nat) (d:Dk) (g:List Ty),d.ok->(Dk.De n d g).2.ok
 |0,_,_,h=>h
 |n+1,d,g,h=>Dk.DQ n _ g (Dk.ER 2 d g h)
theorem Dk.DV:∀(n:Nat) (d:Dk) (g:List Ty),Al g->∀f∈(Dk.De n d g).1,f.err=0/\f.Bl g
 |0,_,_,_,f,h=>by cases h
 |n+1,d,g,hg,f,h=>by
  simp only[Dk.De,List.mem_cons] at h;rcases h with rfl|h
  ·exact ⟨Ye0 (Dk.Eu 2 d g hg),Dk.GM 2 d g hg⟩
  ·exact Dk.DV n _ g hg f h
def Dk.KM(d:Dk):Nat:=(d.ctx.2.next 3).1.toNat
def Dk.FO(d:Dk):List Fm:=(Dk.De d.KM (d.ctx.2.next 3).2 d.ctx.1).1
def Dk.GF(d:Dk):Dk:=(Dk.De d.KM (d.ctx.2.next 3).2 d.ctx.1).2
theorem Dk.IM(d:Dk):d.KM<=2:=by have:=Dk.Bx d.ctx.2 3 (by omega);unfold Dk.KM;omega
theorem Dk.Fq{d:Dk}(h:d.ok):d.GF.ok:=Dk.DQ _ _ _ (Dk.AE (Dk.Fo h) 3)
theorem Dk.Ev(d:Dk):d.FO.length<=2:=by unfold Dk.FO;rw[Dk.C6];exact d.IM
def Dk.Q5(d:Dk):Ck:=⟨[],d.ctx.1,d.FO⟩
theorem Dk.JP(d:Dk):d.Q5.ok:=
 ⟨Zxs (g:=d.ctx.1) d.BW (by have:=d.ED;omega),by have:=d.Ev;simp only[Dk.Q5];omega,by simp[Dk.Q5],Dk.DV _ _ _ d.BW,fun f h=>by cases h⟩
theorem HS(d:Dk){g:List Ty}(hg:Al g):CB g (Dk.tm 3 d g Af).1/\(Dk.tm 3 d g Af).1.size<=60:=by
 have m:=Dk.CF 3 d g Af hg zg (by omega) (by omega);have h1:=(m.size hg zg).2 rfl;have h2:=MN;exact⟨⟨m.err hg zg (by omega),m.inf hg zg,by omega⟩,by omega⟩
def Dk.w0(d:Dk):Tm×Dk:=Dk.tm 3 d.GF d.ctx.1 Af
def Dk.w1(d:Dk):Tm×Dk:=Dk.tm 3 d.w0.2 d.ctx.1 Af
def Dk.w2(d:Dk):Tm×Dk:=Dk.tm 3 d.w1.2 d.ctx.1 Af
def Dk.wH(d:Dk):List Fm:=d.FO++[AP d.w0.1 d.w1.1,AP d.w1.1 d.w2.1]
def Dk.wC(d:Dk):Ck:=⟨[],d.ctx.1,d.wH⟩
abbrev xo(i:Int):Pf:= .mk 1 i (.mk 0 []) [] [] []
theorem Ybz{i:Int}(hi:0<=i):(xo i).err=0:=by
 rw[Pf.Ae];refine⟨?_,by simp[Pf.small,Pf.Al],by simp[Pf.size,Pf.sizes]⟩;rw[Pf.Ak];simp[Pf.head,BO,hi,Ty.BI,Ty.kind,Ty.args]
theorem Td{s:Tm}(h:s.err=0):(xe s).err=0:=by
 have h1:=(Tm.Ae s).1 h;rw[Pf.Ae];refine⟨?_,?_,?_⟩
 ·rw[Pf.Ak];simp[xe,Pf.head,BO,h1.1,Ty.BI,Ty.kind,Ty.args]
 ·rw[Pf.BZ];simp[xe,h1.2]
 ·rw[Pf.size_eq];simp[xe];omega
theorem Zsw(s:Tm):(xe s).size=1+s.size:=by rw[Pf.size_eq];simp[xe]
theorem Zwq(i:Int):(xo i).size=1:=by rw[Pf.size_eq];simp[xo]
def lim(e:Int):Prop:=e=0\/e=4\/e=5\/e=3
def Dk.nH(d:Dk):List Fm:=d.wH++[AP (sT d.w0.1) (sT d.w2.1),AP zT (sT d.w1.1)]
def Dk.nC(d:Dk):Ck:=⟨[],d.ctx.1,d.nH⟩
theorem Ek{g g':Int->Int->Tm}(h:∀i c,g i c=g' i c)(t:Tm)(b:Int):t.re g b=t.re g' b:=by
 have:g=g':=funext fun i=>funext fun c=>h i c;rw[this]
theorem Fm.DH(G:Int->Tm->Tm)(c:Int)(f:Fm):∀b,f.re G (b+c)=f.re (fun b t=>G (b+c) t) b:=by
 induction f using Fm.ind with
 |h f ih=>
  intro b;have e:A3 f.kind (b+c)=A3 f.kind b+c:=by simp only[A3];split<;>omega
  rw[Fm.Bj,Fm.Bj,e];congr 1;exact List.map_congr_left fun x hx=>ih x hx _
theorem Fm.Ek{G G':Int->Tm->Tm}(h:∀b t,0<=b->G b t=G' b t)(f:Fm):f.re G 0=f.re G' 0:=by
 refine Fm.A7 f 0 fun p hp=>h _ _ ?_;exact WZ p hp
theorem NF(f:Fm)(a:Int)(s:Tm):f.put a s=f.re (fun b t=>t.re (xd (a+b) s) 0) 0:=rfl
theorem Yhp{k:Int}(hk:xp k=true)(s:Ty)(f:Fm)(a:Int)(x:Tm):(Bo k s f).put a x=Bo k s (f.put (a+1) x):=by
 rw[NF,Fm.Bj];simp only[Bo,Fm.kind,Fm.ty,Fm.terms,Fm.args,List.map_nil,List.map_cons];congr 2;have e:A3 k 0=0+1:=by simp[A3,hk]
 rw[e,Fm.DH,NF];refine Fm.Ek (fun b t _=> ?_) f;rw[show a+(b+1)=a+1+b by omega]
structure Gf (g:List Ty) (f:Fm) (n:Nat):Prop where
 sh:f.shape=true
 sz:f.size<=n
 ok:f.Bl g
structure Gt (g:List Ty) (s:Tm) (T:Ty) (m:Nat):Prop where
 sh:s.shape=true
 sz:s.size<=m
 inf:s.inf g=(T,0)
theorem Gf.err{g:List Ty}{f:Fm}{n:Nat}(h:Gf g f n)(hn:n<=4096):f.err=0:=(Fm.Ae f).2 ⟨h.sh,Nat.le_trans h.sz hn⟩
theorem Gt.err{g:List Ty}{s:Tm}{T:Ty}{m:Nat}(h:Gt g s T m)(hn:m<=4096):s.err=0:=(Tm.Ae s).2 ⟨h.sh,Nat.le_trans h.sz hn⟩
theorem RW(f:Fm)(a:Int):ve a (f.A2 0)<=f.size:=by
 have h1:=Kf a (f.A2 0);have h2:=Ml f 0;omega
theorem Gf.put{g:List Ty}{f:Fm}{n m:Nat}{s:Tm}{T:Ty}(hf:Gf (g++[T]) f n)(hs:Gt g s T m)(hm:1<=m)(hz:n*m<=4096)(hg:g.length<=20):
 yq f 0 s=0/\Gf g (f.put 0 s) (n*m):=by
 have hn:n<=n*m:=Nat.le_mul_of_pos_right n hm;have ef:=hf.err (by omega);have hp:=s.size_pos;have p2:=f.size_pos;have hmz:m<=4096:=by
  have:1*m<=n*m:=Nat.mul_le_mul_right m (by have:=hf.sz;omega);omega
 have es:=hs.err hmz;have nf:=(Zuh hf.ok ef (by simp;omega)).1;have ns:=ME (t:=s) (g:=g) (by rw[hs.inf]) hs.sh (by have:=hs.sz;omega);have hc:=RW f 0;have h1:ve 0 (f.A2 0)*(s.size-1)<=n*(m-1):=Nat.mul_le_mul (Nat.le_trans hc hf.sz) (by have:=hs.sz;omega);have h2:n*(m-1)+n=n*m:=by rw[<-Nat.mul_succ];congr 1;omega
 have h3:=hf.sz;refine⟨?_,O2 (by omega) hs.sh hf.sh,?_,?_⟩
 ·unfold yq;rw[if_neg (by simp[ef]),if_neg (by omega),if_neg (by simp[es]),if_neg (by simp[nf,ns]),if_neg];have e:((ve 0 (f.A2 0):Int)*((s.size:Int)-1))=((ve 0 (f.A2 0)*(s.size-1):Nat):Int):=by
   rw[Int.natCast_mul];congr 1;omega
  rw[e];omega
 ·have h4:=Ls 0 s hs.sh f hf.sh 0;have h5:(f.put 0 s).size=f.size+ve 0 (f.A2 0)*(s.size-1):=h4;omega
 ·have h6:=Pv 0 s g T hs.sh hs.inf f [] 0 rfl hf.sh (by simpa using hf.ok);have h7:(f.put 0 s).Bl (g++[]):=h6;simpa using h7
theorem Gf.AV{g h:List Ty}(m:List Ty){f:Fm}{n:Nat}(hf:Gf (g++h) f n):Gf (g++m++h) (f.AV h.length m.length) n:=
 have hk:=uu hf.sh (fr:=h.length) (by_:=m.length) (by omega)
 ⟨hk.1,by rw[hk.2.1];exact hf.sz,Jo m hf.sh hf.ok⟩
theorem Gf.qu{g:List Ty}{s:Ty}{f:Fm}{n:Nat}(k:Int)(hk:4<=k/\k<=7)(hs:s.err=0)(hf:Gf (g++[s]) f n):Gf g (Bo k s f) (n+1):=
 ⟨u3 hk hs hf.sh,by rw[J1];have:=hf.sz;omega,IJ hk hf.ok⟩
theorem Gt.zero(g:List Ty):Gt g zT Af 1:=⟨by decide,by decide,Yg6 g⟩
theorem Gt.nil(g:List Ty):Gt g Dj Am 1:=⟨by decide,by decide,Yfx g⟩
theorem Gt.v0(g:List Ty)(u:Ty):Gt (g++[u]) (vT 0) u 1:=⟨by decide,by decide,Vf g u⟩
theorem Gt.v1(g:List Ty)(u w:Ty):Gt (g++[u,w]) (vT 1) u 1:=by
 refine⟨by decide,by decide,?_⟩;rw[wq _ _ (by omega),if_neg (by simp;omega)];have:EI (g++[u,w]) 1=EI [u,w] 1:=wc (by simp);simp only[show(1:Int).toNat=1 from rfl];rw[this];rfl
theorem Gt.cons(g:List Ty):Gt (g++[Af,Am]) Cb Am 3:=by
 have h1:=(Gt.v1 g Af Am).inf;have h0:(vT 0).inf (g++[Af,Am])=(Am,0):=by
  have:=(Gt.v0 (g++[Af]) Am).inf;simpa using this
 exact⟨by decide,by decide,by
  have e:Cb.inf (g++[Af,Am])=(Am,0):=by simp[Cb,Tm.inf,Tm.AH,vi,h0,h1]
  exact e⟩
def Yke(f:Fm)(p q:Pf):Pf:= .mk 8 0 Af [] [] [.mk 16 0 (.mk 0 []) [vT 0] [f.AV 1 1] [p,.mk 9 0 (.mk 0 []) [vT 0] [] [q]]]
def Rb(f:Fm)(p q:Pf):Pf:= .mk 8 0 Am [] [] [.mk 17 0 (.mk 0 []) [vT 0] [f.AV 1 1] [p,.mk 9 0 (.mk 0 []) [vT 0] [] [.mk 9 0 (.mk 0 []) [vT 1] [] [q]]]]
end Go.Ab
namespace Go.Ab
open Go
set_option linter.all false
set_option maxHeartbeats 1000000
def Dk.cf(d:Dk):Fm×Dk:=Dk.fm 2 d.GF (d.ctx.1++[Af])
def Dk.cg(d:Dk):Fm×Dk:=Dk.fm 2 d.cf.2 (d.ctx.1++[Am])
def Ykr(f:Fm):Fm:=f.put 0 zT
def Ykq(f:Fm):Fm:=(f.AV 1 1).put 0 (sT (vT 0))
def Ykw(f:Fm):Fm:=f.put 0 Dj
def Yki(f:Fm):Fm:=(f.AV 1 2).put 0 Cb
def Dk.cH(d:Dk):List Fm:=d.FO++[Ykr d.cf.1,Bo 4 Af (Ykq d.cf.1),Ykw d.cg.1,Bo 4 Af (Bo 4 Am (Yki d.cg.1))]
def Dk.cC(d:Dk):Ck:=⟨[],d.ctx.1,d.cH⟩
end Go.Ab
namespace Go.Ab
open Go
set_option linter.all false
mutual
def Pf.up(fr b v:Int):Pf->Pf
 | .mk k i s ts fs zs=> .mk k i s (ts.map fun t=>t.re (zl (fr+v) b) 0) (fs.map fun f=>f.AV (fr+(v+AD k)) b) (Pf.Cn fr b v (As k) zs)
def Pf.Cn(fr b v w:Int):List Pf->List Pf
 |[]=>[]
 |p::l=>Pf.up fr b (if l.length=0 then v+w else v) p::Pf.Cn fr b v w l
end
mutual
def Pf.lh(fr b y:Int):Pf->Pf
 | .mk k i s ts fs zs=>if k=1 then .mk 1 (if i-y>=fr then i+b else i) (.mk 0 []) [] [] [] else .mk k i s ts fs (Pf.lhs fr b y (At k) zs)
def Pf.lhs(fr b y w:Int):List Pf->List Pf
 |[]=>[]
 |p::l=>Pf.lh fr b (if l.length=0 then y+w else y) p::Pf.lhs fr b y w l
end
theorem Pf.BM(fr b v:Int)(p:Pf):p.up fr b v= .mk p.kind p.index p.ty (p.terms.map fun t=>t.re (zl (fr+v) b) 0) (p.Ac.map fun f=>f.AV (fr+(v+AD p.kind)) b) (Pf.Cn fr b v (As p.kind) p.args):=by cases p;simp only[Pf.up];rfl
theorem Pf.Ec(fr b y:Int)(p:Pf):p.lh fr b y=if p.kind=1 then .mk 1 (if p.index-y>=fr then p.index+b else p.index) (.mk 0 []) [] [] [] else .mk p.kind p.index p.ty p.terms p.Ac (Pf.lhs fr b y (At p.kind) p.args):=by cases p;simp only[Pf.lh];rfl
theorem uf(fr b v w:Int):∀l:List Pf,(Pf.Cn fr b v w l).length=l.length
 |[]=>by simp only[Pf.Cn]
 |p::l=>by simp only[Pf.Cn,List.length_cons,uf fr b v w l]
theorem KR(fr b v w:Int):∀l:List Pf,(Pf.lhs fr b v w l).length=l.length
 |[]=>by simp only[Pf.lhs]
 |p::l=>by simp only[Pf.lhs,List.length_cons,KR fr b v w l]
theorem Np(fr b v w:Int):∀(l:List Pf) (m:Nat) (h:m<l.length) (h':m<(Pf.Cn fr b v w l).length),(Pf.Cn fr b v w l)[m]=l[m].up fr b (if m+1=l.length then v+w else v)
 |p::l,0,h,h'=>by
  simp only[Pf.Cn,List.getElem_cons_zero,List.length_cons];by_cases e:l.length=0
  ·rw[if_pos e,if_pos (by omega)]
  ·rw[if_neg e,if_neg (by omega)]
 |p::l,m+1,h,h'=>by
  simp only[Pf.Cn,List.getElem_cons_succ,List.length_cons,Nat.add_right_cancel_iff];exact Np fr b v w l m (by simpa using h) _
mutual
def Pf.ix(C:Int):Pf->Prop
 | .mk _ _ _ ts fs zs=>(∀t∈ts,∀p∈t.vars 0,0<=p.1/\p.1<C)/\(∀f∈fs,∀p∈f.A2 0,∀q∈p.1.vars 0,0<=q.1/\q.1<C)/\Pf.ixs C zs
def Pf.ixs(C:Int):List Pf->Prop
 |[]=>True
 |p::l=>Pf.ix C p/\Pf.ixs C l
end
theorem UB(C:Int):∀l:List Pf,Pf.ixs C l↔∀p∈l,p.ix C
 |[]=>by simp[Pf.ixs]
 |p::l=>by simp[Pf.ixs,UB C l]
theorem Pf.Be(C:Int)(p:Pf):p.ix C↔(∀t∈p.terms,∀q∈t.vars 0,0<=q.1/\q.1<C)/\(∀f∈p.Ac,∀q∈f.A2 0,∀r∈q.1.vars 0,0<=r.1/\r.1<C)/\∀x∈p.args,x.ix C:=by
 cases p;simp only[Pf.ix,UB];rfl
mutual
def Pf.hx(C:Int):Pf->Prop
 | .mk k i _ _ _ zs=>if k=1 then 0<=i/\i<C else Pf.hxs C zs
def Pf.hxs(C:Int):List Pf->Prop
 |[]=>True
 |p::l=>Pf.hx C p/\Pf.hxs C l
end
theorem Tj(C:Int):∀l:List Pf,Pf.hxs C l↔∀p∈l,p.hx C
 |[]=>by simp[Pf.hxs]
 |p::l=>by simp[Pf.hxs,Tj C l]
theorem Pf.A8(C:Int)(p:Pf):p.hx C↔(p.kind=1->0<=p.index/\p.index<C)/\(p.kind≠1->∀x∈p.args,x.hx C):=by
 cases p with
 |mk k i s ts fs zs=>
  by_cases h:k=1
  ·simp[Pf.hx,h,Pf.kind,Pf.index]
  ·simp[Pf.hx,h,Tj,Pf.kind,Pf.args]
theorem Yhq(C i:Int):(xo i).ix C:=by simp[xo,Pf.ix,Pf.ixs]
end Go.Ab
namespace Go.Ab
open Go
set_option linter.all false
set_option maxHeartbeats 1000000
inductive FP:Fm->Fm->Prop
 |refl (f):FP f f
 |eq {a b b'} (h:Gx b b'):FP (AP a b) (AP a b')
 |two {k a a' b b'} (ha:FP a a') (hb:FP b b'):FP (ue k a b) (ue k a' b')
 |qu {k s a a'} (ha:FP a a'):FP (Bo k s a) (Bo k s a')
def lim3(e:Int):Prop:=e=0\/e=4\/e=5
mutual
def Fm.dp:Fm->Nat
 | .mk _ _ _ zs=>1+Fm.TA zs
def Fm.TA:List Fm->Nat
 |[]=>0
 |f::l=>Fm.dp f+Fm.TA l
end
def arg(f:Fm)(i:Nat):Fm:=f.args.getD i A1
def Ei(f:Fm)(i:Nat):Tm:=f.terms.getD i A0
def exM(s t:Tm):Fm:=AP (s.re (zl 0 1) 0) (UY (s.re (zl 0 1) 0) (t.re (zl 0 1) 0) (vT 0))
def Fz:Nat->Int->Fm->Int->Pf×Int
 |0,_,_,h=>(xo h,-1)
 |n+1,r,f,h=>
  if r-f.num<0\/f.err≠0 then(xo h,-1)
  else if f.kind=2 then(.mk 3 0 (.mk 0 []) [] [] [(Fz n (r-f.num) (arg f 0) h).1,(Fz n (Fz n (r-f.num) (arg f 0) h).2 (arg f 1) h).1],(Fz n (Fz n (r-f.num) (arg f 0) h).2 (arg f 1) h).2)
  else if f.kind=3 then(.mk 6 0 (.mk 0 []) [] [arg f 0] [(Fz n (r-f.num) (arg f 1) (h+1)).1],(Fz n (r-f.num) (arg f 1) (h+1)).2)
  else if f.kind=4\/f.kind=6 then(.mk (if f.kind=6 then 12 else 8) 0 f.ty [] [] [(Fz n (r-f.num) (arg f 0) h).1],(Fz n (r-f.num) (arg f 0) h).2)
  else if f.kind=5\/f.kind=7 then
   if yq (arg f 0) 0 (Df f.ty)≠0 then(xo h,-1)
   else(.mk (if f.kind=7 then 14 else 10) 0 (.mk 0 []) [Df f.ty] [f] [(Fz n (r-f.num) ((arg f 0).put 0 (Df f.ty)) h).1],(Fz n (r-f.num) ((arg f 0).put 0 (Df f.ty)) h).2)
  else(Gv (exM (Ei f 0) (Ei f 1)) (xo h) (xe (Ei f 0)),r-f.num)
def Acc(c:Ck)(p:Pf)(f:Fm):Prop:=(∃x,Cf p c=(x,[],0)/\FP x f/\x.err=0/\x.Bl c.tys)\/∃e,Cf p c=yb e/\(e=3\/e=4\/e=5)
def Me(out p:Pf):Pf:= .mk 7 0 (.mk 0 []) [] [] [.mk 6 0 (.mk 0 []) [] [CG] [out],p]
theorem wr(k i:Int)(s:Ty)(ts:List Tm)(fs:List Fm)(zs:List Pf):(Pf.mk k i s ts fs zs).full=1+s.size+(ts.map Tm.full).sum+(fs.map Fm.full).sum+(zs.map Pf.full).sum:=Pf.Ag _
theorem GA:(Ty.mk 0 []).size=1:=by decide
theorem JI{s:Ty}(h:s.err=0):s.size<=64:=((Ty.Ae s).1 h).2
def Yk5(p:Pf):Pf×Int:=if p.err=0 then(p,0) else(Bc,4)
def exfR(n:Nat)(f:Fm)(p:Pf):Pf×Int:=if(Fz n 262144 f 0).2<0 then(Bc,4) else Yk5 (Me (Fz n 262144 f 0).1 p)
def Dk.xf(d:Dk):Fm×Dk:=Dk.fm 3 d.GF d.ctx.1
def Dk.xC(d:Dk):Ck:=⟨[],d.ctx.1,d.FO++[CG]⟩
def Tw:Nat->Nat->Fm->Prop
 |0,L,f=>∃s t,f=AP s t/\f.size<=L
 |n+1,L,f=>(∃s t,f=AP s t/\f.size<=L)\/(∃k a b,(k=2\/k=3)/\f=ue k a b/\Tw n L a/\Tw n L b)\/∃k s a,(4<=k/\k<=7)/\s.small/\f=Bo k s a/\Tw n L a
theorem Tw.size:∀{n L:Nat} {f:Fm},Tw n L f->f.size+1<=(L+1)*2^n
 |0,L,f,⟨s,t,e,h⟩=>by simp;omega
 |n+1,L,f,h=>by
  have hp:1<=2^n:=Nat.one_le_two_pow;have h2:(L+1)*2^(n+1)=2*((L+1)*2^n):=by rw[Nat.pow_succ];simp[Nat.mul_comm,Nat.mul_left_comm]
  have h3:(L+1)*1<=(L+1)*2^n:=Nat.mul_le_mul_left _ hp;rcases h with⟨s,t,e,h⟩|⟨k,a,b,hk,e,ha,hb⟩|⟨k,s,a,hk,hs,e,ha⟩
  ·omega
  ·have h4:=ha.size;have h5:=hb.size;rw[e,Ok];omega
  ·have h4:=ha.size;rw[e,J1];omega
theorem Tw.up{n L:Nat}{f:Fm}(h:Tw n L f):Tw (n+1) L f:=by
 induction n generalizing f with
 |zero=>exact .inl h
 |succ n ih=>
  rcases h with h|⟨k,a,b,hk,e,ha,hb⟩|⟨k,s,a,hk,hs,e,ha⟩
  ·exact .inl h
  ·exact .inr (.inl ⟨k,a,b,hk,e,ih ha,ih hb⟩)
  ·exact .inr (.inr ⟨k,s,a,hk,hs,e,ih ha⟩)
theorem Yes{k:Int}(hk:k=2\/k=3)(a b:Fm)(i:Int)(x:Tm):(ue k a b).put i x=ue k (a.put i x) (b.put i x):=by
 rw[NF,Fm.Bj];have e:A3 k 0=0:=by rcases hk with rfl|rfl<;>rfl
 simp only[ue,Fm.kind,Fm.ty,Fm.terms,Fm.args,List.map_nil,List.map_cons];rw[e];rfl
theorem Tw.put:∀{n L:Nat} {f:Fm},Tw n L f->f.shape=true->∀(i:Int) (x:Tm),0<=i->x.shape=true->x.size<=3->Tw n (3*L) (f.put i x)
 |0,L,f,⟨s,t,e,h⟩,hs,i,x,hi,hx,hz=>by
  have h1:=Ls i x hx f hs 0;have h2:(f.put i x).size=f.size+ve i (f.A2 0)*(x.size-1):=h1;have h3:=RW f i;have h4:ve i (f.A2 0)*(x.size-1)<=f.size*2:=Nat.mul_le_mul h3 (by omega);subst e;exact⟨s.re (xd (i+0) x) 0,t.re (xd (i+0) x) 0,rfl,by omega⟩
 |n+1,L,f,h,hs,i,x,hi,hx,hz=>by
  rcases h with⟨s,t,e,h⟩|⟨k,a,b,hk,e,ha,hb⟩|⟨k,s,a,hk,hsm,e,ha⟩
  ·exact Tw.up' (Tw.put (n:=0) ⟨s,t,e,h⟩ hs i x hi hx hz)
  ·subst e;have sa:a.shape=true:=zw hs (x:=a) (by simp[ue]);have sb:b.shape=true:=zw hs (x:=b) (by simp[ue]);rw[Yes hk];exact .inr (.inl ⟨k,_,_,hk,rfl,Tw.put ha sa i x hi hx hz,Tw.put hb sb i x hi hx hz⟩)
  ·subst e;have sa:a.shape=true:=zw hs (x:=a) (by simp[Bo]);rw[Yhp (Bp.2 hk)];exact .inr (.inr ⟨k,s,_,hk,hsm,rfl,Tw.put ha sa (i+1) x (by omega) hx hz⟩)
where
 Tw.up' {n L:Nat} {f:Fm} (h:Tw 0 L f):Tw (n+1) L f:= .inl h
def cost:Nat->Nat->Nat
 |0,L=>L
 |n+1,L=>(L+1)*2^(n+1)+2*cost n L+cost n (3*L)
def UP:Nat->Nat->Nat
 |0,L=>3*L+8
 |n+1,L=>10+3*L+(L+1)*2^(n+1)+2*UP n L+UP n (3*L)
structure Pg (p:Pf) (n:Nat):Prop where
 sh:p.shape=true
 sm:p.small=true
 sz:p.size<=n
theorem Pg.err{p:Pf}{n:Nat}(h:Pg p n)(hn:n<=16384):p.err=0:=(Pf.Ae p).2 ⟨h.sh,h.sm,Nat.le_trans h.sz hn⟩
theorem Pg.of{p:Pf}(h:p.err=0):Pg p p.size:=have h1:=(Pf.Ae p).1 h;⟨h1.1,h1.2.1,Nat.le_refl _⟩
theorem Pg.mono{p:Pf}{n m:Nat}(h:Pg p n)(hn:n<=m):Pg p m:=⟨h.sh,h.sm,Nat.le_trans h.sz hn⟩
theorem P8(k i:Int)(s:Ty)(ts:List Tm)(fs:List Fm)(zs:List Pf):(Pf.mk k i s ts fs zs).size=1+(ts.map Tm.size).sum+(fs.map Fm.size).sum+(zs.map Pf.size).sum:=Pf.size_eq _
theorem Pg.imp{p:Pf}{f:Fm}{n m:Nat}(hf:f.shape=true)(hz:f.size<=m)(hm:m<=4096)(hp:Pg p n):Pg (.mk 6 0 (.mk 0 []) [] [f] [p]) (1+m+n):=by
 refine⟨?_,?_,?_⟩
 ·simp[Pf.shape,Pf.Bb,Pf.head,BO,hp.sh,hf,Ty.BI,Ty.kind,Ty.args]
 ·simp[Pf.small,Pf.Al,hp.sm];omega
 ·have:=hp.sz;simp only[P8,List.map_cons,List.map_nil,List.sum_cons,List.sum_nil];omega
theorem Pg.all{k:Int}{p:Pf}{s:Ty}{n:Nat}(hk:k=8\/k=12)(hs:s.err=0)(hp:Pg p n):Pg (.mk k 0 s [] [] [p]) (1+n):=by
 have ho:s.ok=true:=by
  have h1:=(Ty.Ae s).1 hs;simp only[Ty.ok,Bool.and_eq_true,decide_eq_true_eq];exact h1
 refine⟨?_,?_,?_⟩
 ·rcases hk with rfl|rfl<;>simp[Pf.shape,Pf.Bb,Pf.head,BO,hp.sh,ho]
 ·simp[Pf.small,Pf.Al,hp.sm]
 ·have:=hp.sz;simp only[P8,List.map_cons,List.map_nil,List.sum_cons,List.sum_nil];omega
theorem Pg.ex{k:Int}{p:Pf}{t:Tm}{f:Fm}{n m z:Nat}(hk:k=10\/k=14)(ht:t.shape=true)(hz:t.size<=z)(hz2:z<=4096)(hf:f.shape=true)(hm:f.size<=m)(hm2:m<=4096)(hp:Pg p n):Pg (.mk k 0 (.mk 0 []) [t] [f] [p]) (1+z+m+n):=by
 refine⟨?_,?_,?_⟩
 ·rcases hk with rfl|rfl<;>simp[Pf.shape,Pf.Bb,Pf.head,BO,hp.sh,ht,hf,Ty.BI,Ty.kind,Ty.args]
 ·simp[Pf.small,Pf.Al,hp.sm];omega
 ·have:=hp.sz;simp only[P8,List.map_cons,List.map_nil,List.sum_cons,List.sum_nil];omega
theorem Pg.refl{t:Tm}{n:Nat}(ht:t.shape=true)(hz:t.size<=n)(hn:n<=4096):Pg (xe t) (1+n):=by
 have h:=Pg.of (Td (s:=t) ((Tm.Ae t).2 ⟨ht,by omega⟩));rw[Zsw] at h;exact h.mono (by omega)
def orB(a b:Fm):Fm:=ue 2 (ue 3 OL (a.AV 0 1)) (ue 3 (FV OL) (b.AV 0 1))
def Jb(a b:Fm):Fm:=orF (a.AV 0 1) (b.AV 0 1)
def F8(p q:Pf):Pf:= .mk 7 0 (.mk 0 []) [] [] [p,q]
def ET(f:Fm)(p:Pf):Pf:= .mk 6 0 (.mk 0 []) [] [f] [p]
def OQ(p q:Pf):Pf:= .mk 3 0 (.mk 0 []) [] [] [p,q]
def HJ(f:Fm)(t:Tm)(p:Pf):Pf:= .mk 10 0 (.mk 0 []) [t] [f] [p]
def Ykm(a b:Fm)(i:Int)(x:Pf):Pf:=HJ (Jb a b) zT (OQ (ET (AP zT zT) (xo (i+1))) (ET (FV (AP zT zT)) (Me x (F8 (xo 0) (xe zT)))))
def Yg2(a b:Fm)(i:Int)(x:Pf):Pf:=HJ (Jb a b) (sT zT) (OQ (ET (AP (sT zT) zT) (Me x (ML (sT zT) (xo 0)))) (ET (FV (AP (sT zT) zT)) (xo (i+1))))
def Q8(x:Tm)(a b:Fm)(n:Int):Fm:=ue 2 (ue 3 (AP x zT) (a.AV 0 n)) (ue 3 (FV (AP x zT)) (b.AV 0 n))
def Ylt(a b c:Fm):Fm:=ue 3 (Q8 (vT 0) a b 2) (c.AV 0 2)
def J8:Tm:=sT (vT 0)
def TY(p:Pf):Pf:= .mk 4 0 (.mk 0 []) [] [] [p]
def Xq(p:Pf):Pf:= .mk 5 0 (.mk 0 []) [] [] [p]
def Ykj(a b:Fm)(q:Pf):Pf:=ET (Q8 zT a b 1) (F8 q (F8 (TY (xo 0)) (xe zT)))
def Rd:Pf:=ET (AP J8 zT) (Ob (ML J8 (xo 0)))
def Ylp(a b:Fm)(r:Pf):Pf:=ET (Q8 J8 a b 2) (F8 r (F8 (Xq (xo 0)) Rd))
def KX(f:Fm)(t:Tm)(p q:Pf):Pf:= .mk 16 0 (.mk 0 []) [t] [f] [p,q]
def Yh5(a b c:Fm)(p q r:Pf):Pf:= .mk 11 0 (.mk 0 []) [] [] [p,F8 (KX (Ylt a b c) (vT 0) (Ykj a b q) (Ylp a b r)) (xo 0)]
theorem Yf1(a b:Tm)(i n:Int):(AP a b).AV i n=AP (a.re (zl (i+0) n) 0) (b.re (zl (i+0) n) 0):=rfl
theorem Pg.some{p:Pf}{t:Tm}{f:Fm}{n m z:Nat}(ht:t.shape=true)(hz:t.size<=z)(hz2:z<=4096)(hf:f.shape=true)(hm:f.size<=m)(hm2:m<=4096)(hp:Pg p n):Pg (HJ f t p) (1+z+m+n):=Pg.ex (.inl rfl) ht hz hz2 hf hm hm2 hp
def Dk.oA(d:Dk):Fm×Dk:=Dk.fm 2 d.GF d.ctx.1
def Dk.oB(d:Dk):Fm×Dk:=Dk.fm 2 d.oA.2 d.ctx.1
def Dk.oC(d:Dk):Fm×Dk:=Dk.fm 1 d.oB.2 d.ctx.1
def Dk.oH(d:Dk):List Fm:=d.FO++[d.oA.1,d.oB.1,Jb d.oA.1 d.oB.1,ue 3 d.oA.1 d.oC.1,ue 3 d.oB.1 d.oC.1]
def Dk.oK(d:Dk):Ck:=⟨[],d.ctx.1,d.oH⟩
def Dk.oL(d:Dk):Pf:=Ykm d.oA.1 d.oB.1 4 (Fz d.oB.1.dp 262144 d.oB.1 0).1
def Dk.oR(d:Dk):Pf:=Yg2 d.oA.1 d.oB.1 3 (Fz d.oA.1.dp 262144 d.oA.1 0).1
def Dk.oX(d:Dk):Pf:=Yh5 d.oA.1 d.oB.1 d.oC.1 (xo 2) (xo 3) (xo 3)
theorem OI{α:Type}(f g:α->Nat):∀l:List α,(∀x∈l,f x<=65*g x)->(l.map f).sum<=65*(l.map g).sum
 |[],_=>by simp
 |x::l,h=>by
  have h1:=h x (by simp);have h2:=OI f g l fun y hy=>h y (by simp[hy]);simp only[List.map_cons,List.sum_cons];omega
theorem KA(p:Pf):p.shape=true->p.full<=65*p.size:=by
 induction p using Pf.ind with
 |h p ih=>
  intro hs;obtain⟨h1,h2,h3,h4⟩:=zh hs;have ht:p.ty.size<=64:=by
   have hh:=h1;unfold Pf.head at hh;split at hh
   ·cases hh
   ·rename_i nd _;simp only[Bool.and_eq_true] at hh;have h5:=hh.2;split at h5
    ·simp only[Ty.ok,Bool.and_eq_true,decide_eq_true_eq] at h5;exact h5.2
    ·rw[Ty.DP h5];decide
  have a1:=OI Tm.full Tm.size p.terms fun t ht=>K0 t (h2 t ht);have a2:=OI Fm.full Fm.size p.Ac fun f hf=>ID f (h3 f hf);have a3:=OI Pf.full Pf.size p.args fun x hx=>ih x hx (h4 x hx);have e1:=p.Ag;have e2:=p.size_eq;omega
end Go.Ab
namespace Go.Ab
open Go
set_option linter.all false
abbrev Jn(n:Int):Int:=IntKind.i64.wrap n
def G7(fr by_:Int)(i b:Int):Tm:= .mk 1 (if Jn (i-b)>=fr then Jn (i+by_) else i) (.mk 0 []) []
def Tm.lw(t:Tm)(fr by_:Int):Tm:=t.re (G7 fr by_) 0
def Fm.lw(f:Fm)(fr by_:Int):Fm:=f.re (fun b t=>t.lw (fr+b) by_) 0
theorem Ty.GH(t:Ty):1<=t.size:=by cases t;simp only[Ty.size];omega
theorem Tm.G0(t:Tm):2<=t.full:=by rw[Tm.Ag];have:=t.ty.GH;omega
theorem Kk{α:Type}{f g:α->Nat}:∀{l:List α},(∀x∈l,f x<=g x)->(l.map f).sum<=(l.map g).sum
 |[],_=>Nat.le_refl _
 |x::l,h=>by
  simp only[List.map_cons,List.sum_cons];have h1:=h x (by simp);have h2:=Kk (l:=l) fun y hy=>h y (by simp[hy]);omega
theorem Tm.Dp{G:Int->Int->Tm}(hG:∀i b,(G i b).full<=2)(t:Tm):∀b,(t.re G b).full<=t.full:=by
 induction t using Tm.ind with
 |h t ih=>
  intro b;by_cases h1:t.kind=1
  ·rw[ub h1];have:=hG t.index b;have:=t.G0;omega
  ·rw[xv h1,t.Ag,Tm.Ag];simp only[Tm.Ad,Tm.AL,List.map_map];have:=Kk (f:=Tm.full∘Tm.re G (up t.kind b)) (g:=Tm.full) fun x hx=>ih x hx (up t.kind b);omega
theorem Fm.Dp{G:Int->Tm->Tm}(hG:∀b t,(G b t).full<=t.full)(f:Fm):∀b,(f.re G b).full<=f.full:=by
 induction f using Fm.ind with
 |h f ih=>
  intro b;rw[f.Ag,Fm.Ag,Fm.Bj];simp only[Fm.Ai,Fm.Ad,Fm.AL,List.map_map];have h1:=Kk (l:=f.terms) (f:=Tm.full∘G b) (g:=Tm.full) fun x _=>hG b x;have h2:=Kk (f:=Fm.full∘Fm.re G (A3 f.kind b)) (g:=Fm.full) fun x hx=>ih x hx (A3 f.kind b);omega
theorem Zt2(fr by_ i b:Int):(G7 fr by_ i b).full<=2:=by simp[G7,Tm.full,Tm.Au,Ty.size,Ty.sizes]
theorem UG(t:Tm)(fr by_:Int):(t.lw fr by_).full<=t.full:=Tm.Dp (Zt2 fr by_) t 0
theorem Yat(f:Fm)(fr by_:Int):(f.lw fr by_).full<=f.full:=Fm.Dp (fun b t=>UG t (fr+b) by_) f 0
mutual
def Pf.uw(fr b v:Int):Pf->Pf
 | .mk k i s ts fs zs=> .mk k i s (ts.map fun t=>t.lw (fr+v) b) (fs.map fun f=>f.lw (fr+(v+AD k)) b) (Pf.DA fr b v (As k) zs)
def Pf.DA(fr b v w:Int):List Pf->List Pf
 |[]=>[]
 |p::l=>Pf.uw fr b (if l.length=0 then v+w else v) p::Pf.DA fr b v w l
end
mutual
def Pf.hw(fr b y:Int):Pf->Pf
 | .mk k i s ts fs zs=>if k=1 then .mk 1 (if Jn (i-y)>=fr then Jn (i+b) else i) (.mk 0 []) [] [] [] else .mk k i s ts fs (Pf.DX fr b y (At k) zs)
def Pf.DX(fr b y w:Int):List Pf->List Pf
 |[]=>[]
 |p::l=>Pf.hw fr b (if l.length=0 then y+w else y) p::Pf.DX fr b y w l
end
theorem Pf.FW(fr b v:Int)(p:Pf):p.uw fr b v= .mk p.kind p.index p.ty (p.terms.map fun t=>t.lw (fr+v) b) (p.Ac.map fun f=>f.lw (fr+(v+AD p.kind)) b) (Pf.DA fr b v (As p.kind) p.args):=by cases p;simp only[Pf.uw];rfl
theorem Pf.Il(fr b y:Int)(p:Pf):p.hw fr b y=if p.kind=1 then .mk 1 (if Jn (p.index-y)>=fr then Jn (p.index+b) else p.index) (.mk 0 []) [] [] [] else .mk p.kind p.index p.ty p.terms p.Ac (Pf.DX fr b y (At p.kind) p.args):=by cases p;simp only[Pf.hw];rfl
theorem M1(fr b v w:Int):∀l:List Pf,(Pf.DA fr b v w l).length=l.length
 |[]=>by simp only[Pf.DA]
 |p::l=>by simp only[Pf.DA,List.length_cons,M1 fr b v w l]
theorem Qr(fr b v w:Int):∀l:List Pf,(Pf.DX fr b v w l).length=l.length
 |[]=>by simp only[Pf.DX]
 |p::l=>by simp only[Pf.DX,List.length_cons,Qr fr b v w l]
theorem UC(fr b v w:Int):∀(l:List Pf) (m:Nat) (h:m<l.length) (h':m<(Pf.DA fr b v w l).length),(Pf.DA fr b v w l)[m]=l[m].uw fr b (if m+1=l.length then v+w else v)
 |p::l,0,h,h'=>by
  simp only[Pf.DA,List.getElem_cons_zero,List.length_cons];by_cases e:l.length=0
  ·rw[if_pos e,if_pos (by omega)]
  ·rw[if_neg e,if_neg (by omega)]
 |p::l,m+1,h,h'=>by
  simp only[Pf.DA,List.getElem_cons_succ,List.length_cons,Nat.add_right_cancel_iff];exact UC fr b v w l m (by simpa using h) _
theorem Xp(fr b v w:Int):∀(l:List Pf) (m:Nat) (h:m<l.length) (h':m<(Pf.DX fr b v w l).length),(Pf.DX fr b v w l)[m]=l[m].hw fr b (if m+1=l.length then v+w else v)
 |p::l,0,h,h'=>by
  simp only[Pf.DX,List.getElem_cons_zero,List.length_cons];by_cases e:l.length=0
  ·rw[if_pos e,if_pos (by omega)]
  ·rw[if_neg e,if_neg (by omega)]
 |p::l,m+1,h,h'=>by
  simp only[Pf.DX,List.getElem_cons_succ,List.length_cons,Nat.add_right_cancel_iff];exact Xp fr b v w l m (by simpa using h) _
theorem Ycp{fr b v w:Int}{l:List Pf}{m:Nat}(h:m<l.length):(Pf.DA fr b v w l).take m++[l[m].uw fr b (if m+1=l.length then v+w else v)]=(Pf.DA fr b v w l).take (m+1):=by
 rw[<-UC fr b v w l m h (by rw[M1];exact h),List.take_append_getElem]
theorem Ya8{fr b v w:Int}{l:List Pf}{m:Nat}(h:m<l.length):(Pf.DX fr b v w l).take m++[l[m].hw fr b (if m+1=l.length then v+w else v)]=(Pf.DX fr b v w l).take (m+1):=by
 rw[<-Xp fr b v w l m h (by rw[Qr];exact h),List.take_append_getElem]
theorem Yf2{fr b v w:Int}{l:List Pf}:(Pf.DA fr b v w l).take l.length=Pf.DA fr b v w l:=by rw[<-M1 fr b v w l,List.take_length]
theorem Ydq{fr b v w:Int}{l:List Pf}:(Pf.DX fr b v w l).take l.length=Pf.DX fr b v w l:=by rw[<-Qr fr b v w l,List.take_length]
theorem WT{fr b v w:Int}:∀{l:List Pf} {x:Pf},x∈Pf.DA fr b v w l->∃y∈l,∃v',x=y.uw fr b v'
 |[],x,h=>by simp[Pf.DA] at h
 |p::l,x,h=>by
  simp only[Pf.DA,List.mem_cons] at h;rcases h with rfl|h
  ·exact ⟨p,by simp,_,rfl⟩
  ·obtain ⟨y,hy,e⟩:=WT h;exact⟨y,by simp[hy],e⟩
theorem VV{fr b v w:Int}:∀{l:List Pf},(∀p∈l,∀v,(p.uw fr b v).full<=p.full)->((Pf.DA fr b v w l).map Pf.full).sum<=(l.map Pf.full).sum
 |[],_=>by simp[Pf.DA]
 |p::l,h=>by
  simp only[Pf.DA,List.map_cons,List.sum_cons];have h1:=h p (by simp) (if l.length=0 then v+w else v);have h2:=VV (v:=v) (w:=w) (l:=l) fun q hq=>h q (by simp[hq]);omega
theorem WW(fr b:Int)(p:Pf):∀v,(p.uw fr b v).full<=p.full:=by
 induction p using Pf.ind with
 |h p ih=>
  intro v;rw[p.Ag,Pf.Ag,Pf.FW];have h1:=Kk (l:=p.terms) (f:=Tm.full∘fun t=>t.lw (fr+v) b) (g:=Tm.full) fun x _=>UG x (fr+v) b;have h2:=Kk (l:=p.Ac) (f:=Fm.full∘fun t=>t.lw (fr+(v+AD p.kind)) b) (g:=Fm.full) fun x _=>Yat x (fr+(v+AD p.kind)) b;have h3:=VV (v:=v) (w:=As p.kind) ih;simp only[Pf.terms,Pf.Ac,Pf.args,Pf.ty,List.map_map] at*;omega
mutual
def Pf.nd:Pf->Prop
 | .mk k _ _ _ _ zs=>(∃n,BO k=some n/\zs.length=n.args)/\Pf.L5 zs
def Pf.L5:List Pf->Prop
 |[]=>True
 |p::l=>Pf.nd p/\Pf.L5 l
end
theorem TN:∀l:List Pf,Pf.L5 l↔∀p∈l,p.nd
 |[]=>by simp[Pf.L5]
 |p::l=>by simp[Pf.L5,TN l]
theorem Pf.Bz(p:Pf):p.nd↔(∃n,BO p.kind=some n/\p.args.length=n.args)/\∀x∈p.args,x.nd:=by
 cases p;simp only[Pf.nd,TN];rfl
theorem Gq(p:Pf):p.shape=true->p.nd:=by
 induction p using Pf.ind with
 |h p ih=>
  intro hs;obtain⟨nd,n1,n2,n3,n4,_⟩:=QU hs;exact(Pf.Bz p).2 ⟨⟨nd,n1,n4⟩,fun x hx=>ih x hx ((zh hs).2.2.2 x hx)⟩
theorem Yko(fr b:Int)(p:Pf):p.nd->∀v,(p.uw fr b v).nd:=by
 induction p using Pf.ind with
 |h p ih=>
  intro hn v;obtain⟨⟨n,n1,n2⟩,n3⟩:=(Pf.Bz p).1 hn;rw[Pf.FW,Pf.Bz];refine⟨⟨n,n1,by rw[<-n2];exact M1 _ _ _ _ _⟩,fun x hx=> ?_⟩;obtain⟨y,hy,v',rfl⟩:=WT hx;exact ih y hy (n3 y hy) v'
def Pf.Ds(p:Pf)(v h:Int):Pf:=(p.uw 0 v 0).hw 0 h 0
def Sh(s:Tm)(p:Pf):Pf:=Gv (AP (vT 0) (s.lw 0 1)) p (xe s)
def Pd(s:Tm)(p q:Pf):Pf:=Gv (AP (s.lw 0 1) (vT 0)) q p
def Yk3(g s:Tm)(p:Pf):Pf:=Gv (AP (AO (g.lw 0 1) (s.lw 0 1)) (AO (g.lw 0 1) (vT 0))) p (xe (AO g s))
def Rk(s:Tm)(p:Pf):Pf:=Gv (AP (s.lw 0 1) (AO Cj (vT 0))) p (xe s)
def Ydr(s t n:Tm):Tm:= .mk 6 0 Af [s,BR Af (BR Af (t.lw 0 2)),n]
def exW(s t:Tm):Fm:=AP (s.lw 0 1) (Ydr (s.lw 0 1) (t.lw 0 1) (vT 0))
def E5:Nat->Int->Fm->Int->Pf×Int
 |0,_,_,h=>(xo h,-1)
 |n+1,r,f,h=>
  if r-f.num<0\/f.err≠0 then(xo h,-1)
  else if f.kind=2 then(.mk 3 0 (.mk 0 []) [] [] [(E5 n (r-f.num) (arg f 0) h).1,(E5 n (E5 n (r-f.num) (arg f 0) h).2 (arg f 1) h).1],(E5 n (E5 n (r-f.num) (arg f 0) h).2 (arg f 1) h).2)
  else if f.kind=3 then(.mk 6 0 (.mk 0 []) [] [arg f 0] [(E5 n (r-f.num) (arg f 1) (h+1)).1],(E5 n (r-f.num) (arg f 1) (h+1)).2)
  else if f.kind=4\/f.kind=6 then(.mk (if f.kind=6 then 12 else 8) 0 f.ty [] [] [(E5 n (r-f.num) (arg f 0) h).1],(E5 n (r-f.num) (arg f 0) h).2)
  else if f.kind=5\/f.kind=7 then
   if yq (arg f 0) 0 (Df f.ty)≠0 then(xo h,-1)
   else(.mk (if f.kind=7 then 14 else 10) 0 (.mk 0 []) [Df f.ty] [f] [(E5 n (r-f.num) ((arg f 0).put 0 (Df f.ty)) h).1],(E5 n (r-f.num) ((arg f 0).put 0 (Df f.ty)) h).2)
  else(Gv (exW (Ei f 0) (Ei f 1)) (xo h) (xe (Ei f 0)),r-f.num)
def Mu(a b:Fm)(p x:Pf):Pf:=HJ (Jb a b) zT (OQ (ET (AP zT zT) (p.Ds 0 1)) (ET (FV (AP zT zT)) (Me x (F8 (xo 0) (xe zT)))))
def L3(a b:Fm)(p x:Pf):Pf:=HJ (Jb a b) (sT zT) (OQ (ET (AP (sT zT) zT) (Me x (Sh (sT zT) (xo 0)))) (ET (FV (AP (sT zT) zT)) (p.Ds 0 1)))
def Qv(x:Tm)(a b:Fm)(n:Int):Fm:=ue 2 (ue 3 (AP x zT) (a.lw 0 n)) (ue 3 (FV (AP x zT)) (b.lw 0 n))
def Yjq(a b c:Fm):Fm:=ue 3 (Qv (vT 0) a b 2) (c.lw 0 2)
def Yho(a b:Fm)(q:Pf):Pf:=ET (Qv zT a b 1) (F8 q (F8 (TY (xo 0)) (xe zT)))
def SY:Pf:=ET (AP J8 zT) (Ob (Sh J8 (xo 0)))
def Yg3(a b:Fm)(r:Pf):Pf:=ET (Qv J8 a b 2) (F8 r (F8 (Xq (xo 0)) SY))
def WC(a b c:Fm)(p q r:Pf):Pf:= .mk 11 0 (.mk 0 []) [] [] [p,F8 (KX (Yjq a b c) (vT 0) (Yho a b (q.Ds 1 2)) (Yg3 a b (r.Ds 2 3))) (xo 0)]
def P7(f:Fm)(p q:Pf):Pf:= .mk 8 0 Af [] [] [.mk 16 0 (.mk 0 []) [vT 0] [f.lw 1 1] [p.Ds 1 0,.mk 9 0 (.mk 0 []) [vT 0] [] [q.Ds 2 1]]]
def Yg8(f:Fm)(p q:Pf):Pf:= .mk 8 0 Am [] [] [.mk 17 0 (.mk 0 []) [vT 0] [f.lw 1 1] [p.Ds 1 0,.mk 9 0 (.mk 0 []) [vT 0] [] [.mk 9 0 (.mk 0 []) [vT 1] [] [q.Ds 3 1]]]]
def Fc(s t:Tm):Fm:=AP s t
def Lq(s t:Tm):Fm:=Jb (Fc s t) (FV (Fc s t))
def WM(s t:Tm)(p:Pf):Pf:=Mu (Fc s t) (FV (Fc s t)) p (E5 (FV (Fc s t)).dp 262144 (FV (Fc s t)) 0).1
def Pt(s t:Tm)(p:Pf):Pf:=L3 (Fc s t) (FV (Fc s t)) (ET (Fc s t) p) (E5 (Fc s t).dp 262144 (Fc s t) 0).1
def Rc(s:Ty)(p:Pf):Pf:= .mk 8 0 s [] [] [p]
def Rt(t:Tm)(p:Pf):Pf:= .mk 9 0 (.mk 0 []) [t] [] [p]
def Pq:Pf:=P7 (Lq zT (vT 0)) (WM zT zT (xe zT)) (Rc Af (Pt zT (sT (vT 0)) (Ob (xo 0))))
def D9:Tm:=BR Af (sT (vT 0))
def P6:Pf:=ET (Fc (vT 1) (vT 0)) (WM (sT (vT 1)) (sT (vT 0)) (Yk3 D9 (vT 1) (xo 0)))
def O8:Pf:=ET (FV (Fc (vT 1) (vT 0))) (Pt (sT (vT 1)) (sT (vT 0)) (F8 (xo 1) (Rk (vT 1) (xo 0))))
def QW:Pf:=WC (Fc (vT 1) (vT 0)) (FV (Fc (vT 1) (vT 0))) (Lq (sT (vT 1)) (sT (vT 0))) (Rt (vT 0) (xo 0)) P6 O8
def SB:Pf:=P7 (Lq (sT (vT 1)) (vT 0)) (Pt (sT (vT 0)) zT (Ob (Sh (sT (vT 0)) (xo 0)))) (Rc Af QW)
def eqP:Pf:=Rc Af (.mk 16 0 (.mk 0 []) [vT 0] [Bo 4 Af (Lq (vT 1) (vT 0))] [Pq,SB])
def Wq:Fm:=Bo 4 Af (Bo 4 Af (Lq (vT 1) (vT 0)))
def Fm.MI(f:Fm)(b:Int):List Int:=(f.A2 b).flatMap fun p=>C7 (p.1.vars p.2)
mutual
def Pf.MI(b:Int):Pf->List Int
 | .mk k _ _ ts fs zs=>ts.flatMap (fun t=>C7 (t.vars b))++fs.flatMap (fun f=>f.MI (b+AD k))++(Pf.KY b (As k) zs).flatten
def Pf.KY(b w:Int):List Pf->List (List Int)
 |[]=>[]
 |p::l=>Pf.MI (if l.length=0 then b+w else b) p::Pf.KY b w l
end
mutual
def Pf.F2(y:Int):Pf->List Int
 | .mk k i _ _ _ zs=>(if k=1/\i>=y then [i-y] else [])++(Pf.F3 y (At k) zs).flatten
def Pf.F3(y w:Int):List Pf->List (List Int)
 |[]=>[]
 |p::l=>Pf.F2 (if l.length=0 then y+w else y) p::Pf.F3 y w l
end
mutual
def Pf.HN:Pf->List Int
 | .mk k i _ _ _ zs=>(if k=2 then [i] else [])++(Pf.HC zs).flatten
def Pf.HC:List Pf->List (List Int)
 |[]=>[]
 |p::l=>Pf.HN p::Pf.HC l
end
theorem Pf.JT(y:Int)(p:Pf):p.F2 y=(if p.kind=1/\p.index>=y then [p.index-y] else [])++(Pf.F3 y (At p.kind) p.args).flatten:=by cases p;simp only[Pf.F2];rfl
theorem Yg{α:Type}{L:List (List α)}{m:Nat}(h:m<L.length):(L.take m).flatten++L[m]=(L.take (m+1)).flatten:=by
 rw[<-List.take_append_getElem h,List.flatten_append];simp
def Tm.DB(t:Tm):Prop:=∀b,∀p∈t.vars b,0<=p.1/\p.1<9223372036854775808
def Fm.DB(f:Fm):Prop:=∀b,∀p∈f.A2 b,p.1.DB
mutual
def Pf.DB:Pf->Prop
 | .mk _ i _ ts fs zs=>(0<=i/\i<9223372036854775808)/\(∀t∈ts,t.DB)/\(∀f∈fs,f.DB)/\Pf.MC zs
def Pf.MC:List Pf->Prop
 |[]=>True
 |p::l=>Pf.DB p/\Pf.MC l
end
def Hs(p:Pf):List Int:=yj (BA [] (p.F2 0))
def SO(p:Pf):List Int:=yj (BA [] p.HN)
def XS(p:Pf):List Int:=yj (BA [] (p.MI 0))
def TF(f:Fm):List Int:=yj (BA [] (f.MI 0))
mutual
def Pf.cn(most:Int):Pf->Int
 | .mk _ _ h ts fs zs=>Pf.FR most (Fm.FR most (Tm.FR most (1+h.cn (most-1)) ts) fs) zs
def Pf.FR(most n:Int):List Pf->Int
 |[]=>n
 |x::l=>if n<=most then Pf.FR most (n+x.cn (most-n)) l else n
end
def Tm.EM(t:Tm):Prop:=∀q∈t.vars 0,0<=q.1/\q.1<10000
def Fm.EM(f:Fm):Prop:=∀q∈f.A2 0,∀r∈q.1.vars 0,0<=r.1/\r.1<10000
theorem PT(f:Fm):∀(g:List Ty) (b:Int),f.shape=true->f.Bl g->∀q∈f.A2 b,∀r∈q.1.vars 0,0<=r.1/\r.1<g.length+f.size:=by
 induction f using Fm.ind with
 |h f ih=>
  intro g b hs h q hq r hr;rw[f.A5 b,List.mem_append] at hq;rw[Fm.Bq] at h;have hsz:=f.size_eq;rcases hq with hq|hq
  ·obtain ⟨t,ht,rfl⟩:=List.mem_map.1 hq;have hst:=ye hs ht;have h1:=zc Tm.size ht;exact⟨t.AJ hst 0 r hr,Mw t g 0 (g.length+f.size) (by rw[h.1 t ht]) hst (by omega) r hr⟩
  ·obtain ⟨x,hx,hq⟩:=List.mem_flatMap.1 hq;have h1:=zc Fm.size hx;have hl:(Dx g f).length<=g.length+1:=by unfold Dx;split<;>simp
   have:=ih x hx _ _ (zw hs hx) (h.2 x hx) q hq r hr;omega
def C2(t:Tm):Prop:=t.shape=true/\t.EM/\t.full<=300000
def DY(f:Fm):Prop:=f.shape=true/\f.EM/\f.full<=300000
theorem C2.of{g:List Ty}{t:Tm}{T:Ty}(he:t.err=0)(hi:t.inf g=(T,0))(hg:g.length<=20):C2 t:=by
 obtain⟨h1,h2⟩:=(Tm.Ae t).1 he;have h3:=z9 he;refine⟨h1,fun q hq=>⟨t.AJ h1 0 q hq,?_⟩,by omega⟩;have:=Mw t g 0 (g.length+t.size) (by rw[hi]) h1 (by omega) q hq;omega
theorem DY.of{g:List Ty}{f:Fm}(he:f.err=0)(ho:f.Bl g)(hg:g.length<=20):DY f:=by
 obtain⟨h1,h2⟩:=(Fm.Ae f).1 he;have h3:=yf he;refine⟨h1,fun q hq r hr=> ?_,by omega⟩;have:=PT f g 0 h1 ho q hq r hr;omega
mutual
def Pf.lx(C:Int):Pf->Prop
 | .mk k i _ _ _ zs=>(k=2->0<=i/\i<C)/\Pf.IQ C zs
def Pf.IQ(C:Int):List Pf->Prop
 |[]=>True
 |p::l=>Pf.lx C p/\Pf.IQ C l
end
theorem Xi(C:Int):∀l:List Pf,Pf.IQ C l↔∀p∈l,p.lx C
 |[]=>by simp[Pf.IQ]
 |p::l=>by simp[Pf.IQ,Xi C l]
theorem Pf.BC(C:Int)(p:Pf):p.lx C↔(p.kind=2->0<=p.index/\p.index<C)/\∀x∈p.args,x.lx C:=by cases p;simp only[Pf.lx,Xi];rfl
structure Made (n:Nat) (p:Pf):Prop where
 shape:p.shape=true
 full:p.full<=n
 ix:p.ix 10000
 hx:p.hx 10000
 lx:p.lx 10000
theorem Made.up{n m:Nat}{p:Pf}(h:Made n p)(hm:n<=m):Made m p:=⟨h.shape,Nat.le_trans h.full hm,h.ix,h.hx,h.lx⟩
theorem Made.mk'{k i:Int}{s:Ty}{ts:List Tm}{fs:List Fm}{zs:List Pf}{nd:Nd}{n:Nat}(hn:BO k=some nd)(h1:ts.length=nd.terms)(h2:fs.length=nd.Ac)(h3:zs.length=nd.args)
 (hi:0<=i/\i<10000) (hi2:nd.index=true\/i=0) (hs:if nd.typ=true then s.ok=true else s.BI=true) (hk:k=1->zs=[])
 (ht:∀t∈ts,C2 t) (hf:∀f∈fs,DY f) (hz:∀x∈zs,∃m,Made m x) (hfull:(Pf.mk k i s ts fs zs).full<=n):Made n (Pf.mk k i s ts fs zs):=by
 refine⟨?_,hfull,(Pf.Be _ _).2 ⟨fun t h=>(ht t h).2.1,fun f h=>(hf f h).2.1,fun x h=> ?_⟩,(Pf.A8 _ _).2 ⟨fun _=>hi,fun _ x h=> ?_⟩,(Pf.BC _ _).2 ⟨fun _=>hi,fun x h=> ?_⟩⟩
 ·rw[Pf.Ak];simp only[Bool.and_eq_true,List.all_eq_true];refine⟨⟨⟨?_,fun t h=>(ht t h).1⟩,fun f h=>(hf f h).1⟩,fun x h=> ?_⟩
  ·unfold Pf.head;simp only[Pf.Ah,Pf.Ai,Pf.Ar,Pf.Ad,Pf.Ay,Pf.AL,hn,h1,h2,h3,beq_self_eq_true,Bool.true_and,hi.1,decide_true];rw[Bool.and_eq_true];constructor
   ·rcases hi2 with h|h
    ·rw[h];rfl
    ·rw[h];simp
   ·by_cases hty:nd.typ=true
    ·rw[if_pos hty] at hs ⊢;exact hs
    ·rw[if_neg hty] at hs ⊢;exact hs
  ·obtain ⟨m,hm⟩:=hz x h;exact hm.shape
 ·obtain ⟨m,hm⟩:=hz x h;exact hm.ix
 ·obtain ⟨m,hm⟩:=hz x h;exact hm.hx
 ·obtain ⟨m,hm⟩:=hz x h;exact hm.lx
theorem Zur{s:Ty}(h:s.err=0):s.ok=true:=Kg ((Ty.Ae s).1 h).1 ((Ty.Ae s).1 h).2
theorem w9{α:Type}{P:α->Prop}{a:α}(h:P a):∀x∈[a],P x:=fun x hx=>by simp only[List.mem_singleton] at hx;subst hx;exact h
theorem Hx{α:Type}{P:α->Prop}{a b:α}(h:P a)(h':P b):∀x∈[a,b],P x:=fun x hx=>by
 simp only[List.mem_cons,List.not_mem_nil,or_false] at hx;rcases hx with rfl|rfl
 ·exact h
 ·exact h'
theorem ux{α:Type}{P:α->Prop}:∀x∈([]:List α),P x:=fun x hx=>by cases hx
theorem Made.ref{t:Tm}(h:C2 t):Made 300010 (.mk 18 0 (.mk 0 []) [t] [] []):=
 .mk' rfl rfl rfl rfl (by omega) (.inr rfl) rfl (by decide) (w9 h) ux ux (by rw[wr,GA];have:=h.2.2;simp;omega)
theorem Made.hyp{i:Int}(h:0<=i/\i<10000):Made 10 (xo i):=
 .mk' (nd:=⟨0,0,0,true,false⟩) rfl rfl rfl rfl h (.inl rfl) rfl (fun _=>rfl) ux ux ux (by rw[wr,GA];simp)
theorem Made.lem{i:Int}(h:0<=i/\i<10000):Made 10 (.mk 2 i (.mk 0 []) [] [] []):=
 .mk' (nd:=⟨0,0,0,true,false⟩) rfl rfl rfl rfl h (.inl rfl) rfl (fun _=>rfl) ux ux ux (by rw[wr,GA];simp)
theorem Made.two{k:Int}(hk:k=3\/k=7\/k=11\/k=15){n m:Nat}{p q:Pf}(hp:Made n p)(hq:Made m q):Made (n+m+2) (.mk k 0 (.mk 0 []) [] [] [p,q]):=by
 have h:=hp.full;have h':=hq.full;refine .mk' (nd:=⟨0,0,2,false,false⟩) ?_ rfl rfl rfl (by omega) (.inr rfl) rfl (fun h=>by omega) ux ux (Hx ⟨_,hp⟩ ⟨_,hq⟩) (by rw[wr,GA];simp;omega);rcases hk with rfl|rfl|rfl|rfl<;>rfl
theorem Made.one{k:Int}(hk:k=4\/k=5\/k=20){n:Nat}{p:Pf}(hp:Made n p):Made (n+2) (.mk k 0 (.mk 0 []) [] [] [p]):=by
 have h:=hp.full;refine .mk' (nd:=⟨0,0,1,false,false⟩) ?_ rfl rfl rfl (by omega) (.inr rfl) rfl (fun h=>by omega) ux ux (w9 ⟨_,hp⟩) (by rw[wr,GA];simp;omega);rcases hk with rfl|rfl|rfl<;>rfl
theorem Made.imp{f:Fm}(hf:DY f){n:Nat}{p:Pf}(hp:Made n p):Made (n+300002) (.mk 6 0 (.mk 0 []) [] [f] [p]):=by
 have h:=hp.full;have h':=hf.2.2;exact .mk' (nd:=⟨0,1,1,false,false⟩) rfl rfl rfl rfl (by omega) (.inr rfl) rfl (fun h=>by omega) ux (w9 hf) (w9 ⟨_,hp⟩) (by rw[wr,GA];simp;omega)
theorem Made.all{k:Int}(hk:k=8\/k=12){s:Ty}(hs:s.err=0){n:Nat}{p:Pf}(hp:Made n p):Made (n+65) (.mk k 0 s [] [] [p]):=by
 have h:=hp.full;have h':=JI hs;refine .mk' (nd:=⟨0,0,1,false,true⟩) ?_ rfl rfl rfl (by omega) (.inr rfl) (Zur hs) (fun h=>by omega) ux ux (w9 ⟨_,hp⟩) (by rw[wr];simp;omega);rcases hk with rfl|rfl<;>rfl
theorem Made.at_{k:Int}(hk:k=9\/k=13){t:Tm}(ht:C2 t){n:Nat}{p:Pf}(hp:Made n p):Made (n+300002) (.mk k 0 (.mk 0 []) [t] [] [p]):=by
 have h:=hp.full;have h':=ht.2.2;refine .mk' (nd:=⟨1,0,1,false,false⟩) ?_ rfl rfl rfl (by omega) (.inr rfl) rfl (fun h=>by omega) (w9 ht) ux (w9 ⟨_,hp⟩) (by rw[wr,GA];simp;omega);rcases hk with rfl|rfl<;>rfl
theorem Made.ex{k:Int}(hk:k=10\/k=14){f:Fm}{t:Tm}(hf:DY f)(ht:C2 t){n:Nat}{p:Pf}(hp:Made n p):Made (n+600002) (.mk k 0 (.mk 0 []) [t] [f] [p]):=by
 have h:=hp.full;have h':=ht.2.2;have h2:=hf.2.2;refine .mk' (nd:=⟨1,1,1,false,false⟩) ?_ rfl rfl rfl (by omega) (.inr rfl) rfl (fun h=>by omega) (w9 ht) (w9 hf) (w9 ⟨_,hp⟩) (by rw[wr,GA];simp;omega);rcases hk with rfl|rfl<;>rfl
theorem Made.ind{k:Int}(hk:k=16\/k=17){f:Fm}{t:Tm}(hf:DY f)(ht:C2 t){n m:Nat}{p q:Pf}(hp:Made n p)(hq:Made m q):Made (n+m+600002) (.mk k 0 (.mk 0 []) [t] [f] [p,q]):=by
 have h:=hp.full;have h1:=hq.full;have h':=ht.2.2;have h2:=hf.2.2;refine .mk' (nd:=⟨1,1,2,false,false⟩) ?_ rfl rfl rfl (by omega) (.inr rfl) rfl (fun h=>by omega) (w9 ht) (w9 hf) (Hx ⟨_,hp⟩ ⟨_,hq⟩) (by rw[wr,GA];simp;omega);rcases hk with rfl|rfl<;>rfl
theorem Made.sub{f:Fm}(hf:DY f){n m:Nat}{p q:Pf}(hp:Made n p)(hq:Made m q):Made (n+m+300002) (.mk 19 0 (.mk 0 []) [] [f] [p,q]):=by
 have h:=hp.full;have h1:=hq.full;have h2:=hf.2.2;exact .mk' (nd:=⟨0,1,2,false,false⟩) rfl rfl rfl rfl (by omega) (.inr rfl) rfl (fun h=>by omega) ux (w9 hf) (Hx ⟨_,hp⟩ ⟨_,hq⟩) (by rw[wr,GA];simp;omega)
mutual
def Pf.pt(a:Int)(s:Tm)(v:Int):Pf->Pf
 | .mk k i h ts fs zs=> .mk k i h (ts.map fun t=>t.re (xd (a+v) s) 0) (fs.map fun f=>f.put (a+(v+AD k)) s) (Pf.pts a s v (As k) zs)
def Pf.pts(a:Int)(s:Tm)(v w:Int):List Pf->List Pf
 |[]=>[]
 |p::l=>Pf.pt a s (if l.length=0 then v+w else v) p::Pf.pts a s v w l
end
mutual
def Pf.ph(a:Int)(q:Pf)(v y:Int):Pf->Pf
 | .mk k i h ts fs zs=>if k=1 then(if i-y=a then q.Ds v (a+y) else if i-y>a then xo (i-1) else xo i) else .mk k i h ts fs (Pf.DD a q v y (As k) (At k) zs)
def Pf.DD(a:Int)(q:Pf)(v y w z:Int):List Pf->List Pf
 |[]=>[]
 |p::l=>Pf.ph a q (if l.length=0 then v+w else v) (if l.length=0 then y+z else y) p::Pf.DD a q v y w z l
end
theorem Pf.DT(a:Int)(s:Tm)(v:Int)(p:Pf):p.pt a s v= .mk p.kind p.index p.ty (p.terms.map fun t=>t.re (xd (a+v) s) 0) (p.Ac.map fun f=>f.put (a+(v+AD p.kind)) s) (Pf.pts a s v (As p.kind) p.args):=by cases p;simp only[Pf.pt];rfl
theorem Pf.E4(a:Int)(q:Pf)(v y:Int)(p:Pf):Pf.ph a q v y p=if p.kind=1 then(if p.index-y=a then q.Ds v (a+y) else if p.index-y>a then xo (p.index-1) else xo p.index) else .mk p.kind p.index p.ty p.terms p.Ac (Pf.DD a q v y (As p.kind) (At p.kind) p.args):=by cases p;simp only[Pf.ph];rfl
theorem Iq(a:Int)(s:Tm)(v w:Int):∀l:List Pf,(Pf.pts a s v w l).length=l.length
 |[]=>by simp only[Pf.pts]
 |p::l=>by simp only[Pf.pts,List.length_cons,Iq a s v w l]
theorem J9(a:Int)(q:Pf)(v y w z:Int):∀l:List Pf,(Pf.DD a q v y w z l).length=l.length
 |[]=>by simp only[Pf.DD]
 |p::l=>by simp only[Pf.DD,List.length_cons,J9 a q v y w z l]
theorem Mf(a:Int)(s:Tm)(v w:Int):∀(l:List Pf) (m:Nat) (h:m<l.length) (h':m<(Pf.pts a s v w l).length),(Pf.pts a s v w l)[m]=l[m].pt a s (if m+1=l.length then v+w else v)
 |p::l,0,h,h'=>by
  simp only[Pf.pts,List.getElem_cons_zero,List.length_cons];by_cases e:l.length=0
  ·rw[if_pos e,if_pos (by omega)]
  ·rw[if_neg e,if_neg (by omega)]
 |p::l,m+1,h,h'=>by
  simp only[Pf.pts,List.getElem_cons_succ,List.length_cons,Nat.add_right_cancel_iff];exact Mf a s v w l m (by simpa using h) _
theorem RD(a:Int)(q:Pf)(v y w z:Int):∀(l:List Pf) (m:Nat) (h:m<l.length) (h':m<(Pf.DD a q v y w z l).length),(Pf.DD a q v y w z l)[m]=Pf.ph a q (if m+1=l.length then v+w else v) (if m+1=l.length then y+z else y) l[m]
 |p::l,0,h,h'=>by
  simp only[Pf.DD,List.getElem_cons_zero,List.length_cons];by_cases e:l.length=0
  ·rw[if_pos e,if_pos e,if_pos (by omega),if_pos (by omega)]
  ·rw[if_neg e,if_neg e,if_neg (by omega),if_neg (by omega)]
 |p::l,m+1,h,h'=>by
  simp only[Pf.DD,List.getElem_cons_succ,List.length_cons,Nat.add_right_cancel_iff];exact RD a q v y w z l m (by simpa using h) _
theorem Zz1{a:Int}{s:Tm}{v w:Int}{l:List Pf}{m:Nat}(h:m<l.length):(Pf.pts a s v w l).take m++[l[m].pt a s (if m+1=l.length then v+w else v)]=(Pf.pts a s v w l).take (m+1):=by
 rw[<-Mf a s v w l m h (by rw[Iq];exact h),List.take_append_getElem]
theorem Ybq{a:Int}{q:Pf}{v y w z:Int}{l:List Pf}{m:Nat}(h:m<l.length):(Pf.DD a q v y w z l).take m++[Pf.ph a q (if m+1=l.length then v+w else v) (if m+1=l.length then y+z else y) l[m]]=(Pf.DD a q v y w z l).take (m+1):=by
 rw[<-RD a q v y w z l m h (by rw[J9];exact h),List.take_append_getElem]
theorem Yei{a:Int}{s:Tm}{v w:Int}{l:List Pf}:(Pf.pts a s v w l).take l.length=Pf.pts a s v w l:=by rw[<-Iq a s v w l,List.take_length]
theorem Yfu{a:Int}{q:Pf}{v y w z:Int}{l:List Pf}:(Pf.DD a q v y w z l).take l.length=Pf.DD a q v y w z l:=by rw[<-J9 a q v y w z l,List.take_length]
section
variable {α:Type}
mutual
def Pf.Dg(g:Int->Tm->α)(h:Int->Fm->α)(v:Int):Pf->List α
 | .mk k _ _ ts fs zs=>ts.map (g v)++fs.map (h (v+AD k))++(Pf.Bi g h v (As k) zs).flatten
def Pf.Bi(g:Int->Tm->α)(h:Int->Fm->α)(v w:Int):List Pf->List (List α)
 |[]=>[]
 |p::l=>Pf.Dg g h (if l.length=0 then v+w else v) p::Pf.Bi g h v w l
end
mutual
def Pf.B3(f:Int->Int->Int->List α)(y:Int):Pf->List α
 | .mk k i _ _ _ zs=>f k i y++(Pf.AM f y (At k) zs).flatten
def Pf.AM(f:Int->Int->Int->List α)(y w:Int):List Pf->List (List α)
 |[]=>[]
 |p::l=>Pf.B3 f (if l.length=0 then y+w else y) p::Pf.AM f y w l
end
variable (g:Int->Tm->α) (h:Int->Fm->α) (f:Int->Int->Int->List α)
theorem Pf.Ca(v:Int)(p:Pf):p.Dg g h v=p.terms.map (g v)++p.Ac.map (h (v+AD p.kind))++(Pf.Bi g h v (As p.kind) p.args).flatten:=by cases p;simp only[Pf.Dg];rfl
theorem Pf.Bu(y:Int)(p:Pf):p.B3 f y=f p.kind p.index y++(Pf.AM f y (At p.kind) p.args).flatten:=by cases p;simp only[Pf.B3];rfl
theorem vy(v w:Int):∀l:List Pf,(Pf.Bi g h v w l).length=l.length
 |[]=>by simp only[Pf.Bi];rfl
 |p::l=>by simp only[Pf.Bi,List.length_cons,vy v w l]
theorem vu(y w:Int):∀l:List Pf,(Pf.AM f y w l).length=l.length
 |[]=>by simp only[Pf.AM];rfl
 |p::l=>by simp only[Pf.AM,List.length_cons,vu y w l]
theorem um(v w:Int):∀(l:List Pf) (m:Nat) (hm:m<l.length) (h':m<(Pf.Bi g h v w l).length),(Pf.Bi g h v w l)[m]=l[m].Dg g h (if m+1=l.length then v+w else v)
 |p::l,0,hm,h'=>by
  simp only[Pf.Bi,List.getElem_cons_zero,List.length_cons];by_cases e:l.length=0
  ·rw[if_pos e,if_pos (by omega)]
  ·rw[if_neg e,if_neg (by omega)]
 |p::l,m+1,hm,h'=>by
  simp only[Pf.Bi,List.getElem_cons_succ,List.length_cons,Nat.add_right_cancel_iff];exact um v w l m (by simpa using hm) _
theorem uo(y w:Int):∀(l:List Pf) (m:Nat) (hm:m<l.length) (h':m<(Pf.AM f y w l).length),(Pf.AM f y w l)[m]=l[m].B3 f (if m+1=l.length then y+w else y)
 |p::l,0,hm,h'=>by
  simp only[Pf.AM,List.getElem_cons_zero,List.length_cons];by_cases e:l.length=0
  ·rw[if_pos e,if_pos (by omega)]
  ·rw[if_neg e,if_neg (by omega)]
 |p::l,m+1,hm,h'=>by
  simp only[Pf.AM,List.getElem_cons_succ,List.length_cons,Nat.add_right_cancel_iff];exact uo y w l m (by simpa using hm) _
theorem Nv{v w:Int}{l:List Pf}{m:Nat}(hm:m<l.length):((Pf.Bi g h v w l).take m).flatten++l[m].Dg g h (if m+1=l.length then v+w else v)=((Pf.Bi g h v w l).take (m+1)).flatten:=by
 rw[<-um g h v w l m hm (by rw[vy];exact hm)];exact Yg _
theorem u4{y w:Int}{l:List Pf}{m:Nat}(hm:m<l.length):((Pf.AM f y w l).take m).flatten++l[m].B3 f (if m+1=l.length then y+w else y)=((Pf.AM f y w l).take (m+1)).flatten:=by
 rw[<-uo f y w l m hm (by rw[vu];exact hm)];exact Yg _
theorem Ni{v w:Int}{l:List Pf}:(Pf.Bi g h v w l).take l.length=Pf.Bi g h v w l:=by rw[<-vy g h v w l,List.take_length]
theorem Ik{y w:Int}{l:List Pf}:(Pf.AM f y w l).take l.length=Pf.AM f y w l:=by rw[<-vu f y w l,List.take_length]
theorem Yd6(p:Pf):∀v,(p.Dg g h v).length<=p.full:=by
 induction p using Pf.ind with
 |h p ih=>
  intro v;rw[Pf.Ca,Pf.Ag];have key:∀(l:List Pf) (w:Int),(∀x∈l,x∈p.args)->(Pf.Bi g h v w l).flatten.length<=(l.map Pf.full).sum:=by
   intro l w;induction l with
   |nil=>intro _;simp[Pf.Bi]
   |cons x l ihl=>
    intro hx;simp only[Pf.Bi,List.flatten_cons,List.length_append,List.map_cons,List.sum_cons];have h1:=ih x (hx x (by simp)) (if l.length=0 then v+w else v);have h2:=ihl fun y hy=>hx y (by simp[hy]);omega
  have h1:=key p.args (As p.kind) fun _ h=>h;have h2:=zd Tm.full Tm.Aa p.terms;have h3:=zd Fm.full Fm.Aa p.Ac;simp only[List.length_append,List.length_map];omega
end
theorem OC{α β:Type}(X R:List β)(l:List α)(f:α->β)(m:Nat)(hm:m<l.length):X++(l.take m).map f++[f l[m]]<+:X++(l.map f++R):=by
 refine⟨(l.drop (m+1)).map f++R,?_⟩;have h0:(l.take m++[l[m]])++l.drop (m+1)=l:=by rw[List.take_append_getElem hm,List.take_append_drop]
 have h:=congrArg (List.map f) h0;rw[List.map_append,List.map_append] at h;rw[<-h];simp only[List.map_cons,List.map_nil,List.append_assoc]
theorem NN{β:Type}(X:List β)(LL:List (List β))(m:Nat)(hm:m<LL.length):X++(LL.take m).flatten++LL[m]<+:X++LL.flatten:=by
 refine⟨(LL.drop (m+1)).flatten,?_⟩;have h0:(LL.take m++[LL[m]])++LL.drop (m+1)=LL:=by rw[List.take_append_getElem hm,List.take_append_drop]
 have h:=congrArg List.flatten h0;rw[List.flatten_append,List.flatten_append] at h;rw[<-h];simp only[List.flatten_cons,List.flatten_nil,List.append_nil,List.append_assoc]
def CU(l:List (Int×Int)):Prop:=(∀q∈l,(0<=q.1/\q.1<=4096)/\0<=q.2/\q.2<=4096)/\l.length<=1000000000
theorem CU.pre{l l':List (Int×Int)}(h:l<+:l')(ho:CU l'):CU l:=⟨fun q hq=>ho.1 q (h.subset hq),Nat.le_trans h.length_le ho.2⟩
def CE(n k:Int)(l:List (Int×Int)):Int:=n+(l.map fun q=>q.2*(k-1)).sum
def CP(k:Int)(l:List (Int×Int)):Bool:=l.any fun q=>decide (q.1+q.2*(k-1)>4096)
theorem X2(n k:Int)(l:List (Int×Int))(q:Int×Int):CE n k (l++[q])=CE n k l+q.2*(k-1):=by
 unfold CE;rw[List.map_append,List.sum_append];simp[Int.add_assoc]
theorem Va(k:Int)(l:List (Int×Int))(q:Int×Int):CP k (l++[q])=(CP k l||decide (q.1+q.2*(k-1)>4096)):=by
 unfold CP;rw[List.any_append];simp
theorem O5{n k:Int}(hk:1<=k/\k<=4096)(hn:0<=n/\n<=1000000):∀{l:List (Int×Int)},CU l->0<=CE n k l/\CE n k l<=1000000+16777216*l.length:=by
 intro l;induction l with
 |nil=>intro _;simp[CE];omega
 |cons q l ih=>
  intro h;have h1:=ih (⟨fun x hx=>h.1 x (by simp[hx]),by have:=h.2;simp at this;omega⟩);have h2:=(h.1 q (by simp)).2;have e:CE n k (q::l)=CE n k l+q.2*(k-1):=by unfold CE;simp[Int.add_left_comm,Int.add_comm]
  have h3:0<=q.2*(k-1):=Int.mul_nonneg h2.1 (by omega);have h4:q.2*(k-1)<=4096*4095:=Int.mul_le_mul h2.2 (by omega) (by omega) (by omega);rw[e,List.length_cons];omega
def BE(a:Int)(v:Int)(t:Tm):Int×Int:=((t.size:Int),(cnt (a+v) (t.vars 0):Int))
def BK(a:Int)(v:Int)(f:Fm):Int×Int:=((f.size:Int),(ve (a+v) (f.A2 0):Int))
theorem xj{p:Pf}(h:p.small=true):(∀t∈p.terms,t.size<=4096)/\(∀f∈p.Ac,f.size<=4096)/\∀x∈p.args,x.small=true:=by
 rw[Pf.BZ] at h;simp only[Bool.and_eq_true,List.all_eq_true,decide_eq_true_eq] at h;exact⟨h.1.1,h.1.2,h.2⟩
theorem Yk2(a:Int)(p:Pf):p.small=true->p.full<=1000000000->∀v,CU (p.Dg (BE a) (BK a) v):=by
 intro hs hf v;refine⟨?_,Nat.le_trans (Yd6 _ _ p v) hf⟩;clear hf;revert hs v;induction p using Pf.ind with
 |h p ih=>
  intro hs v q hq;obtain⟨s1,s2,s3⟩:=xj hs;rw[Pf.Ca,List.mem_append,List.mem_append] at hq;rcases hq with(hq|hq)|hq
  ·obtain ⟨t,ht,rfl⟩:=List.mem_map.1 hq;have h1:=s1 t ht;have h2:=MV (a+v) (t.vars 0);have h3:=t.CH 0;simp only[BE];omega
  ·obtain ⟨f,hf,rfl⟩:=List.mem_map.1 hq;have h1:=s2 f hf;have h2:=RW f (a+(v+AD p.kind));simp only[BK];omega
  ·obtain ⟨l,hl,hq⟩:=List.mem_flatten.1 hq;obtain⟨m,hm,rfl⟩:=List.getElem_of_mem hl;rw[vy] at hm;rw[um _ _ _ _ _ _ hm] at hq;exact ih _ (List.getElem_mem hm) (s3 _ (List.getElem_mem hm)) _ q hq
def C5(k i _y:Int):List Bool:=if k=1 then [decide (i<=536870912)] else []
def Cq(a k i y:Int):List Int:=if k=1/\i-y=a then [i] else []
def Cw(k i y:Int):List Int:=if k=1/\i>=y then [i-y] else []
theorem Uf(a:Int)(p:Pf):∀y,(p.B3 (Cq a) y).length<=p.full:=by
 induction p using Pf.ind with
 |h p ih=>
  intro y;rw[Pf.Bu,Pf.Ag,List.length_append];have key:∀(l:List Pf) (w:Int),(∀x∈l,x∈p.args)->(Pf.AM (Cq a) y w l).flatten.length<=(l.map Pf.full).sum:=by
   intro l w;induction l with
   |nil=>intro _;simp[Pf.AM]
   |cons x l ihl=>
    intro hx;simp only[Pf.AM,List.flatten_cons,List.length_append,List.map_cons,List.sum_cons];have h1:=ih x (hx x (by simp)) (if l.length=0 then y+w else y);have h2:=ihl fun z hz=>hx z (by simp[hz]);omega
  have h1:=key p.args (At p.kind) fun _ h=>h;have h2:(Cq a p.kind p.index y).length<=1:=by unfold Cq;split<;>simp
  omega
def Pf.AN(p:Pf):Bool:=(p.Dg (fun(_:Int) (t:Tm)=>t.near) (fun(_:Int) (f:Fm)=>f.near) 0).all id
def Pf.AZ(p:Pf):Bool:=(p.B3 C5 0).all id
theorem V9(p:Pf):p.shape=true->p.small=true->∀v,(p.Dg (fun(_:Int) (t:Tm)=>t.near) (fun(_:Int) (f:Fm)=>f.near) v).all id=true->p.ix 549755813888:=by
 induction p using Pf.ind with
 |h p ih=>
  intro hs hm v h;obtain⟨s1,s2,s3⟩:=xj hm;obtain⟨_,s4,s5,s6⟩:=zh hs;rw[Pf.Ca,List.all_append,List.all_append,Bool.and_eq_true,Bool.and_eq_true] at h;obtain⟨⟨h1,h2⟩,h3⟩:=h;rw[List.all_eq_true] at h1 h2 h3;refine(Pf.Be _ p).2 ⟨fun t ht=> ?_,fun f hf=> ?_,fun x hx=> ?_⟩
  ·exact Sf ((Tm.Ae t).2 ⟨s4 t ht,s1 t ht⟩) (by simpa using h1 t.near (List.mem_map.2 ⟨t,ht,rfl⟩))
  ·exact XU ((Fm.Ae f).2 ⟨s5 f hf,s2 f hf⟩) (by simpa using h2 f.near (List.mem_map.2 ⟨f,hf,rfl⟩))
  ·obtain ⟨m,hm2,rfl⟩:=List.getElem_of_mem hx;refine ih _ hx (s6 _ hx) (s3 _ hx) (if m+1=p.args.length then v+As p.kind else v) (List.all_eq_true.2 fun b hb=> ?_);rw[<-um _ _ v (As p.kind) p.args m hm2 (by rw[vy];exact hm2)] at hb;exact h3 b (List.mem_flatten.2 ⟨_,List.getElem_mem _,hb⟩)
theorem TG(p:Pf):p.shape=true->∀y,(p.B3 C5 y).all id=true->p.hx 549755813888:=by
 induction p using Pf.ind with
 |h p ih=>
  intro hs y h;obtain⟨hh,_,_,s6⟩:=zh hs;obtain⟨nd,_,_,_,_,hi,_⟩:=Hz hh;rw[Pf.Bu,List.all_append,Bool.and_eq_true] at h;obtain⟨h1,h3⟩:=h;rw[List.all_eq_true] at h3;refine(Pf.A8 _ p).2 ⟨fun hk=>⟨hi,?_⟩,fun _ x hx=> ?_⟩
  ·simp[C5,hk] at h1;omega
  ·obtain ⟨m,hm2,rfl⟩:=List.getElem_of_mem hx;refine ih _ hx (s6 _ hx) (if m+1=p.args.length then y+At p.kind else y) (List.all_eq_true.2 fun b hb=> ?_);rw[<-uo _ y (At p.kind) p.args m hm2 (by rw[vu];exact hm2)] at hb;exact h3 b (List.mem_flatten.2 ⟨_,List.getElem_mem _,hb⟩)
theorem Mh(p:Pf):p.ix 10000->∀v,(p.Dg (fun(_:Int) (t:Tm)=>t.near) (fun(_:Int) (f:Fm)=>f.near) v).all id=true:=by
 induction p using Pf.ind with
 |h p ih=>
  intro hix v;obtain⟨i1,i2,i3⟩:=(Pf.Be _ p).1 hix;rw[Pf.Ca,List.all_append,List.all_append,Bool.and_eq_true,Bool.and_eq_true];refine⟨⟨List.all_eq_true.2 fun b hb=> ?_,List.all_eq_true.2 fun b hb=> ?_⟩,List.all_eq_true.2 fun b hb=> ?_⟩
  ·obtain ⟨t,ht,rfl⟩:=List.mem_map.1 hb;exact List.all_eq_true.2 fun q hq=>by have:=i1 t ht q hq;simp;omega
  ·obtain ⟨f,hf,rfl⟩:=List.mem_map.1 hb;exact Vw (C:=10000) (by omega) fun q hq r hr=>by have:=i2 f hf q hq r hr;omega
  ·obtain ⟨l,hl,hb⟩:=List.mem_flatten.1 hb;obtain⟨m,hm,rfl⟩:=List.getElem_of_mem hl;rw[vy] at hm;rw[um _ _ _ _ _ _ hm] at hb;exact List.all_eq_true.1 (ih _ (List.getElem_mem hm) (i3 _ (List.getElem_mem hm)) _) b hb
theorem Rm(p:Pf):p.nd->p.hx 10000->∀y,(p.B3 C5 y).all id=true:=by
 induction p using Pf.ind with
 |h p ih=>
  intro hs hh y;obtain⟨i1,i2⟩:=(Pf.A8 _ p).1 hh;obtain⟨⟨nd0,a1,a2⟩,a3⟩:=(Pf.Bz p).1 hs;rw[Pf.Bu,List.all_append,Bool.and_eq_true];refine⟨List.all_eq_true.2 fun b hb=> ?_,List.all_eq_true.2 fun b hb=> ?_⟩
  ·unfold C5 at hb;by_cases hk:p.kind=1
   ·rw[if_pos hk] at hb;simp only[List.mem_singleton] at hb;subst hb;have:=i1 hk;simp;omega
   ·rw[if_neg hk] at hb;cases hb
  ·obtain ⟨l,hl,hb⟩:=List.mem_flatten.1 hb;obtain⟨m,hm,rfl⟩:=List.getElem_of_mem hl;rw[vu] at hm;rw[uo _ _ _ _ _ hm] at hb;have hk:p.kind≠1:=fun e=>by
    rw[e] at a1;simp[BO] at a1;rw[<-a1] at a2;simp at a2;simp[a2] at hm
   exact List.all_eq_true.1 (ih _ (List.getElem_mem hm) (a3 _ (List.getElem_mem hm)) (i2 hk _ (List.getElem_mem hm)) _) b hb
theorem vr{p:Pf}{C C':Int}(h:p.ix C)(hc:C<=C'):p.ix C':=by
 induction p using Pf.ind with
 |h p ih=>
  obtain⟨i1,i2,i3⟩:=(Pf.Be _ p).1 h;exact(Pf.Be _ p).2 ⟨fun t ht q hq=>by have:=i1 t ht q hq;omega,fun f hf q hq r hr=>by have:=i2 f hf q hq r hr;omega,fun x hx=>ih x hx (i3 x hx)⟩
theorem J7{p:Pf}{C C':Int}(h:p.hx C)(hc:C<=C'):p.hx C':=by
 induction p using Pf.ind with
 |h p ih=>
  obtain⟨i1,i2⟩:=(Pf.A8 _ p).1 h;exact(Pf.A8 _ p).2 ⟨fun hk=>by have:=i1 hk;omega,fun hk x hx=>ih x hx (i2 hk x hx)⟩
def v4(p:Pf)(fr by_:Int):Int:=if p.err≠0 then p.err else if ¬(0<=fr/\fr<=4096)\/¬(0<=by_/\by_<=4096)\/p.AN=false then 1 else 0
def R1(p:Pf)(fr by_:Int):Int:=if p.err≠0 then p.err else if ¬(0<=fr/\fr<=16384)\/¬(0<=by_/\by_<=16384)\/p.AZ=false then 1 else 0
def EK(p:Pf)(a:Int)(s:Tm):List (Int×Int):=p.Dg (BE a) (BK a) 0
def x7(p:Pf)(a:Int)(s:Tm):Int:=
 if p.err≠0 then p.err else if ¬(0<=a/\a<=4096) then 1 else if s.err≠0 then s.err else if p.AN=false\/s.near=false then 1
 else if CP s.size (EK p a s)=true\/CE p.size s.size (EK p a s)>16384 then 4 else 0
def D6(p:Pf)(a:Int):Int:=(p.B3 (Cq a) 0).length
def va(p:Pf)(a:Int)(q:Pf):Int:=
 if p.err≠0 then p.err else if ¬(0<=a/\a<=16384) then 1 else if q.err≠0 then q.err else if p.AZ=false\/q.AZ=false\/q.AN=false then 1
 else if(p.size:Int)+D6 p a*(q.size-1)>16384 then 4 else 0
section
variable {p q:Pf} {fr by_ a:Int} {s:Tm}
theorem Oz(h:p.err≠0):x7 p a s=p.err:=by unfold x7;rw[if_pos h]
theorem Wa(h:p.err=0)(ha:¬(0<=a/\a<=4096)):x7 p a s=1:=by unfold x7;rw[if_neg (by simp[h]),if_pos ha]
theorem VW(h:p.err=0)(ha:0<=a/\a<=4096)(hs:s.err≠0):x7 p a s=s.err:=by unfold x7;rw[if_neg (by simp[h]),if_neg (fun g=>g ha),if_pos hs]
theorem Wc(h:p.err=0)(ha:0<=a/\a<=4096)(hs:s.err=0)(hn:p.AN=false\/s.near=false):x7 p a s=1:=by unfold x7;rw[if_neg (by simp[h]),if_neg (fun g=>g ha),if_neg (by simp[hs]),if_pos hn]
theorem Ns(h:p.err=0)(ha:0<=a/\a<=4096)(hs:s.err=0)(hn:¬(p.AN=false\/s.near=false)):x7 p a s=if CP s.size (EK p a s)=true\/CE p.size s.size (EK p a s)>16384 then 4 else 0:=by
 unfold x7;rw[if_neg (by simp[h]),if_neg (fun g=>g ha),if_neg (by simp[hs]),if_neg hn]
theorem OR(h:p.err≠0):va p a q=p.err:=by unfold va;rw[if_pos h]
theorem Ur(h:p.err=0)(ha:¬(0<=a/\a<=16384)):va p a q=1:=by unfold va;rw[if_neg (by simp[h]),if_pos ha]
theorem Ol(h:p.err=0)(ha:0<=a/\a<=16384)(hs:q.err≠0):va p a q=q.err:=by unfold va;rw[if_neg (by simp[h]),if_neg (fun g=>g ha),if_pos hs]
theorem Xm(h:p.err=0)(ha:0<=a/\a<=16384)(hs:q.err=0)(hn:p.AZ=false\/q.AZ=false\/q.AN=false):va p a q=1:=by unfold va;rw[if_neg (by simp[h]),if_neg (fun g=>g ha),if_neg (by simp[hs]),if_pos hn]
theorem Nt(h:p.err=0)(ha:0<=a/\a<=16384)(hs:q.err=0)(hn:¬(p.AZ=false\/q.AZ=false\/q.AN=false)):va p a q=if(p.size:Int)+D6 p a*(q.size-1)>16384 then 4 else 0:=by
 unfold va;rw[if_neg (by simp[h]),if_neg (fun g=>g ha),if_neg (by simp[hs]),if_neg hn]
end
def O4(k i _y:Int):List Int:=if k=2 then [i] else []
theorem TJ(y w:Int):∀l:List Pf,(∀p∈l,∀y,p.F2 y=p.B3 Cw y)->Pf.F3 y w l=Pf.AM Cw y w l
 |[],_=>by simp only[Pf.F3,Pf.AM]
 |p::l,h=>by
  simp only[Pf.F3,Pf.AM];rw[h p (by simp),TJ y w l fun q hq=>h q (by simp[hq])]
theorem SX(p:Pf):∀y,p.F2 y=p.B3 Cw y:=by
 induction p using Pf.ind with
 |h p ih=>
  intro y;rw[Pf.JT,Pf.Bu,TJ _ _ _ ih]
  rfl
theorem MQ{n:Int}(h: -9223372036854775808<=n/\n<9223372036854775808):Jn n=n:=by
 show IntKind.i64.wrap n=n;rw[IntKind.wrap_i64];omega
theorem Zoq(t:Tm):∀b:Int,∀p∈t.vars b,p.2<=b+t.size:=by
 induction t using Tm.ind with
 |h t ih=>
  intro b p hp;have hz:=t.size_eq;rw[Tm.AQ] at hp;rcases List.mem_append.1 hp with hp|hp
  ·by_cases hk:t.kind=1
   ·rw[if_pos hk] at hp;simp only[List.mem_singleton] at hp;subst hp;simp only;omega
   ·rw[if_neg hk] at hp;cases hp
  ·obtain ⟨x,hx,hp⟩:=List.mem_flatMap.1 hp;have h1:=ih x hx _ p hp;have h2:=zc Tm.size hx;have h3:up t.kind b<=b+1:=by unfold up;split<;>omega
   omega
theorem WH{t:Tm}{fr by_:Int}(hix:∀q∈t.vars 0,0<=q.1/\q.1<549755813888)(hz:t.size<=1000000)(hb: -1000000<=by_/\by_<=1000000):t.lw fr by_=t.re (zl fr by_) 0:=by
 refine A7 t 0 fun q hq=> ?_;have h1:=hix q hq;have h2:=uj t 0 q hq;have h3:=Zoq t 0 q hq;simp only[G7,zl];rw[MQ (by omega),MQ (by omega)]
theorem Yif{f:Fm}{fr by_:Int}(hs:f.shape=true)(hix:∀p∈f.A2 0,∀q∈p.1.vars 0,0<=q.1/\q.1<549755813888)(hz:f.size<=1000000)(hb: -1000000<=by_/\by_<=1000000):f.lw fr by_=f.AV fr by_:=by
 refine Fm.A7 f 0 fun p hp=> ?_;exact WH (hix p hp) (by have h1:=Ml f 0;have h2:=zc (fun(p:Tm×Int)=>p.1.size) hp;omega) hb
theorem WY(fr b v w:Int):∀l:List Pf,(∀p∈l,∀v,p.uw fr b v=p.up fr b v)->Pf.DA fr b v w l=Pf.Cn fr b v w l
 |[],_=>by simp only[Pf.DA,Pf.Cn]
 |p::l,h=>by
  simp only[Pf.DA,Pf.Cn];rw[h p (by simp),WY fr b v w l fun q hq=>h q (by simp[hq])]
theorem MF{p:Pf}{fr b:Int}(hb: -1000000<=b/\b<=1000000):p.shape=true->p.small=true->p.ix 549755813888->∀v,p.uw fr b v=p.up fr b v:=by
 induction p using Pf.ind with
 |h p ih=>
  intro hs hm hix v;obtain⟨s1,s2,s3⟩:=xj hm;obtain⟨_,s4,s5,s6⟩:=zh hs;obtain⟨i1,i2,i3⟩:=(Pf.Be _ p).1 hix;rw[Pf.FW,Pf.BM,WY _ _ _ _ _ fun x hx v=>ih x hx (s6 x hx) (s3 x hx) (i3 x hx) v];congr 1
  ·exact List.map_congr_left fun t ht=>WH (i1 t ht) (by have:=s1 t ht;omega) hb
  ·exact List.map_congr_left fun f hf=>Yif (s5 f hf) (i2 f hf) (by have:=s2 f hf;omega) hb
theorem PD{p:Pf}{fr b:Int}(hb: -1000000<=b/\b<=1000000):p.nd->p.hx 549755813888->∀y:Int,(0<=y/\y+p.full<=1000000000000)->p.hw fr b y=p.lh fr b y:=by
 induction p using Pf.ind with
 |h p ih=>
  intro hs hh y hy;obtain⟨i1,i2⟩:=(Pf.A8 _ p).1 hh;obtain⟨⟨nd0,a1,a2⟩,a3⟩:=(Pf.Bz p).1 hs;rw[Pf.Il,Pf.Ec];by_cases hk:p.kind=1
  ·rw[if_pos hk,if_pos hk];have:=i1 hk;rw[MQ (by omega),MQ (by omega)]
  ·rw[if_neg hk,if_neg hk];have hz:=p.Ag;have b2:0<=At p.kind/\At p.kind<=1:=by unfold At;split<;>omega
   congr 1;have key:∀(l:List Pf),(∀x∈l,x∈p.args)->Pf.DX fr b y (At p.kind) l=Pf.lhs fr b y (At p.kind) l:=by
    intro l;induction l with
    |nil=>intro _;simp only[Pf.DX,Pf.lhs]
    |cons x l ihl=>
     intro hx;simp only[Pf.DX,Pf.lhs];have h1:=hx x (by simp);have h2:=zc Pf.full h1;rw[ihl fun z hz=>hx z (by simp[hz]),ih x h1 (a3 x h1) (i2 hk x h1) _ (by split<;>omega)]
   exact key p.args fun _ h=>h
theorem Wf{p:Pf}{ts:List Tm}{fs:List Fm}{zs:List Pf}(hs:p.shape=true)(h1:ts.length=p.terms.length)(h2:fs.length=p.Ac.length)(h3:zs.length=p.args.length)
 (a1:∀t∈ts,t.shape=true) (a2:∀f∈fs,f.shape=true) (a3:∀x∈zs,x.shape=true):(Pf.mk p.kind p.index p.ty ts fs zs).shape=true:=by
 obtain⟨h,_⟩:=zh hs;rw[Pf.Ak];simp only[Bool.and_eq_true,List.all_eq_true];refine⟨⟨⟨?_,a1⟩,a2⟩,a3⟩;obtain⟨k,i,y,t0,f0,z0⟩:=p;simp only[Pf.Ah,Pf.Ay,Pf.AL,Pf.Ai,Pf.Ar,Pf.Ad] at h1 h2 h3 ⊢;unfold Pf.head at h ⊢;simp only[Pf.Ah,Pf.Ay,Pf.AL,Pf.Ai,Pf.Ar,Pf.Ad] at h ⊢;cases hn:BO k with
 |none=>rw[hn] at h;cases h
 |some n=>
  rw[hn] at h;simp only[h1,h2,h3];exact h
theorem Zt6{i:Int}(hi:0<=i):(xo i).shape=true:=((Pf.Ae _).1 (Ybz hi)).1
theorem U2{p:Pf}(hs:p.shape=true)(hk:p.kind=1):p.size=1:=by
 obtain⟨hh,_⟩:=zh hs;obtain⟨nd,n1,n2,n3,n4,_⟩:=Hz hh;rw[hk] at n1;have e:nd=⟨0,0,0,true,false⟩:=by
  unfold BO at n1;simp at n1;exact n1.symm
 subst e;have e1:=List.eq_nil_of_length_eq_zero n2;have e2:=List.eq_nil_of_length_eq_zero n3;have e3:=List.eq_nil_of_length_eq_zero n4;rw[Pf.size_eq,e1,e2,e3];simp
def Pz(C:Int)(n:Nat)(p:Pf):Prop:=p.shape=true/\p.small=true/\p.size=n/\p.ix C
theorem Ry{p:Pf}(hs:p.shape=true)(hm:p.small=true){ts:List Tm}{fs:List Fm}{zs:List Pf}{C:Int}{k:Nat}(h1:ts.map Tm.size=p.terms.map Tm.size)(h2:fs.map Fm.size=p.Ac.map Fm.size)
 (a1:∀t∈ts,t.shape=true/\∀q∈t.vars 0,0<=q.1/\q.1<C) (a2:∀f∈fs,f.shape=true/\∀p∈f.A2 0,∀q∈p.1.vars 0,0<=q.1/\q.1<C) (h3:zs.length=p.args.length)
 (a3:∀x∈zs,∃m,Pz C m x) (hk:(zs.map Pf.size).sum=(p.args.map Pf.size).sum+k):Pz C (p.size+k) (Pf.mk p.kind p.index p.ty ts fs zs):=by
 obtain⟨s1,s2,s3⟩:=xj hm;have e1:ts.length=p.terms.length:=by have:=congrArg List.length h1;simpa using this
 have e2:fs.length=p.Ac.length:=by have:=congrArg List.length h2;simpa using this
 refine⟨Wf hs e1 e2 h3 (fun t h=>(a1 t h).1) (fun f h=>(a2 f h).1) (fun x h=>(a3 x h).choose_spec.1),?_,?_,(Pf.Be _ _).2 ⟨fun t h=>(a1 t h).2,fun f h=>(a2 f h).2,fun x h=>(a3 x h).choose_spec.2.2.2⟩⟩
 ·rw[Pf.BZ];simp only[Bool.and_eq_true,List.all_eq_true,decide_eq_true_eq,Pf.Ai,Pf.Ar,Pf.Ad];refine⟨⟨fun t h=> ?_,fun f h=> ?_⟩,fun x h=>(a3 x h).choose_spec.2.1⟩
  ·have:t.size∈p.terms.map Tm.size:=h1▸List.mem_map.2 ⟨t,h,rfl⟩;obtain⟨u,hu,e⟩:=List.mem_map.1 this;rw[<-e];exact s1 u hu
  ·have:f.size∈p.Ac.map Fm.size:=h2▸List.mem_map.2 ⟨f,h,rfl⟩;obtain⟨u,hu,e⟩:=List.mem_map.1 this;rw[<-e];exact s2 u hu
 ·rw[Pf.size_eq,p.size_eq];simp only[Pf.Ai,Pf.Ar,Pf.Ad,h1,h2,hk];omega
theorem Na{p:Pf}{fr n C:Int}(hn:0<=n):p.shape=true->p.small=true->p.ix C->∀v,Pz (C+n) p.size (p.up fr n v):=by
 induction p using Pf.ind with
 |h p ih=>
  intro hs hm hix v;obtain⟨s1,s2,s3⟩:=xj hm;obtain⟨_,s4,s5,s6⟩:=zh hs;obtain⟨i1,i2,i3⟩:=(Pf.Be _ p).1 hix;rw[Pf.BM];have key:∀(l:List Pf),(∀x∈l,x∈p.args)->(∀x∈Pf.Cn fr n v (As p.kind) l,∃m,Pz (C+n) m x)/\((Pf.Cn fr n v (As p.kind) l).map Pf.size).sum=(l.map Pf.size).sum:=by
   intro l;induction l with
   |nil=>intro _;simp[Pf.Cn]
   |cons x l ihl=>
    intro hx;have h0:=hx x (by simp);obtain⟨a1,a2⟩:=ihl fun z hz=>hx z (by simp[hz]);have h1:=ih x h0 (s6 x h0) (s3 x h0) (i3 x h0);simp only[Pf.Cn,List.mem_cons,List.map_cons,List.sum_cons];refine⟨fun z hz=> ?_,?_⟩
    ·rcases hz with rfl|hz
     ·exact ⟨_,h1 _⟩
     ·exact a1 z hz
    ·rw[a2,(h1 _).2.2.1]
  obtain⟨k1,k2⟩:=key p.args fun _ h=>h;exact Ry (k:=0) hs hm
   (by rw[List.map_map];exact List.map_congr_left fun t ht=>L8 (fr+v) n t 0 (s4 t ht))
   (by rw[List.map_map];exact List.map_congr_left fun f hf=>(uu (s5 f hf) (fr:=fr+(v+AD p.kind)) hn).2.1)
   (fun y hy=>by
    obtain⟨t,ht,rfl⟩:=List.mem_map.1 hy;have h1:=J3 (fr:=fr+v) 0 (s4 t ht) hn;exact⟨h1,fun q hq=>⟨Tm.AJ _ h1 0 q hq,by have:=OE (C:=C-1) (s4 t ht) hn (fun r hr=>by have:=i1 t ht r hr;omega) q hq;omega⟩⟩)
   (fun y hy=>by
    obtain⟨f,hf,rfl⟩:=List.mem_map.1 hy;exact⟨(uu (s5 f hf) hn).1,fun q hq r hr=>by have:=Yed (s5 f hf) (C:=C-1) hn (fun q hq r hr=>by have:=i2 f hf q hq r hr;omega) q hq r hr;omega⟩)
   (uf _ _ _ _ _) k1 (by rw[k2];omega)
theorem RP(C:Int){i:Int}(hi:0<=i):Pz C 1 (xo i):=⟨Zt6 hi,by simp[Pf.BZ,xo],Zwq i,Yhq C i⟩
theorem Qb{p:Pf}{f b C:Int}(hb:0<=b):p.shape=true->p.small=true->p.ix C->∀y,Pz C p.size (p.lh f b y):=by
 induction p using Pf.ind with
 |h p ih=>
  intro hs hm hix y;obtain⟨s1,s2,s3⟩:=xj hm;obtain⟨hh,s4,s5,s6⟩:=zh hs;obtain⟨i1,i2,i3⟩:=(Pf.Be _ p).1 hix;rw[Pf.Ec];by_cases hk:p.kind=1
  ·rw[if_pos hk];obtain⟨_,_,_,_,_,hi,_⟩:=Hz hh;have hz:p.size=1:=U2 hs hk;rw[hz];exact RP C (by split<;>omega)
  ·rw[if_neg hk];have key:∀(l:List Pf),(∀x∈l,x∈p.args)->(∀x∈Pf.lhs f b y (At p.kind) l,∃m,Pz C m x)/\((Pf.lhs f b y (At p.kind) l).map Pf.size).sum=(l.map Pf.size).sum:=by
    intro l;induction l with
    |nil=>intro _;simp[Pf.lhs]
    |cons x l ihl=>
     intro hx;have h0:=hx x (by simp);obtain⟨a1,a2⟩:=ihl fun z hz=>hx z (by simp[hz]);have h1:=ih x h0 (s6 x h0) (s3 x h0) (i3 x h0);simp only[Pf.lhs,List.mem_cons,List.map_cons,List.sum_cons];refine⟨fun z hz=> ?_,?_⟩
     ·rcases hz with rfl|hz
      ·exact ⟨_,h1 _⟩
      ·exact a1 z hz
     ·rw[a2,(h1 _).2.2.1]
   obtain⟨k1,k2⟩:=key p.args fun _ h=>h;exact Ry (k:=0) hs hm rfl rfl (fun t ht=>⟨s4 t ht,i1 t ht⟩) (fun f hf=>⟨s5 f hf,i2 f hf⟩) (KR _ _ _ _ _) k1 (by rw[k2];omega)
theorem QI{p r:Pf}{C:Int}(hR:∀(v h:Int),0<=v->v<=200000->0<=h->h<=200000->Pz (C+200000) r.size (r.Ds v h))(hC:0<=C):
 p.shape=true->p.small=true->p.ix C->∀v y:Int,0<=v->0<=y->v+2*p.size<=200000->y+2*p.size<=200000->Pz (C+200000) (p.size+(p.B3 (Cq 0) y).length*(r.size-1)) (Pf.ph 0 r v y p):=by
 induction p using Pf.ind with
 |h p ih=>
  intro hs hm hix v y hv hy hvz hyz;obtain⟨s1,s2,s3⟩:=xj hm;obtain⟨hh,s4,s5,s6⟩:=zh hs;obtain⟨i1,i2,i3⟩:=(Pf.Be _ p).1 hix;have hz:=p.size_eq;have rp:=r.size_pos;rw[Pf.E4,Pf.Bu];by_cases hk:p.kind=1
  ·rw[if_pos hk];obtain⟨nd,n1,_,_,n4,hi,_⟩:=Hz hh;have hz1:p.size=1:=U2 hs hk;have hnil:p.args=[]:=by
    rw[hk] at n1;simp[BO] at n1;rw[<-n1] at n4;exact List.eq_nil_of_length_eq_zero n4
   rw[hz1,hnil];simp only[Pf.AM,List.flatten_nil,List.append_nil];by_cases h0:p.index-y=0
   ·rw[if_pos h0];have e:Cq 0 p.kind p.index y=[p.index]:=by unfold Cq;rw[if_pos ⟨hk,h0⟩]
    rw[e];have:=hR v (0+y) hv (by omega) (by omega) (by omega)
    rwa [show 1+[p.index].length*(r.size-1)=r.size by simp;omega]
   ·rw[if_neg h0];have e:Cq 0 p.kind p.index y=[]:=by unfold Cq;rw[if_neg (fun h=>h0 h.2)]
    rw[e];simp only[List.length_nil,Nat.zero_mul,Nat.add_zero];split
    ·exact RP _ (by omega)
    ·exact RP _ hi
  ·rw[if_neg hk];have e:Cq 0 p.kind p.index y=[]:=by unfold Cq;rw[if_neg (fun h=>hk h.1)]
   rw[e,List.nil_append];have b1:0<=As p.kind/\As p.kind<=2:=by unfold As;split<;>(try split)<;>omega
   have b2:0<=At p.kind/\At p.kind<=1:=by unfold At;split<;>omega
   have key:∀(l:List Pf),(∀x∈l,x∈p.args)->(∀x∈Pf.DD 0 r v y (As p.kind) (At p.kind) l,∃m,Pz (C+200000) m x)/\
    ((Pf.DD 0 r v y (As p.kind) (At p.kind) l).map Pf.size).sum=(l.map Pf.size).sum+(Pf.AM (Cq 0) y (At p.kind) l).flatten.length*(r.size-1):=by
    intro l;induction l with
    |nil=>intro _;simp[Pf.DD,Pf.AM]
    |cons x l ihl=>
     intro hx;have h0:=hx x (by simp);have h2:=zc Pf.size h0;obtain⟨a1,a2⟩:=ihl fun z hz=>hx z (by simp[hz]);have h1:=ih x h0 (s6 x h0) (s3 x h0) (i3 x h0) (if l.length=0 then v+As p.kind else v) (if l.length=0 then y+At p.kind else y) (by split<;>omega) (by split<;>omega) (by split<;>omega) (by split<;>omega);simp only[Pf.DD,Pf.AM,List.mem_cons,List.map_cons,List.sum_cons,List.flatten_cons,List.length_append];refine⟨fun z hz=> ?_,?_⟩
     ·rcases hz with rfl|hz
      ·exact ⟨_,h1⟩
      ·exact a1 z hz
     ·rw[a2,h1.2.2.1,Nat.add_mul];omega
   obtain⟨k1,k2⟩:=key p.args fun _ h=>h;exact Ry hs hm rfl rfl (fun t ht=>⟨s4 t ht,fun q hq=>by have:=i1 t ht q hq;omega⟩) (fun f hf=>⟨s5 f hf,fun q hq s hs=>by have:=i2 f hf q hq s hs;omega⟩) (J9 _ _ _ _ _ _ _) k1 k2
theorem Pz.err{C:Int}{n:Nat}{p:Pf}(h:Pz C n p)(hn:n<=16384):p.err=0:=(Pf.Ae p).2 ⟨h.1,h.2.1,by rw[h.2.2.1];exact hn⟩
theorem Pz.near{C:Int}{n:Nat}{p:Pf}(h:Pz C n p)(hC:C<=1000000):p.AN=true:=by
 have key:∀(p:Pf),p.ix C->∀v,(p.Dg (fun(_:Int) (t:Tm)=>t.near) (fun(_:Int) (f:Fm)=>f.near) v).all id=true:=by
  intro p;induction p using Pf.ind with
  |h p ih=>
   intro hix v;obtain⟨i1,i2,i3⟩:=(Pf.Be _ p).1 hix;rw[Pf.Ca,List.all_append,List.all_append,Bool.and_eq_true,Bool.and_eq_true];refine⟨⟨List.all_eq_true.2 fun b hb=> ?_,List.all_eq_true.2 fun b hb=> ?_⟩,List.all_eq_true.2 fun b hb=> ?_⟩
   ·obtain ⟨t,ht,rfl⟩:=List.mem_map.1 hb;exact List.all_eq_true.2 fun q hq=>by have:=i1 t ht q hq;simp;omega
   ·obtain ⟨f,hf,rfl⟩:=List.mem_map.1 hb;exact Vw hC fun q hq r hr=>by have:=i2 f hf q hq r hr;omega
   ·obtain ⟨l,hl,hb⟩:=List.mem_flatten.1 hb;obtain⟨m,hm,rfl⟩:=List.getElem_of_mem hl;rw[vy] at hm;rw[um _ _ _ _ _ _ hm] at hb;exact List.all_eq_true.1 (ih _ (List.getElem_mem hm) (i3 _ (List.getElem_mem hm)) _) b hb
 exact key p h.2.2.2 0
theorem Oo(C fr n:Int)(p:Pf):p.hx C->∀v,(p.up fr n v).hx C:=by
 induction p using Pf.ind with
 |h p ih=>
  intro h v;obtain⟨h1,h2⟩:=(Pf.A8 C p).1 h;rw[Pf.BM,Pf.A8];simp only[Pf.Ah,Pf.Ay,Pf.Ad];refine⟨h1,fun hk x hx=> ?_⟩;obtain⟨m,hm,rfl⟩:=List.getElem_of_mem hx;rw[uf] at hm;rw[Np _ _ _ _ _ _ hm];exact ih _ (List.getElem_mem hm) (h2 hk _ (List.getElem_mem hm)) _
theorem Made.err{n:Nat}{p:Pf}(h:Made n p):p.err=0\/p.err=4:=by
 unfold Pf.err;rw[h.shape];simp only[Bool.true_eq_false,if_false];split
 ·exact .inr rfl
 ·exact .inl rfl
theorem yn:Bc.full=2:=by decide
structure LI (p r:Pf) (t:Tm) (x y a a' s b:Pf) (e f g h i j:Int):Prop where
 res:(g=4\/j=4)\/(e=0/\f=0/\g=0/\h=0/\i=0/\j=0/\y=p/\a'=b)
 fx:x.full<=200000000
 fa:a.full<=200000000
 fs:s.full<=200000000
 fy:y.full<=200000000
 fa':a'.full<=200000000
 fb:b.full<=200000000
def wo(p:Pf)(fr b:Int):Pf:=if v4 p fr b=0 then p.uw fr b 0 else Bc
def Co(p:Pf)(a:Int)(s:Tm):Pf:=if x7 p a s=0 then p.pt a s 0 else Bc
def vq(p:Pf)(a:Int)(q:Pf):Pf:=if va p a q=0 then Pf.ph a q 0 0 p else Bc
theorem Xv{p:Pf}{a:Int}{s:Tm}(h:x7 p a s≠0):Co p a s=Bc:=if_neg h
theorem I1{p q:Pf}{a:Int}(h:va p a q≠0):vq p a q=Bc:=if_neg h
theorem ur{p:Pf}(h:p.err=0):p.full<=1064960:=by
 have h1:=(Pf.Ae p).1 h;have:=KA p h1.1;omega
end Go.Ab
