/- A part of this seat's proofs. No conditions. -/
import Derived.Test.YtmhcohcihajegaaGreatDoorHAT1
import Derived.Test.YtmhcohcihajegaaGreatDoorHD1
namespace Go.Ab
open Go
set_option linter.all false
theorem Zqd{k:Int}:∀{l:List Int},k∉l->Zcg k l=none
 |[],_=>rfl
 |x::l,h=>by
  simp only[List.mem_cons,not_or] at h;have h1:¬x=k:=fun e=>h.1 e.symm;simp only[Zcg,if_neg h1,Zqd h.2,Option.map_none]
theorem Zqz{k:Int}:∀{l:List Int},k∈l->∃i,Zcg k l=some i
 |[],h=>by cases h
 |x::l,h=>by
  by_cases hx:x=k
  ·exact ⟨0,by simp[Zcg,hx]⟩
  ·obtain ⟨i,hi⟩:=Zqz (l:=l) (by rcases List.mem_cons.1 h with h|h;exact absurd h.symm hx;exact h);exact⟨i+1,by simp[Zcg,hx,hi]⟩
theorem Zl0(k:Int)(ks:List Int):uh k ks=if k∈ks then ks else ks++[k]:=by
 by_cases h:k∈ks
 ·obtain ⟨i,hi⟩:=Zqz h;rw[if_pos h,uh,hi]
 ·rw[if_neg h,uh,Zqd h]
theorem Zw1{k x:Int}{ks:List Int}:x∈uh k ks↔x∈ks\/x=k:=by
 rw[Zl0]
 grind
theorem Zrs{k:Int}{ks:List Int}(h:ks.Nodup):(uh k ks).Nodup:=by
 rw[Zl0]
 grind
theorem vx(k:Int)(ks:List Int)(b:Bool):Ze9 k ks (List.replicate ks.length b) b=List.replicate (uh k ks).length b:=by
 unfold Ze9 uh;split
 ·simp
 ·rw[List.length_append,<-List.replicate_append_replicate];rfl
def nub(acc l:List Int):List Int:=l.foldl (fun ks k=>uh k ks) acc
theorem Zbw(acc l l':List Int):nub acc (l++l')=nub (nub acc l) l':=List.foldl_append
theorem Zbr(acc:List Int):nub acc []=acc:=rfl
theorem Zlu(acc:List Int)(k:Int):nub acc [k]=uh k acc:=rfl
theorem mem_nub{x:Int}:∀{l acc:List Int},x∈nub acc l↔x∈acc\/x∈l
 |[],acc=>by simp[nub]
 |k::l,acc=>by
  show x∈nub (uh k acc) l↔_;rw[mem_nub,Zw1,List.mem_cons,or_assoc]
theorem wc:∀{l acc:List Int},acc.Nodup->(nub acc l).Nodup
 |[],acc,h=>h
 |k::l,acc,h=>wc (l:=l) (Zrs h)
theorem Zd1:∀(l acc:List Int),(nub acc l).length<=acc.length+l.length
 |[],acc=>by simp[nub]
 |k::l,acc=>by
  have h1:=Zd1 l (uh k acc);have h2:(uh k acc).length<=acc.length+1:=by rw[Zl0];grind
  show(nub (uh k acc) l).length<=_
  grind
def fre(l:List (Int×Int)):List Int:=l.filterMap fun p=>if p.2<=p.1 then some (p.1-p.2) else none
theorem Zdg(l l':List (Int×Int)):fre (l++l')=fre l++fre l':=List.filterMap_append
theorem Zix:fre []=[]:=rfl
theorem Zrd(i b:Int):fre [(i,b)]=if b<=i then [i-b] else []:=by
 by_cases h:b<=i
 ·simp[fre,h]
 ·simp[fre,h]
theorem Zwe(l:List (Int×Int)):(fre l).length<=l.length:=List.length_filterMap_le _ _
theorem mem_fre{x:Int}{l:List (Int×Int)}:x∈fre l↔0<=x/\∃p∈l,p.1-p.2=x:=by
 simp only[fre,List.mem_filterMap]
 grind
theorem mem_cnt{x:Int}:∀{l:List (Int×Int)},(∃p∈l,p.1-p.2=x)↔cnt x l≠0
 |[]=>by simp[cnt]
 |p::l=>by
  have ih:=mem_cnt (x:=x) (l:=l);rw[show p::l=[p]++l from rfl,w8,Zax]
  grind
def Yca(t:Tm):List Int:=nub [] (fre (t.vars 0))
def Zux(t:Tm):List Int:=yq (Yca t)
theorem Zk0(t:Tm):(Yca t).Nodup:=wc List.nodup_nil
theorem Ydp{t:Tm}{x:Int}:x∈Yca t↔0<=x/\cnt x (t.vars 0)≠0:=by rw[Yca,mem_nub,mem_fre,mem_cnt];simp
theorem Yb2(t:Tm):(Yca t).length<=t.size:=by
 have h1:=Zd1 (fre (t.vars 0)) [];have h2:=Zwe (t.vars 0);have h3:=t.vars_len 0;simp only[Yca,List.length_nil] at*;omega
theorem xn(l:List Int):(yq l).Perm l:=List.mergeSort_perm l _
theorem um(l:List Int):(yq l).Pairwise (·<=·):=by
 have h:=List.pairwise_mergeSort (le:=fun x y:Int=>decide (x<=y)) (fun a b c h1 h2=>by grind) (fun a b=>by grind) l;exact h.imp fun h=>by grind
theorem Zi2{l l':List Int}(hp:l.Perm l')(h:l.Pairwise (·<=·))(h':l'.Pairwise (·<=·)):l=l':=
 hp.eq_of_pairwise (le:=(·<=·)) (fun a b _ _ h1 h2=>by omega) h h'
theorem Zfz{l l':List Int}(hp:l.Perm l'):yq l=yq l':=
 Zi2 ((xn l).trans (hp.trans (xn l').symm)) (um l) (um l')
theorem mem_usesI{t:Tm}{x:Int}:x∈Zux t↔0<=x/\cnt x (t.vars 0)≠0:=by rw[Zux,(xn _).mem_iff,Ydp]
theorem Zqv(t:Tm):(Zux t).Nodup:=(xn _).nodup_iff.2 (Zk0 t)
def Zgu(l:List Int)(n:Int)(i:Nat):List Int:=l.take i++(l.getD i n::l.drop i)
def Yhp(l:List Int)(n:Int)(i:Nat):List Int:=l.take i++n::l.drop i
theorem Ycb(l:List Int)(n:Int):Zgu l n l.length=l++[n]:=by simp[Zgu]
theorem Ydd{l:List Int}{n:Int}{i:Nat}(h:i<=l.length):(Zgu l n i).length=l.length+1:=by simp[Zgu];omega
theorem Ygn{l:List Int}{n:Int}{i:Nat}(h:i<l.length)(h':i<(Zgu l n (i+1)).length):(Zgu l n (i+1))[i]=l[i]:=by
 simp only[Zgu]
 grind
theorem Zwb{l:List Int}{n:Int}{i:Nat}(h:i<l.length):(Zgu l n (i+1)).set (i+1) l[i]=Zgu l n i:=by
 have h1:(l.take (i+1)).length=i+1:=by grind
 simp only[Zgu];have e:l.take (i+1)=l.take i++[l[i]]:=by simp
 rw[List.set_append_right (h:=by omega),h1,Nat.sub_self,List.set_cons_zero,e,List.append_assoc,List.singleton_append,<-List.drop_eq_getElem_cons h]
 grind
theorem Yac{l:List Int}{n:Int}{i:Nat}(h:i<=l.length):(Zgu l n i).set i n=Yhp l n i:=by
 have h1:(l.take i).length=i:=by grind
 simp only[Zgu,Yhp];simp_all
theorem Zw6(l:List Int)(n:Int)(i:Nat):(Yhp l n i).Perm (n::l):=by
 have h1:(Yhp l n i).Perm (n::(l.take i++l.drop i)):=List.perm_middle;simp_all
theorem Zr6{l:List Int}{n:Int}{i:Nat}(hs:l.Pairwise (·<=·))(h:∀x∈l.drop i,n<x)(h':∀(hi:0<i) (hl:i-1<l.length),l[i-1]<=n)(hil:i<=l.length):(Yhp l n i).Pairwise (·<=·):=by
 have hs':=hs;rw[<-List.take_append_drop i l,List.pairwise_append] at hs;obtain⟨h1,h2,h3⟩:=hs;have ht:∀x∈l.take i,x<=n:=fun x hx=>by
  obtain⟨j,hj,hx2⟩:=List.mem_iff_getElem.1 hx;have hj2:j<i:=by grind
  rw[List.getElem_take] at hx2;have h4:=h' (by omega) (by omega);rcases Nat.lt_or_ge j (i-1) with h5|h5
  ·have:=List.pairwise_iff_getElem.1 hs' j (i-1) (by omega) (by omega) h5;omega
  grind
 rw[Yhp,List.pairwise_append];refine⟨h1,List.pairwise_cons.2 ⟨fun x hx=>by grind,h2⟩,fun x hx y hy=> ?_⟩
 grind
theorem Zxr{d:List Int}{n:Int}{i:Nat}(h:∀x∈(yq d).drop i,n<x)(h':∀(hi:0<i) (hl:i-1<(yq d).length),(yq d)[i-1]<=n)(hil:i<=(yq d).length):Yhp (yq d) n i=yq (d++[n]):=by
 refine Zi2 ?_ (Zr6 (um d) h h' hil) (um _);refine((Zw6 _ _ _).trans ((xn d).cons n)).trans (?_:(n::d).Perm _);exact((List.perm_append_comm (l₁:=[n]) (l₂:=d)).trans (xn _).symm)
theorem Zgj(d:List Int):(yq d).length=d.length:=(xn d).length_eq
theorem Zfy:yq []=[]:=List.mergeSort_nil
theorem Zn9:∀{l ks:List Int},l.Nodup->(∀x∈l,x∈ks)->l.length<=ks.length
 |[],_,_,_=>Nat.zero_le _
 |x::l,ks,hn,h=>by
  obtain⟨h1,h2⟩:=List.nodup_cons.1 hn;have h3:=h x (by simp);have h4:=Zn9 (l:=l) (ks:=ks.erase x) h2 fun y hy=>(List.mem_erase_of_ne (fun e:y=x=>h1 (by grind))).2 (h y (by grind))
  grind
theorem Zmu{t:Tm}(hs:t.shape=true){fr by_ C:Int}(hb:0<=by_)(hC:∀p∈t.vars 0,p.1<=C):∀p∈(t.re (zk fr by_) 0).vars 0,p.1<=C+by_:=fun p hp=>by
 rw[Zcv _ _ _ _ hs] at hp
 grind
theorem Yc8{t:Tm}(hC:∀p∈t.vars 0,p.1<=1000000):t.near=true:=List.all_eq_true.2 fun p hp=>by
 grind
theorem Zuj{t:Tm}(hs:t.shape=true)(a:Int)(s:Tm):(t.re (zk a 1) 0).re (xy a s) 0=t:=by
 rw[re_re];refine re_id t 0 hs fun p hp=> ?_;simp only[yw,Zb0,vn]
 grind
theorem cnt_lifted{t:Tm}(hs:t.shape=true)(a:Int):cnt a ((t.re (zk a 1) 0).vars 0)=0:=by
 rw[Zcv _ _ _ _ hs];have:∀l:List (Int×Int),cnt a (l.map fun p=>(if p.1-p.2>=a then p.1+1 else p.1,p.2))=0:=by
  intro l;induction l with
  |nil=>rfl
  |cons p l ih=>
   rw[List.map_cons,show ∀(x:Int×Int) l,x::l=[x]++l from fun _ _=>rfl,w8,ih,Zax,if_neg];omega
 grind
def Fm.lft(f:Fm)(fr by_:Int):Fm:=f.re (fun b t=>t.re (zk (fr+b) by_) 0) 0
def falseF:Fm:=eqF (.mk 4 0 (.mk 0 []) []) (.mk 5 0 (.mk 0 []) [.mk 4 0 (.mk 0 []) []])
theorem Zd2{f:Fm}(h:f.shape=true):
 (f.kind=1/\f.args=[])\/((f.kind=2\/f.kind=3)/\f.terms=[])\/((f.kind=4\/f.kind=5\/f.kind=6\/f.kind=7)/\f.terms=[]/\f.ty.err=0):=by
 rw[Fm.shape_eq,Bool.and_eq_true,Bool.and_eq_true] at h;have h1:=h.1.1;unfold Fm.head at h1;by_cases h2:f.kind=1
 ·rw[if_pos h2] at h1;simp only[Bool.and_eq_true,beq_iff_eq,List.length_eq_zero_iff] at h1;exact .inl ⟨h2,h1.2⟩
 rw[if_neg h2] at h1;by_cases h3:f.kind=2\/f.kind=3
 ·rw[if_pos h3] at h1;simp only[Bool.and_eq_true,beq_iff_eq,List.length_eq_zero_iff] at h1;exact .inr (.inl ⟨h3,h1.1.2⟩)
 rw[if_neg h3] at h1;by_cases h4:f.kind=4\/f.kind=5\/f.kind=6\/f.kind=7
 ·rw[if_pos h4] at h1;simp only[Bool.and_eq_true,beq_iff_eq,List.length_eq_zero_iff] at h1;refine .inr (.inr ⟨h4,h1.1.2,(Ty.err_iff f.ty).2 ?_⟩);have:=h1.1.1;simp only[Ty.ok,Bool.and_eq_true,decide_eq_true_eq] at this;exact this
 rw[if_neg h4] at h1;cases h1
theorem Zr3{f:Fm}(hs:∀p∈f.tms 0,p.1.shape=true)(a:Int)(s:Tm):(f.lft a 1).put a s=f:=by
 rw[Fm.put,Fm.lft,Fm.re_re];refine Fm.re_id f 0 fun p hp=> ?_;exact Zuj (hs p hp) (a+p.2) s
theorem cntF_lifted{f:Fm}(hs:∀p∈f.tms 0,p.1.shape=true)(a:Int):u5 a ((f.lft a 1).tms 0)=0:=by
 rw[Fm.lft,Zpc];have:∀l:List (Tm×Int),(∀p∈l,p.1.shape=true)->u5 a (l.map fun p=>(p.1.re (zk (a+p.2) 1) 0,p.2))=0:=by
  intro l;induction l with
  |nil=>intro _;rfl
  |cons p l ih=>
   intro h;simp only[List.map_cons,u5];rw[show u5 a (l.map fun p=>(p.1.re (zk (a+p.2) 1) 0,p.2))=0 from ih fun q hq=>h q (by grind)];rw[cnt_lifted (h p (by simp))]
 grind
theorem Zh4{α:Type}{f g:α->Nat}{l:List α}(h:∀x∈l,f x=g x):(l.map f).sum=(l.map g).sum:=by rw[List.map_congr_left h]
theorem Ycu{G:Int->Tm->Tm}(hG:∀b t,t.shape=true->(G b t).shape=true/\(G b t).size=t.size/\(G b t).full=t.full)(f:Fm):∀b,f.shape=true->(f.re G b).shape=true/\(f.re G b).size=f.size/\(f.re G b).full=f.full:=by
 induction f using Fm.ind with
 |h f ih=>
  intro b hf;have h0:=hf;rw[Fm.shape_eq,Bool.and_eq_true,Bool.and_eq_true] at h0;obtain⟨⟨h1,h2⟩,h3⟩:=h0;rw[Fm.re_eq];refine⟨?_,?_,?_⟩
  ·rw[Fm.shape_eq,Bool.and_eq_true,Bool.and_eq_true];refine⟨⟨?_,?_⟩,?_⟩
   ·simp only[Fm.head,Fm.kind_mk,Fm.ty_mk,Fm.terms_mk,Fm.args_mk,List.length_map] at h1 ⊢;exact h1
   all_goals simp_all
  ·rw[Fm.size_eq,f.size_eq];simp only[Fm.terms_mk,Fm.args_mk,List.map_map];rw[Zh4 (f:=Tm.size∘G b) (g:=Tm.size) fun x hx=>(hG b x (List.all_eq_true.1 h2 x hx)).2.1,Zh4 (f:=Fm.size∘Fm.re G (upF f.kind b)) (g:=Fm.size) fun x hx=>(ih x hx _ (List.all_eq_true.1 h3 x hx)).2.1]
  ·rw[Fm.full_eq,f.full_eq];simp only[Fm.terms_mk,Fm.args_mk,Fm.ty_mk,List.map_map];rw[Zh4 (f:=Tm.full∘G b) (g:=Tm.full) fun x hx=>(hG b x (List.all_eq_true.1 h2 x hx)).2.2,Zh4 (f:=Fm.full∘Fm.re G (upF f.kind b)) (g:=Fm.full) fun x hx=>(ih x hx _ (List.all_eq_true.1 h3 x hx)).2.2]
theorem vf{f:Fm}(hf:f.shape=true){fr by_:Int}(hb:0<=by_):(f.lft fr by_).shape=true/\(f.lft fr by_).size=f.size/\(f.lft fr by_).full=f.full:=
 Ycu (fun b t ht=>⟨x6 0 ht hb,Zbk _ _ t 0 ht,Zbn _ _ t 0 ht⟩) f 0 hf
theorem Ycy(g m:List Ty)(fr:Int)(f:Fm):∀(h:List Ty) (b:Int),(h.length:Int)=fr+b->f.shape=true->f.okT (g++h)->
 (f.re (fun b t=>t.re (zk (fr+b) m.length) 0) b).okT (g++m++h):=by
 induction f using Fm.ind with
 |h f ih=>
  intro h b hb hf hok;rw[Fm.okT_iff] at hok;rw[Fm.re_eq,Fm.okT_iff];simp only[Fm.terms_mk,Fm.args_mk];refine⟨fun y hy=> ?_,fun y hy=> ?_⟩
  ·obtain ⟨x,hx,rfl⟩:=List.mem_map.1 hy;rw[Zms x g m h (fr+b) 0 (yi hf hx) (by omega)]
   grind
  ·obtain ⟨x,hx,rfl⟩:=List.mem_map.1 hy;have h1:=hok.2 x hx;by_cases hq:x9 f.kind=true
   ·rw[Zgd hq] at h1;rw[show ∀ts fs,Zg6 (g++m++h) (Fm.mk f.kind f.ty ts fs)=g++m++h++[f.ty] from fun ts fs=>Zgd (f:=Fm.mk f.kind f.ty ts fs) hq];have e:upF f.kind b=b+1:=if_pos hq;rw[e,List.append_assoc (g++m)];rw[List.append_assoc] at h1;exact ih x hx (h++[f.ty]) (b+1) (by grind) (zx hf hx) h1
   ·rw[Zfv hq] at h1;rw[show ∀ts fs,Zg6 (g++m++h) (Fm.mk f.kind f.ty ts fs)=g++m++h from fun ts fs=>Zfv (f:=Fm.mk f.kind f.ty ts fs) hq];have e:upF f.kind b=b:=if_neg hq;rw[e];exact ih x hx h b hb (zx hf hx) h1
theorem Ygo{f:Fm}(hs:f.shape=true){fr by_ C:Int}(hb:0<=by_)(hC:∀p∈f.tms 0,∀q∈p.1.vars 0,q.1<=C):∀p∈(f.lft fr by_).tms 0,∀q∈p.1.vars 0,0<=q.1/\q.1<=C+by_:=by
 intro p hp q hq;rw[Fm.lft,Zpc] at hp;obtain⟨r,hr,rfl⟩:=List.mem_map.1 hp;have h1:=x7 f hs 0 r hr;exact⟨Tm.vars_nonneg _ (x6 0 h1 hb) 0 q hq,Zmu h1 hb (hC r hr) q hq⟩
theorem Zsi{f:Fm}{C:Int}(hC:C<=1000000)(h:∀p∈f.tms 0,∀q∈p.1.vars 0,0<=q.1/\q.1<=C):f.near=true:=
 List.all_eq_true.2 fun p hp=>Yc8 fun q hq=>by grind
theorem Zj7{f:Fm}(he:f.err=0){fr by_:Int}(hb:0<=by_):(f.lft fr by_).err=0:=by
 have h1:=(Fm.err_iff f).1 he;obtain⟨h2,h3,_⟩:=vf h1.1 (fr:=fr) hb;exact(Fm.err_iff _).2 ⟨h2,by omega⟩
theorem Ygw{f:Fm}(h:FmOk 2 f):f.err=0:=(Fm.err_iff f).2 ⟨h.1,by have:=h.2.1;omega⟩
end Go.Ab
namespace Go.Ab
set_option linter.all false
theorem Zh7{k i:Int}{th T:Ty}{xs:List Tm}{g:List Ty}(k1:k≠1)(k2:k≠2)(h:(Tm.mk k i th xs).inf g=(T,0)):
 (∀x∈xs,x.inf g=((x.inf g).1,0))/\Zaf k th (xs.map fun x=>(x.inf g).1)=(T,0):=by
 obtain⟨h1,h2⟩:=u3 (t:=Tm.mk k i th xs) k1 k2 h;exact⟨fun x hx=>by rw[<-h1 x hx],h2⟩
theorem Zz2{i:Int}{th T:Ty}{x f n:Tm}{g:List Ty}(h:(Tm.mk 6 i th [x,f,n]).inf g=(T,0)):
 T=th/\x.inf g=(th,0)/\f.inf g=(xj natT (xj th th),0)/\n.inf g=(natT,0):=by
 obtain⟨h1,h2⟩:=Zh7 (by decide) (by decide) h;have hx:=h1 x (by simp);have hf:=h1 f (by simp);have hn:=h1 n (by simp);simp only[Zaf,List.map_cons,List.map_nil,Zdp,Zgi,Zp2,reduceIte,Int.reduceEq] at h2
 grind
theorem Zs8{i:Int}{th T:Ty}{x f n:Tm}{g:List Ty}(h:(Tm.mk 9 i th [x,f,n]).inf g=(T,0)):
 T=th/\x.inf g=(th,0)/\f.inf g=(xj natT (xj listT (xj th th)),0)/\n.inf g=(listT,0):=by
 obtain⟨h1,h2⟩:=Zh7 (by decide) (by decide) h;have hx:=h1 x (by simp);have hf:=h1 f (by simp);have hn:=h1 n (by simp);simp only[Zaf,List.map_cons,List.map_nil,Zdp,Zgi,Zp2,reduceIte,Int.reduceEq] at h2
 grind
theorem Yb4{i:Int}{th T:Ty}{x:Tm}{g:List Ty}(h:(Tm.mk 5 i th [x]).inf g=(T,0)):T=natT/\x.inf g=(natT,0):=by
 obtain⟨h1,h2⟩:=Zh7 (by decide) (by decide) h;have hx:=h1 x (by simp);simp only[Zaf,List.map_cons,List.map_nil,Zdp,reduceIte,Int.reduceEq] at h2
 grind
theorem Ybw{i:Int}{th T:Ty}{x y:Tm}{g:List Ty}(h:(Tm.mk 8 i th [x,y]).inf g=(T,0)):T=listT/\x.inf g=(natT,0)/\y.inf g=(listT,0):=by
 obtain⟨h1,h2⟩:=Zh7 (by decide) (by decide) h;have hx:=h1 x (by simp);have hy:=h1 y (by simp);simp only[Zaf,List.map_cons,List.map_nil,Zdp,Zgi,reduceIte,Int.reduceEq] at h2
 grind
theorem Zhc{f x:Tm}{a b:Ty}{g:List Ty}(hf:f.inf g=(xj a b,0))(hx:x.inf g=(a,0)):(apT f x).inf g=(b,0):=Zdt hf hx
theorem Zwt{th:Ty}{x f n:Tm}{g:List Ty}(hx:x.inf g=(th,0))(hf:f.inf g=(xj natT (xj th th),0))(hn:n.inf g=(natT,0))(i:Int):(Tm.mk 6 i th [x,f,n]).inf g=(th,0):=by
 rw[Tm.inf_eq];simp[Tm.infs,hx,hf,hn,Zaf]
theorem Zvf{th:Ty}{x f n:Tm}{g:List Ty}(hx:x.inf g=(th,0))(hf:f.inf g=(xj natT (xj listT (xj th th)),0))(hn:n.inf g=(listT,0))(i:Int):(Tm.mk 9 i th [x,f,n]).inf g=(th,0):=by
 rw[Tm.inf_eq];simp[Tm.infs,hx,hf,hn,Zaf]
theorem Yj7{t u:Tm}(hv:RV t u){g:List Ty}{T:Ty}(hs:t.shape=true)(h:t.inf g=(T,0)):u.inf g=(T,0):=by
 cases hv with
 |beta i th j s b a=>
  have hb:b.shape=true:=zd (zd hs (.mk 2 j s [b]) (by simp)) b (by simp);have ha:a.shape=true:=zd hs a (by simp);obtain⟨h1,h2⟩:=u3 (by simp) (by simp) h;have hf:(Tm.mk 2 j s [b]).inf g=(((Tm.mk 2 j s [b]).inf g).1,0):=by rw[<-h1 (.mk 2 j s [b]) (by simp)]
  obtain⟨h3,h4⟩:=Zdh hf;have ha0:=h1 a (by simp);simp only[Tm.kind_mk,Tm.ty_mk,Tm.args_mk,List.map_cons,List.map_nil,h4] at h2;have h5:s=(a.inf g).1/\(b.inf (g++[s])).1=T:=by
   simp only[Zaf,at0,List.getD_cons_zero,List.getD_cons_succ,Zp3,Zpr] at h2
   grind
  have hσ:a.inf g=(s,0):=by grind
  have hp:=Zqy b a g [] s 0 0 hb ha rfl hσ
  grind
 |rz i th x f j s=>obtain⟨rfl,h1,_⟩:=Zz2 h;exact h1
 |fz i th x f j s=>obtain⟨rfl,h1,_⟩:=Zs8 h;exact h1
 |rs i th x f j s n=>
  obtain⟨rfl,h1,h2,h3⟩:=Zz2 h;obtain⟨_,h4⟩:=Yb4 h3;exact Zhc (Zhc h2 h4) (Zwt h1 h2 h4 0)
 |fs i th x f j s n l=>
  obtain⟨rfl,h1,h2,h3⟩:=Zs8 h;obtain⟨_,h4,h5⟩:=Ybw h3;exact Zhc (Zhc (Zhc h2 h4) h5) (Zvf h1 h2 h5 0)
 |p1 i th j s _ y=>
  obtain⟨h1,h2⟩:=u3 (by simp) (by simp) h;have hf:(Tm.mk 10 j s [u,y]).inf g=(((Tm.mk 10 j s [u,y]).inf g).1,0):=by rw[<-h1 (.mk 10 j s [u,y]) (by simp)]
  obtain⟨h3,h4,h5⟩:=Zmh hf;simp only[Tm.kind_mk,Tm.ty_mk,Tm.args_mk,List.map_cons,List.map_nil,h5] at h2;simp[Zaf,at0] at h2
  grind
 |p2 i th j s y _=>
  obtain⟨h1,h2⟩:=u3 (by simp) (by simp) h;have hf:(Tm.mk 10 j s [y,u]).inf g=(((Tm.mk 10 j s [y,u]).inf g).1,0):=by rw[<-h1 (.mk 10 j s [y,u]) (by simp)]
  obtain⟨h3,h4,h5⟩:=Zmh hf;simp only[Tm.kind_mk,Tm.ty_mk,Tm.args_mk,List.map_cons,List.map_nil,h5] at h2;simp[Zaf,at0] at h2
  grind
theorem Yjy(room:Int)(t:Tm):∀(g:List Ty) (T:Ty) (u:Tm),t.shape=true->t.inf g=(T,0)->nxR room t=some (u,true)->u.inf g=(T,0):=by
 induction t using Tm.ind with
 |h t ih=>
  intro g T u hs h hn;rw[Zcy] at hn;by_cases hr:vg t=true
  ·rw[if_pos hr] at hn;split at hn
   ·cases hn
   ·cases hn;exact Yj7 (Zhq hs hr) hs h
  ·rw[if_neg hr,Option.map_eq_some_iff] at hn;obtain⟨q,h1,h2⟩:=hn;obtain⟨m,hm,v,h3,h4⟩:=Zfk _ _ _ h1;have e2:=congrArg Prod.snd h2;have e1:=congrArg Prod.fst h2;simp only at e1 e2;rw[e2] at h3;rw[<-e1,h4];have hargs:=zd hs;have hx:=hargs _ (List.getElem_mem hm);have hmem:=List.getElem_mem hm;by_cases k1:t.kind=1
   ·exact absurd (Zbc hs k1) (fun hh=>by grind)
   ·have key:∀g' T',(t.args[m]).inf g'=(T',0)->v.inf g'=(T',0):=fun g' T' hi=>ih _ hmem g' T' v hx hi h3;by_cases k2:t.kind=2
    ·obtain ⟨i,th,b,rfl,hb⟩:=u9 hs k2 rfl;obtain⟨h5,h6⟩:=Zdh h;have hm0:m=0:=by simp at hm;omega
     subst hm0;simp only[Tm.args_mk,List.getElem_cons_zero] at*;have q1:=key (g++[th]) (b.inf (g++[th])).1 (by grind);have:v.inf (g++[th])=b.inf (g++[th]):=by grind
     rw[<-h];simp only[List.set_cons_zero,Tm.kind_mk,Tm.ty_mk,Tm.index_mk];exact Zow this
    ·obtain ⟨h5,h6⟩:=u3 k1 k2 h;have h7:=h5 _ hmem;have q1:=key g (t.args[m].inf g).1 (by grind);have hi:v.inf g=(t.args[m]).inf g:=by grind
     rw[<-h,Tm.inf_eq g (Tm.mk t.kind t.index t.ty (t.args.set m v)),if_neg (show ¬(Tm.mk t.kind t.index t.ty (t.args.set m v)).kind=1 from k1),if_neg (show ¬(Tm.mk t.kind t.index t.ty (t.args.set m v)).kind=2 from k2),t.inf_eq,if_neg k1,if_neg k2];show(if(Tm.infs g (t.args.set m v)).2≠0 then(noTy,(Tm.infs g (t.args.set m v)).2) else Zaf t.kind t.ty (Tm.infs g (t.args.set m v)).1)=_;rw[Zif g v t.args m hm hi]
theorem Zxf:∀(k:Nat) (t:Tm) (n:Nat) (g:List Ty) (T:Ty),t.err=0->t.inf g=(T,0)->(nrm k t n).2.2=0->(nrm k t n).1.inf g=(T,0)
 |0,t,n,g,T,he,hi,h=>by
  simp only[nrm] at h ⊢
  grind
 |k+1,t,n,g,T,he,hi,h=>by
  simp only[nrm] at h ⊢;cases hx:nxR (4096-t.size) t with
  |none=>exact hi
  |some p=>
   obtain⟨x,f⟩:=p;rw[hx] at h;cases f with
   |false=>cases h
   |true=>exact Zxf k x (n+1) g T (Zzx he hx) (Yjy _ t g T x (ut he).1 hi hx) h
theorem Zlq{t:Tm}{steps:Int}(h:(xr t steps).2.2=0):t.err=0/\(xr t steps).1.err=0/\Pst t (xr t steps).1/\nf (xr t steps).1/\∀g T,t.inf g=(T,0)->(xr t steps).1.inf g=(T,0):=by
 unfold xr at h ⊢;by_cases h1:t.err≠0
 ·grind
 ·rw[if_neg h1] at h ⊢;have h1':t.err=0:=Decidable.not_not.1 h1;by_cases h2:¬(0<=steps/\steps<=65536)\/t.near=false
  ·grind
  ·rw[if_neg h2] at h ⊢;obtain⟨a,b,c⟩:=Yah _ t 0 h1' h;exact⟨h1',c,a,b,fun g T hi=>Zxf _ t 0 g T h1' hi h⟩
end Go.Ab
namespace Go.Ab
open Go
set_option linter.all false
structure Ck where
 lems:List Fm
 tys:List Ty
 hyps:List Fm
def Ck.view(c:Ck):List V:=[.s .fm c.lems,.s .ty c.tys,.s .fm c.hyps]
def Ck.below(c:Ck)(l:List Ty):Ck:=⟨c.lems,c.tys++l,c.hyps.map fun f=>f.lft 0 l.length⟩
def Ck.with_(c:Ck)(f:Fm):Ck:=⟨c.lems,c.tys,c.hyps++[f]⟩
def Ck.room(c:Ck)(v h:Nat):Int:=if c.tys.length+v>16\/c.hyps.length+h>16 then 3 else 0
def u7(a b:List Int):List Int:=yq (nub (nub [] a) b)
def Zj9(l:List Int)(n:Int):List Int:=(l.filter fun x=>decide (x>=n)).map (·-n)
def Yf5:List Int->Bool
 |[]=>false
 |x::_=>x==0
def Zes(t:Tm):List Int:=if t.err=0 then Zux t else []
def Zey(f:Fm)(t:Tm):Fm×Int:=(if xi f 0 t=0 then f.put 0 t else noFm,xi f 0 t)
def Zp8(c:Ck)(t:Tm)(k:Int):Int:=if(xq c.tys t).2≠0 then(xq c.tys t).2 else if(xq c.tys t).1.kind≠k then 7 else 0
def u2:List Tm->List Tm×Int
 |[]=>([],0)
 |t::l=>if(xr t 1000).2.2≠0 then([],(xr t 1000).2.2) else if(u2 l).2≠0 then([],(u2 l).2) else((xr t 1000).1::(u2 l).1,0)
mutual
def xf:Fm->Fm×Int
 | .mk k h ts zs=>if(u2 ts).2≠0 then(noFm,(u2 ts).2) else if(xm zs).2≠0 then(noFm,(xm zs).2) else(.mk k h (u2 ts).1 (xm zs).1,0)
def xm:List Fm->List Fm×Int
 |[]=>([],0)
 |f::l=>if(xf f).2≠0 then([],(xf f).2) else if(xm l).2≠0 then([],(xm l).2) else((xf f).1::(xm l).1,0)
end
mutual
def Zcu:Fm->Bool
 | .mk k _ _ zs=>if k=1 then false else if k=2 then(Zlc zs).getD 0 false||(Zlc zs).getD 1 false else if k=5 then true else(Zlc zs).getLastD false
def Zlc:List Fm->List Bool
 |[]=>[]
 |f::l=>Zcu f::Zlc l
end
abbrev Res:=Fm×List Int×Int
abbrev Rs:=Ck->Res
def yh(e:Int):Res:=(noFm,[],e)
def xw(r:Rs)(c:Ck)(f:Fm)(t:Tm):List Int×Int:=
 if(r c).2.2≠0 then([],(r c).2.2) else if(Zey f t).2≠0 then([],(Zey f t).2) else((r c).2.1,Ybi (Zey f t).1 (r c).1)
def Zjj(r:Res):Res:=if r.2.2≠0 then yh r.2.2 else if r.1.err≠0 then yh 4 else(r.1,if Zcu r.1=true then r.2.1 else [],0)
def Yik(c:Ck)(i:Int):Res:=if i>=c.hyps.length then yh 8 else(c.hyps.getD (c.hyps.length-1-i.toNat) noFm,[],0)
def Yim(c:Ck)(i:Int):Res:=if i>=c.lems.length then yh 9 else(c.lems.getD i.toNat noFm,[],0)
def Yhn(r0 r1:Rs)(c:Ck):Res:=if(r0 c).2.2≠0 then yh (r0 c).2.2 else(Zal 2 (r0 c).1 (r1 c).1,u7 (r0 c).2.1 (r1 c).2.1,(r1 c).2.2)
def Yfs(j:Nat)(r0:Rs)(c:Ck):Res:=if(r0 c).2.2≠0 then yh (r0 c).2.2 else if(r0 c).1.kind≠2 then yh 10 else((r0 c).1.args.getD j noFm,(r0 c).2.1,0)
def Zrm(f:Fm)(r0:Rs)(c:Ck):Res:=
 if y6 c.tys f≠0 then yh (y6 c.tys f) else if c.room 0 1≠0 then yh 3 else(Zal 3 f (r0 (c.with_ f)).1,(r0 (c.with_ f)).2.1,(r0 (c.with_ f)).2.2)
def Zra(r0 r1:Rs)(c:Ck):Res:=
 if(r0 c).2.2≠0 then yh (r0 c).2.2 else if(r0 c).1.kind≠3 then yh 10 else if(r1 c).2.2≠0 then yh (r1 c).2.2
 else((r0 c).1.args.getD 1 noFm,u7 (r0 c).2.1 (r1 c).2.1,Ybi ((r0 c).1.args.getD 0 noFm) (r1 c).1)
def Yip(k:Int)(s:Ty)(r0:Rs)(c:Ck):Res:=
 if c.room 1 0≠0 then yh 3 else if(r0 (c.below [s])).2.2≠0 then yh (r0 (c.below [s])).2.2
 else if k=8 then(quF 4 s (r0 (c.below [s])).1,Zj9 (r0 (c.below [s])).2.1 1,0)
 else if Yf5 (r0 (c.below [s])).2.1=true then yh 12 else(quF 6 s (r0 (c.below [s])).1,Zj9 (r0 (c.below [s])).2.1 1,0)
def kI(k u a b:Int):Int:=if k=u then a else b
def kL(k u:Int)(a b:List Int):List Int:=if k=u then a else b
theorem Zda{α:Type}{l:List α}{i:Nat}(h:i<l.length)(d:α):l.getD i d=l[i]:=by grind
def atR(k:Int)(t:Tm)(r0:Rs)(c:Ck):Res:=
 if(xq c.tys t).2≠0 then yh (xq c.tys t).2 else if(r0 c).2.2≠0 then yh (r0 c).2.2
 else if(r0 c).1.kind≠kI k 13 6 4 then yh 10 else if(r0 c).1.ty≠(xq c.tys t).1 then yh 7
 else((Zey ((r0 c).1.args.getD 0 noFm) t).1,kL k 13 (r0 c).2.1 (u7 (r0 c).2.1 (Zes t)),(Zey ((r0 c).1.args.getD 0 noFm) t).2)
def exR(k:Int)(f:Fm)(t:Tm)(r0:Rs)(c:Ck):Res:=
 if y6 c.tys f≠0 then yh (y6 c.tys f) else if f.kind≠kI k 14 7 5 then yh 10
 else if(xq c.tys t).2≠0 then yh (xq c.tys t).2 else if f.ty≠(xq c.tys t).1 then yh 7
 else(f,kL k 14 (xw r0 c (f.args.getD 0 noFm) t).1 (u7 (xw r0 c (f.args.getD 0 noFm) t).1 (Zes t)),(xw r0 c (f.args.getD 0 noFm) t).2)
def Za9(f:Fm):Fm×Int:=
 if zp 0 f=0 then(f,0) else if(xf f).2≠0 then(noFm,(xf f).2) else if zp 0 (xf f).1≠0 then(noFm,6) else((xf f).1,0)
def Zhz(r1:Rs)(c:Ck)(a:Fm):Res:=r1 ((c.below [a.ty]).with_ (a.args.getD 0 noFm))
def Yfu(k:Int)(r0 r1:Rs)(c:Ck):Res:=
 if(r0 c).2.2≠0 then yh (r0 c).2.2 else if(r0 c).1.kind≠kI k 15 7 5 then yh 10 else if c.room 1 1≠0 then yh 3
 else if(Zhz r1 c (r0 c).1).2.2≠0 then yh (Zhz r1 c (r0 c).1).2.2
 else if(Za9 (Zhz r1 c (r0 c).1).1).2≠0 then yh (Za9 (Zhz r1 c (r0 c).1).1).2
 else if k=15/\Yf5 (Zhz r1 c (r0 c).1).2.1=true then yh 12
 else((Za9 (Zhz r1 c (r0 c).1).1).1.lft 1 (-1),u7 (r0 c).2.1 (Zj9 (Zhz r1 c (r0 c).1).2.1 1),0)
def Ygl(f:Fm)(t:Tm)(r0 r1:Rs)(c:Ck):Res:=
 if uq (c.tys++[natT]) f≠0 then yh (uq (c.tys++[natT]) f) else if Zp8 c t 1≠0 then yh (Zp8 c t 1)
 else if(xw r0 c f zT).2≠0 then yh (xw r0 c f zT).2 else if c.room 1 1≠0 then yh 3
 else if(xw r1 ((c.below [natT]).with_ f) (f.lft 1 1) (sT (vT 0))).2≠0 then yh (xw r1 ((c.below [natT]).with_ f) (f.lft 1 1) (sT (vT 0))).2
 else((Zey f t).1,u7 (u7 (Zes t) (xw r0 c f zT).1) (Zj9 (xw r1 ((c.below [natT]).with_ f) (f.lft 1 1) (sT (vT 0))).1 1),(Zey f t).2)
def nilM:Tm:= .mk 7 0 (.mk 0 []) []
def consM:Tm:= .mk 8 0 (.mk 0 []) [vT 1,vT 0]
def Zrw(f:Fm)(t:Tm)(r0 r1:Rs)(c:Ck):Res:=
 if uq (c.tys++[listT]) f≠0 then yh (uq (c.tys++[listT]) f) else if Zp8 c t 2≠0 then yh (Zp8 c t 2)
 else if(xw r0 c f nilM).2≠0 then yh (xw r0 c f nilM).2 else if c.room 2 1≠0 then yh 3
 else if(xw r1 ((c.below [natT,listT]).with_ (f.lft 1 1)) (f.lft 1 2) consM).2≠0 then yh (xw r1 ((c.below [natT,listT]).with_ (f.lft 1 1)) (f.lft 1 2) consM).2
 else((Zey f t).1,u7 (u7 (Zes t) (xw r0 c f nilM).1) (Zj9 (xw r1 ((c.below [natT,listT]).with_ (f.lft 1 1)) (f.lft 1 2) consM).1 2),(Zey f t).2)
def Zqn(t:Tm)(c:Ck):Res:=(eqF t t,[],Zp8 c t 1)
def Zj2(f:Fm)(r0 r1:Rs)(c:Ck):Res:=
 if uq (c.tys++[natT]) f≠0 then yh (uq (c.tys++[natT]) f) else if(r0 c).2.2≠0 then yh (r0 c).2.2 else if(r0 c).1.kind≠1 then yh 10
 else if(xw r1 c f ((r0 c).1.terms.getD 0 noTm)).2≠0 then yh (xw r1 c f ((r0 c).1.terms.getD 0 noTm)).2
 else((Zey f ((r0 c).1.terms.getD 1 noTm)).1,(xw r1 c f ((r0 c).1.terms.getD 0 noTm)).1,(Zey f ((r0 c).1.terms.getD 1 noTm)).2)
def appV:Tm:=apT (vT 1) (vT 0)
def chB(a:Fm):Fm×Int:=Zey (((a.args.getD 0 noFm).args.getD 0 noFm).lft 2 1) appV
def chF(a:Fm):Ty:=xj a.ty (a.args.getD 0 noFm).ty
def Ze6(r0:Rs)(c:Ck):Res:=
 if(r0 c).2.2≠0 then yh (r0 c).2.2 else if(r0 c).1.kind≠4\/((r0 c).1.args.getD 0 noFm).kind≠5 then yh 10 else if(chF (r0 c).1).err≠0 then yh 4
 else(quF 5 (chF (r0 c).1) (quF 4 (r0 c).1.ty (chB (r0 c).1).1),(r0 c).2.1,(chB (r0 c).1).2)
def Znc(k i:Int)(s:Ty)(ts:List Tm)(fs:List Fm)(rs:List Rs)(c:Ck):Res:=
 if k=1 then Yik c i else if k=2 then Yim c i else if k=3 then Yhn (rs.getD 0 fun _=>yh 0) (rs.getD 1 fun _=>yh 0) c
 else if k=4\/k=5 then Yfs (k-4).toNat (rs.getD 0 fun _=>yh 0) c
 else if k=6 then Zrm (fs.getD 0 noFm) (rs.getD 0 fun _=>yh 0) c
 else if k=7 then Zra (rs.getD 0 fun _=>yh 0) (rs.getD 1 fun _=>yh 0) c
 else if k=8\/k=12 then Yip k s (rs.getD 0 fun _=>yh 0) c
 else if k=9\/k=13 then atR k (ts.getD 0 noTm) (rs.getD 0 fun _=>yh 0) c
 else if k=10\/k=14 then exR k (fs.getD 0 noFm) (ts.getD 0 noTm) (rs.getD 0 fun _=>yh 0) c
 else if k=11\/k=15 then Yfu k (rs.getD 0 fun _=>yh 0) (rs.getD 1 fun _=>yh 0) c
 else if k=16 then Ygl (fs.getD 0 noFm) (ts.getD 0 noTm) (rs.getD 0 fun _=>yh 0) (rs.getD 1 fun _=>yh 0) c
 else if k=17 then Zrw (fs.getD 0 noFm) (ts.getD 0 noTm) (rs.getD 0 fun _=>yh 0) (rs.getD 1 fun _=>yh 0) c
 else if k=18 then Zqn (ts.getD 0 noTm) c
 else if k=19 then Zj2 (fs.getD 0 noFm) (rs.getD 0 fun _=>yh 0) (rs.getD 1 fun _=>yh 0) c
 else Ze6 (rs.getD 0 fun _=>yh 0) c
mutual
def yo:Pf->Rs
 | .mk k i s ts fs zs=>fun c=>Zjj (Znc k i s ts fs (Ybq zs) c)
def Ybq:List Pf->List Rs
 |[]=>[]
 |p::l=>yo p::Ybq l
end
theorem Zsq:∀l:List Pf,Ybq l=l.map yo
 |[]=>rfl
 |p::l=>by rw[Ybq,Zsq l];rfl
theorem wz(p:Pf)(c:Ck):yo p c=Zjj (Znc p.kind p.index p.ty p.terms p.forms (p.args.map yo) c):=by cases p;simp only[yo,Zsq];rfl
theorem Zol:∀l:List Fm,Zlc l=l.map Zcu
 |[]=>rfl
 |p::l=>by rw[Zlc,Zol l];rfl
theorem Zmg(f:Fm):Zcu f=if f.kind=1 then false else if f.kind=2 then(f.args.map Zcu).getD 0 false||(f.args.map Zcu).getD 1 false else if f.kind=5 then true else(f.args.map Zcu).getLastD false:=by
 cases f;simp only[Zcu,Zol];rfl
theorem Zt4(f:Fm):xf f=if(u2 f.terms).2≠0 then(noFm,(u2 f.terms).2) else if(xm f.args).2≠0 then(noFm,(xm f.args).2) else(.mk f.kind f.ty (u2 f.terms).1 (xm f.args).1,0):=by
 cases f;rfl
theorem v7{c:Ck}{v h:Nat}(hr:c.room v h=0):c.tys.length+v<=16/\c.hyps.length+h<=16:=by
 unfold Ck.room at hr;omega
theorem Zji{c:Ck}{v h:Nat}(hr:c.room v h≠0):c.room v h=3:=by unfold Ck.room at*;omega
theorem Zj8:∀{g:List Ty},(∀x∈g,x.err=0)->u4 g=0
 |[],_=>rfl
 |x::l,h=>by
  simp only[u4];rw[if_neg (by grind)];exact Zj8 fun y hy=>h y (by grind)
theorem Zya{g:List Ty}(hl:g.length<=16)(h:∀x∈g,x.err=0):wd g=0:=by
 unfold wd;rw[if_neg (by omega)];exact Zj8 h
theorem Zbl{α:Type}{f:α->Int}:∀{l:List α},vz f l=0->∀x∈l,f x=0
 |[],_,x,h=>by cases h
 |y::l,h,x,hx=>by
  simp only[vz] at h;by_cases h1:f y≠0
  ·omega
  ·rw[if_neg h1] at h;rcases List.mem_cons.1 hx with rfl|hx
   ·omega
   ·exact Zbl h x hx
theorem Zys{t:Ty}(he:t.err=0)(hk:t.kind=1):t=natT:=by
 have h:=((Ty.err_iff t).1 he).1;obtain⟨k,zs⟩:=t;rw[Ty.shape_eq,Bool.and_eq_true] at h;have h1:=h.1;simp only[Ty.kind,Ty.args] at hk h1;subst hk;have h2:zs.length=0:=by simpa[arT] using h1
 rw[List.eq_nil_of_length_eq_zero h2];rfl
theorem Zzc{t:Ty}(he:t.err=0)(hk:t.kind=2):t=listT:=by
 have h:=((Ty.err_iff t).1 he).1;obtain⟨k,zs⟩:=t;rw[Ty.shape_eq,Bool.and_eq_true] at h;have h1:=h.1;simp only[Ty.kind,Ty.args] at hk h1;subst hk;have h2:zs.length=0:=by simpa[arT] using h1
 rw[List.eq_nil_of_length_eq_zero h2];rfl
theorem Zpy{g:List Ty}{t:Tm}(hg:∀x∈g,x.err=0)(h:(Zc1 g t).2=0):t.err=0/\t.inf g=((Zc1 g t).1,0)/\(Zc1 g t).1.err=0:=by
 unfold Zc1 at h ⊢;by_cases h1:t.err≠0
 ·grind
 ·rw[if_neg h1] at h ⊢;have h1':=Decidable.not_not.1 h1;exact⟨h1',by grind,Tm.inf_good t g ((Tm.err_iff t).1 h1').1 hg h⟩
theorem Zco{g:List Ty}{t:Tm}(h:(xq g t).2=0):wd g=0/\t.err=0/\t.inf g=((xq g t).1,0)/\(xq g t).1.err=0:=by
 unfold xq at h ⊢;by_cases h1:wd g≠0
 ·grind
 ·rw[if_neg h1] at h ⊢;have h1':=Decidable.not_not.1 h1;exact⟨h1',Zpy (Zaa h1').2 h⟩
theorem Yhj(f:Fm):∀g:List Ty,(∀x∈g,x.err=0)->f.shape=true->f.tyE g=0->f.okT g:=by
 induction f using Fm.ind with
 |h f ih=>
  intro g hg hs h;rw[Fm.tyE_eq] at h;by_cases h1:vz (tE g) f.terms≠0
  ·omega
  ·rw[if_neg h1] at h;rw[Fm.okT_iff];refine⟨fun t ht=> ?_,fun x hx=> ?_⟩
   ·have h2:=Zbl (Decidable.not_not.1 h1) t ht;unfold tE at h2;by_cases h3:(Zc1 g t).2≠0
    ·omega
    ·rw[if_neg h3] at h2;obtain⟨a,b,c⟩:=Zpy hg (Decidable.not_not.1 h3);by_cases h4:(Zc1 g t).1.kind≠1
     ·omega
     ·rw[b,Zys c (Decidable.not_not.1 h4)]
   ·have h2:=Zbl h x hx;refine ih x hx _ ?_ (zx hs hx) h2;by_cases hq:x9 f.kind=true
    ·rw[Zgd hq];intro y hy;rcases List.mem_append.1 hy with hy|hy
     ·grind
     ·simp only[List.mem_singleton] at hy;subst hy;have hk:=quantK_iff.1 hq;rcases Zd2 hs with⟨h5,_⟩|⟨h5,_⟩|⟨_,_,h6⟩;all_goals omega
    ·rw[Zfv hq];exact hg
theorem Zbe{g:List Ty}{f:Fm}(hg:∀x∈g,x.err=0)(h:uq g f=0):f.err=0/\f.okT g:=by
 unfold uq at h;by_cases h1:f.err≠0
 ·omega
 ·rw[if_neg h1] at h;have h1':=Decidable.not_not.1 h1;exact⟨h1',Yhj f g hg ((Fm.err_iff f).1 h1').1 h⟩
theorem wy{g:List Ty}{f:Fm}(h:y6 g f=0):f.err=0/\f.okT g:=by
 unfold y6 at h;by_cases h1:wd g≠0
 ·omega
 ·rw[if_neg h1] at h;exact Zbe (Zaa (Decidable.not_not.1 h1)).2 h
theorem Ztr{c:Ck}{t:Tm}{k:Int}(h:Zp8 c t k=0):t.err=0/\t.inf c.tys=((xq c.tys t).1,0)/\(xq c.tys t).1.err=0/\(xq c.tys t).1.kind=k:=by
 unfold Zp8 at h;by_cases h1:(xq c.tys t).2≠0
 ·omega
 ·rw[if_neg h1] at h;obtain⟨_,a,b,d⟩:=Zco (Decidable.not_not.1 h1)
  grind
theorem Zl4(t:Tm):∀(g:List Ty) (b:Int),t.shape=true->(t.inf g).2=0->∀p∈t.vars b,p.1-p.2<g.length-b:=by
 induction t using Tm.ind with
 |h t ih=>
  intro g b hs h p hp;have hargs:=zd hs;by_cases k1:t.kind=1
  ·rw[Zaj hs k1] at hp;simp only[List.mem_singleton] at hp;subst hp;rw[Tm.inf_eq,if_pos k1] at h
   grind
  ·rw[Zbo k1] at hp;obtain⟨x,hx,hp⟩:=List.mem_flatMap.1 hp;by_cases k2:t.kind=2
   ·have e:up t.kind b=b+1:=by simp[up,k2]
    rw[e] at hp;rw[Tm.inf_eq,if_neg k1,if_pos k2] at h;have h0:(Tm.infs (g++[t.ty]) t.args).2=0:=by
     grind
    have:=ih x hx (g++[t.ty]) (b+1) (hargs x hx) (Tm.infs_all _ _ h0 x hx) p hp
    grind
   ·have e:up t.kind b=b:=by simp[up,k2]
    rw[e] at hp;exact ih x hx g b (hargs x hx) ((u3 (T:=(t.inf g).1) k1 k2 (by grind)).1 x hx) p hp
def UsesOk(n:Nat)(l:List Int):Prop:=l.Nodup/\∀u∈l,0<=u/\u<n
theorem UsesOk.nil(n:Nat):UsesOk n []:=⟨List.nodup_nil,fun u h=>by cases h⟩
theorem UsesOk.len{n:Nat}{l:List Int}(h:UsesOk n l):l.length<=n:=(Zx0 n l h.1 h.2).1
theorem mem_unionI{a b:List Int}{x:Int}:x∈u7 a b↔x∈a\/x∈b:=by
 rw[u7,(xn _).mem_iff,mem_nub,mem_nub];simp
theorem UsesOk.union{n:Nat}{a b:List Int}(ha:∀u∈a,0<=u/\u<(n:Int))(hb:∀u∈b,0<=u/\u<(n:Int)):UsesOk n (u7 a b):=by
 refine⟨?_,fun u hu=> ?_⟩
 ·rw[u7,(xn _).nodup_iff];exact wc (wc List.nodup_nil)
 ·rcases mem_unionI.1 hu with h|h;all_goals grind
theorem mem_outI{l:List Int}{n x:Int}:x∈Zj9 l n↔0<=x/\x+n∈l:=by
 simp only[Zj9,List.mem_map,List.mem_filter,decide_eq_true_eq]
 grind
theorem UsesOk.out{n m:Nat}{l:List Int}(h:UsesOk (n+m) l):UsesOk n (Zj9 l m):=by
 refine⟨?_,fun u hu=> ?_⟩
 ·have h1:(l.filter fun x=>decide (x>=(m:Int))).Nodup:=h.1.filter _;unfold Zj9
  grind
 ·obtain ⟨h1,h2⟩:=mem_outI.1 hu;have:=h.2 _ h2;omega
theorem Zam{t:Tm}{g:List Ty}{T:Ty}(h:t.inf g=(T,0)):UsesOk g.length (Zes t):=by
 unfold Zes;by_cases he:t.err=0
 ·rw[if_pos he];refine⟨Zqv t,fun u hu=> ?_⟩;obtain⟨h0,h1⟩:=mem_usesI.1 hu;refine⟨h0,?_⟩;obtain⟨p,hp,e⟩:=mem_cnt.2 h1;have:=Zl4 t g 0 ((Tm.err_iff t).1 he).1 (by rw[h]) p hp;omega
 ·rw[if_neg he];exact .nil _
theorem Yee{t:Tm}{g:List Ty}(m:List Ty)(hs:t.shape=true)(h:(t.inf g).2=0):t.inf (m++g)=t.inf g:=by
 have h1:=Zms t [] m g g.length 0 hs (by omega);rw[List.nil_append,List.nil_append] at h1;rw[<-h1];congr 1;refine(re_id t 0 hs fun p hp=> ?_).symm;have:=Zl4 t g 0 hs h p hp;rw[yw,if_neg (by omega)]
theorem Zzn(f:Fm):∀(g m:List Ty),f.shape=true->f.okT g->f.okT (m++g):=by
 induction f using Fm.ind with
 |h f ih=>
  intro g m hs hok;rw[Fm.okT_iff] at hok ⊢;refine⟨fun t ht=> ?_,fun x hx=> ?_⟩
  ·have:=hok.1 t ht;rw[Yee m (yi hs ht) (by grind)];omega
  ·have:=ih x hx _ m (zx hs hx) (hok.2 x hx);by_cases hq:x9 f.kind=true
   ·rw[Zgd hq] at this ⊢;grind
   ·rw[Zfv hq] at this ⊢;omega
theorem uz{f x:Fm}(hf:f.err=0)(hx:x∈f.args):x.err=0:=by
 have h:=(Fm.err_iff f).1 hf;have h1:=zc Fm.size hx;have h2:=f.size_eq;exact(Fm.err_iff x).2 ⟨zx h.1 hx,by omega⟩
theorem Zt3{f:Fm}{t:Tm}(hf:f.err=0)(ht:t∈f.terms):t.err=0:=by
 have h:=(Fm.err_iff f).1 hf;have h1:=zc Tm.size ht;have h2:=f.size_eq;exact(Tm.err_iff t).2 ⟨yi h.1 ht,by omega⟩
theorem Zof{f:Fm}(hs:f.shape=true)(hk:f.kind=2\/f.kind=3):∃a b,f=Zal f.kind a b:=by
 rw[Fm.shape_eq,Bool.and_eq_true,Bool.and_eq_true] at hs;have h1:=hs.1.1;unfold Fm.head at h1;rw[if_neg (by omega),if_pos hk] at h1;simp only[Bool.and_eq_true,beq_iff_eq] at h1;clear hs;obtain⟨k,h,ts,zs⟩:=f;simp only[Fm.kind_mk,Fm.terms_mk,Fm.args_mk] at h1 hk;have e1:ts=[]:=List.eq_nil_of_length_eq_zero h1.1.2
 match zs,h1 with
 |[a,b],h1=>
  refine⟨a,b,?_⟩;have e2:h= .mk 0 []:=Ty.no_of (by simp_all);rw[e1,e2];rfl
 |[],h1=>grind
 |[a],h1=>grind
 |a::b::c::l,h1=>grind
theorem Zkf{f:Fm}(hs:f.shape=true)(hk:4<=f.kind/\f.kind<=7):∃a,f=quF f.kind f.ty a:=by
 rw[Fm.shape_eq,Bool.and_eq_true,Bool.and_eq_true] at hs;have h1:=hs.1.1;unfold Fm.head at h1;rw[if_neg (by omega),if_neg (by omega),if_pos (by omega)] at h1;simp only[Bool.and_eq_true,beq_iff_eq] at h1;clear hs;obtain⟨k,h,ts,zs⟩:=f;simp only[Fm.kind_mk,Fm.terms_mk,Fm.args_mk] at h1 hk;have e1:ts=[]:=List.eq_nil_of_length_eq_zero h1.1.2
 match zs,h1 with
 |[a],h1=>exact⟨a,by rw[e1];rfl⟩
 |[],h1=>grind
 |a::b::l,h1=>grind
theorem Ygm{f:Fm}(hs:f.shape=true)(hk:f.kind=1):∃a b,f=eqF a b:=by
 rw[Fm.shape_eq,Bool.and_eq_true,Bool.and_eq_true] at hs;have h1:=hs.1.1;unfold Fm.head at h1;rw[if_pos hk] at h1;simp only[Bool.and_eq_true,beq_iff_eq] at h1;clear hs;obtain⟨k,h,ts,zs⟩:=f;simp only[Fm.kind_mk,Fm.terms_mk,Fm.args_mk] at h1 hk;have e1:zs=[]:=List.eq_nil_of_length_eq_zero h1.2
 match ts,h1 with
 |[a,b],h1=>
  have e2:h= .mk 0 []:=Ty.no_of (by simp_all);exact⟨a,b,by rw[e1,e2,hk];rfl⟩
 |[],h1=>grind
 |[a],h1=>grind
 |a::b::c::l,h1=>grind
theorem Zhx{f:Fm}(hf:f.shape=true)(hk:4<=f.kind/\f.kind<=7):f.ty.err=0:=by
 rcases Zd2 hf with⟨h,_⟩|⟨h,_⟩|⟨_,_,h⟩;all_goals omega
theorem Zy1{k:Int}{a b:Fm}{g:List Ty}(hk:k=2\/k=3)(h:(Zal k a b).okT g):a.okT g/\b.okT g:=by
 rw[Fm.okT_iff] at h;have e:Zg6 g (Zal k a b)=g:=Zfv (by show ¬x9 k=true;rw[quantK_iff];omega);rw[e] at h;exact⟨h.2 a (by simp[Zal]),h.2 b (by simp[Zal])⟩
theorem Zi8{k:Int}{s:Ty}{a:Fm}{g:List Ty}(hk:4<=k/\k<=7)(h:(quF k s a).okT g):a.okT (g++[s]):=by
 rw[Fm.okT_iff] at h;have e:Zg6 g (quF k s a)=g++[s]:=Zgd (quantK_iff.2 hk);rw[e] at h;exact h.2 a (by simp[quF])
theorem eq_okT{a b:Tm}{g:List Ty}:(eqF a b).okT g↔a.inf g=(natT,0)/\b.inf g=(natT,0):=by
 rw[Fm.okT_iff];simp[eqF]
theorem Zfx{k:Int}{a b:Fm}(hk:k=2\/k=3)(ha:a.shape=true)(hb:b.shape=true):(Zal k a b).shape=true:=by
 rw[Fm.shape_eq];rcases hk with rfl|rfl<;>simp[Zal,Fm.head,ha,hb,Ty.isNo,Ty.kind,Ty.args]
theorem Zau{k:Int}{s:Ty}{a:Fm}(hk:4<=k/\k<=7)(hs:s.err=0)(ha:a.shape=true):(quF k s a).shape=true:=by
 rw[Fm.shape_eq];have h1:=(Ty.err_iff s).1 hs;have h2:s.ok=true:=Zuz h1.1 h1.2;have:k=4\/k=5\/k=6\/k=7:=by omega
 rcases this with rfl|rfl|rfl|rfl<;>simp[quF,Fm.head,ha,h2]
theorem Zfj(k:Int)(a b:Fm):(Zal k a b).size=1+a.size+b.size:=by rw[Fm.size_eq];simp[Zal];omega
theorem Zei(k:Int)(s:Ty)(a:Fm):(quF k s a).size=1+a.size:=by rfl
theorem Zdb{f:Fm}{g h:List Ty}(m:List Ty)(hf:f.shape=true)(hok:f.okT (g++h)):(f.lft h.length m.length).okT (g++m++h):=by
 have:=Ycy g m h.length f h 0 (by omega) hf hok;exact this
theorem Zjk{f:Fm}{t:Tm}{g:List Ty}{σ:Ty}(hf:f.okT (g++[σ]))(ht:t.inf g=(σ,0))(h:(Zey f t).2=0):(Zey f t).1.err=0/\(Zey f t).1.okT g:=by
 have h':xi f 0 t=0:=h;have e:(Zey f t).1=f.put 0 t:=if_pos h';obtain⟨h1,h2,_⟩:=Zea h';rw[e];refine⟨Yd2 (by omega) h',?_⟩;have h3:=Zm5 0 t g σ ((Tm.err_iff t).1 h2).1 ht f [] 0 rfl ((Fm.err_iff f).1 h1).1 (by grind);rw[List.append_nil] at h3;exact h3
structure Ck.ok (c:Ck):Prop where
 ctx:wd c.tys=0
 nh:c.hyps.length<=16
 nl:c.lems.length<=32
 hyps:∀f∈c.hyps,f.err=0/\f.okT c.tys
 lems:∀f∈c.lems,f.err=0/\f.okT []
theorem Ck.ok.len{c:Ck}(h:c.ok):c.tys.length<=16:=(Zaa h.ctx).1
theorem Ck.ok.all{c:Ck}(h:c.ok):∀x∈c.tys,x.err=0:=(Zaa h.ctx).2
theorem Ck.ok.below{c:Ck}(h:c.ok){l:List Ty}(hl:c.tys.length+l.length<=16)(he:∀x∈l,x.err=0):(c.below l).ok:=by
 refine⟨Zya (by simp[Ck.below];omega) fun x hx=> ?_,by simp[Ck.below];exact h.nh,h.nl,fun f hf=> ?_,h.lems⟩
 ·rcases List.mem_append.1 hx with hx|hx
  ·exact h.all x hx
  grind
 ·obtain ⟨y,hy,rfl⟩:=List.mem_map.1 hf;obtain⟨h1,h2⟩:=h.hyps y hy;refine⟨Zj7 h1 (by omega),?_⟩;have h3:=Zdb (g:=c.tys) (h:=[]) l ((Fm.err_iff y).1 h1).1 (by grind);simpa[Ck.below] using h3
theorem Ck.ok.with_{c:Ck}(h:c.ok){f:Fm}(hl:c.hyps.length+1<=16)(hf:f.err=0)(hok:f.okT c.tys):(c.with_ f).ok:=by
 refine⟨h.ctx,by simp[Ck.with_];omega,h.nl,fun y hy=> ?_,h.lems⟩;rcases List.mem_append.1 hy with hy|hy
 ·exact h.hyps y hy
 ·simp only[List.mem_singleton] at hy;subst hy;exact⟨hf,hok⟩
def uy(c:Ck)(r:Res):Prop:=r.2.2=0->r.1.shape=true/\r.1.size<=20000000/\r.1.okT c.tys/\UsesOk c.tys.length r.2.1
def Zga(c:Ck)(r:Res):Prop:=(r.2.2=0->r.1.err=0/\r.1.okT c.tys/\UsesOk c.tys.length r.2.1)/\(r.2.2≠0->r=yh r.2.2)
theorem z7(c:Ck){e:Int}(he:e≠0):uy c (yh e):=fun h=>absurd h he
theorem Yht{c:Ck}{r:Res}(h:uy c r):Zga c (Zjj r):=by
 unfold Zjj;by_cases h1:r.2.2≠0
 ·rw[if_pos h1];exact⟨fun h=>absurd h h1,fun _=>rfl⟩
 ·rw[if_neg h1];by_cases h2:r.1.err≠0
  ·rw[if_pos h2];exact⟨fun h=>absurd h (by decide),fun _=>rfl⟩
  ·rw[if_neg h2];obtain⟨_,_,h4,h5⟩:=h (Decidable.not_not.1 h1);refine⟨fun _=>⟨Decidable.not_not.1 h2,h4,?_⟩,fun h=>absurd rfl h⟩;simp only;split
   ·exact h5
   ·exact .nil _
def RsOk(r:Rs):Prop:=∀c,c.ok->Zga c (r c)
theorem RsOk.good{r:Rs}(h:RsOk r){c:Ck}(hc:c.ok)(he:(r c).2.2=0):(r c).1.err=0/\(r c).1.okT c.tys/\UsesOk c.tys.length (r c).2.1:=(h c hc).1 he
theorem yu{f:Fm}(h:f.err=0):f.shape=true/\f.size<=20000000:=by
 have:=(Fm.err_iff f).1 h;grind
theorem Zx3{c:Ck}(hc:c.ok){i:Int}(hi:0<=i):uy c (Yik c i):=by
 unfold Yik;split
 ·exact z7 c (by decide)
 ·rename_i h;intro _;have hlt:c.hyps.length-1-i.toNat<c.hyps.length:=by omega
  simp only;rw[Zda hlt];obtain⟨h1,h2⟩:=hc.hyps _ (List.getElem_mem hlt);exact⟨(yu h1).1,(yu h1).2,h2,.nil _⟩
theorem Zyk{c:Ck}(hc:c.ok){i:Int}(hi:0<=i):uy c (Yim c i):=by
 unfold Yim;split
 ·exact z7 c (by decide)
 ·rename_i h;intro _;have hlt:i.toNat<c.lems.length:=by omega
  simp only;rw[Zda hlt];obtain⟨h1,h2⟩:=hc.lems _ (List.getElem_mem hlt);have h3:=Zzn _ [] c.tys (yu h1).1 h2;rw[List.append_nil] at h3;exact⟨(yu h1).1,(yu h1).2,h3,.nil _⟩
theorem Zx5{r0 r1:Rs}(h0:RsOk r0)(h1:RsOk r1){c:Ck}(hc:c.ok):uy c (Yhn r0 r1 c):=by
 unfold Yhn;split
 ·rename_i h;exact z7 c h
 ·rename_i h;intro he;obtain⟨a1,a2,a3⟩:=h0.good hc (Decidable.not_not.1 h);obtain⟨b1,b2,b3⟩:=h1.good hc he;have s1:=(Fm.err_iff _).1 a1;have s2:=(Fm.err_iff _).1 b1;exact⟨Zfx (.inl rfl) s1.1 s2.1,by rw[Zfj];omega,Zic (.inl rfl) a2 b2,.union a3.2 b3.2⟩
theorem Zm4{r0:Rs}(h0:RsOk r0){c:Ck}(hc:c.ok){j:Nat}(hj:j<2):uy c (Yfs j r0 c):=by
 unfold Yfs;split
 ·rename_i h;exact z7 c h
 rename_i h;split
 ·exact z7 c (by decide)
 rename_i h2;intro _;obtain⟨a1,a2,a3⟩:=h0.good hc (Decidable.not_not.1 h);have s1:=(Fm.err_iff _).1 a1;obtain⟨x,y,e⟩:=Zof s1.1 (.inl (Decidable.not_not.1 h2));have hk:(r0 c).1.kind=2:=Decidable.not_not.1 h2;rw[hk] at e;rw[e] at a2;obtain⟨o1,o2⟩:=Zy1 (.inl rfl) a2;have e1:=uz a1 (x:=x) (by rw[e];simp[Zal]);have e2:=uz a1 (x:=y) (by rw[e];simp[Zal]);have:(r0 c).1.args=[x,y]:=by rw[e];rfl
 simp only[this];rcases j with _|_|j
 ·exact ⟨(yu e1).1,(yu e1).2,o1,a3⟩
 ·exact ⟨(yu e2).1,(yu e2).2,o2,a3⟩
 ·omega
theorem Zsw{r0:Rs}(h0:RsOk r0){f:Fm}{c:Ck}(hc:c.ok):uy c (Zrm f r0 c):=by
 unfold Zrm;split
 ·rename_i h;exact z7 c h
 rename_i h;split
 ·exact z7 c (by decide)
 rename_i h2;intro he;obtain⟨f1,f2⟩:=wy (Decidable.not_not.1 h);have hr:=v7 (Decidable.not_not.1 h2);obtain⟨a1,a2,a3⟩:=h0.good (hc.with_ (f:=f) hr.2 f1 f2) he;have s1:=(Fm.err_iff _).1 a1;have s2:=(Fm.err_iff _).1 f1;exact⟨Zfx (.inr rfl) s2.1 s1.1,by rw[Zfj];omega,Zic (.inr rfl) f2 a2,a3⟩
theorem Zua{r0 r1:Rs}(h0:RsOk r0)(h1:RsOk r1){c:Ck}(hc:c.ok):uy c (Zra r0 r1 c):=by
 unfold Zra;split
 ·rename_i h;exact z7 c h
 rename_i h;split
 ·exact z7 c (by decide)
 rename_i h2;split
 ·rename_i h;exact z7 c h
 rename_i h3;intro _;obtain⟨a1,a2,a3⟩:=h0.good hc (Decidable.not_not.1 h);obtain⟨b1,b2,b3⟩:=h1.good hc (Decidable.not_not.1 h3);have s1:=(Fm.err_iff _).1 a1;have hk:(r0 c).1.kind=3:=Decidable.not_not.1 h2;obtain⟨x,y,e⟩:=Zof s1.1 (.inr hk);rw[hk] at e;rw[e] at a2;obtain⟨o1,o2⟩:=Zy1 (.inr rfl) a2;have e2:=uz a1 (x:=y) (by rw[e];simp[Zal]);have:(r0 c).1.args=[x,y]:=by rw[e];rfl
 simp only[this];exact⟨(yu e2).1,(yu e2).2,o2,.union a3.2 b3.2⟩
theorem Zlk{r0:Rs}(h0:RsOk r0){k:Int}{s:Ty}(hs:s.err=0){c:Ck}(hc:c.ok):uy c (Yip k s r0 c):=by
 unfold Yip;split
 ·exact z7 c (by decide)
 rename_i h;have hr:=v7 (Decidable.not_not.1 h);have hb:=hc.below (l:=[s]) hr.1 (by grind);split
 ·rename_i h;exact z7 c h
 rename_i h2;obtain⟨a1,a2,a3⟩:=h0.good hb (Decidable.not_not.1 h2);have s1:=(Fm.err_iff _).1 a1;have hu:UsesOk c.tys.length (Zj9 (r0 (c.below [s])).2.1 1):=by
  have:=UsesOk.out (n:=c.tys.length) (m:=1) (l:=(r0 (c.below [s])).2.1) (by simpa[Ck.below] using a3);omega
 split
 ·intro _;exact⟨Zau (by omega) hs s1.1,by rw[Zei];omega,Zdr (by omega) a2,hu⟩
 split
 ·exact z7 c (by decide)
 ·intro _;exact⟨Zau (by omega) hs s1.1,by rw[Zei];omega,Zdr (by omega) a2,hu⟩
theorem Zs4{r0:Rs}(h0:RsOk r0){k:Int}{t:Tm}{c:Ck}(hc:c.ok):uy c (atR k t r0 c):=by
 unfold atR;split
 ·rename_i h;exact z7 c h
 rename_i h;split
 ·rename_i h;exact z7 c h
 rename_i h2;split
 ·exact z7 c (by decide)
 rename_i h3;split
 ·exact z7 c (by decide)
 rename_i h4;intro he;obtain⟨_,t1,t2,_⟩:=Zco (Decidable.not_not.1 h);obtain⟨a1,a2,a3⟩:=h0.good hc (Decidable.not_not.1 h2);have s1:=(Fm.err_iff _).1 a1;have hk:(r0 c).1.kind=kI k 13 6 4:=Decidable.not_not.1 h3;have hk':4<=(r0 c).1.kind/\(r0 c).1.kind<=7:=by rw[hk,kI];omega
 obtain⟨x,e⟩:=Zkf s1.1 hk';rw[e] at a2;have o1:=Zi8 hk' a2;have hx:(r0 c).1.args.getD 0 noFm=x:=by rw[e];rfl
 rw[hx] at he ⊢;have hty:(r0 c).1.ty=(xq c.tys t).1:=Decidable.not_not.1 h4;rw[hty] at o1;obtain⟨p1,p2⟩:=Zjk o1 t2 he;refine⟨(yu p1).1,(yu p1).2,p2,?_⟩;simp only[kL];split
 ·exact a3
 ·exact .union a3.2 (Zam t2).2
theorem ug{r0:Rs}(h0:RsOk r0){c:Ck}(hc:c.ok)(f:Fm)(t:Tm):UsesOk c.tys.length (xw r0 c f t).1:=by
 unfold xw;split
 ·exact .nil _
 rename_i h;split
 ·exact .nil _
 ·exact (h0.good hc (Decidable.not_not.1 h)).2.2
theorem Zsj{r0:Rs}(h0:RsOk r0){k:Int}{f:Fm}{t:Tm}{c:Ck}(hc:c.ok):uy c (exR k f t r0 c):=by
 unfold exR;split
 ·rename_i h;exact z7 c h
 rename_i h;split
 ·exact z7 c (by decide)
 split
 ·rename_i h;exact z7 c h
 rename_i h3;split
 ·exact z7 c (by decide)
 intro _;obtain⟨f1,f2⟩:=wy (Decidable.not_not.1 h);obtain⟨_,t1,t2,_⟩:=Zco (Decidable.not_not.1 h3);have hp:=ug h0 hc (f.args.getD 0 noFm) t;refine⟨(yu f1).1,(yu f1).2,f2,?_⟩;simp only[kL];split
 ·exact hp
 ·exact .union hp.2 (Zam t2).2
theorem Ztw:∀(l:List Tm),(u2 l).2=0->(u2 l).1.length=l.length/\(∀t∈(u2 l).1,t.err=0)/\∀(g:List Ty) (T:Ty),(∀t∈l,t.inf g=(T,0))->∀t∈(u2 l).1,t.inf g=(T,0)
 |[],_=>⟨rfl,fun t h=>absurd h (List.not_mem_nil),fun g T _ t h=>absurd h (List.not_mem_nil)⟩
 |x::l,h=>by
  simp only[u2] at h ⊢;by_cases h1:(xr x 1000).2.2≠0
  ·grind
  ·rw[if_neg h1] at h ⊢;by_cases h2:(u2 l).2≠0
   ·grind
   ·rw[if_neg h2];obtain⟨a1,a2,a3⟩:=Ztw l (Decidable.not_not.1 h2);obtain⟨_,b1,_,_,b2⟩:=Zlq (Decidable.not_not.1 h1)
    grind
theorem Zn8(P:Fm->Fm->Prop):∀(l:List Fm),(∀f∈l,(xf f).2=0->P f (xf f).1)->(xm l).2=0->(xm l).1.length=l.length/\∀(i:Nat) (h1:i<l.length) (h2:i<(xm l).1.length),P l[i] (xm l).1[i]
 |[],_,_=>⟨rfl,fun i h=>by grind⟩
 |x::l,hP,h=>by
  have h0:=h;simp only[xm] at h0;by_cases h1:(xf x).2≠0
  ·grind
  ·rw[if_neg h1] at h0;by_cases h2:(xm l).2≠0
   ·grind
   ·have e:xm (x::l)=((xf x).1::(xm l).1,0):=by simp only[xm];grind
    obtain⟨a1,a2⟩:=Zn8 P l (fun f hf=>hP f (by grind)) (Decidable.not_not.1 h2)
    grind
theorem Zgx{α:Type}{f:α->Nat}{C:Nat}:∀(l:List α),(∀x∈l,f x<=C)->(l.map f).sum<=C*l.length
 |[],_=>by simp
 |x::l,h=>by
  have h1:=Zgx l fun y hy=>h y (by grind);have h2:=h x (by simp);simp only[List.map_cons,List.sum_cons,List.length_cons,Nat.mul_add,Nat.mul_one];omega
theorem Zf1(f:Fm):(xf f).2=0->f.shape=true->(xf f).1.kind=f.kind/\(xf f).1.shape=true/\(xf f).1.size<=4096*f.size/\∀g,f.okT g->(xf f).1.okT g:=by
 induction f using Fm.ind with
 |h f ih=>
  intro h hs;rw[Zt4] at h ⊢;by_cases h1:(u2 f.terms).2≠0
  ·grind
  rw[if_neg h1] at h ⊢;by_cases h2:(xm f.args).2≠0
  ·grind
  rw[if_neg h2];obtain⟨a1,a2,a3⟩:=Ztw f.terms (Decidable.not_not.1 h1);obtain⟨b1,b2⟩:=Zn8 (fun x y=>y.kind=x.kind/\y.shape=true/\y.size<=4096*x.size/\∀g,x.okT g->y.okT g) f.args (fun x hx he=>ih x hx he (zx hs hx)) (Decidable.not_not.1 h2);have hsh:(Fm.mk f.kind f.ty (u2 f.terms).1 (xm f.args).1).shape=true:=by
   rw[Fm.shape_eq,Bool.and_eq_true,Bool.and_eq_true] at hs ⊢;refine⟨⟨?_,List.all_eq_true.2 fun t ht=>((Tm.err_iff t).1 (a2 t ht)).1⟩,List.all_eq_true.2 fun y hy=> ?_⟩
   ·have:=hs.1.1;unfold Fm.head at this ⊢;simp_all
   ·obtain ⟨i,hi,rfl⟩:=List.getElem_of_mem hy;have hi':i<(xm f.args).1.length:=hi;simp_all
  refine⟨rfl,hsh,?_,fun g hok=> ?_⟩
  ·have e1:=f.size_eq;rw[Fm.size_eq];simp only[Fm.terms_mk,Fm.args_mk];have s1:=Zgx (f:=Tm.size) (C:=4096) (u2 f.terms).1 fun t ht=>((Tm.err_iff t).1 (a2 t ht)).2;have s2:=zg Tm.size Tm.size_pos f.terms;have s3:((xm f.args).1.map Fm.size).sum<=4096*(f.args.map Fm.size).sum:=by
    have:∀(l m:List Fm),m.length=l.length->(∀(i:Nat) (h1:i<l.length) (h2:i<m.length),m[i].size<=4096*l[i].size)->(m.map Fm.size).sum<=4096*(l.map Fm.size).sum:=by
     intro l;induction l with
     |nil=>simp
     |cons x l ihl=>
      intro m hm hh
      match m,hm with
      |y::m,hm=>
       have q1:=ihl m (by grind) fun i h1 h2=>by have:=hh (i+1) (by grind) (by grind);grind
       have q2:=hh 0 (by simp) (by simp)
       grind
    grind
   omega
  ·rw[Fm.okT_iff] at hok ⊢;refine⟨fun t ht=>a3 g natT hok.1 t ht,fun y hy=> ?_⟩;obtain⟨i,hi,rfl⟩:=List.getElem_of_mem hy;have hi':i<(xm f.args).1.length:=hi;have hc:Zg6 g (Fm.mk f.kind f.ty (u2 f.terms).1 (xm f.args).1)=Zg6 g f:=rfl;simp_all
theorem Zgq{f:Fm}(s:Tm)(hs:f.shape=true)(h:zp 0 f=0):f.lft 1 (-1)=f.put 0 s:=by
 refine Fm.re_congr f 0 fun p hp=> ?_;have h1:=Zxu h p hp;have h2:=Zgw p hp;refine re_congr p.1 0 fun q hq=> ?_;have h3:=Yco h1 q hq;rw[yw,vn]
 grind
theorem Ya2{f:Fm}{g:List Ty}{σ:Ty}(hσ:σ.err=0)(hs:f.shape=true)(h:zp 0 f=0)(hok:f.okT (g++[σ])):(f.lft 1 (-1)).shape=true/\(f.lft 1 (-1)).size=f.size/\(f.lft 1 (-1)).okT g:=by
 have h1:=(Ty.err_iff σ).1 hσ;obtain⟨d1,d2,_⟩:=Zyr σ h1.1 h1.2;rw[Zgq (dfl σ) hs h];refine⟨Zeo (by omega) d2 hs,?_,?_⟩
 ·have:=ue 0 (dfl σ) d2 f hs 0;have e:u5 0 (f.tms 0)=0:=h;show(f.re (fun b t=>t.re (xy (0+b) (dfl σ)) 0) 0).size=f.size
  grind
 ·have h3:=Zm5 0 (dfl σ) g σ d2 (d1 g) f [] 0 rfl hs (by grind);rw[List.append_nil] at h3;exact h3
theorem Yd4{f:Fm}(hf:f.err=0)(h:(Za9 f).2=0):(Za9 f).1.shape=true/\(Za9 f).1.size<=16777216/\zp 0 (Za9 f).1=0/\(∀g,f.okT g->(Za9 f).1.okT g)/\(Za9 f).1.kind=f.kind:=by
 have s1:=(Fm.err_iff _).1 hf;unfold Za9 at h ⊢;by_cases h1:zp 0 f=0
 ·grind
 rw[if_neg h1] at h ⊢;by_cases h2:(xf f).2≠0
 ·grind
 rw[if_neg h2] at h ⊢;by_cases h3:zp 0 (xf f).1≠0
 ·grind
 rw[if_neg h3];obtain⟨k,a,b,c⟩:=Zf1 f (Decidable.not_not.1 h2) s1.1
 grind
theorem Zl9{r0 r1:Rs}(h0:RsOk r0)(h1:RsOk r1){k:Int}{c:Ck}(hc:c.ok):uy c (Yfu k r0 r1 c):=by
 unfold Yfu;split
 ·rename_i h;exact z7 c h
 rename_i e0;split
 ·exact z7 c (by decide)
 rename_i e1;split
 ·exact z7 c (by decide)
 rename_i e2;split
 ·rename_i h;exact z7 c h
 rename_i e3;split
 ·rename_i h;exact z7 c h
 rename_i e4;split
 ·exact z7 c (by decide)
 intro _;obtain⟨a1,a2,a3⟩:=h0.good hc (Decidable.not_not.1 e0);have s1:=(Fm.err_iff _).1 a1;have hk:(r0 c).1.kind=kI k 15 7 5:=Decidable.not_not.1 e1;have hk':4<=(r0 c).1.kind/\(r0 c).1.kind<=7:=by rw[hk,kI];omega
 obtain⟨x,e⟩:=Zkf s1.1 hk';have ex:x.err=0:=uz a1 (by rw[e];simp[quF]);rw[e] at a2;have o1:=Zi8 hk' a2;have hx:(r0 c).1.args.getD 0 noFm=x:=by rw[e];rfl
 have hr:=v7 (Decidable.not_not.1 e2);have hte:=Zhx s1.1 hk';have hb:((c.below [(r0 c).1.ty]).with_ x).ok:=(hc.below (l:=[(r0 c).1.ty]) hr.1 (by grind)).with_ (by simpa[Ck.below] using hr.2) ex o1;have hob:Zhz r1 c (r0 c).1=r1 ((c.below [(r0 c).1.ty]).with_ x):=by unfold Zhz;rw[hx]
 rw[hob] at e3 e4 ⊢;obtain⟨b1,b2,b3⟩:=h1.good hb (Decidable.not_not.1 e3);obtain⟨f1,f2,f3,f4,_⟩:=Yd4 b1 (Decidable.not_not.1 e4);obtain⟨l1,l2,l3⟩:=Ya2 hte f1 f3 (f4 _ b2);have hu:=UsesOk.out (n:=c.tys.length) (m:=1) (l:=(r1 ((c.below [(r0 c).1.ty]).with_ x)).2.1) (by simpa[Ck.below,Ck.with_] using b3);exact⟨l1,by grind,l3,.union a3.2 hu.2⟩
theorem Ykv(g:List Ty):zT.inf g=(natT,0):=by rfl
theorem Yfq(g:List Ty):nilM.inf g=(listT,0):=by rfl
theorem Zmq{c:Ck}{t:Tm}(h:Zp8 c t 1=0):t.err=0/\t.inf c.tys=(natT,0):=by
 obtain⟨a,b,d,e⟩:=Ztr h;exact⟨a,by rw[b,Zys d e]⟩
theorem Zot{c:Ck}{t:Tm}(h:Zp8 c t 2=0):t.err=0/\t.inf c.tys=(listT,0):=by
 obtain⟨a,b,d,e⟩:=Ztr h;exact⟨a,by rw[b,Zzc d e]⟩
theorem Zde:natT.err=0:=by decide
theorem Zge:listT.err=0:=by decide
theorem Ck.ok.one{c:Ck}(h:c.ok){s:Ty}(hs:s.err=0):∀x∈c.tys++[s],x.err=0:=fun x hx=>by
 rcases List.mem_append.1 hx with hx|hx
 ·exact h.all x hx
 grind
theorem Zz3{r0 r1:Rs}(h0:RsOk r0)(h1:RsOk r1){f:Fm}{t:Tm}{c:Ck}(hc:c.ok):uy c (Ygl f t r0 r1 c):=by
 unfold Ygl;split
 ·rename_i h;exact z7 c h
 rename_i e0;split
 ·rename_i h;exact z7 c h
 rename_i e1;split
 ·rename_i h;exact z7 c h
 rename_i e2;split
 ·exact z7 c (by decide)
 rename_i e3;split
 ·rename_i h;exact z7 c h
 intro he;obtain⟨f1,f2⟩:=Zbe (hc.one Zde) (Decidable.not_not.1 e0);obtain⟨t1,t2⟩:=Zmq (Decidable.not_not.1 e1);obtain⟨p1,p2⟩:=Zjk f2 t2 he;have hr:=v7 (Decidable.not_not.1 e3);have hb:((c.below [natT]).with_ f).ok:=(hc.below (l:=[natT]) hr.1 (by simp[Zde])).with_ (by simpa[Ck.below] using hr.2) f1 f2;have hu:=UsesOk.out (n:=c.tys.length) (m:=1) (l:=(xw r1 ((c.below [natT]).with_ f) (f.lft 1 1) (sT (vT 0))).1) (by simpa[Ck.below,Ck.with_] using ug h1 hb (f.lft 1 1) (sT (vT 0)));refine⟨(yu p1).1,(yu p1).2,p2,.union (fun u hu=> ?_) hu.2⟩;rcases mem_unionI.1 hu with h|h
 ·exact (Zam t2).2 u h
 ·exact (ug h0 hc f zT).2 u h
theorem Zue{r0 r1:Rs}(h0:RsOk r0)(h1:RsOk r1){f:Fm}{t:Tm}{c:Ck}(hc:c.ok):uy c (Zrw f t r0 r1 c):=by
 unfold Zrw;split
 ·rename_i h;exact z7 c h
 rename_i e0;split
 ·rename_i h;exact z7 c h
 rename_i e1;split
 ·rename_i h;exact z7 c h
 rename_i e2;split
 ·exact z7 c (by decide)
 rename_i e3;split
 ·rename_i h;exact z7 c h
 intro he;obtain⟨f1,f2⟩:=Zbe (hc.one Zge) (Decidable.not_not.1 e0);obtain⟨t1,t2⟩:=Zot (Decidable.not_not.1 e1);obtain⟨p1,p2⟩:=Zjk f2 t2 he;have hr:=v7 (Decidable.not_not.1 e3);have hl:=Zdb (g:=c.tys) (h:=[listT]) [natT] ((Fm.err_iff f).1 f1).1 f2;have hb:((c.below [natT,listT]).with_ (f.lft 1 1)).ok:=(hc.below (l:=[natT,listT]) hr.1 (by simp[Zde,Zge])).with_ (by simpa[Ck.below] using hr.2) (Zj7 f1 (by omega)) (by simpa[Ck.below] using hl);have hu:=UsesOk.out (n:=c.tys.length) (m:=2) (l:=(xw r1 ((c.below [natT,listT]).with_ (f.lft 1 1)) (f.lft 1 2) consM).1) (by simpa[Ck.below,Ck.with_] using ug h1 hb (f.lft 1 2) consM);refine⟨(yu p1).1,(yu p1).2,p2,.union (fun u hu=> ?_) hu.2⟩;rcases mem_unionI.1 hu with h|h
 ·exact (Zam t2).2 u h
 ·exact (ug h0 hc f nilM).2 u h
theorem Zs1{t:Tm}{c:Ck}(hc:c.ok):uy c (Zqn t c):=by
 intro he;obtain⟨t1,t2⟩:=Zmq he;have s:=(Tm.err_iff t).1 t1;exact⟨Zbq s.1 s.1,by show(eqF t t).size<=_;rw[Zc7];omega,eq_okT.2 ⟨t2,t2⟩,.nil _⟩
theorem Zpx{r0 r1:Rs}(h0:RsOk r0)(h1:RsOk r1){f:Fm}{c:Ck}(hc:c.ok):uy c (Zj2 f r0 r1 c):=by
 unfold Zj2;split
 ·rename_i h;exact z7 c h
 rename_i e0;split
 ·rename_i h;exact z7 c h
 rename_i e1;split
 ·exact z7 c (by decide)
 rename_i e2;split
 ·rename_i h;exact z7 c h
 intro he;obtain⟨f1,f2⟩:=Zbe (hc.one Zde) (Decidable.not_not.1 e0);obtain⟨a1,a2,a3⟩:=h0.good hc (Decidable.not_not.1 e1);obtain⟨x,y,e⟩:=Ygm ((Fm.err_iff _).1 a1).1 (Decidable.not_not.1 e2);rw[e] at a2;have hy:(r0 c).1.terms.getD 1 noTm=y:=by rw[e];rfl
 rw[hy] at he ⊢;obtain⟨p1,p2⟩:=Zjk f2 (eq_okT.1 a2).2 he;exact⟨(yu p1).1,(yu p1).2,p2,ug h1 hc _ _⟩
theorem Ydv(g:List Ty)(s u:Ty):appV.inf (g++[xj s u]++[s])=(u,0):=by
 refine Zhc (a:=s) ?_ ?_
 ·rw[vr _ _ (by omega),if_neg (by grind),Zbi (by simp) (by simp),w9 (by simp)];rfl
 ·rw[vr _ _ (by omega),if_neg (by grind),w9 (by simp)];rfl
theorem Zlb{r0:Rs}(h0:RsOk r0){c:Ck}(hc:c.ok):uy c (Ze6 r0 c):=by
 unfold Ze6;split
 ·rename_i h;exact z7 c h
 rename_i e0;split
 ·exact z7 c (by decide)
 rename_i e1;split
 ·exact z7 c (by decide)
 rename_i e2;intro he;obtain⟨a1,a2,a3⟩:=h0.good hc (Decidable.not_not.1 e0);rw[not_or,Decidable.not_not,Decidable.not_not] at e1;have s1:=(Fm.err_iff _).1 a1;obtain⟨x,e⟩:=Zkf s1.1 (by omega);have ex:x.err=0:=uz a1 (by rw[e];simp[quF]);have hx:(r0 c).1.args.getD 0 noFm=x:=by rw[e];rfl
 have hte:=Zhx s1.1 (by omega);rw[hx] at e1;have s2:=(Fm.err_iff _).1 ex;obtain⟨y,e'⟩:=Zkf s2.1 (by omega);have hte':=Zhx s2.1 (by omega);have ey:y.err=0:=uz ex (by rw[e'];simp[quF]);have hy:x.args.getD 0 noFm=y:=by rw[e'];rfl
 rw[e] at a2;have o1:=Zi8 (by omega) a2;rw[e'] at o1;have o2:=Zi8 (by omega) o1;have hcf:chF (r0 c).1=xj (r0 c).1.ty x.ty:=by unfold chF;rw[hx]
 have hcb:chB (r0 c).1=Zey (y.lft 2 1) appV:=by unfold chB;grind
 rw[hcf] at e2 ⊢;rw[hcb] at he ⊢;have hl:=Zdb (g:=c.tys) (h:=[(r0 c).1.ty,x.ty]) [xj (r0 c).1.ty x.ty] ((Fm.err_iff y).1 ey).1 (by grind);have hl':(y.lft 2 1).okT (c.tys++[xj (r0 c).1.ty x.ty]++[(r0 c).1.ty]++[x.ty]):=by grind
 obtain⟨p1,p2⟩:=Zjk hl' (Ydv _ _ _) he;have s3:=(Fm.err_iff _).1 p1;refine⟨Zau (by omega) (Decidable.not_not.1 e2) (Zau (by omega) hte s3.1),by simp only[Zei];omega,Zdr (by omega) (Zdr (by omega) p2),a3⟩
theorem Ymk{l:List Pf}{i:Nat}(hi:i<l.length):(l.map yo).getD i (fun _=>yh 0)=yo l[i]:=by
 grind
theorem zo{p:Pf}(h:p.shape=true):p.head=true/\(∀t∈p.terms,t.shape=true)/\(∀f∈p.forms,f.shape=true)/\∀x∈p.args,x.shape=true:=by
 rw[p.shape_eq] at h
 grind
theorem Zzy{t:Ty}(h:t.ok=true):t.err=0:=by
 simp only[Ty.ok,Bool.and_eq_true,decide_eq_true_eq] at h;exact(Ty.err_iff t).2 h
theorem Zi7{p:Pf}(h:p.head=true):∃nd,ndP p.kind=some nd/\p.terms.length=nd.terms/\p.forms.length=nd.forms/\p.args.length=nd.args/\0<=p.index/\(nd.typ=true->p.ty.err=0)/\1<=p.kind/\p.kind<=20:=by
 unfold Pf.head at h;cases hn:ndP p.kind with
 |none=>grind
 |some nd=>
  rw[hn] at h;have hk:1<=p.kind/\p.kind<=20:=by
   refine Decidable.byContradiction fun hc=> ?_;have:ndP p.kind=none:=by
    unfold ndP
    repeat rw[if_neg (by omega)]
   grind
  simp only[Bool.and_eq_true,decide_eq_true_eq,beq_iff_eq] at h;refine⟨nd,rfl,by omega,by omega,by omega,by omega,fun ht=> ?_,hk⟩;simp only[ht,if_true] at h;exact Zzy h.2
theorem Zl5(p:Pf):p.shape=true->RsOk (yo p):=by
 induction p using Pf.ind with
 |h p ih=>
  intro hs c hc;rw[wz];refine Yht ?_;obtain⟨h1,h2,h3,h4⟩:=zo hs;obtain⟨nd,n1,n2,n3,n4,n5,n6,n7⟩:=Zi7 h1;have hrs:∀i,i<p.args.length->RsOk ((p.args.map yo).getD i fun _=>yh 0):=fun i hi=>by
   simp_all
  have hk:p.kind=1\/p.kind=2\/p.kind=3\/p.kind=4\/p.kind=5\/p.kind=6\/p.kind=7\/p.kind=8\/p.kind=9\/p.kind=10\/p.kind=11\/p.kind=12\/p.kind=13\/p.kind=14\/p.kind=15\/p.kind=16\/p.kind=17\/p.kind=18\/p.kind=19\/p.kind=20:=by omega
  unfold Znc;rcases hk with e|e|e|e|e|e|e|e|e|e|e|e|e|e|e|e|e|e|e|e<;>rw[e] at n1 ⊢<;>simp only[ndP] at n1<;>(try(simp at n1))<;>(try subst n1)<;>simp only[reduceIte,Int.reduceEq,or_false,or_true]<;>simp only at n4 n6
  ·exact Zx3 hc n5
  ·exact Zyk hc n5
  ·exact Zx5 (hrs 0 (by omega)) (hrs 1 (by omega)) hc
  ·exact Zm4 (hrs 0 (by omega)) hc (by decide)
  ·exact Zm4 (hrs 0 (by omega)) hc (by decide)
  ·exact Zsw (hrs 0 (by omega)) hc
  ·exact Zua (hrs 0 (by omega)) (hrs 1 (by omega)) hc
  ·exact Zlk (hrs 0 (by omega)) (n6 trivial) hc
  ·exact Zs4 (hrs 0 (by omega)) hc
  ·exact Zsj (hrs 0 (by omega)) hc
  ·exact Zl9 (hrs 0 (by omega)) (hrs 1 (by omega)) hc
  ·exact Zlk (hrs 0 (by omega)) (n6 trivial) hc
  ·exact Zs4 (hrs 0 (by omega)) hc
  ·exact Zsj (hrs 0 (by omega)) hc
  ·exact Zl9 (hrs 0 (by omega)) (hrs 1 (by omega)) hc
  ·exact Zz3 (hrs 0 (by omega)) (hrs 1 (by omega)) hc
  ·exact Zue (hrs 0 (by omega)) (hrs 1 (by omega)) hc
  ·exact Zs1 hc
  ·exact Zpx (hrs 0 (by omega)) (hrs 1 (by omega)) hc
  ·exact Zlb (hrs 0 (by omega)) hc
theorem ln1{α:Type}{l:List α}(h:l.length=1):∃a,l=[a]:=by
 match l,h with
 |[a],_=>simp
theorem ln2{α:Type}{l:List α}(h:l.length=2):∃a b,l=[a,b]:=by
 match l,h with
 |[a,b],_=>simp
theorem ln0{α:Type}{l:List α}(h:l.length=0):l=[]:=List.eq_nil_of_length_eq_zero h
theorem Ydu{p:Pf}(hs:p.shape=true){c:Ck}(hc:c.ok):uy c (Znc p.kind p.index p.ty p.terms p.forms (p.args.map yo) c):=by
 obtain⟨h1,h2,h3,h4⟩:=zo hs;obtain⟨nd,n1,n2,n3,n4,n5,n6,n7⟩:=Zi7 h1;have hrs:∀i,i<p.args.length->RsOk ((p.args.map yo).getD i fun _=>yh 0):=fun i hi=>by
  rw[Ymk hi];exact Zl5 _ (h4 _ (List.getElem_mem hi))
 have hk:p.kind=1\/p.kind=2\/p.kind=3\/p.kind=4\/p.kind=5\/p.kind=6\/p.kind=7\/p.kind=8\/p.kind=9\/p.kind=10\/p.kind=11\/p.kind=12\/p.kind=13\/p.kind=14\/p.kind=15\/p.kind=16\/p.kind=17\/p.kind=18\/p.kind=19\/p.kind=20:=by omega
 unfold Znc;rcases hk with e|e|e|e|e|e|e|e|e|e|e|e|e|e|e|e|e|e|e|e<;>rw[e] at n1 ⊢<;>simp only[ndP] at n1<;>(try(simp at n1))<;>(try subst n1)<;>simp only[reduceIte,Int.reduceEq,or_false,or_true]<;>simp only at n4 n6
 ·exact Zx3 hc n5
 ·exact Zyk hc n5
 ·exact Zx5 (hrs 0 (by omega)) (hrs 1 (by omega)) hc
 ·exact Zm4 (hrs 0 (by omega)) hc (by decide)
 ·exact Zm4 (hrs 0 (by omega)) hc (by decide)
 ·exact Zsw (hrs 0 (by omega)) hc
 ·exact Zua (hrs 0 (by omega)) (hrs 1 (by omega)) hc
 ·exact Zlk (hrs 0 (by omega)) (n6 trivial) hc
 ·exact Zs4 (hrs 0 (by omega)) hc
 ·exact Zsj (hrs 0 (by omega)) hc
 ·exact Zl9 (hrs 0 (by omega)) (hrs 1 (by omega)) hc
 ·exact Zlk (hrs 0 (by omega)) (n6 trivial) hc
 ·exact Zs4 (hrs 0 (by omega)) hc
 ·exact Zsj (hrs 0 (by omega)) hc
 ·exact Zl9 (hrs 0 (by omega)) (hrs 1 (by omega)) hc
 ·exact Zz3 (hrs 0 (by omega)) (hrs 1 (by omega)) hc
 ·exact Zue (hrs 0 (by omega)) (hrs 1 (by omega)) hc
 ·exact Zs1 hc
 ·exact Zpx (hrs 0 (by omega)) (hrs 1 (by omega)) hc
 ·exact Zlb (hrs 0 (by omega)) hc
theorem Zoj(f:Fm):(f.args.getD 0 noFm).full<=f.full+2:=by
 cases h:f.args with
 |nil=>exact Nat.le_trans (by decide:noFm.full<=2) (by omega)
 |cons x l=>
  have:=zc Fm.full (l:=f.args) (t:=x) (by grind);have:=f.full_eq
  grind
def Ya0(lems:List Fm)(tys:List Ty)(hyps:List Fm):Int:=
 if lems.length>32 then 3 else if vz (y6 []) lems≠0 then vz (y6 []) lems else if wd tys≠0 then wd tys
 else if hyps.length>16 then 3 else vz (y6 tys) hyps
theorem Yg7{lems:List Fm}{tys:List Ty}{hyps:List Fm}(h:Ya0 lems tys hyps=0):(Ck.mk lems tys hyps).ok:=by
 unfold Ya0 at h;by_cases h1:lems.length>32
 ·omega
 rw[if_neg h1] at h;by_cases h2:vz (y6 []) lems≠0
 ·omega
 rw[if_neg h2] at h;by_cases h3:wd tys≠0
 ·omega
 rw[if_neg h3] at h;by_cases h4:hyps.length>16
 ·omega
 rw[if_neg h4] at h;exact⟨Decidable.not_not.1 h3,by grind,by grind,fun f hf=>wy (Zbl h f hf),fun f hf=>wy (Zbl (Decidable.not_not.1 h2) f hf)⟩
theorem Yf9{c:Ck}(h:c.ok):Ya0 c.lems c.tys c.hyps=0:=by
 unfold Ya0;rw[if_neg (by have:=h.nl;omega),if_neg,if_neg (by simp[h.ctx]),if_neg (by have:=h.nh;omega)]
 ·exact Zen fun f hf=>Zjw (h.hyps f hf).2 (h.hyps f hf).1 h.ctx
 ·rw[Zen fun f hf=>Zjw (h.lems f hf).2 (h.lems f hf).1 rfl];simp
def Zo9(lems:List Fm)(tys:List Ty)(hyps:List Fm)(p:Pf):Res:=
 if Ya0 lems tys hyps≠0 then yh (Ya0 lems tys hyps) else if p.err≠0 then yh p.err else yo p ⟨lems,tys,hyps⟩
def fvK(k:Int):Int:=if k=16\/k=17\/k=19 then 1 else 0
def vaK(k:Int):Int:=if k=17 then 2 else if k=8\/k=12\/k=11\/k=15\/k=16 then 1 else 0
def hyK(k:Int):Int:=if k=6\/k=11\/k=15\/k=16\/k=17 then 1 else 0
def ruC(k:Int):List V:=match ndP k with
 |some n=>[.bool n.index,.bool n.typ,.i n.terms,.i n.forms,.i n.args,.i (fvK k),.i (vaK k),.i (hyK k)]
 |none=>[.bool false,.bool false,.i 0,.i 0,.i 0,.i 0,.i 0,.i 0]
abbrev Tl:=Nat×Bool
def tlT:List Tm->Tl->Bool×Tl
 |[],s=>(true,s)
 |t::l,s=>if t.err=2 then(false,(s.1+t.num.toNat,s.2||t.err==4)) else tlT l (s.1+t.num.toNat,s.2||t.err==4)
def tlF:List Fm->Tl->Bool×Tl
 |[],s=>(true,s)
 |t::l,s=>if t.err=2 then(false,(s.1+t.num.toNat,s.2||t.err==4)) else tlF l (s.1+t.num.toNat,s.2||t.err==4)
def Pf.hdA(p:Pf):Bool:=match ndP p.kind with
 |none=>false
 |some n=>p.terms.length==n.terms&&p.forms.length==n.forms&&p.args.length==n.args&&decide (0<=p.index)&&(n.index||p.index==0)
def Pf.hdT(p:Pf):Bool:=match ndP p.kind with
 |none=>false
 |some n=>if n.typ=true then p.ty.ok else p.ty.isNo
mutual
def tlP:Pf->Tl->Bool×Tl
 | .mk k i h ts fs zs,s=>
   if Pf.hdA (.mk k i h ts fs zs)=false then(false,s) else if Pf.hdT (.mk k i h ts fs zs)=false then(false,(s.1+1,s.2))
   else if(tlT ts (s.1+1,s.2)).1=false then tlT ts (s.1+1,s.2)
   else if(tlF fs (tlT ts (s.1+1,s.2)).2).1=false then tlF fs (tlT ts (s.1+1,s.2)).2
   else Zc4 zs (tlF fs (tlT ts (s.1+1,s.2)).2).2
def Zc4:List Pf->Tl->Bool×Tl
 |[],s=>(true,s)
 |p::l,s=>if(tlP p s).1=false then tlP p s else Zc4 l (tlP p s).2
end
theorem Yfo(p:Pf)(s:Tl):tlP p s=if p.hdA=false then(false,s) else if p.hdT=false then(false,(s.1+1,s.2))
 else if(tlT p.terms (s.1+1,s.2)).1=false then tlT p.terms (s.1+1,s.2)
 else if(tlF p.forms (tlT p.terms (s.1+1,s.2)).2).1=false then tlF p.forms (tlT p.terms (s.1+1,s.2)).2
 else Zc4 p.args (tlF p.forms (tlT p.terms (s.1+1,s.2)).2).2:=by
 cases p;rfl
theorem Zwd:∀(l m:List Tm) (s:Tl),(tlT l s).1=true->tlT (l++m) s=tlT m (tlT l s).2
 |[],m,s,_=>rfl
 |t::l,m,s,h=>by
  simp only[tlT,List.cons_append] at h ⊢;by_cases e:t.err=2
  ·grind
  ·rw[if_neg e] at h ⊢;rw[if_neg e];exact Zwd l m _ h
theorem Zzq:∀(l m:List Fm) (s:Tl),(tlF l s).1=true->tlF (l++m) s=tlF m (tlF l s).2
 |[],m,s,_=>rfl
 |t::l,m,s,h=>by
  simp only[tlF,List.cons_append] at h ⊢;by_cases e:t.err=2
  ·grind
  ·rw[if_neg e] at h ⊢;rw[if_neg e];exact Zzq l m _ h
theorem Zqo:∀(l m:List Pf) (s:Tl),(Zc4 l s).1=true->Zc4 (l++m) s=Zc4 m (Zc4 l s).2
 |[],m,s,_=>rfl
 |t::l,m,s,h=>by
  simp only[Zc4,List.cons_append] at h ⊢;by_cases e:(tlP t s).1=false
  ·grind
  ·rw[if_neg e] at h ⊢;rw[if_neg e];exact Zqo l m _ h
theorem Zsn{l:List Tm}{m:Nat}{s:Tl}(hm:m<l.length)(h:(tlT (l.take m) s).1=true):tlT (l.take (m+1)) s=tlT [l[m]] (tlT (l.take m) s).2:=by
 rw[List.take_succ_eq_append_getElem hm,Zwd _ _ _ h]
theorem Zs7{l:List Tm}{m:Nat}{s:Tl}(hm:m<l.length)(h:(tlT (l.take m) s).1=true)(he:l[m].err=2):tlT l s=(false,((tlT (l.take m) s).2.1+l[m].num.toNat,(tlT (l.take m) s).2.2||l[m].err==4)):=by
 have e:tlT l s=tlT (l.take m++l[m]::l.drop (m+1)) s:=by simp
 rw[e,Zwd _ _ _ h,tlT,if_pos he]
theorem Ztm{l:List Fm}{m:Nat}{s:Tl}(hm:m<l.length)(h:(tlF (l.take m) s).1=true):tlF (l.take (m+1)) s=tlF [l[m]] (tlF (l.take m) s).2:=by
 rw[List.take_succ_eq_append_getElem hm,Zzq _ _ _ h]
theorem Zt9{l:List Fm}{m:Nat}{s:Tl}(hm:m<l.length)(h:(tlF (l.take m) s).1=true)(he:l[m].err=2):tlF l s=(false,((tlF (l.take m) s).2.1+l[m].num.toNat,(tlF (l.take m) s).2.2||l[m].err==4)):=by
 have e:tlF l s=tlF (l.take m++l[m]::l.drop (m+1)) s:=by simp
 rw[e,Zzq _ _ _ h,tlF,if_pos he]
theorem Zod{l:List Pf}{m:Nat}{s:Tl}(hm:m<l.length)(h:(Zc4 (l.take m) s).1=true):Zc4 (l.take (m+1)) s=Zc4 [l[m]] (Zc4 (l.take m) s).2:=by
 rw[List.take_succ_eq_append_getElem hm,Zqo _ _ _ h]
theorem Zt2(p:Pf)(s:Tl):Zc4 [p] s=tlP p s:=by
 simp only[Zc4]
 grind
theorem Znq{l:List Pf}{m:Nat}{s:Tl}(hm:m<l.length)(h:(Zc4 (l.take m) s).1=true)(he:(tlP l[m] (Zc4 (l.take m) s).2).1=false):Zc4 l s=tlP l[m] (Zc4 (l.take m) s).2:=by
 have e:Zc4 l s=Zc4 (l.take m++l[m]::l.drop (m+1)) s:=by simp
 rw[e,Zqo _ _ _ h,Zc4,if_pos he]
theorem Zg9(t:Tm):(t.err=0/\t.shape=true/\t.size<=4096/\t.num=t.size)\/(t.err=2/\t.shape=false/\t.num=0)\/(t.err=4/\t.shape=true/\¬t.size<=4096/\t.num=0):=by
 unfold Tm.num Tm.err
 grind
theorem Zvp(t:Fm):(t.err=0/\t.shape=true/\t.size<=4096/\t.num=t.size)\/(t.err=2/\t.shape=false/\t.num=0)\/(t.err=4/\t.shape=true/\¬t.size<=4096/\t.num=0):=by
 unfold Fm.num Fm.err
 grind
theorem Zle:∀(l:List Tm) (s:Tl),(tlT l s).1=l.all Tm.shape/\(tlT l s).2.1<=s.1+(l.map Tm.size).sum/\
 (l.all Tm.shape=true->(tlT l s).2.2=(s.2|| !(l.all fun t=>decide (t.size<=4096)))/\((l.all fun t=>decide (t.size<=4096))=true->(tlT l s).2.1=s.1+(l.map Tm.size).sum))
 |[],s=>by simp[tlT]
 |t::l,s=>by
  have ih:=Zle l (s.1+t.num.toNat,s.2||t.err==4);simp only[tlT,List.all_cons,List.map_cons,List.sum_cons];rcases Zg9 t with⟨h1,h2,h3,h4⟩|⟨h1,h2,h3⟩|⟨h1,h2,h3,h4⟩
  ·rw[if_neg (by omega)]
   grind
  all_goals grind
theorem Zkv:∀(l:List Fm) (s:Tl),(tlF l s).1=l.all Fm.shape/\(tlF l s).2.1<=s.1+(l.map Fm.size).sum/\
 (l.all Fm.shape=true->(tlF l s).2.2=(s.2|| !(l.all fun t=>decide (t.size<=4096)))/\((l.all fun t=>decide (t.size<=4096))=true->(tlF l s).2.1=s.1+(l.map Fm.size).sum))
 |[],s=>by simp[tlF]
 |t::l,s=>by
  have ih:=Zkv l (s.1+t.num.toNat,s.2||t.err==4);simp only[tlF,List.all_cons,List.map_cons,List.sum_cons];rcases Zvp t with⟨h1,h2,h3,h4⟩|⟨h1,h2,h3⟩|⟨h1,h2,h3,h4⟩
  ·rw[if_neg (by omega)]
   grind
  all_goals grind
theorem Zu2(p:Pf):p.head=(p.hdA&&p.hdT):=by
 unfold Pf.head Pf.hdA Pf.hdT;cases ndP p.kind<;>simp_all
theorem Zqs(l:List Pf)(ih:∀p∈l,∀s:Tl,(tlP p s).1=p.shape/\(tlP p s).2.1<=s.1+p.size/\(p.shape=true->(tlP p s).2.2=(s.2|| !p.small)/\(p.small=true->(tlP p s).2.1=s.1+p.size))):
 ∀s:Tl,(Zc4 l s).1=l.all Pf.shape/\(Zc4 l s).2.1<=s.1+(l.map Pf.size).sum/\(l.all Pf.shape=true->(Zc4 l s).2.2=(s.2|| !(l.all Pf.small))/\(l.all Pf.small=true->(Zc4 l s).2.1=s.1+(l.map Pf.size).sum)):=by
 induction l with
 |nil=>intro s;simp[Zc4]
 |cons p l ihl=>
  intro s;obtain⟨a1,a2,a3⟩:=ih p (by simp) s;have b:=ihl (fun q hq=>ih q (by grind)) (tlP p s).2;simp only[Zc4,List.all_cons,List.map_cons,List.sum_cons]
  grind
theorem Zxq(p:Pf):∀s:Tl,(tlP p s).1=p.shape/\(tlP p s).2.1<=s.1+p.size/\(p.shape=true->(tlP p s).2.2=(s.2|| !p.small)/\(p.small=true->(tlP p s).2.1=s.1+p.size)):=by
 induction p using Pf.ind with
 |h p ih=>
  intro s;have hsz:=p.size_eq;rw[Yfo,p.shape_eq,p.small_eq,Zu2];by_cases h1:p.hdA=false
  ·grind
  rw[if_neg h1];rw[Bool.not_eq_false] at h1;by_cases h2:p.hdT=false
  ·grind
  rw[if_neg h2];rw[Bool.not_eq_false] at h2;rw[h1,h2];have t:=Zle p.terms (s.1+1,s.2);have f:=Zkv p.forms (tlT p.terms (s.1+1,s.2)).2;have a:=Zqs p.args ih (tlF p.forms (tlT p.terms (s.1+1,s.2)).2).2
  grind
theorem Ztt{p:Pf}(hs:p.shape=true):∃nd,ndP p.kind=some nd/\p.terms.length=nd.terms/\p.forms.length=nd.forms/\p.args.length=nd.args/\0<=p.index/\(nd.index=false->p.index=0)/\(nd.typ=true->p.ty.err=0)/\(nd.typ=false->p.ty= .mk 0 [])/\1<=p.kind/\p.kind<=20:=by
 have h:=(zo hs).1;obtain⟨nd,n1,n2,n3,n4,n5,n6,n7⟩:=Zi7 h;refine⟨nd,n1,n2,n3,n4,n5,?_,n6,?_,n7⟩
 ·intro hi;unfold Pf.head at h
  grind
 ·intro hi;unfold Pf.head at h;rw[n1] at h;simp only[Bool.and_eq_true,decide_eq_true_eq,beq_iff_eq,Bool.or_eq_true] at h;have h2:=h.2;rw[if_neg (by grind)] at h2;exact Ty.no_of h2
def Pf.num(p:Pf):Int:=if p.err=0 then p.size else 0
theorem Yby{c:Ck}{s:Tm}(hk:Zp8 c s 1=0)(he:(eqF s s).err=0):yo (y8 s) c=(eqF s s,[],0):=by
 rw[wz];have e:Znc (y8 s).kind (y8 s).index (y8 s).ty (y8 s).terms (y8 s).forms ((y8 s).args.map yo) c=Zqn s c:=rfl;rw[e];unfold Zqn Zjj
 grind
def Yeq(f:Fm)(p q:Pf):Pf:= .mk 19 0 (.mk 0 []) [] [f] [p,q]
theorem Yhr{c:Ck}(hc:c.ok){s:Tm}(he:s.err=0)(hi:s.inf c.tys=(natT,0)):Zp8 c s 1=0:=by
 have e:xq c.tys s=(natT,0):=by
  unfold xq Zc1;rw[if_neg (by simp[hc.ctx]),if_neg (by omega),hi]
 unfold Zp8;rw[e];rfl
structure NumOk (g:List Ty) (s:Tm):Prop where
 err:s.err=0
 inf:s.inf g=(natT,0)
 size:s.size<=900
theorem NumOk.shape{g:List Ty}{s:Tm}(h:NumOk g s):s.shape=true:=((Tm.err_iff s).1 h.err).1
theorem NumOk.near{g:List Ty}{s:Tm}(h:NumOk g s)(hg:g.length<=1000):s.near=true:=Zi0 (by rw[h.inf]) h.shape (by have:=h.size;omega)
theorem Zxt{a b:Tm}(ha:a.shape=true)(hb:b.shape=true)(hz:a.size+b.size<=4095):(eqF a b).err=0:=
 (Fm.err_iff _).2 ⟨Zbq ha hb,by rw[Zc7];omega⟩
theorem Yfd(g:List Ty)(u:Ty):(vT 0).inf (g++[u])=(u,0):=by
 rw[vr _ _ (by omega),if_neg (by simp)];have:Zni (g++[u]) 0=Zni [u] 0:=w9 (by simp);simp only[Int.toNat_zero];rw[this];rfl
theorem Ymg(a b:Tm):u5 0 ((eqF a b).tms 0)=cnt 0 (a.vars 0)+cnt 0 (b.vars 0):=by
 rfl
theorem Ykr{a b:Tm}(ha:a.near=true)(hb:b.near=true):(eqF a b).near=true:=by
 unfold Fm.near;simp[eqF,Fm.tms,Fm.tmss,ha,hb]
structure SideOk (g:List Ty) (a b:Tm):Prop where
 sa:a.shape=true
 sb:b.shape=true
 ia:a.inf (g++[natT])=(natT,0)
 ib:b.inf (g++[natT])=(natT,0)
 sz:a.size+b.size<=3000
theorem SideOk.err{g:List Ty}{a b:Tm}(h:SideOk g a b):(eqF a b).err=0:=Zxt h.sa h.sb (by have:=h.sz;omega)
theorem SideOk.near{g:List Ty}{a b:Tm}(h:SideOk g a b)(hg:g.length<=16):(eqF a b).near=true:=
 Ykr (Zi0 (by rw[h.ia]) h.sa (by have:=h.sz;grind)) (Zi0 (by rw[h.ib]) h.sb (by have:=h.sz;grind))
theorem SideOk.put{g:List Ty}{a b s:Tm}(h:SideOk g a b)(hg:g.length<=16)(hs:NumOk g s)(hz:1+a.size+b.size+(cnt 0 (a.vars 0)+cnt 0 (b.vars 0))*s.size<=4096):xi (eqF a b) 0 s=0:=by
 unfold xi;rw[if_neg (by simp[h.err]),if_neg (by omega),if_neg (by simp[hs.err]),if_neg (by simp[h.near hg,hs.near (by omega)]),if_neg];rw[Ymg,Zc7]
 grind
def Zkj(g s:Tm)(p:Pf):Pf:=Yeq (eqF (apT (g.re (zk 0 1) 0) (s.re (zk 0 1) 0)) (apT (g.re (zk 0 1) 0) (vT 0))) p (y8 (apT g s))
theorem NumOk.refl{c:Ck}(hc:c.ok){s:Tm}(h:NumOk c.tys s):yo (y8 s) c=(eqF s s,[],0):=
 Yby (Yhr hc h.err h.inf) (Zxt h.shape h.shape (by have:=h.size;omega))
structure FunOk (g:List Ty) (f:Tm):Prop where
 err:f.err=0
 inf:f.inf g=(xj natT natT,0)
 size:f.size<=500
def Dk.fms:Nat->Dk->List Ty->List Fm×Dk
 |0,d,_=>([],d)
 |n+1,d,g=>((Dk.fm 2 d g).1::(Dk.fms n (Dk.fm 2 d g).2 g).1,(Dk.fms n (Dk.fm 2 d g).2 g).2)
theorem Dk.fms_snoc:∀(n:Nat) (d:Dk) (g:List Ty),Dk.fms (n+1) d g=((Dk.fms n d g).1++[(Dk.fm 2 (Dk.fms n d g).2 g).1],(Dk.fm 2 (Dk.fms n d g).2 g).2)
 |0,d,g=>rfl
 |n+1,d,g=>by
  have ih:=Dk.fms_snoc n (Dk.fm 2 d g).2 g;rw[Dk.fms,ih];rfl
theorem Dk.fms_len:∀(n:Nat) (d:Dk) (g:List Ty),(Dk.fms n d g).1.length=n
 |0,_,_=>rfl
 |n+1,d,g=>by simp[Dk.fms,Dk.fms_len n]
theorem Dk.fms_ok:∀(n:Nat) (d:Dk) (g:List Ty),d.ok->(Dk.fms n d g).2.ok
 |0,_,_,h=>h
 |n+1,d,g,h=>Dk.fms_ok n _ g (Dk.fm_ok 2 d g h)
theorem Dk.fms_good:∀(n:Nat) (d:Dk) (g:List Ty),smalls g->∀f∈(Dk.fms n d g).1,f.err=0/\f.okT g
 |0,_,_,_,f,h=>by cases h
 |n+1,d,g,hg,f,h=>by
  simp only[Dk.fms,List.mem_cons] at h;rcases h with rfl|h
  ·exact ⟨Ygw (Dk.fm_good 2 d g hg),Dk.fm_okT 2 d g hg⟩
  ·exact Dk.fms_good n _ g hg f h
def Dk.sqN(d:Dk):Nat:=(d.ctx.2.next 3).1.toNat
def Dk.sqH(d:Dk):List Fm:=(Dk.fms d.sqN (d.ctx.2.next 3).2 d.ctx.1).1
def Dk.sqD(d:Dk):Dk:=(Dk.fms d.sqN (d.ctx.2.next 3).2 d.ctx.1).2
theorem Dk.sqN_le(d:Dk):d.sqN<=2:=by have:=Dk.next_bd d.ctx.2 3 (by omega);unfold Dk.sqN;omega
theorem Dk.sqD_ok{d:Dk}(h:d.ok):d.sqD.ok:=Dk.fms_ok _ _ _ (Dk.next_ok (Dk.ctx_ok h) 3)
theorem Dk.sqH_len(d:Dk):d.sqH.length<=2:=by unfold Dk.sqH;rw[Dk.fms_len];exact d.sqN_le
def Dk.sqC(d:Dk):Ck:=⟨[],d.ctx.1,d.sqH⟩
theorem Dk.sqC_ok(d:Dk):d.sqC.ok:=
 ⟨Zxz (g:=d.ctx.1) d.ctx_smalls (by have:=d.ctx_len;omega),by have:=d.sqH_len;simp only[Dk.sqC];omega,by simp[Dk.sqC],Dk.fms_good _ _ _ d.ctx_smalls,fun f h=>by cases h⟩
theorem Zak(d:Dk){g:List Ty}(hg:smalls g):NumOk g (Dk.tm 3 d g natT).1/\(Dk.tm 3 d g natT).1.size<=60:=by
 have m:=Dk.tm_mk 3 d g natT hg zh (by omega) (by omega);have h1:=(m.size hg zh).2 rfl;have h2:=s1_3;exact⟨⟨m.err hg zh (by omega),m.inf hg zh,by omega⟩,by omega⟩
def Dk.w0(d:Dk):Tm×Dk:=Dk.tm 3 d.sqD d.ctx.1 natT
def Dk.w1(d:Dk):Tm×Dk:=Dk.tm 3 d.w0.2 d.ctx.1 natT
def Dk.w2(d:Dk):Tm×Dk:=Dk.tm 3 d.w1.2 d.ctx.1 natT
theorem Dk.n2(d:Dk):NumOk d.ctx.1 d.w2.1/\d.w2.1.size<=60:=Zak _ d.ctx_smalls
abbrev va(i:Int):Pf:= .mk 1 i (.mk 0 []) [] [] []
theorem Ztu{i:Int}(hi:0<=i):(va i).err=0:=by
 rw[Pf.err_iff];refine⟨?_,by rfl,by simp[Pf.size,Pf.sizes]⟩;rw[Pf.shape_eq];simp[Pf.head,ndP,hi,Ty.isNo,Ty.kind,Ty.args]
theorem Zwi{s:Tm}(h:s.err=0):(y8 s).err=0:=by
 have h1:=(Tm.err_iff s).1 h;rw[Pf.err_iff];refine⟨?_,?_,?_⟩
 ·rw[Pf.shape_eq];simp[y8,Pf.head,ndP,h1.1,Ty.isNo,Ty.kind,Ty.args]
 ·rw[Pf.small_eq];simp[y8,h1.2]
 ·rw[Pf.size_eq];simp[y8];omega
theorem Zvr(s:Tm):(y8 s).size=1+s.size:=by rfl
theorem Znp(i:Int):(va i).size=1:=by rfl
theorem Par.two{k i:Int}{h:Ty}{a b a' b':Tm}(ha:Par a a')(hb:Par b b'):Par (.mk k i h [a,b]) (.mk k i h [a',b']):= .node (.cons ha (.cons hb .nil))
theorem Fm.re_shift(G:Int->Tm->Tm)(c:Int)(f:Fm):∀b,f.re G (b+c)=f.re (fun b t=>G (b+c) t) b:=by
 induction f using Fm.ind with
 |h f ih=>
  intro b;have e:upF f.kind (b+c)=upF f.kind b+c:=by simp only[upF];grind
  rw[Fm.re_eq,Fm.re_eq,e];simp_all
theorem Zrr(f:Fm)(a:Int)(s:Tm):f.put a s=f.re (fun b t=>t.re (xy (a+b) s) 0) 0:=rfl
theorem Yi8{k:Int}(hk:x9 k=true)(s:Ty)(f:Fm)(a:Int)(x:Tm):(quF k s f).put a x=quF k s (f.put (a+1) x):=by
 rw[Zrr,Fm.re_eq];simp only[quF,Fm.kind,Fm.ty,Fm.terms,Fm.args,List.map_nil,List.map_cons];congr 2;have e:upF k 0=0+1:=by simp[upF,hk]
 rw[e,Fm.re_shift,Zrr]
 grind
structure Gf (g:List Ty) (f:Fm) (n:Nat):Prop where
 sh:f.shape=true
 sz:f.size<=n
 ok:f.okT g
structure Gt (g:List Ty) (s:Tm) (T:Ty) (m:Nat):Prop where
 sh:s.shape=true
 sz:s.size<=m
 inf:s.inf g=(T,0)
theorem Gf.err{g:List Ty}{f:Fm}{n:Nat}(h:Gf g f n)(hn:n<=4096):f.err=0:=(Fm.err_iff f).2 ⟨h.sh,Nat.le_trans h.sz hn⟩
theorem Gt.err{g:List Ty}{s:Tm}{T:Ty}{m:Nat}(h:Gt g s T m)(hn:m<=4096):s.err=0:=(Tm.err_iff s).2 ⟨h.sh,Nat.le_trans h.sz hn⟩
theorem Zht(f:Fm)(a:Int):u5 a (f.tms 0)<=f.size:=by
 have h1:=Zmd a (f.tms 0);have h2:=Zia f 0;omega
theorem Gf.put{g:List Ty}{f:Fm}{n m:Nat}{s:Tm}{T:Ty}(hf:Gf (g++[T]) f n)(hs:Gt g s T m)(hm:1<=m)(hz:n*m<=4096)(hg:g.length<=20):
 xi f 0 s=0/\Gf g (f.put 0 s) (n*m):=by
 have hn:n<=n*m:=Nat.le_mul_of_pos_right n hm;have ef:=hf.err (by omega);have hp:=s.size_pos;have p2:=f.size_pos;have hmz:m<=4096:=by
  have:1*m<=n*m:=Nat.mul_le_mul_right m (by have:=hf.sz;omega);omega
 have es:=hs.err hmz;have nf:=(Zzh hf.ok ef (by grind)).1;have ns:=Zi0 (t:=s) (g:=g) (by rw[hs.inf]) hs.sh (by have:=hs.sz;omega);have hc:=Zht f 0;have h1:u5 0 (f.tms 0)*(s.size-1)<=n*(m-1):=Nat.mul_le_mul (Nat.le_trans hc hf.sz) (by have:=hs.sz;omega);have h2:n*(m-1)+n=n*m:=by rw[<-Nat.mul_succ];grind
 have h3:=hf.sz;refine⟨?_,Zeo (by omega) hs.sh hf.sh,?_,?_⟩
 ·unfold xi
  grind
 ·have h4:=ue 0 s hs.sh f hf.sh 0;have h5:(f.put 0 s).size=f.size+u5 0 (f.tms 0)*(s.size-1):=h4;omega
 ·have h6:=Zm5 0 s g T hs.sh hs.inf f [] 0 rfl hf.sh (by simpa using hf.ok);have h7:(f.put 0 s).okT (g++[]):=h6
  grind
theorem Gf.lft{g h:List Ty}(m:List Ty){f:Fm}{n:Nat}(hf:Gf (g++h) f n):Gf (g++m++h) (f.lft h.length m.length) n:=
 have hk:=vf hf.sh (fr:=h.length) (by_:=m.length) (by omega)
 ⟨hk.1,by rw[hk.2.1];exact hf.sz,Zdb m hf.sh hf.ok⟩
theorem Gf.qu{g:List Ty}{s:Ty}{f:Fm}{n:Nat}(k:Int)(hk:4<=k/\k<=7)(hs:s.err=0)(hf:Gf (g++[s]) f n):Gf g (quF k s f) (n+1):=
 ⟨Zau hk hs hf.sh,by rw[Zei];have:=hf.sz;omega,Zdr hk hf.ok⟩
theorem Gt.zero(g:List Ty):Gt g zT natT 1:=⟨by decide,by decide,Ykv g⟩
theorem Gt.nil(g:List Ty):Gt g nilM listT 1:=⟨by decide,by decide,Yfq g⟩
theorem Gt.v0(g:List Ty)(u:Ty):Gt (g++[u]) (vT 0) u 1:=⟨by decide,by decide,Yfd g u⟩
theorem Gt.v1(g:List Ty)(u w:Ty):Gt (g++[u,w]) (vT 1) u 1:=by
 refine⟨by decide,by decide,?_⟩;rw[vr _ _ (by omega),if_neg (by grind)];have:Zni (g++[u,w]) 1=Zni [u,w] 1:=w9 (by simp);simp only[show(1:Int).toNat=1 from rfl];rw[this];rfl
theorem Gt.cons(g:List Ty):Gt (g++[natT,listT]) consM listT 3:=by
 have h1:=(Gt.v1 g natT listT).inf;have h0:(vT 0).inf (g++[natT,listT])=(listT,0):=by
  have:=(Gt.v0 (g++[natT]) listT).inf
  grind
 exact⟨by decide,by decide,by
  have e:consM.inf (g++[natT,listT])=(listT,0):=by simp[consM,Tm.inf,Tm.infs,Zaf,h0,h1]
  exact e⟩
mutual
def Pf.up(fr b v:Int):Pf->Pf
 | .mk k i s ts fs zs=> .mk k i s (ts.map fun t=>t.re (zk (fr+v) b) 0) (fs.map fun f=>f.lft (fr+(v+fvK k)) b) (Pf.ups fr b v (vaK k) zs)
def Pf.ups(fr b v w:Int):List Pf->List Pf
 |[]=>[]
 |p::l=>Pf.up fr b (if l.length=0 then v+w else v) p::Pf.ups fr b v w l
end
mutual
def Pf.lh(fr b y:Int):Pf->Pf
 | .mk k i s ts fs zs=>if k=1 then .mk 1 (if i-y>=fr then i+b else i) (.mk 0 []) [] [] [] else .mk k i s ts fs (Pf.lhs fr b y (hyK k) zs)
def Pf.lhs(fr b y w:Int):List Pf->List Pf
 |[]=>[]
 |p::l=>Pf.lh fr b (if l.length=0 then y+w else y) p::Pf.lhs fr b y w l
end
theorem Pf.up_eq(fr b v:Int)(p:Pf):p.up fr b v= .mk p.kind p.index p.ty (p.terms.map fun t=>t.re (zk (fr+v) b) 0) (p.forms.map fun f=>f.lft (fr+(v+fvK p.kind)) b) (Pf.ups fr b v (vaK p.kind) p.args):=by cases p;rfl
theorem Pf.lh_eq(fr b y:Int)(p:Pf):p.lh fr b y=if p.kind=1 then .mk 1 (if p.index-y>=fr then p.index+b else p.index) (.mk 0 []) [] [] [] else .mk p.kind p.index p.ty p.terms p.forms (Pf.lhs fr b y (hyK p.kind) p.args):=by cases p;rfl
theorem Zha(fr b v w:Int):∀l:List Pf,(Pf.ups fr b v w l).length=l.length
 |[]=>by rfl
 |p::l=>by simp only[Pf.ups,List.length_cons,Zha fr b v w l]
theorem Zd5(fr b v w:Int):∀l:List Pf,(Pf.lhs fr b v w l).length=l.length
 |[]=>by rfl
 |p::l=>by simp only[Pf.lhs,List.length_cons,Zd5 fr b v w l]
theorem Zre(fr b v w:Int):∀(l:List Pf) (m:Nat) (h:m<l.length) (h':m<(Pf.ups fr b v w l).length),(Pf.ups fr b v w l)[m]=l[m].up fr b (if m+1=l.length then v+w else v)
 |p::l,0,h,h'=>by
  simp only[Pf.ups,List.getElem_cons_zero,List.length_cons];simp
 |p::l,m+1,h,h'=>by
  simp only[Pf.ups,List.getElem_cons_succ,List.length_cons,Nat.add_right_cancel_iff];exact Zre fr b v w l m (by grind) _
theorem Zr1(fr b v w:Int):∀(l:List Pf) (m:Nat) (h:m<l.length) (h':m<(Pf.lhs fr b v w l).length),(Pf.lhs fr b v w l)[m]=l[m].lh fr b (if m+1=l.length then v+w else v)
 |p::l,0,h,h'=>by
  simp only[Pf.lhs,List.getElem_cons_zero,List.length_cons];simp
 |p::l,m+1,h,h'=>by
  simp only[Pf.lhs,List.getElem_cons_succ,List.length_cons,Nat.add_right_cancel_iff];exact Zr1 fr b v w l m (by grind) _
mutual
def Pf.ix(C:Int):Pf->Prop
 | .mk _ _ _ ts fs zs=>(∀t∈ts,∀p∈t.vars 0,0<=p.1/\p.1<C)/\(∀f∈fs,∀p∈f.tms 0,∀q∈p.1.vars 0,0<=q.1/\q.1<C)/\Pf.ixs C zs
def Pf.ixs(C:Int):List Pf->Prop
 |[]=>True
 |p::l=>Pf.ix C p/\Pf.ixs C l
end
theorem Zv1(C:Int):∀l:List Pf,Pf.ixs C l↔∀p∈l,p.ix C
 |[]=>by simp[Pf.ixs]
 |p::l=>by simp[Pf.ixs,Zv1 C l]
theorem Pf.ix_iff(C:Int)(p:Pf):p.ix C↔(∀t∈p.terms,∀q∈t.vars 0,0<=q.1/\q.1<C)/\(∀f∈p.forms,∀q∈f.tms 0,∀r∈q.1.vars 0,0<=r.1/\r.1<C)/\∀x∈p.args,x.ix C:=by
 cases p;simp only[Pf.ix,Zv1];rfl
mutual
def Pf.hx(C:Int):Pf->Prop
 | .mk k i _ _ _ zs=>if k=1 then 0<=i/\i<C else Pf.hxs C zs
def Pf.hxs(C:Int):List Pf->Prop
 |[]=>True
 |p::l=>Pf.hx C p/\Pf.hxs C l
end
theorem Zx7(C:Int):∀l:List Pf,Pf.hxs C l↔∀p∈l,p.hx C
 |[]=>by simp[Pf.hxs]
 |p::l=>by simp[Pf.hxs,Zx7 C l]
theorem Pf.hx_iff(C:Int)(p:Pf):p.hx C↔(p.kind=1->0<=p.index/\p.index<C)/\(p.kind≠1->∀x∈p.args,x.hx C):=by
 cases p with
 |mk k i s ts fs zs=>
  by_cases h:k=1
  ·simp[Pf.hx,h,Pf.kind,Pf.index]
  ·simp[Pf.hx,h,Zx7,Pf.kind,Pf.args]
theorem Zse{C i:Int}(h:0<=i/\i<C):(va i).hx C:=by simpa[va,Pf.hx] using h
theorem Yk7(C i:Int):(va i).ix C:=by simp[Pf.ix,Pf.ixs]
end Go.Ab
namespace Go.Ab
open Go
set_option linter.all false
set_option maxHeartbeats 1000000
inductive FP:Fm->Fm->Prop
 |refl (f):FP f f
 |eq {a b b'} (h:Pst b b'):FP (eqF a b) (eqF a b')
 |two {k a a' b b'} (ha:FP a a') (hb:FP b b'):FP (Zal k a b) (Zal k a' b')
 |qu {k s a a'} (ha:FP a a'):FP (quF k s a) (quF k s a')
def arg(f:Fm)(i:Nat):Fm:=f.args.getD i noFm
def trm(f:Fm)(i:Nat):Tm:=f.terms.getD i noTm
theorem vp(k i:Int)(s:Ty)(ts:List Tm)(fs:List Fm)(zs:List Pf):(Pf.mk k i s ts fs zs).full=1+s.size+(ts.map Tm.full).sum+(fs.map Fm.full).sum+(zs.map Pf.full).sum:=Pf.full_eq _
theorem Zay:(Ty.mk 0 []).size=1:=by decide
theorem Zfi{s:Ty}(h:s.err=0):s.size<=64:=((Ty.err_iff s).1 h).2
def Tw:Nat->Nat->Fm->Prop
 |0,L,f=>∃s t,f=eqF s t/\f.size<=L
 |n+1,L,f=>(∃s t,f=eqF s t/\f.size<=L)\/(∃k a b,(k=2\/k=3)/\f=Zal k a b/\Tw n L a/\Tw n L b)\/∃k s a,(4<=k/\k<=7)/\s.small/\f=quF k s a/\Tw n L a
theorem Tw.size:∀{n L:Nat} {f:Fm},Tw n L f->f.size+1<=(L+1)*2^n
 |0,L,f,⟨s,t,e,h⟩=>by omega
 |n+1,L,f,h=>by
  have hp:1<=2^n:=Nat.one_le_two_pow;have h2:(L+1)*2^(n+1)=2*((L+1)*2^n):=by grind
  have h3:(L+1)*1<=(L+1)*2^n:=Nat.mul_le_mul_left _ hp;rcases h with⟨s,t,e,h⟩|⟨k,a,b,hk,e,ha,hb⟩|⟨k,s,a,hk,hs,e,ha⟩
  ·omega
  ·have h4:=ha.size;have h5:=hb.size;rw[e,Zfj];omega
  ·have h4:=ha.size;rw[e,Zei];omega
theorem Tw.up{n L:Nat}{f:Fm}(h:Tw n L f):Tw (n+1) L f:=by
 induction n generalizing f with
 |zero=>exact .inl h
 |succ n ih=>
  rcases h with h|⟨k,a,b,hk,e,ha,hb⟩|⟨k,s,a,hk,hs,e,ha⟩
  ·exact .inl h
  ·exact .inr (.inl ⟨k,a,b,hk,e,ih ha,ih hb⟩)
  ·exact .inr (.inr ⟨k,s,a,hk,hs,e,ih ha⟩)
theorem Yg2{k:Int}(hk:k=2\/k=3)(a b:Fm)(i:Int)(x:Tm):(Zal k a b).put i x=Zal k (a.put i x) (b.put i x):=by
 rw[Zrr,Fm.re_eq];have e:upF k 0=0:=by rcases hk with rfl|rfl<;>rfl
 simp only[Zal,Fm.kind,Fm.ty,Fm.terms,Fm.args,List.map_nil,List.map_cons];rw[e];rfl
theorem Tw.put:∀{n L:Nat} {f:Fm},Tw n L f->f.shape=true->∀(i:Int) (x:Tm),0<=i->x.shape=true->x.size<=3->Tw n (3*L) (f.put i x)
 |0,L,f,⟨s,t,e,h⟩,hs,i,x,hi,hx,hz=>by
  have h1:=ue i x hx f hs 0;have h2:(f.put i x).size=f.size+u5 i (f.tms 0)*(x.size-1):=h1;have h3:=Zht f i;have h4:u5 i (f.tms 0)*(x.size-1)<=f.size*2:=Nat.mul_le_mul h3 (by omega);subst e;exact⟨s.re (xy (i+0) x) 0,t.re (xy (i+0) x) 0,rfl,by omega⟩
 |n+1,L,f,h,hs,i,x,hi,hx,hz=>by
  rcases h with⟨s,t,e,h⟩|⟨k,a,b,hk,e,ha,hb⟩|⟨k,s,a,hk,hsm,e,ha⟩
  ·exact Tw.up' (Tw.put (n:=0) ⟨s,t,e,h⟩ hs i x hi hx hz)
  ·subst e;have sa:a.shape=true:=zx hs (x:=a) (by simp[Zal]);have sb:b.shape=true:=zx hs (x:=b) (by simp[Zal]);rw[Yg2 hk];exact .inr (.inl ⟨k,_,_,hk,rfl,Tw.put ha sa i x hi hx hz,Tw.put hb sb i x hi hx hz⟩)
  ·subst e;have sa:a.shape=true:=zx hs (x:=a) (by simp[quF]);rw[Yi8 (quantK_iff.2 hk)];exact .inr (.inr ⟨k,s,_,hk,hsm,rfl,Tw.put ha sa (i+1) x (by omega) hx hz⟩)
where
 Tw.up' {n L:Nat} {f:Fm} (h:Tw 0 L f):Tw (n+1) L f:= .inl h
structure Pg (p:Pf) (n:Nat):Prop where
 sh:p.shape=true
 sm:p.small=true
 sz:p.size<=n
theorem Pg.err{p:Pf}{n:Nat}(h:Pg p n)(hn:n<=16384):p.err=0:=(Pf.err_iff p).2 ⟨h.sh,h.sm,Nat.le_trans h.sz hn⟩
theorem Pg.of{p:Pf}(h:p.err=0):Pg p p.size:=have h1:=(Pf.err_iff p).1 h;⟨h1.1,h1.2.1,Nat.le_refl _⟩
theorem Pg.mono{p:Pf}{n m:Nat}(h:Pg p n)(hn:n<=m):Pg p m:=⟨h.sh,h.sm,Nat.le_trans h.sz hn⟩
theorem Pg.hyp{i:Int}(h:0<=i):Pg (va i) 1:=by
 have h1:=Pg.of (Ztu h);rw[Znp] at h1;exact h1
theorem Zep(k i:Int)(s:Ty)(ts:List Tm)(fs:List Fm)(zs:List Pf):(Pf.mk k i s ts fs zs).size=1+(ts.map Tm.size).sum+(fs.map Fm.size).sum+(zs.map Pf.size).sum:=Pf.size_eq _
theorem Pg.and{p q:Pf}{n m:Nat}(hp:Pg p n)(hq:Pg q m):Pg (.mk 3 0 (.mk 0 []) [] [] [p,q]) (1+n+m):=by
 refine⟨?_,?_,?_⟩
 ·simp[Pf.shape,Pf.shapes,Pf.head,ndP,hp.sh,hq.sh,Ty.isNo,Ty.kind,Ty.args]
 ·simp[Pf.small,Pf.smalls,hp.sm,hq.sm]
 ·have:=hp.sz;have:=hq.sz;simp only[Zep,List.map_cons,List.map_nil,List.sum_cons,List.sum_nil];omega
theorem Pg.imp{p:Pf}{f:Fm}{n m:Nat}(hf:f.shape=true)(hz:f.size<=m)(hm:m<=4096)(hp:Pg p n):Pg (.mk 6 0 (.mk 0 []) [] [f] [p]) (1+m+n):=by
 refine⟨?_,?_,?_⟩
 ·simp[Pf.shape,Pf.shapes,Pf.head,ndP,hp.sh,hf,Ty.isNo,Ty.kind,Ty.args]
 ·simp[Pf.small,Pf.smalls,hp.sm];omega
 ·have:=hp.sz;simp only[Zep,List.map_cons,List.map_nil,List.sum_cons,List.sum_nil];omega
theorem Pg.all{k:Int}{p:Pf}{s:Ty}{n:Nat}(hk:k=8\/k=12)(hs:s.err=0)(hp:Pg p n):Pg (.mk k 0 s [] [] [p]) (1+n):=by
 have ho:s.ok=true:=by
  have h1:=(Ty.err_iff s).1 hs;simp only[Ty.ok,Bool.and_eq_true,decide_eq_true_eq];exact h1
 refine⟨?_,?_,?_⟩
 ·rcases hk with rfl|rfl<;>simp[Pf.shape,Pf.shapes,Pf.head,ndP,hp.sh,ho]
 ·simp[Pf.small,Pf.smalls,hp.sm]
 ·have:=hp.sz;simp only[Zep,List.map_cons,List.map_nil,List.sum_cons,List.sum_nil];omega
theorem Pg.ex{k:Int}{p:Pf}{t:Tm}{f:Fm}{n m z:Nat}(hk:k=10\/k=14)(ht:t.shape=true)(hz:t.size<=z)(hz2:z<=4096)(hf:f.shape=true)(hm:f.size<=m)(hm2:m<=4096)(hp:Pg p n):Pg (.mk k 0 (.mk 0 []) [t] [f] [p]) (1+z+m+n):=by
 refine⟨?_,?_,?_⟩
 ·rcases hk with rfl|rfl<;>simp[Pf.shape,Pf.shapes,Pf.head,ndP,hp.sh,ht,hf,Ty.isNo,Ty.kind,Ty.args]
 ·simp[Pf.small,Pf.smalls,hp.sm];omega
 ·have:=hp.sz;simp only[Zep,List.map_cons,List.map_nil,List.sum_cons,List.sum_nil];omega
theorem Pg.refl{t:Tm}{n:Nat}(ht:t.shape=true)(hz:t.size<=n)(hn:n<=4096):Pg (y8 t) (1+n):=by
 have h:=Pg.of (Zwi (s:=t) ((Tm.err_iff t).2 ⟨ht,by omega⟩));rw[Zvr] at h;exact h.mono (by omega)
theorem uf{a:Fm}(ha:a.shape=true)(x:Tm):(a.lft 0 1).put 0 x=a:=Zr3 (fun p hp=>x7 a ha 0 p hp) 0 x
def Yaq(f:Fm)(t:Tm)(p:Pf):Pf:= .mk 10 0 (.mk 0 []) [t] [f] [p]
def Ylu(f:Fm)(t:Tm)(p q:Pf):Pf:= .mk 16 0 (.mk 0 []) [t] [f] [p,q]
theorem Ygz(a b:Tm)(i n:Int):(eqF a b).lft i n=eqF (a.re (zk (i+0) n) 0) (b.re (zk (i+0) n) 0):=rfl
theorem Pg.some{p:Pf}{t:Tm}{f:Fm}{n m z:Nat}(ht:t.shape=true)(hz:t.size<=z)(hz2:z<=4096)(hf:f.shape=true)(hm:f.size<=m)(hm2:m<=4096)(hp:Pg p n):Pg (Yaq f t p) (1+z+m+n):=Pg.ex (.inl rfl) ht hz hz2 hf hm hm2 hp
theorem Pg.ind{p q:Pf}{t:Tm}{f:Fm}{n k m z:Nat}(ht:t.shape=true)(hz:t.size<=z)(hz2:z<=4096)(hf:f.shape=true)(hm:f.size<=m)(hm2:m<=4096)(hp:Pg p n)(hq:Pg q k):Pg (Ylu f t p q) (1+z+m+n+k):=by
 refine⟨?_,?_,?_⟩
 ·simp[Ylu,Pf.shape,Pf.shapes,Pf.head,ndP,hp.sh,hq.sh,ht,hf,Ty.isNo,Ty.kind,Ty.args]
 ·simp[Ylu,Pf.small,Pf.smalls,hp.sm,hq.sm];omega
 ·have:=hp.sz;have:=hq.sz;simp only[Ylu,Zep,List.map_cons,List.map_nil,List.sum_cons,List.sum_nil];omega
theorem Pg.prj{k:Int}{p:Pf}{n:Nat}(hk:k=4\/k=5)(hp:Pg p n):Pg (.mk k 0 (.mk 0 []) [] [] [p]) (1+n):=by
 refine⟨?_,?_,?_⟩
 ·rcases hk with rfl|rfl<;>simp[Pf.shape,Pf.shapes,Pf.head,ndP,hp.sh,Ty.isNo,Ty.kind,Ty.args]
 ·simp[Pf.small,Pf.smalls,hp.sm]
 ·have:=hp.sz;simp only[Zep,List.map_cons,List.map_nil,List.sum_cons,List.sum_nil];omega
theorem Zss{α:Type}(f g:α->Nat):∀l:List α,(∀x∈l,f x<=65*g x)->(l.map f).sum<=65*(l.map g).sum
 |[],_=>by simp
 |x::l,h=>by
  have h1:=h x (by simp);have h2:=Zss f g l fun y hy=>h y (by grind)
  grind
theorem Zel(p:Pf):p.shape=true->p.full<=65*p.size:=by
 induction p using Pf.ind with
 |h p ih=>
  intro hs;obtain⟨h1,h2,h3,h4⟩:=zo hs;have ht:p.ty.size<=64:=by
   have hh:=h1;unfold Pf.head at hh;split at hh
   ·cases hh
   ·rename_i nd _;simp only[Bool.and_eq_true] at hh;have h5:=hh.2;split at h5
    ·simp only[Ty.ok,Bool.and_eq_true,decide_eq_true_eq] at h5;omega
    ·rw[Ty.no_of h5];decide
  have a1:=Zss Tm.full Tm.size p.terms fun t ht=>Zf0 t (h2 t ht);have a2:=Zss Fm.full Fm.size p.forms fun f hf=>Zb2 f (h3 f hf);have a3:=Zss Pf.full Pf.size p.args fun x hx=>ih x hx (h4 x hx);have e1:=p.full_eq;have e2:=p.size_eq;omega
end Go.Ab
namespace Go.Ab
open Go
set_option linter.all false
abbrev w64(n:Int):Int:=IntKind.i64.wrap n
def Zkc(fr by_:Int)(i b:Int):Tm:= .mk 1 (if w64 (i-b)>=fr then w64 (i+by_) else i) (.mk 0 []) []
def Tm.lw(t:Tm)(fr by_:Int):Tm:=t.re (Zkc fr by_) 0
def Fm.lw(f:Fm)(fr by_:Int):Fm:=f.re (fun b t=>t.lw (fr+b) by_) 0
theorem Ty.size_one(t:Ty):1<=t.size:=by cases t;simp only[Ty.size];omega
theorem Tm.full_two(t:Tm):2<=t.full:=by rw[Tm.full_eq];have:=t.ty.size_one;omega
theorem Zbd{α:Type}{f g:α->Nat}:∀{l:List α},(∀x∈l,f x<=g x)->(l.map f).sum<=(l.map g).sum
 |[],_=>Nat.le_refl _
 |x::l,h=>by
  simp only[List.map_cons,List.sum_cons];have h1:=h x (by simp);have h2:=Zbd (l:=l) fun y hy=>h y (by grind);omega
theorem Tm.re_fle{G:Int->Int->Tm}(hG:∀i b,(G i b).full<=2)(t:Tm):∀b,(t.re G b).full<=t.full:=by
 induction t using Tm.ind with
 |h t ih=>
  intro b;by_cases h1:t.kind=1
  ·rw[Zas h1];have:=hG t.index b;have:=t.full_two;omega
  ·rw[wq h1,t.full_eq,Tm.full_eq];simp only[Tm.args_mk,Tm.ty_mk,List.map_map];have:=Zbd (f:=Tm.full∘Tm.re G (up t.kind b)) (g:=Tm.full) fun x hx=>ih x hx (up t.kind b);omega
theorem Fm.re_fle{G:Int->Tm->Tm}(hG:∀b t,(G b t).full<=t.full)(f:Fm):∀b,(f.re G b).full<=f.full:=by
 induction f using Fm.ind with
 |h f ih=>
  intro b;rw[f.full_eq,Fm.full_eq,Fm.re_eq];simp only[Fm.terms_mk,Fm.args_mk,Fm.ty_mk,List.map_map];have h1:=Zbd (l:=f.terms) (f:=Tm.full∘G b) (g:=Tm.full) fun x _=>hG b x;have h2:=Zbd (f:=Fm.full∘Fm.re G (upF f.kind b)) (g:=Fm.full) fun x hx=>ih x hx (upF f.kind b);omega
theorem Zva(fr by_ i b:Int):(Zkc fr by_ i b).full<=2:=by simp[Zkc,Tm.full,Tm.fulls,Ty.size,Ty.sizes]
theorem Yap(t:Tm)(fr by_:Int):(t.lw fr by_).full<=t.full:=Tm.re_fle (Zva fr by_) t 0
theorem Yda(f:Fm)(fr by_:Int):(f.lw fr by_).full<=f.full:=Fm.re_fle (fun b t=>Yap t (fr+b) by_) f 0
mutual
def Pf.uw(fr b v:Int):Pf->Pf
 | .mk k i s ts fs zs=> .mk k i s (ts.map fun t=>t.lw (fr+v) b) (fs.map fun f=>f.lw (fr+(v+fvK k)) b) (Pf.uws fr b v (vaK k) zs)
def Pf.uws(fr b v w:Int):List Pf->List Pf
 |[]=>[]
 |p::l=>Pf.uw fr b (if l.length=0 then v+w else v) p::Pf.uws fr b v w l
end
mutual
def Pf.hw(fr b y:Int):Pf->Pf
 | .mk k i s ts fs zs=>if k=1 then .mk 1 (if w64 (i-y)>=fr then w64 (i+b) else i) (.mk 0 []) [] [] [] else .mk k i s ts fs (Pf.hws fr b y (hyK k) zs)
def Pf.hws(fr b y w:Int):List Pf->List Pf
 |[]=>[]
 |p::l=>Pf.hw fr b (if l.length=0 then y+w else y) p::Pf.hws fr b y w l
end
theorem Pf.uw_eq(fr b v:Int)(p:Pf):p.uw fr b v= .mk p.kind p.index p.ty (p.terms.map fun t=>t.lw (fr+v) b) (p.forms.map fun f=>f.lw (fr+(v+fvK p.kind)) b) (Pf.uws fr b v (vaK p.kind) p.args):=by cases p;rfl
theorem Pf.hw_eq(fr b y:Int)(p:Pf):p.hw fr b y=if p.kind=1 then .mk 1 (if w64 (p.index-y)>=fr then w64 (p.index+b) else p.index) (.mk 0 []) [] [] [] else .mk p.kind p.index p.ty p.terms p.forms (Pf.hws fr b y (hyK p.kind) p.args):=by cases p;rfl
theorem Zlz(fr b v w:Int):∀l:List Pf,(Pf.uws fr b v w l).length=l.length
 |[]=>by rfl
 |p::l=>by simp only[Pf.uws,List.length_cons,Zlz fr b v w l]
theorem Zqm(fr b v w:Int):∀l:List Pf,(Pf.hws fr b v w l).length=l.length
 |[]=>by rfl
 |p::l=>by simp only[Pf.hws,List.length_cons,Zqm fr b v w l]
theorem Zy7(fr b v w:Int):∀(l:List Pf) (m:Nat) (h:m<l.length) (h':m<(Pf.uws fr b v w l).length),(Pf.uws fr b v w l)[m]=l[m].uw fr b (if m+1=l.length then v+w else v)
 |p::l,0,h,h'=>by
  simp only[Pf.uws,List.getElem_cons_zero,List.length_cons];simp
 |p::l,m+1,h,h'=>by
  simp only[Pf.uws,List.getElem_cons_succ,List.length_cons,Nat.add_right_cancel_iff];exact Zy7 fr b v w l m (by grind) _
theorem Zzw(fr b v w:Int):∀(l:List Pf) (m:Nat) (h:m<l.length) (h':m<(Pf.hws fr b v w l).length),(Pf.hws fr b v w l)[m]=l[m].hw fr b (if m+1=l.length then v+w else v)
 |p::l,0,h,h'=>by
  simp only[Pf.hws,List.getElem_cons_zero,List.length_cons];simp
 |p::l,m+1,h,h'=>by
  simp only[Pf.hws,List.getElem_cons_succ,List.length_cons,Nat.add_right_cancel_iff];exact Zzw fr b v w l m (by grind) _
theorem Ydl{fr b v w:Int}{l:List Pf}{m:Nat}(h:m<l.length):(Pf.uws fr b v w l).take m++[l[m].uw fr b (if m+1=l.length then v+w else v)]=(Pf.uws fr b v w l).take (m+1):=by
 rw[<-Zy7 fr b v w l m h (by rw[Zlz];exact h),List.take_append_getElem]
theorem Yc0{fr b v w:Int}{l:List Pf}{m:Nat}(h:m<l.length):(Pf.hws fr b v w l).take m++[l[m].hw fr b (if m+1=l.length then v+w else v)]=(Pf.hws fr b v w l).take (m+1):=by
 rw[<-Zzw fr b v w l m h (by rw[Zqm];exact h),List.take_append_getElem]
theorem Ygi{fr b v w:Int}{l:List Pf}:(Pf.uws fr b v w l).take l.length=Pf.uws fr b v w l:=by rw[<-Zlz fr b v w l,List.take_length]
theorem Yhl{fr b v w:Int}{l:List Pf}:(Pf.hws fr b v w l).take l.length=Pf.hws fr b v w l:=by rw[<-Zqm fr b v w l,List.take_length]
theorem Zyn{fr b v w:Int}:∀{l:List Pf} {x:Pf},x∈Pf.uws fr b v w l->∃y∈l,∃v',x=y.uw fr b v'
 |[],x,h=>by simp[Pf.uws] at h
 |p::l,x,h=>by
  simp only[Pf.uws,List.mem_cons] at h;rcases h with rfl|h
  ·grind
  ·obtain ⟨y,hy,e⟩:=Zyn h
   grind
theorem Ztg{fr b v w:Int}:∀{l:List Pf},(∀p∈l,∀v,(p.uw fr b v).full<=p.full)->((Pf.uws fr b v w l).map Pf.full).sum<=(l.map Pf.full).sum
 |[],_=>by simp[Pf.uws]
 |p::l,h=>by
  simp only[Pf.uws,List.map_cons,List.sum_cons];have h1:=h p (by simp) (if l.length=0 then v+w else v);have h2:=Ztg (v:=v) (w:=w) (l:=l) fun q hq=>h q (by grind);omega
theorem Ygv(fr b:Int)(p:Pf):∀v,(p.uw fr b v).full<=p.full:=by
 induction p using Pf.ind with
 |h p ih=>
  intro v;rw[p.full_eq,Pf.full_eq,Pf.uw_eq];have h1:=Zbd (l:=p.terms) (f:=Tm.full∘fun t=>t.lw (fr+v) b) (g:=Tm.full) fun x _=>Yap x (fr+v) b;have h2:=Zbd (l:=p.forms) (f:=Fm.full∘fun t=>t.lw (fr+(v+fvK p.kind)) b) (g:=Fm.full) fun x _=>Yda x (fr+(v+fvK p.kind)) b;have h3:=Ztg (v:=v) (w:=vaK p.kind) ih;simp only[Pf.terms,Pf.forms,Pf.args,Pf.ty,List.map_map] at*;omega
mutual
def Pf.nd:Pf->Prop
 | .mk k _ _ _ _ zs=>(∃n,ndP k=some n/\zs.length=n.args)/\Pf.nds zs
def Pf.nds:List Pf->Prop
 |[]=>True
 |p::l=>Pf.nd p/\Pf.nds l
end
theorem Yam:∀l:List Pf,Pf.nds l↔∀p∈l,p.nd
 |[]=>by simp[Pf.nds]
 |p::l=>by simp[Pf.nds,Yam l]
theorem Pf.nd_iff(p:Pf):p.nd↔(∃n,ndP p.kind=some n/\p.args.length=n.args)/\∀x∈p.args,x.nd:=by
 cases p;simp only[Pf.nd,Yam];rfl
theorem Zhd(p:Pf):p.shape=true->p.nd:=by
 induction p using Pf.ind with
 |h p ih=>
  intro hs;obtain⟨nd,n1,n2,n3,n4,_⟩:=Ztt hs;exact(Pf.nd_iff p).2 ⟨⟨nd,n1,n4⟩,fun x hx=>ih x hx ((zo hs).2.2.2 x hx)⟩
theorem Ymi(fr b:Int)(p:Pf):p.nd->∀v,(p.uw fr b v).nd:=by
 induction p using Pf.ind with
 |h p ih=>
  intro hn v;obtain⟨⟨n,n1,n2⟩,n3⟩:=(Pf.nd_iff p).1 hn;rw[Pf.uw_eq,Pf.nd_iff];refine⟨⟨n,n1,by rw[<-n2];exact Zlz _ _ _ _ _⟩,fun x hx=> ?_⟩;obtain⟨y,hy,v',rfl⟩:=Zyn hx
  grind
def Pf.uph(p:Pf)(v h:Int):Pf:=(p.uw 0 v 0).hw 0 h 0
def sucT:Tm:=lmT natT (sT (vT 0))
mutual
def Pf.hyl(y:Int):Pf->List Int
 | .mk k i _ _ _ zs=>(if k=1/\i>=y then [i-y] else [])++(Pf.hyls y (hyK k) zs).flatten
def Pf.hyls(y w:Int):List Pf->List (List Int)
 |[]=>[]
 |p::l=>Pf.hyl (if l.length=0 then y+w else y) p::Pf.hyls y w l
end
theorem Pf.hyl_eq(y:Int)(p:Pf):p.hyl y=(if p.kind=1/\p.index>=y then [p.index-y] else [])++(Pf.hyls y (hyK p.kind) p.args).flatten:=by cases p;rfl
theorem Zpz{α:Type}{L:List (List α)}{m:Nat}(h:m<L.length):(L.take m).flatten++L[m]=(L.take (m+1)).flatten:=by
 rw[<-List.take_append_getElem h,List.flatten_append];simp
def xp(p:Pf):List Int:=yq (nub [] (p.hyl 0))
def Tm.ixb(t:Tm):Prop:=∀q∈t.vars 0,0<=q.1/\q.1<10000
def Fm.ixb(f:Fm):Prop:=∀q∈f.tms 0,∀r∈q.1.vars 0,0<=r.1/\r.1<10000
theorem Zy3(f:Fm):∀(g:List Ty) (b:Int),f.shape=true->f.okT g->∀q∈f.tms b,∀r∈q.1.vars 0,0<=r.1/\r.1<g.length+f.size:=by
 induction f using Fm.ind with
 |h f ih=>
  intro g b hs h q hq r hr;rw[f.tms_eq b,List.mem_append] at hq;rw[Fm.okT_iff] at h;have hsz:=f.size_eq;rcases hq with hq|hq
  ·obtain ⟨t,ht,rfl⟩:=List.mem_map.1 hq;have hst:=yi hs ht;have h1:=zc Tm.size ht;exact⟨t.vars_nonneg hst 0 r hr,Zch t g 0 (g.length+f.size) (by grind) hst (by omega) r hr⟩
  ·obtain ⟨x,hx,hq⟩:=List.mem_flatMap.1 hq;have h1:=zc Fm.size hx;have hl:(Zg6 g f).length<=g.length+1:=by unfold Zg6;grind
   have:=ih x hx _ _ (zx hs hx) (h.2 x hx) q hq r hr;omega
def TmI(t:Tm):Prop:=t.shape=true/\t.ixb/\t.full<=300000
def FmI(f:Fm):Prop:=f.shape=true/\f.ixb/\f.full<=300000
theorem TmI.of{g:List Ty}{t:Tm}{T:Ty}(he:t.err=0)(hi:t.inf g=(T,0))(hg:g.length<=20):TmI t:=by
 obtain⟨h1,h2⟩:=(Tm.err_iff t).1 he;have h3:=yt he;refine⟨h1,fun q hq=>⟨t.vars_nonneg h1 0 q hq,?_⟩,by omega⟩;have:=Zch t g 0 (g.length+t.size) (by rw[hi]) h1 (by omega) q hq;omega
theorem FmI.of{g:List Ty}{f:Fm}(he:f.err=0)(ho:f.okT g)(hg:g.length<=20):FmI f:=by
 obtain⟨h1,h2⟩:=(Fm.err_iff f).1 he;have h3:=xg he;refine⟨h1,fun q hq r hr=> ?_,by omega⟩;have:=Zy3 f g 0 h1 ho q hq r hr;omega
mutual
def Pf.lx(C:Int):Pf->Prop
 | .mk k i _ _ _ zs=>(k=2->0<=i/\i<C)/\Pf.lxs C zs
def Pf.lxs(C:Int):List Pf->Prop
 |[]=>True
 |p::l=>Pf.lx C p/\Pf.lxs C l
end
theorem Yal(C:Int):∀l:List Pf,Pf.lxs C l↔∀p∈l,p.lx C
 |[]=>by simp[Pf.lxs]
 |p::l=>by simp[Pf.lxs,Yal C l]
theorem Pf.lx_iff(C:Int)(p:Pf):p.lx C↔(p.kind=2->0<=p.index/\p.index<C)/\∀x∈p.args,x.lx C:=by cases p;simp only[Pf.lx,Yal];rfl
structure Made (n:Nat) (p:Pf):Prop where
 shape:p.shape=true
 full:p.full<=n
 ix:p.ix 10000
 hx:p.hx 10000
 lx:p.lx 10000
theorem Made.up{n m:Nat}{p:Pf}(h:Made n p)(hm:n<=m):Made m p:=⟨h.shape,Nat.le_trans h.full hm,h.ix,h.hx,h.lx⟩
theorem Made.mk'{k i:Int}{s:Ty}{ts:List Tm}{fs:List Fm}{zs:List Pf}{nd:Nd}{n:Nat}(hn:ndP k=some nd)(h1:ts.length=nd.terms)(h2:fs.length=nd.forms)(h3:zs.length=nd.args)
 (hi:0<=i/\i<10000) (hi2:nd.index=true\/i=0) (hs:if nd.typ=true then s.ok=true else s.isNo=true) (hk:k=1->zs=[])
 (ht:∀t∈ts,TmI t) (hf:∀f∈fs,FmI f) (hz:∀x∈zs,∃m,Made m x) (hfull:(Pf.mk k i s ts fs zs).full<=n):Made n (Pf.mk k i s ts fs zs):=by
 refine⟨?_,hfull,(Pf.ix_iff _ _).2 ⟨fun t h=>(ht t h).2.1,fun f h=>(hf f h).2.1,fun x h=> ?_⟩,(Pf.hx_iff _ _).2 ⟨fun _=>hi,fun _ x h=> ?_⟩,(Pf.lx_iff _ _).2 ⟨fun _=>hi,fun x h=> ?_⟩⟩
 ·rw[Pf.shape_eq];simp only[Bool.and_eq_true,List.all_eq_true];refine⟨⟨⟨?_,fun t h=>(ht t h).1⟩,fun f h=>(hf f h).1⟩,fun x h=> ?_⟩
  ·unfold Pf.head;simp_all
  ·obtain ⟨m,hm⟩:=hz x h;exact hm.shape
 ·obtain ⟨m,hm⟩:=hz x h;exact hm.ix
 ·obtain ⟨m,hm⟩:=hz x h;exact hm.hx
 ·obtain ⟨m,hm⟩:=hz x h;exact hm.lx
theorem Zzk{s:Ty}(h:s.err=0):s.ok=true:=Zuz ((Ty.err_iff s).1 h).1 ((Ty.err_iff s).1 h).2
theorem v8{α:Type}{P:α->Prop}{a:α}(h:P a):∀x∈[a],P x:=fun x hx=>by grind
theorem Zew{α:Type}{P:α->Prop}{a b:α}(h:P a)(h':P b):∀x∈[a,b],P x:=fun x hx=>by
 grind
theorem Zaq{α:Type}{P:α->Prop}:∀x∈([]:List α),P x:=fun x hx=>by cases hx
theorem Made.ref{t:Tm}(h:TmI t):Made 300010 (.mk 18 0 (.mk 0 []) [t] [] []):=
 .mk' rfl rfl rfl rfl (by omega) (.inr rfl) rfl (by decide) (v8 h) Zaq Zaq (by rw[vp,Zay];have:=h.2.2;grind)
theorem Made.hyp{i:Int}(h:0<=i/\i<10000):Made 10 (va i):=
 .mk' (nd:=⟨0,0,0,true,false⟩) rfl rfl rfl rfl h (.inl rfl) rfl (fun _=>rfl) Zaq Zaq Zaq (by rw[vp,Zay];simp)
theorem Made.lem{i:Int}(h:0<=i/\i<10000):Made 10 (.mk 2 i (.mk 0 []) [] [] []):=
 .mk' (nd:=⟨0,0,0,true,false⟩) rfl rfl rfl rfl h (.inl rfl) rfl (fun _=>rfl) Zaq Zaq Zaq (by rw[vp,Zay];simp)
theorem Made.two{k:Int}(hk:k=3\/k=7\/k=11\/k=15){n m:Nat}{p q:Pf}(hp:Made n p)(hq:Made m q):Made (n+m+2) (.mk k 0 (.mk 0 []) [] [] [p,q]):=by
 have h:=hp.full;have h':=hq.full;refine .mk' (nd:=⟨0,0,2,false,false⟩) ?_ rfl rfl rfl (by omega) (.inr rfl) rfl (fun h=>by omega) Zaq Zaq (Zew ⟨_,hp⟩ ⟨_,hq⟩) (by rw[vp,Zay];grind);rcases hk with rfl|rfl|rfl|rfl<;>rfl
theorem Made.one{k:Int}(hk:k=4\/k=5\/k=20){n:Nat}{p:Pf}(hp:Made n p):Made (n+2) (.mk k 0 (.mk 0 []) [] [] [p]):=by
 have h:=hp.full;refine .mk' (nd:=⟨0,0,1,false,false⟩) ?_ rfl rfl rfl (by omega) (.inr rfl) rfl (fun h=>by omega) Zaq Zaq (v8 ⟨_,hp⟩) (by rw[vp,Zay];grind);rcases hk with rfl|rfl|rfl<;>rfl
theorem Made.imp{f:Fm}(hf:FmI f){n:Nat}{p:Pf}(hp:Made n p):Made (n+300002) (.mk 6 0 (.mk 0 []) [] [f] [p]):=by
 have h:=hp.full;have h':=hf.2.2;exact .mk' (nd:=⟨0,1,1,false,false⟩) rfl rfl rfl rfl (by omega) (.inr rfl) rfl (fun h=>by omega) Zaq (v8 hf) (v8 ⟨_,hp⟩) (by rw[vp,Zay];grind)
theorem Made.all{k:Int}(hk:k=8\/k=12){s:Ty}(hs:s.err=0){n:Nat}{p:Pf}(hp:Made n p):Made (n+65) (.mk k 0 s [] [] [p]):=by
 have h:=hp.full;have h':=Zfi hs;refine .mk' (nd:=⟨0,0,1,false,true⟩) ?_ rfl rfl rfl (by omega) (.inr rfl) (Zzk hs) (fun h=>by omega) Zaq Zaq (v8 ⟨_,hp⟩) (by rw[vp];grind);rcases hk with rfl|rfl<;>rfl
theorem Made.at_{k:Int}(hk:k=9\/k=13){t:Tm}(ht:TmI t){n:Nat}{p:Pf}(hp:Made n p):Made (n+300002) (.mk k 0 (.mk 0 []) [t] [] [p]):=by
 have h:=hp.full;have h':=ht.2.2;refine .mk' (nd:=⟨1,0,1,false,false⟩) ?_ rfl rfl rfl (by omega) (.inr rfl) rfl (fun h=>by omega) (v8 ht) Zaq (v8 ⟨_,hp⟩) (by rw[vp,Zay];grind);rcases hk with rfl|rfl<;>rfl
theorem Made.ex{k:Int}(hk:k=10\/k=14){f:Fm}{t:Tm}(hf:FmI f)(ht:TmI t){n:Nat}{p:Pf}(hp:Made n p):Made (n+600002) (.mk k 0 (.mk 0 []) [t] [f] [p]):=by
 have h:=hp.full;have h':=ht.2.2;have h2:=hf.2.2;refine .mk' (nd:=⟨1,1,1,false,false⟩) ?_ rfl rfl rfl (by omega) (.inr rfl) rfl (fun h=>by omega) (v8 ht) (v8 hf) (v8 ⟨_,hp⟩) (by rw[vp,Zay];grind);rcases hk with rfl|rfl<;>rfl
theorem Made.ind{k:Int}(hk:k=16\/k=17){f:Fm}{t:Tm}(hf:FmI f)(ht:TmI t){n m:Nat}{p q:Pf}(hp:Made n p)(hq:Made m q):Made (n+m+600002) (.mk k 0 (.mk 0 []) [t] [f] [p,q]):=by
 have h:=hp.full;have h1:=hq.full;have h':=ht.2.2;have h2:=hf.2.2;refine .mk' (nd:=⟨1,1,2,false,false⟩) ?_ rfl rfl rfl (by omega) (.inr rfl) rfl (fun h=>by omega) (v8 ht) (v8 hf) (Zew ⟨_,hp⟩ ⟨_,hq⟩) (by rw[vp,Zay];grind);rcases hk with rfl|rfl<;>rfl
theorem Made.sub{f:Fm}(hf:FmI f){n m:Nat}{p q:Pf}(hp:Made n p)(hq:Made m q):Made (n+m+300002) (.mk 19 0 (.mk 0 []) [] [f] [p,q]):=by
 have h:=hp.full;have h1:=hq.full;have h2:=hf.2.2;exact .mk' (nd:=⟨0,1,2,false,false⟩) rfl rfl rfl rfl (by omega) (.inr rfl) rfl (fun h=>by omega) Zaq (v8 hf) (Zew ⟨_,hp⟩ ⟨_,hq⟩) (by rw[vp,Zay];grind)
mutual
def Pf.pt(a:Int)(s:Tm)(v:Int):Pf->Pf
 | .mk k i h ts fs zs=> .mk k i h (ts.map fun t=>t.re (xy (a+v) s) 0) (fs.map fun f=>f.put (a+(v+fvK k)) s) (Pf.pts a s v (vaK k) zs)
def Pf.pts(a:Int)(s:Tm)(v w:Int):List Pf->List Pf
 |[]=>[]
 |p::l=>Pf.pt a s (if l.length=0 then v+w else v) p::Pf.pts a s v w l
end
mutual
def Pf.ph(a:Int)(q:Pf)(v y:Int):Pf->Pf
 | .mk k i h ts fs zs=>if k=1 then(if i-y=a then q.uph v (a+y) else if i-y>a then va (i-1) else va i) else .mk k i h ts fs (Pf.phs a q v y (vaK k) (hyK k) zs)
def Pf.phs(a:Int)(q:Pf)(v y w z:Int):List Pf->List Pf
 |[]=>[]
 |p::l=>Pf.ph a q (if l.length=0 then v+w else v) (if l.length=0 then y+z else y) p::Pf.phs a q v y w z l
end
theorem Pf.pt_eq(a:Int)(s:Tm)(v:Int)(p:Pf):p.pt a s v= .mk p.kind p.index p.ty (p.terms.map fun t=>t.re (xy (a+v) s) 0) (p.forms.map fun f=>f.put (a+(v+fvK p.kind)) s) (Pf.pts a s v (vaK p.kind) p.args):=by cases p;rfl
theorem Pf.ph_eq(a:Int)(q:Pf)(v y:Int)(p:Pf):Pf.ph a q v y p=if p.kind=1 then(if p.index-y=a then q.uph v (a+y) else if p.index-y>a then va (p.index-1) else va p.index) else .mk p.kind p.index p.ty p.terms p.forms (Pf.phs a q v y (vaK p.kind) (hyK p.kind) p.args):=by cases p;rfl
theorem Zmv(a:Int)(s:Tm)(v w:Int):∀l:List Pf,(Pf.pts a s v w l).length=l.length
 |[]=>by rfl
 |p::l=>by simp only[Pf.pts,List.length_cons,Zmv a s v w l]
theorem Zhp(a:Int)(q:Pf)(v y w z:Int):∀l:List Pf,(Pf.phs a q v y w z l).length=l.length
 |[]=>by rfl
 |p::l=>by simp only[Pf.phs,List.length_cons,Zhp a q v y w z l]
theorem Zlt(a:Int)(s:Tm)(v w:Int):∀(l:List Pf) (m:Nat) (h:m<l.length) (h':m<(Pf.pts a s v w l).length),(Pf.pts a s v w l)[m]=l[m].pt a s (if m+1=l.length then v+w else v)
 |p::l,0,h,h'=>by
  simp only[Pf.pts,List.getElem_cons_zero,List.length_cons];simp
 |p::l,m+1,h,h'=>by
  simp only[Pf.pts,List.getElem_cons_succ,List.length_cons,Nat.add_right_cancel_iff];exact Zlt a s v w l m (by grind) _
theorem Zqt(a:Int)(q:Pf)(v y w z:Int):∀(l:List Pf) (m:Nat) (h:m<l.length) (h':m<(Pf.phs a q v y w z l).length),(Pf.phs a q v y w z l)[m]=Pf.ph a q (if m+1=l.length then v+w else v) (if m+1=l.length then y+z else y) l[m]
 |p::l,0,h,h'=>by
  simp only[Pf.phs,List.getElem_cons_zero,List.length_cons];simp
 |p::l,m+1,h,h'=>by
  simp only[Pf.phs,List.getElem_cons_succ,List.length_cons,Nat.add_right_cancel_iff];exact Zqt a q v y w z l m (by grind) _
theorem Ybf{a:Int}{q:Pf}{v y w z:Int}{l:List Pf}{m:Nat}(h:m<l.length):(Pf.phs a q v y w z l).take m++[Pf.ph a q (if m+1=l.length then v+w else v) (if m+1=l.length then y+z else y) l[m]]=(Pf.phs a q v y w z l).take (m+1):=by
 rw[<-Zqt a q v y w z l m h (by rw[Zhp];exact h),List.take_append_getElem]
theorem Yh7{a:Int}{q:Pf}{v y w z:Int}{l:List Pf}:(Pf.phs a q v y w z l).take l.length=Pf.phs a q v y w z l:=by rw[<-Zhp a q v y w z l,List.take_length]
section
variable {α:Type}
mutual
def Pf.tfl(g:Int->Tm->α)(h:Int->Fm->α)(v:Int):Pf->List α
 | .mk k _ _ ts fs zs=>ts.map (g v)++fs.map (h (v+fvK k))++(Pf.tfls g h v (vaK k) zs).flatten
def Pf.tfls(g:Int->Tm->α)(h:Int->Fm->α)(v w:Int):List Pf->List (List α)
 |[]=>[]
 |p::l=>Pf.tfl g h (if l.length=0 then v+w else v) p::Pf.tfls g h v w l
end
mutual
def Pf.lfl(f:Int->Int->Int->List α)(y:Int):Pf->List α
 | .mk k i _ _ _ zs=>f k i y++(Pf.lfls f y (hyK k) zs).flatten
def Pf.lfls(f:Int->Int->Int->List α)(y w:Int):List Pf->List (List α)
 |[]=>[]
 |p::l=>Pf.lfl f (if l.length=0 then y+w else y) p::Pf.lfls f y w l
end
variable (g:Int->Tm->α) (h:Int->Fm->α) (f:Int->Int->Int->List α)
theorem Pf.tfl_eq(v:Int)(p:Pf):p.tfl g h v=p.terms.map (g v)++p.forms.map (h (v+fvK p.kind))++(Pf.tfls g h v (vaK p.kind) p.args).flatten:=by cases p;rfl
theorem Pf.lfl_eq(y:Int)(p:Pf):p.lfl f y=f p.kind p.index y++(Pf.lfls f y (hyK p.kind) p.args).flatten:=by cases p;rfl
theorem Zc9(v w:Int):∀l:List Pf,(Pf.tfls g h v w l).length=l.length
 |[]=>by rfl
 |p::l=>by simp only[Pf.tfls,List.length_cons,Zc9 v w l]
theorem ux(y w:Int):∀l:List Pf,(Pf.lfls f y w l).length=l.length
 |[]=>by rfl
 |p::l=>by simp only[Pf.lfls,List.length_cons,ux y w l]
theorem Zed(v w:Int):∀(l:List Pf) (m:Nat) (hm:m<l.length) (h':m<(Pf.tfls g h v w l).length),(Pf.tfls g h v w l)[m]=l[m].tfl g h (if m+1=l.length then v+w else v)
 |p::l,0,hm,h'=>by
  simp only[Pf.tfls,List.getElem_cons_zero,List.length_cons];simp
 |p::l,m+1,hm,h'=>by
  simp only[Pf.tfls,List.getElem_cons_succ,List.length_cons,Nat.add_right_cancel_iff];exact Zed v w l m (by grind) _
theorem Zai(y w:Int):∀(l:List Pf) (m:Nat) (hm:m<l.length) (h':m<(Pf.lfls f y w l).length),(Pf.lfls f y w l)[m]=l[m].lfl f (if m+1=l.length then y+w else y)
 |p::l,0,hm,h'=>by
  simp only[Pf.lfls,List.getElem_cons_zero,List.length_cons];simp
 |p::l,m+1,hm,h'=>by
  simp only[Pf.lfls,List.getElem_cons_succ,List.length_cons,Nat.add_right_cancel_iff];exact Zai y w l m (by grind) _
theorem Zf9{v w:Int}{l:List Pf}{m:Nat}(hm:m<l.length):((Pf.tfls g h v w l).take m).flatten++l[m].tfl g h (if m+1=l.length then v+w else v)=((Pf.tfls g h v w l).take (m+1)).flatten:=by
 rw[<-Zed g h v w l m hm (by rw[Zc9];exact hm)];exact Zpz _
theorem Zcm{y w:Int}{l:List Pf}{m:Nat}(hm:m<l.length):((Pf.lfls f y w l).take m).flatten++l[m].lfl f (if m+1=l.length then y+w else y)=((Pf.lfls f y w l).take (m+1)).flatten:=by
 rw[<-Zai f y w l m hm (by rw[ux];exact hm)];exact Zpz _
theorem Zh9{v w:Int}{l:List Pf}:(Pf.tfls g h v w l).take l.length=Pf.tfls g h v w l:=by rw[<-Zc9 g h v w l,List.take_length]
theorem Zeg{y w:Int}{l:List Pf}:(Pf.lfls f y w l).take l.length=Pf.lfls f y w l:=by rw[<-ux f y w l,List.take_length]
end
theorem Zsp{β:Type}(X:List β)(LL:List (List β))(m:Nat)(hm:m<LL.length):X++(LL.take m).flatten++LL[m]<+:X++LL.flatten:=by
 refine⟨(LL.drop (m+1)).flatten,?_⟩;have h0:(LL.take m++[LL[m]])++LL.drop (m+1)=LL:=by simp
 grind
def GrOk(l:List (Int×Int)):Prop:=(∀q∈l,(0<=q.1/\q.1<=4096)/\0<=q.2/\q.2<=4096)/\l.length<=1000000000
theorem GrOk.pre{l l':List (Int×Int)}(h:l<+:l')(ho:GrOk l'):GrOk l:=⟨fun q hq=>ho.1 q (h.subset hq),Nat.le_trans h.length_le ho.2⟩
def grN(n k:Int)(l:List (Int×Int)):Int:=n+(l.map fun q=>q.2*(k-1)).sum
def grB(k:Int)(l:List (Int×Int)):Bool:=l.any fun q=>decide (q.1+q.2*(k-1)>4096)
def grG(a:Int)(v:Int)(t:Tm):Int×Int:=((t.size:Int),(cnt (a+v) (t.vars 0):Int))
def grH(a:Int)(v:Int)(f:Fm):Int×Int:=((f.size:Int),(u5 (a+v) (f.tms 0):Int))
theorem uj{p:Pf}(h:p.small=true):(∀t∈p.terms,t.size<=4096)/\(∀f∈p.forms,f.size<=4096)/\∀x∈p.args,x.small=true:=by
 rw[Pf.small_eq] at h
 grind
def nhF(k i _y:Int):List Bool:=if k=1 then [decide (i<=536870912)] else []
def Zb8(a k i y:Int):List Int:=if k=1/\i-y=a then [i] else []
def hyF(k i y:Int):List Int:=if k=1/\i>=y then [i-y] else []
theorem Yai(a:Int)(p:Pf):∀y,(p.lfl (Zb8 a) y).length<=p.full:=by
 induction p using Pf.ind with
 |h p ih=>
  intro y;rw[Pf.lfl_eq,Pf.full_eq,List.length_append];have key:∀(l:List Pf) (w:Int),(∀x∈l,x∈p.args)->(Pf.lfls (Zb8 a) y w l).flatten.length<=(l.map Pf.full).sum:=by
   intro l w;induction l with
   |nil=>intro _;simp[Pf.lfls]
   |cons x l ihl=>
    intro hx;simp only[Pf.lfls,List.flatten_cons,List.length_append,List.map_cons,List.sum_cons]
    grind
  have h1:=key p.args (hyK p.kind) fun _ h=>h;have h2:(Zb8 a p.kind p.index y).length<=1:=by unfold Zb8;grind
  omega
def Pf.nearP(p:Pf):Bool:=(p.tfl (fun(_:Int) (t:Tm)=>t.near) (fun(_:Int) (f:Fm)=>f.near) 0).all id
def Pf.nearH(p:Pf):Bool:=(p.lfl nhF 0).all id
theorem Zts(p:Pf):p.shape=true->∀y,(p.lfl nhF y).all id=true->p.hx 549755813888:=by
 induction p using Pf.ind with
 |h p ih=>
  intro hs y h;obtain⟨hh,_,_,s6⟩:=zo hs;obtain⟨nd,_,_,_,_,hi,_⟩:=Zi7 hh;rw[Pf.lfl_eq,List.all_append,Bool.and_eq_true] at h;obtain⟨h1,h3⟩:=h;rw[List.all_eq_true] at h3;refine(Pf.hx_iff _ p).2 ⟨fun hk=>⟨hi,?_⟩,fun _ x hx=> ?_⟩
  ·simp[nhF,hk] at h1;omega
  ·obtain ⟨m,hm2,rfl⟩:=List.getElem_of_mem hx;refine ih _ hx (s6 _ hx) (if m+1=p.args.length then y+hyK p.kind else y) (List.all_eq_true.2 fun b hb=> ?_);rw[<-Zai _ y (hyK p.kind) p.args m hm2 (by rw[ux];omega)] at hb;exact h3 b (List.mem_flatten.2 ⟨_,List.getElem_mem _,hb⟩)
theorem Zh2(p:Pf):p.ix 10000->∀v,(p.tfl (fun(_:Int) (t:Tm)=>t.near) (fun(_:Int) (f:Fm)=>f.near) v).all id=true:=by
 induction p using Pf.ind with
 |h p ih=>
  intro hix v;obtain⟨i1,i2,i3⟩:=(Pf.ix_iff _ p).1 hix;rw[Pf.tfl_eq,List.all_append,List.all_append,Bool.and_eq_true,Bool.and_eq_true];refine⟨⟨List.all_eq_true.2 fun b hb=> ?_,List.all_eq_true.2 fun b hb=> ?_⟩,List.all_eq_true.2 fun b hb=> ?_⟩
  ·obtain ⟨t,ht,rfl⟩:=List.mem_map.1 hb;exact List.all_eq_true.2 fun q hq=>by grind
  ·obtain ⟨f,hf,rfl⟩:=List.mem_map.1 hb;exact Zsi (C:=10000) (by omega) fun q hq r hr=>by grind
  ·obtain ⟨l,hl,hb⟩:=List.mem_flatten.1 hb;obtain⟨m,hm,rfl⟩:=List.getElem_of_mem hl;rw[Zc9] at hm;rw[Zed _ _ _ _ _ _ hm] at hb
   grind
theorem Zgf(p:Pf):p.nd->p.hx 10000->∀y,(p.lfl nhF y).all id=true:=by
 induction p using Pf.ind with
 |h p ih=>
  intro hs hh y;obtain⟨i1,i2⟩:=(Pf.hx_iff _ p).1 hh;obtain⟨⟨nd0,a1,a2⟩,a3⟩:=(Pf.nd_iff p).1 hs;rw[Pf.lfl_eq,List.all_append,Bool.and_eq_true];refine⟨List.all_eq_true.2 fun b hb=> ?_,List.all_eq_true.2 fun b hb=> ?_⟩
  ·unfold nhF at hb
   grind
  ·obtain ⟨l,hl,hb⟩:=List.mem_flatten.1 hb;obtain⟨m,hm,rfl⟩:=List.getElem_of_mem hl;rw[ux] at hm;rw[Zai _ _ _ _ _ hm] at hb;have hk:p.kind≠1:=fun e=>by
    rw[e] at a1;simp[ndP] at a1
    grind
   grind
theorem Zad{p:Pf}{C C':Int}(h:p.ix C)(hc:C<=C'):p.ix C':=by
 induction p using Pf.ind with
 |h p ih=>
  obtain⟨i1,i2,i3⟩:=(Pf.ix_iff _ p).1 h;exact(Pf.ix_iff _ p).2 ⟨fun t ht q hq=>by grind,fun f hf q hq r hr=>by grind,fun x hx=>ih x hx (i3 x hx)⟩
theorem Zaz{p:Pf}{C C':Int}(h:p.hx C)(hc:C<=C'):p.hx C':=by
 induction p using Pf.ind with
 |h p ih=>
  obtain⟨i1,i2⟩:=(Pf.hx_iff _ p).1 h;exact(Pf.hx_iff _ p).2 ⟨fun hk=>by omega,fun hk x hx=>ih x hx (i2 hk x hx)⟩
def Zuk(p:Pf)(a:Int)(s:Tm):List (Int×Int):=p.tfl (grG a) (grH a) 0
def Zdo(p:Pf)(a:Int)(s:Tm):Int:=
 if p.err≠0 then p.err else if ¬(0<=a/\a<=4096) then 1 else if s.err≠0 then s.err else if p.nearP=false\/s.near=false then 1
 else if grB s.size (Zuk p a s)=true\/grN p.size s.size (Zuk p a s)>16384 then 4 else 0
def Znh(p:Pf)(a:Int):Int:=(p.lfl (Zb8 a) 0).length
def Za1(p:Pf)(a:Int)(q:Pf):Int:=
 if p.err≠0 then p.err else if ¬(0<=a/\a<=16384) then 1 else if q.err≠0 then q.err else if p.nearH=false\/q.nearH=false\/q.nearP=false then 1
 else if(p.size:Int)+Znh p a*(q.size-1)>16384 then 4 else 0
section
variable {p q:Pf} {fr by_ a:Int} {s:Tm}
theorem Yf3(h:p.err≠0):Zdo p a s=p.err:=by unfold Zdo;omega
theorem Yg3(h:p.err=0)(ha:¬(0<=a/\a<=4096)):Zdo p a s=1:=by unfold Zdo;omega
theorem Yf1(h:p.err=0)(ha:0<=a/\a<=4096)(hs:s.err≠0):Zdo p a s=s.err:=by unfold Zdo;omega
theorem Yho(h:p.err=0)(ha:0<=a/\a<=4096)(hs:s.err=0)(hn:p.nearP=false\/s.near=false):Zdo p a s=1:=by unfold Zdo;grind
theorem Yil(h:p.err=0)(ha:0<=a/\a<=4096)(hs:s.err=0)(hn:¬(p.nearP=false\/s.near=false)):Zdo p a s=if grB s.size (Zuk p a s)=true\/grN p.size s.size (Zuk p a s)>16384 then 4 else 0:=by
 unfold Zdo;grind
theorem Yaw(h:p.err≠0):Za1 p a q=p.err:=by unfold Za1;omega
theorem Zxy(h:p.err=0)(ha:¬(0<=a/\a<=16384)):Za1 p a q=1:=by unfold Za1;omega
theorem Zyl(h:p.err=0)(ha:0<=a/\a<=16384)(hs:q.err≠0):Za1 p a q=q.err:=by unfold Za1;omega
theorem Yas(h:p.err=0)(ha:0<=a/\a<=16384)(hs:q.err=0)(hn:p.nearH=false\/q.nearH=false\/q.nearP=false):Za1 p a q=1:=by unfold Za1;grind
theorem Zll(h:p.err=0)(ha:0<=a/\a<=16384)(hs:q.err=0)(hn:¬(p.nearH=false\/q.nearH=false\/q.nearP=false)):Za1 p a q=if(p.size:Int)+Znh p a*(q.size-1)>16384 then 4 else 0:=by
 unfold Za1;grind
end
def lmF(k i _y:Int):List Int:=if k=2 then [i] else []
theorem Zpl(y w:Int):∀l:List Pf,(∀p∈l,∀y,p.hyl y=p.lfl hyF y)->Pf.hyls y w l=Pf.lfls hyF y w l
 |[],_=>by rfl
 |p::l,h=>by
  simp only[Pf.hyls,Pf.lfls];rw[h p (by simp),Zpl y w l fun q hq=>h q (by grind)]
theorem Zyu(p:Pf):∀y,p.hyl y=p.lfl hyF y:=by
 induction p using Pf.ind with
 |h p ih=>
  intro y;rw[Pf.hyl_eq,Pf.lfl_eq,Zpl _ _ _ ih]
  rfl
theorem Zto(p:Pf):p.hyl 0=p.lfl hyF 0:=Zyu p 0
theorem Zst{f:Int->Int->Int->List Int}(hf:∀k i y,(f k i y).length<=1)(p:Pf):∀y,(p.lfl f y).length<=p.full:=by
 induction p using Pf.ind with
 |h p ih=>
  intro y;rw[Pf.lfl_eq,Pf.full_eq,List.length_append];have key:∀(l:List Pf) (w:Int),(∀x∈l,x∈p.args)->(Pf.lfls f y w l).flatten.length<=(l.map Pf.full).sum:=by
   intro l w;induction l with
   |nil=>intro _;simp[Pf.lfls]
   |cons x l ihl=>
    intro hx;simp only[Pf.lfls,List.flatten_cons,List.length_append,List.map_cons,List.sum_cons]
    grind
  grind
theorem Yj2{x:Int}(h:0<=x/\x<9223372036854775808):(Lit.int .i64 x).wf=true:=by
 have h4:IntKind.i64.min<=x/\x<=IntKind.i64.max:=by
  rw[show IntKind.i64.min= -9223372036854775808 by rfl,show IntKind.i64.max=9223372036854775807 by rfl];omega
 simpa[Lit.wf] using h4
theorem Yei(C:Int)(p:Pf):p.hx C->p.nd->∀y,0<=y->∀x∈p.lfl hyF y,0<=x/\x<C:=by
 induction p using Pf.ind with
 |h p ih=>
  intro hh hs y hy x hx;obtain⟨i1,i2⟩:=(Pf.hx_iff _ p).1 hh;obtain⟨⟨nd0,a1,a2⟩,a3⟩:=(Pf.nd_iff p).1 hs;rw[Pf.lfl_eq,List.mem_append] at hx;rcases hx with hx|hx
  ·unfold hyF at hx
   grind
  ·obtain ⟨l,hl,hx⟩:=List.mem_flatten.1 hx;obtain⟨m,hm,rfl⟩:=List.getElem_of_mem hl;rw[ux] at hm;rw[Zai _ _ _ _ _ hm] at hx;have hk:p.kind≠1:=fun e=>by
    rw[e] at a1;simp[ndP] at a1
    grind
   have b2:0<=hyK p.kind:=by unfold hyK;omega
   grind
theorem Yjh(p:Pf)(hs:p.shape=true)(hf:p.full<=100000000000)(hx:p.hx 9223372036854775808):(∀x∈nub [] (p.lfl hyF 0),(Lit.int .i64 x).wf=true)/\(nub [] (p.lfl hyF 0)).length<549755813888:=by
 refine⟨fun x h=>Yj2 ?_,?_⟩
 ·rcases mem_nub.1 h with h|h
  ·cases h
  ·exact Yei _ p hx (Zhd p hs) 0 (by omega) x h
 ·have h1:=Zd1 (p.lfl hyF 0) [];have h2:=Zst (f:=hyF) (fun k i y=>by unfold hyF;grind) p 0
  grind
theorem Zsu{n:Int}(h: -9223372036854775808<=n/\n<9223372036854775808):w64 n=n:=by
 show IntKind.i64.wrap n=n;rw[IntKind.wrap_i64];omega
theorem Zrl(t:Tm):∀b:Int,∀p∈t.vars b,p.2<=b+t.size:=by
 induction t using Tm.ind with
 |h t ih=>
  intro b p hp;have hz:=t.size_eq;rw[Tm.vars_eq] at hp;rcases List.mem_append.1 hp with hp|hp
  ·grind
  ·obtain ⟨x,hx,hp⟩:=List.mem_flatMap.1 hp;have h1:=ih x hx _ p hp;have h2:=zc Tm.size hx;have h3:up t.kind b<=b+1:=by unfold up;omega
   omega
theorem Ylp{t:Tm}{fr by_:Int}(hix:∀q∈t.vars 0,0<=q.1/\q.1<549755813888)(hz:t.size<=1000000)(hb: -1000000<=by_/\by_<=1000000):t.lw fr by_=t.re (zk fr by_) 0:=by
 refine re_congr t 0 fun q hq=> ?_;have h1:=hix q hq;have h2:=wv t 0 q hq;have h3:=Zrl t 0 q hq;simp only[Zkc,zk];rw[Zsu (by omega),Zsu (by omega)]
theorem Yli{f:Fm}{fr by_:Int}(hs:f.shape=true)(hix:∀p∈f.tms 0,∀q∈p.1.vars 0,0<=q.1/\q.1<549755813888)(hz:f.size<=1000000)(hb: -1000000<=by_/\by_<=1000000):f.lw fr by_=f.lft fr by_:=by
 refine Fm.re_congr f 0 fun p hp=> ?_;exact Ylp (hix p hp) (by have h1:=Zia f 0;have h2:=zc (fun(p:Tm×Int)=>p.1.size) hp;omega) hb
theorem Zzz(fr b v w:Int):∀l:List Pf,(∀p∈l,∀v,p.uw fr b v=p.up fr b v)->Pf.uws fr b v w l=Pf.ups fr b v w l
 |[],_=>by rfl
 |p::l,h=>by
  simp only[Pf.uws,Pf.ups];rw[h p (by simp),Zzz fr b v w l fun q hq=>h q (by grind)]
theorem Ydr{p:Pf}{fr b:Int}(hb: -1000000<=b/\b<=1000000):p.shape=true->p.small=true->p.ix 549755813888->∀v,p.uw fr b v=p.up fr b v:=by
 induction p using Pf.ind with
 |h p ih=>
  intro hs hm hix v;obtain⟨s1,s2,s3⟩:=uj hm;obtain⟨_,s4,s5,s6⟩:=zo hs;obtain⟨i1,i2,i3⟩:=(Pf.ix_iff _ p).1 hix;rw[Pf.uw_eq,Pf.up_eq,Zzz _ _ _ _ _ fun x hx v=>ih x hx (s6 x hx) (s3 x hx) (i3 x hx) v];congr 1
  ·exact List.map_congr_left fun t ht=>Ylp (i1 t ht) (by grind) hb
  ·exact List.map_congr_left fun f hf=>Yli (s5 f hf) (i2 f hf) (by grind) hb
theorem Ybr{p:Pf}{fr b:Int}(hb: -1000000<=b/\b<=1000000):p.nd->p.hx 549755813888->∀y:Int,(0<=y/\y+p.full<=1000000000000)->p.hw fr b y=p.lh fr b y:=by
 induction p using Pf.ind with
 |h p ih=>
  intro hs hh y hy;obtain⟨i1,i2⟩:=(Pf.hx_iff _ p).1 hh;obtain⟨⟨nd0,a1,a2⟩,a3⟩:=(Pf.nd_iff p).1 hs;rw[Pf.hw_eq,Pf.lh_eq];by_cases hk:p.kind=1
  ·rw[if_pos hk,if_pos hk];have:=i1 hk;rw[Zsu (by omega),Zsu (by omega)]
  ·rw[if_neg hk,if_neg hk];have hz:=p.full_eq;have b2:0<=hyK p.kind/\hyK p.kind<=1:=by unfold hyK;omega
   congr 1;have key:∀(l:List Pf),(∀x∈l,x∈p.args)->Pf.hws fr b y (hyK p.kind) l=Pf.lhs fr b y (hyK p.kind) l:=by
    intro l;induction l with
    |nil=>intro _;rfl
    |cons x l ihl=>
     intro hx;simp only[Pf.hws,Pf.lhs];have h1:=hx x (by simp);have h2:=zc Pf.full h1
     grind
   grind
theorem Ybn{p:Pf}{ts:List Tm}{fs:List Fm}{zs:List Pf}(hs:p.shape=true)(h1:ts.length=p.terms.length)(h2:fs.length=p.forms.length)(h3:zs.length=p.args.length)
 (a1:∀t∈ts,t.shape=true) (a2:∀f∈fs,f.shape=true) (a3:∀x∈zs,x.shape=true):(Pf.mk p.kind p.index p.ty ts fs zs).shape=true:=by
 obtain⟨h,_⟩:=zo hs;rw[Pf.shape_eq];simp only[Bool.and_eq_true,List.all_eq_true];refine⟨⟨⟨?_,a1⟩,a2⟩,a3⟩;obtain⟨k,i,y,t0,f0,z0⟩:=p;simp only[Pf.kind_mk,Pf.index_mk,Pf.ty_mk,Pf.terms_mk,Pf.forms_mk,Pf.args_mk] at h1 h2 h3 ⊢;unfold Pf.head at h ⊢;simp only[Pf.kind_mk,Pf.index_mk,Pf.ty_mk,Pf.terms_mk,Pf.forms_mk,Pf.args_mk] at h ⊢
 grind
theorem Zvs{i:Int}(hi:0<=i):(va i).shape=true:=((Pf.err_iff _).1 (Ztu hi)).1
theorem Zk2{p:Pf}(hs:p.shape=true)(hk:p.kind=1):p.size=1:=by
 obtain⟨hh,_⟩:=zo hs;obtain⟨nd,n1,n2,n3,n4,_⟩:=Zi7 hh;rw[hk] at n1;have e:nd=⟨0,0,0,true,false⟩:=by
  unfold ndP at n1;grind
 subst e;have e1:=List.eq_nil_of_length_eq_zero n2;have e2:=List.eq_nil_of_length_eq_zero n3;have e3:=List.eq_nil_of_length_eq_zero n4;rw[Pf.size_eq,e1,e2,e3];simp
def Pz(C:Int)(n:Nat)(p:Pf):Prop:=p.shape=true/\p.small=true/\p.size=n/\p.ix C
theorem Yhe{p:Pf}(hs:p.shape=true)(hm:p.small=true){ts:List Tm}{fs:List Fm}{zs:List Pf}{C:Int}{k:Nat}(h1:ts.map Tm.size=p.terms.map Tm.size)(h2:fs.map Fm.size=p.forms.map Fm.size)
 (a1:∀t∈ts,t.shape=true/\∀q∈t.vars 0,0<=q.1/\q.1<C) (a2:∀f∈fs,f.shape=true/\∀p∈f.tms 0,∀q∈p.1.vars 0,0<=q.1/\q.1<C) (h3:zs.length=p.args.length)
 (a3:∀x∈zs,∃m,Pz C m x) (hk:(zs.map Pf.size).sum=(p.args.map Pf.size).sum+k):Pz C (p.size+k) (Pf.mk p.kind p.index p.ty ts fs zs):=by
 obtain⟨s1,s2,s3⟩:=uj hm;have e1:ts.length=p.terms.length:=by have:=congrArg List.length h1;grind
 have e2:fs.length=p.forms.length:=by have:=congrArg List.length h2;grind
 refine⟨Ybn hs e1 e2 h3 (fun t h=>(a1 t h).1) (fun f h=>(a2 f h).1) (fun x h=>(a3 x h).choose_spec.1),?_,?_,(Pf.ix_iff _ _).2 ⟨fun t h=>(a1 t h).2,fun f h=>(a2 f h).2,fun x h=>(a3 x h).choose_spec.2.2.2⟩⟩
 ·rw[Pf.small_eq];simp only[Bool.and_eq_true,List.all_eq_true,decide_eq_true_eq,Pf.terms_mk,Pf.forms_mk,Pf.args_mk];refine⟨⟨fun t h=> ?_,fun f h=> ?_⟩,fun x h=>(a3 x h).choose_spec.2.1⟩
  ·have:t.size∈p.terms.map Tm.size:=h1▸List.mem_map.2 ⟨t,h,rfl⟩
   grind
  ·have:f.size∈p.forms.map Fm.size:=h2▸List.mem_map.2 ⟨f,h,rfl⟩
   grind
 ·rw[Pf.size_eq,p.size_eq];simp only[Pf.terms_mk,Pf.forms_mk,Pf.args_mk,h1,h2,hk];omega
theorem Yaj{p:Pf}{fr n C:Int}(hn:0<=n):p.shape=true->p.small=true->p.ix C->∀v,Pz (C+n) p.size (p.up fr n v):=by
 induction p using Pf.ind with
 |h p ih=>
  intro hs hm hix v;obtain⟨s1,s2,s3⟩:=uj hm;obtain⟨_,s4,s5,s6⟩:=zo hs;obtain⟨i1,i2,i3⟩:=(Pf.ix_iff _ p).1 hix;rw[Pf.up_eq];have key:∀(l:List Pf),(∀x∈l,x∈p.args)->(∀x∈Pf.ups fr n v (vaK p.kind) l,∃m,Pz (C+n) m x)/\((Pf.ups fr n v (vaK p.kind) l).map Pf.size).sum=(l.map Pf.size).sum:=by
   intro l;induction l with
   |nil=>intro _;simp[Pf.ups]
   |cons x l ihl=>
    intro hx;have h0:=hx x (by simp);obtain⟨a1,a2⟩:=ihl fun z hz=>hx z (by grind);have h1:=ih x h0 (s6 x h0) (s3 x h0) (i3 x h0);simp only[Pf.ups,List.mem_cons,List.map_cons,List.sum_cons];refine⟨fun z hz=> ?_,?_⟩
    ·grind
    ·rw[a2,(h1 _).2.2.1]
  obtain⟨k1,k2⟩:=key p.args fun _ h=>h;exact Yhe (k:=0) hs hm
   (by rw[List.map_map];exact List.map_congr_left fun t ht=>Zbk (fr+v) n t 0 (s4 t ht))
   (by rw[List.map_map];exact List.map_congr_left fun f hf=>(vf (s5 f hf) (fr:=fr+(v+fvK p.kind)) hn).2.1)
   (fun y hy=>by
    obtain⟨t,ht,rfl⟩:=List.mem_map.1 hy;have h1:=x6 (fr:=fr+v) 0 (s4 t ht) hn;exact⟨h1,fun q hq=>⟨Tm.vars_nonneg _ h1 0 q hq,by have:=Zmu (C:=C-1) (s4 t ht) hn (fun r hr=>by grind) q hq;omega⟩⟩)
   (fun y hy=>by
    obtain⟨f,hf,rfl⟩:=List.mem_map.1 hy;exact⟨(vf (s5 f hf) hn).1,fun q hq r hr=>by have:=Ygo (s5 f hf) (C:=C-1) hn (fun q hq r hr=>by grind) q hq r hr;omega⟩)
   (Zha _ _ _ _ _) k1 (by omega)
theorem Zqq(C:Int){i:Int}(hi:0<=i):Pz C 1 (va i):=⟨Zvs hi,by rfl,Znp i,Yk7 C i⟩
theorem Zzo{p:Pf}{f b C:Int}(hb:0<=b):p.shape=true->p.small=true->p.ix C->∀y,Pz C p.size (p.lh f b y):=by
 induction p using Pf.ind with
 |h p ih=>
  intro hs hm hix y;obtain⟨s1,s2,s3⟩:=uj hm;obtain⟨hh,s4,s5,s6⟩:=zo hs;obtain⟨i1,i2,i3⟩:=(Pf.ix_iff _ p).1 hix;rw[Pf.lh_eq];by_cases hk:p.kind=1
  ·rw[if_pos hk];obtain⟨_,_,_,_,_,hi,_⟩:=Zi7 hh;have hz:p.size=1:=Zk2 hs hk;rw[hz];exact Zqq C (by omega)
  ·rw[if_neg hk];have key:∀(l:List Pf),(∀x∈l,x∈p.args)->(∀x∈Pf.lhs f b y (hyK p.kind) l,∃m,Pz C m x)/\((Pf.lhs f b y (hyK p.kind) l).map Pf.size).sum=(l.map Pf.size).sum:=by
    intro l;induction l with
    |nil=>intro _;simp[Pf.lhs]
    |cons x l ihl=>
     intro hx;have h0:=hx x (by simp);obtain⟨a1,a2⟩:=ihl fun z hz=>hx z (by grind);have h1:=ih x h0 (s6 x h0) (s3 x h0) (i3 x h0);simp only[Pf.lhs,List.mem_cons,List.map_cons,List.sum_cons];refine⟨fun z hz=> ?_,?_⟩
     ·grind
     ·rw[a2,(h1 _).2.2.1]
   obtain⟨k1,k2⟩:=key p.args fun _ h=>h;exact Yhe (k:=0) hs hm rfl rfl (fun t ht=>⟨s4 t ht,i1 t ht⟩) (fun f hf=>⟨s5 f hf,i2 f hf⟩) (Zd5 _ _ _ _ _) k1 (by omega)
theorem Pz.err{C:Int}{n:Nat}{p:Pf}(h:Pz C n p)(hn:n<=16384):p.err=0:=(Pf.err_iff p).2 ⟨h.1,h.2.1,by rw[h.2.2.1];exact hn⟩
theorem Pz.near{C:Int}{n:Nat}{p:Pf}(h:Pz C n p)(hC:C<=1000000):p.nearP=true:=by
 have key:∀(p:Pf),p.ix C->∀v,(p.tfl (fun(_:Int) (t:Tm)=>t.near) (fun(_:Int) (f:Fm)=>f.near) v).all id=true:=by
  intro p;induction p using Pf.ind with
  |h p ih=>
   intro hix v;obtain⟨i1,i2,i3⟩:=(Pf.ix_iff _ p).1 hix;rw[Pf.tfl_eq,List.all_append,List.all_append,Bool.and_eq_true,Bool.and_eq_true];refine⟨⟨List.all_eq_true.2 fun b hb=> ?_,List.all_eq_true.2 fun b hb=> ?_⟩,List.all_eq_true.2 fun b hb=> ?_⟩
   ·obtain ⟨t,ht,rfl⟩:=List.mem_map.1 hb;exact List.all_eq_true.2 fun q hq=>by grind
   ·obtain ⟨f,hf,rfl⟩:=List.mem_map.1 hb;exact Zsi hC fun q hq r hr=>by grind
   ·obtain ⟨l,hl,hb⟩:=List.mem_flatten.1 hb;obtain⟨m,hm,rfl⟩:=List.getElem_of_mem hl;rw[Zc9] at hm;rw[Zed _ _ _ _ _ _ hm] at hb
    grind
 exact key p h.2.2.2 0
theorem Ybm(C fr n:Int)(p:Pf):p.hx C->∀v,(p.up fr n v).hx C:=by
 induction p using Pf.ind with
 |h p ih=>
  intro h v;obtain⟨h1,h2⟩:=(Pf.hx_iff C p).1 h;rw[Pf.up_eq,Pf.hx_iff];simp only[Pf.kind_mk,Pf.index_mk,Pf.args_mk];refine⟨h1,fun hk x hx=> ?_⟩;obtain⟨m,hm,rfl⟩:=List.getElem_of_mem hx;rw[Zha] at hm;rw[Zre _ _ _ _ _ _ hm]
  grind
theorem Made.err{n:Nat}{p:Pf}(h:Made n p):p.err=0\/p.err=4:=by
 unfold Pf.err;rw[h.shape];grind
structure ComOk (p r:Pf) (t:Tm) (x y a a' s b:Pf) (e f g h i j:Int):Prop where
 res:(g=4\/j=4)\/(e=0/\f=0/\g=0/\h=0/\i=0/\j=0/\y=p/\a'=b)
 fx:x.full<=200000000
 fa:a.full<=200000000
 fs:s.full<=200000000
 fy:y.full<=200000000
 fa':a'.full<=200000000
 fb:b.full<=200000000
def Yhv(p:Pf)(a:Int)(s:Tm):Pf:=if Zdo p a s=0 then p.pt a s 0 else Zvu
def Zcp(p:Pf)(a:Int)(q:Pf):Pf:=if Za1 p a q=0 then Pf.ph a q 0 0 p else Zvu
theorem vh{p:Pf}(h:p.err=0):p.full<=1064960:=by
 have h1:=(Pf.err_iff p).1 h;have:=Zel p h1.1;omega
end Go.Ab
namespace Go.Ab
set_option linter.all false
set_option maxRecDepth 10000
def Yms:Rsl:= .mk 0 [] [] noTm []
def envS(cs:List Tm)(j:Int):Tm:=if j.toNat<cs.length then cs.getD (cs.length-1-j.toNat) zT else zT
def nilT:Tm:= .mk 7 0 (.mk 0 []) []
def Yl4(x l:Tm):Tm:= .mk 8 0 (.mk 0 []) [x,l]
def lstT:List Int->Tm
 |[]=>nilT
 |x::l=>Yl4 (Zb1 x.toNat) (lstT l)
def uniT:Tm:= .mk 13 0 (.mk 0 []) []
def prT(a b:Tm):Tm:= .mk 10 0 (.mk 0 []) [a,b]
inductive Rep (C:Nat):Int->Ty->Rsl->Tm->Prop
 |nat {E T n l p b e} (hT:T=natT) (h:0<=n/\n<=E):Rep C E T (.mk n l p b e) (Zb1 n.toNat)
 |list {E T n l p b e} (hT:T=listT) (h:∀x∈l,0<=x/\x<=E) (hl:(l.length:Int)<=E):Rep C E T (.mk n l p b e) (lstT l)
 |unit {E T r} (hT:T=Zml):Rep C E T r uniT
 |pair {E T a b n l ra rb bd e ca cb} (hT:T=Zdm a b) (ha:Rep C E a ra ca) (hb:Rep C E b rb cb):Rep C E T (.mk n l [ra,rb] bd e) (prT ca cb)
 |fn {E T gs env cs a c b n l p} (hT:T=xj a c) (h1:env.length=gs.length) (h2:cs.length=gs.length)
  (h:∀i,i<gs.length->Rep C E (gs.getD i noTy) (env.getD i Yms) (cs.getD i zT)) (hi:b.inf (gs++[a])=(c,0)) (hs:b.shape=true) (hh:a.ok=true) (hC:gs.length+b.size+1<=C):
  Rep C E T (.mk n l p b env) (.mk 2 0 a [b.re (wg (envS cs)) 1])
theorem Rep.mono{C:Nat}{E E':Int}{T:Ty}{r:Rsl}{c:Tm}(h:Rep C E T r c)(he:E<=E'):Rep C E' T r c:=by
 induction h with
 |nat hT h=>exact .nat hT ⟨h.1,by omega⟩
 |list hT h hl=>exact .list hT (fun x hx=>⟨(h x hx).1,by have:=(h x hx).2;omega⟩) (by omega)
 |unit hT=>exact .unit hT
 |pair hT _ _ iha ihb=>exact .pair hT iha ihb
 |fn hT h1 h2 _ hi hs hh hC ih=>exact .fn hT h1 h2 (fun i h=>ih i h) hi hs hh hC
structure EnvOk (C:Nat) (E:Int) (gs:List Ty) (env:List Rsl) (cs:List Tm):Prop where
 l1:env.length=gs.length
 l2:cs.length=gs.length
 h:∀i,i<gs.length->Rep C E (gs.getD i noTy) (env.getD i Yms) (cs.getD i zT)
theorem EnvOk.mono{C:Nat}{E E':Int}{gs env cs}(h:EnvOk C E gs env cs)(he:E<=E'):EnvOk C E' gs env cs:=⟨h.l1,h.l2,fun i hi=>(h.h i hi).mono he⟩
theorem Zqi{α:Type}(l:List α)(x d:α):(l++[x]).getD l.length d=x:=by simp[List.getD]
theorem Zrp{α:Type}(l:List α)(x d:α)(i:Nat)(h:i<l.length):(l++[x]).getD i d=l.getD i d:=by simp only[List.getD];rw[List.getElem?_append_left h]
theorem EnvOk.push{C:Nat}{E:Int}{gs env cs}{a:Ty}{r:Rsl}{c:Tm}(h:EnvOk C E gs env cs)(hr:Rep C E a r c):EnvOk C E (gs++[a]) (env++[r]) (cs++[c]):=by
 refine⟨by simp[h.l1],by simp[h.l2],fun i hi=> ?_⟩;rw[List.length_append] at hi;by_cases hl:i<gs.length
 ·rw[Zrp _ _ _ _ hl,Zrp _ _ _ _ (by rw[h.l1];exact hl),Zrp _ _ _ _ (by rw[h.l2];exact hl)];exact h.h i hl
 ·have e:i=gs.length:=by simp at hi;omega
  subst e;rw[Zqi];have e1:=Zqi env r Yms;have e2:=Zqi cs c zT;rw[h.l1] at e1;rw[h.l2] at e2;rw[e1,e2];exact hr
theorem Yjq{k i:Int}{h:Ty}{x x' y y':Tm}(hx:Pst x x')(hy:Pst y y'):Pst (.mk k i h [x,y]) (.mk k i h [x',y']):=by
 have a1:Pst (.mk k i h [x,y]) (.mk k i h [x',y]):=by
  induction hx with
  |refl=>exact .refl _
  |step h1 _ ih=>exact .step (.node (.cons h1 (.cons (Par.refl _) .nil))) ih
 refine a1.trans ?_;clear a1;induction hy with
 |refl=>exact .refl _
 |step h1 _ ih=>exact .step (.node (.cons (Par.refl _) (.cons h1 .nil))) ih
theorem Yjt{k i:Int}{h:Ty}{x x' y y' z z':Tm}(hx:Pst x x')(hy:Pst y y')(hz:Pst z z'):Pst (.mk k i h [x,y,z]) (.mk k i h [x',y',z']):=by
 have a1:Pst (.mk k i h [x,y,z]) (.mk k i h [x',y,z]):=by
  induction hx with
  |refl=>exact .refl _
  |step h1 _ ih=>exact .step (.node (.cons h1 (.cons (Par.refl _) (.cons (Par.refl _) .nil)))) ih
 have a2:Pst (.mk k i h [x',y,z]) (.mk k i h [x',y',z]):=by
  clear a1;induction hy with
  |refl=>exact .refl _
  |step h1 _ ih=>exact .step (.node (.cons (Par.refl _) (.cons h1 (.cons (Par.refl _) .nil)))) ih
 refine(a1.trans a2).trans ?_;clear a1 a2;induction hz with
 |refl=>exact .refl _
 |step h1 _ ih=>exact .step (.node (.cons (Par.refl _) (.cons (Par.refl _) (.cons h1 .nil)))) ih
theorem Zhu{x x' y y':Tm}(hx:Pst x x')(hy:Pst y y'):Pst (apT x y) (apT x' y'):=Yjq hx hy
theorem fn_inv{C:Nat}{E:Int}{T:Ty}{r:Rsl}{c:Tm}(h:Rep C E T r c){a b:Ty}(hT:T=xj a b):
 ∃gs cs,EnvOk C E gs r.env cs/\r.body.inf (gs++[a])=(b,0)/\r.body.shape=true/\gs.length+r.body.size+1<=C/\c= .mk 2 0 a [r.body.re (wg (envS cs)) 1]:=by
 cases h with
 |nat h=>rw[hT] at h;cases h
 |list h=>rw[hT] at h;cases h
 |unit h=>rw[hT] at h;cases h
 |pair h=>rw[hT] at h;cases h
 |fn h h1 h2 h3 hi hs hh hC=>
  rw[hT] at h;obtain⟨rfl,rfl⟩:a=_/\b=_:=by simpa[xj] using h
  exact⟨_,_,⟨h1,h2,h3⟩,hi,hs,hC,rfl⟩
end Go.Ab
namespace Go.Ab
open Go
set_option linter.all false
def nB(t:Tm):Prop:=nxR 0 t=none
theorem Ylh{t:Tm}(h:nB t):nf t:=fun u hu=>Yeh hu h
theorem Zwp:∀(xs:List Tm),Zp9 0 xs=none↔∀x∈xs,nB x
 |[]=>by simp[Zp9]
 |x::l=>by
  simp only[Zp9,List.mem_cons,forall_eq_or_imp];unfold nB;cases hx:nxR 0 x with
  |some p=>simp
  |none=>simp only[Option.map_eq_none_iff,true_and];exact Zwp l
theorem Zdz(t:Tm):nB t↔vg t=false/\∀x∈t.args,nB x:=by
 unfold nB;rw[Zcy];by_cases h:vg t=true
 ·rw[if_pos h];simp[h]
 ·rw[if_neg h,Option.map_eq_none_iff,Zwp];simp[h];rfl
def NB(N:Nat)(t:Tm):Prop:=∃u,Pst t u/\nB u/\u.size<=N
theorem NB.of{N:Nat}{t:Tm}(h:nB t)(hz:t.size<=N):NB N t:=⟨t,.refl t,h,hz⟩
theorem NB.st{N:Nat}{t u:Tm}(h:NB N u)(hp:Pst t u):NB N t:=by
 obtain⟨v,h1,h2,h3⟩:=h;exact⟨v,hp.trans h1,h2,h3⟩
theorem NB.le{N M:Nat}{t:Tm}(h:NB N t)(hl:N<=M):NB M t:=by
 obtain⟨v,h1,h2,h3⟩:=h;exact⟨v,h1,h2,by omega⟩
theorem NB.norm{N:Nat}{t:Tm}{s:Int}(h:NB N t)(hn:(xr t s).2.2=0):(xr t s).1.size<=N:=by
 obtain⟨u,h1,h2,h3⟩:=h;obtain⟨_,_,h4,h5,_⟩:=Zlq hn;rw[Zyc h5 (Ylh h2) h4 h1];exact h3
theorem Ye7(i:Int):nB (vT i):=rfl
theorem Yhq{f x:Tm}(hf:nB f)(hx:nB x)(hk:f.kind≠2):nB (apT f x):=by
 rw[Zdz];refine⟨?_,?_⟩
 ·simp[vg,apT,Tm.arg,hk]
 ·simp only[apT,Tm.args_mk,List.mem_cons,List.not_mem_nil,or_false,forall_eq_or_imp,forall_eq];exact⟨hf,hx⟩
theorem Zkt{k i:Int}{h:Ty}{xs:List Tm}(hk:k≠3/\k≠6/\k≠9/\k≠11/\k≠12)(hx:∀x∈xs,nB x):nB (.mk k i h xs):=by
 rw[Zdz];refine⟨?_,hx⟩;obtain⟨h1,h2,h3,h4,h5⟩:=hk;simp[vg,h1,h2,h3,h4,h5]
theorem Zxs{i:Int}{h:Ty}{a f n:Tm}(ha:nB a)(hf:nB f)(hn:nB n)(h4:n.kind≠4)(h5:n.kind≠5):nB (.mk 6 i h [a,f,n]):=by
 rw[Zdz];refine⟨?_,?_⟩
 ·simp[vg,Tm.arg,h4,h5]
 ·simp only[Tm.args_mk,List.mem_cons,List.not_mem_nil,or_false,forall_eq_or_imp,forall_eq];exact⟨ha,hf,hn⟩
theorem Zy9{i:Int}{h:Ty}{a f n:Tm}(ha:nB a)(hf:nB f)(hn:nB n)(h4:n.kind≠7)(h5:n.kind≠8):nB (.mk 9 i h [a,f,n]):=by
 rw[Zdz];refine⟨?_,?_⟩
 ·simp[vg,Tm.arg,h4,h5]
 ·simp only[Tm.args_mk,List.mem_cons,List.not_mem_nil,or_false,forall_eq_or_imp,forall_eq];exact⟨ha,hf,hn⟩
theorem Ziu(m n c:Int)(t:Tm):(t.re (zk m n) c).kind=t.kind:=by
 rw[Tm.re_eq];by_cases h:t.kind=1
 ·rw[if_pos h,yw,h];rfl
 ·rw[if_neg h];rfl
theorem Yie(t:Tm)(F:Tm->Tm)(h:∀x,(F x).kind=x.kind)(hz:(F noTm).kind=noTm.kind)(k i:Int)(s:Ty)(j:Nat):((Tm.mk k i s (t.args.map F)).arg j).kind=(t.arg j).kind:=by
 simp only[Tm.arg,Tm.args_mk];by_cases hj:j<t.args.length
 ·rw[Zda (by simpa using hj),Zda hj,List.getElem_map,h]
 ·have e1:(t.args.map F).getD j noTm=noTm:=by rw[List.getD_eq_getElem?_getD,List.getElem?_eq_none (by simpa using hj)];rfl
  have e2:t.args.getD j noTm=noTm:=by rw[List.getD_eq_getElem?_getD,List.getElem?_eq_none (by omega)];rfl
  rw[e1,e2]
theorem Zcb(t:Tm):∀(m n c:Int),nB t->nB (t.re (zk m n) c):=by
 induction t using Tm.ind with
 |h t ih=>
  intro m n c h;rw[Zdz] at h;rw[Tm.re_eq];by_cases hk:t.kind=1
  ·rw[if_pos hk,yw];exact Ye7 _
  ·rw[if_neg hk,Zdz];refine⟨?_,?_⟩
   ·have e:∀j,((Tm.mk t.kind t.index t.ty (t.args.map (Tm.re (zk m n) (up t.kind c)))).arg j).kind=(t.arg j).kind:=fun j=>Yie t _ (fun x=>Ziu m n _ x) (Ziu m n _ _) _ _ _ j;have h1:=h.1;unfold vg at h1 ⊢;simp only[e,Tm.kind_mk];exact h1
   ·intro x hx;simp only[Tm.args_mk,List.mem_map] at hx;obtain⟨y,hy,rfl⟩:=hx;exact ih y hy m n _ (h.2 y hy)
theorem uc(t:Tm):∀(m n c:Int),(t.re (zk m n) c).size<=t.size:=by
 induction t using Tm.ind with
 |h t ih=>
  intro m n c;rw[Tm.re_eq];by_cases hk:t.kind=1
  ·rw[if_pos hk,yw];exact t.size_pos
  ·rw[if_neg hk,Tm.size_eq,Tm.size_eq t];simp only[Tm.args_mk,List.map_map];have:∀(l:List Tm),(∀x∈l,x∈t.args)->(l.map (Tm.size∘Tm.re (zk m n) (up t.kind c))).sum<=(l.map Tm.size).sum:=by
    intro l;induction l with
    |nil=>intro _;simp
    |cons x l ih2=>
     intro hl;have h1:=ih x (hl x List.mem_cons_self) m n (up t.kind c);have h2:=ih2 fun y hy=>hl y (List.mem_cons_of_mem _ hy);simp only[List.map_cons,List.sum_cons,Function.comp];omega
   have:=this t.args fun x hx=>hx;omega
def ext(B:Tm)(σ:Int->Tm)(j:Int):Tm:=if j=0 then B else σ (j-1)
theorem Zg5(σ:Int->Tm)(B a:Tm)(c:Int)(hc:0<=c):(a.re (wg σ) (c+1)).re (xy 0 B) c=a.re (wg (ext B σ)) c:=by
 rw[re_shift (wg σ) 1 a c,re_re];refine re_congr a c fun p hp=> ?_;have h2:=wv a c p hp;simp only[wg,ext];by_cases h:p.1<p.2
 ·rw[if_pos (by omega),if_pos h,Zb0,vn,if_neg (by omega),if_neg (by omega)]
 ·by_cases h0:p.1-p.2=0
  ·rw[if_pos (by omega),if_neg h,if_pos h0,Zb0,vn,if_pos h0,Int.zero_add]
  ·rw[if_neg (by omega),if_neg h,if_neg h0,Zhw _ _ _ _ (by omega) (by omega)];congr 2;omega
def Sb(N:Nat)(σ:Int->Tm):Prop:=∀j,nB (σ j)/\(σ j).size<=N
theorem Sb.ext{N:Nat}{σ:Int->Tm}{B:Tm}(h:Sb N σ)(hB:nB B)(hz:B.size<=N):Sb N (ext B σ):=fun j=>by
 unfold Go.Ab.ext;by_cases h0:j=0
 ·rw[if_pos h0];exact⟨hB,hz⟩
 ·rw[if_neg h0];exact h _
theorem Sb.at_{N:Nat}{σ:Int->Tm}(h:Sb N σ)(i c:Int):nB (wg σ i c)/\(wg σ i c).size<=N:=by
 have h1:=(h 0).1;have h2:=(h 0).2;have hp:=(σ 0).size_pos;unfold wg;by_cases hi:i<c
 ·rw[if_pos hi];exact⟨Ye7 i,by show 1<=N;omega⟩
 ·rw[if_neg hi];exact⟨Zcb _ _ _ _ (h _).1,Nat.le_trans (uc _ _ _ _) (h _).2⟩
inductive Lf:Tm->Prop
 |v (i:Int):Lf (vT i)
 |num (m:Nat) (h:m<3):Lf (Zb1 m)
 |nil:Lf (nT 7 [])
 |unit:Lf (nT 13 [])
theorem Zxc(m:Nat)(g:Int->Int->Tm):∀b,(Zb1 m).re g b=Zb1 m:=by
 induction m with
 |zero=>intro b;rfl
 |succ m ih=>intro b;simp only[Zb1,Tm.re,Tm.res];rw[if_neg (by decide)];rw[ih]
theorem Ye9(m:Nat):nB (Zb1 m):=by
 induction m with
 |zero=>rfl
 |succ m ih=>exact Zkt (by decide) fun x hx=>by simp at hx;subst hx;exact ih
theorem Ztf(m:Nat):(Zb1 m).size=m+1:=by
 induction m with
 |zero=>rfl
 |succ m ih=>simp only[Zb1,Tm.size,Tm.sizes,ih];omega
theorem Lf.sb{a:Tm}(h:Lf a){N:Nat}{σ:Int->Tm}(hs:Sb N σ)(hN:3<=N)(c:Int):nB (a.re (wg σ) c)/\(a.re (wg σ) c).size<=N:=by
 cases h with
 |v i=>rw[Zb0];exact hs.at_ i c
 |num m h=>rw[Zxc];exact⟨Ye9 m,by rw[Ztf];omega⟩
 |nil=>exact⟨rfl,by show 1<=N;omega⟩
 |unit=>exact⟨rfl,by show 1<=N;omega⟩
theorem Lf.kd{a:Tm}(h:Lf a):a.kind≠2:=by
 cases h with
 |v i=>exact(by decide:(1:Int)≠2)
 |num m h=>match m,h with
  |0,_=>decide
  |1,_=>decide
  |2,_=>decide
 |nil=>decide
 |unit=>decide
theorem Mk.lf1{g:List Ty}{s:Ty}{x:Tm}(h:Mk 1 g s x):Lf x:=by
 cases h with
 |var _ _ _ i hi _=>exact .v _
 |num _ _ m hm=>exact .num m hm
 |nil=>exact .nil
 |unit=>exact .unit
 |pair _ _ s t a b _ _ ha _=>nomatch ha
 |lam _ _ s t a _ _ ha=>nomatch ha
 |_=>omega
theorem Mk.lf2{g:List Ty}{s:Ty}{x:Tm}(h:Mk 2 g s x):Lf x\/(∃a b,Lf a/\Lf b/\x=nT 10 [a,b])\/∃s a,Lf a/\x=lmT s a:=by
 cases h with
 |var _ _ _ i hi _=>exact .inl (.v _)
 |num _ _ m hm=>exact .inl (.num m hm)
 |nil=>exact .inl .nil
 |unit=>exact .inl .unit
 |pair _ _ s t a b _ _ ha hb=>exact .inr (.inl ⟨a,b,ha.lf1,hb.lf1,rfl⟩)
 |lam _ _ s t a _ _ ha=>exact .inr (.inr ⟨s,a,ha.lf1,rfl⟩)
 |_=>omega
theorem Zpa(s t:Ty):(Zdm s t).size≠1/\(xj s t).size≠1:=by have:=s.size_pos;have:=t.size_pos;simp[Zdm,xj,Ty.size,Ty.sizes];omega
theorem Mk.lfb{g:List Ty}{s:Ty}{x:Tm}(h:Mk 2 g s x)(hs:s.size=1):Lf x:=by
 cases h with
 |var _ _ _ i hi _=>exact .v _
 |num _ _ m hm=>exact .num m hm
 |nil=>exact .nil
 |unit=>exact .unit
 |pair _ _ s t a b _ _ ha hb=>exact absurd hs (Zpa s t).1
 |lam _ _ s t a _ _ ha=>exact absurd hs (Zpa s t).2
 |_=>omega
theorem vt{k i:Int}{h:Ty}{xs ys:List Tm}(hs:(Tm.mk k i h xs).shape=true)(hl:ys.length=xs.length)(hy:∀y∈ys,y.shape=true):(Tm.mk k i h ys).shape=true:=by
 rw[Tm.shape_eq,Bool.and_eq_true] at hs ⊢;refine⟨?_,?_⟩
 ·have:=hs.1;simp only[Tm.head,Tm.kind_mk,Tm.args_mk,Tm.index_mk,Tm.ty_mk] at this ⊢;rw[hl];exact this
 ·simpa using hy
mutual
theorem xx:∀{t u:Tm},Par t u->t.shape=true->u.shape=true
 |_,_,.node hp,hs=>by
  have h:=Zk1 hp (zd hs);exact vt hs h.1 h.2
 |_,_,.beta (i:=i) (th:=th) (j:=j) (s:=s) (b:=b) (a:=a) (b':=b') (a':=a') h1 h2,hs=>by
  have hb:=xx h1 (zd (zd hs (.mk 2 j s [b]) (by simp)) b (by simp));have ha:=xx h2 (zd hs a (by simp));have hl:(Tm.mk 2 j s [b']).shape=true:=vt (zd hs (.mk 2 j s [b]) (by simp)) rfl (by simpa using hb);exact Zgr (t:= .mk 3 i th [.mk 2 j s [b'],a']) (vt hs rfl (by simp[hl,ha])) rfl
 |_,_,.rz (x:=x) h1,hs=>xx h1 (zd hs x (by simp))
 |_,_,.rs (i:=i) (th:=th) (x:=x) (x':=x') (f:=f) (f':=f') (j:=j) (s:=s) (n:=n) (n':=n') h1 h2 h3,hs=>by
  have hx:=xx h1 (zd hs x (by simp));have hf:=xx h2 (zd hs f (by simp));have hm:=zd hs (.mk 5 j s [n]) (by simp);have hn:=xx h3 (zd hm n (by simp));have hl:(Tm.mk 5 j s [n']).shape=true:=vt hm rfl (by simpa using hn);exact Zgr (t:= .mk 6 i th [x',f',.mk 5 j s [n']]) (vt hs rfl (by simp[hl,hx,hf])) rfl
 |_,_,.fz (x:=x) h1,hs=>xx h1 (zd hs x (by simp))
 |_,_,.fs (i:=i) (th:=th) (x:=x) (x':=x') (f:=f) (f':=f') (j:=j) (s:=s) (n:=n) (n':=n') (l:=l) (l':=l') h1 h2 h3 h4,hs=>by
  have hx:=xx h1 (zd hs x (by simp));have hf:=xx h2 (zd hs f (by simp));have hm:=zd hs (.mk 8 j s [n,l]) (by simp);have hn:=xx h3 (zd hm n (by simp));have hk:=xx h4 (zd hm l (by simp));have hl:(Tm.mk 8 j s [n',l']).shape=true:=vt hm rfl (by simp[hn,hk]);exact Zgr (t:= .mk 9 i th [x',f',.mk 8 j s [n',l']]) (vt hs rfl (by simp[hl,hx,hf])) rfl
 |_,_,.p1 (j:=j) (s:=s) (x:=x) (y:=y) h1,hs=>xx h1 (zd (zd hs (.mk 10 j s [x,y]) (by simp)) x (by simp))
 |_,_,.p2 (j:=j) (s:=s) (x:=x) (y:=y) h1,hs=>xx h1 (zd (zd hs (.mk 10 j s [x,y]) (by simp)) y (by simp))
theorem Zk1:∀{xs ys:List Tm},Pars xs ys->(∀x∈xs,x.shape=true)->ys.length=xs.length/\∀y∈ys,y.shape=true
 |_,_,.nil,_=>⟨rfl,by simp⟩
 |_,_,.cons (x:=x) h hs,hx=>by
  have h1:=xx h (hx x (by simp));have h2:=Zk1 hs fun y hy=>hx y (by simp[hy]);refine⟨by simp[h2.1],?_⟩;intro y hy;rcases List.mem_cons.1 hy with rfl|hy
  ·exact h1
  ·exact h2.2 y hy
end
theorem Zfl{t u:Tm}(h:Pst t u):t.shape=true->u.shape=true:=by
 induction h with
 |refl=>exact id
 |step h1 _ ih=>exact fun hs=>ih (xx h1 hs)
theorem Zgy(s:Ty)(b a:Tm):Pst (apT (lmT s b) a) (b.re (xy 0 a) 0):= .one (.beta (.refl _) (.refl _))
theorem Zrq{s:Ty}{b:Tm}(h:nB b):nB (lmT s b):=Zkt (by decide) fun x hx=>by simp at hx;subst hx;exact h
theorem Zy5{A:Tm}(hA:nB A)(th:Ty):∀(m:Tm),nB m->m.shape=true->∀i,NB (A.size+m.size+5) (.mk 6 i th [A,addF,m]):=by
 intro m;induction m using Tm.ind with
 |h m ih=>
  intro hm hs i;have hsz:∀i,(Tm.mk 6 i th [A,addF,m]).size=A.size+m.size+5:=fun i=>by
   have:addF.size=4:=rfl;simp only[Tm.size,Tm.sizes,this];omega
  by_cases h4:m.kind=4
  ·obtain ⟨j,s,rfl⟩:=Zfb hs h4 rfl;exact(NB.of hA (by omega)).st (.one (.rz (.refl _)))
  by_cases h5:m.kind=5
  ·obtain ⟨j,s,v,rfl,hv⟩:=u9 hs h5 rfl;have hvn:=((Zdz _).1 hm).2 v (by simp);obtain⟨u,h1,h2,h3⟩:=ih v (by simp) hvn hv 0;have hz:(Tm.mk 5 j s [v]).size=v.size+1:=by simp only[Tm.size,Tm.sizes];omega
   have e1:Pst (.mk 6 i th [A,addF,.mk 5 j s [v]]) (apT (apT addF v) (.mk 6 0 th [A,addF,v])):= .one (.rs (.refl _) (.refl _) (.refl _));have e2:Pst (apT (apT addF v) (.mk 6 0 th [A,addF,v])) (apT (ve (sT (vT 0))) u):=Zhu (.one (.beta (b':=ve (sT (vT 0))) (.refl _) (.refl _))) h1;have e3:Pst (apT (ve (sT (vT 0))) u) (sT (u.re (zk 0 0) 0)):= .one (.beta (b':=sT (vT 0)) (.refl _) (.refl _));refine NB.st (u:=sT (u.re (zk 0 0) 0)) ?_ (e1.trans (e2.trans e3));refine .of (Zkt (by decide) fun x hx=>by simp at hx;subst hx;exact Zcb _ _ _ _ h2) ?_;have:=uc u 0 0 0;simp only[sT,Tm.size,Tm.sizes];omega
  ·exact .of (Zxs hA rfl hm h4 h5) (by rw[hsz];exact Nat.le_refl _)
theorem Yf0{m:Tm}(hm:nB m)(hs:m.shape=true):NB (m.size+5) (apT predT m):=by
 have e1:Pst (apT predT m) (Zer zT (ve (ve (vT 1))) (m.re (zk 0 0) 0)):= .one (.beta (b':=Zer zT (ve (ve (vT 1))) (vT 0)) (.refl _) (.refl _));have hn:=Zcb m 0 0 0 hm;have hz:=uc m 0 0 0;have hs':=x6 (fr:=0) (by_:=0) 0 hs (Int.le_refl _);have hk:=Ziu 0 0 0 m;generalize m.re (zk 0 0) 0=w at*;refine NB.st ?_ e1;by_cases h4:w.kind=4
 ·obtain ⟨j,s,rfl⟩:=Zfb hs' h4 rfl;exact(NB.of (t:=zT) rfl (by show 1<=m.size+5;omega)).st (.one (.rz (.refl _)))
 by_cases h5:w.kind=5
 ·obtain ⟨j,s,v,rfl,hv⟩:=u9 hs' h5 rfl;have hvn:=((Zdz _).1 hn).2 v (by simp);have e2:Pst (Zer zT (ve (ve (vT 1))) (.mk 5 j s [v])) (apT (apT (ve (ve (vT 1))) v) (.mk 6 0 (.mk 1 []) [zT,ve (ve (vT 1)),v])):= .one (.rs (.refl _) (.refl _) (.refl _));have e3:Pst (apT (ve (ve (vT 1))) v) (ve (v.re (zk 0 1) 0)):= .one (.beta (b':=ve (vT 1)) (.refl _) (.refl _));have e4:∀r,Pst (apT (ve (v.re (zk 0 1) 0)) r) ((v.re (zk 0 1) 0).re (xy 0 r) 0):=fun r=> .one (.beta (.refl _) (.refl _));refine NB.st ?_ (e2.trans ((Zhu e3 (.refl _)).trans (e4 _)));have:=Zhw v (.mk 6 0 (.mk 1 []) [zT,ve (ve (vT 1)),v]) 0 0 (Int.le_refl _) (Int.le_refl _);rw[Int.zero_add] at this;rw[this];have h6:(Tm.mk 5 j s [v]).size=v.size+1:=by simp only[Tm.size,Tm.sizes];omega
  exact .of (Zcb _ _ _ _ hvn) (by have:=uc v 0 0 0;omega)
 ·refine .of (Zxs rfl rfl hn h4 h5) ?_;simp only[Zer,Tm.size,Tm.sizes,zT,ve,vT];omega
theorem Zkd(s:Ty)(b:Tm)(g:Int->Int->Tm)(c:Int):(lmT s b).re g c=lmT s (b.re g (c+1)):=by
 simp only[lmT,Tm.re,Tm.res,up];rfl
theorem Zkz(f x:Tm)(g:Int->Int->Tm)(c:Int):(apT f x).re g c=apT (f.re g c) (x.re g c):=by
 simp only[apT,Tm.re,Tm.res,up];rfl
theorem Sb.le{N M:Nat}{σ:Int->Tm}(h:Sb N σ)(hl:N<=M):Sb M σ:=fun j=>⟨(h j).1,by have:=(h j).2;omega⟩
theorem Yjv{A:Tm}(hA:nB A)(th:Ty):∀(m:Tm),nB m->m.shape=true->(Tm.mk 6 0 th [A,subF,m]).shape=true->NB (A.size+6*m.size+9) (.mk 6 0 th [A,subF,m]):=by
 intro m;induction m using Tm.ind with
 |h m ih=>
  intro hm hs hw;have hp:=m.size_pos;by_cases h4:m.kind=4
  ·obtain ⟨j,s,rfl⟩:=Zfb hs h4 rfl;exact(NB.of hA (by omega)).st (.one (.rz (.refl _)))
  by_cases h5:m.kind=5
  ·obtain ⟨j,s,v,rfl,hv⟩:=u9 hs h5 rfl;have hvn:=((Zdz _).1 hm).2 v (by simp);have hw':(Tm.mk 6 0 th [A,subF,v]).shape=true:=vt hw rfl (by
    have h1:=zd hw A (by simp);have h2:=zd hw subF (by simp);simp[h1,h2,hv])
   obtain⟨u,h1,h2,h3⟩:=ih v (by simp) hvn hv hw';have hz:(Tm.mk 5 j s [v]).size=v.size+1:=by simp only[Tm.size,Tm.sizes];omega
   have e1:Pst (.mk 6 0 th [A,subF,.mk 5 j s [v]]) (apT (apT subF v) (.mk 6 0 th [A,subF,v])):= .one (.rs (.refl _) (.refl _) (.refl _));have e2:Pst (apT (apT subF v) (.mk 6 0 th [A,subF,v])) (apT (ve (apT predT (vT 0))) u):=Zhu (.one (.beta (b':=ve (apT predT (vT 0))) (.refl _) (.refl _))) h1;have e3:Pst (apT (ve (apT predT (vT 0))) u) (apT predT (u.re (zk 0 0) 0)):= .one (.beta (b':=apT predT (vT 0)) (.refl _) (.refl _));have:=uc u 0 0 0;exact((Yf0 (Zcb u 0 0 0 h2) (x6 0 (Zfl h1 hw') (Int.le_refl _))).le (by omega)).st (e1.trans (e2.trans e3))
  ·have e1:Pst (.mk 6 0 th [A,subF,m]) (.mk 6 0 th [A,ve (ve (Zer zT (ve (ve (vT 1))) (vT 0))),m]):=
    Yjt (.refl _) (.one (.node (.cons (.node (.cons (.beta (b':=Zer zT (ve (ve (vT 1))) (vT 0)) (.refl _) (.refl _)) .nil)) .nil))) (.refl _)
   refine .st ?_ e1;refine .of (Zxs hA rfl hm h4 h5) ?_;have:(ve (ve (Zer zT (ve (ve (vT 1))) (vT 0)))).size=8:=rfl;simp only[Tm.size,Tm.sizes,this];omega
theorem Zv9(a:Tm)(σ:Int->Tm)(s1 s2:Ty)(h r r':Tm)(hr:Pst r r'):Pst (apT (apT (lmT s1 (lmT s2 (a.re (wg σ) 2))) h) r) (a.re (wg (ext r' (ext h σ))) 0):=by
 have e1:=Zgy s1 (lmT s2 (a.re (wg σ) 2)) h;rw[Zkd,show(2:Int)=(0+1)+1 by decide,Zg5 σ h a (0+1) (by decide)] at e1;have e2:=Zgy s2 (a.re (wg (ext h σ)) (0+1)) r';rw[Zg5 (ext h σ) r' a 0 (by decide)] at e2;exact(Zhu e1 hr).trans e2
theorem Ybv(a:Tm)(σ:Int->Tm)(s1 s2 s3:Ty)(h l r r':Tm)(hr:Pst r r'):Pst (apT (apT (apT (lmT s1 (lmT s2 (lmT s3 (a.re (wg σ) 3)))) h) l) r) (a.re (wg (ext r' (ext l (ext h σ)))) 0):=by
 have e1:=Zgy s1 (lmT s2 (lmT s3 (a.re (wg σ) 3))) h;rw[Zkd,Zkd,show(3:Int)=(0+1+1)+1 by decide,Zg5 σ h a (0+1+1) (by decide)] at e1;exact(Zhu (Zhu e1 (.refl _)) (.refl _)).trans (Zv9 a (ext h σ) s2 s3 l r r' hr)
theorem Yii{a B:Tm}{N:Nat}{σ:Int->Tm}(hB:nB B)(hz:B.size<=N)(ha:Lf a)(hs:Sb N σ)(hN:3<=N)(th s1 s2 s3:Ty):
 ∀(n:Tm),nB n->n.shape=true->n.size<=N->∀i,NB (3*N+4) (.mk 9 i th [B,lmT s1 (lmT s2 (lmT s3 (a.re (wg σ) 3))),n]):=by
 intro n;induction n using Tm.ind with
 |h n ih=>
  intro hn hsh hzn i;by_cases h7:n.kind=7
  ·obtain ⟨j,s,rfl⟩:=Zfb hsh h7 rfl;exact(NB.of hB (by omega)).st (.one (.fz (.refl _)))
  by_cases h8:n.kind=8
  ·obtain ⟨j,s,h,l,rfl,hh,hl⟩:=Zdq hsh h8 rfl;have hnh:=((Zdz _).1 hn).2 h (by simp);have hnl:=((Zdz _).1 hn).2 l (by simp);have hzz:(Tm.mk 8 j s [h,l]).size=h.size+l.size+1:=by simp only[Tm.size,Tm.sizes];omega
   obtain⟨u,h1,h2,h3⟩:=ih l (by simp) hnl hl (by omega) 0;have e:=Ybv a σ s1 s2 s3 h l _ u h1;have hb:=ha.sb (((hs.le (by omega:N<=3*N+4)).ext hnh (by omega)).ext hnl (by omega)|>.ext h2 h3) (by omega) 0;exact(NB.of hb.1 hb.2).st ((Pst.one (.fs (.refl _) (.refl _) (.refl _) (.refl _))).trans e)
  ·have h3:=ha.sb hs hN 3;refine .of (Zy9 hB (Zrq (Zrq (Zrq h3.1))) hn h7 h8) ?_;have:=h3.2;simp only[lmT,Tm.size,Tm.sizes];omega
theorem Yiy{a B:Tm}{N:Nat}{σ:Int->Tm}(hB:nB B)(hz:B.size<=N)(ha:Lf a)(hs:Sb N σ)(hN:3<=N)(th s1 s2:Ty):
 ∀(m:Nat),m<3->∀i,NB N (.mk 6 i th [B,lmT s1 (lmT s2 (a.re (wg σ) 2)),Zb1 m]):=by
 intro m;induction m with
 |zero=>exact fun _ i=>(NB.of hB hz).st (.one (.rz (.refl _)))
 |succ m ih=>
  intro hm i;obtain⟨u,h1,h2,h3⟩:=ih (by omega) 0;have e:=Zv9 a σ s1 s2 (Zb1 m) _ u h1;have hb:=ha.sb ((hs.ext (Ye9 m) (by rw[Ztf];omega)).ext h2 h3) hN 0;exact(NB.of hb.1 hb.2).st ((Pst.one (.rs (.refl _) (.refl _) (.refl _))).trans e)
theorem Yjc(s:Ty)(x f n:Tm)(g:Int->Int->Tm)(c:Int):(hT 6 s [x,f,n]).re g c=hT 6 s [x.re g c,f.re g c,n.re g c]:=by
 simp only[hT,Tm.re,Tm.res,up];rfl
theorem Yke(s:Ty)(x f n:Tm)(g:Int->Int->Tm)(c:Int):(hT 9 s [x,f,n]).re g c=hT 9 s [x.re g c,f.re g c,n.re g c]:=by
 simp only[hT,Tm.re,Tm.res,up];rfl
theorem Yhg(k:Int)(hk:k≠1)(h2:k≠2)(x:Tm)(g:Int->Int->Tm)(c:Int):(nT k [x]).re g c=nT k [x.re g c]:=by
 simp only[nT,Tm.re,Tm.res,up,if_neg hk,if_neg h2]
theorem Ya4(k:Int)(hk:k≠1)(h2:k≠2)(x y:Tm)(g:Int->Int->Tm)(c:Int):(nT k [x,y]).re g c=nT k [x.re g c,y.re g c]:=by
 simp only[nT,Tm.re,Tm.res,up,if_neg hk,if_neg h2]
theorem Lf.shp{a:Tm}(h:Lf a){σ:Int->Tm}(hs:∀j,0<=j->(σ j).shape=true)(h0:a.shape=true):(a.re (wg σ) 0).shape=true:=by
 refine Znb _ _ 0 h0 fun p hp=> ?_;have h2:=wv a 0 p hp;have h3:a.shape=true:=h0;unfold wg;by_cases hi:p.1<p.2
 ·rw[if_pos hi];cases h with
  |v i=>simp[vT,Tm.vars,Tm.varss] at hp;subst hp;simp at hi h2 h0;simp[Tm.shape,vT,Tm.shapes,Tm.head,arK,we,Ty.isNo] at h0 ⊢;omega
  |num m h=>rw[show(Zb1 m).vars 0=[] from by match m,h with|0,_=>rfl|1,_=>rfl|2,_=>rfl] at hp;simp at hp
  |nil=>simp[nT,Tm.vars,Tm.varss] at hp
  |unit=>simp[nT,Tm.vars,Tm.varss] at hp
 ·rw[if_neg hi];exact x6 0 (hs _ (by omega)) h2
theorem Ykc(m:Nat)(g:Int->Int->Tm)(c:Int):(Zb1 m).re g c=Zb1 m:=Zxc m g c
theorem Mk.nb{g:List Ty}{s:Ty}{T:Tm}(h:Mk 3 g s T)(h1:s.size=1)(hg:smalls g)(hss:s.small){N:Nat}{σ:Int->Tm}(hN:3<=N)(hs:Sb N σ)(hsh:∀j,0<=j->(σ j).shape=true)
 (hf:∀(i:Nat) (s' t':Ty),i<g.length->at0 g (g.length-1-i)=xj s' t'->∀B,nB B->B.size<=N->NB (7*N+19) (apT (σ i) B)):NB (7*N+19) (T.re (wg σ) 0):=by
 have lf:∀{a:Tm} (c:Int),Lf a->nB (a.re (wg σ) c)/\(a.re (wg σ) c).size<=N:=fun c ha=>ha.sb hs hN c;have hn:(7*N+19>=N):=by omega
 have hpl:∀{f:Tm} (A B:Tm),Pst (apT (apT (ve (ve (Zer (vT 1) f (vT 0)))) A) B) (((Zer (vT 1) f (vT 0)).re (xy 0 A) 1).re (xy 0 B) 0):=fun A B=>
  (Zhu (Pst.one (.beta (.refl _) (.refl _))) (.refl _)).trans (.one (.beta (.refl _) (.refl _)))
 cases h with
 |var _ _ _ i hi _=>exact .of (lf 0 (.v _)).1 (by have:=(lf 0 (Lf.v (i:Int))).2;omega)
 |num _ _ m hm=>exact .of (lf 0 (.num m hm)).1 (by have:=(lf 0 (Lf.num m hm)).2;omega)
 |nil=>exact .of rfl (by show 1<=7*N+19;omega)
 |unit=>exact .of rfl (by show 1<=7*N+19;omega)
 |pair _ _ s t a b _ _ ha hb=>exact absurd h1 (Zpa s t).1
 |lam _ _ s t a _ _ ha=>exact absurd h1 (Zpa s t).2
 |app _ _ _ s a b _ hs' h1' ha hb=>
  have hB:=lf 0 (hb.lfb h1');have hA:=(ha.lfb h1).sb (hs.ext hB.1 hB.2) hN 0;rw[Zkz,Zkd];have e:=Zgy s (a.re (wg σ) (0+1)) (b.re (wg σ) 0);rw[Zg5 _ _ _ 0 (by decide)] at e;exact(NB.of hA.1 (by have:=hA.2;omega)).st e
 |fst _ _ _ s a b _ hs' h1' ha hb=>
  rw[Yhg 11 (by decide) (by decide),Ya4 10 (by decide) (by decide)];have hA:=lf 0 (ha.lfb h1);exact(NB.of hA.1 (by have:=hA.2;omega)).st (.one (.p1 (.refl _)))
 |snd _ _ _ s a b _ hs' h1' ha hb=>
  rw[Yhg 12 (by decide) (by decide),Ya4 10 (by decide) (by decide)];have hA:=lf 0 (hb.lfb h1);exact(NB.of hA.1 (by have:=hA.2;omega)).st (.one (.p2 (.refl _)))
 |recu _ _ _ a b m _ hm ha hb=>
  have hB:=lf 0 (hb.lfb h1);rw[Yjc,Zkd,Zkd,Ykc];exact(Yiy hB.1 hB.2 (ha.lfb h1) hs hN s natT s m hm 0).le hn
 |fold _ _ _ a b c _ ha hb hc=>
  have hB:=lf 0 (hb.lfb h1);have hC:=lf 0 (hc.lfb rfl);have hcs:=(hc.lfb rfl).shp hsh (hc.shape hg ⟨rfl,by decide⟩);rw[Yke,Zkd,Zkd,Zkd];exact(Yii hB.1 hB.2 (ha.lfb h1) hs hN s natT listT s _ hC.1 hcs hC.2 0).le (by omega)
 |ctx _ _ _ s a _ i hi h h1' ha=>
  have hA:=lf 0 (ha.lfb h1');rw[Zkz,Zb0];have e:wg σ (i:Int) 0=(σ i).re (zk 0 0) 0:=by unfold wg;rw[if_neg (by omega),Int.sub_zero]
  have e2:(σ i).re (zk 0 0) 0=σ i:=re_id _ 0 (hsh _ (by omega)) fun p _=>by rw[yw];simp
  rw[e,e2];exact hf i _ _ hi h _ hA.1 hA.2
 |succ _ _ a _ ha=>
  have hA:=lf 0 (ha.lfb h1);have e:(sT a).re (wg σ) 0=sT (a.re (wg σ) 0):=Yhg 5 (by decide) (by decide) a _ 0;rw[e];refine .of (Zkt (by decide) fun x hx=>by simp at hx;subst hx;exact hA.1) ?_;have:=hA.2;simp only[sT,Tm.size,Tm.sizes];omega
 |cons _ _ a b _ ha hb=>
  have hA:=lf 0 (ha.lfb rfl);have hB:=lf 0 (hb.lfb rfl);rw[Ya4 8 (by decide) (by decide)];refine .of (Zkt (by decide) fun x hx=>by simp at hx;rcases hx with rfl|rfl;exact hA.1;exact hB.1) ?_;have:=hA.2;have:=hB.2;simp only[nT,Tm.size,Tm.sizes];omega
 |plus _ _ a b _ ha hb=>
  have hA:=lf 0 (ha.lfb rfl);have hB:=lf 0 (hb.lfb rfl);have sB:=(hb.lfb rfl).shp hsh (hb.shape hg ⟨rfl,by decide⟩);rw[Zkz,Zkz];refine NB.st ?_ (hpl (f:=addF) (a.re (wg σ) 0) (b.re (wg σ) 0));have e:((Zer (vT 1) addF (vT 0)).re (xy 0 (a.re (wg σ) 0)) 1).re (xy 0 (b.re (wg σ) 0)) 0= .mk 6 0 (.mk 1 []) [((a.re (wg σ) 0).re (zk 0 1) 0).re (xy 0 (b.re (wg σ) 0)) 0,addF,(b.re (wg σ) 0).re (zk 0 0) 0]:=rfl;rw[e,show(1:Int)=0+1 by decide,Zhw _ _ 0 0 (by decide) (by decide)];have z1:=uc (a.re (wg σ) 0) 0 0 0;have z2:=uc (b.re (wg σ) 0) 0 0 0;exact(Zy5 (Zcb _ _ _ _ hA.1) _ _ (Zcb _ _ _ _ hB.1) (x6 0 sB (by decide)) 0).le (by have:=hA.2;have:=hB.2;omega)
 |sub _ _ a b _ ha hb=>
  have hA:=lf 0 (ha.lfb rfl);have hB:=lf 0 (hb.lfb rfl);have sA:=(ha.lfb rfl).shp hsh (ha.shape hg ⟨rfl,by decide⟩);have sB:=(hb.lfb rfl).shp hsh (hb.shape hg ⟨rfl,by decide⟩);rw[Zkz,Zkz];refine NB.st ?_ (hpl (f:=subF) (a.re (wg σ) 0) (b.re (wg σ) 0));have e:((Zer (vT 1) subF (vT 0)).re (xy 0 (a.re (wg σ) 0)) 1).re (xy 0 (b.re (wg σ) 0)) 0= .mk 6 0 (.mk 1 []) [((a.re (wg σ) 0).re (zk 0 1) 0).re (xy 0 (b.re (wg σ) 0)) 0,subF,(b.re (wg σ) 0).re (zk 0 0) 0]:=rfl;rw[e,show(1:Int)=0+1 by decide,Zhw _ _ 0 0 (by decide) (by decide)];have z1:=uc (a.re (wg σ) 0) 0 0 0;have z2:=uc (b.re (wg σ) 0) 0 0 0;have l1:=x6 (fr:=0) (by_:=0) 0 sA (by decide);have l2:=x6 (fr:=0) (by_:=0) 0 sB (by decide);refine(Yjv (Zcb _ _ _ _ hA.1) _ _ (Zcb _ _ _ _ hB.1) l2 ?_).le (by have:=hA.2;have:=hB.2;omega);have l3:subF.shape=true:=by decide
  simp[Tm.shape,Tm.shapes,Tm.head,arK,we,l1,l2,l3,Ty.ok];exact⟨by decide,by decide⟩
structure Q (N:Nat) (u:Tm):Prop where
 n:nB u
 z:u.size<=N
 f:∀B,nB B->B.size<=64->NB 467 (apT u B)
theorem Q.le{N M:Nat}{u:Tm}(h:Q N u)(hl:N<=M):Q M u:=⟨h.n,by have:=h.z;omega,h.f⟩
theorem Q.stuck{N:Nat}{u:Tm}(h:nB u)(hz:u.size<=N)(hN:N<=64)(hk:u.kind≠2):Q N u:=
 ⟨h,hz,fun B hB hz'=> .of (Yhq h hB hk) (by simp only[apT,Tm.size,Tm.sizes];omega)⟩
def Qs(N:Nat)(σ:Int->Tm):Prop:=∀j,Q N (σ j)
theorem Qs.sb{N:Nat}{σ:Int->Tm}(h:Qs N σ):Sb N σ:=fun j=>⟨(h j).n,(h j).z⟩
theorem Qs.ext{N:Nat}{σ:Int->Tm}{B:Tm}(h:Qs N σ)(hB:Q N B):Qs N (ext B σ):=fun j=>by
 unfold Go.Ab.ext;by_cases h0:j=0
 ·rw[if_pos h0];exact hB
 ·rw[if_neg h0];exact h _
theorem qs_v:Qs 3 vT:=fun j=> .stuck (Ye7 j) (by show 1<=3;omega) (by omega) (by show(1:Int)≠2;decide)
theorem Yff(t:Tm)(h:t.shape=true):t.re (zk 0 0) 0=t:=re_id _ 0 h fun p _=>by rw[yw];simp
theorem Qs.lf{N:Nat}{σ:Int->Tm}(h:Qs N σ)(hN:3<=N)(h64:N<=64)(hsh:∀j,0<=j->(σ j).shape=true){a:Tm}(ha:Lf a)(hp:a.shape=true):Q N (a.re (wg σ) 0):=by
 have hb:=ha.sb h.sb hN 0;cases ha with
 |v i=>
  rw[Zb0];have hi:0<=i:=by simp[Tm.shape,vT,Tm.shapes,Tm.head] at hp;exact of_decide_eq_true hp.1.2
  have e:wg σ i 0=σ i:=by unfold wg;rw[if_neg (by omega),Int.sub_zero];exact Yff _ (hsh _ hi)
  rw[e];exact h i
 |num m hm=>rw[Zxc] at hb ⊢;exact .stuck hb.1 hb.2 h64 (Lf.kd (.num m hm))
 |nil=>exact .stuck hb.1 hb.2 h64 (by show(7:Int)≠2;decide)
 |unit=>exact .stuck hb.1 hb.2 h64 (by show(13:Int)≠2;decide)
theorem sb64{N:Nat}{σ:Int->Tm}(h:Sb N σ)(hN:N<=64){B:Tm}(hB:nB B)(hz:B.size<=64):Sb 64 (ext B σ):=(h.le hN).ext hB hz
theorem Qs.lf2{N:Nat}{σ:Int->Tm}(h:Qs N σ)(hN:3<=N)(h64:2*N+1<=64)(hsh:∀j,0<=j->(σ j).shape=true){a:Tm}(ha:Lf a\/(∃x y,Lf x/\Lf y/\a=nT 10 [x,y])\/∃s x,Lf x/\a=lmT s x)(hp:a.shape=true):Q (2*N+1) (a.re (wg σ) 0):=by
 rcases ha with hl|⟨x,y,hx,hy,rfl⟩|⟨s,x,hx,rfl⟩
 ·exact (h.lf hN (by omega) hsh hl hp).le (by omega)
 ·rw[Ya4 10 (by decide) (by decide)];have h1:=hx.sb h.sb hN 0;have h2:=hy.sb h.sb hN 0;refine .stuck (Zkt (by decide) fun x hx=>by simp at hx;rcases hx with rfl|rfl;exact h1.1;exact h2.1) ?_ h64 (by show(10:Int)≠2;decide);have:=h1.2;have:=h2.2;simp only[nT,Tm.size,Tm.sizes];omega
 ·rw[Zkd];have h1:=hx.sb h.sb hN (0+1);refine⟨Zrq h1.1,?_,?_⟩
  ·have:=h1.2;simp only[lmT,Tm.size,Tm.sizes];omega
  ·intro B hB hz;have e:=Zgy s (x.re (wg σ) (0+1)) B;rw[Zg5 _ _ _ 0 (by decide)] at e;have h2:=hx.sb (sb64 h.sb (by omega) hB hz) (by omega) 0;exact(NB.of h2.1 (by have:=h2.2;omega)).st e
theorem Zq1{B:Tm}{σ:Int->Tm}(hB:B.shape=true)(h:∀j,0<=j->(σ j).shape=true)(j:Int)(hj:0<=j):(ext B σ j).shape=true:=by
 unfold ext;by_cases h0:j=0
 ·rw[if_pos h0];exact hB
 ·rw[if_neg h0];exact h _ (by omega)
theorem Zkq(j:Int)(hj:0<=j):(vT j).shape=true:=by simp[Tm.shape,vT,Tm.shapes,Tm.head,arK,we,Ty.isNo];exact decide_eq_true hj
theorem Yix{a:Tm}(h:a.shape=true)(c:Int)(hc:0<=c):a.re (wg vT) c=a:=re_id a c h fun p hp=>by
 have h2:=wv a c p hp;unfold wg;by_cases hi:p.1<p.2
 ·rw[if_pos hi]
 ·rw[if_neg hi,Zb0,yw,if_pos (by omega)];congr 1;omega
theorem Zqx(m:Nat):(Zb1 m).shape=true:=by
 induction m with
 |zero=>rfl
 |succ m ih=>simp[Zb1,Tm.shape,Tm.shapes,Tm.head,arK,we,Ty.isNo,ih]
theorem Mk.nbs{g:List Ty}{s:Ty}{T:Tm}(h:Mk 3 g s T)(h1:s.size≠1)(hg:smalls g)(hss:s.small):∃u,Pst T u/\Q 64 u:=by
 have lf2:∀{a:Tm},(Lf a\/(∃x y,Lf x/\Lf y/\a=nT 10 [x,y])\/∃s x,Lf x/\a=lmT s x)->a.shape=true->Q 7 a:=fun ha hp=>by
  have:=qs_v.lf2 (by omega) (by omega) Zkq ha hp;rw[Yix hp 0 (by omega)] at this;exact this
 have lf:∀{a:Tm},Lf a->a.shape=true->Q 3 a:=fun ha hp=>by
  have:=qs_v.lf (by omega) (by omega) Zkq ha hp;rw[Yix hp 0 (by omega)] at this;exact this
 have hS:=h.shape hg hss;have one:∀{s:Ty},s.shape=true->s.size=1->s.small:=fun hs h=>⟨hs,by omega⟩;cases h with
 |var _ _ _ i hi _=>exact⟨_,.refl _,(lf (.v _) hS).le (by omega)⟩
 |num _ _ m hm=>exact absurd rfl h1
 |nil=>exact absurd rfl h1
 |unit=>exact absurd rfl h1
 |succ _ _ a _ ha=>exact absurd rfl h1
 |plus _ _ a _ ha=>exact absurd rfl h1
 |sub _ _ a _ ha=>exact absurd rfl h1
 |cons _ _ a b _ ha hb=>exact absurd rfl h1
 |pair _ _ s t a b p1 p2 ha hb=>exact⟨_,.refl _,(lf2 (.inr (.inl ⟨a,b,ha.lfb p1,hb.lfb p2,rfl⟩)) hS).le (by omega)⟩
 |lam _ _ s t a p1 p2 ha=>exact⟨_,.refl _,(lf2 (.inr (.inr ⟨_,a,ha.lfb p2,rfl⟩)) hS).le (by omega)⟩
 |app _ _ _ s a b _ hs' h1' ha hb=>
  have sa:=ha.shape (zj hg (ze (one hs' h1') zi)) hss;have sb:=hb.shape hg (one hs' h1');have hB:=lf (hb.lfb h1') sb;have hA:=(qs_v.ext hB).lf2 (by omega) (by omega) (Zq1 sb Zkq) ha.lf2 sa;refine⟨_,?_,hA.le (by omega)⟩;have e:=Zgy s a b;rw[<-Yix sa (0+1) (by decide),Zg5 _ _ _ 0 (by decide)] at e;rw[Yix sa (0+1) (by decide)] at e;exact e
 |fst _ _ _ s a b _ hs' h1' ha hb=>exact⟨_,.one (.p1 (.refl _)),(lf2 ha.lf2 (ha.shape hg hss)).le (by omega)⟩
 |snd _ _ _ s a b _ hs' h1' ha hb=>exact⟨_,.one (.p2 (.refl _)),(lf2 hb.lf2 (hb.shape hg hss)).le (by omega)⟩
 |recu _ _ _ a b m _ hm ha hb=>
  have sb:=hb.shape hg hss;have sa:=ha.shape (zj hg (ze ⟨by decide,by decide⟩ (ze hss zi))) hss;have hB:=lf2 hb.lf2 sb;have nq:∀m,m<3->Q 7 (Zb1 m):=fun m hm=>(lf (.num m hm) (Zqx m)).le (by omega);have qv:Qs 7 vT:=fun j=>(qs_v j).le (by omega);have key:∀(m:Nat) (r:Tm) (N:Nat),m<2->7<=N->2*N+1<=64->Pst (hT 6 s [b,lmT natT (lmT s a),Zb1 m]) r->Q N r->r.shape=true->
   Pst (hT 6 s [b,lmT natT (lmT s a),Zb1 (m+1)]) (a.re (wg (Go.Ab.ext r (Go.Ab.ext (Zb1 m) vT))) 0)/\Q (2*N+1) (a.re (wg (Go.Ab.ext r (Go.Ab.ext (Zb1 m) vT))) 0):=by
   intro m r N hm hN h64 hr hq hs;refine⟨?_,?_⟩
   ·have e:=Zv9 a vT natT s (Zb1 m) _ r hr;rw[Yix sa 2 (by decide)] at e;exact(Pst.one (.rs (.refl _) (.refl _) (.refl _))).trans e
   ·exact Qs.lf2 (Qs.ext (Qs.ext (fun j=>(qs_v j).le (by omega)) ((nq m (by omega)).le (by omega))) hq) (by omega) h64 (Zq1 hs (Zq1 (Zqx m) Zkq)) ha.lf2 sa
  have k0:Pst (hT 6 s [b,lmT natT (lmT s a),Zb1 0]) b:= .one (.rz (.refl _));have hsh:∀m,m<3->(hT 6 s [b,lmT natT (lmT s a),Zb1 m]).shape=true:=fun m' _=>vt hS rfl (by
   have:=zd hS;simp only[hT,Tm.args_mk,List.mem_cons,List.not_mem_nil,or_false,forall_eq_or_imp,forall_eq] at this ⊢;exact⟨this.1,this.2.1,Zqx m'⟩)
  have k1:=key 0 b 7 (by omega) (by omega) (by omega) k0 hB sb;have k2:=key 1 _ 15 (by omega) (by omega) (by omega) k1.1 k1.2 (Zfl k1.1 (hsh 1 (by omega)))
  match m,hm with
  |0,_=>exact⟨_,k0,hB.le (by omega)⟩
  |1,_=>exact⟨_,k1.1,k1.2.le (by omega)⟩
  |2,_=>exact⟨_,k2.1,k2.2.le (by omega)⟩
 |fold _ _ _ a b c _ ha hb hc=>
  have sb:=hb.shape hg hss;have sa:=ha.shape (zj hg (ze ⟨by decide,by decide⟩ (ze ⟨by decide,by decide⟩ (ze hss zi)))) hss;have sc:=hc.shape hg ⟨by decide,by decide⟩;have hB:=lf2 hb.lf2 sb;have hA:=lf2 ha.lf2 sa;have hC:=lf (hc.lfb rfl) sc;by_cases h7:c.kind=7
  ·obtain ⟨j,s',rfl⟩:=Zfb sc h7 rfl;exact⟨b,.one (.fz (.refl _)),hB.le (by omega)⟩
  ·have h8:c.kind≠8:=by
    cases hc.lfb rfl with
    |v i=>show(1:Int)≠8;decide
    |num m h=>match m,h with
     |0,_=>decide
     |1,_=>decide
     |2,_=>decide
    |nil=>decide
    |unit=>decide
   refine⟨_,.refl _,.stuck (Zy9 hB.n (Zrq (Zrq (Zrq hA.n))) hC.n h7 h8) ?_ (by omega) (by show(9:Int)≠2;decide)⟩;have:=hB.z;have:=hA.z;have:=hC.z;simp only[hT,lmT,Tm.size,Tm.sizes];omega
 |ctx _ _ _ s2 a _ i hi h h1' ha=>
  have p1:=s.size_pos;have p2:=s2.size_pos;have hs:=hg _ (List.getElem_mem (n:=g.length-1-i) (by omega));refine absurd ?_ h1;have e:at0 g (g.length-1-i)=g[g.length-1-i]'(by omega):=by unfold at0;grind
  rw[<-e,h] at hs;have:=hs.2;simp[xj,Ty.size,Ty.sizes] at this;omega
theorem Ycm{a a':Tm}(h:Pst a a')(b:Tm):Pst (b.re (xy 0 a) 0) (b.re (xy 0 a') 0):=by
 induction h with
 |refl=>exact .refl _
 |step h1 _ ih=>exact .step (Zwg (.refl b) h1) ih
theorem Ygx{N:Nat}{n:Tm}(h:nB n)(hz:n.size<=N):Sb N (Ydt n):=fun j=>by
 have:=n.size_pos;unfold Ydt;by_cases h0:j=0
 ·rw[if_pos h0];exact⟨h,hz⟩
 ·rw[if_neg h0];exact⟨Ye7 _,by show 1<=N;omega⟩
theorem Ycs{n:Tm}(h:n.shape=true)(j:Int)(hj:0<=j):(Ydt n j).shape=true:=by
 unfold Ydt;by_cases h0:j=0
 ·rw[if_pos h0];exact h
 ·rw[if_neg h0];exact Zkq _ (by omega)
theorem Mk.nrm1{g:List Ty}{s:Ty}{T:Tm}(h:Mk 3 g s T)(h1:s.size=1)(hg:smalls g)(hs:s.small):NB 40 T:=by
 have:=h.nb h1 hg hs (σ:=vT) (N:=3) (by omega) (fun j=>⟨Ye7 j,by show 1<=3;omega⟩) Zkq fun i _ _ _ _ B hB hz=> .of (Yhq (Ye7 _) hB (by show(1:Int)≠2;decide)) (by
  simp only[apT,vT,Tm.size,Tm.sizes];omega)
 rw[Yix (h.shape hg hs) 0 (by decide)] at this;exact this
theorem Mk.nrm2{g:List Ty}{s:Ty}{T t:Tm}(hT:Mk 3 (g++[s]) natT T)(ht:Mk 3 g s t)(hg:smalls g)(hs:s.small):NB 467 (T.re (xy 0 t) 0):=by
 have hg':=zj hg (ze hs zi);have sT:=ht.shape hg hs;have key:∃n,Pst t n/\nB n/\n.size<=64/\(s.size≠1->∀B,nB B->B.size<=64->NB 467 (apT n B)):=by
  by_cases h1:s.size=1
  ·obtain ⟨n,a,b,c⟩:=ht.nrm1 h1 hg hs;exact⟨n,a,b,by omega,fun h=>absurd h1 h⟩
  ·obtain ⟨n,a,q⟩:=ht.nbs h1 hg hs;exact⟨n,a,q.n,q.z,fun _=>q.f⟩
 obtain⟨n,p,hn,hz,hf⟩:=key;have sn:=Zfl p sT;refine NB.st ?_ (Ycm p T);rw[Zqb];refine hT.nb rfl hg' ⟨by decide,by decide⟩ (N:=64) (by omega) (Ygx hn hz) (Ycs sn) fun i s' t' hi h B hB hzB=> ?_;by_cases h0:i=0
 ·subst h0;have e:at0 (g++[s]) ((g++[s]).length-1-0)=s:=by unfold at0;simp
  rw[e] at h;refine hf ?_ B hB hzB;rw[h];exact(Zpa s' t').2
 ·have e:Ydt n (i:Int)=vT ((i:Int)-1):=by unfold Ydt;rw[if_neg (by omega)]
  rw[e];exact .of (Yhq (Ye7 _) hB (by show(1:Int)≠2;decide)) (by simp only[apT,vT,Tm.size,Tm.sizes];omega)
def Ylt(m n j:Int):Tm:=vT (if j>=m then j+n else j)
theorem Zs2{m n:Int}(hm:0<=m)(hn:0<=m+n)(t:Tm):t.re (zk m n) 0=t.re (wg (Ylt m n)) 0:=by
 refine re_congr t 0 fun p hp=> ?_;rw[yw];simp only[wg,Ylt];by_cases h:p.1<p.2
 ·rw[if_neg (by omega),if_pos h]
 ·rw[if_neg h,Zb0,yw];by_cases h3:p.1-p.2>=m
  ·rw[if_pos h3,if_pos h3,if_pos (by omega)];congr 1;omega
  ·rw[if_neg h3,if_neg h3,if_pos (by omega)];congr 1;omega
theorem Yf4{t u:Tm}(h:Pst t u){m n:Int}(hm:0<=m)(hn:0<=m+n):Pst (t.re (zk m n) 0) (u.re (zk m n) 0):=by
 induction h with
 |refl t=>exact .refl _
 |step h1 _ ih=>
  refine .step ?_ ih;rw[Zs2 hm hn,Zs2 hm hn];exact Zan (fun i c _=> .refl _) h1 0 (Int.le_refl _)
theorem NB.lft{N:Nat}{t:Tm}(h:NB N t){m n:Int}(hm:0<=m)(hn:0<=m+n):NB N (t.re (zk m n) 0):=by
 obtain⟨u,h1,h2,h3⟩:=h;exact⟨_,Yf4 h1 hm hn,Zcb _ _ _ _ h2,by have:=uc u m n 0;omega⟩
inductive FB:Fm->Nat->Prop
 |eq {k h a b M N} (ha:NB M a) (hb:NB N b):FB (.mk k h [a,b] []) (1+M+N)
 |two {k h x y M N} (hx:FB x M) (hy:FB y N):FB (.mk k h [] [x,y]) (1+M+N)
 |qu {k h x M} (hx:FB x M):FB (.mk k h [] [x]) (1+M)
theorem FB.nrm{f:Fm}{M:Nat}(h:FB f M):(xf f).2=0->(xf f).1.size<=M:=by
 induction h with
 | @eq k h a b M N ha hb=>
   intro hn;unfold xf at hn ⊢;simp only[u2,xm] at hn ⊢;by_cases h1:(xr a 1000).2.2=0
   ·by_cases h2:(xr b 1000).2.2=0
    ·have:=ha.norm h1;have:=hb.norm h2;simp[h1,h2,Fm.size,Fm.sizes];omega
    ·simp[h1,h2] at hn
   ·simp[h1] at hn
 | @two k h x y M N hx hy ih1 ih2=>
   intro hn;unfold xf at hn ⊢;simp only[u2,xm] at hn ⊢;by_cases h1:(xf x).2=0
   ·by_cases h2:(xf y).2=0
    ·have:=ih1 h1;have:=ih2 h2;simp[h1,h2,Fm.size,Fm.sizes];omega
    ·simp[h1,h2] at hn
   ·simp[h1] at hn
 | @qu k h x M hx ih=>
   intro hn;unfold xf at hn ⊢;simp only[u2,xm] at hn ⊢;by_cases h1:(xf x).2=0
   ·have:=ih h1;simp[h1,Fm.size,Fm.sizes];omega
   ·simp[h1] at hn
theorem FB.rlft{f:Fm}{M:Nat}(h:FB f M):∀(b fr n:Int),0<=fr+b->0<=fr+b+n->FB (f.re (fun b t=>t.re (zk (fr+b) n) 0) b) M:=by
 induction h with
 |eq ha hb=>exact fun b fr n h1 h2=> .eq (ha.lft h1 h2) (hb.lft h1 h2)
 | @two k h x y M N hx hy ih1 ih2=>
   intro b fr n h1 h2;have:b<=upF k b:=by unfold upF;split<;>omega
   exact .two (ih1 _ fr n (by omega) (by omega)) (ih2 _ fr n (by omega) (by omega))
 | @qu k h x M hx ih=>
   intro b fr n h1 h2;have:b<=upF k b:=by unfold upF;split<;>omega
   exact .qu (ih _ fr n (by omega) (by omega))
theorem FB.lft{f:Fm}{M:Nat}(h:FB f M){fr n:Int}(h1:0<=fr)(h2:0<=fr+n):FB (f.lft fr n) M:=h.rlft 0 fr n (by omega) (by omega)
def FL(f:Fm)(M:Nat):Prop:=∃N,N<=M/\FB f N
theorem FL.le{f:Fm}{M N:Nat}(h:FL f M)(hl:M<=N):FL f N:=by obtain⟨K,h1,h2⟩:=h;exact⟨K,by omega,h2⟩
theorem FL.lft{f:Fm}{M:Nat}(h:FL f M){fr n:Int}(h1:0<=fr)(h2:0<=fr+n):FL (f.lft fr n) M:=by obtain⟨K,q1,q2⟩:=h;exact⟨K,q1,q2.lft h1 h2⟩
theorem FL.nrm{f:Fm}{M:Nat}(h:FL f M)(hn:(xf f).2=0):(xf f).1.size<=M:=by obtain⟨K,q1,q2⟩:=h;have:=q2.nrm hn;omega
theorem FL.two{k:Int}{x y:Fm}{M N:Nat}(hx:FL x M)(hy:FL y N):FL (Zal k x y) (1+M+N):=by
 obtain⟨K,q1,q2⟩:=hx;obtain⟨L,q3,q4⟩:=hy;exact⟨1+K+L,by omega,.two q2 q4⟩
theorem FL.qu{k:Int}{s:Ty}{x:Fm}{M:Nat}(hx:FL x M):FL (quF k s x) (1+M):=by
 obtain⟨K,q1,q2⟩:=hx;exact⟨1+K,by omega,.qu q2⟩
theorem FL.eq{a b:Tm}{M N:Nat}(ha:NB M a)(hb:NB N b):FL (eqF a b) (1+M+N):=⟨_,Nat.le_refl _,.eq ha hb⟩
theorem yd:natT.small:=⟨by decide,by decide⟩
theorem Dk.tm3(d:Dk){g:List Ty}(hg:smalls g):Mk 3 g natT (Dk.tm 3 d g natT).1:=Dk.tm_mk 3 d g natT hg yd (by omega) (by omega)
theorem Mk.z24{g:List Ty}{x:Tm}(h:Mk 3 g natT x)(hg:smalls g):x.size<=24:=(h.size hg yd).2 rfl
theorem Dk.eqf_fl(d:Dk){g:List Ty}(hg:smalls g):FL (d.eqf g).1 81/\(d.eqf g).1.size<=49:=by
 have h1:=Dk.tm3 d hg;have h2:=Dk.tm3 (Dk.tm 3 d g natT).2 hg;refine⟨.eq (h1.nrm1 rfl hg yd) (h2.nrm1 rfl hg yd),?_⟩;have:=h1.z24 hg;have:=h2.z24 hg;simp only[Dk.eqf,eqF,Fm.size,Fm.sizes,List.map_cons,List.map_nil,List.sum_cons,List.sum_nil];omega
theorem Zpb(k:Int)(x y:Fm):(Zal k x y).size=1+x.size+y.size:=by simp only[Zal,Fm.size,Fm.sizes,List.map_nil,List.sum_nil];omega
theorem Ze5(k:Int)(s:Ty)(x:Fm):(quF k s x).size=1+x.size:=by simp only[quF,Fm.size,Fm.sizes,List.map_nil,List.sum_nil];omega
theorem Zke(a b:Tm):(eqF a b).size=1+a.size+b.size:=by simp only[eqF,Fm.size,Fm.sizes,List.map_cons,List.map_nil,List.sum_cons,List.sum_nil];omega
theorem Dk.fm_fl:∀(n:Nat) (d:Dk) (g:List Ty),smalls g->FL (Dk.fm n d g).1 (82*2^n-1)/\(Dk.fm n d g).1.size+1<=50*2^n:=by
 intro n;induction n with
 |zero=>intro d g hg;have:=d.eqf_fl hg;exact⟨this.1,by have:=this.2;simp only[Dk.fm];omega⟩
 |succ n ih=>
  intro d g hg;have s1:=Dk.type1 (d.next 9).2;have s0:=Dk.type0 (d.next 9).2;have s0':=z8 s0.1 s0.2;have hp:1<=2^n:=Nat.one_le_two_pow;have hq:2^(n+1)=2*2^n:=by rw[Nat.pow_succ];omega
  have tw:∀(k:Int) (x y:Fm),FL x (82*2^n-1)/\x.size+1<=50*2^n->FL y (82*2^n-1)/\y.size+1<=50*2^n->FL (Zal k x y) (82*2^(n+1)-1)/\(Zal k x y).size+1<=50*2^(n+1):=by
   intro k x y h1 h2;have:=h1.2;have:=h2.2;exact⟨(h1.1.two h2.1).le (by omega),by rw[Zpb];omega⟩
  have qu:∀(k:Int) (s:Ty) (x:Fm),FL x (82*2^n-1)/\x.size+1<=50*2^n->FL (quF k s x) (82*2^(n+1)-1)/\(quF k s x).size+1<=50*2^(n+1):=by
   intro k s x h1;have:=h1.2;exact⟨h1.1.qu.le (by omega),by rw[Ze5];omega⟩
  simp only[Dk.fm];repeat' split
  ·exact tw _ _ _ (ih _ _ hg) (ih _ _ hg)
  ·exact tw _ _ _ (ih _ _ hg) (ih _ _ hg)
  ·exact qu _ _ _ (ih _ _ (zj hg (ze s1 zi)))
  ·exact qu _ _ _ (ih _ _ (zj hg (ze s1 zi)))
  ·exact qu _ _ _ (ih _ _ (zj hg (ze s0' zi)))
  ·have:=(d.next 9).2.eqf_fl hg;exact⟨this.1.le (by omega),by have:=this.2;omega⟩
abbrev noY:Ty:= .mk 0 []
def Zby(t:Tm):Fm:=eqF (t.re (zk 0 1) 0) (vT 0)
inductive MkQ:Nat->Ck->Pf->Prop
 |hyp {n c} (i:Nat) (h:i<c.hyps.length):MkQ n c (va i)
 |lem {n c} (i:Nat) (h:i<c.lems.length):MkQ n c (.mk 2 i noY [] [] [])
 |ref {n c t} (h:Mk 3 c.tys natT t):MkQ n c (y8 t)
 |and {n c p q} (hp:MkQ n c p) (hq:MkQ n c q):MkQ (n+1) c (.mk 3 0 noY [] [] [p,q])
 |prj {n c k p q} (hk:k=4\/k=5) (hp:MkQ n c p) (hq:MkQ n c q):MkQ (n+1) c (.mk k 0 noY [] [] [.mk 3 0 noY [] [] [p,q]])
 |imp {n c p} (d:Dk) (hp:MkQ n (c.with_ (Dk.fm 1 d c.tys).1) p):MkQ (n+1) c (.mk 6 0 noY [] [(Dk.fm 1 d c.tys).1] [p])
 |app {n c p q x us} (hx:yo p c=(x,us,0)) (hp:MkQ n c p) (hq:MkQ n (c.with_ x) q):MkQ (n+1) c (.mk 7 0 noY [] [] [.mk 6 0 noY [] [x] [q],p])
 |all {n c k s p} (hk:k=8\/k=12) (hs:s.small) (hp:MkQ n (c.below [s]) p):MkQ (n+1) c (.mk k 0 s [] [] [p])
 |at_ {n c k s t p} (hk:k=8\/k=12) (hs:s.small) (ht:Mk 3 c.tys s t) (hp:MkQ n (c.below [s]) p):MkQ (n+1) c (.mk (k+1) 0 noY [t] [] [.mk k 0 s [] [] [p]])
 |ex {n c k t} (hk:k=5\/k=7) (ht:Mk 3 c.tys natT t):MkQ (n+1) c (.mk (2*k) 0 noY [t] [quF k natT (Zby t)] [y8 t])
 |wit {n c k s t p x us} (hk:k=5\/k=7) (hs:s.small) (hx:yo p c=(x,us,0)) (ht:Mk 3 c.tys s t) (hp:MkQ n c p):MkQ (n+1) c (.mk (2*k) 0 noY [t] [quF k s (x.lft 0 1)] [p])
 |opn {n c k t q} (hk:k=5\/k=7) (ht:Mk 3 c.tys natT t) (hq:MkQ n ((c.below [natT]).with_ (Zby t)) q):MkQ (n+1) c (.mk (2*k+1) 0 noY [] [] [.mk (2*k) 0 noY [t] [quF k natT (Zby t)] [y8 t],q])
 |opn2 {n c k t} (hk:k=5\/k=7) (ht:Mk 3 c.tys natT t):MkQ (n+1) c (.mk (2*k+1) 0 noY [] [] [.mk (2*k) 0 noY [t] [quF k natT (Zby t)] [y8 t],.mk (2*k) 0 noY [vT 0] [(quF k natT (Zby t)).lft 0 1] [va 0]])
 |ind {n c t p x us} (hx:yo p c=(x,us,0)) (ht:Mk 3 c.tys natT t) (hp:MkQ n c p):MkQ (n+1) c (.mk 16 0 noY [t] [x.lft 0 1] [p,va 0])
 |lst {n c t p x us} (hx:yo p c=(x,us,0)) (ht:Mk 3 c.tys listT t) (hp:MkQ n c p):MkQ (n+1) c (.mk 17 0 noY [t] [x.lft 0 1] [p,va 0])
 |zer {n c t} (ht:Mk 3 c.tys natT t):MkQ (n+1) c (.mk 16 0 noY [t] [eqF (apT (apT plusT zT) (vT 0)) (vT 0)] [y8 zT,Zkj (lmT natT (sT (vT 0))) (apT (apT plusT zT) (vT 0)) (va 0)])
 |sub {n c t u} (ht:Mk 3 c.tys natT t) (hu:Mk 3 c.tys natT u):MkQ (n+1) c (.mk 19 0 noY [] [eqF (u.re (zk 0 1) 0) (u.re (zk 0 1) 0)] [y8 t,y8 u])
 |cho {n c s t} (hs:s.small) (ht:Mk 3 (c.tys++[s]) natT t):MkQ (n+1) c (.mk 20 0 noY [] [] [.mk 8 0 s [] [] [.mk 10 0 noY [t] [quF 5 natT (Zby t)] [y8 t]]])
theorem wj{r:Res}{x:Fm}{us:List Int}(h:Zjj r=(x,us,0)):r.2.2=0/\r.1=x/\x.err=0:=by
 unfold Zjj at h;by_cases h1:r.2.2≠0
 ·rw[if_pos h1] at h;have:=congrArg (fun q:Res=>q.2.2) h;simp only[yh] at this;exact absurd this h1
 ·rw[if_neg h1] at h;by_cases h2:r.1.err≠0
  ·rw[if_pos h2] at h;have:=congrArg (fun q:Res=>q.2.2) h;simp[yh] at this
  ·rw[if_neg h2] at h;have h3:=congrArg (fun q:Res=>q.1) h;simp only at h3;refine⟨Decidable.not_not.1 h1,h3,?_⟩;rw[<-h3];exact Decidable.not_not.1 h2
theorem yy{e:Int}(h:(yh e).2.2=0):e=0:=h
theorem Zev{P:Prop}[Decidable P]{e:Int}{r:Res}(he:P->e≠0)(h:(if P then yh e else r).2.2=0):(if P then yh e else r)=r:=by
 by_cases hp:P
 ·rw[if_pos hp] at h;exact absurd (yy h) (he hp)
 ·rw[if_neg hp]
section
variable {c:Ck} {p q:Pf} {x:Fm} {us:List Int}
theorem Zvz{r:Res}(h:r.2.2=0):∃us,r=(r.1,us,0):=⟨r.2.1,by obtain⟨a,b,e⟩:=r;simp only at h;subst h;rfl⟩
theorem Zju(h:yo (.mk 3 0 noY [] [] [p,q]) c=(x,us,0)):∃a b ua ub,yo p c=(a,ua,0)/\yo q c=(b,ub,0)/\x=Zal 2 a b:=by
 have e:yo (.mk 3 0 noY [] [] [p,q]) c=Zjj (Yhn (yo p) (yo q) c):=by rw[wz];rfl
 rw[e] at h;obtain⟨h1,h2,h3⟩:=wj h;unfold Yhn at h1 h2;by_cases hp:(yo p c).2.2≠0
 ·rw[if_pos hp] at h1;exact absurd (yy h1) hp
 rw[if_neg hp] at h1 h2;obtain⟨ua,ha⟩:=Zvz (Decidable.not_not.1 hp);obtain⟨ub,hb⟩:=Zvz (r:=yo q c) h1;exact⟨_,_,ua,ub,ha,hb,h2.symm⟩
theorem Zne{k:Int}(hk:k=4\/k=5)(h:yo (.mk k 0 noY [] [] [.mk 3 0 noY [] [] [p,q]]) c=(x,us,0)):∃a b ua ub,yo p c=(a,ua,0)/\yo q c=(b,ub,0)/\(x=a\/x=b):=by
 have e:yo (.mk k 0 noY [] [] [.mk 3 0 noY [] [] [p,q]]) c=Zjj (Yfs (k-4).toNat (yo (.mk 3 0 noY [] [] [p,q])) c):=by rcases hk with rfl|rfl<;>(rw[wz];rfl)
 rw[e] at h;obtain⟨h1,h2,h3⟩:=wj h;unfold Yfs at h1 h2;by_cases hp:(yo (.mk 3 0 noY [] [] [p,q]) c).2.2≠0
 ·rw[if_pos hp] at h1;exact absurd (yy h1) hp
 rw[if_neg hp] at h1 h2;obtain⟨u,hu⟩:=Zvz (Decidable.not_not.1 hp);obtain⟨a,b,ua,ub,ha,hb,hx⟩:=Zju hu;refine⟨a,b,ua,ub,ha,hb,?_⟩;rw[hx] at h2;rw[if_neg (by simp[Zal])] at h2;rcases hk with rfl|rfl
 ·exact .inl h2.symm
 ·exact .inr h2.symm
theorem Zjy{f:Fm}(h:yo (.mk 6 0 noY [] [f] [p]) c=(x,us,0)):∃b ub,yo p (c.with_ f)=(b,ub,0)/\x=Zal 3 f b:=by
 have e:yo (.mk 6 0 noY [] [f] [p]) c=Zjj (Zrm f (yo p) c):=by rw[wz];rfl
 rw[e] at h;obtain⟨h1,h2,h3⟩:=wj h;unfold Zrm at h1 h2;by_cases a1:y6 c.tys f≠0
 ·rw[if_pos a1] at h1;exact absurd (yy h1) a1
 rw[if_neg a1] at h1 h2;by_cases a2:c.room 0 1≠0
 ·rw[if_pos a2] at h1;exact absurd (yy h1) (by decide)
 rw[if_neg a2] at h1 h2;obtain⟨ub,hb⟩:=Zvz (r:=yo p (c.with_ f)) h1;exact⟨_,ub,hb,h2.symm⟩
theorem Zlr{f:Fm}(h:yo (.mk 7 0 noY [] [] [.mk 6 0 noY [] [f] [q],p]) c=(x,us,0)):∃ub,yo q (c.with_ f)=(x,ub,0):=by
 have e:yo (.mk 7 0 noY [] [] [.mk 6 0 noY [] [f] [q],p]) c=Zjj (Zra (yo (.mk 6 0 noY [] [f] [q])) (yo p) c):=by rw[wz];rfl
 rw[e] at h;obtain⟨h1,h2,h3⟩:=wj h;unfold Zra at h1 h2;by_cases a1:(yo (.mk 6 0 noY [] [f] [q]) c).2.2≠0
 ·rw[if_pos a1] at h1;exact absurd (yy h1) a1
 rw[if_neg a1] at h1 h2;obtain⟨u,hu⟩:=Zvz (Decidable.not_not.1 a1);obtain⟨b,ub,hb,hx⟩:=Zjy hu;rw[hx] at h1 h2;rw[if_neg (by simp[Zal])] at h1 h2;by_cases a3:(yo p c).2.2≠0
 ·rw[if_pos a3] at h1;exact absurd (yy h1) a3
 rw[if_neg a3] at h2;have e2:x=b:=h2.symm;subst e2;exact⟨ub,hb⟩
theorem Zhe{k:Int}{s:Ty}(hk:k=8\/k=12)(h:yo (.mk k 0 s [] [] [p]) c=(x,us,0)):∃b ub,yo p (c.below [s])=(b,ub,0)/\x=quF (if k=8 then 4 else 6) s b:=by
 have e:yo (.mk k 0 s [] [] [p]) c=Zjj (Yip k s (yo p) c):=by rcases hk with rfl|rfl<;>(rw[wz];rfl)
 rw[e] at h;obtain⟨h1,h2,h3⟩:=wj h;unfold Yip at h1 h2;by_cases a1:c.room 1 0≠0
 ·rw[if_pos a1] at h1;exact absurd (yy h1) (by decide)
 rw[if_neg a1] at h1 h2;by_cases a2:(yo p (c.below [s])).2.2≠0
 ·rw[if_pos a2] at h1;exact absurd (yy h1) a2
 rw[if_neg a2] at h1 h2;obtain⟨ub,hb⟩:=Zvz (Decidable.not_not.1 a2);refine⟨_,ub,hb,?_⟩;rcases hk with rfl|rfl
 ·rw[if_pos rfl] at h2 ⊢;exact h2.symm
 ·rw[if_neg (by decide)] at h1 h2 ⊢;by_cases a3:Yf5 (yo p (c.below [s])).2.1=true
  ·rw[if_pos a3] at h1;exact absurd (yy h1) (by decide)
  ·rw[if_neg a3] at h2;exact h2.symm
theorem Zt8{k:Int}{s:Ty}{t:Tm}(hk:k=8\/k=12)(h:yo (.mk (k+1) 0 noY [t] [] [.mk k 0 s [] [] [p]]) c=(x,us,0)):∃b ub,yo p (c.below [s])=(b,ub,0)/\x=b.put 0 t:=by
 have e:yo (.mk (k+1) 0 noY [t] [] [.mk k 0 s [] [] [p]]) c=Zjj (atR (k+1) t (yo (.mk k 0 s [] [] [p])) c):=by rcases hk with rfl|rfl<;>(rw[wz];rfl)
 rw[e] at h;obtain⟨h1,h2,h3⟩:=wj h;unfold atR at h1 h2;by_cases a1:(xq c.tys t).2≠0
 ·rw[if_pos a1] at h1;exact absurd (yy h1) a1
 rw[if_neg a1] at h1 h2;by_cases a2:(yo (.mk k 0 s [] [] [p]) c).2.2≠0
 ·rw[if_pos a2] at h1;exact absurd (yy h1) a2
 rw[if_neg a2] at h1 h2;obtain⟨u,hu⟩:=Zvz (Decidable.not_not.1 a2);obtain⟨b,ub,hb,hx⟩:=Zhe hk hu;refine⟨b,ub,hb,?_⟩;split at h1
 ·exact absurd (yy h1) (by decide)
 ·next a3=>
  rw[if_neg a3] at h2;split at h1
  ·exact absurd (yy h1) (by decide)
  ·next a4=>
   rw[if_neg a4] at h2;have e3:(yo (.mk k 0 s [] [] [p]) c).1.args.getD 0 noFm=b:=by rw[hx];rfl
   rw[e3] at h1 h2;simp only[Zey] at h1 h2;rw[if_pos h1] at h2;exact h2.symm
theorem Zdk{k:Int}{f:Fm}{t:Tm}(hk:k=10\/k=14)(h:yo (.mk k 0 noY [t] [f] [p]) c=(x,us,0)):x=f:=by
 have e:yo (.mk k 0 noY [t] [f] [p]) c=Zjj (exR k f t (yo p) c):=by rcases hk with rfl|rfl<;>(rw[wz];rfl)
 rw[e] at h;obtain⟨h1,h2,h3⟩:=wj h;unfold exR at h1 h2;split at h1
 ·next a=>exact absurd (yy h1) a
 ·next a1=>
  rw[if_neg a1] at h2;split at h1
  ·exact absurd (yy h1) (by decide)
  ·next a2=>
   rw[if_neg a2] at h2;split at h1
   ·next a=>exact absurd (yy h1) a
   ·next a3=>
    rw[if_neg a3] at h2;split at h1
    ·exact absurd (yy h1) (by decide)
    ·next a4=>
     rw[if_neg a4] at h2;exact h2.symm
theorem Zfg{k:Int}{s:Ty}{f:Fm}{t:Tm}(hk:k=5\/k=7)(h:yo (.mk (2*k+1) 0 noY [] [] [.mk (2*k) 0 noY [t] [quF k s f] [p],q]) c=(x,us,0)):
 ∃b ub y,yo q ((c.below [s]).with_ f)=(b,ub,0)/\Za9 b=(y,0)/\x=y.lft 1 (-1):=by
 have e:yo (.mk (2*k+1) 0 noY [] [] [.mk (2*k) 0 noY [t] [quF k s f] [p],q]) c=Zjj (Yfu (2*k+1) (yo (.mk (2*k) 0 noY [t] [quF k s f] [p])) (yo q) c):=by rcases hk with rfl|rfl<;>(rw[wz];rfl)
 rw[e] at h;obtain⟨h1,h2,h3⟩:=wj h;unfold Yfu at h1 h2;by_cases a1:(yo (.mk (2*k) 0 noY [t] [quF k s f] [p]) c).2.2≠0
 ·rw[if_pos a1] at h1;exact absurd (yy h1) a1
 rw[if_neg a1] at h1 h2;obtain⟨u,hu⟩:=Zvz (Decidable.not_not.1 a1);have hx:=Zdk (by omega) hu;split at h1
 ·exact absurd (yy h1) (by decide)
 next a2=>
 rw[if_neg a2] at h2;split at h1
 ·exact absurd (yy h1) (by decide)
 next a3=>
 rw[if_neg a3] at h2;have eo:Zhz (yo q) c (yo (.mk (2*k) 0 noY [t] [quF k s f] [p]) c).1=yo q ((c.below [s]).with_ f):=by
  unfold Zhz;rw[hx];rfl
 rw[eo] at h1 h2;by_cases a4:(yo q ((c.below [s]).with_ f)).2.2≠0
 ·rw[if_pos a4] at h1;exact absurd (yy h1) a4
 rw[if_neg a4] at h1 h2;obtain⟨ub,hb⟩:=Zvz (Decidable.not_not.1 a4);by_cases a5:(Za9 (yo q ((c.below [s]).with_ f)).1).2≠0
 ·rw[if_pos a5] at h1;exact absurd (yy h1) a5
 rw[if_neg a5] at h1 h2;refine⟨_,ub,(Za9 (yo q ((c.below [s]).with_ f)).1).1,hb,?_,?_⟩
 ·exact Prod.ext rfl (Decidable.not_not.1 a5)
 ·split at h1
  ·exact absurd (yy h1) (by decide)
  ·next a6=>rw[if_neg a6] at h2;exact h2.symm
theorem Ze7{f:Fm}{t:Tm}(h:yo (.mk 16 0 noY [t] [f] [p,q]) c=(x,us,0)):x=f.put 0 t:=by
 have e:yo (.mk 16 0 noY [t] [f] [p,q]) c=Zjj (Ygl f t (yo p) (yo q) c):=by rw[wz];rfl
 rw[e] at h;obtain⟨h1,h2,h3⟩:=wj h;unfold Ygl at h1 h2;have e0:=Zev (fun a=>a) h1;rw[e0] at h1 h2;have e1:=Zev (fun a=>a) h1;rw[e1] at h1 h2;have e2:=Zev (fun a=>a) h1;rw[e2] at h1 h2;have e3:=Zev (fun _=>by decide) h1;rw[e3] at h1 h2;have e4:=Zev (fun a=>a) h1;rw[e4] at h1 h2;simp only[Zey] at h1 h2;rw[if_pos h1] at h2;exact h2.symm
theorem Zmk{f:Fm}{t:Tm}(h:yo (.mk 17 0 noY [t] [f] [p,q]) c=(x,us,0)):x=f.put 0 t:=by
 have e:yo (.mk 17 0 noY [t] [f] [p,q]) c=Zjj (Zrw f t (yo p) (yo q) c):=by rw[wz];rfl
 rw[e] at h;obtain⟨h1,h2,h3⟩:=wj h;unfold Zrw at h1 h2;have e0:=Zev (fun a=>a) h1;rw[e0] at h1 h2;have e1:=Zev (fun a=>a) h1;rw[e1] at h1 h2;have e2:=Zev (fun a=>a) h1;rw[e2] at h1 h2;have e3:=Zev (fun _=>by decide) h1;rw[e3] at h1 h2;have e4:=Zev (fun a=>a) h1;rw[e4] at h1 h2;simp only[Zey] at h1 h2;rw[if_pos h1] at h2;exact h2.symm
theorem Zsa{t:Tm}(h:yo (y8 t) c=(x,us,0)):x=eqF t t:=by
 have e:yo (y8 t) c=Zjj (Zqn t c):=by rw[wz];rfl
 rw[e] at h;obtain⟨h1,h2,h3⟩:=wj h;exact h2.symm
theorem Zrf{f:Fm}{t u:Tm}(h:yo (.mk 19 0 noY [] [f] [y8 t,q]) c=(x,us,0)):x=f.put 0 t:=by
 have e:yo (.mk 19 0 noY [] [f] [y8 t,q]) c=Zjj (Zj2 f (yo (y8 t)) (yo q) c):=by rw[wz];rfl
 rw[e] at h;obtain⟨h1,h2,h3⟩:=wj h;unfold Zj2 at h1 h2;split at h1
 ·next a=>exact absurd (yy h1) a
 next a1=>
 rw[if_neg a1] at h2;by_cases a2:(yo (y8 t) c).2.2≠0
 ·rw[if_pos a2] at h1;exact absurd (yy h1) a2
 rw[if_neg a2] at h1 h2;obtain⟨u,hu⟩:=Zvz (Decidable.not_not.1 a2);have hx:=Zsa hu;rw[hx] at h1 h2;rw[if_neg (by simp[eqF])] at h1 h2;have e0:(eqF t t).terms.getD 0 noTm=t:=rfl;have e1:(eqF t t).terms.getD 1 noTm=t:=rfl;rw[e0,e1] at h1 h2;split at h1
 ·next a=>exact absurd (yy h1) a
 next a3=>
 rw[if_neg a3] at h2;simp only[Zey] at h1 h2;rw[if_pos h1] at h2;exact h2.symm
theorem Yak{i:Nat}(hi:i<c.hyps.length)(h:yo (va i) c=(x,us,0)):x∈c.hyps:=by
 have e:yo (va i) c=Zjj (Yik c i):=by rw[wz];rfl
 rw[e] at h;obtain⟨h1,h2,h3⟩:=wj h;unfold Yik at h2;rw[if_neg (by omega)] at h2;simp only[Int.toNat_natCast] at h2;rw[<-h2,Zda (by omega)];exact List.getElem_mem _
theorem Zzd{i:Nat}(hi:i<c.lems.length)(h:yo (.mk 2 i noY [] [] []) c=(x,us,0)):x∈c.lems:=by
 have e:yo (.mk 2 i noY [] [] []) c=Zjj (Yim c i):=by rw[wz];rfl
 rw[e] at h;obtain⟨h1,h2,h3⟩:=wj h;unfold Yim at h2;rw[if_neg (by omega)] at h2;simp only[Int.toNat_natCast] at h2;rw[<-h2,Zda hi];exact List.getElem_mem _
theorem Zrz{s:Ty}{f:Fm}{t:Tm}(h:yo (.mk 20 0 noY [] [] [.mk 8 0 s [] [] [.mk 10 0 noY [t] [quF 5 natT f] [p]]]) c=(x,us,0)):
 x=quF 5 (xj s natT) (quF 4 s ((f.lft 2 1).put 0 appV)):=by
 have e:yo (.mk 20 0 noY [] [] [.mk 8 0 s [] [] [.mk 10 0 noY [t] [quF 5 natT f] [p]]]) c=Zjj (Ze6 (yo (.mk 8 0 s [] [] [.mk 10 0 noY [t] [quF 5 natT f] [p]])) c):=by rw[wz];rfl
 rw[e] at h;obtain⟨h1,h2,h3⟩:=wj h;unfold Ze6 at h1 h2;by_cases a1:(yo (.mk 8 0 s [] [] [.mk 10 0 noY [t] [quF 5 natT f] [p]]) c).2.2≠0
 ·rw[if_pos a1] at h1;exact absurd (yy h1) a1
 rw[if_neg a1] at h1 h2;obtain⟨u,hu⟩:=Zvz (Decidable.not_not.1 a1);obtain⟨b,ub,hb,hx⟩:=Zhe (.inl rfl) hu;have hy:=Zdk (.inl rfl) hb;rw[if_pos rfl] at hx;subst hy;rw[hx] at h1 h2;split at h1
 ·exact absurd (yy h1) (by decide)
 next a2=>
 rw[if_neg a2] at h2;split at h1
 ·exact absurd (yy h1) (by decide)
 next a3=>
 rw[if_neg a3] at h2;have ec:chB (quF 4 s (quF 5 natT f))=Zey (f.lft 2 1) appV:=rfl;rw[ec] at h1 h2;simp only[Zey] at h1 h2;rw[if_pos h1] at h2;exact h2.symm
end
theorem xu{f:Fm}(hs:f.shape=true)(n:Nat):(f.lft 0 n).shape=true/\(f.lft 0 n).size=f.size:=⟨(vf hs (by omega)).1,(vf hs (by omega)).2.1⟩
structure HB (H:Nat) (c:Ck):Prop where
 g:smalls c.tys
 h:∀x∈c.hyps,x.shape=true/\x.size<=H
 l:∀x∈c.lems,x.shape=true/\x.size<=199/\x.okT []
theorem HB.below{H:Nat}{c:Ck}(h:HB H c){s:Ty}(hs:s.small):HB H (c.below [s]):=by
 refine⟨zj h.g (ze hs zi),?_,h.l⟩;intro x hx;obtain⟨y,hy,rfl⟩:=List.mem_map.1 hx;have:=h.h y hy;have k:=xu this.1 1;exact⟨k.1,by have:=this.2;have:=k.2;simp only[List.length_singleton] at*;omega⟩
theorem HB.with_{H:Nat}{c:Ck}(h:HB H c){x:Fm}(hs:x.shape=true)(hz:x.size<=H):HB H (c.with_ x):=by
 refine⟨h.g,?_,h.l⟩;intro y hy;rcases List.mem_append.1 hy with hy|hy
 ·exact h.h y hy
 ·rw[List.mem_singleton.1 hy];exact⟨hs,hz⟩
theorem HB.le{H K:Nat}{c:Ck}(h:HB H c)(hl:H<=K):HB K c:=⟨h.g,fun x hx=>⟨(h.h x hx).1,by have:=(h.h x hx).2;omega⟩,h.l⟩
theorem Yfn{c:Ck}{p:Pf}{x:Fm}{us:List Int}(h:MkQ 0 c p)(hi:yo p c=(x,us,0)):x∈c.hyps\/x∈c.lems\/∃t,Mk 3 c.tys natT t/\x=eqF t t:=by
 cases h with
 |hyp i h=>exact .inl (Yak h hi)
 |lem i h=>exact .inr (.inl (Zzd h hi))
 |ref h=>exact .inr (.inr ⟨_,h,Zsa hi⟩)
theorem Yla(k i:Int)(s:Ty)(ts:List Tm)(fs:List Fm)(ps:List Pf):(Pf.mk k i s ts fs ps).size=1+(ts.map Tm.size).sum+(fs.map Fm.size).sum+(ps.map Pf.size).sum:=Pf.size_eq _
theorem z0{H:Nat}{c:Ck}{p:Pf}(h:MkQ 0 c p)(hb:HB H c)(hH:199<=H):p.size<=25/\∀x us,yo p c=(x,us,0)->x.size<=H/\p.size+x.size<=H+1:=by
 cases h with
 |hyp i h=>
  have e:(va i).size=1:=rfl;refine⟨by omega,fun x us hi=> ?_⟩;have:=(hb.h x (Yak h hi)).2;exact⟨this,by omega⟩
 |lem i h=>
  have e:(Pf.mk 2 i noY [] [] []).size=1:=rfl;refine⟨by omega,fun x us hi=> ?_⟩;have:=(hb.l x (Zzd h hi)).2.1;exact⟨by omega,by omega⟩
 | @ref _ _ t h=>
   have z:=h.z24 hb.g;have e:(y8 t).size=1+t.size:=by simp only[y8,Pf.size,Pf.sizes,List.map_cons,List.map_nil,List.sum_cons,List.sum_nil];omega
   refine⟨by omega,fun x us hi=> ?_⟩;rw[Zsa hi,Zke];exact⟨by omega,by omega⟩
theorem Zp1{f:Fm}:∀{g:List Ty} {b:Int},f.okT g->f.shape=true->∀q∈f.tms b,∀v∈q.1.vars 0,v.1-v.2<g.length+(q.2-b):=by
 induction f using Fm.ind with
 |h f ih=>
  intro g b hok hf q hq v hv;rw[Fm.okT_iff] at hok;rw[Fm.tms_eq,List.mem_append] at hq;rcases hq with hq|hq
  ·obtain ⟨t,ht,rfl⟩:=List.mem_map.1 hq;have h2:=hok.1 t ht;have:=Zl4 t g 0 (yi hf ht) (by rw[h2]) v hv;simp only at*;omega
  ·obtain ⟨x,hx,hq⟩:=List.mem_flatMap.1 hq;have h2:=ih x hx (hok.2 x hx) (zx hf hx) q hq v hv;have h3:((Zg6 g f).length:Int)-upF f.kind b<=g.length-b:=by
    unfold Zg6 upF x9;by_cases h:4<=f.kind/\f.kind<=7
    ·simp[h];omega
    ·simp[h]
   omega
theorem ye{p:Pf}{c:Ck}{x:Fm}{us:List Int}(h:yo p c=(x,us,0)):x.shape=true/\x.size<=4096:=by
 rw[wz] at h;have:=(Fm.err_iff x).1 (wj h).2.2;exact⟨this.1,by have:=this.2;omega⟩
theorem Zbh{f:Fm}(h:f.okT [])(hs:f.shape=true)(s:Tm):f.put 0 s=f:=by
 refine Fm.re_id f 0 fun p hp=> ?_;refine re_id p.1 0 (x7 f hs 0 p hp) fun q hq=> ?_;have h1:=Zp1 h hs p hp q hq;have h2:=Zgw p hp;simp only[List.length_nil] at h1;rw[vn,if_neg (by omega)];congr 1;split<;>omega
theorem xz{b y:Fm}(h:Za9 b=(y,0)):(zp 0 b=0/\y=b)\/(zp 0 b≠0/\(xf b).2=0/\y=(xf b).1/\zp 0 y=0):=by
 unfold Za9 at h;by_cases h1:zp 0 b=0
 ·rw[if_pos h1] at h;exact .inl ⟨h1,(congrArg Prod.fst h).symm⟩
 ·rw[if_neg h1] at h;by_cases h2:(xf b).2≠0
  ·rw[if_pos h2] at h;exact absurd (congrArg Prod.snd h) h2
  ·rw[if_neg h2] at h;by_cases h3:zp 0 (xf b).1≠0
   ·rw[if_pos h3] at h;exact absurd (congrArg Prod.snd h) (by show ¬(6:Int)=0;decide)
   ·rw[if_neg h3] at h;have:=congrArg Prod.fst h;simp only at this;exact .inr ⟨h1,Decidable.not_not.1 h2,this.symm,by rw[<-this];exact Decidable.not_not.1 h3⟩
theorem Zb5{f:Fm}(hs:f.shape=true)(h:zp 0 f=0):(f.lft 1 (-1)).size=f.size/\(f.lft 1 (-1)).shape=true:=by
 rw[Zgq zT hs h];refine⟨?_,Zeo (by omega) (by decide) hs⟩;have:=ue 0 zT (by decide) f hs 0;have e:u5 0 (f.tms 0)=0:=h;show(f.re (fun b t=>t.re (xy (0+b) zT) 0) 0).size=f.size
 grind
theorem Yg8:(xr (vT 0) 1000).1=vT 0:=by decide
theorem Zj3{t:Tm}{y:Fm}(h:Za9 (Zby t)=(y,0)):False:=by
 rcases xz h with⟨h1,_⟩|⟨_,h2,rfl,h3⟩
 ·have:1<=zp 0 (Zby t):=by
   have e:zp 0 (Zby t)=cnt 0 ((t.re (zk 0 1) 0).vars 0)+1:=rfl;omega
  omega
 ·have e:Zby t= .mk 1 noTy [t.re (zk 0 1) 0,vT 0] []:=rfl;rw[e] at h2 h3;unfold xf at h2 h3;simp only[u2,xm] at h2 h3;by_cases h1:(xr (t.re (zk 0 1) 0) 1000).2.2=0
  ·by_cases h4:(xr (vT 0) 1000).2.2=0
   ·simp[h1,h4,Yg8] at h3;simp[zp,Fm.tms,Fm.tmss,u5,cnt,vT,Tm.vars,Tm.varss] at h3
   ·simp[h1,h4] at h2
  ·simp[h1] at h2
theorem uv{g:List Ty}{s:Ty}{t:Tm}(h:Mk 3 g s t)(hg:smalls g)(hs:s.small):t.size<=24:=(h.size hg hs).1
theorem Ymf{g:List Ty}{s:Ty}{T t:Tm}(hT:Mk 3 (g++[s]) natT T)(ht:Mk 3 g s t)(hg:smalls g)(hs:s.small):(T.re (xy 0 t) 0).size<=93:=by
 have hg':=zj hg (ze hs zi);have sT:=hT.shape hg' yd;have st:=ht.shape hg hs;rw[Zid 0 t T st 0 sT];have h1:=hT.z24 hg';have h2:=uv ht hg hs;have h3:cnt 0 (T.vars 0)<=3:=(hT.cnt hg' yd (Int.le_refl 0) 0 (Int.le_refl 0)).2 rfl;have:cnt 0 (T.vars 0)*(t.size-1)<=3*23:=Nat.mul_le_mul h3 (by omega);omega
theorem Zp6{t:Tm}(hs:t.shape=true):(Zby t).size=t.size+2/\(Zby t).shape=true:=by
 have:=Zbk 0 1 t 0 hs;refine⟨by unfold Zby;rw[Zke,this];show 1+t.size+1=t.size+2;omega,?_⟩;have:=x6 (fr:=0) (by_:=1) 0 hs (by decide);simp[Zby,eqF,Fm.shape,Fm.shapes,Fm.head,this,Ty.isNo]
 rfl
theorem pz1(k i:Int)(s:Ty)(ts:List Tm)(fs:List Fm)(p:Pf):(Pf.mk k i s ts fs [p]).size=1+(ts.map Tm.size).sum+(fs.map Fm.size).sum+p.size:=by rw[Yla];simp
theorem pz2(k i:Int)(s:Ty)(ts:List Tm)(fs:List Fm)(p q:Pf):(Pf.mk k i s ts fs [p,q]).size=1+(ts.map Tm.size).sum+(fs.map Fm.size).sum+(p.size+q.size):=by rw[Yla];simp
theorem Ztn(t:Tm):(y8 t).size=1+t.size:=by simp only[y8,Pf.size,Pf.sizes,List.map_cons,List.map_nil,List.sum_cons,List.sum_nil];omega
theorem Zeu(t:Tm):(([t]:List Tm).map Tm.size).sum=t.size:=by simp
theorem Zci(f:Fm):(([f]:List Fm).map Fm.size).sum=f.size:=by simp
theorem Zba:(([]:List Tm).map Tm.size).sum=0:=rfl
theorem Zcw:(([]:List Fm).map Fm.size).sum=0:=rfl
theorem Zl6{k:Int}{t:Tm}{g:List Ty}(ht:Mk 3 g natT t)(hg:smalls g):(Pf.mk (2*k) 0 noY [t] [quF k natT (Zby t)] [y8 t]).size<=77/\(quF k natT (Zby t)).size<=27/\(quF k natT (Zby t)).shape=(quF k natT (Zby t)).shape:=by
 have h1:=ht.z24 hg;have h2:=(Zp6 (ht.shape hg yd)).1;rw[pz1,Zeu,Zci,Ztn,Ze5];exact⟨by omega,by omega,rfl⟩
theorem z1{H:Nat}{c:Ck}{p:Pf}(h:MkQ 1 c p)(hb:HB H c)(hH:199<=H):p.size<=H+40/\∀x us,yo p c=(x,us,0)->x.size<=2*H+1:=by
 have up:∀{p:Pf},MkQ 0 c p->p.size<=H+40/\∀x us,yo p c=(x,us,0)->x.size<=2*H+1:=fun h=>by
  obtain⟨a,b⟩:=z0 h hb hH;exact⟨by omega,fun x us hi=>by have:=(b x us hi).1;omega⟩
 cases h with
 |hyp i h=>exact up (.hyp i h)
 |lem i h=>exact up (.lem i h)
 |ref h=>exact up (.ref h)
 |and hp hq=>
  have a:=z0 hp hb hH;have b:=z0 hq hb hH;rw[pz2,Zba,Zcw];refine⟨by omega,fun x us hi=> ?_⟩;obtain⟨y,z,ua,ub,h1,h2,rfl⟩:=Zju hi;have:=(a.2 _ _ h1).1;have:=(b.2 _ _ h2).1;rw[Zpb];omega
 |prj hk hp hq=>
  have a:=z0 hp hb hH;have b:=z0 hq hb hH;rw[pz1,pz2,Zba,Zcw];refine⟨by omega,fun x us hi=> ?_⟩;obtain⟨y,z,ua,ub,h1,h2,h3⟩:=Zne hk hi;have:=(a.2 _ _ h1).1;have:=(b.2 _ _ h2).1;rcases h3 with rfl|rfl<;>omega
 |imp d hp=>
  have f:=Dk.fm_fl 1 d c.tys hb.g;have fs:=(Dk.fm_good 1 d c.tys hb.g).1;have hf:(Dk.fm 1 d c.tys).1.size<=99:=by have:=f.2;omega
  have a:=z0 hp (hb.with_ fs (by omega)) hH;rw[pz1,Zba,Zci];refine⟨by omega,fun x us hi=> ?_⟩;obtain⟨y,ua,h1,rfl⟩:=Zjy hi;have:=(a.2 _ _ h1).1;rw[Zpb];omega
 |app hx hp hq=>
  have a:=z0 hp hb hH;have ax:=a.2 _ _ hx;have b:=z0 hq (hb.with_ (ye hx).1 ax.1) hH;rw[pz2,pz1,Zba,Zcw,Zci];refine⟨by omega,fun x us hi=> ?_⟩;obtain⟨ub,h1⟩:=Zlr hi;have:=(b.2 _ _ h1).1;omega
 |all hk hs hp=>
  have a:=z0 hp (hb.below hs) hH;rw[pz1,Zba,Zcw];refine⟨by omega,fun x us hi=> ?_⟩;obtain⟨y,ua,h1,rfl⟩:=Zhe hk hi;have:=(a.2 _ _ h1).1;rw[Ze5];omega
 | @at_ _ _ k s t p hk hs ht hp=>
   have a:=z0 hp (hb.below hs) hH;have zt:=uv ht hb.g hs;rw[pz1,pz1,Zba,Zcw,Zeu];refine⟨by omega,fun x us hi=> ?_⟩;obtain⟨y,ua,h1,rfl⟩:=Zt8 hk hi;rcases Yfn hp h1 with hy|hy|⟨T,hT,rfl⟩
   ·obtain ⟨z,hz,rfl⟩:=List.mem_map.1 hy;have:=hb.h z hz;have e:(z.lft 0 ([s].length:Nat)).put 0 t=z:=uf this.1 t;rw[e];omega
   ·have:=hb.l _ hy;rw[Zbh this.2.2 this.1];omega
   ·have:=Ymf hT ht hb.g hs;have e:(eqF T T).put 0 t=eqF (T.re (xy 0 t) 0) (T.re (xy 0 t) 0):=rfl;rw[e,Zke];omega
 | @ex _ _ k t hk ht=>
   have a:=Zl6 (k:=k) ht hb.g;refine⟨by omega,fun x us hi=> ?_⟩;rw[Zdk (by omega) hi];omega
 | @wit _ _ k s t p x us hk hs hx ht hp=>
   have a:=z0 hp hb hH;have ax:=a.2 _ _ hx;have zt:=uv ht hb.g hs;have zl:=(xu (ye hx).1 1).2;have zl':(x.lft 0 1).size=x.size:=zl;rw[pz1,Zeu,Zci,Ze5];refine⟨by omega,fun y us hi=> ?_⟩;rw[Zdk (by omega) hi,Ze5];omega
 | @opn _ _ k t q hk ht hq=>
   have a:=Zl6 (k:=k) ht hb.g;have sB:=Zp6 (ht.shape hb.g yd);have zt:=ht.z24 hb.g;have hb':=(hb.below yd).with_ sB.2 (by omega);have b:=z0 hq hb' hH;rw[pz2,Zba,Zcw];refine⟨by omega,fun x us hi=> ?_⟩;obtain⟨f,ub,y,h1,h2,rfl⟩:=Zfg hk hi;have fs:=(ye h1).1;have zf:=(b.2 _ _ h1).1;have cl:zp 0 f=0->(y.lft 1 (-1)).size<=2*H+1:=fun h0=>by
    rcases xz h2 with⟨_,rfl⟩|⟨h3,_⟩
    ·rw[(Zb5 fs h0).1];omega
    ·exact absurd h0 h3
   rcases Yfn hq h1 with hy|hy|⟨T,hT,rfl⟩
   ·rcases List.mem_append.1 hy with hy|hy
    ·obtain ⟨z,hz,rfl⟩:=List.mem_map.1 hy;exact cl (cntF_lifted (fun p hp=>x7 z (hb.h z hz).1 0 p hp) 0)
    ·rw[List.mem_singleton.1 hy] at h2;exact(Zj3 h2).elim
   ·refine cl ?_;have hl:=hb.l _ hy;have:=Zbh hl.2.2 hl.1 (apT zT zT);have e:=ue 0 (apT zT zT) (by decide) f hl.1 0;have e2:(f.put 0 (apT zT zT)).size=f.size+u5 0 (f.tms 0)*((apT zT zT).size-1):=e;rw[this] at e2;have e3:(apT zT zT).size=3:=rfl;rw[e3] at e2;show u5 0 (f.tms 0)=0;omega
   ·rcases xz h2 with⟨h0,_⟩|⟨_,h3,rfl,h4⟩
    ·exact cl h0
    ·have fl:=FL.eq (hT.nrm1 rfl hb'.g yd) (hT.nrm1 rfl hb'.g yd);have:=fl.nrm h3;have ns:=(Zf1 (eqF T T) h3 fs).2.1;rw[(Zb5 ns h4).1];omega
 | @opn2 _ _ k t hk ht=>
   have a:=Zl6 (k:=k) ht hb.g;have sq:(quF k natT (Zby t)).shape=true:=by
    have:=(Zp6 (ht.shape hb.g yd)).2;rcases hk with rfl|rfl<;>(simp[quF,Fm.shape,Fm.shapes,Fm.head,this];decide)
   have zl:((quF k natT (Zby t)).lft 0 1).size=(quF k natT (Zby t)).size:=(xu sq 1).2;have e:(va 0).size=1:=rfl;have ev:(vT 0).size=1:=rfl;rw[pz2,pz1 _ _ _ [vT 0],Zba,Zcw,Zeu,Zci];refine⟨by omega,fun x us hi=> ?_⟩;obtain⟨f,ub,y,h1,h2,rfl⟩:=Zfg hk hi;have hf:=Zdk (by omega) h1;subst hf;have h0:zp 0 ((quF k natT (Zby t)).lft 0 1)=0:=cntF_lifted (fun p hp=>x7 _ sq 0 p hp) 0;rcases xz h2 with⟨_,rfl⟩|⟨h3,_⟩
   ·have s9:((quF k natT (Zby t)).lft 0 1).shape=true:=(xu sq 1).1;rw[(Zb5 s9 h0).1];omega
   ·exact absurd h0 h3
 | @ind _ _ t p x us hx ht hp=>
   have a:=z0 hp hb hH;have ax:=a.2 _ _ hx;have zt:=ht.z24 hb.g;have sx:=(ye hx).1;have zl:(x.lft 0 1).size=x.size:=(xu sx 1).2;have e:(va 0).size=1:=rfl;rw[pz2,Zeu,Zci];refine⟨by omega,fun y us hi=> ?_⟩;rw[Ze7 hi,uf sx];omega
 | @lst _ _ t p x us hx ht hp=>
   have a:=z0 hp hb hH;have ax:=a.2 _ _ hx;have zt:=uv ht hb.g ⟨by decide,by decide⟩;have sx:=(ye hx).1;have zl:(x.lft 0 1).size=x.size:=(xu sx 1).2;have e:(va 0).size=1:=rfl;rw[pz2,Zeu,Zci];refine⟨by omega,fun y us hi=> ?_⟩;rw[Zmk hi,uf sx];omega
 | @zer _ _ t ht=>
   have zt:=ht.z24 hb.g;have st:=ht.shape hb.g yd;have e1:(Zkj (lmT natT (sT (vT 0))) (apT (apT plusT zT) (vT 0)) (va 0)).size<=80:=by decide
   have e2:(eqF (apT (apT plusT zT) (vT 0)) (vT 0)).size<=20:=by decide
   have e3:(y8 zT).size=2:=rfl;rw[pz2,Zeu,Zci];refine⟨by omega,fun y us hi=> ?_⟩;rw[Ze7 hi];have e4:(eqF (apT (apT plusT zT) (vT 0)) (vT 0)).put 0 t=eqF (apT (apT plusT zT) (t.re (zk 0 0) 0)) (t.re (zk 0 0) 0):=rfl;rw[e4,Yff t st,Zke];have e5:plusT.size=9:=rfl;have e6:zT.size=1:=rfl;simp only[apT,Tm.size,Tm.sizes,e5,e6];omega
 | @sub _ _ t u ht hu=>
   have zt:=ht.z24 hb.g;have zu:=hu.z24 hb.g;have su:=hu.shape hb.g yd;have zl:=Zbk 0 1 u 0 su;rw[pz2,Zba,Zci,Ztn,Ztn,Zke];refine⟨by omega,fun y us hi=> ?_⟩;rw[Zrf (u:=t) hi];have e4:(eqF (u.re (zk 0 1) 0) (u.re (zk 0 1) 0)).put 0 t=eqF ((u.re (zk 0 1) 0).re (xy 0 t) 0) ((u.re (zk 0 1) 0).re (xy 0 t) 0):=rfl;have e5:=Zhw u t 0 0 (by decide) (by decide);rw[Int.zero_add] at e5;rw[e4,e5,Yff u su,Zke];omega
 | @cho _ _ s t hs ht=>
   have hg:=zj hb.g (ze hs zi);have zt:=ht.z24 hg;have st:=ht.shape hg yd;have zB:=(Zp6 st).1;rw[pz1,pz1,pz1,Zba,Zcw,Zeu,Zci,Ztn,Ze5];refine⟨by omega,fun y us hi=> ?_⟩;rw[Zrz hi,Ze5,Ze5];have k:=vf (fr:=2) (by_:=1) (Zp6 st).2 (by decide);have z:=ue 0 appV (by decide) ((Zby t).lft 2 1) k.1 0;have z':(((Zby t).lft 2 1).put 0 appV).size=((Zby t).lft 2 1).size+zp 0 ((Zby t).lft 2 1)*(appV.size-1):=z;have e:appV.size=3:=rfl;have:=Zck 0 ((Zby t).lft 2 1);rw[e] at z';have:=k.2.1;omega
theorem z2{H:Nat}{c:Ck}{p:Pf}(h:MkQ 2 c p)(hb:HB H c)(hH:199<=H):p.size<=5*H+84:=by
 have up:∀{p:Pf},MkQ 1 c p->p.size<=5*H+84:=fun h=>by have:=(z1 h hb hH).1;omega
 cases h with
 |hyp i h=>exact up (.hyp i h)
 |lem i h=>exact up (.lem i h)
 |ref h=>exact up (.ref h)
 |and hp hq=>
  have a:=(z1 hp hb hH).1;have b:=(z1 hq hb hH).1;rw[pz2,Zba,Zcw];omega
 |prj hk hp hq=>
  have a:=(z1 hp hb hH).1;have b:=(z1 hq hb hH).1;rw[pz1,pz2,Zba,Zcw];omega
 |imp d hp=>
  have f:=Dk.fm_fl 1 d c.tys hb.g;have fs:=(Dk.fm_good 1 d c.tys hb.g).1;have hf:(Dk.fm 1 d c.tys).1.size<=99:=by have:=f.2;omega
  have a:=(z1 hp (hb.with_ fs (by omega)) hH).1;rw[pz1,Zba,Zci];omega
 |app hx hp hq=>
  have a:=z1 hp hb hH;have ax:=a.2 _ _ hx;have b:=(z1 hq ((hb.le (by omega)).with_ (ye hx).1 ax) (by omega)).1;rw[pz2,pz1,Zba,Zcw,Zci];omega
 |all hk hs hp=>
  have a:=(z1 hp (hb.below hs) hH).1;rw[pz1,Zba,Zcw];omega
 |at_ hk hs ht hp=>
  have a:=(z1 hp (hb.below hs) hH).1;have zt:=uv ht hb.g hs;rw[pz1,pz1,Zba,Zcw,Zeu];omega
 |ex hk ht=>exact up (.ex hk ht)
 | @wit _ _ k s t p x us hk hs hx ht hp=>
   have a:=z1 hp hb hH;have ax:=a.2 _ _ hx;have zt:=uv ht hb.g hs;have zl':(x.lft 0 1).size=x.size:=(xu (ye hx).1 1).2;rw[pz1,Zeu,Zci,Ze5];omega
 | @opn _ _ k t q hk ht hq=>
   have a:=Zl6 (k:=k) ht hb.g;have sB:=Zp6 (ht.shape hb.g yd);have zt:=ht.z24 hb.g;have b:=(z1 hq ((hb.below yd).with_ sB.2 (by omega)) hH).1;rw[pz2,Zba,Zcw];omega
 |opn2 hk ht=>exact up (.opn2 hk ht)
 | @ind _ _ t p x us hx ht hp=>
   have a:=z1 hp hb hH;have ax:=a.2 _ _ hx;have zt:=ht.z24 hb.g;have zl:(x.lft 0 1).size=x.size:=(xu (ye hx).1 1).2;have e:(va 0).size=1:=rfl;rw[pz2,Zeu,Zci];omega
 | @lst _ _ t p x us hx ht hp=>
   have a:=z1 hp hb hH;have ax:=a.2 _ _ hx;have zt:=uv ht hb.g ⟨by decide,by decide⟩;have zl:(x.lft 0 1).size=x.size:=(xu (ye hx).1 1).2;have e:(va 0).size=1:=rfl;rw[pz2,Zeu,Zci];omega
 |zer ht=>exact up (.zer ht)
 |sub ht hu=>exact up (.sub ht hu)
 |cho hs ht=>exact up (.cho hs ht)
theorem z3{H K:Nat}{c:Ck}{p:Pf}(h:MkQ 3 c p)(hb:HB H c)(hH:199<=H)(hK:H<=K)(hk:∀p x us,MkQ 2 c p->yo p c=(x,us,0)->x.size<=K):p.size<=6*K+5*H+170:=by
 have up:∀{p:Pf},MkQ 1 c p->p.size<=6*K+5*H+170:=fun h=>by have:=(z1 h hb hH).1;omega
 cases h with
 |hyp i h=>exact up (.hyp i h)
 |lem i h=>exact up (.lem i h)
 |ref h=>exact up (.ref h)
 |and hp hq=>
  have a:=z2 hp hb hH;have b:=z2 hq hb hH;rw[pz2,Zba,Zcw];omega
 |prj hk hp hq=>
  have a:=z2 hp hb hH;have b:=z2 hq hb hH;rw[pz1,pz2,Zba,Zcw];omega
 |imp d hp=>
  have f:=Dk.fm_fl 1 d c.tys hb.g;have fs:=(Dk.fm_good 1 d c.tys hb.g).1;have hf:(Dk.fm 1 d c.tys).1.size<=99:=by have:=f.2;omega
  have a:=z2 hp (hb.with_ fs (by omega)) hH;rw[pz1,Zba,Zci];omega
 |app hx hp hq=>
  have a:=z2 hp hb hH;have ax:=hk _ _ _ hp hx;have b:=z2 hq ((hb.le hK).with_ (ye hx).1 ax) (by omega);rw[pz2,pz1,Zba,Zcw,Zci];omega
 |all hk hs hp=>
  have a:=z2 hp (hb.below hs) hH;rw[pz1,Zba,Zcw];omega
 |at_ hk hs ht hp=>
  have a:=z2 hp (hb.below hs) hH;have zt:=uv ht hb.g hs;rw[pz1,pz1,Zba,Zcw,Zeu];omega
 |ex hk ht=>exact up (.ex hk ht)
 | @wit _ _ k s t p x us hk' hs hx ht hp=>
   have a:=z2 hp hb hH;have ax:=hk _ _ _ hp hx;have zt:=uv ht hb.g hs;have zl':(x.lft 0 1).size=x.size:=(xu (ye hx).1 1).2;rw[pz1,Zeu,Zci,Ze5];omega
 | @opn _ _ k t q hk' ht hq=>
   have a:=Zl6 (k:=k) ht hb.g;have sB:=Zp6 (ht.shape hb.g yd);have zt:=ht.z24 hb.g;have b:=z2 hq ((hb.below yd).with_ sB.2 (by omega)) hH;rw[pz2,Zba,Zcw];omega
 |opn2 hk ht=>exact up (.opn2 hk ht)
 | @ind _ _ t p x us hx ht hp=>
   have a:=z2 hp hb hH;have ax:=hk _ _ _ hp hx;have zt:=ht.z24 hb.g;have zl:(x.lft 0 1).size=x.size:=(xu (ye hx).1 1).2;have e:(va 0).size=1:=rfl;rw[pz2,Zeu,Zci];omega
 | @lst _ _ t p x us hx ht hp=>
   have a:=z2 hp hb hH;have ax:=hk _ _ _ hp hx;have zt:=uv ht hb.g ⟨by decide,by decide⟩;have zl:(x.lft 0 1).size=x.size:=(xu (ye hx).1 1).2;have e:(va 0).size=1:=rfl;rw[pz2,Zeu,Zci];omega
 |zer ht=>exact up (.zer ht)
 |sub ht hu=>exact up (.sub ht hu)
 |cho hs ht=>exact up (.cho hs ht)
structure HTp (c:Ck):Prop where
 b:HB 199 c
 h:∀x∈c.hyps,FL x 327
 l:∀x∈c.lems,FL x 327
theorem HTp.below{c:Ck}(h:HTp c){s:Ty}(hs:s.small):HTp (c.below [s]):=by
 refine⟨h.b.below hs,?_,h.l⟩;intro x hx;obtain⟨y,hy,rfl⟩:=List.mem_map.1 hx;exact(h.h y hy).lft (by decide) (by simp)
theorem HTp.with_{c:Ck}(h:HTp c){x:Fm}(hs:x.shape=true)(hz:x.size<=199)(hf:FL x 327):HTp (c.with_ x):=by
 refine⟨h.b.with_ hs hz,?_,h.l⟩;intro y hy;rcases List.mem_append.1 hy with hy|hy
 ·exact h.h y hy
 ·rw[List.mem_singleton.1 hy];exact hf
theorem Zjh{t:Tm}{g:List Ty}(ht:Mk 3 g natT t)(hg:smalls g):FL (Zby t) 42:=by
 have:=(ht.nrm1 rfl hg yd).lft (m:=0) (n:=1) (by decide) (by decide);exact(FL.eq this (.of (Ye7 0) (Nat.le_refl 1))).le (by omega)
theorem f0{c:Ck}{p:Pf}{x:Fm}{us:List Int}(h:MkQ 0 c p)(hc:HTp c)(hi:yo p c=(x,us,0)):FL x 327:=by
 rcases Yfn h hi with hx|hx|⟨t,ht,rfl⟩
 ·exact hc.h x hx
 ·exact hc.l x hx
 ·exact (FL.eq (ht.nrm1 rfl hc.b.g yd) (ht.nrm1 rfl hc.b.g yd)).le (by omega)
theorem NB.normed{N:Nat}{t:Tm}{s:Int}(h:NB N t)(hn:(xr t s).2.2=0):NB N (xr t s).1:=by
 obtain⟨u,h1,h2,h3⟩:=h;obtain⟨_,_,h4,h5,_⟩:=Zlq hn;have e:=Zyc h5 (Ylh h2) h4 h1;rw[e];exact .of h2 h3
theorem Yib{T:Tm}{N:Nat}(h:NB N T)(hn:(xf (eqF T T)).2=0):FL (xf (eqF T T)).1 (1+N+N):=by
 have e:eqF T T= .mk 1 noTy [T,T] []:=rfl;rw[e] at hn ⊢;unfold xf at hn ⊢;simp only[u2,xm] at hn ⊢;by_cases h1:(xr T 1000).2.2=0
 ·simp[h1];exact⟨_,Nat.le_refl _,.eq (h.normed h1) (h.normed h1)⟩
 ·simp[h1] at hn
theorem Yb7{t:Tm}{g:List Ty}(ht:Mk 3 g natT t)(hg:smalls g):NB 46 (apT (apT plusT zT) t):=by
 obtain⟨u,h1,h2,h3⟩:=ht.nrm1 rfl hg yd;have su:=Zfl h1 (ht.shape hg yd);have e1:Pst (apT plusT zT) (ve (Zer zT addF (vT 0))):= .one (.beta (b':=ve (Zer (vT 1) addF (vT 0))) (.refl _) (.refl _));have e2:Pst (apT (ve (Zer zT addF (vT 0))) u) (Zer zT addF (u.re (zk 0 0) 0)):= .one (.beta (b':=Zer zT addF (vT 0)) (.refl _) (.refl _));have hp:=Zy5 (A:=zT) rfl (.mk 1 []) u h2 su 0;have e3:zT.size=1:=rfl;rw[Yff u su] at e2;exact(hp.le (by omega)).st ((Zhu e1 h1).trans e2)
theorem Ykb(t s:Tm):((t.re (zk 0 1) 0).re (zk 2 1) 0).re (xy 0 s) 0=t.re (zk 1 1) 0:=by
 rw[re_re,re_re];refine re_congr t 0 fun p hp=> ?_;simp only[yw,Zb0];rw[vn];rw[if_neg (by split<;>split<;>omega)];congr 1;split<;>split<;>split<;>split<;>omega
theorem f1{c:Ck}{p:Pf}{x:Fm}{us:List Int}(h:MkQ 1 c p)(hc:HTp c)(hi:yo p c=(x,us,0)):FL x 935:=by
 have up:MkQ 0 c p->FL x 935:=fun h=>(f0 h hc hi).le (by omega);have hb:=hc.b;cases h with
 |hyp i h=>exact up (.hyp i h)
 |lem i h=>exact up (.lem i h)
 |ref h=>exact up (.ref h)
 |and hp hq=>
  obtain⟨y,z,ua,ub,h1,h2,rfl⟩:=Zju hi;exact((f0 hp hc h1).two (f0 hq hc h2)).le (by omega)
 |prj hk hp hq=>
  obtain⟨y,z,ua,ub,h1,h2,h3⟩:=Zne hk hi;rcases h3 with rfl|rfl
  ·exact (f0 hp hc h1).le (by omega)
  ·exact (f0 hq hc h2).le (by omega)
 |imp d hp=>
  have f:=Dk.fm_fl 1 d c.tys hb.g;have fs:=(Dk.fm_good 1 d c.tys hb.g).1;obtain⟨y,ua,h1,rfl⟩:=Zjy hi;exact(f.1.two (f0 hp (hc.with_ fs (by have:=f.2;omega) (f.1.le (by omega))) h1)).le (by omega)
 |app hx hp hq=>
  obtain⟨ub,h1⟩:=Zlr hi;exact(f0 hq (hc.with_ (ye hx).1 ((z0 hp hb (by omega)).2 _ _ hx).1 (f0 hp hc hx)) h1).le (by omega)
 |all hk hs hp=>
  obtain⟨y,ua,h1,rfl⟩:=Zhe hk hi;exact(f0 hp (hc.below hs) h1).qu.le (by omega)
 | @at_ _ _ k s t p hk hs ht hp=>
   obtain⟨y,ua,h1,rfl⟩:=Zt8 hk hi;rcases Yfn hp h1 with hy|hy|⟨T,hT,rfl⟩
   ·obtain ⟨z,hz,rfl⟩:=List.mem_map.1 hy;have e:(z.lft 0 ([s].length:Nat)).put 0 t=z:=uf (hb.h z hz).1 t;rw[e];exact(hc.h z hz).le (by omega)
   ·have:=hb.l _ hy;rw[Zbh this.2.2 this.1];exact(hc.l _ hy).le (by omega)
   ·have n:=hT.nrm2 ht hb.g hs;exact FL.eq n n
 | @ex _ _ k t hk ht=>rw[Zdk (by omega) hi];exact(Zjh ht hb.g).qu.le (by omega)
 | @wit _ _ k s t p x us hk hs hx ht hp=>rw[Zdk (by omega) hi];exact((f0 hp hc hx).lft (by decide) (by decide)).qu.le (by omega)
 | @opn _ _ k t q hk ht hq=>
   have sB:=Zp6 (ht.shape hb.g yd);have zt:=ht.z24 hb.g;have hc':=(hc.below yd).with_ sB.2 (by omega) ((Zjh ht hb.g).le (by omega));obtain⟨f,ub,y,h1,h2,rfl⟩:=Zfg hk hi;have fs:=(ye h1).1;have f':=f0 hq hc' h1;rcases xz h2 with⟨_,rfl⟩|⟨h0,h3,rfl,h4⟩
   ·exact (f'.lft (by decide) (by decide)).le (by omega)
   ·rcases Yfn hq h1 with hy|hy|⟨T,hT,rfl⟩
    ·rcases List.mem_append.1 hy with hy|hy
     ·obtain ⟨z,hz,rfl⟩:=List.mem_map.1 hy;exact absurd (cntF_lifted (fun p hp=>x7 z (hb.h z hz).1 0 p hp) 0) h0
     ·rw[List.mem_singleton.1 hy] at h2;exact(Zj3 h2).elim
    ·have hl:=hb.l _ hy;refine absurd ?_ h0;have:=Zbh hl.2.2 hl.1 (apT zT zT);have e2:(f.put 0 (apT zT zT)).size=f.size+u5 0 (f.tms 0)*((apT zT zT).size-1):=ue 0 (apT zT zT) (by decide) f hl.1 0;rw[this] at e2;have e3:(apT zT zT).size=3:=rfl;rw[e3] at e2;show u5 0 (f.tms 0)=0;omega
    ·exact ((Yib (hT.nrm1 rfl hc'.b.g yd) h3).lft (by decide) (by decide)).le (by omega)
 | @opn2 _ _ k t hk ht=>
   obtain⟨f,ub,y,h1,h2,rfl⟩:=Zfg hk hi;have hf:=Zdk (by omega) h1;subst hf;have sq:(quF k natT (Zby t)).shape=true:=by
    have:=(Zp6 (ht.shape hb.g yd)).2;rcases hk with rfl|rfl<;>(simp[quF,Fm.shape,Fm.shapes,Fm.head,this];decide)
   have h0:zp 0 ((quF k natT (Zby t)).lft 0 1)=0:=cntF_lifted (fun p hp=>x7 _ sq 0 p hp) 0;rcases xz h2 with⟨_,rfl⟩|⟨h3,_⟩
   ·exact (((Zjh ht hb.g).qu.lft (by decide) (by decide)).lft (by decide) (by decide)).le (by omega)
   ·exact absurd h0 h3
 | @ind _ _ t p x us hx ht hp=>rw[Ze7 hi,uf (ye hx).1];exact(f0 hp hc hx).le (by omega)
 | @lst _ _ t p x us hx ht hp=>rw[Zmk hi,uf (ye hx).1];exact(f0 hp hc hx).le (by omega)
 | @zer _ _ t ht=>
   rw[Ze7 hi];have e4:(eqF (apT (apT plusT zT) (vT 0)) (vT 0)).put 0 t=eqF (apT (apT plusT zT) (t.re (zk 0 0) 0)) (t.re (zk 0 0) 0):=rfl;rw[e4,Yff t (ht.shape hb.g yd)];exact(FL.eq (Yb7 ht hb.g) (ht.nrm1 rfl hb.g yd)).le (by omega)
 | @sub _ _ t u ht hu=>
   rw[Zrf (u:=t) hi];have e4:(eqF (u.re (zk 0 1) 0) (u.re (zk 0 1) 0)).put 0 t=eqF ((u.re (zk 0 1) 0).re (xy 0 t) 0) ((u.re (zk 0 1) 0).re (xy 0 t) 0):=rfl;have e5:=Zhw u t 0 0 (by decide) (by decide);rw[Int.zero_add] at e5;rw[e4,e5,Yff u (hu.shape hb.g yd)];exact(FL.eq (hu.nrm1 rfl hb.g yd) (hu.nrm1 rfl hb.g yd)).le (by omega)
 | @cho _ _ s t hs ht=>
   have hg:=zj hb.g (ze hs zi);rw[Zrz hi];have e:((Zby t).lft 2 1).put 0 appV=eqF (((t.re (zk 0 1) 0).re (zk 2 1) 0).re (xy 0 appV) 0) appV:=rfl;rw[e,Ykb];have n:=(ht.nrm1 rfl hg yd).lft (m:=1) (n:=1) (by decide) (by decide);exact((FL.eq n (.of (N:=3) (t:=appV) rfl (by decide))).qu.qu).le (by omega)
end Go.Ab
