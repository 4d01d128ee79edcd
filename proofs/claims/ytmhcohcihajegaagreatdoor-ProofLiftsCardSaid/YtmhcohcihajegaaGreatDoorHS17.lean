/- A part of this seat's proofs. No conditions. -/
import Derived.Test.YtmhcohcihajegaaGreatDoorHS14
namespace Go.Ab
open Go Go.Proofs
set_option maxRecDepth 100000
set_option maxHeartbeats 4000000
set_option linter.all false
theorem Fm.re_sh(G:Int->Tm->Tm)(c:Int)(f:Fm):∀b,f.re (fun b t=>G (c+b) t) b=f.re G (c+b):=by
 induction f using Fm.ind with
 |h f ih=>
  intro b;rw[Fm.re_eq,Fm.re_eq];congr 1;refine List.map_congr_left fun x hx=> ?_;have e:upF f.kind (c+b)=c+upF f.kind b:=by simp only[upF];split<;>omega
  rw[e];exact ih x hx _
theorem Ylc(f:Fm)(fr by_:Int):f.lft fr by_=f.re (fun b t=>t.re (zk b by_) 0) fr:=by
 have:=Fm.re_sh (fun b t=>t.re (zk b by_) 0) fr f 0;rw[Int.add_zero] at this;exact this
theorem Yi6(by_:Int)(hby: -549755813888<=by_/\by_<=549755813888):∀(n:Nat) (f:Fm) (fr:Int),f.full<=n->n<274877906944->-274877906944<=fr->fr+n<549755813888->f.shape=true->(∀p∈f.tms 0,∀q∈p.1.vars 0,0<=q.1/\q.1<549755813888)->
 PC E 34 [.agg f.view,.i fr,.i by_] (.agg (f.re (fun b t=>t.re (zk b by_) 0) fr).view):=by
 intro n;induction n with
 |zero=>intro f dp h;have:=f.full_pos;omega
 |succ n ih=>
 intro f fr hsz hn h1 h2 hf hix;have hsz':=f.full_eq;have hlen:=zg Fm.full Fm.full_pos f.args;have hlen2:=zg Tm.full Tm.full_pos f.terms;have hup:=Zk8 f.kind fr;have hpl:=Zie f.kind fr;have hb:=Zf6 f;have he:=Fm.re_eq (fun b t=>t.re (zk b by_) 0) fr f;have htm:=f.tms_eq 0;refine M.F Tryz.func34 ?_;refine M.w0 ?_;refine M.rt f.terms.length (fun m=>([(1,.i fr),(2,.i by_),(3,.ptr 0 0),(6,.ptr 1 0),(7,.ptr 2 0),(18,.s .tm f.terms),(19,.i f.terms.length),(20,.i m)],⟨4,[(0,.var f.view),(1,.var [.i 0,.i 0,.slice .nil (.t .ty []),.slice .nil (.t .tm []),.slice .nil (.t .fm [])]),(2,.var [.i f.kind,.i f.ty.kind,.s .ty f.ty.args,.slice (.own 3) (.t .tm ((f.terms.take m).map fun t=>t.re (zk fr by_) 0)),.slice .nil (.t .fm [])]),(3,.row)]⟩))
  (M.W rn3) ?_ ?_
 ·intro m hm _;have hs2:=zc Tm.full (List.getElem_mem hm);have hc:=Ygp by_ hby _ f.terms[m] fr (Nat.le_refl _) (by omega) (by omega) (by omega) (yi hf (List.getElem_mem hm)) (fun p hp=>hix (f.terms[m],0) (by rw[htm];exact List.mem_append_left _ (List.mem_map.2 ⟨_,List.getElem_mem hm,rfl⟩)) p hp);refine M.w1 @hc ?_;exact⟨rfl,trivial,(M.W [some 0,some 1,some 2,some 5] (he:=(by(repeat'(first|exact trivial|exact Or.inr ⟨_,U,rfl⟩|refine And.intro ?_ ?_|refine⟨_,U,_,U,_,U,?_⟩|exact VLe.refl _|exact VLe.of_eq (by simp[Sto.upd,ym _ _ _ hm])));done)))⟩
 ·intro _;simp only[List.take_length];refine M.w0 ?_;refine M.rt f.args.length (fun m=>([(1,.i fr),(2,.i by_),(3,.ptr 0 0),(6,.ptr 1 0),(7,.ptr 2 0),(35,.s .fm f.args),(36,.i f.args.length),(37,.i m)],⟨5,[(0,.var f.view),(1,.var [.i 0,.i 0,.slice .nil (.t .ty []),.slice .nil (.t .tm []),.slice .nil (.t .fm [])]),(2,.var [.i f.kind,.i f.ty.kind,.s .ty f.ty.args,.slice (.own 3) (.t .tm (f.terms.map fun t=>t.re (zk fr by_) 0)),.slice (.own 4) (.t .fm ((f.args.take m).map fun x=>x.re (fun b t=>t.re (zk b by_) 0) (upF f.kind fr)))]),(3,.row),(4,.row)]⟩))
   (M.W rn4) ?_ ?_
  ·intro m hm _;have hs2:=zc Fm.full (List.getElem_mem hm);have hc:=ih f.args[m] (upF f.kind fr) (by omega) (by omega) (by omega) (by omega) (zx hf (List.getElem_mem hm)) (fun p hp q hq=>by
    obtain⟨p',hp',hpe⟩:=Zm0 (b':=upF f.kind 0) p hp;rw[<-hpe] at hq;exact hix p' (by rw[htm];exact List.mem_append_right _ (List.mem_flatMap.2 ⟨_,List.getElem_mem hm,hp'⟩)) q hq)
   rw[<-hpl] at hc;simp only[<-hpl];refine M.w2 @hb @hc ?_;exact⟨rfl,trivial,(M.W [some 0,some 1,some 2,some 3,some 6] (he:=(by(repeat'(first|exact trivial|exact Or.inr ⟨_,U,rfl⟩|refine And.intro ?_ ?_|refine⟨_,U,_,U,_,U,?_⟩|exact VLe.refl _|exact VLe.of_eq (by simp[Sto.upd,ym _ _ _ hm])));done)))⟩
  ·intro _;simp only[List.take_length];refine M.w0 ?_;rw[he]
   rfl
theorem Zf7{f:Fm}{g:List Ty}(hok:f.okT g)(hs:f.shape=true)(hz:f.size<=20000000)(hg:g.length<=100)(fr by_:Int)(h1:0<=fr/\fr<=100)(h2: -100<=by_/\by_<=100):
 PC E 34 [.agg f.view,.i fr,.i by_] (.agg (f.lft fr by_).view):=by
 have hfl:=Zb2 f hs;rw[Ylc];exact Yi6 by_ (by omega) _ f fr (Nat.le_refl _) (by omega) (by omega) (by omega) hs (fun p hp q hq=>by
  have a1:=Zjt hok hs p hp q hq;have a2:=Tm.vars_nonneg p.1 (x7 f hs 0 p hp) 0 q hq;omega)
theorem Zvv:∀(n:Nat) (f:Fm),f.size<=n->f.shape=true->PC E 162 [.agg f.view] (.bool (Zcu f)):=by
 intro n;induction n with
 |zero=>intro f h;have:=f.size_pos;omega
 |succ n ih=>
 intro f hz hs;rcases Zd2 hs with⟨k,_⟩|⟨k,_⟩|⟨k,_⟩
 ·obtain ⟨a,b,rfl⟩:=Ygm hs k;exact Yd8 a b
 ·obtain ⟨a,b,e⟩:=Zof hs k;rw[e] at hz hs;rw[Zfj] at hz;have ha:=ih a (by omega) (zx hs (by simp[Zal]));have hb:=ih b (by omega) (zx hs (by simp[Zal]));rcases k with k|k
  ·rw[k] at e;subst e;have e:Zcu (Zal 2 a b)=(Zcu a||Zcu b):=by rw[Zmg];rfl
   rw[e];clear e hz hs k;unfold Zal;cases h0:Zcu a with
   |true=>
    rw[h0] at ha;refine M.F Tryz.func162 ?_;refine M.v1 @ha ?_
    rfl
   |false=>
    rw[h0] at ha;refine M.F Tryz.func162 ?_;refine M.v2 @ha @hb ?_
    rfl
  ·rw[k] at e;subst e;have e:Zcu (Zal 3 a b)=Zcu b:=by rw[Zmg];rfl
   rw[e];clear e hz hs k;unfold Zal;refine M.F Tryz.func162 ?_;refine M.v1 @hb ?_
   rfl
 ·obtain ⟨a,e⟩:=Zkf hs (by omega);rw[e] at hz hs;rw[Zei] at hz;have ha:=ih a (by omega) (zx hs (by simp[quF]));have e2:Zcu (quF f.kind f.ty a)=if f.kind=5 then true else Zcu a:=by
   rw[Zmg];show(if f.kind=1 then false else if f.kind=2 then _ else if f.kind=5 then true else Zcu a)=_;rw[if_neg (by omega),if_neg (by omega)]
  rw[<-e] at e2;rw[e2,e];clear e2 hz hs;generalize f.ty=s at*;rcases k with k|k|k|k;all_goals(rw[k])
  all_goals(clear e k)
  all_goals(unfold quF)
  all_goals(refine M.F Tryz.func162 ?_)
  all_goals(refine M.v1 @ha ?_)
  all_goals rfl
theorem Zun(f:Fm)(he:f.err=0):PC E 102 [.agg f.view] (.tup [.bool (Zcu f),.i 0]):=by
 have s:=(Fm.err_iff f).1 he;have h1:=Zc3 f (by have:=Zb2 f s.1;omega);have h2:=Zvv _ f (Nat.le_refl _) s.1;rw[he] at h1;refine M.F Tryz.func102 ?_;refine M.w2 @h1 @h2 ?_
 rfl
theorem Yeu(l:List Int):PC E 192 [.s .int l] (.bool (Yf5 l)):=by
 cases l with
 |nil=>
  refine M.F Tryz.func192 ?_;refine M.w0 ?_
  rfl
 |cons x l=>
  refine M.F Tryz.func192 ?_;(repeat' first|refine M.o0 ?_|refine M.gs ?_ ?_<;>intro h|refine M.z1 9 ?_|refine M.gk ?_|fail);all_goals first
   |rfl
   |(exfalso;simp at h;done)
   |(exfalso;simp at h;omega)
theorem Zlm(t:Tm){g:List Ty}{T:Ty}(ht:t.err=0)(hi:t.inf g=(T,0))(hg:g.length<=100):PC E 194 [.agg t.view] (.s .int (Zes t)):=by
 have s:=(Tm.err_iff t).1 ht;have hfl:=yt ht;have h1:=Yia t (by omega) (fun _ p hp=>by
  have a1:=Zch t g 0 (g.length+t.size) (by rw[hi]) s.1 (by omega) p hp;have a2:=Tm.vars_nonneg t s.1 0 p hp;omega)
 unfold Zes;refine M.F Tryz.func194 ?_;refine M.w1 @h1 ?_;simp[zn,V.wk,V.wks]
theorem Zk5(f:Fm)(t:Tm)(hf:f.full<549755813888)(ht:t.full<549755813888):PC E 195 [.agg f.view,.agg t.view] (.tup [.agg (Zey f t).1.view,.i (Zey f t).2]):=by
 have h1:=Yic f 0 t hf ht;refine M.F Tryz.func195 ?_;refine M.w1 @h1 ?_
 rfl
theorem Zir(c:Ck)(v h:Nat)(h1:c.tys.length<=1000/\v<=1000)(h2:c.hyps.length<=1000/\h<=1000):PC E 151 [.agg c.view,.i v,.i h] (.i (c.room v h)):=by
 unfold Ck.room;by_cases a1:c.tys.length+v>16
 ·rw[if_pos (.inl a1)];have b1:decide (((c.tys.length:Nat):Int)+v>16)=true:=by simp;omega
  refine M.F Tryz.func151 ?_;(repeat' first|refine M.w0 ?_|refine M.gs ?_ ?_<;>intro h|refine M.cs ?_ ?_<;>intro h|fail);all_goals first
   |rfl
   |(exfalso;simp at*;omega)
 ·by_cases a2:c.hyps.length+h>16
  ·rw[if_pos (.inr a2)];refine M.F Tryz.func151 ?_;(repeat' first|refine M.w0 ?_|refine M.gs ?_ ?_<;>intro h|refine M.cs ?_ ?_<;>intro h|fail);all_goals first
    |rfl
    |(exfalso;simp at*;omega)
  ·rw[if_neg (by omega)];refine M.F Tryz.func151 ?_;(repeat' first|refine M.w0 ?_|refine M.gs ?_ ?_<;>intro h|refine M.cs ?_ ?_<;>intro h|fail);all_goals first
    |rfl
    |(exfalso;simp at*;omega)
theorem Zlj(c:Ck)(f:Fm)(h:c.hyps.length<=1000):PC E 152 [.agg c.view,.agg f.view] (.agg (c.with_ f).view):=by
 unfold Ck.with_;refine M.F Tryz.func152 ?_;refine M.w0 ?_
 rfl
theorem Zyv(c:Ck)(t:Tm)(k:Int)(ht:t.full<137438953000)(hg:(c.tys.map Ty.size).sum<1099511627776):PC E 159 [.agg c.view,.agg t.view,.i k] (.i (Zp8 c t k)):=by
 have h1:=Zmw c.tys t (by omega) hg;unfold Zp8;by_cases e:(xq c.tys t).2=0
 ·rw[if_neg (by simp[e])];rw[e] at h1;by_cases e2:(xq c.tys t).1.kind=k
  ·rw[if_neg (by simp[e2])];refine M.F Tryz.func159 ?_;(repeat' first|refine M.w1 @h1 ?_|refine M.cs ?_ ?_<;>intro h|fail);all_goals first
    |rfl
    |(exfalso;simp at h;exact h e2)
  ·rw[if_pos e2];refine M.F Tryz.func159 ?_;(repeat' first|refine M.w1 @h1 ?_|refine M.cs ?_ ?_<;>intro h|fail);all_goals first
    |rfl
    |(exfalso;simp at h;exact e2 h)
 ·rw[if_pos e];refine M.F Tryz.func159 ?_;(repeat' first|refine M.w1 @h1 ?_|refine M.cs ?_ ?_<;>intro h|fail);all_goals first
   |rfl
   |(exfalso;simp_all;done)
theorem Zs9{acc l:List Int}{m:Nat}(hm:m<l.length):nub acc (l.take (m+1))=uh l[m] (nub acc (l.take m)):=by
 rw[List.take_succ_eq_append_getElem hm,Zbw,Zlu]
theorem Zbb(a b:List Int)(ha:a.length<=100000)(hb:b.length<=100000):PC E 150 [.s .int a,.s .int b] (.s .int (u7 a b)):=by
 have hl1:=Zd1 a [];have hl2:=Zd1 b (nub [] a);have hs:=Zp4 (ks:=nub (nub [] a) b) (wc (wc List.nodup_nil)) (by simp at hl1;omega);refine M.F Tryz.func150 ?_;refine M.w0 ?_;refine M.rt a.length
  (fun m=>([(1,.s .int b),(5,.mp 0),(11,.s .int a),(12,.i a.length),(13,.i m)],⟨1,[(0,.map .bl (nub [] (a.take m)) (List.replicate (nub [] (a.take m)).length true))]⟩))
  ?_ ?_ ?_
 ·simp only[List.take_zero,Zbr,List.length_nil,List.replicate_zero];exact(M.W rh1)
 ·intro m hm _;refine M.w0 ?_;refine⟨rfl,trivial,?_⟩;simp only[Zs9 hm];rw[<-vx];exact(M.W rh1)
 ·intro _;simp only[List.take_length];refine M.w0 ?_;refine M.rt b.length
   (fun m=>([(5,.mp 0),(20,.s .int b),(21,.i b.length),(22,.i m)],⟨1,[(0,.map .bl (nub (nub [] a) (b.take m)) (List.replicate (nub (nub [] a) (b.take m)).length true))]⟩))
   ?_ ?_ ?_
  ·simp only[List.take_zero,Zbr];exact(M.W rh1)
  ·intro m hm _;refine M.w0 ?_;refine⟨rfl,trivial,?_⟩;simp only[Zs9 hm];rw[<-vx];exact(M.W rh1)
  ·intro _;simp only[List.take_length];refine M.w1 @hs ?_
   rfl
theorem Yan{l:List Int}{n:Int}{m:Nat}(hm:m<l.length):Zj9 (l.take (m+1)) n=if l[m]>=n then Zj9 (l.take m) n++[l[m]-n] else Zj9 (l.take m) n:=by
 unfold Zj9;rw[List.take_succ_eq_append_getElem hm,List.filter_append,List.map_append];by_cases h:l[m]>=n
 ·rw[if_pos h];simp[List.filter,h]
 ·rw[if_neg h];simp[List.filter,h]
theorem Zh0(l:List Int)(n:Int):(Zj9 l n).length<=l.length:=by unfold Zj9;rw[List.length_map];exact List.length_filter_le _ _
theorem Zub(l:List Int)(n:Int)(hl:l.length<=100000)(hn:0<=n/\n<=100)(hx:∀x∈l,0<=x/\x<=1000000):PC E 191 [.s .int l,.i n] (.s .int (Zj9 l n)):=by
 refine M.F Tryz.func191 ?_;refine M.w0 ?_;refine M.rt l.length
  (fun m=>([(1,.i n),(5,.slice (.own 0) (.t .int (Zj9 (l.take m) n))),(8,.s .int l),(9,.i l.length),(10,.i m)],⟨1,[(0,.row)]⟩))
  (M.W [none]) ?_ ?_
 ·intro m hm _;have hol:=Zh0 (l.take m) n;have hol2:(Zj9 (l.take m) n).length<=l.length:=by rw[List.length_take] at hol;omega
  have hv:=hx l[m] (List.getElem_mem hm);have he:=Yan (n:=n) hm;(repeat' first|refine M.w0 ?_|refine M.cs ?_ ?_<;>intro h|fail)
  ·have h':l[m]>=n:=by simpa using h
   rw[if_pos h'] at he;refine⟨rfl,trivial,?_⟩;simp only[he];exact(M.W [some 1])
  ·have h':¬l[m]>=n:=by simpa using h
   rw[if_neg h'] at he;refine⟨rfl,trivial,?_⟩;simp only[he];exact(M.W rh1)
 ·intro _;simp only[List.take_length];refine M.w0 ?_
  rfl
abbrev Znj(f:Fm)(u:List Int)(e:Int):V:= .tup [.agg (f.view++[.s .int u]),.i e]
abbrev Zc5(r:Res):V:= .tup [.agg r.1.view,.s .int r.2.1,.i r.2.2]
theorem Ck.ok.sum{c:Ck}(hc:c.ok):(c.tys.map Ty.size).sum<=1024:=by
 have h1:=hc.len;have h2:=Zgx (f:=Ty.size) (C:=64) c.tys fun x hx=>((Ty.err_iff x).1 (hc.all x hx)).2;omega
theorem Zvy{c:Ck}(hc:c.ok){f:Fm}{u:List Int}{e:Int}(h:Zga c (f,u,e)):f.full<=266240/\u.length<=16/\∀x∈u,0<=x/\x<=1000000:=by
 have hl:=hc.len;by_cases he:e=0
 ·obtain ⟨h1,_,h3⟩:=h.1 he;have h4:=h3.len;refine⟨xg h1,by simp only at h4;omega,fun x hx=> ?_⟩;have:=h3.2 x hx;omega
 ·have h1:=h.2 he;simp only[yh,Prod.mk.injEq] at h1;rw[h1.1,h1.2.1];exact⟨by decide,by simp,fun x hx=>by cases hx⟩
theorem Ygf{c:Ck}(hc:c.ok)(i:Int)(hi:0<=i):PC E 101 [.agg c.view,.agg (Pf.mk 1 i (.mk 0 []) [] [] []).view] (Zc5 (Yik c i)):=by
 have hn:=hc.nh;unfold Yik;by_cases h1:i>=c.hyps.length
 ·rw[if_pos h1];refine M.F Tryz.func101 ?_;(repeat' first|refine M.v0 ?_|refine M.cs ?_ ?_<;>intro h|fail);all_goals first
   |rfl
   |(exfalso;simp at h;omega)
 ·rw[if_neg h1];have hlt:c.hyps.length-1-i.toNat<c.hyps.length:=by omega
  rw[Zda hlt];simp only[Pf.view,Pf.kind,Pf.index,Pf.ty,Pf.terms,Pf.forms,Pf.args];refine M.F Tryz.func101 ?_;(repeat' first|refine M.v0 ?_|refine M.cs ?_ ?_<;>intro h|fail)
  ·exfalso;simp at h;omega
  ·refine L.ixt (c.hyps.length-1-i.toNat) rfl rfl rfl rfl (by omega) rfl rfl (by omega) ?_;refine M.w0 ?_
   rfl
theorem Ygs{c:Ck}(hc:c.ok)(i:Int)(hi:0<=i):PC E 101 [.agg c.view,.agg (Pf.mk 2 i (.mk 0 []) [] [] []).view] (Zc5 (Yim c i)):=by
 have hn:=hc.nl;unfold Yim;by_cases h1:i>=c.lems.length
 ·rw[if_pos h1];refine M.F Tryz.func101 ?_;(repeat' first|refine M.v0 ?_|refine M.cs ?_ ?_<;>intro h|fail);all_goals first
   |rfl
   |(exfalso;simp at h;omega)
 ·rw[if_neg h1];have hlt:i.toNat<c.lems.length:=by omega
  rw[Zda hlt];simp only[Pf.view,Pf.kind,Pf.index,Pf.ty,Pf.terms,Pf.forms,Pf.args];refine M.F Tryz.func101 ?_;(repeat' first|refine M.v0 ?_|refine M.cs ?_ ?_<;>intro h|fail)
  ·exfalso;simp at h;omega
  ·refine L.ixt i.toNat rfl rfl rfl rfl (by omega) rfl rfl (by omega) ?_;refine M.w0 ?_
   rfl
section
variable {c:Ck} (hc:c.ok) {p q:Pf} {f0 f1:Fm} {u0 u1:List Int} {e0 e1:Int}
include hc
theorem Yfw(hp:PC E 41 [.agg c.view,.agg p.view] (Znj f0 u0 e0))(hq:PC E 41 [.agg c.view,.agg q.view] (Znj f1 u1 e1))(o0:Zga c (f0,u0,e0))(o1:Zga c (f1,u1,e1)):
 PC E 101 [.agg c.view,.agg (Pf.mk 3 0 (.mk 0 []) [] [] [p,q]).view] (Zc5 (Yhn (fun _=>(f0,u0,e0)) (fun _=>(f1,u1,e1)) c)):=by
 have b0:=Zvy hc o0;have b1:=Zvy hc o1;have h2:=Zjs 2 f0 f1 (by omega) (by omega);have h3:=Zbb u0 u1 (by omega) (by omega);unfold Yhn;by_cases he:e0=0
 ·subst he;rw[if_neg (by simp)];refine M.F Tryz.func101 ?_;refine M.v4 @hp @hq @h2 @h3 ?_
  rfl
 ·rw[if_pos he];refine M.F Tryz.func101 ?_;(repeat' first|refine M.v4 @hp @hq @h2 @h3 ?_|refine M.cs ?_ ?_<;>intro h|fail);all_goals first
   |rfl
   |(exfalso;simp at h;exact he h)
theorem Zyp(j:Nat)(hj:j<2)(hp:PC E 41 [.agg c.view,.agg p.view] (Znj f0 u0 e0))(o0:Zga c (f0,u0,e0)):
 PC E 101 [.agg c.view,.agg (Pf.mk (4+j) 0 (.mk 0 []) [] [] [p]).view] (Zc5 (Yfs j (fun _=>(f0,u0,e0)) c)):=by
 unfold Yfs;by_cases he:e0=0
 ·subst he;rw[if_neg (by simp)];by_cases hk:f0.kind=2
  ·rw[if_neg (by simp[hk])];obtain⟨x,y,e⟩:=Zof ((Fm.err_iff _).1 (o0.1 rfl).1).1 (.inl hk);simp only at e;rw[hk] at e;subst e;rcases j with _|_|j
   ·refine M.F Tryz.func101 ?_;refine M.v1 @hp ?_
    rfl
   ·refine M.F Tryz.func101 ?_;refine M.v1 @hp ?_
    rfl
   ·omega
  ·rw[if_pos hk];rcases j with _|_|j
   ·refine M.F Tryz.func101 ?_;(repeat' first|refine M.o1 @hp ?_|refine M.z1 24 ?_|refine M.bl ?_|refine M.cs ?_ ?_<;>intro h|refine M.gk ?_|fail);all_goals first
     |rfl
     |(exfalso;simp at h;exact hk h)
   ·refine M.F Tryz.func101 ?_;(repeat' first|refine M.o1 @hp ?_|refine M.z1 24 ?_|refine M.bl ?_|refine M.cs ?_ ?_<;>intro h|refine M.gk ?_|fail);all_goals first
     |rfl
     |(exfalso;simp at h;exact hk h)
   ·omega
 ·rw[if_pos he];rcases j with _|_|j
  ·refine M.F Tryz.func101 ?_;(repeat' first|refine M.o1 @hp ?_|refine M.z1 22 ?_|refine M.bl ?_|refine M.cs ?_ ?_<;>intro h|refine M.gk ?_|fail);all_goals first
    |rfl
    |(exfalso;simp at h;exact he h)
  ·refine M.F Tryz.func101 ?_;(repeat' first|refine M.o1 @hp ?_|refine M.z1 22 ?_|refine M.bl ?_|refine M.cs ?_ ?_<;>intro h|refine M.gk ?_|fail);all_goals first
    |rfl
    |(exfalso;simp at h;exact he h)
  ·omega
theorem Ydg{f:Fm}(hf:f.full<=300000)(hp:y6 c.tys f=0->c.room 0 1=0->PC E 41 [.agg (c.with_ f).view,.agg p.view] (Znj f0 u0 e0))(b0:y6 c.tys f=0->c.room 0 1=0->f0.full<=266240):
 PC E 101 [.agg c.view,.agg (Pf.mk 6 0 (.mk 0 []) [] [f] [p]).view] (Zc5 (Zrm f (fun _=>(f0,u0,e0)) c)):=by
 have hl:=hc.len;have hn:=hc.nh;have h1:=Zig c.tys f (by omega) (by have:=hc.sum;omega);have h2:=Zir c 0 1 (by omega) (by omega);have h3:=Zlj c f (by omega);unfold Zrm;by_cases t0:y6 c.tys f=0
 ·rw[if_neg (by simp[t0])];rw[t0] at h1;by_cases r0:c.room 0 1=0
  ·rw[if_neg (by simp[r0])];rw[r0] at h2;have h5:=hp t0 r0;have b1:=b0 t0 r0;have h4:=Zjs 3 f f0 (by omega) (by omega);refine M.F Tryz.func101 ?_;refine M.v5 @h1 @h2 @h3 @h4 @h5 ?_
   rfl
  ·rw[if_pos r0];rw[Zji r0] at h2;refine M.F Tryz.func101 ?_;refine M.v2 @h1 @h2 ?_
   rfl
 ·rw[if_pos t0];refine M.F Tryz.func101 ?_;(repeat' first|refine M.o1 @h1 ?_|refine M.z1 29 ?_|refine M.bl ?_|refine M.cs ?_ ?_<;>intro h|refine M.gk ?_|fail);all_goals first
   |rfl
   |(exfalso;simp at h;exact t0 h)
theorem Ydx(hp:PC E 41 [.agg c.view,.agg p.view] (Znj f0 u0 e0))(hq:PC E 41 [.agg c.view,.agg q.view] (Znj f1 u1 e1))(o0:Zga c (f0,u0,e0))(o1:Zga c (f1,u1,e1)):
 PC E 101 [.agg c.view,.agg (Pf.mk 7 0 (.mk 0 []) [] [] [p,q]).view] (Zc5 (Zra (fun _=>(f0,u0,e0)) (fun _=>(f1,u1,e1)) c)):=by
 have b0:=Zvy hc o0;have b1:=Zvy hc o1;have h3:=Zbb u0 u1 (by omega) (by omega);unfold Zra;by_cases he:e0=0;case neg=>
  rw[if_pos he];refine M.F Tryz.func101 ?_;(repeat' first|refine M.o1 @hp ?_|refine M.z1 38 ?_|refine M.bl ?_|refine M.cs ?_ ?_<;>intro h|refine M.gk ?_|fail);all_goals first
   |rfl
   |(exfalso;simp at h;exact he h)
 subst he;rw[if_neg (by simp)];by_cases hk:f0.kind=3;case neg=>
  rw[if_pos hk];refine M.F Tryz.func101 ?_;(repeat' first|refine M.v1 @hp ?_|refine M.cs ?_ ?_<;>intro h|fail);all_goals first
   |rfl
   |(exfalso;simp at h;exact hk h)
   |trace_state
 rw[if_neg (by simp[hk])];obtain⟨x,y,e⟩:=Zof ((Fm.err_iff _).1 (o0.1 rfl).1).1 (.inr hk);simp only at e;rw[hk] at e;subst e;by_cases he1:e1=0;case neg=>
  rw[if_pos he1];refine M.F Tryz.func101 ?_;(repeat' first|refine M.v2 @hp @hq ?_|refine M.cs ?_ ?_<;>intro h|fail);all_goals first
   |rfl
   |(exfalso;simp at h;exact he1 h)
   |trace_state
 subst he1;rw[if_neg (by simp)];have ex:=uz (o0.1 rfl).1 (x:=x) (by simp[Zal]);have h4:=Znk x f1 (by have:=xg ex;omega) (by omega);refine M.F Tryz.func101 ?_;refine M.v4 @hp @hq @h3 @h4 ?_
 rfl
end
end Go.Ab
