/- A part of the proofs of this seat. No conditions. -/
import Derived.Test.YtpnbmjgblakifaaGreatDoorBCqDT1
import Derived.Test.YtpnbmjgblakifaaGreatDoorBCqS1
import Derived.Test.YtpnbmjgblakifaaGreatDoorST5
namespace Go.Ab
open Go Go.Proofs
set_option maxRecDepth 100000
set_option maxHeartbeats 4000000
set_option linter.all false
theorem Yfc:∀(n:Nat) (p:Pf) (v y:Int),p.full<=n->n<274877906944->(0<=v/\v+2*n<=1000000000000)->(0<=y/\y+2*n<=1000000000000)->p.shape=true->
 PC E 113 [.agg p.view,.agg [.i v,.i y],.agg [.nilf,.nilf,.nilf]] (.agg p.view):=by
 intro n;induction n with
 |zero=>intro p v y hz;have:=p.Aa;omega
 |succ n ih=>
 intro p v y hz hn hv hh hs;have hsz':=p.Ag;have hlen:=zd Pf.full Pf.Aa p.args;have hlen1:=zd Fm.full Fm.Aa p.Ac;have hlen2:=zd Tm.full Tm.Aa p.terms;have hty:=GB _ p.ty (Nat.le_refl _) (by omega);have hru:=vd p.kind;obtain⟨nd,n1,n2,n3,n4,_⟩:=QU hs;have hal:p.args.length<=2:=by
  rw[n4];unfold BO at n1
  repeat(split at n1;· cases n1;decide)
  cases n1
 have hpl:=fun(m:Nat) (hm:m<=1000000)=>yx p.kind v y nd n1 m hm (by omega) (by omega);have e2:CR p.kind=[.bool nd.index,.bool nd.typ,.i nd.terms,.i nd.Ac,.i nd.args,.i (AD p.kind),.i (As p.kind),.i (At p.kind)]:=by unfold CR;rw[n1]
 have b1:0<=As p.kind/\As p.kind<=2:=by unfold As;split<;>(try split)<;>omega
 have b2:0<=At p.kind/\At p.kind<=1:=by unfold At;split<;>omega
 rw[n1] at hru;simp only[Option.isSome_some] at hru;have hpf:=(zh hs).2.2.2;rw[e2] at hru;simp only[e2] at hpl;refine M.F Tryz.func113 ?_;(repeat' first|refine M.gw ?_|refine M.c2 (hru) ?_|refine M.c2 (hty) ?_|refine M.gs ?_ ?_<;>intro h|fail);all_goals
  refine AW.range p.terms.length (fun m=>True)
   (fun m=>([(3,.ptr 0 0),(4,.ptr 1 0),(5,.ptr 2 0),(6,.ptr 3 0),(7,.ptr 4 0),(9,.ptr 5 0),(44,.s .tm p.terms),(45,.i p.terms.length),(46,.i m)],⟨7,[(0,.var p.view),(1,.var [.i v,.i y]),(2,.var [.nilf,.nilf,.nilf]),(3,.var [.i 0,.i 0,.i 0,.slice .nil (.t .ty []),.slice .nil (.t .tm []),.slice .nil (.t .fm []),.slice .nil (.t .pf [])]),(4,.var [.bool nd.index,.bool nd.typ,.i nd.terms,.i nd.Ac,.i nd.args,.i (AD p.kind),.i (As p.kind),.i (At p.kind)]),(5,.var [.i p.kind,.i p.index,.i p.ty.kind,.s .ty p.ty.args,.slice (.own 6) (.t .tm (p.terms.take m)),.slice .nil (.t .fm []),.slice .nil (.t .pf [])]),(6,.row)]⟩))
   (by omega) (fun m=>rfl) (fun m=>rfl) rfl trivial (M.W [some 0,some 1,some 2,some 3,some 4,some 5,none]) ?_ ?_
  ·intro m hm _;have hs2:=zc Tm.full (List.getElem_mem hm);have hc:=OB _ p.terms[m] (Nat.le_refl _) (by omega);(repeat' first|refine M.gw ?_|refine M.c2 (hc) ?_|fail);exact⟨rfl,trivial,(M.W [some 0,some 1,some 2,some 3,some 4,some 5,some 8] (he:=(by(repeat'(first|exact trivial|exact Or.inr ⟨_,U,rfl⟩|refine And.intro ?_ ?_|refine⟨_,U,_,U,_,U,?_⟩|exact An.refl _|exact An.of_eq (by simp[Ao.Ax,List.take_append_getElem])));done)))⟩
  ·intro _;simp only[List.take_length];(repeat' first|refine M.gw ?_|fail);refine AW.range p.Ac.length (fun m=>True)
    (fun m=>([(3,.ptr 0 0),(4,.ptr 1 0),(5,.ptr 2 0),(6,.ptr 3 0),(7,.ptr 4 0),(9,.ptr 5 0),(73,.s .fm p.Ac),(74,.i p.Ac.length),(75,.i m)],⟨8,[(0,.var p.view),(1,.var [.i v,.i y]),(2,.var [.nilf,.nilf,.nilf]),(3,.var [.i 0,.i 0,.i 0,.slice .nil (.t .ty []),.slice .nil (.t .tm []),.slice .nil (.t .fm []),.slice .nil (.t .pf [])]),(4,.var [.bool nd.index,.bool nd.typ,.i nd.terms,.i nd.Ac,.i nd.args,.i (AD p.kind),.i (As p.kind),.i (At p.kind)]),(5,.var [.i p.kind,.i p.index,.i p.ty.kind,.s .ty p.ty.args,.slice (.own 6) (.t .tm p.terms),.slice (.own 7) (.t .fm (p.Ac.take m)),.slice .nil (.t .pf [])]),(6,.row),(7,.row)]⟩))
    (by omega) (fun m=>rfl) (fun m=>rfl) rfl trivial (M.W [some 0,some 1,some 2,some 3,some 4,some 5,some 6,none]) ?_ ?_
   ·intro m hm _;have hs2:=zc Fm.full (List.getElem_mem hm);have hc:=SD p.Ac[m] (by omega);(repeat' first|refine M.gw ?_|refine M.c2 (hc) ?_|fail);exact⟨rfl,trivial,(M.W [some 0,some 1,some 2,some 3,some 4,some 5,some 6,some 9] (he:=(by(repeat'(first|exact trivial|exact Or.inr ⟨_,U,rfl⟩|refine And.intro ?_ ?_|refine⟨_,U,_,U,_,U,?_⟩|exact An.refl _|exact An.of_eq (by simp[Ao.Ax,List.take_append_getElem])));done)))⟩
   ·intro _;simp only[List.take_length];(repeat' first|refine M.gw ?_|fail);refine AW.range p.args.length (fun m=>True)
     (fun m=>([(3,.ptr 0 0),(4,.ptr 1 0),(5,.ptr 2 0),(6,.ptr 3 0),(7,.ptr 4 0),(9,.ptr 5 0),(105,.s .pf p.args),(106,.i p.args.length),(107,.i m)],⟨9,[(0,.var p.view),(1,.var [.i v,.i y]),(2,.var [.nilf,.nilf,.nilf]),(3,.var [.i 0,.i 0,.i 0,.slice .nil (.t .ty []),.slice .nil (.t .tm []),.slice .nil (.t .fm []),.slice .nil (.t .pf [])]),(4,.var [.bool nd.index,.bool nd.typ,.i nd.terms,.i nd.Ac,.i nd.args,.i (AD p.kind),.i (As p.kind),.i (At p.kind)]),(5,.var [.i p.kind,.i p.index,.i p.ty.kind,.s .ty p.ty.args,.slice (.own 6) (.t .tm p.terms),.slice (.own 7) (.t .fm p.Ac),.slice (.own 8) (.t .pf (p.args.take m))]),(6,.row),(7,.row),(8,.row)]⟩))
     (by omega) (fun m=>rfl) (fun m=>rfl) rfl trivial (M.W [some 0,some 1,some 2,some 3,some 4,some 5,some 6,some 7,none]) ?_ ?_
    ·intro m hm _;have hs2:=zc Pf.full (List.getElem_mem hm);have hb:=hpl m (by omega);have hc:=ih p.args[m] (if(m:Int)=(nd.args:Int)-1 then v+As p.kind else v) (if(m:Int)=(nd.args:Int)-1 then y+At p.kind else y) (by omega) (by omega) (by split<;>omega) (by split<;>omega) (hpf _ (List.getElem_mem hm));(repeat' first|refine M.gw ?_|refine M.c2 (hb) ?_|refine M.c2 (hc) ?_|fail);exact⟨rfl,trivial,(M.W [some 0,some 1,some 2,some 3,some 4,some 5,some 6,some 7,some 10] (he:=(by(repeat'(first|exact trivial|exact Or.inr ⟨_,U,rfl⟩|refine And.intro ?_ ?_|refine⟨_,U,_,U,_,U,?_⟩|exact An.refl _|exact An.of_eq (by simp[Ao.Ax,List.take_append_getElem])));done)))⟩
    ·intro _;simp only[List.take_length];(repeat' first|refine M.gw ?_|fail)
     rfl
theorem WG(p:Pf)(hp:p.full<200000000000)(hs:p.shape=true):PC E 46 [.agg p.view] (.agg p.view):=by
 have h1:=Yfc _ p 0 0 (Nat.le_refl _) (by omega) (by omega) (by omega) hs;refine M.F Tryz.func46 ?_;(repeat' first|refine M.gw ?_|refine M.c2 (h1) ?_|fail)
 rfl
theorem u9(p:Pf)(h:p.kind=16\/p.kind=17->p.terms≠[]):PC E 127 [.agg p.view] (.agg [.i (yp p).1,.i (yp p).2]):=by
 by_cases hk:p.kind=16\/p.kind=17
 ·rw[VE hk];obtain⟨k,i,s,ts,fs,zs⟩:=p;simp only[Pf.Ah,Pf.Ai,Pf.Ad] at h hk ⊢;cases ts with
  |nil=>exact absurd rfl (h hk)
  |cons t ts=>
   obtain⟨a,b,c,d⟩:=t;refine M.F Tryz.func127 ?_;(repeat' first|refine M.gw ?_|refine M.gs ?_ ?_<;>intro h|refine M.zb ?_|refine M.cs ?_ ?_<;>intro h|fail);all_goals first
    |rfl
    |(exfalso;simp at*;omega)
    |trace_state
 ·by_cases h0:0<p.args.length
  ·rw[S5 hk h0];obtain⟨k,i,s,ts,fs,zs⟩:=p;simp only[Pf.Ah,Pf.Ai,Pf.Ad] at h hk h0 ⊢;cases zs with
   |nil=>exact absurd h0 (by simp)
   |cons z zs=>
    obtain⟨a1,a2,a3,a4,a5,a6⟩:=z;refine M.F Tryz.func127 ?_;(repeat' first|refine M.gw ?_|refine M.gs ?_ ?_<;>intro h|refine M.zb ?_|refine M.cs ?_ ?_<;>intro h|fail);all_goals first
     |rfl
     |(exfalso;have:=of_decide_eq_false h;simp only[Pf.Ad,List.length_cons] at this;omega)
     |(exfalso;simp at*;omega)
     |trace_state
  ·rw[TL hk h0];obtain⟨k,i,s,ts,fs,zs⟩:=p;simp only[Pf.Ah,Pf.Ai,Pf.Ad] at h hk h0 ⊢;refine M.F Tryz.func127 ?_;(repeat' first|refine M.gw ?_|refine M.gs ?_ ?_<;>intro h|refine M.zb ?_|refine M.cs ?_ ?_<;>intro h|fail);all_goals first
    |rfl
    |(exfalso;have:=of_decide_eq_true h;simp only[Pf.Ad] at this;omega)
    |(exfalso;simp at*;omega)
    |trace_state
theorem Ycl:PC E 128 [] (.slice .any (.u 2 (G2.map fun q=>[V.i q.1,V.i q.2]))):=by
 refine M.F Tryz.func128 ?_;(repeat' first|refine M.gw ?_|fail)
 rfl
theorem SR(p:Pf)(h:p.kind=16\/p.kind=17->p.terms≠[]):PC E 71 [.agg p.view] (.bool (vm p)):=by
 have h1:=u9 p h;have h2:=Ycl;unfold vm;obtain⟨a,ha⟩:∃a,a=(yp p).1:=⟨_,rfl⟩;obtain⟨b,hb⟩:∃b,b=(yp p).2:=⟨_,rfl⟩;rw[show yp p=(a,b) by rw[ha,hb]];rw[<-ha,<-hb] at h1;clear ha hb;obtain⟨L0,hL⟩:∃l,l=G2:=⟨_,rfl⟩;rw[<-hL] at h2 ⊢;have hl:L0.length=11:=by rw[hL];rfl
 have hlm:(SL.u 2 (L0.map fun q=>[V.i q.1,V.i q.2])).len=L0.length:=by simp[SL.len]
 clear hL;refine M.F Tryz.func71 ?_;(repeat' first|refine M.gw ?_|refine M.c2 (h1) ?_|refine M.c2 (h2) ?_|fail);rw[hlm];refine AW.range L0.length (fun m=>(a,b)∉L0.take m) (fun m=>([(3,.ptr 1 0),(8,.slice .any (.u 2 (L0.map fun q=>[V.i q.1,V.i q.2]))),(9,.i L0.length),(10,.i m)],⟨2,[(0,.var p.view),(1,.var [.i a,.i b])]⟩))
  (by omega) (fun m=>rfl) (fun m=>rfl) rfl (by simp) (M.W [some 0,some 1]) ?_ ?_
 ·intro m hm hP;(repeat' first|refine M.gw ?_|fail);refine L.ix m (cs:=[.i L0[m].1,.i L0[m].2]) rfl rfl rfl rfl rfl (by rw[hlm];exact hm) (by simp[SL.get,hm]) rfl rfl ?_;by_cases e:L0[m].1=a/\L0[m].2=b
  ·have em:(a,b)∈L0:=by
    have:L0[m]=(a,b):=Prod.ext e.1 e.2;exact this▸List.getElem_mem hm
   rw[decide_eq_true em];(repeat' first|refine M.gw ?_|refine M.bp 3 ?_|refine M.cs ?_ ?_<;>intro h|fail);all_goals first
    |rfl
    |(exfalso;simp[e.1,e.2] at h;done)
    |trace_state
  ·repeat' (first|refine M.gw ?_|refine M.bp 3 ?_|refine M.cs ?_ ?_<;>intro h|fail)
   all_goals first
    |(exfalso;simp at h;exact e h)
    |skip
   refine⟨rfl,fun hc=> ?_,(M.W [some 0,some 1])⟩;rw[List.take_succ_eq_append_getElem hm,List.mem_append] at hc;rcases hc with hc|hc
   ·exact hP hc
   ·simp only[List.mem_singleton] at hc;exact e ⟨by rw[<-hc],by rw[<-hc]⟩
 ·intro hP;rw[List.take_length] at hP;rw[decide_eq_false hP];(repeat' first|refine M.gw ?_|fail)
  rfl
theorem ON(p:Pf)(t:Tm)(hp:p.full<274877906944)(ht:t.full<274877906944):PC E 28 [.agg p.view,.i 0,.agg t.view] (.Az [.agg (Co p 0 t).view,.i (x7 p 0 t)]):=Yv p 0 t hp ht
theorem VD(p q:Pf)(hp:p.full<274877906944)(hq:q.full<274877906944):PC E 31 [.agg p.view,.i 0,.agg q.view] (.Az [.agg (vq p 0 q).view,.i (va p 0 q)]):=Xx p 0 q hp hq
theorem Ydw(t:Tm)(ht:t.full<274877906944):PC E 212 [.agg t.view,.i 0,.i 1] (.Az [.agg (E1 t).view,.i (xm t 0 1)]):=Zph t 0 1 ht
theorem V3(p:Pf)(t:Tm):PC E 211 [.agg p.view,.agg t.view] (.agg (FA p t).view):=by
 refine M.F Tryz.func211 ?_;(repeat' first|refine M.gw ?_|fail)
 rfl
theorem OO(q:Pf)(t:Tm)(p:Pf)(hq:q.full<100000000000)(ht:t.full<100000000000)(hp:p.full<100000000000)(hx:(Co q 0 t).full<100000000000):
 PC E 210 [.agg q.view,.agg t.view,.agg p.view] (.Az [.agg (D4 q t p).1.view,.i (D4 q t p).2]):=by
 have h1:=ON q t (by omega) (by omega);have h2:=VD (Co q 0 t) p (by omega) (by omega);unfold D4;by_cases e:x7 q 0 t=0
 ·rw[if_neg (by simp[e])];rw[e] at h1;refine M.F Tryz.func210 ?_;(repeat' first|refine M.gw ?_|refine M.c2 (h1) ?_|refine M.c2 (h2) ?_|fail)
  rfl
 ·rw[if_pos e];generalize Co q 0 t=X at*;refine M.F Tryz.func210 ?_;(repeat' first|refine M.gw ?_|refine M.c2 (h1) ?_|refine M.cs ?_ ?_<;>intro h|fail);all_goals first
   |rfl
   |(exfalso;simp at h;exact e h)
   |trace_state
theorem Yhv{i i2:Int}{s s2:Ty}{ts ts2:List Tm}{fs fs2:List Fm}{a b:Pf}{rest rest2:List Pf}:
 PC E 175 [.agg (Pf.mk 4 i s ts fs (Pf.mk 3 i2 s2 ts2 fs2 (a::b::rest2)::rest)).view] (.Az [.agg a.view,.i 0]):=by
 have hof:=u9 (Pf.mk 4 i s ts fs (Pf.mk 3 i2 s2 ts2 fs2 (a::b::rest2)::rest)) (fun h=>by simp at h);rw[show yp (Pf.mk 4 i s ts fs (Pf.mk 3 i2 s2 ts2 fs2 (a::b::rest2)::rest))=(4,3) from rfl] at hof;refine M.F Tryz.func175 ?_;(repeat' first|refine M.gw ?_|refine M.bp 3 ?_|refine M.c2 (hof) ?_|refine M.bl ?_|fail);all_goals first
  |rfl
  |trace_state
theorem Yiq{i i2:Int}{s s2:Ty}{ts ts2:List Tm}{fs fs2:List Fm}{a b:Pf}{rest rest2:List Pf}:
 PC E 175 [.agg (Pf.mk 5 i s ts fs (Pf.mk 3 i2 s2 ts2 fs2 (a::b::rest2)::rest)).view] (.Az [.agg b.view,.i 0]):=by
 have hof:=u9 (Pf.mk 5 i s ts fs (Pf.mk 3 i2 s2 ts2 fs2 (a::b::rest2)::rest)) (fun h=>by simp at h);rw[show yp (Pf.mk 5 i s ts fs (Pf.mk 3 i2 s2 ts2 fs2 (a::b::rest2)::rest))=(5,3) from rfl] at hof;refine M.F Tryz.func175 ?_;(repeat' first|refine M.gw ?_|refine M.bp 3 ?_|refine M.c2 (hof) ?_|refine M.bl ?_|fail);all_goals first
  |rfl
  |trace_state
theorem Ykn{i i2:Int}{s s2:Ty}{ts ts2:List Tm}{fs fs2:List Fm}{a b:Pf}{rest rest2:List Pf}(ha:a.full<100000000000)(hb:b.full<100000000000):
 PC E 175 [.agg (Pf.mk 7 i s ts fs (Pf.mk 6 i2 s2 ts2 fs2 (a::rest2)::b::rest)).view] (.Az [.agg (vq a 0 b).view,.i (va a 0 b)]):=by
 have hof:=u9 (Pf.mk 7 i s ts fs (Pf.mk 6 i2 s2 ts2 fs2 (a::rest2)::b::rest)) (fun h=>by simp at h);rw[show yp (Pf.mk 7 i s ts fs (Pf.mk 6 i2 s2 ts2 fs2 (a::rest2)::b::rest))=(7,6) from rfl] at hof;have c1:=VD a b (by omega) (by omega);refine M.F Tryz.func175 ?_;(repeat' first|refine M.gw ?_|refine M.bp 3 ?_|refine M.c2 (hof) ?_|refine M.c2 (c1) ?_|refine M.bl ?_|fail);all_goals first
  |rfl
  |trace_state
theorem Yks{i i2:Int}{s s2:Ty}{t:Tm}{ts ts2:List Tm}{fs fs2:List Fm}{a:Pf}{rest rest2:List Pf}(ha:a.full<100000000000)(ht:t.full<100000000000):
 PC E 175 [.agg (Pf.mk 9 i s (t::ts) fs (Pf.mk 8 i2 s2 ts2 fs2 (a::rest2)::rest)).view] (.Az [.agg (Co a 0 t).view,.i (x7 a 0 t)]):=by
 have hof:=u9 (Pf.mk 9 i s (t::ts) fs (Pf.mk 8 i2 s2 ts2 fs2 (a::rest2)::rest)) (fun h=>by simp at h);rw[show yp (Pf.mk 9 i s (t::ts) fs (Pf.mk 8 i2 s2 ts2 fs2 (a::rest2)::rest))=(9,8) from rfl] at hof;have c1:=ON a t (by omega) (by omega);refine M.F Tryz.func175 ?_;(repeat' first|refine M.gw ?_|refine M.bp 3 ?_|refine M.c2 (hof) ?_|refine M.c2 (c1) ?_|refine M.bl ?_|fail);all_goals first
  |rfl
  |trace_state
theorem Yip{i i2:Int}{s s2:Ty}{t:Tm}{ts ts2:List Tm}{fs fs2:List Fm}{a:Pf}{rest rest2:List Pf}(ha:a.full<100000000000)(ht:t.full<100000000000):
 PC E 175 [.agg (Pf.mk 13 i s (t::ts) fs (Pf.mk 12 i2 s2 ts2 fs2 (a::rest2)::rest)).view] (.Az [.agg (Co a 0 t).view,.i (x7 a 0 t)]):=by
 have hof:=u9 (Pf.mk 13 i s (t::ts) fs (Pf.mk 12 i2 s2 ts2 fs2 (a::rest2)::rest)) (fun h=>by simp at h);rw[show yp (Pf.mk 13 i s (t::ts) fs (Pf.mk 12 i2 s2 ts2 fs2 (a::rest2)::rest))=(13,12) from rfl] at hof;have c1:=ON a t (by omega) (by omega);refine M.F Tryz.func175 ?_;(repeat' first|refine M.gw ?_|refine M.bp 3 ?_|refine M.c2 (hof) ?_|refine M.c2 (c1) ?_|refine M.bl ?_|fail);all_goals first
  |rfl
  |trace_state
theorem RT{i i2:Int}{s s2:Ty}{t:Tm}{ts ts2:List Tm}{fs fs2:List Fm}{a b:Pf}{rest rest2:List Pf}(ha:a.full<100000000000)(hb:b.full<100000000000)(ht:t.full<100000000000)(hx:(Co b 0 t).full<100000000000):
 PC E 175 [.agg (Pf.mk 11 i s ts fs (Pf.mk 10 i2 s2 (t::ts2) fs2 (a::rest2)::b::rest)).view] (.Az [.agg (D4 b t a).1.view,.i (D4 b t a).2]):=by
 have hof:=u9 (Pf.mk 11 i s ts fs (Pf.mk 10 i2 s2 (t::ts2) fs2 (a::rest2)::b::rest)) (fun h=>by simp at h);rw[show yp (Pf.mk 11 i s ts fs (Pf.mk 10 i2 s2 (t::ts2) fs2 (a::rest2)::b::rest))=(11,10) from rfl] at hof;have c1:=OO b t a hb ht ha hx;refine M.F Tryz.func175 ?_;(repeat' first|refine M.gw ?_|refine M.bp 3 ?_|refine M.c2 (hof) ?_|refine M.c2 (c1) ?_|refine M.bl ?_|fail);all_goals first
  |rfl
  |trace_state
theorem Ylm{i i2:Int}{s s2:Ty}{t:Tm}{ts ts2:List Tm}{fs fs2:List Fm}{a b:Pf}{rest rest2:List Pf}(ha:a.full<100000000000)(hb:b.full<100000000000)(ht:t.full<100000000000)(hx:(Co b 0 t).full<100000000000):
 PC E 175 [.agg (Pf.mk 15 i s ts fs (Pf.mk 14 i2 s2 (t::ts2) fs2 (a::rest2)::b::rest)).view] (.Az [.agg (D4 b t a).1.view,.i (D4 b t a).2]):=by
 have hof:=u9 (Pf.mk 15 i s ts fs (Pf.mk 14 i2 s2 (t::ts2) fs2 (a::rest2)::b::rest)) (fun h=>by simp at h);rw[show yp (Pf.mk 15 i s ts fs (Pf.mk 14 i2 s2 (t::ts2) fs2 (a::rest2)::b::rest))=(15,14) from rfl] at hof;have c1:=OO b t a hb ht ha hx;refine M.F Tryz.func175 ?_;(repeat' first|refine M.gw ?_|refine M.bp 3 ?_|refine M.c2 (hof) ?_|refine M.c2 (c1) ?_|refine M.bl ?_|fail);all_goals first
  |rfl
  |trace_state
theorem Yjl{i i2:Int}{s s2:Ty}{ts ts2:List Tm}{fs:List Fm}{a:Pf}{rest:List Pf}:
 PC E 175 [.agg (Pf.mk 16 i s (Tm.mk 4 i2 s2 ts2::ts) fs (a::rest)).view] (.Az [.agg a.view,.i 0]):=by
 have hof:=u9 (Pf.mk 16 i s (Tm.mk 4 i2 s2 ts2::ts) fs (a::rest)) (fun h=>by simp);rw[show yp (Pf.mk 16 i s (Tm.mk 4 i2 s2 ts2::ts) fs (a::rest))=(16,4) from rfl] at hof;refine M.F Tryz.func175 ?_;(repeat' first|refine M.gw ?_|refine M.bp 3 ?_|refine M.c2 (hof) ?_|refine M.bl ?_|fail);all_goals first
  |rfl
  |trace_state
theorem Yli{i i2:Int}{s s2:Ty}{ts ts2:List Tm}{fs:List Fm}{a:Pf}{rest:List Pf}:
 PC E 175 [.agg (Pf.mk 17 i s (Tm.mk 7 i2 s2 ts2::ts) fs (a::rest)).view] (.Az [.agg a.view,.i 0]):=by
 have hof:=u9 (Pf.mk 17 i s (Tm.mk 7 i2 s2 ts2::ts) fs (a::rest)) (fun h=>by simp);rw[show yp (Pf.mk 17 i s (Tm.mk 7 i2 s2 ts2::ts) fs (a::rest))=(17,7) from rfl] at hof;refine M.F Tryz.func175 ?_;(repeat' first|refine M.gw ?_|refine M.bp 3 ?_|refine M.c2 (hof) ?_|refine M.bl ?_|fail);all_goals first
  |rfl
  |trace_state
theorem Yhu{i i2:Int}{s s2:Ty}{t:Tm}{ts ts2:List Tm}{fs:List Fm}{a b:Pf}{rest:List Pf}(hp:(FA (Pf.mk 16 i s (Tm.mk 5 i2 s2 (t::ts2)::ts) fs (a::b::rest)) t).full<100000000000)(hb:b.full<100000000000)(ht:t.full<100000000000)(hx:(Co b 0 t).full<100000000000):
 PC E 175 [.agg (Pf.mk 16 i s (Tm.mk 5 i2 s2 (t::ts2)::ts) fs (a::b::rest)).view] (.Az [.agg (D4 b t (FA (Pf.mk 16 i s (Tm.mk 5 i2 s2 (t::ts2)::ts) fs (a::b::rest)) t)).1.view,.i (D4 b t (FA (Pf.mk 16 i s (Tm.mk 5 i2 s2 (t::ts2)::ts) fs (a::b::rest)) t)).2]):=by
 have hof:=u9 (Pf.mk 16 i s (Tm.mk 5 i2 s2 (t::ts2)::ts) fs (a::b::rest)) (fun h=>by simp);rw[show yp (Pf.mk 16 i s (Tm.mk 5 i2 s2 (t::ts2)::ts) fs (a::b::rest))=(16,5) from rfl] at hof;have c1:=V3 (Pf.mk 16 i s (Tm.mk 5 i2 s2 (t::ts2)::ts) fs (a::b::rest)) t;have c2:=OO b t (FA (Pf.mk 16 i s (Tm.mk 5 i2 s2 (t::ts2)::ts) fs (a::b::rest)) t) hb ht hp hx;generalize FA (Pf.mk 16 i s (Tm.mk 5 i2 s2 (t::ts2)::ts) fs (a::b::rest)) t=A at*;refine M.F Tryz.func175 ?_;(repeat' first|refine M.gw ?_|refine M.bp 3 ?_|refine M.c2 (hof) ?_|refine M.c2 (c1) ?_|refine M.c2 (c2) ?_|refine M.bl ?_|fail);all_goals first
  |rfl
  |trace_state
theorem Yis{i i2:Int}{s s2:Ty}{h l:Tm}{ts ts2:List Tm}{fs:List Fm}{a b:Pf}{rest:List Pf}
 (hp:(FA (Pf.mk 17 i s (Tm.mk 8 i2 s2 (h::l::ts2)::ts) fs (a::b::rest)) l).full<100000000000) (hb:b.full<100000000000) (hh:h.full<100000000000) (hl:l.full<100000000000) (hl1:(E1 l).full<100000000000)
 (hx:(Co b 0 (E1 l)).full<100000000000) (hy:(Co (Co b 0 (E1 l)) 0 h).full<100000000000):
 PC E 175 [.agg (Pf.mk 17 i s (Tm.mk 8 i2 s2 (h::l::ts2)::ts) fs (a::b::rest)).view]
  (.Az [.agg (I4 (Pf.mk 17 i s (Tm.mk 8 i2 s2 (h::l::ts2)::ts) fs (a::b::rest)) h l).1.view,.i (I4 (Pf.mk 17 i s (Tm.mk 8 i2 s2 (h::l::ts2)::ts) fs (a::b::rest)) h l).2]):=by
 have hof:=u9 (Pf.mk 17 i s (Tm.mk 8 i2 s2 (h::l::ts2)::ts) fs (a::b::rest)) (fun h=>by simp);rw[show yp (Pf.mk 17 i s (Tm.mk 8 i2 s2 (h::l::ts2)::ts) fs (a::b::rest))=(17,8) from rfl] at hof;have c1:=Ydw l (by omega);have c2:=ON b (E1 l) (by omega) (by omega);have c3:=V3 (Pf.mk 17 i s (Tm.mk 8 i2 s2 (h::l::ts2)::ts) fs (a::b::rest)) l;have c4:=OO (Co b 0 (E1 l)) h _ hx hh hp hy;unfold I4;rw[show(Pf.mk 17 i s (Tm.mk 8 i2 s2 (h::l::ts2)::ts) fs (a::b::rest)).arg 1=b from rfl];generalize FA (Pf.mk 17 i s (Tm.mk 8 i2 s2 (h::l::ts2)::ts) fs (a::b::rest)) l=A at*;by_cases e1:xm l 0 1=0;case neg=>
  rw[if_pos e1];refine M.F Tryz.func175 ?_;(repeat' first|refine M.gw ?_|refine M.bp 3 ?_|refine M.c2 (hof) ?_|refine M.c2 (c1) ?_|refine M.bl ?_|refine M.cs ?_ ?_<;>intro h|fail);all_goals first
   |rfl
   |(exfalso;simp at h;exact e1 h)
   |(exfalso;rename_i hq;simp at hq;exact e1 hq)
   |trace_state
 rw[if_neg (by simp[e1])];rw[e1] at c1;generalize E1 l=ll at*;by_cases e2:x7 b 0 ll=0;case neg=>
  rw[if_pos e2];generalize Co b 0 ll=X at*;refine M.F Tryz.func175 ?_;(repeat' first|refine M.gw ?_|refine M.bp 3 ?_|refine M.c2 (hof) ?_|refine M.c2 (c1) ?_|refine M.c2 (c2) ?_|refine M.bl ?_|refine M.cs ?_ ?_<;>intro h|fail);all_goals first
   |rfl
   |(exfalso;simp at h;exact e2 h)
   |trace_state
 rw[if_neg (by simp[e2])];rw[e2] at c2;generalize Co b 0 ll=X at*;generalize D4 X h A=Y at*;refine M.F Tryz.func175 ?_;(repeat' first|refine M.gw ?_|refine M.bp 3 ?_|refine M.c2 (hof) ?_|refine M.c2 (c1) ?_|refine M.c2 (c2) ?_|refine M.c2 (c3) ?_|refine M.c2 (c4) ?_|refine M.bl ?_|fail)
 rfl
theorem EL{α:Type}{l:List α}(h:l.length=1):∃a,l=[a]:=List.length_eq_one_iff.1 h
theorem Ho{α:Type}{l:List α}(h:l.length=2):∃a b,l=[a,b]:=by
 match l,h with
 |[a,b],_=>exact⟨a,b,rfl⟩
theorem y6{p:Pf}{k:Int}{nd:Nd}(hs:p.shape=true)(hk:p.kind=k)(hn:BO k=some nd):p.terms.length=nd.terms/\p.Ac.length=nd.Ac/\p.args.length=nd.args:=by
 obtain⟨hh,_⟩:=zh hs;obtain⟨nd',n1,n2,n3,n4,_⟩:=Hz hh;rw[hk,hn] at n1;obtain rfl:=Option.some.inj n1;exact⟨n2,n3,n4⟩
theorem MX{t:Tm}{k:Int}{n:Nat}(hs:t.shape=true)(hk:t.kind=k)(hn:CV k=some n):t.args.length=n:=by
 rw[Tm.Ak,Bool.and_eq_true] at hs;have h:=hs.1;unfold Tm.head at h;rw[hk,hn] at h;simp only[Bool.and_eq_true,beq_iff_eq] at h;exact h.1.1.1
theorem JR{p:Pf}{k u:Int}(h:yp p=(k,u))(hk:¬(k=16\/k=17))(hu:u≠0):p.kind=k/\0<p.args.length/\(p.arg 0).kind=u:=by
 have h1:p.kind=k:=by rw[<-SI,h]
 have h2:¬(p.kind=16\/p.kind=17):=by rw[h1];exact hk
 by_cases h0:0<p.args.length
 ·rw[S5 h2 h0] at h;exact⟨h1,h0,(Prod.mk.inj h).2⟩
 ·rw[TL h2 h0] at h;exact absurd (Prod.mk.inj h).2.symm hu
theorem MZ{p:Pf}{k u:Int}(h:yp p=(k,u))(hk:k=16\/k=17):p.kind=k/\p.Ei.kind=u:=by
 have h1:p.kind=k:=by rw[<-SI,h]
 rw[VE (by rw[h1];exact hk)] at h;exact⟨h1,(Prod.mk.inj h).2⟩
theorem Vv(p:Pf)(t:Tm):(FA p t).full<=p.full+t.full:=by
 rw[Pf.Ag,p.Ag];simp[FA];omega
theorem Ztz(t:Tm):(E1 t).full<=t.full+10:=by
 unfold E1;split
 ·exact Nat.le_trans (Tm.Dp (fun i c=>by simp[zl,Tm.full,Tm.Au,Ty.size,Ty.sizes]) t 0) (by omega)
 ·have:A0.full<=10:=by decide
  omega
theorem Yfo{p:Pf}(hs:p.shape=true)(hf:p.full<1000000000)(hc:yp p=(4,3)):PC E 175 [.agg p.view] (.Az [.agg (z7 p).1.view,.i (z7 p).2]):=by
 obtain⟨h1,h2,h3⟩:=JR hc (by decide) (by decide);obtain⟨l1,_,l3⟩:=y6 hs h1 (nd:=⟨0,0,1,false,false⟩) (by rfl);obtain⟨_,_,_,s6⟩:=zh hs;obtain⟨k,i,s,ts,fs,zs⟩:=p;simp only[Pf.Ah,Pf.Ai,Pf.Ar,Pf.Ad] at h1 h2 h3 l1 l3 s6;subst h1;obtain⟨z,rfl⟩:=EL l3;have hz:z.kind=3:=h3;have sz:=s6 z (by simp);obtain⟨m1,_,m3⟩:=y6 sz hz (nd:=⟨0,0,2,false,false⟩) (by rfl);obtain⟨k2,i2,s2,ts2,fs2,zs2⟩:=z;simp only[Pf.Ah,Pf.Ai,Pf.Ar,Pf.Ad] at hz m1 m3;subst hz;obtain⟨a,a2,rfl⟩:=Ho m3;rw[show z7 _=(a,0) by unfold z7;rw[hc];rfl];simp only[Pf.Ag,Pf.Ai,Pf.Ar,Pf.Ad,List.map_cons,List.map_nil,List.sum_cons,List.sum_nil] at hf;exact Yhv
theorem Yec{p:Pf}(hs:p.shape=true)(hf:p.full<1000000000)(hc:yp p=(5,3)):PC E 175 [.agg p.view] (.Az [.agg (z7 p).1.view,.i (z7 p).2]):=by
 obtain⟨h1,h2,h3⟩:=JR hc (by decide) (by decide);obtain⟨l1,_,l3⟩:=y6 hs h1 (nd:=⟨0,0,1,false,false⟩) (by rfl);obtain⟨_,_,_,s6⟩:=zh hs;obtain⟨k,i,s,ts,fs,zs⟩:=p;simp only[Pf.Ah,Pf.Ai,Pf.Ar,Pf.Ad] at h1 h2 h3 l1 l3 s6;subst h1;obtain⟨z,rfl⟩:=EL l3;have hz:z.kind=3:=h3;have sz:=s6 z (by simp);obtain⟨m1,_,m3⟩:=y6 sz hz (nd:=⟨0,0,2,false,false⟩) (by rfl);obtain⟨k2,i2,s2,ts2,fs2,zs2⟩:=z;simp only[Pf.Ah,Pf.Ai,Pf.Ar,Pf.Ad] at hz m1 m3;subst hz;obtain⟨a,a2,rfl⟩:=Ho m3;rw[show z7 _=(a2,0) by unfold z7;rw[hc];rfl];simp only[Pf.Ag,Pf.Ai,Pf.Ar,Pf.Ad,List.map_cons,List.map_nil,List.sum_cons,List.sum_nil] at hf;exact Yiq
theorem Yj1{p:Pf}(hs:p.shape=true)(hf:p.full<1000000000)(hc:yp p=(7,6)):PC E 175 [.agg p.view] (.Az [.agg (z7 p).1.view,.i (z7 p).2]):=by
 obtain⟨h1,h2,h3⟩:=JR hc (by decide) (by decide);obtain⟨l1,_,l3⟩:=y6 hs h1 (nd:=⟨0,0,2,false,false⟩) (by rfl);obtain⟨_,_,_,s6⟩:=zh hs;obtain⟨k,i,s,ts,fs,zs⟩:=p;simp only[Pf.Ah,Pf.Ai,Pf.Ar,Pf.Ad] at h1 h2 h3 l1 l3 s6;subst h1;obtain⟨z,b,rfl⟩:=Ho l3;have hz:z.kind=6:=h3;have sz:=s6 z (by simp);obtain⟨m1,_,m3⟩:=y6 sz hz (nd:=⟨0,1,1,false,false⟩) (by rfl);obtain⟨k2,i2,s2,ts2,fs2,zs2⟩:=z;simp only[Pf.Ah,Pf.Ai,Pf.Ar,Pf.Ad] at hz m1 m3;subst hz;obtain⟨a,rfl⟩:=EL m3;rw[show z7 _=(vq a 0 b,va a 0 b) by unfold z7;rw[hc];rfl];simp only[Pf.Ag,Pf.Ai,Pf.Ar,Pf.Ad,List.map_cons,List.map_nil,List.sum_cons,List.sum_nil] at hf;exact Ykn (by rw[Pf.Ag];omega) (by rw[Pf.Ag];omega)
theorem Yjb{p:Pf}(hs:p.shape=true)(hf:p.full<1000000000)(hc:yp p=(9,8)):PC E 175 [.agg p.view] (.Az [.agg (z7 p).1.view,.i (z7 p).2]):=by
 obtain⟨h1,h2,h3⟩:=JR hc (by decide) (by decide);obtain⟨l1,_,l3⟩:=y6 hs h1 (nd:=⟨1,0,1,false,false⟩) (by rfl);obtain⟨_,_,_,s6⟩:=zh hs;obtain⟨k,i,s,ts,fs,zs⟩:=p;simp only[Pf.Ah,Pf.Ai,Pf.Ar,Pf.Ad] at h1 h2 h3 l1 l3 s6;subst h1;obtain⟨z,rfl⟩:=EL l3;have hz:z.kind=8:=h3;have sz:=s6 z (by simp);obtain⟨t,rfl⟩:=EL l1;obtain⟨m1,_,m3⟩:=y6 sz hz (nd:=⟨0,0,1,false,true⟩) (by rfl);obtain⟨k2,i2,s2,ts2,fs2,zs2⟩:=z;simp only[Pf.Ah,Pf.Ai,Pf.Ar,Pf.Ad] at hz m1 m3;subst hz;obtain⟨a,rfl⟩:=EL m3;rw[show z7 _=(Co a 0 t,x7 a 0 t) by unfold z7;rw[hc];rfl];simp only[Pf.Ag,Pf.Ai,Pf.Ar,Pf.Ad,List.map_cons,List.map_nil,List.sum_cons,List.sum_nil] at hf;exact Yks (by rw[Pf.Ag];omega) (by omega)
theorem Ye9{p:Pf}(hs:p.shape=true)(hf:p.full<1000000000)(hc:yp p=(13,12)):PC E 175 [.agg p.view] (.Az [.agg (z7 p).1.view,.i (z7 p).2]):=by
 obtain⟨h1,h2,h3⟩:=JR hc (by decide) (by decide);obtain⟨l1,_,l3⟩:=y6 hs h1 (nd:=⟨1,0,1,false,false⟩) (by rfl);obtain⟨_,_,_,s6⟩:=zh hs;obtain⟨k,i,s,ts,fs,zs⟩:=p;simp only[Pf.Ah,Pf.Ai,Pf.Ar,Pf.Ad] at h1 h2 h3 l1 l3 s6;subst h1;obtain⟨z,rfl⟩:=EL l3;have hz:z.kind=12:=h3;have sz:=s6 z (by simp);obtain⟨t,rfl⟩:=EL l1;obtain⟨m1,_,m3⟩:=y6 sz hz (nd:=⟨0,0,1,false,true⟩) (by rfl);obtain⟨k2,i2,s2,ts2,fs2,zs2⟩:=z;simp only[Pf.Ah,Pf.Ai,Pf.Ar,Pf.Ad] at hz m1 m3;subst hz;obtain⟨a,rfl⟩:=EL m3;rw[show z7 _=(Co a 0 t,x7 a 0 t) by unfold z7;rw[hc];rfl];simp only[Pf.Ag,Pf.Ai,Pf.Ar,Pf.Ad,List.map_cons,List.map_nil,List.sum_cons,List.sum_nil] at hf;exact Yip (by rw[Pf.Ag];omega) (by omega)
theorem Ylg{p:Pf}(hs:p.shape=true)(hf:p.full<1000000000)(hc:yp p=(11,10)):PC E 175 [.agg p.view] (.Az [.agg (z7 p).1.view,.i (z7 p).2]):=by
 obtain⟨h1,h2,h3⟩:=JR hc (by decide) (by decide);obtain⟨l1,_,l3⟩:=y6 hs h1 (nd:=⟨0,0,2,false,false⟩) (by rfl);obtain⟨_,_,_,s6⟩:=zh hs;obtain⟨k,i,s,ts,fs,zs⟩:=p;simp only[Pf.Ah,Pf.Ai,Pf.Ar,Pf.Ad] at h1 h2 h3 l1 l3 s6;subst h1;obtain⟨z,b,rfl⟩:=Ho l3;have hz:z.kind=10:=h3;have sz:=s6 z (by simp);obtain⟨m1,_,m3⟩:=y6 sz hz (nd:=⟨1,1,1,false,false⟩) (by rfl);obtain⟨k2,i2,s2,ts2,fs2,zs2⟩:=z;simp only[Pf.Ah,Pf.Ai,Pf.Ar,Pf.Ad] at hz m1 m3;subst hz;obtain⟨a,rfl⟩:=EL m3;obtain⟨t,rfl⟩:=EL m1;rw[show z7 _=D4 b t a by unfold z7;rw[hc];rfl];simp only[Pf.Ag,Pf.Ai,Pf.Ar,Pf.Ad,List.map_cons,List.map_nil,List.sum_cons,List.sum_nil] at hf;exact RT (by rw[Pf.Ag];omega) (by rw[Pf.Ag];omega) (by omega) (by have:=KC b 0 t;omega)
theorem Yjk{p:Pf}(hs:p.shape=true)(hf:p.full<1000000000)(hc:yp p=(15,14)):PC E 175 [.agg p.view] (.Az [.agg (z7 p).1.view,.i (z7 p).2]):=by
 obtain⟨h1,h2,h3⟩:=JR hc (by decide) (by decide);obtain⟨l1,_,l3⟩:=y6 hs h1 (nd:=⟨0,0,2,false,false⟩) (by rfl);obtain⟨_,_,_,s6⟩:=zh hs;obtain⟨k,i,s,ts,fs,zs⟩:=p;simp only[Pf.Ah,Pf.Ai,Pf.Ar,Pf.Ad] at h1 h2 h3 l1 l3 s6;subst h1;obtain⟨z,b,rfl⟩:=Ho l3;have hz:z.kind=14:=h3;have sz:=s6 z (by simp);obtain⟨m1,_,m3⟩:=y6 sz hz (nd:=⟨1,1,1,false,false⟩) (by rfl);obtain⟨k2,i2,s2,ts2,fs2,zs2⟩:=z;simp only[Pf.Ah,Pf.Ai,Pf.Ar,Pf.Ad] at hz m1 m3;subst hz;obtain⟨a,rfl⟩:=EL m3;obtain⟨t,rfl⟩:=EL m1;rw[show z7 _=D4 b t a by unfold z7;rw[hc];rfl];simp only[Pf.Ag,Pf.Ai,Pf.Ar,Pf.Ad,List.map_cons,List.map_nil,List.sum_cons,List.sum_nil] at hf;exact Ylm (by rw[Pf.Ag];omega) (by rw[Pf.Ag];omega) (by omega) (by have:=KC b 0 t;omega)
theorem Ygr{p:Pf}(hs:p.shape=true)(hf:p.full<1000000000)(hc:yp p=(16,4)):PC E 175 [.agg p.view] (.Az [.agg (z7 p).1.view,.i (z7 p).2]):=by
 obtain⟨h1,h3⟩:=MZ hc (by decide);obtain⟨l1,_,l3⟩:=y6 hs h1 (nd:=⟨1,1,2,false,false⟩) (by rfl);obtain⟨_,s4,_,s6⟩:=zh hs;obtain⟨k,i,s,ts,fs,zs⟩:=p;simp only[Pf.Ah,Pf.Ai,Pf.Ar,Pf.Ad] at h1 h3 l1 l3 s4;subst h1;obtain⟨a,b,rfl⟩:=Ho l3;obtain⟨x,rfl⟩:=EL l1;have hx:x.kind=4:=h3;have sx:=s4 x (by simp);have m3:=MX sx hx (n:=0) (by rfl);obtain⟨k2,i2,s2,ts2⟩:=x;simp only[Tm.Ah,Tm.Ad] at hx m3;subst hx;rw[show z7 _=(a,0) by unfold z7;rw[hc];rfl];exact Yjl
theorem Yj3{p:Pf}(hs:p.shape=true)(hf:p.full<1000000000)(hc:yp p=(17,7)):PC E 175 [.agg p.view] (.Az [.agg (z7 p).1.view,.i (z7 p).2]):=by
 obtain⟨h1,h3⟩:=MZ hc (by decide);obtain⟨l1,_,l3⟩:=y6 hs h1 (nd:=⟨1,1,2,false,false⟩) (by rfl);obtain⟨_,s4,_,s6⟩:=zh hs;obtain⟨k,i,s,ts,fs,zs⟩:=p;simp only[Pf.Ah,Pf.Ai,Pf.Ar,Pf.Ad] at h1 h3 l1 l3 s4;subst h1;obtain⟨a,b,rfl⟩:=Ho l3;obtain⟨x,rfl⟩:=EL l1;have hx:x.kind=7:=h3;have sx:=s4 x (by simp);have m3:=MX sx hx (n:=0) (by rfl);obtain⟨k2,i2,s2,ts2⟩:=x;simp only[Tm.Ah,Tm.Ad] at hx m3;subst hx;rw[show z7 _=(a,0) by unfold z7;rw[hc];rfl];exact Yli
theorem Ye1{p:Pf}(hs:p.shape=true)(hf:p.full<1000000000)(hc:yp p=(16,5)):PC E 175 [.agg p.view] (.Az [.agg (z7 p).1.view,.i (z7 p).2]):=by
 obtain⟨h1,h3⟩:=MZ hc (by decide);obtain⟨l1,_,l3⟩:=y6 hs h1 (nd:=⟨1,1,2,false,false⟩) (by rfl);obtain⟨_,s4,_,s6⟩:=zh hs;obtain⟨k,i,s,ts,fs,zs⟩:=p;simp only[Pf.Ah,Pf.Ai,Pf.Ar,Pf.Ad] at h1 h3 l1 l3 s4;subst h1;obtain⟨a,b,rfl⟩:=Ho l3;obtain⟨x,rfl⟩:=EL l1;have hx:x.kind=5:=h3;have sx:=s4 x (by simp);have m3:=MX sx hx (n:=1) (by rfl);obtain⟨k2,i2,s2,ts2⟩:=x;simp only[Tm.Ah,Tm.Ad] at hx m3;subst hx;obtain⟨t,rfl⟩:=EL m3;have ha:=Vv (Pf.mk 16 i s [Tm.mk 5 i2 s2 [t]] fs [a,b]) t;rw[show z7 _=D4 b t (FA (Pf.mk 16 i s [Tm.mk 5 i2 s2 [t]] fs [a,b]) t) by unfold z7;rw[hc];rfl];have e1:=Pf.Ag (Pf.mk 16 i s [Tm.mk 5 i2 s2 [t]] fs [a,b]);have e2:=Tm.Ag (Tm.mk 5 i2 s2 [t]);simp only[Tm.Ad,Pf.Ai,Pf.Ar,Pf.Ad,List.map_cons,List.map_nil,List.sum_cons,List.sum_nil] at e1 e2;exact Yhu (by omega) (by omega) (by omega) (by have:=KC b 0 t;omega)
theorem Ydx{p:Pf}(hs:p.shape=true)(hf:p.full<1000000000)(hc:yp p=(17,8)):PC E 175 [.agg p.view] (.Az [.agg (z7 p).1.view,.i (z7 p).2]):=by
 obtain⟨h1,h3⟩:=MZ hc (by decide);obtain⟨l1,_,l3⟩:=y6 hs h1 (nd:=⟨1,1,2,false,false⟩) (by rfl);obtain⟨_,s4,_,s6⟩:=zh hs;obtain⟨k,i,s,ts,fs,zs⟩:=p;simp only[Pf.Ah,Pf.Ai,Pf.Ar,Pf.Ad] at h1 h3 l1 l3 s4;subst h1;obtain⟨a,b,rfl⟩:=Ho l3;obtain⟨x,rfl⟩:=EL l1;have hx:x.kind=8:=h3;have sx:=s4 x (by simp);have m3:=MX sx hx (n:=2) (by rfl);obtain⟨k2,i2,s2,ts2⟩:=x;simp only[Tm.Ah,Tm.Ad] at hx m3;subst hx;obtain⟨t,l,rfl⟩:=Ho m3;have ha:=Vv (Pf.mk 17 i s [Tm.mk 8 i2 s2 [t,l]] fs [a,b]) l;rw[show z7 _=I4 (Pf.mk 17 i s [Tm.mk 8 i2 s2 [t,l]] fs [a,b]) t l by unfold z7;rw[hc];rfl];have e1:=Pf.Ag (Pf.mk 17 i s [Tm.mk 8 i2 s2 [t,l]] fs [a,b]);have e2:=Tm.Ag (Tm.mk 8 i2 s2 [t,l]);simp only[Tm.Ad,Pf.Ai,Pf.Ar,Pf.Ad,List.map_cons,List.map_nil,List.sum_cons,List.sum_nil] at e1 e2;exact Yis (by omega) (by omega) (by omega) (by omega) (by have:=Ztz l;omega) (by have:=KC b 0 (E1 l);omega) (by have:=KC (Co b 0 (E1 l)) 0 t;omega)
theorem Yam(p:Pf)(hs:p.shape=true)(hf:p.full<1000000000)(hr:vm p=true):PC E 175 [.agg p.view] (.Az [.agg (z7 p).1.view,.i (z7 p).2]):=by
 have h:=of_decide_eq_true hr;simp only[G2,List.mem_cons,List.not_mem_nil,or_false] at h;rcases h with h|h|h|h|h|h|h|h|h|h|h
 ·exact Yfo hs hf h
 ·exact Yec hs hf h
 ·exact Yj1 hs hf h
 ·exact Yjb hs hf h
 ·exact Ye9 hs hf h
 ·exact Ylg hs hf h
 ·exact Yjk hs hf h
 ·exact Ygr hs hf h
 ·exact Ye1 hs hf h
 ·exact Yj3 hs hf h
 ·exact Ydx hs hf h
theorem Ya1:∀(n:Nat) (p:Pf),p.full<=n->n<1099511627776->p.shape=true->PC E 45 [.agg p.view] (.bool p.direct):=by
 intro n;induction n with
 |zero=>intro p h;have:=p.Aa;omega
 |succ n ih=>
 intro p hsz hn hs;have hsz':=p.Ag;have hlen:=zd Pf.full Pf.Aa p.args;have h1:=SR p (QE hs);obtain⟨_,_,_,s6⟩:=zh hs;by_cases hr:vm p=true
 ·rw[Pf.B9,if_pos hr];rw[hr] at h1;refine M.F Tryz.func45 ?_;(repeat' first|refine M.gw ?_|refine M.c2 (h1) ?_|fail)
  rfl
 rw[Bool.not_eq_true] at hr;rw[Pf.B9,if_neg (by simp[hr]),NO];rw[hr] at h1;refine M.F Tryz.func45 ?_;(repeat' first|refine M.gw ?_|refine M.c2 (h1) ?_|fail);refine AW.range p.args.length (fun m=>∀i (hi:i<p.args.length),i<m->p.args[i].direct=true) (fun m=>([(8,.s .pf p.args),(9,.i p.args.length),(10,.i m)],⟨1,[(0,.var p.view)]⟩))
  (by omega) (fun m=>rfl) (fun m=>rfl) rfl (fun i _ h=>by omega) (M.W [some 0]) ?_ ?_
 ·intro m hm hP;have hs2:=zc Pf.full (List.getElem_mem hm);have hc:=ih p.args[m] (by omega) (by omega) (s6 _ (List.getElem_mem hm));cases hd:p.args[m].direct with
  |false=>
   rw[hd] at hc;rw[show p.args.all Pf.direct=false from List.all_eq_false.2 ⟨_,List.getElem_mem hm,by simp[hd]⟩];(repeat' first|refine M.gw ?_|refine M.c2 (hc) ?_|fail)
   rfl
  |true=>
   rw[hd] at hc;(repeat' first|refine M.gw ?_|refine M.c2 (hc) ?_|fail);exact⟨rfl,fun i hi him=>by
    by_cases e:i=m
    ·subst e;exact hd
    ·exact hP i hi (by omega),(M.W [some 0])⟩
 ·intro hP;rw[show p.args.all Pf.direct=true from List.all_eq_true.2 fun x hx=>by
   obtain⟨i,hi,rfl⟩:=List.getElem_of_mem hx;exact hP i hi hi]
  (repeat' first|refine M.gw ?_|fail)
  rfl
theorem Yad:∀(n:Nat) (p:Pf),p.full<=n->n<1000000000->p.shape=true->PC E 114 [.agg p.view] (.Az [.agg p.nx.1.view,.bool p.nx.2.1,.i p.nx.2.2]):=by
 intro n;induction n with
 |zero=>intro p h;have:=p.Aa;omega
 |succ n ih=>
 intro p hsz hn hs;have hsz':=p.Ag;have hlen:=zd Pf.full Pf.Aa p.args;have h1:=SR p (QE hs);obtain⟨_,_,_,s6⟩:=zh hs;by_cases hr:vm p=true
 ·have h2:=Yam p hs (by omega) hr;rw[Pf.CX,if_pos hr];rw[hr] at h1;generalize z7 p=R at*;refine AC.mk Tryz.func114 rfl rfl rfl rfl rfl (Nat.le_of_ble_eq_true rfl) ?_;repeat'(first|((with_reducible refine D.nil ?_);refine AX.Bd ?_)|((with_reducible refine D.load ?_);refine L.Dl U U U U U U ?_)|((with_reducible refine D.move ?_);refine L.mv U U U ?_)|((with_reducible refine D.assign ?_);refine L.CW U U U ?_)|((with_reducible refine D.call ?_);first|refine L.c2 (h1) U U U U ?_|refine L.c2 (h2) U U U U ?_)|((with_reducible refine D.extract ?_);refine L.ex U U U U ?_)|((with_reducible refine D.box ?_);refine L.bx U U U U ?_)|((with_reducible refine D.alloc ?_);refine L.al U U U ?_)|((with_reducible refine D.store ?_);refine L.st U U U U U U U U U ?_)|((with_reducible refine D.aw ?_);first|refine K.sq (AW.AU ?_)|refine K.sq (K.sq ?_)|refine AW.AU ?_|refine AW.BS U ?_|refine AW.ret ?_)|with_reducible refine K.tN ?_|with_reducible refine K.tR ?_|with_reducible refine K.r1 (by with_unfolding_all rfl) (by with_unfolding_all rfl) ?_)
  rfl
 rw[Bool.not_eq_true] at hr;rw[Pf.CX,if_neg (by simp[hr])];rw[hr] at h1;refine AC.mk Tryz.func114 rfl rfl rfl rfl rfl (Nat.le_of_ble_eq_true rfl) ?_;repeat'(first|((with_reducible refine D.nil ?_);refine AX.Bd ?_)|((with_reducible refine D.load ?_);refine L.Dl U U U U U U ?_)|((with_reducible refine D.move ?_);refine L.mv U U U ?_)|((with_reducible refine D.fieldAddr ?_);refine L.Gp U U U U U ?_)|((with_reducible refine D.assign ?_);refine L.CW U U U ?_)|((with_reducible refine D.call ?_);first|refine L.JE U U U U ?_|refine L.c2 (h1) U U U U ?_)|((with_reducible refine D.box ?_);refine L.bx U U U U ?_)|((with_reducible refine D.alloc ?_);refine L.al U U U ?_)|((with_reducible refine D.aw ?_);first|refine K.sq (AW.AU ?_)|refine K.sq (K.sq ?_)|refine AW.AU ?_|refine AW.BT U ?_|refine AW.skip ?_)|with_reducible refine K.tN ?_)
 refine AW.range p.args.length (fun m=>∀i (hi:i<p.args.length),i<m->p.args[i].nx.2.1=false/\p.args[i].nx.2.2=0)
  (fun m=>([(1,.ptr 0 0),(2,.ptr 1 0),(23,.s .pf p.args),(24,.i p.args.length),(25,.i m)],⟨2,[(0,.var p.view),(1,.var [.i 0,.i 0,.i 0,.slice .nil (.t .ty []),.slice .nil (.t .tm []),.slice .nil (.t .fm []),.slice .nil (.t .pf [])])]⟩))
  (by omega) (fun m=>rfl) (fun m=>rfl) U (fun i _ h=>by omega) (Bk.mk [some 0,some 1] _ _ _ U U U U (by(repeat'(first|exact trivial|refine And.intro ?_ ?_|refine⟨_,U,_,U,?_⟩|exact An.refl _));done) (by(repeat'(first|exact trivial|refine And.intro ?_ ?_|refine⟨_,U,_,U,_,U,?_⟩|exact An.refl _));done)) ?_ ?_
 ·intro m hm hP;have hs2:=zc Pf.full (List.getElem_mem hm);have hc:=ih p.args[m] (by omega) (by omega) (s6 _ (List.getElem_mem hm));by_cases hd:p.args[m].nx.2.1=true\/p.args[m].nx.2.2≠0
  ·rw[UA p.args m hm hP hd];simp only;generalize p.args[m].nx=R at*;obtain⟨u,f,e⟩:=R;simp only at hc hd ⊢;cases f with
   |true=>
    repeat'(first|((with_reducible refine D.nil ?_);refine AX.Bd ?_)|((with_reducible refine D.load ?_);first|refine L.Dl U U U U U U ?_|refine L.HH U U U U U ?_)|((with_reducible refine D.move ?_);first|refine L.mv U U U ?_|refine AX.sk U U ?_)|((with_reducible refine D.assign ?_);refine L.CW U U U ?_)|((with_reducible refine D.bin ?_);refine AX.sk U U ?_)|((with_reducible refine D.call ?_);refine L.c2 (hc) U U U U ?_)|((with_reducible refine D.extract ?_);refine L.ex U U U U ?_)|((with_reducible refine D.alloc ?_);refine L.al U U U ?_)|((with_reducible refine D.store ?_);refine L.st U U U U U U U U U ?_)|((with_reducible refine D.indexAddr ?_);refine L.Dd _ U U U U U U U (by first|assumption|fail) ?_)|((with_reducible refine D.pick ?_);refine L.pk U U U U ?_)|((with_reducible refine D.aw ?_);(fail_if_success with_reducible refine D.EZ (id:=9) ?_);(fail_if_success with_reducible refine D.E7 (id:=9) ?_);first|refine K.sq (AW.AU ?_)|refine AW.BS U ?_)|with_reducible refine K.tN ?_)
    refine K.sq (AW.AU ?_);refine L.Gp rfl rfl rfl rfl rfl ?_;refine L.Dl rfl rfl rfl rfl rfl rfl ?_;refine L.N2 (te:=38) rfl rfl rfl rfl (by kernel_rfl) rfl rfl rfl rfl (by omega) (by omega) ?_;repeat'(first|((with_reducible refine D.nil ?_);refine AX.Bd ?_)|((with_reducible refine D.load ?_);refine L.Dl U U U U U U ?_)|((with_reducible refine D.move ?_);refine L.mv U U U ?_)|((with_reducible refine D.assign ?_);refine L.CW U U U ?_)|((with_reducible refine D.aw ?_);refine K.sq (AW.AU ?_))|with_reducible refine K.tN ?_)
    refine L.DB m rfl rfl rfl rfl rfl hm rfl ?_;refine L.sta (c:= .pf) (l:=p.args) (u:=u) m rfl rfl rfl rfl rfl rfl rfl rfl hm rfl ?_;repeat'(first|((with_reducible refine D.nil ?_);refine AX.Bd ?_)|with_reducible refine K.tN ?_)
    refine AW.BP (c:= .pf) 4 p.args.length (p.args.set m u) U (by simp) (by(repeat'(first|exact trivial|exact fun _=>rfl|exact fun h=>absurd U h|exact fun h=>absurd h (by decide)|refine And.intro ?_ ?_|intro _));done) (by(repeat'(first|exact trivial|exact fun _=>rfl|exact fun h=>absurd U h|exact fun h=>absurd h (by decide)|refine And.intro ?_ ?_|intro _));done) ?_;repeat'(first|((with_reducible refine D.nil ?_);refine AX.Bd ?_)|((with_reducible refine D.load ?_);refine L.Dl U U U U U U ?_)|((with_reducible refine D.move ?_);refine L.mv U U U ?_)|((with_reducible refine D.fieldAddr ?_);refine L.Gp U U U U U ?_)|((with_reducible refine D.assign ?_);refine L.CW U U U ?_)|((with_reducible refine D.store ?_);refine L.st U U U U U U U U U ?_)|((with_reducible refine D.aw ?_);first|refine K.sq (AW.AU ?_)|refine AW.ret ?_)|with_reducible refine K.tN ?_|with_reducible refine K.tR ?_|with_reducible refine K.bR ?_|with_reducible refine K.gR ?_|with_reducible refine K.r1 (by with_unfolding_all rfl) (by with_unfolding_all rfl) ?_)
    rfl
   |false=>
    have he:e≠0:=hd.resolve_left (by simp);repeat'(first|((with_reducible refine D.nil ?_);refine AX.Bd ?_)|((with_reducible refine D.load ?_);first|refine L.Dl U U U U U U ?_|refine L.HH U U U U U ?_)|((with_reducible refine D.move ?_);refine L.mv U U U ?_)|((with_reducible refine D.assign ?_);refine L.CW U U U ?_)|((with_reducible refine D.bin ?_);refine L.bn U U U U U ?_)|((with_reducible refine D.call ?_);refine L.c2 (hc) U U U U ?_)|((with_reducible refine D.extract ?_);refine L.ex U U U U ?_)|((with_reducible refine D.alloc ?_);refine L.al U U U ?_)|((with_reducible refine D.store ?_);refine L.st U U U U U U U U U ?_)|((with_reducible refine D.indexAddr ?_);refine L.Dd _ U U U U U U U (by first|assumption|fail) ?_)|((with_reducible refine D.pick ?_);refine L.pk U U U U ?_)|((with_reducible refine D.aw ?_);(fail_if_success with_reducible refine D.EZ (id:=9) ?_);(fail_if_success with_reducible refine D.E7 (id:=9) ?_);first|refine K.sq (AW.AU ?_)|refine AW.Du U (fun h=> ?_) (fun h=> ?_)|refine AW.skip ?_)|with_reducible refine K.tN ?_|with_reducible refine K.bN ?_)
    all_goals first
     |(exfalso;simp at h;exact he h)
     |skip
    refine K.sq (AW.AU ?_);refine L.Gp rfl rfl rfl rfl rfl ?_;refine L.Dl rfl rfl rfl rfl rfl rfl ?_;refine L.N2 (te:=38) rfl rfl rfl rfl (by kernel_rfl) rfl rfl rfl rfl (by omega) (by omega) ?_;repeat'(first|((with_reducible refine D.nil ?_);refine AX.Bd ?_)|((with_reducible refine D.load ?_);refine L.Dl U U U U U U ?_)|((with_reducible refine D.move ?_);refine L.mv U U U ?_)|((with_reducible refine D.assign ?_);refine L.CW U U U ?_)|((with_reducible refine D.aw ?_);refine K.sq (AW.AU ?_))|with_reducible refine K.tN ?_)
    refine L.DB m rfl rfl rfl rfl rfl hm rfl ?_;refine L.sta (c:= .pf) (l:=p.args) (u:=u) m rfl rfl rfl rfl rfl rfl rfl rfl hm rfl ?_;repeat'(first|((with_reducible refine D.nil ?_);refine AX.Bd ?_)|with_reducible refine K.tN ?_)
    refine AW.BP (c:= .pf) 4 p.args.length (p.args.set m u) U (by simp) (by(repeat'(first|exact trivial|exact fun _=>rfl|exact fun h=>absurd U h|exact fun h=>absurd h (by decide)|refine And.intro ?_ ?_|intro _));done) (by(repeat'(first|exact trivial|exact fun _=>rfl|exact fun h=>absurd U h|exact fun h=>absurd h (by decide)|refine And.intro ?_ ?_|intro _));done) ?_;repeat'(first|((with_reducible refine D.nil ?_);refine AX.Bd ?_)|((with_reducible refine D.load ?_);refine L.Dl U U U U U U ?_)|((with_reducible refine D.move ?_);refine L.mv U U U ?_)|((with_reducible refine D.fieldAddr ?_);refine L.Gp U U U U U ?_)|((with_reducible refine D.assign ?_);refine L.CW U U U ?_)|((with_reducible refine D.store ?_);refine L.st U U U U U U U U U ?_)|((with_reducible refine D.aw ?_);first|refine K.sq (AW.AU ?_)|refine AW.ret ?_)|with_reducible refine K.tN ?_|with_reducible refine K.tR ?_|with_reducible refine K.bR ?_|with_reducible refine K.gR ?_|with_reducible refine K.r1 (by with_unfolding_all rfl) (by with_unfolding_all rfl) ?_)
    rfl
  ·have g1:p.args[m].nx.2.1=false:=by cases h:p.args[m].nx.2.1 with|false=>rfl|true=>exact absurd (.inl h) hd
   have g2:p.args[m].nx.2.2=0:=Decidable.byContradiction fun h=>hd (.inr h);rw[g1,g2] at hc;repeat'(first|((with_reducible refine D.nil ?_);refine AX.Bd ?_)|((with_reducible refine D.load ?_);first|refine L.Dl U U U U U U ?_|refine L.HH U U U U U ?_)|((with_reducible refine D.move ?_);refine L.mv U U U ?_)|((with_reducible refine D.assign ?_);refine L.CW U U U ?_)|((with_reducible refine D.bin ?_);refine L.bn U U U U U ?_)|((with_reducible refine D.call ?_);refine L.c2 (hc) U U U U ?_)|((with_reducible refine D.extract ?_);refine L.ex U U U U ?_)|((with_reducible refine D.alloc ?_);refine L.al U U U ?_)|((with_reducible refine D.store ?_);refine L.st U U U U U U U U U ?_)|((with_reducible refine D.indexAddr ?_);refine L.Dd _ U U U U U U U (by first|assumption|fail) ?_)|((with_reducible refine D.pick ?_);refine L.pk U U U U ?_)|((with_reducible refine D.aw ?_);first|refine K.sq (AW.AU ?_)|refine AW.BT U ?_|refine AW.skip ?_)|with_reducible refine K.tN ?_|with_reducible refine K.bN ?_)
   refine⟨rfl,fun i hi him=> ?_,(Bk.mk [some 0,some 1] _ _ _ U U U U (by(repeat'(first|exact trivial|refine And.intro ?_ ?_|refine⟨_,U,_,U,?_⟩|exact An.refl _));done) (by(repeat'(first|exact trivial|refine And.intro ?_ ?_|refine⟨_,U,_,U,_,U,?_⟩|exact An.refl _));done))⟩;by_cases e:i=m
   ·subst e;exact⟨g1,g2⟩
   ·exact hP i hi (by omega)
 ·intro hP;rw[QG p.args fun i hi=>hP i hi hi];simp only;repeat'(first|((with_reducible refine D.nil ?_);refine AX.Bd ?_)|((with_reducible refine D.load ?_);refine L.Dl U U U U U U ?_)|((with_reducible refine D.assign ?_);refine L.CW U U U ?_)|((with_reducible refine D.store ?_);refine L.st U U U U U U U U U ?_)|((with_reducible refine D.aw ?_);first|refine K.sq (AW.AU ?_)|refine AW.ret ?_)|with_reducible refine K.tN ?_|with_reducible refine K.r1 (by with_unfolding_all rfl) (by with_unfolding_all rfl) ?_)
  rfl
theorem PS(Xs:List Bool)(p:Pf)(v y:Int)(h1:p.kind=1\/p.kind=2):AC E 112 [.agg p.view,.agg [.i v,.i y],.ptr 0 0] ⟨1,[(0,.var [.bool (Xs.all id)])]⟩ (.Az []) ⟨1,[(0,.var [.bool ((Xs++Dw p.kind p.index y).all id)])]⟩:=by
 rw[List.all_append];generalize Xs.all id=b;unfold Dw;rw[if_pos h1];cases b;all_goals
  refine M.F Tryz.func112 ?_;(repeat' first|refine M.gw ?_|fail);all_goals first|exfalso;simp_all;done|exact M.n2 [some 0] (h6:=(by(repeat'(first|exact trivial|refine And.intro ?_ ?_|refine⟨_,U,_,U,_,U,?_⟩|exact An.refl _|exact An.of_eq (by simp[Ao.Ax,Bool.true_and,Bool.false_and])));done)) (h8:=(by simp[zj,V.wk,V.Ap,za,Ty.view,Tm.view,Bool.true_and,Bool.false_and]))
theorem Yjf:∀(n:Nat) (p:Pf) (v y:Int) (Xs:List Bool),p.full<=n->n<10000000000->(0<=v/\v+2*n<=50000000000)->(0<=y/\y+2*n<=50000000000)->p.nd->
 AC E 84 [.agg p.view,.agg [.i v,.i y],.agg [.nilf,.nilf,.fn (.func 112) [] [.ptr 0 0]]] ⟨1,[(0,.var [.bool (Xs.all id)])]⟩ (.Az []) ⟨1,[(0,.var [.bool ((Xs++p.B3 (Dw) y).all id)])]⟩:=by
 intro n;induction n with
 |zero=>intro p v y Xs hz;have:=p.Aa;omega
 |succ n ih=>
 intro p v y Xs hz hn hv hh hs;have hre:=p.Bu (Dw) y;have hsz':=p.Ag;have hlen:=zd Pf.full Pf.Aa p.args;have hlen1:=zd Fm.full Fm.Aa p.Ac;have hlen2:=zd Tm.full Tm.Aa p.terms;have hru:=vd p.kind;obtain⟨⟨nd,n1,n4⟩,hpf⟩:=(Pf.Bz p).1 hs;have hal:p.args.length<=2:=by
  rw[n4];unfold BO at n1
  repeat(split at n1;· cases n1;decide)
  cases n1
 have hpl:=fun(m:Nat) (hm:m<=1000000)=>yx p.kind v y nd n1 m hm (by omega) (by omega);have e2:CR p.kind=[.bool nd.index,.bool nd.typ,.i nd.terms,.i nd.Ac,.i nd.args,.i (AD p.kind),.i (As p.kind),.i (At p.kind)]:=by unfold CR;rw[n1]
 have b1:0<=As p.kind/\As p.kind<=2:=by unfold As;split<;>(try split)<;>omega
 have b2:0<=At p.kind/\At p.kind<=1:=by unfold At;split<;>omega
 have b3:0<=AD p.kind/\AD p.kind<=1:=by unfold AD;split<;>omega
 rw[n1] at hru;simp only[Option.isSome_some] at hru;rw[e2] at hru;simp only[e2] at hpl;have hlf:=(fun hk:p.kind=1\/p.kind=2=>PS Xs p v y hk);have hno:nd.index=false->(Dw) p.kind p.index y=[]:=fun hi=>by
  have k1:p.kind≠1:=fun e=>by rw[e] at n1;simp[BO] at n1;rw[<-n1] at hi;cases hi
  have k2:p.kind≠2:=fun e=>by rw[e] at n1;simp[BO] at n1;rw[<-n1] at hi;cases hi
  simp[Dw,k1,k2]
 have hk0:nd.index=true->p.kind=1\/p.kind=2:=fun hi=>by
  refine Decidable.byContradiction fun hc=> ?_;have k1:p.kind≠1:=fun e=>hc (.inl e);have k2:p.kind≠2:=fun e=>hc (.inr e);have:nd.index=false:=by
   unfold BO at n1;rw[if_neg (by omega)] at n1
   repeat(split at n1;· cases n1;rfl)
   cases n1
  rw[this] at hi;cases hi
 obtain⟨X1,hX1⟩:∃X1,X1=Xs++(Dw) p.kind p.index y:=⟨_,rfl⟩;obtain⟨x3,x4,x5,ix,x2⟩:=nd;simp only at n4 hru hpl hno hk0;cases ix
 ·have hX:X1=Xs:=by rw[hX1,hno rfl,List.append_nil]
  refine M.F Tryz.func84 ?_;(repeat' first|refine M.gw ?_|refine M.c2 (hru) ?_|fail);refine AW.range p.terms.length (fun m=>True)
   (fun m=>([(3,.ptr 1 0),(4,.ptr 2 0),(5,.ptr 3 0),(6,.ptr 4 0),(33,.s .tm p.terms),(34,.i p.terms.length),(35,.i m)],⟨5,[(0,.var [.bool (X1.all id)]),(1,.var p.view),(2,.var [.i v,.i y]),(3,.var [.nilf,.nilf,.fn (.func 112) [] [.ptr 0 0]]),(4,.var [.bool false,.bool x2,.i x3,.i x4,.i x5,.i (AD p.kind),.i (As p.kind),.i (At p.kind)])]⟩))
   (by omega) (fun m=>rfl) (fun m=>rfl) U trivial (M.W [some 0,some 1,some 2,some 3,some 4] (he:=(by(repeat'(first|exact trivial|refine And.intro ?_ ?_|refine⟨_,U,_,U,_,U,?_⟩|exact An.refl _|exact An.of_eq (by simp[Ao.Ax,hX])));done))) ?_ ?_
  ·intro m hm _;(repeat' first|refine M.gw ?_|fail);exact⟨rfl,trivial,(M.W [some 0,some 1,some 2,some 3,some 4])⟩
  ·intro _;skip;(repeat' first|refine M.gw ?_|fail);refine AW.range p.Ac.length (fun m=>True)
    (fun m=>([(3,.ptr 1 0),(4,.ptr 2 0),(5,.ptr 3 0),(6,.ptr 4 0),(50,.s .fm p.Ac),(51,.i p.Ac.length),(52,.i m)],⟨5,[(0,.var [.bool (X1.all id)]),(1,.var p.view),(2,.var [.i v,.i y]),(3,.var [.nilf,.nilf,.fn (.func 112) [] [.ptr 0 0]]),(4,.var [.bool false,.bool x2,.i x3,.i x4,.i x5,.i (AD p.kind),.i (As p.kind),.i (At p.kind)])]⟩))
    (by omega) (fun m=>rfl) (fun m=>rfl) rfl trivial (M.W [some 0,some 1,some 2,some 3,some 4]) ?_ ?_
   ·intro m hm _;(repeat' first|refine M.gw ?_|fail);exact⟨rfl,trivial,(M.W [some 0,some 1,some 2,some 3,some 4])⟩
   ·intro _;skip;(repeat' first|refine M.gw ?_|fail);refine AW.range p.args.length (fun m=>True)
     (fun m=>([(3,.ptr 1 0),(4,.ptr 2 0),(5,.ptr 3 0),(6,.ptr 4 0),(70,.s .pf p.args),(71,.i p.args.length),(72,.i m)],⟨5,[(0,.var [.bool ((X1++((Pf.AM (Dw) y (At p.kind) p.args).take m).flatten).all id)]),(1,.var p.view),(2,.var [.i v,.i y]),(3,.var [.nilf,.nilf,.fn (.func 112) [] [.ptr 0 0]]),(4,.var [.bool false,.bool x2,.i x3,.i x4,.i x5,.i (AD p.kind),.i (As p.kind),.i (At p.kind)])]⟩))
     (by omega) (fun m=>rfl) (fun m=>rfl) U trivial (M.W [some 0,some 1,some 2,some 3,some 4] (he:=(by(repeat'(first|exact trivial|refine And.intro ?_ ?_|refine⟨_,U,_,U,_,U,?_⟩|exact An.refl _|exact An.of_eq (by simp[Ao.Ax,List.take_zero,List.flatten_nil,List.append_nil])));done))) ?_ ?_
    ·intro m hm _;have hs2:=zc Pf.full (List.getElem_mem hm);have hb:=hpl m (by omega);have hc:=ih p.args[m] (if m+1=p.args.length then v+As p.kind else v) (if m+1=p.args.length then y+At p.kind else y) (X1++((Pf.AM (Dw) y (At p.kind) p.args).take m).flatten) (by omega) (by omega) (by split<;>omega) (by split<;>omega) (hpf _ (List.getElem_mem hm));have e3:(X1++((Pf.AM (Dw) y (At p.kind) p.args).take m).flatten)++p.args[m].B3 (Dw) (if m+1=p.args.length then y+At p.kind else y)=(X1++((Pf.AM (Dw) y (At p.kind) p.args).take (m+1)).flatten):=by rw[List.append_assoc,u4 (Dw) hm]
     rw[e3] at hc;have ev:(if(m:Int)=(x5:Int)-1 then y+At p.kind else y)=(if m+1=p.args.length then y+At p.kind else y):=by
      by_cases hx:m+1=p.args.length
      ·rw[if_pos hx,if_pos (by omega)]
      ·rw[if_neg hx,if_neg (by omega)]
     have ev2:(if(m:Int)=(x5:Int)-1 then v+As p.kind else v)=(if m+1=p.args.length then v+As p.kind else v):=by
      by_cases hx:m+1=p.args.length
      ·rw[if_pos hx,if_pos (by omega)]
      ·rw[if_neg hx,if_neg (by omega)]
     rw[ev,ev2] at hb;(repeat' first|refine M.gw ?_|refine M.c2 (hb) ?_|refine M.cv (hc) [0] 0 ?_|fail);exact⟨rfl,trivial,(M.W [some 0,some 1,some 2,some 3,some 4])⟩
    ·intro _;rw[hre];simp only[Ik];skip
     (exact M.n2 [some 0] (h6:=(by(repeat'(first|exact trivial|refine And.intro ?_ ?_|refine⟨_,U,_,U,_,U,?_⟩|exact An.of_eq (by simp[Ao.Ax,hX1,List.append_assoc])));done)) (h8:=(by simp[zj,V.wk,V.Ap,za,Ty.view,Tm.view,hX1,List.append_assoc])))
 ·have hlf:=hlf (hk0 rfl);refine M.F Tryz.func84 ?_;(repeat' first|refine M.gw ?_|refine M.c2 (hru) ?_|refine M.cv (hlf) [0] 0 ?_|fail);refine AW.range p.terms.length (fun m=>True)
   (fun m=>([(3,.ptr 1 0),(4,.ptr 2 0),(5,.ptr 3 0),(6,.ptr 4 0),(33,.s .tm p.terms),(34,.i p.terms.length),(35,.i m)],⟨5,[(0,.var [.bool (X1.all id)]),(1,.var p.view),(2,.var [.i v,.i y]),(3,.var [.nilf,.nilf,.fn (.func 112) [] [.ptr 0 0]]),(4,.var [.bool true,.bool x2,.i x3,.i x4,.i x5,.i (AD p.kind),.i (As p.kind),.i (At p.kind)])]⟩))
   (by omega) (fun m=>rfl) (fun m=>rfl) U trivial (M.W [some 0,some 1,some 2,some 3,some 4] (he:=(by(repeat'(first|exact trivial|refine And.intro ?_ ?_|refine⟨_,U,_,U,_,U,?_⟩|exact An.refl _|exact An.of_eq (by simp[Ao.Ax,hX1])));done))) ?_ ?_
  ·intro m hm _;(repeat' first|refine M.gw ?_|fail);exact⟨rfl,trivial,(M.W [some 0,some 1,some 2,some 3,some 4])⟩
  ·intro _;skip;(repeat' first|refine M.gw ?_|fail);refine AW.range p.Ac.length (fun m=>True)
    (fun m=>([(3,.ptr 1 0),(4,.ptr 2 0),(5,.ptr 3 0),(6,.ptr 4 0),(50,.s .fm p.Ac),(51,.i p.Ac.length),(52,.i m)],⟨5,[(0,.var [.bool (X1.all id)]),(1,.var p.view),(2,.var [.i v,.i y]),(3,.var [.nilf,.nilf,.fn (.func 112) [] [.ptr 0 0]]),(4,.var [.bool true,.bool x2,.i x3,.i x4,.i x5,.i (AD p.kind),.i (As p.kind),.i (At p.kind)])]⟩))
    (by omega) (fun m=>rfl) (fun m=>rfl) rfl trivial (M.W [some 0,some 1,some 2,some 3,some 4]) ?_ ?_
   ·intro m hm _;(repeat' first|refine M.gw ?_|fail);exact⟨rfl,trivial,(M.W [some 0,some 1,some 2,some 3,some 4])⟩
   ·intro _;skip;(repeat' first|refine M.gw ?_|fail);refine AW.range p.args.length (fun m=>True)
     (fun m=>([(3,.ptr 1 0),(4,.ptr 2 0),(5,.ptr 3 0),(6,.ptr 4 0),(70,.s .pf p.args),(71,.i p.args.length),(72,.i m)],⟨5,[(0,.var [.bool ((X1++((Pf.AM (Dw) y (At p.kind) p.args).take m).flatten).all id)]),(1,.var p.view),(2,.var [.i v,.i y]),(3,.var [.nilf,.nilf,.fn (.func 112) [] [.ptr 0 0]]),(4,.var [.bool true,.bool x2,.i x3,.i x4,.i x5,.i (AD p.kind),.i (As p.kind),.i (At p.kind)])]⟩))
     (by omega) (fun m=>rfl) (fun m=>rfl) U trivial (M.W [some 0,some 1,some 2,some 3,some 4] (he:=(by(repeat'(first|exact trivial|refine And.intro ?_ ?_|refine⟨_,U,_,U,_,U,?_⟩|exact An.refl _|exact An.of_eq (by simp[Ao.Ax,List.take_zero,List.flatten_nil,List.append_nil])));done))) ?_ ?_
    ·intro m hm _;have hs2:=zc Pf.full (List.getElem_mem hm);have hb:=hpl m (by omega);have hc:=ih p.args[m] (if m+1=p.args.length then v+As p.kind else v) (if m+1=p.args.length then y+At p.kind else y) (X1++((Pf.AM (Dw) y (At p.kind) p.args).take m).flatten) (by omega) (by omega) (by split<;>omega) (by split<;>omega) (hpf _ (List.getElem_mem hm));have e3:(X1++((Pf.AM (Dw) y (At p.kind) p.args).take m).flatten)++p.args[m].B3 (Dw) (if m+1=p.args.length then y+At p.kind else y)=(X1++((Pf.AM (Dw) y (At p.kind) p.args).take (m+1)).flatten):=by rw[List.append_assoc,u4 (Dw) hm]
     rw[e3] at hc;have ev:(if(m:Int)=(x5:Int)-1 then y+At p.kind else y)=(if m+1=p.args.length then y+At p.kind else y):=by
      by_cases hx:m+1=p.args.length
      ·rw[if_pos hx,if_pos (by omega)]
      ·rw[if_neg hx,if_neg (by omega)]
     have ev2:(if(m:Int)=(x5:Int)-1 then v+As p.kind else v)=(if m+1=p.args.length then v+As p.kind else v):=by
      by_cases hx:m+1=p.args.length
      ·rw[if_pos hx,if_pos (by omega)]
      ·rw[if_neg hx,if_neg (by omega)]
     rw[ev,ev2] at hb;(repeat' first|refine M.gw ?_|refine M.c2 (hb) ?_|refine M.cv (hc) [0] 0 ?_|fail);exact⟨rfl,trivial,(M.W [some 0,some 1,some 2,some 3,some 4])⟩
    ·intro _;rw[hre];simp only[Ik];skip
     (exact M.n2 [some 0] (h6:=(by(repeat'(first|exact trivial|refine And.intro ?_ ?_|refine⟨_,U,_,U,_,U,?_⟩|exact An.of_eq (by simp[Ao.Ax,hX1,List.append_assoc])));done)) (h8:=(by simp[zj,V.wk,V.Ap,za,Ty.view,Tm.view,hX1,List.append_assoc])))
theorem Uq(p:Pf)(hp:p.full<1000000000)(hs:p.shape=true):PC E 44 [.agg p.view] (.bool p.Ce):=by
 have h1:=ND p (by omega) (Gq p hs);have h2:=Qa p (by omega) (Gq p hs);have hc:=Yjf _ p 0 0 [p.AN&&p.AZ] (Nat.le_refl _) (by omega) (by omega) (by omega) (Gq p hs);unfold Pf.Ce;rw[show([p.AN&&p.AZ].all id)=(p.AN&&p.AZ) by simp] at hc;generalize ([p.AN&&p.AZ]++p.B3 Dw 0).all id=b at*;cases e1:p.AN with
 |false=>
  rw[e1,Bool.false_and] at hc;rw[e1] at h1;refine M.F Tryz.func44 ?_;(repeat' first|refine M.gw ?_|refine M.c2 (h1) ?_|refine M.cv (hc) [1] 0 ?_|fail);simp[zj,V.wk,V.Ap,za,Ty.view,Tm.view]
 |true=>
  rw[e1,Bool.true_and] at hc;rw[e1] at h1;generalize p.AZ=c at*;refine M.F Tryz.func44 ?_;(repeat' first|refine M.gw ?_|refine M.c2 (h1) ?_|refine M.c2 (h2) ?_|refine M.cv (hc) [1] 0 ?_|fail);simp[zj,V.wk,V.Ap,za,Ty.view,Tm.view]
theorem Xu(p:Pf)(hp:p.full<900000000)(hs:p.shape=true):PC E 47 [.agg p.view] (.Az [.agg (yh p).1.view,.bool (yh p).2.1,.i (yh p).2.2]):=by
 have h1:=Yad _ p (Nat.le_refl _) (by omega) hs;have hf:=Ygs p;have h2:=vj p.nx.1 (by omega);unfold yh;generalize p.nx=R at*;obtain⟨u,f,e⟩:=R;simp only at h1 h2 ⊢;by_cases he:e=0
 ·subst he;by_cases hu:u.err=0
  ·rw[if_neg (by simp[hu])];rw[hu] at h2;refine M.F Tryz.func47 ?_;(repeat' first|refine M.gw ?_|refine M.c2 (h1) ?_|refine M.c2 (h2) ?_|fail)
   rfl
  ·rw[if_pos (.inr hu)];refine M.F Tryz.func47 ?_;(repeat' first|refine M.gw ?_|refine M.c2 (h1) ?_|refine M.c2 (h2) ?_|refine M.cs ?_ ?_<;>intro h|fail);all_goals first
    |rfl
    |(exfalso;simp at h;exact hu h)
    |trace_state
 ·rw[if_pos (.inl he)];refine M.F Tryz.func47 ?_;(repeat' first|refine M.gw ?_|refine M.c2 (h1) ?_|refine M.c2 (h2) ?_|refine M.gs ?_ ?_<;>intro h|refine M.cs ?_ ?_<;>intro h|fail);all_goals first
   |rfl
   |(exfalso;simp at h;exact he h)
   |(exfalso;simp_all;done)
   |trace_state
end Go.Ab
