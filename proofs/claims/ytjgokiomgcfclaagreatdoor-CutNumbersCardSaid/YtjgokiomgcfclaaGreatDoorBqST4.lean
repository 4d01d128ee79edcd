/- A part of the proofs of this seat. No conditions. -/
import Derived.Test.YtjgokiomgcfclaaGreatDoorBqST3
namespace Go.Ab
open Go Go.Proofs
set_option maxRecDepth 100000
set_option maxHeartbeats 4000000
set_option linter.all false
theorem Qk(p:Pf)(t:Tm)(hp:p.full<274877906944)(ht:t.full<274877906944):PC E 207 [.agg p.view,.i 0,.agg t.view] (.At [.agg (CG p 0 t).view,.i (vn p 0 t)]):=Yk6 p 0 t hp ht
theorem ZV(p q:Pf)(hp:p.full<274877906944)(hq:q.full<274877906944):PC E 206 [.agg p.view,.i 0,.agg q.view] (.At [.agg (HL p 0 q).view,.i (Eb p 0 q)]):=Yjn p 0 q hp hq
theorem Yjg(t:Tm)(ht:t.full<274877906944):PC E 124 [.agg t.view,.i 0,.i 1] (.At [.agg (F4 t).view,.i (yk t 0 1)]):=ZS t 0 1 ht
theorem Xm(p:Pf)(t:Tm):PC E 209 [.agg p.view,.agg t.view] (.agg (GA p t).view):=by
 refine M.F Tryz.func209 ?_;(repeat' first|refine M.gw ?_|fail)
 rfl
theorem Ph(q:Pf)(t:Tm)(p:Pf)(hq:q.full<100000000000)(ht:t.full<100000000000)(hp:p.full<100000000000)(hx:(CG q 0 t).full<100000000000):
 PC E 208 [.agg q.view,.agg t.view,.agg p.view] (.At [.agg (ET q t p).1.view,.i (ET q t p).2]):=by
 have h1:=Qk q t (by omega) (by omega);have h2:=ZV (CG q 0 t) p (by omega) (by omega);unfold ET;by_cases e:vn q 0 t=0
 ·rw[if_neg (by simp[e])];rw[e] at h1;refine M.F Tryz.func208 ?_;(repeat' first|refine M.gw ?_|refine M.c2 (h1) ?_|refine M.c2 (h2) ?_|fail)
  rfl
 ·rw[if_pos e];generalize CG q 0 t=X at*;refine M.F Tryz.func208 ?_;(repeat' first|refine M.gw ?_|refine M.c2 (h1) ?_|refine M.cs ?_ ?_<;>intro h|fail);all_goals first
   |rfl
   |(exfalso;simp at h;exact e h)
   |trace_state
theorem Ynv{i i2:Int}{s s2:Ty}{ts ts2:List Tm}{fs fs2:List Fm}{a b:Pf}{rest rest2:List Pf}:
 PC E 139 [.agg (Pf.mk 4 i s ts fs (Pf.mk 3 i2 s2 ts2 fs2 (a::b::rest2)::rest)).view] (.At [.agg a.view,.i 0]):=by
 have hof:=GV (Pf.mk 4 i s ts fs (Pf.mk 3 i2 s2 ts2 fs2 (a::b::rest2)::rest)) (fun h=>by simp at h);rw[show xv (Pf.mk 4 i s ts fs (Pf.mk 3 i2 s2 ts2 fs2 (a::b::rest2)::rest))=(4,3) from rfl] at hof;refine M.F Tryz.func139 ?_;(repeat' first|refine M.gw ?_|refine M.bp 3 ?_|refine M.c2 (hof) ?_|refine M.bl ?_|fail);all_goals first
  |rfl
  |trace_state
theorem Ynt{i i2:Int}{s s2:Ty}{ts ts2:List Tm}{fs fs2:List Fm}{a b:Pf}{rest rest2:List Pf}:
 PC E 139 [.agg (Pf.mk 5 i s ts fs (Pf.mk 3 i2 s2 ts2 fs2 (a::b::rest2)::rest)).view] (.At [.agg b.view,.i 0]):=by
 have hof:=GV (Pf.mk 5 i s ts fs (Pf.mk 3 i2 s2 ts2 fs2 (a::b::rest2)::rest)) (fun h=>by simp at h);rw[show xv (Pf.mk 5 i s ts fs (Pf.mk 3 i2 s2 ts2 fs2 (a::b::rest2)::rest))=(5,3) from rfl] at hof;refine M.F Tryz.func139 ?_;(repeat' first|refine M.gw ?_|refine M.bp 3 ?_|refine M.c2 (hof) ?_|refine M.bl ?_|fail);all_goals first
  |rfl
  |trace_state
theorem Yon{i i2:Int}{s s2:Ty}{ts ts2:List Tm}{fs fs2:List Fm}{a b:Pf}{rest rest2:List Pf}(ha:a.full<100000000000)(hb:b.full<100000000000):
 PC E 139 [.agg (Pf.mk 7 i s ts fs (Pf.mk 6 i2 s2 ts2 fs2 (a::rest2)::b::rest)).view] (.At [.agg (HL a 0 b).view,.i (Eb a 0 b)]):=by
 have hof:=GV (Pf.mk 7 i s ts fs (Pf.mk 6 i2 s2 ts2 fs2 (a::rest2)::b::rest)) (fun h=>by simp at h);rw[show xv (Pf.mk 7 i s ts fs (Pf.mk 6 i2 s2 ts2 fs2 (a::rest2)::b::rest))=(7,6) from rfl] at hof;have c1:=ZV a b (by omega) (by omega);refine M.F Tryz.func139 ?_;(repeat' first|refine M.gw ?_|refine M.bp 3 ?_|refine M.c2 (hof) ?_|refine M.c2 (c1) ?_|refine M.bl ?_|fail);all_goals first
  |rfl
  |trace_state
theorem Ypi{i i2:Int}{s s2:Ty}{t:Tm}{ts ts2:List Tm}{fs fs2:List Fm}{a:Pf}{rest rest2:List Pf}(ha:a.full<100000000000)(ht:t.full<100000000000):
 PC E 139 [.agg (Pf.mk 9 i s (t::ts) fs (Pf.mk 8 i2 s2 ts2 fs2 (a::rest2)::rest)).view] (.At [.agg (CG a 0 t).view,.i (vn a 0 t)]):=by
 have hof:=GV (Pf.mk 9 i s (t::ts) fs (Pf.mk 8 i2 s2 ts2 fs2 (a::rest2)::rest)) (fun h=>by simp at h);rw[show xv (Pf.mk 9 i s (t::ts) fs (Pf.mk 8 i2 s2 ts2 fs2 (a::rest2)::rest))=(9,8) from rfl] at hof;have c1:=Qk a t (by omega) (by omega);refine M.F Tryz.func139 ?_;(repeat' first|refine M.gw ?_|refine M.bp 3 ?_|refine M.c2 (hof) ?_|refine M.c2 (c1) ?_|refine M.bl ?_|fail);all_goals first
  |rfl
  |trace_state
theorem Ymo{i i2:Int}{s s2:Ty}{t:Tm}{ts ts2:List Tm}{fs fs2:List Fm}{a:Pf}{rest rest2:List Pf}(ha:a.full<100000000000)(ht:t.full<100000000000):
 PC E 139 [.agg (Pf.mk 13 i s (t::ts) fs (Pf.mk 12 i2 s2 ts2 fs2 (a::rest2)::rest)).view] (.At [.agg (CG a 0 t).view,.i (vn a 0 t)]):=by
 have hof:=GV (Pf.mk 13 i s (t::ts) fs (Pf.mk 12 i2 s2 ts2 fs2 (a::rest2)::rest)) (fun h=>by simp at h);rw[show xv (Pf.mk 13 i s (t::ts) fs (Pf.mk 12 i2 s2 ts2 fs2 (a::rest2)::rest))=(13,12) from rfl] at hof;have c1:=Qk a t (by omega) (by omega);refine M.F Tryz.func139 ?_;(repeat' first|refine M.gw ?_|refine M.bp 3 ?_|refine M.c2 (hof) ?_|refine M.c2 (c1) ?_|refine M.bl ?_|fail);all_goals first
  |rfl
  |trace_state
theorem R2{i i2:Int}{s s2:Ty}{t:Tm}{ts ts2:List Tm}{fs fs2:List Fm}{a b:Pf}{rest rest2:List Pf}(ha:a.full<100000000000)(hb:b.full<100000000000)(ht:t.full<100000000000)(hx:(CG b 0 t).full<100000000000):
 PC E 139 [.agg (Pf.mk 11 i s ts fs (Pf.mk 10 i2 s2 (t::ts2) fs2 (a::rest2)::b::rest)).view] (.At [.agg (ET b t a).1.view,.i (ET b t a).2]):=by
 have hof:=GV (Pf.mk 11 i s ts fs (Pf.mk 10 i2 s2 (t::ts2) fs2 (a::rest2)::b::rest)) (fun h=>by simp at h);rw[show xv (Pf.mk 11 i s ts fs (Pf.mk 10 i2 s2 (t::ts2) fs2 (a::rest2)::b::rest))=(11,10) from rfl] at hof;have c1:=Ph b t a hb ht ha hx;refine M.F Tryz.func139 ?_;(repeat' first|refine M.gw ?_|refine M.bp 3 ?_|refine M.c2 (hof) ?_|refine M.c2 (c1) ?_|refine M.bl ?_|fail);all_goals first
  |rfl
  |trace_state
theorem Yoz{i i2:Int}{s s2:Ty}{t:Tm}{ts ts2:List Tm}{fs fs2:List Fm}{a b:Pf}{rest rest2:List Pf}(ha:a.full<100000000000)(hb:b.full<100000000000)(ht:t.full<100000000000)(hx:(CG b 0 t).full<100000000000):
 PC E 139 [.agg (Pf.mk 15 i s ts fs (Pf.mk 14 i2 s2 (t::ts2) fs2 (a::rest2)::b::rest)).view] (.At [.agg (ET b t a).1.view,.i (ET b t a).2]):=by
 have hof:=GV (Pf.mk 15 i s ts fs (Pf.mk 14 i2 s2 (t::ts2) fs2 (a::rest2)::b::rest)) (fun h=>by simp at h);rw[show xv (Pf.mk 15 i s ts fs (Pf.mk 14 i2 s2 (t::ts2) fs2 (a::rest2)::b::rest))=(15,14) from rfl] at hof;have c1:=Ph b t a hb ht ha hx;refine M.F Tryz.func139 ?_;(repeat' first|refine M.gw ?_|refine M.bp 3 ?_|refine M.c2 (hof) ?_|refine M.c2 (c1) ?_|refine M.bl ?_|fail);all_goals first
  |rfl
  |trace_state
theorem Yla{i i2:Int}{s s2:Ty}{ts ts2:List Tm}{fs:List Fm}{a:Pf}{rest:List Pf}:
 PC E 139 [.agg (Pf.mk 16 i s (Tm.mk 4 i2 s2 ts2::ts) fs (a::rest)).view] (.At [.agg a.view,.i 0]):=by
 have hof:=GV (Pf.mk 16 i s (Tm.mk 4 i2 s2 ts2::ts) fs (a::rest)) (fun h=>by simp);rw[show xv (Pf.mk 16 i s (Tm.mk 4 i2 s2 ts2::ts) fs (a::rest))=(16,4) from rfl] at hof;refine M.F Tryz.func139 ?_;(repeat' first|refine M.gw ?_|refine M.bp 3 ?_|refine M.c2 (hof) ?_|refine M.bl ?_|fail);all_goals first
  |rfl
  |trace_state
theorem Ypk{i i2:Int}{s s2:Ty}{ts ts2:List Tm}{fs:List Fm}{a:Pf}{rest:List Pf}:
 PC E 139 [.agg (Pf.mk 17 i s (Tm.mk 7 i2 s2 ts2::ts) fs (a::rest)).view] (.At [.agg a.view,.i 0]):=by
 have hof:=GV (Pf.mk 17 i s (Tm.mk 7 i2 s2 ts2::ts) fs (a::rest)) (fun h=>by simp);rw[show xv (Pf.mk 17 i s (Tm.mk 7 i2 s2 ts2::ts) fs (a::rest))=(17,7) from rfl] at hof;refine M.F Tryz.func139 ?_;(repeat' first|refine M.gw ?_|refine M.bp 3 ?_|refine M.c2 (hof) ?_|refine M.bl ?_|fail);all_goals first
  |rfl
  |trace_state
theorem Ymt{i i2:Int}{s s2:Ty}{t:Tm}{ts ts2:List Tm}{fs:List Fm}{a b:Pf}{rest:List Pf}(hp:(GA (Pf.mk 16 i s (Tm.mk 5 i2 s2 (t::ts2)::ts) fs (a::b::rest)) t).full<100000000000)(hb:b.full<100000000000)(ht:t.full<100000000000)(hx:(CG b 0 t).full<100000000000):
 PC E 139 [.agg (Pf.mk 16 i s (Tm.mk 5 i2 s2 (t::ts2)::ts) fs (a::b::rest)).view] (.At [.agg (ET b t (GA (Pf.mk 16 i s (Tm.mk 5 i2 s2 (t::ts2)::ts) fs (a::b::rest)) t)).1.view,.i (ET b t (GA (Pf.mk 16 i s (Tm.mk 5 i2 s2 (t::ts2)::ts) fs (a::b::rest)) t)).2]):=by
 have hof:=GV (Pf.mk 16 i s (Tm.mk 5 i2 s2 (t::ts2)::ts) fs (a::b::rest)) (fun h=>by simp);rw[show xv (Pf.mk 16 i s (Tm.mk 5 i2 s2 (t::ts2)::ts) fs (a::b::rest))=(16,5) from rfl] at hof;have c1:=Xm (Pf.mk 16 i s (Tm.mk 5 i2 s2 (t::ts2)::ts) fs (a::b::rest)) t;have c2:=Ph b t (GA (Pf.mk 16 i s (Tm.mk 5 i2 s2 (t::ts2)::ts) fs (a::b::rest)) t) hb ht hp hx;generalize GA (Pf.mk 16 i s (Tm.mk 5 i2 s2 (t::ts2)::ts) fs (a::b::rest)) t=A at*;refine M.F Tryz.func139 ?_;(repeat' first|refine M.gw ?_|refine M.bp 3 ?_|refine M.c2 (hof) ?_|refine M.c2 (c1) ?_|refine M.c2 (c2) ?_|refine M.bl ?_|fail);all_goals first
  |rfl
  |trace_state
theorem Yno{i i2:Int}{s s2:Ty}{h l:Tm}{ts ts2:List Tm}{fs:List Fm}{a b:Pf}{rest:List Pf}
 (hp:(GA (Pf.mk 17 i s (Tm.mk 8 i2 s2 (h::l::ts2)::ts) fs (a::b::rest)) l).full<100000000000) (hb:b.full<100000000000) (hh:h.full<100000000000) (hl:l.full<100000000000) (hl1:(F4 l).full<100000000000)
 (hx:(CG b 0 (F4 l)).full<100000000000) (hy:(CG (CG b 0 (F4 l)) 0 h).full<100000000000):
 PC E 139 [.agg (Pf.mk 17 i s (Tm.mk 8 i2 s2 (h::l::ts2)::ts) fs (a::b::rest)).view]
  (.At [.agg (Ll (Pf.mk 17 i s (Tm.mk 8 i2 s2 (h::l::ts2)::ts) fs (a::b::rest)) h l).1.view,.i (Ll (Pf.mk 17 i s (Tm.mk 8 i2 s2 (h::l::ts2)::ts) fs (a::b::rest)) h l).2]):=by
 have hof:=GV (Pf.mk 17 i s (Tm.mk 8 i2 s2 (h::l::ts2)::ts) fs (a::b::rest)) (fun h=>by simp);rw[show xv (Pf.mk 17 i s (Tm.mk 8 i2 s2 (h::l::ts2)::ts) fs (a::b::rest))=(17,8) from rfl] at hof;have c1:=Yjg l (by omega);have c2:=Qk b (F4 l) (by omega) (by omega);have c3:=Xm (Pf.mk 17 i s (Tm.mk 8 i2 s2 (h::l::ts2)::ts) fs (a::b::rest)) l;have c4:=Ph (CG b 0 (F4 l)) h _ hx hh hp hy;unfold Ll;rw[show(Pf.mk 17 i s (Tm.mk 8 i2 s2 (h::l::ts2)::ts) fs (a::b::rest)).arg 1=b from rfl];generalize GA (Pf.mk 17 i s (Tm.mk 8 i2 s2 (h::l::ts2)::ts) fs (a::b::rest)) l=A at*;by_cases e1:yk l 0 1=0;case neg=>
  rw[if_pos e1];refine M.F Tryz.func139 ?_;(repeat' first|refine M.gw ?_|refine M.bp 3 ?_|refine M.c2 (hof) ?_|refine M.c2 (c1) ?_|refine M.bl ?_|refine M.cs ?_ ?_<;>intro h|fail);all_goals first
   |rfl
   |(exfalso;simp at h;exact e1 h)
   |(exfalso;rename_i hq;simp at hq;exact e1 hq)
   |trace_state
 rw[if_neg (by simp[e1])];rw[e1] at c1;generalize F4 l=ll at*;by_cases e2:vn b 0 ll=0;case neg=>
  rw[if_pos e2];generalize CG b 0 ll=X at*;refine M.F Tryz.func139 ?_;(repeat' first|refine M.gw ?_|refine M.bp 3 ?_|refine M.c2 (hof) ?_|refine M.c2 (c1) ?_|refine M.c2 (c2) ?_|refine M.bl ?_|refine M.cs ?_ ?_<;>intro h|fail);all_goals first
   |rfl
   |(exfalso;simp at h;exact e2 h)
   |trace_state
 rw[if_neg (by simp[e2])];rw[e2] at c2;generalize CG b 0 ll=X at*;generalize ET X h A=Y at*;refine M.F Tryz.func139 ?_;(repeat' first|refine M.gw ?_|refine M.bp 3 ?_|refine M.c2 (hof) ?_|refine M.c2 (c1) ?_|refine M.c2 (c2) ?_|refine M.c2 (c3) ?_|refine M.c2 (c4) ?_|refine M.bl ?_|fail)
 rfl
theorem EP{α:Type}{l:List α}(h:l.length=1):∃a,l=[a]:=List.length_eq_one_iff.1 h
theorem H8{α:Type}{l:List α}(h:l.length=2):∃a b,l=[a,b]:=by
 match l,h with
 |[a,b],_=>exact⟨a,b,rfl⟩
theorem xw{p:Pf}{k:Int}{nd:Nd}(hs:p.shape=true)(hk:p.kind=k)(hn:BX k=some nd):p.terms.length=nd.terms/\p.Ad.length=nd.Ad/\p.args.length=nd.args:=by
 obtain⟨hh,_⟩:=zl hs;obtain⟨nd',n1,n2,n3,n4,_⟩:=HF hh;rw[hk,hn] at n1;obtain rfl:=Option.some.inj n1;exact⟨n2,n3,n4⟩
theorem PM{t:Tm}{k:Int}{n:Nat}(hs:t.shape=true)(hk:t.kind=k)(hn:CZ k=some n):t.args.length=n:=by
 rw[Tm.Ai,Bool.and_eq_true] at hs;have h:=hs.1;unfold Tm.head at h;rw[hk,hn] at h;simp only[Bool.and_eq_true,beq_iff_eq] at h;exact h.1.1.1
theorem JP{p:Pf}{k u:Int}(h:xv p=(k,u))(hk:¬(k=16\/k=17))(hu:u≠0):p.kind=k/\0<p.args.length/\(p.arg 0).kind=u:=by
 have h1:p.kind=k:=by rw[<-Zm,h]
 have h2:¬(p.kind=16\/p.kind=17):=by rw[h1];exact hk
 by_cases h0:0<p.args.length
 ·rw[VD h2 h0] at h;exact⟨h1,h0,(Prod.mk.inj h).2⟩
 ·rw[VO h2 h0] at h;exact absurd (Prod.mk.inj h).2.symm hu
theorem PX{p:Pf}{k u:Int}(h:xv p=(k,u))(hk:k=16\/k=17):p.kind=k/\p.Fv.kind=u:=by
 have h1:p.kind=k:=by rw[<-Zm,h]
 rw[VT (by rw[h1];exact hk)] at h;exact⟨h1,(Prod.mk.inj h).2⟩
theorem X0(p:Pf)(t:Tm):(GA p t).full<=p.full+t.full:=by
 rw[Pf.Ag,p.Ag];simp[GA];omega
theorem Zv3(t:Tm):(F4 t).full<=t.full+10:=by
 unfold F4;split
 ·exact Nat.le_trans (Tm.Du (fun i c=>by simp[zo,Tm.full,Tm.As,Ty.size,Ty.sizes]) t 0) (by omega)
 ·have:AU.full<=10:=by decide
  omega
theorem Ygz{p:Pf}(hs:p.shape=true)(hf:p.full<1000000000)(hc:xv p=(4,3)):PC E 139 [.agg p.view] (.At [.agg (yi p).1.view,.i (yi p).2]):=by
 obtain⟨h1,h2,h3⟩:=JP hc (by decide) (by decide);obtain⟨l1,_,l3⟩:=xw hs h1 (nd:=⟨0,0,1,false,false⟩) (by rfl);obtain⟨_,_,_,s6⟩:=zl hs;obtain⟨k,i,s,ts,fs,zs⟩:=p;simp only[Pf.Ah,Pf.Am,Pf.Au,Pf.Ac] at h1 h2 h3 l1 l3 s6;subst h1;obtain⟨z,rfl⟩:=EP l3;have hz:z.kind=3:=h3;have sz:=s6 z (by simp);obtain⟨m1,_,m3⟩:=xw sz hz (nd:=⟨0,0,2,false,false⟩) (by rfl);obtain⟨k2,i2,s2,ts2,fs2,zs2⟩:=z;simp only[Pf.Ah,Pf.Am,Pf.Au,Pf.Ac] at hz m1 m3;subst hz;obtain⟨a,a2,rfl⟩:=H8 m3;rw[show yi _=(a,0) by unfold yi;rw[hc];rfl];simp only[Pf.Ag,Pf.Am,Pf.Au,Pf.Ac,List.map_cons,List.map_nil,List.sum_cons,List.sum_nil] at hf;exact Ynv
theorem Yg8{p:Pf}(hs:p.shape=true)(hf:p.full<1000000000)(hc:xv p=(5,3)):PC E 139 [.agg p.view] (.At [.agg (yi p).1.view,.i (yi p).2]):=by
 obtain⟨h1,h2,h3⟩:=JP hc (by decide) (by decide);obtain⟨l1,_,l3⟩:=xw hs h1 (nd:=⟨0,0,1,false,false⟩) (by rfl);obtain⟨_,_,_,s6⟩:=zl hs;obtain⟨k,i,s,ts,fs,zs⟩:=p;simp only[Pf.Ah,Pf.Am,Pf.Au,Pf.Ac] at h1 h2 h3 l1 l3 s6;subst h1;obtain⟨z,rfl⟩:=EP l3;have hz:z.kind=3:=h3;have sz:=s6 z (by simp);obtain⟨m1,_,m3⟩:=xw sz hz (nd:=⟨0,0,2,false,false⟩) (by rfl);obtain⟨k2,i2,s2,ts2,fs2,zs2⟩:=z;simp only[Pf.Ah,Pf.Am,Pf.Au,Pf.Ac] at hz m1 m3;subst hz;obtain⟨a,a2,rfl⟩:=H8 m3;rw[show yi _=(a2,0) by unfold yi;rw[hc];rfl];simp only[Pf.Ag,Pf.Am,Pf.Au,Pf.Ac,List.map_cons,List.map_nil,List.sum_cons,List.sum_nil] at hf;exact Ynt
theorem Ync{p:Pf}(hs:p.shape=true)(hf:p.full<1000000000)(hc:xv p=(7,6)):PC E 139 [.agg p.view] (.At [.agg (yi p).1.view,.i (yi p).2]):=by
 obtain⟨h1,h2,h3⟩:=JP hc (by decide) (by decide);obtain⟨l1,_,l3⟩:=xw hs h1 (nd:=⟨0,0,2,false,false⟩) (by rfl);obtain⟨_,_,_,s6⟩:=zl hs;obtain⟨k,i,s,ts,fs,zs⟩:=p;simp only[Pf.Ah,Pf.Am,Pf.Au,Pf.Ac] at h1 h2 h3 l1 l3 s6;subst h1;obtain⟨z,b,rfl⟩:=H8 l3;have hz:z.kind=6:=h3;have sz:=s6 z (by simp);obtain⟨m1,_,m3⟩:=xw sz hz (nd:=⟨0,1,1,false,false⟩) (by rfl);obtain⟨k2,i2,s2,ts2,fs2,zs2⟩:=z;simp only[Pf.Ah,Pf.Am,Pf.Au,Pf.Ac] at hz m1 m3;subst hz;obtain⟨a,rfl⟩:=EP m3;rw[show yi _=(HL a 0 b,Eb a 0 b) by unfold yi;rw[hc];rfl];simp only[Pf.Ag,Pf.Am,Pf.Au,Pf.Ac,List.map_cons,List.map_nil,List.sum_cons,List.sum_nil] at hf;exact Yon (by rw[Pf.Ag];omega) (by rw[Pf.Ag];omega)
theorem Ylz{p:Pf}(hs:p.shape=true)(hf:p.full<1000000000)(hc:xv p=(9,8)):PC E 139 [.agg p.view] (.At [.agg (yi p).1.view,.i (yi p).2]):=by
 obtain⟨h1,h2,h3⟩:=JP hc (by decide) (by decide);obtain⟨l1,_,l3⟩:=xw hs h1 (nd:=⟨1,0,1,false,false⟩) (by rfl);obtain⟨_,_,_,s6⟩:=zl hs;obtain⟨k,i,s,ts,fs,zs⟩:=p;simp only[Pf.Ah,Pf.Am,Pf.Au,Pf.Ac] at h1 h2 h3 l1 l3 s6;subst h1;obtain⟨z,rfl⟩:=EP l3;have hz:z.kind=8:=h3;have sz:=s6 z (by simp);obtain⟨t,rfl⟩:=EP l1;obtain⟨m1,_,m3⟩:=xw sz hz (nd:=⟨0,0,1,false,true⟩) (by rfl);obtain⟨k2,i2,s2,ts2,fs2,zs2⟩:=z;simp only[Pf.Ah,Pf.Am,Pf.Au,Pf.Ac] at hz m1 m3;subst hz;obtain⟨a,rfl⟩:=EP m3;rw[show yi _=(CG a 0 t,vn a 0 t) by unfold yi;rw[hc];rfl];simp only[Pf.Ag,Pf.Am,Pf.Au,Pf.Ac,List.map_cons,List.map_nil,List.sum_cons,List.sum_nil] at hf;exact Ypi (by rw[Pf.Ag];omega) (by omega)
theorem Yjf{p:Pf}(hs:p.shape=true)(hf:p.full<1000000000)(hc:xv p=(13,12)):PC E 139 [.agg p.view] (.At [.agg (yi p).1.view,.i (yi p).2]):=by
 obtain⟨h1,h2,h3⟩:=JP hc (by decide) (by decide);obtain⟨l1,_,l3⟩:=xw hs h1 (nd:=⟨1,0,1,false,false⟩) (by rfl);obtain⟨_,_,_,s6⟩:=zl hs;obtain⟨k,i,s,ts,fs,zs⟩:=p;simp only[Pf.Ah,Pf.Am,Pf.Au,Pf.Ac] at h1 h2 h3 l1 l3 s6;subst h1;obtain⟨z,rfl⟩:=EP l3;have hz:z.kind=12:=h3;have sz:=s6 z (by simp);obtain⟨t,rfl⟩:=EP l1;obtain⟨m1,_,m3⟩:=xw sz hz (nd:=⟨0,0,1,false,true⟩) (by rfl);obtain⟨k2,i2,s2,ts2,fs2,zs2⟩:=z;simp only[Pf.Ah,Pf.Am,Pf.Au,Pf.Ac] at hz m1 m3;subst hz;obtain⟨a,rfl⟩:=EP m3;rw[show yi _=(CG a 0 t,vn a 0 t) by unfold yi;rw[hc];rfl];simp only[Pf.Ag,Pf.Am,Pf.Au,Pf.Ac,List.map_cons,List.map_nil,List.sum_cons,List.sum_nil] at hf;exact Ymo (by rw[Pf.Ag];omega) (by omega)
theorem Yo9{p:Pf}(hs:p.shape=true)(hf:p.full<1000000000)(hc:xv p=(11,10)):PC E 139 [.agg p.view] (.At [.agg (yi p).1.view,.i (yi p).2]):=by
 obtain⟨h1,h2,h3⟩:=JP hc (by decide) (by decide);obtain⟨l1,_,l3⟩:=xw hs h1 (nd:=⟨0,0,2,false,false⟩) (by rfl);obtain⟨_,_,_,s6⟩:=zl hs;obtain⟨k,i,s,ts,fs,zs⟩:=p;simp only[Pf.Ah,Pf.Am,Pf.Au,Pf.Ac] at h1 h2 h3 l1 l3 s6;subst h1;obtain⟨z,b,rfl⟩:=H8 l3;have hz:z.kind=10:=h3;have sz:=s6 z (by simp);obtain⟨m1,_,m3⟩:=xw sz hz (nd:=⟨1,1,1,false,false⟩) (by rfl);obtain⟨k2,i2,s2,ts2,fs2,zs2⟩:=z;simp only[Pf.Ah,Pf.Am,Pf.Au,Pf.Ac] at hz m1 m3;subst hz;obtain⟨a,rfl⟩:=EP m3;obtain⟨t,rfl⟩:=EP m1;rw[show yi _=ET b t a by unfold yi;rw[hc];rfl];simp only[Pf.Ag,Pf.Am,Pf.Au,Pf.Ac,List.map_cons,List.map_nil,List.sum_cons,List.sum_nil] at hf;exact R2 (by rw[Pf.Ag];omega) (by rw[Pf.Ag];omega) (by omega) (by have:=LF b 0 t;omega)
theorem Yk3{p:Pf}(hs:p.shape=true)(hf:p.full<1000000000)(hc:xv p=(15,14)):PC E 139 [.agg p.view] (.At [.agg (yi p).1.view,.i (yi p).2]):=by
 obtain⟨h1,h2,h3⟩:=JP hc (by decide) (by decide);obtain⟨l1,_,l3⟩:=xw hs h1 (nd:=⟨0,0,2,false,false⟩) (by rfl);obtain⟨_,_,_,s6⟩:=zl hs;obtain⟨k,i,s,ts,fs,zs⟩:=p;simp only[Pf.Ah,Pf.Am,Pf.Au,Pf.Ac] at h1 h2 h3 l1 l3 s6;subst h1;obtain⟨z,b,rfl⟩:=H8 l3;have hz:z.kind=14:=h3;have sz:=s6 z (by simp);obtain⟨m1,_,m3⟩:=xw sz hz (nd:=⟨1,1,1,false,false⟩) (by rfl);obtain⟨k2,i2,s2,ts2,fs2,zs2⟩:=z;simp only[Pf.Ah,Pf.Am,Pf.Au,Pf.Ac] at hz m1 m3;subst hz;obtain⟨a,rfl⟩:=EP m3;obtain⟨t,rfl⟩:=EP m1;rw[show yi _=ET b t a by unfold yi;rw[hc];rfl];simp only[Pf.Ag,Pf.Am,Pf.Au,Pf.Ac,List.map_cons,List.map_nil,List.sum_cons,List.sum_nil] at hf;exact Yoz (by rw[Pf.Ag];omega) (by rw[Pf.Ag];omega) (by omega) (by have:=LF b 0 t;omega)
theorem Yhl{p:Pf}(hs:p.shape=true)(hf:p.full<1000000000)(hc:xv p=(16,4)):PC E 139 [.agg p.view] (.At [.agg (yi p).1.view,.i (yi p).2]):=by
 obtain⟨h1,h3⟩:=PX hc (by decide);obtain⟨l1,_,l3⟩:=xw hs h1 (nd:=⟨1,1,2,false,false⟩) (by rfl);obtain⟨_,s4,_,s6⟩:=zl hs;obtain⟨k,i,s,ts,fs,zs⟩:=p;simp only[Pf.Ah,Pf.Am,Pf.Au,Pf.Ac] at h1 h3 l1 l3 s4;subst h1;obtain⟨a,b,rfl⟩:=H8 l3;obtain⟨x,rfl⟩:=EP l1;have hx:x.kind=4:=h3;have sx:=s4 x (by simp);have m3:=PM sx hx (n:=0) (by rfl);obtain⟨k2,i2,s2,ts2⟩:=x;simp only[Tm.Ah,Tm.Ac] at hx m3;subst hx;rw[show yi _=(a,0) by unfold yi;rw[hc];rfl];exact Yla
theorem Yks{p:Pf}(hs:p.shape=true)(hf:p.full<1000000000)(hc:xv p=(17,7)):PC E 139 [.agg p.view] (.At [.agg (yi p).1.view,.i (yi p).2]):=by
 obtain⟨h1,h3⟩:=PX hc (by decide);obtain⟨l1,_,l3⟩:=xw hs h1 (nd:=⟨1,1,2,false,false⟩) (by rfl);obtain⟨_,s4,_,s6⟩:=zl hs;obtain⟨k,i,s,ts,fs,zs⟩:=p;simp only[Pf.Ah,Pf.Am,Pf.Au,Pf.Ac] at h1 h3 l1 l3 s4;subst h1;obtain⟨a,b,rfl⟩:=H8 l3;obtain⟨x,rfl⟩:=EP l1;have hx:x.kind=7:=h3;have sx:=s4 x (by simp);have m3:=PM sx hx (n:=0) (by rfl);obtain⟨k2,i2,s2,ts2⟩:=x;simp only[Tm.Ah,Tm.Ac] at hx m3;subst hx;rw[show yi _=(a,0) by unfold yi;rw[hc];rfl];exact Ypk
theorem Ygt{p:Pf}(hs:p.shape=true)(hf:p.full<1000000000)(hc:xv p=(16,5)):PC E 139 [.agg p.view] (.At [.agg (yi p).1.view,.i (yi p).2]):=by
 obtain⟨h1,h3⟩:=PX hc (by decide);obtain⟨l1,_,l3⟩:=xw hs h1 (nd:=⟨1,1,2,false,false⟩) (by rfl);obtain⟨_,s4,_,s6⟩:=zl hs;obtain⟨k,i,s,ts,fs,zs⟩:=p;simp only[Pf.Ah,Pf.Am,Pf.Au,Pf.Ac] at h1 h3 l1 l3 s4;subst h1;obtain⟨a,b,rfl⟩:=H8 l3;obtain⟨x,rfl⟩:=EP l1;have hx:x.kind=5:=h3;have sx:=s4 x (by simp);have m3:=PM sx hx (n:=1) (by rfl);obtain⟨k2,i2,s2,ts2⟩:=x;simp only[Tm.Ah,Tm.Ac] at hx m3;subst hx;obtain⟨t,rfl⟩:=EP m3;have ha:=X0 (Pf.mk 16 i s [Tm.mk 5 i2 s2 [t]] fs [a,b]) t;rw[show yi _=ET b t (GA (Pf.mk 16 i s [Tm.mk 5 i2 s2 [t]] fs [a,b]) t) by unfold yi;rw[hc];rfl];have e1:=Pf.Ag (Pf.mk 16 i s [Tm.mk 5 i2 s2 [t]] fs [a,b]);have e2:=Tm.Ag (Tm.mk 5 i2 s2 [t]);simp only[Tm.Ac,Pf.Am,Pf.Au,Pf.Ac,List.map_cons,List.map_nil,List.sum_cons,List.sum_nil] at e1 e2;exact Ymt (by omega) (by omega) (by omega) (by have:=LF b 0 t;omega)
theorem Yiw{p:Pf}(hs:p.shape=true)(hf:p.full<1000000000)(hc:xv p=(17,8)):PC E 139 [.agg p.view] (.At [.agg (yi p).1.view,.i (yi p).2]):=by
 obtain⟨h1,h3⟩:=PX hc (by decide);obtain⟨l1,_,l3⟩:=xw hs h1 (nd:=⟨1,1,2,false,false⟩) (by rfl);obtain⟨_,s4,_,s6⟩:=zl hs;obtain⟨k,i,s,ts,fs,zs⟩:=p;simp only[Pf.Ah,Pf.Am,Pf.Au,Pf.Ac] at h1 h3 l1 l3 s4;subst h1;obtain⟨a,b,rfl⟩:=H8 l3;obtain⟨x,rfl⟩:=EP l1;have hx:x.kind=8:=h3;have sx:=s4 x (by simp);have m3:=PM sx hx (n:=2) (by rfl);obtain⟨k2,i2,s2,ts2⟩:=x;simp only[Tm.Ah,Tm.Ac] at hx m3;subst hx;obtain⟨t,l,rfl⟩:=H8 m3;have ha:=X0 (Pf.mk 17 i s [Tm.mk 8 i2 s2 [t,l]] fs [a,b]) l;rw[show yi _=Ll (Pf.mk 17 i s [Tm.mk 8 i2 s2 [t,l]] fs [a,b]) t l by unfold yi;rw[hc];rfl];have e1:=Pf.Ag (Pf.mk 17 i s [Tm.mk 8 i2 s2 [t,l]] fs [a,b]);have e2:=Tm.Ag (Tm.mk 8 i2 s2 [t,l]);simp only[Tm.Ac,Pf.Am,Pf.Au,Pf.Ac,List.map_cons,List.map_nil,List.sum_cons,List.sum_nil] at e1 e2;exact Yno (by omega) (by omega) (by omega) (by omega) (by have:=Zv3 l;omega) (by have:=LF b 0 (F4 l);omega) (by have:=LF (CG b 0 (F4 l)) 0 t;omega)
theorem Yel(p:Pf)(hs:p.shape=true)(hf:p.full<1000000000)(hr:HD p=true):PC E 139 [.agg p.view] (.At [.agg (yi p).1.view,.i (yi p).2]):=by
 have h:=of_decide_eq_true hr;simp only[IV,List.mem_cons,List.not_mem_nil,or_false] at h;rcases h with h|h|h|h|h|h|h|h|h|h|h
 ·exact Ygz hs hf h
 ·exact Yg8 hs hf h
 ·exact Ync hs hf h
 ·exact Ylz hs hf h
 ·exact Yjf hs hf h
 ·exact Yo9 hs hf h
 ·exact Yk3 hs hf h
 ·exact Yhl hs hf h
 ·exact Ygt hs hf h
 ·exact Yks hs hf h
 ·exact Yiw hs hf h
theorem Yem:∀(n:Nat) (p:Pf),p.full<=n->n<1099511627776->p.shape=true->PC E 40 [.agg p.view] (.bool p.direct):=by
 intro n;induction n with
 |zero=>intro p h;have:=p.Aa;omega
 |succ n ih=>
 intro p hsz hn hs;have hsz':=p.Ag;have hlen:=zg Pf.full Pf.Aa p.args;have h1:=Uu p (Zq hs);obtain⟨_,_,_,s6⟩:=zl hs;by_cases hr:HD p=true
 ·rw[Pf.Ew,if_pos hr];rw[hr] at h1;refine M.F Tryz.func40 ?_;(repeat' first|refine M.gw ?_|refine M.c2 (h1) ?_|fail)
  rfl
 rw[Bool.not_eq_true] at hr;rw[Pf.Ew,if_neg (by simp[hr]),XS];rw[hr] at h1;refine M.F Tryz.func40 ?_;(repeat' first|refine M.gw ?_|refine M.c2 (h1) ?_|fail);refine AW.range p.args.length (fun m=>∀i (hi:i<p.args.length),i<m->p.args[i].direct=true) (fun m=>([(8,.s .pf p.args),(9,.i p.args.length),(10,.i m)],⟨1,[(0,.var p.view)]⟩))
  (by omega) (fun m=>rfl) (fun m=>rfl) rfl (fun i _ h=>by omega) (M.W [some 0]) ?_ ?_
 ·intro m hm hP;have hs2:=ze Pf.full (List.getElem_mem hm);have hc:=ih p.args[m] (by omega) (by omega) (s6 _ (List.getElem_mem hm));cases hd:p.args[m].direct with
  |false=>
   rw[hd] at hc;rw[show p.args.all Pf.direct=false from List.all_eq_false.2 ⟨_,List.getElem_mem hm,by simp[hd]⟩];(repeat' first|refine M.gw ?_|refine M.c2 (hc) ?_|fail)
   rfl
  |true=>
   rw[hd] at hc;(repeat' first|refine M.gw ?_|refine M.c2 (hc) ?_|fail);exact⟨rfl,fun i hi him=>by
    by_cases e:i=m
    ·subst e;exact hd
    ·exact hP i hi (by omega),(M.W [some 0])⟩
 ·intro hP;rw[show p.args.all Pf.direct=true from List.all_eq_true.2 fun x hx=>by
   obtain⟨i,hi,rfl⟩:=List.getElem_of_mem hx;exact hP i hi hi]
  (repeat' first|refine M.gw ?_|fail)
  rfl
theorem Yfs:∀(n:Nat) (p:Pf),p.full<=n->n<1000000000->p.shape=true->PC E 88 [.agg p.view] (.At [.agg p.nx.1.view,.bool p.nx.2.1,.i p.nx.2.2]):=by
 intro n;induction n with
 |zero=>intro p h;have:=p.Aa;omega
 |succ n ih=>
 intro p hsz hn hs;have hsz':=p.Ag;have hlen:=zg Pf.full Pf.Aa p.args;have h1:=Uu p (Zq hs);obtain⟨_,_,_,s6⟩:=zl hs;by_cases hr:HD p=true
 ·have h2:=Yel p hs (by omega) hr;rw[Pf.Gj,if_pos hr];rw[hr] at h1;generalize yi p=R at*;refine AC.mk Tryz.func88 rfl rfl rfl rfl rfl (Nat.le_of_ble_eq_true rfl) ?_;repeat'(first|((with_reducible refine D.nil ?_);refine AX.A5 ?_)|((with_reducible refine D.load ?_);refine L.C4 U U U U U U ?_)|((with_reducible refine D.move ?_);refine L.mv U U U ?_)|((with_reducible refine D.assign ?_);refine L.Cu U U U ?_)|((with_reducible refine D.call ?_);first|refine L.c2 (h1) U U U U ?_|refine L.c2 (h2) U U U U ?_)|((with_reducible refine D.extract ?_);refine L.ex U U U U ?_)|((with_reducible refine D.box ?_);refine L.bx U U U U ?_)|((with_reducible refine D.alloc ?_);refine L.al U U U ?_)|((with_reducible refine D.store ?_);refine L.st U U U U U U U U U ?_)|((with_reducible refine D.aw ?_);first|refine K.sq (AW.AN ?_)|refine K.sq (K.sq ?_)|refine AW.AN ?_|refine AW.BK U ?_|refine AW.ret ?_)|with_reducible refine K.tN ?_|with_reducible refine K.tR ?_|with_reducible refine K.r1 (by with_unfolding_all rfl) (by with_unfolding_all rfl) ?_)
  rfl
 rw[Bool.not_eq_true] at hr;rw[Pf.Gj,if_neg (by simp[hr])];rw[hr] at h1;refine AC.mk Tryz.func88 rfl rfl rfl rfl rfl (Nat.le_of_ble_eq_true rfl) ?_;repeat'(first|((with_reducible refine D.nil ?_);refine AX.A5 ?_)|((with_reducible refine D.load ?_);refine L.C4 U U U U U U ?_)|((with_reducible refine D.move ?_);refine L.mv U U U ?_)|((with_reducible refine D.fieldAddr ?_);refine L.FG U U U U U ?_)|((with_reducible refine D.assign ?_);refine L.Cu U U U ?_)|((with_reducible refine D.call ?_);first|refine L.GK U U U U ?_|refine L.c2 (h1) U U U U ?_)|((with_reducible refine D.box ?_);refine L.bx U U U U ?_)|((with_reducible refine D.alloc ?_);refine L.al U U U ?_)|((with_reducible refine D.aw ?_);first|refine K.sq (AW.AN ?_)|refine K.sq (K.sq ?_)|refine AW.AN ?_|refine AW.BF U ?_|refine AW.skip ?_)|with_reducible refine K.tN ?_)
 refine AW.range p.args.length (fun m=>∀i (hi:i<p.args.length),i<m->p.args[i].nx.2.1=false/\p.args[i].nx.2.2=0)
  (fun m=>([(1,.ptr 0 0),(2,.ptr 1 0),(23,.s .pf p.args),(24,.i p.args.length),(25,.i m)],⟨2,[(0,.var p.view),(1,.var [.i 0,.i 0,.i 0,.slice .nil (.t .ty []),.slice .nil (.t .tm []),.slice .nil (.t .fm []),.slice .nil (.t .pf [])])]⟩))
  (by omega) (fun m=>rfl) (fun m=>rfl) U (fun i _ h=>by omega) (Bb.mk [some 0,some 1] _ _ _ U U U U (by(repeat'(first|exact trivial|refine And.intro ?_ ?_|refine⟨_,U,_,U,?_⟩|exact Aj.refl _));done) (by(repeat'(first|exact trivial|refine And.intro ?_ ?_|refine⟨_,U,_,U,_,U,?_⟩|exact Aj.refl _));done)) ?_ ?_
 ·intro m hm hP;have hs2:=ze Pf.full (List.getElem_mem hm);have hc:=ih p.args[m] (by omega) (by omega) (s6 _ (List.getElem_mem hm));by_cases hd:p.args[m].nx.2.1=true\/p.args[m].nx.2.2≠0
  ·rw[UF p.args m hm hP hd];simp only;generalize p.args[m].nx=R at*;obtain⟨u,f,e⟩:=R;simp only at hc hd ⊢;cases f with
   |true=>
    repeat'(first|((with_reducible refine D.nil ?_);refine AX.A5 ?_)|((with_reducible refine D.load ?_);first|refine L.C4 U U U U U U ?_|refine L.GX U U U U U ?_)|((with_reducible refine D.move ?_);first|refine L.mv U U U ?_|refine AX.sk U U ?_)|((with_reducible refine D.assign ?_);refine L.Cu U U U ?_)|((with_reducible refine D.bin ?_);refine AX.sk U U ?_)|((with_reducible refine D.call ?_);refine L.c2 (hc) U U U U ?_)|((with_reducible refine D.extract ?_);refine L.ex U U U U ?_)|((with_reducible refine D.alloc ?_);refine L.al U U U ?_)|((with_reducible refine D.store ?_);refine L.st U U U U U U U U U ?_)|((with_reducible refine D.indexAddr ?_);refine L.Cp _ U U U U U U U (by first|assumption|fail) ?_)|((with_reducible refine D.pick ?_);refine L.pk U U U U ?_)|((with_reducible refine D.aw ?_);(fail_if_success with_reducible refine D.Fc (id:=9) ?_);(fail_if_success with_reducible refine D.E4 (id:=9) ?_);first|refine K.sq (AW.AN ?_)|refine AW.BK U ?_)|with_reducible refine K.tN ?_)
    refine K.sq (AW.AN ?_);refine L.FG rfl rfl rfl rfl rfl ?_;refine L.C4 rfl rfl rfl rfl rfl rfl ?_;refine L.O3 (te:=30) rfl rfl rfl rfl (by kernel_rfl) rfl rfl rfl rfl (by omega) (by omega) ?_;repeat'(first|((with_reducible refine D.nil ?_);refine AX.A5 ?_)|((with_reducible refine D.load ?_);refine L.C4 U U U U U U ?_)|((with_reducible refine D.move ?_);refine L.mv U U U ?_)|((with_reducible refine D.assign ?_);refine L.Cu U U U ?_)|((with_reducible refine D.aw ?_);refine K.sq (AW.AN ?_))|with_reducible refine K.tN ?_)
    refine L.DI m rfl rfl rfl rfl rfl hm rfl ?_;refine L.sta (c:= .pf) (l:=p.args) (u:=u) m rfl rfl rfl rfl rfl rfl rfl rfl hm rfl ?_;repeat'(first|((with_reducible refine D.nil ?_);refine AX.A5 ?_)|with_reducible refine K.tN ?_)
    refine AW.BU (c:= .pf) 4 p.args.length (p.args.set m u) U (by simp) (by(repeat'(first|exact trivial|exact fun _=>rfl|exact fun h=>absurd U h|exact fun h=>absurd h (by decide)|refine And.intro ?_ ?_|intro _));done) (by(repeat'(first|exact trivial|exact fun _=>rfl|exact fun h=>absurd U h|exact fun h=>absurd h (by decide)|refine And.intro ?_ ?_|intro _));done) ?_;repeat'(first|((with_reducible refine D.nil ?_);refine AX.A5 ?_)|((with_reducible refine D.load ?_);refine L.C4 U U U U U U ?_)|((with_reducible refine D.move ?_);refine L.mv U U U ?_)|((with_reducible refine D.fieldAddr ?_);refine L.FG U U U U U ?_)|((with_reducible refine D.assign ?_);refine L.Cu U U U ?_)|((with_reducible refine D.store ?_);refine L.st U U U U U U U U U ?_)|((with_reducible refine D.aw ?_);first|refine K.sq (AW.AN ?_)|refine AW.ret ?_)|with_reducible refine K.tN ?_|with_reducible refine K.tR ?_|with_reducible refine K.bR ?_|with_reducible refine K.gR ?_|with_reducible refine K.r1 (by with_unfolding_all rfl) (by with_unfolding_all rfl) ?_)
    rfl
   |false=>
    have he:e≠0:=hd.resolve_left (by simp);repeat'(first|((with_reducible refine D.nil ?_);refine AX.A5 ?_)|((with_reducible refine D.load ?_);first|refine L.C4 U U U U U U ?_|refine L.GX U U U U U ?_)|((with_reducible refine D.move ?_);refine L.mv U U U ?_)|((with_reducible refine D.assign ?_);refine L.Cu U U U ?_)|((with_reducible refine D.bin ?_);refine L.bn U U U U U ?_)|((with_reducible refine D.call ?_);refine L.c2 (hc) U U U U ?_)|((with_reducible refine D.extract ?_);refine L.ex U U U U ?_)|((with_reducible refine D.alloc ?_);refine L.al U U U ?_)|((with_reducible refine D.store ?_);refine L.st U U U U U U U U U ?_)|((with_reducible refine D.indexAddr ?_);refine L.Cp _ U U U U U U U (by first|assumption|fail) ?_)|((with_reducible refine D.pick ?_);refine L.pk U U U U ?_)|((with_reducible refine D.aw ?_);(fail_if_success with_reducible refine D.Fc (id:=9) ?_);(fail_if_success with_reducible refine D.E4 (id:=9) ?_);first|refine K.sq (AW.AN ?_)|refine AW.Cz U (fun h=> ?_) (fun h=> ?_)|refine AW.skip ?_)|with_reducible refine K.tN ?_|with_reducible refine K.bN ?_)
    all_goals first
     |(exfalso;simp at h;exact he h)
     |skip
    refine K.sq (AW.AN ?_);refine L.FG rfl rfl rfl rfl rfl ?_;refine L.C4 rfl rfl rfl rfl rfl rfl ?_;refine L.O3 (te:=30) rfl rfl rfl rfl (by kernel_rfl) rfl rfl rfl rfl (by omega) (by omega) ?_;repeat'(first|((with_reducible refine D.nil ?_);refine AX.A5 ?_)|((with_reducible refine D.load ?_);refine L.C4 U U U U U U ?_)|((with_reducible refine D.move ?_);refine L.mv U U U ?_)|((with_reducible refine D.assign ?_);refine L.Cu U U U ?_)|((with_reducible refine D.aw ?_);refine K.sq (AW.AN ?_))|with_reducible refine K.tN ?_)
    refine L.DI m rfl rfl rfl rfl rfl hm rfl ?_;refine L.sta (c:= .pf) (l:=p.args) (u:=u) m rfl rfl rfl rfl rfl rfl rfl rfl hm rfl ?_;repeat'(first|((with_reducible refine D.nil ?_);refine AX.A5 ?_)|with_reducible refine K.tN ?_)
    refine AW.BU (c:= .pf) 4 p.args.length (p.args.set m u) U (by simp) (by(repeat'(first|exact trivial|exact fun _=>rfl|exact fun h=>absurd U h|exact fun h=>absurd h (by decide)|refine And.intro ?_ ?_|intro _));done) (by(repeat'(first|exact trivial|exact fun _=>rfl|exact fun h=>absurd U h|exact fun h=>absurd h (by decide)|refine And.intro ?_ ?_|intro _));done) ?_;repeat'(first|((with_reducible refine D.nil ?_);refine AX.A5 ?_)|((with_reducible refine D.load ?_);refine L.C4 U U U U U U ?_)|((with_reducible refine D.move ?_);refine L.mv U U U ?_)|((with_reducible refine D.fieldAddr ?_);refine L.FG U U U U U ?_)|((with_reducible refine D.assign ?_);refine L.Cu U U U ?_)|((with_reducible refine D.store ?_);refine L.st U U U U U U U U U ?_)|((with_reducible refine D.aw ?_);first|refine K.sq (AW.AN ?_)|refine AW.ret ?_)|with_reducible refine K.tN ?_|with_reducible refine K.tR ?_|with_reducible refine K.bR ?_|with_reducible refine K.gR ?_|with_reducible refine K.r1 (by with_unfolding_all rfl) (by with_unfolding_all rfl) ?_)
    rfl
  ·have g1:p.args[m].nx.2.1=false:=by cases h:p.args[m].nx.2.1 with|false=>rfl|true=>exact absurd (.inl h) hd
   have g2:p.args[m].nx.2.2=0:=Decidable.byContradiction fun h=>hd (.inr h);rw[g1,g2] at hc;repeat'(first|((with_reducible refine D.nil ?_);refine AX.A5 ?_)|((with_reducible refine D.load ?_);first|refine L.C4 U U U U U U ?_|refine L.GX U U U U U ?_)|((with_reducible refine D.move ?_);refine L.mv U U U ?_)|((with_reducible refine D.assign ?_);refine L.Cu U U U ?_)|((with_reducible refine D.bin ?_);refine L.bn U U U U U ?_)|((with_reducible refine D.call ?_);refine L.c2 (hc) U U U U ?_)|((with_reducible refine D.extract ?_);refine L.ex U U U U ?_)|((with_reducible refine D.alloc ?_);refine L.al U U U ?_)|((with_reducible refine D.store ?_);refine L.st U U U U U U U U U ?_)|((with_reducible refine D.indexAddr ?_);refine L.Cp _ U U U U U U U (by first|assumption|fail) ?_)|((with_reducible refine D.pick ?_);refine L.pk U U U U ?_)|((with_reducible refine D.aw ?_);first|refine K.sq (AW.AN ?_)|refine AW.BF U ?_|refine AW.skip ?_)|with_reducible refine K.tN ?_|with_reducible refine K.bN ?_)
   refine⟨rfl,fun i hi him=> ?_,(Bb.mk [some 0,some 1] _ _ _ U U U U (by(repeat'(first|exact trivial|refine And.intro ?_ ?_|refine⟨_,U,_,U,?_⟩|exact Aj.refl _));done) (by(repeat'(first|exact trivial|refine And.intro ?_ ?_|refine⟨_,U,_,U,_,U,?_⟩|exact Aj.refl _));done))⟩;by_cases e:i=m
   ·subst e;exact⟨g1,g2⟩
   ·exact hP i hi (by omega)
 ·intro hP;rw[ZF p.args fun i hi=>hP i hi hi];simp only;repeat'(first|((with_reducible refine D.nil ?_);refine AX.A5 ?_)|((with_reducible refine D.load ?_);refine L.C4 U U U U U U ?_)|((with_reducible refine D.assign ?_);refine L.Cu U U U ?_)|((with_reducible refine D.store ?_);refine L.st U U U U U U U U U ?_)|((with_reducible refine D.aw ?_);first|refine K.sq (AW.AN ?_)|refine AW.ret ?_)|with_reducible refine K.tN ?_|with_reducible refine K.r1 (by with_unfolding_all rfl) (by with_unfolding_all rfl) ?_)
  rfl
theorem Qy(Xs:List Bool)(p:Pf)(v y:Int)(h1:p.kind=1\/p.kind=2):AC E 85 [.agg p.view,.agg [.i v,.i y],.ptr 0 0] ⟨1,[(0,.var [.bool (Xs.all id)])]⟩ (.At []) ⟨1,[(0,.var [.bool ((Xs++DF p.kind p.index y).all id)])]⟩:=by
 rw[List.all_append];generalize Xs.all id=b;unfold DF;rw[if_pos h1];cases b;all_goals
  refine M.F Tryz.func85 ?_;(repeat' first|refine M.gw ?_|fail);all_goals first|exfalso;simp_all;done|exact M.n2 [some 0] (h6:=(by(repeat'(first|exact trivial|refine And.intro ?_ ?_|refine⟨_,U,_,U,_,U,?_⟩|exact Aj.refl _|exact Aj.of_eq (by simp[Ao.Ar,Bool.true_and,Bool.false_and])));done)) (h8:=(by simp[zi,V.wk,V.An,zd,Ty.view,Tm.view,Bool.true_and,Bool.false_and]))
theorem Ylu:∀(n:Nat) (p:Pf) (v y:Int) (Xs:List Bool),p.full<=n->n<10000000000->(0<=v/\v+2*n<=50000000000)->(0<=y/\y+2*n<=50000000000)->p.nd->
 AC E 84 [.agg p.view,.agg [.i v,.i y],.agg [.nilf,.nilf,.fn (.func 85) [] [.ptr 0 0]]] ⟨1,[(0,.var [.bool (Xs.all id)])]⟩ (.At []) ⟨1,[(0,.var [.bool ((Xs++p.Cw (DF) y).all id)])]⟩:=by
 intro n;induction n with
 |zero=>intro p v y Xs hz;have:=p.Aa;omega
 |succ n ih=>
 intro p v y Xs hz hn hv hh hs;have hre:=p.BC (DF) y;have hsz':=p.Ag;have hlen:=zg Pf.full Pf.Aa p.args;have hlen1:=zg Fm.full Fm.Aa p.Ad;have hlen2:=zg Tm.full Tm.Aa p.terms;have hru:=ul p.kind;obtain⟨⟨nd,n1,n4⟩,hpf⟩:=(Pf.BL p).1 hs;have hal:p.args.length<=2:=by
  rw[n4];unfold BX at n1
  repeat(split at n1;· cases n1;decide)
  cases n1
 have hpl:=fun(m:Nat) (hm:m<=1000000)=>xp p.kind v y nd n1 m hm (by omega) (by omega);have e2:C2 p.kind=[.bool nd.index,.bool nd.typ,.i nd.terms,.i nd.Ad,.i nd.args,.i (AK p.kind),.i (Az p.kind),.i (Ay p.kind)]:=by unfold C2;rw[n1]
 have b1:0<=Az p.kind/\Az p.kind<=2:=by unfold Az;split<;>(try split)<;>omega
 have b2:0<=Ay p.kind/\Ay p.kind<=1:=by unfold Ay;split<;>omega
 have b3:0<=AK p.kind/\AK p.kind<=1:=by unfold AK;split<;>omega
 rw[n1] at hru;simp only[Option.isSome_some] at hru;rw[e2] at hru;simp only[e2] at hpl;have hlf:=(fun hk:p.kind=1\/p.kind=2=>Qy Xs p v y hk);have hno:nd.index=false->(DF) p.kind p.index y=[]:=fun hi=>by
  have k1:p.kind≠1:=fun e=>by rw[e] at n1;simp[BX] at n1;rw[<-n1] at hi;cases hi
  have k2:p.kind≠2:=fun e=>by rw[e] at n1;simp[BX] at n1;rw[<-n1] at hi;cases hi
  simp[DF,k1,k2]
 have hk0:nd.index=true->p.kind=1\/p.kind=2:=fun hi=>by
  refine Decidable.byContradiction fun hc=> ?_;have k1:p.kind≠1:=fun e=>hc (.inl e);have k2:p.kind≠2:=fun e=>hc (.inr e);have:nd.index=false:=by
   unfold BX at n1;rw[if_neg (by omega)] at n1
   repeat(split at n1;· cases n1;rfl)
   cases n1
  rw[this] at hi;cases hi
 obtain⟨X1,hX1⟩:∃X1,X1=Xs++(DF) p.kind p.index y:=⟨_,rfl⟩;obtain⟨x3,x4,x5,ix,x2⟩:=nd;simp only at n4 hru hpl hno hk0;cases ix
 ·have hX:X1=Xs:=by rw[hX1,hno rfl,List.append_nil]
  refine M.F Tryz.func84 ?_;(repeat' first|refine M.gw ?_|refine M.c2 (hru) ?_|fail);refine AW.range p.terms.length (fun m=>True)
   (fun m=>([(3,.ptr 1 0),(4,.ptr 2 0),(5,.ptr 3 0),(6,.ptr 4 0),(33,.s .tm p.terms),(34,.i p.terms.length),(35,.i m)],⟨5,[(0,.var [.bool (X1.all id)]),(1,.var p.view),(2,.var [.i v,.i y]),(3,.var [.nilf,.nilf,.fn (.func 85) [] [.ptr 0 0]]),(4,.var [.bool false,.bool x2,.i x3,.i x4,.i x5,.i (AK p.kind),.i (Az p.kind),.i (Ay p.kind)])]⟩))
   (by omega) (fun m=>rfl) (fun m=>rfl) U trivial (M.W [some 0,some 1,some 2,some 3,some 4] (he:=(by(repeat'(first|exact trivial|refine And.intro ?_ ?_|refine⟨_,U,_,U,_,U,?_⟩|exact Aj.refl _|exact Aj.of_eq (by simp[Ao.Ar,hX])));done))) ?_ ?_
  ·intro m hm _;(repeat' first|refine M.gw ?_|fail);exact⟨rfl,trivial,(M.W [some 0,some 1,some 2,some 3,some 4])⟩
  ·intro _;skip;(repeat' first|refine M.gw ?_|fail);refine AW.range p.Ad.length (fun m=>True)
    (fun m=>([(3,.ptr 1 0),(4,.ptr 2 0),(5,.ptr 3 0),(6,.ptr 4 0),(50,.s .fm p.Ad),(51,.i p.Ad.length),(52,.i m)],⟨5,[(0,.var [.bool (X1.all id)]),(1,.var p.view),(2,.var [.i v,.i y]),(3,.var [.nilf,.nilf,.fn (.func 85) [] [.ptr 0 0]]),(4,.var [.bool false,.bool x2,.i x3,.i x4,.i x5,.i (AK p.kind),.i (Az p.kind),.i (Ay p.kind)])]⟩))
    (by omega) (fun m=>rfl) (fun m=>rfl) rfl trivial (M.W [some 0,some 1,some 2,some 3,some 4]) ?_ ?_
   ·intro m hm _;(repeat' first|refine M.gw ?_|fail);exact⟨rfl,trivial,(M.W [some 0,some 1,some 2,some 3,some 4])⟩
   ·intro _;skip;(repeat' first|refine M.gw ?_|fail);refine AW.range p.args.length (fun m=>True)
     (fun m=>([(3,.ptr 1 0),(4,.ptr 2 0),(5,.ptr 3 0),(6,.ptr 4 0),(70,.s .pf p.args),(71,.i p.args.length),(72,.i m)],⟨5,[(0,.var [.bool ((X1++((Pf.AY (DF) y (Ay p.kind) p.args).take m).flatten).all id)]),(1,.var p.view),(2,.var [.i v,.i y]),(3,.var [.nilf,.nilf,.fn (.func 85) [] [.ptr 0 0]]),(4,.var [.bool false,.bool x2,.i x3,.i x4,.i x5,.i (AK p.kind),.i (Az p.kind),.i (Ay p.kind)])]⟩))
     (by omega) (fun m=>rfl) (fun m=>rfl) U trivial (M.W [some 0,some 1,some 2,some 3,some 4] (he:=(by(repeat'(first|exact trivial|refine And.intro ?_ ?_|refine⟨_,U,_,U,_,U,?_⟩|exact Aj.refl _|exact Aj.of_eq (by simp[Ao.Ar,List.take_zero,List.flatten_nil,List.append_nil])));done))) ?_ ?_
    ·intro m hm _;have hs2:=ze Pf.full (List.getElem_mem hm);have hb:=hpl m (by omega);have hc:=ih p.args[m] (if m+1=p.args.length then v+Az p.kind else v) (if m+1=p.args.length then y+Ay p.kind else y) (X1++((Pf.AY (DF) y (Ay p.kind) p.args).take m).flatten) (by omega) (by omega) (by split<;>omega) (by split<;>omega) (hpf _ (List.getElem_mem hm));have e3:(X1++((Pf.AY (DF) y (Ay p.kind) p.args).take m).flatten)++p.args[m].Cw (DF) (if m+1=p.args.length then y+Ay p.kind else y)=(X1++((Pf.AY (DF) y (Ay p.kind) p.args).take (m+1)).flatten):=by rw[List.append_assoc,K8 (DF) hm]
     rw[e3] at hc;have ev:(if(m:Int)=(x5:Int)-1 then y+Ay p.kind else y)=(if m+1=p.args.length then y+Ay p.kind else y):=by
      by_cases hx:m+1=p.args.length
      ·rw[if_pos hx,if_pos (by omega)]
      ·rw[if_neg hx,if_neg (by omega)]
     have ev2:(if(m:Int)=(x5:Int)-1 then v+Az p.kind else v)=(if m+1=p.args.length then v+Az p.kind else v):=by
      by_cases hx:m+1=p.args.length
      ·rw[if_pos hx,if_pos (by omega)]
      ·rw[if_neg hx,if_neg (by omega)]
     rw[ev,ev2] at hb;(repeat' first|refine M.gw ?_|refine M.c2 (hb) ?_|refine M.cv (hc) [0] 0 ?_|fail);exact⟨rfl,trivial,(M.W [some 0,some 1,some 2,some 3,some 4])⟩
    ·intro _;rw[hre];simp only[LP];skip
     (exact M.n2 [some 0] (h6:=(by(repeat'(first|exact trivial|refine And.intro ?_ ?_|refine⟨_,U,_,U,_,U,?_⟩|exact Aj.of_eq (by simp[Ao.Ar,hX1,List.append_assoc])));done)) (h8:=(by simp[zi,V.wk,V.An,zd,Ty.view,Tm.view,hX1,List.append_assoc])))
 ·have hlf:=hlf (hk0 rfl);refine M.F Tryz.func84 ?_;(repeat' first|refine M.gw ?_|refine M.c2 (hru) ?_|refine M.cv (hlf) [0] 0 ?_|fail);refine AW.range p.terms.length (fun m=>True)
   (fun m=>([(3,.ptr 1 0),(4,.ptr 2 0),(5,.ptr 3 0),(6,.ptr 4 0),(33,.s .tm p.terms),(34,.i p.terms.length),(35,.i m)],⟨5,[(0,.var [.bool (X1.all id)]),(1,.var p.view),(2,.var [.i v,.i y]),(3,.var [.nilf,.nilf,.fn (.func 85) [] [.ptr 0 0]]),(4,.var [.bool true,.bool x2,.i x3,.i x4,.i x5,.i (AK p.kind),.i (Az p.kind),.i (Ay p.kind)])]⟩))
   (by omega) (fun m=>rfl) (fun m=>rfl) U trivial (M.W [some 0,some 1,some 2,some 3,some 4] (he:=(by(repeat'(first|exact trivial|refine And.intro ?_ ?_|refine⟨_,U,_,U,_,U,?_⟩|exact Aj.refl _|exact Aj.of_eq (by simp[Ao.Ar,hX1])));done))) ?_ ?_
  ·intro m hm _;(repeat' first|refine M.gw ?_|fail);exact⟨rfl,trivial,(M.W [some 0,some 1,some 2,some 3,some 4])⟩
  ·intro _;skip;(repeat' first|refine M.gw ?_|fail);refine AW.range p.Ad.length (fun m=>True)
    (fun m=>([(3,.ptr 1 0),(4,.ptr 2 0),(5,.ptr 3 0),(6,.ptr 4 0),(50,.s .fm p.Ad),(51,.i p.Ad.length),(52,.i m)],⟨5,[(0,.var [.bool (X1.all id)]),(1,.var p.view),(2,.var [.i v,.i y]),(3,.var [.nilf,.nilf,.fn (.func 85) [] [.ptr 0 0]]),(4,.var [.bool true,.bool x2,.i x3,.i x4,.i x5,.i (AK p.kind),.i (Az p.kind),.i (Ay p.kind)])]⟩))
    (by omega) (fun m=>rfl) (fun m=>rfl) rfl trivial (M.W [some 0,some 1,some 2,some 3,some 4]) ?_ ?_
   ·intro m hm _;(repeat' first|refine M.gw ?_|fail);exact⟨rfl,trivial,(M.W [some 0,some 1,some 2,some 3,some 4])⟩
   ·intro _;skip;(repeat' first|refine M.gw ?_|fail);refine AW.range p.args.length (fun m=>True)
     (fun m=>([(3,.ptr 1 0),(4,.ptr 2 0),(5,.ptr 3 0),(6,.ptr 4 0),(70,.s .pf p.args),(71,.i p.args.length),(72,.i m)],⟨5,[(0,.var [.bool ((X1++((Pf.AY (DF) y (Ay p.kind) p.args).take m).flatten).all id)]),(1,.var p.view),(2,.var [.i v,.i y]),(3,.var [.nilf,.nilf,.fn (.func 85) [] [.ptr 0 0]]),(4,.var [.bool true,.bool x2,.i x3,.i x4,.i x5,.i (AK p.kind),.i (Az p.kind),.i (Ay p.kind)])]⟩))
     (by omega) (fun m=>rfl) (fun m=>rfl) U trivial (M.W [some 0,some 1,some 2,some 3,some 4] (he:=(by(repeat'(first|exact trivial|refine And.intro ?_ ?_|refine⟨_,U,_,U,_,U,?_⟩|exact Aj.refl _|exact Aj.of_eq (by simp[Ao.Ar,List.take_zero,List.flatten_nil,List.append_nil])));done))) ?_ ?_
    ·intro m hm _;have hs2:=ze Pf.full (List.getElem_mem hm);have hb:=hpl m (by omega);have hc:=ih p.args[m] (if m+1=p.args.length then v+Az p.kind else v) (if m+1=p.args.length then y+Ay p.kind else y) (X1++((Pf.AY (DF) y (Ay p.kind) p.args).take m).flatten) (by omega) (by omega) (by split<;>omega) (by split<;>omega) (hpf _ (List.getElem_mem hm));have e3:(X1++((Pf.AY (DF) y (Ay p.kind) p.args).take m).flatten)++p.args[m].Cw (DF) (if m+1=p.args.length then y+Ay p.kind else y)=(X1++((Pf.AY (DF) y (Ay p.kind) p.args).take (m+1)).flatten):=by rw[List.append_assoc,K8 (DF) hm]
     rw[e3] at hc;have ev:(if(m:Int)=(x5:Int)-1 then y+Ay p.kind else y)=(if m+1=p.args.length then y+Ay p.kind else y):=by
      by_cases hx:m+1=p.args.length
      ·rw[if_pos hx,if_pos (by omega)]
      ·rw[if_neg hx,if_neg (by omega)]
     have ev2:(if(m:Int)=(x5:Int)-1 then v+Az p.kind else v)=(if m+1=p.args.length then v+Az p.kind else v):=by
      by_cases hx:m+1=p.args.length
      ·rw[if_pos hx,if_pos (by omega)]
      ·rw[if_neg hx,if_neg (by omega)]
     rw[ev,ev2] at hb;(repeat' first|refine M.gw ?_|refine M.c2 (hb) ?_|refine M.cv (hc) [0] 0 ?_|fail);exact⟨rfl,trivial,(M.W [some 0,some 1,some 2,some 3,some 4])⟩
    ·intro _;rw[hre];simp only[LP];skip
     (exact M.n2 [some 0] (h6:=(by(repeat'(first|exact trivial|refine And.intro ?_ ?_|refine⟨_,U,_,U,_,U,?_⟩|exact Aj.of_eq (by simp[Ao.Ar,hX1,List.append_assoc])));done)) (h8:=(by simp[zi,V.wk,V.An,zd,Ty.view,Tm.view,hX1,List.append_assoc])))
theorem U4(p:Pf)(hp:p.full<1000000000)(hs:p.shape=true):PC E 39 [.agg p.view] (.bool p.Cn):=by
 have h1:=Tn p (by omega) (KE p hs);have h2:=T8 p (by omega) (KE p hs);have hc:=Ylu _ p 0 0 [p.Bh&&p.Bj] (Nat.le_refl _) (by omega) (by omega) (by omega) (KE p hs);unfold Pf.Cn;rw[show([p.Bh&&p.Bj].all id)=(p.Bh&&p.Bj) by simp] at hc;generalize ([p.Bh&&p.Bj]++p.Cw DF 0).all id=b at*;cases e1:p.Bh with
 |false=>
  rw[e1,Bool.false_and] at hc;rw[e1] at h1;refine M.F Tryz.func39 ?_;(repeat' first|refine M.gw ?_|refine M.c2 (h1) ?_|refine M.cv (hc) [1] 0 ?_|fail);simp[zi,V.wk,V.An,zd,Ty.view,Tm.view]
 |true=>
  rw[e1,Bool.true_and] at hc;rw[e1] at h1;generalize p.Bj=c at*;refine M.F Tryz.func39 ?_;(repeat' first|refine M.gw ?_|refine M.c2 (h1) ?_|refine M.c2 (h2) ?_|refine M.cv (hc) [1] 0 ?_|fail);simp[zi,V.wk,V.An,zd,Ty.view,Tm.view]
theorem Vz(p:Pf)(hp:p.full<900000000)(hs:p.shape=true):PC E 42 [.agg p.view] (.At [.agg (DM p).1.view,.bool (DM p).2.1,.i (DM p).2.2]):=by
 have h1:=Yfs _ p (Nat.le_refl _) (by omega) hs;have hf:=Yi4 p;have h2:=SA p.nx.1 (by omega);unfold DM;generalize p.nx=R at*;obtain⟨u,f,e⟩:=R;simp only at h1 h2 ⊢;by_cases he:e=0
 ·subst he;by_cases hu:u.err=0
  ·rw[if_neg (by simp[hu])];rw[hu] at h2;refine M.F Tryz.func42 ?_;(repeat' first|refine M.gw ?_|refine M.c2 (h1) ?_|refine M.c2 (h2) ?_|fail)
   rfl
  ·rw[if_pos (.inr hu)];refine M.F Tryz.func42 ?_;(repeat' first|refine M.gw ?_|refine M.c2 (h1) ?_|refine M.c2 (h2) ?_|refine M.cs ?_ ?_<;>intro h|fail);all_goals first
    |rfl
    |(exfalso;simp at h;exact hu h)
    |trace_state
 ·rw[if_pos (.inl he)];refine M.F Tryz.func42 ?_;(repeat' first|refine M.gw ?_|refine M.c2 (h1) ?_|refine M.c2 (h2) ?_|refine M.gs ?_ ?_<;>intro h|refine M.cs ?_ ?_<;>intro h|fail);all_goals first
   |rfl
   |(exfalso;simp at h;exact he h)
   |(exfalso;simp_all;done)
   |trace_state
theorem Ycj(p:Pf)(hp:p.full<900000000):PC E 24 [.agg p.view] (.At [.agg (Lj p).1.view,.bool (Lj p).2.1,.i (Lj p).2.2]):=by
 have h1:=SA p (by omega);unfold Lj;by_cases he:p.err=0;case neg=>
  rw[if_pos he];refine M.F Tryz.func24 ?_;(repeat' first|refine M.gw ?_|refine M.c2 (h1) ?_|refine M.cs ?_ ?_<;>intro h|fail);all_goals first
   |rfl
   |(exfalso;simp at h;exact he h)
   |trace_state
 rw[if_neg (by simp[he])];have hs:=((Pf.Ae p).1 he).1;have h2:=U4 p (by omega) hs;have h3:=Vz p hp hs;have e3:= @XV p;rw[he] at h1;by_cases hn:p.Cn=false
 ·rw[if_pos hn];rw[hn] at h2;refine M.F Tryz.func24 ?_;(repeat' first|refine M.gw ?_|refine M.c2 (h1) ?_|refine M.c2 (h2) ?_|fail)
  rfl
 rw[if_neg hn];rw[Bool.not_eq_false] at hn;rw[hn] at h2;by_cases hq:(DM p).2.2=0
 ·rw[if_neg (by simp[hq])];obtain⟨_,e1,_,e2⟩:=e3 hq;rw[<-e1] at e2;have h4:=Vo (DM p).1 (by have:=O9 e2;omega) ((Pf.Ae _).1 e2).1;generalize DM p=R at*;obtain⟨u,f,e⟩:=R;simp only at h3 h4 hq ⊢;subst hq;refine M.F Tryz.func24 ?_;(repeat' first|refine M.gw ?_|refine M.c2 (h1) ?_|refine M.c2 (h2) ?_|refine M.c2 (h3) ?_|refine M.c2 (h4) ?_|fail)
  rfl
 ·rw[if_pos hq];clear e3;generalize DM p=R at*;obtain⟨u,f,e⟩:=R;simp only at h3 hq ⊢;refine M.F Tryz.func24 ?_;(repeat' first|refine M.gw ?_|refine M.c2 (h1) ?_|refine M.c2 (h2) ?_|refine M.c2 (h3) ?_|refine M.cs ?_ ?_<;>intro h|fail);all_goals first
   |rfl
   |(exfalso;simp at h;exact hq h)
   |trace_state
theorem Zwc(p:Pf)(s:Int)(hp:p.full<900000000)(hsb: -9223372036854775808<=s/\s<=9223372036854775807):PC E 8 [.agg p.view,.i s] (.At [.agg (JZ p s).1.view,.i (JZ p s).2.1,.i (JZ p s).2.2]):=by
 have h1:=SA p (by omega);unfold JZ;by_cases he:p.err=0;case neg=>
  rw[if_pos he];refine M.F Tryz.func8 ?_;(repeat' first|refine M.go ?_|refine M.c2 (h1) ?_|refine M.z1 4 ?_|refine M.cs ?_ ?_<;>intro h|refine M.gk ?_|fail);all_goals first
   |rfl
   |(exfalso;simp at h;exact he h)
   |trace_state
 rw[if_neg (by simp[he])];have hs:=((Pf.Ae p).1 he).1;have h2:=U4 p (by omega) hs;rw[he] at h1;by_cases hb:s<0\/s>65536\/p.Cn=false
 ·rw[if_pos hb];by_cases b1:s<0
  ·refine M.F Tryz.func8 ?_;(repeat' first|refine M.gw ?_|refine M.c2 (h1) ?_|refine M.c2 (h2) ?_|refine M.gs ?_ ?_<;>intro h|refine M.cs ?_ ?_<;>intro h|fail);all_goals first
    |rfl
    |(exfalso;simp at h;omega)
    |(exfalso;simp only[decide_eq_false_iff_not,decide_eq_true_eq] at*;omega)
    |trace_state
  by_cases b2:s>65536
  ·refine M.F Tryz.func8 ?_;(repeat' first|refine M.gw ?_|refine M.c2 (h1) ?_|refine M.c2 (h2) ?_|refine M.gs ?_ ?_<;>intro h|refine M.cs ?_ ?_<;>intro h|fail);all_goals first
    |rfl
    |(exfalso;simp at h;omega)
    |(exfalso;simp only[decide_eq_false_iff_not,decide_eq_true_eq] at*;omega)
    |trace_state
  have b3:=(hb.resolve_left b1).resolve_left b2;rw[b3] at h2;refine M.F Tryz.func8 ?_;(repeat' first|refine M.gw ?_|refine M.c2 (h1) ?_|refine M.c2 (h2) ?_|refine M.gs ?_ ?_<;>intro h|fail);all_goals first
   |rfl
   |(exfalso;simp at h;omega)
   |(exfalso;simp only[decide_eq_false_iff_not,decide_eq_true_eq] at*;omega)
   |trace_state
 rw[if_neg hb];have b1:¬s<0:=fun h=>hb (.inl h);have b2:¬s>65536:=fun h=>hb (.inr (.inl h));have b3:p.Cn=true:=by cases e:p.Cn with|true=>rfl|false=>exact absurd (.inr (.inr e)) hb
 rw[b3] at h2;refine M.F Tryz.func8 ?_;(repeat' first|refine M.gw ?_|refine M.c2 (h1) ?_|refine M.c2 (h2) ?_|refine M.gs ?_ ?_<;>intro h|fail);all_goals first
  |(exfalso;simp only[decide_eq_false_iff_not,decide_eq_true_eq] at*;omega)
  |skip
 obtain⟨R,hR⟩:∃R,R=Lf s.toNat p 0:=⟨_,rfl⟩;rw[<-hR];refine AW.block (AW.loop (ι:={x:Pf×Nat // x.1.err=0/\(x.2:Int)<=s/\Lf (s-x.2).toNat x.1 x.2=R})
  (fun x=>([(1,.i s),(2,.ptr 0 0),(4,.ptr 1 0),(8,.i x.1.2)],⟨2,[(0,.var x.1.1.view),(1,.var [.i 0,.i 0,.i 0,.slice .nil (.t .ty []),.slice .nil (.t .tm []),.slice .nil (.t .fm []),.slice .nil (.t .pf [])])]⟩))
  (fun x=>(s-x.1.2).toNat) ⟨(p,0),he,by simp only;omega,by rw[hR];simp⟩ (M.W [some 0,some 1]) fun⟨⟨q,n⟩,qe,qn,qR⟩=> ?_)
 simp only at qe qn qR;have qf:=O9 qe;have qs:=((Pf.Ae q).1 qe).1;have d1:=Yem _ q (Nat.le_refl _) (by omega) qs;have d2:=Vo q (by omega) qs;have d3:=Vz q (by omega) qs;by_cases hns:(n:Int)=s
 ·rw[show(s-(n:Int)).toNat=0 by omega] at qR;unfold Lf at qR;cases hd:q.direct with
  |true=>
   rw[hd] at d1 qR;rw[if_pos rfl] at qR;have hnb:((n:Int)==s)=true:=by simp[hns]
   (repeat' first|refine M.gw ?_|refine M.c2 (d1) ?_|refine M.c2 (d2) ?_|refine M.zb ?_|refine M.cs ?_ ?_<;>intro h|fail);all_goals first|exfalso;simp at h;omega|(subst qR;rfl)
  |false=>
   rw[hd] at d1 qR;rw[if_neg (by simp)] at qR;(repeat' first|refine M.gw ?_|refine M.c2 (d1) ?_|refine M.zb ?_|refine M.cs ?_ ?_<;>intro h|fail);all_goals first|exfalso;simp at h;omega|(subst qR;rfl)
 ·obtain ⟨k,hk⟩:∃k,(s-(n:Int)).toNat=k+1:=⟨(s-(n:Int)).toNat-1,by omega⟩;rw[hk] at qR;unfold Lf at qR;have e3:= @XV q;by_cases h0:(DM q).2.2=0;case neg=>
   rw[if_pos h0] at qR;clear e3;generalize DM q=T at*;obtain⟨u,f,e⟩:=T;simp only at d3 h0 qR;(repeat' first|refine M.go ?_|refine M.c2 (d3) ?_|refine M.z1 15 ?_|refine M.zb ?_|refine M.cs ?_ ?_<;>intro h|refine M.gk ?_|fail);all_goals first|exfalso;simp at h;omega|(subst qR;rfl)
  rw[if_neg (by simp[h0])] at qR;obtain⟨_,e4,_,e5⟩:=e3 h0;rw[<-e4] at e5;generalize DM q=T at*;obtain⟨u,f,e⟩:=T;simp only at d3 h0 qR e5;subst h0;cases f with
  |false=>
   rw[if_pos rfl] at qR;(repeat' first|refine M.gw ?_|refine M.c2 (d3) ?_|refine M.c2 (d2) ?_|refine M.zb ?_|refine M.cs ?_ ?_<;>intro h|fail);all_goals first|exfalso;simp at h;omega|(subst qR;rfl)
  |true=>
   rw[if_neg (by simp)] at qR;(repeat' first|refine M.gw ?_|refine M.c2 (d3) ?_|refine M.zb ?_|refine M.cs ?_ ?_<;>intro h|fail);all_goals first
    |(exfalso;simp at h;omega)
    |skip
   have hw:IntKind.i64.wrap ((n:Int)+1)=((n+1:Nat):Int):=by rw[IntWalk.i64_in _ (by omega)];omega
   refine⟨⟨(u,n+1),e5,by simp only;omega,?_⟩,?_,?_⟩
   ·simp only;rw[show(s-((n+1:Nat):Int)).toNat=k by omega,show((n+1:Nat):Int)=(n:Int)+1 by omega];exact qR
   ·simp only;omega
   ·simp only[hw];exact(M.W [some 0,some 1])
theorem Yei:∀(n:Nat) (p:Pf),p.full<=n->n<1099511627776->PC E 26 [.agg p.view,.agg p.view] (.bool true):=by
 intro n;induction n with
 |zero=>intro p h;have:=p.Aa;omega
 |succ n ih=>
 intro p hsz hn;have hsz':=p.Ag;have hlen:=zg Pf.full Pf.Aa p.args;have h1:=Ys p.ty (by omega);have h2:=To p.terms (by omega);have h3:=Qg p.Ad (by omega);refine M.F Tryz.func26 ?_;(repeat' first|refine M.gw ?_|refine M.c2 (h1) ?_|refine M.c2 (h2) ?_|refine M.c2 (h3) ?_|refine M.gs ?_ ?_<;>intro h|refine M.cs ?_ ?_<;>intro h|fail);all_goals first
  |(exfalso;simp at h;done)
  |skip
 refine AW.range p.args.length (fun m=>True) (fun m=>([(2,.ptr 0 0),(3,.ptr 1 0),(52,.s .pf p.args),(53,.i p.args.length),(54,.i m)],⟨2,[(0,.var p.view),(1,.var p.view)]⟩))
  (by omega) (fun m=>rfl) (fun m=>rfl) rfl trivial (M.W [some 0,some 1]) ?_ ?_
 ·intro m hm _;have hs2:=ze Pf.full (List.getElem_mem hm);have hc:=ih p.args[m] (by omega) (by omega);(repeat' first|refine M.gw ?_|refine M.c2 (hc) ?_|fail);exact⟨rfl,trivial,(M.W [some 0,some 1])⟩
 ·intro _;(repeat' first|refine M.gw ?_|fail)
  rfl
theorem Yes:Lj HW=(HS,true,0):=by
 have r:HD HW=true:=by decide+kernel
 have c:yi HW=(HS,0):=by unfold yi;rw[show xv HW=(4,3) from rfl];rfl
 have n:HW.nx=(HS,true,0):=by rw[Pf.Gj,if_pos r,c]
 have a:HS.err=0:=by decide+kernel
 have d:HW.err=0:=by decide+kernel
 have w:HW.Cn=true:=by decide+kernel
 have s:DM HW=(HS,true,0):=by unfold DM;rw[n,if_neg (by simp[a])]
 unfold Lj;rw[if_neg (by simp[d]),if_neg (by simp[w]),s]
 rfl
theorem Ye1:PC E 5 [] (.bool true):=by
 have n0:=IP 0;have n1:=IP 1;have a0:=wv (xd 0) (by decide);have a1:=wv (xd 1) (by decide);have b1:=FB 3 [HS,Pv] (by simp) (by intro x hx;simp only[List.mem_cons,List.not_mem_nil,or_false] at hx;rcases hx with rfl|rfl<;>decide);have b2:=FB 4 [.mk 3 0 (.mk 0 []) [] [] [HS,Pv]] (by simp) (by intro x hx;simp only[List.mem_cons,List.not_mem_nil,or_false] at hx;subst hx;decide);have c1:=Ycj HW (by decide);rw[Yes] at c1;have s1:=Yei _ HS (Nat.le_refl _) (by decide);unfold HW at c1;unfold HS Pv at*;generalize xd 0=N0 at*;generalize xd 1=N1 at*;refine M.F Tryz.func5 ?_;(repeat' first|refine M.gw ?_|refine M.c2 (n0) ?_|refine M.c2 (n1) ?_|refine M.c2 (a0) ?_|refine M.c2 (a1) ?_|refine M.c2 (b1) ?_|refine M.c2 (b2) ?_|refine M.c2 (c1) ?_|refine M.c2 (s1) ?_|fail)
 rfl
end Go.Ab
