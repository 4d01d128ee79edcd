/- A part of this seat's proofs. No conditions. -/
import Derived.Test.YtknjfffhfolkcaaGreatDoorHST11
namespace Go.Ab
open Go Go.Proofs
set_option maxRecDepth 100000
set_option maxHeartbeats 4000000
set_option linter.all false
theorem uh(p:Pf)(h:p.kind=16\/p.kind=17->p.terms≠[]):PC E 88 [.agg p.view] (.agg [.i (z7 p).1,.i (z7 p).2]):=by
 by_cases hk:p.kind=16\/p.kind=17
 .rw[QH hk];obtain⟨k,i,s,ts,fs,zs⟩:=p;simp only[Pf.Ai,Pf.Ah,Pf.Ae] at h hk ⊢;cases ts with
  |nil=>exact absurd rfl (h hk)
  |cons t ts=>
   obtain⟨a,b,c,d⟩:=t;refine M.F Tryz.func88 ?_;(repeat' first|refine M.gw ?_|refine M.gs ?_ ?_<;>intro h|refine M.zb ?_|refine M.cs ?_ ?_<;>intro h|fail);all_goals first
    |rfl
    |(exfalso;simp at*;omega)
    |trace_state
 .by_cases h0:0<p.args.length
  .rw[Mj hk h0];obtain⟨k,i,s,ts,fs,zs⟩:=p;simp only[Pf.Ai,Pf.Ah,Pf.Ae] at h hk h0 ⊢;cases zs with
   |nil=>exact absurd h0 (by simp)
   |cons z zs=>
    obtain⟨a1,a2,a3,a4,a5,a6⟩:=z;refine M.F Tryz.func88 ?_;(repeat' first|refine M.gw ?_|refine M.gs ?_ ?_<;>intro h|refine M.zb ?_|refine M.cs ?_ ?_<;>intro h|fail);all_goals first
     |rfl
     |(exfalso;have:=of_decide_eq_false h;simp only[Pf.Ae,Wy] at this;omega)
     |(exfalso;simp at*;omega)
     |trace_state
  .rw[QD hk h0];obtain⟨k,i,s,ts,fs,zs⟩:=p;simp only[Pf.Ai,Pf.Ah,Pf.Ae] at h hk h0 ⊢;refine M.F Tryz.func88 ?_;(repeat' first|refine M.gw ?_|refine M.gs ?_ ?_<;>intro h|refine M.zb ?_|refine M.cs ?_ ?_<;>intro h|fail);all_goals first
    |rfl
    |(exfalso;have:=of_decide_eq_true h;simp only[Pf.Ae] at this;omega)
    |(exfalso;simp at*;omega)
    |trace_state
theorem Zz8:PC E 89 [] (.slice .any (.u 2 (DV.map fun q=>[V.i q.1,V.i q.2]))):=by
 refine M.F Tryz.func89 ?_;(repeat' first|refine M.gw ?_|fail)
 rfl
theorem Qm(p:Pf)(h:p.kind=16\/p.kind=17->p.terms≠[]):PC E 52 [.agg p.view] (.bool (xl p)):=by
 have h1:=uh p h;have h2:=Zz8;unfold xl;obtain⟨a,ha⟩:∃a,a=(z7 p).1:=⟨_,rfl⟩;obtain⟨b,hb⟩:∃b,b=(z7 p).2:=⟨_,rfl⟩;rw[show z7 p=(a,b) by rw[ha,hb]];rw[<-ha,<-hb] at h1;clear ha hb;obtain⟨L0,hL⟩:∃l,l=DV:=⟨_,rfl⟩;rw[<-hL] at h2 ⊢;have hl:L0.length=11:=by rw[hL];rfl
 have hlm:(SL.u 2 (L0.map fun q=>[V.i q.1,V.i q.2])).len=L0.length:=by simp[SL.len]
 clear hL;refine M.F Tryz.func52 ?_;(repeat' first|refine M.gw ?_|refine M.c2 (h1) ?_|refine M.c2 (h2) ?_|fail);rw[hlm];refine AW.range L0.length (fun m=>(a,b)∉L0.take m) (fun m=>([(3,.ptr 1 0),(8,.slice .any (.u 2 (L0.map fun q=>[V.i q.1,V.i q.2]))),(9,.i L0.length),(10,.i m)],⟨2,[(0,.var p.view),(1,.var [.i a,.i b])]⟩))
  (by omega) (fun m=>rfl) (fun m=>rfl) rfl (by simp) (M.W [some 0,some 1]) ?_ ?_
 .intro m hm hP;(repeat' first|refine M.gw ?_|fail);refine L.ix m (cs:=[.i L0[m].1,.i L0[m].2]) rfl rfl rfl rfl rfl (by rw[hlm];exact hm) (by simp[SL.get,hm]) rfl rfl ?_;by_cases e:L0[m].1=a/\L0[m].2=b
  .have em:(a,b)∈L0:=by
    have:L0[m]=(a,b):=Prod.ext e.1 e.2;exact this▸Wi hm
   rw[decide_eq_true em];(repeat' first|refine M.gw ?_|refine M.bp 3 ?_|refine M.cs ?_ ?_<;>intro h|fail);all_goals first
    |rfl
    |(exfalso;simp[e.1,e.2] at h;done)
    |trace_state
  .repeat' (first|refine M.gw ?_|refine M.bp 3 ?_|refine M.cs ?_ ?_<;>intro h|fail)
   all_goals first
    |(exfalso;simp at h;exact e h)
    |skip
   refine⟨rfl,fun hc=> ?_,(M.W [some 0,some 1])⟩;rw[Xj hm,WH] at hc;rcases hc with hc|hc
   .exact hP hc
   .simp only[WN] at hc;exact e ⟨by rw[<-hc],by rw[<-hc]⟩
 .intro hP;rw[Wp] at hP;rw[decide_eq_false hP];(repeat' first|refine M.gw ?_|fail)
  rfl
theorem L8(p:Pf)(t:Tm)(hp:p.full<274877906944)(ht:t.full<274877906944):PC E 171 [.agg p.view,.i 0,.agg t.view] (.AD [.agg (w9 p 0 t).view,.i (yu p 0 t)]):=Ygl p 0 t hp ht
theorem Wh(p q:Pf)(hp:p.full<274877906944)(hq:q.full<274877906944):PC E 170 [.agg p.view,.i 0,.agg q.view] (.AD [.agg (DY p 0 q).view,.i (wz p 0 q)]):=Ydo p 0 q hp hq
theorem Ydb(t:Tm)(ht:t.full<274877906944):PC E 174 [.agg t.view,.i 0,.i 1] (.AD [.agg (D7 t).view,.i (yx t 0 1)]):=Znr t 0 1 ht
theorem VB(p:Pf)(t:Tm):PC E 173 [.agg p.view,.agg t.view] (.agg (vq p t).view):=by
 refine M.F Tryz.func173 ?_;(repeat' first|refine M.gw ?_|fail)
 rfl
theorem M0(q:Pf)(t:Tm)(p:Pf)(hq:q.full<100000000000)(ht:t.full<100000000000)(hp:p.full<100000000000)(hx:(w9 q 0 t).full<100000000000):
 PC E 172 [.agg q.view,.agg t.view,.agg p.view] (.AD [.agg (wd q t p).1.view,.i (wd q t p).2]):=by
 have h1:=L8 q t (by omega) (by omega);have h2:=Wh (w9 q 0 t) p (by omega) (by omega);unfold wd;by_cases e:yu q 0 t=0
 .rw[if_neg (by simp[e])];rw[e] at h1;refine M.F Tryz.func172 ?_;(repeat' first|refine M.gw ?_|refine M.c2 (h1) ?_|refine M.c2 (h2) ?_|fail)
  rfl
 .rw[if_pos e];generalize w9 q 0 t=X at*;refine M.F Tryz.func172 ?_;(repeat' first|refine M.gw ?_|refine M.c2 (h1) ?_|refine M.cs ?_ ?_<;>intro h|fail);all_goals first
   |rfl
   |(exfalso;simp at h;exact e h)
   |trace_state
theorem Yhm{i i2:Int}{s s2:Ty}{ts ts2:List Tm}{fs fs2:List Fm}{a b:Pf}{rest rest2:List Pf}:
 PC E 132 [.agg (Pf.mk 4 i s ts fs (Pf.mk 3 i2 s2 ts2 fs2 (a::b::rest2)::rest)).view] (.AD [.agg a.view,.i 0]):=by
 have hof:=uh (Pf.mk 4 i s ts fs (Pf.mk 3 i2 s2 ts2 fs2 (a::b::rest2)::rest)) (fun h=>by simp at h);rw[show z7 (Pf.mk 4 i s ts fs (Pf.mk 3 i2 s2 ts2 fs2 (a::b::rest2)::rest))=(4,3) from rfl] at hof;refine M.F Tryz.func132 ?_;(repeat' first|refine M.gw ?_|refine M.bp 3 ?_|refine M.c2 (hof) ?_|refine M.bl ?_|fail);all_goals first
  |rfl
  |trace_state
theorem Yf2{i i2:Int}{s s2:Ty}{ts ts2:List Tm}{fs fs2:List Fm}{a b:Pf}{rest rest2:List Pf}:
 PC E 132 [.agg (Pf.mk 5 i s ts fs (Pf.mk 3 i2 s2 ts2 fs2 (a::b::rest2)::rest)).view] (.AD [.agg b.view,.i 0]):=by
 have hof:=uh (Pf.mk 5 i s ts fs (Pf.mk 3 i2 s2 ts2 fs2 (a::b::rest2)::rest)) (fun h=>by simp at h);rw[show z7 (Pf.mk 5 i s ts fs (Pf.mk 3 i2 s2 ts2 fs2 (a::b::rest2)::rest))=(5,3) from rfl] at hof;refine M.F Tryz.func132 ?_;(repeat' first|refine M.gw ?_|refine M.bp 3 ?_|refine M.c2 (hof) ?_|refine M.bl ?_|fail);all_goals first
  |rfl
  |trace_state
theorem Yjp{i i2:Int}{s s2:Ty}{ts ts2:List Tm}{fs fs2:List Fm}{a b:Pf}{rest rest2:List Pf}(ha:a.full<100000000000)(hb:b.full<100000000000):
 PC E 132 [.agg (Pf.mk 7 i s ts fs (Pf.mk 6 i2 s2 ts2 fs2 (a::rest2)::b::rest)).view] (.AD [.agg (DY a 0 b).view,.i (wz a 0 b)]):=by
 have hof:=uh (Pf.mk 7 i s ts fs (Pf.mk 6 i2 s2 ts2 fs2 (a::rest2)::b::rest)) (fun h=>by simp at h);rw[show z7 (Pf.mk 7 i s ts fs (Pf.mk 6 i2 s2 ts2 fs2 (a::rest2)::b::rest))=(7,6) from rfl] at hof;have c1:=Wh a b (by omega) (by omega);refine M.F Tryz.func132 ?_;(repeat' first|refine M.gw ?_|refine M.bp 3 ?_|refine M.c2 (hof) ?_|refine M.c2 (c1) ?_|refine M.bl ?_|fail);all_goals first
  |rfl
  |trace_state
theorem Yj0{i i2:Int}{s s2:Ty}{t:Tm}{ts ts2:List Tm}{fs fs2:List Fm}{a:Pf}{rest rest2:List Pf}(ha:a.full<100000000000)(ht:t.full<100000000000):
 PC E 132 [.agg (Pf.mk 9 i s (t::ts) fs (Pf.mk 8 i2 s2 ts2 fs2 (a::rest2)::rest)).view] (.AD [.agg (w9 a 0 t).view,.i (yu a 0 t)]):=by
 have hof:=uh (Pf.mk 9 i s (t::ts) fs (Pf.mk 8 i2 s2 ts2 fs2 (a::rest2)::rest)) (fun h=>by simp at h);rw[show z7 (Pf.mk 9 i s (t::ts) fs (Pf.mk 8 i2 s2 ts2 fs2 (a::rest2)::rest))=(9,8) from rfl] at hof;have c1:=L8 a t (by omega) (by omega);refine M.F Tryz.func132 ?_;(repeat' first|refine M.gw ?_|refine M.bp 3 ?_|refine M.c2 (hof) ?_|refine M.c2 (c1) ?_|refine M.bl ?_|fail);all_goals first
  |rfl
  |trace_state
theorem Yhi{i i2:Int}{s s2:Ty}{t:Tm}{ts ts2:List Tm}{fs fs2:List Fm}{a:Pf}{rest rest2:List Pf}(ha:a.full<100000000000)(ht:t.full<100000000000):
 PC E 132 [.agg (Pf.mk 13 i s (t::ts) fs (Pf.mk 12 i2 s2 ts2 fs2 (a::rest2)::rest)).view] (.AD [.agg (w9 a 0 t).view,.i (yu a 0 t)]):=by
 have hof:=uh (Pf.mk 13 i s (t::ts) fs (Pf.mk 12 i2 s2 ts2 fs2 (a::rest2)::rest)) (fun h=>by simp at h);rw[show z7 (Pf.mk 13 i s (t::ts) fs (Pf.mk 12 i2 s2 ts2 fs2 (a::rest2)::rest))=(13,12) from rfl] at hof;have c1:=L8 a t (by omega) (by omega);refine M.F Tryz.func132 ?_;(repeat' first|refine M.gw ?_|refine M.bp 3 ?_|refine M.c2 (hof) ?_|refine M.c2 (c1) ?_|refine M.bl ?_|fail);all_goals first
  |rfl
  |trace_state
theorem Oh{i i2:Int}{s s2:Ty}{t:Tm}{ts ts2:List Tm}{fs fs2:List Fm}{a b:Pf}{rest rest2:List Pf}(ha:a.full<100000000000)(hb:b.full<100000000000)(ht:t.full<100000000000)(hx:(w9 b 0 t).full<100000000000):
 PC E 132 [.agg (Pf.mk 11 i s ts fs (Pf.mk 10 i2 s2 (t::ts2) fs2 (a::rest2)::b::rest)).view] (.AD [.agg (wd b t a).1.view,.i (wd b t a).2]):=by
 have hof:=uh (Pf.mk 11 i s ts fs (Pf.mk 10 i2 s2 (t::ts2) fs2 (a::rest2)::b::rest)) (fun h=>by simp at h);rw[show z7 (Pf.mk 11 i s ts fs (Pf.mk 10 i2 s2 (t::ts2) fs2 (a::rest2)::b::rest))=(11,10) from rfl] at hof;have c1:=M0 b t a hb ht ha hx;refine M.F Tryz.func132 ?_;(repeat' first|refine M.gw ?_|refine M.bp 3 ?_|refine M.c2 (hof) ?_|refine M.c2 (c1) ?_|refine M.bl ?_|fail);all_goals first
  |rfl
  |trace_state
theorem Yj9{i i2:Int}{s s2:Ty}{t:Tm}{ts ts2:List Tm}{fs fs2:List Fm}{a b:Pf}{rest rest2:List Pf}(ha:a.full<100000000000)(hb:b.full<100000000000)(ht:t.full<100000000000)(hx:(w9 b 0 t).full<100000000000):
 PC E 132 [.agg (Pf.mk 15 i s ts fs (Pf.mk 14 i2 s2 (t::ts2) fs2 (a::rest2)::b::rest)).view] (.AD [.agg (wd b t a).1.view,.i (wd b t a).2]):=by
 have hof:=uh (Pf.mk 15 i s ts fs (Pf.mk 14 i2 s2 (t::ts2) fs2 (a::rest2)::b::rest)) (fun h=>by simp at h);rw[show z7 (Pf.mk 15 i s ts fs (Pf.mk 14 i2 s2 (t::ts2) fs2 (a::rest2)::b::rest))=(15,14) from rfl] at hof;have c1:=M0 b t a hb ht ha hx;refine M.F Tryz.func132 ?_;(repeat' first|refine M.gw ?_|refine M.bp 3 ?_|refine M.c2 (hof) ?_|refine M.c2 (c1) ?_|refine M.bl ?_|fail);all_goals first
  |rfl
  |trace_state
theorem Yh2{i i2:Int}{s s2:Ty}{ts ts2:List Tm}{fs:List Fm}{a:Pf}{rest:List Pf}:
 PC E 132 [.agg (Pf.mk 16 i s (Tm.mk 4 i2 s2 ts2::ts) fs (a::rest)).view] (.AD [.agg a.view,.i 0]):=by
 have hof:=uh (Pf.mk 16 i s (Tm.mk 4 i2 s2 ts2::ts) fs (a::rest)) (fun h=>by simp);rw[show z7 (Pf.mk 16 i s (Tm.mk 4 i2 s2 ts2::ts) fs (a::rest))=(16,4) from rfl] at hof;refine M.F Tryz.func132 ?_;(repeat' first|refine M.gw ?_|refine M.bp 3 ?_|refine M.c2 (hof) ?_|refine M.bl ?_|fail);all_goals first
  |rfl
  |trace_state
theorem Yj4{i i2:Int}{s s2:Ty}{ts ts2:List Tm}{fs:List Fm}{a:Pf}{rest:List Pf}:
 PC E 132 [.agg (Pf.mk 17 i s (Tm.mk 7 i2 s2 ts2::ts) fs (a::rest)).view] (.AD [.agg a.view,.i 0]):=by
 have hof:=uh (Pf.mk 17 i s (Tm.mk 7 i2 s2 ts2::ts) fs (a::rest)) (fun h=>by simp);rw[show z7 (Pf.mk 17 i s (Tm.mk 7 i2 s2 ts2::ts) fs (a::rest))=(17,7) from rfl] at hof;refine M.F Tryz.func132 ?_;(repeat' first|refine M.gw ?_|refine M.bp 3 ?_|refine M.c2 (hof) ?_|refine M.bl ?_|fail);all_goals first
  |rfl
  |trace_state
theorem Yhp{i i2:Int}{s s2:Ty}{t:Tm}{ts ts2:List Tm}{fs:List Fm}{a b:Pf}{rest:List Pf}(hp:(vq (Pf.mk 16 i s (Tm.mk 5 i2 s2 (t::ts2)::ts) fs (a::b::rest)) t).full<100000000000)(hb:b.full<100000000000)(ht:t.full<100000000000)(hx:(w9 b 0 t).full<100000000000):
 PC E 132 [.agg (Pf.mk 16 i s (Tm.mk 5 i2 s2 (t::ts2)::ts) fs (a::b::rest)).view] (.AD [.agg (wd b t (vq (Pf.mk 16 i s (Tm.mk 5 i2 s2 (t::ts2)::ts) fs (a::b::rest)) t)).1.view,.i (wd b t (vq (Pf.mk 16 i s (Tm.mk 5 i2 s2 (t::ts2)::ts) fs (a::b::rest)) t)).2]):=by
 have hof:=uh (Pf.mk 16 i s (Tm.mk 5 i2 s2 (t::ts2)::ts) fs (a::b::rest)) (fun h=>by simp);rw[show z7 (Pf.mk 16 i s (Tm.mk 5 i2 s2 (t::ts2)::ts) fs (a::b::rest))=(16,5) from rfl] at hof;have c1:=VB (Pf.mk 16 i s (Tm.mk 5 i2 s2 (t::ts2)::ts) fs (a::b::rest)) t;have c2:=M0 b t (vq (Pf.mk 16 i s (Tm.mk 5 i2 s2 (t::ts2)::ts) fs (a::b::rest)) t) hb ht hp hx;generalize vq (Pf.mk 16 i s (Tm.mk 5 i2 s2 (t::ts2)::ts) fs (a::b::rest)) t=A at*;refine M.F Tryz.func132 ?_;(repeat' first|refine M.gw ?_|refine M.bp 3 ?_|refine M.c2 (hof) ?_|refine M.c2 (c1) ?_|refine M.c2 (c2) ?_|refine M.bl ?_|fail);all_goals first
  |rfl
  |trace_state
theorem Ygq{i i2:Int}{s s2:Ty}{h l:Tm}{ts ts2:List Tm}{fs:List Fm}{a b:Pf}{rest:List Pf}
 (hp:(vq (Pf.mk 17 i s (Tm.mk 8 i2 s2 (h::l::ts2)::ts) fs (a::b::rest)) l).full<100000000000) (hb:b.full<100000000000) (hh:h.full<100000000000) (hl:l.full<100000000000) (hl1:(D7 l).full<100000000000)
 (hx:(w9 b 0 (D7 l)).full<100000000000) (hy:(w9 (w9 b 0 (D7 l)) 0 h).full<100000000000):
 PC E 132 [.agg (Pf.mk 17 i s (Tm.mk 8 i2 s2 (h::l::ts2)::ts) fs (a::b::rest)).view]
  (.AD [.agg (Gr (Pf.mk 17 i s (Tm.mk 8 i2 s2 (h::l::ts2)::ts) fs (a::b::rest)) h l).1.view,.i (Gr (Pf.mk 17 i s (Tm.mk 8 i2 s2 (h::l::ts2)::ts) fs (a::b::rest)) h l).2]):=by
 have hof:=uh (Pf.mk 17 i s (Tm.mk 8 i2 s2 (h::l::ts2)::ts) fs (a::b::rest)) (fun h=>by simp);rw[show z7 (Pf.mk 17 i s (Tm.mk 8 i2 s2 (h::l::ts2)::ts) fs (a::b::rest))=(17,8) from rfl] at hof;have c1:=Ydb l (by omega);have c2:=L8 b (D7 l) (by omega) (by omega);have c3:=VB (Pf.mk 17 i s (Tm.mk 8 i2 s2 (h::l::ts2)::ts) fs (a::b::rest)) l;have c4:=M0 (w9 b 0 (D7 l)) h _ hx hh hp hy;unfold Gr;rw[show(Pf.mk 17 i s (Tm.mk 8 i2 s2 (h::l::ts2)::ts) fs (a::b::rest)).arg 1=b from rfl];generalize vq (Pf.mk 17 i s (Tm.mk 8 i2 s2 (h::l::ts2)::ts) fs (a::b::rest)) l=A at*;by_cases e1:yx l 0 1=0;case neg=>
  rw[if_pos e1];refine M.F Tryz.func132 ?_;(repeat' first|refine M.gw ?_|refine M.bp 3 ?_|refine M.c2 (hof) ?_|refine M.c2 (c1) ?_|refine M.bl ?_|refine M.cs ?_ ?_<;>intro h|fail);all_goals first
   |rfl
   |(exfalso;simp at h;exact e1 h)
   |(exfalso;rename_i hq;simp at hq;exact e1 hq)
   |trace_state
 rw[if_neg (by simp[e1])];rw[e1] at c1;generalize D7 l=ll at*;by_cases e2:yu b 0 ll=0;case neg=>
  rw[if_pos e2];generalize w9 b 0 ll=X at*;refine M.F Tryz.func132 ?_;(repeat' first|refine M.gw ?_|refine M.bp 3 ?_|refine M.c2 (hof) ?_|refine M.c2 (c1) ?_|refine M.c2 (c2) ?_|refine M.bl ?_|refine M.cs ?_ ?_<;>intro h|fail);all_goals first
   |rfl
   |(exfalso;simp at h;exact e2 h)
   |trace_state
 rw[if_neg (by simp[e2])];rw[e2] at c2;generalize w9 b 0 ll=X at*;generalize wd X h A=Y at*;refine M.F Tryz.func132 ?_;(repeat' first|refine M.gw ?_|refine M.bp 3 ?_|refine M.c2 (hof) ?_|refine M.c2 (c1) ?_|refine M.c2 (c2) ?_|refine M.c2 (c3) ?_|refine M.c2 (c4) ?_|refine M.bl ?_|fail)
 rfl
theorem Co{α:Type}{l:List α}(h:l.length=1):∃a,l=[a]:=List.length_eq_one_iff.1 h
theorem D4{α:Type}{l:List α}(h:l.length=2):∃a b,l=[a,b]:=by
 match l,h with
 |[a,b],_=>exact⟨a,b,rfl⟩
theorem z5{p:Pf}{k:Int}{nd:Nd}(hs:p.shape=true)(hk:p.kind=k)(hn:BD k=some nd):p.terms.length=nd.terms/\p.Ac.length=nd.Ac/\p.args.length=nd.args:=by
 obtain⟨hh,_⟩:=ze hs;obtain⟨nd',n1,n2,n3,n4,_⟩:=F2 hh;rw[hk,hn] at n1;obtain rfl:=W6 n1;exact⟨n2,n3,n4⟩
theorem HL{t:Tm}{k:Int}{n:Nat}(hs:t.shape=true)(hk:t.kind=k)(hn:CX k=some n):t.args.length=n:=by
 rw[Tm.Al,Wk] at hs;have h:=hs.1;unfold Tm.head at h;rw[hk,hn] at h;simp only[Wk,beq_iff_eq] at h;exact h.1.1.1
theorem w6{p:Pf}{k u:Int}(h:z7 p=(k,u))(hk:¬(k=16\/k=17))(hu:u≠0):p.kind=k/\0<p.args.length/\(p.arg 0).kind=u:=by
 have h1:p.kind=k:=by rw[<-Kn,h]
 have h2:¬(p.kind=16\/p.kind=17):=by rw[h1];exact hk
 by_cases h0:0<p.args.length
 .rw[Mj h2 h0] at h;exact⟨h1,h0,(Yt h).2⟩
 .rw[QD h2 h0] at h;exact absurd (Yt h).2.symm hu
theorem HJ{p:Pf}{k u:Int}(h:z7 p=(k,u))(hk:k=16\/k=17):p.kind=k/\p.EE.kind=u:=by
 have h1:p.kind=k:=by rw[<-Kn,h]
 rw[QH (by rw[h1];exact hk)] at h;exact⟨h1,(Yt h).2⟩
theorem UY(p:Pf)(t:Tm):(vq p t).full<=p.full+t.full:=by
 rw[Pf.Af,p.Af];simp[vq];omega
theorem Zr1(t:Tm):(D7 t).full<=t.full+10:=by
 unfold D7;split
 .exact W8 (Tm.Dl (fun i c=>by simp[zx,Tm.full,Tm.Au,Ty.size,Ty.sizes]) t 0) (by omega)
 .have:A4.full<=10:=by decide
  omega
theorem Yfh{p:Pf}(hs:p.shape=true)(hf:p.full<1000000000)(hc:z7 p=(4,3)):PC E 132 [.agg p.view] (.AD [.agg (zj p).1.view,.i (zj p).2]):=by
 obtain⟨h1,h2,h3⟩:=w6 hc (by decide) (by decide);obtain⟨l1,_,l3⟩:=z5 hs h1 (nd:=⟨0,0,1,false,false⟩) (by rfl);obtain⟨_,_,_,s6⟩:=ze hs;obtain⟨k,i,s,ts,fs,zs⟩:=p;simp only[Pf.Ai,Pf.Ah,Pf.Ak,Pf.Ae] at h1 h2 h3 l1 l3 s6;subst h1;obtain⟨z,rfl⟩:=Co l3;have hz:z.kind=3:=h3;have sz:=s6 z (by simp);obtain⟨m1,_,m3⟩:=z5 sz hz (nd:=⟨0,0,2,false,false⟩) (by rfl);obtain⟨k2,i2,s2,ts2,fs2,zs2⟩:=z;simp only[Pf.Ai,Pf.Ah,Pf.Ak,Pf.Ae] at hz m1 m3;subst hz;obtain⟨a,a2,rfl⟩:=D4 m3;rw[show zj _=(a,0) by unfold zj;rw[hc];rfl];simp only[Pf.Af,Pf.Ah,Pf.Ak,Pf.Ae,Wn,WI,Wt,WU] at hf;exact Yhm
theorem Yfg{p:Pf}(hs:p.shape=true)(hf:p.full<1000000000)(hc:z7 p=(5,3)):PC E 132 [.agg p.view] (.AD [.agg (zj p).1.view,.i (zj p).2]):=by
 obtain⟨h1,h2,h3⟩:=w6 hc (by decide) (by decide);obtain⟨l1,_,l3⟩:=z5 hs h1 (nd:=⟨0,0,1,false,false⟩) (by rfl);obtain⟨_,_,_,s6⟩:=ze hs;obtain⟨k,i,s,ts,fs,zs⟩:=p;simp only[Pf.Ai,Pf.Ah,Pf.Ak,Pf.Ae] at h1 h2 h3 l1 l3 s6;subst h1;obtain⟨z,rfl⟩:=Co l3;have hz:z.kind=3:=h3;have sz:=s6 z (by simp);obtain⟨m1,_,m3⟩:=z5 sz hz (nd:=⟨0,0,2,false,false⟩) (by rfl);obtain⟨k2,i2,s2,ts2,fs2,zs2⟩:=z;simp only[Pf.Ai,Pf.Ah,Pf.Ak,Pf.Ae] at hz m1 m3;subst hz;obtain⟨a,a2,rfl⟩:=D4 m3;rw[show zj _=(a2,0) by unfold zj;rw[hc];rfl];simp only[Pf.Af,Pf.Ah,Pf.Ak,Pf.Ae,Wn,WI,Wt,WU] at hf;exact Yf2
theorem Yil{p:Pf}(hs:p.shape=true)(hf:p.full<1000000000)(hc:z7 p=(7,6)):PC E 132 [.agg p.view] (.AD [.agg (zj p).1.view,.i (zj p).2]):=by
 obtain⟨h1,h2,h3⟩:=w6 hc (by decide) (by decide);obtain⟨l1,_,l3⟩:=z5 hs h1 (nd:=⟨0,0,2,false,false⟩) (by rfl);obtain⟨_,_,_,s6⟩:=ze hs;obtain⟨k,i,s,ts,fs,zs⟩:=p;simp only[Pf.Ai,Pf.Ah,Pf.Ak,Pf.Ae] at h1 h2 h3 l1 l3 s6;subst h1;obtain⟨z,b,rfl⟩:=D4 l3;have hz:z.kind=6:=h3;have sz:=s6 z (by simp);obtain⟨m1,_,m3⟩:=z5 sz hz (nd:=⟨0,1,1,false,false⟩) (by rfl);obtain⟨k2,i2,s2,ts2,fs2,zs2⟩:=z;simp only[Pf.Ai,Pf.Ah,Pf.Ak,Pf.Ae] at hz m1 m3;subst hz;obtain⟨a,rfl⟩:=Co m3;rw[show zj _=(DY a 0 b,wz a 0 b) by unfold zj;rw[hc];rfl];simp only[Pf.Af,Pf.Ah,Pf.Ak,Pf.Ae,Wn,WI,Wt,WU] at hf;exact Yjp (by rw[Pf.Af];omega) (by rw[Pf.Af];omega)
theorem Ygo{p:Pf}(hs:p.shape=true)(hf:p.full<1000000000)(hc:z7 p=(9,8)):PC E 132 [.agg p.view] (.AD [.agg (zj p).1.view,.i (zj p).2]):=by
 obtain⟨h1,h2,h3⟩:=w6 hc (by decide) (by decide);obtain⟨l1,_,l3⟩:=z5 hs h1 (nd:=⟨1,0,1,false,false⟩) (by rfl);obtain⟨_,_,_,s6⟩:=ze hs;obtain⟨k,i,s,ts,fs,zs⟩:=p;simp only[Pf.Ai,Pf.Ah,Pf.Ak,Pf.Ae] at h1 h2 h3 l1 l3 s6;subst h1;obtain⟨z,rfl⟩:=Co l3;have hz:z.kind=8:=h3;have sz:=s6 z (by simp);obtain⟨t,rfl⟩:=Co l1;obtain⟨m1,_,m3⟩:=z5 sz hz (nd:=⟨0,0,1,false,true⟩) (by rfl);obtain⟨k2,i2,s2,ts2,fs2,zs2⟩:=z;simp only[Pf.Ai,Pf.Ah,Pf.Ak,Pf.Ae] at hz m1 m3;subst hz;obtain⟨a,rfl⟩:=Co m3;rw[show zj _=(w9 a 0 t,yu a 0 t) by unfold zj;rw[hc];rfl];simp only[Pf.Af,Pf.Ah,Pf.Ak,Pf.Ae,Wn,WI,Wt,WU] at hf;exact Yj0 (by rw[Pf.Af];omega) (by omega)
theorem Yff{p:Pf}(hs:p.shape=true)(hf:p.full<1000000000)(hc:z7 p=(13,12)):PC E 132 [.agg p.view] (.AD [.agg (zj p).1.view,.i (zj p).2]):=by
 obtain⟨h1,h2,h3⟩:=w6 hc (by decide) (by decide);obtain⟨l1,_,l3⟩:=z5 hs h1 (nd:=⟨1,0,1,false,false⟩) (by rfl);obtain⟨_,_,_,s6⟩:=ze hs;obtain⟨k,i,s,ts,fs,zs⟩:=p;simp only[Pf.Ai,Pf.Ah,Pf.Ak,Pf.Ae] at h1 h2 h3 l1 l3 s6;subst h1;obtain⟨z,rfl⟩:=Co l3;have hz:z.kind=12:=h3;have sz:=s6 z (by simp);obtain⟨t,rfl⟩:=Co l1;obtain⟨m1,_,m3⟩:=z5 sz hz (nd:=⟨0,0,1,false,true⟩) (by rfl);obtain⟨k2,i2,s2,ts2,fs2,zs2⟩:=z;simp only[Pf.Ai,Pf.Ah,Pf.Ak,Pf.Ae] at hz m1 m3;subst hz;obtain⟨a,rfl⟩:=Co m3;rw[show zj _=(w9 a 0 t,yu a 0 t) by unfold zj;rw[hc];rfl];simp only[Pf.Af,Pf.Ah,Pf.Ak,Pf.Ae,Wn,WI,Wt,WU] at hf;exact Yhi (by rw[Pf.Af];omega) (by omega)
theorem Yji{p:Pf}(hs:p.shape=true)(hf:p.full<1000000000)(hc:z7 p=(11,10)):PC E 132 [.agg p.view] (.AD [.agg (zj p).1.view,.i (zj p).2]):=by
 obtain⟨h1,h2,h3⟩:=w6 hc (by decide) (by decide);obtain⟨l1,_,l3⟩:=z5 hs h1 (nd:=⟨0,0,2,false,false⟩) (by rfl);obtain⟨_,_,_,s6⟩:=ze hs;obtain⟨k,i,s,ts,fs,zs⟩:=p;simp only[Pf.Ai,Pf.Ah,Pf.Ak,Pf.Ae] at h1 h2 h3 l1 l3 s6;subst h1;obtain⟨z,b,rfl⟩:=D4 l3;have hz:z.kind=10:=h3;have sz:=s6 z (by simp);obtain⟨m1,_,m3⟩:=z5 sz hz (nd:=⟨1,1,1,false,false⟩) (by rfl);obtain⟨k2,i2,s2,ts2,fs2,zs2⟩:=z;simp only[Pf.Ai,Pf.Ah,Pf.Ak,Pf.Ae] at hz m1 m3;subst hz;obtain⟨a,rfl⟩:=Co m3;obtain⟨t,rfl⟩:=Co m1;rw[show zj _=wd b t a by unfold zj;rw[hc];rfl];simp only[Pf.Af,Pf.Ah,Pf.Ak,Pf.Ae,Wn,WI,Wt,WU] at hf;exact Oh (by rw[Pf.Af];omega) (by rw[Pf.Af];omega) (by omega) (by have:=x6 b 0 t;omega)
theorem Yif{p:Pf}(hs:p.shape=true)(hf:p.full<1000000000)(hc:z7 p=(15,14)):PC E 132 [.agg p.view] (.AD [.agg (zj p).1.view,.i (zj p).2]):=by
 obtain⟨h1,h2,h3⟩:=w6 hc (by decide) (by decide);obtain⟨l1,_,l3⟩:=z5 hs h1 (nd:=⟨0,0,2,false,false⟩) (by rfl);obtain⟨_,_,_,s6⟩:=ze hs;obtain⟨k,i,s,ts,fs,zs⟩:=p;simp only[Pf.Ai,Pf.Ah,Pf.Ak,Pf.Ae] at h1 h2 h3 l1 l3 s6;subst h1;obtain⟨z,b,rfl⟩:=D4 l3;have hz:z.kind=14:=h3;have sz:=s6 z (by simp);obtain⟨m1,_,m3⟩:=z5 sz hz (nd:=⟨1,1,1,false,false⟩) (by rfl);obtain⟨k2,i2,s2,ts2,fs2,zs2⟩:=z;simp only[Pf.Ai,Pf.Ah,Pf.Ak,Pf.Ae] at hz m1 m3;subst hz;obtain⟨a,rfl⟩:=Co m3;obtain⟨t,rfl⟩:=Co m1;rw[show zj _=wd b t a by unfold zj;rw[hc];rfl];simp only[Pf.Af,Pf.Ah,Pf.Ak,Pf.Ae,Wn,WI,Wt,WU] at hf;exact Yj9 (by rw[Pf.Af];omega) (by rw[Pf.Af];omega) (by omega) (by have:=x6 b 0 t;omega)
theorem Yez{p:Pf}(hs:p.shape=true)(hf:p.full<1000000000)(hc:z7 p=(16,4)):PC E 132 [.agg p.view] (.AD [.agg (zj p).1.view,.i (zj p).2]):=by
 obtain⟨h1,h3⟩:=HJ hc (by decide);obtain⟨l1,_,l3⟩:=z5 hs h1 (nd:=⟨1,1,2,false,false⟩) (by rfl);obtain⟨_,s4,_,s6⟩:=ze hs;obtain⟨k,i,s,ts,fs,zs⟩:=p;simp only[Pf.Ai,Pf.Ah,Pf.Ak,Pf.Ae] at h1 h3 l1 l3 s4;subst h1;obtain⟨a,b,rfl⟩:=D4 l3;obtain⟨x,rfl⟩:=Co l1;have hx:x.kind=4:=h3;have sx:=s4 x (by simp);have m3:=HL sx hx (n:=0) (by rfl);obtain⟨k2,i2,s2,ts2⟩:=x;simp only[Tm.Ai,Tm.Ae] at hx m3;subst hx;rw[show zj _=(a,0) by unfold zj;rw[hc];rfl];exact Yh2
theorem Yg7{p:Pf}(hs:p.shape=true)(hf:p.full<1000000000)(hc:z7 p=(17,7)):PC E 132 [.agg p.view] (.AD [.agg (zj p).1.view,.i (zj p).2]):=by
 obtain⟨h1,h3⟩:=HJ hc (by decide);obtain⟨l1,_,l3⟩:=z5 hs h1 (nd:=⟨1,1,2,false,false⟩) (by rfl);obtain⟨_,s4,_,s6⟩:=ze hs;obtain⟨k,i,s,ts,fs,zs⟩:=p;simp only[Pf.Ai,Pf.Ah,Pf.Ak,Pf.Ae] at h1 h3 l1 l3 s4;subst h1;obtain⟨a,b,rfl⟩:=D4 l3;obtain⟨x,rfl⟩:=Co l1;have hx:x.kind=7:=h3;have sx:=s4 x (by simp);have m3:=HL sx hx (n:=0) (by rfl);obtain⟨k2,i2,s2,ts2⟩:=x;simp only[Tm.Ai,Tm.Ae] at hx m3;subst hx;rw[show zj _=(a,0) by unfold zj;rw[hc];rfl];exact Yj4
theorem Yef{p:Pf}(hs:p.shape=true)(hf:p.full<1000000000)(hc:z7 p=(16,5)):PC E 132 [.agg p.view] (.AD [.agg (zj p).1.view,.i (zj p).2]):=by
 obtain⟨h1,h3⟩:=HJ hc (by decide);obtain⟨l1,_,l3⟩:=z5 hs h1 (nd:=⟨1,1,2,false,false⟩) (by rfl);obtain⟨_,s4,_,s6⟩:=ze hs;obtain⟨k,i,s,ts,fs,zs⟩:=p;simp only[Pf.Ai,Pf.Ah,Pf.Ak,Pf.Ae] at h1 h3 l1 l3 s4;subst h1;obtain⟨a,b,rfl⟩:=D4 l3;obtain⟨x,rfl⟩:=Co l1;have hx:x.kind=5:=h3;have sx:=s4 x (by simp);have m3:=HL sx hx (n:=1) (by rfl);obtain⟨k2,i2,s2,ts2⟩:=x;simp only[Tm.Ai,Tm.Ae] at hx m3;subst hx;obtain⟨t,rfl⟩:=Co m3;have ha:=UY (Pf.mk 16 i s [Tm.mk 5 i2 s2 [t]] fs [a,b]) t;rw[show zj _=wd b t (vq (Pf.mk 16 i s [Tm.mk 5 i2 s2 [t]] fs [a,b]) t) by unfold zj;rw[hc];rfl];have e1:=Pf.Af (Pf.mk 16 i s [Tm.mk 5 i2 s2 [t]] fs [a,b]);have e2:=Tm.Af (Tm.mk 5 i2 s2 [t]);simp only[Tm.Ae,Pf.Ah,Pf.Ak,Pf.Ae,Wn,WI,Wt,WU] at e1 e2;exact Yhp (by omega) (by omega) (by omega) (by have:=x6 b 0 t;omega)
theorem Yc5{p:Pf}(hs:p.shape=true)(hf:p.full<1000000000)(hc:z7 p=(17,8)):PC E 132 [.agg p.view] (.AD [.agg (zj p).1.view,.i (zj p).2]):=by
 obtain⟨h1,h3⟩:=HJ hc (by decide);obtain⟨l1,_,l3⟩:=z5 hs h1 (nd:=⟨1,1,2,false,false⟩) (by rfl);obtain⟨_,s4,_,s6⟩:=ze hs;obtain⟨k,i,s,ts,fs,zs⟩:=p;simp only[Pf.Ai,Pf.Ah,Pf.Ak,Pf.Ae] at h1 h3 l1 l3 s4;subst h1;obtain⟨a,b,rfl⟩:=D4 l3;obtain⟨x,rfl⟩:=Co l1;have hx:x.kind=8:=h3;have sx:=s4 x (by simp);have m3:=HL sx hx (n:=2) (by rfl);obtain⟨k2,i2,s2,ts2⟩:=x;simp only[Tm.Ai,Tm.Ae] at hx m3;subst hx;obtain⟨t,l,rfl⟩:=D4 m3;have ha:=UY (Pf.mk 17 i s [Tm.mk 8 i2 s2 [t,l]] fs [a,b]) l;rw[show zj _=Gr (Pf.mk 17 i s [Tm.mk 8 i2 s2 [t,l]] fs [a,b]) t l by unfold zj;rw[hc];rfl];have e1:=Pf.Af (Pf.mk 17 i s [Tm.mk 8 i2 s2 [t,l]] fs [a,b]);have e2:=Tm.Af (Tm.mk 8 i2 s2 [t,l]);simp only[Tm.Ae,Pf.Ah,Pf.Ak,Pf.Ae,Wn,WI,Wt,WU] at e1 e2;exact Ygq (by omega) (by omega) (by omega) (by omega) (by have:=Zr1 l;omega) (by have:=x6 b 0 (D7 l);omega) (by have:=x6 (w9 b 0 (D7 l)) 0 t;omega)
theorem Zzw(p:Pf)(hs:p.shape=true)(hf:p.full<1000000000)(hr:xl p=true):PC E 132 [.agg p.view] (.AD [.agg (zj p).1.view,.i (zj p).2]):=by
 have h:=of_decide_eq_true hr;simp only[DV,WE,WS,or_false] at h;rcases h with h|h|h|h|h|h|h|h|h|h|h
 .exact Yfh hs hf h
 .exact Yfg hs hf h
 .exact Yil hs hf h
 .exact Ygo hs hf h
 .exact Yff hs hf h
 .exact Yji hs hf h
 .exact Yif hs hf h
 .exact Yez hs hf h
 .exact Yef hs hf h
 .exact Yg7 hs hf h
 .exact Yc5 hs hf h
end Go.Ab
