/- A part of the proofs of this seat. No conditions. -/
import Derived.Test.YtjgokiomgcfclaaGreatDoorS3
namespace Go.Ab
open Go Go.Proofs
set_option maxRecDepth 100000
set_option maxHeartbeats 4000000
set_option linter.all false
def I6(t:Tm)(o:Option (Tm×Bool)):V:= .At [.agg ((o.map (·.1)).getD t).view,.bool o.isSome,.bool ((o.map (·.2)).getD true)]
theorem Yjj(room:Int):∀(n:Nat) (t:Tm),t.size<=n->t.shape=true->t.size<=4096->(∀p∈t.vars 0,0<=p.1/\p.1<1073741824)->PC E 224 [.agg t.view,.i room] (I6 t (Db room t)):=by
 intro n;induction n with
 |zero=>intro t h;have:=t.size_pos;omega
 |succ n ih=>
 intro t hsz hs hz hix;have hfull:=yy t hs;have hse:=t.size_eq;have hlen:=zg Tm.size Tm.size_pos t.args;have h1:=Yl3 t hs;have he:=GZ room t;by_cases hr:un t=true
 ·have h2:=Yhi (La hs hr) hs hz;rw[hr] at h1;rw[if_pos hr] at he;by_cases hg:FY t>room
  ·rw[if_pos hg] at he;rw[he];refine AC.mk Tryz.func224 rfl rfl rfl rfl rfl (Nat.le_of_ble_eq_true rfl) ?_;repeat'(first|((with_reducible refine D.nil ?_);refine AX.A5 ?_)|((with_reducible refine D.load ?_);refine L.C4 U U U U U U ?_)|((with_reducible refine D.move ?_);refine L.mv U U U ?_)|((with_reducible refine D.assign ?_);refine L.Cu U U U ?_)|((with_reducible refine D.bin ?_);refine L.bn U U U U U ?_)|((with_reducible refine D.call ?_);first|refine L.c2 (h1) U U U U ?_|refine L.c2 (h2) U U U U ?_)|((with_reducible refine D.box ?_);refine L.bx U U U U ?_)|((with_reducible refine D.alloc ?_);refine L.al U U U ?_)|((with_reducible refine D.store ?_);refine L.st U U U U U U U U U ?_)|((with_reducible refine D.ax ?_);refine L.bd U U U U U ?_)|((with_reducible refine D.aw ?_);first|refine K.sq (AW.AN ?_)|refine K.sq (K.sq ?_)|refine AW.AN ?_|refine AW.BK U ?_|refine AW.Cz U (fun h=> ?_) (fun h=> ?_)|refine AW.skip ?_|refine AW.ret ?_)|with_reducible refine K.tN ?_|with_reducible refine K.tR ?_|with_reducible refine K.r1 (by with_unfolding_all rfl) (by with_unfolding_all rfl) ?_)
   all_goals first
    |rfl
    |(exfalso;simp at h;omega)
  ·rw[if_neg hg] at he;rw[he];have h3:=Ylv (La hs hr) hs hz hix;refine AC.mk Tryz.func224 rfl rfl rfl rfl rfl (Nat.le_of_ble_eq_true rfl) ?_;repeat'(first|((with_reducible refine D.nil ?_);refine AX.A5 ?_)|((with_reducible refine D.load ?_);refine L.C4 U U U U U U ?_)|((with_reducible refine D.move ?_);refine L.mv U U U ?_)|((with_reducible refine D.assign ?_);refine L.Cu U U U ?_)|((with_reducible refine D.bin ?_);refine L.bn U U U U U ?_)|((with_reducible refine D.call ?_);first|refine L.c2 (h1) U U U U ?_|refine L.c2 (h2) U U U U ?_|refine L.c2 (h3) U U U U ?_)|((with_reducible refine D.box ?_);refine L.bx U U U U ?_)|((with_reducible refine D.alloc ?_);refine L.al U U U ?_)|((with_reducible refine D.store ?_);refine L.st U U U U U U U U U ?_)|((with_reducible refine D.ax ?_);refine L.bd U U U U U ?_)|((with_reducible refine D.aw ?_);first|refine K.sq (AW.AN ?_)|refine K.sq (K.sq ?_)|refine AW.AN ?_|refine AW.BK U ?_|refine AW.Cz U (fun h=> ?_) (fun h=> ?_)|refine AW.skip ?_|refine AW.ret ?_)|with_reducible refine K.tN ?_|with_reducible refine K.tR ?_|with_reducible refine K.r1 (by with_unfolding_all rfl) (by with_unfolding_all rfl) ?_)
   all_goals first
    |rfl
    |(exfalso;simp at h;omega)
 rw[if_neg hr] at he;rw[Bool.not_eq_true] at hr;rw[hr] at h1;have hih:∀m (hm:m<t.args.length),PC E 224 [.agg t.args[m].view,.i room] (I6 t.args[m] (Db room t.args[m])):=fun m hm=>by
  have h5:=ze Tm.size (List.getElem_mem hm);exact ih t.args[m] (by omega) (zh hs _ (List.getElem_mem hm)) (by omega) (Of (List.getElem_mem hm) hix)
 clear ih;refine AC.mk Tryz.func224 rfl rfl rfl rfl rfl (Nat.le_of_ble_eq_true rfl) ?_;repeat'(first|((with_reducible refine D.nil ?_);refine AX.A5 ?_)|((with_reducible refine D.load ?_);refine L.C4 U U U U U U ?_)|((with_reducible refine D.move ?_);refine L.mv U U U ?_)|((with_reducible refine D.fieldAddr ?_);refine L.FG U U U U U ?_)|((with_reducible refine D.assign ?_);refine L.Cu U U U ?_)|((with_reducible refine D.call ?_);first|refine L.GK U U U U ?_|refine L.c2 (h1) U U U U ?_)|((with_reducible refine D.box ?_);refine L.bx U U U U ?_)|((with_reducible refine D.alloc ?_);refine L.al U U U ?_)|((with_reducible refine D.aw ?_);first|refine K.sq (AW.AN ?_)|refine K.sq (K.sq ?_)|refine AW.AN ?_|refine AW.BF U ?_|refine AW.skip ?_)|with_reducible refine K.tN ?_)
 refine AW.range t.args.length (fun m=>∀j (hj:j<t.args.length),j<m->Db room t.args[j]=none)
  (fun m=>([(1,.i room),(2,.ptr 0 0),(4,.ptr 1 0),(23,.s .tm t.args),(24,.i t.args.length),(25,.i m)],⟨2,[(0,.var t.view),(1,.var [.i 0,.i 0,.i 0,.slice .nil (.t .ty []),.slice .nil (.t .tm [])])]⟩))
  (by omega) (fun m=>rfl) (fun m=>rfl) U (fun j hj h=>by omega) (Bb.mk [some 0,some 1] _ _ _ U U U U (by(repeat'(first|exact trivial|refine And.intro ?_ ?_|refine⟨_,U,_,U,?_⟩|exact Aj.refl _));done) (by(repeat'(first|exact trivial|refine And.intro ?_ ?_|refine⟨_,U,_,U,_,U,?_⟩|exact Aj.refl _));done)) ?_ ?_
 ·intro m hm hP;have hc:=hih m hm;cases hn:Db room t.args[m] with
  |none=>
   rw[hn] at hc;simp only[I6,Option.map_none,Option.getD_none,Option.isSome_none] at hc;repeat'(first|((with_reducible refine D.nil ?_);refine AX.A5 ?_)|((with_reducible refine D.load ?_);first|refine L.C4 U U U U U U ?_|refine L.GX U U U U U ?_)|((with_reducible refine D.move ?_);refine L.mv U U U ?_)|((with_reducible refine D.assign ?_);refine L.Cu U U U ?_)|((with_reducible refine D.call ?_);refine L.c2 (hc) U U U U ?_)|((with_reducible refine D.extract ?_);refine L.ex U U U U ?_)|((with_reducible refine D.alloc ?_);refine L.al U U U ?_)|((with_reducible refine D.store ?_);refine L.st U U U U U U U U U ?_)|((with_reducible refine D.indexAddr ?_);refine L.Cp _ U U U U U U U (by first|assumption|fail) ?_)|((with_reducible refine D.not ?_);refine L.nt U U U ?_)|((with_reducible refine D.aw ?_);first|refine K.sq (AW.AN ?_)|refine K.sq (K.sq ?_)|refine AW.AN ?_|refine AW.BK U ?_|refine AW.exit ?_)|with_reducible refine K.tN ?_|with_reducible refine K.tE ?_|with_reducible refine K.bX (by with_unfolding_all rfl) ?_)
   exact⟨rfl,yb (p:=fun x:Tm=>Db room x=none) hm hP hn,(Bb.mk [some 0,some 1] _ _ _ U U U U (by(repeat'(first|exact trivial|refine And.intro ?_ ?_|refine⟨_,U,_,U,?_⟩|exact Aj.refl _));done) (by(repeat'(first|exact trivial|refine And.intro ?_ ?_|refine⟨_,U,_,U,_,U,?_⟩|exact Aj.refl _));done))⟩
  |some u=>
   obtain⟨u,f⟩:=u;rw[hn] at hc;simp only[I6,Option.map_some,Option.getD_some,Option.isSome_some] at hc;have e:Db room t=some (.mk t.kind t.index t.ty (t.args.set m u),f):=by rw[he,ZN room t.args m hm (u,f) hn hP];rfl
   rw[e];simp only[I6,Option.map_some,Option.getD_some,Option.isSome_some];repeat'(first|((with_reducible refine D.nil ?_);refine AX.A5 ?_)|((with_reducible refine D.load ?_);first|refine L.C4 U U U U U U ?_|refine L.GX U U U U U ?_)|((with_reducible refine D.move ?_);refine L.mv U U U ?_)|((with_reducible refine D.assign ?_);refine L.Cu U U U ?_)|((with_reducible refine D.call ?_);refine L.c2 (hc) U U U U ?_)|((with_reducible refine D.extract ?_);refine L.ex U U U U ?_)|((with_reducible refine D.alloc ?_);refine L.al U U U ?_)|((with_reducible refine D.store ?_);refine L.st U U U U U U U U U ?_)|((with_reducible refine D.indexAddr ?_);refine L.Cp _ U U U U U U U (by first|assumption|fail) ?_)|((with_reducible refine D.not ?_);refine L.nt U U U ?_)|((with_reducible refine D.aw ?_);(fail_if_success with_reducible refine D.Fc (id:=11) ?_);(fail_if_success with_reducible refine D.E4 (id:=11) ?_);first|refine K.sq (AW.AN ?_)|refine K.sq (K.sq ?_)|refine AW.AN ?_|refine AW.BF U ?_|refine AW.skip ?_)|with_reducible refine K.tN ?_)
   refine K.sq (AW.AN ?_);refine L.FG rfl rfl rfl rfl rfl ?_;refine L.C4 rfl rfl rfl rfl rfl rfl ?_;refine L.O3 (te:=33) rfl rfl rfl rfl (by kernel_rfl) rfl rfl rfl rfl (by omega) (by omega) ?_;repeat'(first|((with_reducible refine D.nil ?_);refine AX.A5 ?_)|((with_reducible refine D.load ?_);refine L.C4 U U U U U U ?_)|((with_reducible refine D.move ?_);refine L.mv U U U ?_)|((with_reducible refine D.fieldAddr ?_);refine L.FG U U U U U ?_)|((with_reducible refine D.store ?_);refine L.st U U U U U U U U U ?_)|((with_reducible refine D.aw ?_);refine K.sq (AW.AN ?_))|with_reducible refine K.tN ?_)
   refine L.DI m rfl rfl rfl rfl rfl hm rfl ?_;refine L.sta (c:= .tm) (l:=t.args) (u:=u) m rfl rfl rfl rfl rfl rfl rfl rfl hm rfl ?_;repeat'(first|((with_reducible refine D.nil ?_);refine AX.A5 ?_)|with_reducible refine K.tN ?_)
   refine AW.BU (c:= .tm) 5 t.args.length (t.args.set m u) U (by simp) (by(repeat'(first|exact trivial|exact fun _=>rfl|exact fun h=>absurd U h|exact fun h=>absurd h (by decide)|refine And.intro ?_ ?_|intro _));done) (by(repeat'(first|exact trivial|exact fun _=>rfl|exact fun h=>absurd U h|exact fun h=>absurd h (by decide)|refine And.intro ?_ ?_|intro _));done) ?_;repeat'(first|((with_reducible refine D.nil ?_);refine AX.A5 ?_)|((with_reducible refine D.load ?_);refine L.C4 U U U U U U ?_)|((with_reducible refine D.move ?_);refine L.mv U U U ?_)|((with_reducible refine D.assign ?_);refine L.Cu U U U ?_)|((with_reducible refine D.store ?_);refine L.st U U U U U U U U U ?_)|((with_reducible refine D.aw ?_);first|refine K.sq (AW.AN ?_)|refine AW.ret ?_)|with_reducible refine K.tN ?_|with_reducible refine K.tR ?_|with_reducible refine K.bR ?_|with_reducible refine K.gR ?_|with_reducible refine K.r1 (by with_unfolding_all rfl) (by with_unfolding_all rfl) ?_)
   rfl
 ·intro hP;have e:Db room t=none:=by rw[he,Zc room t.args hP];rfl
  rw[e];simp only[I6,Option.map_none,Option.getD_none,Option.isSome_none];repeat'(first|((with_reducible refine D.nil ?_);refine AX.A5 ?_)|((with_reducible refine D.load ?_);refine L.C4 U U U U U U ?_)|((with_reducible refine D.assign ?_);refine L.Cu U U U ?_)|((with_reducible refine D.store ?_);refine L.st U U U U U U U U U ?_)|((with_reducible refine D.aw ?_);first|refine K.sq (AW.AN ?_)|refine AW.ret ?_)|with_reducible refine K.tN ?_|with_reducible refine K.r1 (by with_unfolding_all rfl) (by with_unfolding_all rfl) ?_)
  simp[zi,V.wk,V.An,zd,Tm.view]
theorem Zv0(t:Tm):∀b:Int,∀p∈t.vars b,p.2<b+t.size:=by
 induction t using Tm.ind with
 |h t ih=>
  intro b p hp;have hz:=t.size_eq;rw[t.AM,List.mem_append] at hp;rcases hp with hp|hp
  ·split at hp
   ·simp at hp;subst hp;simp only;omega
   ·cases hp
  ·obtain ⟨x,hx,hp⟩:=List.mem_flatMap.1 hp;have h1:=ih x hx _ p hp;have h2:=ze Tm.size hx;have:up t.kind b<=b+1:=by simp only[up];split<;>omega
   omega
theorem Yc9{t:Tm}(he:t.err=0)(hf:∀p∈t.vars 0,p.1-p.2<=536870912):∀p∈t.vars 0,0<=p.1/\p.1<1073741824:=fun p hp=>by
 obtain⟨hs,hz⟩:=xn he;have h1:=t.AB hs 0 p hp;have h2:=hf p hp;have h3:=Zv0 t 0 p hp;omega
theorem Yd8{t:Tm}(h:Db (4096-t.size) t=none)(k n:Nat):Ex k t n=(t,(n:Int),0):=by
 cases k<;>simp only[Ex,h]
theorem Rc(t:Tm)(steps:Int)(ht:t.full<274877906944):PC E 161 [.agg t.view,.i steps] (.At [.agg (wg t steps).1.view,.i (wg t steps).2.1,.i (wg t steps).2.2]):=by
 have h1:=v8 t (by omega);unfold wg;by_cases he:t.err=0;case neg=>
  rw[if_pos he];refine M.F Tryz.func161 ?_;(repeat' first|refine M.go ?_|refine M.c2 (h1) ?_|refine M.z1 4 ?_|refine M.cs ?_ ?_<;>intro h|refine M.gk ?_|fail);all_goals first
   |rfl
   |(exfalso;simp at h;exact he h)
 rw[he] at h1;rw[if_neg (by simp[he])];obtain⟨hs,hz⟩:=xn he;have h2:=OJ 536870912 (by omega) _ t (Nat.le_refl _) (by omega) hs;rw[<-N8] at h2;by_cases hst:0<=steps/\steps<=65536;case neg=>
  rw[if_pos (.inl hst)];refine M.F Tryz.func161 ?_;(repeat' first|refine M.gw ?_|refine M.c2 (h1) ?_|refine M.c2 (h2) ?_|refine M.gs ?_ ?_<;>intro h|refine M.cs ?_ ?_<;>intro h|fail);all_goals first
   |rfl
   |(exfalso;simp at h;omega)
   |(exfalso;simp at*;omega)
 cases hn:t.near with
 |false=>
  rw[hn] at h2;rw[if_pos (.inr rfl)];refine M.F Tryz.func161 ?_;(repeat' first|refine M.gw ?_|refine M.c2 (h1) ?_|refine M.c2 (h2) ?_|refine M.gs ?_ ?_<;>intro h|fail);all_goals first
   |rfl
   |(exfalso;simp at h;omega)
   |(exfalso;simp at*;omega)
 |true=>
 rw[hn] at h2;rw[if_neg (by simp[hst])];have hfr:∀p∈t.vars 0,p.1-p.2<=536870912:=fun p hp=>by have:=O0 hn p hp;have:=vv t 0 p hp;omega
 generalize hR:Ex steps.toNat t 0=r;refine M.F Tryz.func161 ?_;(repeat' first|refine M.gw ?_|refine M.c2 (h1) ?_|refine M.c2 (h2) ?_|refine M.gs ?_ ?_<;>intro h|fail);all_goals first
  |(exfalso;simp at h;omega)
  |skip
 refine AW.block (AW.loop (ι:={p:Tm×Nat // p.1.err=0/\(∀q∈p.1.vars 0,q.1-q.2<=536870912)/\p.2<=steps.toNat/\Ex (steps.toNat-p.2) p.1 p.2=r})
  (fun p=>([(1,.i steps),(2,.ptr 0 0),(4,.ptr 1 0),(8,.i p.1.2)],⟨2,[(0,.var p.1.1.view),(1,.var [.i 0,.i 0,.i 0,.slice .nil (.t .ty []),.slice .nil (.t .tm [])])]⟩)) (fun p=>steps.toNat-p.1.2) ⟨(t,0),he,hfr,Nat.zero_le _,hR⟩ (M.W [some 0,some 1]) ?_)
 rintro⟨⟨x,n⟩,hx,hxf,hxn,hxe⟩;dsimp only at hx hxf hxn hxe ⊢;obtain⟨hxs,hxz⟩:=xn hx;have hfx:=yo hx;have c1:=y6 _ x (Nat.le_refl _) (by omega);have c2:=Yjj (4096-x.size) _ x (Nat.le_refl _) hxs hxz (Yc9 hx hxf);have c3:=vf _ x (Nat.le_refl _) (by omega);cases hr:Db (4096-x.size) x with
 |none=>
  rw[hr] at c2;simp only[I6,Option.map_none,Option.getD_none,Option.isSome_none] at c2;rw[Yd8 hr] at hxe;subst hxe;(repeat' first|refine M.gw ?_|refine M.c2 (c1) ?_|refine M.c2 (c2) ?_|refine M.c2 (c3) ?_|refine M.zb ?_|fail)
  rfl
 |some y=>
  obtain⟨y,f⟩:=y;rw[hr] at c2;simp only[I6,Option.map_some,Option.getD_some,Option.isSome_some] at c2;by_cases hns:n=steps.toNat
  ·have e:r=(AU,0,5):=by rw[<-hxe,hns,Nat.sub_self];simp only[Ex,hr]
   subst e;(repeat' first|refine M.gw ?_|refine M.c2 (c1) ?_|refine M.c2 (c2) ?_|refine M.zb ?_|refine M.cs ?_ ?_<;>intro h|fail);all_goals first
    |rfl
    |(exfalso;simp at h;omega)
    |(exfalso;simp at*;omega)
  ·obtain ⟨k,hk⟩:∃k,steps.toNat-n=k+1:=⟨steps.toNat-n-1,by omega⟩;rw[hk] at hxe;cases f with
   |false=>
    have e:r=(AU,0,4):=by rw[<-hxe];simp only[Ex,hr]
    subst e;(repeat' first|refine M.gw ?_|refine M.c2 (c1) ?_|refine M.c2 (c2) ?_|refine M.zb ?_|refine M.cs ?_ ?_<;>intro h|fail);all_goals first
     |rfl
     |(exfalso;simp at h;omega)
     |(exfalso;simp at*;omega)
   |true=>
    have e:Ex k y (n+1)=r:=by rw[<-hxe];simp only[Ex,hr]
    obtain⟨f1,f2,f3⟩:=Yf _ x y hxs hr;(repeat' first|refine M.gw ?_|refine M.c2 (c1) ?_|refine M.c2 (c2) ?_|refine M.zb ?_|refine M.cs ?_ ?_<;>intro h|fail);all_goals first
     |(exfalso;simp at h;omega)
     |skip
    refine⟨⟨(y,n+1),QF hx hr,f3 _ (by omega) 0 (by omega) hxf,by show n+1<=_;omega,by rw[show steps.toNat-(n+1)=k by omega];exact e⟩,by show steps.toNat-(n+1)<steps.toNat-n;omega,?_⟩;exact(M.W [some 0,some 1])
theorem Yhd(a b:Tm)(ha:a.full<274877906944)(hb:b.full<274877906944)(steps:Int):PC E 97 [.agg a.view,.agg b.view,.i steps] (.i (HN a b steps)):=by
 have h1:=v8 a (by omega);have h2:=v8 b (by omega);have h3:=Mj _ a b (Nat.le_refl _) (by omega);have h4:=Rc a steps ha;have h5:=Rc b steps hb;unfold HN;by_cases ea:a.err=0;case neg=>
  rw[if_pos ea];refine M.F Tryz.func97 ?_;(repeat' first|refine M.gw ?_|refine M.c2 (h1) ?_|refine M.cs ?_ ?_<;>intro h|fail);all_goals first
   |rfl
   |(exfalso;simp at h;exact ea h)
 rw[ea] at h1;rw[if_neg (by simp[ea])];by_cases eb:b.err=0;case neg=>
  rw[if_pos eb];refine M.F Tryz.func97 ?_;(repeat' first|refine M.gw ?_|refine M.c2 (h1) ?_|refine M.c2 (h2) ?_|refine M.cs ?_ ?_<;>intro h|fail);all_goals first
   |rfl
   |(exfalso;simp at h;exact eb h)
 rw[eb] at h2;rw[if_neg (by simp[eb])];by_cases eq:a=b
 ·rw[if_pos eq];rw[decide_eq_true eq] at h3;refine M.F Tryz.func97 ?_;(repeat' first|refine M.gw ?_|refine M.c2 (h1) ?_|refine M.c2 (h2) ?_|refine M.c2 (h3) ?_|fail)
  rfl
 rw[if_neg eq];rw[decide_eq_false eq] at h3;have g1:(wg a steps).2.2=0->(wg a steps).1.full<274877906944:=fun h=>ZQ a steps h;have g2:(wg b steps).2.2=0->(wg b steps).1.full<274877906944:=fun h=>ZQ b steps h;generalize wg a steps=A at*;generalize wg b steps=B at*;obtain⟨x,n,e⟩:=A;obtain⟨y,m,f⟩:=B;dsimp only at h4 h5 g1 g2 ⊢;by_cases he:e=0;case neg=>
  rw[if_pos he];refine M.F Tryz.func97 ?_;(repeat' first|refine M.gw ?_|refine M.c2 (h1) ?_|refine M.c2 (h2) ?_|refine M.c2 (h3) ?_|refine M.c2 (h4) ?_|refine M.cs ?_ ?_<;>intro h|fail);all_goals first
   |rfl
   |(exfalso;simp at h;exact he h)
 subst he;rw[if_neg (by simp)];by_cases hf:f=0;case neg=>
  rw[if_pos hf];refine M.F Tryz.func97 ?_;(repeat' first|refine M.gw ?_|refine M.c2 (h1) ?_|refine M.c2 (h2) ?_|refine M.c2 (h3) ?_|refine M.c2 (h4) ?_|refine M.c2 (h5) ?_|refine M.cs ?_ ?_<;>intro h|fail);all_goals first
   |rfl
   |(exfalso;simp at h;exact hf h)
 subst hf;rw[if_neg (by simp)];have h6:=Mj _ x y (Nat.le_refl _) (by have:=g1 rfl;omega);refine M.F Tryz.func97 ?_;(repeat' first|refine M.gw ?_|refine M.c2 (h1) ?_|refine M.c2 (h2) ?_|refine M.c2 (h3) ?_|refine M.c2 (h4) ?_|refine M.c2 (h5) ?_|refine M.c2 (h6) ?_|refine M.cs ?_ ?_<;>intro h|fail)
 ·have:¬x=y:=by simpa using h
  rw[if_neg this]
  rfl
 ·have:x=y:=by simpa using h
  rw[if_pos this]
  rfl
theorem Yby:∀(n:Nat) (f g:Fm),f.full<=n->n<274877906944->g.full<274877906944->f.shape=true->g.shape=true->PC E 48 [.agg f.view,.agg g.view] (.i (GL f g)):=by
 intro n;induction n with
 |zero=>intro f g h;have:=f.Aa;omega
 |succ n ih=>
 intro f g hsz hb hg hfs hgs;have hfull:=Fm.Ag f;have hgull:=Fm.Ag g;have h1:=xo _ f.ty g.ty (Nat.le_refl _) (by omega);have he:=Yk8 f g;have hl:=zg Tm.full Tm.Aa f.terms;have hl2:=zg Fm.full Fm.Aa f.args;by_cases hk:f.kind=g.kind;case neg=>
  rw[if_neg (fun h=>hk h.1)] at he;rw[he];refine M.F Tryz.func48 ?_;(repeat' first|refine M.go ?_|refine M.c2 (h1) ?_|refine M.gs ?_ ?_<;>intro h|refine M.z1 3 ?_|refine M.cs ?_ ?_<;>intro h|refine M.gk ?_|fail);all_goals first
   |rfl
   |(exfalso;simp_all;done)
 by_cases ht:f.ty=g.ty;case neg=>
  rw[if_neg (fun h=>ht h.2)] at he;rw[he];rw[decide_eq_false ht] at h1;refine M.F Tryz.func48 ?_;(repeat' first|refine M.go ?_|refine M.c2 (h1) ?_|refine M.gs ?_ ?_<;>intro h|refine M.z1 3 ?_|refine M.gk ?_|fail);all_goals first
   |rfl
   |(exfalso;simp_all;done)
 rw[if_pos ⟨hk,ht⟩] at he;rw[decide_eq_true ht] at h1;obtain⟨l1,l2⟩:=Zy8 hfs hgs hk;refine M.F Tryz.func48 ?_;(repeat' first|refine M.gw ?_|refine M.c2 (h1) ?_|refine M.gs ?_ ?_<;>intro h|fail);all_goals first
  |(exfalso;simp at h;omega)
  |(exfalso;simp at h;exact h hk)
  |skip
 refine AW.range f.terms.length (fun m=>∀j (h1:j<f.terms.length) (h2:j<g.terms.length),j<m->HN f.terms[j] g.terms[j] 1000=0)
  (fun m=>([(2,.ptr 0 0),(3,.ptr 1 0),(24,.i f.terms.length),(25,.i m)],⟨2,[(0,.var f.view),(1,.var g.view)]⟩))
  (by omega) (fun m=>rfl) (fun m=>rfl) rfl (fun j _ _ h=>by omega) (M.W [some 0,some 1]) ?_ ?_
 ·intro m hm hP;have hm2:m<g.terms.length:=by omega
  have hs1:=ze Tm.full (List.getElem_mem hm);have hs2:=ze Tm.full (List.getElem_mem hm2);have hc:=Yhd f.terms[m] g.terms[m] (by omega) (by omega) 1000;by_cases e0:HN f.terms[m] g.terms[m] 1000=0
  ·rw[e0] at hc;(repeat' first|refine M.gw ?_|refine M.c2 (hc) ?_|fail);refine⟨rfl,fun j h1 h2 hj=> ?_,(M.W [some 0,some 1])⟩;by_cases hjm:j=m
   ·subst hjm;exact e0
   ·exact hP j h1 h2 (by omega)
  ·have e1:=Yu f.terms g.terms m hm hm2 hP e0;rw[if_pos (by rw[e1];exact e0),e1] at he;rw[he];(repeat' first|refine M.gw ?_|refine M.c2 (hc) ?_|refine M.cs ?_ ?_<;>intro h|fail)
   ·rfl
   ·exfalso;simp at h;exact e0 h
 ·intro hP;have e1:=WQ f.terms g.terms fun j h1 h2=>hP j h1 h2 (by omega);rw[if_neg (by simp[e1])] at he;(repeat' first|refine M.gw ?_|fail);refine AW.range f.args.length (fun m=>∀j (h1:j<f.args.length) (h2:j<g.args.length),j<m->GL f.args[j] g.args[j]=0)
   (fun m=>([(2,.ptr 0 0),(3,.ptr 1 0),(45,.i f.args.length),(46,.i m)],⟨2,[(0,.var f.view),(1,.var g.view)]⟩))
   (by omega) (fun m=>rfl) (fun m=>rfl) rfl (fun j _ _ h=>by omega) (M.W [some 0,some 1]) ?_ ?_
  ·intro m hm hP2;have hm2:m<g.args.length:=by omega
   have hs1:=ze Fm.full (List.getElem_mem hm);have hs2:=ze Fm.full (List.getElem_mem hm2);have hc:=ih f.args[m] g.args[m] (by omega) (by omega) (by omega) (zn hfs (List.getElem_mem hm)) (zn hgs (List.getElem_mem hm2));by_cases e0:GL f.args[m] g.args[m]=0
   ·rw[e0] at hc;(repeat' first|refine M.gw ?_|refine M.c2 (hc) ?_|fail);refine⟨rfl,fun j h1 h2 hj=> ?_,(M.W [some 0,some 1])⟩;by_cases hjm:j=m
    ·subst hjm;exact e0
    ·exact hP2 j h1 h2 (by omega)
   ·have e3:=Vm f.args g.args m hm hm2 hP2 e0;rw[e3] at he;rw[he];(repeat' first|refine M.gw ?_|refine M.c2 (hc) ?_|refine M.cs ?_ ?_<;>intro h|fail)
    ·rfl
    ·exfalso;simp at h;exact e0 h
  ·intro hP2;have e3:=VR f.args g.args fun j h1 h2=>hP2 j h1 h2 (by omega);rw[e3] at he;rw[he];(repeat' first|refine M.gw ?_|fail)
   rfl
theorem Zy1:∀(n:Nat) (p:Pf),p.full<=n->n<549755813888->PC E 146 [.agg p.view] (.i p.size):=by
 intro n;induction n with
 |zero=>intro p h;have:=p.Aa;omega
 |succ n ih=>
 intro p hsz hn;have hsz':=p.Ag;have hse:=p.size_eq;have hlen:=zg Pf.full Pf.Aa p.args;have hlen1:=zg Fm.full Fm.Aa p.Ad;have hlen2:=zg Tm.full Tm.Aa p.terms;have hle0:=xi (f:=Tm.size) (g:=Tm.full) p.terms fun x _=>x.Ak;have hle1:=xi (f:=Fm.size) (g:=Fm.full) p.Ad fun x _=>x.Ak;have hle2:=xi (f:=Pf.size) (g:=Pf.full) p.args fun x _=>x.Ak;refine M.F Tryz.func146 ?_;(repeat' first|refine M.gw ?_|fail);refine AW.range p.terms.length (fun m=>True)
  (fun m=>([(1,.ptr 0 0),(3,.i (1+((p.terms.take m).map Tm.size).sum:Nat)),(11,.s .tm p.terms),(12,.i p.terms.length),(13,.i m)],⟨1,[(0,.var p.view)]⟩))
  (by omega) (fun m=>rfl) (fun m=>rfl) rfl trivial (M.W [some 0]) ?_ ?_
 ·intro m hm _;have hs1:=yv Tm.size p.terms m hm;have hs2:=ze Tm.full (List.getElem_mem hm);have hs3:=zw Tm.size p.terms (m+1);have hc:=y6 _ p.terms[m] (Nat.le_refl _) (by omega);(repeat' first|refine M.gw ?_|refine M.c2 (hc) ?_|fail);refine⟨rfl,trivial,?_⟩;simp only[hs1];exact(M.W [some 0] (hf:=(by(repeat'(first|exact trivial|refine And.intro ?_ ?_|refine⟨_,U,_,U,?_⟩|exact Aj.refl _|exact Aj.of_eq (by simp[Ao.Ar,Int.natCast_add,Int.add_assoc])));done)))
 ·intro _;simp only[List.take_length];(repeat' first|refine M.gw ?_|fail);refine AW.range p.Ad.length (fun m=>True)
   (fun m=>([(1,.ptr 0 0),(3,.i (1+(p.terms.map Tm.size).sum+((p.Ad.take m).map Fm.size).sum:Nat)),(23,.s .fm p.Ad),(24,.i p.Ad.length),(25,.i m)],⟨1,[(0,.var p.view)]⟩))
   (by omega) (fun m=>rfl) (fun m=>rfl) rfl trivial (M.W [some 0]) ?_ ?_
  ·intro m hm _;have hs1:=yv Fm.size p.Ad m hm;have hs2:=ze Fm.full (List.getElem_mem hm);have hs3:=zw Fm.size p.Ad (m+1);have hc:=Py _ p.Ad[m] (Nat.le_refl _) (by omega);(repeat' first|refine M.gw ?_|refine M.c2 (hc) ?_|fail);refine⟨rfl,trivial,?_⟩;simp only[hs1];exact(M.W [some 0] (hf:=(by(repeat'(first|exact trivial|refine And.intro ?_ ?_|refine⟨_,U,_,U,?_⟩|exact Aj.refl _|exact Aj.of_eq (by simp[Ao.Ar,Int.natCast_add,Int.add_assoc])));done)))
  ·intro _;simp only[List.take_length];(repeat' first|refine M.gw ?_|fail);refine AW.range p.args.length (fun m=>True)
    (fun m=>([(1,.ptr 0 0),(3,.i (1+(p.terms.map Tm.size).sum+(p.Ad.map Fm.size).sum+((p.args.take m).map Pf.size).sum:Nat)),(35,.s .pf p.args),(36,.i p.args.length),(37,.i m)],⟨1,[(0,.var p.view)]⟩))
    (by omega) (fun m=>rfl) (fun m=>rfl) rfl trivial (M.W [some 0]) ?_ ?_
   ·intro m hm _;have hs1:=yv Pf.size p.args m hm;have hs2:=ze Pf.full (List.getElem_mem hm);have hs3:=zw Pf.size p.args (m+1);have hc:=ih p.args[m] (by omega) (by omega);(repeat' first|refine M.gw ?_|refine M.c2 (hc) ?_|fail);refine⟨rfl,trivial,?_⟩;simp only[hs1];exact(M.W [some 0] (hf:=(by(repeat'(first|exact trivial|refine And.intro ?_ ?_|refine⟨_,U,_,U,?_⟩|exact Aj.refl _|exact Aj.of_eq (by simp[Ao.Ar,Int.natCast_add,Int.add_assoc])));done)))
   ·intro _;simp only[List.take_length];(repeat' first|refine M.gw ?_|fail);rw[hse]
    rfl
theorem Ybk:∀(n:Nat) (p:Pf),p.full<=n->n<549755813888->PC E 145 [.agg p.view] (.bool p.small):=by
 intro n;induction n with
 |zero=>intro p h;have:=p.Aa;omega
 |succ n ih=>
 intro p hsz hn;have hsz':=p.Ag;have hse:=p.B6;have hlen:=zg Pf.full Pf.Aa p.args;have hlen1:=zg Fm.full Fm.Aa p.Ad;have hlen2:=zg Tm.full Tm.Aa p.terms;refine M.F Tryz.func145 ?_;(repeat' first|refine M.gw ?_|fail);refine AW.range p.terms.length (fun m=>∀j (hj:j<p.terms.length),j<m->decide (p.terms[j].size<=4096)=true)
  (fun m=>([(1,.ptr 0 0),(10,.s .tm p.terms),(11,.i p.terms.length),(12,.i m)],⟨1,[(0,.var p.view)]⟩))
  (by omega) (fun m=>rfl) (fun m=>rfl) rfl (fun j hj h=>by omega) (M.W [some 0]) ?_ ?_
 ·intro m hm hP;have hs2:=ze Tm.full (List.getElem_mem hm);have hc:=y6 _ p.terms[m] (Nat.le_refl _) (by omega);have hle:=p.terms[m].Ak;(repeat' first|refine M.gw ?_|refine M.c2 (hc) ?_|refine M.cs ?_ ?_<;>intro h|fail)
  ·have e:p.small=false:=by
    rw[hse,vx (fun t:Tm=>decide (t.size<=4096)) hm (by simp at h ⊢;omega)];rfl
   rw[e];rfl
  ·exact ⟨rfl,yb (p:=fun t:Tm=>decide (t.size<=4096)=true) hm hP (by simp at h ⊢;omega),(M.W [some 0])⟩
 ·intro hP;have a1:=FL (fun t:Tm=>decide (t.size<=4096)) p.terms fun j hj=>hP j hj hj;rw[a1,Bool.true_and] at hse;(repeat' first|refine M.gw ?_|fail);refine AW.range p.Ad.length (fun m=>∀j (hj:j<p.Ad.length),j<m->decide (p.Ad[j].size<=4096)=true)
   (fun m=>([(1,.ptr 0 0),(21,.s .fm p.Ad),(22,.i p.Ad.length),(23,.i m)],⟨1,[(0,.var p.view)]⟩))
   (by omega) (fun m=>rfl) (fun m=>rfl) rfl (fun j hj h=>by omega) (M.W [some 0]) ?_ ?_
  ·intro m hm hP;have hs2:=ze Fm.full (List.getElem_mem hm);have hc:=Py _ p.Ad[m] (Nat.le_refl _) (by omega);have hle:=p.Ad[m].Ak;(repeat' first|refine M.gw ?_|refine M.c2 (hc) ?_|refine M.cs ?_ ?_<;>intro h|fail)
   ·have e:p.small=false:=by
     rw[hse,vx (fun t:Fm=>decide (t.size<=4096)) hm (by simp at h ⊢;omega)];rfl
    rw[e];rfl
   ·exact ⟨rfl,yb (p:=fun t:Fm=>decide (t.size<=4096)=true) hm hP (by simp at h ⊢;omega),(M.W [some 0])⟩
  ·intro hP;have a1:=FL (fun t:Fm=>decide (t.size<=4096)) p.Ad fun j hj=>hP j hj hj;rw[a1,Bool.true_and] at hse;(repeat' first|refine M.gw ?_|fail);refine AW.range p.args.length (fun m=>∀j (hj:j<p.args.length),j<m->p.args[j].small=true)
    (fun m=>([(1,.ptr 0 0),(32,.s .pf p.args),(33,.i p.args.length),(34,.i m)],⟨1,[(0,.var p.view)]⟩))
    (by omega) (fun m=>rfl) (fun m=>rfl) rfl (fun j hj h=>by omega) (M.W [some 0]) ?_ ?_
   ·intro m hm hP;have hs2:=ze Pf.full (List.getElem_mem hm);have hc:=ih p.args[m] (by omega) (by omega);cases hb:p.args[m].small with
    |false=>
     rw[hb] at hc;have e:p.small=false:=by rw[hse,vx Pf.small hm hb]
     rw[e];(repeat' first|refine M.gw ?_|refine M.c2 (hc) ?_|fail)
     rfl
    |true=>
     rw[hb] at hc;(repeat' first|refine M.gw ?_|refine M.c2 (hc) ?_|fail);exact⟨rfl,yb (p:=fun t:Pf=>t.small=true) hm hP hb,(M.W [some 0])⟩
   ·intro hP;have e:p.small=true:=by rw[hse];exact FL Pf.small p.args fun j hj=>hP j hj hj
    rw[e];(repeat' first|refine M.gw ?_|fail)
    rfl
theorem Zk(p:Pf)(hp:p.full<549755813888):PC E 92 [.agg p.view] (.bool (p.small&&decide (p.size<=16384))):=by
 have h1:=Ybk _ p (Nat.le_refl _) hp;have h2:=Zy1 _ p (Nat.le_refl _) hp;have h3:=p.Ak;cases hs:p.small with
 |false=>
  rw[hs] at h1;refine M.F Tryz.func92 ?_;(repeat' first|refine M.gw ?_|refine M.c2 (h1) ?_|fail)
  rfl
 |true=>
  rw[hs] at h1;have e:decide (((p.size:Nat):Int)<=16384)=decide (p.size<=16384):=by rw[decide_eq_decide];omega
  refine M.F Tryz.func92 ?_;(repeat' first|refine M.gw ?_|refine M.c2 (h1) ?_|refine M.c2 (h2) ?_|fail);simp[zi,V.wk,V.An,zd,e]
theorem Yco(k:Int):PC E 142 [.i k] (.At [.agg ((BX k).getD Qo).view,.bool (BX k).isSome]):=by
 by_cases hk:1<=k/\k<=20
 ·have:k=1\/k=2\/k=3\/k=4\/k=5\/k=6\/k=7\/k=8\/k=9\/k=10\/k=11\/k=12\/k=13\/k=14\/k=15\/k=16\/k=17\/k=18\/k=19\/k=20:=by omega
  rcases this with rfl|rfl|rfl|rfl|rfl|rfl|rfl|rfl|rfl|rfl|rfl|rfl|rfl|rfl|rfl|rfl|rfl|rfl|rfl|rfl;all_goals(refine M.F Tryz.func142 ?_)
  all_goals(repeat'(first|refine M.gw ?_|refine M.bl ?_|fail))
  all_goals rfl
 ·have e:BX k=none:=by
   unfold BX
   repeat rw[if_neg (by omega)]
  rw[e];have b:∀j:Int,1<=j->j<=20->¬(k==j)=true:=fun j h1 h2 h=>by simp at h;omega
  have b1:=b 1 (by omega) (by omega);have b2:=b 2 (by omega) (by omega);have b3:=b 3 (by omega) (by omega);have b4:=b 4 (by omega) (by omega);have b5:=b 5 (by omega) (by omega);have b6:=b 6 (by omega) (by omega);have b7:=b 7 (by omega) (by omega);have b8:=b 8 (by omega) (by omega);have b9:=b 9 (by omega) (by omega);have b10:=b 10 (by omega) (by omega);have b11:=b 11 (by omega) (by omega);have b12:=b 12 (by omega) (by omega);have b13:=b 13 (by omega) (by omega);have b14:=b 14 (by omega) (by omega);have b15:=b 15 (by omega) (by omega);have b16:=b 16 (by omega) (by omega);have b17:=b 17 (by omega) (by omega);have b18:=b 18 (by omega) (by omega);have b19:=b 19 (by omega) (by omega);have b20:=b 20 (by omega) (by omega);refine M.F Tryz.func142 ?_;(repeat' first|refine M.gw ?_|refine M.bl ?_|refine M.cs ?_ ?_<;>intro h|fail);all_goals first
   |contradiction
   |rfl
theorem Zxm:∀(n:Nat) (p:Pf),p.full<=n->n<549755813888->PC E 91 [.agg p.view] (.bool p.shape):=by
 intro n;induction n with
 |zero=>intro p h;have:=p.Aa;omega
 |succ n ih=>
 intro p hsz hn;have hsz':=p.Ag;have hse:=p.Ai;have hlen:=zg Pf.full Pf.Aa p.args;have hlen1:=zg Fm.full Fm.Aa p.Ad;have hlen2:=zg Tm.full Tm.Aa p.terms;have h1:=Yco p.kind;cases hnd:BX p.kind with
 |none=>
  have e:p.shape=false:=by rw[hse];simp[Pf.head,hnd]
  rw[hnd] at h1;rw[e];refine M.F Tryz.func91 ?_;(repeat' first|refine M.gw ?_|refine M.c2 (h1) ?_|fail)
  rfl
 |some nd=>
 rw[hnd] at h1;simp only[Option.getD_some,Option.isSome_some] at h1;have h3:=SO p.ty;have h4:=LQ p.ty (by omega);have hok:=Q1 p.ty;refine M.F Tryz.func91 ?_;(repeat' first|refine M.gw ?_|refine M.c2 (h1) ?_|refine M.c2 (h3) ?_|refine M.c2 (h4) ?_|refine M.gs ?_ ?_<;>intro h|refine M.cs ?_ ?_<;>intro h|fail);all_goals first
  |(have hd:p.head=false:=by(simp only[Pf.head,hnd];simp_all;done)
    have:p.shape=false:=by rw[hse,hd];rfl
    simp[this,zi,zd,V.wk,V.An];done)
  |(have hd:p.head=false:=by(simp only[Pf.head,hnd];simp_all;omega)
    have:p.shape=false:=by rw[hse,hd];rfl
    simp[this,zi,zd,V.wk,V.An];done)
  |(have hd:p.head=true:=by(simp only[Pf.head,hnd];simp_all;try omega)
    rw[hd,Bool.true_and] at hse;refine AW.range p.terms.length (fun m=>∀j (hj:j<p.terms.length),j<m->p.terms[j].shape=true)
     (fun m=>([(1,.ptr 0 0),(78,.s .tm p.terms),(79,.i p.terms.length),(80,.i m)],⟨2,[(0,.var p.view),(1,.var nd.view)]⟩))
     (by omega) (fun m=>rfl) (fun m=>rfl) rfl (fun j hj h=>by omega) (M.W [some 0,some 1]) ?_ ?_
    ·intro m hm hP;have hs2:=ze Tm.full (List.getElem_mem hm);have hc:=TB _ p.terms[m] (Nat.le_refl _) (by omega);cases hb:p.terms[m].shape with
     |false=>
      rw[hb] at hc;have e:p.shape=false:=by rw[hse,vx Tm.shape hm hb];rfl
      rw[e];(repeat' first|refine M.gw ?_|refine M.c2 (hc) ?_|fail)
      rfl
     |true=>
      rw[hb] at hc;(repeat' first|refine M.gw ?_|refine M.c2 (hc) ?_|fail);exact⟨rfl,yb (p:=fun t:Tm=>t.shape=true) hm hP hb,(M.W [some 0,some 1])⟩
    ·intro hP;have a1:=FL Tm.shape p.terms fun j hj=>hP j hj hj;rw[a1,Bool.true_and] at hse;(repeat' first|refine M.gw ?_|fail);refine AW.range p.Ad.length (fun m=>∀j (hj:j<p.Ad.length),j<m->p.Ad[j].shape=true)
      (fun m=>([(1,.ptr 0 0),(89,.s .fm p.Ad),(90,.i p.Ad.length),(91,.i m)],⟨2,[(0,.var p.view),(1,.var nd.view)]⟩))
      (by omega) (fun m=>rfl) (fun m=>rfl) rfl (fun j hj h=>by omega) (M.W [some 0,some 1]) ?_ ?_
     ·intro m hm hP;have hs2:=ze Fm.full (List.getElem_mem hm);have hc:=Xg _ p.Ad[m] (Nat.le_refl _) (by omega);cases hb:p.Ad[m].shape with
      |false=>
       rw[hb] at hc;have e:p.shape=false:=by rw[hse,vx Fm.shape hm hb];rfl
       rw[e];(repeat' first|refine M.gw ?_|refine M.c2 (hc) ?_|fail)
       rfl
      |true=>
       rw[hb] at hc;(repeat' first|refine M.gw ?_|refine M.c2 (hc) ?_|fail);exact⟨rfl,yb (p:=fun t:Fm=>t.shape=true) hm hP hb,(M.W [some 0,some 1])⟩
     ·intro hP;have a1:=FL Fm.shape p.Ad fun j hj=>hP j hj hj;rw[a1,Bool.true_and] at hse;(repeat' first|refine M.gw ?_|fail);refine AW.range p.args.length (fun m=>∀j (hj:j<p.args.length),j<m->p.args[j].shape=true)
       (fun m=>([(1,.ptr 0 0),(100,.s .pf p.args),(101,.i p.args.length),(102,.i m)],⟨2,[(0,.var p.view),(1,.var nd.view)]⟩))
       (by omega) (fun m=>rfl) (fun m=>rfl) rfl (fun j hj h=>by omega) (M.W [some 0,some 1]) ?_ ?_
      ·intro m hm hP;have hs2:=ze Pf.full (List.getElem_mem hm);have hc:=ih p.args[m] (by omega) (by omega);cases hb:p.args[m].shape with
       |false=>
        rw[hb] at hc;have e:p.shape=false:=by rw[hse,vx Pf.shape hm hb]
        rw[e];(repeat' first|refine M.gw ?_|refine M.c2 (hc) ?_|fail)
        rfl
       |true=>
        rw[hb] at hc;(repeat' first|refine M.gw ?_|refine M.c2 (hc) ?_|fail);exact⟨rfl,yb (p:=fun t:Pf=>t.shape=true) hm hP hb,(M.W [some 0,some 1])⟩
      ·intro hP;have e:p.shape=true:=by rw[hse];exact FL Pf.shape p.args fun j hj=>hP j hj hj
       rw[e];(repeat' first|refine M.gw ?_|fail)
       rfl)
theorem ZP(p:Pf)(hp:p.full<549755813888):PC E 44 [.agg p.view] (.i p.err):=by
 have h1:=Zxm _ p (Nat.le_refl _) hp;have h2:=Zk p hp;cases hs:p.shape with
 |false=>
  have e:p.err=2:=by simp[Pf.err,hs]
  rw[hs] at h1;rw[e];refine M.F Tryz.func44 ?_;(repeat' first|refine M.gw ?_|refine M.c2 (h1) ?_|fail)
  rfl
 |true=>
  rw[hs] at h1;cases hf:p.small&&decide (p.size<=16384) with
  |false=>
   have e:p.err=4:=by
    simp only[Pf.err,hs];rw[if_neg (by simp),if_pos];cases hm:p.small with
    |false=>exact .inl rfl
    |true=>rw[hm] at hf;simp at hf;exact .inr hf
   rw[hf] at h2;rw[e];refine M.F Tryz.func44 ?_;(repeat' first|refine M.gw ?_|refine M.c2 (h1) ?_|refine M.c2 (h2) ?_|fail)
   rfl
  |true=>
   have e:p.err=0:=by simp at hf;exact(Pf.Ae p).2 ⟨hs,hf.1,hf.2⟩
   rw[hf] at h2;rw[e];refine M.F Tryz.func44 ?_;(repeat' first|refine M.gw ?_|refine M.c2 (h1) ?_|refine M.c2 (h2) ?_|fail)
   rfl
def pr0:Tm:= .mk 10 0 (.mk 0 []) [.mk 4 0 (.mk 0 []) [],.mk 7 0 (.mk 0 []) []]
def TA:Tm:= .mk 11 0 (.mk 0 []) [pr0]
def zer0:Tm:= .mk 4 0 (.mk 0 []) []
def WE:Pf:= .mk 18 0 (.mk 0 []) [TA] [] []
theorem Tu(f g:Fm)(hf:f.full<274877906944)(hg:g.full<274877906944):PC E 10 [.agg f.view,.agg g.view] (.i (Lv f g)):=by
 have h1:=vq f (by omega);have h2:=vq g (by omega);unfold Lv;by_cases ef:f.err=0;case neg=>
  rw[if_pos ef];refine M.F Tryz.func10 ?_;(repeat' first|refine M.gw ?_|refine M.c2 (h1) ?_|refine M.cs ?_ ?_<;>intro h|fail);all_goals first
   |rfl
   |(exfalso;simp at h;exact ef h)
 rw[ef] at h1;rw[if_neg (by simp[ef])];by_cases eg:g.err=0;case neg=>
  rw[if_pos eg];refine M.F Tryz.func10 ?_;(repeat' first|refine M.gw ?_|refine M.c2 (h1) ?_|refine M.c2 (h2) ?_|refine M.cs ?_ ?_<;>intro h|fail);all_goals first
   |rfl
   |(exfalso;simp at h;exact eg h)
 rw[eg] at h2;rw[if_neg (by simp[eg])];have h3:=Yby _ f g (Nat.le_refl _) hf hg ((Fm.Ae f).1 ef).1 ((Fm.Ae g).1 eg).1;refine M.F Tryz.func10 ?_;(repeat' first|refine M.gw ?_|refine M.c2 (h1) ?_|refine M.c2 (h2) ?_|refine M.c2 (h3) ?_|fail)
 rfl
theorem Yfi(a b:Tm):PC E 159 [.agg (AV a b).view] (.bool false):=by
 unfold AV;refine M.F Tryz.func159 ?_;(repeat' first|refine M.gw ?_|refine M.bl ?_|fail)
 rfl
abbrev mE(ho:Int)(s:DW):Es:=[(0,.var [.i ho,.mp 1,.bool s.2]),(1,.map .tm (s.1.map (·.1)) (s.1.map (·.2)))]
theorem Ylo(at_:Int)(s:Tm)(hat:0<=at_/\at_<137438953472)(hs:s.shape=true)(hsf:s.full<137438953472)(hsi:∀p∈s.vars 0,0<=p.1/\p.1<274877906944):∀(n:Nat) (f:Fm) (dp:Int),f.full<=n->n<137438953472->0<=dp->dp+n<274877906944->f.shape=true->(∀p∈f.AZ 0,∀q∈p.1.vars 0,0<=q.1/\q.1<274877906944)->
 PC E 119 [.agg f.view,.i at_,.i dp,.agg s.view] (.agg (f.re (fun b t=>t.re (xu at_ s) b) dp).view):=by
 intro n;induction n with
 |zero=>intro f dp h;have:=f.Aa;omega
 |succ n ih=>
 intro f dp hsz hn h1 h2 hf hix;have hsz':=f.Ag;have hlen:=zg Fm.full Fm.Aa f.args;have hlen2:=zg Tm.full Tm.Aa f.terms;have hup:=Jj f.kind dp;have hpl:=OQ f.kind dp;have hb:=P8 f;have he:=Fm.Bz (fun b t=>t.re (xu at_ s) b) dp f;have htm:=f.A6 0;refine M.F Tryz.func119 ?_;(repeat' first|refine M.gw ?_|fail);refine AW.range f.terms.length (fun m=>True) (fun m=>([(1,.i at_),(2,.i dp),(4,.ptr 0 0),(7,.ptr 1 0),(8,.ptr 2 0),(9,.ptr 3 0),(20,.s .tm f.terms),(21,.i f.terms.length),(22,.i m)],⟨5,[(0,.var f.view),(1,.var s.view),(2,.var [.i 0,.i 0,.slice .nil (.t .ty []),.slice .nil (.t .tm []),.slice .nil (.t .fm [])]),(3,.var [.i f.kind,.i f.ty.kind,.s .ty f.ty.args,.slice (.own 4) (.t .tm ((f.terms.take m).map fun t=>t.re (xu at_ s) dp)),.slice .nil (.t .fm [])]),(4,.row)]⟩))
  (by omega) (fun m=>rfl) (fun m=>rfl) rfl trivial (M.W [some 0,some 1,some 2,some 3,none]) ?_ ?_
 ·intro m hm _;have hs2:=ze Tm.full (List.getElem_mem hm);have hc:=YT at_ s hat hs hsf hsi _ f.terms[m] dp (Nat.le_refl _) (by omega) (by omega) (by omega) (zy hf (List.getElem_mem hm)) (fun p hp=>hix (f.terms[m],0) (by rw[htm];exact List.mem_append_left _ (List.mem_map.2 ⟨_,List.getElem_mem hm,rfl⟩)) p hp);(repeat' first|refine M.gw ?_|refine M.c2 (hc) ?_|fail);exact⟨rfl,trivial,(M.W [some 0,some 1,some 2,some 3,some 6] (he:=(by(repeat'(first|exact trivial|exact Or.inr ⟨_,U,rfl⟩|refine And.intro ?_ ?_|refine⟨_,U,_,U,_,U,?_⟩|exact Aj.refl _|exact Aj.of_eq (by simp[Ao.Ar,ya _ _ _ hm])));done)))⟩
 ·intro _;simp only[List.take_length];(repeat' first|refine M.gw ?_|fail);refine AW.range f.args.length (fun m=>True) (fun m=>([(1,.i at_),(2,.i dp),(4,.ptr 0 0),(7,.ptr 1 0),(8,.ptr 2 0),(9,.ptr 3 0),(38,.s .fm f.args),(39,.i f.args.length),(40,.i m)],⟨6,[(0,.var f.view),(1,.var s.view),(2,.var [.i 0,.i 0,.slice .nil (.t .ty []),.slice .nil (.t .tm []),.slice .nil (.t .fm [])]),(3,.var [.i f.kind,.i f.ty.kind,.s .ty f.ty.args,.slice (.own 4) (.t .tm (f.terms.map fun t=>t.re (xu at_ s) dp)),.slice (.own 5) (.t .fm ((f.args.take m).map fun x=>x.re (fun b t=>t.re (xu at_ s) b) (AE f.kind dp)))]),(4,.row),(5,.row)]⟩))
   (by omega) (fun m=>rfl) (fun m=>rfl) rfl trivial (M.W [some 0,some 1,some 2,some 3,some 4,none]) ?_ ?_
  ·intro m hm _;have hs2:=ze Fm.full (List.getElem_mem hm);have hc:=ih f.args[m] (AE f.kind dp) (by omega) (by omega) (by omega) (by omega) (zn hf (List.getElem_mem hm)) (fun p hp q hq=>by
    obtain⟨p',hp',hpe⟩:=Ud (b':=AE f.kind 0) p hp;rw[<-hpe] at hq;exact hix p' (by rw[htm];exact List.mem_append_right _ (List.mem_flatMap.2 ⟨_,List.getElem_mem hm,hp'⟩)) q hq)
   rw[<-hpl] at hc;simp only[<-hpl];(repeat' first|refine M.gw ?_|refine M.c2 (hb) ?_|refine M.c2 (hc) ?_|fail);exact⟨rfl,trivial,(M.W [some 0,some 1,some 2,some 3,some 4,some 7] (he:=(by(repeat'(first|exact trivial|exact Or.inr ⟨_,U,rfl⟩|refine And.intro ?_ ?_|refine⟨_,U,_,U,_,U,?_⟩|exact Aj.refl _|exact Aj.of_eq (by simp[Ao.Ar,ya _ _ _ hm])));done)))⟩
  ·intro _;simp only[List.take_length];(repeat' first|refine M.gw ?_|fail);rw[he]
   rfl
theorem Ve(f:Fm)(at_:Int)(s:Tm)(hf:f.full<549755813888)(hs:s.full<549755813888):PC E 59 [.agg f.view,.i at_,.agg s.view] (.At [.agg (if yj f at_ s=0 then f.put at_ s else AG).view,.i (yj f at_ s)]):=by
 have h1:=vq f hf;have h2:=v8 s (by omega);by_cases he:f.err=0;case neg=>
  have e:yj f at_ s=f.err:=by simp only[yj];rw[if_pos he]
  rw[e,if_neg he];refine M.F Tryz.func59 ?_;(repeat' first|refine M.go ?_|refine M.c2 (h1) ?_|refine M.z1 4 ?_|refine M.cs ?_ ?_<;>intro h|refine M.gk ?_|fail);all_goals first
   |rfl
   |(exfalso;simp at h;exact he h)
 rw[he] at h1;by_cases ha:0<=at_/\at_<=4096;case neg=>
  have e:yj f at_ s=1:=by simp only[yj];rw[if_neg (by simp[he]),if_pos ha]
  rw[e,if_neg (by decide)];refine M.F Tryz.func59 ?_;(repeat' first|refine M.go ?_|refine M.c2 (h1) ?_|refine M.gs ?_ ?_<;>intro h|refine M.z1 6 ?_|refine M.cs ?_ ?_<;>intro h|refine M.gk ?_|fail);all_goals first
   |rfl
   |(exfalso;simp at h;omega)
   |(exfalso;simp at*;omega)
 by_cases hse:s.err=0;case neg=>
  have e:yj f at_ s=s.err:=by simp only[yj];rw[if_neg (by simp[he]),if_neg (by simp;omega),if_pos hse]
  rw[e,if_neg hse];refine M.F Tryz.func59 ?_;(repeat' first|refine M.go ?_|refine M.c2 (h1) ?_|refine M.c2 (h2) ?_|refine M.gs ?_ ?_<;>intro h|refine M.z2 5 9 ?_|refine M.cs ?_ ?_<;>intro h|refine M.gk ?_|fail);all_goals first
   |rfl
   |(exfalso;simp at h;omega)
   |(exfalso;simp at*;omega)
   |(exfalso;simp at h;exact hse h)
 rw[hse] at h2;obtain⟨hfs,hfz⟩:=(Fm.Ae f).1 he;obtain⟨hss,hsz⟩:=xn hse;have hff:=ye he;have hsf:=yo hse;have h3:=QX 536870912 (by omega) _ f (Nat.le_refl _) (by omega) hfs;have h4:=OJ 536870912 (by omega) _ s (Nat.le_refl _) (by omega) hss;rw[<-Zqv] at h3;rw[<-N8] at h4;by_cases hn:f.near=true/\s.near=true;case neg=>
  have hn':f.near=false\/s.near=false:=by
   cases h5:f.near with
   |false=>exact .inl rfl
   |true=>cases h6:s.near with
    |false=>exact .inr rfl
    |true=>exact absurd ⟨h5,h6⟩ hn
  have e:yj f at_ s=1:=by simp only[yj];rw[if_neg (by simp[he]),if_neg (by simp;omega),if_neg (by simp[hse]),if_pos hn']
  rw[e,if_neg (by decide)];cases h5:f.near with
  |false=>
   rw[h5] at h3;refine M.F Tryz.func59 ?_;(repeat' first|refine M.go ?_|refine M.c2 (h1) ?_|refine M.c2 (h2) ?_|refine M.c2 (h3) ?_|refine M.gs ?_ ?_<;>intro h|refine M.z1 5 ?_|refine M.cs ?_ ?_<;>intro h|refine M.gk ?_|fail);all_goals first
    |rfl
    |(exfalso;simp at h;omega)
    |(exfalso;simp at*;omega)
  |true=>
   have h6:s.near=false:=hn'.resolve_left (by simp[h5]);rw[h5] at h3;rw[h6] at h4;refine M.F Tryz.func59 ?_;(repeat' first|refine M.go ?_|refine M.c2 (h1) ?_|refine M.c2 (h2) ?_|refine M.c2 (h3) ?_|refine M.c2 (h4) ?_|refine M.gs ?_ ?_<;>intro h|refine M.z1 5 ?_|refine M.cs ?_ ?_<;>intro h|refine M.gk ?_|fail);all_goals first
    |rfl
    |(exfalso;simp at h;omega)
    |(exfalso;simp at*;omega)
 obtain⟨hn1,hn2⟩:=hn;rw[hn1] at h3;rw[hn2] at h4;have h5:=Py _ f (Nat.le_refl _) (by omega);have h6:=Zzu _ f at_ (Nat.le_refl _) (by omega) (by omega) (by omega) hfs;have h7:=y6 _ s (Nat.le_refl _) (by omega);have htl:=R7 at_ f;have hsp:=s.size_pos;have hsl:=s.Ak;have hfl:=f.Ak;have hm:=RA (xy at_ f) (s.size-1) (by omega) (by omega);have hm': -9223372036854775808<=(xy at_ f:Int)*(s.size-1)/\(xy at_ f:Int)*(s.size-1)<=9223372036854775807:=by omega
 have ee:yj f at_ s=if(f.size:Int)+xy at_ f*(s.size-1)>4096 then 4 else 0:=by
  simp only[yj,xy];rw[if_neg (by simp[he]),if_neg (by simp;omega),if_neg (by simp[hse]),if_neg (by simp[hn1,hn2])]
  rfl
 have hput:f.put at_ s=f.re (fun b t=>t.re (xu at_ s) b) 0:=Yiy at_ s 0 f;have h8:=Ylo at_ s (by omega) hss (by omega) (fun p hp=>⟨s.AB hss 0 p hp,by have:=O0 hn2 p hp;omega⟩) _ f 0 (Nat.le_refl _) (by omega) (by omega) (by omega) hfs (fun p hp q hq=>by have:=OA he hn1 p hp q hq;have h9:=List.all_eq_true.1 hn1 p hp;have:=O0 h9 q hq;omega);rw[<-hput] at h8;by_cases hz:(f.size:Int)+xy at_ f*(s.size-1)>4096
 ·rw[if_pos hz] at ee;rw[ee,if_neg (by decide)];clear h8 hput;refine M.F Tryz.func59 ?_;(repeat' first|refine M.go ?_|refine M.c2 (h1) ?_|refine M.c2 (h2) ?_|refine M.c2 (h3) ?_|refine M.c2 (h4) ?_|refine M.c2 (h5) ?_|refine M.c2 (h6) ?_|refine M.c2 (h7) ?_|refine M.gs ?_ ?_<;>intro h|refine M.z2 5 13 ?_|refine M.cs ?_ ?_<;>intro h|refine M.gk ?_|fail);all_goals first
   |rfl
   |(exfalso;simp at h;omega)
   |(exfalso;simp at*;omega)
 ·rw[if_neg hz] at ee;have h9:=w4 _ (f.put at_ s) (Nat.le_refl _) (by have:=QK ee;omega);rw[ee,if_pos rfl];refine M.F Tryz.func59 ?_;(repeat' first|refine M.go ?_|refine M.c2 (h1) ?_|refine M.c2 (h2) ?_|refine M.c2 (h3) ?_|refine M.c2 (h4) ?_|refine M.c2 (h5) ?_|refine M.c2 (h6) ?_|refine M.c2 (h7) ?_|refine M.c2 (h8) ?_|refine M.c2 (h9) ?_|refine M.gs ?_ ?_<;>intro h|refine M.z2 5 12 ?_|refine M.cs ?_ ?_<;>intro h|refine M.gk ?_|fail);all_goals first
   |rfl
   |(exfalso;simp at h;omega)
   |(exfalso;simp at*;omega)
theorem Qg(l:List Fm)(h:(l.map Fm.full).sum<1099511627776):PC E 22 [.s .fm l,.s .fm l] (.bool true):=by
 have hlen:=zg Fm.full Fm.Aa l;refine M.F Tryz.func22 ?_;(repeat' first|refine M.gw ?_|refine M.cs ?_ ?_<;>intro h|fail)
 ·exfalso;simp at h
 refine AW.range l.length (fun m=>True) (fun m=>([(0,.s .fm l),(1,.s .fm l),(11,.s .fm l),(12,.i l.length),(13,.i m)],⟨0,[]⟩))
  (by omega) (fun m=>rfl) (fun m=>rfl) rfl trivial (M.W []) ?_ ?_
 ·intro m hm _;have hs2:=ze Fm.full (List.getElem_mem hm);have hc:=Yef _ l[m] (Nat.le_refl _) (by omega);(repeat' first|refine M.gw ?_|refine M.c2 (hc) ?_|fail);exact⟨rfl,trivial,(M.W [])⟩
 ·intro _;(repeat' first|refine M.gw ?_|fail)
  rfl
end Go.Ab
