/- A part of this seat's proofs. No conditions. -/
import Derived.Test.YtknjfffhfolkcaaGreatDoorHS8
namespace Go.Ab
open Go Go.Proofs
set_option maxRecDepth 100000
set_option maxHeartbeats 4000000
set_option linter.all false
def HB(t:Tm)(o:Option (Tm×Bool)):V:= .AD [.agg ((o.map (·.1)).getD t).view,.bool o.isSome,.bool ((o.map (·.2)).getD true)]
theorem Yer(room:Int):∀(n:Nat) (t:Tm),t.size<=n->t.shape=true->t.size<=4096->(∀p∈t.vars 0,0<=p.1/\p.1<1073741824)->PC E 248 [.agg t.view,.i room] (HB t (Da room t)):=by
 intro n;induction n with
 |zero=>intro t h;have:=t.size_pos;omega
 |succ n ih=>
 intro t hsz hs hz hix;have hfull:=ym t hs;have hse:=t.size_eq;have hlen:=zd Tm.size Tm.size_pos t.args;have h1:=Yhs t hs;have he:=Gb room t;by_cases hr:vm t=true
 .have h2:=Yco (JU hs hr) hs hz;rw[hr] at h1;rw[if_pos hr] at he;by_cases hg:Fq t>room
  .rw[if_pos hg] at he;rw[he];refine AC.mk Tryz.func248 rfl rfl rfl rfl rfl (Wz rfl) ?_;repeat'(first|((with_reducible refine D.nil ?_);refine AX.Bd ?_)|((with_reducible refine D.load ?_);refine L.Dr U U U U U U ?_)|((with_reducible refine D.move ?_);refine L.mv U U U ?_)|((with_reducible refine D.assign ?_);refine L.C6 U U U ?_)|((with_reducible refine D.bin ?_);refine L.bn U U U U U ?_)|((with_reducible refine D.call ?_);first|refine L.c2 (h1) U U U U ?_|refine L.c2 (h2) U U U U ?_)|((with_reducible refine D.box ?_);refine L.bx U U U U ?_)|((with_reducible refine D.alloc ?_);refine L.al U U U ?_)|((with_reducible refine D.store ?_);refine L.st U U U U U U U U U ?_)|((with_reducible refine D.ax ?_);refine L.bd U U U U U ?_)|((with_reducible refine D.aw ?_);first|refine K.sq (AW.AV ?_)|refine K.sq (K.sq ?_)|refine AW.AV ?_|refine AW.B4 U ?_|refine AW.Dq U (fun h=> ?_) (fun h=> ?_)|refine AW.skip ?_|refine AW.ret ?_)|with_reducible refine K.tN ?_|with_reducible refine K.tR ?_|with_reducible refine K.r1 (by with_unfolding_all rfl) (by with_unfolding_all rfl) ?_)
   all_goals first
    |rfl
    |(exfalso;simp at h;omega)
  .rw[if_neg hg] at he;rw[he];have h3:=Yh1 (JU hs hr) hs hz hix;refine AC.mk Tryz.func248 rfl rfl rfl rfl rfl (Wz rfl) ?_;repeat'(first|((with_reducible refine D.nil ?_);refine AX.Bd ?_)|((with_reducible refine D.load ?_);refine L.Dr U U U U U U ?_)|((with_reducible refine D.move ?_);refine L.mv U U U ?_)|((with_reducible refine D.assign ?_);refine L.C6 U U U ?_)|((with_reducible refine D.bin ?_);refine L.bn U U U U U ?_)|((with_reducible refine D.call ?_);first|refine L.c2 (h1) U U U U ?_|refine L.c2 (h2) U U U U ?_|refine L.c2 (h3) U U U U ?_)|((with_reducible refine D.box ?_);refine L.bx U U U U ?_)|((with_reducible refine D.alloc ?_);refine L.al U U U ?_)|((with_reducible refine D.store ?_);refine L.st U U U U U U U U U ?_)|((with_reducible refine D.ax ?_);refine L.bd U U U U U ?_)|((with_reducible refine D.aw ?_);first|refine K.sq (AW.AV ?_)|refine K.sq (K.sq ?_)|refine AW.AV ?_|refine AW.B4 U ?_|refine AW.Dq U (fun h=> ?_) (fun h=> ?_)|refine AW.skip ?_|refine AW.ret ?_)|with_reducible refine K.tN ?_|with_reducible refine K.tR ?_|with_reducible refine K.r1 (by with_unfolding_all rfl) (by with_unfolding_all rfl) ?_)
   all_goals first
    |rfl
    |(exfalso;simp at h;omega)
 rw[if_neg hr] at he;rw[X4] at hr;rw[hr] at h1;have hih:∀m (hm:m<t.args.length),PC E 248 [.agg t.args[m].view,.i room] (HB t.args[m] (Da room t.args[m])):=fun m hm=>by
  have h5:=za Tm.size (Wi hm);exact ih t.args[m] (by omega) (zg hs _ (Wi hm)) (by omega) (Nz (Wi hm) hix)
 clear ih;refine AC.mk Tryz.func248 rfl rfl rfl rfl rfl (Wz rfl) ?_;repeat'(first|((with_reducible refine D.nil ?_);refine AX.Bd ?_)|((with_reducible refine D.load ?_);refine L.Dr U U U U U U ?_)|((with_reducible refine D.move ?_);refine L.mv U U U ?_)|((with_reducible refine D.fieldAddr ?_);refine L.Gp U U U U U ?_)|((with_reducible refine D.assign ?_);refine L.C6 U U U ?_)|((with_reducible refine D.call ?_);first|refine L.LJ U U U U ?_|refine L.c2 (h1) U U U U ?_)|((with_reducible refine D.box ?_);refine L.bx U U U U ?_)|((with_reducible refine D.alloc ?_);refine L.al U U U ?_)|((with_reducible refine D.aw ?_);first|refine K.sq (AW.AV ?_)|refine K.sq (K.sq ?_)|refine AW.AV ?_|refine AW.B6 U ?_|refine AW.skip ?_)|with_reducible refine K.tN ?_)
 refine AW.range t.args.length (fun m=>∀j (hj:j<t.args.length),j<m->Da room t.args[j]=none)
  (fun m=>([(1,.i room),(2,.ptr 0 0),(4,.ptr 1 0),(23,.s .tm t.args),(24,.i t.args.length),(25,.i m)],⟨2,[(0,.var t.view),(1,.var [.i 0,.i 0,.i 0,.slice .nil (.t .ty []),.slice .nil (.t .tm [])])]⟩))
  (by omega) (fun m=>rfl) (fun m=>rfl) U (fun j hj h=>by omega) (Bi.mk [some 0,some 1] _ _ _ U U U U (by(repeat'(first|exact trivial|refine And.intro ?_ ?_|refine⟨_,U,_,U,?_⟩|exact Ao.refl _));done) (by(repeat'(first|exact trivial|refine And.intro ?_ ?_|refine⟨_,U,_,U,_,U,?_⟩|exact Ao.refl _));done)) ?_ ?_
 .intro m hm hP;have hc:=hih m hm;cases hn:Da room t.args[m] with
  |none=>
   rw[hn] at hc;simp only[HB,Yn,Y5,YQ] at hc;repeat'(first|((with_reducible refine D.nil ?_);refine AX.Bd ?_)|((with_reducible refine D.load ?_);first|refine L.Dr U U U U U U ?_|refine L.IV U U U U U ?_)|((with_reducible refine D.move ?_);refine L.mv U U U ?_)|((with_reducible refine D.assign ?_);refine L.C6 U U U ?_)|((with_reducible refine D.call ?_);refine L.c2 (hc) U U U U ?_)|((with_reducible refine D.extract ?_);refine L.ex U U U U ?_)|((with_reducible refine D.alloc ?_);refine L.al U U U ?_)|((with_reducible refine D.store ?_);refine L.st U U U U U U U U U ?_)|((with_reducible refine D.indexAddr ?_);refine L.D9 _ U U U U U U U (by first|assumption|fail) ?_)|((with_reducible refine D.not ?_);refine L.nt U U U ?_)|((with_reducible refine D.aw ?_);first|refine K.sq (AW.AV ?_)|refine K.sq (K.sq ?_)|refine AW.AV ?_|refine AW.B4 U ?_|refine AW.exit ?_)|with_reducible refine K.tN ?_|with_reducible refine K.tE ?_|with_reducible refine K.bX (by with_unfolding_all rfl) ?_)
   exact⟨rfl,ya (p:=fun x:Tm=>Da room x=none) hm hP hn,(Bi.mk [some 0,some 1] _ _ _ U U U U (by(repeat'(first|exact trivial|refine And.intro ?_ ?_|refine⟨_,U,_,U,?_⟩|exact Ao.refl _));done) (by(repeat'(first|exact trivial|refine And.intro ?_ ?_|refine⟨_,U,_,U,_,U,?_⟩|exact Ao.refl _));done))⟩
  |some u=>
   obtain⟨u,f⟩:=u;rw[hn] at hc;simp only[HB,Xe,XA,Xf] at hc;have e:Da room t=some (.mk t.kind t.index t.ty (t.args.set m u),f):=by rw[he,SX room t.args m hm (u,f) hn hP];rfl
   rw[e];simp only[HB,Xe,XA,Xf];repeat'(first|((with_reducible refine D.nil ?_);refine AX.Bd ?_)|((with_reducible refine D.load ?_);first|refine L.Dr U U U U U U ?_|refine L.IV U U U U U ?_)|((with_reducible refine D.move ?_);refine L.mv U U U ?_)|((with_reducible refine D.assign ?_);refine L.C6 U U U ?_)|((with_reducible refine D.call ?_);refine L.c2 (hc) U U U U ?_)|((with_reducible refine D.extract ?_);refine L.ex U U U U ?_)|((with_reducible refine D.alloc ?_);refine L.al U U U ?_)|((with_reducible refine D.store ?_);refine L.st U U U U U U U U U ?_)|((with_reducible refine D.indexAddr ?_);refine L.D9 _ U U U U U U U (by first|assumption|fail) ?_)|((with_reducible refine D.not ?_);refine L.nt U U U ?_)|((with_reducible refine D.aw ?_);(fail_if_success with_reducible refine D.EM (id:=11) ?_);(fail_if_success with_reducible refine D.EN (id:=11) ?_);first|refine K.sq (AW.AV ?_)|refine K.sq (K.sq ?_)|refine AW.AV ?_|refine AW.B6 U ?_|refine AW.skip ?_)|with_reducible refine K.tN ?_)
   refine K.sq (AW.AV ?_);refine L.Gp rfl rfl rfl rfl rfl ?_;refine L.Dr rfl rfl rfl rfl rfl rfl ?_;refine L.KO (te:=54) rfl rfl rfl rfl (by kernel_rfl) rfl rfl rfl rfl (by omega) (by omega) ?_;repeat'(first|((with_reducible refine D.nil ?_);refine AX.Bd ?_)|((with_reducible refine D.load ?_);refine L.Dr U U U U U U ?_)|((with_reducible refine D.move ?_);refine L.mv U U U ?_)|((with_reducible refine D.fieldAddr ?_);refine L.Gp U U U U U ?_)|((with_reducible refine D.store ?_);refine L.st U U U U U U U U U ?_)|((with_reducible refine D.aw ?_);refine K.sq (AW.AV ?_))|with_reducible refine K.tN ?_)
   refine L.Ev m rfl rfl rfl rfl rfl hm rfl ?_;refine L.sta (c:= .tm) (l:=t.args) (u:=u) m rfl rfl rfl rfl rfl rfl rfl rfl hm rfl ?_;repeat'(first|((with_reducible refine D.nil ?_);refine AX.Bd ?_)|with_reducible refine K.tN ?_)
   refine AW.BQ (c:= .tm) 5 t.args.length (t.args.set m u) U (by simp) (by(repeat'(first|exact trivial|exact fun _=>rfl|exact fun h=>absurd U h|exact fun h=>absurd h (by decide)|refine And.intro ?_ ?_|intro _));done) (by(repeat'(first|exact trivial|exact fun _=>rfl|exact fun h=>absurd U h|exact fun h=>absurd h (by decide)|refine And.intro ?_ ?_|intro _));done) ?_;repeat'(first|((with_reducible refine D.nil ?_);refine AX.Bd ?_)|((with_reducible refine D.load ?_);refine L.Dr U U U U U U ?_)|((with_reducible refine D.move ?_);refine L.mv U U U ?_)|((with_reducible refine D.assign ?_);refine L.C6 U U U ?_)|((with_reducible refine D.store ?_);refine L.st U U U U U U U U U ?_)|((with_reducible refine D.aw ?_);first|refine K.sq (AW.AV ?_)|refine AW.ret ?_)|with_reducible refine K.tN ?_|with_reducible refine K.tR ?_|with_reducible refine K.bR ?_|with_reducible refine K.gR ?_|with_reducible refine K.r1 (by with_unfolding_all rfl) (by with_unfolding_all rfl) ?_)
   rfl
 .intro hP;have e:Da room t=none:=by rw[he,Ti room t.args hP];rfl
  rw[e];simp only[HB,Yn,Y5,YQ];repeat'(first|((with_reducible refine D.nil ?_);refine AX.Bd ?_)|((with_reducible refine D.load ?_);refine L.Dr U U U U U U ?_)|((with_reducible refine D.assign ?_);refine L.C6 U U U ?_)|((with_reducible refine D.store ?_);refine L.st U U U U U U U U U ?_)|((with_reducible refine D.aw ?_);first|refine K.sq (AW.AV ?_)|refine AW.ret ?_)|with_reducible refine K.tN ?_|with_reducible refine K.r1 (by with_unfolding_all rfl) (by with_unfolding_all rfl) ?_)
  simp[zk,V.wk,V.Ap,zc,Tm.view]
theorem Zsq(t:Tm):∀b:Int,∀p∈t.vars b,p.2<b+t.size:=by
 induction t using Tm.ind with
 |h t ih=>
  intro b p hp;have hz:=t.size_eq;rw[t.AP,WH] at hp;rcases hp with hp|hp
  .split at hp
   .simp at hp;subst hp;simp only;omega
   .cases hp
  .obtain ⟨x,hx,hp⟩:=WL.1 hp;have h1:=ih x hx _ p hp;have h2:=za Tm.size hx;have:up t.kind b<=b+1:=by simp only[up];split<;>omega
   omega
theorem Zyq{t:Tm}(he:t.err=0)(hf:∀p∈t.vars 0,p.1-p.2<=536870912):∀p∈t.vars 0,0<=p.1/\p.1<1073741824:=fun p hp=>by
 obtain⟨hs,hz⟩:=vb he;have h1:=t.AE hs 0 p hp;have h2:=hf p hp;have h3:=Zsq t 0 p hp;omega
theorem Yaz{t:Tm}(h:Da (4096-t.size) t=none)(k n:Nat):Ee k t n=(t,(n:Int),0):=by
 cases k<;>simp only[Ee,h]
theorem Oc(t:Tm)(steps:Int)(ht:t.full<274877906944):PC E 219 [.agg t.view,.i steps] (.AD [.agg (xp t steps).1.view,.i (xp t steps).2.1,.i (xp t steps).2.2]):=by
 have h1:=wx t (by omega);unfold xp;by_cases he:t.err=0;case neg=>
  rw[if_pos he];refine M.F Tryz.func219 ?_;(repeat' first|refine M.go ?_|refine M.c2 (h1) ?_|refine M.z1 4 ?_|refine M.cs ?_ ?_<;>intro h|refine M.gk ?_|fail);all_goals first
   |rfl
   |(exfalso;simp at h;exact he h)
 rw[he] at h1;rw[if_neg (by simp[he])];obtain⟨hs,hz⟩:=vb he;have h2:=KA 536870912 (by omega) _ t (Wj _) (by omega) hs;rw[<-Mc] at h2;by_cases hst:0<=steps/\steps<=65536;case neg=>
  rw[if_pos (.inl hst)];refine M.F Tryz.func219 ?_;(repeat' first|refine M.gw ?_|refine M.c2 (h1) ?_|refine M.c2 (h2) ?_|refine M.gs ?_ ?_<;>intro h|refine M.cs ?_ ?_<;>intro h|fail);all_goals first
   |rfl
   |(exfalso;simp at h;omega)
   |(exfalso;simp at*;omega)
 cases hn:t.near with
 |false=>
  rw[hn] at h2;rw[if_pos (.inr rfl)];refine M.F Tryz.func219 ?_;(repeat' first|refine M.gw ?_|refine M.c2 (h1) ?_|refine M.c2 (h2) ?_|refine M.gs ?_ ?_<;>intro h|fail);all_goals first
   |rfl
   |(exfalso;simp at h;omega)
   |(exfalso;simp at*;omega)
 |true=>
 rw[hn] at h2;rw[if_neg (by simp[hst])];have hfr:∀p∈t.vars 0,p.1-p.2<=536870912:=fun p hp=>by have:=OT hn p hp;have:=HO t 0 p hp;omega
 generalize hR:Ee steps.toNat t 0=r;refine M.F Tryz.func219 ?_;(repeat' first|refine M.gw ?_|refine M.c2 (h1) ?_|refine M.c2 (h2) ?_|refine M.gs ?_ ?_<;>intro h|fail);all_goals first
  |(exfalso;simp at h;omega)
  |skip
 refine AW.block (AW.loop (ι:={p:Tm×Nat // p.1.err=0/\(∀q∈p.1.vars 0,q.1-q.2<=536870912)/\p.2<=steps.toNat/\Ee (steps.toNat-p.2) p.1 p.2=r})
  (fun p=>([(1,.i steps),(2,.ptr 0 0),(4,.ptr 1 0),(8,.i p.1.2)],⟨2,[(0,.var p.1.1.view),(1,.var [.i 0,.i 0,.i 0,.slice .nil (.t .ty []),.slice .nil (.t .tm [])])]⟩)) (fun p=>steps.toNat-p.1.2) ⟨(t,0),he,hfr,XE _,hR⟩ (M.W [some 0,some 1]) ?_)
 rintro⟨⟨x,n⟩,hx,hxf,hxn,hxe⟩;dsimp only at hx hxf hxn hxe ⊢;obtain⟨hxs,hxz⟩:=vb hx;have hfx:=z6 hx;have c1:=yl _ x (Nat.le_refl _) (by omega);have c2:=Yer (4096-x.size) _ x (Nat.le_refl _) hxs hxz (Zyq hx hxf);have c3:=ut _ x (Nat.le_refl _) (by omega);cases hr:Da (4096-x.size) x with
 |none=>
  rw[hr] at c2;simp only[HB,Yn,Y5,YQ] at c2;rw[Yaz hr] at hxe;subst hxe;(repeat' first|refine M.gw ?_|refine M.c2 (c1) ?_|refine M.c2 (c2) ?_|refine M.c2 (c3) ?_|refine M.zb ?_|fail)
  rfl
 |some y=>
  obtain⟨y,f⟩:=y;rw[hr] at c2;simp only[HB,Xe,XA,Xf] at c2;by_cases hns:n=steps.toNat
  .have e:r=(A4,0,5):=by rw[<-hxe,hns,X6];simp only[Ee,hr]
   subst e;(repeat' first|refine M.gw ?_|refine M.c2 (c1) ?_|refine M.c2 (c2) ?_|refine M.zb ?_|refine M.cs ?_ ?_<;>intro h|fail);all_goals first
    |rfl
    |(exfalso;simp at h;omega)
    |(exfalso;simp at*;omega)
  .obtain ⟨k,hk⟩:∃k,steps.toNat-n=k+1:=⟨steps.toNat-n-1,by omega⟩;rw[hk] at hxe;cases f with
   |false=>
    have e:r=(A4,0,4):=by rw[<-hxe];simp only[Ee,hr]
    subst e;(repeat' first|refine M.gw ?_|refine M.c2 (c1) ?_|refine M.c2 (c2) ?_|refine M.zb ?_|refine M.cs ?_ ?_<;>intro h|fail);all_goals first
     |rfl
     |(exfalso;simp at h;omega)
     |(exfalso;simp at*;omega)
   |true=>
    have e:Ee k y (n+1)=r:=by rw[<-hxe];simp only[Ee,hr]
    obtain⟨f1,f2,f3⟩:=UW _ x y hxs hr;(repeat' first|refine M.gw ?_|refine M.c2 (c1) ?_|refine M.c2 (c2) ?_|refine M.zb ?_|refine M.cs ?_ ?_<;>intro h|fail);all_goals first
     |(exfalso;simp at h;omega)
     |skip
    refine⟨⟨(y,n+1),QT hx hr,f3 _ (by omega) 0 (by omega) hxf,by show n+1<=_;omega,by rw[show steps.toNat-(n+1)=k by omega];exact e⟩,by show steps.toNat-(n+1)<steps.toNat-n;omega,?_⟩;exact(M.W [some 0,some 1])
theorem Ydy(a b:Tm)(ha:a.full<274877906944)(hb:b.full<274877906944)(steps:Int):PC E 215 [.agg a.view,.agg b.view,.i steps] (.i (GK a b steps)):=by
 have h1:=wx a (by omega);have h2:=wx b (by omega);have h3:=Rf _ a b (Wj _) (by omega);have h4:=Oc a steps ha;have h5:=Oc b steps hb;unfold GK;by_cases ea:a.err=0;case neg=>
  rw[if_pos ea];refine M.F Tryz.func215 ?_;(repeat' first|refine M.gw ?_|refine M.c2 (h1) ?_|refine M.cs ?_ ?_<;>intro h|fail);all_goals first
   |rfl
   |(exfalso;simp at h;exact ea h)
 rw[ea] at h1;rw[if_neg (by simp[ea])];by_cases eb:b.err=0;case neg=>
  rw[if_pos eb];refine M.F Tryz.func215 ?_;(repeat' first|refine M.gw ?_|refine M.c2 (h1) ?_|refine M.c2 (h2) ?_|refine M.cs ?_ ?_<;>intro h|fail);all_goals first
   |rfl
   |(exfalso;simp at h;exact eb h)
 rw[eb] at h2;rw[if_neg (by simp[eb])];by_cases eq:a=b
 .rw[if_pos eq];rw[decide_eq_true eq] at h3;refine M.F Tryz.func215 ?_;(repeat' first|refine M.gw ?_|refine M.c2 (h1) ?_|refine M.c2 (h2) ?_|refine M.c2 (h3) ?_|fail)
  rfl
 rw[if_neg eq];rw[decide_eq_false eq] at h3;have g1:(xp a steps).2.2=0->(xp a steps).1.full<274877906944:=fun h=>Vs a steps h;have g2:(xp b steps).2.2=0->(xp b steps).1.full<274877906944:=fun h=>Vs b steps h;generalize xp a steps=A at*;generalize xp b steps=B at*;obtain⟨x,n,e⟩:=A;obtain⟨y,m,f⟩:=B;dsimp only at h4 h5 g1 g2 ⊢;by_cases he:e=0;case neg=>
  rw[if_pos he];refine M.F Tryz.func215 ?_;(repeat' first|refine M.gw ?_|refine M.c2 (h1) ?_|refine M.c2 (h2) ?_|refine M.c2 (h3) ?_|refine M.c2 (h4) ?_|refine M.cs ?_ ?_<;>intro h|fail);all_goals first
   |rfl
   |(exfalso;simp at h;exact he h)
 subst he;rw[if_neg (by simp)];by_cases hf:f=0;case neg=>
  rw[if_pos hf];refine M.F Tryz.func215 ?_;(repeat' first|refine M.gw ?_|refine M.c2 (h1) ?_|refine M.c2 (h2) ?_|refine M.c2 (h3) ?_|refine M.c2 (h4) ?_|refine M.c2 (h5) ?_|refine M.cs ?_ ?_<;>intro h|fail);all_goals first
   |rfl
   |(exfalso;simp at h;exact hf h)
 subst hf;rw[if_neg (by simp)];have h6:=Rf _ x y (Wj _) (by have:=g1 rfl;omega);refine M.F Tryz.func215 ?_;(repeat' first|refine M.gw ?_|refine M.c2 (h1) ?_|refine M.c2 (h2) ?_|refine M.c2 (h3) ?_|refine M.c2 (h4) ?_|refine M.c2 (h5) ?_|refine M.c2 (h6) ?_|refine M.cs ?_ ?_<;>intro h|fail)
 .have:¬x=y:=by simpa using h
  rw[if_neg this]
  rfl
 .have:x=y:=by simpa using h
  rw[if_pos this]
  rfl
theorem Zvv:∀(n:Nat) (f g:Fm),f.full<=n->n<274877906944->g.full<274877906944->f.shape=true->g.shape=true->PC E 181 [.agg f.view,.agg g.view] (.i (F9 f g)):=by
 intro n;induction n with
 |zero=>intro f g h;have:=f.Aa;omega
 |succ n ih=>
 intro f g hsz hb hg hfs hgs;have hfull:=Fm.Af f;have hgull:=Fm.Af g;have h1:=xh _ f.ty g.ty (Wj _) (by omega);have he:=Yio f g;have hl:=zd Tm.full Tm.Aa f.terms;have hl2:=zd Fm.full Fm.Aa f.args;by_cases hk:f.kind=g.kind;case neg=>
  rw[if_neg (fun h=>hk h.1)] at he;rw[he];refine M.F Tryz.func181 ?_;(repeat' first|refine M.go ?_|refine M.c2 (h1) ?_|refine M.gs ?_ ?_<;>intro h|refine M.z1 3 ?_|refine M.cs ?_ ?_<;>intro h|refine M.gk ?_|fail);all_goals first
   |rfl
   |(exfalso;simp_all;done)
 by_cases ht:f.ty=g.ty;case neg=>
  rw[if_neg (fun h=>ht h.2)] at he;rw[he];rw[decide_eq_false ht] at h1;refine M.F Tryz.func181 ?_;(repeat' first|refine M.go ?_|refine M.c2 (h1) ?_|refine M.gs ?_ ?_<;>intro h|refine M.z1 3 ?_|refine M.gk ?_|fail);all_goals first
   |rfl
   |(exfalso;simp_all;done)
 rw[if_pos ⟨hk,ht⟩] at he;rw[decide_eq_true ht] at h1;obtain⟨l1,l2⟩:=Zux hfs hgs hk;refine M.F Tryz.func181 ?_;(repeat' first|refine M.gw ?_|refine M.c2 (h1) ?_|refine M.gs ?_ ?_<;>intro h|fail);all_goals first
  |(exfalso;simp at h;omega)
  |(exfalso;simp at h;exact h hk)
  |skip
 refine AW.range f.terms.length (fun m=>∀j (h1:j<f.terms.length) (h2:j<g.terms.length),j<m->GK f.terms[j] g.terms[j] 1000=0)
  (fun m=>([(2,.ptr 0 0),(3,.ptr 1 0),(24,.i f.terms.length),(25,.i m)],⟨2,[(0,.var f.view),(1,.var g.view)]⟩))
  (by omega) (fun m=>rfl) (fun m=>rfl) rfl (fun j _ _ h=>by omega) (M.W [some 0,some 1]) ?_ ?_
 .intro m hm hP;have hm2:m<g.terms.length:=by omega
  have hs1:=za Tm.full (Wi hm);have hs2:=za Tm.full (Wi hm2);have hc:=Ydy f.terms[m] g.terms[m] (by omega) (by omega) 1000;by_cases e0:GK f.terms[m] g.terms[m] 1000=0
  .rw[e0] at hc;(repeat' first|refine M.gw ?_|refine M.c2 (hc) ?_|fail);refine⟨rfl,fun j h1 h2 hj=> ?_,(M.W [some 0,some 1])⟩;by_cases hjm:j=m
   .subst hjm;exact e0
   .exact hP j h1 h2 (by omega)
  .have e1:=Ts f.terms g.terms m hm hm2 hP e0;rw[if_pos (by rw[e1];exact e0),e1] at he;rw[he];(repeat' first|refine M.gw ?_|refine M.c2 (hc) ?_|refine M.cs ?_ ?_<;>intro h|fail)
   .rfl
   .exfalso;simp at h;exact e0 h
 .intro hP;have e1:=TB f.terms g.terms fun j h1 h2=>hP j h1 h2 (by omega);rw[if_neg (by simp[e1])] at he;(repeat' first|refine M.gw ?_|fail);refine AW.range f.args.length (fun m=>∀j (h1:j<f.args.length) (h2:j<g.args.length),j<m->F9 f.args[j] g.args[j]=0)
   (fun m=>([(2,.ptr 0 0),(3,.ptr 1 0),(45,.i f.args.length),(46,.i m)],⟨2,[(0,.var f.view),(1,.var g.view)]⟩))
   (by omega) (fun m=>rfl) (fun m=>rfl) rfl (fun j _ _ h=>by omega) (M.W [some 0,some 1]) ?_ ?_
  .intro m hm hP2;have hm2:m<g.args.length:=by omega
   have hs1:=za Fm.full (Wi hm);have hs2:=za Fm.full (Wi hm2);have hc:=ih f.args[m] g.args[m] (by omega) (by omega) (by omega) (zv hfs (Wi hm)) (zv hgs (Wi hm2));by_cases e0:F9 f.args[m] g.args[m]=0
   .rw[e0] at hc;(repeat' first|refine M.gw ?_|refine M.c2 (hc) ?_|fail);refine⟨rfl,fun j h1 h2 hj=> ?_,(M.W [some 0,some 1])⟩;by_cases hjm:j=m
    .subst hjm;exact e0
    .exact hP2 j h1 h2 (by omega)
   .have e3:=U2 f.args g.args m hm hm2 hP2 e0;rw[e3] at he;rw[he];(repeat' first|refine M.gw ?_|refine M.c2 (hc) ?_|refine M.cs ?_ ?_<;>intro h|fail)
    .rfl
    .exfalso;simp at h;exact e0 h
  .intro hP2;have e3:=RQ f.args g.args fun j h1 h2=>hP2 j h1 h2 (by omega);rw[e3] at he;rw[he];(repeat' first|refine M.gw ?_|fail)
   rfl
end Go.Ab
