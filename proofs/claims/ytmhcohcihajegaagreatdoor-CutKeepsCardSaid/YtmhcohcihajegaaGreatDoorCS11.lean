/- A part of this seat's proofs. No conditions. -/
import Derived.Test.YtmhcohcihajegaaGreatDoorCS8
namespace Go.Ab
open Go Go.Proofs
set_option maxRecDepth 100000
set_option maxHeartbeats 4000000
set_option linter.all false
def Ld(t:Tm)(o:Option (Tm×Bool)):V:= .AP [.agg ((o.map (·.1)).getD t).view,.bool o.isSome,.bool ((o.map (·.2)).getD true)]
theorem Ynl(room:Int):∀(n:Nat) (t:Tm),t.size<=n->t.shape=true->t.size<=4096->(∀p∈t.vars 0,0<=p.1/\p.1<1073741824)->PC E 212 [.agg t.view,.i room] (Ld t (Dy room t)):=by
 intro n;induction n with
 |zero=>intro t h;have:=t.size_pos;omega
 |succ n ih=>
 intro t hsz hs hz hix;have hfull:=xl t hs;have hse:=t.size_eq;have hlen:=ze Tm.size Tm.size_pos t.args;have h1:=Yro t hs;have he:=Ii room t;by_cases hr:vw t=true
 .have h2:=Ylw (NF hs hr) hs hz;rw[hr] at h1;rw[if_pos hr] at he;by_cases hg:HF t>room
  .rw[if_pos hg] at he;rw[he];refine AC.mk Tryz.func212 rfl rfl rfl rfl rfl (fP rfl) ?_;repeat'(first|((with_reducible refine D.nil ?_);refine AX.Bh ?_)|((with_reducible refine D.load ?_);refine L.Ea U U U U U U ?_)|((with_reducible refine D.move ?_);refine L.mv U U U ?_)|((with_reducible refine D.assign ?_);refine L.DB U U U ?_)|((with_reducible refine D.bin ?_);refine L.bn U U U U U ?_)|((with_reducible refine D.call ?_);first|refine L.c2 (h1) U U U U ?_|refine L.c2 (h2) U U U U ?_)|((with_reducible refine D.box ?_);refine L.bx U U U U ?_)|((with_reducible refine D.alloc ?_);refine L.al U U U ?_)|((with_reducible refine D.store ?_);refine L.st U U U U U U U U U ?_)|((with_reducible refine D.ax ?_);refine L.bd U U U U U ?_)|((with_reducible refine D.aw ?_);first|refine K.sq (AW.A5 ?_)|refine K.sq (K.sq ?_)|refine AW.A5 ?_|refine AW.Cn U ?_|refine AW.D6 U (fun h=> ?_) (fun h=> ?_)|refine AW.skip ?_|refine AW.ret ?_)|with_reducible refine K.tN ?_|with_reducible refine K.tR ?_|with_reducible refine K.r1 kF kF ?_)
   all_goals first
    |rfl
    |(exfalso;simp at h;omega)
  .rw[if_neg hg] at he;rw[he];have h3:=Yoh (NF hs hr) hs hz hix;refine AC.mk Tryz.func212 rfl rfl rfl rfl rfl (fP rfl) ?_;repeat'(first|((with_reducible refine D.nil ?_);refine AX.Bh ?_)|((with_reducible refine D.load ?_);refine L.Ea U U U U U U ?_)|((with_reducible refine D.move ?_);refine L.mv U U U ?_)|((with_reducible refine D.assign ?_);refine L.DB U U U ?_)|((with_reducible refine D.bin ?_);refine L.bn U U U U U ?_)|((with_reducible refine D.call ?_);first|refine L.c2 (h1) U U U U ?_|refine L.c2 (h2) U U U U ?_|refine L.c2 (h3) U U U U ?_)|((with_reducible refine D.box ?_);refine L.bx U U U U ?_)|((with_reducible refine D.alloc ?_);refine L.al U U U ?_)|((with_reducible refine D.store ?_);refine L.st U U U U U U U U U ?_)|((with_reducible refine D.ax ?_);refine L.bd U U U U U ?_)|((with_reducible refine D.aw ?_);first|refine K.sq (AW.A5 ?_)|refine K.sq (K.sq ?_)|refine AW.A5 ?_|refine AW.Cn U ?_|refine AW.D6 U (fun h=> ?_) (fun h=> ?_)|refine AW.skip ?_|refine AW.ret ?_)|with_reducible refine K.tN ?_|with_reducible refine K.tR ?_|with_reducible refine K.r1 kF kF ?_)
   all_goals first
    |rfl
    |(exfalso;simp at h;omega)
 rw[if_neg hr] at he;rw[jU] at hr;rw[hr] at h1;have hih:∀m (hm:m<t.args.length),PC E 212 [.agg t.args[m].view,.i room] (Ld t.args[m] (Dy room t.args[m])):=fun m hm=>by
  have h5:=zc Tm.size (fA hm);exact ih t.args[m] kn (zd hs _ (fA hm)) kn (P8 (fA hm) hix)
 clear ih;refine AC.mk Tryz.func212 rfl rfl rfl rfl rfl (fP rfl) ?_;repeat'(first|((with_reducible refine D.nil ?_);refine AX.Bh ?_)|((with_reducible refine D.load ?_);refine L.Ea U U U U U U ?_)|((with_reducible refine D.move ?_);refine L.mv U U U ?_)|((with_reducible refine D.fieldAddr ?_);refine L.J2 U U U U U ?_)|((with_reducible refine D.assign ?_);refine L.DB U U U ?_)|((with_reducible refine D.call ?_);first|refine L.NW U U U U ?_|refine L.c2 (h1) U U U U ?_)|((with_reducible refine D.box ?_);refine L.bx U U U U ?_)|((with_reducible refine D.alloc ?_);refine L.al U U U ?_)|((with_reducible refine D.aw ?_);first|refine K.sq (AW.A5 ?_)|refine K.sq (K.sq ?_)|refine AW.A5 ?_|refine AW.Cp U ?_|refine AW.skip ?_)|with_reducible refine K.tN ?_)
 refine M.rp t.args.length (fun m=>∀j (hj:j<t.args.length),j<m->Dy room t.args[j]=none)
  (fun m=>([(1,.i room),(2,.ptr 0 0),(4,.ptr 1 0),(23,.s .tm t.args),(24,.i t.args.length),(25,.i m)],⟨2,[(0,.var t.view),(1,.var [.i 0,.i 0,.i 0,.slice .nil (.t .ty []),.slice .nil (.t .tm [])])]⟩))
  (fun j hj h=>kn) (Bg.mk Bo _ _ _ U U U U (by(repeat'(first|exact trivial|refine And.intro ?_ ?_|refine⟨_,U,_,U,?_⟩|exact Ap.refl _));done) (by(repeat'(first|exact trivial|refine And.intro ?_ ?_|refine⟨_,U,_,U,_,U,?_⟩|exact Ap.refl _));done)) ?_ ?_
 .intro m hm hP;have hc:=hih m hm;cases hn:Dy room t.args[m] with
  |none=>
   rw[hn] at hc;simp only[Ld,jh,jV,jG] at hc;repeat'(first|((with_reducible refine D.nil ?_);refine AX.Bh ?_)|((with_reducible refine D.load ?_);first|refine L.Ea U U U U U U ?_|refine L.L7 U U U U U ?_)|((with_reducible refine D.move ?_);refine L.mv U U U ?_)|((with_reducible refine D.assign ?_);refine L.DB U U U ?_)|((with_reducible refine D.call ?_);refine L.c2 (hc) U U U U ?_)|((with_reducible refine D.extract ?_);refine L.ex U U U U ?_)|((with_reducible refine D.alloc ?_);refine L.al U U U ?_)|((with_reducible refine D.store ?_);refine L.st U U U U U U U U U ?_)|((with_reducible refine D.indexAddr ?_);refine L.Fc _ U U U U U U U mu ?_)|((with_reducible refine D.not ?_);refine L.nt U U U ?_)|((with_reducible refine D.aw ?_);first|refine K.sq (AW.A5 ?_)|refine K.sq (K.sq ?_)|refine AW.A5 ?_|refine AW.Cn U ?_|refine AW.exit ?_)|with_reducible refine K.tN ?_|with_reducible refine K.tE ?_|with_reducible refine K.bX kF ?_)
   exact⟨rfl,ym (p:=fun x:Tm=>Dy room x=none) hm hP hn,(Bg.mk Bo _ _ _ U U U U (by(repeat'(first|exact trivial|refine And.intro ?_ ?_|refine⟨_,U,_,U,?_⟩|exact Ap.refl _));done) (by(repeat'(first|exact trivial|refine And.intro ?_ ?_|refine⟨_,U,_,U,_,U,?_⟩|exact Ap.refl _));done))⟩
  |some u=>
   obtain⟨u,f⟩:=u;rw[hn] at hc;simp only[Ld,gM,iq,gI] at hc;have e:Dy room t=some (.mk t.kind t.index t.ty (t.args.set m u),f):=by rw[he,eV room t.args m hm (u,f) hn hP];rfl
   rw[e];simp only[Ld,gM,iq,gI];repeat'(first|((with_reducible refine D.nil ?_);refine AX.Bh ?_)|((with_reducible refine D.load ?_);first|refine L.Ea U U U U U U ?_|refine L.L7 U U U U U ?_)|((with_reducible refine D.move ?_);refine L.mv U U U ?_)|((with_reducible refine D.assign ?_);refine L.DB U U U ?_)|((with_reducible refine D.call ?_);refine L.c2 (hc) U U U U ?_)|((with_reducible refine D.extract ?_);refine L.ex U U U U ?_)|((with_reducible refine D.alloc ?_);refine L.al U U U ?_)|((with_reducible refine D.store ?_);refine L.st U U U U U U U U U ?_)|((with_reducible refine D.indexAddr ?_);refine L.Fc _ U U U U U U U mu ?_)|((with_reducible refine D.not ?_);refine L.nt U U U ?_)|((with_reducible refine D.aw ?_);(fail_if_success with_reducible refine D.F6 (id:=11) ?_);(fail_if_success with_reducible refine D.FR (id:=11) ?_);first|refine K.sq (AW.A5 ?_)|refine K.sq (K.sq ?_)|refine AW.A5 ?_|refine AW.Cp U ?_|refine AW.skip ?_)|with_reducible refine K.tN ?_)
   refine K.sq (AW.A5 ?_);refine L.J2 rfl rfl rfl rfl rfl ?_;refine L.Ea rfl rfl rfl rfl rfl rfl ?_;refine L.RB (te:=67) rfl rfl rfl rfl kA rfl rfl rfl rfl kn kn ?_;repeat'(first|((with_reducible refine D.nil ?_);refine AX.Bh ?_)|((with_reducible refine D.load ?_);refine L.Ea U U U U U U ?_)|((with_reducible refine D.move ?_);refine L.mv U U U ?_)|((with_reducible refine D.fieldAddr ?_);refine L.J2 U U U U U ?_)|((with_reducible refine D.store ?_);refine L.st U U U U U U U U U ?_)|((with_reducible refine D.aw ?_);refine K.sq (AW.A5 ?_))|with_reducible refine K.tN ?_)
   refine L.F4 m rfl rfl rfl rfl rfl hm rfl ?_;refine L.sta (c:= .tm) (l:=t.args) (u:=u) m rfl rfl rfl rfl rfl rfl rfl rfl hm rfl ?_;repeat'(first|((with_reducible refine D.nil ?_);refine AX.Bh ?_)|with_reducible refine K.tN ?_)
   refine AW.B8 (c:= .tm) 5 t.args.length (t.args.set m u) rfl ko (by(repeat'(first|exact trivial|exact fun _=>rfl|exact fun h=>absurd rfl h|exact fun h=>absurd h kq|refine And.intro ?_ ?_|intro _));done) (by(repeat'(first|exact trivial|exact fun _=>rfl|exact fun h=>absurd rfl h|exact fun h=>absurd h kq|refine And.intro ?_ ?_|intro _));done) ?_;repeat'(first|((with_reducible refine D.nil ?_);refine AX.Bh ?_)|((with_reducible refine D.load ?_);refine L.Ea U U U U U U ?_)|((with_reducible refine D.move ?_);refine L.mv U U U ?_)|((with_reducible refine D.assign ?_);refine L.DB U U U ?_)|((with_reducible refine D.store ?_);refine L.st U U U U U U U U U ?_)|((with_reducible refine D.aw ?_);first|refine K.sq (AW.A5 ?_)|refine AW.ret ?_)|with_reducible refine K.tN ?_|with_reducible refine K.tR ?_|with_reducible refine K.bR ?_|with_reducible refine K.gR ?_|with_reducible refine K.r1 kF kF ?_)
   rfl
 .intro hP;have e:Dy room t=none:=by rw[he,YF room t.args hP];rfl
  rw[e];simp only[Ld,jh,jV,jG];repeat'(first|((with_reducible refine D.nil ?_);refine AX.Bh ?_)|((with_reducible refine D.load ?_);refine L.Ea U U U U U U ?_)|((with_reducible refine D.assign ?_);refine L.DB U U U ?_)|((with_reducible refine D.store ?_);refine L.st U U U U U U U U U ?_)|((with_reducible refine D.aw ?_);first|refine K.sq (AW.A5 ?_)|refine AW.ret ?_)|with_reducible refine K.tN ?_|with_reducible refine K.r1 kF kF ?_)
  simp[zn,V.wk,V.Ar,za,Tm.view]
theorem Zya(t:Tm):∀b:Int,∀p∈t.vars b,p.2<b+t.size:=by
 induction t using Tm.ind with
 |h t ih=>
  intro b p hp;have hz:=t.size_eq;rw[t.AY,fV] at hp;rcases hp with hp|hp
  .split at hp
   .simp at hp;subst hp;simp only;omega
   .cases hp
  .obtain ⟨x,hx,hp⟩:=gh.1 hp;have h1:=ih x hx _ p hp;have h2:=zc Tm.size hx;have:up t.kind b<=b+1:=kU
   omega
theorem Yhl{t:Tm}(he:t.err=0)(hf:∀p∈t.vars 0,p.1-p.2<=536870912):∀p∈t.vars 0,0<=p.1/\p.1<1073741824:=fun p hp=>by
 obtain⟨hs,hz⟩:=I8 he;have h1:=t.AR hs 0 p hp;have h2:=hf p hp;have h3:=Zya t 0 p hp;omega
theorem Ygf{t:Tm}(h:Dy (4096-t.size) t=none)(k n:Nat):Dv k t n=(t,(n:Int),0):=by
 cases k<;>simp only[Dv,h]
theorem UK(t:Tm)(steps:Int)(ht:t.full<274877906944):PC E 173 [.agg t.view,.i steps] (.AP [.agg (yv t steps).1.view,.i (yv t steps).2.1,.i (yv t steps).2.2]):=by
 have h1:=LS t kn;unfold yv;by_cases he:t.err=0;case neg=>
  rw[if_pos he];refine M.F Tryz.func173 ?_;(repeat' first|refine M.o1 @h1 ?_|refine M.z1 4 ?_|refine M.cs ?_ ?_<;>intro h|refine M.gk ?_|fail);all_goals first
   |rfl
   |(exfalso;simp at h;exact he h)
 rw[he] at h1;rw[if_neg lB];obtain⟨hs,hz⟩:=I8 he;have h2:=UD 536870912 kn _ t (fB _) kn hs;rw[<-YO] at h2;by_cases hst:0<=steps/\steps<=65536;case neg=>
  rw[if_pos (.inl hst)];refine M.F Tryz.func173 ?_;(repeat' first|refine M.w2 @h1 @h2 ?_|refine M.gs ?_ ?_<;>intro h|refine M.cs ?_ ?_<;>intro h|fail);all_goals first
   |rfl
   |(exfalso;simp at h;omega)
   |(exfalso;simp at*;omega)
 cases hn:t.near with
 |false=>
  rw[hn] at h2;rw[if_pos (.inr rfl)];refine M.F Tryz.func173 ?_;(repeat' first|refine M.w2 @h1 @h2 ?_|refine M.gs ?_ ?_<;>intro h|fail);all_goals first
   |rfl
   |(exfalso;simp at h;omega)
   |(exfalso;simp at*;omega)
 |true=>
 rw[hn] at h2;rw[if_neg (by simp[hst])];have hfr:∀p∈t.vars 0,p.1-p.2<=536870912:=fun p hp=>by have:=TO hn p hp;have:=yw t 0 p hp;omega
 generalize hR:Dv steps.toNat t 0=r;refine M.F Tryz.func173 ?_;(repeat' first|refine M.w2 @h1 @h2 ?_|refine M.gs ?_ ?_<;>intro h|fail);all_goals first
  |(exfalso;simp at h;omega)
  |skip
 refine AW.block (AW.loop (ι:={p:Tm×Nat // p.1.err=0/\(∀q∈p.1.vars 0,q.1-q.2<=536870912)/\p.2<=steps.toNat/\Dv (steps.toNat-p.2) p.1 p.2=r})
  (fun p=>([(1,.i steps),(2,.ptr 0 0),(4,.ptr 1 0),(8,.i p.1.2)],⟨2,[(0,.var p.1.1.view),(1,.var [.i 0,.i 0,.i 0,.slice .nil (.t .ty []),.slice .nil (.t .tm [])])]⟩)) (fun p=>steps.toNat-p.1.2) ⟨(t,0),he,hfr,iH _,hR⟩ (M.W Bo) ?_)
 rintro⟨⟨x,n⟩,hx,hxf,hxn,hxe⟩;dsimp only at hx hxf hxn hxe ⊢;obtain⟨hxs,hxz⟩:=I8 hx;have hfx:=ye hx;have c1:=xo _ x (Nat.le_refl _) kn;have c2:=Ynl (4096-x.size) _ x (Nat.le_refl _) hxs hxz (Yhl hx hxf);have c3:=Kp _ x (Nat.le_refl _) kn;cases hr:Dy (4096-x.size) x with
 |none=>
  rw[hr] at c2;simp only[Ld,jh,jV,jG] at c2;rw[Ygf hr] at hxe;subst hxe;(repeat' first|refine M.w3 @c1 @c2 @c3 ?_|refine M.zb ?_|fail)
  rfl
 |some y=>
  obtain⟨y,f⟩:=y;rw[hr] at c2;simp only[Ld,gM,iq,gI] at c2;by_cases hns:n=steps.toNat
  .have e:r=(AB,0,5):=by rw[<-hxe,hns,jd];simp only[Dv,hr]
   subst e;(repeat' first|refine M.w2 @c1 @c2 ?_|refine M.zb ?_|refine M.cs ?_ ?_<;>intro h|fail);all_goals first
    |rfl
    |(exfalso;simp at h;omega)
    |(exfalso;simp at*;omega)
  .obtain ⟨k,hk⟩:∃k,steps.toNat-n=k+1:=⟨steps.toNat-n-1,kn⟩;rw[hk] at hxe;cases f with
   |false=>
    have e:r=(AB,0,4):=by rw[<-hxe];simp only[Dv,hr]
    subst e;(repeat' first|refine M.w2 @c1 @c2 ?_|refine M.zb ?_|refine M.cs ?_ ?_<;>intro h|fail);all_goals first
     |rfl
     |(exfalso;simp at h;omega)
     |(exfalso;simp at*;omega)
   |true=>
    have e:Dv k y (n+1)=r:=by rw[<-hxe];simp only[Dv,hr]
    obtain⟨f1,f2,f3⟩:=Yw _ x y hxs hr;(repeat' first|refine M.w2 @c1 @c2 ?_|refine M.zb ?_|refine M.cs ?_ ?_<;>intro h|fail);all_goals first
     |(exfalso;simp at h;omega)
     |skip
    refine⟨⟨(y,n+1),UE hx hr,f3 _ kn 0 kn hxf,by show n+1<=_;omega,by rw[show steps.toNat-(n+1)=k by omega];exact e⟩,by show steps.toNat-(n+1)<steps.toNat-n;omega,?_⟩;exact(M.W Bo)
end Go.Ab
namespace Go.Ab
open Go Go.Proofs
set_option maxRecDepth 100000
set_option maxHeartbeats 40000000
set_option linter.all false
theorem Ylm:∀(n:Nat) (t:Tm) (g:List Ty),t.full<=n->n<274877906944->t.shape=true->(∀x∈g,x.err=0)->g.length+n<274877906944->PC E 239 [.s .ty g,.agg t.view] (.AP [.agg (t.inf g).1.view,.i (t.inf g).2]):=by
 intro n;induction n with
 |zero=>intro t g h;have:=t.Ad;omega
 |succ n ih=>
 intro t g hsz hb hsh hg hgn;have hsz':=Tm.Ag t;have hlen:=ze Tm.full Tm.Ad t.args;have hix:=OO hsh;have hak:=KY hsh;have hargs:=zd hsh;have hinf:=Tm.Ba g t;have e64:∀{x:Ty},x.err=0->x.size<=64:=fun h=>((Ty.Aa _).1 h).2;by_cases k1:t.kind=1
 .rw[if_pos k1] at hinf;have hk:(t.kind==1)=true:=by simp[k1]
  refine M.F Tryz.func239 ?_;by_cases hlt:t.index>=g.length
  .rw[if_pos hlt] at hinf;(repeat' first|refine M.w0 ?_|refine M.cs ?_ ?_<;>intro h|fail);all_goals first|exfalso;simp_all;done|simp[zn,V.wk,V.Ar,za,Ty.view,hinf,BH];done|exfalso;simp at*;omega
  .rw[if_neg hlt] at hinf;have h0:g.length-1-t.index.toNat<g.length:=kn
   have hcp:=uh _ (g[g.length-1-t.index.toNat]) (fB _) (by have:=e64 (hg _ (fA h0));omega);rw[Oi h0] at hinf;(repeat' first|refine M.w0 ?_|refine M.cs ?_ ?_<;>intro h|fail);all_goals first
    |(exfalso;simp_all;done)
    |(exfalso;simp at*;omega)
    |skip
   refine L.Fc (g.length-1-t.index.toNat) rfl rfl rfl rfl kn rfl rfl h0 ?_;refine M.w1 @hcp ?_;simp[zn,V.wk,V.Ar,za,Ty.view,hinf]
 rw[if_neg k1] at hinf;by_cases k2:t.kind=2
 .rw[if_pos k2] at hinf;have hl1:t.args.length=1:=by rw[k2] at hak;exact(gV hak).symm
  have h0:0<t.args.length:=kn
  have hte:t.ty.err=0:=Ti hsh (by rw[k2];rfl);have hs2:=zc Tm.full (fA h0);have hg':∀x∈g++[t.ty],x.err=0:=fun x hx=>by
   rcases fV.1 hx with hx|hx
   .exact hg x hx
   .simp at hx;subst hx;exact hte
  have hc:=ih t.args[0] (g++[t.ty]) kn kn (hargs _ (fA h0)) hg' kC;have hgood:=Tm.Ex t.args[0] (g++[t.ty]) (hargs _ (fA h0)) hg';have hinfs:Tm.A1 (g++[t.ty]) t.args=if(t.args[0].inf (g++[t.ty])).2≠0 then([],(t.args[0].inf (g++[t.ty])).2) else([(t.args[0].inf (g++[t.ty])).1],0):=
   (congrArg (Tm.A1 (g++[t.ty])) (PK hl1)).trans (by simp only[Tm.A1,ne_eq,not_true_eq_false,if_false])
  have hf:(t.args[0].inf (g++[t.ty])).2=0->_:=fun h=>L5 t.ty (t.args[0].inf (g++[t.ty])).1 (by have:=e64 hte;omega) (by have:=e64 (hgood h);omega);have ho:(t.args[0].inf (g++[t.ty])).2=0->_:=fun h=>Yh (xx t.ty (t.args[0].inf (g++[t.ty])).1) (by have:=e64 (hgood h);have:=e64 hte;simp only[xx,Ty.size,Ty.sizes];omega);refine M.F Tryz.func239 ?_;(repeat' first|refine M.w1 @hc ?_|refine M.c2 (hf kP) ?_|refine M.c2 (ho kP) ?_|refine M.cs ?_ ?_<;>intro h|fail);all_goals first
   |(exfalso;simp_all;done)
   |skip
  .have h':(t.args[0].inf (g++[t.ty])).2≠0:=ku
   rw[if_pos h'] at hinfs;rw[hinfs,if_pos h'] at hinf;simp[zn,V.wk,V.Ar,za,Ty.view,hinf,BH]
  .have h':¬(t.args[0].inf (g++[t.ty])).2≠0:=ku
   rw[if_neg h'] at hinfs;rw[hinfs] at hinf;have hinf':t.inf g=A9 (xx t.ty (t.args[0].inf (g++[t.ty])).1):=by rw[hinf];rfl
   rw[hinf'];by_cases he:(xx t.ty (t.args[0].inf (g++[t.ty])).1).err=0
   .simp[zn,V.wk,V.Ar,za,Ty.view,A9,he]
   .simp[zn,V.wk,V.Ar,za,Ty.view,A9,he]
 rw[if_neg k2] at hinf;refine M.F Tryz.func239 ?_;(repeat' first|refine M.w0 ?_|refine M.cs ?_ ?_<;>intro h|fail);all_goals first
  |(exfalso;simp_all;done)
  |skip
 refine M.rp t.args.length (fun m=>∀j (hj:j<t.args.length),j<m->(t.args[j].inf g).2=0)
  (fun m=>([(0,.s .ty g),(3,.ptr 0 0),(4,.ptr 1 0),(8,.slice (.own 2) (.t .ty ((t.args.take m).map fun x=>(x.inf g).1))),(67,.s .tm t.args),(68,.i t.args.length),(69,.i m)],⟨3,[(0,.var t.view),(1,.var [.i 0,.slice .nil (.t .ty [])]),(2,.row)]⟩))
  lI (M.W RG) ?_ ?_
 .intro m hm hP;have hs2:=zc Tm.full (fA hm);have hc:=ih t.args[m] g kn kn (hargs _ (fA hm)) hg kn;(repeat' first|refine M.w1 @hc ?_|refine M.cs ?_ ?_<;>intro h|fail)
  .have h':(t.args[m].inf g).2≠0:=ku
   have h2:=Tm.Jf g t.args m hm hP h';rw[h2,if_pos h'] at hinf;simp[zn,V.wk,V.Ar,za,Ty.view,hinf,BH]
  .have h':(t.args[m].inf g).2=0:=ku
   refine⟨rfl,ym (p:=fun x:Tm=>(x.inf g).2=0) hm hP h',?_⟩;exact(M.W [some 0,some 1,some 5] (hf:=(by(repeat'(first|exact trivial|refine And.intro ?_ ?_|refine⟨_,U,_,U,?_⟩|exact Ap.refl _|exact Ap.of_eq kO));done)))
 .intro hP;have hall:∀x∈t.args,(x.inf g).2=0:=fun x hx=>by
   obtain⟨j,hj,rfl⟩:=jx.1 hx;exact hP j hj hj
  have h5:=Tm.Fu g t.args hall;have hgood:∀x∈t.args.map (fun x=>(x.inf g).1),x.err=0:=fun x hx=>by
   obtain⟨y,hy,rfl⟩:=fO.1 hx;exact Tm.Ex y g (hargs y hy) hg (hall y hy)
  rw[h5] at hinf;simp only[ne_eq,not_true_eq_false,if_false] at hinf;have hLl:(t.args.map fun x=>(x.inf g).1).length=t.args.length:=ko
  rw[show t.args.take t.args.length=t.args from fH];generalize hL:t.args.map (fun x=>(x.inf g).1)=L at*;have hty:=Ti hsh;have hcpT:x9 t.kind=true->_:=fun h=>uh _ t.ty (fB _) (by have:=e64 (hty h);omega);clear hP hall h5 hargs hlen ih hsz' hix hsz;rw[<-hLl] at hak;rcases YB hak with⟨hn,hk⟩|⟨hn,hk⟩|⟨hn,hk⟩|⟨hn,hk⟩
  .have hLL:=fX hn;subst hLL;obtain⟨k,i,th,xs⟩:=t;simp only[Tm.Ai,Tm.AO] at hk hinf;rcases hk with rfl|rfl|rfl|rfl
   .exact absurd rfl k1
   all_goals
    refine M.v3 @DR @Gu @VS ?_;simp[zn,V.wk,V.Ar,za,Ty.view,hinf,Cd,Ac,Al,Kj]
  .obtain ⟨x,hLL⟩:=Ww hn;subst hLL;have hx:=hgood x ko;have hxn:=wz _ x Ac (fB _) (by have:=e64 hx;omega);have hx2:x.kind=3->∃y z,x.args=[y,z]:=fun h=>Ty.CW ((Ty.Aa _).1 hx).1 (.inl h);obtain⟨k,i,th,xs⟩:=t;simp only[Tm.Ai,Tm.AO] at hk hinf;rcases hk with rfl|rfl|rfl|rfl
   .exact absurd rfl k2
   .repeat' (first|refine M.v3 @DR @Gu @hxn ?_|refine M.cs ?_ ?_<;>intro h|fail)
    .have h':¬x=Ac:=ku
     simp[zn,V.wk,V.Ar,za,Ty.view,hinf,Cd,h',BH]
    .have h':x=Ac:=ku
     simp[zn,V.wk,V.Ar,za,Ty.view,hinf,Cd,h',Ac]
   all_goals
    by_cases hx3:x.kind=3
    .obtain ⟨y,z,hyz⟩:=hx2 hx3;obtain⟨xk,xa⟩:=x;simp only[Ty.Ai,Ty.Af] at hx3 hyz;subst hx3;subst hyz;refine M.v2 @DR @Gu ?_;simp[zn,V.wk,V.Ar,za,Ty.view,EC.view,hinf,Cd]
    .repeat' (first|refine M.v2 @DR @Gu ?_|refine M.cs ?_ ?_<;>intro h|fail)
     .simp[zn,V.wk,V.Ar,za,Ty.view,hinf,Cd,hx3,BH]
     all_goals exact absurd ku hx3
  .obtain ⟨x,y,hLL⟩:=SQ hn;subst hLL;have hx:=hgood x ko;have hy:=hgood y ko;have ex:=e64 hx;have ey:=e64 hy;have hxn:=wz _ x Ac (fB _) kn;have hyl:=wz _ y Al (fB _) kn;have hx2:x.kind=4->∃y z,x.args=[y,z]:=fun h=>Ty.CW ((Ty.Aa _).1 hx).1 (.inr h);obtain⟨k,i,th,xs⟩:=t;simp only[Tm.Ai,Tm.AO] at hk hinf;rcases hk with rfl|rfl|rfl
   .by_cases hx3:x.kind=4
    .obtain ⟨a,b,hab⟩:=hx2 hx3;obtain⟨xk,xa⟩:=x;simp only[Ty.Ai,Ty.Af] at hx3 hab;subst hx3;subst hab;simp only[Ty.size,Ty.sizes] at ex;have hay:=wz _ a y (fB _) kn;(repeat' first|refine M.v3 @DR @Gu @hay ?_|refine M.cs ?_ ?_<;>intro h|fail)
     .have h':¬a=y:=ku
      simp[zn,V.wk,V.Ar,za,Ty.view,hinf,Cd,h',BH]
     .have h':a=y:=ku
      simp[zn,V.wk,V.Ar,za,Ty.view,EC.view,hinf,Cd,h']
    .repeat' (first|refine M.w2 @DR @Gu ?_|refine M.gs ?_ ?_<;>intro h|refine M.bl ?_|fail)
     .simp[zn,V.wk,V.Ar,za,Ty.view,hinf,Cd,hx3,BH]
     .exact absurd ku hx3
   .clear hgood hLl hL hak hn hsh hcpT hty e64 hg hx2;(repeat' first|refine M.w4 @DR @Gu @hxn @hyl ?_|refine M.gs ?_ ?_<;>intro h|refine M.bl ?_|refine M.cs ?_ ?_<;>intro h|fail);all_goals
     clear hxn hyl;by_cases p1:x=Ac<;>by_cases p2:y=Al<;>first|exfalso;simp[p1,p2] at*;done|simp[zn,V.wk,V.Ar,za,Ty.view,EC.view,hinf,Cd,p1,p2,BH];done|(simp[zn,V.wk,V.Ar,za,Ty.view,EC.view,hinf,Cd,p1,p2];rfl)|simp[zn,V.wk,V.Ar,za,Ty.view,EC.view,hinf,Cd,p1,p2,Al];done
   .have htw:=cF x y kn kn;have hok:=Yh (C4 x y) (by simp only[C4,Ty.size,Ty.sizes];omega);refine M.v4 @DR @Gu @htw @hok ?_;by_cases he:(C4 x y).err=0
    .simp[zn,V.wk,V.Ar,za,Ty.view,hinf,Cd,A9,he]
    .simp[zn,V.wk,V.Ar,za,Ty.view,hinf,Cd,A9,he]
  .obtain ⟨x,y,z,hLL⟩:=aV hn;subst hLL;have hx:=e64 (hgood x ko);have hy:=e64 (hgood y ko);have hz:=e64 (hgood z ko);have ht:t.ty.size<=64:=e64 (hty (by rcases hk with hk|hk<;>rw[hk]<;>rfl));have hcp:=uh _ t.ty (fB _) kn;have hs1:=wz _ x t.ty (fB _) kn;have hf1:=L5 t.ty t.ty kn kn;obtain⟨k,i,th,xs⟩:=t;simp only[Tm.Ai,Tm.AO] at hk hinf ht hs1 hf1 hcp;rcases hk with rfl|rfl
   .have hf2:=L5 Ac (xx th th) kq mM;have hs2:=wz _ y (xx Ac (xx th th)) (fB _) kn;have hs3:=wz _ z Ac (fB _) kn;clear hgood hLl hL hak hn hsh hcpT hty e64 hg;(repeat' first|refine M.w6 @DR @Gu @hs1 @hf1 @hf2 @hs2 ?_|refine M.c2 (hs3) ?_|refine M.c2 (hcp) ?_|refine M.gs ?_ ?_<;>intro h|refine M.bl ?_|refine M.cs ?_ ?_<;>intro h|fail);all_goals
     clear hs1 hf1 hcp hf2 hs2 hs3;by_cases p1:x=th<;>by_cases p2:y=xx Ac (xx th th)<;>by_cases p3:z=Ac<;>first|exfalso;simp[p1,p2,p3] at*;done|simp[zn,V.wk,V.Ar,za,Ty.view,EC.view,hinf,Cd,p1,p2,p3,BH];done
   .have hf2:=L5 Al (xx th th) kq mM;have hf3:=L5 Ac (xx Al (xx th th)) kq (by simp only[xx,Al,Ty.size,Ty.sizes];omega);have hs2:=wz _ y (xx Ac (xx Al (xx th th))) (fB _) kn;have hs3:=wz _ z Al (fB _) kn;clear hgood hLl hL hak hn hsh hcpT hty e64 hg;(repeat' first|refine M.w6 @DR @Gu @hs1 @hf1 @hf2 @hf3 ?_|refine M.c2 (hs2) ?_|refine M.c2 (hs3) ?_|refine M.c2 (hcp) ?_|refine M.gs ?_ ?_<;>intro h|refine M.bl ?_|refine M.cs ?_ ?_<;>intro h|fail);all_goals
     clear hs1 hf1 hcp hf2 hs2 hs3;by_cases p1:x=th<;>by_cases p2:y=xx Ac (xx Al (xx th th))<;>by_cases p3:z=Al<;>first|exfalso;simp[p1,p2,p3] at*;done|simp[zn,V.wk,V.Ar,za,Ty.view,EC.view,hinf,Cd,p1,p2,p3,BH];done
end Go.Ab
