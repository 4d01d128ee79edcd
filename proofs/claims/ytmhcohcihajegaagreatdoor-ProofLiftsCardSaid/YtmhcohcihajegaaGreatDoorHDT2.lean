/- A part of this seat's proofs. No conditions. -/
import Derived.Test.YtmhcohcihajegaaGreatDoorHDT1
namespace Go.Ab
open Go
set_option linter.all false
theorem Zem(k b:Int)(hk:upF k 0=0)(x y:Fm):zp b (Zal k x y)=zp b x+zp b y:=by
 unfold zp;rw[Fm.tms_eq];have e1:(Zal k x y).terms=[]:=rfl;have e2:(Zal k x y).args=[x,y]:=rfl;have e3:(Zal k x y).kind=k:=rfl;rw[e1,e2,e3,hk];simp[xo]
theorem Zd0(k b:Int)(s:Ty)(hk:upF k 0=1)(x:Fm):zp b (quF k s x)=zp (b+1) x:=by
 unfold zp;rw[Fm.tms_eq];have e1:(quF k s x).terms=[]:=rfl;have e2:(quF k s x).args=[x]:=rfl;have e3:(quF k s x).kind=k:=rfl;rw[e1,e2,e3,hk];have:=Zky b x 0 1;rw[Int.zero_add] at this;simp[this]
theorem Zg7(b:Int)(s t:Tm):zp b (eqF s t)=cnt b (s.vars 0)+cnt b (t.vars 0):=by
 unfold zp;rw[Fm.tms_eq];have e1:(eqF s t).terms=[s,t]:=rfl;have e2:(eqF s t).args=[]:=rfl;rw[e1,e2];simp[u5]
theorem Yeb{a:Int}{l:List (Int×Int)}(h:∀p∈l,p.1-p.2≠a):cnt a l=0:=by
 unfold cnt;rw[List.length_eq_zero_iff,List.filter_eq_nil_iff];intro p hp;simpa using h p hp
theorem Zo0{k:Int}:∀{l:List (Tm×Int)},(∀q∈l,cnt (k+q.2) (q.1.vars 0)=0)->u5 k l=0
 |[],_=>rfl
 |q::l,h=>by
  simp only[u5];rw[Zo0 fun p hp=>h p (by simp[hp]),h q (by simp)]
theorem Zdx{f:Fm}(h:f.okT [])(hs:f.shape=true){b:Int}(hb:0<=b):zp b f=0:=by
 refine Zo0 fun q hq=>Yeb fun v hv=> ?_;have:=Zp1 h hs q hq v hv;simp only[List.length_nil] at this;have:=Zgw q hq;omega
theorem Zox{x:Fm}(hs:x.shape=true){a:Int}(ha:0<=a):zp (a+1) (x.lft 0 1)=zp a x:=by
 unfold zp;rw[Fm.lft,Zpc];refine Znm (G:=fun b t=>t.re (zk (0+b) 1) 0) _ fun p hp=> ?_;have:=Zgw p hp;rw[Zcv _ _ _ _ (x7 x hs 0 p hp)];refine Zq9 _ fun q hq=> ?_;simp only;split<;>omega
theorem Zg2{x:Fm}(hs:x.shape=true):zp 0 (x.lft 0 1)=0:=cntF_lifted (fun p hp=>x7 x hs 0 p hp) 0
theorem Yb5{T t:Tm}(hT:T.shape=true)(ht:t.shape=true):cnt 0 ((T.re (xy 0 t) 0).vars 0)<=cnt 1 (T.vars 0)+cnt 0 (T.vars 0)*cnt 0 (t.vars 0):=by
 rw[Zmp _ _ _ hT];have:∀l:List (Int×Int),(∀p∈l,0<=p.2)->cnt 0 (l.flatMap fun p=>(xy 0 t p.1 p.2).vars p.2)<=cnt 1 l+cnt 0 l*cnt 0 (t.vars 0):=by
  intro l;induction l with
  |nil=>intro _;simp[cnt]
  |cons p l ih=>
   intro h;have h1:=ih fun q hq=>h q (by simp[hq]);have h2:=h p (by simp);rw[List.flatMap_cons,w8,show p::l=[p]++l from rfl,w8,w8,Nat.add_mul];have h3:cnt 0 ((xy 0 t p.1 p.2).vars p.2)<=cnt 1 [p]+cnt 0 [p]*cnt 0 (t.vars 0):=by
    rw[vn];by_cases h4:p.1-p.2=0
    ·rw[if_pos h4,Zwf,Zcv _ _ _ _ ht,Zq9 (a':=0),Zax 0 p,if_pos h4]
     ·omega
     ·intro q hq;simp only;split<;>omega
    ·rw[if_neg h4,Zql,Zax,Zax,Zax];simp only;repeat' split
     all_goals first
      |omega
      |(simp;done)
      |(simp;omega)
   omega
 exact this _ fun p hp=>wv T 0 p hp
theorem Zpe{g:List Ty}{t:Tm}(h:Mk 3 g natT t)(hg:smalls g){b:Int}(hb:0<=b):cnt b (t.vars 0)<=3:=(h.cnt hg yd hb 0 (Int.le_refl 0)).2 rfl
theorem Dk.eqf_times(d:Dk){g:List Ty}(hg:smalls g){b:Int}(hb:0<=b):zp b (d.eqf g).1<=6:=by
 have h1:=Zpe (Dk.tm3 d hg) hg hb;have h2:=Zpe (Dk.tm3 (Dk.tm 3 d g natT).2 hg) hg hb;show zp b (eqF _ _)<=6;rw[Zg7];omega
theorem Dk.fm1_times(d:Dk){g:List Ty}(hg:smalls g){b:Int}(hb:0<=b):zp b (Dk.fm 1 d g).1<=12:=by
 have s1:=Dk.type1 (d.next 9).2;have s0:=Dk.type0 (d.next 9).2;have s0':=z8 s0.1 s0.2;have n2:=Dk.next_bd ((d.next 9).2.type 0).2 2 (by decide);simp only[Dk.fm];repeat' split
 ·rw[Zem _ _ rfl];have:=Dk.eqf_times (d.next 9).2 hg hb;have:=Dk.eqf_times (((d.next 9).2.eqf g).2) hg hb;omega
 ·rw[Zem _ _ rfl];have:=Dk.eqf_times (d.next 9).2 hg hb;have:=Dk.eqf_times (((d.next 9).2.eqf g).2) hg hb;omega
 ·rw[Zd0 _ _ _ rfl];have:=Dk.eqf_times ((d.next 9).2.type 1).2 (zj hg (ze s1 zi)) (b:=b+1) (by omega);omega
 ·rw[Zd0 _ _ _ rfl];have:=Dk.eqf_times ((d.next 9).2.type 1).2 (zj hg (ze s1 zi)) (b:=b+1) (by omega);omega
 ·rw[Zd0 _ _ _ (by unfold upF x9;rw[if_pos (by simp;omega)];rfl)];have:=Dk.eqf_times (((d.next 9).2.type 0).2.next 2).2 (zj hg (ze s0' zi)) (b:=b+1) (by omega);omega
 ·have:=Dk.eqf_times (d.next 9).2 hg hb;omega
theorem t0{c:Ck}{p:Pf}{x:Fm}{us:List Int}{M:Nat}{b:Int}(h:MkQ 0 c p)(hc:HTp c)(hb:0<=b)(hM:6<=M)(hh:∀y∈c.hyps,zp b y<=M)(hi:yo p c=(x,us,0)):zp b x<=M:=by
 rcases Yfn h hi with hx|hx|⟨t,ht,rfl⟩
 ·exact hh x hx
 ·have:=hc.b.l x hx;rw[Zdx this.2.2 this.1 hb];omega
 ·have:=Zpe ht hc.b.g hb;rw[Zg7];omega
theorem Zq7{c:Ck}{s:Ty}(hc:HTp c){M:Nat}{a:Int}(ha:0<=a)(h:∀y∈c.hyps,zp a y<=M):∀y∈(c.below [s]).hyps,zp (a+1) y<=M:=by
 intro y hy;obtain⟨z,hz,rfl⟩:=List.mem_map.1 hy;have:=h z hz;have e:=Zox (hc.b.h z hz).1 ha;have e':zp (a+1) (z.lft 0 ([s].length:Nat))=zp a z:=e;rw[e'];exact this
theorem Zkn{c:Ck}{x:Fm}{M:Nat}{a:Int}(h:∀y∈c.hyps,zp a y<=M)(hx:zp a x<=M):∀y∈(c.with_ x).hyps,zp a y<=M:=by
 intro y hy;rcases List.mem_append.1 hy with hy|hy
 ·exact h y hy
 ·rw[List.mem_singleton.1 hy];exact hx
theorem t1{c:Ck}{p:Pf}{x:Fm}{us:List Int}(h:MkQ 1 c p)(hc:HTp c)(hh:∀y∈c.hyps,zp 0 y<=0)(hi:yo p c=(x,us,0)):zp 0 x<=36\/x.size<=83:=by
 have hb:=hc.b;have h6:∀y∈c.hyps,zp 0 y<=6:=fun y hy=>by have:=hh y hy;omega
 have up:MkQ 0 c p->zp 0 x<=36\/x.size<=83:=fun h=> .inl (by have:=t0 h hc (b:=0) (by decide) (Nat.le_refl 6) h6 hi;omega);cases h with
 |hyp i h=>exact up (.hyp i h)
 |lem i h=>exact up (.lem i h)
 |ref h=>exact up (.ref h)
 |and hp hq=>
  obtain⟨y,z,ua,ub,h1,h2,rfl⟩:=Zju hi;have a:=t0 hp hc (b:=0) (by decide) (Nat.le_refl 6) h6 h1;have b:=t0 hq hc (b:=0) (by decide) (Nat.le_refl 6) h6 h2;left;rw[Zem _ _ rfl];omega
 |prj hk hp hq=>
  obtain⟨y,z,ua,ub,h1,h2,h3⟩:=Zne hk hi;have a:=t0 hp hc (b:=0) (by decide) (Nat.le_refl 6) h6 h1;have b:=t0 hq hc (b:=0) (by decide) (Nat.le_refl 6) h6 h2;left;rcases h3 with rfl|rfl<;>omega
 |imp d hp=>
  have f:=Dk.fm_fl 1 d c.tys hb.g;have fs:=(Dk.fm_good 1 d c.tys hb.g).1;have ft:=Dk.fm1_times d hb.g (b:=0) (by decide);obtain⟨y,ua,h1,rfl⟩:=Zjy hi;have a:=t0 hp (hc.with_ fs (by have:=f.2;omega) (f.1.le (by omega))) (b:=0) (by decide) (M:=12) (by omega) (Zkn (fun y hy=>by have:=hh y hy;omega) ft) h1;left;rw[Zem _ _ rfl];omega
 |app hx hp hq=>
  obtain⟨ub,h1⟩:=Zlr hi;have a:=t0 hp hc (b:=0) (by decide) (Nat.le_refl 6) h6 hx;have:=t0 hq (hc.with_ (ye hx).1 ((z0 hp hb (by omega)).2 _ _ hx).1 (f0 hp hc hx)) (b:=0) (by decide) (Nat.le_refl 6) (Zkn h6 a) h1;left;omega
 | @all _ _ k s p hk hs hp=>
   obtain⟨y,ua,h1,rfl⟩:=Zhe hk hi;have:=t0 hp (hc.below hs) (b:=0+1) (by decide) (Nat.le_refl 6) (Zq7 hc (by decide) h6) h1;left;rw[Zd0 _ _ _ (by split<;>rfl)];omega
 | @at_ _ _ k s t p hk hs ht hp=>
   obtain⟨y,ua,h1,rfl⟩:=Zt8 hk hi;left;rcases Yfn hp h1 with hy|hy|⟨T,hT,rfl⟩
   ·obtain ⟨z,hz,rfl⟩:=List.mem_map.1 hy;have e:(z.lft 0 ([s].length:Nat)).put 0 t=z:=uf (hb.h z hz).1 t;rw[e];have:=hh z hz;omega
   ·have:=hb.l _ hy;rw[Zbh this.2.2 this.1,Zdx this.2.2 this.1 (by decide)];omega
   ·have hg:=zj hb.g (ze hs zi);have sT:=hT.shape hg yd;have st:=ht.shape hb.g hs;have e:(eqF T T).put 0 t=eqF (T.re (xy 0 t) 0) (T.re (xy 0 t) 0):=rfl;have c1:=Zpe hT hg (b:=0) (by decide);have c2:=Zpe hT hg (b:=1) (by decide);have c3':cnt 0 (t.vars 0)<=5:=(ht.cnt hb.g hs (Int.le_refl 0) 0 (Int.le_refl 0)).1;have:=Yb5 sT st;have:cnt 0 (T.vars 0)*cnt 0 (t.vars 0)<=3*5:=Nat.mul_le_mul c1 c3';rw[e,Zg7];omega
 | @ex _ _ k t hk ht=>
   have a:=Zl6 (k:=k) ht hb.g;rw[Zdk (by omega) hi];right;omega
 | @wit _ _ k s t p x us hk hs hx ht hp=>
   have a:=t0 hp hc (b:=0) (by decide) (Nat.le_refl 6) h6 hx;rw[Zdk (by omega) hi];left;rw[Zd0 _ _ _ (by rcases hk with rfl|rfl<;>rfl),Zox (ye hx).1 (by decide)];omega
 | @opn _ _ k t q hk ht hq=>
   have sB:=Zp6 (ht.shape hb.g yd);have zt:=ht.z24 hb.g;have hc':=(hc.below yd).with_ sB.2 (by omega) ((Zjh ht hb.g).le (by omega));obtain⟨f,ub,y,h1,h2,rfl⟩:=Zfg hk hi;have fs:=(ye h1).1;rcases Yfn hq h1 with hy|hy|⟨T,hT,rfl⟩
   ·rcases List.mem_append.1 hy with hy|hy
    ·obtain ⟨z,hz,rfl⟩:=List.mem_map.1 hy;have h0:zp 0 (z.lft 0 ([natT].length:Nat))=0:=Zg2 (hb.h z hz).1;rcases xz h2 with⟨_,rfl⟩|⟨h3,_⟩
     ·have e:(z.lft 0 ([natT].length:Nat)).put 0 zT=z:=uf (hb.h z hz).1 zT;rw[Zgq zT fs h0,e];have:=hh z hz;left;omega
     ·exact absurd h0 h3
    ·rw[List.mem_singleton.1 hy] at h2;exact(Zj3 h2).elim
   ·have hl:=hb.l _ hy;have h0:=Zdx hl.2.2 hl.1 (b:=0) (by decide);rcases xz h2 with⟨_,rfl⟩|⟨h3,_⟩
    ·rw[Zgq zT fs h0,Zbh hl.2.2 hl.1,h0];left;omega
    ·exact absurd h0 h3
   ·have zT':=hT.z24 hc'.b.g;rcases xz h2 with⟨h0,rfl⟩|⟨_,h3,rfl,h4⟩
    ·rw[(Zb5 fs h0).1,Zke];right;omega
    ·have fl:=FL.eq (hT.nrm1 rfl hc'.b.g yd) (hT.nrm1 rfl hc'.b.g yd);have:=fl.nrm h3;have ns:=(Zf1 (eqF T T) h3 fs).2.1;rw[(Zb5 ns h4).1];right;omega
 | @opn2 _ _ k t hk ht=>
   have a:=Zl6 (k:=k) ht hb.g;have sq:(quF k natT (Zby t)).shape=true:=by
    have:=(Zp6 (ht.shape hb.g yd)).2;rcases hk with rfl|rfl<;>(simp[quF,Fm.shape,Fm.shapes,Fm.head,this];decide)
   obtain⟨f,ub,y,h1,h2,rfl⟩:=Zfg hk hi;have hf:=Zdk (by omega) h1;subst hf;have h0:zp 0 ((quF k natT (Zby t)).lft 0 1)=0:=Zg2 sq;rcases xz h2 with⟨_,rfl⟩|⟨h3,_⟩
   ·have s9:((quF k natT (Zby t)).lft 0 1).shape=true:=(xu sq 1).1;have zl:((quF k natT (Zby t)).lft 0 1).size=(quF k natT (Zby t)).size:=(xu sq 1).2;rw[(Zb5 s9 h0).1];right;omega
   ·exact absurd h0 h3
 | @ind _ _ t p x us hx ht hp=>
   have a:=t0 hp hc (b:=0) (by decide) (Nat.le_refl 6) h6 hx;rw[Ze7 hi,uf (ye hx).1];left;omega
 | @lst _ _ t p x us hx ht hp=>
   have a:=t0 hp hc (b:=0) (by decide) (Nat.le_refl 6) h6 hx;rw[Zmk hi,uf (ye hx).1];left;omega
 | @zer _ _ t ht=>
   have zt:=ht.z24 hb.g;have st:=ht.shape hb.g yd;rw[Ze7 hi];have e4:(eqF (apT (apT plusT zT) (vT 0)) (vT 0)).put 0 t=eqF (apT (apT plusT zT) (t.re (zk 0 0) 0)) (t.re (zk 0 0) 0):=rfl;rw[e4,Yff t st,Zke];have e5:plusT.size=9:=rfl;have e6:zT.size=1:=rfl;right;simp only[apT,Tm.size,Tm.sizes,e5,e6];omega
 | @sub _ _ t u ht hu=>
   have zu:=hu.z24 hb.g;have su:=hu.shape hb.g yd;rw[Zrf (u:=t) hi];have e4:(eqF (u.re (zk 0 1) 0) (u.re (zk 0 1) 0)).put 0 t=eqF ((u.re (zk 0 1) 0).re (xy 0 t) 0) ((u.re (zk 0 1) 0).re (xy 0 t) 0):=rfl;have e5:=Zhw u t 0 0 (by decide) (by decide);rw[Int.zero_add] at e5;rw[e4,e5,Yff u su,Zke];right;omega
 | @cho _ _ s t hs ht=>
   have hg:=zj hb.g (ze hs zi);have zt:=ht.z24 hg;have st:=ht.shape hg yd;have zB:=(Zp6 st).1;rw[Zrz hi,Ze5,Ze5];have k:=vf (fr:=2) (by_:=1) (Zp6 st).2 (by decide);have z:=ue 0 appV (by decide) ((Zby t).lft 2 1) k.1 0;have z':(((Zby t).lft 2 1).put 0 appV).size=((Zby t).lft 2 1).size+zp 0 ((Zby t).lft 2 1)*(appV.size-1):=z;have e:appV.size=3:=rfl;have:=Zck 0 ((Zby t).lft 2 1);rw[e] at z';have:=k.2.1;right;omega
theorem f2{c:Ck}{p:Pf}{x:Fm}{us:List Int}(h:MkQ 2 c p)(hc:HTp c)(hi:yo p c=(x,us,0)):x.size<=2000:=by
 have hb:=hc.b;have hH:199<=199:=Nat.le_refl _;have up:MkQ 1 c p->x.size<=2000:=fun h=>by have:=(z1 h hb hH).2 _ _ hi;omega
 cases h with
 |hyp i h=>exact up (.hyp i h)
 |lem i h=>exact up (.lem i h)
 |ref h=>exact up (.ref h)
 |and hp hq=>
  obtain⟨y,z,ua,ub,h1,h2,rfl⟩:=Zju hi;have:=(z1 hp hb hH).2 _ _ h1;have:=(z1 hq hb hH).2 _ _ h2;rw[Zpb];omega
 |prj hk hp hq=>
  obtain⟨y,z,ua,ub,h1,h2,h3⟩:=Zne hk hi;have:=(z1 hp hb hH).2 _ _ h1;have:=(z1 hq hb hH).2 _ _ h2;rcases h3 with rfl|rfl<;>omega
 |imp d hp=>
  have f:=Dk.fm_fl 1 d c.tys hb.g;have fs:=(Dk.fm_good 1 d c.tys hb.g).1;have hf:(Dk.fm 1 d c.tys).1.size<=99:=by have:=f.2;omega
  obtain⟨y,ua,h1,rfl⟩:=Zjy hi;have:=(z1 hp (hb.with_ fs (by omega)) hH).2 _ _ h1;rw[Zpb];omega
 |app hx hp hq=>
  have ax:=(z1 hp hb hH).2 _ _ hx;obtain⟨ub,h1⟩:=Zlr hi;have:=(z1 hq ((hb.le (K:=399) (by omega)).with_ (ye hx).1 ax) (by omega)).2 _ _ h1;omega
 |all hk hs hp=>
  obtain⟨y,ua,h1,rfl⟩:=Zhe hk hi;have:=(z1 hp (hb.below hs) hH).2 _ _ h1;rw[Ze5];omega
 | @at_ _ _ k s t p hk hs ht hp=>
   obtain⟨y,ua,h1,rfl⟩:=Zt8 hk hi;have ys:=(ye h1).1;have zy:=(z1 hp (hb.below hs) hH).2 _ _ h1;have zt:=uv ht hb.g hs;have st:=ht.shape hb.g hs;have z:=ue 0 t st y ys 0;have z':(y.put 0 t).size=y.size+zp 0 y*(t.size-1):=z;have hh:∀y∈(c.below [s]).hyps,zp 0 y<=0:=by
    intro y hy;obtain⟨z,hz,rfl⟩:=List.mem_map.1 hy;have h0:zp 0 (z.lft 0 ([s].length:Nat))=0:=Zg2 (hb.h z hz).1;omega
   rcases t1 hp (hc.below hs) hh h1 with hy|hy
   ·have:zp 0 y*(t.size-1)<=36*23:=Nat.mul_le_mul hy (by omega);omega
   ·have h8:=Zck 0 y;have:zp 0 y*(t.size-1)<=83*23:=Nat.mul_le_mul (by omega) (by omega);omega
 |ex hk ht=>exact up (.ex hk ht)
 | @wit _ _ k s t p x us hk hs hx ht hp=>
   have ax:=(z1 hp hb hH).2 _ _ hx;have zl':(x.lft 0 1).size=x.size:=(xu (ye hx).1 1).2;rw[Zdk (by omega) hi,Ze5];omega
 | @opn _ _ k t q hk ht hq=>
   have sB:=Zp6 (ht.shape hb.g yd);have zt:=ht.z24 hb.g;have hc':=(hc.below yd).with_ sB.2 (by omega) ((Zjh ht hb.g).le (by omega));obtain⟨f,ub,y,h1,h2,rfl⟩:=Zfg hk hi;have fs:=(ye h1).1;have zf:=(z1 hq hc'.b hH).2 _ _ h1;rcases xz h2 with⟨h0,rfl⟩|⟨_,h3,rfl,h4⟩
   ·rw[(Zb5 fs h0).1];omega
   ·have:=(f1 hq hc' h1).nrm h3;have ns:=(Zf1 f h3 fs).2.1;rw[(Zb5 ns h4).1];omega
 |opn2 hk ht=>exact up (.opn2 hk ht)
 | @ind _ _ t p x us hx ht hp=>
   have ax:=(z1 hp hb hH).2 _ _ hx;rw[Ze7 hi,uf (ye hx).1];omega
 | @lst _ _ t p x us hx ht hp=>
   have ax:=(z1 hp hb hH).2 _ _ hx;rw[Zmk hi,uf (ye hx).1];omega
 |zer ht=>exact up (.zer ht)
 |sub ht hu=>exact up (.sub ht hu)
 |cho hs ht=>exact up (.cho hs ht)
theorem sm1{k i:Int}{s:Ty}{ts:List Tm}{fs:List Fm}{ps:List Pf}(h1:∀t∈ts,t.size<=4096)(h2:∀f∈fs,f.size<=4096)(h3:∀p∈ps,p.small=true):(Pf.mk k i s ts fs ps).small=true:=by
 rw[Pf.small_eq];simp only[Bool.and_eq_true,List.all_eq_true,decide_eq_true_eq];exact⟨⟨h1,h2⟩,h3⟩
theorem vi{α:Type}{P:α->Prop}:∀x∈([]:List α),P x:=fun x hx=>by cases hx
theorem in1{α:Type}{P:α->Prop}{a:α}(h:P a):∀x∈[a],P x:=fun x hx=>by rw[List.mem_singleton.1 hx];exact h
theorem in2{α:Type}{P:α->Prop}{a b:α}(h:P a)(h':P b):∀x∈[a,b],P x:=fun x hx=>by
 rcases List.mem_cons.1 hx with rfl|hx
 ·exact h
 ·rw[List.mem_singleton.1 hx];exact h'
theorem Zoq{t:Tm}(h:t.size<=24):(y8 t).small=true:=sm1 (in1 (by omega)) vi vi
theorem Znw(i:Int):(va i).small=true:=sm1 vi vi vi
theorem Ycn{g:List Ty}{k:Int}{t:Tm}(ht:Mk 3 g natT t)(hg:smalls g):(Pf.mk (2*k) 0 noY [t] [quF k natT (Zby t)] [y8 t]).small=true:=by
 have a:=Zl6 (k:=k) ht hg;have zt:=ht.z24 hg;exact sm1 (in1 (by omega)) (in1 (by omega)) (in1 (Zoq zt))
theorem sm0{c:Ck}{p:Pf}(h:MkQ 0 c p)(hg:smalls c.tys):p.small=true:=by
 cases h with
 |hyp i h=>exact Znw i
 |lem i h=>exact sm1 vi vi vi
 |ref h=>exact Zoq (h.z24 hg)
theorem smS{n:Nat}{c:Ck}{p:Pf}{H K:Nat}(h:MkQ (n+1) c p)(hb:HB H c)(hH:199<=H)(hK:H<=K)(hK2:K<=4095)
 (hx:∀p x us,MkQ n c p->yo p c=(x,us,0)->x.size<=K) (ih:∀c p,MkQ n c p->HB K c->p.small=true):p.small=true:=by
 have hb':=hb.le hK;cases h with
 |hyp i h=>exact Znw i
 |lem i h=>exact sm1 vi vi vi
 |ref h=>exact Zoq (h.z24 hb.g)
 |and hp hq=>exact sm1 vi vi (in2 (ih _ _ hp hb') (ih _ _ hq hb'))
 |prj hk hp hq=>exact sm1 vi vi (in1 (sm1 vi vi (in2 (ih _ _ hp hb') (ih _ _ hq hb'))))
 |imp d hp=>
  have f:=Dk.fm_fl 1 d c.tys hb.g;have fs:=(Dk.fm_good 1 d c.tys hb.g).1;have hf:(Dk.fm 1 d c.tys).1.size<=99:=by have:=f.2;omega
  exact sm1 vi (in1 (by omega)) (in1 (ih _ _ hp (hb'.with_ fs (by omega))))
 |app hx' hp hq=>
  have ax:=hx _ _ _ hp hx';exact sm1 vi vi (in2 (sm1 vi (in1 (by omega)) (in1 (ih _ _ hq (hb'.with_ (ye hx').1 ax)))) (ih _ _ hp hb'))
 |all hk hs hp=>exact sm1 vi vi (in1 (ih _ _ hp (hb'.below hs)))
 |at_ hk hs ht hp=>
  have zt:=uv ht hb.g hs;exact sm1 (in1 (by omega)) vi (in1 (sm1 vi vi (in1 (ih _ _ hp (hb'.below hs)))))
 |ex hk ht=>exact Ycn ht hb.g
 | @wit _ _ k s t p x us hk' hs hx' ht hp=>
   have ax:=hx _ _ _ hp hx';have zt:=uv ht hb.g hs;have zl':(x.lft 0 1).size=x.size:=(xu (ye hx').1 1).2;exact sm1 (in1 (by omega)) (in1 (by rw[Ze5];omega)) (in1 (ih _ _ hp hb'))
 | @opn _ _ k t q hk' ht hq=>
   have sB:=Zp6 (ht.shape hb.g yd);have zt:=ht.z24 hb.g;exact sm1 vi vi (in2 (Ycn ht hb.g) (ih _ _ hq ((hb'.below yd).with_ sB.2 (by omega))))
 | @opn2 _ _ k t hk ht=>
   have a:=Zl6 (k:=k) ht hb.g;have sq:(quF k natT (Zby t)).shape=true:=by
    have:=(Zp6 (ht.shape hb.g yd)).2;rcases hk with rfl|rfl<;>(simp[quF,Fm.shape,Fm.shapes,Fm.head,this];decide)
   have zl:((quF k natT (Zby t)).lft 0 1).size=(quF k natT (Zby t)).size:=(xu sq 1).2;have ev:(vT 0).size=1:=rfl;exact sm1 vi vi (in2 (Ycn ht hb.g) (sm1 (in1 (by omega)) (in1 (by omega)) (in1 (Znw 0))))
 | @ind _ _ t p x us hx' ht hp=>
   have ax:=hx _ _ _ hp hx';have zt:=ht.z24 hb.g;have zl':(x.lft 0 1).size=x.size:=(xu (ye hx').1 1).2;exact sm1 (in1 (by omega)) (in1 (by omega)) (in2 (ih _ _ hp hb') (Znw 0))
 | @lst _ _ t p x us hx' ht hp=>
   have ax:=hx _ _ _ hp hx';have zt:=uv ht hb.g ⟨by decide,by decide⟩;have zl':(x.lft 0 1).size=x.size:=(xu (ye hx').1 1).2;exact sm1 (in1 (by omega)) (in1 (by omega)) (in2 (ih _ _ hp hb') (Znw 0))
 |zer ht=>
  have zt:=ht.z24 hb.g;exact sm1 (in1 (by omega)) (in1 (by decide)) (in2 (by decide) (by decide))
 | @sub _ _ t u ht hu=>
   have zt:=ht.z24 hb.g;have zu:=hu.z24 hb.g;have su:=hu.shape hb.g yd;have zl:=Zbk 0 1 u 0 su;exact sm1 vi (in1 (by rw[Zke,zl];omega)) (in2 (Zoq zt) (Zoq zu))
 | @cho _ _ s t hs ht=>
   have hg:=zj hb.g (ze hs zi);exact sm1 vi vi (in1 (sm1 vi vi (in1 (Ycn (k:=5) ht hg))))
theorem sm_1{c:Ck}{p:Pf}(h:MkQ 1 c p)(hb:HB 4001 c):p.small=true:=
 smS h hb (by omega) (Nat.le_refl 4001) (by omega) (fun p x us hp hi=>((z0 hp hb (by omega)).2 x us hi).1) fun c p hp hb=>sm0 hp hb.g
theorem sm_2{c:Ck}{p:Pf}(h:MkQ 2 c p)(hb:HB 2000 c):p.small=true:=
 smS (K:=4001) h hb (by omega) (by omega) (by omega) (fun p x us hp hi=>(z1 hp hb (by omega)).2 x us hi) fun c p hp hb=>sm_1 hp hb
theorem sm_3{c:Ck}{p:Pf}(h:MkQ 3 c p)(hc:HTp c):p.small=true:=
 smS (K:=2000) h hc.b (by omega) (by omega) (by omega) (fun p x us hp hi=>f2 hp hc hi) fun c p hp hb=>sm_2 hp hb
theorem top3{c:Ck}{p:Pf}(h:MkQ 3 c p)(hc:HTp c)(hs:p.shape=true):p.err=0/\p.size<=13165:=by
 have z:=z3 (K:=2000) h hc.b (by omega) (by omega) fun p x us hp hi=>f2 hp hc hi;exact⟨(Pf.err_iff p).2 ⟨hs,sm_3 h hc,by omega⟩,by omega⟩
theorem Ymt(C a:Int)(s:Tm)(p:Pf):p.hx C->∀v,(p.pt a s v).hx C:=by
 induction p using Pf.ind with
 |h p ih=>
  intro h v;obtain⟨h1,h2⟩:=(Pf.hx_iff C p).1 h;rw[Pf.pt_eq,Pf.hx_iff];simp only[Pf.kind_mk,Pf.index_mk,Pf.args_mk];refine⟨h1,fun hk x hx=> ?_⟩;obtain⟨m,hm,rfl⟩:=List.getElem_of_mem hx;rw[Zmv] at hm;rw[Zlt _ _ _ _ _ _ hm]
  grind
theorem Ymr(C a:Int)(s:Tm)(p:Pf):p.lx C->∀v,(p.pt a s v).lx C:=by
 induction p using Pf.ind with
 |h p ih=>
  intro h v;obtain⟨h1,h2⟩:=(Pf.lx_iff C p).1 h;rw[Pf.pt_eq,Pf.lx_iff];simp only[Pf.kind_mk,Pf.index_mk,Pf.args_mk];refine⟨h1,fun x hx=> ?_⟩;obtain⟨m,hm,rfl⟩:=List.getElem_of_mem hx;rw[Zmv] at hm;rw[Zlt _ _ _ _ _ _ hm]
  grind
theorem Zip{p:Pf}{C C':Int}(h:p.lx C)(hc:C<=C'):p.lx C':=by
 induction p using Pf.ind with
 |h p ih=>
  obtain⟨h1,h2⟩:=(Pf.lx_iff C p).1 h;exact(Pf.lx_iff C' p).2 ⟨fun hk=>by omega,fun x hx=>ih x hx (h2 x hx)⟩
theorem Zgl(p:Pf)(hf:p.full<=100000000000):(xp p).length<1099511627776:=by
 unfold xp;rw[Zgj,Zyu];have h1:=Zd1 (p.lfl hyF 0) [];have h2:=Zst (f:=hyF) (fun k i y=>by unfold hyF;split<;>simp) p 0;simp at h1;omega
theorem Zw9{p:Pf}(hs:p.shape=true)(hk:p.kind=1):p.args=[]:=by
 obtain⟨k,i,s,ts,fs,zs⟩:=p;obtain rfl:k=1:=hk;simp only[Pf.shape_eq,Pf.head,Pf.kind_mk,Pf.args_mk,ndP,Bool.and_eq_true,beq_iff_eq] at hs;simp_all
theorem Zgk{p:Pf}(hs:p.shape=true)(hk:p.kind=1)(y:Int):p.lfl hyF y=if p.index>=y then [p.index-y] else []:=by
 rw[Pf.lfl_eq,Zw9 hs hk,hk];simp[Pf.lfls,hyF]
theorem Zeh{p:Pf}(hk:¬p.kind=1)(y:Int):p.lfl hyF y=(Pf.lfls hyF y (hyK p.kind) p.args).flatten:=by
 rw[Pf.lfl_eq];simp[hyF,hk]
theorem Zv8{k i:Int}{s:Ty}{ts:List Tm}{fs:List Fm}{zs:List Pf}(hk:¬k=1)(y:Int):(Pf.mk k i s ts fs zs).lfl hyF y=(Pf.lfls hyF y (hyK k) zs).flatten:=Zeh (p:= .mk k i s ts fs zs) hk y
theorem Zl2(i y:Int):(va i).lfl hyF y=if i>=y then [i-y] else []:=by
 simp[va,Pf.lfl,Pf.lfls,hyF]
theorem mem_hypsI{p:Pf}{x:Int}:x∈xp p↔x∈p.lfl hyF 0:=by
 unfold xp;rw[(xn _).mem_iff,mem_nub,Zto];simp
theorem Zyq{C:Int}{p:Pf}(hx:p.hx C)(hs:p.shape=true):∀x∈xp p,0<=x/\x<C:=fun x h=>Yei C p hx (Zhd p hs) 0 (Int.le_refl 0) x (mem_hypsI.1 h)
def Zkb(p:Pf):Int×Int:=if p.kind=16\/p.kind=17 then(p.kind,(p.terms.getD 0 noTm).kind) else if 0<p.args.length then(p.kind,(p.args.getD 0 Zvu).kind) else(p.kind,0)
def cutL:List (Int×Int):=[(4,3),(5,3),(7,6),(9,8),(13,12),(11,10),(15,14),(16,4),(16,5),(17,7),(17,8)]
def Yjx(p:Pf):Bool:=decide (Zkb p∈cutL)
def Yfz(q:Pf)(t:Tm)(p:Pf):Pf×Int:=if Zdo q 0 t≠0 then(Zvu,Zdo q 0 t) else(Zcp (Yhv q 0 t) 0 p,Za1 (Yhv q 0 t) 0 p)
def Yej(p:Pf)(t:Tm):Pf:= .mk p.kind p.index p.ty [t] p.forms p.args
def Pf.arg(p:Pf)(i:Nat):Pf:=p.args.getD i Zvu
def Pf.trm(p:Pf):Tm:=p.terms.getD 0 noTm
def Yin(t:Tm):Tm:=if Zj1 t 0 1=0 then t.re (zk 0 1) 0 else noTm
def Ymh(p:Pf)(h l:Tm):Pf×Int:=
 if Zj1 l 0 1≠0 then(Zvu,Zj1 l 0 1) else if Zdo (p.arg 1) 0 (Yin l)≠0 then(Zvu,Zdo (p.arg 1) 0 (Yin l)) else Yfz (Yhv (p.arg 1) 0 (Yin l)) h (Yej p l)
def Yfh(p:Pf):Pf×Int:=
 if Zkb p=(4,3) then((p.arg 0).arg 0,0)
 else if Zkb p=(5,3) then((p.arg 0).arg 1,0)
 else if Zkb p=(7,6) then(Zcp ((p.arg 0).arg 0) 0 (p.arg 1),Za1 ((p.arg 0).arg 0) 0 (p.arg 1))
 else if Zkb p=(9,8)\/Zkb p=(13,12) then(Yhv ((p.arg 0).arg 0) 0 p.trm,Zdo ((p.arg 0).arg 0) 0 p.trm)
 else if Zkb p=(11,10)\/Zkb p=(15,14) then Yfz (p.arg 1) (p.arg 0).trm ((p.arg 0).arg 0)
 else if Zkb p=(16,5) then Yfz (p.arg 1) (p.trm.args.getD 0 noTm) (Yej p (p.trm.args.getD 0 noTm))
 else if Zkb p=(17,8) then Ymh p (p.trm.args.getD 0 noTm) (p.trm.args.getD 1 noTm)
 else(p.arg 0,0)
mutual
def Pf.nx:Pf->Pf×Bool×Int
 | .mk k i s ts fs zs=>if Yjx (.mk k i s ts fs zs)=true then((Yfh (.mk k i s ts fs zs)).1,true,(Yfh (.mk k i s ts fs zs)).2)
   else(.mk k i s ts fs (Pf.nxs zs).1,(Pf.nxs zs).2.1,(Pf.nxs zs).2.2)
def Pf.nxs:List Pf->List Pf×Bool×Int
 |[]=>([],false,0)
 |p::l=>if(Pf.nx p).2.1=true\/(Pf.nx p).2.2≠0 then((Pf.nx p).1::l,(Pf.nx p).2.1,(Pf.nx p).2.2) else(p::(Pf.nxs l).1,(Pf.nxs l).2.1,(Pf.nxs l).2.2)
end
theorem Zu8{p:Pf}{a:Int}{t:Tm}(h:Zdo p a t=0):p.err=0/\(0<=a/\a<=4096)/\t.err=0/\p.nearP=true/\t.near=true/\grB t.size (Zuk p a t)=false/\grN p.size t.size (Zuk p a t)<=16384:=by
 have h1:p.err=0:=Decidable.byContradiction fun hc=>by rw[Yf3 hc] at h;omega
 have h2:0<=a/\a<=4096:=Decidable.byContradiction fun hc=>by rw[Yg3 h1 hc] at h;cases h
 have h3:t.err=0:=Decidable.byContradiction fun hc=>by rw[Yf1 h1 h2 hc] at h;omega
 have h4:¬(p.nearP=false\/t.near=false):=fun hc=>by rw[Yho h1 h2 h3 hc] at h;cases h
 rw[Yil h1 h2 h3 h4] at h
 grind
def lnF(k i _y:Int):List Bool:=if k=1\/k=2 then [decide (i<=536870912)] else []
def Pf.nearC(p:Pf):Bool:=([p.nearP&&p.nearH]++p.lfl lnF 0).all id
theorem Yl7(p:Pf):p.nd->p.hx 10000->p.lx 10000->∀y,(p.lfl lnF y).all id=true:=by
 induction p using Pf.ind with
 |h p ih=>
  intro hs hh hx y;obtain⟨i1,i2⟩:=(Pf.hx_iff _ p).1 hh;obtain⟨j1,j2⟩:=(Pf.lx_iff _ p).1 hx;obtain⟨⟨nd0,a1,a2⟩,a3⟩:=(Pf.nd_iff p).1 hs;rw[Pf.lfl_eq,List.all_append,Bool.and_eq_true];refine⟨List.all_eq_true.2 fun b hb=> ?_,List.all_eq_true.2 fun b hb=> ?_⟩
  ·unfold lnF at hb
   grind
  ·obtain ⟨l,hl,hb⟩:=List.mem_flatten.1 hb;obtain⟨m,hm,rfl⟩:=List.getElem_of_mem hl;rw[ux] at hm;rw[Zai _ _ _ _ _ hm] at hb;have hk:p.kind≠1:=fun e=>by
    rw[e] at a1;simp[ndP] at a1
    grind
   grind
theorem Yaa{p:Pf}(hs:p.shape=true)(h1:p.ix 10000)(h2:p.hx 10000)(h3:p.lx 10000):p.nearC=true:=by
 unfold Pf.nearC;rw[show p.nearP=true from Zh2 p h1 0,show p.nearH=true from Zgf p (Zhd p hs) h2 0];rw[List.all_append,Yl7 p (Zhd p hs) h2 h3 0]
 rfl
theorem Made.near{n:Nat}{p:Pf}(h:Made n p):p.nearC=true:=Yaa h.shape h.ix h.hx h.lx
theorem Zn3(t:Tm):∀b,∀q∈t.vars b,b<=q.2/\q.2<=b+t.size:=by
 induction t using Tm.ind with
 |h t ih=>
  intro b q hq;have hz:=t.size_eq;rw[t.vars_eq,List.mem_append] at hq;rcases hq with hq|hq
  ·grind
  ·obtain ⟨x,hx,hq⟩:=List.mem_flatMap.1 hq;have h1:=ih x hx _ q hq;have h2:=zc Tm.size hx;have h3:b<=up t.kind b/\up t.kind b<=b+1:=by unfold up;omega
   omega
theorem Zza(f:Fm):∀b,∀q∈f.tms b,b<=q.2/\q.2<=b+f.size/\q.1.size<=f.size:=by
 induction f using Fm.ind with
 |h f ih=>
  intro b q hq;have hz:=f.size_eq;rw[f.tms_eq,List.mem_append] at hq;rcases hq with hq|hq
  ·obtain ⟨t,ht,rfl⟩:=List.mem_map.1 hq;have h2:=zc Tm.size ht
   grind
  ·obtain ⟨x,hx,hq⟩:=List.mem_flatMap.1 hq;have h1:=ih x hx _ q hq;have h2:=zc Fm.size hx;have h3:b<=upF f.kind b/\upF f.kind b<=b+1:=by unfold upF;omega
   omega
theorem Zz4{t s:Tm}(ht:t.shape=true)(hs:s.shape=true){a C:Int}(ha:0<=a)(h:∀q∈t.vars 0,0<=q.1/\q.1<C)(h2:∀q∈s.vars 0,0<=q.1/\q.1<C):
 (t.re (xy a s) 0).shape=true/\∀q∈(t.re (xy a s) 0).vars 0,0<=q.1/\q.1<C+a+t.size:=by
 have hsh:=Zgs (at_:=a) 0 hs ht (by omega) ha fun p hp=>by have:=Zn3 t 0 p hp;omega
 refine⟨hsh,fun q hq=>⟨Tm.vars_nonneg _ hsh 0 q hq,?_⟩⟩;rw[Zmp _ _ _ ht] at hq;obtain⟨p,hp,hq⟩:=List.mem_flatMap.1 hq;have hd:=Zn3 t 0 p hp;have hb:=h p hp;unfold xy at hq;by_cases hc:p.1-p.2=a
 ·rw[if_pos hc] at hq;obtain⟨q',hq',e⟩:=Zmi (b':=0) q hq;have:=Zmu (fr:=0) (by_:=a+p.2) (C:=C-1) hs (by omega) (fun r hr=>by grind) q' hq';omega
 ·rw[if_neg hc] at hq;simp only[Tm.vars,Tm.varss,if_true,List.append_nil,List.mem_singleton] at hq
  grind
theorem Yd1{f:Fm}{s:Tm}(hf:f.shape=true)(hs:s.shape=true){a C:Int}(ha:0<=a)(h:∀q∈f.tms 0,∀r∈q.1.vars 0,0<=r.1/\r.1<C)(h2:∀q∈s.vars 0,0<=q.1/\q.1<C):
 ∀q∈(f.put a s).tms 0,∀r∈q.1.vars 0,0<=r.1/\r.1<C+a+2*f.size:=by
 intro q hq r hr;rw[Fm.put,Zpc] at hq;obtain⟨p,hp,rfl⟩:=List.mem_map.1 hq;have hd:=Zza f 0 p hp;have:=(Zz4 (a:=a+p.2) (C:=C) (x7 f hf 0 p hp) hs (by omega) (h p hp) h2).2 r hr;omega
theorem Yl0{s:Tm}{C:Int}(hs:s.shape=true)(h2:∀q∈s.vars 0,0<=q.1/\q.1<C)(p:Pf):p.shape=true->p.small=true->p.ix C->∀v:Int,0<=v->v+2*p.size<=200000->(p.pt 0 s v).ix (C+250000):=by
 induction p using Pf.ind with
 |h p ih=>
  intro hp hm hix v hv hvz;obtain⟨s1,s2,s3⟩:=uj hm;obtain⟨_,s4,s5,s6⟩:=zo hp;obtain⟨i1,i2,i3⟩:=(Pf.ix_iff _ p).1 hix;have hz:=p.size_eq;have fv:0<=fvK p.kind/\fvK p.kind<=2:=by unfold fvK;omega
  have b1:0<=vaK p.kind/\vaK p.kind<=2:=by unfold vaK;omega
  rw[Pf.pt_eq,Pf.ix_iff];simp only[Pf.terms_mk,Pf.forms_mk,Pf.args_mk];refine⟨fun t ht q hq=> ?_,fun f hf q hq r hr=> ?_,fun x hx=> ?_⟩
  ·obtain ⟨u,hu,rfl⟩:=List.mem_map.1 ht;have:=(Zz4 (a:=0+v) (s4 u hu) hs (by omega) (i1 u hu) h2).2 q hq
   grind
  ·obtain ⟨u,hu,rfl⟩:=List.mem_map.1 hf;have:=Yd1 (a:=0+(v+fvK p.kind)) (s5 u hu) hs (by omega) (i2 u hu) h2 q hq r hr
   grind
  ·obtain ⟨m,hm2,rfl⟩:=List.getElem_of_mem hx;rw[Zmv] at hm2;rw[Zlt _ _ _ _ _ _ hm2];have h3:=zc Pf.size (List.getElem_mem hm2)
   grind
theorem Yk3{C f b:Int}(hb:0<=b)(p:Pf):p.hx C->∀y,(p.lh f b y).hx (C+b):=by
 induction p using Pf.ind with
 |h p ih=>
  intro h y;obtain⟨h1,h2⟩:=(Pf.hx_iff C p).1 h;rw[Pf.lh_eq];by_cases hk:p.kind=1
  ·rw[if_pos hk];have:=h1 hk;exact Zse (by omega)
  ·rw[if_neg hk,Pf.hx_iff];simp only[Pf.kind_mk,Pf.index_mk,Pf.args_mk];refine⟨fun h=>absurd h hk,fun _ x hx=> ?_⟩;obtain⟨m,hm,rfl⟩:=List.getElem_of_mem hx;rw[Zd5] at hm;rw[Zr1 _ _ _ _ _ _ hm]
   grind
theorem Zzv(C i:Int):(va i).lx C:=by simp[Pf.lx,Pf.lxs]
theorem Ykq{C f b:Int}(p:Pf):p.lx C->∀y,(p.lh f b y).lx C:=by
 induction p using Pf.ind with
 |h p ih=>
  intro h y;obtain⟨h1,h2⟩:=(Pf.lx_iff C p).1 h;rw[Pf.lh_eq];by_cases hk:p.kind=1
  ·rw[if_pos hk];exact Zzv _ _
  ·rw[if_neg hk,Pf.lx_iff];simp only[Pf.kind_mk,Pf.index_mk,Pf.args_mk];refine⟨h1,fun x hx=> ?_⟩;obtain⟨m,hm,rfl⟩:=List.getElem_of_mem hx;rw[Zd5] at hm;rw[Zr1 _ _ _ _ _ _ hm]
   grind
theorem Ylk{C fr n:Int}(p:Pf):p.lx C->∀v,(p.up fr n v).lx C:=by
 induction p using Pf.ind with
 |h p ih=>
  intro h v;obtain⟨h1,h2⟩:=(Pf.lx_iff C p).1 h;rw[Pf.up_eq,Pf.lx_iff];simp only[Pf.kind_mk,Pf.index_mk,Pf.args_mk];refine⟨h1,fun x hx=> ?_⟩;obtain⟨m,hm,rfl⟩:=List.getElem_of_mem hx;rw[Zha] at hm;rw[Zre _ _ _ _ _ _ hm]
  grind
structure Ib (C:Int) (p:Pf):Prop where
 ix:p.ix C
 hx:p.hx C
 lx:p.lx C
theorem Ib.mono{C C':Int}{p:Pf}(h:Ib C p)(hc:C<=C'):Ib C' p:=⟨Zad h.ix hc,Zaz h.hx hc,Zip h.lx hc⟩
theorem Ib.no{C:Int}:Ib C Zvu:=by
 constructor<;>simp[Zvu,Pf.ix,Pf.ixs,Pf.hx,Pf.hxs,Pf.lx,Pf.lxs]
theorem Ib.args{C:Int}{p:Pf}(hs:p.shape=true)(h:Ib C p):∀x∈p.args,Ib C x:=fun x hx=>by
 refine⟨((Pf.ix_iff C p).1 h.ix).2.2 x hx,((Pf.hx_iff C p).1 h.hx).2 (fun hk=> ?_) x hx,((Pf.lx_iff C p).1 h.lx).2 x hx⟩;obtain⟨hh,_⟩:=zo hs;obtain⟨nd,n1,_,_,n4,_⟩:=Zi7 hh;rw[hk] at n1;simp[ndP] at n1
 grind
theorem Ib.arg{C:Int}{p:Pf}(hs:p.shape=true)(h:Ib C p)(i:Nat):Ib C (p.arg i):=by
 unfold Pf.arg;by_cases hi:i<p.args.length
 ·rw[Zda hi];exact h.args hs _ (List.getElem_mem hi)
 ·rw[List.getD,List.getElem?_eq_none (by omega)];exact Ib.no
theorem Ib.terms{C:Int}{p:Pf}(h:Ib C p):∀t∈p.terms,∀q∈t.vars 0,0<=q.1/\q.1<C:=((Pf.ix_iff C p).1 h.ix).1
theorem Ib.put{C:Int}{p:Pf}{t:Tm}(h:Ib C p)(h2:∀q∈t.vars 0,0<=q.1/\q.1<C)(he:Zdo p 0 t=0):Ib (C+250000) (Yhv p 0 t):=by
 obtain⟨e1,_,e2,_⟩:=Zu8 he;obtain⟨g1,g2,g3⟩:=(Pf.err_iff p).1 e1;have e:Yhv p 0 t=p.pt 0 t 0:=by unfold Yhv;grind
 rw[e];exact⟨Yl0 ((Tm.err_iff t).1 e2).1 h2 p g1 g2 h.ix 0 (by omega) (by omega),Zaz (Ymt _ _ _ _ h.hx 0) (by omega),Zip (Ymr _ _ _ _ h.lx 0) (by omega)⟩
theorem Ycj(p:Pf):p.ix 500000000->∀v,(p.tfl (fun(_:Int) (t:Tm)=>t.near) (fun(_:Int) (f:Fm)=>f.near) v).all id=true:=by
 induction p using Pf.ind with
 |h p ih=>
  intro hix v;obtain⟨i1,i2,i3⟩:=(Pf.ix_iff _ p).1 hix;rw[Pf.tfl_eq,List.all_append,List.all_append,Bool.and_eq_true,Bool.and_eq_true];refine⟨⟨List.all_eq_true.2 fun b hb=> ?_,List.all_eq_true.2 fun b hb=> ?_⟩,List.all_eq_true.2 fun b hb=> ?_⟩
  ·obtain ⟨t,ht,rfl⟩:=List.mem_map.1 hb;exact List.all_eq_true.2 fun q hq=>by grind
  ·obtain ⟨f,hf,rfl⟩:=List.mem_map.1 hb;exact List.all_eq_true.2 fun q hq=>List.all_eq_true.2 fun r hr=>by grind
  ·obtain ⟨l,hl,hb⟩:=List.mem_flatten.1 hb;obtain⟨m,hm,rfl⟩:=List.getElem_of_mem hl;rw[Zc9] at hm;rw[Zed _ _ _ _ _ _ hm] at hb
   grind
theorem Zng(p:Pf):p.shape=true->Ib 500000000 p->∀y,(p.lfl nhF y).all id=true/\(p.lfl lnF y).all id=true:=by
 induction p using Pf.ind with
 |h p ih=>
  intro hs h y;obtain⟨i1,_⟩:=(Pf.hx_iff _ p).1 h.hx;obtain⟨j1,_⟩:=(Pf.lx_iff _ p).1 h.lx;have ha:=h.args hs;have hsa:=(zo hs).2.2.2;rw[Pf.lfl_eq,Pf.lfl_eq,List.all_append,List.all_append,Bool.and_eq_true,Bool.and_eq_true];refine⟨⟨List.all_eq_true.2 fun b hb=> ?_,List.all_eq_true.2 fun b hb=> ?_⟩,List.all_eq_true.2 fun b hb=> ?_,List.all_eq_true.2 fun b hb=> ?_⟩
  ·unfold nhF at hb
   grind
  ·obtain ⟨l,hl,hb⟩:=List.mem_flatten.1 hb;obtain⟨m,hm,rfl⟩:=List.getElem_of_mem hl;rw[ux] at hm;rw[Zai _ _ _ _ _ hm] at hb
   grind
  ·unfold lnF at hb
   grind
  ·obtain ⟨l,hl,hb⟩:=List.mem_flatten.1 hb;obtain⟨m,hm,rfl⟩:=List.getElem_of_mem hl;rw[ux] at hm;rw[Zai _ _ _ _ _ hm] at hb
   grind
theorem Ib.near{p:Pf}(hs:p.shape=true)(h:Ib 500000000 p):p.nearC=true:=by
 unfold Pf.nearC;rw[show p.nearP=true from Ycj p h.ix 0,show p.nearH=true from(Zng p hs h 0).1,List.all_append,(Zng p hs h 0).2]
 rfl
theorem Made.ib{n:Nat}{p:Pf}(h:Made n p):Ib 10000 p:=⟨h.ix,h.hx,h.lx⟩
theorem Dk.fms_fl:∀(n:Nat) (d:Dk) (g:List Ty),smalls g->∀x∈(Dk.fms n d g).1,x.shape=true/\x.size<=199/\FL x 327
 |0,_,_,_,x,h=>by cases h
 |n+1,d,g,hg,x,h=>by
  simp only[Dk.fms,List.mem_cons] at h;rcases h with rfl|h
  ·have f:=Dk.fm_fl 2 d g hg;exact⟨(Dk.fm_good 2 d g hg).1,by have:=f.2;omega,f.1.le (by omega)⟩
  ·exact Dk.fms_fl n _ g hg x h
theorem Yep{lems:List Fm}{tys:List Ty}{hyps:List Fm}{n m:Nat}{d e:Dk}(hg:smalls tys)(hl:lems=(Dk.fms n d []).1)(hh:hyps=(Dk.fms m e tys).1):HTp ⟨lems,tys,hyps⟩:=by
 subst hl hh;refine⟨⟨hg,fun x hx=> ?_,fun x hx=> ?_⟩,fun x hx=> ?_,fun x hx=> ?_⟩
 ·have:=Dk.fms_fl _ _ _ hg x hx;exact⟨this.1,this.2.1⟩
 ·have:=Dk.fms_fl _ _ _ zi x hx;exact⟨this.1,this.2.1,(Dk.fms_good _ _ _ zi x hx).2⟩
 ·exact (Dk.fms_fl _ _ _ hg x hx).2.2
 ·exact (Dk.fms_fl _ _ _ zi x hx).2.2
end Go.Ab
