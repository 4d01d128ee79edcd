/- A part of this seat's proofs. No conditions. -/
import Derived.Test.YtmhcohcihajegaaGreatDoorCDT1
namespace Go.Ab
open Go
set_option linter.all false
abbrev Us:=Int->Prop
abbrev Dr:=Ck->Fm->Us->Prop
def CO(c:Ck)(X:Fm):Prop:=X.shape=true/\X.A9 c.tys
def fin(c:Ck)(Y:Fm)(V:Us)(X:Fm)(U:Us):Prop:=FJ Y X/\CO c X/\(wi X=true->∀w,V w->U w)
def EE(t:Tm):Us:=fun w=>0<=w/\cnt w (t.vars 0)≠0
def J3(U:Us)(n:Int):Us:=fun w=>0<=w/\U (w+n)
def Fy(U V:Us):Us:=fun w=>U w\/V w
def FG:Us:=fun _=>False
def Ev(c:Ck)(t:Tm)(s:Ty):Prop:=t.shape=true/\t.inf c.tys=(s,0)
def IJ(i:Int):Dr:=fun c X U=>0<=i/\i<c.hyps.length/\fin c (c.hyps.getD (c.hyps.length-1-i.toNat) AK) FG X U
def Ka(i:Int):Dr:=fun c X U=>0<=i/\i<c.lems.length/\fin c (c.lems.getD i.toNat AK) FG X U
def Jj(d0 d1:Dr):Dr:=fun c X U=>∃A B U0 U1,d0 c A U0/\d1 c B U1/\fin c (vm 2 A B) (Fy U0 U1) X U
def Iq(j:Nat)(d0:Dr):Dr:=fun c X U=>∃A B U0,d0 c (vm 2 A B) U0/\fin c (if j=0 then A else B) U0 X U
def I9(f:Fm)(d0:Dr):Dr:=fun c X U=>CO c f/\∃B U0,d0 (c.Ah f) B U0/\fin c (vm 3 f B) U0 X U
def I5(d0 d1:Dr):Dr:=fun c X U=>∃A B U0 U1,d0 c (vm 3 A B) U0/\d1 c A U1/\fin c B (Fy U0 U1) X U
def IB(k:Int)(s:Ty)(d0:Dr):Dr:=fun c X U=>s.err=0/\∃B U0,d0 (c.below [s]) B U0/\(k=12->¬U0 0)/\fin c (AL (if k=8 then 4 else 6) s B) (J3 U0 1) X U
def IF(k:Int)(t:Tm)(d0:Dr):Dr:=fun c X U=>∃s A U0,s.err=0/\Ev c t s/\d0 c (AL (if k=13 then 6 else 4) s A) U0/\fin c (A.put 0 t) (Fy U0 fun w=>¬k=13/\EE t w) X U
def Im(k:Int)(f:Fm)(t:Tm)(d0:Dr):Dr:=fun c X U=>∃s A U0,f=AL (if k=14 then 7 else 5) s A/\s.err=0/\CO c f/\Ev c t s/\d0 c (A.put 0 t) U0/\fin c f (Fy U0 fun w=>¬k=14/\EE t w) X U
def Iw(k:Int)(d0 d1:Dr):Dr:=fun c X U=>∃s A B U0 U1,s.err=0/\d0 c (AL (if k=15 then 7 else 5) s A) U0/\CO c B/\d1 ((c.below [s]).Ah A) (B.As 0 1) U1/\(k=15->¬U1 0)/\fin c B (Fy U0 (J3 U1 1)) X U
def H6(f:Fm)(t:Tm)(d0 d1:Dr):Dr:=fun c X U=>CO (c.below [Ac]) f/\Ev c t Ac/\∃U0 U1,d0 c (f.put 0 zT) U0/\d1 ((c.below [Ac]).Ah f) ((f.As 1 1).put 0 (sT (vT 0))) U1/\fin c (f.put 0 t) (Fy (Fy (EE t) U0) (J3 U1 1)) X U
def HH(f:Fm)(t:Tm)(d0 d1:Dr):Dr:=fun c X U=>CO (c.below [Al]) f/\Ev c t Al/\∃U0 U1,d0 c (f.put 0 Dw) U0/\d1 ((c.below [Ac,Al]).Ah (f.As 1 1)) ((f.As 1 2).put 0 BJ) U1/\fin c (f.put 0 t) (Fy (Fy (EE t) U0) (J3 U1 2)) X U
def J9(t:Tm):Dr:=fun c X U=>Ev c t Ac/\fin c (AV t t) FG X U
def Jw(f:Fm)(d0 d1:Dr):Dr:=fun c X U=>CO (c.below [Ac]) f/\∃a b U0 U1,d0 c (AV a b) U0/\d1 c (f.put 0 a) U1/\fin c (f.put 0 b) U1 X U
def IG(d0:Dr):Dr:=fun c X U=>∃s u A U0,d0 c (AL 4 s (AL 5 u A)) U0/\fin c (AL 5 (xx s u) (AL 4 s ((A.As 2 1).put 0 Ca))) U0 X U
def nD:Dr:=fun _ _ _=>False
def ut(k i:Int)(s:Ty)(ts:List Tm)(fs:List Fm)(ds:List Dr):Dr:=
 if k=1 then IJ i else if k=2 then Ka i else if k=3 then Jj (ds.getD 0 nD) (ds.getD 1 nD)
 else if k=4\/k=5 then Iq (k-4).toNat (ds.getD 0 nD)
 else if k=6 then I9 (fs.getD 0 AK) (ds.getD 0 nD)
 else if k=7 then I5 (ds.getD 0 nD) (ds.getD 1 nD)
 else if k=8\/k=12 then IB k s (ds.getD 0 nD)
 else if k=9\/k=13 then IF k (ts.getD 0 AB) (ds.getD 0 nD)
 else if k=10\/k=14 then Im k (fs.getD 0 AK) (ts.getD 0 AB) (ds.getD 0 nD)
 else if k=11\/k=15 then Iw k (ds.getD 0 nD) (ds.getD 1 nD)
 else if k=16 then H6 (fs.getD 0 AK) (ts.getD 0 AB) (ds.getD 0 nD) (ds.getD 1 nD)
 else if k=17 then HH (fs.getD 0 AK) (ts.getD 0 AB) (ds.getD 0 nD) (ds.getD 1 nD)
 else if k=18 then J9 (ts.getD 0 AB)
 else if k=19 then Jw (fs.getD 0 AK) (ds.getD 0 nD) (ds.getD 1 nD)
 else IG (ds.getD 0 nD)
mutual
def Bc:Pf->Dr
 | .mk k i s ts fs zs=>fun c=>ut k i s ts fs (QT zs) c
def QT:List Pf->List Dr
 |[]=>[]
 |p::l=>Bc p::QT l
end
theorem bz:∀l:List Pf,QT l=l.map Bc
 |[]=>rfl
 |p::l=>by rw[QT,bz l];rfl
theorem vy(p:Pf)(c:Ck):Bc p c=ut p.kind p.index p.ty p.terms p.Ae (p.args.map Bc) c:=by cases p;simp only[Bc,bz];rfl
def DQ(d:Dr):Prop:=∀c X U Y V,d c X U->FJ X Y->CO c Y->(wi X=true->∀w,U w->V w)->d c Y V
theorem fin.cl{c:Ck}{Z X Y:Fm}{W U V:Us}(h:fin c Z W X U)(hj:FJ X Y)(ho:CO c Y)(hu:wi X=true->∀w,U w->V w):fin c Z W Y V:=
 ⟨h.1.trans hj,ho,fun hc w hw=>by
  have e:=hj.cont;exact hu (e.trans hc) w (h.2.2 (e.trans hc) w hw)⟩
section
variable {d0 d1:Dr} {k i:Int} {j:Nat} {s:Ty} {f:Fm} {t:Tm}
theorem Ynu:DQ (IJ i):=fun c X U Y V ⟨a,b,h⟩ hj ho hu=>⟨a,b,h.cl hj ho hu⟩
theorem Yne:DQ (Ka i):=fun c X U Y V ⟨a,b,h⟩ hj ho hu=>⟨a,b,h.cl hj ho hu⟩
theorem Ylt:DQ (Jj d0 d1):=fun c X U Y V ⟨A,B,U0,U1,a,b,h⟩ hj ho hu=>⟨A,B,U0,U1,a,b,h.cl hj ho hu⟩
theorem Ylj:DQ (Iq j d0):=fun c X U Y V ⟨A,B,U0,a,h⟩ hj ho hu=>⟨A,B,U0,a,h.cl hj ho hu⟩
theorem Yg6:DQ (I9 f d0):=fun c X U Y V ⟨e,B,U0,a,h⟩ hj ho hu=>⟨e,B,U0,a,h.cl hj ho hu⟩
theorem Yi6:DQ (I5 d0 d1):=fun c X U Y V ⟨A,B,U0,U1,a,b,h⟩ hj ho hu=>⟨A,B,U0,U1,a,b,h.cl hj ho hu⟩
theorem Ym3:DQ (IB k s d0):=fun c X U Y V ⟨e,B,U0,a,b,h⟩ hj ho hu=>⟨e,B,U0,a,b,h.cl hj ho hu⟩
theorem Yrx:DQ (IF k t d0):=fun c X U Y V ⟨s,A,U0,e,a,b,h⟩ hj ho hu=>⟨s,A,U0,e,a,b,h.cl hj ho hu⟩
theorem Yl3:DQ (Im k f t d0):=fun c X U Y V ⟨s,A,U0,e,e2,a,b,b',h⟩ hj ho hu=>⟨s,A,U0,e,e2,a,b,b',h.cl hj ho hu⟩
theorem Ykd:DQ (Iw k d0 d1):=fun c X U Y V ⟨s,A,B,U0,U1,e,a,b,b',e3,h⟩ hj ho hu=>⟨s,A,B,U0,U1,e,a,b,b',e3,h.cl hj ho hu⟩
theorem Yl4:DQ (H6 f t d0 d1):=fun c X U Y V ⟨e,e2,U0,U1,a,b,h⟩ hj ho hu=>⟨e,e2,U0,U1,a,b,h.cl hj ho hu⟩
theorem Yix:DQ (HH f t d0 d1):=fun c X U Y V ⟨e,e2,U0,U1,a,b,h⟩ hj ho hu=>⟨e,e2,U0,U1,a,b,h.cl hj ho hu⟩
theorem Ygh:DQ (J9 t):=fun c X U Y V ⟨e,h⟩ hj ho hu=>⟨e,h.cl hj ho hu⟩
theorem Yc7:DQ (Jw f d0 d1):=fun c X U Y V ⟨e,A,B,U0,U1,a,b,h⟩ hj ho hu=>⟨e,A,B,U0,U1,a,b,h.cl hj ho hu⟩
theorem Zy0:DQ (IG d0):=fun c X U Y V ⟨s,u,A,U0,a,h⟩ hj ho hu=>⟨s,u,A,U0,a,h.cl hj ho hu⟩
end
theorem Wi{Q:Dr->Prop}{k i:Int}{s:Ty}{ts:List Tm}{fs:List Fm}{ds:List Dr}
 (h0:Q (IJ i)) (h1:Q (Ka i)) (h2:Q (Jj (ds.getD 0 nD) (ds.getD 1 nD))) (h3:Q (Iq (k-4).toNat (ds.getD 0 nD))) (h4:Q (I9 (fs.getD 0 AK) (ds.getD 0 nD))) (h5:Q (I5 (ds.getD 0 nD) (ds.getD 1 nD))) (h6:Q (IB k s (ds.getD 0 nD))) (h7:Q (IF k (ts.getD 0 AB) (ds.getD 0 nD))) (h8:Q (Im k (fs.getD 0 AK) (ts.getD 0 AB) (ds.getD 0 nD))) (h9:Q (Iw k (ds.getD 0 nD) (ds.getD 1 nD))) (h10:Q (H6 (fs.getD 0 AK) (ts.getD 0 AB) (ds.getD 0 nD) (ds.getD 1 nD))) (h11:Q (HH (fs.getD 0 AK) (ts.getD 0 AB) (ds.getD 0 nD) (ds.getD 1 nD))) (h12:Q (J9 (ts.getD 0 AB))) (h13:Q (Jw (fs.getD 0 AK) (ds.getD 0 nD) (ds.getD 1 nD))) (h14:Q (IG (ds.getD 0 nD))):Q (ut k i s ts fs ds):=by
 unfold ut;by_cases a0:k=1
 .grind
 rw[if_neg a0];by_cases a1:k=2
 .grind
 rw[if_neg a1];by_cases a2:k=3
 .grind
 rw[if_neg a2];by_cases a3:k=4\/k=5
 .grind
 rw[if_neg a3];by_cases a4:k=6;all_goals grind
theorem Yit(k i:Int)(s:Ty)(ts:List Tm)(fs:List Fm)(ds:List Dr):DQ (ut k i s ts fs ds):=
 Wi (Q:=DQ) Ynu Yne Ylt Ylj Yg6 Yi6 Ym3 Yrx Yl3 Ykd Yl4 Yix Ygh Yc7 Zy0
theorem F2(p:Pf):DQ (Bc p):=fun c X U Y V h hj ho hu=>by
 rw[vy] at h ⊢;exact Yit _ _ _ _ _ _ c X U Y V h hj ho hu
def Mi(d:Dr):Prop:=∀c X U,d c X U->CO c X
theorem Ye9(k i:Int)(s:Ty)(ts:List Tm)(fs:List Fm)(ds:List Dr):Mi (ut k i s ts fs ds):=
 Wi (Q:=Mi)
  (fun c X U ⟨_,_,h⟩=>h.2.1)
  (fun c X U ⟨_,_,h⟩=>h.2.1)
  (fun c X U ⟨_,_,_,_,_,_,h⟩=>h.2.1)
  (fun c X U ⟨_,_,_,_,h⟩=>h.2.1)
  (fun c X U ⟨_,_,_,_,h⟩=>h.2.1)
  (fun c X U ⟨_,_,_,_,_,_,h⟩=>h.2.1)
  (fun c X U ⟨_,_,_,_,_,h⟩=>h.2.1)
  (fun c X U ⟨_,_,_,_,_,_,h⟩=>h.2.1)
  (fun c X U ⟨_,_,_,_,_,_,_,_,h⟩=>h.2.1)
  (fun c X U ⟨_,_,_,_,_,_,_,_,_,_,h⟩=>h.2.1)
  (fun c X U ⟨_,_,_,_,_,_,h⟩=>h.2.1)
  (fun c X U ⟨_,_,_,_,_,_,h⟩=>h.2.1)
  (fun c X U ⟨_,h⟩=>h.2.1)
  (fun c X U ⟨_,_,_,_,_,_,_,h⟩=>h.2.1)
  (fun c X U ⟨_,_,_,_,_,h⟩=>h.2.1)
theorem IC{p:Pf}{c:Ck}{X:Fm}{U:Us}(h:Bc p c X U):CO c X:=by
 rw[vy] at h;exact Ye9 _ _ _ _ _ _ c X U h
abbrev B5:Ty:= .mk 0 []
def CP(t:Tm):Fm:=AV (t.re (zi 0 1) 0) (vT 0)
inductive Cz:Nat->Ck->Pf->Prop
 |hyp {n c} (i:Nat) (h:i<c.hyps.length):Cz n c (vd i)
 |lem {n c} (i:Nat) (h:i<c.lems.length):Cz n c (.mk 2 i B5 [] [] [])
 |ref {n c t} (h:Mk 3 c.tys Ac t):Cz n c (xz t)
 |and {n c p q} (hp:Cz n c p) (hq:Cz n c q):Cz (n+1) c (.mk 3 0 B5 [] [] [p,q])
 |prj {n c k p q} (hk:k=4\/k=5) (hp:Cz n c p) (hq:Cz n c q):Cz (n+1) c (.mk k 0 B5 [] [] [.mk 3 0 B5 [] [] [p,q]])
 |imp {n c p} (d:Dk) (hp:Cz n (c.Ah (Dk.fm 1 d c.tys).1) p):Cz (n+1) c (.mk 6 0 B5 [] [(Dk.fm 1 d c.tys).1] [p])
 |app {n c p q x us} (hx:yr p c=(x,us,0)) (hp:Cz n c p) (hq:Cz n (c.Ah x) q):Cz (n+1) c (.mk 7 0 B5 [] [] [.mk 6 0 B5 [] [x] [q],p])
 |all {n c k s p} (hk:k=8\/k=12) (hs:s.small) (hp:Cz n (c.below [s]) p):Cz (n+1) c (.mk k 0 s [] [] [p])
 |at_ {n c k s t p} (hk:k=8\/k=12) (hs:s.small) (ht:Mk 3 c.tys s t) (hp:Cz n (c.below [s]) p):Cz (n+1) c (.mk (k+1) 0 B5 [t] [] [.mk k 0 s [] [] [p]])
 |ex {n c k t} (hk:k=5\/k=7) (ht:Mk 3 c.tys Ac t):Cz (n+1) c (.mk (2*k) 0 B5 [t] [AL k Ac (CP t)] [xz t])
 |wit {n c k s t p x us} (hk:k=5\/k=7) (hs:s.small) (hx:yr p c=(x,us,0)) (ht:Mk 3 c.tys s t) (hp:Cz n c p):Cz (n+1) c (.mk (2*k) 0 B5 [t] [AL k s (x.As 0 1)] [p])
 |opn {n c k t q} (hk:k=5\/k=7) (ht:Mk 3 c.tys Ac t) (hq:Cz n ((c.below [Ac]).Ah (CP t)) q):Cz (n+1) c (.mk (2*k+1) 0 B5 [] [] [.mk (2*k) 0 B5 [t] [AL k Ac (CP t)] [xz t],q])
 |opn2 {n c k t} (hk:k=5\/k=7) (ht:Mk 3 c.tys Ac t):Cz (n+1) c (.mk (2*k+1) 0 B5 [] [] [.mk (2*k) 0 B5 [t] [AL k Ac (CP t)] [xz t],.mk (2*k) 0 B5 [vT 0] [(AL k Ac (CP t)).As 0 1] [vd 0]])
 |ind {n c t p x us} (hx:yr p c=(x,us,0)) (ht:Mk 3 c.tys Ac t) (hp:Cz n c p):Cz (n+1) c (.mk 16 0 B5 [t] [x.As 0 1] [p,vd 0])
 |lst {n c t p x us} (hx:yr p c=(x,us,0)) (ht:Mk 3 c.tys Al t) (hp:Cz n c p):Cz (n+1) c (.mk 17 0 B5 [t] [x.As 0 1] [p,vd 0])
 |zer {n c t} (ht:Mk 3 c.tys Ac t):Cz (n+1) c (.mk 16 0 B5 [t] [AV (AE (AE Bt zT) (vT 0)) (vT 0)] [xz zT,JL (Be Ac (sT (vT 0))) (AE (AE Bt zT) (vT 0)) (vd 0)])
 |sub {n c t u} (ht:Mk 3 c.tys Ac t) (hu:Mk 3 c.tys Ac u):Cz (n+1) c (.mk 19 0 B5 [] [AV (u.re (zi 0 1) 0) (u.re (zi 0 1) 0)] [xz t,xz u])
 |cho {n c s t} (hs:s.small) (ht:Mk 3 (c.tys++[s]) Ac t):Cz (n+1) c (.mk 20 0 B5 [] [] [.mk 8 0 s [] [] [.mk 10 0 B5 [t] [AL 5 Ac (CP t)] [xz t]]])
theorem w9{r:Cj}{x:Fm}{us:List Int}(h:DH r=(x,us,0)):r.2.2=0/\r.1=x/\x.err=0:=by
 unfold DH at h;by_cases h1:r.2.2≠0
 .rw[if_pos h1] at h;have:=congrArg (fun q:Cj=>q.2.2) h;simp only[yf] at this;exact absurd this h1
 .rw[if_neg h1] at h;by_cases h2:r.1.err≠0
  .rw[if_pos h2] at h;have:=congrArg (fun q:Cj=>q.2.2) h;simp[yf] at this
  .rw[if_neg h2] at h;have h3:=congrArg (fun q:Cj=>q.1) h;simp only at h3;refine⟨fC.1 h1,h3,?_⟩;rw[<-h3];exact fC.1 h2
theorem y7{e:Int}(h:(yf e).2.2=0):e=0:=h
theorem JG{P:Prop}[Decidable P]{e:Int}{r:Cj}(he:P->e≠0)(h:(if P then yf e else r).2.2=0):(if P then yf e else r)=r:=by
 by_cases hp:P
 .rw[if_pos hp] at h;exact absurd (y7 h) (he hp)
 .rw[if_neg hp]
section
variable {c:Ck} {p q:Pf} {x:Fm} {us:List Int}
theorem I0{r:Cj}(h:r.2.2=0):∃us,r=(r.1,us,0):=⟨r.2.1,by obtain⟨a,b,e⟩:=r;simp only at h;subst h;rfl⟩
theorem O6(h:yr (.mk 3 0 B5 [] [] [p,q]) c=(x,us,0)):∃a b ua ub,yr p c=(a,ua,0)/\yr q c=(b,ub,0)/\x=vm 2 a b:=by
 have e:yr (.mk 3 0 B5 [] [] [p,q]) c=DH (Hx (yr p) (yr q) c):=lu
 rw[e] at h;obtain⟨h1,h2,h3⟩:=w9 h;unfold Hx at h1 h2;by_cases hp:(yr p c).2.2≠0
 .rw[if_pos hp] at h1;exact absurd (y7 h1) hp
 rw[if_neg hp] at h1 h2;obtain⟨ua,ha⟩:=I0 (fC.1 hp);obtain⟨ub,hb⟩:=I0 (r:=yr q c) h1;exact⟨_,_,ua,ub,ha,hb,h2.symm⟩
theorem Sg{k:Int}(hk:k=4\/k=5)(h:yr (.mk k 0 B5 [] [] [.mk 3 0 B5 [] [] [p,q]]) c=(x,us,0)):∃a b ua ub,yr p c=(a,ua,0)/\yr q c=(b,ub,0)/\(x=a\/x=b):=by
 have e:yr (.mk k 0 B5 [] [] [.mk 3 0 B5 [] [] [p,q]]) c=DH (G4 (k-4).toNat (yr (.mk 3 0 B5 [] [] [p,q])) c):=by rcases hk with rfl|rfl<;>(rw[wu];rfl)
 rw[e] at h;obtain⟨h1,h2,h3⟩:=w9 h;unfold G4 at h1 h2;by_cases hp:(yr (.mk 3 0 B5 [] [] [p,q]) c).2.2≠0
 .rw[if_pos hp] at h1;exact absurd (y7 h1) hp
 rw[if_neg hp] at h1 h2;obtain⟨u,hu⟩:=I0 (fC.1 hp);obtain⟨a,b,ua,ub,ha,hb,hx⟩:=O6 hu;refine⟨a,b,ua,ub,ha,hb,?_⟩;rw[hx] at h2;rw[if_neg kV] at h2;rcases hk with rfl|rfl
 .exact .inl h2.symm
 .exact .inr h2.symm
theorem OC{f:Fm}(h:yr (.mk 6 0 B5 [] [f] [p]) c=(x,us,0)):∃b ub,yr p (c.Ah f)=(b,ub,0)/\x=vm 3 f b:=by
 have e:yr (.mk 6 0 B5 [] [f] [p]) c=DH (Hr f (yr p) c):=lu
 rw[e] at h;obtain⟨h1,h2,h3⟩:=w9 h;unfold Hr at h1 h2;by_cases a1:y8 c.tys f≠0
 .exact qY
 rw[if_neg a1] at h1 h2;by_cases a2:c.room 0 1≠0
 .rw[if_pos a2] at h1;exact absurd (y7 h1) kq
 rw[if_neg a2] at h1 h2;obtain⟨ub,hb⟩:=I0 (r:=yr p (c.Ah f)) h1;exact⟨_,ub,hb,h2.symm⟩
theorem Sn{f:Fm}(h:yr (.mk 7 0 B5 [] [] [.mk 6 0 B5 [] [f] [q],p]) c=(x,us,0)):∃ub,yr q (c.Ah f)=(x,ub,0):=by
 have e:yr (.mk 7 0 B5 [] [] [.mk 6 0 B5 [] [f] [q],p]) c=DH (HA (yr (.mk 6 0 B5 [] [f] [q])) (yr p) c):=lu
 rw[e] at h;obtain⟨h1,h2,h3⟩:=w9 h;unfold HA at h1 h2;by_cases a1:(yr (.mk 6 0 B5 [] [f] [q]) c).2.2≠0
 .exact qY
 rw[if_neg a1] at h1 h2;obtain⟨u,hu⟩:=I0 (fC.1 a1);obtain⟨b,ub,hb,hx⟩:=OC hu;rw[hx] at h1 h2;rw[if_neg kV] at h1 h2;by_cases a3:(yr p c).2.2≠0
 .rw[if_pos a3] at h1;exact absurd (y7 h1) a3
 rw[if_neg a3] at h2;have e2:x=b:=h2.symm;subst e2;exact⟨ub,hb⟩
theorem M4{k:Int}{s:Ty}(hk:k=8\/k=12)(h:yr (.mk k 0 s [] [] [p]) c=(x,us,0)):∃b ub,yr p (c.below [s])=(b,ub,0)/\x=AL (if k=8 then 4 else 6) s b:=by
 have e:yr (.mk k 0 s [] [] [p]) c=DH (Hq k s (yr p) c):=by rcases hk with rfl|rfl<;>(rw[wu];rfl)
 rw[e] at h;obtain⟨h1,h2,h3⟩:=w9 h;unfold Hq at h1 h2;by_cases a1:c.room 1 0≠0
 .rw[if_pos a1] at h1;exact absurd (y7 h1) kq
 rw[if_neg a1] at h1 h2;by_cases a2:(yr p (c.below [s])).2.2≠0
 .exact sN
 rw[if_neg a2] at h1 h2;obtain⟨ub,hb⟩:=I0 (fC.1 a2);refine⟨_,ub,hb,?_⟩;rcases hk with rfl|rfl
 .rw[if_pos rfl] at h2 ⊢;exact h2.symm
 .rw[if_neg kq] at h1 h2 ⊢;by_cases a3:GV (yr p (c.below [s])).2.1=true
  .rw[if_pos a3] at h1;exact absurd (y7 h1) kq
  .rw[if_neg a3] at h2;exact h2.symm
theorem Rp{k:Int}{s:Ty}{t:Tm}(hk:k=8\/k=12)(h:yr (.mk (k+1) 0 B5 [t] [] [.mk k 0 s [] [] [p]]) c=(x,us,0)):∃b ub,yr p (c.below [s])=(b,ub,0)/\x=b.put 0 t:=by
 have e:yr (.mk (k+1) 0 B5 [t] [] [.mk k 0 s [] [] [p]]) c=DH (atR (k+1) t (yr (.mk k 0 s [] [] [p])) c):=by rcases hk with rfl|rfl<;>(rw[wu];rfl)
 rw[e] at h;obtain⟨h1,h2,h3⟩:=w9 h;unfold atR at h1 h2;by_cases a1:(yx c.tys t).2≠0
 .exact qY
 rw[if_neg a1] at h1 h2;by_cases a2:(yr (.mk k 0 s [] [] [p]) c).2.2≠0
 .exact sN
 rw[if_neg a2] at h1 h2;obtain⟨u,hu⟩:=I0 (fC.1 a2);obtain⟨b,ub,hb,hx⟩:=M4 hk hu;refine⟨b,ub,hb,?_⟩;split at h1
 .exact rC
 .next a3=>
  rw[if_neg a3] at h2;split at h1
  .exact rC
  .next a4=>
   rw[if_neg a4] at h2;have e3:(yr (.mk k 0 s [] [] [p]) c).1.args.getD 0 AK=b:=by rw[hx];rfl
   rw[e3] at h1 h2;simp only[Cr] at h1 h2;rw[if_pos h1] at h2;exact h2.symm
theorem Ik{k:Int}{f:Fm}{t:Tm}(hk:k=10\/k=14)(h:yr (.mk k 0 B5 [t] [f] [p]) c=(x,us,0)):x=f:=by
 have e:yr (.mk k 0 B5 [t] [f] [p]) c=DH (Hj k f t (yr p) c):=by rcases hk with rfl|rfl<;>(rw[wu];rfl)
 rw[e] at h;obtain⟨h1,h2,h3⟩:=w9 h;unfold Hj at h1 h2;split at h1
 .exact sS
 .next a1=>
  rw[if_neg a1] at h2;split at h1
  .exact rC
  .next a2=>
   rw[if_neg a2] at h2;split at h1
   .exact sS
   .next a3=>
    rw[if_neg a3] at h2;split at h1
    .exact rC
    .next a4=>
     rw[if_neg a4] at h2;exact h2.symm
theorem LZ{k:Int}{s:Ty}{f:Fm}{t:Tm}(hk:k=5\/k=7)(h:yr (.mk (2*k+1) 0 B5 [] [] [.mk (2*k) 0 B5 [t] [AL k s f] [p],q]) c=(x,us,0)):
 ∃b ub y,yr q ((c.below [s]).Ah f)=(b,ub,0)/\ul b=(y,0)/\x=y.As 1 (-1):=by
 have e:yr (.mk (2*k+1) 0 B5 [] [] [.mk (2*k) 0 B5 [t] [AL k s f] [p],q]) c=DH (HC (2*k+1) (yr (.mk (2*k) 0 B5 [t] [AL k s f] [p])) (yr q) c):=by rcases hk with rfl|rfl<;>(rw[wu];rfl)
 rw[e] at h;obtain⟨h1,h2,h3⟩:=w9 h;unfold HC at h1 h2;by_cases a1:(yr (.mk (2*k) 0 B5 [t] [AL k s f] [p]) c).2.2≠0
 .exact qY
 rw[if_neg a1] at h1 h2;obtain⟨u,hu⟩:=I0 (fC.1 a1);have hx:=Ik kn hu;split at h1
 .exact rC
 next a2=>
 rw[if_neg a2] at h2;split at h1
 .exact rC
 next a3=>
 rw[if_neg a3] at h2;have eo:GB (yr q) c (yr (.mk (2*k) 0 B5 [t] [AL k s f] [p]) c).1=yr q ((c.below [s]).Ah f):=by
  unfold GB;rw[hx];rfl
 rw[eo] at h1 h2;by_cases a4:(yr q ((c.below [s]).Ah f)).2.2≠0
 .rw[if_pos a4] at h1;exact absurd (y7 h1) a4
 rw[if_neg a4] at h1 h2;obtain⟨ub,hb⟩:=I0 (fC.1 a4);by_cases a5:(ul (yr q ((c.below [s]).Ah f)).1).2≠0
 .rw[if_pos a5] at h1;exact absurd (y7 h1) a5
 rw[if_neg a5] at h1 h2;refine⟨_,ub,(ul (yr q ((c.below [s]).Ah f)).1).1,hb,?_,?_⟩
 .exact jT rfl (fC.1 a5)
 .split at h1
  .exact rC
  .next a6=>rw[if_neg a6] at h2;exact h2.symm
theorem LX{f:Fm}{t:Tm}(h:yr (.mk 16 0 B5 [t] [f] [p,q]) c=(x,us,0)):x=f.put 0 t:=by
 have e:yr (.mk 16 0 B5 [t] [f] [p,q]) c=DH (G7 f t (yr p) (yr q) c):=lu
 rw[e] at h;obtain⟨h1,h2,h3⟩:=w9 h;unfold G7 at h1 h2;have e0:=JG (fun a=>a) h1;rw[e0] at h1 h2;have e1:=JG (fun a=>a) h1;rw[e1] at h1 h2;have e2:=JG (fun a=>a) h1;rw[e2] at h1 h2;have e3:=JG (fun _=>kq) h1;rw[e3] at h1 h2;have e4:=JG (fun a=>a) h1;rw[e4] at h1 h2;simp only[Cr] at h1 h2;rw[if_pos h1] at h2;exact h2.symm
theorem SO{f:Fm}{t:Tm}(h:yr (.mk 17 0 B5 [t] [f] [p,q]) c=(x,us,0)):x=f.put 0 t:=by
 have e:yr (.mk 17 0 B5 [t] [f] [p,q]) c=DH (G2 f t (yr p) (yr q) c):=lu
 rw[e] at h;obtain⟨h1,h2,h3⟩:=w9 h;unfold G2 at h1 h2;have e0:=JG (fun a=>a) h1;rw[e0] at h1 h2;have e1:=JG (fun a=>a) h1;rw[e1] at h1 h2;have e2:=JG (fun a=>a) h1;rw[e2] at h1 h2;have e3:=JG (fun _=>kq) h1;rw[e3] at h1 h2;have e4:=JG (fun a=>a) h1;rw[e4] at h1 h2;simp only[Cr] at h1 h2;rw[if_pos h1] at h2;exact h2.symm
theorem Vx{t:Tm}(h:yr (xz t) c=(x,us,0)):x=AV t t:=by
 have e:yr (xz t) c=DH (Io t c):=lu
 rw[e] at h;obtain⟨h1,h2,h3⟩:=w9 h;exact h2.symm
theorem UF{f:Fm}{t u:Tm}(h:yr (.mk 19 0 B5 [] [f] [xz t,q]) c=(x,us,0)):x=f.put 0 t:=by
 have e:yr (.mk 19 0 B5 [] [f] [xz t,q]) c=DH (GZ f (yr (xz t)) (yr q) c):=lu
 rw[e] at h;obtain⟨h1,h2,h3⟩:=w9 h;unfold GZ at h1 h2;split at h1
 .exact sS
 next a1=>
 rw[if_neg a1] at h2;by_cases a2:(yr (xz t) c).2.2≠0
 .exact sN
 rw[if_neg a2] at h1 h2;obtain⟨u,hu⟩:=I0 (fC.1 a2);have hx:=Vx hu;rw[hx] at h1 h2;rw[if_neg me] at h1 h2;have e0:(AV t t).terms.getD 0 AB=t:=rfl;have e1:(AV t t).terms.getD 1 AB=t:=rfl;rw[e0,e1] at h1 h2;split at h1
 .exact sS
 next a3=>
 rw[if_neg a3] at h2;simp only[Cr] at h1 h2;rw[if_pos h1] at h2;exact h2.symm
theorem bV{i:Nat}(hi:i<c.hyps.length)(h:yr (vd i) c=(x,us,0)):x∈c.hyps:=by
 have e:yr (vd i) c=DH (G6 c i):=lu
 rw[e] at h;obtain⟨h1,h2,h3⟩:=w9 h;unfold G6 at h2;rw[if_neg kn] at h2;simp only[Int.toNat_natCast] at h2;rw[<-h2,vg kn];exact fA _
theorem X7{i:Nat}(hi:i<c.lems.length)(h:yr (.mk 2 i B5 [] [] []) c=(x,us,0)):x∈c.lems:=by
 have e:yr (.mk 2 i B5 [] [] []) c=DH (G5 c i):=lu
 rw[e] at h;obtain⟨h1,h2,h3⟩:=w9 h;unfold G5 at h2;rw[if_neg kn] at h2;simp only[Int.toNat_natCast] at h2;rw[<-h2,vg hi];exact fA _
theorem Vi{s:Ty}{f:Fm}{t:Tm}(h:yr (.mk 20 0 B5 [] [] [.mk 8 0 s [] [] [.mk 10 0 B5 [t] [AL 5 Ac f] [p]]]) c=(x,us,0)):
 x=AL 5 (xx s Ac) (AL 4 s ((f.As 2 1).put 0 Ca)):=by
 have e:yr (.mk 20 0 B5 [] [] [.mk 8 0 s [] [] [.mk 10 0 B5 [t] [AL 5 Ac f] [p]]]) c=DH (Hi (yr (.mk 8 0 s [] [] [.mk 10 0 B5 [t] [AL 5 Ac f] [p]])) c):=lu
 rw[e] at h;obtain⟨h1,h2,h3⟩:=w9 h;unfold Hi at h1 h2;by_cases a1:(yr (.mk 8 0 s [] [] [.mk 10 0 B5 [t] [AL 5 Ac f] [p]]) c).2.2≠0
 .exact qY
 rw[if_neg a1] at h1 h2;obtain⟨u,hu⟩:=I0 (fC.1 a1);obtain⟨b,ub,hb,hx⟩:=M4 (.inl rfl) hu;have hy:=Ik (.inl rfl) hb;rw[if_pos rfl] at hx;subst hy;rw[hx] at h1 h2;split at h1
 .exact rC
 next a2=>
 rw[if_neg a2] at h2;split at h1
 .exact rC
 next a3=>
 rw[if_neg a3] at h2;have ec:Kx (AL 4 s (AL 5 Ac f))=Cr (f.As 2 1) Ca:=rfl;rw[ec] at h1 h2;simp only[Cr] at h1 h2;rw[if_pos h1] at h2;exact h2.symm
end
theorem vf{f:Fm}(hs:f.shape=true)(n:Nat):(f.As 0 n).shape=true/\(f.As 0 n).size=f.size:=⟨(yt hs kn).1,(yt hs kn).2.1⟩
structure HB (H:Nat) (c:Ck):Prop where
 g:Aj c.tys
 h:∀x∈c.hyps,x.shape=true/\x.size<=H
 l:∀x∈c.lems,x.shape=true/\x.size<=199/\x.A9 []
theorem HB.below{H:Nat}{c:Ck}(h:HB H c){s:Ty}(hs:s.small):HB H (c.below [s]):=by
 refine⟨zm h.g (zg hs zk),?_,h.l⟩;intro x hx;obtain⟨y,hy,rfl⟩:=fO.1 hx;have:=h.h y hy;have k:=vf this.1 1;exact⟨k.1,by have:=this.2;have:=k.2;simp only[gT] at*;omega⟩
theorem HB.Ah{H:Nat}{c:Ck}(h:HB H c){x:Fm}(hs:x.shape=true)(hz:x.size<=H):HB H (c.Ah x):=by
 refine⟨h.g,?_,h.l⟩;intro y hy;rcases fV.1 hy with hy|hy
 .exact h.h y hy
 .rw[gp.1 hy];exact⟨hs,hz⟩
theorem HB.le{H K:Nat}{c:Ck}(h:HB H c)(hl:H<=K):HB K c:=⟨h.g,fun x hx=>⟨(h.h x hx).1,by have:=(h.h x hx).2;omega⟩,h.l⟩
theorem Lo{c:Ck}{p:Pf}{x:Fm}{us:List Int}(h:Cz 0 c p)(hi:yr p c=(x,us,0)):x∈c.hyps\/x∈c.lems\/∃t,Mk 3 c.tys Ac t/\x=AV t t:=by
 cases h with
 |hyp i h=>exact .inl (bV h hi)
 |lem i h=>exact .inr (.inl (X7 h hi))
 |ref h=>exact .inr (.inr ⟨_,h,Vx hi⟩)
theorem XG(k i:Int)(s:Ty)(ts:List Tm)(fs:List Fm)(ps:List Pf):(Pf.mk k i s ts fs ps).size=1+(ts.map Tm.size).sum+(fs.map Fm.size).sum+(ps.map Pf.size).sum:=Pf.size_eq _
theorem z0{H:Nat}{c:Ck}{p:Pf}(h:Cz 0 c p)(hb:HB H c)(hH:199<=H):p.size<=25/\∀x us,yr p c=(x,us,0)->x.size<=H/\p.size+x.size<=H+1:=by
 cases h with
 |hyp i h=>
  have e:(vd i).size=1:=rfl;refine⟨kn,fun x us hi=> ?_⟩;have:=(hb.h x (bV h hi)).2;exact⟨this,kn⟩
 |lem i h=>
  have e:(Pf.mk 2 i B5 [] [] []).size=1:=rfl;refine⟨kn,fun x us hi=> ?_⟩;have:=(hb.l x (X7 h hi)).2.1;exact⟨kn,kn⟩
 | @ref _ _ t h=>
   have z:=h.z24 hb.g;have e:(xz t).size=1+t.size:=oO
   refine⟨kn,fun x us hi=> ?_⟩;rw[Vx hi,Kh];exact⟨kn,kn⟩
theorem Wy{f:Fm}:∀{g:List Ty} {b:Int},f.A9 g->f.shape=true->∀q∈f.A6 b,∀v∈q.1.vars 0,v.1-v.2<g.length+(q.2-b):=by
 induction f using Fm.ind with
 |h f ih=>
  intro g b hok hf q hq v hv;rw[Fm.A8] at hok;rw[Fm.A0,fV] at hq;rcases hq with hq|hq
  .obtain ⟨t,ht,rfl⟩:=fO.1 hq;have h2:=hok.1 t ht;have:=RO t g 0 (yi hf ht) (by rw[h2]) v hv;simp only at*;omega
  .obtain ⟨x,hx,hq⟩:=gh.1 hq;have h2:=ih x hx (hok.2 x hx) (zp hf hx) q hq v hv;have h3:((C6 g f).length:Int)-A3 f.kind b<=g.length-b:=by
    unfold C6 A3 wc;by_cases h:4<=f.kind/\f.kind<=7
    .simp[h];omega
    .simp[h]
   omega
theorem yd{p:Pf}{c:Ck}{x:Fm}{us:List Int}(h:yr p c=(x,us,0)):x.shape=true/\x.size<=4096:=by
 rw[wu] at h;have:=(Fm.Aa x).1 (w9 h).2.2;exact⟨this.1,by have:=this.2;omega⟩
theorem MQ{f:Fm}(h:f.A9 [])(hs:f.shape=true)(s:Tm):f.put 0 s=f:=by
 refine Fm.Cc f 0 fun p hp=> ?_;refine Cc p.1 0 (xj f hs 0 p hp) fun q hq=> ?_;have h1:=Wy h hs p hp q hq;have h2:=u3 p hp;simp only[gB] at h1;rw[xt,if_neg kn];congr 1;split<;>omega
theorem x7{b y:Fm}(h:ul b=(y,0)):(zq 0 b=0/\y=b)\/(zq 0 b≠0/\(y9 b).2=0/\y=(y9 b).1/\zq 0 y=0):=by
 unfold ul at h;by_cases h1:zq 0 b=0
 .rw[if_pos h1] at h;exact .inl ⟨h1,(congrArg Prod.fst h).symm⟩
 .rw[if_neg h1] at h;by_cases h2:(y9 b).2≠0
  .rw[if_pos h2] at h;exact absurd (congrArg Prod.snd h) h2
  .rw[if_neg h2] at h;by_cases h3:zq 0 (y9 b).1≠0
   .rw[if_pos h3] at h;exact absurd (congrArg Prod.snd h) (by show ¬(6:Int)=0;decide)
   .rw[if_neg h3] at h;have:=congrArg Prod.fst h;simp only at this;exact .inr ⟨h1,fC.1 h2,this.symm,by rw[<-this];exact fC.1 h3⟩
theorem Ln{f:Fm}(hs:f.shape=true)(h:zq 0 f=0):(f.As 1 (-1)).size=f.size/\(f.As 1 (-1)).shape=true:=by
 rw[ML zT hs h];refine⟨?_,uj kn kq hs⟩;have:=v7 0 zT kq f hs 0;have e:ud 0 (f.A6 0)=0:=h;show(f.re (fun b t=>t.re (yq (0+b) zT) 0) 0).size=f.size
 grind
theorem Yn2:(yv (vT 0) 1000).1=vT 0:=kq
theorem U9{t:Tm}{y:Fm}(h:ul (CP t)=(y,0)):False:=by
 rcases x7 h with⟨h1,_⟩|⟨_,h2,rfl,h3⟩
 .have:1<=zq 0 (CP t):=by
   have e:zq 0 (CP t)=cnt 0 ((t.re (zi 0 1) 0).vars 0)+1:=rfl;omega
  omega
 .have e:CP t= .mk 1 BH [t.re (zi 0 1) 0,vT 0] []:=rfl;rw[e] at h2 h3;unfold y9 at h2 h3;simp only[wo,xd] at h2 h3;by_cases h1:(yv (t.re (zi 0 1) 0) 1000).2.2=0
  .by_cases h4:(yv (vT 0) 1000).2.2=0
   .simp[h1,h4,Yn2] at h3;simp[zq,Fm.A6,Fm.HJ,ud,cnt,vT,Tm.vars,Tm.BV] at h3
   .simp[h1,h4] at h2
  .simp[h1] at h2
def EN(r:Rs)(d:Dr):Prop:=∀c,c.ok->∀x us,r c=(x,us,0)->d c x (fun w=>w∈us)/\us.Pairwise (·<=·)
theorem fin.mono{c:Ck}{Y X:Fm}{V V' U:Us}(h:fin c Y V X U)(hv:∀w,V' w->V w):fin c Y V' X U:=⟨h.1,h.2.1,fun hc w hw=>h.2.2 hc w (hv w hw)⟩
theorem Yqe{c:Ck}{r:Cj}{x:Fm}{us:List Int}(h:DH r=(x,us,0))(ho:CO c x):r.2.2=0/\r.1=x/\fin c r.1 (fun w=>w∈r.2.1) x (fun w=>w∈us)/\(us=r.2.1\/us=[]):=by
 unfold DH at h;by_cases h1:r.2.2≠0
 .rw[if_pos h1] at h;exact absurd (congrArg (fun q:Cj=>q.2.2) h) h1
 rw[if_neg h1] at h;by_cases h2:r.1.err≠0
 .rw[if_pos h2] at h;exact absurd (congrArg (fun q:Cj=>q.2.2) h) (by show ¬(4:Int)=0;decide)
 rw[if_neg h2] at h;have e1:r.1=x:=congrArg (fun q:Cj=>q.1) h;have e2:(if wi r.1=true then r.2.1 else [])=us:=congrArg (fun q:Cj=>q.2.1) h;refine⟨fC.1 h1,e1,⟨by rw[e1];exact .refl _,ho,fun hc w hw=> ?_⟩,?_⟩;all_goals grind
theorem HN{r:Cj}(h:¬r.2.2≠0):∃us,r=(r.1,us,0)/\us=r.2.1:=⟨r.2.1,kr,rfl⟩
theorem vz(a b:List Int):(Fl a b).Pairwise (·<=·):=N8 _
theorem Yo{l:List Int}(h:l.Pairwise (·<=·))(n:Int):(Eg l n).Pairwise (·<=·):=by
 unfold Eg
 grind
theorem YX{l:List Int}(h:¬GV l=true)(hs:l.Pairwise (·<=·))(h0:∀u∈l,0<=u):¬0∈l:=by
 intro hm;cases l with
 |nil=>cases hm
 |cons x l=>
  have hx:=h0 x ko;have:x≠0:=fun e=>h (by simp[GV,e]);rcases fW.1 hm with e|e
  .omega
  .have:=(List.pairwise_cons.1 hs).1 0 e;omega
theorem K9{t:Tm}(h:t.err=0){w:Int}:w∈FH t↔EE t w:=by
 unfold FH;rw[if_pos h,BR];rfl
section
variable {r0 r1:Rs} {d0 d1:Dr} {c:Ck} {x:Fm} {U:Us}
theorem Wm(i:Int)(hi:0<=i)(he:(G6 c i).2.2=0)(hf:fin c (G6 c i).1 (fun w=>w∈(G6 c i).2.1) x U):IJ i c x U/\(G6 c i).2.1.Pairwise (·<=·):=by
 unfold G6 at he hf ⊢;split at he
 .cases he
 rename_i h;rw[if_neg h] at hf ⊢;exact⟨⟨hi,kn,hf.mono fun w h=>h.elim⟩,.nil⟩
theorem Ta(i:Int)(hi:0<=i)(he:(G5 c i).2.2=0)(hf:fin c (G5 c i).1 (fun w=>w∈(G5 c i).2.1) x U):Ka i c x U/\(G5 c i).2.1.Pairwise (·<=·):=by
 unfold G5 at he hf ⊢;split at he
 .cases he
 rename_i h;rw[if_neg h] at hf ⊢;exact⟨⟨hi,kn,hf.mono fun w h=>h.elim⟩,.nil⟩
theorem TQ(h0:EN r0 d0)(h1:EN r1 d1)(hc:c.ok)(he:(Hx r0 r1 c).2.2=0)(hf:fin c (Hx r0 r1 c).1 (fun w=>w∈(Hx r0 r1 c).2.1) x U):Jj d0 d1 c x U/\(Hx r0 r1 c).2.1.Pairwise (·<=·):=by
 unfold Hx at he hf ⊢;by_cases e0:(r0 c).2.2≠0
 .exact qo
 rw[if_neg e0] at he hf ⊢;obtain⟨u0,q0,rfl⟩:=HN e0;obtain⟨u1,q1,rfl⟩:=HN (r:=r1 c) kr;exact⟨⟨_,_,_,_,(h0 c hc _ _ q0).1,(h1 c hc _ _ q1).1,hf.mono fun w h=>AM.2 h⟩,vz _ _⟩
theorem Pd(j:Nat)(hj:j<2)(k0:BP r0)(h0:EN r0 d0)(hc:c.ok)(he:(G4 j r0 c).2.2=0)(hf:fin c (G4 j r0 c).1 (fun w=>w∈(G4 j r0 c).2.1) x U):Iq j d0 c x U/\(G4 j r0 c).2.1.Pairwise (·<=·):=by
 unfold G4 at he hf ⊢;by_cases e0:(r0 c).2.2≠0
 .exact qo
 rw[if_neg e0] at he hf ⊢;by_cases e1:(r0 c).1.kind≠2
 .exact rP
 rw[if_neg e1] at he hf ⊢;obtain⟨u0,q0,rfl⟩:=HN e0;obtain⟨a1,a2,a3⟩:=k0.good hc (fC.1 e0);obtain⟨A,B,e⟩:=MA ((Fm.Aa _).1 a1).1 (.inl (fC.1 e1));rw[fC.1 e1] at e;have hs:=h0 c hc _ _ q0;rw[e] at hf hs;refine⟨⟨A,B,_,hs.1,?_⟩,hs.2⟩;have:(vm 2 A B).args.getD j AK=if j=0 then A else B:=by
  rcases j with _|_|j
  .rfl
  .rfl
  .omega
 grind
theorem Yso(f:Fm)(h0:EN r0 d0)(hc:c.ok)(he:(Hr f r0 c).2.2=0)(hf:fin c (Hr f r0 c).1 (fun w=>w∈(Hr f r0 c).2.1) x U):I9 f d0 c x U/\(Hr f r0 c).2.1.Pairwise (·<=·):=by
 unfold Hr at he hf ⊢;by_cases e0:y8 c.tys f≠0
 .exact qo
 rw[if_neg e0] at he hf ⊢;by_cases e1:c.room 0 1≠0
 .exact rP
 rw[if_neg e1] at he hf ⊢;obtain⟨f1,f2⟩:=we (fC.1 e0);have hr:=xw (fC.1 e1);obtain⟨u0,q0,rfl⟩:=HN (r:=r0 (c.Ah f)) kr;have hs:=h0 _ (hc.Ah hr.2 f1 f2) _ _ q0;exact⟨⟨⟨((Fm.Aa f).1 f1).1,f2⟩,_,_,hs.1,hf⟩,hs.2⟩
theorem Ys3(k0:BP r0)(k1:BP r1)(c1:DQ d1)(h0:EN r0 d0)(h1:EN r1 d1)(hc:c.ok)(he:(HA r0 r1 c).2.2=0)(hf:fin c (HA r0 r1 c).1 (fun w=>w∈(HA r0 r1 c).2.1) x U):I5 d0 d1 c x U/\(HA r0 r1 c).2.1.Pairwise (·<=·):=by
 unfold HA at he hf ⊢;by_cases e0:(r0 c).2.2≠0
 .exact qo
 rw[if_neg e0] at he hf ⊢;by_cases e1:(r0 c).1.kind≠3
 .exact rP
 rw[if_neg e1] at he hf ⊢;by_cases e2:(r1 c).2.2≠0
 .exact rU
 rw[if_neg e2] at he hf ⊢;obtain⟨u0,q0,rfl⟩:=HN e0;obtain⟨u1,q1,rfl⟩:=HN e2;obtain⟨a1,a2,a3⟩:=k0.good hc (fC.1 e0);obtain⟨b1,b2,b3⟩:=k1.good hc (fC.1 e2);obtain⟨A,B,e⟩:=MA ((Fm.Aa _).1 a1).1 (.inr (fC.1 e1));rw[fC.1 e1] at e;have hs:=h0 c hc _ _ q0;have ht:=h1 c hc _ _ q1;rw[e] at hf hs he a1 a2;have hj:FJ A (r1 c).1:=Xy he;have oA:CO c A:=⟨((Fm.Aa _).1 (xh a1 (x:=A) kV)).1,(Qi (.inr rfl) a2).1⟩;exact⟨⟨A,B,_,_,hs.1,c1 _ _ _ _ _ ht.1 hj.symm oA (fun _ w h=>h),hf.mono fun w h=>AM.2 h⟩,vz _ _⟩
theorem Pp(k:Int)(s:Ty)(hs:s.err=0)(hk:k=8\/k=12)(k0:BP r0)(h0:EN r0 d0)(hc:c.ok)(he:(Hq k s r0 c).2.2=0)(hf:fin c (Hq k s r0 c).1 (fun w=>w∈(Hq k s r0 c).2.1) x U):IB k s d0 c x U/\(Hq k s r0 c).2.1.Pairwise (·<=·):=by
 unfold Hq at he hf ⊢;by_cases e0:c.room 1 0≠0
 .rw[if_pos e0] at he;cases he
 rw[if_neg e0] at he hf ⊢;have hr:=xw (fC.1 e0);have hb:=hc.below (l:=[s]) hr.1 kr;by_cases e1:(r0 (c.below [s])).2.2≠0
 .exact rB
 rw[if_neg e1] at he hf ⊢;obtain⟨u0,q0,rfl⟩:=HN e1;have ht:=h0 _ hb _ _ q0;obtain⟨a1,a2,a3⟩:=k0.good hb (fC.1 e1);rcases hk with rfl|rfl
 .rw[if_pos rfl] at he hf ⊢;exact⟨⟨hs,_,_,ht.1,fun h=>absurd h kq,hf.mono fun w h=>B3.2 h⟩,Yo ht.2 1⟩
 .rw[if_neg kq] at he hf ⊢;by_cases e2:GV (r0 (c.below [s])).2.1=true
  .exact sj
  rw[if_neg e2] at he hf ⊢;exact⟨⟨hs,_,_,ht.1,fun _=>YX e2 ht.2 fun u hu=>(a3.2 u hu).1,hf.mono fun w h=>B3.2 h⟩,Yo ht.2 1⟩
theorem Xa(k:Int)(t:Tm)(hk:k=9\/k=13)(k0:BP r0)(h0:EN r0 d0)(hc:c.ok)(he:(atR k t r0 c).2.2=0)(hf:fin c (atR k t r0 c).1 (fun w=>w∈(atR k t r0 c).2.1) x U):IF k t d0 c x U/\(atR k t r0 c).2.1.Pairwise (·<=·):=by
 unfold atR at he hf ⊢;by_cases e0:(yx c.tys t).2≠0
 .exact qo
 rw[if_neg e0] at he hf ⊢;by_cases e1:(r0 c).2.2≠0
 .exact rB
 rw[if_neg e1] at he hf ⊢;by_cases e2:(r0 c).1.kind≠kI k 13 6 4
 .exact sj
 rw[if_neg e2] at he hf ⊢;by_cases e3:(r0 c).1.ty≠(yx c.tys t).1
 .exact sZ
 rw[if_neg e3] at he hf ⊢;obtain⟨u0,q0,rfl⟩:=HN e1;obtain⟨_,t1,t2,t3⟩:=L4 (fC.1 e0);obtain⟨a1,a2,a3⟩:=k0.good hc (fC.1 e1);have hs:=h0 c hc _ _ q0;have hk4:(r0 c).1.kind=if k=13 then 6 else 4:=fC.1 e2
 obtain⟨A,e⟩:=GM ((Fm.Aa _).1 a1).1 kn;have hty:(r0 c).1.ty=(yx c.tys t).1:=fC.1 e3;rw[hk4,hty] at e;rw[e] at hf hs he;have hg:(AL (if k=13 then 6 else 4) (yx c.tys t).1 A).args.getD 0 AK=A:=rfl;rw[hg] at hf he;have hp:(Cr A t).1=A.put 0 t:=mO
 rw[hp] at hf;refine⟨⟨_,A,_,t3,⟨((Tm.Aa t).1 t1).1,t2⟩,hs.1,hf.mono fun w h=> ?_⟩,?_⟩
 .exact qX
 .simp only[kL];split
  .grind
  .exact vz _ _
theorem MR{f:Fm}{t:Tm}{g:List Ty}{σ:Ty}(c1:DQ d0)(h0:EN r0 d0)(hc:c.ok)(hg:c.tys=g)(hf:f.A9 (g++[σ]))(ht:t.inf g=(σ,0))(he:¬(yy r0 c f t).2≠0):
 d0 c (f.put 0 t) (fun w=>w∈(yy r0 c f t).1)/\(yy r0 c f t).1.Pairwise (·<=·)/\(yy r0 c f t).1=(r0 c).2.1/\CO c (f.put 0 t):=by
 subst hg;unfold yy at he ⊢;by_cases e0:(r0 c).2.2≠0
 .grind
 rw[if_neg e0] at he ⊢;by_cases e1:(Cr f t).2≠0
 .grind
 rw[if_neg e1] at he ⊢;obtain⟨u0,q0,rfl⟩:=HN e0;have hs:=h0 c hc _ _ q0;obtain⟨p1,p2⟩:=LC hf ht (fC.1 e1);have hp:(Cr f t).1=f.put 0 t:=by unfold Cr at e1 ⊢;grind
 rw[hp] at p1 p2 he;have o:CO c (f.put 0 t):=⟨((Fm.Aa _).1 p1).1,p2⟩;exact⟨c1 _ _ _ _ _ hs.1 (Xy (fC.1 he)).symm o (fun _ w h=>h),hs.2,rfl,o⟩
theorem bt(k:Int)(f:Fm)(t:Tm)(hk:k=10\/k=14)(c1:DQ d0)(h0:EN r0 d0)(hc:c.ok)(he:(Hj k f t r0 c).2.2=0)(hf:fin c (Hj k f t r0 c).1 (fun w=>w∈(Hj k f t r0 c).2.1) x U):Im k f t d0 c x U/\(Hj k f t r0 c).2.1.Pairwise (·<=·):=by
 unfold Hj at he hf ⊢;by_cases e0:y8 c.tys f≠0
 .exact qo
 rw[if_neg e0] at he hf ⊢;by_cases e1:f.kind≠kI k 14 7 5
 .exact rP
 rw[if_neg e1] at he hf ⊢;by_cases e2:(yx c.tys t).2≠0
 .exact rU
 rw[if_neg e2] at he hf ⊢;by_cases e3:f.ty≠(yx c.tys t).1
 .exact sZ
 rw[if_neg e3] at he hf ⊢;obtain⟨f1,f2⟩:=we (fC.1 e0);obtain⟨_,t1,t2,t3⟩:=L4 (fC.1 e2);have hk4:f.kind=if k=14 then 7 else 5:=fC.1 e1
 have hk5:4<=f.kind/\f.kind<=7:=kn
 obtain⟨A,e⟩:=GM ((Fm.Aa _).1 f1).1 hk5;have hty:f.ty=(yx c.tys t).1:=fC.1 e3;have hg:f.args.getD 0 AK=A:=kH
 rw[hg] at he hf ⊢;rw[e] at f2;have oA:=Gk hk5 f2;rw[<-e] at f2;rw[hty] at oA;obtain⟨p1,p2,_,_⟩:=MR c1 h0 hc rfl oA t2 kr;rw[hk4,hty] at e;refine⟨⟨_,A,_,e,t3,⟨((Fm.Aa f).1 f1).1,f2⟩,⟨((Tm.Aa t).1 t1).1,t2⟩,p1,hf.mono fun w h=> ?_⟩,?_⟩
 .exact qX
 .simp only[kL];split
  .exact p2
  .exact vz _ _
theorem Yh1{y:Fm}(hs:y.shape=true)(h:zq 0 y=0):(y.As 1 (-1)).As 0 1=y:=by
 rw[ML zT hs h];rw[Fm.As,Fm.put,Fm.Bz];refine Fm.Cc y 0 fun p hp=> ?_;have hb:=u3 p hp;rw[Bz];refine Cc p.1 0 (xj y hs 0 p hp) fun q hq=> ?_;have h1:=TH h p hp;have h2:=Yg h1 q hq;rw[xt,if_neg kn,wh,z5]
 grind
theorem aG:∀(l:List Tm),(wo l).2=0->LJ l (wo l).1
 |[],_=> .refl _
 |t::l,h=>by
  unfold wo at h ⊢;by_cases h1:(yv t 1000).2.2≠0
  .grind
  rw[if_neg h1] at h ⊢;by_cases h2:(wo l).2≠0
  .grind
  rw[if_neg h2] at h ⊢;have ih:=aG l (fC.1 h2);obtain⟨_,_,a,_⟩:=Kn (fC.1 h1);refine⟨by simp[ih.1],fun i a1 a2=> ?_⟩;cases i with
  |zero=>exact .of a
  |succ i=>exact ih.2 i kr kr
theorem bg(f:Fm):(y9 f).2=0->FJ f (y9 f).1:=by
 induction f using Fm.ind with
 |h f ih=>
  intro h;rw[PM] at h ⊢;by_cases h1:(wo f.terms).2≠0
  .grind
  rw[if_neg h1] at h ⊢;by_cases h2:(xd f.args).2≠0
  .grind
  rw[if_neg h2] at h ⊢;obtain⟨a,b⟩:=Qr (fun x y=>FJ x y) f.args (fun x hx hn=>ih x hx hn) (fC.1 h2);rw[Cf];exact⟨rfl,rfl,aG _ (fC.1 h1),a.symm,b⟩
theorem Yfu{b y:Fm}(h:ul b=(y,0)):FJ b y/\zq 0 y=0:=by
 rcases x7 h with⟨a,rfl⟩|⟨_,a,rfl,d⟩
 .exact ⟨.refl _,a⟩
 .exact ⟨bg b a,d⟩
theorem PU(k:Int)(hk:k=11\/k=15)(k0:BP r0)(k1:BP r1)(c1:DQ d1)(h0:EN r0 d0)(h1:EN r1 d1)(hc:c.ok)(he:(HC k r0 r1 c).2.2=0)(hf:fin c (HC k r0 r1 c).1 (fun w=>w∈(HC k r0 r1 c).2.1) x U):Iw k d0 d1 c x U/\(HC k r0 r1 c).2.1.Pairwise (·<=·):=by
 unfold HC at he hf ⊢;by_cases e0:(r0 c).2.2≠0
 .exact qo
 rw[if_neg e0] at he hf ⊢;by_cases e1:(r0 c).1.kind≠kI k 15 7 5
 .exact rP
 rw[if_neg e1] at he hf ⊢;by_cases e2:c.room 1 1≠0
 .exact sj
 rw[if_neg e2] at he hf ⊢;obtain⟨u0,q0,rfl⟩:=HN e0;obtain⟨a1,a2,a3⟩:=k0.good hc (fC.1 e0);have hk4:(r0 c).1.kind=if k=15 then 7 else 5:=fC.1 e1
 have hk5:4<=(r0 c).1.kind/\(r0 c).1.kind<=7:=kn
 have sa:=((Fm.Aa _).1 a1).1;obtain⟨A,e⟩:=GM sa hk5;have hse:=Ks sa hk5;have hg:(r0 c).1.args.getD 0 AK=A:=kH
 rw[e] at a2;have oA:=Gk hk5 a2;have eA:=xh a1 (x:=A) mB;have hr:=xw (fC.1 e2);have hb:=hc.below (l:=[(r0 c).1.ty]) hr.1 kr;have hw:=hb.Ah (f:=A) lX eA (by simpa[Ck.below] using oA);have eo:GB r1 c (r0 c).1=r1 ((c.below [(r0 c).1.ty]).Ah A):=by unfold GB;rw[hg]
 rw[eo] at he hf ⊢;by_cases e3:(r1 ((c.below [(r0 c).1.ty]).Ah A)).2.2≠0
 .rw[if_pos e3] at he;exact absurd he e3
 rw[if_neg e3] at he hf ⊢;by_cases e4:(ul (r1 ((c.below [(r0 c).1.ty]).Ah A)).1).2≠0
 .exact sX
 rw[if_neg e4] at he hf ⊢;by_cases e5:k=15/\GV (r1 ((c.below [(r0 c).1.ty]).Ah A)).2.1=true
 .rw[if_pos e5] at he;cases he
 rw[if_neg e5] at he hf ⊢;obtain⟨u1,q1,rfl⟩:=HN e3;have hs0:=h0 c hc _ _ q0;have hs1:=h1 _ hw _ _ q1;obtain⟨b1,b2,b3⟩:=k1.good hw (fC.1 e3);obtain⟨f1,f2⟩:=Yfu (y:=(ul (r1 ((c.below [(r0 c).1.ty]).Ah A)).1).1) (jT rfl (fC.1 e4));obtain⟨g1,g2,g3,g4,g5⟩:=Zj b1 (fC.1 e4);generalize hy:(ul (r1 ((c.below [(r0 c).1.ty]).Ah A)).1).1=y at*;have oy:CO ((c.below [(r0 c).1.ty]).Ah A) y:=⟨g1,g4 _ b2⟩;have lo:=ZW (σ:=(r0 c).1.ty) (g:=c.tys) hse g1 f2 (by simpa[Ck.Ah,Ck.below] using oy.2);have key:=c1 _ _ _ _ _ hs1.1 f1 oy (fun _ w h=>h);rw[<-Yh1 g1 f2] at key;have hs00:=hs0.1;rw[e,hk4] at hs00;refine⟨⟨_,A,_,_,_,hse,hs00,⟨lo.1,lo.2.2⟩,key,fun h15=>YX (fun h=>e5 ⟨h15,h⟩) hs1.2 fun u hu=>(b3.2 u hu).1,hf.mono fun w h=>AM.2 (h.imp id B3.2)⟩,vz _ _⟩
theorem V2(f:Fm)(t:Tm)(c0:DQ d0)(c1:DQ d1)(h0:EN r0 d0)(h1:EN r1 d1)(hc:c.ok)(he:(G7 f t r0 r1 c).2.2=0)(hf:fin c (G7 f t r0 r1 c).1 (fun w=>w∈(G7 f t r0 r1 c).2.1) x U):H6 f t d0 d1 c x U/\(G7 f t r0 r1 c).2.1.Pairwise (·<=·):=by
 unfold G7 at he hf ⊢;by_cases e0:va (c.tys++[Ac]) f≠0
 .exact qo
 rw[if_neg e0] at he hf ⊢;by_cases e1:E7 c t 1≠0
 .exact rB
 rw[if_neg e1] at he hf ⊢;by_cases e2:(yy r0 c f zT).2≠0
 .exact rU
 rw[if_neg e2] at he hf ⊢;by_cases e3:c.room 1 1≠0
 .exact sZ
 rw[if_neg e3] at he hf ⊢;by_cases e4:(yy r1 ((c.below [Ac]).Ah f) (f.As 1 1) (sT (vT 0))).2≠0
 .exact sX
 rw[if_neg e4] at he hf ⊢;obtain⟨f1,f2⟩:=uf (hc.one vo) (fC.1 e0);obtain⟨t1,t2⟩:=Pb (fC.1 e1);have hr:=xw (fC.1 e3);have hb:=hc.below (l:=[Ac]) hr.1 mc;have hw:=hb.Ah (f:=f) lX f1 f2;have sf:=((Fm.Aa f).1 f1).1;have l2:=wy (g:=c.tys) (h:=[Ac]) [Ac] sf f2;obtain⟨p1,p2,p3,_⟩:=MR c0 h0 hc rfl f2 (ej _) e2;obtain⟨q1,q2,q3,_⟩:=MR (f:=f.As 1 1) (t:=sT (vT 0)) (σ:=Ac) c1 h1 hw rfl mN oP e4;have hp:(Cr f t).1=f.put 0 t:=mO
 rw[hp] at hf;exact⟨⟨⟨sf,f2⟩,⟨((Tm.Aa t).1 t1).1,t2⟩,_,_,p1,q1,hf.mono fun w h=>AM.2 (h.imp (fun h=>AM.2 (h.imp (K9 t1).2 id)) B3.2)⟩,vz _ _⟩
theorem Yty(t:Tm)(he:(Io t c).2.2=0)(hf:fin c (Io t c).1 (fun w=>w∈(Io t c).2.1) x U):J9 t c x U/\(Io t c).2.1.Pairwise (·<=·):=by
 obtain⟨t1,t2⟩:=Pb (c:=c) he;exact⟨⟨⟨((Tm.Aa t).1 t1).1,t2⟩,hf.mono fun w h=>h.elim⟩,.nil⟩
theorem Ytt(f:Fm)(t:Tm)(c0:DQ d0)(c1:DQ d1)(h0:EN r0 d0)(h1:EN r1 d1)(hc:c.ok)(he:(G2 f t r0 r1 c).2.2=0)(hf:fin c (G2 f t r0 r1 c).1 (fun w=>w∈(G2 f t r0 r1 c).2.1) x U):HH f t d0 d1 c x U/\(G2 f t r0 r1 c).2.1.Pairwise (·<=·):=by
 unfold G2 at he hf ⊢;by_cases e0:va (c.tys++[Al]) f≠0
 .exact qo
 rw[if_neg e0] at he hf ⊢;by_cases e1:E7 c t 2≠0
 .exact rB
 rw[if_neg e1] at he hf ⊢;by_cases e2:(yy r0 c f Dw).2≠0
 .exact rU
 rw[if_neg e2] at he hf ⊢;by_cases e3:c.room 2 1≠0
 .exact sZ
 rw[if_neg e3] at he hf ⊢;by_cases e4:(yy r1 ((c.below [Ac,Al]).Ah (f.As 1 1)) (f.As 1 2) BJ).2≠0
 .exact sX
 rw[if_neg e4] at he hf ⊢;obtain⟨f1,f2⟩:=uf (hc.one J0) (fC.1 e0);obtain⟨t1,t2⟩:=Uq (fC.1 e1);have hr:=xw (fC.1 e3);have hb:=hc.below (l:=[Ac,Al]) hr.1 mD;have sf:=((Fm.Aa f).1 f1).1;have l1:=wy (g:=c.tys) (h:=[Al]) [Ac] sf f2;have l2:=wy (g:=c.tys) (h:=[Al]) [Ac,Al] sf f2;have hw:=hb.Ah (f:=f.As 1 1) lX (JW f1 kn) mQ;obtain⟨p1,p2,p3,_⟩:=MR c0 h0 hc rfl f2 (Wq _) e2;obtain⟨q1,q2,q3,_⟩:=MR (f:=f.As 1 2) (t:=BJ) (σ:=Al) c1 h1 hw rfl mN oM e4;have hp:(Cr f t).1=f.put 0 t:=mO
 rw[hp] at hf;exact⟨⟨⟨sf,f2⟩,⟨((Tm.Aa t).1 t1).1,t2⟩,_,_,p1,q1,hf.mono fun w h=>AM.2 (h.imp (fun h=>AM.2 (h.imp (K9 t1).2 id)) B3.2)⟩,vz _ _⟩
theorem Yo3(f:Fm)(k0:BP r0)(c1:DQ d1)(h0:EN r0 d0)(h1:EN r1 d1)(hc:c.ok)(he:(GZ f r0 r1 c).2.2=0)(hf:fin c (GZ f r0 r1 c).1 (fun w=>w∈(GZ f r0 r1 c).2.1) x U):Jw f d0 d1 c x U/\(GZ f r0 r1 c).2.1.Pairwise (·<=·):=by
 unfold GZ at he hf ⊢;by_cases e0:va (c.tys++[Ac]) f≠0
 .exact qo
 rw[if_neg e0] at he hf ⊢;by_cases e1:(r0 c).2.2≠0
 .exact rB
 rw[if_neg e1] at he hf ⊢;by_cases e2:(r0 c).1.kind≠1
 .exact sj
 rw[if_neg e2] at he hf ⊢;obtain⟨u0,q0,rfl⟩:=HN e1;obtain⟨a1,a2,a3⟩:=k0.good hc (fC.1 e1);obtain⟨a,b,e⟩:=QL ((Fm.Aa _).1 a1).1 (fC.1 e2);have hs0:=h0 c hc _ _ q0;rw[e] at he hf hs0 a2 ⊢;have g0:(AV a b).terms.getD 0 AB=a:=rfl;have g1:(AV a b).terms.getD 1 AB=b:=rfl;rw[g0,g1] at he hf ⊢;by_cases e3:(yy r1 c f a).2≠0
 .rw[if_pos e3] at he;exact absurd he e3
 rw[if_neg e3] at he hf ⊢;obtain⟨f1,f2⟩:=uf (hc.one vo) (fC.1 e0);obtain⟨i1,i2⟩:=CK.1 a2;obtain⟨p1,p2,p3,_⟩:=MR c1 h1 hc rfl f2 i1 e3;have hp:(Cr f b).1=f.put 0 b:=mO
 rw[hp] at hf;exact⟨⟨⟨((Fm.Aa f).1 f1).1,f2⟩,a,b,_,_,hs0.1,p1,hf⟩,p2⟩
theorem Yn3(k0:BP r0)(h0:EN r0 d0)(hc:c.ok)(he:(Hi r0 c).2.2=0)(hf:fin c (Hi r0 c).1 (fun w=>w∈(Hi r0 c).2.1) x U):IG d0 c x U/\(Hi r0 c).2.1.Pairwise (·<=·):=by
 unfold Hi at he hf ⊢;by_cases e0:(r0 c).2.2≠0
 .exact qo
 rw[if_neg e0] at he hf ⊢;by_cases e1:(r0 c).1.kind≠4\/((r0 c).1.args.getD 0 AK).kind≠5
 .exact rP
 rw[if_neg e1] at he hf ⊢;by_cases e2:(LG (r0 c).1).err≠0
 .exact sj
 rw[if_neg e2] at he hf ⊢;rw[not_or,fC,fC] at e1;obtain⟨u0,q0,rfl⟩:=HN e0;obtain⟨a1,a2,a3⟩:=k0.good hc (fC.1 e0);have sa:=((Fm.Aa _).1 a1).1;obtain⟨B,e⟩:=GM sa kn;have hB:(r0 c).1.args.getD 0 AK=B:=kH
 have eB:=xh a1 (x:=B) mB;have k5:B.kind=5:=kr
 obtain⟨A,e'⟩:=GM ((Fm.Aa _).1 eB).1 kn;rw[k5] at e';rw[e1.1] at e;have hs0:=h0 c hc _ _ q0;generalize hs:(r0 c).1.ty=s at*;generalize hu:B.ty=u at*;subst e';rw[e] at he hf hs0 ⊢;refine⟨⟨s,u,A,_,hs0.1,?_⟩,hs0.2⟩;have ec:(Kx (AL 4 s (AL 5 u A))).1=(A.As 2 1).put 0 Ca:=by
  have:Kx (AL 4 s (AL 5 u A))=Cr (A.As 2 1) Ca:=rfl;rw[this] at he ⊢;unfold Cr at he ⊢
  grind
 rw[ec] at hf;exact hf
end
theorem Ypf(p:Pf):p.shape=true->EN (yr p) (Bc p):=by
 induction p using Pf.ind with
 |h p ih=>
  intro hs c hc x us hx;have hok:=Kb p hs c hc;rw[hx] at hok;obtain⟨x1,x2,x3⟩:=hok.1 rfl;have ho:CO c x:=⟨((Fm.Aa x).1 x1).1,x2⟩;rw[wu] at hx;rw[vy];obtain⟨h1,h2,h3,h4⟩:=Yqe hx ho;have post:∀{P:Prop} {l:List Int},(us=l\/us=[])->P/\l.Pairwise (·<=·)->P/\us.Pairwise (·<=·):=fun h hp=>⟨hp.1,by
   rcases h with e|e;all_goals simp_all⟩
  obtain⟨s1,s2,s3,s4⟩:=zh hs;obtain⟨nd,n1,n2,n3,n4,hi,hty,hk1,hk2⟩:=GF s1;have hmem:∀i,i<p.args.length->BP ((p.args.map yr).getD i fun _=>yf 0)/\EN ((p.args.map yr).getD i fun _=>yf 0) ((p.args.map Bc).getD i nD)/\DQ ((p.args.map Bc).getD i nD):=fun i h=>by
   rw[Um h,show(p.args.map Bc).getD i nD=Bc p.args[i] by grind];have hm:=fA h;exact⟨Kb _ (s4 _ hm),ih _ hm (s4 _ hm),F2 _⟩
  have hk:p.kind=1\/p.kind=2\/p.kind=3\/p.kind=4\/p.kind=5\/p.kind=6\/p.kind=7\/p.kind=8\/p.kind=9\/p.kind=10\/p.kind=11\/p.kind=12\/p.kind=13\/p.kind=14\/p.kind=15\/p.kind=16\/p.kind=17\/p.kind=18\/p.kind=19\/p.kind=20:=kn
  unfold JC at h1 h3 h4;unfold ut;clear h2 hx hok;rcases hk with e|e|e|e|e|e|e|e|e|e|e|e|e|e|e|e|e|e|e|e<;>rw[e] at n1 h1 h3 h4 ⊢<;>simp only[B6] at n1<;>(try(simp at n1))<;>(try subst n1)<;>simp only[reduceIte,Int.reduceEq,or_false,or_true] at h1 h3 h4 ⊢<;>simp only at n4 hty
  .exact post h4 (Wm _ hi h1 h3)
  .exact post h4 (Ta _ hi h1 h3)
  .obtain ⟨a,b,_⟩:=hmem 0 kn;obtain⟨a',b',_⟩:=hmem 1 kn;exact post h4 (TQ b b' hc h1 h3)
  .exact s7
  .exact s7
  .obtain ⟨a,b,_⟩:=hmem 0 kn;exact post h4 (Yso _ b hc h1 h3)
  .obtain ⟨a,b,_⟩:=hmem 0 kn;obtain⟨a',b',c'⟩:=hmem 1 kn;exact post h4 (Ys3 a a' c' b b' hc h1 h3)
  .obtain ⟨a,b,_⟩:=hmem 0 kn;exact post h4 (Pp 8 _ (hty trivial) (.inl rfl) a b hc h1 h3)
  .obtain ⟨a,b,_⟩:=hmem 0 kn;exact post h4 (Xa 9 _ (.inl rfl) a b hc h1 h3)
  .obtain ⟨a,b,c'⟩:=hmem 0 kn;exact post h4 (bt 10 _ _ (.inl rfl) c' b hc h1 h3)
  .obtain ⟨a,b,_⟩:=hmem 0 kn;obtain⟨a',b',c'⟩:=hmem 1 kn;exact post h4 (PU 11 (.inl rfl) a a' c' b b' hc h1 h3)
  .obtain ⟨a,b,_⟩:=hmem 0 kn;exact post h4 (Pp 12 _ (hty trivial) (.inr rfl) a b hc h1 h3)
  .obtain ⟨a,b,_⟩:=hmem 0 kn;exact post h4 (Xa 13 _ (.inr rfl) a b hc h1 h3)
  .obtain ⟨a,b,c'⟩:=hmem 0 kn;exact post h4 (bt 14 _ _ (.inr rfl) c' b hc h1 h3)
  .obtain ⟨a,b,_⟩:=hmem 0 kn;obtain⟨a',b',c'⟩:=hmem 1 kn;exact post h4 (PU 15 (.inr rfl) a a' c' b b' hc h1 h3)
  .obtain ⟨a,b,c'⟩:=hmem 0 kn;obtain⟨a',b',c''⟩:=hmem 1 kn;exact post h4 (V2 _ _ c' c'' b b' hc h1 h3)
  .obtain ⟨a,b,c'⟩:=hmem 0 kn;obtain⟨a',b',c''⟩:=hmem 1 kn;exact post h4 (Ytt _ _ c' c'' b b' hc h1 h3)
  .exact post h4 (Yty _ h1 h3)
  .obtain ⟨a,b,c'⟩:=hmem 0 kn;obtain⟨a',b',c''⟩:=hmem 1 kn;exact post h4 (Yo3 _ a c'' b b' hc h1 h3)
  .obtain ⟨a,b,c'⟩:=hmem 0 kn;exact post h4 (Yn3 a b hc h1 h3)
theorem Ydo(s a:Tm)(c n d:Int)(hc:0<=c)(hd:0<=d)(hn:c+d<=n):(s.re (zi 0 (n+1)) 0).re (yq d a) c=s.re (zi 0 n) 0:=by
 rw[xq (yq d a) c,Bz];refine Ax s 0 fun p hp=> ?_;simp only[z5,wh];by_cases h:p.1-p.2>=0
 .rw[if_pos h,xt,if_neg kn,if_pos kn,if_pos h];grind
 .rw[if_neg h,xt,if_neg kn,if_neg kn,if_neg h]
theorem Zxg(s:Tm)(m n k c:Int)(hm:0<=m+c)(hn:m+c<=n):(s.re (zi 0 n) 0).re (zi m k) c=s.re (zi 0 (n+k)) 0:=by
 rw[xq (zi m k) c,Bz];refine Ax s 0 fun p hp=> ?_;simp only[z5,wh]
 grind
theorem Zx7(σ:Int->Tm)(t a:Tm){v d:Int}(hv:0<=v)(hd:0<=d):(t.re (yq d a) 0).re (z6 σ) (v+d)=(t.re (z6 σ) (v+1+d)).re (yq d (a.re (z6 σ) v)) 0:=by
 rw[xq (z6 σ) (v+d),xq (z6 σ) (v+1+d),Bz,Bz];refine Ax t 0 fun p hp=> ?_;have hc:=yw t 0 p hp;obtain⟨i,c⟩:=p;simp only at hc ⊢;rw[xt];by_cases h1:i-c=d
 .rw[if_pos h1];have e1:z6 σ i (c+(v+1+d))=vT i:=od
  rw[e1,wh,xt,if_pos h1];have e2:=Cq (fun i e=>z6 σ i (e+v)) d (a.re (zi 0 (d+c)) 0) c;have e3:=Wv σ a v (d+c) hv kn
  grind
 .rw[if_neg h1];by_cases h2:i-c>d
  .rw[if_pos h2,wh];simp only[z6];by_cases h3:i<c+(v+1+d)
   .rw[if_pos h3,if_pos kn,wh,xt,if_neg h1,if_pos h2]
   .rw[if_neg h3,if_neg kn];have:=Ydo (σ (i-(c+(v+1+d)))) (a.re (z6 σ) v) c (c+(v+d)) d hc hd kn
    grind
  .rw[if_neg h2,wh];have e1:z6 σ i (c+(v+1+d))=vT i:=od
   have e2:z6 σ i (c+(v+d))=vT i:=od
   rw[e1,e2,wh,xt,if_neg h1,if_neg h2]
theorem Zye(σ:Int->Tm)(t:Tm){v n a:Int}(hv:0<=v)(hn:0<=n)(ha:0<=a):(t.re (zi a n) 0).re (z6 σ) (v+n+a)=(t.re (z6 σ) (v+a)).re (zi a n) 0:=by
 rw[xq (z6 σ) (v+n+a),xq (z6 σ) (v+a),Bz,Bz];refine Ax t 0 fun p hp=> ?_;have hc:=yw t 0 p hp;obtain⟨i,c⟩:=p;simp only at hc ⊢;rw[z5,wh];simp only[z6];by_cases h1:i-c>=a
 .rw[if_pos h1];by_cases h2:i<c+(v+a)
  .rw[if_pos h2,if_pos kn,wh,z5,if_pos h1]
  .rw[if_neg h2,if_neg kn,Zxg _ _ _ _ _ kn kn]
   grind
 .rw[if_neg h1,if_pos kn,if_pos kn,wh,z5,if_neg h1]
theorem Fm.Eu(σ:Int->Tm)(f:Fm){v:Int}:f.sb σ v=f.re (fun b t=>t.re (z6 σ) (v+b)) 0:=by
 unfold Fm.sb;have:=Fm.Cq (fun b t=>t.re (z6 σ) b) v f 0
 grind
theorem IL(σ:Int->Tm)(f:Fm)(a:Tm){v:Int}(hv:0<=v):(f.put 0 a).sb σ v=(f.sb σ (v+1)).put 0 (a.re (z6 σ) v):=by
 rw[Fm.Eu,Fm.Eu,Fm.put,Fm.put,Fm.Bz,Fm.Bz];refine Fm.Ax f 0 fun p hp=> ?_;have:=u3 p hp;simp only[gL];exact Zx7 σ p.1 a hv this
theorem Mn(σ:Int->Tm)(f:Fm){v n a:Int}(hv:0<=v)(hn:0<=n)(ha:0<=a):(f.As a n).sb σ (v+n+a)=(f.sb σ (v+a)).As a n:=by
 rw[Fm.Eu,Fm.Eu,Fm.As,Fm.As,Fm.Bz,Fm.Bz];refine Fm.Ax f 0 fun p hp=> ?_;have:=u3 p hp;have e:=Zye σ p.1 (v:=v) (n:=n) (a:=a+p.2) hv hn kn
 grind
theorem R9(σ:Int->Tm)(k:Int)(hk:k=2\/k=3)(A B:Fm)(v:Int):(vm k A B).sb σ v=vm k (A.sb σ v) (B.sb σ v):=by
 rcases hk with rfl|rfl<;>rfl
theorem K5(σ:Int->Tm){k:Int}(hk:4<=k/\k<=7)(s:Ty)(A:Fm)(v:Int):(AL k s A).sb σ v=AL k s (A.sb σ (v+1)):=by
 have:A3 k v=v+1:=by unfold A3 wc;grind
 unfold Fm.sb;rw[Fm.A4];simp only[AL,Fm.Ai,Fm.AO,Fm.Am,Fm.Af,fU,fJ,this]
theorem NQ{f:Fm}(hs:f.shape=true){v:Int}(hv:0<=v):f.sb vT v=f:=by
 rw[Fm.Eu];refine Fm.Cc f 0 fun p hp=> ?_;have h1:=u3 p hp;refine Cc p.1 _ (xj f hs 0 p hp) fun q hq=> ?_;have h2:=yw p.1 _ q hq;simp only[z6];by_cases h:q.1<q.2
 .grind
 .rw[if_neg h,wh,z5,if_pos kn];simp
theorem Yt7{t:Tm}(hs:t.shape=true){v:Int}(hv:0<=v):t.re (z6 vT) v=t:=by
 refine Cc t _ hs fun q hq=> ?_;have h2:=yw t _ q hq;simp only[z6];by_cases h:q.1<q.2
 .grind
 .rw[if_neg h,wh,z5,if_pos kn];simp
theorem Ycr{f:Fm}(h:f.A9 [])(hs:f.shape=true)(σ:Int->Tm){v:Int}(hv:0<=v):f.sb σ v=f:=by
 rw[Fm.Eu];refine Fm.Cc f 0 fun p hp=> ?_;have h1:=u3 p hp;rw[xq];refine Cc p.1 0 (xj f hs 0 p hp) fun q hq=> ?_;have h2:=Wy h hs p hp q hq;simp only[gB] at h2;simp only[z6]
 grind
def Nj(g g':List Ty)(σ:Int->Tm):Prop:=∀j:Int,0<=j->(σ j).shape=true/\(j<g.length->(σ j).inf g'=(vT j).inf g)
theorem QZ{σ:Int->Tm}(hσ:∀j:Int,0<=j->(σ j).shape=true)(t:Tm):∀b:Int,0<=b->t.shape=true->(t.re (z6 σ) b).shape=true:=by
 induction t using Tm.ind with
 |h t ih=>
  intro b hb hs;by_cases h1:t.kind=1
  .rw[FC h1];simp only[z6];split
   .exact Jx _ (OO hs).1
   .exact y6 0 (hσ _ kn) kn
  .rw[wr h1];refine vk (xs:=t.args) kP ko fun y hy=> ?_;obtain⟨x,hx,rfl⟩:=fO.1 hy;exact ih x hx _ nj (zd hs x hx)
theorem eE{σ:Int->Tm}{g g' m:List Ty}(hσ:Nj g g' σ)(t:Tm)(hs:t.shape=true){T:Ty}(h:t.inf (g++m)=(T,0)):(t.re (z6 σ) m.length).inf (g'++m)=(T,0):=by
 obtain⟨τ,hτ⟩:∃τ:Int->Tm,τ=fun(j:Int)=>if j<g.length then σ j else vT g'.length:=⟨_,rfl⟩
 have e:t.re (z6 σ) m.length=t.re (z6 τ) m.length:=by
  refine Ax t _ fun p hp=> ?_;have h1:=RO t (g++m) m.length hs (by rw[h]) p hp;rw[ga] at h1;simp only[z6,hτ]
  grind
 rw[e,<-h];refine Ur _ t g g' m m.length hs fun i h' b' hi hb hl _=> ?_;have hb':b'=h'.length:=kn
 subst hb';simp only[z6];by_cases h2:i<h'.length
 .rw[if_pos h2,xe _ _ hi,xe _ _ hi];simp only[ga];rw[if_neg kn,if_neg kn,vi kn,vi kn]
 .rw[if_neg h2];obtain⟨s1,s2⟩:=hσ (i-h'.length) kn;have st:(τ (i-h'.length)).shape=true:=by
   rw[hτ];simp only;split
   .exact s1
   .exact Jx _ kn
  have e2:=Qy (τ (i-h'.length)) g' h' [] 0 0 st ko;rw[gq,gq] at e2;rw[e2,hτ];simp only;by_cases h3:i-h'.length<g.length
  .rw[if_pos h3,s2 h3,xe _ _ kn,xe _ _ hi];simp only[ga];rw[if_neg kn,if_neg kn,uu kn kr];simp
  .rw[if_neg h3,xe _ _ kn,xe _ _ hi]
   grind
theorem Ynr{σ:Int->Tm}{g g':List Ty}(hσ:Nj g g' σ)(f:Fm):∀m:List Ty,f.shape=true->f.A9 (g++m)->(f.sb σ m.length).A9 (g'++m):=by
 induction f using Fm.ind with
 |h f ih=>
  intro m hf hok;rw[Fm.A8] at hok;unfold Fm.sb;rw[Fm.A4,Fm.A8];simp only[Fm.Am,Fm.Af];refine⟨fun y hy=> ?_,fun y hy=> ?_⟩
  .obtain ⟨x,hx,rfl⟩:=fO.1 hy;exact eE hσ x (yi hf hx) (hok.1 x hx)
  .obtain ⟨x,hx,rfl⟩:=fO.1 hy;have h1:=hok.2 x hx;by_cases hq:wc f.kind=true
   .rw[Jg hq] at h1;rw[show ∀ts fs,C6 (g'++m) (Fm.mk f.kind f.ty ts fs)=g'++m++[f.ty] from fun ts fs=>Jg (f:=Fm.mk f.kind f.ty ts fs) hq];have e:A3 f.kind m.length=((m++[f.ty]).length:Nat):=by rw[show A3 f.kind m.length=(m.length:Int)+1 from if_pos hq];simp
    rw[e,fK];rw[fK] at h1;exact ih x hx (m++[f.ty]) (zp hf hx) h1
   .rw[II hq] at h1;rw[show ∀ts fs,C6 (g'++m) (Fm.mk f.kind f.ty ts fs)=g'++m from fun ts fs=>II (f:=Fm.mk f.kind f.ty ts fs) hq];have e:A3 f.kind m.length=m.length:=if_neg hq;rw[e];exact ih x hx m (zp hf hx) h1
theorem cJ{σ:Int->Tm}(hσ:∀j:Int,0<=j->(σ j).shape=true)(f:Fm):∀b:Int,0<=b->f.shape=true->(f.sb σ b).shape=true:=by
 induction f using Fm.ind with
 |h f ih=>
  intro b hb hf;have h0:=hf;rw[Fm.Ak,fD,fD] at h0;obtain⟨⟨h1,h2⟩,h3⟩:=h0;unfold Fm.sb;rw[Fm.A4,Fm.Ak,fD,fD];refine⟨⟨?_,?_⟩,?_⟩
  .exact rD
  .rw[Fm.Am,fF];intro y hy;obtain⟨x,hx,rfl⟩:=fO.1 hy;exact QZ hσ x b hb (fF.1 h2 x hx)
  .rw[Fm.Af,fF];intro y hy;obtain⟨x,hx,rfl⟩:=fO.1 hy;exact ih x hx _ (by unfold A3;omega) (fF.1 h3 x hx)
theorem Yom{σ:Int->Tm}(hσ:∀j:Int,0<=j->(σ j).shape=true){t:Tm}(hs:t.shape=true){v w:Int}(hv:0<=v)(hw:0<=w)(h:cnt w ((t.re (z6 σ) v).vars 0)≠0):
 (w<v/\cnt w (t.vars 0)≠0)\/(v<=w/\∃u,v<=u/\cnt u (t.vars 0)≠0/\cnt (w-v) ((σ (u-v)).vars 0)≠0):=by
 have e0:=MI (w-v) v (t.re (z6 σ) v);rw[Int.sub_add_cancel] at e0;rw[<-e0,Mv _ _ _ hs,<-BB] at h;obtain⟨q,hq,h1⟩:=h;obtain⟨p,hp,hq⟩:=gh.1 hq;have hp2:=yw t v p hp;have e1:∀a:Int,p.1-p.2=a->cnt (a+v) (t.vars 0)≠0:=fun a ha=>by
  rw[<-MI,<-BB];grind
 simp only[z6] at hq;by_cases h2:p.1<p.2
 .rw[if_pos h2,Zip,gp] at hq;subst hq;simp only at h1;have:=e1 _ h1
  grind
 .rw[if_neg h2] at hq;have sσ:=hσ (p.1-p.2) kn;have h3:cnt (w-v) (((σ (p.1-p.2)).re (zi 0 p.2) 0).vars p.2)≠0:=BB.1 ⟨q,hq,h1⟩;rw[MI,Ki _ _ _ _ sσ] at h3;obtain⟨r,hr,h4⟩:=BB.2 h3;obtain⟨z,hz,rfl⟩:=fO.1 hr;have hz2:=yw _ _ z hz;simp only at h4;have h5:z.1-z.2=w-v:=by
   omega
  have h6:v<=w:=by
   omega
  refine .inr ⟨h6,p.1-p.2+v,kn,e1 _ rfl,?_⟩;rw[Int.add_sub_cancel];exact BB.1 ⟨z,hz,h5⟩
def Dz(σ:Int->Tm)(W:Us)(v:Nat)(U:Us):Us:=fun w=>(0<=w/\w<v/\U w)\/((v:Int)<=w/\((∃u:Int,v<=u/\U u/\EE (σ (u-v)) (w-v))\/W (w-v)))
inductive Xt (σ:Int->Tm) (c0 c0':Ck):Nat->Nat->Ck->Ck->Prop
 |base:Xt σ c0 c0' 0 0 c0 c0'
 |blw {v y c c'} (l:List Ty) (h:Xt σ c0 c0' v y c c') (hl:∀s∈l,s.err=0):Xt σ c0 c0' (v+l.length) y (c.below l) (c'.below l)
 |Ah {v y c c'} (f:Fm) (h:Xt σ c0 c0' v y c c') (hf:CO c f):Xt σ c0 c0' v (y+1) (c.Ah f) (c'.Ah (f.sb σ v))
structure C2 (σ:Int->Tm) (c0 c0':Ck):Prop where
 ty:Nj c0.tys c0'.tys σ
 le:c0'.lems=c0.lems
 lm:∀f∈c0.lems,f.shape=true/\f.A9 []
 sh0:∀f∈c0.hyps,f.shape=true
 aK:∀f∈c0'.hyps,f.shape=true
section
variable {σ:Int->Tm} {W:Us} {c0 c0' c c':Ck} {v y:Nat} {d0 d1 e0 e1:Dr} {X Y f:Fm} {U V:Us} {t:Tm} {s:Ty} {k:Int} {j:Nat}
theorem Xt.tys(h:Xt σ c0 c0' v y c c'):∃m:List Ty,m.length=v/\c.tys=c0.tys++m/\c'.tys=c0'.tys++m/\c.lems=c0.lems/\c'.lems=c0'.lems:=by
 induction h with
 |base=>simp
 |blw l h hl ih=>
  obtain⟨m,h1,h2,h3,h4,h5⟩:=ih;exact⟨m++l,kr,by simp[Ck.below,h2],by simp[Ck.below,h3],h4,h5⟩
 |Ah f h hf ih=>exact ih
theorem C2.sh(B:C2 σ c0 c0'):∀j:Int,0<=j->(σ j).shape=true:=fun j h=>(B.ty j h).1
theorem C2.CO(B:C2 σ c0 c0')(E:Xt σ c0 c0' v y c c')(h:CO c f):CO c' (f.sb σ v):=by
 obtain⟨m,h1,h2,h3,_⟩:=E.tys;refine⟨cJ B.sh f v kn h.1,?_⟩;have:=Ynr B.ty f m h.1 (by rw[<-h2];exact h.2)
 grind
theorem C2.Ev(B:C2 σ c0 c0')(E:Xt σ c0 c0' v y c c')(h:Ev c t s):Ev c' (t.re (z6 σ) v) s:=by
 obtain⟨m,h1,h2,h3,_⟩:=E.tys;refine⟨QZ B.sh t v kn h.1,?_⟩;have:=eE B.ty t h.1 (m:=m) (by rw[<-h2];exact h.2)
 grind
theorem US(G:Int->Tm->Tm)(f:Fm):∀b,wi (f.re G b)=wi f:=by
 induction f using Fm.ind with
 |h f ih=>
  intro b;rw[Fm.A4,Mu,Mu (f:=f)];simp only[Fm.Ai,Fm.Af,gK]
  grind
theorem PI(h:∀w,U w->V w):∀w,Dz σ W v U w->Dz σ W v V w:=fun w hw=>by
 rcases hw with⟨a,b,c⟩|⟨a,⟨u,b,c,d⟩|b⟩
 .exact .inl ⟨a,b,h _ c⟩
 .exact .inr ⟨a,.inl ⟨u,b,h _ c,d⟩⟩
 .exact .inr ⟨a,.inr b⟩
theorem fin.Dz(B:C2 σ c0 c0')(E:Xt σ c0 c0' v y c c')(h:fin c Y V X U):fin c' (Y.sb σ v) (Dz σ W v V) (X.sb σ v) (Dz σ W v U):=
 ⟨h.1.sb σ kn,B.CO E h.2.1,fun hc=>PI (h.2.2 (by rw[<-US (fun b t=>t.re (z6 σ) b) X v];exact hc))⟩
theorem KC{w:Int}(h:Fy (Dz σ W v U) (Dz σ W v V) w):Dz σ W v (Fy U V) w:=by
 rcases h with h|h
 .exact PI (fun _=> .inl) w h
 .exact PI (fun _=> .inr) w h
theorem Rc{n:Nat}{w:Int}(h:J3 (Dz σ W (v+n) U) n w):Dz σ W v (J3 U n) w:=by
 obtain⟨h0,h⟩:=h;rcases h with⟨a,b,c⟩|⟨a,⟨u,b,c,d⟩|b⟩
 .exact .inl ⟨h0,kn,h0,c⟩
 .refine .inr ⟨kn,.inl ⟨u-n,kn,⟨kn,kr⟩,?_⟩⟩
  grind
 .exact .inr ⟨kn,.inr kr⟩
theorem Xz(h:¬U 0):¬Dz σ W (v+1) U 0:=fun hc=>by
 rcases hc with⟨a,b,c⟩|⟨a,_⟩;all_goals grind
theorem RX(B:C2 σ c0 c0')(ht:t.shape=true){w:Int}(h:EE (t.re (z6 σ) v) w):Dz σ W v (EE t) w:=by
 obtain⟨h0,h⟩:=h;rcases Yom B.sh ht kn h0 h with⟨a,b⟩|⟨a,u,b,c,d⟩
 .exact .inl ⟨h0,a,h0,b⟩
 .exact .inr ⟨a,.inl ⟨u,b,⟨kn,c⟩,kn,d⟩⟩
def DS(σ:Int->Tm)(W:Us)(c0 c0':Ck)(v y:Nat)(d e:Dr):Prop:=∀c c' X U,Xt σ c0 c0' v y c c'->d c X U->e c' (X.sb σ v) (Dz σ W v U)
theorem Yj8(B:C2 σ c0 c0')(i:Int):DS σ W c0 c0' v y (Ka i) (Ka i):=fun c c' X U E ⟨a,b,h⟩=>by
 obtain⟨m,h1,h2,h3,h4,h5⟩:=E.tys;have e:c'.lems=c.lems:=by rw[h5,h4,B.le]
 refine⟨a,kr,?_⟩;have hf:=(fin.Dz (W:=W) B E h).mono (V':=FG) fun _ h=>h.elim;rw[e];have hm:c.lems.getD i.toNat AK∈c0.lems:=kr
 have:=B.lm _ hm;rw[Ycr this.2 this.1 σ kn] at hf;exact hf
theorem Ynv(B:C2 σ c0 c0')(h0:DS σ W c0 c0' v y d0 e0)(h1:DS σ W c0 c0' v y d1 e1):DS σ W c0 c0' v y (Jj d0 d1) (Jj e0 e1):=fun c c' X U E ⟨A,C,U0,U1,a,b,h⟩=>by
 refine⟨A.sb σ v,C.sb σ v,_,_,h0 _ _ _ _ E a,h1 _ _ _ _ E b,?_⟩;have:=fin.Dz (W:=W) B E h;rw[R9 σ 2 (.inl rfl)] at this;exact this.mono fun _=>KC
theorem XU(B:C2 σ c0 c0')(h0:DS σ W c0 c0' v y d0 e0):DS σ W c0 c0' v y (Iq j d0) (Iq j e0):=fun c c' X U E ⟨A,C,U0,a,h⟩=>by
 have ha:=h0 _ _ _ _ E a;rw[R9 σ 2 (.inl rfl)] at ha;refine⟨A.sb σ v,C.sb σ v,_,ha,?_⟩;have:=fin.Dz (W:=W) B E h
 grind
theorem Yh8(B:C2 σ c0 c0')(h0:DS σ W c0 c0' v (y+1) d0 e0):DS σ W c0 c0' v y (I9 f d0) (I9 (f.sb σ v) e0):=fun c c' X U E ⟨hf,C,U0,a,h⟩=>by
 refine⟨B.CO E hf,C.sb σ v,_,h0 _ _ _ _ (.Ah f E hf) a,?_⟩;have:=fin.Dz (W:=W) B E h;rw[R9 σ 3 (.inr rfl)] at this;omega
theorem Yi1(B:C2 σ c0 c0')(h0:DS σ W c0 c0' v y d0 e0)(h1:DS σ W c0 c0' v y d1 e1):DS σ W c0 c0' v y (I5 d0 d1) (I5 e0 e1):=fun c c' X U E ⟨A,C,U0,U1,a,b,h⟩=>by
 have ha:=h0 _ _ _ _ E a;rw[R9 σ 3 (.inr rfl)] at ha;exact⟨A.sb σ v,C.sb σ v,_,_,ha,h1 _ _ _ _ E b,(fin.Dz (W:=W) B E h).mono fun _=>KC⟩
theorem Zn(B:C2 σ c0 c0')(h0:DS σ W c0 c0' (v+1) y d0 e0):DS σ W c0 c0' v y (IB k s d0) (IB k s e0):=fun c c' X U E ⟨hs,C,U0,a,hz,h⟩=>by
 refine⟨hs,C.sb σ (v+1:Nat),_,h0 _ _ _ _ (.blw [s] E kr) a,fun hk=>Xz (hz hk),?_⟩;have:=fin.Dz (W:=W) B E h;rw[K5 σ kn] at this;exact this.mono fun w=>Rc (n:=1)
theorem XB(B:C2 σ c0 c0')(h0:DS σ W c0 c0' v y d0 e0):DS σ W c0 c0' v y (IF k t d0) (IF k (t.re (z6 σ) v) e0):=fun c c' X U E ⟨s,A,U0,hs,ht,a,h⟩=>by
 have ha:=h0 _ _ _ _ E a;rw[K5 σ kn] at ha;refine⟨s,A.sb σ (v+1),_,hs,B.Ev E ht,ha,?_⟩;have:=fin.Dz (W:=W) B E h;rw[IL σ A t kn] at this;refine this.mono fun w hw=>KC (hw.imp id fun h=> ?_);exact PI (fun u hu=>⟨h.1,hu⟩) w (RX B ht.1 h.2)
theorem aQ(B:C2 σ c0 c0')(h0:DS σ W c0 c0' v y d0 e0):DS σ W c0 c0' v y (Im k f t d0) (Im k (f.sb σ v) (t.re (z6 σ) v) e0):=fun c c' X U E ⟨s,A,U0,hf,hs,ho,ht,a,h⟩=>by
 have ha:=h0 _ _ _ _ E a;rw[IL σ A t kn] at ha;refine⟨s,A.sb σ (v+1),_,by rw[hf,K5 σ kn],hs,B.CO E ho,B.Ev E ht,ha,?_⟩;refine(fin.Dz (W:=W) B E h).mono fun w hw=>KC (hw.imp id fun h=> ?_);exact PI (fun u hu=>⟨h.1,hu⟩) w (RX B ht.1 h.2)
theorem eP(k0:Mi d0)(B:C2 σ c0 c0')(h0:DS σ W c0 c0' v y d0 e0)(h1:DS σ W c0 c0' (v+1) (y+1) d1 e1):DS σ W c0 c0' v y (Iw k d0 d1) (Iw k e0 e1):=fun c c' X U E ⟨s,A,C,U0,U1,hs,a,ho,b,hz,h⟩=>by
 have ha:=h0 _ _ _ _ E a;have hq:4<=(if k=15 then(7:Int) else 5)/\(if k=15 then(7:Int) else 5)<=7:=kn
 have oq:=k0 _ _ _ a;have oA:CO (c.below [s]) A:=⟨zp oq.1 k7,by simpa[Ck.below] using Gk hq oq.2⟩;rw[K5 σ hq] at ha;have hb:=h1 _ _ _ _ (.Ah A (.blw [s] E kr) oA) b;have e:=Mn σ C (v:=v) (n:=1) (a:=0) kn kq kq;rw[show(v:Int)+1+0=((v+1:Nat):Int) by omega,show(v:Int)+0=v by omega] at e;rw[e] at hb;refine⟨s,A.sb σ (v+1),C.sb σ v,_,_,hs,ha,B.CO E ho,hb,fun hk=>Xz (hz hk),?_⟩;exact(fin.Dz (W:=W) B E h).mono fun w hw=>KC (hw.imp id (Rc (n:=1)))
theorem Ypr(σ:Int->Tm){v:Int}(hv:0<=v):(sT (vT 0)).re (z6 σ) (v+1)=sT (vT 0):=by
 have e:(sT (vT 0)).re (z6 σ) (v+1)=sT ((vT 0).re (z6 σ) (v+1)):=rfl;rw[e,wh];simp only[z6]
 grind
theorem Yl9(σ:Int->Tm){v:Int}(hv:0<=v):BJ.re (z6 σ) (v+2)=BJ:=by
 have e:BJ.re (z6 σ) (v+2)= .mk 8 0 (.mk 0 []) [(vT 1).re (z6 σ) (v+2),(vT 0).re (z6 σ) (v+2)]:=rfl;rw[e,wh,wh];simp only[z6];rw[if_pos kn,if_pos kn];rfl
theorem Yph(σ:Int->Tm){v:Int}(hv:0<=v):Ca.re (z6 σ) (v+2)=Ca:=by
 have e:Ca.re (z6 σ) (v+2)=AE ((vT 1).re (z6 σ) (v+2)) ((vT 0).re (z6 σ) (v+2)):=rfl;rw[e,wh,wh];simp only[z6];rw[if_pos kn,if_pos kn];rfl
theorem Ymu(B:C2 σ c0 c0')(h0:DS σ W c0 c0' v y d0 e0)(h1:DS σ W c0 c0' (v+1) (y+1) d1 e1):DS σ W c0 c0' v y (H6 f t d0 d1) (H6 (f.sb σ (v+1)) (t.re (z6 σ) v) e0 e1):=fun c c' X U E ⟨hf,ht,U0,U1,a,b,h⟩=>by
 have E1:Xt σ c0 c0' (v+1) y (c.below [Ac]) (c'.below [Ac]):= .blw [Ac] E mc;have ha:=h0 _ _ _ _ E a;rw[IL σ f zT kn] at ha;have hb:=h1 _ _ _ _ (.Ah f E1 hf) b;have e:=Mn σ f (v:=v) (n:=1) (a:=1) kn kq kq;rw[IL σ _ _ kn,show((v+1:Nat):Int)+1=v+1+1 by omega,e,show((v+1:Nat):Int)=v+1 by omega,Ypr σ kn] at hb;refine⟨B.CO E1 hf,B.Ev E ht,_,_,ha,hb,?_⟩;have:=fin.Dz (W:=W) B E h;rw[IL σ f t kn] at this;exact this.mono fun w hw=>KC (hw.imp (fun h=>KC (h.imp (RX B ht.1) id)) (Rc (n:=1)))
theorem Yiu(B:C2 σ c0 c0')(h0:DS σ W c0 c0' v y d0 e0)(h1:DS σ W c0 c0' (v+2) (y+1) d1 e1):DS σ W c0 c0' v y (HH f t d0 d1) (HH (f.sb σ (v+1)) (t.re (z6 σ) v) e0 e1):=fun c c' X U E ⟨hf,ht,U0,U1,a,b,h⟩=>by
 have E1:Xt σ c0 c0' (v+1) y (c.below [Al]) (c'.below [Al]):= .blw [Al] E (by simp[J0]);have E2:Xt σ c0 c0' (v+2) y (c.below [Ac,Al]) (c'.below [Ac,Al]):= .blw [Ac,Al] E mD;have ha:=h0 _ _ _ _ E a;rw[IL σ f Dw kn] at ha;have l1:=wy (g:=c.tys) (h:=[Al]) [Ac] hf.1 hf.2;have o1:CO (c.below [Ac,Al]) (f.As 1 1):=⟨(yt hf.1 kq).1,mQ⟩;have hb:=h1 _ _ _ _ (.Ah (f.As 1 1) E2 o1) b;have e1:=Mn σ f (v:=v) (n:=1) (a:=1) kn kq kq;have e2:=Mn σ f (v:=v) (n:=2) (a:=1) kn kq kq;rw[IL σ _ _ kn,show((v+2:Nat):Int)+1=v+2+1 by omega,e2,show((v+2:Nat):Int)=v+2 by omega,Yl9 σ kn,show(v:Int)+2=v+1+1 by omega,e1] at hb;refine⟨B.CO E1 hf,B.Ev E ht,_,_,ha,hb,?_⟩;have:=fin.Dz (W:=W) B E h;rw[IL σ f t kn] at this;exact this.mono fun w hw=>KC (hw.imp (fun h=>KC (h.imp (RX B ht.1) id)) (Rc (n:=2)))
theorem Yhh(B:C2 σ c0 c0'):DS σ W c0 c0' v y (J9 t) (J9 (t.re (z6 σ) v)):=fun c c' X U E ⟨ht,h⟩=>
 ⟨B.Ev E ht,(fin.Dz (W:=W) B E h).mono fun _ h=>h.elim⟩
theorem Yah(B:C2 σ c0 c0')(h0:DS σ W c0 c0' v y d0 e0)(h1:DS σ W c0 c0' v y d1 e1):DS σ W c0 c0' v y (Jw f d0 d1) (Jw (f.sb σ (v+1)) e0 e1):=fun c c' X U E ⟨hf,p,q,U0,U1,a,b,h⟩=>by
 have E1:Xt σ c0 c0' (v+1) y (c.below [Ac]) (c'.below [Ac]):= .blw [Ac] E mc;have ha:=h0 _ _ _ _ E a;have hb:=h1 _ _ _ _ E b;rw[IL σ f p kn] at hb;refine⟨B.CO E1 hf,p.re (z6 σ) v,q.re (z6 σ) v,_,_,ha,hb,?_⟩;have:=fin.Dz (W:=W) B E h;rw[IL σ f q kn] at this;omega
theorem Zyk(B:C2 σ c0 c0')(h0:DS σ W c0 c0' v y d0 e0):DS σ W c0 c0' v y (IG d0) (IG e0):=fun c c' X U E ⟨s,u,A,U0,a,h⟩=>by
 have ha:=h0 _ _ _ _ E a;rw[K5 σ kq,K5 σ kq] at ha;refine⟨s,u,A.sb σ (v+1+1),_,ha,?_⟩;have:=fin.Dz (W:=W) B E h;have e:=Mn σ A (v:=v) (n:=1) (a:=2) kn kq kq;rw[K5 σ kq,K5 σ kq,IL σ _ _ kn,show(v:Int)+1+1+1=v+1+2 by omega,e,show(v:Int)+1+1=v+2 by omega,Yph σ kn] at this
 grind
end
theorem XR{p:Pf}(hs:p.shape=true)(hk:p.kind=1):p.args=[]:=by
 obtain⟨k,i,s,ts,fs,zs⟩:=p;obtain rfl:k=1:=hk;simp only[Pf.Ak,Pf.head,Pf.Ai,Pf.Af,B6,fD,beq_iff_eq] at hs;simp_all
theorem IX{g:List Ty}{s:Ty}{t:Tm}(h:Mk 3 g s t)(hg:Aj g)(hs:s.small):t.size<=24:=(h.size hg hs).1
theorem Ytr{g:List Ty}{s:Ty}{T t:Tm}(hT:Mk 3 (g++[s]) Ac T)(ht:Mk 3 g s t)(hg:Aj g)(hs:s.small):(T.re (yq 0 t) 0).size<=93:=by
 have hg':=zm hg (zg hs zk);have sT:=hT.shape hg' z8;have st:=ht.shape hg hs;rw[PG 0 t T st 0 sT];have h1:=hT.z24 hg';have h2:=IX ht hg hs;have h3:cnt 0 (T.vars 0)<=3:=(hT.cnt hg' z8 (gr 0) 0 (gr 0)).2 rfl;have:cnt 0 (T.vars 0)*(t.size-1)<=3*23:=iD h3 kn;omega
theorem Ho{t:Tm}(hs:t.shape=true):(CP t).size=t.size+2/\(CP t).shape=true:=by
 have:=NL 0 1 t 0 hs;refine⟨by unfold CP;rw[Kh,this];show 1+t.size+1=t.size+2;omega,?_⟩;have:=y6 (fr:=0) (by_:=1) 0 hs kq;simp[CP,AV,Fm.shape,Fm.AZ,Fm.head,this,Ty.Bv]
 rfl
theorem D3(k i:Int)(s:Ty)(ts:List Tm)(fs:List Fm)(p:Pf):(Pf.mk k i s ts fs [p]).size=1+(ts.map Tm.size).sum+(fs.map Fm.size).sum+p.size:=by rw[XG];simp
theorem ER(k i:Int)(s:Ty)(ts:List Tm)(fs:List Fm)(p q:Pf):(Pf.mk k i s ts fs [p,q]).size=1+(ts.map Tm.size).sum+(fs.map Fm.size).sum+(p.size+q.size):=by rw[XG];simp
theorem RM(t:Tm):(xz t).size=1+t.size:=oO
theorem Gp(t:Tm):(([t]:List Tm).map Tm.size).sum=t.size:=ko
theorem E9(f:Fm):(([f]:List Fm).map Fm.size).sum=f.size:=ko
theorem Eo:(([]:List Tm).map Tm.size).sum=0:=rfl
theorem E5:(([]:List Fm).map Fm.size).sum=0:=rfl
theorem Mj{k:Int}{t:Tm}{g:List Ty}(ht:Mk 3 g Ac t)(hg:Aj g):(Pf.mk (2*k) 0 B5 [t] [AL k Ac (CP t)] [xz t]).size<=77/\(AL k Ac (CP t)).size<=27/\(AL k Ac (CP t)).shape=(AL k Ac (CP t)).shape:=by
 have h1:=ht.z24 hg;have h2:=(Ho (ht.shape hg z8)).1;rw[D3,Gp,E9,RM,G0];exact⟨kn,kn,rfl⟩
theorem z1{H:Nat}{c:Ck}{p:Pf}(h:Cz 1 c p)(hb:HB H c)(hH:199<=H):p.size<=H+40/\∀x us,yr p c=(x,us,0)->x.size<=2*H+1:=by
 have up:∀{p:Pf},Cz 0 c p->p.size<=H+40/\∀x us,yr p c=(x,us,0)->x.size<=2*H+1:=fun h=>by
  obtain⟨a,b⟩:=z0 h hb hH;exact⟨kn,fun x us hi=>by have:=(b x us hi).1;omega⟩
 cases h with
 |hyp i h=>exact up (.hyp i h)
 |lem i h=>exact up (.lem i h)
 |ref h=>exact up (.ref h)
 |and hp hq=>
  have a:=z0 hp hb hH;have b:=z0 hq hb hH;rw[ER,Eo,E5];refine⟨kn,fun x us hi=> ?_⟩;obtain⟨y,z,ua,ub,h1,h2,rfl⟩:=O6 hi;have:=(a.2 _ _ h1).1;have:=(b.2 _ _ h2).1;rw[O7];omega
 |prj hk hp hq=>
  have a:=z0 hp hb hH;have b:=z0 hq hb hH;rw[D3,ER,Eo,E5];refine⟨kn,fun x us hi=> ?_⟩;obtain⟨y,z,ua,ub,h1,h2,h3⟩:=Sg hk hi;have:=(a.2 _ _ h1).1;have:=(b.2 _ _ h2).1;rcases h3 with rfl|rfl<;>omega
 |imp d hp=>
  have f:=Dk.E4 1 d c.tys hb.g;have fs:=(Dk.Cw 1 d c.tys hb.g).1;have hf:(Dk.fm 1 d c.tys).1.size<=99:=l8
  have a:=z0 hp (hb.Ah fs kn) hH;rw[D3,Eo,E9];refine⟨kn,fun x us hi=> ?_⟩;obtain⟨y,ua,h1,rfl⟩:=OC hi;have:=(a.2 _ _ h1).1;rw[O7];omega
 |app hx hp hq=>
  have a:=z0 hp hb hH;have ax:=a.2 _ _ hx;have b:=z0 hq (hb.Ah (yd hx).1 ax.1) hH;rw[ER,D3,Eo,E5,E9];refine⟨kn,fun x us hi=> ?_⟩;obtain⟨ub,h1⟩:=Sn hi;have:=(b.2 _ _ h1).1;omega
 |all hk hs hp=>
  have a:=z0 hp (hb.below hs) hH;rw[D3,Eo,E5];refine⟨kn,fun x us hi=> ?_⟩;obtain⟨y,ua,h1,rfl⟩:=M4 hk hi;have:=(a.2 _ _ h1).1;rw[G0];omega
 | @at_ _ _ k s t p hk hs ht hp=>
   have a:=z0 hp (hb.below hs) hH;have zt:=IX ht hb.g hs;rw[D3,D3,Eo,E5,Gp];refine⟨kn,fun x us hi=> ?_⟩;obtain⟨y,ua,h1,rfl⟩:=Rp hk hi;rcases Lo hp h1 with hy|hy|⟨T,hT,rfl⟩
   .obtain ⟨z,hz,rfl⟩:=fO.1 hy;have:=hb.h z hz;have e:(z.As 0 ([s].length:Nat)).put 0 t=z:=w8 this.1 t;rw[e];omega
   .have:=hb.l _ hy;rw[MQ this.2.2 this.1];omega
   .have:=Ytr hT ht hb.g hs;have e:(AV T T).put 0 t=AV (T.re (yq 0 t) 0) (T.re (yq 0 t) 0):=rfl;rw[e,Kh];omega
 | @ex _ _ k t hk ht=>
   have a:=Mj (k:=k) ht hb.g;refine⟨kn,fun x us hi=> ?_⟩;rw[Ik kn hi];omega
 | @wit _ _ k s t p x us hk hs hx ht hp=>
   have a:=z0 hp hb hH;have ax:=a.2 _ _ hx;have zt:=IX ht hb.g hs;have zl:=(vf (yd hx).1 1).2;have zl':(x.As 0 1).size=x.size:=zl;rw[D3,Gp,E9,G0];refine⟨kn,fun y us hi=> ?_⟩;rw[Ik kn hi,G0];omega
 | @opn _ _ k t q hk ht hq=>
   have a:=Mj (k:=k) ht hb.g;have sB:=Ho (ht.shape hb.g z8);have zt:=ht.z24 hb.g;have hb':=(hb.below z8).Ah sB.2 kn;have b:=z0 hq hb' hH;rw[ER,Eo,E5];refine⟨kn,fun x us hi=> ?_⟩;obtain⟨f,ub,y,h1,h2,rfl⟩:=LZ hk hi;have fs:=(yd h1).1;have zf:=(b.2 _ _ h1).1;have cl:zq 0 f=0->(y.As 1 (-1)).size<=2*H+1:=fun h0=>by
    rcases x7 h2 with⟨_,rfl⟩|⟨h3,_⟩
    .rw[(Ln fs h0).1];omega
    .exact absurd h0 h3
   rcases Lo hq h1 with hy|hy|⟨T,hT,rfl⟩
   .rcases fV.1 hy with hy|hy
    .obtain ⟨z,hz,rfl⟩:=fO.1 hy;exact cl (cntF_lifted (fun p hp=>xj z (hb.h z hz).1 0 p hp) 0)
    .rw[gp.1 hy] at h2;exact(U9 h2).elim
   .refine cl ?_;have hl:=hb.l _ hy;have:=MQ hl.2.2 hl.1 (AE zT zT);have e:=v7 0 (AE zT zT) kq f hl.1 0;have e2:(f.put 0 (AE zT zT)).size=f.size+ud 0 (f.A6 0)*((AE zT zT).size-1):=e;rw[this] at e2;have e3:(AE zT zT).size=3:=rfl;rw[e3] at e2;show ud 0 (f.A6 0)=0;omega
   .rcases x7 h2 with⟨h0,_⟩|⟨_,h3,rfl,h4⟩
    .exact cl h0
    .have fl:=FL.eq (hT.Dl rfl hb'.g z8) (hT.Dl rfl hb'.g z8);have:=fl.Dv h3;have ns:=(Nb (AV T T) h3 fs).2.1;rw[(Ln ns h4).1];omega
 | @opn2 _ _ k t hk ht=>
   have a:=Mj (k:=k) ht hb.g;have sq:(AL k Ac (CP t)).shape=true:=by
    exact qy
   have zl:((AL k Ac (CP t)).As 0 1).size=(AL k Ac (CP t)).size:=(vf sq 1).2;have e:(vd 0).size=1:=rfl;have ev:(vT 0).size=1:=rfl;rw[ER,D3 _ _ _ [vT 0],Eo,E5,Gp,E9];refine⟨kn,fun x us hi=> ?_⟩;obtain⟨f,ub,y,h1,h2,rfl⟩:=LZ hk hi;have hf:=Ik kn h1;subst hf;have h0:zq 0 ((AL k Ac (CP t)).As 0 1)=0:=cntF_lifted (fun p hp=>xj _ sq 0 p hp) 0;rcases x7 h2 with⟨_,rfl⟩|⟨h3,_⟩
   .have s9:((AL k Ac (CP t)).As 0 1).shape=true:=(vf sq 1).1;rw[(Ln s9 h0).1];omega
   .exact absurd h0 h3
 | @ind _ _ t p x us hx ht hp=>
   have a:=z0 hp hb hH;have ax:=a.2 _ _ hx;have zt:=ht.z24 hb.g;have sx:=(yd hx).1;have zl:(x.As 0 1).size=x.size:=(vf sx 1).2;have e:(vd 0).size=1:=rfl;rw[ER,Gp,E9];refine⟨kn,fun y us hi=> ?_⟩;rw[LX hi,w8 sx];omega
 | @lst _ _ t p x us hx ht hp=>
   have a:=z0 hp hb hH;have ax:=a.2 _ _ hx;have zt:=IX ht hb.g ⟨kq,kq⟩;have sx:=(yd hx).1;have zl:(x.As 0 1).size=x.size:=(vf sx 1).2;have e:(vd 0).size=1:=rfl;rw[ER,Gp,E9];refine⟨kn,fun y us hi=> ?_⟩;rw[SO hi,w8 sx];omega
 | @zer _ _ t ht=>
   have zt:=ht.z24 hb.g;have st:=ht.shape hb.g z8;have e1:(JL (Be Ac (sT (vT 0))) (AE (AE Bt zT) (vT 0)) (vd 0)).size<=80:=kq
   have e2:(AV (AE (AE Bt zT) (vT 0)) (vT 0)).size<=20:=kq
   have e3:(xz zT).size=2:=rfl;rw[ER,Gp,E9];refine⟨kn,fun y us hi=> ?_⟩;rw[LX hi];have e4:(AV (AE (AE Bt zT) (vT 0)) (vT 0)).put 0 t=AV (AE (AE Bt zT) (t.re (zi 0 0) 0)) (t.re (zi 0 0) 0):=rfl;rw[e4,Kc t st,Kh];have e5:Bt.size=9:=rfl;have e6:zT.size=1:=rfl;simp only[AE,Tm.size,Tm.sizes,e5,e6];omega
 | @sub _ _ t u ht hu=>
   have zt:=ht.z24 hb.g;have zu:=hu.z24 hb.g;have su:=hu.shape hb.g z8;have zl:=NL 0 1 u 0 su;rw[ER,Eo,E9,RM,RM,Kh];refine⟨kn,fun y us hi=> ?_⟩;rw[UF (u:=t) hi];have e4:(AV (u.re (zi 0 1) 0) (u.re (zi 0 1) 0)).put 0 t=AV ((u.re (zi 0 1) 0).re (yq 0 t) 0) ((u.re (zi 0 1) 0).re (yq 0 t) 0):=rfl;have e5:=Lh u t 0 0 kq kq;rw[gL] at e5;rw[e4,e5,Kc u su,Kh];omega
 | @cho _ _ s t hs ht=>
   have hg:=zm hb.g (zg hs zk);have zt:=ht.z24 hg;have st:=ht.shape hg z8;have zB:=(Ho st).1;rw[D3,D3,D3,Eo,E5,Gp,E9,RM,G0];refine⟨kn,fun y us hi=> ?_⟩;rw[Vi hi,G0,G0];have k:=yt (fr:=2) (by_:=1) (Ho st).2 kq;have z:=v7 0 Ca kq ((CP t).As 2 1) k.1 0;have z':(((CP t).As 2 1).put 0 Ca).size=((CP t).As 2 1).size+zq 0 ((CP t).As 2 1)*(Ca.size-1):=z;have e:Ca.size=3:=rfl;have:=MF 0 ((CP t).As 2 1);rw[e] at z';have:=k.2.1;omega
theorem z2{H:Nat}{c:Ck}{p:Pf}(h:Cz 2 c p)(hb:HB H c)(hH:199<=H):p.size<=5*H+84:=by
 have up:∀{p:Pf},Cz 1 c p->p.size<=5*H+84:=fun h=>by have:=(z1 h hb hH).1;omega
 cases h with
 |hyp i h=>exact up (.hyp i h)
 |lem i h=>exact up (.lem i h)
 |ref h=>exact up (.ref h)
 |and hp hq=>
  have a:=(z1 hp hb hH).1;have b:=(z1 hq hb hH).1;rw[ER,Eo,E5];omega
 |prj hk hp hq=>
  have a:=(z1 hp hb hH).1;have b:=(z1 hq hb hH).1;rw[D3,ER,Eo,E5];omega
 |imp d hp=>
  have f:=Dk.E4 1 d c.tys hb.g;have fs:=(Dk.Cw 1 d c.tys hb.g).1;have hf:(Dk.fm 1 d c.tys).1.size<=99:=l8
  have a:=(z1 hp (hb.Ah fs kn) hH).1;rw[D3,Eo,E9];omega
 |app hx hp hq=>
  have a:=z1 hp hb hH;have ax:=a.2 _ _ hx;have b:=(z1 hq ((hb.le kn).Ah (yd hx).1 ax) kn).1;rw[ER,D3,Eo,E5,E9];omega
 |all hk hs hp=>
  have a:=(z1 hp (hb.below hs) hH).1;rw[D3,Eo,E5];omega
 |at_ hk hs ht hp=>
  have a:=(z1 hp (hb.below hs) hH).1;have zt:=IX ht hb.g hs;rw[D3,D3,Eo,E5,Gp];omega
 |ex hk ht=>exact up (.ex hk ht)
 | @wit _ _ k s t p x us hk hs hx ht hp=>
   have a:=z1 hp hb hH;have ax:=a.2 _ _ hx;have zt:=IX ht hb.g hs;have zl':(x.As 0 1).size=x.size:=(vf (yd hx).1 1).2;rw[D3,Gp,E9,G0];omega
 | @opn _ _ k t q hk ht hq=>
   have a:=Mj (k:=k) ht hb.g;have sB:=Ho (ht.shape hb.g z8);have zt:=ht.z24 hb.g;have b:=(z1 hq ((hb.below z8).Ah sB.2 kn) hH).1;rw[ER,Eo,E5];omega
 |opn2 hk ht=>exact up (.opn2 hk ht)
 | @ind _ _ t p x us hx ht hp=>
   have a:=z1 hp hb hH;have ax:=a.2 _ _ hx;have zt:=ht.z24 hb.g;have zl:(x.As 0 1).size=x.size:=(vf (yd hx).1 1).2;have e:(vd 0).size=1:=rfl;rw[ER,Gp,E9];omega
 | @lst _ _ t p x us hx ht hp=>
   have a:=z1 hp hb hH;have ax:=a.2 _ _ hx;have zt:=IX ht hb.g ⟨kq,kq⟩;have zl:(x.As 0 1).size=x.size:=(vf (yd hx).1 1).2;have e:(vd 0).size=1:=rfl;rw[ER,Gp,E9];omega
 |zer ht=>exact up (.zer ht)
 |sub ht hu=>exact up (.sub ht hu)
 |cho hs ht=>exact up (.cho hs ht)
theorem z3{H K:Nat}{c:Ck}{p:Pf}(h:Cz 3 c p)(hb:HB H c)(hH:199<=H)(hK:H<=K)(hk:∀p x us,Cz 2 c p->yr p c=(x,us,0)->x.size<=K):p.size<=6*K+5*H+170:=by
 have up:∀{p:Pf},Cz 1 c p->p.size<=6*K+5*H+170:=fun h=>by have:=(z1 h hb hH).1;omega
 cases h with
 |hyp i h=>exact up (.hyp i h)
 |lem i h=>exact up (.lem i h)
 |ref h=>exact up (.ref h)
 |and hp hq=>
  have a:=z2 hp hb hH;have b:=z2 hq hb hH;rw[ER,Eo,E5];omega
 |prj hk hp hq=>
  have a:=z2 hp hb hH;have b:=z2 hq hb hH;rw[D3,ER,Eo,E5];omega
 |imp d hp=>
  have f:=Dk.E4 1 d c.tys hb.g;have fs:=(Dk.Cw 1 d c.tys hb.g).1;have hf:(Dk.fm 1 d c.tys).1.size<=99:=l8
  have a:=z2 hp (hb.Ah fs kn) hH;rw[D3,Eo,E9];omega
 |app hx hp hq=>
  have a:=z2 hp hb hH;have ax:=hk _ _ _ hp hx;have b:=z2 hq ((hb.le hK).Ah (yd hx).1 ax) kn;rw[ER,D3,Eo,E5,E9];omega
 |all hk hs hp=>
  have a:=z2 hp (hb.below hs) hH;rw[D3,Eo,E5];omega
 |at_ hk hs ht hp=>
  have a:=z2 hp (hb.below hs) hH;have zt:=IX ht hb.g hs;rw[D3,D3,Eo,E5,Gp];omega
 |ex hk ht=>exact up (.ex hk ht)
 | @wit _ _ k s t p x us hk' hs hx ht hp=>
   have a:=z2 hp hb hH;have ax:=hk _ _ _ hp hx;have zt:=IX ht hb.g hs;have zl':(x.As 0 1).size=x.size:=(vf (yd hx).1 1).2;rw[D3,Gp,E9,G0];omega
 | @opn _ _ k t q hk' ht hq=>
   have a:=Mj (k:=k) ht hb.g;have sB:=Ho (ht.shape hb.g z8);have zt:=ht.z24 hb.g;have b:=z2 hq ((hb.below z8).Ah sB.2 kn) hH;rw[ER,Eo,E5];omega
 |opn2 hk ht=>exact up (.opn2 hk ht)
 | @ind _ _ t p x us hx ht hp=>
   have a:=z2 hp hb hH;have ax:=hk _ _ _ hp hx;have zt:=ht.z24 hb.g;have zl:(x.As 0 1).size=x.size:=(vf (yd hx).1 1).2;have e:(vd 0).size=1:=rfl;rw[ER,Gp,E9];omega
 | @lst _ _ t p x us hx ht hp=>
   have a:=z2 hp hb hH;have ax:=hk _ _ _ hp hx;have zt:=IX ht hb.g ⟨kq,kq⟩;have zl:(x.As 0 1).size=x.size:=(vf (yd hx).1 1).2;have e:(vd 0).size=1:=rfl;rw[ER,Gp,E9];omega
 |zer ht=>exact up (.zer ht)
 |sub ht hu=>exact up (.sub ht hu)
 |cho hs ht=>exact up (.cho hs ht)
structure Ir (c:Ck):Prop where
 b:HB 199 c
 h:∀x∈c.hyps,FL x 327
 l:∀x∈c.lems,FL x 327
theorem Ir.below{c:Ck}(h:Ir c){s:Ty}(hs:s.small):Ir (c.below [s]):=by
 refine⟨h.b.below hs,?_,h.l⟩;intro x hx;obtain⟨y,hy,rfl⟩:=fO.1 hx;exact(h.h y hy).As kq ko
theorem Ir.Ah{c:Ck}(h:Ir c){x:Fm}(hs:x.shape=true)(hz:x.size<=199)(hf:FL x 327):Ir (c.Ah x):=by
 refine⟨h.b.Ah hs hz,?_,h.l⟩;intro y hy;rcases fV.1 hy with hy|hy
 .exact h.h y hy
 .rw[gp.1 hy];exact hf
theorem Pr{t:Tm}{g:List Ty}(ht:Mk 3 g Ac t)(hg:Aj g):FL (CP t) 42:=by
 have:=(ht.Dl rfl hg z8).As (m:=0) (n:=1) kq kq;exact(FL.eq this (.of (Lj 0) (fB 1))).le kn
theorem f0{c:Ck}{p:Pf}{x:Fm}{us:List Int}(h:Cz 0 c p)(hc:Ir c)(hi:yr p c=(x,us,0)):FL x 327:=by
 rcases Lo h hi with hx|hx|⟨t,ht,rfl⟩
 .exact hc.h x hx
 .exact hc.l x hx
 .exact (FL.eq (ht.Dl rfl hc.b.g z8) (ht.Dl rfl hc.b.g z8)).le kn
theorem NB.Jp{N:Nat}{t:Tm}{s:Int}(h:NB N t)(hn:(yv t s).2.2=0):NB N (yv t s).1:=by
 obtain⟨u,h1,h2,h3⟩:=h;obtain⟨_,_,h4,h5,_⟩:=Kn hn;have e:=W9 h5 (XZ h2) h4 h1;rw[e];exact .of h2 h3
theorem Ylc{T:Tm}{N:Nat}(h:NB N T)(hn:(y9 (AV T T)).2=0):FL (y9 (AV T T)).1 (1+N+N):=by
 have e:AV T T= .mk 1 BH [T,T] []:=rfl;rw[e] at hn ⊢;unfold y9 at hn ⊢;simp only[wo,xd] at hn ⊢;by_cases h1:(yv T 1000).2.2=0
 .simp[h1];exact⟨_,fB _,.eq (h.Jp h1) (h.Jp h1)⟩
 .simp[h1] at hn
theorem Ye8{t:Tm}{g:List Ty}(ht:Mk 3 g Ac t)(hg:Aj g):NB 46 (AE (AE Bt zT) t):=by
 obtain⟨u,h1,h2,h3⟩:=ht.Dl rfl hg z8;have su:=SS h1 (ht.shape hg z8);have e1:BE (AE Bt zT) (vv (Dm zT Ct (vT 0))):= .one (.beta (b':=vv (Dm (vT 1) Ct (vT 0))) (.refl _) (.refl _));have e2:BE (AE (vv (Dm zT Ct (vT 0))) u) (Dm zT Ct (u.re (zi 0 0) 0)):= .one (.beta (b':=Dm zT Ct (vT 0)) (.refl _) (.refl _));have hp:=Yr (A:=zT) rfl (.mk 1 []) u h2 su 0;have e3:zT.size=1:=rfl;rw[Kc u su] at e2;exact(hp.le kn).st ((Lc e1 h1).trans e2)
theorem Yqm(t s:Tm):((t.re (zi 0 1) 0).re (zi 2 1) 0).re (yq 0 s) 0=t.re (zi 1 1) 0:=by
 rw[Bz,Bz];refine Ax t 0 fun p hp=> ?_;simp only[z5,wh];rw[xt];rw[if_neg (by split<;>split<;>omega)];congr 1;split<;>split<;>split<;>split<;>omega
theorem f1{c:Ck}{p:Pf}{x:Fm}{us:List Int}(h:Cz 1 c p)(hc:Ir c)(hi:yr p c=(x,us,0)):FL x 935:=by
 have up:Cz 0 c p->FL x 935:=fun h=>(f0 h hc hi).le kn;have hb:=hc.b;cases h with
 |hyp i h=>exact up (.hyp i h)
 |lem i h=>exact up (.lem i h)
 |ref h=>exact up (.ref h)
 |and hp hq=>
  obtain⟨y,z,ua,ub,h1,h2,rfl⟩:=O6 hi;exact((f0 hp hc h1).two (f0 hq hc h2)).le kn
 |prj hk hp hq=>
  obtain⟨y,z,ua,ub,h1,h2,h3⟩:=Sg hk hi;rcases h3 with rfl|rfl
  .exact (f0 hp hc h1).le kn
  .exact (f0 hq hc h2).le kn
 |imp d hp=>
  have f:=Dk.E4 1 d c.tys hb.g;have fs:=(Dk.Cw 1 d c.tys hb.g).1;obtain⟨y,ua,h1,rfl⟩:=OC hi;exact(f.1.two (f0 hp (hc.Ah fs l8 (f.1.le kn)) h1)).le kn
 |app hx hp hq=>
  obtain⟨ub,h1⟩:=Sn hi;exact(f0 hq (hc.Ah (yd hx).1 ((z0 hp hb kn).2 _ _ hx).1 (f0 hp hc hx)) h1).le kn
 |all hk hs hp=>
  obtain⟨y,ua,h1,rfl⟩:=M4 hk hi;exact(f0 hp (hc.below hs) h1).qu.le kn
 | @at_ _ _ k s t p hk hs ht hp=>
   obtain⟨y,ua,h1,rfl⟩:=Rp hk hi;rcases Lo hp h1 with hy|hy|⟨T,hT,rfl⟩
   .obtain ⟨z,hz,rfl⟩:=fO.1 hy;have e:(z.As 0 ([s].length:Nat)).put 0 t=z:=w8 (hb.h z hz).1 t;rw[e];exact(hc.h z hz).le kn
   .have:=hb.l _ hy;rw[MQ this.2.2 this.1];exact(hc.l _ hy).le kn
   .have n:=hT.TV ht hb.g hs;exact FL.eq n n
 | @ex _ _ k t hk ht=>rw[Ik kn hi];exact(Pr ht hb.g).qu.le kn
 | @wit _ _ k s t p x us hk hs hx ht hp=>rw[Ik kn hi];exact((f0 hp hc hx).As kq kq).qu.le kn
 | @opn _ _ k t q hk ht hq=>
   have sB:=Ho (ht.shape hb.g z8);have zt:=ht.z24 hb.g;have hc':=(hc.below z8).Ah sB.2 kn ((Pr ht hb.g).le kn);obtain⟨f,ub,y,h1,h2,rfl⟩:=LZ hk hi;have fs:=(yd h1).1;have f':=f0 hq hc' h1;rcases x7 h2 with⟨_,rfl⟩|⟨h0,h3,rfl,h4⟩
   .exact (f'.As kq kq).le kn
   .rcases Lo hq h1 with hy|hy|⟨T,hT,rfl⟩
    .rcases fV.1 hy with hy|hy
     .obtain ⟨z,hz,rfl⟩:=fO.1 hy;exact absurd (cntF_lifted (fun p hp=>xj z (hb.h z hz).1 0 p hp) 0) h0
     .rw[gp.1 hy] at h2;exact(U9 h2).elim
    .have hl:=hb.l _ hy;refine absurd ?_ h0;have:=MQ hl.2.2 hl.1 (AE zT zT);have e2:(f.put 0 (AE zT zT)).size=f.size+ud 0 (f.A6 0)*((AE zT zT).size-1):=v7 0 (AE zT zT) kq f hl.1 0;rw[this] at e2;have e3:(AE zT zT).size=3:=rfl;rw[e3] at e2;show ud 0 (f.A6 0)=0;omega
    .exact ((Ylc (hT.Dl rfl hc'.b.g z8) h3).As kq kq).le kn
 | @opn2 _ _ k t hk ht=>
   obtain⟨f,ub,y,h1,h2,rfl⟩:=LZ hk hi;have hf:=Ik kn h1;subst hf;have sq:(AL k Ac (CP t)).shape=true:=by
    exact qy
   have h0:zq 0 ((AL k Ac (CP t)).As 0 1)=0:=cntF_lifted (fun p hp=>xj _ sq 0 p hp) 0;rcases x7 h2 with⟨_,rfl⟩|⟨h3,_⟩
   .exact (((Pr ht hb.g).qu.As kq kq).As kq kq).le kn
   .exact absurd h0 h3
 | @ind _ _ t p x us hx ht hp=>rw[LX hi,w8 (yd hx).1];exact(f0 hp hc hx).le kn
 | @lst _ _ t p x us hx ht hp=>rw[SO hi,w8 (yd hx).1];exact(f0 hp hc hx).le kn
 | @zer _ _ t ht=>
   rw[LX hi];have e4:(AV (AE (AE Bt zT) (vT 0)) (vT 0)).put 0 t=AV (AE (AE Bt zT) (t.re (zi 0 0) 0)) (t.re (zi 0 0) 0):=rfl;rw[e4,Kc t (ht.shape hb.g z8)];exact(FL.eq (Ye8 ht hb.g) (ht.Dl rfl hb.g z8)).le kn
 | @sub _ _ t u ht hu=>
   rw[UF (u:=t) hi];have e4:(AV (u.re (zi 0 1) 0) (u.re (zi 0 1) 0)).put 0 t=AV ((u.re (zi 0 1) 0).re (yq 0 t) 0) ((u.re (zi 0 1) 0).re (yq 0 t) 0):=rfl;have e5:=Lh u t 0 0 kq kq;rw[gL] at e5;rw[e4,e5,Kc u (hu.shape hb.g z8)];exact(FL.eq (hu.Dl rfl hb.g z8) (hu.Dl rfl hb.g z8)).le kn
 | @cho _ _ s t hs ht=>
   have hg:=zm hb.g (zg hs zk);rw[Vi hi];have e:((CP t).As 2 1).put 0 Ca=AV (((t.re (zi 0 1) 0).re (zi 2 1) 0).re (yq 0 Ca) 0) Ca:=rfl;rw[e,Yqm];have n:=(ht.Dl rfl hg z8).As (m:=1) (n:=1) kq kq;exact((FL.eq n (.of (N:=3) (t:=Ca) rfl kq)).qu.qu).le kn
theorem SE(k b:Int)(hk:A3 k 0=0)(x y:Fm):zq b (vm k x y)=zq b x+zq b y:=by
 unfold zq;rw[Fm.A0];have e1:(vm k x y).terms=[]:=rfl;have e2:(vm k x y).args=[x,y]:=rfl;have e3:(vm k x y).kind=k:=rfl;rw[e1,e2,e3,hk];simp[xg]
theorem OU(k b:Int)(s:Ty)(hk:A3 k 0=1)(x:Fm):zq b (AL k s x)=zq (b+1) x:=by
 unfold zq;rw[Fm.A0];have e1:(AL k s x).terms=[]:=rfl;have e2:(AL k s x).args=[x]:=rfl;have e3:(AL k s x).kind=k:=rfl;rw[e1,e2,e3,hk];have:=bP b x 0 1;rw[gL] at this;simp[this]
theorem VM(b:Int)(s t:Tm):zq b (AV s t)=cnt b (s.vars 0)+cnt b (t.vars 0):=by
 unfold zq;rw[Fm.A0];have e1:(AV s t).terms=[s,t]:=rfl;have e2:(AV s t).args=[]:=rfl;rw[e1,e2];simp[ud]
theorem Yil{a:Int}{l:List (Int×Int)}(h:∀p∈l,p.1-p.2≠a):cnt a l=0:=by
 unfold cnt;rw[ir,j3];intro p hp;simpa using h p hp
theorem WO{k:Int}:∀{l:List (Tm×Int)},(∀q∈l,cnt (k+q.2) (q.1.vars 0)=0)->ud k l=0
 |[],_=>rfl
 |q::l,h=>by
  simp only[ud];rw[WO fun p hp=>h p (by simp[hp]),h q ko]
theorem WM{f:Fm}(h:f.A9 [])(hs:f.shape=true){b:Int}(hb:0<=b):zq b f=0:=by
 refine WO fun q hq=>Yil fun v hv=> ?_;have:=Wy h hs q hq v hv;simp only[gB] at this;have:=u3 q hq;omega
theorem Y4{x:Fm}(hs:x.shape=true){a:Int}(ha:0<=a):zq (a+1) (x.As 0 1)=zq a x:=by
 unfold zq;rw[Fm.As,QO];refine aY (G:=fun b t=>t.re (zi (0+b) 1) 0) _ fun p hp=> ?_;have:=u3 p hp;rw[Ki _ _ _ _ (xj x hs 0 p hp)];refine P9 _ fun q hq=> ?_;simp only;split<;>omega
theorem VR{x:Fm}(hs:x.shape=true):zq 0 (x.As 0 1)=0:=cntF_lifted (fun p hp=>xj x hs 0 p hp) 0
theorem Yg3{T t:Tm}(hT:T.shape=true)(ht:t.shape=true):cnt 0 ((T.re (yq 0 t) 0).vars 0)<=cnt 1 (T.vars 0)+cnt 0 (T.vars 0)*cnt 0 (t.vars 0):=by
 rw[Mv _ _ _ hT];have:∀l:List (Int×Int),(∀p∈l,0<=p.2)->cnt 0 (l.flatMap fun p=>(yq 0 t p.1 p.2).vars p.2)<=cnt 1 l+cnt 0 l*cnt 0 (t.vars 0):=by
  intro l;induction l with
  |nil=>intro _;simp[cnt]
  |cons p l ih=>
   intro h;have h1:=ih fun q hq=>h q (by simp[hq]);have h2:=h p ko;rw[gx,xy,show p::l=[p]++l from rfl,xy,xy,iw];have h3:cnt 0 ((yq 0 t p.1 p.2).vars p.2)<=cnt 1 [p]+cnt 0 [p]*cnt 0 (t.vars 0):=by
    rw[xt];by_cases h4:p.1-p.2=0
    .rw[if_pos h4,MI,Ki _ _ _ _ ht,P9 (a':=0),vx 0 p,if_pos h4]
     .omega
     .intro q hq;simp only;split<;>omega
    .rw[if_neg h4,Zip,vx,vx,vx];simp only;repeat' split
     all_goals first
      |omega
      |(simp;done)
      |(simp;omega)
   omega
 exact this _ fun p hp=>yw T 0 p hp
theorem O1{g:List Ty}{t:Tm}(h:Mk 3 g Ac t)(hg:Aj g){b:Int}(hb:0<=b):cnt b (t.vars 0)<=3:=(h.cnt hg z8 hb 0 (gr 0)).2 rfl
theorem Dk.B7(d:Dk){g:List Ty}(hg:Aj g){b:Int}(hb:0<=b):zq b (d.HM g).1<=6:=by
 have h1:=O1 (Dk.Sd d hg) hg hb;have h2:=O1 (Dk.Sd (Dk.tm 3 d g Ac).2 hg) hg hb;show zq b (AV _ _)<=6;rw[VM];omega
theorem Dk.HG(d:Dk){g:List Ty}(hg:Aj g){b:Int}(hb:0<=b):zq b (Dk.fm 1 d g).1<=12:=by
 have s1:=Dk.type1 (d.next 9).2;have s0:=Dk.type0 (d.next 9).2;have s0':=z4 s0.1 s0.2;have n2:=Dk.BC ((d.next 9).2.type 0).2 2 kq;simp only[Dk.fm];repeat' split
 .exact rX
 .exact rX
 .exact r6
 .exact r6
 .rw[OU _ _ _ (by unfold A3 wc;rw[if_pos kC];rfl)];have:=Dk.B7 (((d.next 9).2.type 0).2.next 2).2 (zm hg (zg s0' zk)) (b:=b+1) kn;omega
 .have:=Dk.B7 (d.next 9).2 hg hb;omega
theorem t0{c:Ck}{p:Pf}{x:Fm}{us:List Int}{M:Nat}{b:Int}(h:Cz 0 c p)(hc:Ir c)(hb:0<=b)(hM:6<=M)(hh:∀y∈c.hyps,zq b y<=M)(hi:yr p c=(x,us,0)):zq b x<=M:=by
 rcases Lo h hi with hx|hx|⟨t,ht,rfl⟩
 .exact hh x hx
 .have:=hc.b.l x hx;rw[WM this.2.2 this.1 hb];omega
 .have:=O1 ht hc.b.g hb;rw[VM];omega
theorem Zsm{c:Ck}{s:Ty}(hc:Ir c){M:Nat}{a:Int}(ha:0<=a)(h:∀y∈c.hyps,zq a y<=M):∀y∈(c.below [s]).hyps,zq (a+1) y<=M:=by
 intro y hy;obtain⟨z,hz,rfl⟩:=fO.1 hy;have:=h z hz;have e:=Y4 (hc.b.h z hz).1 ha;have e':zq (a+1) (z.As 0 ([s].length:Nat))=zq a z:=e;rw[e'];exact this
theorem aW{c:Ck}{x:Fm}{M:Nat}{a:Int}(h:∀y∈c.hyps,zq a y<=M)(hx:zq a x<=M):∀y∈(c.Ah x).hyps,zq a y<=M:=by
 intro y hy;rcases fV.1 hy with hy|hy
 .exact h y hy
 .rw[gp.1 hy];exact hx
theorem t1{c:Ck}{p:Pf}{x:Fm}{us:List Int}(h:Cz 1 c p)(hc:Ir c)(hh:∀y∈c.hyps,zq 0 y<=0)(hi:yr p c=(x,us,0)):zq 0 x<=36\/x.size<=83:=by
 have hb:=hc.b;have h6:∀y∈c.hyps,zq 0 y<=6:=fun y hy=>by have:=hh y hy;omega
 have up:Cz 0 c p->zq 0 x<=36\/x.size<=83:=fun h=> .inl (by have:=t0 h hc (b:=0) kq (fB 6) h6 hi;omega);cases h with
 |hyp i h=>exact up (.hyp i h)
 |lem i h=>exact up (.lem i h)
 |ref h=>exact up (.ref h)
 |and hp hq=>
  obtain⟨y,z,ua,ub,h1,h2,rfl⟩:=O6 hi;have a:=t0 hp hc (b:=0) kq (fB 6) h6 h1;have b:=t0 hq hc (b:=0) kq (fB 6) h6 h2;left;rw[SE _ _ rfl];omega
 |prj hk hp hq=>
  obtain⟨y,z,ua,ub,h1,h2,h3⟩:=Sg hk hi;have a:=t0 hp hc (b:=0) kq (fB 6) h6 h1;have b:=t0 hq hc (b:=0) kq (fB 6) h6 h2;left;rcases h3 with rfl|rfl<;>omega
 |imp d hp=>
  have f:=Dk.E4 1 d c.tys hb.g;have fs:=(Dk.Cw 1 d c.tys hb.g).1;have ft:=Dk.HG d hb.g (b:=0) kq;obtain⟨y,ua,h1,rfl⟩:=OC hi;have a:=t0 hp (hc.Ah fs l8 (f.1.le kn)) (b:=0) kq (M:=12) kn (aW (fun y hy=>by have:=hh y hy;omega) ft) h1;left;rw[SE _ _ rfl];omega
 |app hx hp hq=>
  obtain⟨ub,h1⟩:=Sn hi;have a:=t0 hp hc (b:=0) kq (fB 6) h6 hx;have:=t0 hq (hc.Ah (yd hx).1 ((z0 hp hb kn).2 _ _ hx).1 (f0 hp hc hx)) (b:=0) kq (fB 6) (aW h6 a) h1;left;omega
 | @all _ _ k s p hk hs hp=>
   obtain⟨y,ua,h1,rfl⟩:=M4 hk hi;have:=t0 hp (hc.below hs) (b:=0+1) kq (fB 6) (Zsm hc kq h6) h1;left;rw[OU _ _ _ (by split<;>rfl)];omega
 | @at_ _ _ k s t p hk hs ht hp=>
   obtain⟨y,ua,h1,rfl⟩:=Rp hk hi;left;rcases Lo hp h1 with hy|hy|⟨T,hT,rfl⟩
   .obtain ⟨z,hz,rfl⟩:=fO.1 hy;have e:(z.As 0 ([s].length:Nat)).put 0 t=z:=w8 (hb.h z hz).1 t;rw[e];have:=hh z hz;omega
   .have:=hb.l _ hy;rw[MQ this.2.2 this.1,WM this.2.2 this.1 kq];omega
   .have hg:=zm hb.g (zg hs zk);have sT:=hT.shape hg z8;have st:=ht.shape hb.g hs;have e:(AV T T).put 0 t=AV (T.re (yq 0 t) 0) (T.re (yq 0 t) 0):=rfl;have c1:=O1 hT hg (b:=0) kq;have c2:=O1 hT hg (b:=1) kq;have c3':cnt 0 (t.vars 0)<=5:=(ht.cnt hb.g hs (gr 0) 0 (gr 0)).1;have:=Yg3 sT st;have:cnt 0 (T.vars 0)*cnt 0 (t.vars 0)<=3*5:=iD c1 c3';rw[e,VM];omega
 | @ex _ _ k t hk ht=>
   have a:=Mj (k:=k) ht hb.g;rw[Ik kn hi];right;omega
 | @wit _ _ k s t p x us hk hs hx ht hp=>
   have a:=t0 hp hc (b:=0) kq (fB 6) h6 hx;rw[Ik kn hi];left;rw[OU _ _ _ (by rcases hk with rfl|rfl<;>rfl),Y4 (yd hx).1 kq];omega
 | @opn _ _ k t q hk ht hq=>
   have sB:=Ho (ht.shape hb.g z8);have zt:=ht.z24 hb.g;have hc':=(hc.below z8).Ah sB.2 kn ((Pr ht hb.g).le kn);obtain⟨f,ub,y,h1,h2,rfl⟩:=LZ hk hi;have fs:=(yd h1).1;rcases Lo hq h1 with hy|hy|⟨T,hT,rfl⟩
   .rcases fV.1 hy with hy|hy
    .obtain ⟨z,hz,rfl⟩:=fO.1 hy;have h0:zq 0 (z.As 0 ([Ac].length:Nat))=0:=VR (hb.h z hz).1;rcases x7 h2 with⟨_,rfl⟩|⟨h3,_⟩
     .have e:(z.As 0 ([Ac].length:Nat)).put 0 zT=z:=w8 (hb.h z hz).1 zT;rw[ML zT fs h0,e];have:=hh z hz;left;omega
     .exact absurd h0 h3
    .rw[gp.1 hy] at h2;exact(U9 h2).elim
   .have hl:=hb.l _ hy;have h0:=WM hl.2.2 hl.1 (b:=0) kq;rcases x7 h2 with⟨_,rfl⟩|⟨h3,_⟩
    .rw[ML zT fs h0,MQ hl.2.2 hl.1,h0];left;omega
    .exact absurd h0 h3
   .have zT':=hT.z24 hc'.b.g;rcases x7 h2 with⟨h0,rfl⟩|⟨_,h3,rfl,h4⟩
    .rw[(Ln fs h0).1,Kh];right;omega
    .have fl:=FL.eq (hT.Dl rfl hc'.b.g z8) (hT.Dl rfl hc'.b.g z8);have:=fl.Dv h3;have ns:=(Nb (AV T T) h3 fs).2.1;rw[(Ln ns h4).1];right;omega
 | @opn2 _ _ k t hk ht=>
   have a:=Mj (k:=k) ht hb.g;have sq:(AL k Ac (CP t)).shape=true:=by
    exact qy
   obtain⟨f,ub,y,h1,h2,rfl⟩:=LZ hk hi;have hf:=Ik kn h1;subst hf;have h0:zq 0 ((AL k Ac (CP t)).As 0 1)=0:=VR sq;rcases x7 h2 with⟨_,rfl⟩|⟨h3,_⟩
   .have s9:((AL k Ac (CP t)).As 0 1).shape=true:=(vf sq 1).1;have zl:((AL k Ac (CP t)).As 0 1).size=(AL k Ac (CP t)).size:=(vf sq 1).2;rw[(Ln s9 h0).1];right;omega
   .exact absurd h0 h3
 | @ind _ _ t p x us hx ht hp=>
   have a:=t0 hp hc (b:=0) kq (fB 6) h6 hx;rw[LX hi,w8 (yd hx).1];left;omega
 | @lst _ _ t p x us hx ht hp=>
   have a:=t0 hp hc (b:=0) kq (fB 6) h6 hx;rw[SO hi,w8 (yd hx).1];left;omega
 | @zer _ _ t ht=>
   have zt:=ht.z24 hb.g;have st:=ht.shape hb.g z8;rw[LX hi];have e4:(AV (AE (AE Bt zT) (vT 0)) (vT 0)).put 0 t=AV (AE (AE Bt zT) (t.re (zi 0 0) 0)) (t.re (zi 0 0) 0):=rfl;rw[e4,Kc t st,Kh];have e5:Bt.size=9:=rfl;have e6:zT.size=1:=rfl;right;simp only[AE,Tm.size,Tm.sizes,e5,e6];omega
 | @sub _ _ t u ht hu=>
   have zu:=hu.z24 hb.g;have su:=hu.shape hb.g z8;rw[UF (u:=t) hi];have e4:(AV (u.re (zi 0 1) 0) (u.re (zi 0 1) 0)).put 0 t=AV ((u.re (zi 0 1) 0).re (yq 0 t) 0) ((u.re (zi 0 1) 0).re (yq 0 t) 0):=rfl;have e5:=Lh u t 0 0 kq kq;rw[gL] at e5;rw[e4,e5,Kc u su,Kh];right;omega
 | @cho _ _ s t hs ht=>
   have hg:=zm hb.g (zg hs zk);have zt:=ht.z24 hg;have st:=ht.shape hg z8;have zB:=(Ho st).1;rw[Vi hi,G0,G0];have k:=yt (fr:=2) (by_:=1) (Ho st).2 kq;have z:=v7 0 Ca kq ((CP t).As 2 1) k.1 0;have z':(((CP t).As 2 1).put 0 Ca).size=((CP t).As 2 1).size+zq 0 ((CP t).As 2 1)*(Ca.size-1):=z;have e:Ca.size=3:=rfl;have:=MF 0 ((CP t).As 2 1);rw[e] at z';have:=k.2.1;right;omega
theorem f2{c:Ck}{p:Pf}{x:Fm}{us:List Int}(h:Cz 2 c p)(hc:Ir c)(hi:yr p c=(x,us,0)):x.size<=2000:=by
 have hb:=hc.b;have hH:199<=199:=fB _;have up:Cz 1 c p->x.size<=2000:=fun h=>by have:=(z1 h hb hH).2 _ _ hi;omega
 cases h with
 |hyp i h=>exact up (.hyp i h)
 |lem i h=>exact up (.lem i h)
 |ref h=>exact up (.ref h)
 |and hp hq=>
  obtain⟨y,z,ua,ub,h1,h2,rfl⟩:=O6 hi;have:=(z1 hp hb hH).2 _ _ h1;have:=(z1 hq hb hH).2 _ _ h2;rw[O7];omega
 |prj hk hp hq=>
  obtain⟨y,z,ua,ub,h1,h2,h3⟩:=Sg hk hi;have:=(z1 hp hb hH).2 _ _ h1;have:=(z1 hq hb hH).2 _ _ h2;rcases h3 with rfl|rfl<;>omega
 |imp d hp=>
  have f:=Dk.E4 1 d c.tys hb.g;have fs:=(Dk.Cw 1 d c.tys hb.g).1;have hf:(Dk.fm 1 d c.tys).1.size<=99:=l8
  obtain⟨y,ua,h1,rfl⟩:=OC hi;have:=(z1 hp (hb.Ah fs kn) hH).2 _ _ h1;rw[O7];omega
 |app hx hp hq=>
  have ax:=(z1 hp hb hH).2 _ _ hx;obtain⟨ub,h1⟩:=Sn hi;have:=(z1 hq ((hb.le (K:=399) kn).Ah (yd hx).1 ax) kn).2 _ _ h1;omega
 |all hk hs hp=>
  obtain⟨y,ua,h1,rfl⟩:=M4 hk hi;have:=(z1 hp (hb.below hs) hH).2 _ _ h1;rw[G0];omega
 | @at_ _ _ k s t p hk hs ht hp=>
   obtain⟨y,ua,h1,rfl⟩:=Rp hk hi;have ys:=(yd h1).1;have zy:=(z1 hp (hb.below hs) hH).2 _ _ h1;have zt:=IX ht hb.g hs;have st:=ht.shape hb.g hs;have z:=v7 0 t st y ys 0;have z':(y.put 0 t).size=y.size+zq 0 y*(t.size-1):=z;have hh:∀y∈(c.below [s]).hyps,zq 0 y<=0:=by
    intro y hy;obtain⟨z,hz,rfl⟩:=fO.1 hy;have h0:zq 0 (z.As 0 ([s].length:Nat))=0:=VR (hb.h z hz).1;omega
   rcases t1 hp (hc.below hs) hh h1 with hy|hy
   .have:zq 0 y*(t.size-1)<=36*23:=iD hy kn;omega
   .have h8:=MF 0 y;have:zq 0 y*(t.size-1)<=83*23:=iD kn kn;omega
 |ex hk ht=>exact up (.ex hk ht)
 | @wit _ _ k s t p x us hk hs hx ht hp=>
   have ax:=(z1 hp hb hH).2 _ _ hx;have zl':(x.As 0 1).size=x.size:=(vf (yd hx).1 1).2;rw[Ik kn hi,G0];omega
 | @opn _ _ k t q hk ht hq=>
   have sB:=Ho (ht.shape hb.g z8);have zt:=ht.z24 hb.g;have hc':=(hc.below z8).Ah sB.2 kn ((Pr ht hb.g).le kn);obtain⟨f,ub,y,h1,h2,rfl⟩:=LZ hk hi;have fs:=(yd h1).1;have zf:=(z1 hq hc'.b hH).2 _ _ h1;rcases x7 h2 with⟨h0,rfl⟩|⟨_,h3,rfl,h4⟩
   .rw[(Ln fs h0).1];omega
   .have:=(f1 hq hc' h1).Dv h3;have ns:=(Nb f h3 fs).2.1;rw[(Ln ns h4).1];omega
 |opn2 hk ht=>exact up (.opn2 hk ht)
 | @ind _ _ t p x us hx ht hp=>
   have ax:=(z1 hp hb hH).2 _ _ hx;rw[LX hi,w8 (yd hx).1];omega
 | @lst _ _ t p x us hx ht hp=>
   have ax:=(z1 hp hb hH).2 _ _ hx;rw[SO hi,w8 (yd hx).1];omega
 |zer ht=>exact up (.zer ht)
 |sub ht hu=>exact up (.sub ht hu)
 |cho hs ht=>exact up (.cho hs ht)
theorem aM(t:Tm):∀b,∀q∈t.vars b,b<=q.2/\q.2<=b+t.size:=by
 induction t using Tm.ind with
 |h t ih=>
  intro b q hq;have hz:=t.size_eq;rw[t.AY,fV] at hq;rcases hq with hq|hq
  .grind
  .obtain ⟨x,hx,hq⟩:=gh.1 hq;have h1:=ih x hx _ q hq;have h2:=zc Tm.size hx;have h3:b<=up t.kind b/\up t.kind b<=b+1:=nj
   omega
theorem Ycw(f:Fm):∀b,∀q∈f.A6 b,b<=q.2/\q.2<=b+f.size/\q.1.size<=f.size:=by
 induction f using Fm.ind with
 |h f ih=>
  intro b q hq;have hz:=f.size_eq;rw[f.A0,fV] at hq;rcases hq with hq|hq
  .obtain ⟨t,ht,rfl⟩:=fO.1 hq;have h2:=zc Tm.size ht
   grind
  .obtain ⟨x,hx,hq⟩:=gh.1 hq;have h1:=ih x hx _ q hq;have h2:=zc Fm.size hx;have h3:b<=A3 f.kind b/\A3 f.kind b<=b+1:=by unfold A3;omega
   omega
theorem cI{t s:Tm}(ht:t.shape=true)(hs:s.shape=true){a C:Int}(ha:0<=a)(h:∀q∈t.vars 0,0<=q.1/\q.1<C)(h2:∀q∈s.vars 0,0<=q.1/\q.1<C):
 (t.re (yq a s) 0).shape=true/\∀q∈(t.re (yq a s) 0).vars 0,0<=q.1/\q.1<C+a+t.size:=by
 have hsh:=Pn (at_:=a) 0 hs ht kn ha fun p hp=>by have:=aM t 0 p hp;omega
 refine⟨hsh,fun q hq=>⟨Tm.AR _ hsh 0 q hq,?_⟩⟩;rw[Mv _ _ _ ht] at hq;obtain⟨p,hp,hq⟩:=gh.1 hq;have hd:=aM t 0 p hp;have hb:=h p hp;unfold yq at hq;by_cases hc:p.1-p.2=a
 .rw[if_pos hc] at hq;obtain⟨q',hq',e⟩:=Rl (b':=0) q hq;have:=RA (fr:=0) (by_:=a+p.2) (C:=C-1) hs kn (fun r hr=>kr) q' hq';omega
 .rw[if_neg hc] at hq;simp only[Tm.vars,Tm.BV,if_true,gq,gp] at hq
  grind
theorem Yf5{f:Fm}{s:Tm}(hf:f.shape=true)(hs:s.shape=true){a C:Int}(ha:0<=a)(h:∀q∈f.A6 0,∀r∈q.1.vars 0,0<=r.1/\r.1<C)(h2:∀q∈s.vars 0,0<=q.1/\q.1<C):
 ∀q∈(f.put a s).A6 0,∀r∈q.1.vars 0,0<=r.1/\r.1<C+a+2*f.size:=by
 intro q hq r hr;rw[Fm.put,QO] at hq;obtain⟨p,hp,rfl⟩:=fO.1 hq;have hd:=Ycw f 0 p hp;have:=(cI (a:=a+p.2) (C:=C) (xj f hf 0 p hp) hs kn (h p hp) h2).2 r hr;omega
theorem Ysu{s:Tm}{C:Int}(hs:s.shape=true)(h2:∀q∈s.vars 0,0<=q.1/\q.1<C)(p:Pf):p.shape=true->p.small=true->p.ix C->∀v:Int,0<=v->v+2*p.size<=200000->(p.pt 0 s v).ix (C+250000):=by
 induction p using Pf.ind with
 |h p ih=>
  intro hp hm hix v hv hvz;obtain⟨s1,s2,s3⟩:=wq hm;obtain⟨_,s4,s5,s6⟩:=zh hp;obtain⟨i1,i2,i3⟩:=(Pf.Bl _ p).1 hix;have hz:=p.size_eq;have fv:0<=AN p.kind/\AN p.kind<=2:=by unfold AN;omega
  have b1:0<=Aw p.kind/\Aw p.kind<=2:=mA
  rw[Pf.Fa,Pf.Bl];simp only[Pf.Am,Pf.Au,Pf.Af];refine⟨fun t ht q hq=> ?_,fun f hf q hq r hr=> ?_,fun x hx=> ?_⟩
  .obtain ⟨u,hu,rfl⟩:=fO.1 ht;have:=(cI (a:=0+v) (s4 u hu) hs kn (i1 u hu) h2).2 q hq
   grind
  .obtain ⟨u,hu,rfl⟩:=fO.1 hf;have:=Yf5 (a:=0+(v+AN p.kind)) (s5 u hu) hs kn (i2 u hu) h2 q hq r hr
   grind
  .obtain ⟨m,hm2,rfl⟩:=gj hx;rw[K8] at hm2;rw[Nv _ _ _ _ _ _ hm2];have h3:=zc Pf.size (fA hm2)
   grind
theorem Yte{C f b:Int}(hb:0<=b)(p:Pf):p.hx C->∀y,(p.lh f b y).hx (C+b):=by
 induction p using Pf.ind with
 |h p ih=>
  intro h y;obtain⟨h1,h2⟩:=(Pf.Bj C p).1 h;rw[Pf.Gi];by_cases hk:p.kind=1
  .rw[if_pos hk];have:=h1 hk;exact Ws kn
  .rw[if_neg hk,Pf.Bj];simp only[Pf.Ai,Pf.AG,Pf.Af];refine⟨fun h=>absurd h hk,fun _ x hx=> ?_⟩;obtain⟨m,hm,rfl⟩:=gj hx;rw[O0] at hm;rw[SG _ _ _ _ _ _ hm]
   grind
theorem U8(C i:Int):(vd i).lx C:=by simp[Pf.lx,Pf.Mh]
theorem Yst{C f b:Int}(p:Pf):p.lx C->∀y,(p.lh f b y).lx C:=by
 induction p using Pf.ind with
 |h p ih=>
  intro h y;obtain⟨h1,h2⟩:=(Pf.BK C p).1 h;rw[Pf.Gi];by_cases hk:p.kind=1
  .rw[if_pos hk];exact U8 _ _
  .rw[if_neg hk,Pf.BK];simp only[Pf.Ai,Pf.AG,Pf.Af];refine⟨h1,fun x hx=> ?_⟩;obtain⟨m,hm,rfl⟩:=gj hx;rw[O0] at hm;rw[SG _ _ _ _ _ _ hm]
   grind
theorem Ytn{C fr n:Int}(p:Pf):p.lx C->∀v,(p.up fr n v).lx C:=by
 induction p using Pf.ind with
 |h p ih=>
  intro h v;obtain⟨h1,h2⟩:=(Pf.BK C p).1 h;rw[Pf.Fb,Pf.BK];simp only[Pf.Ai,Pf.AG,Pf.Af];refine⟨h1,fun x hx=> ?_⟩;obtain⟨m,hm,rfl⟩:=gj hx;rw[LB] at hm;rw[On _ _ _ _ _ _ hm]
  grind
structure Ib (C:Int) (p:Pf):Prop where
 ix:p.ix C
 hx:p.hx C
 lx:p.lx C
theorem Ib.mono{C C':Int}{p:Pf}(h:Ib C p)(hc:C<=C'):Ib C' p:=⟨KB h.ix hc,MW h.hx hc,Q7 h.lx hc⟩
theorem Ib.no{C:Int}:Ib C CB:=by
 constructor<;>simp[CB,Pf.ix,Pf.ixs,Pf.hx,Pf.hxs,Pf.lx,Pf.Mh]
theorem Ib.args{C:Int}{p:Pf}(hs:p.shape=true)(h:Ib C p):∀x∈p.args,Ib C x:=fun x hx=>by
 refine⟨((Pf.Bl C p).1 h.ix).2.2 x hx,((Pf.Bj C p).1 h.hx).2 (fun hk=> ?_) x hx,((Pf.BK C p).1 h.lx).2 x hx⟩;obtain⟨hh,_⟩:=zh hs;obtain⟨nd,n1,_,_,n4,_⟩:=GF hh;rw[hk] at n1;simp[B6] at n1
 grind
theorem Ib.arg{C:Int}{p:Pf}(hs:p.shape=true)(h:Ib C p)(i:Nat):Ib C (p.arg i):=by
 unfold Pf.arg;by_cases hi:i<p.args.length
 .rw[vg hi];exact h.args hs _ (fA hi)
 .rw[List.getD,iC kn];exact Ib.no
theorem Ib.terms{C:Int}{p:Pf}(h:Ib C p):∀t∈p.terms,∀q∈t.vars 0,0<=q.1/\q.1<C:=((Pf.Bl C p).1 h.ix).1
theorem Ib.put{C:Int}{p:Pf}{t:Tm}(h:Ib C p)(h2:∀q∈t.vars 0,0<=q.1/\q.1<C)(he:vh p 0 t=0):Ib (C+250000) (De p 0 t):=by
 obtain⟨e1,_,e2,_⟩:=Tn he;obtain⟨g1,g2,g3⟩:=(Pf.Aa p).1 e1;have e:De p 0 t=p.pt 0 t 0:=by unfold De;grind
 rw[e];exact⟨Ysu ((Tm.Aa t).1 e2).1 h2 p g1 g2 h.ix 0 kn kn,MW (Ys9 _ _ _ _ h.hx 0) kn,Q7 (Ysz _ _ _ _ h.lx 0) kn⟩
theorem dL{r:Pf}{C:Int}(he:r.err=0)(hr:Ib C r)(hC:C<=549755813888){v h:Int}(hv:0<=v/\v<=200000)(hh2:0<=h/\h<=200000):
 Pz (C+v) r.size (r.H9 v h)/\Ib (C+200000) (r.H9 v h):=by
 obtain⟨hs,hm,hz⟩:=(Pf.Aa r).1 he;have h1:=bA (fr:=0) (n:=v) (C:=C) hv.1 hs hm hr.ix 0;have hf:=Of _ h1.1;have h2:=h1.2.2.1;have hx:=dc C 0 v r hr.hx 0;unfold Pf.H9;rw[XL kn hs hm (KB hr.ix hC) 0];rw[ei kn (Lg _ h1.1) (MW hx hC) 0 kn];have:=cH (f:=0) (b:=h) hh2.1 h1.1 h1.2.1 h1.2.2.2 0;rw[h2] at this;exact⟨this,KB this.2.2.2 kn,MW (Yte hh2.1 _ hx 0) kn,Q7 (Yst _ (Ytn _ hr.lx 0) 0) kn⟩
theorem Ytl{r:Pf}{C:Int}(hR:∀(v h:Int),0<=v->v<=200000->0<=h->h<=200000->Ib (C+200000) (r.H9 v h))(p:Pf):
 p.shape=true->p.hx C->p.lx C->∀v y:Int,0<=v->0<=y->v+2*p.size<=200000->y+2*p.size<=200000->(Pf.ph 0 r v y p).hx (C+200000)/\(Pf.ph 0 r v y p).lx (C+200000):=by
 induction p using Pf.ind with
 |h p ih=>
  intro hs h h' v y hv hy hvz hyz;obtain⟨hh,_,_,s6⟩:=zh hs;obtain⟨h1,h2⟩:=(Pf.Bj C p).1 h;obtain⟨j1,j2⟩:=(Pf.BK C p).1 h';have hz:=p.size_eq;have b1:0<=Aw p.kind/\Aw p.kind<=2:=mA
  have b2:0<=AA p.kind/\AA p.kind<=1:=nv
  rw[Pf.Ht];by_cases hk:p.kind=1
  .rw[if_pos hk];have:=h1 hk;by_cases h0:p.index-y=0
   .rw[if_pos h0];have:=hR v (0+y) hv kn kn kn;exact⟨this.hx,this.lx⟩
   .rw[if_neg h0];split
    .exact ⟨Ws kn,U8 _ _⟩
    .exact ⟨Ws kn,U8 _ _⟩
  .rw[if_neg hk,Pf.Bj,Pf.BK];simp only[Pf.Ai,Pf.AG,Pf.Af];have key:∀x∈Pf.EO 0 r v y (Aw p.kind) (AA p.kind) p.args,x.hx (C+200000)/\x.lx (C+200000):=fun x hx=>by
    obtain⟨m,hm,rfl⟩:=gj hx;rw[Pj] at hm;rw[UH _ _ _ _ _ _ _ _ hm];have h3:=zc Pf.size (fA hm)
    grind
   grind
theorem Ib.ON{C:Int}{p q:Pf}(h:Ib C p)(h2:Ib C q)(h0:0<=C)(hC:C<=549755813888)(he:D8 p 0 q=0):Ib (C+200000) (Ff p 0 q):=by
 obtain⟨e1,_,e3,_⟩:=TL he;obtain⟨g1,g2,g3⟩:=(Pf.Aa p).1 e1;have e:Ff p 0 q=Pf.ph 0 q 0 0 p:=by unfold Ff;grind
 rw[e];have hp:=Ye (p:=p) (r:=q) (C:=C) (fun v h q1 q2 q3 q4=>by
  obtain⟨w1,w2⟩:=dL e3 h2 hC ⟨q1,q2⟩ ⟨q3,q4⟩;exact⟨w1.1,w1.2.1,w1.2.2.1,KB w1.2.2.2 kn⟩) h0 g1 g2 h.ix 0 0 kn kn kn kn
 have hl:=Ytl (r:=q) (C:=C) (fun v h q1 q2 q3 q4=>(dL e3 h2 hC ⟨q1,q2⟩ ⟨q3,q4⟩).2) p g1 h.hx h.lx 0 0 kn kn kn kn;exact⟨hp.2.2.2,hl.1,hl.2⟩
theorem W4{C:Int}{q:Pf}{t:Tm}{p:Pf}(h:Ib C q)(h2:∀r∈t.vars 0,0<=r.1/\r.1<C)(hp:Ib C p)(h0:0<=C)(hC:C<=500000000000)(he:(un q t p).2=0):Ib (C+450000) (un q t p).1:=by
 unfold un at he ⊢;by_cases h1:vh q 0 t≠0
 .grind
 rw[if_neg h1] at he ⊢;have:=(h.put h2 (fC.1 h1)).ON (hp.mono kn) kn kn he
 grind
theorem dV{C:Int}{p:Pf}{t:Tm}(hk:p.kind≠1)(h:Ib C p)(h2:∀r∈t.vars 0,0<=r.1/\r.1<C):Ib C (vt p t):=by
 obtain⟨i1,i2,i3⟩:=(Pf.Bl _ p).1 h.ix;obtain⟨j1,j2⟩:=(Pf.Bj _ p).1 h.hx;obtain⟨k1,k2⟩:=(Pf.BK _ p).1 h.lx;unfold vt;refine⟨(Pf.Bl _ _).2 ⟨fun u hu=> ?_,i2,i3⟩,(Pf.Bj _ _).2 ⟨j1,j2⟩,(Pf.BK _ _).2 ⟨k1,k2⟩⟩;simp only[Pf.Am,gp] at hu
 grind
theorem Yl{C:Int}{p:Pf}(h:Ib C p):∀q∈p.Cb.vars 0,0<=q.1/\q.1<C:=by
 unfold Pf.Cb;by_cases hi:0<p.terms.length
 .rw[vg hi];exact h.terms _ (fA hi)
 .rw[List.getD,iC kn];intro q hq;simp[AB,Tm.vars,Tm.BV] at hq
theorem Pt{C:Int}{t:Tm}(h:∀q∈t.vars 0,0<=q.1/\q.1<C)(i:Nat):∀q∈(t.args.getD i AB).vars 0,0<=q.1/\q.1<C:=by
 by_cases hi:i<t.args.length
 .rw[vg hi];intro q hq;obtain⟨q',h1,h2⟩:=Rl (b':=up t.kind 0) q hq;rw[<-h2];exact h q' (by rw[Tm.AY];grind)
 .rw[List.getD,iC kn];intro q hq;simp[AB,Tm.vars,Tm.BV] at hq
theorem Yfs{C:Int}{t:Tm}(h0:0<=C)(h:∀q∈t.vars 0,0<=q.1/\q.1<C):∀q∈(EY t).vars 0,0<=q.1/\q.1<C+1:=by
 unfold EY;split
 .next he=>
  have hs:t.err=0:=gG fun hc=>by unfold wm at he;omega
  have hsh:=((Tm.Aa t).1 hs).1;intro q hq;exact⟨Tm.AR _ (y6 0 hsh kn) 0 q hq,by have:=RA (C:=C-1) hsh kn (fun r hr=>kr) q hq;omega⟩
 .intro q hq;simp[AB,Tm.vars,Tm.BV] at hq
theorem Zzj{C:Int}{p:Pf}(hs:p.shape=true)(h:Ib C p)(h0:0<=C)(hC:C<=100000000000)(he:(z7 p).2=0):Ib (C+1000000) (z7 p).1:=by
 have a0:=h.arg hs 0;have a1:=h.arg hs 1;have s0:(p.arg 0).shape=true\/p.arg 0=CB:=by
  unfold Pf.arg;by_cases hi:0<p.args.length
  .rw[vg hi];exact .inl ((zh hs).2.2.2 _ (fA hi))
  grind
 have aa:∀i,Ib C ((p.arg 0).arg i):=fun i=>by
  rcases s0 with h|h
  .exact a0.arg h i
  .rw[h];have:CB.arg i=CB:=kz
   grind
 have ht:=Yl h;have ht0:=Yl a0;have h16:∀k:Int,(yl p).1=k->p.kind=k:=fun k e=>by rw[<-Ov];exact e
 unfold z7 at he ⊢;by_cases c1:yl p=(4,3)
 .rw[if_pos c1];exact(aa 0).mono kn
 rw[if_neg c1] at he ⊢;by_cases c2:yl p=(5,3)
 .rw[if_pos c2];exact(aa 1).mono kn
 rw[if_neg c2] at he ⊢;by_cases c3:yl p=(7,6)
 .rw[if_pos c3] at he ⊢;exact((aa 0).ON a1 h0 kn he).mono kn
 rw[if_neg c3] at he ⊢;by_cases c4:yl p=(9,8)\/yl p=(13,12)
 .rw[if_pos c4] at he ⊢;exact((aa 0).put ht he).mono kn
 rw[if_neg c4] at he ⊢;by_cases c5:yl p=(11,10)\/yl p=(15,14)
 .rw[if_pos c5] at he ⊢;exact(W4 a1 ht0 (aa 0) h0 kn he).mono kn
 rw[if_neg c5] at he ⊢;by_cases c6:yl p=(16,5)
 .rw[if_pos c6] at he ⊢;have hk:=h16 16 (by rw[c6]);exact(W4 a1 (Pt ht 0) (dV kn h (Pt ht 0)) h0 kn he).mono kn
 rw[if_neg c6] at he ⊢;by_cases c7:yl p=(17,8)
 .rw[if_pos c7] at he ⊢;have hk:=h16 17 (by rw[c7]);unfold Ip at he ⊢;by_cases d1:wm (p.Cb.args.getD 1 AB) 0 1≠0
  .grind
  rw[if_neg d1] at he ⊢;by_cases d2:vh (p.arg 1) 0 (EY (p.Cb.args.getD 1 AB))≠0
  .grind
  rw[if_neg d2] at he ⊢;have w:=Yfs h0 (Pt ht 1);have e:=(a1.mono (C':=C+1) kn).put w (fC.1 d2);exact(W4 e (fun q hq=>by have:=Pt ht 0 q hq;omega) ((dV kn h (Pt ht 1)).mono kn) kn kn he).mono kn
 rw[if_neg c7];exact a0.mono kn
theorem Yt1{C:Int}(h0:0<=C)(hC:C<=100000000000)(p:Pf):p.shape=true->Ib C p->p.nx.2.2=0->Ib (C+1000000) p.nx.1:=by
 induction p using Pf.ind with
 |h p ih=>
  intro hs h he;rw[Pf.DC] at he ⊢;by_cases hr:Gn p=true
  .rw[if_pos hr] at he ⊢;exact Zzj hs h h0 hC he
  rw[if_neg hr] at he ⊢;simp only at he ⊢;have key:∀l:List Pf,(∀x∈l,x∈p.args)->(Pf.CY l).2.2=0->∀y∈(Pf.CY l).1,Ib (C+1000000) y:=by
   intro l;induction l with
   |nil=>intro _ _ y hy;simp[Pf.CY] at hy
   |cons x l ihl=>
    intro hx he y hy;have h1:=h.args hs;have hxm:=hx x ko;simp only[Pf.CY] at he hy;by_cases hc:x.nx.2.1=true\/x.nx.2.2≠0
    .rw[if_pos hc] at he hy;simp only at he hy;rcases fW.1 hy with rfl|hy
     .exact ih x hxm ((zh hs).2.2.2 x hxm) (h1 x hxm) he
     .exact (h1 y (hx y kr)).mono kn
    .rw[if_neg hc] at he hy;simp only at he hy;rcases fW.1 hy with rfl|hy
     .exact (h1 y hxm).mono kn
     grind
  have k:=key p.args (fun _ h=>h) he;have hm:=h.mono (C':=C+1000000) kn;obtain⟨i1,i2,i3⟩:=(Pf.Bl _ p).1 hm.ix;obtain⟨j1,j2⟩:=(Pf.Bj _ p).1 hm.hx;obtain⟨k1,k2⟩:=(Pf.BK _ p).1 hm.lx;exact⟨(Pf.Bl _ _).2 ⟨i1,i2,fun x hx=>(k x hx).ix⟩,(Pf.Bj _ _).2 ⟨j1,fun _ x hx=>(k x hx).hx⟩,(Pf.BK _ _).2 ⟨k1,fun x hx=>(k x hx).lx⟩⟩
theorem Yk9{C:Int}{p:Pf}(h0:0<=C)(hC:C<=100000000000)(he:p.err=0)(h:Ib C p)(hs:(xv p).2.2=0):Ib (C+1000000) (xv p).1:=by
 obtain⟨e1,e2,e3,e4⟩:=Qz hs;rw[e2];exact Yt1 h0 hC p ((Pf.Aa p).1 he).1 h e1
theorem Ygu(p:Pf):p.ix 500000000->∀v,(p.Ee (fun(_:Int) (t:Tm)=>t.near) (fun(_:Int) (f:Fm)=>f.near) v).all id=true:=by
 induction p using Pf.ind with
 |h p ih=>
  intro hix v;obtain⟨i1,i2,i3⟩:=(Pf.Bl _ p).1 hix;rw[Pf.CM,gC,gC,fD,fD];refine⟨⟨fF.2 fun b hb=> ?_,fF.2 fun b hb=> ?_⟩,fF.2 fun b hb=> ?_⟩
  .exact rT
  .obtain ⟨f,hf,rfl⟩:=fO.1 hb;exact fF.2 fun q hq=>fF.2 fun r hr=>kr
  .exact qx
theorem br(p:Pf):p.shape=true->Ib 500000000 p->∀y,(p.DM DO y).all id=true/\(p.DM Eb y).all id=true:=by
 induction p using Pf.ind with
 |h p ih=>
  intro hs h y;obtain⟨i1,_⟩:=(Pf.Bj _ p).1 h.hx;obtain⟨j1,_⟩:=(Pf.BK _ p).1 h.lx;have ha:=h.args hs;have hsa:=(zh hs).2.2.2;rw[Pf.CC,Pf.CC,gC,gC,fD,fD];refine⟨⟨fF.2 fun b hb=> ?_,fF.2 fun b hb=> ?_⟩,fF.2 fun b hb=> ?_,fF.2 fun b hb=> ?_⟩
  .unfold DO at hb
   grind
  .exact rR
  .unfold Eb at hb
   grind
  .exact rR
theorem Ib.near{p:Pf}(hs:p.shape=true)(h:Ib 500000000 p):p.Da=true:=by
 unfold Pf.Da;rw[show p.Br=true from Ygu p h.ix 0,show p.Bu=true from(br p hs h 0).1,gC,(br p hs h 0).2]
 rfl
def C7(c:Ck)(i:Int):Fm:=c.hyps.getD (c.hyps.length-1-i.toNat) AK
section
variable {σ:Int->Tm} {W:Us} {c0 c0' c c':Ck} {v y:Nat} {X f:Fm} {U:Us} {t:Tm} {s:Ty}
theorem Yt3{f:Fm}(hs:f.shape=true):f.As 0 0=f:=Fm.Cc f 0 fun p hp=>Cc _ 0 (xj f hs 0 p hp) fun q _=>by rw[z5];simp
theorem Xt.hyps(B:C2 σ c0 c0')(h:Xt σ c0 c0' v y c c'):∃bs:List Fm,bs.length=y/\c.hyps=c0.hyps.map (fun f=>f.As 0 v)++bs/\c'.hyps=c0'.hyps.map (fun f=>f.As 0 v)++bs.map (Fm.sb σ v):=by
 induction h with
 |base=>
  have key:∀l:List Fm,(∀f∈l,f.shape=true)->l.map (fun f=>f.As 0 ((0:Nat):Int))=l:=fun l hl=>by
   have:l.map (fun f=>f.As 0 ((0:Nat):Int))=l.map id:=fY fun f hf=>Yt3 (hl f hf);simp_all
  exact⟨[],rfl,by rw[key _ B.sh0];simp,by rw[key _ B.aK];simp⟩
 |blw l h hl ih=>
  rename_i v y c c';obtain⟨bs,h1,h2,h3⟩:=ih;refine⟨bs.map fun f=>f.As 0 l.length,kr,?_,?_⟩
  .simp only[Ck.below,h2,iE,gK];congr 1;refine fY fun f _=> ?_;simp only[Function.comp];rw[YT _ _ _ _ kn];rfl
  .simp only[Ck.below,h3,iE,gK];congr 1
   .refine fY fun f _=> ?_;simp only[Function.comp];rw[YT _ _ _ _ kn];rfl
   .refine fY fun f _=> ?_;simp only[Function.comp];have e:=Mn σ f (v:=v) (n:=l.length) (a:=0) kn kn kq
    grind
 |Ah f h hf ih=>
  obtain⟨bs,h1,h2,h3⟩:=ih;exact⟨bs++[f],kr,by simp[Ck.Ah,h2],by simp[Ck.Ah,h3]⟩
theorem Ynz{l bs:List Fm}{i:Int}(h0:bs.length<=i)(hi:i<(l++bs).length):(l++bs).getD ((l++bs).length-1-i.toNat) AK=l.getD (l.length-1-(i-bs.length).toNat) AK:=by
 grind
theorem Yru{l:List Fm}{i:Int}{g:Fm->Fm}(h0:0<=i)(hi:i<l.length):(l.map g).getD ((l.map g).length-1-i.toNat) AK=g (l.getD (l.length-1-i.toNat) AK):=by
 grind
theorem Xt.len(B:C2 σ c0 c0')(h:Xt σ c0 c0' v y c c'):c.hyps.length=c0.hyps.length+y/\c'.hyps.length=c0'.hyps.length+y:=by
 obtain⟨bs,h1,h2,h3⟩:=h.hyps B
 grind
theorem Xt.bound(B:C2 σ c0 c0')(h:Xt σ c0 c0' v y c c'){i:Int}(h0:0<=i)(hi:i<y):C7 c' i=(C7 c i).sb σ v:=by
 obtain⟨bs,h1,h2,h3⟩:=h.hyps B;unfold C7
 grind
theorem Xt.free(B:C2 σ c0 c0')(h:Xt σ c0 c0' v y c c'){i:Int}(hi:(y:Int)<=i)(hl:i<c.hyps.length):C7 c i=(C7 c0 (i-y)).As 0 v:=by
 obtain⟨bs,h1,h2,h3⟩:=h.hyps B;have:=(h.len B).1;unfold C7
 grind
theorem Xt.free'(B:C2 σ c0 c0')(h:Xt σ c0 c0' v y c c'){i:Int}(hi:(y:Int)<=i)(hl:i<c'.hyps.length):C7 c' i=(C7 c0' (i-y)).As 0 v:=by
 obtain⟨bs,h1,h2,h3⟩:=h.hyps B;have:=(h.len B).2;unfold C7
 grind
theorem HY{α β:Type}{F:α->β}{l:List α}{d:α}{d':β}(h:l.length=1):(l.map F).getD 0 d'=F (l.getD 0 d):=by
 grind
theorem dx(B:C2 σ c0 c0')(p:Pf)(hs:p.shape=true)(hk:p.kind≠1){ts:List Tm}{fs:List Fm}{ds:List Dr}(hts:ts=p.terms.map (Tm.re (z6 σ) v))(hfs:fs=p.Ae.map (Fm.sb σ (v+AN p.kind)))
 (hds:∀m (h:m<p.args.length),DS σ W c0 c0' (if m+1=p.args.length then v+(Aw p.kind).toNat else v) (if m+1=p.args.length then y+(AA p.kind).toNat else y) (Bc p.args[m]) (ds.getD m nD)):
 DS σ W c0 c0' v y (Bc p) (ut p.kind p.index p.ty ts fs ds):=by
 intro c c' X U E h;rw[vy] at h;obtain⟨s1,s2,s3,s4⟩:=zh hs;obtain⟨nd,n1,n2,n3,n4,hi,hty,hk1,hk2⟩:=GF s1;have e0:∀m (h:m<p.args.length),(p.args.map Bc).getD m nD=Bc p.args[m]:=fun m h=>kr
 have hk:p.kind=2\/p.kind=3\/p.kind=4\/p.kind=5\/p.kind=6\/p.kind=7\/p.kind=8\/p.kind=9\/p.kind=10\/p.kind=11\/p.kind=12\/p.kind=13\/p.kind=14\/p.kind=15\/p.kind=16\/p.kind=17\/p.kind=18\/p.kind=19\/p.kind=20:=kn
 have hx:∀m (h:m<p.args.length),Mi (Bc p.args[m]):=fun m h c X U=>IC;subst hts hfs;unfold ut at h ⊢;generalize p.index=i at*;rcases hk with e|e|e|e|e|e|e|e|e|e|e|e|e|e|e|e|e|e|e<;>rw[e] at n1 h hds ⊢<;>simp only[B6] at n1<;>(try(simp at n1))<;>(try subst n1)<;>simp only[reduceIte,Int.reduceEq,or_false,or_true] at h ⊢<;>simp only at n2 n3 n4
 .exact Yj8 B i c c' X U E h
 .rw[e0 0 kn,e0 1 kn] at h;have a:=hds 0 kn;have b:=hds 1 kn;rw[if_neg kn,if_neg kn] at a;rw[if_pos kn,if_pos kn] at b;exact Ynv B a b c c' X U E h
 .exact r7
 .exact r7
 .rw[e0 0 kn] at h;have a:=hds 0 kn;rw[if_pos kn,if_pos kn] at a;rw[HY (d:=AK) n3,show(v:Int)+AN 6=v by rfl];exact Yh8 B a c c' X U E h
 .rw[e0 0 kn,e0 1 kn] at h;have a:=hds 0 kn;have b:=hds 1 kn;rw[if_neg kn,if_neg kn] at a;rw[if_pos kn,if_pos kn] at b;exact Yi1 B a b c c' X U E h
 .exact r8
 .exact rM
 .rw[e0 0 kn] at h;have a:=hds 0 kn;rw[if_pos kn,if_pos kn] at a;rw[HY (d:=AB) n2,HY (d:=AK) n3,show(v:Int)+AN 10=v by rfl];exact aQ B a c c' X U E h
 .exact qT
 .exact r8
 .exact rM
 .rw[e0 0 kn] at h;have a:=hds 0 kn;rw[if_pos kn,if_pos kn] at a;rw[HY (d:=AB) n2,HY (d:=AK) n3,show(v:Int)+AN 14=v by rfl];exact aQ B a c c' X U E h
 .exact qT
 .rw[e0 0 kn,e0 1 kn] at h;have a:=hds 0 kn;have b:=hds 1 kn;rw[if_neg kn,if_neg kn] at a;rw[if_pos kn,if_pos kn] at b;rw[HY (d:=AB) n2,HY (d:=AK) n3,show(v:Int)+AN 16=v+1 by rfl];exact Ymu B a b c c' X U E h
 .rw[e0 0 kn,e0 1 kn] at h;have a:=hds 0 kn;have b:=hds 1 kn;rw[if_neg kn,if_neg kn] at a;rw[if_pos kn,if_pos kn] at b;rw[HY (d:=AB) n2,HY (d:=AK) n3,show(v:Int)+AN 17=v+1 by rfl];exact Yiu B a b c c' X U E h
 .rw[HY (d:=AB) n2];exact Yhh B c c' X U E h
 .rw[e0 0 kn,e0 1 kn] at h;have a:=hds 0 kn;have b:=hds 1 kn;rw[if_neg kn,if_neg kn] at a;rw[if_pos kn,if_pos kn] at b;rw[HY (d:=AK) n3,show(v:Int)+AN 19=v+1 by rfl];exact Yah B a b c c' X U E h
 .rw[e0 0 kn] at h;have a:=hds 0 kn;rw[if_pos kn,if_pos kn] at a;exact Zyk B a c c' X U E h
end
theorem XY{p:Pf}(hs:p.shape=true)(hk:p.kind=1):p=vd p.index:=by
 have h0:=XR hs hk;obtain⟨k,i,s,ts,fs,zs⟩:=p;obtain rfl:k=1:=hk;obtain rfl:zs=[]:=h0;rw[Pf.Ak] at hs;simp only[Pf.head,Pf.Ai,Pf.Af,Pf.Am,Pf.Au,Pf.AO,Pf.AG,B6,fD,beq_iff_eq] at hs;obtain⟨k,l⟩:=s;simp[Ty.Bv] at hs;simp[vd,hs]
section
variable {σ:Int->Tm} {W:Us} {c0 c0' c c':Ck} {v y:Nat} {X f:Fm} {U:Us} {t:Tm} {s:Ty}
theorem MJ{i:Int}(c:Ck)(X:Fm)(U:Us):Bc (vd i) c X U↔IJ i c X U:=by
 rw[vy];have e:ut (vd i).kind (vd i).index (vd i).ty (vd i).terms (vd i).Ae ((vd i).args.map Bc)=IJ i:=by unfold ut vd;simp
 rw[e]
theorem To{i:Int}(h:IJ i c X U):0<=i/\i<c.hyps.length/\fin c (C7 c i) FG X U:=h
theorem Vb(B:C2 σ c0 c0')(hh:c0'.hyps=c0.hyps.map (Fm.sb σ 0))(F:Int->Pf->Pf)
 (hF:∀(v:Nat) (p:Pf),p.shape=true->(F v p).kind=p.kind/\(F v p).index=p.index/\(F v p).ty=p.ty/\(F v p).terms=p.terms.map (Tm.re (z6 σ) v)/\(F v p).Ae=p.Ae.map (Fm.sb σ (v+AN p.kind))/\(F v p).args.length=p.args.length/\
  ∀m (h:m<p.args.length) (h':m<(F v p).args.length),(F v p).args[m]=F (if m+1=p.args.length then v+Aw p.kind else v) p.args[m]) (p:Pf):
 p.shape=true->∀(v y:Nat),DS σ W c0 c0' v y (Bc p) (Bc (F v p)):=by
 induction p using Pf.ind with
 |h p ih=>
  intro hs v y;obtain⟨f1,f2,f3,f4,f5,f6,f7⟩:=hF v p hs;by_cases hk:p.kind=1
  .intro c c' X U E h;have e:=XY hs hk;have e':F v p=vd p.index:=by
    have a0:=XR hs hk;have t0:p.terms=[]:=kH
    have g0:p.Ae=[]:=kH
    have y0:p.ty= .mk 0 []:=kH
    generalize F v p=q at*;obtain⟨k,i,s,ts,fs,zs⟩:=q;simp only[Pf.Ai,Pf.AG,Pf.AO,Pf.Am,Pf.Au,Pf.Af] at f1 f2 f3 f4 f5 f6;rw[t0] at f4;rw[g0] at f5;rw[a0] at f6;rw[y0] at f3;rw[f1,f2,f3,f4,f5,fX f6,hk];rfl
   rw[e'];rw[e,MJ] at h;rw[MJ];obtain⟨h0,hl,hf⟩:=To h;have ll:=E.len B;have lh:c0'.hyps.length=c0.hyps.length:=by rw[hh];simp
   have hf':=(fin.Dz (W:=W) B E hf).mono (V':=FG) fun _ h=>h.elim;refine⟨h0,kn,?_⟩;show fin c' (C7 c' p.index) FG _ _;have key:C7 c' p.index=(C7 c p.index).sb σ v:=by
    by_cases hy:p.index<y
    .exact E.bound B h0 hy
    .rw[E.free B kn hl,E.free' B kn kn];have e1:C7 c0' (p.index-y)=(C7 c0 (p.index-y)).sb σ 0:=by
      unfold C7;rw[hh,Yru kn kn]
     have e2:=Mn σ (C7 c0 (p.index-y)) (v:=0) (n:=v) (a:=0) kq kn kq;rw[show(0:Int)+v+0=v by omega,show(0:Int)+0=0 by decide] at e2;rw[e1,e2]
   rw[key];exact hf'
  .have hd:(fun c=>Bc (F v p) c)=ut p.kind p.index p.ty (F v p).terms (F v p).Ae ((F v p).args.map Bc):=by
    funext c;rw[vy,f1,f2,f3]
   have:=dx (W:=W) (v:=v) (y:=y) B p hs hk (ts:=(F v p).terms) (fs:=(F v p).Ae) (ds:=(F v p).args.map Bc) f4 f5 fun m h=>by
    have h':m<(F v p).args.length:=kn
    have e:((F v p).args.map Bc).getD m nD=Bc (F v p).args[m]:=by simp[List.getD,h']
    rw[e,f7 m h h'];have b:0<=Aw p.kind:=kT
    have:=ih p.args[m] (fA h) ((zh hs).2.2.2 _ (fA h)) (if m+1=p.args.length then v+(Aw p.kind).toNat else v) (if m+1=p.args.length then y+(AA p.kind).toNat else y);have e2:(((if m+1=p.args.length then v+(Aw p.kind).toNat else v:Nat)):Int)=if m+1=p.args.length then v+Aw p.kind else v:=kJ
    rw[<-e2];exact this
   rw[<-hd] at this;exact this
theorem bH(B:C2 vT c0 c0')(F:Int->Int->Pf->Pf)
 (hF:∀(v y:Nat) (p:Pf),p.shape=true->p.kind≠1->(F v y p).kind=p.kind/\(F v y p).index=p.index/\(F v y p).ty=p.ty/\(F v y p).terms=p.terms/\(F v y p).Ae=p.Ae/\(F v y p).args.length=p.args.length/\
  ∀m (h:m<p.args.length) (h':m<(F v y p).args.length),(F v y p).args[m]=F (if m+1=p.args.length then v+Aw p.kind else v) (if m+1=p.args.length then y+AA p.kind else y) p.args[m])
 (hL:∀(v y:Nat) (i:Int),DS vT W c0 c0' v y (IJ i) (Bc (F v y (vd i)))) (p:Pf):
 p.shape=true->∀(v y:Nat),DS vT W c0 c0' v y (Bc p) (Bc (F v y p)):=by
 induction p using Pf.ind with
 |h p ih=>
  intro hs v y;by_cases hk:p.kind=1
  .intro c c' X U E h;have e:=XY hs hk;rw[e] at h ⊢;exact hL v y _ c c' X U E ((MJ _ _ _).1 h)
  .obtain ⟨f1,f2,f3,f4,f5,f6,f7⟩:=hF v y p hs hk;obtain⟨_,s2,s3,s4⟩:=zh hs;have hd:(fun c=>Bc (F v y p) c)=ut p.kind p.index p.ty (F v y p).terms (F v y p).Ae ((F v y p).args.map Bc):=by
    funext c;rw[vy,f1,f2,f3]
   have b3:0<=AN p.kind:=kW
   have t4:(F v y p).terms=p.terms.map (Tm.re (z6 vT) v):=by
    rw[f4];have:p.terms.map (Tm.re (z6 vT) v)=p.terms.map id:=fY fun t ht=>Yt7 (s2 t ht) kn;rw[this,jL]
   have t5:(F v y p).Ae=p.Ae.map (Fm.sb vT (v+AN p.kind)):=by
    rw[f5];have:p.Ae.map (Fm.sb vT (v+AN p.kind))=p.Ae.map id:=fY fun t ht=>NQ (s3 t ht) kn;rw[this,jL]
   have:=dx (W:=W) (v:=v) (y:=y) B p hs hk (ds:=(F v y p).args.map Bc) t4 t5 fun m h=>by
    have h':m<(F v y p).args.length:=kn
    have e:((F v y p).args.map Bc).getD m nD=Bc (F v y p).args[m]:=by simp[List.getD,h']
    rw[e,f7 m h h'];have b:0<=Aw p.kind:=kT
    have b':0<=AA p.kind:=kX
    have:=ih p.args[m] (fA h) (s4 _ (fA h)) (if m+1=p.args.length then v+(Aw p.kind).toNat else v) (if m+1=p.args.length then y+(AA p.kind).toNat else y);have e2:(((if m+1=p.args.length then v+(Aw p.kind).toNat else v:Nat)):Int)=if m+1=p.args.length then v+Aw p.kind else v:=kJ
    have e3:(((if m+1=p.args.length then y+(AA p.kind).toNat else y:Nat)):Int)=if m+1=p.args.length then y+AA p.kind else y:=kJ
    rw[<-e2,<-e3];exact this
   rw[<-hd] at this;exact this
theorem Ydt(n:Int)(hn:0<=n)(v:Nat)(p:Pf)(hs:p.shape=true):(p.up 0 n v).kind=p.kind/\(p.up 0 n v).index=p.index/\(p.up 0 n v).ty=p.ty/\(p.up 0 n v).terms=p.terms.map (Tm.re (z6 (Gg n)) v)/\(p.up 0 n v).Ae=p.Ae.map (Fm.sb (Gg n) (v+AN p.kind))/\(p.up 0 n v).args.length=p.args.length/\
 ∀m (h:m<p.args.length) (h':m<(p.up 0 n v).args.length),(p.up 0 n v).args[m]=p.args[m].up 0 n (if m+1=p.args.length then v+Aw p.kind else v):=by
 have e:=p.Fb 0 n v;have b3:0<=AN p.kind:=kW
 have ea:(p.up 0 n v).args=Pf.Gv 0 n v (Aw p.kind) p.args:=kH
 refine⟨kH,kH,kH,?_,?_,by rw[ea,LB],fun m h h'=> ?_⟩
 .rw[e];exact fY fun t _=>by rw[gL];exact U6 n t kn hn
 .rw[e];exact fY fun f _=>by rw[gL];exact Ml f kn hn
 .simp only[ea];exact On _ _ _ _ _ _ h _
theorem Xk(a:Tm)(v:Nat)(p:Pf)(hs:p.shape=true):(p.pt 0 a v).kind=p.kind/\(p.pt 0 a v).index=p.index/\(p.pt 0 a v).ty=p.ty/\(p.pt 0 a v).terms=p.terms.map (Tm.re (z6 (Cs a)) v)/\(p.pt 0 a v).Ae=p.Ae.map (Fm.sb (Cs a) (v+AN p.kind))/\(p.pt 0 a v).args.length=p.args.length/\
 ∀m (h:m<p.args.length) (h':m<(p.pt 0 a v).args.length),(p.pt 0 a v).args[m]=p.args[m].pt 0 a (if m+1=p.args.length then v+Aw p.kind else v):=by
 have e:=p.Fa 0 a v;have b3:0<=AN p.kind:=kW
 have ea:(p.pt 0 a v).args=Pf.pts 0 a v (Aw p.kind) p.args:=kH
 refine⟨kH,kH,kH,?_,?_,by rw[ea,K8],fun m h h'=> ?_⟩
 .rw[e];exact fY fun t _=>by rw[gL];exact Ya a t kn
 .rw[e];exact fY fun f _=>by rw[gL];exact u6 f a kn
 .simp only[ea];exact Nv _ _ _ _ _ _ h _
theorem Yas(b:Int)(v y:Nat)(p:Pf)(hs:p.shape=true)(hk:p.kind≠1):(p.lh 0 b y).kind=p.kind/\(p.lh 0 b y).index=p.index/\(p.lh 0 b y).ty=p.ty/\(p.lh 0 b y).terms=p.terms/\(p.lh 0 b y).Ae=p.Ae/\(p.lh 0 b y).args.length=p.args.length/\
 ∀m (h:m<p.args.length) (h':m<(p.lh 0 b y).args.length),(p.lh 0 b y).args[m]=p.args[m].lh 0 b (if m+1=p.args.length then y+AA p.kind else y):=by
 have e:=p.Gi 0 b y;rw[if_neg hk] at e;have ea:(p.lh 0 b y).args=Pf.lhs 0 b y (AA p.kind) p.args:=kH
 refine⟨kH,kH,kH,kH,kH,by rw[ea,O0],fun m h h'=> ?_⟩;simp only[ea];exact SG _ _ _ _ _ _ h _
end
structure OH (c:Ck):Prop where
 h:∀f∈c.hyps,f.shape=true
 l:∀f∈c.lems,f.shape=true/\f.A9 []
theorem Ck.ok.oh{c:Ck}(h:c.ok):OH c:=⟨fun f hf=>((Fm.Aa f).1 (h.hyps f hf).1).1,fun f hf=>⟨((Fm.Aa f).1 (h.lems f hf).1).1,(h.lems f hf).2⟩⟩
theorem OH.below{c:Ck}(h:OH c)(l:List Ty):OH (c.below l):=⟨fun f hf=>by
 obtain⟨g,hg,rfl⟩:=fO.1 hf;exact(yt (h.h g hg) kn).1,h.l⟩
theorem OH.Ah{c:Ck}(h:OH c){f:Fm}(hf:f.shape=true):OH (c.Ah f):=⟨fun g hg=>by
 rcases fV.1 hg with hg|hg
 .exact h.h g hg
 grind,h.l⟩
section
variable {σ:Int->Tm} {W:Us} {c0 c0' c c':Ck} {v y:Nat} {X f:Fm} {U:Us} {t:Tm} {s:Ty}
theorem Yfd{n:Nat}(p:Pf):p.shape=true->∀v:Int,(p.up 0 n v).shape=true:=by
 induction p using Pf.ind with
 |h p ih=>
  intro hs v;obtain⟨_,s4,s5,s6⟩:=zh hs;rw[Pf.Fb];refine R2 hs ko ko (LB _ _ _ _ _) (fun t ht=> ?_) (fun f hf=> ?_) fun x hx=> ?_
  .obtain ⟨u,hu,rfl⟩:=fO.1 ht;exact y6 0 (s4 u hu) kn
  .obtain ⟨g,hg,rfl⟩:=fO.1 hf;exact(yt (s5 g hg) kn).1
  .obtain ⟨m,hm,rfl⟩:=gj hx;rw[LB] at hm;rw[On _ _ _ _ _ _ hm]
   grind
theorem Y0(g m:List Ty):Nj g (g++m) (Gg m.length):=fun j hj=>by
 refine⟨Jx _ kn,fun hl=> ?_⟩;simp only[Gg];rw[xe _ _ kn,xe _ _ hj];simp only[ga];rw[if_neg kn,if_neg kn,uu kn kr]
 grind
theorem XM(g:List Ty):Nj g g vT:=fun j hj=>⟨Jx _ hj,fun _=>rfl⟩
theorem Sy{g:List Ty}{s:Ty}{t:Tm}(ht:t.shape=true)(hi:t.inf g=(s,0)):Nj (g++[s]) g (Cs t):=fun j hj=>by
 simp only[Cs];by_cases h:j=0
 .subst h;rw[if_pos rfl];exact⟨ht,fun _=>by rw[hi,UT]⟩
 .rw[if_neg h];refine⟨Jx _ kn,fun hl=> ?_⟩;rw[ga,gT] at hl;rw[xe _ _ kn,xe _ _ hj];simp only[ga,gT];rw[if_neg kn,if_neg kn,uu kr kr];simp
theorem Yn1{l hs:List Fm}{i:Int}(h0:0<=i)(hi:i<l.length):(l++hs).getD ((l++hs).length-1-(i+hs.length).toNat) AK=l.getD (l.length-1-i.toNat) AK:=by
 grind
theorem weak{r:Pf}(hr:r.shape=true)(oh:OH c)(h:Bc r c X U){m:List Ty}{bs:List Fm}(hb:∀f∈bs,f.shape=true):
 Bc ((r.up 0 m.length 0).lh 0 bs.length 0) ⟨c.lems,c.tys++m,c.hyps.map (fun f=>f.As 0 m.length)++bs⟩ (X.As 0 m.length) (fun w=>(m.length:Int)<=w/\U (w-m.length)):=by
 have oX:=IC h;have B1:C2 (Gg m.length) c (c.below m):=⟨Y0 _ _,rfl,oh.l,oh.h,(oh.below m).h⟩;have h1:=Vb (W:=FG) B1 (by
  show c.hyps.map _=c.hyps.map _;exact fY fun f hf=>Ml f (gr 0) kn) (fun v p=>p.up 0 m.length v) (Ydt _ kn) r hr 0 0 _ _ _ _ .base h
 have e1:X.sb (Gg m.length) ((0:Nat):Int)=X.As 0 m.length:=(Ml X (gr 0) kn).symm;rw[e1] at h1;have s1:(r.up 0 m.length 0).shape=true:=Yfd r hr _;have B2:C2 vT (c.below m) ⟨c.lems,c.tys++m,c.hyps.map (fun f=>f.As 0 m.length)++bs⟩:=⟨XM _,rfl,oh.l,(oh.below m).h,fun f hf=>by
  rcases fV.1 hf with hf|hf
  .exact (oh.below m).h f hf
  grind⟩
 have oY:=IC h1;have h2:=bH (W:=FG) B2 (fun _ y p=>p.lh 0 bs.length y) (fun v y p hs hk=>Yas _ v y p hs hk) (fun v y i c1 c1' Z V E hh=>by
  rw[show(vd i).lh 0 (bs.length:Int) y=vd (if i-y>=0 then i+bs.length else i) from rfl,MJ];obtain⟨h0,hl,hf⟩:=To hh;have ll:=E.len B2;have l1:(c.hyps.map (fun f=>f.As 0 (m.length:Int))++bs).length=(c.below m).hyps.length+bs.length:=by simp[Ck.below]
  have hf':=(fin.Dz (W:=FG) B2 E hf).mono (V':=FG) fun _ h=>h.elim;by_cases hy:i-y>=0
  .rw[if_pos hy];have hlt:i+bs.length<c1'.hyps.length:=by
    grind
   refine⟨kn,hlt,?_⟩;show fin c1' (C7 c1' (i+bs.length)) FG _ _;have e2:C7 c1' (i+bs.length)=(C7 c1 i).sb vT v:=by
    rw[E.free B2 kn hl,E.free' B2 kn hlt];have hj:i-y<(c.below m).hyps.length:=kn
    have e3:C7 ⟨c.lems,c.tys++m,c.hyps.map (fun f=>f.As 0 (m.length:Int))++bs⟩ (i+bs.length-y)=C7 (c.below m) (i-y):=by
     unfold C7;rw[show i+(bs.length:Int)-y=(i-y)+bs.length by omega];exact Yn1 kn hj
    rw[e3];have sh:(C7 (c.below m) (i-y)).shape=true:=by
     unfold C7;rw[vg kn];exact(oh.below m).h _ (fA _)
    rw[NQ (yt sh kn).1 kn]
   grind
  .rw[if_neg hy];refine⟨h0,kn,?_⟩;show fin c1' (C7 c1' i) FG _ _;rw[E.bound B2 h0 kn];omega) _ s1 0 0 _ _ _ _ .base h1
 rw[show(X.As 0 (m.length:Int)).sb vT ((0:Nat):Int)=X.As 0 m.length from NQ oY.1 (gr 0)] at h2;refine F2 _ _ _ _ _ _ h2 (.refl _) ⟨oY.1,oY.2⟩ fun _ w hw=> ?_;rcases hw with⟨a,b,_⟩|⟨a,⟨u,b,hu,d⟩|b⟩
 .omega
 .have hwu:w=u:=by
   obtain⟨d1,d2⟩:=d;rw[JQ] at d2
   grind
  subst hwu;rcases hu with⟨a',b',_⟩|⟨a',⟨u',b',hu',d'⟩|b'⟩
  .omega
  .obtain ⟨d1,d2⟩:=d';simp only[Gg] at d2;rw[JQ] at d2
   grind
  .exact b'.elim
 .exact b.elim
theorem Ym0{q:Pf}(hq:q.shape=true)(oh:OH c)(ht:Ev c t s)(h:Bc q (c.below [s]) X U):Bc (q.pt 0 t 0) c (X.put 0 t) (Fy (J3 U 1) fun w=>U 0/\EE t w):=by
 have oX:=IC h;have B:C2 (Cs t) (c.below [s]) c:=⟨Sy ht.1 ht.2,rfl,oh.l,(oh.below [s]).h,oh.h⟩;have h1:=Vb (W:=FG) B (by
  show c.hyps=(c.hyps.map fun f=>f.As 0 ([s].length:Nat)).map _;rw[gK];have:c.hyps.map (Fm.sb (Cs t) 0∘fun f=>f.As 0 ([s].length:Nat))=c.hyps.map id:=fY fun f hf=>by
   simp only[Function.comp,id];rw[<-u6 _ _ (gr 0)];exact w8 (oh.h f hf) t
  simp_all) (fun v p=>p.pt 0 t v) (Xk t) q hq 0 0 _ _ _ _ .base h
 have e1:X.sb (Cs t) ((0:Nat):Int)=X.put 0 t:=(u6 X t (gr 0)).symm;rw[e1] at h1;have oY:=IC h1;refine F2 _ _ _ _ _ _ h1 (.refl _) oY fun _ w hw=> ?_;rcases hw with⟨a,b,_⟩|⟨a,⟨u,b,hu,d1,d2⟩|b⟩
 .omega
 .exact qD
 .exact b.elim
end
mutual
def Pf.Fw(r:Pf)(v y:Int):Pf->Pf
 | .mk k i s ts fs zs=>if k=1 then(if i-y=0 then(r.up 0 v 0).lh 0 y 0 else if i-y>0 then vd (i-1) else vd i) else .mk k i s ts fs (Pf.Ec r v y (Aw k) (AA k) zs)
def Pf.Ec(r:Pf)(v y w z:Int):List Pf->List Pf
 |[]=>[]
 |p::l=>Pf.Fw r (if l.length=0 then v+w else v) (if l.length=0 then y+z else y) p::Pf.Ec r v y w z l
end
theorem Pf.Ja(r:Pf)(v y:Int)(p:Pf):Pf.Fw r v y p=if p.kind=1 then(if p.index-y=0 then(r.up 0 v 0).lh 0 y 0 else if p.index-y>0 then vd (p.index-1) else vd p.index) else .mk p.kind p.index p.ty p.terms p.Ae (Pf.Ec r v y (Aw p.kind) (AA p.kind) p.args):=kZ
theorem dg(r:Pf)(v y w z:Int):∀l:List Pf,(Pf.Ec r v y w z l).length=l.length
 |[]=>kz
 |p::l=>by simp only[Pf.Ec,fQ,dg r v y w z l]
theorem Zs(r:Pf)(v y w z:Int):∀(l:List Pf) (m:Nat) (h:m<l.length) (h':m<(Pf.Ec r v y w z l).length),(Pf.Ec r v y w z l)[m]=Pf.Fw r (if m+1=l.length then v+w else v) (if m+1=l.length then y+z else y) l[m]
 |p::l,0,h,h'=>by
  simp only[Pf.Ec,fM,fQ];simp
 |p::l,m+1,h,h'=>by
  simp only[Pf.Ec,gi,fQ,gZ];exact Zs r v y w z l m kr _
theorem Ypq(p r:Pf)(hR:∀(v h:Int),0<=v->v<=200000->0<=h->h<=200000->r.H9 v h=(r.up 0 v 0).lh 0 h 0):
 ∀v y:Int,0<=v->0<=y->v+2*p.size<=200000->y+2*p.size<=200000->Pf.ph 0 r v y p=Pf.Fw r v y p:=by
 induction p using Pf.ind with
 |h p ih=>
  intro v y hv hy hvz hyz;rw[Pf.Ht,Pf.Ja];have hz:=p.size_eq;by_cases hk:p.kind=1
  .grind
  .rw[if_neg hk,if_neg hk];congr 1;have b1:0<=Aw p.kind/\Aw p.kind<=2:=mA
   have b2:0<=AA p.kind/\AA p.kind<=1:=nv
   have key:∀(l:List Pf),(∀x∈l,x∈p.args)->Pf.EO 0 r v y (Aw p.kind) (AA p.kind) l=Pf.Ec r v y (Aw p.kind) (AA p.kind) l:=by
    intro l;induction l with
    |nil=>intro _;rfl
    |cons x l ihl=>
     intro hx;simp only[Pf.EO,Pf.Ec];have h1:=hx x ko;have h2:=zc Pf.size h1
     grind
   grind
theorem Zxw(r:Pf)(v y:Nat)(p:Pf)(hs:p.shape=true)(hk:p.kind≠1):(Pf.Fw r v y p).kind=p.kind/\(Pf.Fw r v y p).index=p.index/\(Pf.Fw r v y p).ty=p.ty/\(Pf.Fw r v y p).terms=p.terms/\(Pf.Fw r v y p).Ae=p.Ae/\(Pf.Fw r v y p).args.length=p.args.length/\
 ∀m (h:m<p.args.length) (h':m<(Pf.Fw r v y p).args.length),(Pf.Fw r v y p).args[m]=Pf.Fw r (if m+1=p.args.length then v+Aw p.kind else v) (if m+1=p.args.length then y+AA p.kind else y) p.args[m]:=by
 have e:=Pf.Ja r v y p;rw[if_neg hk] at e;have ea:(Pf.Fw r v y p).args=Pf.Ec r v y (Aw p.kind) (AA p.kind) p.args:=kH
 refine⟨kH,kH,kH,kH,kH,by rw[ea,dg],fun m h h'=> ?_⟩;simp only[ea];exact Zs _ _ _ _ _ _ _ h _
theorem Xt.sh{σ:Int->Tm}{c0 c0' c c':Ck}{v y:Nat}(B:C2 σ c0 c0')(h:Xt σ c0 c0' v y c c'):∃bs:List Fm,bs.length=y/\(∀f∈bs,f.shape=true)/\c'.hyps=c0'.hyps.map (fun f=>f.As 0 v)++bs:=by
 obtain⟨bs,h1,h2,h3⟩:=h.hyps B;refine⟨bs.map (Fm.sb σ v),kr,?_,h3⟩;have key:∀f∈c'.hyps,f.shape=true:=by
  clear h1 h2 h3;induction h with
  |base=>exact B.aK
  |blw l h hl ih=>
   intro f hf;obtain⟨g,hg,rfl⟩:=fO.1 hf;exact(yt (ih g hg) kn).1
  |Ah f h hf ih=>
   intro g hg;rcases fV.1 hg with hg|hg
   .grind
   .rw[gp.1 hg];exact cJ B.sh f _ kn hf.1
 grind
theorem R6{q r:Pf}{c:Ck}{f X:Fm}{U V:Us}(hq:q.shape=true)(hr:r.shape=true)(oh:OH c)(hf:CO c f)(h:Bc q (c.Ah f) X U)(h':Bc r c f V):Bc (Pf.Fw r 0 0 q) c X (Fy U V):=by
 have oX:=IC h;have B:C2 vT (c.Ah f) c:=⟨XM _,rfl,oh.l,(oh.Ah hf.1).h,oh.h⟩;have key:=bH (W:=V) B (fun v y p=>Pf.Fw r v y p) (Zxw r) (fun v y i c1 c1' Z T E hh=>by
  rw[show Pf.Fw r (v:Int) (y:Int) (vd i)=if i-y=0 then(r.up 0 v 0).lh 0 y 0 else if i-y>0 then vd (i-1) else vd i from kz];obtain⟨h0,hl,hz⟩:=To hh;have ll:=E.len B;have lw:(c.Ah f).hyps.length=c.hyps.length+1:=by simp[Ck.Ah]
  have hz':=(fin.Dz (W:=V) B E hz).mono (V':=FG) fun _ h=>h.elim;by_cases h1:i-y=0
  .rw[if_pos h1];obtain⟨m,m1,m2,m3,m4,m5⟩:=E.tys;obtain⟨bs,b1,b2,b3⟩:=E.sh B;have hw:=weak hr oh h' (m:=m) (bs:=bs) b2;rw[m1,b1] at hw;have ec:c1'=⟨c.lems,c.tys++m,c.hyps.map (fun f=>f.As 0 v)++bs⟩:=by
    obtain⟨a,b,d⟩:=c1'
    grind
   rw[<-ec] at hw;refine F2 _ _ _ _ _ _ hw ?_ (B.CO E hz.2.1) fun _ w hw=> .inr ⟨hw.1,.inr hw.2⟩;have e1:C7 c1 i=f.As 0 v:=by
    rw[E.free B kn hl,show i-(y:Int)=0 from h1];unfold C7 Ck.Ah;simp
   have hj:=hz.1.sb vT (v:=v) kn;rw[e1,NQ (yt hf.1 kn).1 kn] at hj;exact hj
  .rw[if_neg h1];by_cases h2:i-y>0
   .rw[if_pos h2,MJ];refine⟨kn,kn,?_⟩;show fin c1' (C7 c1' (i-1)) FG _ _;have e1:C7 c1' (i-1)=(C7 c1 i).sb vT v:=by
     rw[E.free B kn hl,E.free' B kn kn];have e3:C7 (c.Ah f) (i-y)=C7 c (i-1-y):=by
      unfold C7 Ck.Ah;simp only;rw[Ynz kr kr];congr 2
      grind
     rw[e3];have sh:(C7 c (i-1-y)).shape=true:=by
      unfold C7;rw[vg kn];exact oh.h _ (fA _)
     rw[NQ (yt sh kn).1 kn]
    grind
   .rw[if_neg h2,MJ];refine⟨h0,kn,?_⟩;show fin c1' (C7 c1' i) FG _ _;rw[E.bound B h0 kn];omega) q hq 0 0 _ _ _ _ .base h
 rw[show X.sb vT ((0:Nat):Int)=X from NQ oX.1 (gr 0)] at key;refine F2 _ _ _ _ _ _ key (.refl _) (IC key) fun _ w hw=> ?_;rcases hw with⟨a,b,_⟩|⟨a,⟨u,b,hu,d1,d2⟩|b⟩
 .omega
 .rw[JQ] at d2;by_cases e:u-((0:Nat):Int)-0=w-((0:Nat):Int)
  .exact .inl kr
  grind
 .exact .inr kr
theorem Yfj(σ τ:Int->Tm)(t:Tm){b:Int}(hb:0<=b):(t.re (z6 σ) b).re (z6 τ) b=t.re (z6 (fun j=>(σ j).re (z6 τ) 0)) b:=by
 rw[Bz];refine Ax t b fun p hp=> ?_;have hc:=yw t b p hp;simp only[z6];by_cases h:p.1<p.2
 .rw[if_pos h,if_pos h,wh];simp only[z6];grind
 .rw[if_neg h,if_neg h];have e:=Wv τ (σ (p.1-p.2)) 0 p.2 (gr 0) kn
  grind
theorem KW(σ τ:Int->Tm)(f:Fm):(f.sb σ 0).sb τ 0=f.sb (fun j=>(σ j).re (z6 τ) 0) 0:=by
 unfold Fm.sb;rw[Fm.Bz];refine Fm.Ax f 0 fun p hp=> ?_;exact Yfj σ τ p.1 (u3 p hp)
theorem Qb{σ τ:Int->Tm}(h:∀j:Int,0<=j->σ j=τ j)(f:Fm):f.sb σ 0=f.sb τ 0:=by
 unfold Fm.sb;refine Fm.Ax f 0 fun p hp=> ?_;refine Ax p.1 _ fun q hq=> ?_;simp only[z6]
 grind
def J5(a n j:Int):Tm:=vT (if j>=a then j+n else j)
theorem Wf(f:Fm){a n:Int}(ha:0<=a)(hn:0<=n):f.As a n=f.sb (J5 a n) 0:=by
 rw[Fm.Eu,Fm.As];refine Fm.Ax f 0 fun p hp=> ?_;have hb:=u3 p hp;simp only[gL];rw[xq (z6 (J5 a n)) p.2];refine Ax p.1 0 fun q hq=> ?_;have hc:=yw p.1 0 q hq;rw[z5];simp only[z6,J5];by_cases h1:q.1<q.2+p.2
 .grind
 .rw[if_neg h1,wh,z5]
  grind
theorem SR{τ:Int->Tm}{k:Int}(hk:0<=k)(hs:(τ k).shape=true):(vT k).re (z6 τ) 0=τ k:=by
 rw[wh];simp only[z6];rw[if_neg kn,show k-0=k by omega,Kc _ hs]
theorem KE{a:Tm}{j:Int}(h:j≠0):Cs a j=vT (j-1):=by unfold Cs;grind
theorem Oo(a:Tm):Cs a 0=a:=kz
theorem Ra{a:Tm}(ha:a.shape=true){j:Int}(hj:0<=j):(Cs a j).shape=true:=by
 unfold Cs;split
 .exact ha
 .exact Jx _ kn
theorem VL{a:Tm}(ha:a.shape=true){k:Int}(hk:0<=k):(vT k).re (z6 (Cs a)) 0=Cs a k:=SR hk (Ra ha hk)
def two(x y:Tm)(j:Int):Tm:=(Cs x j).re (z6 (Cs y)) 0
theorem dG{x y:Tm}(hx:x.shape=true)(hy:y.shape=true){j:Int}(hj:0<=j):(two x y j).shape=true:=
 QZ (fun j hj=>Ra hy hj) _ 0 (gr 0) (Ra hx hj)
theorem Ue(x y:Tm):two x y 0=x.re (z6 (Cs y)) 0:=kz
theorem Qw{x y:Tm}(hy:y.shape=true){j:Int}(hj:0<j):two x y j=Cs y (j-1):=by
 unfold two;rw[KE kn,VL hy kn]
theorem Lu{x y:Tm}(hx:x.shape=true)(hy:y.shape=true){k:Int}(hk:0<=k):(vT k).re (z6 (two x y)) 0=two x y k:=SR hk (dG hx hy hk)
theorem Yii(f:Fm){n:Tm}(hn:n.shape=true):((f.As 1 1).put 0 (sT (vT 0))).put 0 n=f.put 0 (sT n):=by
 rw[u6 _ _ (gr 0),u6 _ _ (gr 0),u6 _ _ (gr 0),Wf f kq kq,KW,KW];refine Qb (fun j hj=> ?_) f;have s1:(sT (vT 0)).shape=true:=kq
 show(J5 1 1 j).re (z6 (two (sT (vT 0)) n)) 0=_;simp only[J5];by_cases h:j=0
 .subst h;rw[if_neg kq,Lu s1 hn kq,Ue,Oo];have e:(sT (vT 0)).re (z6 (Cs n)) 0=sT ((vT 0).re (z6 (Cs n)) 0):=rfl;rw[e,VL hn kq,Oo]
 .rw[if_pos kn,Lu s1 hn kn,Qw hn kn,KE kn,KE h];simp
theorem ct{l h:Tm}(hl:l.shape=true):(l.re (zi 0 1) 0).re (z6 (Cs h)) 0=l:=by
 rw[<-Ry];exact ZH hl 0 h
theorem Yq0(f:Fm){l h:Tm}(hl:l.shape=true)(hh:h.shape=true):((f.As 1 1).put 0 (l.re (zi 0 1) 0)).put 0 h=f.put 0 l:=by
 rw[u6 _ _ (gr 0),u6 _ _ (gr 0),u6 _ _ (gr 0),Wf f kq kq,KW,KW];refine Qb (fun j hj=> ?_) f;have s1:(l.re (zi 0 1) 0).shape=true:=y6 0 hl kq;show(J5 1 1 j).re (z6 (two (l.re (zi 0 1) 0) h)) 0=_;simp only[J5];by_cases h0:j=0
 .subst h0;rw[if_neg kq,Lu s1 hh kq,Ue,Oo,ct hl]
 .rw[if_pos kn,Lu s1 hh kn,Qw hh kn,KE kn,KE h0];simp
def NI(h l:Tm):Tm:= .mk 8 0 (.mk 0 []) [h,l]
theorem Yeo(f:Fm){l h:Tm}(hl:l.shape=true)(hh:h.shape=true):(((f.As 1 2).put 0 BJ).put 0 (l.re (zi 0 1) 0)).put 0 h=f.put 0 (NI h l):=by
 have s1:(l.re (zi 0 1) 0).shape=true:=y6 0 hl kq;have s2:BJ.shape=true:=kq
 rw[u6 _ _ (gr 0),u6 _ _ (gr 0),u6 _ _ (gr 0),u6 _ _ (gr 0),Wf f kq kq,KW,KW,KW];refine Qb (fun j hj=> ?_) f;obtain⟨τ,hτ⟩:∃τ:Int->Tm,τ=fun j=>(Cs BJ j).re (z6 (two (l.re (zi 0 1) 0) h)) 0:=⟨_,rfl⟩;have key:(J5 1 2 j).re (z6 τ) 0=Cs (NI h l) j:=by
  have shτ:∀k:Int,0<=k->(τ k).shape=true:=fun k hk=>by
   rw[hτ];exact QZ (fun j hj=>dG s1 hh hj) _ 0 (gr 0) (Ra s2 hk)
  simp only[J5];by_cases h0:j=0
  .subst h0;rw[if_neg kq,SR kq (shτ 0 kq),hτ];simp only;rw[Oo,Oo];have e:BJ.re (z6 (two (l.re (zi 0 1) 0) h)) 0=NI ((vT 1).re (z6 (two (l.re (zi 0 1) 0) h)) 0) ((vT 0).re (z6 (two (l.re (zi 0 1) 0) h)) 0):=rfl;rw[e,Lu s1 hh kq,Lu s1 hh kq,Ue,Qw hh kq,ct hl]
   rfl
  .rw[if_pos kn,SR kn (shτ _ kn),hτ];simp only;rw[KE kn,Lu s1 hh kn,Qw hh kn,KE kn,KE h0]
   grind
 rw[hτ] at key;exact key
theorem Yg8(f:Fm){s:Tm}(hs:s.shape=true):(f.As 0 2).put 0 s=f.As 0 1:=by
 rw[u6 _ _ (gr 0),Ml f (gr 0) kq,Ml f (gr 0) kq,KW];refine Qb (fun j hj=> ?_) f;simp only[Gg];rw[VL hs kn,KE kn]
 grind
theorem QC{q:Pf}{c0 c:Ck}{X:Fm}{U:Us}{t:Tm}{s:Ty}(hq:q.shape=true)(hT:c0.tys=c.tys++[s])(hl:c.lems=c0.lems)(hh:c.hyps=c0.hyps.map (fun f=>f.put 0 t))(o0:OH c0)(o1:OH c)(ht:Ev c t s)(h:Bc q c0 X U):
 Bc (q.pt 0 t 0) c (X.put 0 t) (Fy (J3 U 1) fun w=>U 0/\EE t w):=by
 have oX:=IC h;have B:C2 (Cs t) c0 c:=⟨by rw[hT];exact Sy ht.1 ht.2,hl,o0.l,o0.h,o1.h⟩;have h1:=Vb (W:=FG) B (by
  rw[hh];exact fY fun f hf=>u6 _ _ (gr 0)) (fun v p=>p.pt 0 t v) (Xk t) q hq 0 0 _ _ _ _ .base h
 have e1:X.sb (Cs t) ((0:Nat):Int)=X.put 0 t:=(u6 X t (gr 0)).symm;rw[e1] at h1;have oY:=IC h1;refine F2 _ _ _ _ _ _ h1 (.refl _) oY fun _ w hw=> ?_;rcases hw with⟨a,b,_⟩|⟨a,⟨u,b,hu,d1,d2⟩|b⟩
 .omega
 .exact qD
 .exact b.elim
theorem Z6{q r:Pf}(he:D8 q 0 r=0):Ff q 0 r=Pf.Fw r 0 0 q/\(Ff q 0 r).shape=true/\q.shape=true/\r.shape=true:=by
 obtain⟨h1,_,h3,n1,n2,n3,hN⟩:=TL he;obtain⟨g1,g2,g3⟩:=(Pf.Aa q).1 h1;obtain⟨r1,r2,r3⟩:=(Pf.Aa r).1 h3;have e:Ff q 0 r=Pf.ph 0 r 0 0 q:=by unfold Ff;grind
 have e2:=Ypq q r (fun v h q1 q2 q3 q4=>(Yz h3 n3 n2 ⟨q1,q2⟩ ⟨q3,q4⟩).1) 0 0 kn kn kn kn;exact⟨kr,((Pf.Aa _).1 (QX he)).1,g1,r1⟩
theorem U3{q:Pf}{t:Tm}(he:vh q 0 t=0):De q 0 t=q.pt 0 t 0/\(De q 0 t).shape=true/\q.shape=true/\t.shape=true:=by
 obtain⟨h1,_,h3,_⟩:=Tn he;exact⟨by unfold De;grind,((Pf.Aa _).1 (U7 he)).1,((Pf.Aa q).1 h1).1,((Tm.Aa t).1 h3).1⟩
theorem Wd{q p:Pf}{t:Tm}(he:(un q t p).2=0):(un q t p).1=Pf.Fw p 0 0 (q.pt 0 t 0)/\(un q t p).1.shape=true/\q.shape=true/\t.shape=true/\p.shape=true/\(q.pt 0 t 0).shape=true:=by
 unfold un at he ⊢;by_cases h:vh q 0 t≠0
 .grind
 rw[if_neg h] at he ⊢;obtain⟨a,b,c,d⟩:=U3 (fC.1 h);obtain⟨a',b',c',d'⟩:=Z6 he
 grind
theorem Kk{p:Pf}(hs:p.shape=true){nd:Nd}(hn:B6 p.kind=some nd):p.terms.length=nd.terms/\p.Ae.length=nd.Ae/\p.args.length=nd.args/\(nd.typ=true->p.ty.err=0):=by
 obtain⟨s1,_⟩:=zh hs;obtain⟨nd',n1,n2,n3,n4,hi,hty,_⟩:=GF s1
 grind
theorem HW{p:Pf}(hs:p.shape=true){i:Nat}(hi:i<p.args.length):(p.arg i).shape=true/\(p.args.map Bc).getD i nD=Bc (p.arg i):=by
 unfold Pf.arg;rw[vg hi];exact⟨(zh hs).2.2.2 _ (fA hi),kr⟩
theorem Xb{k:Int}(hk:k=2){A B:Fm}:wi (vm k A B)=(wi A||wi B):=by
 subst hk;rfl
theorem Yhn{A B:Fm}:wi (vm 3 A B)=wi B:=kz
theorem ZD{k:Int}(hk:k=4\/k=6\/k=7){s:Ty}{A:Fm}:wi (AL k s A)=wi A:=by
 rcases hk with rfl|rfl|rfl<;>(rfl)
theorem Ykf{s:Ty}{A:Fm}:wi (AL 5 s A)=true:=kz
section
variable {p:Pf} {c:Ck} {X:Fm} {U:Us}
theorem Xh{k:Int}{s s':Ty}{A A':Fm}(h:FJ (AL k s A) (AL k s' A')):s=s'/\FJ A A':=by
 obtain⟨a,e,ha⟩:=h.qu;simp only[AL,Fm.mk.injEq,i5,and_true,true_and] at e
 grind
theorem cq{k:Int}{A B A' B':Fm}(h:FJ (vm k A B) (vm k A' B')):FJ A A'/\FJ B B':=by
 obtain⟨a,b,e,ha,hb⟩:=h.two;simp only[vm,Fm.mk.injEq,i5,and_true,true_and] at e
 grind
theorem eG{k:Int}{j:Nat}(hs:p.shape=true)(hj:(k=4/\j=0)\/(k=5/\j=1))(hk:p.kind=k)(hq:(p.arg 0).kind=3)(h:Bc p c X U):Bc ((p.arg 0).arg j) c X U/\((p.arg 0).arg j).shape=true:=by
 have l:=Kk hs (nd:=⟨0,0,1,false,false⟩) (by rw[hk];rcases hj with⟨rfl,_⟩|⟨rfl,_⟩<;>rfl);simp only at l;have e:=HW hs (i:=0) kn;have h1:Iq j (Bc (p.arg 0)) c X U:=by
  rw[vy,hk] at h;rcases hj with⟨rfl,rfl⟩|⟨rfl,rfl⟩
  .simp only[ut,reduceIte,Int.reduceEq,or_false,e.2] at h;exact h
  .exact sV
 obtain⟨A,B,U0,h0,hf⟩:=h1;have l2:=Kk e.1 (nd:=⟨0,0,2,false,false⟩) (by rw[hq];rfl);simp only at l2;have e0:=HW e.1 (i:=0) kn;have e1:=HW e.1 (i:=1) kn;rw[vy,hq] at h0;simp only[ut,reduceIte,Int.reduceEq,or_false,e0.2,e1.2] at h0;obtain⟨A',B',Ua,Ub,ha,hb,hg⟩:=h0;obtain⟨ja,jb⟩:=cq hg.1;rcases hj with⟨_,rfl⟩|⟨_,rfl⟩
 .refine ⟨F2 _ _ _ _ _ _ ha (ja.trans hf.1) hf.2.1 fun hc w hw=> ?_,e0.1⟩;have hc':=(ja.trans hf.1).cont.symm.trans hc;exact hf.2.2 hc' w (hg.2.2 (by rw[Xb rfl,<-ja.cont,hc];rfl) w (.inl hw))
 .refine ⟨F2 _ _ _ _ _ _ hb (jb.trans hf.1) hf.2.1 fun hc w hw=> ?_,e1.1⟩;have hc':=(jb.trans hf.1).cont.symm.trans hc;exact hf.2.2 hc' w (hg.2.2 (by rw[Xb rfl,<-jb.cont,hc];simp) w (.inr hw))
theorem Yl7(hs:p.shape=true)(oh:OH c)(hk:p.kind=7)(hq:(p.arg 0).kind=6)(he:D8 ((p.arg 0).arg 0) 0 (p.arg 1)=0)(h:Bc p c X U):Bc (Ff ((p.arg 0).arg 0) 0 (p.arg 1)) c X U/\(Ff ((p.arg 0).arg 0) 0 (p.arg 1)).shape=true:=by
 have l:=Kk hs (nd:=⟨0,0,2,false,false⟩) mE;simp only at l;have e:=HW hs (i:=0) kn;have e':=HW hs (i:=1) kn;rw[vy,hk] at h;simp only[ut,reduceIte,Int.reduceEq,or_false,e.2,e'.2] at h;obtain⟨A,B,U0,U1,h0,h1,hf⟩:=h;have l2:=Kk e.1 (nd:=⟨0,1,1,false,false⟩) (by rw[hq];rfl);simp only at l2;have e0:=HW e.1 (i:=0) kn;rw[vy,hq] at h0;simp only[ut,reduceIte,Int.reduceEq,or_false,e0.2] at h0;obtain⟨of,B0,Ub,hb,hg⟩:=h0;obtain⟨ja,jb⟩:=cq hg.1;obtain⟨q1,q2,q3,q4⟩:=Z6 he;have h1':=F2 _ _ _ _ _ _ h1 ja.symm of fun _ w h=>h;have key:=R6 q3 q4 oh of hb h1';rw[q1] at q2 ⊢;refine⟨F2 _ _ _ _ _ _ key (jb.trans hf.1) hf.2.1 fun hc w hw=> ?_,q2⟩;have hc':=(jb.trans hf.1).cont.symm.trans hc;rcases hw with hw|hw
 .exact hf.2.2 hc' w (.inl (hg.2.2 (by rw[Yhn,<-jb.cont];exact hc) w hw))
 .exact sr
theorem ek{k q:Int}(hs:p.shape=true)(oh:OH c)(hkq:(k=9/\q=8)\/(k=13/\q=12))(hk:p.kind=k)(hq:(p.arg 0).kind=q)(he:vh ((p.arg 0).arg 0) 0 p.Cb=0)(h:Bc p c X U):Bc (De ((p.arg 0).arg 0) 0 p.Cb) c X U/\(De ((p.arg 0).arg 0) 0 p.Cb).shape=true:=by
 have l:=Kk hs (nd:=⟨1,0,1,false,false⟩) (by rw[hk];rcases hkq with⟨rfl,_⟩|⟨rfl,_⟩<;>rfl);simp only at l;have e:=HW hs (i:=0) kn;have h1:IF k p.Cb (Bc (p.arg 0)) c X U:=by
  rw[vy,hk] at h;rcases hkq with⟨rfl,rfl⟩|⟨rfl,rfl⟩
  .simp only[ut,reduceIte,Int.reduceEq,or_false,e.2] at h;exact h
  .exact sV
 obtain⟨s,A,U0,hse,ht,h0,hf⟩:=h1;have l2:=Kk e.1 (nd:=⟨0,0,1,false,true⟩) (by rw[hq];rcases hkq with⟨_,rfl⟩|⟨_,rfl⟩<;>rfl);simp only at l2;have e0:=HW e.1 (i:=0) kn;have h2:IB q (p.arg 0).ty (Bc ((p.arg 0).arg 0)) c (AL (if k=13 then 6 else 4) s A) U0:=by
  rw[vy,hq] at h0;rcases hkq with⟨rfl,rfl⟩|⟨rfl,rfl⟩
  .exact tc
  .exact sP
 obtain⟨hse',B,Ub,hb,hz,hg⟩:=h2;have hkk:(if q=8 then(4:Int) else 6)=if k=13 then 6 else 4:=kn
 rw[hkk] at hg;obtain⟨js,jA⟩:=Xh hg.1;obtain⟨q1,q2,q3,q4⟩:=U3 he;rw[js] at hb;have key:=Ym0 q3 oh ht hb;rw[q1] at q2 ⊢;have jX:=(jA.put (Jn.refl p.Cb)).trans hf.1;refine⟨F2 _ _ _ _ _ _ key jX hf.2.1 fun hc w hw=> ?_,q2⟩;have hc':=jX.cont.symm.trans hc;have hcB:wi B=true:=by
  have:=US (fun b t=>t.re (yq (0+b) p.Cb) 0) B 0;exact this.symm.trans hc
 rcases hw with hw|⟨hw,hw'⟩
 .exact hf.2.2 hc' w (.inl (hg.2.2 (by rw[ZD kn,<-jA.cont];omega) w hw))
 .refine hf.2.2 hc' w (.inr ⟨fun h13=> ?_,hw'⟩)
  grind
theorem Tt(f:Fm)(t:Tm):wi (f.put 0 t)=wi f:=US (fun b u=>u.re (yq (0+b) t) 0) f 0
theorem W5{n:List Ty}{s:Ty}{t:Tm}{A:Fm}(oh:OH c)(ht:t.shape=true):(c.Ah (A.put 0 t)).hyps=((c.below [s]).Ah A).hyps.map (fun f=>f.put 0 t):=by
 simp only[Ck.Ah,Ck.below,iE,gK,fJ,fU];congr 1;have:c.hyps.map ((fun f=>f.put 0 t)∘fun f=>f.As 0 ([s].length:Nat))=c.hyps.map id:=fY fun f hf=>w8 (oh.h f hf) t;simp_all
theorem dP{k q:Int}(hs:p.shape=true)(oh:OH c)(hkq:(k=11/\q=10)\/(k=15/\q=14))(hk:p.kind=k)(hq:(p.arg 0).kind=q)(he:(un (p.arg 1) (p.arg 0).Cb ((p.arg 0).arg 0)).2=0)(h:Bc p c X U):
 Bc (un (p.arg 1) (p.arg 0).Cb ((p.arg 0).arg 0)).1 c X U/\(un (p.arg 1) (p.arg 0).Cb ((p.arg 0).arg 0)).1.shape=true:=by
 have l:=Kk hs (nd:=⟨0,0,2,false,false⟩) (by rw[hk];rcases hkq with⟨rfl,_⟩|⟨rfl,_⟩<;>rfl);simp only at l;have e:=HW hs (i:=0) kn;have e':=HW hs (i:=1) kn;have h1:Iw k (Bc (p.arg 0)) (Bc (p.arg 1)) c X U:=by
  rw[vy,hk] at h;rcases hkq with⟨rfl,rfl⟩|⟨rfl,rfl⟩
  .simp only[ut,reduceIte,Int.reduceEq,or_false,e.2,e'.2] at h;exact h
  .simp only[ut,reduceIte,Int.reduceEq,or_false,or_true,e.2,e'.2] at h;exact h
 obtain⟨s,A,B,U0,U1,hse,h0,oB,h1,hz,hf⟩:=h1;have l2:=Kk e.1 (nd:=⟨1,1,1,false,false⟩) (by rw[hq];rcases hkq with⟨_,rfl⟩|⟨_,rfl⟩<;>rfl);simp only at l2;have e0:=HW e.1 (i:=0) kn;obtain⟨f,hfe⟩:∃f,f=(p.arg 0).Ae.getD 0 AK:=⟨_,rfl⟩;have h2:Im q f (p.arg 0).Cb (Bc ((p.arg 0).arg 0)) c (AL (if k=15 then 7 else 5) s A) U0:=by
  rw[vy,hq] at h0;rw[hfe];rcases hkq with⟨rfl,rfl⟩|⟨rfl,rfl⟩
  .exact tc
  .exact sP
 obtain⟨s',A',Ua,ef,hse',of,ht,ha,hg⟩:=h2;have hkk:(if q=14 then(7:Int) else 5)=if k=15 then 7 else 5:=kn
 rw[ef,hkk] at hg;obtain⟨js,jA⟩:=Xh hg.1;subst js;obtain⟨q1,q2,q3,q4,q5,q6⟩:=Wd he;have oq:=IC h0;have hq4:4<=(if k=15 then(7:Int) else 5)/\(if k=15 then(7:Int) else 5)<=7:=kn
 have oA:CO (c.below [s']) A:=⟨zp oq.1 k7,by simpa[Ck.below] using Gk hq4 oq.2⟩;have hp1:=QC (c0:=(c.below [s']).Ah A) (s:=s') (c:=c.Ah (A.put 0 (p.arg 0).Cb)) q3 kz rfl (W5 (n:=[]) oh ht.1) ((oh.below [s']).Ah oA.1) (oh.Ah (uj kq ht.1 oA.1)) ht h1;rw[w8 oB.1] at hp1;have jp:=jA.put (Jn.refl (p.arg 0).Cb);have op:CO c (A.put 0 (p.arg 0).Cb):=by
  have o0:=IC ha;refine⟨uj kq ht.1 oA.1,?_⟩;have B1:C2 (Cs (p.arg 0).Cb) ((c.below [s'])) c:=⟨Sy ht.1 ht.2,rfl,oh.l,(oh.below [s']).h,oh.h⟩;have:=B1.CO .base oA;rw[show A.sb (Cs (p.arg 0).Cb) ((0:Nat):Int)=A.put 0 (p.arg 0).Cb from(u6 A _ (gr 0)).symm] at this;exact this.2
 have ha':=F2 _ _ _ _ _ (fun w=>wi A=true/\Ua w) ha jp op fun hc w hw=>⟨by rw[<-jA.cont,<-Tt A' (p.arg 0).Cb];exact hc,hw⟩;have key:=R6 q6 q5 oh op hp1 ha';rw[q1] at q2 ⊢;refine⟨F2 _ _ _ _ _ _ key hf.1 hf.2.1 fun hc w hw=> ?_,q2⟩;have hc':=hf.1.cont.symm.trans hc;have up:∀w,(wi (AL (if k=15 then 7 else 5) s' A)=true->Fy Ua (fun w=>¬q=14/\EE (p.arg 0).Cb w) w->U w):=fun w h1 h2=>hf.2.2 hc' w (.inl (hg.2.2 h1 w h2));rcases hw with(hw|⟨hw,hw'⟩)|⟨hw,hw'⟩
 .exact sr
 .rcases hkq with⟨rfl,rfl⟩|⟨rfl,rfl⟩
  .exact up w Ykf (.inr ⟨kq,hw'⟩)
  grind
 .refine up w ?_ (.inl hw');rcases hkq with⟨rfl,rfl⟩|⟨rfl,rfl⟩
  .rfl
  .rw[if_pos rfl,ZD ko];exact hw
end
theorem Yk4{s:Ty}(h:s.Bv=true):s= .mk 0 []:=by
 obtain⟨k,l⟩:=s;simp[Ty.Bv] at h
 grind
theorem Rt{t:Tm}(hs:t.shape=true)(h1:¬t.kind=1)(h2:x9 t.kind=false):t.index=0/\t.ty= .mk 0 []:=by
 rw[Tm.Ak,fD] at hs;have h:=hs.1;unfold Tm.head at h;rw[h2] at h;simp only[fD,cond_false] at h;refine⟨?_,Yk4 h.2⟩
 grind
theorem Ylf{t:Tm}(hs:t.shape=true)(hk:t.kind=4):t=zT:=by
 exact rN
theorem Yox{t:Tm}(hs:t.shape=true)(hk:t.kind=7):t=Dw:=by
 exact rN
theorem Yqr{t:Tm}(hs:t.shape=true)(hk:t.kind=5):t=sT (t.args.getD 0 AB)/\(t.args.getD 0 AB).shape=true:=by
 obtain⟨a,b⟩:=Rt hs kn mE;obtain⟨i,th,n,rfl,hn⟩:=Hp hs hk rfl;simp only[Tm.AG,Tm.AO] at a b;rw[a,b];exact⟨rfl,hn⟩
theorem Ymh{t:Tm}(hs:t.shape=true)(hk:t.kind=8):t=NI (t.args.getD 0 AB) (t.args.getD 1 AB)/\(t.args.getD 0 AB).shape=true/\(t.args.getD 1 AB).shape=true:=by
 obtain⟨a,b⟩:=Rt hs kn mE;obtain⟨i,th,x,y,rfl,hx,hy⟩:=KK hs hk rfl;simp only[Tm.AG,Tm.AO] at a b;rw[a,b];exact⟨rfl,hx,hy⟩
section
variable {p:Pf} {c:Ck} {X:Fm} {U:Us}
theorem Ui{f:Fm}{t:Tm}{s:Ty}(oh:OH c)(ht:Ev c t s)(h:CO (c.below [s]) f):CO c (f.put 0 t):=by
 have B:C2 (Cs t) (c.below [s]) c:=⟨Sy ht.1 ht.2,rfl,oh.l,(oh.below [s]).h,oh.h⟩;have:=B.CO .base h;rw[show f.sb (Cs t) ((0:Nat):Int)=f.put 0 t from(u6 f t (gr 0)).symm] at this;omega
theorem Sh{k:Int}{s:Ty}(hkk:(k=16/\s=Ac)\/(k=17/\s=Al))(hs:p.shape=true)(hk:p.kind=k):
 ∃f,p.terms=[p.Cb]/\p.Ae=[f]/\(p.arg 0).shape=true/\(p.arg 1).shape=true/\p.args=[p.arg 0,p.arg 1]/\f.shape=true:=by
 have l:=Kk hs (nd:=⟨1,1,2,false,false⟩) (by rw[hk];rcases hkk with⟨rfl,_⟩|⟨rfl,_⟩<;>rfl);simp only at l;obtain⟨l1,l2,l3,_⟩:=l;have e0:=HW hs (i:=0) kn;have e1:=HW hs (i:=1) kn;obtain⟨a,ha⟩:=Py l1;obtain⟨f,hf⟩:=Py l2;obtain⟨x,y,hx⟩:=dz l3;refine⟨f,by unfold Pf.Cb;grind,hf,e0.1,e1.1,by unfold Pf.arg;grind,?_⟩;exact(zh hs).2.2.1 f kr
theorem av{f:Fm}(hk:p.kind=16)(ht:p.terms=[p.Cb])(hf:p.Ae=[f])(ha:p.args=[p.arg 0,p.arg 1])(c:Ck):Bc p c=H6 f p.Cb (Bc (p.arg 0)) (Bc (p.arg 1)) c:=by
 rw[vy,hk,ht,hf,ha]
 rfl
theorem X2{f:Fm}(hk:p.kind=17)(ht:p.terms=[p.Cb])(hf:p.Ae=[f])(ha:p.args=[p.arg 0,p.arg 1])(c:Ck):Bc p c=HH f p.Cb (Bc (p.arg 0)) (Bc (p.arg 1)) c:=by
 rw[vy,hk,ht,hf,ha]
 rfl
theorem Yan{f:Fm}{n:Tm}(hk:p.kind=16)(hf:p.Ae=[f])(ha:p.args=[p.arg 0,p.arg 1])(c:Ck):Bc (vt p n) c=H6 f n (Bc (p.arg 0)) (Bc (p.arg 1)) c:=by
 exact sI
theorem Zxm{f:Fm}{n:Tm}(hk:p.kind=17)(hf:p.Ae=[f])(ha:p.args=[p.arg 0,p.arg 1])(c:Ck):Bc (vt p n) c=HH f n (Bc (p.arg 0)) (Bc (p.arg 1)) c:=by
 exact sI
theorem Yk(hs:p.shape=true)(hk:(p.kind=16/\p.Cb.kind=4)\/(p.kind=17/\p.Cb.kind=7))(h:Bc p c X U):Bc (p.arg 0) c X U/\(p.arg 0).shape=true:=by
 rcases hk with⟨hk,ht⟩|⟨hk,ht⟩
 .obtain ⟨f,h1,h2,h3,h4,h5,h6⟩:=Sh (.inl ⟨rfl,rfl⟩) hs hk;rw[av hk h1 h2 h5] at h;obtain⟨of,tt,U0,U1,a,b,hf⟩:=h;rw[Ylf tt.1 ht] at hf;exact⟨F2 _ _ _ _ _ _ a hf.1 hf.2.1 fun hc w hw=>hf.2.2 (hf.1.cont.symm.trans hc) w (.inl (.inr hw)),h3⟩
 .obtain ⟨f,h1,h2,h3,h4,h5,h6⟩:=Sh (.inr ⟨rfl,rfl⟩) hs hk;rw[X2 hk h1 h2 h5] at h;obtain⟨of,tt,U0,U1,a,b,hf⟩:=h;rw[Yox tt.1 ht] at hf;exact⟨F2 _ _ _ _ _ _ a hf.1 hf.2.1 fun hc w hw=>hf.2.2 (hf.1.cont.symm.trans hc) w (.inl (.inr hw)),h3⟩
theorem Je{n:Tm}{w:Int}:EE (sT n) w↔EE n w:=by
 unfold EE;rw[show sT n= .mk 5 0 (.mk 0 []) [n] from rfl,wv kq kq];simp
theorem Fp{x y:Tm}{w:Int}:EE (NI x y) w↔EE x w\/EE y w:=by
 unfold EE;rw[show NI x y= .mk 8 0 (.mk 0 []) [x,y] from rfl,wv kq kq]
 grind
theorem Yk3(hs:p.shape=true)(oh:OH c)(hk:p.kind=16)(ht:p.Cb.kind=5)(he:(un (p.arg 1) (p.Cb.args.getD 0 AB) (vt p (p.Cb.args.getD 0 AB))).2=0)(h:Bc p c X U):
 Bc (un (p.arg 1) (p.Cb.args.getD 0 AB) (vt p (p.Cb.args.getD 0 AB))).1 c X U/\(un (p.arg 1) (p.Cb.args.getD 0 AB) (vt p (p.Cb.args.getD 0 AB))).1.shape=true:=by
 obtain⟨f,h1,h2,h3,h4,h5,h6⟩:=Sh (.inl ⟨rfl,rfl⟩) hs hk;rw[av hk h1 h2 h5] at h;obtain⟨of,tt,U0,U1,a,b,hf⟩:=h;obtain⟨et,sn⟩:=Yqr tt.1 ht;generalize p.Cb.args.getD 0 AB=n at*;rw[et] at tt hf;have tn:Ev c n Ac:=⟨sn,(dn tt.2).2⟩;obtain⟨q1,q2,q3,q4,q5,q6⟩:=Wd he;have on:=Ui oh tn of;have ag:Bc (vt p n) c (f.put 0 n) (Fy (Fy (EE n) U0) (J3 U1 1)):=by
  rw[Yan hk h2 h5];exact⟨of,tn,U0,U1,a,b,.refl _,on,fun _ w h=>h⟩
 have hp1:=QC (c0:=(c.below [Ac]).Ah f) (s:=Ac) (c:=c.Ah (f.put 0 n)) q3 kz rfl (W5 (n:=[]) oh sn) ((oh.below [Ac]).Ah of.1) (oh.Ah on.1) tn b;rw[Yii f sn] at hp1;have key:=R6 q6 q5 oh on hp1 ag;rw[q1] at q2 ⊢;refine⟨F2 _ _ _ _ _ _ key hf.1 hf.2.1 fun hc w hw=> ?_,q2⟩;have hc':=hf.1.cont.symm.trans hc;rcases hw with(hw|⟨hw,hw'⟩)|((hw|hw)|hw)
 .exact sr
 .exact hf.2.2 hc' w (.inl (.inl (Je.2 hw')))
 .exact hf.2.2 hc' w (.inl (.inl (Je.2 hw)))
 .exact hf.2.2 hc' w (.inl (.inr hw))
 .exact sr
end
section
variable {p:Pf} {c:Ck} {X:Fm} {U:Us}
theorem Yir{l:Tm}(h:wm l 0 1=0):EY l=l.re (zi 0 1) 0:=by unfold EY;grind
theorem Yhq(hs:p.shape=true)(oh:OH c)(hk:p.kind=17)(ht:p.Cb.kind=8)(he:(Ip p (p.Cb.args.getD 0 AB) (p.Cb.args.getD 1 AB)).2=0)(h:Bc p c X U):
 Bc (Ip p (p.Cb.args.getD 0 AB) (p.Cb.args.getD 1 AB)).1 c X U/\(Ip p (p.Cb.args.getD 0 AB) (p.Cb.args.getD 1 AB)).1.shape=true:=by
 obtain⟨f,h1,h2,h3,h4,h5,h6⟩:=Sh (.inr ⟨rfl,rfl⟩) hs hk;rw[X2 hk h1 h2 h5] at h;obtain⟨of,tt,U0,U1,a,b,hf⟩:=h;obtain⟨et,sx,sl⟩:=Ymh tt.1 ht;generalize p.Cb.args.getD 0 AB=x at*;generalize p.Cb.args.getD 1 AB=l at*;rw[et] at tt hf;obtain⟨_,ix,il⟩:=ZV tt.2;have tx:Ev c x Ac:=⟨sx,ix⟩;have tl:Ev c l Al:=⟨sl,il⟩;unfold Ip at he ⊢;by_cases e1:wm l 0 1≠0
 .grind
 rw[if_neg e1] at he ⊢;rw[Yir (fC.1 e1)] at he ⊢;by_cases e2:vh (p.arg 1) 0 (l.re (zi 0 1) 0)≠0
 .grind
 rw[if_neg e2] at he ⊢;obtain⟨r1,r2,r3,r4⟩:=U3 (fC.1 e2);rw[r1] at he r2 ⊢;obtain⟨q1,q2,q3,q4,q5,q6⟩:=Wd he;have ol:=Ui oh tl of;have ag:Bc (vt p l) c (f.put 0 l) (Fy (Fy (EE l) U0) (J3 U1 2)):=by
  rw[Zxm hk h2 h5];exact⟨of,tl,U0,U1,a,b,.refl _,ol,fun _ w h=>h⟩
 have tl1:Ev (c.below [Ac]) (l.re (zi 0 1) 0) Al:=by
  have B1:C2 (Gg 1) c (c.below [Ac]):=⟨Y0 c.tys [Ac],rfl,oh.l,oh.h,(oh.below _).h⟩;have:=B1.Ev .base tl;rw[show l.re (z6 (Gg 1)) ((0:Nat):Int)=l.re (zi 0 1) 0 from(U6 1 l (gr 0) kq).symm] at this;omega
 have s11:(f.As 1 1).shape=true:=(yt h6 kq).1;have hp1:=QC (c0:=(c.below [Ac,Al]).Ah (f.As 1 1)) (s:=Al) (c:=(c.below [Ac]).Ah ((f.As 1 1).put 0 (l.re (zi 0 1) 0))) r3 (by simp[Ck.below,Ck.Ah]) rfl (by
  simp only[Ck.Ah,Ck.below,iE,gK,fJ,fU];congr 1;refine fY fun g hg=> ?_;exact(Yg8 g tl1.1).symm) ((oh.below [Ac,Al]).Ah s11) ((oh.below [Ac]).Ah (uj kq tl1.1 s11)) tl1 b
 have og:CO (c.below [Ac]) ((f.As 1 1).put 0 (l.re (zi 0 1) 0)):=by
  have l1:=wy (g:=c.tys) (h:=[Al]) [Ac] of.1 of.2;exact Ui (oh.below [Ac]) tl1 ⟨s11,mQ⟩
 have hp2:=QC (c0:=(c.below [Ac]).Ah ((f.As 1 1).put 0 (l.re (zi 0 1) 0))) (s:=Ac) (c:=c.Ah (((f.As 1 1).put 0 (l.re (zi 0 1) 0)).put 0 x)) q3 kz rfl (W5 (n:=[]) oh sx) ((oh.below [Ac]).Ah og.1) (oh.Ah (uj kq sx og.1)) tx hp1;rw[Yq0 f sl sx,Yeo f sl sx] at hp2;have key:=R6 q6 q5 oh ol hp2 ag;rw[q1] at q2 ⊢;refine⟨F2 _ _ _ _ _ _ key hf.1 hf.2.1 fun hc w hw=> ?_,q2⟩;have hc':=hf.1.cont.symm.trans hc;have fvl:∀w,0<=w->EE (l.re (zi 0 1) 0) (w+1)->EE l w:=fun w h0 h=>by
  obtain⟨g1,g2⟩:=h;rw[Ki _ _ _ _ sl] at g2;obtain⟨r,hr,e⟩:=BB.2 g2;obtain⟨z,hz,rfl⟩:=fO.1 hr;have:=yw l 0 z hz;simp only at e;refine⟨h0,BB.1 ⟨z,hz,?_⟩⟩;omega
 have fv0:¬EE (l.re (zi 0 1) 0) 0:=fun h=>h.2 (Zt0 sl 1 0 (gr 0) kq);rcases hw with(hw|⟨hw,hw'⟩)|((hw|hw)|hw)
 .obtain ⟨h0,hw⟩:=hw;rcases hw with⟨h0',hw⟩|⟨_,hw⟩
  .exact hf.2.2 hc' w (.inr ⟨h0,kr⟩)
  .exact hf.2.2 hc' w (.inl (.inl (Fp.2 (.inr (fvl w h0 hw)))))
 .exact hf.2.2 hc' w (.inl (.inl (Fp.2 (.inl hw'))))
 .exact hf.2.2 hc' w (.inl (.inl (Fp.2 (.inr hw))))
 .exact hf.2.2 hc' w (.inl (.inr hw))
 .exact sr
theorem Y6(p:Pf):(yl p).1=p.kind:=nw
theorem Rn{k q:Int}(h:yl p=(k,q))(hk:k=16\/k=17):p.kind=k/\p.Cb.kind=q:=by
 have e:=Y6 p;rw[h] at e;have e':p.kind=k:=e.symm;rw[Ux kn] at h;exact⟨e',congrArg Prod.snd h⟩
theorem L1{k q:Int}(h:yl p=(k,q))(hk:¬(k=16\/k=17))(hq:q≠0):p.kind=k/\(p.arg 0).kind=q:=by
 have e:=Y6 p;rw[h] at e;have e':p.kind=k:=e.symm;by_cases h0:0<p.args.length
 .rw[SM kn h0] at h;exact⟨e',congrArg Prod.snd h⟩
 .rw[Sf kn h0] at h
  grind
theorem Yby(hs:p.shape=true)(oh:OH c)(hr:Gn p=true)(he:(z7 p).2=0)(h:Bc p c X U):Bc (z7 p).1 c X U/\(z7 p).1.shape=true:=by
 have hm:yl p∈GR:=by unfold Gn at hr;grind
 simp only[GR,fW,gm,or_false] at hm;unfold z7 at he ⊢;rcases hm with e|e|e|e|e|e|e|e|e|e|e
 .have g:=L1 e kq kq;rw[e] at he ⊢;exact eG hs (.inl ⟨rfl,rfl⟩) g.1 g.2 h
 .have g:=L1 e kq kq;rw[e] at he ⊢;exact eG hs (.inr ⟨rfl,rfl⟩) g.1 g.2 h
 .have g:=L1 e kq kq;rw[e] at he ⊢;exact Yl7 hs oh g.1 g.2 he h
 .have g:=L1 e kq kq;rw[e] at he ⊢;exact ek hs oh (.inl ⟨rfl,rfl⟩) g.1 g.2 he h
 .have g:=L1 e kq kq;rw[e] at he ⊢;exact ek hs oh (.inr ⟨rfl,rfl⟩) g.1 g.2 he h
 .have g:=L1 e kq kq;rw[e] at he ⊢;exact dP hs oh (.inl ⟨rfl,rfl⟩) g.1 g.2 he h
 .have g:=L1 e kq kq;rw[e] at he ⊢;exact dP hs oh (.inr ⟨rfl,rfl⟩) g.1 g.2 he h
 .have g:=Rn e (.inl rfl);rw[e] at he ⊢;exact Yk hs (.inl g) h
 .have g:=Rn e (.inl rfl);rw[e] at he ⊢;exact Yk3 hs oh g.1 g.2 he h
 .have g:=Rn e (.inr rfl);rw[e] at he ⊢;exact Yk hs (.inr g) h
 .have g:=Rn e (.inr rfl);rw[e] at he ⊢;exact Yhq hs oh g.1 g.2 he h
end
def Mo(d e:Dr):Prop:=∀c X U,OH c->d c X U->e c X U
section
variable {d0 d1 e0 e1:Dr} {k i:Int} {j:Nat} {s:Ty} {f:Fm} {t:Tm}
theorem Yoq(h0:Mo d0 e0)(h1:Mo d1 e1):Mo (Jj d0 d1) (Jj e0 e1):=fun c X U o ⟨A,B,U0,U1,a,b,h⟩=>⟨A,B,U0,U1,h0 _ _ _ o a,h1 _ _ _ o b,h⟩
theorem Yqg(h0:Mo d0 e0):Mo (Iq j d0) (Iq j e0):=fun c X U o ⟨A,B,U0,a,h⟩=>⟨A,B,U0,h0 _ _ _ o a,h⟩
theorem Yky(h0:Mo d0 e0):Mo (I9 f d0) (I9 f e0):=fun c X U o ⟨e,B,U0,a,h⟩=>⟨e,B,U0,h0 _ _ _ (o.Ah e.1) a,h⟩
theorem Ynp(h0:Mo d0 e0)(h1:Mo d1 e1):Mo (I5 d0 d1) (I5 e0 e1):=fun c X U o ⟨A,B,U0,U1,a,b,h⟩=>⟨A,B,U0,U1,h0 _ _ _ o a,h1 _ _ _ o b,h⟩
theorem Yoj(h0:Mo d0 e0):Mo (IB k s d0) (IB k s e0):=fun c X U o ⟨e,B,U0,a,b,h⟩=>⟨e,B,U0,h0 _ _ _ (o.below _) a,b,h⟩
theorem Yta(h0:Mo d0 e0):Mo (IF k t d0) (IF k t e0):=fun c X U o ⟨s,A,U0,e,a,b,h⟩=>⟨s,A,U0,e,a,h0 _ _ _ o b,h⟩
theorem Yto(h0:Mo d0 e0):Mo (Im k f t d0) (Im k f t e0):=fun c X U o ⟨s,A,U0,e,e2,a,b,b',h⟩=>⟨s,A,U0,e,e2,a,b,h0 _ _ _ o b',h⟩
theorem Yqj(x0:Mi d0)(h0:Mo d0 e0)(h1:Mo d1 e1):Mo (Iw k d0 d1) (Iw k e0 e1):=fun c X U o ⟨s,A,B,U0,U1,e,a,b,b',e3,h⟩=>
 ⟨s,A,B,U0,U1,e,h0 _ _ _ o a,b,h1 _ _ _ ((o.below _).Ah (zp (x0 _ _ _ a).1 k7)) b',e3,h⟩
theorem Yo2(h0:Mo d0 e0)(h1:Mo d1 e1):Mo (H6 f t d0 d1) (H6 f t e0 e1):=fun c X U o ⟨e,e2,U0,U1,a,b,h⟩=>⟨e,e2,U0,U1,h0 _ _ _ o a,h1 _ _ _ ((o.below _).Ah e.1) b,h⟩
theorem Ykl(h0:Mo d0 e0)(h1:Mo d1 e1):Mo (HH f t d0 d1) (HH f t e0 e1):=fun c X U o ⟨e,e2,U0,U1,a,b,h⟩=>⟨e,e2,U0,U1,h0 _ _ _ o a,h1 _ _ _ ((o.below _).Ah (yt e.1 kq).1) b,h⟩
theorem Yio(h0:Mo d0 e0)(h1:Mo d1 e1):Mo (Jw f d0 d1) (Jw f e0 e1):=fun c X U o ⟨e,A,B,U0,U1,a,b,h⟩=>⟨e,A,B,U0,U1,h0 _ _ _ o a,h1 _ _ _ o b,h⟩
theorem Zy8(h0:Mo d0 e0):Mo (IG d0) (IG e0):=fun c X U o ⟨s,u,A,U0,a,h⟩=>⟨s,u,A,U0,h0 _ _ _ o a,h⟩
end
theorem Yhm{k i:Int}{s:Ty}{ts:List Tm}{fs:List Fm}{ds es:List Dr}(h0:Mo (ds.getD 0 nD) (es.getD 0 nD))(h1:Mo (ds.getD 1 nD) (es.getD 1 nD))(x0:Mi (ds.getD 0 nD)):Mo (ut k i s ts fs ds) (ut k i s ts fs es):=by
 unfold ut;by_cases a0:k=1
 .rw[if_pos a0,if_pos a0];exact fun _ _ _ _ h=>h
 rw[if_neg a0,if_neg a0];by_cases a1:k=2
 .rw[if_pos a1,if_pos a1];exact fun _ _ _ _ h=>h
 rw[if_neg a1,if_neg a1];by_cases a2:k=3
 .rw[if_pos a2,if_pos a2];exact Yoq h0 h1
 rw[if_neg a2,if_neg a2];by_cases a3:k=4\/k=5
 .rw[if_pos a3,if_pos a3];exact Yqg h0
 rw[if_neg a3,if_neg a3];by_cases a4:k=6
 .rw[if_pos a4,if_pos a4];exact Yky h0
 rw[if_neg a4,if_neg a4];by_cases a5:k=7
 .rw[if_pos a5,if_pos a5];exact Ynp h0 h1
 rw[if_neg a5,if_neg a5];by_cases a6:k=8\/k=12
 .rw[if_pos a6,if_pos a6];exact Yoj h0
 rw[if_neg a6,if_neg a6];by_cases a7:k=9\/k=13
 .rw[if_pos a7,if_pos a7];exact Yta h0
 rw[if_neg a7,if_neg a7];by_cases a8:k=10\/k=14
 .rw[if_pos a8,if_pos a8];exact Yto h0
 rw[if_neg a8,if_neg a8];by_cases a9:k=11\/k=15
 .rw[if_pos a9,if_pos a9];exact Yqj x0 h0 h1
 rw[if_neg a9,if_neg a9];by_cases a10:k=16
 .rw[if_pos a10,if_pos a10];exact Yo2 h0 h1
 rw[if_neg a10,if_neg a10];by_cases a11:k=17
 .rw[if_pos a11,if_pos a11];exact Ykl h0 h1
 rw[if_neg a11,if_neg a11];by_cases a12:k=18
 .rw[if_pos a12,if_pos a12];exact fun _ _ _ _ h=>h
 rw[if_neg a12,if_neg a12];by_cases a13:k=19
 .rw[if_pos a13,if_pos a13];exact Yio h0 h1
 rw[if_neg a13,if_neg a13];exact Zy8 h0
theorem RU{p:Pf}{k:Int}{nd:Nd}(hs:p.shape=true)(hk:p.kind=k)(hn:B6 k=some nd):p.args.length=nd.args:=by
 obtain⟨hh,_⟩:=zh hs;obtain⟨nd',n1,n2,n3,n4,_⟩:=GF hh;rw[hk,hn] at n1;obtain rfl:=gV n1;exact n4
theorem PL{p:Pf}(hs:p.shape=true){i:Nat}(hi:i<p.args.length):(p.arg i).shape=true:=by
 unfold Pf.arg;rw[vg hi];exact(zh hs).2.2.2 _ (fA hi)
theorem cY{p:Pf}{k u:Int}(h:yl p=(k,u))(hk:¬(k=16\/k=17))(hu:u≠0):p.kind=k/\0<p.args.length/\(p.arg 0).kind=u:=by
 exact qw
theorem UP{q p:Pf}{t:Tm}(he:(un q t p).2=0):(un q t p).1.shape=true:=by
 unfold un at he ⊢;by_cases h1:vh q 0 t≠0
 .rw[if_pos h1] at he;exact absurd he h1
 rw[if_neg h1] at he ⊢;exact((Pf.Aa _).1 (QX he)).1
theorem Zp7{p:Pf}(hs:p.shape=true)(hr:Gn p=true)(he:(z7 p).2=0):(z7 p).1.shape=true:=by
 unfold z7 at he ⊢;by_cases c1:yl p=(4,3)
 .rw[if_pos c1];obtain⟨_,h0,h3⟩:=cY c1 kq kq;have s0:=PL hs h0;have:=RU s0 h3 (nd:=⟨0,0,2,false,false⟩) rfl;exact PL s0 (by rw[this];decide)
 rw[if_neg c1] at he ⊢;by_cases c2:yl p=(5,3)
 .rw[if_pos c2];obtain⟨_,h0,h3⟩:=cY c2 kq kq;have s0:=PL hs h0;have:=RU s0 h3 (nd:=⟨0,0,2,false,false⟩) rfl;exact PL s0 (by rw[this];decide)
 rw[if_neg c2] at he ⊢;by_cases c3:yl p=(7,6)
 .rw[if_pos c3] at he ⊢;exact((Pf.Aa _).1 (QX he)).1
 rw[if_neg c3] at he ⊢;by_cases c4:yl p=(9,8)\/yl p=(13,12)
 .rw[if_pos c4] at he ⊢;exact((Pf.Aa _).1 (U7 he)).1
 rw[if_neg c4] at he ⊢;by_cases c5:yl p=(11,10)\/yl p=(15,14)
 .rw[if_pos c5] at he ⊢;exact UP he
 rw[if_neg c5] at he ⊢;by_cases c6:yl p=(16,5)
 .rw[if_pos c6] at he ⊢;exact UP he
 rw[if_neg c6] at he ⊢;by_cases c7:yl p=(17,8)
 .rw[if_pos c7] at he ⊢;unfold Ip at he ⊢;by_cases d1:wm (p.Cb.args.getD 1 AB) 0 1≠0
  .rw[if_pos d1] at he;exact absurd he d1
  rw[if_neg d1] at he ⊢;by_cases d2:vh (p.arg 1) 0 (EY (p.Cb.args.getD 1 AB))≠0
  .rw[if_pos d2] at he;exact absurd he d2
  rw[if_neg d2] at he ⊢;exact UP he
 rw[if_neg c7];have h:=of_decide_eq_true hr;simp only[GR,fW,gm,or_false] at h;have hk:p.kind=16\/p.kind=17:=by
  rw[<-Ov];rcases h with h|h|h|h|h|h|h|h|h|h|h
  .exact absurd h c1
  .exact absurd h c2
  .exact absurd h c3
  .exact absurd (.inl h) c4
  .exact absurd (.inr h) c4
  .exact absurd (.inl h) c5
  .exact absurd (.inr h) c5
  .rw[h];exact .inl rfl
  .exact absurd h c6
  .rw[h];exact .inr rfl
  .exact absurd h c7
 refine PL hs ?_;rcases hk with hk|hk
 .rw[RU hs hk (nd:=⟨1,1,2,false,false⟩) rfl];decide
 .rw[RU hs hk (nd:=⟨1,1,2,false,false⟩) rfl];decide
theorem ez:∀(l:List Pf),(Pf.CY l).2.2=0->(Pf.CY l).1.length=l.length/\∀m (h:m<l.length) (h':m<(Pf.CY l).1.length),(Pf.CY l).1[m]=l[m]\/((Pf.CY l).1[m]=l[m].nx.1/\l[m].nx.2.2=0)
 |[],_=>⟨kz,fun m h=>kM⟩
 |p::l,he=>by
  generalize hq:Pf.CY (p::l)=q at he ⊢;by_cases h1:p.nx.2.1=true\/p.nx.2.2≠0
  .have e:q=(p.nx.1::l,p.nx.2.1,p.nx.2.2):=by rw[<-hq,Pf.CY,if_pos h1]
   grind
  .have e:q=(p::(Pf.CY l).1,(Pf.CY l).2.1,(Pf.CY l).2.2):=by rw[<-hq,Pf.CY,if_neg h1]
   subst e;obtain⟨a,b⟩:=ez l he
   grind
theorem Yon(p:Pf):p.shape=true->p.nx.2.2=0->p.nx.1.shape=true/\Mo (Bc p) (Bc p.nx.1):=by
 induction p using Pf.ind with
 |h p ih=>
  intro hs he;rw[Pf.DC] at he ⊢;by_cases hr:Gn p=true
  .rw[if_pos hr] at he ⊢;refine⟨Zp7 hs hr he,fun c X U oh h=>(Yby hs oh hr he h).1⟩
  .rw[if_neg hr] at he ⊢;obtain⟨l1,l2⟩:=ez p.args he;obtain⟨_,s2,s3,s4⟩:=zh hs;have key:∀m (h:m<p.args.length) (h':m<(Pf.CY p.args).1.length),(Pf.CY p.args).1[m].shape=true/\Mo (Bc p.args[m]) (Bc (Pf.CY p.args).1[m]):=fun m h h'=>by
    rcases l2 m h h' with e|⟨e,e0⟩
    .rw[e];exact⟨s4 _ (fA h),fun c X U _ h=>h⟩
    grind
   refine⟨R2 hs rfl rfl l1 s2 s3 fun x hx=> ?_,fun c X U oh h=> ?_⟩
   .obtain ⟨m,hm,rfl⟩:=gj hx
    grind
   .rw[vy] at h;rw[vy];simp only[Pf.Ai,Pf.AG,Pf.AO,Pf.Am,Pf.Au,Pf.Af];have g:∀m,Mo ((p.args.map Bc).getD m nD) (((Pf.CY p.args).1.map Bc).getD m nD):=fun m=>by
     by_cases hm:m<p.args.length
     .grind
     .have e1:(p.args.map Bc).getD m nD=nD:=kr
      rw[e1];exact fun c X U _ h=>h.elim
    have x0:Mi ((p.args.map Bc).getD 0 nD):=by
     by_cases hm:0<p.args.length
     .have e1:(p.args.map Bc).getD 0 nD=Bc p.args[0]:=kr
      rw[e1];exact fun c X U=>IC
     .have e1:(p.args.map Bc).getD 0 nD=nD:=kr
      rw[e1];exact fun c X U h=>h.elim
    exact Yhm (g 0) (g 1) x0 c X U oh h
structure Cv (c c':Ck):Prop where
 l:c'.lems=c.lems
 t:c'.tys=c.tys
 n:c.hyps.length=c'.hyps.length
 h:∀i (h1:i<c.hyps.length) (h2:i<c'.hyps.length),FJ c.hyps[i] c'.hyps[i]
theorem Cv.refl(c:Ck):Cv c c:=⟨rfl,rfl,rfl,fun i _ _=> .refl _⟩
theorem Cv.below{c c':Ck}(h:Cv c c')(l:List Ty):Cv (c.below l) (c'.below l):=⟨h.l,by simp[Ck.below,h.t],by simp[Ck.below,h.n],fun i h1 h2=>by
 simp only[Ck.below,gH] at h1 h2;simp only[Ck.below,jw];exact(h.h i h1 h2).As (gr 0) kn⟩
theorem Cv.K0{c c':Ck}(h:Cv c c'){f f':Fm}(hf:FJ f f'):Cv (c.Ah f) (c'.Ah f'):=⟨h.l,h.t,by simp[Ck.Ah,h.n],fun i h1 h2=>by
 simp only[Ck.Ah,ga,gT] at h1 h2;simp only[Ck.Ah];by_cases hi:i<c.hyps.length
 .rw[jP hi,jP (by rw[<-h.n];exact hi)];exact h.h i hi _
 .rw[jK kn,jK (by rw[<-h.n];omega)];simp only[List.getElem_singleton];exact hf⟩
theorem Cv.Ah{c c':Ck}(h:Cv c c')(f:Fm):Cv (c.Ah f) (c'.Ah f):=h.K0 (.refl f)
theorem Cv.ok{c c':Ck}(h:Cv c c'){X:Fm}(o:CO c X):CO c' X:=⟨o.1,by rw[h.t];exact o.2⟩
theorem Cv.ty{c c':Ck}(h:Cv c c'){t:Tm}{s:Ty}(o:Ev c t s):Ev c' t s:=⟨o.1,by rw[h.t];exact o.2⟩
theorem Cv.fin{c c':Ck}(h:Cv c c'){Y X:Fm}{V U:Us}(o:fin c Y V X U):fin c' Y V X U:=⟨o.1,h.ok o.2.1,o.2.2⟩
def DV(d e:Dr):Prop:=∀c c' X U,Cv c c'->d c X U->e c' X U
section
variable {d0 d1 e0 e1:Dr} {k i:Int} {j:Nat} {s:Ty} {f:Fm} {t:Tm}
theorem fin.conv{c:Ck}{Y Z X:Fm}{V U:Us}(h:fin c Y V X U)(hj:FJ Z Y):fin c Z V X U:=⟨hj.trans h.1,h.2⟩
theorem Yrk:DV (IJ i) (IJ i):=fun c c' X U o ⟨a,b,h⟩=>by
 have n:=o.n;refine⟨a,kn,(o.fin h).conv ?_⟩;rw[vg (show c'.hyps.length-1-i.toNat<c'.hyps.length by omega),vg (show c.hyps.length-1-i.toNat<c.hyps.length by omega)];have e:c'.hyps.length-1-i.toNat=c.hyps.length-1-i.toNat:=kn
 have:=(o.h (c.hyps.length-1-i.toNat) kn kn).symm;simp only[e];exact this
theorem Ypx:DV (Ka i) (Ka i):=fun c c' X U o ⟨a,b,h⟩=>⟨a,by rw[o.l];exact b,by rw[o.l];exact o.fin h⟩
theorem Yof(h0:DV d0 e0)(h1:DV d1 e1):DV (Jj d0 d1) (Jj e0 e1):=fun c c' X U o ⟨A,B,U0,U1,a,b,h⟩=>⟨A,B,U0,U1,h0 _ _ _ _ o a,h1 _ _ _ _ o b,o.fin h⟩
theorem Yp9(h0:DV d0 e0):DV (Iq j d0) (Iq j e0):=fun c c' X U o ⟨A,B,U0,a,h⟩=>⟨A,B,U0,h0 _ _ _ _ o a,o.fin h⟩
theorem Ymb(h0:DV d0 e0):DV (I9 f d0) (I9 f e0):=fun c c' X U o ⟨e,B,U0,a,h⟩=>⟨o.ok e,B,U0,h0 _ _ _ _ (o.Ah f) a,o.fin h⟩
theorem Ynh(h0:DV d0 e0)(h1:DV d1 e1):DV (I5 d0 d1) (I5 e0 e1):=fun c c' X U o ⟨A,B,U0,U1,a,b,h⟩=>⟨A,B,U0,U1,h0 _ _ _ _ o a,h1 _ _ _ _ o b,o.fin h⟩
theorem Yp7(h0:DV d0 e0):DV (IB k s d0) (IB k s e0):=fun c c' X U o ⟨e,B,U0,a,b,h⟩=>⟨e,B,U0,h0 _ _ _ _ (o.below _) a,b,o.fin h⟩
theorem Ys4(h0:DV d0 e0):DV (IF k t d0) (IF k t e0):=fun c c' X U o ⟨s,A,U0,e,a,b,h⟩=>⟨s,A,U0,e,o.ty a,h0 _ _ _ _ o b,o.fin h⟩
theorem Ys1(h0:DV d0 e0):DV (Im k f t d0) (Im k f t e0):=fun c c' X U o ⟨s,A,U0,e,e2,a,b,b',h⟩=>⟨s,A,U0,e,e2,o.ok a,o.ty b,h0 _ _ _ _ o b',o.fin h⟩
theorem Yrh(h0:DV d0 e0)(h1:DV d1 e1):DV (Iw k d0 d1) (Iw k e0 e1):=fun c c' X U o ⟨s,A,B,U0,U1,e,a,b,b',e3,h⟩=>
 ⟨s,A,B,U0,U1,e,h0 _ _ _ _ o a,o.ok b,h1 _ _ _ _ ((o.below _).Ah A) b',e3,o.fin h⟩
theorem Yr6(h0:DV d0 e0)(h1:DV d1 e1):DV (H6 f t d0 d1) (H6 f t e0 e1):=fun c c' X U o ⟨e,e2,U0,U1,a,b,h⟩=>⟨(o.below _).ok e,o.ty e2,U0,U1,h0 _ _ _ _ o a,h1 _ _ _ _ ((o.below _).Ah f) b,o.fin h⟩
theorem Ykz(h0:DV d0 e0)(h1:DV d1 e1):DV (HH f t d0 d1) (HH f t e0 e1):=fun c c' X U o ⟨e,e2,U0,U1,a,b,h⟩=>⟨(o.below _).ok e,o.ty e2,U0,U1,h0 _ _ _ _ o a,h1 _ _ _ _ ((o.below _).Ah _) b,o.fin h⟩
theorem Ymx:DV (J9 t) (J9 t):=fun c c' X U o ⟨a,h⟩=>⟨o.ty a,o.fin h⟩
theorem Ye6(h0:DV d0 e0)(h1:DV d1 e1):DV (Jw f d0 d1) (Jw f e0 e1):=fun c c' X U o ⟨e,A,B,U0,U1,a,b,h⟩=>⟨(o.below _).ok e,A,B,U0,U1,h0 _ _ _ _ o a,h1 _ _ _ _ o b,o.fin h⟩
theorem Yec(h0:DV d0 e0):DV (IG d0) (IG e0):=fun c c' X U o ⟨s,u,A,U0,a,h⟩=>⟨s,u,A,U0,h0 _ _ _ _ o a,o.fin h⟩
end
theorem Ygg{k i:Int}{s:Ty}{ts:List Tm}{fs:List Fm}{ds:List Dr}(h0:DV (ds.getD 0 nD) (ds.getD 0 nD))(h1:DV (ds.getD 1 nD) (ds.getD 1 nD)):DV (ut k i s ts fs ds) (ut k i s ts fs ds):=
 Wi (Q:=fun d=>DV d d) Yrk Ypx (Yof h0 h1) (Yp9 h0) (Ymb h0) (Ynh h0 h1) (Yp7 h0) (Ys4 h0) (Ys1 h0) (Yrh h0 h1) (Yr6 h0 h1) (Ykz h0 h1) Ymx (Ye6 h0 h1) (Yec h0)
theorem Yok(p:Pf):DV (Bc p) (Bc p):=by
 induction p using Pf.ind with
 |h p ih=>
  intro c c' X U o h;rw[vy] at h ⊢;have g:∀m,DV ((p.args.map Bc).getD m nD) ((p.args.map Bc).getD m nD):=fun m=>by
   by_cases hm:m<p.args.length
   .have e1:(p.args.map Bc).getD m nD=Bc p.args[m]:=by simp[List.getD,hm]
    rw[e1];exact ih _ (fA hm)
   .have e1:(p.args.map Bc).getD m nD=nD:=by simp[List.getD,show p.args.length<=m by omega]
    rw[e1];exact fun c c' X U _ h=>h.elim
  exact Ygg (g 0) (g 1) c c' X U o h
def OL(e:Int):Prop:=e=0\/JV e
theorem ZB:∀(l m:List Tm),LJ l m->(∀i (h1:i<l.length) (h2:i<m.length),Jn l[i] m[i]->OL (FA l[i] m[i] 1000))->OL (E8 l m)
 |[],m,_,_=>by cases m<;>exact .inl rfl
 |_::_,[],_,_=> .inl rfl
 |x::l,y::m,h,hx=>by
  simp only[E8];have h0:=hx 0 ko ko (h.2 0 ko ko);split
  .exact h0
  .exact ZB l m ⟨by have:=h.1;simpa using this,fun i a b=>by have:=h.2 (i+1) (by simpa using a) (by simpa using b);simpa using this⟩ fun i a b hj=>by have:=hx (i+1) (by simpa using a) (by simpa using b) kY;simpa using this
theorem cr:∀(l m:List Fm),(∀i (h1:i<l.length) (h2:i<m.length),OL (Gs l[i] m[i]))->OL (FI l m)
 |[],m,_=>by cases m<;>(simp only[FI];exact .inl rfl)
 |_::_,[],_=>by simp only[FI];exact .inl rfl
 |x::l,y::m,h=>by
  simp only[FI];split
  .exact h 0 ko ko
  .exact cr l m fun i h1 h2=>by have:=h (i+1) lT (by simpa using h2);simpa using this
theorem Ytf{f:Fm}:∀{h:Fm} (g:List Ty),FJ f h->f.err=0->h.err=0->f.A9 g->h.A9 g->g.length+f.size<=100000->OL (Gs f h):=by
 induction f using Fm.ind with
 |h f ih=>
  intro h g hj ef eh of oh hz;obtain⟨a,b,cc,d,e⟩:=Cf.1 hj;have o1:=(Fm.A8 _ _).1 of;have o2:=(Fm.A8 _ _).1 oh;have sz:=f.size_eq;rw[QD,if_pos ⟨a.symm,b.symm⟩];have ht:OL (E8 f.terms h.terms):=ZB _ _ cc fun i h1 h2 hjn=>by
   have m1:=fA h1;have m2:=fA h2;have t1:=Mq ef m1;have t2:=Mq eh m2;have s1:=(Tm.Aa _).1 t1;have s2:=(Tm.Aa _).1 t2;exact Yl6 hjn t1 t2 (Kz (by rw[o1.1 _ m1]) s1.1 kn) (Kz (by rw[o2.1 _ m2]) s2.1 kn)
  split
  .exact ht
  .refine cr _ _ fun i h1 h2=> ?_;have m1:=fA h1;have m2:=fA h2;have hx:=zc Fm.size m1;have k1:=o1.2 _ m1;have k2:=o2.2 _ m2;have ec:C6 g h=C6 g f:=by unfold C6;rw[a,b]
   rw[ec] at k2;have lc:(C6 g f).length<=g.length+1:=by unfold C6;split<;>simp
   exact ih _ m1 (C6 g f) (e i h1 h2) (xh ef m1) (xh eh m2) k1 k2 kn
theorem Wu{f h:Fm}{g:List Ty}(hj:FJ f h)(ef:f.err=0)(eh:h.err=0)(of:f.A9 g)(oh:h.A9 g)(hg:g.length<=100):OL (Gr f h):=by
 unfold Gr;rw[if_neg (by simp[ef]),if_neg (by simp[eh])];exact Ytf g hj ef eh of oh (by have:=((Fm.Aa f).1 ef).2;omega)
theorem Ygo{f:Fm}{g:List Ty}(h:f.A9 g)(he:f.err=0)(hg:g.length<=100):f.near=true:=by
 have s:=(Fm.Aa f).1 he;exact Uy (C:=5000) kn fun p hp q hq=>by
  have:=Q2 f g 0 s.1 h p hp q hq;omega
theorem Nl{f:Fm}{t:Tm}{g:List Ty}{s:Ty}(hf:f.A9 (g++[s]))(ef:f.err=0)(et:t.err=0)(ht:t.inf g=(s,0))(hg:g.length<=50):OL (Cr f t).2/\((Cr f t).2=0->(Cr f t).1=f.put 0 t/\(f.put 0 t).err=0/\(f.put 0 t).A9 g):=by
 have st:=(Tm.Aa t).1 et;have e:(Cr f t).2=xm f 0 t:=rfl;refine⟨?_,fun h=> ?_⟩
 .rw[e];rcases Zuc ef (Ygo hf ef kC) et (Kz (by rw[ht]) st.1 kn) with h|h
  .exact .inl h
  .exact .inr (.inr (.inl h))
 .have hp:(Cr f t).1=f.put 0 t:=by unfold Cr;exact if_pos (e▸h)
  obtain⟨p1,p2⟩:=LC hf ht h;rw[hp] at p1 p2;exact⟨hp,p1,p2⟩
def CR(X:Fm)(U:Us)(R:Cj):Prop:=JV R.2.2\/(R.2.2=0/\FJ X R.1/\(wi X=true->∀w∈R.2.1,U w))
def CF(c:Ck)(X:Fm)(U:Us)(r:Cj):Prop:=JV r.2.2\/∃x us,r=(x,us,0)/\FJ X x/\x.err=0/\CO c x/\∀w∈us,U w
def EP(r:Rs)(d:Dr):Prop:=∀c X U,c.ok->d c X U->CF c X U (r c)
theorem Fx{e:Int}(h:JV e):e≠0:=by rcases h with h|h|h<;>omega
theorem EI{X:Fm}{U:Us}{e:Int}(h:JV e):CR X U (yf e):= .inl h
theorem Ytb{c:Ck}{X:Fm}{U:Us}{R:Cj}(h:CR X U R)(hok:GI c (DH R)):CF c X U (DH R):=by
 rcases h with h|⟨h1,h2,h3⟩
 .left;unfold DH;rw[if_pos (Fx h)];exact h
 unfold DH at hok ⊢;rw[if_neg kn] at hok ⊢;by_cases h4:R.1.err≠0
 .rw[if_pos h4];exact .inl (.inr (.inl rfl))
 rw[if_neg h4] at hok ⊢;obtain⟨a,b,_⟩:=hok.1 rfl;refine .inr ⟨_,_,rfl,h2,a,⟨((Fm.Aa _).1 a).1,b⟩,fun w hw=> ?_⟩;by_cases hc:wi R.1=true
 .rw[if_pos hc] at hw;exact h3 (h2.cont.trans hc) w hw
 grind
section
variable {r0 r1:Rs} {d0 d1:Dr} {c:Ck} {X:Fm} {U:Us}
theorem VY(i:Int)(h:IJ i c X U):CR X U (G6 c i):=by
 obtain⟨a,b,hf⟩:=h;unfold G6;rw[if_neg kn];exact .inr ⟨rfl,hf.1.symm,fun _ w hw=>by cases hw⟩
theorem TG(i:Int)(h:Ka i c X U):CR X U (G5 c i):=by
 obtain⟨a,b,hf⟩:=h;unfold G5;rw[if_neg kn];exact .inr ⟨rfl,hf.1.symm,fun _ w hw=>by cases hw⟩
theorem VZ(h0:EP r0 d0)(h1:EP r1 d1)(hc:c.ok)(h:Jj d0 d1 c X U):CR X U (Hx r0 r1 c):=by
 obtain⟨A,B,U0,U1,a,b,hf⟩:=h;unfold Hx;rcases h0 c A U0 hc a with hl|⟨x0,u0,e0,j0,er0,o0,w0⟩
 .exact qm
 rw[e0,if_neg ko];rcases h1 c B U1 hc b with hl|⟨x1,u1,e1,j1,er1,o1,w1⟩
 .exact .inl hl
 rw[e1];exact .inr ⟨rfl,hf.1.symm.trans (FJ.Ju j0 j1),fun hc w hw=>hf.2.2 hc w ((AM.1 hw).imp (w0 w) (w1 w))⟩
theorem N6(j:Nat)(hj:j<2)(h0:EP r0 d0)(hc:c.ok)(h:Iq j d0 c X U):CR X U (G4 j r0 c):=by
 obtain⟨A,B,U0,a,hf⟩:=h;unfold G4;rcases h0 c _ U0 hc a with hl|⟨x0,u0,e0,j0,er0,o0,w0⟩
 .exact qm
 obtain⟨A',B',rfl,ja,jb⟩:=j0.two;rw[e0,if_neg ko,if_neg kV];refine .inr ⟨rfl,hf.1.symm.trans ?_,fun hc w hw=>hf.2.2 hc w (w0 w hw)⟩;rcases j with _|_|j
 .exact ja
 .exact jb
 .omega
theorem Ysv(f:Fm)(ef:f.size<=4096)(h0:EP r0 d0)(hc:c.ok)(h:I9 f d0 c X U):CR X U (Hr f r0 c):=by
 obtain⟨of,B,U0,a,hf⟩:=h;have e:=(Fm.Aa f).2 ⟨of.1,ef⟩;unfold Hr;rw[Q4 of.2 e hc.ctx,if_neg ko];by_cases hr:c.room 0 1≠0
 .exact rO
 rw[if_neg hr];have hw:=hc.Ah (xw (fC.1 hr)).2 e of.2;rcases h0 _ _ U0 hw a with hl|⟨x0,u0,e0,j0,er0,o0,w0⟩
 .exact .inl hl
 rw[e0];exact .inr ⟨rfl,hf.1.symm.trans (FJ.Ju (.refl f) j0),fun hc w hw=>hf.2.2 hc w (w0 w hw)⟩
theorem Ysl(h0:EP r0 d0)(h1:EP r1 d1)(hc:c.ok)(h:I5 d0 d1 c X U):CR X U (HA r0 r1 c):=by
 obtain⟨A,B,U0,U1,a,b,hf⟩:=h;unfold HA;rcases h0 c _ U0 hc a with hl|⟨x0,u0,e0,j0,er0,o0,w0⟩
 .exact qm
 obtain⟨A',B',rfl,ja,jb⟩:=j0.two;rw[e0,if_neg ko,if_neg kV];rcases h1 c _ U1 hc b with hl|⟨x1,u1,e1,j1,er1,o1,w1⟩
 .exact qm
 rw[e1,if_neg ko];have hA:A'.err=0:=xh er0 kV;have hm:=Wu (ja.symm.trans j1) hA er1 (Qi (.inr rfl) o0.2).1 o1.2 mW;rcases hm with hm|hm
 .exact .inr ⟨hm,hf.1.symm.trans jb,fun hc w hw=>hf.2.2 hc w ((AM.1 hw).imp (w0 w) (w1 w))⟩
 .exact .inl hm
theorem OV(k:Int)(s:Ty)(hk:k=8\/k=12)(h0:EP r0 d0)(hc:c.ok)(h:IB k s d0 c X U):CR X U (Hq k s r0 c):=by
 obtain⟨hs,B,U0,a,hz,hf⟩:=h;unfold Hq;by_cases hr:c.room 1 0≠0
 .exact rO
 rw[if_neg hr];have hb:=hc.below (l:=[s]) (xw (fC.1 hr)).1 kr;rcases h0 _ _ U0 hb a with hl|⟨x0,u0,e0,j0,er0,o0,w0⟩
 .exact qm
 rw[e0,if_neg ko];have hu:wi X=true->∀w∈Eg u0 1,U w:=fun hc w hw=>by
  obtain⟨a,b⟩:=B3.1 hw;exact hf.2.2 hc w ⟨a,w0 _ b⟩
 rcases hk with rfl|rfl
 .rw[if_pos rfl];exact .inr ⟨rfl,hf.1.symm.trans (FJ.Hl j0),hu⟩
 .rw[if_neg kq];have hn:¬GV u0=true:=fun hh=>by
   cases u0 with
   |nil=>cases hh
   |cons x l=>
    have hx:x=0:=by simpa[GV] using hh
    grind
  simp only;rw[if_neg hn];exact .inr ⟨rfl,hf.1.symm.trans (FJ.Hl j0),hu⟩
theorem ZG(k:Int)(t:Tm)(hk:k=9\/k=13)(et:t.size<=4096)(h0:EP r0 d0)(hc:c.ok)(h:IF k t d0 c X U):CR X U (atR k t r0 c):=by
 obtain⟨s,A,U0,hs,ht,a,hf⟩:=h;have e:=(Tm.Aa t).2 ⟨ht.1,et⟩;unfold atR;rw[VB hc e ht.2,if_neg ko];rcases h0 c _ U0 hc a with hl|⟨x0,u0,e0,j0,er0,o0,w0⟩
 .exact qm
 obtain⟨A',rfl,ja⟩:=j0.qu;rw[e0,if_neg ko,if_neg (by simp[AL,kI]),if_neg k7];have hq:4<=(if k=13 then(6:Int) else 4)/\(if k=13 then(6:Int) else 4)<=7:=kn
 have hg:(AL (if k=13 then 6 else 4) s A').args.getD 0 AK=A':=rfl;simp only[hg];obtain⟨p1,p2⟩:=Nl (Gk hq o0.2) (xh er0 k7) e ht.2 mW;rcases p1 with p1|p1
 .obtain ⟨p3,p4,p5⟩:=p2 p1;refine .inr ⟨p1,?_,fun hc w hw=> ?_⟩
  .simp only;rw[p3];exact hf.1.symm.trans (ja.put (Jn.refl t))
  .simp only[kL] at hw;rcases hk with rfl|rfl
   .rw[if_neg kq] at hw;exact hf.2.2 hc w ((AM.1 hw).imp (w0 w) fun h=>⟨kq,(K9 e).1 h⟩)
   .rw[if_pos rfl] at hw;exact hf.2.2 hc w (.inl (w0 w hw))
 .exact .inl p1
theorem MG{f:Fm}{t:Tm}{s:Ty}{g:List Ty}{F:Fm}{U0:Us}(h0:EP r0 d0)(hc:c.ok)(hg:c.tys=g)(hl:g.length<=50)(hf:f.A9 (g++[s]))(ef:f.err=0)(et:t.err=0)(ht:t.inf g=(s,0))(hj:FJ F (f.put 0 t))(a:d0 c F U0):
 JV (yy r0 c f t).2\/((yy r0 c f t).2=0/\∀w∈(yy r0 c f t).1,U0 w):=by
 subst hg;unfold yy;rcases h0 c _ U0 hc a with hl|⟨x0,u0,e0,j0,er0,o0,w0⟩
 .rw[if_pos (Fx hl)];grind
 rw[e0,if_neg ko];obtain⟨p1,p2⟩:=Nl hf ef et ht hl;rcases p1 with p1|p1
 .obtain ⟨p3,p4,p5⟩:=p2 p1;rw[if_neg kn,p3];rcases Wu (hj.symm.trans j0) p4 er0 p5 o0.2 kn with hm|hm;all_goals grind
 .rw[if_pos (Fx p1)];grind
theorem Oj(k:Int)(f:Fm)(t:Tm)(hk:k=10\/k=14)(ef:f.size<=4096)(et:t.size<=4096)(h0:EP r0 d0)(hc:c.ok)(h:Im k f t d0 c X U):CR X U (Hj k f t r0 c):=by
 obtain⟨s,A,U0,hfe,hs,of,ht,a,hf⟩:=h;have e:=(Tm.Aa t).2 ⟨ht.1,et⟩;have e2:=(Fm.Aa f).2 ⟨of.1,ef⟩;have hq:4<=(if k=14 then(7:Int) else 5)/\(if k=14 then(7:Int) else 5)<=7:=kn
 have oA:A.A9 (c.tys++[s]):=Gk hq (by rw[<-hfe];exact of.2);have eA:A.err=0:=xh e2 (by rw[hfe];simp[AL]);unfold Hj;rw[Q4 of.2 e2 hc.ctx,VB hc e ht.2,if_neg ko,if_neg (by rw[hfe];simp[AL,kI]),if_neg ko,if_neg (by rw[hfe];simp[AL])];have hg:f.args.getD 0 AK=A:=by rw[hfe];rfl
 rw[hg];rcases MG h0 hc rfl mW oA eA e ht.2 (.refl _) a with hl|⟨h1,h2⟩
 .exact .inl hl
 .refine .inr ⟨h1,hf.1.symm,fun hc w hw=> ?_⟩;simp only[kL] at hw;rcases hk with rfl|rfl
  .rw[if_neg kq] at hw;exact hf.2.2 hc w ((AM.1 hw).imp (h2 w) fun h=>⟨kq,(K9 e).1 h⟩)
  .rw[if_pos rfl] at hw;exact hf.2.2 hc w (.inl (h2 w hw))
theorem Ytx(t:Tm)(et:t.size<=4096)(hc:c.ok)(h:J9 t c X U):CR X U (Io t c):=by
 obtain⟨ht,hf⟩:=h;exact .inr ⟨Rm hc ((Tm.Aa t).2 ⟨ht.1,et⟩) ht.2,hf.1.symm,fun _ w hw=>by cases hw⟩
end
theorem FJ.A6{f:Fm}:∀{h:Fm},FJ f h->∀b:Int,∀q∈h.A6 b,∃p∈f.A6 b,p.2=q.2/\Jn p.1 q.1:=by
 induction f using Fm.ind with
 |h f ih=>
  intro h hj b q hq;obtain⟨a,_,cc,d,e⟩:=Cf.1 hj;rw[Fm.A0,fV] at hq;rcases hq with hq|hq
  .obtain ⟨t,ht,rfl⟩:=fO.1 hq;obtain⟨i,hi,rfl⟩:=gj ht;have hi':i<f.terms.length:=by rw[cc.1];exact hi
   exact⟨(f.terms[i],b),by rw[Fm.A0];simp,rfl,cc.2 i hi' hi⟩
  .obtain ⟨x,hx,hq⟩:=gh.1 hq;obtain⟨i,hi,rfl⟩:=gj hx;have hi':i<f.args.length:=kn
   rw[a] at hq;obtain⟨p,hp,h1,h2⟩:=ih _ (fA hi') (e i hi' hi) _ q hq;exact⟨p,lQ,h1,h2⟩
theorem Zq:∀(l:List Tm),(wo l).2=0->∀t∈(wo l).1,nf t
 |[],_,t,h=>by simp[wo] at h
 |t::l,h,u,hu=>by
  unfold wo at h hu;by_cases h1:(yv t 1000).2.2≠0
  .grind
  rw[if_neg h1] at h hu;by_cases h2:(wo l).2≠0
  .grind
  rw[if_neg h2] at h hu;rcases fW.1 hu with rfl|hu
  .exact (Kn (fC.1 h1)).2.2.2.1
  .exact Zq l (fC.1 h2) u hu
theorem Yfx(f:Fm):(y9 f).2=0->∀b:Int,∀q∈(y9 f).1.A6 b,nf q.1:=by
 induction f using Fm.ind with
 |h f ih=>
  intro h b q hq;rw[PM] at h hq;by_cases h1:(wo f.terms).2≠0
  .grind
  rw[if_neg h1] at h hq;by_cases h2:(xd f.args).2≠0
  .grind
  rw[if_neg h2] at h hq;obtain⟨a,c⟩:=Qr (fun x y=>∀b:Int,∀q∈y.A6 b,nf q.1) f.args (fun x hx hn=>ih x hx hn) (fC.1 h2);rw[Fm.A0,fV] at hq;simp only[Fm.Am,Fm.Af] at hq;rcases hq with hq|hq
  .obtain ⟨t,ht,rfl⟩:=fO.1 hq;exact Zq _ (fC.1 h1) t ht
  .obtain ⟨x,hx,hq⟩:=gh.1 hq;obtain⟨i,hi,rfl⟩:=gj hx
   grind
theorem Yia{f h:Fm}(hs:f.shape=true)(hj:FJ f h)(hn:∀q∈h.A6 0,nf q.1)(h0:zq 0 f=0):zq 0 h=0:=by
 refine WO fun q hq=>gG fun hc=> ?_;obtain⟨p,hp,e1,e2⟩:=hj.A6 0 q hq;have hp2:=u3 p hp;have:=Ysa (e2.VA (hn q hq)) (xj f hs 0 p hp) (0+q.2) kn hc;rw[<-e1] at this;exact this (TH h0 p hp)
theorem bF:∀(l:List Tm),(∀t∈l,t.err=0/\t.near=true)->OL (wo l).2
 |[],_=> .inl rfl
 |t::l,h=>by
  unfold wo;by_cases h1:(yv t 1000).2.2≠0
  .rw[if_pos h1];exact .inr (.inr ((Wg (h t ko).1 (h t ko).2).resolve_left h1))
  rw[if_neg h1];by_cases h2:(wo l).2≠0
  .rw[if_pos h2];exact bF l fun u hu=>h u kr
  rw[if_neg h2];exact .inl rfl
theorem Ygb(f:Fm):∀g:List Ty,f.err=0->f.A9 g->g.length+f.size<=100000->OL (y9 f).2:=by
 induction f using Fm.ind with
 |h f ih=>
  intro g ef of hz;have o1:=(Fm.A8 _ _).1 of;have sz:=f.size_eq;rw[PM];by_cases h1:(wo f.terms).2≠0
  .rw[if_pos h1];exact bF _ fun t ht=>by
    have t1:=Mq ef ht;have s1:=(Tm.Aa _).1 t1;exact⟨t1,Kz (by rw[o1.1 _ ht]) s1.1 kn⟩
  rw[if_neg h1];have key:∀l:List Fm,(∀x∈l,x∈f.args)->OL (xd l).2:=by
   intro l;induction l with
   |nil=>intro _;simp only[xd];exact .inl rfl
   |cons x l ihl=>
    intro hx;simp only[xd];have hm:=hx x ko;have hx2:=zc Fm.size hm;have lc:(C6 g f).length<=g.length+1:=by unfold C6;grind
    split
    .exact ih x hm (C6 g f) (xh ef hm) (o1.2 _ hm) kn
    grind
  grind
section
variable {r0 r1:Rs} {d0 d1:Dr} {c:Ck} {X:Fm} {U:Us}
theorem OE(k:Int)(hk:k=11\/k=15)(v1:DV d1 d1)(h0:EP r0 d0)(h1:EP r1 d1)(hc:c.ok)(h:Iw k d0 d1 c X U):CR X U (HC k r0 r1 c):=by
 obtain⟨s,A,B,U0,U1,hs,a,oB,b,hz,hf⟩:=h;unfold HC;rcases h0 c _ U0 hc a with hl|⟨x0,u0,e0,j0,er0,o0,w0⟩
 .exact qm
 obtain⟨A',rfl,ja⟩:=j0.qu;rw[e0,if_neg ko,if_neg (by simp[AL,kI])];by_cases hr:c.room 1 1≠0
 .exact rO
 rw[if_neg hr];have hr':=xw (fC.1 hr);have hq:4<=(if k=15 then(7:Int) else 5)/\(if k=15 then(7:Int) else 5)<=7:=kn
 have oA:=Gk hq o0.2;have eA:=xh er0 (x:=A') k7;have hb:=hc.below (l:=[s]) hr'.1 kr;have hw:=hb.Ah (f:=A') lX eA (by simpa[Ck.below] using oA);have eo:GB r1 c (AL (if k=15 then 7 else 5) s A')=r1 ((c.below [s]).Ah A'):=rfl;simp only[eo];have b':=v1 _ _ _ _ (Cv.K0 (Cv.refl (c.below [s])) ja) b;rcases h1 _ _ U1 hw b' with hl|⟨x1,u1,e1,j1,er1,o1,w1⟩
 .exact qm
 rw[e1,if_neg ko];simp only;have sB:(B.As 0 1).shape=true:=(yt oB.1 kq).1;have t0:zq 0 (B.As 0 1)=0:=cntF_lifted (fun p hp=>xj B oB.1 0 p hp) 0;have lx:=hw.len;have key:JV (ul x1).2\/((ul x1).2=0/\FJ (B.As 0 1) (ul x1).1/\zq 0 (ul x1).1=0/\(ul x1).1.shape=true):=by
  unfold ul;by_cases t1:zq 0 x1=0
  .rw[if_pos t1];exact .inr ⟨rfl,j1,t1,o1.1⟩
  rw[if_neg t1];by_cases n1:(y9 x1).2≠0
  .rw[if_pos n1];rcases Ygb x1 _ er1 o1.2 (by have:=((Fm.Aa _).1 er1).2;omega) with h|h;all_goals grind
  rw[if_neg n1];have n1':=fC.1 n1;have jn:=j1.trans (bg x1 n1');have t2:=Yia sB jn (Yfx x1 n1' 0) t0;rw[if_neg kn];exact .inr ⟨rfl,jn,t2,(Nb x1 n1' o1.1).2.1⟩
 rcases key with hl|⟨f1,f2,f3,f4⟩
 .exact qm
 rw[if_neg kn];have hn:¬(k=15/\GV u1=true):=fun⟨h15,hh⟩=>by
  cases u1 with
  |nil=>cases hh
  |cons x l=>
   have hx:x=0:=by simpa[GV] using hh
   grind
 rw[if_neg hn];refine .inr ⟨rfl,hf.1.symm.trans ?_,fun hc w hw=>hf.2.2 hc w ((AM.1 hw).imp (w0 w) fun h=> ?_)⟩
 .have:=f2.put (Jn.refl zT);rw[w8 oB.1] at this;rw[ML zT f4 f3];omega
 .obtain ⟨a,b⟩:=B3.1 h;exact⟨a,w1 _ b⟩
theorem WK(f:Fm)(t:Tm)(ef:f.size<=4096)(et:t.size<=4096)(h0:EP r0 d0)(h1:EP r1 d1)(hc:c.ok)(h:H6 f t d0 d1 c X U):CR X U (G7 f t r0 r1 c):=by
 obtain⟨of,ht,U0,U1,a,b,hf⟩:=h;have e:=(Tm.Aa t).2 ⟨ht.1,et⟩;have e2:=(Fm.Aa f).2 ⟨of.1,ef⟩;have lc:=hc.len;unfold G7;have e3:va (c.tys++[Ac]) f=0:=Un of.2 e2;rw[e3,if_neg ko,Rm hc e ht.2,if_neg ko];rcases MG h0 hc rfl kn of.2 e2 kq (ej _) (.refl _) a with hl|⟨p1,p2⟩
 .exact qm
 rw[if_neg kn];by_cases hr:c.room 1 1≠0
 .exact rO
 rw[if_neg hr];have hr':=xw (fC.1 hr);have hb:=hc.below (l:=[Ac]) hr'.1 mc;have hw:=hb.Ah (f:=f) lX e2 of.2;have l2:=wy (g:=c.tys) (h:=[Ac]) [Ac] of.1 of.2;rcases MG (f:=f.As 1 1) (t:=sT (vT 0)) (s:=Ac) h1 hw rfl (by have:=hw.len;omega) mN (JW e2 kn) kq oP (.refl _) b with hl|⟨q1,q2⟩
 .exact qm
 rw[if_neg kn];obtain⟨k1,k2⟩:=Nl of.2 e2 e ht.2 kn;rcases k1 with k1|k1
 .exact qp
 .exact .inl k1
theorem Ysh(f:Fm)(t:Tm)(ef:f.size<=4096)(et:t.size<=4096)(h0:EP r0 d0)(h1:EP r1 d1)(hc:c.ok)(h:HH f t d0 d1 c X U):CR X U (G2 f t r0 r1 c):=by
 obtain⟨of,ht,U0,U1,a,b,hf⟩:=h;have e:=(Tm.Aa t).2 ⟨ht.1,et⟩;have e2:=(Fm.Aa f).2 ⟨of.1,ef⟩;have lc:=hc.len;unfold G2;have e3:va (c.tys++[Al]) f=0:=Un of.2 e2;rw[e3,if_neg ko,Yf2 hc e ht.2,if_neg ko];rcases MG h0 hc rfl kn of.2 e2 kq (Wq _) (.refl _) a with hl|⟨p1,p2⟩
 .exact qm
 rw[if_neg kn];by_cases hr:c.room 2 1≠0
 .exact rO
 rw[if_neg hr];have hr':=xw (fC.1 hr);have hb:=hc.below (l:=[Ac,Al]) hr'.1 mD;have l1:=wy (g:=c.tys) (h:=[Al]) [Ac] of.1 of.2;have l2:=wy (g:=c.tys) (h:=[Al]) [Ac,Al] of.1 of.2;have hw:=hb.Ah (f:=f.As 1 1) lX (JW e2 kn) mQ;rcases MG (f:=f.As 1 2) (t:=BJ) (s:=Al) h1 hw rfl (by have:=hw.len;omega) mN (JW e2 kn) kq oM (.refl _) b with hl|⟨q1,q2⟩
 .exact qm
 rw[if_neg kn];obtain⟨k1,k2⟩:=Nl of.2 e2 e ht.2 kn;rcases k1 with k1|k1
 .exact qp
 .exact .inl k1
theorem Yp4(f:Fm)(ef:f.size<=4096)(h0:EP r0 d0)(h1:EP r1 d1)(hc:c.ok)(h:Jw f d0 d1 c X U):CR X U (GZ f r0 r1 c):=by
 obtain⟨of,p,q,U0,U1,a,b,hf⟩:=h;have e2:=(Fm.Aa f).2 ⟨of.1,ef⟩;have lc:=hc.len;unfold GZ;have e3:va (c.tys++[Ac]) f=0:=Un of.2 e2;rw[e3,if_neg ko];rcases h0 c _ U0 hc a with hl|⟨x0,u0,e0,j0,er0,o0,w0⟩
 .exact qm
 obtain⟨p',q',rfl,jp,jq⟩:=j0.eq;rw[e0,if_neg ko,if_neg me];have g0:(AV p' q').terms.getD 0 AB=p':=rfl;have g1:(AV p' q').terms.getD 1 AB=q':=rfl;simp only[g0,g1];obtain⟨i1,i2⟩:=CK.1 o0.2;have ep:=Mq er0 (t:=p') me;have eq:=Mq er0 (t:=q') me;rcases MG h1 hc rfl kn of.2 e2 ep i1 ((FJ.refl f).put jp) b with hl|⟨k1,k2⟩
 .exact qm
 rw[if_neg kn];obtain⟨m1,m2⟩:=Nl of.2 e2 eq i2 kn;rcases m1 with m1|m1
 .obtain ⟨m3,_⟩:=m2 m1;exact .inr ⟨m1,by simp only;rw[m3];exact hf.1.symm.trans ((FJ.refl f).put jq),fun hc w hw=>hf.2.2 hc w (k2 w hw)⟩
 .exact .inl m1
theorem Ym7(h0:EP r0 d0)(hc:c.ok)(h:IG d0 c X U):CR X U (Hi r0 c):=by
 obtain⟨s,u,A,U0,a,hf⟩:=h;unfold Hi;rcases h0 c _ U0 hc a with hl|⟨x0,u0,e0,j0,er0,o0,w0⟩
 .exact qm
 obtain⟨B',rfl,jB⟩:=j0.qu;obtain⟨A',rfl,jA⟩:=jB.qu;rw[e0,if_neg ko,if_neg k7];by_cases h1:(LG (AL 4 s (AL 5 u A'))).err≠0
 .rw[if_pos h1];exact EI (.inr (.inl rfl))
 rw[if_neg h1];have ec:Kx (AL 4 s (AL 5 u A'))=Cr (A'.As 2 1) Ca:=rfl;simp only[ec];have o1:=Gk kq (Gk kq o0.2);have eA:A'.err=0:=xh (xh er0 (x:=AL 5 u A') k7) k7;have sA:=((Fm.Aa _).1 eA).1;have l2:=wy (g:=c.tys) (h:=[s,u]) [xx s u] sA kr;obtain⟨m1,m2⟩:=Nl (f:=A'.As 2 1) (t:=Ca) (g:=c.tys++[xx s u]++[s]) (s:=u) kr (JW eA kn) kq (cL c.tys s u) (by have:=hc.len;grind);rcases m1 with m1|m1
 .obtain ⟨m3,_⟩:=m2 m1;refine .inr ⟨m1,?_,fun hc w hw=>hf.2.2 hc w (w0 w hw)⟩;simp only;rw[m3];exact hf.1.symm.trans (FJ.Hl (FJ.Hl ((jA.As kq kq).put (Jn.refl _))))
 .exact .inl m1
end
theorem Yrq(p:Pf):p.shape=true->p.small=true->EP (yr p) (Bc p):=by
 induction p using Pf.ind with
 |h p ih=>
  intro hs hm c X U hc h;have hok:=Kb p hs c hc;rw[wu] at hok ⊢;refine Ytb ?_ hok;clear hok;rw[vy] at h;obtain⟨s1,s2,s3,s4⟩:=zh hs;obtain⟨t1,t2,t3⟩:=wq hm;obtain⟨nd,n1,n2,n3,n4,hi,hty,hk1,hk2⟩:=GF s1;have hmem:∀i,i<p.args.length->EP ((p.args.map yr).getD i fun _=>yf 0) ((p.args.map Bc).getD i nD)/\DV ((p.args.map Bc).getD i nD) ((p.args.map Bc).getD i nD):=fun i h=>by
   rw[Um h,show(p.args.map Bc).getD i nD=Bc p.args[i] by grind];have hm:=fA h;exact⟨ih _ hm (s4 _ hm) (t3 _ hm),Yok _⟩
  have zt:p.terms.length=1->(p.terms.getD 0 AB).size<=4096:=fun h=>by
   grind
  have zf:p.Ae.length=1->(p.Ae.getD 0 AK).size<=4096:=fun h=>by
   grind
  have hk:p.kind=1\/p.kind=2\/p.kind=3\/p.kind=4\/p.kind=5\/p.kind=6\/p.kind=7\/p.kind=8\/p.kind=9\/p.kind=10\/p.kind=11\/p.kind=12\/p.kind=13\/p.kind=14\/p.kind=15\/p.kind=16\/p.kind=17\/p.kind=18\/p.kind=19\/p.kind=20:=kn
  unfold ut at h;unfold JC;rcases hk with e|e|e|e|e|e|e|e|e|e|e|e|e|e|e|e|e|e|e|e<;>rw[e] at n1 h ⊢<;>simp only[B6] at n1<;>(try(simp at n1))<;>(try subst n1)<;>simp only[reduceIte,Int.reduceEq,or_false,or_true] at h ⊢<;>simp only at n2 n3 n4
  .exact VY _ h
  .exact TG _ h
  .exact VZ (hmem 0 kn).1 (hmem 1 kn).1 hc h
  .exact N6 _ kq (hmem 0 kn).1 hc h
  .exact N6 _ kq (hmem 0 kn).1 hc h
  .exact Ysv _ (zf n3) (hmem 0 kn).1 hc h
  .exact Ysl (hmem 0 kn).1 (hmem 1 kn).1 hc h
  .exact OV 8 _ (.inl rfl) (hmem 0 kn).1 hc h
  .exact ZG 9 _ (.inl rfl) (zt n2) (hmem 0 kn).1 hc h
  .exact Oj 10 _ _ (.inl rfl) (zf n3) (zt n2) (hmem 0 kn).1 hc h
  .exact OE 11 (.inl rfl) (hmem 1 kn).2 (hmem 0 kn).1 (hmem 1 kn).1 hc h
  .exact OV 12 _ (.inr rfl) (hmem 0 kn).1 hc h
  .exact ZG 13 _ (.inr rfl) (zt n2) (hmem 0 kn).1 hc h
  .exact Oj 14 _ _ (.inr rfl) (zf n3) (zt n2) (hmem 0 kn).1 hc h
  .exact OE 15 (.inr rfl) (hmem 1 kn).2 (hmem 0 kn).1 (hmem 1 kn).1 hc h
  .exact WK _ _ (zf n3) (zt n2) (hmem 0 kn).1 (hmem 1 kn).1 hc h
  .exact Ysh _ _ (zf n3) (zt n2) (hmem 0 kn).1 (hmem 1 kn).1 hc h
  .exact Ytx _ (zt n2) hc h
  .exact Yp4 _ (zf n3) (hmem 0 kn).1 (hmem 1 kn).1 hc h
  .exact Ym7 (hmem 0 kn).1 hc h
theorem VO(t:Tm):t.err≠3:=by
 intro h;unfold Tm.err at h;omega
theorem eX(f:Fm):f.err≠3:=by
 intro h;unfold Fm.err at h;omega
theorem cD(t:Tm)(s:Int):(yv t s).2.2≠3:=by
 intro h;unfold yv at h;split at h
 .exact VO t h
 .split at h
  .cases h
  .rcases Wt s.toNat t 0 with e|e|e<;>omega
theorem Yp1(a b:Tm)(s:Int):FA a b s≠3:=by
 intro h;unfold FA at h;split at h
 .exact VO a h
 .split at h
  .exact VO b h
  .split at h
   .cases h
   .split at h
    .exact cD _ _ h
    .split at h
     .exact cD _ _ h
     omega
theorem ZF:∀(l m:List Tm),E8 l m≠3
 |[],m=>by cases m<;>simp[E8]
 |_::_,[]=>by simp[E8]
 |x::l,y::m=>by
  simp only[E8];split
  .exact Yp1 _ _ _
  .exact ZF l m
theorem Vn(f:Fm):∀h:Fm,Gs f h≠3:=by
 induction f using Fm.ind with
 |h f ih=>
  intro h;rw[QD];split
  .split
   .exact ZF _ _
   .have key:∀(l m:List Fm),(∀x∈l,x∈f.args)->FI l m≠3:=by
     intro l;induction l with
     |nil=>intro m _;cases m<;>simp[FI]
     |cons x l ihl=>
      intro m hx;cases m with
      |nil=>simp[FI]
      |cons y m=>
       simp only[FI]
       grind
    grind
  omega
theorem Ypo(f h:Fm):Gr f h≠3:=by
 intro e;unfold Gr at e;split at e
 .exact eX f e
 .split at e
  .exact eX h e
  .exact Vn f h e
theorem Ycx{lems:List Fm}{tys:List Ty}{hyps:List Fm}{p:Pf}{x:Fm}{us:List Int}(hc:(Ck.mk lems tys hyps).ok)(hI:yb lems tys hyps p=(x,us,0))(h1:(xv p).2.2=0):
 (xv p).1.err=0/\(JV (yb lems tys hyps (xv p).1).2.2\/((yb lems tys hyps (xv p).1).2.2=0/\
  (Gr (yb lems tys hyps (xv p).1).1 x=0\/Gr (yb lems tys hyps (xv p).1).1 x=4\/Gr (yb lems tys hyps (xv p).1).1 x=5)/\
  ∀w∈(yb lems tys hyps (xv p).1).2.1,w∈us)):=by
 obtain⟨s1,s2,s3,s4⟩:=Qz h1;have es:IA lems tys hyps=0:=WT hc;unfold yb at hI;rw[if_neg (by simp[es])] at hI;by_cases ep:p.err≠0
 .rw[if_pos ep] at hI;exact absurd (congrArg (fun q:Cj=>q.2.2) hI) ep
 rw[if_neg ep] at hI;have ep:=fC.1 ep;obtain⟨g1,g2,g3⟩:=(Pf.Aa p).1 ep;have er:(xv p).1.err=0:=by rw[s2];exact s4
 refine⟨er,?_⟩;obtain⟨r1,r2,r3⟩:=(Pf.Aa _).1 er;have hd:=(Ypf p g1 _ hc x us hI).1;have hr:=(Yon p g1 s1).2 _ _ _ hc.oh hd;rw[<-s2] at hr;have hx:=(Kb p g1 _ hc);rw[hI] at hx;obtain⟨x1,x2,_⟩:=hx.1 rfl;unfold yb;rw[if_neg (by simp[es]),if_neg (by simp[er])];rcases Yrq _ r1 r2 _ _ _ hc hr with hl|⟨y,vs,e,hj,ey,oy,hw⟩
 .exact .inl hl
 .rw[e];refine .inr ⟨rfl,?_,hw⟩;have hm:=Wu hj.symm ey x1 oy.2 x2 mW;rcases hm with h|h|h|h
  .exact .inl h
  .exact absurd h (Ypo _ _)
  .exact .inr (.inl h)
  .exact .inr (.inr h)
end Go.Ab
