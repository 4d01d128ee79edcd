/- A part of the proofs of this seat. No conditions. -/
import Derived.Test.YtjgokiomgcfclaaGreatDoorED1
namespace Go.Ab
set_option linter.all false
def DH:Nat->Tm->Nat->Tm×Int×Int
 |0,t,n=>match Cy (4096-t.size) t with
  |none=>(t,n,0)
  |some _=>(va,0,5)
 |k+1,t,n=>match Cy (4096-t.size) t with
  |none=>(t,n,0)
  |some (x,true)=>DH k x (n+1)
  |some (_,false)=>(va,0,4)
def xw(t:Tm)(steps:Int):Tm×Int×Int:=
 if t.err≠0 then(va,0,t.err) else if ¬(0<=steps/\steps<=65536)\/t.near=false then(va,0,1) else DH steps.toNat t 0
def GJ(a b:Tm)(steps:Int):Int:=
 if a.err≠0 then a.err else if b.err≠0 then b.err else if a=b then 0
 else if(xw a steps).2.2≠0 then(xw a steps).2.2 else if(xw b steps).2.2≠0 then(xw b steps).2.2
 else if(xw a steps).1=(xw b steps).1 then 0 else 11
theorem PR{t u:Tm}(he:t.err=0)(h:Cy (4096-t.size) t=some (u,true)):u.err=0:=by
 obtain⟨h1,h2⟩:=y5 he;obtain⟨h3,h4,_⟩:=Uz _ t u h1 h;exact(Tm.Ad _).2 ⟨h3,by omega⟩
theorem OQ:∀(k:Nat) (t:Tm) (n:Nat),t.err=0->(DH k t n).2.2=0->FT t (DH k t n).1/\nf (DH k t n).1/\(DH k t n).1.err=0
 |0,t,n,he,h=>by
  simp only[DH] at h ⊢;cases hx:Cy (4096-t.size) t with
  |none=>rw[hx] at h;exact⟨.refl _,fun u hu=>OI hu hx,he⟩
  |some p=>rw[hx] at h;cases h
 |k+1,t,n,he,h=>by
  simp only[DH] at h ⊢;cases hx:Cy (4096-t.size) t with
  |none=>rw[hx] at h;exact⟨.refl _,fun u hu=>OI hu hx,he⟩
  |some p=>
   obtain⟨x,f⟩:=p;rw[hx] at h;cases f with
   |false=>cases h
   |true=>
    obtain⟨i1,i2,i3⟩:=OQ k x (n+1) (PR he hx) h;exact⟨.step (Yhb _ t x (y5 he).1 hx) i1,i2,i3⟩
theorem TV(t:Tm)(steps:Int)(h:(xw t steps).2.2=0):(xw t steps).1.full<274877906944:=by
 unfold xw at h ⊢;by_cases he:t.err=0
 ·rw[if_neg (by simp[he])] at h ⊢;by_cases hc:¬(0<=steps/\steps<=65536)\/t.near=false
  ·rw[if_pos hc] at h;cases h
  ·rw[if_neg hc] at h ⊢;obtain⟨_,_,h3⟩:=OQ _ _ _ he h;have:=yl h3;omega
 ·rw[if_pos he] at h;exact absurd h he
def FU:List Tm->List Tm->Int
 |x::l,y::m=>if GJ x y 1000≠0 then GJ x y 1000 else FU l m
 |_,_=>0
mutual
def FO:Fm->Fm->Int
 | .mk k ty ts xs,.mk k' ty' ts' xs'=>if k=k'/\ty=ty' then(if FU ts ts'≠0 then FU ts ts' else GB xs xs') else 11
def GB:List Fm->List Fm->Int
 |x::l,y::m=>if FO x y≠0 then FO x y else GB l m
 |_,_=>0
end
theorem Ygv(f g:Fm):FO f g=if f.kind=g.kind/\f.ty=g.ty then(if FU f.terms g.terms≠0 then FU f.terms g.terms else GB f.args g.args) else 11:=by
 cases f;cases g;simp only[FO];rfl
theorem RX:∀(l m:List Tm) (i:Nat) (hi:i<l.length) (hj:i<m.length),(∀j (h1:j<l.length) (h2:j<m.length),j<i->GJ l[j] m[j] 1000=0)->GJ l[i] m[i] 1000≠0->FU l m=GJ l[i] m[i] 1000
 |x::l,y::m,0,_,_,_,h=>by simp only[List.getElem_cons_zero] at h ⊢;simp only[FU];rw[if_pos h]
 |x::l,y::m,i+1,hi,hj,hn,h=>by
  have h0:=hn 0 (by simp) (by simp) (by omega);simp only[FU];rw[if_neg (by simpa using h0)];exact RX l m i (by simpa using hi) (by simpa using hj) (fun j h1 h2 hji=>by have:=hn (j+1) (by simpa using h1) (by simpa using h2) (by omega);simpa using this) (by simpa using h)
theorem V7:∀(l m:List Tm),(∀j (h1:j<l.length) (h2:j<m.length),GJ l[j] m[j] 1000=0)->FU l m=0
 |[],_,_=>by simp only[FU]
 |_::_,[],_=>by simp only[FU]
 |x::l,y::m,hn=>by
  have h0:=hn 0 (by simp) (by simp);simp only[FU];rw[if_neg (by simpa using h0)];exact V7 l m fun j h1 h2=>by have:=hn (j+1) (by simpa using h1) (by simpa using h2);simpa using this
theorem U1:∀(l m:List Fm) (i:Nat) (hi:i<l.length) (hj:i<m.length),(∀j (h1:j<l.length) (h2:j<m.length),j<i->FO l[j] m[j]=0)->FO l[i] m[i]≠0->GB l m=FO l[i] m[i]
 |x::l,y::m,0,_,_,_,h=>by simp only[List.getElem_cons_zero] at h ⊢;simp only[GB];rw[if_pos h]
 |x::l,y::m,i+1,hi,hj,hn,h=>by
  have h0:=hn 0 (by simp) (by simp) (by omega);simp only[GB];rw[if_neg (by simpa using h0)];exact U1 l m i (by simpa using hi) (by simpa using hj) (fun j h1 h2 hji=>by have:=hn (j+1) (by simpa using h1) (by simpa using h2) (by omega);simpa using this) (by simpa using h)
theorem Wp:∀(l m:List Fm),(∀j (h1:j<l.length) (h2:j<m.length),FO l[j] m[j]=0)->GB l m=0
 |[],_,_=>by simp only[GB]
 |_::_,[],_=>by simp only[GB]
 |x::l,y::m,hn=>by
  have h0:=hn 0 (by simp) (by simp);simp only[GB];rw[if_neg (by simpa using h0)];exact Wp l m fun j h1 h2=>by have:=hn (j+1) (by simpa using h1) (by simpa using h2);simpa using this
def LJ(f g:Fm):Int:=if f.err≠0 then f.err else if g.err≠0 then g.err else FO f g
@[simp] theorem Pf.Am(k i:Int)(h:Ty)(ts:List Tm)(fs:List Fm)(as:List Pf):(Pf.mk k i h ts fs as).kind=k:=rfl
@[simp] theorem Pf.AV(k i:Int)(h:Ty)(ts:List Tm)(fs:List Fm)(as:List Pf):(Pf.mk k i h ts fs as).index=i:=rfl
@[simp] theorem Pf.AD(k i:Int)(h:Ty)(ts:List Tm)(fs:List Fm)(as:List Pf):(Pf.mk k i h ts fs as).ty=h:=rfl
@[simp] theorem Pf.Ar(k i:Int)(h:Ty)(ts:List Tm)(fs:List Fm)(as:List Pf):(Pf.mk k i h ts fs as).terms=ts:=rfl
@[simp] theorem Pf.Ca(k i:Int)(h:Ty)(ts:List Tm)(fs:List Fm)(as:List Pf):(Pf.mk k i h ts fs as).Aq=fs:=rfl
@[simp] theorem Pf.Ae(k i:Int)(h:Ty)(ts:List Tm)(fs:List Fm)(as:List Pf):(Pf.mk k i h ts fs as).args=as:=rfl
structure Nd where
 terms:Nat
 Aq:Nat
 args:Nat
 index:Bool
 typ:Bool
def QF:Nd:=⟨0,0,0,false,false⟩
def C1(k:Int):Option Nd:=
 if k=1\/k=2 then some ⟨0,0,0,true,false⟩
 else if k=3\/k=7 then some ⟨0,0,2,false,false⟩
 else if k=4\/k=5\/k=20 then some ⟨0,0,1,false,false⟩
 else if k=6 then some ⟨0,1,1,false,false⟩
 else if k=8\/k=12 then some ⟨0,0,1,false,true⟩
 else if k=9\/k=13 then some ⟨1,0,1,false,false⟩
 else if k=10\/k=14 then some ⟨1,1,1,false,false⟩
 else if k=11\/k=15 then some ⟨0,0,2,false,false⟩
 else if k=16\/k=17 then some ⟨1,1,2,false,false⟩
 else if k=18 then some ⟨1,0,0,false,false⟩
 else if k=19 then some ⟨0,1,2,false,false⟩ else none
def Nd.view(n:Nd):List V:=[.i n.terms,.i n.Aq,.i n.args,.bool n.index,.bool n.typ]
def Pf.head(p:Pf):Bool:=match C1 p.kind with
 |none=>false
 |some n=>p.terms.length==n.terms&&p.Aq.length==n.Aq&&p.args.length==n.args&&decide (0<=p.index)&&(n.index||p.index==0)&&(if n.typ=true then p.ty.ok else p.ty.Bw)
mutual
def Pf.shape:Pf->Bool
 | .mk k i h ts fs as=>Pf.head (.mk k i h ts fs as)&&ts.all Tm.shape&&fs.all Fm.shape&&Pf.A5 as
def Pf.A5:List Pf->Bool
 |[]=>true
 |f::l=>f.shape&&Pf.A5 l
end
mutual
def Pf.size:Pf->Nat
 | .mk _ _ _ ts fs as=>1+(ts.map Tm.size).sum+(fs.map Fm.size).sum+Pf.sizes as
def Pf.sizes:List Pf->Nat
 |[]=>0
 |f::l=>f.size+Pf.sizes l
end
mutual
def Pf.full:Pf->Nat
 | .mk _ _ h ts fs as=>1+h.size+(ts.map Tm.full).sum+(fs.map Fm.full).sum+Pf.Ap as
def Pf.Ap:List Pf->Nat
 |[]=>0
 |f::l=>f.full+Pf.Ap l
end
mutual
def Pf.small:Pf->Bool
 | .mk _ _ _ ts fs as=>ts.all (fun t=>decide (t.size<=4096))&&fs.all (fun f=>decide (f.size<=4096))&&Pf.Ai as
def Pf.Ai:List Pf->Bool
 |[]=>true
 |f::l=>f.small&&Pf.Ai l
end
theorem Pf.Bh:∀l:List Pf,Pf.A5 l=l.all Pf.shape
 |[]=>rfl
 |f::l=>by rw[Pf.A5,Pf.Bh l];rfl
theorem Pf.Bq:∀l:List Pf,Pf.sizes l=(l.map Pf.size).sum
 |[]=>rfl
 |f::l=>by rw[Pf.sizes,Pf.Bq l];rfl
theorem Pf.BH:∀l:List Pf,Pf.Ap l=(l.map Pf.full).sum
 |[]=>rfl
 |f::l=>by rw[Pf.Ap,Pf.BH l];rfl
theorem Pf.DD:∀l:List Pf,Pf.Ai l=l.all Pf.small
 |[]=>rfl
 |f::l=>by rw[Pf.Ai,Pf.DD l];rfl
theorem Pf.Ag(p:Pf):p.shape=(p.head&&p.terms.all Tm.shape&&p.Aq.all Fm.shape&&p.args.all Pf.shape):=by cases p;simp only[Pf.shape,Pf.Bh];rfl
theorem Pf.size_eq(p:Pf):p.size=1+(p.terms.map Tm.size).sum+(p.Aq.map Fm.size).sum+(p.args.map Pf.size).sum:=by cases p;simp only[Pf.size,Pf.Bq];rfl
theorem Pf.Af(p:Pf):p.full=1+p.ty.size+(p.terms.map Tm.full).sum+(p.Aq.map Fm.full).sum+(p.args.map Pf.full).sum:=by cases p;simp only[Pf.full,Pf.BH];rfl
theorem Pf.CA(p:Pf):p.small=(p.terms.all (fun t=>decide (t.size<=4096))&&p.Aq.all (fun f=>decide (f.size<=4096))&&p.args.all Pf.small):=by cases p;simp only[Pf.small,Pf.DD];rfl
theorem Pf.Ac(p:Pf):1<=p.full:=by rw[Pf.Af];omega
theorem Pf.size_pos(p:Pf):1<=p.size:=by rw[Pf.size_eq];omega
theorem Pf.ind{P:Pf->Prop}(h:∀f,(∀x∈f.args,P x)->P f)(f:Pf):P f:=by
 have:∀n,∀f:Pf,f.full<=n->P f:=by
  intro n;induction n with
  |zero=>intro f h;have:=f.Ac;omega
  |succ n ih=>
   intro f hf;refine h f fun x hx=>ih x ?_;have:=ze Pf.full hx;have:=f.Af;omega
 exact this _ f (Nat.le_refl _)
theorem Pf.Aj(p:Pf):p.size<=p.full:=by
 induction p using Pf.ind with
 |h p ih=>
  rw[p.size_eq,p.Af];have h1:=xr (f:=Pf.size) (g:=Pf.full) p.args ih;have h2:=xr (f:=Tm.size) (g:=Tm.full) p.terms fun x _=>x.Aj;have h3:=xr (f:=Fm.size) (g:=Fm.full) p.Aq fun x _=>x.Aj;omega
def Pf.err(p:Pf):Int:=if p.shape=false then 2 else if p.small=false\/p.size>16384 then 4 else 0
theorem Pf.Ad(p:Pf):p.err=0↔p.shape=true/\p.small=true/\p.size<=16384:=by
 unfold Pf.err;cases hs:p.shape with
 |false=>simp
 |true=>
  cases hm:p.small with
  |false=>simp
  |true=>
   by_cases h:p.size>16384
   ·rw[if_neg (by simp),if_pos (.inr h)];constructor
    ·intro h;cases h
    ·rintro ⟨_,_,h2⟩;omega
   ·rw[if_neg (by simp),if_neg (by simp;omega)];exact⟨fun _=>⟨rfl,rfl,by omega⟩,fun _=>rfl⟩
def Dq:Pf:= .mk 0 0 (.mk 0 []) [] [] []
def xd(t:Tm):Pf:= .mk 18 0 (.mk 0 []) [t] [] []
theorem Zs7{f g:Fm}(hf:f.shape=true)(hg:g.shape=true)(hk:f.kind=g.kind):f.terms.length=g.terms.length/\f.args.length=g.args.length:=by
 rw[Fm.Ag,Bool.and_eq_true,Bool.and_eq_true] at hf hg;have h1:=hf.1.1;have h2:=hg.1.1;unfold Fm.head at h1 h2;rw[<-hk] at h2;by_cases k1:f.kind=1
 ·rw[if_pos k1] at h1 h2;simp only[Bool.and_eq_true,beq_iff_eq] at h1 h2;omega
 rw[if_neg k1] at h1 h2;by_cases k2:f.kind=2\/f.kind=3
 ·rw[if_pos k2] at h1 h2;simp only[Bool.and_eq_true,beq_iff_eq] at h1 h2;omega
 rw[if_neg k2] at h1 h2;by_cases k4:f.kind=4\/f.kind=5\/f.kind=6\/f.kind=7
 ·rw[if_pos k4] at h1 h2;simp only[Bool.and_eq_true,beq_iff_eq] at h1 h2;omega
 rw[if_neg k4] at h1;cases h1
end Go.Ab
