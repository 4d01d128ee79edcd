/- A part of the proofs of this seat. No conditions. -/
import Derived.Test.YtpnbmjgblakifaaGreatDoorACqDT1
import Derived.Test.YtpnbmjgblakifaaGreatDoorAqAT1
import Derived.Test.YtpnbmjgblakifaaGreatDoorAqD1
namespace Go.Ab
open Go
set_option linter.all false
theorem Zw9(t:Tm)(a n m:Int)(hn:0<=n):(t.re (zl a n) 0).re (zl a m) 0=t.re (zl a (n+m)) 0:=by
 rw[Ci];refine A7 t 0 fun p hp=> ?_;simp only[yz,E9];congr 1;by_cases h:p.1-p.2>=a
 ·rw[if_pos h,if_pos (by omega),if_pos h];omega
 ·rw[if_neg h,if_neg h,if_neg h]
theorem cnt_lifted{t:Tm}(hs:t.shape=true)(a:Int):cnt a ((t.re (zl a 1) 0).vars 0)=0:=by
 rw[Q3 _ _ _ _ hs];have:∀l:List (Int×Int),cnt a (l.map fun p=>(if p.1-p.2>=a then p.1+1 else p.1,p.2))=0:=by
  intro l;induction l with
  |nil=>rfl
  |cons p l ih=>
   rw[List.map_cons,show ∀(x:Int×Int) l,x::l=[x]++l from fun _ _=>rfl,vk,ih,HL,if_neg];simp only;split<;>omega
 exact this _
theorem cntF_lifted{f:Fm}(hs:∀p∈f.A2 0,p.1.shape=true)(a:Int):ve a ((f.AV a 1).A2 0)=0:=by
 rw[Fm.AV,P9];have:∀l:List (Tm×Int),(∀p∈l,p.1.shape=true)->ve a (l.map fun p=>(p.1.re (zl (a+p.2) 1) 0,p.2))=0:=by
  intro l;induction l with
  |nil=>intro _;rfl
  |cons p l ih=>
   intro h;simp only[List.map_cons,ve];rw[show ve a (l.map fun p=>(p.1.re (zl (a+p.2) 1) 0,p.2))=0 from ih fun q hq=>h q (by simp[hq])];rw[cnt_lifted (h p (by simp))]
 exact this _ hs
theorem Us(j fr by_ c:Int):(vT j).re (zl fr by_) c=vT (if j-c>=fr then j+by_ else j):=by rw[E9];rfl
theorem Yhr(j a:Int)(s:Tm)(c:Int):(vT j).re (xd a s) c=if j-c=a then s.re (zl 0 (a+c)) 0 else vT (if j-c>a then j-1 else j):=by rw[E9];rfl
theorem IL(f:Fm)(a n:Int):f.AV a n=f.re (fun b t=>t.re (zl (a+b) n) 0) 0:=rfl
theorem Yee(f:Fm)(a n m:Int)(hn:0<=n):(f.AV a n).AV a m=f.AV a (n+m):=by
 rw[IL,IL,IL,Fm.Ci];exact Fm.Ek (fun b t _=>Zw9 t _ n m hn) f
theorem SE(fr b v i:Int):(xo i).up fr b v=xo i:=by simp[xo,Pf.up,Pf.Cn]
section
variable {p q:Pf} {fr by_ a:Int} {s:Tm}
theorem OP(h:p.err≠0):v4 p fr by_=p.err:=by unfold v4;rw[if_pos h]
theorem Zty(h:p.err=0)(hg:¬(0<=fr/\fr<=4096)\/¬(0<=by_/\by_<=4096)\/p.AN=false):v4 p fr by_=1:=by unfold v4;rw[if_neg (by simp[h]),if_pos hg]
theorem RC(h:p.err=0)(hg:¬(¬(0<=fr/\fr<=4096)\/¬(0<=by_/\by_<=4096)\/p.AN=false)):v4 p fr by_=0:=by unfold v4;rw[if_neg (by simp[h]),if_neg hg]
end
theorem Yh0(p:Pf):p.F2 0=p.B3 Cw 0:=SX p 0
theorem Ybn{f:Int->Int->Int->List Int}(hf:∀k i y,(f k i y).length<=1)(p:Pf):∀y,(p.B3 f y).length<=p.full:=by
 induction p using Pf.ind with
 |h p ih=>
  intro y;rw[Pf.Bu,Pf.Ag,List.length_append];have key:∀(l:List Pf) (w:Int),(∀x∈l,x∈p.args)->(Pf.AM f y w l).flatten.length<=(l.map Pf.full).sum:=by
   intro l w;induction l with
   |nil=>intro _;simp[Pf.AM]
   |cons x l ihl=>
    intro hx;simp only[Pf.AM,List.flatten_cons,List.length_append,List.map_cons,List.sum_cons];have h1:=ih x (hx x (by simp)) (if l.length=0 then y+w else y);have h2:=ihl fun z hz=>hx z (by simp[hz]);omega
  have h1:=key p.args (At p.kind) fun _ h=>h;have h2:=hf p.kind p.index y;omega
theorem Yl9{x:Int}(h:0<=x/\x<9223372036854775808):(Lit.int .i64 x).wf=true:=by
 have h4:IntKind.i64.min<=x/\x<=IntKind.i64.max:=by
  rw[show IntKind.i64.min= -9223372036854775808 by rfl,show IntKind.i64.max=9223372036854775807 by rfl];omega
 simpa[Lit.wf] using h4
theorem Yh4(C:Int)(p:Pf):p.hx C->p.nd->∀y,0<=y->∀x∈p.B3 Cw y,0<=x/\x<C:=by
 induction p using Pf.ind with
 |h p ih=>
  intro hh hs y hy x hx;obtain⟨i1,i2⟩:=(Pf.A8 _ p).1 hh;obtain⟨⟨nd0,a1,a2⟩,a3⟩:=(Pf.Bz p).1 hs;rw[Pf.Bu,List.mem_append] at hx;rcases hx with hx|hx
  ·unfold Cw at hx;by_cases hk:p.kind=1/\p.index>=y
   ·rw[if_pos hk] at hx;simp only[List.mem_singleton] at hx;have:=i1 hk.1;omega
   ·rw[if_neg hk] at hx;cases hx
  ·obtain ⟨l,hl,hx⟩:=List.mem_flatten.1 hx;obtain⟨m,hm,rfl⟩:=List.getElem_of_mem hl;rw[vu] at hm;rw[uo _ _ _ _ _ hm] at hx;have hk:p.kind≠1:=fun e=>by
    rw[e] at a1;simp[BO] at a1;rw[<-a1] at a2;simp at a2;simp[a2] at hm
   have b2:0<=At p.kind:=by unfold At;split<;>omega
   exact ih _ (List.getElem_mem hm) (i2 hk _ (List.getElem_mem hm)) (a3 _ (List.getElem_mem hm)) _ (by split<;>omega) x hx
theorem Yjm(p:Pf)(hs:p.shape=true)(hf:p.full<=100000000000)(hx:p.hx 9223372036854775808):(∀x∈BA [] (p.B3 Cw 0),(Lit.int .i64 x).wf=true)/\(BA [] (p.B3 Cw 0)).length<549755813888:=by
 refine⟨fun x h=>Yl9 ?_,?_⟩
 ·rcases C9.1 h with h|h
  ·cases h
  ·exact Yh4 _ p hx (Gq p hs) 0 (by omega) x h
 ·have h1:=LO (p.B3 Cw 0) [];have h2:=Ybn (f:=Cw) (fun k i y=>by unfold Cw;split<;>simp) p 0;simp at h1;omega
theorem X0(t:Tm)(w v n:Int)(hv:0<=v):(t.re (zl w v) 0).re (zl (w+v) n) 0=t.re (zl w (v+n)) 0:=by
 rw[Ci];refine Ek (fun i c=> ?_) t 0;rw[yz,Us,yz];by_cases h1:i-c>=w
 ·rw[if_pos h1,if_pos (by omega),if_pos h1];congr 1;omega
 ·rw[if_neg h1,if_neg (by omega),if_neg h1]
theorem Zmu(t:Tm)(w v n:Int)(hn:0<=n):(t.re (zl w n) 0).re (zl w v) 0=t.re (zl w (n+v)) 0:=by
 rw[Ci];refine Ek (fun i c=> ?_) t 0;rw[yz,Us,yz];by_cases h1:i-c>=w
 ·rw[if_pos h1,if_pos (by omega),if_pos h1];congr 1;omega
 ·rw[if_neg h1,if_neg (by omega),if_neg h1]
theorem Zl7(f:Fm)(w v n:Int)(hv:0<=v):(f.AV w v).AV (w+v) n=f.AV w (v+n):=by
 rw[IL,IL,IL,Fm.Ci];refine Fm.Ek (fun b t _=> ?_) f;rw[show w+v+b=w+b+v by omega];exact X0 t (w+b) v n hv
theorem Yao(p:Pf)(v n:Int)(hv:0<=v):∀w,(p.up 0 v w).up 0 n (w+v)=p.up 0 (v+n) w:=by
 induction p using Pf.ind with
 |h p ih=>
  intro w;rw[Pf.BM 0 v w p,Pf.BM,Pf.BM 0 (v+n) w p];simp only[Pf.Ah,Pf.Ay,Pf.AL,Pf.Ai,Pf.Ar,Pf.Ad,List.map_map];congr 1
  ·refine List.map_congr_left fun t _=> ?_;have:=X0 t (0+w) v n hv;rw[show 0+(w+v)=0+w+v by omega];exact this
  ·refine List.map_congr_left fun f _=> ?_;have:=Zl7 f (0+(w+AD p.kind)) v n hv;rw[show 0+(w+v+AD p.kind)=0+(w+AD p.kind)+v by omega];exact this
  ·have key:∀(l:List Pf),(∀x∈l,x∈p.args)->Pf.Cn 0 n (w+v) (As p.kind) (Pf.Cn 0 v w (As p.kind) l)=Pf.Cn 0 (v+n) w (As p.kind) l:=by
    intro l;induction l with
    |nil=>intro _;simp only[Pf.Cn]
    |cons x l ihl=>
     intro hx;simp only[Pf.Cn,uf];rw[ihl fun z hz=>hx z (by simp[hz])];congr 1;split
     ·rw[show w+v+As p.kind=w+As p.kind+v by omega];exact ih x (hx x (by simp)) _
     ·exact ih x (hx x (by simp)) _
   exact key p.args fun _ h=>h
theorem Yak(p:Pf)(v n:Int)(hn:0<=n):∀w,(p.up 0 n w).up 0 v w=p.up 0 (n+v) w:=by
 induction p using Pf.ind with
 |h p ih=>
  intro w;rw[Pf.BM 0 n w p,Pf.BM,Pf.BM 0 (n+v) w p];simp only[Pf.Ah,Pf.Ay,Pf.AL,Pf.Ai,Pf.Ar,Pf.Ad,List.map_map];congr 1
  ·exact List.map_congr_left fun t _=>Zmu t (0+w) v n hn
  ·exact List.map_congr_left fun f _=>Yee f (0+(w+AD p.kind)) n v hn
  ·have key:∀(l:List Pf),(∀x∈l,x∈p.args)->Pf.Cn 0 v w (As p.kind) (Pf.Cn 0 n w (As p.kind) l)=Pf.Cn 0 (n+v) w (As p.kind) l:=by
    intro l;induction l with
    |nil=>intro _;simp only[Pf.Cn]
    |cons x l ihl=>
     intro hx;simp only[Pf.Cn,uf];rw[ihl fun z hz=>hx z (by simp[hz])];congr 1;exact ih x (hx x (by simp)) _
   exact key p.args fun _ h=>h
theorem Ykp(p:Pf)(fr n f b:Int):∀v y,(p.lh f b y).up fr n v=(p.up fr n v).lh f b y:=by
 induction p using Pf.ind with
 |h p ih=>
  intro v y;rw[Pf.Ec f b y p];have hk2:(p.up fr n v).kind=p.kind:=by rw[Pf.BM];rfl
  have hi2:(p.up fr n v).index=p.index:=by rw[Pf.BM];rfl
  rw[Pf.Ec f b y (p.up fr n v),hk2,hi2];by_cases hk:p.kind=1
  ·rw[if_pos hk,if_pos hk];exact SE fr n v _
  ·rw[if_neg hk,if_neg hk];rw[Pf.BM,Pf.BM fr n v p];simp only[Pf.Ah,Pf.Ay,Pf.AL,Pf.Ai,Pf.Ar,Pf.Ad];congr 1;have key:∀(l:List Pf),(∀x∈l,x∈p.args)->Pf.Cn fr n v (As p.kind) (Pf.lhs f b y (At p.kind) l)=Pf.lhs f b y (At p.kind) (Pf.Cn fr n v (As p.kind) l):=by
    intro l;induction l with
    |nil=>intro _;simp only[Pf.Cn,Pf.lhs]
    |cons x l ihl=>
     intro hx;simp only[Pf.Cn,Pf.lhs,uf,KR];rw[ihl fun z hz=>hx z (by simp[hz])];congr 1;exact ih x (hx x (by simp)) _ _
   exact key p.args fun _ h=>h
theorem Yf(t s:Tm)(v:Int)(hs:t.shape=true):(t.re (zl v 1) 0).re (xd v s) 0=t:=by
 rw[Ci];refine FJ t 0 hs fun q hq=> ?_;obtain⟨i,c⟩:=q;simp only;rw[yz,Yhr];by_cases h1:i-c>=v
 ·rw[if_pos h1,if_neg (by omega),if_pos (by omega)];congr 1;omega
 ·rw[if_neg h1,if_neg (by omega),if_neg (by omega)]
theorem Zns(f:Fm)(s:Tm)(v:Int)(hs:f.shape=true):(f.AV v 1).put v s=f:=by
 rw[NF,IL,Fm.Ci];exact Fm.FJ f 0 fun p hp=>Yf p.1 s (v+p.2) (IZ f hs 0 _ hp)
theorem Yl2(p:Pf)(s:Tm):p.shape=true->∀v,(p.up 0 1 v).pt 0 s v=p:=by
 induction p using Pf.ind with
 |h p ih=>
  intro hs v;obtain⟨_,s4,s5,s6⟩:=zh hs;rw[Pf.BM,Pf.DT];simp only[Pf.Ah,Pf.Ay,Pf.AL,Pf.Ai,Pf.Ar,Pf.Ad,List.map_map];have h1:(p.terms.map ((fun t=>t.re (xd (0+v) s) 0)∘fun t=>t.re (zl (0+v) 1) 0))=p.terms:=by
   conv=>rhs;rw[<-List.map_id p.terms]
   exact List.map_congr_left fun t ht=>Yf t s (0+v) (s4 t ht)
  have h2:(p.Ac.map ((fun f=>f.put (0+(v+AD p.kind)) s)∘fun f=>f.AV (0+(v+AD p.kind)) 1))=p.Ac:=by
   conv=>rhs;rw[<-List.map_id p.Ac]
   exact List.map_congr_left fun f hf=>Zns f s (0+(v+AD p.kind)) (s5 f hf)
  have h3:Pf.pts 0 s v (As p.kind) (Pf.Cn 0 1 v (As p.kind) p.args)=p.args:=by
   have key:∀(l:List Pf),(∀x∈l,x∈p.args)->Pf.pts 0 s v (As p.kind) (Pf.Cn 0 1 v (As p.kind) l)=l:=by
    intro l;induction l with
    |nil=>intro _;simp only[Pf.Cn,Pf.pts]
    |cons x l ihl=>
     intro hx;simp only[Pf.Cn,Pf.pts,uf];rw[ihl fun z hz=>hx z (by simp[hz]),ih x (hx x (by simp)) (s6 x (hx x (by simp)))]
   exact key p.args fun _ h=>h
  rw[h1,h2,h3];cases p;rfl
theorem Ylw(p r:Pf)(hr:r.shape=true)(hR:∀(v h:Int),0<=v->v<=200000->0<=h->h<=200000->r.Ds v h=(r.up 0 v 0).lh 0 h 0/\(r.up 0 1 0).Ds v h=((r.up 0 1 0).up 0 v 0).lh 0 h 0):
 p.shape=true->∀v y:Int,0<=v->0<=y->v+2*p.size<=200000->y+2*p.size<=200000->(Pf.ph 0 r v y p).up 0 1 v=Pf.ph 0 (r.up 0 1 0) v y (p.up 0 1 v):=by
 induction p using Pf.ind with
 |h p ih=>
  intro hs v y hv hy hvz hyz;have hk2:(p.up 0 1 v).kind=p.kind:=by rw[Pf.BM];rfl
  have hi2:(p.up 0 1 v).index=p.index:=by rw[Pf.BM];rfl
  rw[Pf.E4 0 r v y p,Pf.E4 0 (r.up 0 1 0) v y (p.up 0 1 v),hk2,hi2];have hz:=p.size_eq;by_cases hk:p.kind=1
  ·rw[if_pos hk,if_pos hk];by_cases h0:p.index-y=0
   ·rw[if_pos h0,if_pos h0];obtain⟨e1,e2⟩:=hR v (0+y) hv (by omega) (by omega) (by omega);rw[e1,e2,Ykp];have u1:=Yao r v 1 hv 0;have u2:=Yak r v 1 (by omega) 0;rw[show(0:Int)+v=v by omega] at u1;rw[u1,u2,show v+1=1+v by omega]
   ·rw[if_neg h0,if_neg h0];split
    ·exact SE 0 1 v _
    ·exact SE 0 1 v _
  ·rw[if_neg hk,if_neg hk];rw[Pf.BM,Pf.BM 0 1 v p];simp only[Pf.Ah,Pf.Ay,Pf.AL,Pf.Ai,Pf.Ar,Pf.Ad];congr 1;have b1:0<=As p.kind/\As p.kind<=2:=by unfold As;split<;>(try split)<;>omega
   have b2:0<=At p.kind/\At p.kind<=1:=by unfold At;split<;>omega
   have key:∀(l:List Pf),(∀x∈l,x∈p.args)->Pf.Cn 0 1 v (As p.kind) (Pf.DD 0 r v y (As p.kind) (At p.kind) l)=Pf.DD 0 (r.up 0 1 0) v y (As p.kind) (At p.kind) (Pf.Cn 0 1 v (As p.kind) l):=by
    intro l;induction l with
    |nil=>intro _;simp only[Pf.Cn,Pf.DD]
    |cons x l ihl=>
     intro hx;simp only[Pf.Cn,Pf.DD,uf,J9];have h1:=hx x (by simp);have h2:=zc Pf.size h1;rw[ihl fun z hz=>hx z (by simp[hz])];congr 1;exact ih x h1 ((zh hs).2.2.2 x h1) _ _ (by split<;>omega) (by split<;>omega) (by split<;>omega) (by split<;>omega)
   exact key p.args fun _ h=>h
section
variable {α:Type} (F:Int->Int->Int->List α)
theorem P1(fr n:Int)(p:Pf):∀v y,(p.up fr n v).B3 F y=p.B3 F y:=by
 induction p using Pf.ind with
 |h p ih=>
  intro v y;rw[Pf.BM,Pf.Bu,p.Bu];simp only[Pf.Ah,Pf.Ay,Pf.Ad];congr 2;have key:∀(l:List Pf),(∀x∈l,x∈p.args)->Pf.AM F y (At p.kind) (Pf.Cn fr n v (As p.kind) l)=Pf.AM F y (At p.kind) l:=by
   intro l;induction l with
   |nil=>intro _;simp only[Pf.Cn]
   |cons x l ihl=>
    intro hx;simp only[Pf.Cn,Pf.AM,uf];rw[ihl fun z hz=>hx z (by simp[hz]),ih x (hx x (by simp))]
  exact key p.args fun _ h=>h
end
theorem Ye2(p:Pf):p.shape=true->p.small=true->∀v,∀q∈(p.up 0 1 v).Dg (BE 0) (BK 0) v,q.1<=4096/\q.2=0:=by
 induction p using Pf.ind with
 |h p ih=>
  intro hs hm v q hq;obtain⟨s1,s2,s3⟩:=xj hm;obtain⟨_,s4,s5,s6⟩:=zh hs;rw[Pf.BM,Pf.Ca] at hq;simp only[Pf.Ah,Pf.Ay,Pf.Ad,Pf.Ai,Pf.Ar,List.mem_append] at hq;rcases hq with(hq|hq)|hq
  ·obtain ⟨t,ht,rfl⟩:=List.mem_map.1 hq;obtain⟨u,hu,rfl⟩:=List.mem_map.1 ht;unfold BE;rw[cnt_lifted (s4 u hu),L8 (0+v) 1 u 0 (s4 u hu)];have:=s1 u hu;exact⟨by simp only;omega,rfl⟩
  ·obtain ⟨t,ht,rfl⟩:=List.mem_map.1 hq;obtain⟨u,hu,rfl⟩:=List.mem_map.1 ht;unfold BK;rw[cntF_lifted (fun z hz=>IZ u (s5 u hu) 0 z hz),(uu (s5 u hu) (by omega)).2.1];have:=s2 u hu;exact⟨by simp only;omega,rfl⟩
  ·obtain ⟨l,hl,hq⟩:=List.mem_flatten.1 hq;obtain⟨m,hm,rfl⟩:=List.getElem_of_mem hl;rw[vy,uf] at hm;rw[um _ _ _ _ _ _ (by rw[uf];exact hm),Np _ _ _ _ _ _ hm] at hq;rw[uf] at hq;exact ih _ (List.getElem_mem hm) (s6 _ (List.getElem_mem hm)) (s3 _ (List.getElem_mem hm)) _ q hq
theorem Ygf{l:List (Int×Int)}(h:∀q∈l,q.1<=4096/\q.2=0)(n k:Int):CE n k l=n/\CP k l=false:=by
 constructor
 ·unfold CE;have:(l.map fun q=>q.2*(k-1)).sum=0:=by
   induction l with
   |nil=>rfl
   |cons q l ih=>rw[List.map_cons,List.sum_cons,ih fun z hz=>h z (by simp[hz]),(h q (by simp)).2];omega
  omega
 ·unfold CP;rw[List.any_eq_false];intro q hq;obtain⟨h1,h2⟩:=h q hq;rw[h2];simp;omega
theorem Oh:Bc.err=2:=by decide
theorem Ln{p:Pf}{fr b:Int}(h:v4 p fr b≠0):wo p fr b=Bc:=if_neg h
theorem PO(fr b:Int):v4 Bc fr b=2:=by rw[OP (by decide),Oh]
theorem Yb8(a:Int)(s:Tm):x7 Bc a s=2:=by rw[Oz (by decide),Oh]
theorem Zxp(a:Int)(q:Pf):va Bc a q=2:=by rw[OR (by decide),Oh]
theorem Zug{p:Pf}(he:p.err=0):va p 0 Bc=2:=by rw[Ol he (by decide) (by decide),Oh]
theorem XV{p:Pf}(he:p.err=0)(hx:p.ix 10000):v4 p 0 1=0/\wo p 0 1=p.up 0 1 0/\Pz 10001 p.size (p.up 0 1 0)/\(p.up 0 1 0).err=0/\(p.up 0 1 0).AN=true:=by
 obtain⟨g1,g2,g3⟩:=(Pf.Ae p).1 he;have h1:=RC (fr:=0) (by_:=1) he (by rw[show p.AN=true from Mh p hx 0];decide);have hz:=Na (fr:=0) (n:=1) (C:=10000) (by omega) g1 g2 hx 0;refine⟨h1,?_,hz,hz.err (by omega),hz.near (by omega)⟩;unfold wo;rw[if_pos h1,MF (by omega) g1 g2 (vr hx (by omega)) 0]
theorem S4{p:Pf}{fr b:Int}(h:p.full<=200000000):(wo p fr b).full<=200000000:=by
 unfold wo;split
 ·exact Nat.le_trans (WW _ _ _ _) h
 ·rw[yn];omega
theorem VU{r:Pf}(hs:r.shape=true)(hm:r.small=true)(hz:r.size<=16384)(hi:r.ix 10001)(hh:r.hx 10000){v h:Int}(hv:0<=v/\v<=200000)(hh2:0<=h/\h<=200000):
 r.Ds v h=(r.up 0 v 0).lh 0 h 0/\Pz (10001+v) r.size ((r.up 0 v 0).lh 0 h 0):=by
 have h1:=Na (fr:=0) (n:=v) (C:=10001) hv.1 hs hm hi 0;have hf:=KA _ h1.1;have h2:=h1.2.2.1;unfold Pf.Ds;rw[MF (by omega) hs hm (vr hi (by omega)) 0];rw[PD (by omega) (Gq _ h1.1) (J7 (Oo _ _ _ _ hh 0) (by omega)) 0 (by omega)];refine⟨rfl,?_⟩;have:=Qb (f:=0) (b:=h) hh2.1 h1.1 h1.2.1 h1.2.2.2 0
 rwa [h2] at this
theorem Ybx{n m:Nat}{p r:Pf}{t:Tm}(hp:Made n p)(hr:Made m r)(hn:n<=200000000)(hm:m<=200000000)(ht:t.err=0)(htn:t.near=true):
 LI p r t (wo p 0 1) (Co (wo p 0 1) 0 t) (vq p 0 r) (wo (vq p 0 r) 0 1) (wo r 0 1) (vq (wo p 0 1) 0 (wo r 0 1))
  (v4 p 0 1) (x7 (wo p 0 1) 0 t) (va p 0 r) (v4 (vq p 0 r) 0 1) (v4 r 0 1) (va (wo p 0 1) 0 (wo r 0 1)):=by
 have fr:=hr.full;have fp:=hp.full;have fs:(wo r 0 1).full<=200000000:=S4 (by omega);have fx:(wo p 0 1).full<=200000000:=S4 (by omega);rcases hp.err with he|he;case inr=>
  have e1:wo p 0 1=Bc:=Ln (by rw[OP (by omega)];omega);have e2:va p 0 r=4:=by rw[OR (by omega),he]
  have e3:vq p 0 r=Bc:=I1 (by omega);rw[e1,e3,Xv (by rw[Yb8];omega),I1 (by rw[Zxp];omega),Ln (by rw[PO];omega)];exact⟨.inl (.inl e2),by rw[yn];omega,by rw[yn];omega,fs,by rw[yn];omega,by rw[yn];omega,by rw[yn];omega⟩
 obtain⟨g1,g2,g3⟩:=(Pf.Ae p).1 he;obtain⟨l1,l2,l3,l4,l5⟩:=XV he hp.ix;have hpn:p.AZ=true:=Rm p (Gq p g1) hp.hx 0;have hpp:p.AN=true:=Mh p hp.ix 0;have hxn:(p.up 0 1 0).AZ=true:=by unfold Pf.AZ;rw[P1];exact hpn
 have gz:=Ygf (Ye2 p g1 g2 0) ((p.up 0 1 0).size) t.size;have y1:x7 (p.up 0 1 0) 0 t=0:=by
  rw[Ns l4 (by omega) ht (by rw[l5,htn];simp)];unfold EK;rw[gz.1,gz.2,if_neg];rw[l3.2.2.1];simp;omega
 have y2:Co (p.up 0 1 0) 0 t=p:=by unfold Co;rw[if_pos y1];exact Yl2 p t g1 0
 have fx':(p.up 0 1 0).full<=200000000:=l2▸fx;rw[l1,l2,y1,y2];rcases hr.err with re|re;case inr=>
  have s1:wo r 0 1=Bc:=Ln (by rw[OP (by omega)];omega);have e2:va p 0 r=4:=by rw[Ol he (by omega) (by omega),re]
  have e3:vq p 0 r=Bc:=I1 (by omega);rw[s1,e3,I1 (by rw[Zug l4];omega),Ln (by rw[PO];omega)];exact⟨.inl (.inl e2),fx',by rw[yn];omega,by rw[yn];omega,by omega,by rw[yn];omega,by rw[yn];omega⟩
 obtain⟨r1,r2,r3⟩:=(Pf.Ae r).1 re;obtain⟨m1,m2,m3,m4,m5⟩:=XV re hr.ix;have hrn:r.AZ=true:=Rm r (Gq r r1) hr.hx 0;have hrp:r.AN=true:=Mh r hr.ix 0;have hsn:(r.up 0 1 0).AZ=true:=by unfold Pf.AZ;rw[P1];exact hrn
 have hc:D6 (p.up 0 1 0) 0=D6 p 0:=by unfold D6;rw[P1]
 have a1:=Nt (a:=0) he (by omega) re (by rw[hpn,hrn,hrp];decide);have b1:=Nt (a:=0) l4 (by omega) m4 (by rw[hxn,hsn,m5];decide);rw[hc,l3.2.2.1,m3.2.2.1] at b1;rw[m2] at fs;rw[m1,m2];by_cases hbig:(p.size:Int)+D6 p 0*(r.size-1)>16384
 ·rw[if_pos hbig] at a1 b1;have e3:vq p 0 r=Bc:=I1 (by omega);rw[e3,I1 (by omega),Ln (by rw[PO];omega)];exact⟨.inl (.inl a1),fx',by rw[yn];omega,fs,by omega,by rw[yn];omega,by rw[yn];omega⟩
 ·rw[if_neg hbig] at a1 b1;have rp:=r.size_pos;have U:∀(v h:Int),0<=v->v<=200000->0<=h->h<=200000->r.Ds v h=(r.up 0 v 0).lh 0 h 0/\Pz (10001+v) r.size ((r.up 0 v 0).lh 0 h 0):=fun v h q1 q2 q3 q4=>VU r1 r2 r3 (vr hr.ix (by omega)) hr.hx ⟨q1,q2⟩ ⟨q3,q4⟩;have V:∀(v h:Int),0<=v->v<=200000->0<=h->h<=200000->(r.up 0 1 0).Ds v h=((r.up 0 1 0).up 0 v 0).lh 0 h 0:=fun v h q1 q2 q3 q4=>
   (VU m3.1 m3.2.1 (by rw[m3.2.2.1];omega) m3.2.2.2 (Oo _ _ _ _ hr.hx 0) ⟨q1,q2⟩ ⟨q3,q4⟩).1
  have hA:=QI (p:=p) (r:=r) (C:=10001) (fun v h q1 q2 q3 q4=>by
   obtain⟨w1,w2⟩:=U v h q1 q2 q3 q4;rw[w1];exact⟨w2.1,w2.2.1,w2.2.2.1,vr w2.2.2.2 (by omega)⟩) (by omega) g1 g2 (vr hp.ix (by omega)) 0 0 (by omega) (by omega) (by omega) (by omega)
  have e3:vq p 0 r=Pf.ph 0 r 0 0 p:=by unfold vq;rw[if_pos a1]
  have hsz:((p.size+(p.B3 (Cq 0) 0).length*(r.size-1):Nat):Int)=(p.size:Int)+D6 p 0*(r.size-1):=by
   unfold D6;rw[Int.natCast_add,Int.natCast_mul,show(((r.size-1:Nat)):Int)=(r.size:Int)-1 by omega]
  have aerr:(Pf.ph 0 r 0 0 p).err=0:=hA.err (by omega);have anear:(Pf.ph 0 r 0 0 p).AN=true:=hA.near (by omega);have a2:=RC (fr:=0) (by_:=1) aerr (by rw[anear];decide);have e4:wo (Pf.ph 0 r 0 0 p) 0 1=(Pf.ph 0 r 0 0 p).up 0 1 0:=by
   unfold wo;rw[if_pos a2,MF (by omega) hA.1 hA.2.1 (vr hA.2.2.2 (by omega)) 0]
  have e5:vq (p.up 0 1 0) 0 (r.up 0 1 0)=Pf.ph 0 (r.up 0 1 0) 0 0 (p.up 0 1 0):=by unfold vq;rw[if_pos b1]
  have e6:=Ylw p r r1 (fun v h q1 q2 q3 q4=>⟨(U v h q1 q2 q3 q4).1,V v h q1 q2 q3 q4⟩) g1 0 0 (by omega) (by omega) (by omega) (by omega);have fA:=ur aerr;have fL:(wo (Pf.ph 0 r 0 0 p) 0 1).full<=200000000:=S4 (by omega);rw[e3,e5,<-e6,e4];rw[e4] at fL;exact⟨.inr ⟨rfl,rfl,a1,a2,rfl,b1,rfl,rfl⟩,fx',by omega,fs,by omega,fL,fL⟩
end Go.Ab
