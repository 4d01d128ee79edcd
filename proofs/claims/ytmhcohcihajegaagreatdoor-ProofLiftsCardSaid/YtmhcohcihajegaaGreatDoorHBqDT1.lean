/- A part of this seat's proofs. No conditions. -/
import Derived.Test.YtmhcohcihajegaaGreatDoorHBqD1
import Derived.Test.YtmhcohcihajegaaGreatDoorHDT2
namespace Go.Ab
open Go
set_option linter.all false
theorem Zzb{f:Int->Int}(hf:∀a b:Int,a<=b->f a<=f b)(l:List Int):yq (l.map f)=(yq l).map f:=
 Zi2 ((xn _).trans ((xn l).map f).symm) (um _) (List.pairwise_map.2 ((um l).imp fun h=>hf _ _ h))
theorem Zzi:Zbz []=[]:=rfl
theorem Zop(t:Tm)(b:Int):Zbz [(t,b)]=t.vars b:=by simp[Zbz]
def Fm.fvl(f:Fm)(b:Int):List Int:=(f.tms b).flatMap fun p=>fre (p.1.vars p.2)
theorem fvl_eq(f:Fm)(b:Int):f.fvl b=f.terms.flatMap (fun t=>fre (t.vars b))++f.args.flatMap (fun a=>a.fvl (upF f.kind b)):=by
 unfold Fm.fvl;rw[f.tms_eq b,List.flatMap_append];congr 1
 ·rw[List.flatMap_map]
 ·rw[List.flatMap_assoc]
mutual
def Pf.fvl(b:Int):Pf->List Int
 | .mk k _ _ ts fs zs=>ts.flatMap (fun t=>fre (t.vars b))++fs.flatMap (fun f=>f.fvl (b+fvK k))++(Pf.fvls b (vaK k) zs).flatten
def Pf.fvls(b w:Int):List Pf->List (List Int)
 |[]=>[]
 |p::l=>Pf.fvl (if l.length=0 then b+w else b) p::Pf.fvls b w l
end
theorem Pf.fvl_eq(b:Int)(p:Pf):p.fvl b=p.terms.flatMap (fun t=>fre (t.vars b))++p.forms.flatMap (fun f=>f.fvl (b+fvK p.kind))++(Pf.fvls b (vaK p.kind) p.args).flatten:=by cases p;rfl
theorem Zsl(b w:Int):∀l:List Pf,(Pf.fvls b w l).length=l.length
 |[]=>by rfl
 |p::l=>by simp only[Pf.fvls,List.length_cons,Zsl b w l]
theorem Zsx(b w:Int):∀(l:List Pf) (m:Nat) (h:m<l.length) (h':m<(Pf.fvls b w l).length),(Pf.fvls b w l)[m]=l[m].fvl (if m+1=l.length then b+w else b)
 |p::l,0,h,h'=>by
  simp only[Pf.fvls,List.getElem_cons_zero,List.length_cons];simp
 |p::l,m+1,h,h'=>by
  simp only[Pf.fvls,List.getElem_cons_succ,List.length_cons,Nat.add_right_cancel_iff];exact Zsx b w l m (by grind) _
theorem Zbm{α β:Type}{g:α->List β}{w:α->Nat}:∀{l:List α},(∀x∈l,(g x).length<=w x)->(l.flatMap g).length<=(l.map w).sum
 |[],_=>by simp
 |x::l,h=>by
  simp only[List.flatMap_cons,List.length_append,List.map_cons,List.sum_cons];have h1:=h x (by simp);have h2:=Zbm (l:=l) fun y hy=>h y (by grind);omega
theorem Zud(t:Tm)(b:Int):(fre (t.vars b)).length<=t.full:=by
 have h2:=Zwe (t.vars b);have h3:=t.vars_len b;have h4:=t.size_le_full;omega
theorem Zxd(f:Fm):∀b,(f.fvl b).length<=f.full:=by
 induction f using Fm.ind with
 |h f ih=>
  intro b;rw[fvl_eq,f.full_eq,List.length_append];have h1:=Zbm (l:=f.terms) (g:=fun t=>fre (t.vars b)) (w:=Tm.full) fun t _=>Zud t b;have h2:=Zbm (l:=f.args) (g:=fun a=>a.fvl (upF f.kind b)) (w:=Fm.full) fun t ht=>ih t ht _;omega
theorem Znn{b w:Int}:∀{l:List Pf},(∀p∈l,∀v,(p.fvl v).length<=p.full)->(Pf.fvls b w l).flatten.length<=(l.map Pf.full).sum
 |[],_=>by simp[Pf.fvls]
 |p::l,h=>by
  simp only[Pf.fvls,List.flatten_cons,List.length_append,List.map_cons,List.sum_cons];have h1:=h p (by simp) (if l.length=0 then b+w else b);have h2:=Znn (b:=b) (w:=w) (l:=l) fun q hq=>h q (by grind);omega
theorem Zn2(p:Pf):∀b,(p.fvl b).length<=p.full:=by
 induction p using Pf.ind with
 |h p ih=>
  intro b;rw[Pf.fvl_eq,p.full_eq,List.length_append,List.length_append];have h1:=Zbm (l:=p.terms) (g:=fun t=>fre (t.vars b)) (w:=Tm.full) fun t _=>Zud t b;have h2:=Zbm (l:=p.forms) (g:=fun f=>f.fvl (b+fvK p.kind)) (w:=Fm.full) fun f _=>Zxd f _;have h3:=Znn (b:=b) (w:=vaK p.kind) ih;omega
def Tm.ixr(t:Tm):Prop:=∀b,∀p∈t.vars b,0<=p.1/\p.1<9223372036854775808
def Fm.ixr(f:Fm):Prop:=∀b,∀p∈f.tms b,p.1.ixr
theorem Tm.ixr_of{t:Tm}(h:∀p∈t.vars 0,0<=p.1/\p.1<9223372036854775808):t.ixr:=fun b p hp=>by
 have e:=vw t 0 b
 grind
mutual
def Pf.ixr:Pf->Prop
 | .mk _ i _ ts fs zs=>(0<=i/\i<9223372036854775808)/\(∀t∈ts,t.ixr)/\(∀f∈fs,f.ixr)/\Pf.ixrs zs
def Pf.ixrs:List Pf->Prop
 |[]=>True
 |p::l=>Pf.ixr p/\Pf.ixrs l
end
theorem Zs0:∀l:List Pf,Pf.ixrs l↔∀p∈l,p.ixr
 |[]=>by simp[Pf.ixrs]
 |p::l=>by simp[Pf.ixrs,Zs0 l]
theorem Pf.ixr_iff(p:Pf):p.ixr↔(0<=p.index/\p.index<9223372036854775808)/\(∀t∈p.terms,t.ixr)/\(∀f∈p.forms,f.ixr)/\∀x∈p.args,x.ixr:=by
 cases p;simp only[Pf.ixr,Zs0];rfl
def Zho(p:Pf):List Int:=yq (nub [] (p.fvl 0))
def Zft(p:Pf)(fr by_:Int):Int:=if p.err≠0 then p.err else if ¬(0<=fr/\fr<=4096)\/¬(0<=by_/\by_<=4096)\/p.nearP=false then 1 else 0
def Zf2(p:Pf)(fr by_:Int):Int:=if p.err≠0 then p.err else if ¬(0<=fr/\fr<=16384)\/¬(0<=by_/\by_<=16384)\/p.nearH=false then 1 else 0
section
variable {p q:Pf} {fr by_ a:Int} {s:Tm}
theorem Zu3(h:p.err≠0):Zft p fr by_=p.err:=by unfold Zft;omega
theorem Zvb(h:p.err=0)(hg:¬(0<=fr/\fr<=4096)\/¬(0<=by_/\by_<=4096)\/p.nearP=false):Zft p fr by_=1:=by unfold Zft;grind
theorem Zn6(h:p.err=0)(hg:¬(¬(0<=fr/\fr<=4096)\/¬(0<=by_/\by_<=4096)\/p.nearP=false)):Zft p fr by_=0:=by unfold Zft;grind
theorem Zvo(h:p.err≠0):Zf2 p fr by_=p.err:=by unfold Zf2;omega
theorem Zuy(h:p.err=0)(hg:¬(0<=fr/\fr<=16384)\/¬(0<=by_/\by_<=16384)\/p.nearH=false):Zf2 p fr by_=1:=by unfold Zf2;grind
theorem Zp5(h:p.err=0)(hg:¬(¬(0<=fr/\fr<=16384)\/¬(0<=by_/\by_<=16384)\/p.nearH=false)):Zf2 p fr by_=0:=by unfold Zf2;grind
end
theorem top1{c:Ck}{p:Pf}(h:MkQ 1 c p)(hc:HTp c)(hs:p.shape=true):p.err=0/\p.size<=239:=by
 have z:=(z1 h hc.b (by omega)).1;exact⟨(Pf.err_iff p).2 ⟨hs,sm_1 h (hc.b.le (by omega)),by omega⟩,by omega⟩
theorem Yjj(b:Int)(hb:0<=b)(p:Pf):p.shape=true->∀w:Int,(p.lh 0 b w).lfl hyF w=(p.lfl hyF w).map (·+b):=by
 induction p using Pf.ind with
 |h p ih=>
  intro hs w;rw[Pf.lh_eq];by_cases hk:p.kind=1
  ·rw[if_pos hk,Zgk hs hk];show(va _).lfl hyF _=_;rw[Zl2];by_cases h1:p.index>=w
   ·rw[if_pos (by split<;>omega),if_pos h1,if_pos (by omega)];simp only[List.map_cons,List.map_nil];congr 1;omega
   ·rw[if_neg (by split<;>omega),if_neg h1];rfl
  ·rw[if_neg hk,Zv8 hk,Zeh hk];have key:∀(l:List Pf),(∀x∈l,x∈p.args)->(Pf.lfls hyF w (hyK p.kind) (Pf.lhs 0 b w (hyK p.kind) l)).flatten=(Pf.lfls hyF w (hyK p.kind) l).flatten.map (·+b):=by
    intro l;induction l with
    |nil=>intro _;rfl
    |cons x l ihl=>
     intro hx;simp only[Pf.lfls,Pf.lhs,Zd5,List.flatten_cons,List.map_append];rw[ihl fun z hz=>hx z (by simp[hz])];congr 1;exact ih x (hx x (by simp)) ((zo hs).2.2.2 x (hx x (by simp))) _
   exact key p.args fun _ h=>h
end Go.Ab
namespace Go.Ab
set_option linter.all false
mutual
def Pf.gx:Pf->Prop
 | .mk _ i _ ts fs zs=>i<9223372036854775808/\(∀t∈ts,t.ixr)/\(∀f∈fs,f.ixr)/\Pf.gxs zs
def Pf.gxs:List Pf->Prop
 |[]=>True
 |p::l=>Pf.gx p/\Pf.gxs l
end
theorem Zwm:∀l:List Pf,Pf.gxs l↔∀p∈l,p.gx
 |[]=>by simp[Pf.gxs]
 |p::l=>by simp[Pf.gxs,Zwm l]
theorem Pf.gx_iff(p:Pf):p.gx↔p.index<9223372036854775808/\(∀t∈p.terms,t.ixr)/\(∀f∈p.forms,f.ixr)/\∀x∈p.args,x.gx:=by
 cases p;simp only[Pf.gx,Zwm];rfl
theorem Yjs(p:Pf):p.shape=true->p.gx->p.ixr:=by
 induction p using Pf.ind with
 |h p ih=>
  intro hs hg;obtain⟨h1,h2,h3,h4⟩:=(Pf.gx_iff p).1 hg;obtain⟨s1,_,_,s4⟩:=zo hs;obtain⟨_,_,_,_,_,hi,_⟩:=Zi7 s1;exact(Pf.ixr_iff p).2 ⟨⟨hi,h1⟩,h2,h3,fun x hx=>ih x hx (s4 x hx) (h4 x hx)⟩
theorem Ztd{p:Pf}(h:p.head=true){nd:Nd}(hn:ndP p.kind=some nd):nd.index=true\/p.index=0:=by
 unfold Pf.head at h
 grind
theorem Yb9(p:Pf):p.shape=true->p.ix 10000->p.hx 10000->p.lx 10000->p.gx:=by
 induction p using Pf.ind with
 |h p ih=>
  intro hs hx hh hl;obtain⟨s1,_,_,s4⟩:=zo hs;obtain⟨x1,x2,x3⟩:=(Pf.ix_iff _ p).1 hx;obtain⟨h1,h2⟩:=(Pf.hx_iff _ p).1 hh;obtain⟨l1,l2⟩:=(Pf.lx_iff _ p).1 hl;obtain⟨nd,n1,n2,n3,n4,hi,_⟩:=Zi7 s1;have hi2:=Ztd s1 n1;refine(Pf.gx_iff p).2 ⟨?_,fun t ht=>Tm.ixr_of fun q hq=>by grind,fun f hf=>fun b q hq=> ?_,fun x hx=>ih x hx (s4 x hx) (x3 x hx) ?_ (l2 x hx)⟩
  ·by_cases k1:p.kind=1
   ·omega
   ·by_cases k2:p.kind=2
    ·omega
    ·have e:nd.index=false:=by
      unfold ndP at n1;rw[if_neg (by omega)] at n1
      repeat(split at n1;· grind)
      cases n1
     grind
  ·obtain ⟨q',hq',e⟩:=Zm0 (b':=0) q hq;rw[<-e];exact Tm.ixr_of fun r hr=>by grind
  ·by_cases k1:p.kind=1
   ·have e:nd.args=0:=by
     rw[k1] at n1;simp[ndP] at n1
     grind
    grind
   grind
theorem Made.gx{n:Nat}{p:Pf}(h:Made n p):p.gx:=Yb9 p h.shape h.ix h.hx h.lx
end Go.Ab
namespace Go.Ab
open Go
set_option linter.all false
theorem Ymm{C:Int}(hC:C<=1000000)(p:Pf):p.shape=true->p.ix C->p.hx C->p.lx C->p.gx:=by
 induction p using Pf.ind with
 |h p ih=>
  intro hs hx hh hl;obtain⟨s1,_,_,s4⟩:=zo hs;obtain⟨x1,x2,x3⟩:=(Pf.ix_iff _ p).1 hx;obtain⟨h1,h2⟩:=(Pf.hx_iff _ p).1 hh;obtain⟨l1,l2⟩:=(Pf.lx_iff _ p).1 hl;obtain⟨nd,n1,n2,n3,n4,hi,_⟩:=Zi7 s1;have hi2:=Ztd s1 n1;refine(Pf.gx_iff p).2 ⟨?_,fun t ht=>Tm.ixr_of fun q hq=>by grind,fun f hf=>fun b q hq=> ?_,fun x hx=>ih x hx (s4 x hx) (x3 x hx) ?_ (l2 x hx)⟩
  ·by_cases k1:p.kind=1
   ·omega
   ·by_cases k2:p.kind=2
    ·omega
    ·have e:nd.index=false:=by
      unfold ndP at n1;rw[if_neg (by omega)] at n1
      repeat(split at n1;· grind)
      cases n1
     grind
  ·obtain ⟨q',hq',e⟩:=Zm0 (b':=0) q hq;rw[<-e];exact Tm.ixr_of fun r hr=>by grind
  ·by_cases k1:p.kind=1
   ·have e:nd.args=0:=by
     rw[k1] at n1;simp[ndP] at n1
     grind
    grind
   grind
theorem Yeo{C:Int}{p:Pf}(hs:p.shape=true)(h:Ib C p)(hC:C<=1000000):p.ixr:=Yjs p hs (Ymm hC p hs h.ix h.hx h.lx)
theorem Yhd(n:Int)(l:List Int):(nub [] (l.map (·+n))).Perm ((nub [] l).map (·+n)):=by
 refine(List.perm_ext_iff_of_nodup (wc List.nodup_nil) ?_).2 fun x=> ?_
 ·exact List.pairwise_map.2 ((wc (l:=l) List.nodup_nil).imp fun h e=>h (by omega))
 ·rw[mem_nub,List.mem_map,List.mem_map];constructor
  ·rintro (h|⟨z,hz,rfl⟩)
   ·cases h
   ·exact ⟨z,mem_nub.2 (.inr hz),rfl⟩
  ·rintro ⟨z,hz,rfl⟩;rcases mem_nub.1 hz with h|h
   ·cases h
   ·exact .inr ⟨z,h,rfl⟩
theorem Zsm(n:Int)(l:List Int):yq (nub [] (l.map (·+n)))=(yq (nub [] l)).map (·+n):=by
 rw[<-Zzb (fun a b h=>by omega)];exact Zfz (Yhd n l)
theorem Yf6{p:Pf}(hs:p.shape=true){n:Int}(hn:0<=n):xp (p.lh 0 n 0)=(xp p).map (·+n):=by
 unfold xp;rw[Zto,Zto,Yjj n hn p hs 0,Zsm]
theorem Zs6(t:Tm)(hs:t.shape=true)(n v:Int)(hn:0<=n):fre ((t.re (zk v n) 0).vars v)=(fre (t.vars v)).map (·+n):=by
 have e:=fun t:Tm=>vw t 0 v;simp only[Int.zero_add] at e;rw[e,e t,Zcv _ _ _ _ hs];unfold fre;rw[List.map_map,List.filterMap_map,List.filterMap_map,List.map_filterMap];congr 1;funext p;simp only[Function.comp];by_cases h:p.1-p.2>=v
 ·rw[if_pos h,if_pos (by omega),if_pos (by omega)];simp only[Option.map_some,Option.some.injEq];omega
 ·rw[if_neg h,if_neg (by omega)];rfl
theorem Zso(f:Fm):∀b c:Int,f.tms (b+c)=(f.tms b).map fun p=>(p.1,p.2+c):=by
 induction f using Fm.ind with
 |h f ih=>
  intro b c;rw[Fm.tms_eq,Fm.tms_eq,List.map_append,List.map_map];have e:upF f.kind (b+c)=upF f.kind b+c:=by simp only[upF];split<;>omega
  rw[e];congr 1;have:∀l:List Fm,(∀x∈l,x∈f.args)->l.flatMap (Fm.tms (upF f.kind b+c))=(l.flatMap (Fm.tms (upF f.kind b))).map fun p=>(p.1,p.2+c):=by
   intro l;induction l with
   |nil=>intro _;rfl
   |cons x l ihl=>intro h;rw[List.flatMap_cons,List.flatMap_cons,List.map_append,ih x (h x (by simp)),ihl fun y hy=>h y (by simp[hy])]
  exact this f.args fun _ h=>h
theorem Yav(f:Fm)(hs:f.shape=true)(n v:Int)(hn:0<=n):(f.lft v n).fvl v=(f.fvl v).map (·+n):=by
 have e:=fun f:Fm=>Zso f 0 v;simp only[Int.zero_add] at e;unfold Fm.fvl;rw[e,e f,Fm.lft,Zpc,List.map_map,List.flatMap_map,List.flatMap_map,List.map_flatMap];have h:=x7 f hs 0;have:∀l:List (Tm×Int),(∀p∈l,p.1.shape=true)->(l.flatMap fun p=>fre ((p.1.re (zk (v+p.2) n) 0).vars (p.2+v)))=l.flatMap fun p=>(fre (p.1.vars (p.2+v))).map (·+n):=by
  intro l;induction l with
  |nil=>intro _;rfl
  |cons p l ih=>
   intro h;rw[List.flatMap_cons,List.flatMap_cons,ih fun q hq=>h q (by simp[hq]),Int.add_comm v p.2,Zs6 _ (h p (by simp)) n _ hn]
 exact this _ h
theorem Yln(n:Int)(hn:0<=n)(p:Pf):p.shape=true->∀v:Int,(p.up 0 n v).fvl v=(p.fvl v).map (·+n):=by
 induction p using Pf.ind with
 |h p ih=>
  intro hs v;obtain⟨_,s4,s5,s6⟩:=zo hs;rw[Pf.up_eq,Pf.fvl_eq,p.fvl_eq];simp only[Pf.kind_mk,Pf.terms_mk,Pf.forms_mk,Pf.args_mk,List.map_append,Int.zero_add];congr 1
  ·congr 1
   ·rw[List.flatMap_map,List.map_flatMap];have:∀l:List Tm,(∀x∈l,x.shape=true)->(l.flatMap fun t=>fre ((t.re (zk v n) 0).vars v))=l.flatMap fun t=>(fre (t.vars v)).map (·+n):=by
     intro l;induction l with
     |nil=>intro _;rfl
     |cons x l ih=>intro h;rw[List.flatMap_cons,List.flatMap_cons,ih fun q hq=>h q (by simp[hq]),Zs6 _ (h x (by simp)) n _ hn]
    exact this _ s4
   ·rw[List.flatMap_map,List.map_flatMap];have:∀l:List Fm,(∀x∈l,x.shape=true)->(l.flatMap fun f=>(f.lft (v+fvK p.kind) n).fvl (v+fvK p.kind))=l.flatMap fun f=>(f.fvl (v+fvK p.kind)).map (·+n):=by
     intro l;induction l with
     |nil=>intro _;rfl
     |cons x l ih=>intro h;rw[List.flatMap_cons,List.flatMap_cons,ih fun q hq=>h q (by simp[hq]),Yav _ (h x (by simp)) n _ hn]
    exact this _ s5
  ·have key:∀(l:List Pf),(∀x∈l,x∈p.args)->(Pf.fvls v (vaK p.kind) (Pf.ups 0 n v (vaK p.kind) l)).flatten=(Pf.fvls v (vaK p.kind) l).flatten.map (·+n):=by
    intro l;induction l with
    |nil=>intro _;rfl
    |cons x l ihl=>
     intro hx;simp only[Pf.fvls,Pf.ups,Zha,List.flatten_cons,List.map_append];rw[ihl fun z hz=>hx z (by simp[hz])];congr 1;exact ih x (hx x (by simp)) (s6 x (hx x (by simp))) _
   exact key p.args fun _ h=>h
theorem Yif{p:Pf}(hs:p.shape=true){n:Int}(hn:0<=n):Zho (p.up 0 n 0)=(Zho p).map (·+n):=by
 unfold Zho;rw[Yln n hn p hs 0,Zsm]
theorem Ylr{p:Pf}(hs:p.shape=true)(hk:p.kind=1):p=va p.index:=by
 have h0:=Zw9 hs hk;obtain⟨k,i,s,ts,fs,zs⟩:=p;obtain rfl:k=1:=hk;obtain rfl:zs=[]:=h0;rw[Pf.shape_eq] at hs;simp only[Pf.head,Pf.kind_mk,Pf.args_mk,Pf.terms_mk,Pf.forms_mk,Pf.ty_mk,Pf.index_mk,ndP,Bool.and_eq_true,beq_iff_eq] at hs;obtain⟨k,l⟩:=s;simp[Ty.isNo] at hs;simp[va,hs]
theorem Yjp(r:Pf)(v y i:Int):Pf.ph 0 r v y (va i)=if i-y=0 then r.uph v (0+y) else if i-y>0 then va (i-1) else va i:=by
 rw[Pf.ph_eq];exact if_pos rfl
theorem Yma(r:Pf)(p:Pf):p.shape=true->∀v y:Int,Pf.ph 0 r v y (p.lh 0 1 y)=p:=by
 induction p using Pf.ind with
 |h p ih=>
  intro hs v y;rw[Pf.lh_eq];by_cases hk:p.kind=1
  ·rw[if_pos hk];show Pf.ph 0 r v y (va (if p.index-y>=0 then p.index+1 else p.index))=p;rw[Yjp];have e:=Ylr hs hk;by_cases h:p.index-y>=0
   ·rw[if_pos h,if_neg (by omega),if_pos (by omega),Int.add_sub_cancel];exact e.symm
   ·rw[if_neg h,if_neg (by omega),if_neg (by omega)];exact e.symm
  ·rw[if_neg hk,Pf.ph_eq];refine(if_neg hk).trans ?_;simp only[Pf.kind_mk,Pf.index_mk,Pf.ty_mk,Pf.terms_mk,Pf.forms_mk,Pf.args_mk];have key:∀(l:List Pf),(∀x∈l,x∈p.args)->Pf.phs 0 r v y (vaK p.kind) (hyK p.kind) (Pf.lhs 0 1 y (hyK p.kind) l)=l:=by
    intro l;induction l with
    |nil=>intro _;rfl
    |cons x l ihl=>
     intro hx;simp only[Pf.phs,Pf.lhs,Zd5];rw[ihl fun z hz=>hx z (by simp[hz]),ih x (hx x (by simp)) ((zo hs).2.2.2 x (hx x (by simp)))]
   rw[key p.args fun _ h=>h];cases p;rfl
theorem Yjb{p:Pf}(hs:p.shape=true):Znh (p.lh 0 1 0) 0=0:=by
 have key:∀(p:Pf),p.shape=true->∀y:Int,(p.lh 0 1 y).lfl (Zb8 0) y=[]:=by
  intro p;induction p using Pf.ind with
  |h p ih=>
   intro hs y;rw[Pf.lh_eq];by_cases hk:p.kind=1
   ·rw[if_pos hk];simp only[Pf.lfl,Pf.lfls,Zb8];by_cases h:p.index-y>=0
    ·rw[if_pos h];simp;omega
    ·rw[if_neg h];simp;omega
   ·rw[if_neg hk,Pf.lfl_eq];simp only[Pf.kind_mk,Pf.index_mk,Pf.args_mk];have key:∀(l:List Pf),(∀x∈l,x∈p.args)->(Pf.lfls (Zb8 0) y (hyK p.kind) (Pf.lhs 0 1 y (hyK p.kind) l)).flatten=[]:=by
     intro l;induction l with
     |nil=>intro _;rfl
     |cons x l ihl=>
      intro hx;simp only[Pf.lfls,Pf.lhs,Zd5,List.flatten_cons];rw[ihl fun z hz=>hx z (by simp[hz]),ih x (hx x (by simp)) ((zo hs).2.2.2 x (hx x (by simp)))];rfl
    rw[key p.args fun _ h=>h];simp[Zb8,hk]
 unfold Znh;rw[key p hs 0];rfl
theorem Zmb{n m:Nat}{p r:Pf}{k:Int}(hp:Made n p)(hr:Made m r)(ep:p.err=0)(er:r.err=0)(hk:0<=k/\k<=5):
 Zf2 p 0 k=0/\p.hw 0 k 0=p.lh 0 k 0/\(p.lh 0 k 0).err=0/\(p.lh 0 k 0).hx 10005/\(p.lh 0 k 0).full<=1064960:=by
 obtain⟨g1,g2,g3⟩:=(Pf.err_iff p).1 ep;have hn:p.nearH=true:=Zgf p (Zhd p g1) hp.hx 0;have h1:=Zp5 (fr:=0) (by_:=k) ep (by rw[hn];simp;omega);have gf:=vh ep;have h2:=Ybr (p:=p) (fr:=0) (b:=k) (by omega) (Zhd p g1) (Zaz hp.hx (by omega)) 0 (by omega);have h3:=Zzo (f:=0) (b:=k) (C:=10000) hk.1 g1 g2 hp.ix 0;have h4:(p.lh 0 k 0).err=0:=h3.err (by omega);exact⟨h1,h2,h4,Zaz (Yk3 hk.1 p hp.hx 0) (by omega),vh h4⟩
theorem Yjk{n:Nat}{p:Pf}{k:Int}(hp:Made n p)(ep:p.err=0)(hk:0<=k/\k<=5):
 Zft p 0 k=0/\p.uw 0 k 0=p.up 0 k 0/\(p.up 0 k 0).err=0/\(p.up 0 k 0).ixr/\(p.up 0 k 0).full<=1064960:=by
 obtain⟨g1,g2,g3⟩:=(Pf.err_iff p).1 ep;have hn:p.nearP=true:=Zh2 p hp.ix 0;have h1:=Zn6 (fr:=0) (by_:=k) ep (by rw[hn];simp;omega);have h2:=Ydr (p:=p) (fr:=0) (b:=k) (by omega) g1 g2 (Zad hp.ix (by omega)) 0;have h3:=Yaj (fr:=0) (n:=k) (C:=10000) hk.1 g1 g2 hp.ix 0;have h4:(p.up 0 k 0).err=0:=h3.err (by omega);exact⟨h1,h2,h4,Yeo (C:=10005) h3.1 ⟨Zad h3.2.2.2 (by omega),Ybm _ _ _ _ (Zaz hp.hx (by omega)) 0,Ylk _ (Zip hp.lx (by omega)) 0⟩ (by omega),vh h4⟩
theorem Ygg{n m:Nat}{p r:Pf}(hp:Made n p)(hr:Made m r)(ep:p.err=0)(er:r.err=0):Za1 (p.lh 0 1 0) 0 r=0/\Pf.ph 0 r 0 0 (p.lh 0 1 0)=p:=by
 obtain⟨g1,g2,g3⟩:=(Pf.err_iff p).1 ep;obtain⟨_,_,h4,h5,_⟩:=Zmb (k:=1) hp hr ep er (by omega);have h3:=Zzo (f:=0) (b:=1) (C:=10000) (by omega) g1 g2 hp.ix 0;have z:=h3.2.2.1;have n1:(p.lh 0 1 0).nearH=true:=(Zng _ h3.1 ⟨Zad h3.2.2.2 (by omega),Zaz h5 (by omega),Zip (Ykq p hp.lx 0) (by omega)⟩ 0).1;have n2:r.nearH=true:=Zgf r (Zhd r hr.shape) hr.hx 0;have n3:r.nearP=true:=Zh2 r hr.ix 0;have:=Zll (a:=0) h4 (by omega) er (by rw[n1,n2,n3];decide);rw[this,Yjb g1,z,if_neg (by omega)];exact⟨rfl,Yma r p g1 0 0⟩
theorem Yem{C v:Int}{t:Tm}(h:∀q∈t.vars 0,0<=q.1/\q.1<C)(hv:0<=v):∀x∈fre (t.vars v),0<=x/\x<C:=by
 intro x hx;obtain⟨h0,q,hq,rfl⟩:=mem_fre.1 hx;have e:=vw t 0 v;rw[Int.zero_add] at e;rw[e] at hq;obtain⟨r,hr,rfl⟩:=List.mem_map.1 hq;have h1:=h r hr;have h2:=wv t 0 r hr;simp only at h0 ⊢;omega
theorem Yhx{C v:Int}{f:Fm}(h:∀q∈f.tms 0,∀r∈q.1.vars 0,0<=r.1/\r.1<C)(hv:0<=v):∀x∈f.fvl v,0<=x/\x<C:=by
 intro x hx;obtain⟨q,hq,hx⟩:=List.mem_flatMap.1 hx;have e:=Zso f 0 v;rw[Int.zero_add] at e;rw[e] at hq;obtain⟨r,hr,rfl⟩:=List.mem_map.1 hq;have:=Zgw r hr;exact Yem (h r hr) (by simp only;omega) x hx
theorem Yj9{C:Int}(p:Pf):p.ix C->∀v:Int,0<=v->∀x∈p.fvl v,0<=x/\x<C:=by
 induction p using Pf.ind with
 |h p ih=>
  intro h v hv x hx;obtain⟨i1,i2,i3⟩:=(Pf.ix_iff C p).1 h;have b3:0<=fvK p.kind:=by unfold fvK;split<;>omega
  have b2:0<=vaK p.kind:=by unfold vaK;split<;>(try split)<;>omega
  rw[Pf.fvl_eq,List.mem_append,List.mem_append] at hx;rcases hx with(hx|hx)|hx
  ·obtain ⟨t,ht,hx⟩:=List.mem_flatMap.1 hx;exact Yem (i1 t ht) hv x hx
  ·obtain ⟨f,hf,hx⟩:=List.mem_flatMap.1 hx;exact Yhx (fun q hq r hr=>i2 f hf q hq r hr) (by omega) x hx
  ·obtain ⟨l,hl,hx⟩:=List.mem_flatten.1 hx;obtain⟨m,hm,rfl⟩:=List.getElem_of_mem hl;rw[Zsl] at hm;rw[Zsx _ _ _ _ hm] at hx;exact ih _ (List.getElem_mem hm) (i3 _ (List.getElem_mem hm)) _ (by split<;>omega) x hx
theorem Ybc{C:Int}{p:Pf}(h:p.ix C):∀x∈Zho p,0<=x/\x<C:=fun x hx=>by
 unfold Zho at hx;rw[(xn _).mem_iff,mem_nub] at hx;rcases hx with hx|hx
 ·cases hx
 ·exact Yj9 p h 0 (Int.le_refl 0) x hx
theorem Yag(p:Pf)(hf:p.full<=100000000000):(Zho p).length<1099511627776:=by
 have e:(Zho p).length=(nub [] (p.fvl 0)).length:=Zgj _;have h1:=Zd1 (p.fvl 0) [];have h2:=Zn2 p 0;simp only[List.length_nil] at h1;omega
end Go.Ab
