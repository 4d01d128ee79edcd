/- A part of the proofs of this seat's statements: D34, D41, D42, D55, D57, D58, D60, D64, D65, D66, D67, D68. It has no conditions of its own. -/
import Derived.Test.YthlkampfjlkniaaGreatDoorXA1
import Derived.Test.YthlkampfjlkniaaGreatDoorXD1
import Derived.Test.YthlkampfjlkniaaGreatDoorDT1
namespace Go.Ab
open Go
set_option linter.all false
theorem lift_same(t:Tm)(a n m:Int)(hn:0≤n):(t.re (liftG a n) 0).re (liftG a m) 0=t.re (liftG a (n+m)) 0:=by
 rw[re_re]
 refine re_congr t 0 fun p hp=> ?_
 simp only[liftG_eq,re_vT]
 congr 1
 by_cases h:p.1-p.2≥a
 ·rw [if_pos h,if_pos (by omega),if_pos h];omega
 ·rw [if_neg h,if_neg h,if_neg h]
theorem cnt_lifted{t:Tm}(hs:t.shape=true)(a:Int):cnt a ((t.re (liftG a 1) 0).vars 0)=0:=by
 rw[lift_vars _ _ _ _ hs]
 have:∀l:List (Int×Int),cnt a (l.map fun p=>(if p.1-p.2≥a then p.1+1 else p.1,p.2))=0:=by
  intro l
  induction l with
  |nil=>rfl
  |cons p l ih=>
   rw[List.map_cons,show ∀(x:Int×Int) l,x::l=[x]++l from fun _ _=>rfl,cnt_append,ih,cnt_one,if_neg]
   simp only
   split<;>omega
 exact this _
theorem cntF_lifted{f:Fm}(hs:∀p∈f.tms 0,p.1.shape=true)(a:Int):cntF a ((f.lft a 1).tms 0)=0:=by
 rw[Fm.lft,tms_re]
 have:∀l:List (Tm×Int),(∀p∈l,p.1.shape=true)→cntF a (l.map fun p=>(p.1.re (liftG (a+p.2) 1) 0,p.2))=0:=by
  intro l
  induction l with
  |nil=>intro _;rfl
  |cons p l ih=>
   intro h
   simp only[List.map_cons,cntF]
   rw[show cntF a (l.map fun p=>(p.1.re (liftG (a+p.2) 1) 0,p.2))=0 from ih fun q hq=>h q (by simp[hq])]
   rw[cnt_lifted (h p (by simp))]
 exact this _ hs
theorem fokT_idx{f:Fm}{g:List Ty}(h:f.okT g)(he:f.err=0)(hg:g.length≤100):∀p∈f.tms 0,∀q∈p.1.vars 0,q.1≤4500:=fun p hp q hq=>by
 have h1:=(Fm.err_iff f).1 he
 have:=fokT_vars h h1.1 p hp q hq
 omega
theorem liftFErr_no{f:Fm}{g:List Ty}(h:f.okT g)(he:f.err=0)(hg:g.length≤1000):liftFErr f 0 1=0:=by
 rw[liftFErr,if_neg (fun hc=>hc he),if_neg]
 rintro(hc|hc|hc)
 ·exact hc ⟨by omega,by omega⟩
 ·exact hc ⟨by omega,by omega⟩
 ·rw [(fokT_near h he hg).1] at hc;cases hc
theorem falseF_shape:falseF.shape=true:=by decide
theorem falseF_size:falseF.size=4:=by decide
theorem zeroF_shape:zeroF.shape=true:=by decide
theorem zeroF_size:zeroF.size=3:=by decide
theorem zeroF_okT(g:List Ty):zeroF.okT (g++[natT]):=by
 rw[Fm.okT_iff]
 refine⟨fun t ht=> ?_,fun x hx=>by simp[zeroF,eqF] at hx⟩
 simp only[zeroF,eqF,Fm.terms_mk,List.mem_cons,List.not_mem_nil,or_false] at ht
 rcases ht with rfl|rfl
 ·have:=inf_var' (g++[natT]) 0 (by omega)
  rw[show vT 0= .mk 1 0 (.mk 0 []) [] from rfl] at this
  rw[this,if_neg (by simp)]
  rw[show(0:Int).toNat=0 from rfl,look_last]
 ·rfl
theorem notF_ok{f:Fm}(h:f.shape=true):(notF f).shape=true∧(notF f).size=f.size+5:=by
 constructor
 ·rw [Fm.shape_eq];simp[notF,Fm.head,h,falseF_shape,Ty.isNo]
 ·rw [Fm.size_eq];simp[notF,falseF_size];omega
theorem notF_okT{f:Fm}{g:List Ty}(h:f.okT g):(notF f).okT g:=fokT_two (.inr rfl) h (falseF_okT g)
theorem orF_ok{a b:Fm}(h:a.shape=true)(h':b.shape=true):(orF a b).shape=true∧(orF a b).size=a.size+b.size+15:=by
 constructor
 ·rw [Fm.shape_eq];simp[orF,Fm.head,Fm.shape_eq (.mk 2 _ _ _),Fm.shape_eq (.mk 3 _ _ _),h,h',falseF_shape,zeroF_shape,Ty.isNo];decide
 ·simp only[orF,Fm.size_eq (.mk 5 _ _ _),Fm.size_eq (.mk 2 _ _ _),Fm.size_eq (.mk 3 _ _ _),Fm.terms_mk,Fm.args_mk,List.map_cons,List.map_nil,List.sum_cons,List.sum_nil,falseF_size,zeroF_size];omega
theorem orF_okT{a b:Fm}{g:List Ty}(h:a.okT (g++[natT]))(h':b.okT (g++[natT])):(orF a b).okT g:=
 fokT_qu ⟨by omega,by omega⟩ (fokT_two (.inl rfl) (fokT_two (.inr rfl) (zeroF_okT g) h) (fokT_two (.inr rfl) (fokT_two (.inr rfl) (zeroF_okT g) (falseF_okT _)) h'))
theorem shape_s{s:Tm}(h:s.shape=true):(sT s).shape=true:=shape_one' (k:=5) rfl rfl h
theorem size_s(s:Tm):(sT s).size=1+s.size:=by simp[sT,Tm.size,Tm.sizes]
theorem NumOk.suc{g:List Ty}{s:Tm}(h:NumOk g s)(hz:s.size≤800):NumOk g (sT s):=
 ⟨(Tm.err_iff _).2 ⟨shape_s h.shape,by rw[size_s];omega⟩,inf_succ h.inf,by rw[size_s];omega⟩
theorem either_z(t:Tm):Pst (eitherT zT t zT) zT:= .one (Par.rz (Par.refl _))
theorem either_s(n:Tm):Pst (eitherT zT (sT zT) (sT n)) (sT zT):=by
 have h2:Par (eitherT zT (sT zT) (sT n)) (apT (apT (lmT natT (lmT natT (sT zT))) n) (eitherT zT (sT zT) n)):=Par.rs (Par.refl _) (Par.refl _) (Par.refl _)
 have h3:Par (apT (apT (lmT natT (lmT natT (sT zT))) n) (eitherT zT (sT zT) n)) (apT (lmT natT (sT zT)) (eitherT zT (sT zT) n)):=
  Par.two (Par.beta (i:=0) (th:= .mk 0 []) (j:=0) (s:= .mk 1 []) (Par.refl (lmT natT (sT zT))) (Par.refl n)) (Par.refl _)
 have h4:Par (apT (lmT natT (sT zT)) (eitherT zT (sT zT) n)) (sT zT):=
  Par.beta (i:=0) (th:= .mk 0 []) (j:=0) (s:= .mk 1 []) (Par.refl (sT zT)) (Par.refl _)
 exact .step h2 (.step h3 (.one h4))
theorem either_inf{g:List Ty}{n:Tm}(h:n.inf g=(natT,0)):(eitherT zT (sT zT) n).inf g=(natT,0):=
 inf_rec (t:=natT) (inf_zero _) (inf_lam (s:=natT) (inf_lam (s:=natT) (inf_succ (inf_zero _)) rfl) rfl) h
theorem either_shape{n:Tm}(h:n.shape=true):(eitherT zT (sT zT) n).shape=true:=shape_h3 (k:=6) rfl rfl rfl (by decide) (by decide) h
theorem either_size(n:Tm):(eitherT zT (sT zT) n).size=6+n.size:=by
 have e:eitherT zT (sT zT) n= .mk 6 0 natT [zT,lmT natT (lmT natT (sT zT)),n]:=rfl
 rw[e]
 simp[lmT,sT,zT,Tm.size,Tm.sizes];omega
theorem NumOk.eit{g:List Ty}{n:Tm}(h:NumOk g n)(hz:n.size≤810):NumOk g (eitherT zT (sT zT) n):=
 ⟨(Tm.err_iff _).2 ⟨either_shape h.shape,by rw[either_size];omega⟩,either_inf h.inf,by rw[either_size];omega⟩
theorem put_eit{x:Tm}(hx:x.shape=true):(eitherT zT (sT zT) (vT 0)).re (putG 0 x) 0=eitherT zT (sT zT) x:=by
 have e:(eitherT zT (sT zT) (vT 0)).re (putG 0 x) 0=eitherT zT (sT zT) ((vT 0).re (putG 0 x) 0):=rfl
 rw[e,put_v0 hx]
theorem re_pt{g g':Int→Int→Tm}(h:∀i c,g i c=g' i c)(t:Tm)(b:Int):t.re g b=t.re g' b:=by
 have:g=g':=funext fun i=>funext fun c=>h i c
 rw[this]
theorem vT_lift(j fr by_ c:Int):(vT j).re (liftG fr by_) c=vT (if j-c≥fr then j+by_ else j):=by rw[re_vT];rfl
theorem Fm.re_shift(G:Int→Tm→Tm)(c:Int)(f:Fm):∀b,f.re G (b+c)=f.re (fun b t=>G (b+c) t) b:=by
 induction f using Fm.ind with
 |h f ih=>
  intro b
  have e:upF f.kind (b+c)=upF f.kind b+c:=by simp only[upF];split<;>omega
  rw[Fm.re_eq,Fm.re_eq,e]
  congr 1
  exact List.map_congr_left fun x hx=>ih x hx _
theorem Fm.re_pt{G G':Int→Tm→Tm}(h:∀b t,0≤b→G b t=G' b t)(f:Fm):f.re G 0=f.re G' 0:=by
 refine Fm.re_congr f 0 fun p hp=>h _ _ ?_
 exact tms_snd p hp
theorem lft_at(f:Fm)(a n:Int):f.lft a n=f.re (fun b t=>t.re (liftG (a+b) n) 0) 0:=rfl
theorem fput_at(f:Fm)(a:Int)(s:Tm):f.put a s=f.re (fun b t=>t.re (putG (a+b) s) 0) 0:=rfl
theorem put_qu{k:Int}(hk:quantK k=true)(s:Ty)(f:Fm)(a:Int)(x:Tm):(quF k s f).put a x=quF k s (f.put (a+1) x):=by
 rw[fput_at,Fm.re_eq]
 simp only[quF,Fm.kind,Fm.ty,Fm.terms,Fm.args,List.map_nil,List.map_cons]
 congr 2
 have e:upF k 0=0+1:=by simp[upF,hk]
 rw[e,Fm.re_shift,fput_at]
 refine Fm.re_pt (fun b t _=> ?_) f
 rw[show a+(b+1)=a+1+b by omega]
theorem lft_lft(f:Fm)(a n m:Int)(hn:0≤n):(f.lft a n).lft a m=f.lft a (n+m):=by
 rw[lft_at,lft_at,lft_at,Fm.re_re]
 exact Fm.re_pt (fun b t _=>lift_same t _ n m hn) f
theorem Gf.quI{g:List Ty}{s:Ty}{f:Fm}{n:Nat}(k:Int)(hk:4≤k∧k≤7)(hf:Gf g (quF k s f) (n+1)):Gf (g++[s]) f n:=
 ⟨by have:=hf.sh;rw[Fm.shape_eq] at this;simp[quF] at this;exact this.2,by have:=hf.sz;rw[quF_size] at this;omega,qu_okT hk hf.ok⟩
theorem Gt.suc0(g:List Ty):Gt (g++[natT]) (sT (vT 0)) natT 2:=by
 have h:=Gt.v0 g natT
 exact⟨by decide,by decide,by
  have e:(sT (vT 0)).inf (g++[natT])=(natT,0):=by simp[sT,Tm.inf,Tm.infs,rule,h.inf]
  exact e⟩
theorem fte{g:List Ty}{f:Fm}{n:Nat}(h:Gf g f n)(hn:n≤4096):typedF g f=0:=okT_typedF h.ok (h.err hn)
theorem Pf.up_eq(fr b v:Int)(p:Pf):p.up fr b v= .mk p.kind p.index p.ty (p.terms.map fun t=>t.re (liftG (fr+v) b) 0) (p.forms.map fun f=>f.lft (fr+(v+fvK p.kind)) b) (Pf.ups fr b v (vaK p.kind) p.args):=by cases p;simp only[Pf.up];rfl
theorem Pf.lh_eq(fr b y:Int)(p:Pf):p.lh fr b y=if p.kind=1 then .mk 1 (if p.index-y≥fr then p.index+b else p.index) (.mk 0 []) [] [] [] else .mk p.kind p.index p.ty p.terms p.forms (Pf.lhs fr b y (hyK p.kind) p.args):=by cases p;simp only[Pf.lh];rfl
theorem ups_len(fr b v w:Int):∀l:List Pf,(Pf.ups fr b v w l).length=l.length
 |[]=>by simp only[Pf.ups]
 |p::l=>by simp only[Pf.ups,List.length_cons,ups_len fr b v w l]
theorem lhs_len(fr b v w:Int):∀l:List Pf,(Pf.lhs fr b v w l).length=l.length
 |[]=>by simp only[Pf.lhs]
 |p::l=>by simp only[Pf.lhs,List.length_cons,lhs_len fr b v w l]
theorem ups_get(fr b v w:Int):∀(l:List Pf) (m:Nat) (h:m<l.length) (h':m<(Pf.ups fr b v w l).length),(Pf.ups fr b v w l)[m]=l[m].up fr b (if m+1=l.length then v+w else v)
 |p::l,0,h,h'=>by
  simp only[Pf.ups,List.getElem_cons_zero,List.length_cons]
  by_cases e:l.length=0
  ·rw [if_pos e,if_pos (by omega)]
  ·rw [if_neg e,if_neg (by omega)]
 |p::l,m+1,h,h'=>by
  simp only[Pf.ups,List.getElem_cons_succ,List.length_cons,Nat.add_right_cancel_iff]
  exact ups_get fr b v w l m (by simpa using h) _
theorem lhs_get(fr b v w:Int):∀(l:List Pf) (m:Nat) (h:m<l.length) (h':m<(Pf.lhs fr b v w l).length),(Pf.lhs fr b v w l)[m]=l[m].lh fr b (if m+1=l.length then v+w else v)
 |p::l,0,h,h'=>by
  simp only[Pf.lhs,List.getElem_cons_zero,List.length_cons]
  by_cases e:l.length=0
  ·rw [if_pos e,if_pos (by omega)]
  ·rw [if_neg e,if_neg (by omega)]
 |p::l,m+1,h,h'=>by
  simp only[Pf.lhs,List.getElem_cons_succ,List.length_cons,Nat.add_right_cancel_iff]
  exact lhs_get fr b v w l m (by simpa using h) _
theorem ups_take{fr b v w:Int}{l:List Pf}{m:Nat}(h:m<l.length):(Pf.ups fr b v w l).take m++[l[m].up fr b (if m+1=l.length then v+w else v)]=(Pf.ups fr b v w l).take (m+1):=by
 rw[←ups_get fr b v w l m h (by rw[ups_len];exact h),List.take_append_getElem]
theorem lhs_take{fr b v w:Int}{l:List Pf}{m:Nat}(h:m<l.length):(Pf.lhs fr b v w l).take m++[l[m].lh fr b (if m+1=l.length then v+w else v)]=(Pf.lhs fr b v w l).take (m+1):=by
 rw[←lhs_get fr b v w l m h (by rw[lhs_len];exact h),List.take_append_getElem]
theorem ups_all{fr b v w:Int}{l:List Pf}:(Pf.ups fr b v w l).take l.length=Pf.ups fr b v w l:=by rw[←ups_len fr b v w l,List.take_length]
theorem lhs_all{fr b v w:Int}{l:List Pf}:(Pf.lhs fr b v w l).take l.length=Pf.lhs fr b v w l:=by rw[←lhs_len fr b v w l,List.take_length]
theorem ixs_iff(C:Int):∀l:List Pf,Pf.ixs C l↔∀p∈l,p.ix C
 |[]=>by simp[Pf.ixs]
 |p::l=>by simp[Pf.ixs,ixs_iff C l]
theorem Pf.ix_iff(C:Int)(p:Pf):p.ix C↔(∀t∈p.terms,∀q∈t.vars 0,0≤q.1∧q.1<C)∧(∀f∈p.forms,∀q∈f.tms 0,∀r∈q.1.vars 0,0≤r.1∧r.1<C)∧∀x∈p.args,x.ix C:=by
 cases p;simp only[Pf.ix,ixs_iff];rfl
theorem hxs_iff(C:Int):∀l:List Pf,Pf.hxs C l↔∀p∈l,p.hx C
 |[]=>by simp[Pf.hxs]
 |p::l=>by simp[Pf.hxs,hxs_iff C l]
theorem Pf.hx_iff(C:Int)(p:Pf):p.hx C↔(p.kind=1→0≤p.index∧p.index<C)∧(p.kind≠1→∀x∈p.args,x.hx C):=by
 cases p with
 |mk k i s ts fs zs=>
  by_cases h:k=1
  ·simp [Pf.hx,h,Pf.kind,Pf.index]
  ·simp [Pf.hx,h,hxs_iff,Pf.kind,Pf.args]
theorem hyp_hx{C i:Int}(h:0≤i∧i<C):(hypP i).hx C:=by simpa [hypP,Pf.hx] using h
theorem hyp_up(fr b v i:Int):(hypP i).up fr b v=hypP i:=by simp[hypP,Pf.up,Pf.ups]
theorem hyp_lh(fr b y i:Int):(hypP i).lh fr b y=hypP (if i-y≥fr then i+b else i):=by simp[hypP,Pf.lh]
theorem hyp_ix(C i:Int):(hypP i).ix C:=by simp[hypP,Pf.ix,Pf.ixs]
end Go.Ab
namespace Go.Ab
open Go
set_option linter.all false
set_option maxHeartbeats 1000000
def Tw:Nat→Nat→Fm→Prop
 |0,L,f=>∃s t,f=eqF s t∧f.size≤L
 |n+1,L,f=>(∃s t,f=eqF s t∧f.size≤L)∨(∃k a b,(k=2∨k=3)∧f=twoF k a b∧Tw n L a∧Tw n L b)∨∃k s a,(4≤k∧k≤7)∧s.small∧f=quF k s a∧Tw n L a
theorem Tw.size:∀{n L:Nat} {f:Fm},Tw n L f→f.size+1≤(L+1)*2^n
 |0,L,f,⟨s,t,e,h⟩=>by simp;omega
 |n+1,L,f,h=>by
  have hp:1≤2^n:=Nat.one_le_two_pow
  have h2:(L+1)*2^(n+1)=2*((L+1)*2^n):=by rw[Nat.pow_succ];simp[Nat.mul_comm,Nat.mul_left_comm]
  have h3:(L+1)*1≤(L+1)*2^n:=Nat.mul_le_mul_left _ hp
  rcases h with⟨s,t,e,h⟩|⟨k,a,b,hk,e,ha,hb⟩|⟨k,s,a,hk,hs,e,ha⟩
  ·omega
  ·have h4:=ha.size
   have h5:=hb.size
   rw[e,twoF_size];omega
  ·have h4:=ha.size
   rw[e,quF_size];omega
theorem Tw.leaf{n L:Nat}{s t:Tm}(h:(eqF s t).size≤L):Tw n L (eqF s t):=by
 cases n with
 |zero=>exact⟨s,t,rfl,h⟩
 |succ n=>exact .inl ⟨s,t,rfl,h⟩
theorem Tw.up{n L:Nat}{f:Fm}(h:Tw n L f):Tw (n+1) L f:=by
 induction n generalizing f with
 |zero=>exact .inl h
 |succ n ih=>
  rcases h with h|⟨k,a,b,hk,e,ha,hb⟩|⟨k,s,a,hk,hs,e,ha⟩
  ·exact .inl h
  ·exact .inr (.inl ⟨k,a,b,hk,e,ih ha,ih hb⟩)
  ·exact .inr (.inr ⟨k,s,a,hk,hs,e,ih ha⟩)
theorem put_two{k:Int}(hk:k=2∨k=3)(a b:Fm)(i:Int)(x:Tm):(twoF k a b).put i x=twoF k (a.put i x) (b.put i x):=by
 rw[fput_at,Fm.re_eq]
 have e:upF k 0=0:=by rcases hk with rfl|rfl<;>rfl
 simp only[twoF,Fm.kind,Fm.ty,Fm.terms,Fm.args,List.map_nil,List.map_cons]
 rw[e];rfl
theorem Tw.put:∀{n L:Nat} {f:Fm},Tw n L f→f.shape=true→∀(i:Int) (x:Tm),0≤i→x.shape=true→x.size≤3→Tw n (3*L) (f.put i x)
 |0,L,f,⟨s,t,e,h⟩,hs,i,x,hi,hx,hz=>by
  have h1:=fput_size i x hx f hs 0
  have h2:(f.put i x).size=f.size+cntF i (f.tms 0)*(x.size-1):=h1
  have h3:=cntF_le_size f i
  have h4:cntF i (f.tms 0)*(x.size-1)≤f.size*2:=Nat.mul_le_mul h3 (by omega)
  subst e
  exact⟨s.re (putG (i+0) x) 0,t.re (putG (i+0) x) 0,rfl,by omega⟩
 |n+1,L,f,h,hs,i,x,hi,hx,hz=>by
  rcases h with⟨s,t,e,h⟩|⟨k,a,b,hk,e,ha,hb⟩|⟨k,s,a,hk,hsm,e,ha⟩
  ·exact Tw.up' (Tw.put (n:=0) ⟨s,t,e,h⟩ hs i x hi hx hz)
  ·subst e
   have sa:a.shape=true:=fshape_args hs (x:=a) (by simp[twoF])
   have sb:b.shape=true:=fshape_args hs (x:=b) (by simp[twoF])
   rw[put_two hk]
   exact .inr (.inl ⟨k,_,_,hk,rfl,Tw.put ha sa i x hi hx hz,Tw.put hb sb i x hi hx hz⟩)
  ·subst e
   have sa:a.shape=true:=fshape_args hs (x:=a) (by simp[quF])
   rw[put_qu (quantK_iff.2 hk)]
   exact .inr (.inr ⟨k,s,_,hk,hsm,rfl,Tw.put ha sa (i+1) x (by omega) hx hz⟩)
where
 Tw.up' {n L:Nat} {f:Fm} (h:Tw 0 L f):Tw (n+1) L f:= .inl h
def cost:Nat→Nat→Nat
 |0,L=>L
 |n+1,L=>(L+1)*2^(n+1)+2*cost n L+cost n (3*L)
def psz:Nat→Nat→Nat
 |0,L=>3*L+8
 |n+1,L=>10+3*L+(L+1)*2^(n+1)+2*psz n L+psz n (3*L)
structure Pg (p:Pf) (n:Nat):Prop where
 sh:p.shape=true
 sm:p.small=true
 sz:p.size≤n
theorem Pg.err{p:Pf}{n:Nat}(h:Pg p n)(hn:n≤16384):p.err=0:=(Pf.err_iff p).2 ⟨h.sh,h.sm,Nat.le_trans h.sz hn⟩
theorem Pg.of{p:Pf}(h:p.err=0):Pg p p.size:=have h1:=(Pf.err_iff p).1 h;⟨h1.1,h1.2.1,Nat.le_refl _⟩
theorem Pg.mono{p:Pf}{n m:Nat}(h:Pg p n)(hn:n≤m):Pg p m:=⟨h.sh,h.sm,Nat.le_trans h.sz hn⟩
theorem Pg.hyp{i:Int}(h:0≤i):Pg (hypP i) 1:=by
 have h1:=Pg.of (hypP_err h)
 rw[hypP_size] at h1;exact h1
theorem pf_size1(k i:Int)(s:Ty)(ts:List Tm)(fs:List Fm)(zs:List Pf):(Pf.mk k i s ts fs zs).size=1+(ts.map Tm.size).sum+(fs.map Fm.size).sum+(zs.map Pf.size).sum:=Pf.size_eq _
theorem Pg.and{p q:Pf}{n m:Nat}(hp:Pg p n)(hq:Pg q m):Pg (.mk 3 0 (.mk 0 []) [] [] [p,q]) (1+n+m):=by
 refine⟨?_,?_,?_⟩
 ·simp [Pf.shape,Pf.shapes,Pf.head,ndP,hp.sh,hq.sh,Ty.isNo,Ty.kind,Ty.args]
 ·simp [Pf.small,Pf.smalls,hp.sm,hq.sm]
 ·have:=hp.sz;have:=hq.sz
  simp only[pf_size1,List.map_cons,List.map_nil,List.sum_cons,List.sum_nil];omega
theorem Pg.impE{p q:Pf}{n m:Nat}(hp:Pg p n)(hq:Pg q m):Pg (.mk 7 0 (.mk 0 []) [] [] [p,q]) (1+n+m):=by
 refine⟨?_,?_,?_⟩
 ·simp [Pf.shape,Pf.shapes,Pf.head,ndP,hp.sh,hq.sh,Ty.isNo,Ty.kind,Ty.args]
 ·simp [Pf.small,Pf.smalls,hp.sm,hq.sm]
 ·have:=hp.sz;have:=hq.sz
  simp only[pf_size1,List.map_cons,List.map_nil,List.sum_cons,List.sum_nil];omega
theorem Pg.imp{p:Pf}{f:Fm}{n m:Nat}(hf:f.shape=true)(hz:f.size≤m)(hm:m≤4096)(hp:Pg p n):Pg (.mk 6 0 (.mk 0 []) [] [f] [p]) (1+m+n):=by
 refine⟨?_,?_,?_⟩
 ·simp [Pf.shape,Pf.shapes,Pf.head,ndP,hp.sh,hf,Ty.isNo,Ty.kind,Ty.args]
 ·simp [Pf.small,Pf.smalls,hp.sm];omega
 ·have:=hp.sz
  simp only[pf_size1,List.map_cons,List.map_nil,List.sum_cons,List.sum_nil];omega
theorem Pg.all{k:Int}{p:Pf}{s:Ty}{n:Nat}(hk:k=8∨k=12)(hs:s.err=0)(hp:Pg p n):Pg (.mk k 0 s [] [] [p]) (1+n):=by
 have ho:s.ok=true:=by
  have h1:=(Ty.err_iff s).1 hs
  simp only[Ty.ok,Bool.and_eq_true,decide_eq_true_eq];exact h1
 refine⟨?_,?_,?_⟩
 ·rcases hk with rfl|rfl<;>simp[Pf.shape,Pf.shapes,Pf.head,ndP,hp.sh,ho]
 ·simp [Pf.small,Pf.smalls,hp.sm]
 ·have:=hp.sz
  simp only[pf_size1,List.map_cons,List.map_nil,List.sum_cons,List.sum_nil];omega
theorem Pg.ex{k:Int}{p:Pf}{t:Tm}{f:Fm}{n m z:Nat}(hk:k=10∨k=14)(ht:t.shape=true)(hz:t.size≤z)(hz2:z≤4096)(hf:f.shape=true)(hm:f.size≤m)(hm2:m≤4096)(hp:Pg p n):Pg (.mk k 0 (.mk 0 []) [t] [f] [p]) (1+z+m+n):=by
 refine⟨?_,?_,?_⟩
 ·rcases hk with rfl|rfl<;>simp[Pf.shape,Pf.shapes,Pf.head,ndP,hp.sh,ht,hf,Ty.isNo,Ty.kind,Ty.args]
 ·simp [Pf.small,Pf.smalls,hp.sm];omega
 ·have:=hp.sz
  simp only[pf_size1,List.map_cons,List.map_nil,List.sum_cons,List.sum_nil];omega
theorem Pg.subst{p q:Pf}{f:Fm}{n m z:Nat}(hf:f.shape=true)(hm:f.size≤z)(hz:z≤4096)(hp:Pg p n)(hq:Pg q m):Pg (substP f p q) (1+z+n+m):=by
 refine⟨?_,?_,?_⟩
 ·simp [substP,Pf.shape,Pf.shapes,Pf.head,ndP,hp.sh,hq.sh,hf,Ty.isNo,Ty.kind,Ty.args]
 ·simp [substP,Pf.small,Pf.smalls,hp.sm,hq.sm];omega
 ·have:=hp.sz;have:=hq.sz
  simp only[substP,pf_size1,List.map_cons,List.map_nil,List.sum_cons,List.sum_nil];omega
theorem Pg.refl{t:Tm}{n:Nat}(ht:t.shape=true)(hz:t.size≤n)(hn:n≤4096):Pg (reflP t) (1+n):=by
 have h:=Pg.of (reflP_err (s:=t) ((Tm.err_iff t).2 ⟨ht,by omega⟩))
 rw[reflP_size] at h
 exact h.mono (by omega)
theorem lm_size(s:Ty)(t:Tm):(lmT s t).size=1+t.size:=by simp[lmT,Tm.size,Tm.sizes]
theorem eith_size(s t n:Tm)(ht:t.shape=true):(eitherT s t n).size=3+s.size+t.size+n.size:=by
 have h:=lift_size 0 2 t 0 ht
 simp[eitherT,Tm.size,Tm.sizes,lm_size,h];omega
theorem exM_ok{s t:Tm}(hs:s.shape=true)(ht:t.shape=true):(exM s t).shape=true∧(exM s t).size=5+2*s.size+t.size:=by
 have l1:=lift_size 0 1 s 0 hs
 have l2:=lift_size 0 1 t 0 ht
 have sls:=lift_shape (fr:=0) (by_:=1) 0 hs (by omega)
 have slt:=lift_shape (fr:=0) (by_:=1) 0 ht (by omega)
 refine⟨eqF_shape sls (eith_shape sls slt (by decide)),?_⟩
 unfold exM
 rw[eqF_size,eith_size _ _ _ slt,l1,l2,size_v];omega
theorem pw3(n:Nat):2^n≤3^n:=Nat.pow_le_pow_left (by omega) n
theorem noth_tw:∀(n L:Nat) (f:Fm) (g:List Ty) (fuel:Nat) (r h:Int),Tw n L f→f.shape=true→f.okT g→g.length+n≤100→(L+1)*3^n≤1098→f.dp≤fuel→(cost n L:Int)≤r→0≤h→
 r-cost n L≤(noth fuel r f h).2∧Pg (noth fuel r f h).1 (psz n L)
 |n,L,f,g,fuel,r,h,hT,hs,ho,hg,hL,hfu,hr,hh=>by
  have hsz:=hT.size
  have h3:(L+1)*2^n≤(L+1)*3^n:=Nat.mul_le_mul_left _ (pw3 n)
  have ef:f.err=0:=(Fm.err_iff f).2 ⟨hs,by omega⟩
  have hnum:f.num=f.size:=by unfold Fm.num;rw[if_pos ef]
  have hdp:=dp_pos f
  obtain⟨fu,rfl⟩:∃m,fuel=m+1:=⟨fuel-1,by omega⟩
  have hleaf:∀s t:Tm,f=eqF s t→f.size≤L→L≤cost n L→3*L+8≤psz n L→r-cost n L≤(noth (fu+1) r f h).2∧Pg (noth (fu+1) r f h).1 (psz n L):=by
   intro s t e hz hcL hpL
   subst e
   have hk:(eqF s t).kind=1:=rfl
   unfold noth
   rw[if_neg (by rw[not_or];exact⟨by rw[hnum];omega,by simp[ef]⟩),if_neg (by rw[hk];omega),if_neg (by rw[hk];omega),if_neg (by rw[hk];omega),if_neg (by rw[hk];omega)]
   have t0:trm (eqF s t) 0=s:=rfl
   have t1:trm (eqF s t) 1=t:=rfl
   rw[t0,t1]
   have ss:=((Tm.err_iff s).1 (term_err ef (by simp[eqF]))).1
   have st:=((Tm.err_iff t).1 (term_err ef (by simp[eqF]))).1
   have he:=eqF_size s t
   obtain⟨m1,m2⟩:=exM_ok ss st
   refine⟨by rw[hnum];omega,?_⟩
   have hL2:L+1≤(L+1)*3^n:=Nat.le_mul_of_pos_right _ (Nat.pow_pos (by omega))
   have:=Pg.subst (z:=(exM s t).size) m1 (Nat.le_refl _) (by omega) (Pg.hyp hh) (Pg.refl (n:=s.size) ss (Nat.le_refl _) (by omega))
   exact this.mono (by omega)
  match n,hT with
  |0,⟨s,t,e,hz⟩=>exact hleaf s t e hz (by simp[cost]) (by simp[psz])
  |n+1,hT=>
   have hc1:cost (n+1) L=(L+1)*2^(n+1)+2*cost n L+cost n (3*L):=rfl
   have hp1:psz (n+1) L=10+3*L+(L+1)*2^(n+1)+2*psz n L+psz n (3*L):=rfl
   have hpw:(L+1)*3^(n+1)=3*((L+1)*3^n):=by rw[Nat.pow_succ];simp[Nat.mul_comm,Nat.mul_left_comm]
   have hle:L≤(L+1)*2^(n+1):=by
    have:(L+1)*1≤(L+1)*2^(n+1):=Nat.mul_le_mul_left _ Nat.one_le_two_pow
    omega
   rcases hT with⟨s,t,e,hz⟩|⟨k,a,b,hk,e,ha,hb⟩|⟨k,s,a,hk,hsm,e,ha⟩
   ·exact hleaf s t e hz (by omega) (by omega)
   ·subst e
    obtain⟨ea,eb⟩:=two_errs ef
    obtain⟨oa,ob⟩:=two_okT hk ho
    have sa:=(Fm.err_iff a).1 ea
    have sb:=(Fm.err_iff b).1 eb
    have hz:=dp_two k a b
    have hzs:=twoF_size k a b
    have hka:(twoF k a b).kind=k:=rfl
    unfold noth
    rw[if_neg (by rw[not_or];exact⟨by rw[hnum];omega,by simp[ef]⟩),arg_two0,arg_two1,hka,hnum]
    rcases hk with rfl|rfl
    ·rw [if_pos rfl]
     obtain⟨a1,a2⟩:=noth_tw n L a g fu (r-(twoF 2 a b).size) h ha sa.1 oa (by omega) (by omega) (by omega) (by omega) hh
     obtain⟨b1,b2⟩:=noth_tw n L b g fu (noth fu (r-(twoF 2 a b).size) a h).2 h hb sb.1 ob (by omega) (by omega) (by omega) (by omega) hh
     exact⟨by simp only;omega,(a2.and b2).mono (by omega)⟩
    ·rw [if_neg (by omega),if_pos rfl]
     obtain⟨b1,b2⟩:=noth_tw n L b g fu (r-(twoF 3 a b).size) (h+1) hb sb.1 ob (by omega) (by omega) (by omega) (by omega) (by omega)
     exact⟨by simp only;omega,(Pg.imp (m:=a.size) sa.1 (Nat.le_refl _) (by omega) b2).mono (by omega)⟩
   ·subst e
    have ea:=qu_errs ef
    have sa:=(Fm.err_iff a).1 ea
    have hz:=dp_qu k s a
    have hzs:=quF_size k s a
    have oa:=qu_okT hk ho
    have ks:=small_err hsm
    have hka:(quF k s a).kind=k:=rfl
    have hty:(quF k s a).ty=s:=rfl
    unfold noth
    rw[if_neg (by rw[not_or];exact⟨by rw[hnum];omega,by simp[ef]⟩),arg_qu,hka,hty,hnum,if_neg (by omega),if_neg (by omega)]
    by_cases hq:k=4∨k=6
    ·rw [if_pos hq]
     obtain⟨b1,b2⟩:=noth_tw n L a (g++[s]) fu (r-(quF k s a).size) h ha sa.1 oa (by simp;omega) (by omega) (by omega) (by omega) hh
     refine⟨by simp only;omega,(Pg.all (k:=if k=6 then 12 else 8) (by split<;>omega) ks b2).mono (by omega)⟩
    ·rw [if_neg hq,if_pos (by omega)]
     have d0:=(Ty.err_iff s).1 ks
     obtain⟨d1,d2,d3,_⟩:=dfl_facts s d0.1 d0.2
     have d5:=hsm.2
     have G1:Gf (g++[s]) a a.size:=⟨sa.1,Nat.le_refl _,oa⟩
     have G2:Gt g (dfl s) s 3:=⟨d2,by omega,d1 _⟩
     have hput:putFErr a 0 (dfl s)=0:=by
      have nf:=(fokT_near oa ea (by simp;omega)).1
      have ns:=near_of (t:=dfl s) (g:=g) (by rw[d1]) d2 (by omega)
      have hc:=cntF_le_size a 0
      have hsp:=(dfl s).size_pos
      have h5:cntF 0 (a.tms 0)*((dfl s).size-1)≤a.size*2:=Nat.mul_le_mul hc (by omega)
      unfold putFErr
      rw[if_neg (by simp[ea]),if_neg (by omega),if_neg (by simp[dfl_e ks]),if_neg (by simp[nf,ns]),if_neg]
      have e:((cntF 0 (a.tms 0):Int)*(((dfl s).size:Int)-1))=((cntF 0 (a.tms 0)*((dfl s).size-1):Nat):Int):=by
       rw[Int.natCast_mul];congr 1;omega
      rw[e];omega
     rw[if_neg (by simp[hput])]
     have eb:=putF_err (by omega) hput
     have ob:(a.put 0 (dfl s)).okT g:=by
      have h6:=fokT_put 0 (dfl s) g s d2 (d1 _) a [] 0 rfl sa.1 (by simpa using oa)
      have h7:(a.put 0 (dfl s)).okT (g++[]):=h6
      simpa using h7
     have hTb:=Tw.put ha sa.1 0 (dfl s) (by omega) d2 (by omega)
     have hL3:(3*L+1)*3^n≤1098:=by
      have:(3*L+1)*3^n≤(3*(L+1))*3^n:=Nat.mul_le_mul_right _ (by omega)
      have e2:(3*(L+1))*3^n=3*((L+1)*3^n):=Nat.mul_assoc _ _ _
      omega
     obtain⟨b1,b2⟩:=noth_tw n (3*L) (a.put 0 (dfl s)) g fu (r-(quF k s a).size) h hTb ((Fm.err_iff _).1 eb).1 ob (by omega) hL3 (by rw[dp_put];omega) (by omega) hh
     refine⟨by simp only;omega,(Pg.ex (k:=if k=7 then 14 else 10) (z:=3) (m:=(quF k s a).size) (by split<;>omega) d2 (by omega) (by omega) hs (Nat.le_refl _) (by omega) b2).mono (by omega)⟩
def orB(a b:Fm):Fm:=twoF 2 (twoF 3 zeroF (a.lft 0 1)) (twoF 3 (notF zeroF) (b.lft 0 1))
def orA(a b:Fm):Fm:=orF (a.lft 0 1) (b.lft 0 1)
theorem orA_qu(a b:Fm):orA a b=quF 5 natT (orB a b):=rfl
theorem lft_put0{a:Fm}(ha:a.shape=true)(x:Tm):(a.lft 0 1).put 0 x=a:=flower_lift (fun p hp=>tms_shape a ha 0 p hp) 0 x
theorem put_eqF(a b:Tm)(i:Int)(x:Tm):(eqF a b).put i x=eqF (a.re (putG (i+0) x) 0) (b.re (putG (i+0) x) 0):=rfl
theorem falseF_put(i:Int)(x:Tm):falseF.put i x=falseF:=by
 have e:falseF=eqF zT (sT zT):=rfl
 rw[e,put_eqF,zT_l,re_sT,zT_l]
theorem zeroF_put{x:Tm}(hx:x.shape=true):zeroF.put 0 x=eqF x zT:=by
 have e:zeroF=eqF (vT 0) zT:=rfl
 rw[e,put_eqF,zT_l]
 congr 1
 exact put_v0 hx
theorem notF_two(f:Fm):notF f=twoF 3 f falseF:=rfl
theorem orB_put{a b:Fm}(ha:a.shape=true)(hb:b.shape=true){x:Tm}(hx:x.shape=true):(orB a b).put 0 x=twoF 2 (twoF 3 (eqF x zT) a) (twoF 3 (notF (eqF x zT)) b):=by
 unfold orB
 rw[put_two (.inl rfl),put_two (.inr rfl),put_two (.inr rfl),lft_put0 ha,lft_put0 hb,zeroF_put hx,notF_two,put_two (.inr rfl),zeroF_put hx,falseF_put,notF_two]
theorem exI_acc{c:Ck}(hc:c.ok){s:Ty}{t:Tm}{p:Pf}{a:Fm}(ef:(quF 5 s a).err=0)(of:(quF 5 s a).okT c.tys)(te:t.err=0)(ti:t.inf c.tys=(s,0))(fr:freeT t=[])
 (hput:putFErr a 0 t=0) (ob:(a.put 0 t).okT c.tys) (ha:Acc c p (a.put 0 t)):Acc c (.mk 10 0 (.mk 0 []) [t] [quF 5 s a] [p]) (quF 5 s a):=by
 have hl:=hc.len
 have eb:=putF_err (by omega) hput
 have e:infP (.mk 10 0 (.mk 0 []) [t] [quF 5 s a] [p]) c=finR (exR 10 (quF 5 s a) t (infP p) c):=by rw[infP_eq];rfl
 unfold exR at e
 have ek:(quF 5 s a).kind=kI 10 14 7 5:=rfl
 have ety:(quF 5 s a).ty=s:=rfl
 have ea0:(quF 5 s a).args.getD 0 noFm=a:=rfl
 rw[okT_typedFC of ef hc.ctx,if_neg (by simp),if_neg (by simp[ek]),typeOf_of hc te ti,if_neg (by simp),if_neg (by simp[ety]),fr,ea0] at e
 unfold partR at e
 rcases ha with⟨x,hx,fx,ex,ox⟩|⟨e1,hx,he⟩
 ·rw [hx,if_neg (by simp),putK_of hput,if_neg (by simp)] at e
  rcases(fx.mtch ex eb ox ob (by omega)).2 with h|h|h
  ·rw [h] at e
   refine finA (x:=quF 5 s a) (e.trans ?_) (.refl _) of ((Fm.err_iff _).1 ef).1
   congr 2
   simp[kL];exact uni_nil
  ·rw [h] at e;exact finE e (.inr (.inl rfl))
  ·rw [h] at e;exact finE e (.inr (.inr rfl))
 ·rw [hx,if_pos (show(noRes e1).2.2≠0 by simp[noRes];omega)] at e
  exact finE e he
theorem impH_acc{c:Ck}(hc:c.ok){p q:Pf}{a b:Fm}(hp:infP p c=(twoF 3 a b,[],0))(ea:a.err=0)(oa:a.okT c.tys)(eb:b.err=0)(ob:b.okT c.tys)(hq:Acc c q a):Acc c (.mk 7 0 (.mk 0 []) [] [] [p,q]) b:=by
 have hl:=hc.len
 have e:infP (.mk 7 0 (.mk 0 []) [] [] [p,q]) c=finR (impeR (infP p) (infP q) c):=by rw[infP_eq];rfl
 unfold impeR at e
 rw[hp,if_neg (by simp),if_neg (by simp[twoF])] at e
 rcases hq with⟨x,hx,fx,ex,ox⟩|⟨e2,hx,he⟩
 ·rw [hx,if_neg (by simp)] at e
  have t0:(twoF 3 a b).args.getD 0 noFm=a:=rfl
  have t1:(twoF 3 a b).args.getD 1 noFm=b:=rfl
  simp only[t0,t1] at e
  rcases(fx.mtch ex ea ox oa (by omega)).2 with hm|hm|hm
  ·rw [hm,uni_nil] at e
   exact finA (x:=b) e (.refl _) ob ((Fm.err_iff b).1 eb).1
  ·rw [hm] at e;exact finE e (.inr (.inl rfl))
  ·rw [hm] at e;exact finE e (.inr (.inr rfl))
 ·rw [hx,if_pos (show(noRes e2).2.2≠0 by simp[noRes];omega)] at e
  exact finE e he
theorem acc_of{c:Ck}{p:Pf}{f:Fm}(h:infP p c=(f,[],0))(he:f.err=0)(ho:f.okT c.tys):Acc c p f:= .inl ⟨f,h,.refl _,he,ho⟩
theorem hyp_at{c:Ck}(hc:c.ok){A B:List Fm}{f:Fm}(h:c.hyps=A++f::B){i:Int}(hi:i=(B.length:Nat)):infP (hypP i) c=(f,[],0)∧f.err=0∧f.okT c.tys:=by
 have h1:=hc.hyps f (by rw[h];simp)
 exact⟨hyp_back hc h hi,h1.1,h1.2⟩
theorem orA_gf{g:List Ty}{a b:Fm}{n m:Nat}(ha:Gf g a n)(hb:Gf g b m):Gf g (orA a b) (n+m+15):=by
 have la:=ha
 have h1:Gf (g++[natT]) (a.lft 0 1) n:=by
  have:=Gf.lft (g:=g) (h:=[]) [natT] (by simpa using ha)
  simpa using this
 have h2:Gf (g++[natT]) (b.lft 0 1) m:=by
  have:=Gf.lft (g:=g) (h:=[]) [natT] (by simpa using hb)
  simpa using this
 obtain⟨s1,s2⟩:=orF_ok h1.sh h2.sh
 exact⟨s1,by unfold orA;rw[s2];have:=h1.sz;have:=h2.sz;omega,orF_okT h1.ok h2.ok⟩
theorem orB_gf{g:List Ty}{a b:Fm}{n m:Nat}(ha:Gf g a n)(hb:Gf g b m):Gf (g++[natT]) (orB a b) (n+m+14):=by
 have h:=orA_gf ha hb
 rw[orA_qu] at h
 exact Gf.quI 5 (by omega) (by simpa [Nat.add_assoc] using h)
def impEP(p q:Pf):Pf:= .mk 7 0 (.mk 0 []) [] [] [p,q]
def impP(f:Fm)(p:Pf):Pf:= .mk 6 0 (.mk 0 []) [] [f] [p]
def andP(p q:Pf):Pf:= .mk 3 0 (.mk 0 []) [] [] [p,q]
def someP(f:Fm)(t:Tm)(p:Pf):Pf:= .mk 10 0 (.mk 0 []) [t] [f] [p]
def leftP(a b:Fm)(i:Int)(x:Pf):Pf:=someP (orA a b) zT (andP (impP (eqF zT zT) (hypP (i+1))) (impP (notF (eqF zT zT)) (exfP x (impEP (hypP 0) (reflP zT)))))
def rightP(a b:Fm)(i:Int)(x:Pf):Pf:=someP (orA a b) (sT zT) (andP (impP (eqF (sT zT) zT) (exfP x (symP (sT zT) (hypP 0)))) (impP (notF (eqF (sT zT) zT)) (hypP (i+1))))
theorem z_eq{g:List Ty}{s t:Tm}(hs:NumOk g s)(ht:NumOk g t):(eqF s t).err=0∧(eqF s t).okT g:=⟨hs.eq_err ht,eq_okT.2 ⟨hs.inf,ht.inf⟩⟩
theorem not_good{g:List Ty}{f:Fm}(hs:f.shape=true)(hz:f.size≤4000)(ho:f.okT g):(notF f).err=0∧(notF f).okT g:=by
 obtain⟨h1,h2⟩:=notF_ok hs
 exact⟨(Fm.err_iff _).2 ⟨h1,by omega⟩,notF_okT ho⟩
theorem free_closed{t:Tm}{T:Ty}(h:t.inf []=(T,0)):freeT t=[]:=by
 have h2:=(freeT_ok h).len
 exact List.eq_nil_of_length_eq_zero (by simpa using h2)
theorem free_z:freeT zT=[]:=free_closed (zT_inf [])
theorem free_s:freeT (sT zT)=[]:=free_closed (inf_succ (inf_zero []))
theorem left_acc{c:Ck}(hc:c.ok){a b:Fm}(ha:Gf c.tys a 487)(hb:Gf c.tys b 487){i:Int}(hi:∃A B,c.hyps=A++a::B∧i=(B.length:Nat)){n:Nat}(hn:b.dp≤n)(hr:0≤(noth n 262144 b 0).2):
 Acc c (leftP a b i (noth n 262144 b 0).1) (orA a b):=by
 have hl:=hc.len
 have ho:=orA_gf ha hb
 have hB:=orB_gf ha hb
 have zz:=numZ c.tys
 obtain⟨z1,z2⟩:=z_eq zz zz
 obtain⟨z3,z4⟩:=not_good (f:=eqF zT zT) (by decide) (by decide) z2
 obtain⟨p1,p2⟩:=hB.put (Gt.zero c.tys) (by omega) (by omega) (by omega)
 unfold leftP someP
 rw[orA_qu] at ho ⊢
 refine exI_acc hc (ho.err (by omega)) ho.ok (by decide) (zT_inf _) free_z p1 p2.ok ?_
 rw[orB_put ha.sh hb.sh (by decide)]
 refine and_acc (imp_acc hc z1 z2 fun hroom=> ?_) (imp_acc hc z3 z4 fun hroom=> ?_)
 ·have hk:=room_ok hroom
  obtain⟨A,B,e1,e2⟩:=hi
  have hc2:=hc.with_ (f:=eqF zT zT) (by omega) z1 z2
  obtain⟨y1,y2,y3⟩:=hyp_at hc2 (A:=A) (B:=B++[eqF zT zT]) (f:=a) (i:=i+1) (by simp[Ck.with_,e1]) (by simp;omega)
  exact acc_of y1 y2 y3
 ·have hk:=room_ok hroom
  have hc2:=hc.with_ (f:=notF (eqF zT zT)) (by omega) z3 z4
  refine exf_acc hc2 (fun hroom2=> ?_) ?_
  ·have hk2:=room_ok hroom2
   exact noth_acc n b _ 262144 0 hn (hc2.with_ (by omega) false_err (falseF_okT _)) hb.ok ⟨(c.with_ (notF (eqF zT zT))).hyps,[],rfl,rfl⟩ hr
  ·obtain ⟨y1,y2,y3⟩:=hyp_at hc2 (A:=c.hyps) (B:=[]) (f:=notF (eqF zT zT)) (i:=0) rfl rfl
   exact impH_acc hc2 y1 z1 z2 false_err (falseF_okT _) (acc_of (NumOk.refl hc2 (numZ _)) z1 z2)
theorem right_acc{c:Ck}(hc:c.ok){a b:Fm}(ha:Gf c.tys a 487)(hb:Gf c.tys b 487){i:Int}(hi:∃A B,c.hyps=A++b::B∧i=(B.length:Nat)){n:Nat}(hn:a.dp≤n)(hr:0≤(noth n 262144 a 0).2):
 Acc c (rightP a b i (noth n 262144 a 0).1) (orA a b):=by
 have hl:=hc.len
 have ho:=orA_gf ha hb
 have hB:=orB_gf ha hb
 have zz:=numZ c.tys
 have zs:∀g,NumOk g (sT zT):=fun g=>(numZ g).suc (by decide)
 obtain⟨z1,z2⟩:=z_eq (zs c.tys) zz
 obtain⟨z3,z4⟩:=not_good (f:=eqF (sT zT) zT) (by decide) (by decide) z2
 have G1:Gt c.tys (sT zT) natT 2:=⟨by decide,by decide,(zs _).inf⟩
 obtain⟨p1,p2⟩:=hB.put G1 (by omega) (by omega) (by omega)
 unfold rightP someP
 rw[orA_qu] at ho ⊢
 refine exI_acc hc (ho.err (by omega)) ho.ok (by decide) (zs _).inf free_s p1 p2.ok ?_
 rw[orB_put ha.sh hb.sh (by decide)]
 refine and_acc (imp_acc hc z1 z2 fun hroom=> ?_) (imp_acc hc z3 z4 fun hroom=> ?_)
 ·have hk:=room_ok hroom
  have hc2:=hc.with_ (f:=eqF (sT zT) zT) (by omega) z1 z2
  refine exf_acc hc2 (fun hroom2=> ?_) ?_
  ·have hk2:=room_ok hroom2
   exact noth_acc n a _ 262144 0 hn (hc2.with_ (by omega) false_err (falseF_okT _)) ha.ok ⟨(c.with_ (eqF (sT zT) zT)).hyps,[],rfl,rfl⟩ hr
  ·obtain ⟨y1,y2,y3⟩:=hyp_at hc2 (A:=c.hyps) (B:=[]) (f:=eqF (sT zT) zT) (i:=0) rfl rfl
   have h:=sym_inf hc2 (zs _) (numZ _) y1
   exact acc_of h false_err (falseF_okT _)
 ·have hk:=room_ok hroom
  obtain⟨A,B,e1,e2⟩:=hi
  have hc2:=hc.with_ (f:=notF (eqF (sT zT) zT)) (by omega) z3 z4
  obtain⟨y1,y2,y3⟩:=hyp_at hc2 (A:=A) (B:=B++[notF (eqF (sT zT) zT)]) (f:=b) (i:=i+1) (by simp[Ck.with_,e1]) (by simp;omega)
  exact acc_of y1 y2 y3
def knownF(x:Tm)(a b:Fm)(n:Int):Fm:=twoF 2 (twoF 3 (eqF x zT) (a.lft 0 n)) (twoF 3 (notF (eqF x zT)) (b.lft 0 n))
def caseF(a b c:Fm):Fm:=twoF 3 (knownF (vT 0) a b 2) (c.lft 0 2)
def nxT:Tm:=sT (vT 0)
def andLP(p:Pf):Pf:= .mk 4 0 (.mk 0 []) [] [] [p]
def andRP(p:Pf):Pf:= .mk 5 0 (.mk 0 []) [] [] [p]
def caseB(a b:Fm)(q:Pf):Pf:=impP (knownF zT a b 1) (impEP q (impEP (andLP (hypP 0)) (reflP zT)))
def difP:Pf:=impP (eqF nxT zT) (absurdP (symP nxT (hypP 0)))
def caseS(a b:Fm)(r:Pf):Pf:=impP (knownF nxT a b 2) (impEP r (impEP (andRP (hypP 0)) difP))
def indP(f:Fm)(t:Tm)(p q:Pf):Pf:= .mk 16 0 (.mk 0 []) [t] [f] [p,q]
def casesP(a b c:Fm)(p q r:Pf):Pf:= .mk 11 0 (.mk 0 []) [] [] [p,impEP (indP (caseF a b c) (vT 0) (caseB a b q) (caseS a b r)) (hypP 0)]
theorem lft_two{k:Int}(hk:k=2∨k=3)(a b:Fm)(i n:Int):(twoF k a b).lft i n=twoF k (a.lft i n) (b.lft i n):=by
 rw[lft_at,Fm.re_eq]
 have e:upF k 0=0:=by rcases hk with rfl|rfl<;>rfl
 simp only[twoF,Fm.kind,Fm.ty,Fm.terms,Fm.args,List.map_nil,List.map_cons]
 rw[e];rfl
theorem lift2_lift1(t:Tm)(b:Int):(t.re (liftG b 2) 0).re (liftG (1+b) 1) 0=t.re (liftG b 3) 0:=by
 rw[re_re]
 refine re_congr t 0 fun p hp=> ?_
 obtain⟨i,c⟩:=p
 simp only
 rw[liftG_eq,liftG_eq]
 by_cases h:i-c≥b
 ·rw [if_pos h,if_pos h,vT_lift,if_pos (by omega)];congr 1;omega
 ·rw [if_neg h,if_neg h,vT_lift,if_neg (by omega)]
theorem flft21(f:Fm):(f.lft 0 2).lft 1 1=f.lft 0 3:=by
 rw[lft_at,lft_at,lft_at,Fm.re_re]
 refine Fm.re_pt (fun b t _=> ?_) f
 have:=lift2_lift1 t b
 simp only[Int.zero_add];exact this
theorem lft_step{f:Fm}(hf:f.shape=true)(n:Int)(hn:0≤n)(x:Tm):(f.lft 0 (n+1)).put 0 x=f.lft 0 n:=by
 rw[←lft_lft f 0 n 1 hn]
 exact lft_put0 (lft_keeps hf hn).1 x
theorem known_put{a b:Fm}(ha:a.shape=true)(hb:b.shape=true)(n:Int)(hn:0≤n){x:Tm}(hx:x.shape=true):(knownF (vT 0) a b (n+1)).put 0 x=knownF x a b n:=by
 have e:eqF (vT 0) zT=zeroF:=rfl
 unfold knownF
 rw[put_two (.inl rfl),put_two (.inr rfl),put_two (.inr rfl),lft_step ha n hn,lft_step hb n hn,e,zeroF_put hx,notF_two,put_two (.inr rfl),zeroF_put hx,falseF_put,notF_two]
theorem case_put{a b c:Fm}(ha:a.shape=true)(hb:b.shape=true)(hc:c.shape=true){x:Tm}(hx:x.shape=true):(caseF a b c).put 0 x=twoF 3 (knownF x a b 1) (c.lft 0 1):=by
 have h1:=known_put ha hb 1 (by omega) hx
 have h2:=lft_step hc 1 (by omega) x
 rw[show(1:Int)+1=2 from rfl] at h1 h2
 unfold caseF
 rw[put_two (.inr rfl),h1,h2]
theorem known_lft(a b:Fm):(knownF (vT 0) a b 2).lft 1 1=knownF (vT 0) a b 3:=by
 unfold knownF
 rw[lft_two (.inl rfl),lft_two (.inr rfl),lft_two (.inr rfl),flft21,flft21,notF_two,lft_two (.inr rfl),falseF_l]
 rfl
theorem case_step{a b c:Fm}(ha:a.shape=true)(hb:b.shape=true)(hc:c.shape=true){x:Tm}(hx:x.shape=true):((caseF a b c).lft 1 1).put 0 x=twoF 3 (knownF x a b 2) (c.lft 0 2):=by
 have h1:=known_put ha hb 2 (by omega) hx
 have h2:=lft_step hc 2 (by omega) x
 rw[show(2:Int)+1=3 from rfl] at h1 h2
 unfold caseF
 rw[lft_two (.inr rfl),known_lft,flft21,put_two (.inr rfl),h1,h2]
theorem prj_inf{c:Ck}{p:Pf}{x y:Fm}{k:Int}(hk:k=4∨k=5)(h:infP p c=(twoF 2 x y,[],0))(ex:x.err=0)(ey:y.err=0):infP (.mk k 0 (.mk 0 []) [] [] [p]) c=(if k=4 then x else y,[],0):=by
 have e:infP (.mk k 0 (.mk 0 []) [] [] [p]) c=finR (prjR (k-4).toNat (infP p) c):=by rcases hk with rfl|rfl<;>(rw[infP_eq];rfl)
 unfold prjR at e
 rw[h,if_neg (by simp),if_neg (by simp[twoF])] at e
 rw[e]
 rcases hk with rfl|rfl
 ·have t0:(twoF 2 x y).args.getD ((4:Int)-4).toNat noFm=x:=rfl
  simp only[t0]
  unfold finR
  rw[if_neg (by simp),if_neg (by simp[ex])];simp
 ·have t0:(twoF 2 x y).args.getD ((5:Int)-4).toNat noFm=y:=rfl
  simp only[t0]
  unfold finR
  rw[if_neg (by simp),if_neg (by simp[ey])];simp
theorem ind_acc{c:Ck}(hc:c.ok){F:Fm}{t:Tm}{p q:Pf}{n:Nat}(hF:Gf (c.tys++[natT]) F n)(hn:n*2≤4096)(te:t.err=0)(ti:t.inf c.tys=(natT,0))(tz:t.size≤2)
 (hp:Acc c p (F.put 0 zT)) (hq:c.room 1 1=0→Acc ((c.below [natT]).with_ F) q ((F.lft 1 1).put 0 nxT)):
 (∃u,infP (indP F t p q) c=(F.put 0 t,u,0)∧∀x∈u,x∈freeT t)∨∃e,infP (indP F t p q) c=noRes e∧(e=3∨e=4∨e=5):=by
 have hl:=hc.len
 have e:infP (indP F t p q) c=finR (indR F t (infP p) (infP q) c):=by unfold indP;rw[infP_eq];rfl
 have hF2:Gf (c.tys++[natT]++[natT]) (F.lft 1 1) n:=hF.lft (h:=[natT]) [natT]
 obtain⟨a0,b0⟩:=hF.put (Gt.zero c.tys) (by omega) (by omega) (by omega)
 obtain⟨a1,b1⟩:=hF2.put (Gt.suc0 c.tys) (by omega) (by omega) (by simp;omega)
 obtain⟨a2,b2⟩:=hF.put (s:=t) (m:=2) ⟨((Tm.err_iff t).1 te).1,tz,ti⟩ (by omega) (by omega) (by omega)
 have part:∀{c':Ck} {p':Pf} {G:Fm} {z:Tm} {m:Nat},c'.ok→putFErr G 0 z=0→Gf c'.tys (G.put 0 z) m→m≤4096→Acc c' p' (G.put 0 z)→∃e,partR (infP p') c' G z=([],e)∧(e=0∨e=3∨e=4∨e=5):=by
  intro c' p' G z m hc' hput hg hm ha
  have hl':=hc'.len
  unfold partR
  rcases ha with⟨x,hx,fx,ex,ox⟩|⟨e2,hx,he⟩
  ·rw [hx,putK_of hput,if_neg (by simp),if_neg (by simp)]
   refine⟨_,rfl,?_⟩
   rcases(fx.mtch ex (hg.err hm) ox hg.ok (by omega)).2 with h|h|h
   ·exact .inl h
   ·exact .inr (.inr (.inl h))
   ·exact .inr (.inr (.inr h))
  ·rw [hx,if_pos (show(noRes e2).2.2≠0 by simp[noRes];omega)]
   exact⟨e2,rfl,.inr he⟩
 have fin:∀{x:Fm} {u:List Int} {e2:Int},infP (indP F t p q) c=finR (x,u,e2)→(e2=3∨e2=4∨e2=5)→infP (indP F t p q) c=noRes e2:=fun {x u e2} h he=>by
  rw[h];unfold finR;rw[if_pos (show(x,u,e2).2.2≠0 by simp;omega)]
 unfold indR at e
 rw[fte hF (by omega),if_neg (by simp),kTyp_of hc te ti,if_neg (by simp)] at e
 obtain⟨e1,h1,he1⟩:=part hc a0 b0 (by omega) hp
 rw[h1] at e
 by_cases z1:e1≠0
 ·rw [if_pos z1] at e
  exact .inr ⟨e1,fin e (by omega),by omega⟩
 rw[if_neg z1] at e
 by_cases hr:c.room 1 1≠0
 ·rw [if_pos hr] at e
  exact .inr ⟨3,fin e (.inl rfl),.inl rfl⟩
 rw[if_neg hr] at e
 have hr':=Decidable.not_not.1 hr
 have hk:=room_ok hr'
 have hc2:((c.below [natT]).with_ F).ok:=(hc.below (by simp;omega) (by simp[nat_err])).with_ (by simp[Ck.below];omega) (hF.err (by omega)) hF.ok
 obtain⟨e2,h2,he2⟩:=part hc2 a1 b1 (by omega) (hq hr')
 have h2':partR (infP q) ((c.below [natT]).with_ F) (F.lft 1 1) (sT (vT 0))=([],e2):=h2
 rw[h2'] at e
 by_cases z2:e2≠0
 ·rw [if_pos z2] at e
  exact .inr ⟨e2,fin e (by omega),by omega⟩
 rw[if_neg z2,putK_of a2] at e
 unfold finR at e
 rw[if_neg (by simp),if_neg (by simp[b2.err (by omega)])] at e
 refine .inl ⟨_,e,fun x hx=> ?_⟩
 simp only at hx
 split at hx
 ·rcases mem_unionI.1 hx with h|h
  ·rcases mem_unionI.1 h with h|h
   ·exact h
   ·cases h
  ·obtain ⟨_,h⟩:=mem_outI.1 h
   cases h
 ·cases hx
theorem absd_acc{c:Ck}(hc:c.ok){n:Tm}(hn:NumOk c.tys n)(zn:n.size≤300){p:Pf}(hp:infP p c=(eqF zT (sT n),[],0)):Acc c (absurdP p) falseF:=by
 have hl:=hc.len
 have hz:=numZ c.tys
 have h:SideOk c.tys zT (eitherT zT (sT zT) (vT 0)):=⟨by decide,by decide,inf_zero _,either_inf (v0_inf _ _),by decide⟩
 have hcn:cnt 0 (zT.vars 0)+cnt 0 ((eitherT zT (sT zT) (vT 0)).vars 0)=1:=by decide
 have z0:zT.size=1:=by decide
 have i:=substEq_inf hc h hz (hn.suc (by omega)) (by rw[hcn,either_size,size_v,z0];omega) (by rw[hcn,either_size,size_v,size_s,z0];omega) hp (hz.refl hc)
 have ez:∀x:Tm,zT.re (putG 0 x) 0=zT:=fun _=>rfl
 rw[ez,ez,put_eit hz.shape,put_eit (shape_s hn.shape)] at i
 have q1:=hz.eq_err (hz.eit (n:=zT) (by omega))
 have q2:=hz.eq_err hz
 have o1:(eqF zT (eitherT zT (sT zT) zT)).okT c.tys:=eq_okT.2 ⟨hz.inf,(hz.eit (n:=zT) (by omega)).inf⟩
 have o2:(eqF zT zT).okT c.tys:=eq_okT.2 ⟨hz.inf,hz.inf⟩
 have hs:=hn.suc (by omega)
 have he:=hs.eit (by rw[size_s];omega)
 have i':infP (absurdP p) c=if mtchF (eqF zT (eitherT zT (sT zT) zT)) (eqF zT zT)≠0 then noRes (mtchF (eqF zT (eitherT zT (sT zT) zT)) (eqF zT zT)) else(eqF zT (eitherT zT (sT zT) (sT n)),[],0):=i
 rcases((FP.eq (a:=zT) (either_z (sT zT))).mtch q1 q2 o1 o2 (by omega)).1 with hm|hm|hm
 ·rw [hm,if_neg (by simp)] at i'
  exact .inl ⟨_,i',.eq (either_s n),hz.eq_err he,eq_okT.2 ⟨hz.inf,he.inf⟩⟩
 ·rw [hm,if_pos (by simp)] at i';exact .inr ⟨4,i',.inr (.inl rfl)⟩
 ·rw [hm,if_pos (by simp)] at i';exact .inr ⟨5,i',.inr (.inr rfl)⟩
theorem lft_gf{g:List Ty}{f:Fm}{n:Nat}(m:List Ty)(h:Gf g f n):Gf (g++m) (f.lft 0 m.length) n:=by
 have:=Gf.lft (g:=g) (h:=[]) m (by simpa using h)
 simpa using this
theorem two_gf{g:List Ty}{k:Int}(hk:k=2∨k=3){a b:Fm}{n m:Nat}(ha:Gf g a n)(hb:Gf g b m):Gf g (twoF k a b) (1+n+m):=
 ⟨two_shape_iff hk ha.sh hb.sh,by rw[twoF_size];have:=ha.sz;have:=hb.sz;omega,fokT_two hk ha.ok hb.ok⟩
theorem eqz_gf{g:List Ty}{x:Tm}{m:Nat}(hx:Gt g x natT m):Gf g (eqF x zT) (m+2):=
 ⟨eqF_shape hx.sh (by decide),by rw[eqF_size];have:=hx.sz;have:zT.size=1:=by decide
                                 omega,eq_okT.2 ⟨hx.inf,zT_inf g⟩⟩
theorem not_gf{g:List Ty}{f:Fm}{n:Nat}(h:Gf g f n):Gf g (notF f) (n+5):=⟨(notF_ok h.sh).1,by rw[(notF_ok h.sh).2];have:=h.sz;omega,notF_okT h.ok⟩
theorem known_gf{g:List Ty}{a b:Fm}{n m:Nat}{x:Tm}(l:List Ty)(ha:Gf g a n)(hb:Gf g b n)(hx:Gt (g++l) x natT m):Gf (g++l) (knownF x a b l.length) (2*n+2*m+12):=by
 have h:=two_gf (.inl rfl) (two_gf (.inr rfl) (eqz_gf hx) (lft_gf l ha)) (two_gf (.inr rfl) (not_gf (eqz_gf hx)) (lft_gf l hb))
 exact⟨h.sh,by have:=h.sz;unfold knownF;omega,h.ok⟩
theorem num_v0(g:List Ty):NumOk (g++[natT]) (vT 0):=⟨by decide,v0_inf g natT,by decide⟩
theorem base_acc{c:Ck}(hc:c.ok){a b d:Fm}(ha:Gf c.tys (a.lft 0 1) 487)(hb:Gf c.tys (b.lft 0 1) 487)(hd:Gf c.tys (d.lft 0 1) 487)(hK:Gf c.tys (knownF zT a b 1) 1000){j:Int}
 (hj:∃A B,c.hyps=A++(twoF 3 (a.lft 0 1) (d.lft 0 1))::B∧j=(B.length:Nat)):Acc c (caseB a b (hypP (j+1))) (twoF 3 (knownF zT a b 1) (d.lft 0 1)):=by
 have zz:=numZ c.tys
 obtain⟨z1,z2⟩:=z_eq zz zz
 refine imp_acc hc (hK.err (by omega)) hK.ok fun hroom=> ?_
 have hk:=room_ok hroom
 have hc2:=hc.with_ (f:=knownF zT a b 1) (by omega) (hK.err (by omega)) hK.ok
 obtain⟨A,B,e1,e2⟩:=hj
 obtain⟨y1,y2,y3⟩:=hyp_at hc2 (A:=A) (B:=B++[knownF zT a b 1]) (f:=twoF 3 (a.lft 0 1) (d.lft 0 1)) (i:=j+1) (by simp[Ck.with_,e1]) (by simp;omega)
 obtain⟨w1,w2,w3⟩:=hyp_at hc2 (A:=c.hyps) (B:=[]) (f:=knownF zT a b 1) (i:=0) rfl rfl
 obtain⟨v1,v2⟩:=two_errs w2
 have h4:=prj_inf (.inl rfl) (show infP (hypP 0) (c.with_ (knownF zT a b 1))=(twoF 2 (twoF 3 (eqF zT zT) (a.lft 0 1)) (twoF 3 (notF (eqF zT zT)) (b.lft 0 1)),[],0) from w1) v1 v2
 rw[if_pos rfl] at h4
 exact impH_acc hc2 y1 (ha.err (by omega)) ha.ok (hd.err (by omega)) hd.ok (impH_acc hc2 h4 z1 z2 (ha.err (by omega)) ha.ok (acc_of (NumOk.refl hc2 (numZ _)) z1 z2))
theorem step_acc{c:Ck}(hc:c.ok){a b d:Fm}{g:List Ty}(hg:c.tys=g++[natT])(hb:Gf c.tys (b.lft 0 2) 487)(hd:Gf c.tys (d.lft 0 2) 487)(hK:Gf c.tys (knownF nxT a b 2) 1000){j:Int}
 (hj:∃A B,c.hyps=A++(twoF 3 (b.lft 0 2) (d.lft 0 2))::B∧j=(B.length:Nat)):Acc c (caseS a b (hypP (j+1))) (twoF 3 (knownF nxT a b 2) (d.lft 0 2)):=by
 have hl:=hc.len
 have n0:∀{t:List Ty},t=g++[natT]→NumOk t (vT 0):=fun e=>by rw[e];exact num_v0 g
 have nn:∀{t:List Ty},t=g++[natT]→NumOk t nxT:=fun e=>(n0 e).suc (by decide)
 obtain⟨z1,z2⟩:=z_eq (nn hg) (numZ c.tys)
 obtain⟨z3,z4⟩:=not_good (f:=eqF nxT zT) (by decide) (by decide) z2
 refine imp_acc hc (hK.err (by omega)) hK.ok fun hroom=> ?_
 have hk:=room_ok hroom
 have hc2:=hc.with_ (f:=knownF nxT a b 2) (by omega) (hK.err (by omega)) hK.ok
 obtain⟨A,B,e1,e2⟩:=hj
 obtain⟨y1,y2,y3⟩:=hyp_at hc2 (A:=A) (B:=B++[knownF nxT a b 2]) (f:=twoF 3 (b.lft 0 2) (d.lft 0 2)) (i:=j+1) (by simp[Ck.with_,e1]) (by simp;omega)
 obtain⟨w1,w2,w3⟩:=hyp_at hc2 (A:=c.hyps) (B:=[]) (f:=knownF nxT a b 2) (i:=0) rfl rfl
 obtain⟨v1,v2⟩:=two_errs w2
 have h4:=prj_inf (.inr rfl) (show infP (hypP 0) (c.with_ (knownF nxT a b 2))=(twoF 2 (twoF 3 (eqF nxT zT) (a.lft 0 2)) (twoF 3 (notF (eqF nxT zT)) (b.lft 0 2)),[],0) from w1) v1 v2
 rw[if_neg (by omega)] at h4
 refine impH_acc hc2 y1 (hb.err (by omega)) hb.ok (hd.err (by omega)) hd.ok (impH_acc hc2 h4 z3 z4 (hb.err (by omega)) hb.ok ?_)
 refine imp_acc hc2 z1 z2 fun hroom2=> ?_
 have hk2:=room_ok hroom2
 have hc3:=hc2.with_ (f:=eqF nxT zT) (by omega) z1 z2
 obtain⟨x1,x2,x3⟩:=hyp_at hc3 (A:=(c.with_ (knownF nxT a b 2)).hyps) (B:=[]) (f:=eqF nxT zT) (i:=0) rfl rfl
 have h5:=sym_inf hc3 (nn hg) (numZ _) x1
 exact absd_acc hc3 (n0 hg) (by decide) h5
theorem cases_acc{c:Ck}(hc:c.ok){a b d:Fm}(ha:Gf c.tys a 487)(hb:Gf c.tys b 487)(hd:Gf c.tys d 487){i j k:Int}(hi:∃A B,c.hyps=A++orA a b::B∧i=(B.length:Nat))
 (hj:∃A B,c.hyps=A++twoF 3 a d::B∧j=(B.length:Nat)) (hk:∃A B,c.hyps=A++twoF 3 b d::B∧k=(B.length:Nat)):Acc c (casesP a b d (hypP i) (hypP (j+2)) (hypP (k+3))) d:=by
 have hl:=hc.len
 have hBg:=orB_gf ha hb
 have e:infP (casesP a b d (hypP i) (hypP (j+2)) (hypP (k+3))) c=finR (opnR 11 (infP (hypP i)) (infP (impEP (indP (caseF a b d) (vT 0) (caseB a b (hypP (j+2))) (caseS a b (hypP (k+3)))) (hypP 0))) c):=by unfold casesP;rw[infP_eq];rfl
 obtain⟨A,B,i1,i2⟩:=hi
 obtain⟨y1,y2,y3⟩:=hyp_at hc i1 i2
 unfold opnR at e
 rw[y1,if_neg (by simp),if_neg (by simp[orA,orF,kI])] at e
 by_cases hr:c.room 1 1≠0
 ·rw [if_pos hr] at e
  exact finE e (.inl rfl)
 rw[if_neg hr] at e
 have hrk:=room_ok (Decidable.not_not.1 hr)
 have hcb:(c.below [natT]).ok:=hc.below (by simpa using hrk.1) (by simp[nat_err])
 have hc1:((c.below [natT]).with_ (orB a b)).ok:=hcb.with_ (by simp[Ck.below];omega) (hBg.err (by omega)) hBg.ok
 have hop:∀r:Rs,openB r c (orA a b,([]:List Int),(0:Int)).1=r ((c.below [natT]).with_ (orB a b)):=fun r=>rfl
 rw[hop] at e
 generalize hc1e:(c.below [natT]).with_ (orB a b)=c1 at*
 have t1:c1.tys=c.tys++[natT]:=by rw[←hc1e];rfl
 have hy1:c1.hyps=c.hyps.map (fun f=>f.lft 0 1)++[orB a b]:=by rw[←hc1e];rfl
 have a1:Gf c1.tys (a.lft 0 1) 487:=by rw[t1];exact lft_gf [natT] ha
 have b1:Gf c1.tys (b.lft 0 1) 487:=by rw[t1];exact lft_gf [natT] hb
 have d1:Gf c1.tys (d.lft 0 1) 487:=by rw[t1];exact lft_gf [natT] hd
 have k0:Gf c1.tys (knownF zT a b 1) 1000:=by
  rw[t1]
  have:=known_gf [natT] ha hb (Gt.zero _)
  exact⟨this.sh,Nat.le_trans this.sz (by omega),this.ok⟩
 have K1:Gf c1.tys (knownF (vT 0) a b 1) 1000:=by
  rw[t1]
  have:=known_gf [natT] ha hb (Gt.v0 c.tys natT)
  exact⟨this.sh,Nat.le_trans this.sz (by omega),this.ok⟩
 have hF:Gf (c1.tys++[natT]) (caseF a b d) 1488:=by
  rw[t1]
  have h1:=known_gf (g:=c.tys) [natT,natT] ha hb (x:=vT 0) (m:=1) (by have:=Gt.v0 (c.tys++[natT]) natT;simpa using this)
  have h2:=lft_gf (g:=c.tys) [natT,natT] hd
  have h3:=two_gf (.inr rfl) h1 h2
  have h4:Gf (c.tys++[natT]++[natT]) (caseF a b d) (1+(2*487+2*1+12)+487):=by simpa [caseF] using h3
  exact⟨h4.sh,Nat.le_trans h4.sz (by omega),h4.ok⟩
 have hv:(vT 0).inf c1.tys=(natT,0):=by rw[t1];exact v0_inf _ _
 have hbase:Acc c1 (caseB a b (hypP (j+2))) ((caseF a b d).put 0 zT):=by
  rw[case_put ha.sh hb.sh hd.sh (by decide),show j+2=(j+1)+1 by omega]
  obtain⟨A,B,e1,e2⟩:=hj
  exact base_acc hc1 a1 b1 d1 k0 ⟨A.map fun f=>f.lft 0 1,B.map (fun f=>f.lft 0 1)++[orB a b],by rw[hy1,e1];simp[lft_two],by simp;omega⟩
 have hstep:c1.room 1 1=0→Acc ((c1.below [natT]).with_ (caseF a b d)) (caseS a b (hypP (k+3))) (((caseF a b d).lft 1 1).put 0 nxT):=fun hroom=>by
  have hq:=room_ok hroom
  rw[case_step ha.sh hb.sh hd.sh (by decide),show k+3=(k+2)+1 by omega]
  have hc2:((c1.below [natT]).with_ (caseF a b d)).ok:=(hc1.below (by simpa using hq.1) (by simp[nat_err])).with_ (by simp[Ck.below];omega) (hF.err (by omega)) hF.ok
  have t2:((c1.below [natT]).with_ (caseF a b d)).tys=c.tys++[natT]++[natT]:=by simp only[Ck.below,Ck.with_,t1]
  have b2:Gf (c.tys++[natT]++[natT]) (b.lft 0 2) 487:=by have:=lft_gf (g:=c.tys) [natT,natT] hb;simpa using this
  have d2:Gf (c.tys++[natT]++[natT]) (d.lft 0 2) 487:=by have:=lft_gf (g:=c.tys) [natT,natT] hd;simpa using this
  have k2:Gf (c.tys++[natT]++[natT]) (knownF nxT a b 2) 1000:=by
   have h1:=known_gf (g:=c.tys) [natT,natT] ha hb (x:=nxT) (m:=2) (by have:=Gt.suc0 (c.tys++[natT]);simpa [nxT] using this)
   have h4:Gf (c.tys++[natT]++[natT]) (knownF nxT a b 2) (2*487+2*2+12):=by simpa using h1
   exact⟨h4.sh,Nat.le_trans h4.sz (by omega),h4.ok⟩
  obtain⟨A,B,e1,e2⟩:=hk
  refine step_acc hc2 (g:=c.tys++[natT]) t2 (by rw[t2];exact b2) (by rw[t2];exact d2) (by rw[t2];exact k2)
   ⟨A.map fun f=>(f.lft 0 1).lft 0 1,B.map (fun f=>(f.lft 0 1).lft 0 1)++[(orB a b).lft 0 1,caseF a b d],?_,by simp;omega⟩
  simp only[Ck.below,Ck.with_,hy1,e1,List.map_append,List.map_cons,List.map_map,List.length_cons,List.length_nil,Nat.zero_add]
  have e3:((twoF 3 b d).lft 0 1).lft 0 1=twoF 3 (b.lft 0 2) (d.lft 0 2):=by rw[lft_lft _ 0 1 1 (by omega),lft_two (.inr rfl)];rfl
  have e4:((1:Nat):Int)=1:=rfl
  simp[e4,e3,Function.comp_def]
 have hw:(∃u,infP (impEP (indP (caseF a b d) (vT 0) (caseB a b (hypP (j+2))) (caseS a b (hypP (k+3)))) (hypP 0)) c1=(d.lft 0 1,u,0)∧∀x∈u,x∈freeT (vT 0))∨∃e,infP (impEP (indP (caseF a b d) (vT 0) (caseB a b (hypP (j+2))) (caseS a b (hypP (k+3)))) (hypP 0)) c1=noRes e∧(e=3∨e=4∨e=5):=by
  have e0:infP (impEP (indP (caseF a b d) (vT 0) (caseB a b (hypP (j+2))) (caseS a b (hypP (k+3)))) (hypP 0)) c1=finR (impeR (infP (indP (caseF a b d) (vT 0) (caseB a b (hypP (j+2))) (caseS a b (hypP (k+3))))) (infP (hypP 0)) c1):=by unfold impEP;rw[infP_eq];rfl
  unfold impeR at e0
  rcases ind_acc hc1 hF (by omega) (t:=vT 0) (by decide) hv (by decide) hbase hstep with⟨u,h1,hu⟩|⟨e2,h1,he⟩
  ·rw [case_put ha.sh hb.sh hd.sh (by decide)] at h1
   obtain⟨w1,w2,w3⟩:=hyp_at hc1 (A:=c.hyps.map fun f=>f.lft 0 1) (B:=[]) (f:=orB a b) (i:=0) hy1 rfl
   have t0:(twoF 3 (knownF (vT 0) a b 1) (d.lft 0 1)).args.getD 0 noFm=orB a b:=rfl
   have t1':(twoF 3 (knownF (vT 0) a b 1) (d.lft 0 1)).args.getD 1 noFm=d.lft 0 1:=rfl
   rw[h1,w1,if_neg (by simp),if_neg (by simp[twoF]),if_neg (by simp)] at e0
   simp only[t0,t1'] at e0
   rw[mtchF_refl w2] at e0
   unfold finR at e0
   rw[if_neg (by simp),if_neg (by simp[d1.err (by omega)])] at e0
   refine .inl ⟨_,e0,fun x hx=> ?_⟩
   simp only at hx
   split at hx
   ·rcases mem_unionI.1 hx with h|h
    ·exact hu x h
    ·cases h
   ·cases hx
  ·rw [h1,if_pos (show(noRes e2).2.2≠0 by simp[noRes];omega)] at e0
   refine .inr ⟨e2,?_,he⟩
   rw[e0];unfold finR;rw[if_pos (show(noRes (noRes e2).2.2).2.2≠0 by simp[noRes];omega)];rfl
 rcases hw with⟨u,h1,hu⟩|⟨e2,h1,he⟩
 ·rw [h1,if_neg (by simp)] at e
  have ht:timesF 0 (d.lft 0 1)=0:=by
   have:cntF 0 ((d.lft 0 1).tms 0)=0:=cntF_lifted (fun p hp=>tms_shape d hd.sh 0 p hp) 0
   exact this
  have hfr:freeR (d.lft 0 1)=(d.lft 0 1,0):=by unfold freeR;rw[if_pos ht]
  simp only[hfr] at e
  rw[if_neg (by simp),if_neg (by simp)] at e
  have hlow:(d.lft 0 1).lft 1 (-1)=d:=by
   rw[lower_put zT (lft_keeps hd.sh (by omega)).1 ht]
   exact lft_put0 hd.sh zT
  have hun:unionI [] (outI u 1)=[]:=List.eq_nil_iff_forall_not_mem.2 fun x hx=>by
   rcases mem_unionI.1 hx with h|h
   ·cases h
   ·obtain ⟨h2,h3⟩:=mem_outI.1 h
    have h4:=(freeT_ok (g:=[natT]) (t:=vT 0) (T:=natT) (v0_inf [] natT)).2 _ (hu _ h3)
    simp at h4
    omega
  rw[hlow,hun] at e
  exact finA (x:=d) e (.refl _) hd.ok hd.sh
 ·rw [h1,if_pos (show(noRes e2).2.2≠0 by simp[noRes];omega)] at e
  exact finE e he
theorem Pg.some{p:Pf}{t:Tm}{f:Fm}{n m z:Nat}(ht:t.shape=true)(hz:t.size≤z)(hz2:z≤4096)(hf:f.shape=true)(hm:f.size≤m)(hm2:m≤4096)(hp:Pg p n):Pg (someP f t p) (1+z+m+n):=Pg.ex (.inl rfl) ht hz hz2 hf hm hm2 hp
theorem Pg.ind{p q:Pf}{t:Tm}{f:Fm}{n k m z:Nat}(ht:t.shape=true)(hz:t.size≤z)(hz2:z≤4096)(hf:f.shape=true)(hm:f.size≤m)(hm2:m≤4096)(hp:Pg p n)(hq:Pg q k):Pg (indP f t p q) (1+z+m+n+k):=by
 refine⟨?_,?_,?_⟩
 ·simp [indP,Pf.shape,Pf.shapes,Pf.head,ndP,hp.sh,hq.sh,ht,hf,Ty.isNo,Ty.kind,Ty.args]
 ·simp [indP,Pf.small,Pf.smalls,hp.sm,hq.sm];omega
 ·have:=hp.sz;have:=hq.sz
  simp only[indP,pf_size1,List.map_cons,List.map_nil,List.sum_cons,List.sum_nil];omega
theorem Pg.prj{k:Int}{p:Pf}{n:Nat}(hk:k=4∨k=5)(hp:Pg p n):Pg (.mk k 0 (.mk 0 []) [] [] [p]) (1+n):=by
 refine⟨?_,?_,?_⟩
 ·rcases hk with rfl|rfl<;>simp[Pf.shape,Pf.shapes,Pf.head,ndP,hp.sh,Ty.isNo,Ty.kind,Ty.args]
 ·simp [Pf.small,Pf.smalls,hp.sm]
 ·have:=hp.sz
  simp only[pf_size1,List.map_cons,List.map_nil,List.sum_cons,List.sum_nil];omega
theorem Pg.exE{p q:Pf}{n m:Nat}(hp:Pg p n)(hq:Pg q m):Pg (.mk 11 0 (.mk 0 []) [] [] [p,q]) (1+n+m):=by
 refine⟨?_,?_,?_⟩
 ·simp [Pf.shape,Pf.shapes,Pf.head,ndP,hp.sh,hq.sh,Ty.isNo,Ty.kind,Ty.args]
 ·simp [Pf.small,Pf.smalls,hp.sm,hq.sm]
 ·have:=hp.sz;have:=hq.sz
  simp only[pf_size1,List.map_cons,List.map_nil,List.sum_cons,List.sum_nil];omega
theorem Pg.exf{x p:Pf}{n m:Nat}(hx:Pg x n)(hp:Pg p m):Pg (exfP x p) (6+n+m):=by
 have h:=Pg.impE (Pg.imp (f:=falseF) (m:=4) (by decide) (by decide) (by omega) hx) hp
 exact Pg.mono h (by omega)
theorem left_pg{g:List Ty}{a b:Fm}{n m:Nat}(ha:Gf g a n)(hb:Gf g b m)(hz:n+m+15≤4096){i:Int}(hi:0≤i){x:Pf}{z:Nat}(hx:Pg x z):Pg (leftP a b i x) (n+m+z+100):=by
 have ho:=orA_gf ha hb
 have h1:=Pg.imp (f:=eqF zT zT) (m:=3) (by decide) (by decide) (by omega) (Pg.hyp (i:=i+1) (by omega))
 have h2:=Pg.imp (f:=notF (eqF zT zT)) (m:=8) (by decide) (by decide) (by omega) (hx.exf (Pg.impE (Pg.hyp (i:=0) (by omega)) (Pg.refl (t:=zT) (n:=1) (by decide) (by decide) (by omega))))
 exact(Pg.some (t:=zT) (z:=1) (by decide) (by decide) (by omega) ho.sh ho.sz hz (h1.and h2)).mono (by omega)
theorem right_pg{g:List Ty}{a b:Fm}{n m:Nat}(ha:Gf g a n)(hb:Gf g b m)(hz:n+m+15≤4096){i:Int}(hi:0≤i){x:Pf}{z:Nat}(hx:Pg x z):Pg (rightP a b i x) (n+m+z+100):=by
 have ho:=orA_gf ha hb
 have zs:NumOk ([]:List Ty) (sT zT):=(numZ []).suc (by decide)
 have hs:=Pg.of (symP_err zs (hypP_err (i:=0) (by omega)) (by rw[hypP_size];omega))
 have hsz:(symP (sT zT) (hypP 0)).size≤20:=by decide
 have h1:=Pg.imp (f:=eqF (sT zT) zT) (m:=4) (by decide) (by decide) (by omega) (hx.exf (hs.mono hsz))
 have h2:=Pg.imp (f:=notF (eqF (sT zT) zT)) (m:=9) (by decide) (by decide) (by omega) (Pg.hyp (i:=i+1) (by omega))
 exact(Pg.some (t:=sT zT) (z:=2) (by decide) (by decide) (by omega) ho.sh ho.sz hz (h1.and h2)).mono (by omega)
theorem known_sh{g:List Ty}{a b:Fm}{n m:Nat}(ha:Gf g a n)(hb:Gf g b m){x:Tm}(hx:x.shape=true)(hz:x.size≤2)(k:Int)(hk:0≤k):(knownF x a b k).shape=true∧(knownF x a b k).size≤n+m+16:=by
 have l1:=lft_keeps ha.sh (fr:=0) (by_:=k) hk
 have l2:=lft_keeps hb.sh (fr:=0) (by_:=k) hk
 have e:=eqF_shape hx (show zT.shape=true by decide)
 have hn:=notF_ok e
 have z0:zT.size=1:=by decide
 refine⟨two_shape_iff (.inl rfl) (two_shape_iff (.inr rfl) e l1.1) (two_shape_iff (.inr rfl) hn.1 l2.1),?_⟩
 unfold knownF
 rw[twoF_size,twoF_size,twoF_size,hn.2,eqF_size,l1.2.1,l2.2.1,z0]
 have:=ha.sz;have:=hb.sz
 omega
theorem case_sh{g:List Ty}{a b d:Fm}{n m l:Nat}(ha:Gf g a n)(hb:Gf g b m)(hd:Gf g d l):(caseF a b d).shape=true∧(caseF a b d).size≤n+m+l+17:=by
 have h1:=known_sh ha hb (x:=vT 0) (by decide) (by decide) 2 (by omega)
 have l2:=lft_keeps hd.sh (fr:=0) (by_:=2) (by omega)
 refine⟨two_shape_iff (.inr rfl) h1.1 l2.1,?_⟩
 unfold caseF
 rw[twoF_size,l2.2.1]
 have:=hd.sz
 omega
theorem dif_pg:Pg difP 60:=by
 have e:difP.err=0:=by decide
 have h:=Pg.of e
 exact h.mono (by decide)
theorem cases_pg{g:List Ty}{a b d:Fm}{n m l:Nat}(ha:Gf g a n)(hb:Gf g b m)(hd:Gf g d l)(hz:n+m+l+20≤4096){i j k:Int}(hi:0≤i)(hj:0≤j)(hk:0≤k):Pg (casesP a b d (hypP i) (hypP j) (hypP k)) (3*(n+m+l)+300):=by
 have k1:=known_sh ha hb (x:=zT) (by decide) (by decide) 1 (by omega)
 have k2:=known_sh ha hb (x:=nxT) (by decide) (by decide) 2 (by omega)
 have kc:=case_sh ha hb hd
 have h0:Pg (hypP 0) 1:=Pg.hyp (by omega)
 have b1:Pg (caseB a b (hypP j)) _:=Pg.imp k1.1 k1.2 (by omega) (Pg.impE (Pg.hyp hj) (Pg.impE (Pg.prj (.inl rfl) h0) (Pg.refl (t:=zT) (n:=1) (by decide) (by decide) (by omega))))
 have s1:Pg (caseS a b (hypP k)) _:=Pg.imp k2.1 k2.2 (by omega) (Pg.impE (Pg.hyp hk) (Pg.impE (Pg.prj (.inr rfl) h0) dif_pg))
 have i1:=Pg.ind (t:=vT 0) (z:=1) (by decide) (by decide) (by omega) kc.1 kc.2 (by omega) b1 s1
 exact(Pg.exE (Pg.hyp hi) (Pg.impE i1 h0)).mono (by omega)
theorem Dk.eqf_tw(d:Dk){g:List Ty}(hg:smalls g)(n:Nat):Tw n 121 (d.eqf g).1:=by
 have h:=(Dk.eqf_good d hg).2.1
 exact Tw.leaf (by simp only[Dk.eqf] at h ⊢;simpa using (show _≤121 by omega))
theorem Dk.fm_tw:∀(n:Nat) (d:Dk) (g:List Ty),smalls g→Tw n 121 (Dk.fm n d g).1:=by
 intro n
 induction n with
 |zero=>exact fun d g hg=>d.eqf_tw hg 0
 |succ n ih=>
  intro d g hg
  have h2:=Dk.next_bd (((d.next 9).2.type 0).2) 2 (by omega)
  have s1:=Dk.type1 (d.next 9).2
  have s0:=Dk.type0 (d.next 9).2
  have s0':=small_one s0.1 s0.2
  simp only[Dk.fm]
  repeat' split
  ·exact .inr (.inl ⟨2,_,_,.inl rfl,rfl,ih _ _ hg,ih _ _ hg⟩)
  ·exact .inr (.inl ⟨3,_,_,.inr rfl,rfl,ih _ _ hg,ih _ _ hg⟩)
  ·exact .inr (.inr ⟨4,_,_,by omega,s1,rfl,ih _ _ (smalls_app hg (smalls_cons s1 smalls_nil))⟩)
  ·exact .inr (.inr ⟨5,_,_,by omega,s1,rfl,ih _ _ (smalls_app hg (smalls_cons s1 smalls_nil))⟩)
  ·exact .inr (.inr ⟨_,_,_,⟨by omega,by omega⟩,s0',rfl,ih _ _ (smalls_app hg (smalls_cons s0' smalls_nil))⟩)
  ·exact Dk.eqf_tw _ hg _
def Dk.oA(d:Dk):Fm×Dk:=Dk.fm 2 d.sqD d.ctx.1
def Dk.oB(d:Dk):Fm×Dk:=Dk.fm 2 d.oA.2 d.ctx.1
def Dk.oC(d:Dk):Fm×Dk:=Dk.fm 1 d.oB.2 d.ctx.1
theorem fm2_gf(d:Dk){g:List Ty}(hg:smalls g):Gf g (Dk.fm 2 d g).1 487:=by
 have h:=Dk.fm_good 2 d g hg
 exact⟨h.1,by have:=h.2.1;omega,Dk.fm_okT 2 _ _ hg⟩
theorem fm1_gf(d:Dk){g:List Ty}(hg:smalls g):Gf g (Dk.fm 1 d g).1 487:=by
 have h:=Dk.fm_good 1 d g hg
 exact⟨h.1,by have:=h.2.1;omega,Dk.fm_okT 1 _ _ hg⟩
theorem Dk.oA_gf(d:Dk):Gf d.ctx.1 d.oA.1 487:=fm2_gf _ d.ctx_smalls
theorem Dk.oB_gf(d:Dk):Gf d.ctx.1 d.oB.1 487:=fm2_gf _ d.ctx_smalls
theorem Dk.oC_gf(d:Dk):Gf d.ctx.1 d.oC.1 487:=fm1_gf _ d.ctx_smalls
def Dk.oH(d:Dk):List Fm:=d.sqH++[d.oA.1,d.oB.1,orA d.oA.1 d.oB.1,twoF 3 d.oA.1 d.oC.1,twoF 3 d.oB.1 d.oC.1]
def Dk.oK(d:Dk):Ck:=⟨[],d.ctx.1,d.oH⟩
theorem Dk.oK_ok(d:Dk):d.oK.ok:=by
 have h1:=d.oA_gf
 have h2:=d.oB_gf
 have h3:=orA_gf h1 h2
 have h4:=two_gf (k:=3) (.inr rfl) h1 d.oC_gf
 have h5:=two_gf (k:=3) (.inr rfl) h2 d.oC_gf
 refine⟨d.sqC_ok.ctx,by have:=d.sqH_len;simp[Dk.oK,Dk.oH];omega,by simp[Dk.oK],fun f hf=> ?_,fun f h=>by cases h⟩
 rcases List.mem_append.1 hf with h|h
 ·exact d.sqC_ok.hyps f h
 ·simp only[List.mem_cons,List.not_mem_nil,or_false] at h
  rcases h with rfl|rfl|rfl|rfl|rfl
  ·exact ⟨h1.err (by omega),h1.ok⟩
  ·exact ⟨h2.err (by omega),h2.ok⟩
  ·exact ⟨h3.err (by omega),h3.ok⟩
  ·exact ⟨h4.err (by omega),h4.ok⟩
  ·exact ⟨h5.err (by omega),h5.ok⟩
theorem noth_fm2(d:Dk){g:List Ty}(hg:smalls g)(hl:g.length≤90):0≤(noth (Dk.fm 2 d g).1.dp 262144 (Dk.fm 2 d g).1 0).2∧Pg (noth (Dk.fm 2 d g).1.dp 262144 (Dk.fm 2 d g).1 0).1 13069:=by
 have G:=fm2_gf d hg
 have hc:cost 2 121≤10000:=by decide
 have hp:psz 2 121≤13069:=by decide
 obtain⟨h1,h2⟩:=noth_tw 2 121 (Dk.fm 2 d g).1 g (Dk.fm 2 d g).1.dp 262144 0 (Dk.fm_tw 2 d g hg) G.sh G.ok (by omega) (by decide) (Nat.le_refl _) (by omega) (by omega)
 exact⟨by omega,h2.mono hp⟩
def Dk.oL(d:Dk):Pf:=leftP d.oA.1 d.oB.1 4 (noth d.oB.1.dp 262144 d.oB.1 0).1
def Dk.oR(d:Dk):Pf:=rightP d.oA.1 d.oB.1 3 (noth d.oA.1.dp 262144 d.oA.1 0).1
def Dk.oX(d:Dk):Pf:=casesP d.oA.1 d.oB.1 d.oC.1 (hypP 2) (hypP 3) (hypP 3)
theorem Dk.oA_n(d:Dk):0≤(noth d.oA.1.dp 262144 d.oA.1 0).2∧Pg (noth d.oA.1.dp 262144 d.oA.1 0).1 13069:=noth_fm2 d.sqD d.ctx_smalls (by have:=d.ctx_len;omega)
theorem Dk.oB_n(d:Dk):0≤(noth d.oB.1.dp 262144 d.oB.1 0).2∧Pg (noth d.oB.1.dp 262144 d.oB.1 0).1 13069:=noth_fm2 d.oA.2 d.ctx_smalls (by have:=d.ctx_len;omega)
theorem Dk.oL_err(d:Dk):d.oL.err=0:=(left_pg d.oA_gf d.oB_gf (by omega) (by omega) d.oB_n.2).err (by omega)
theorem Dk.oR_err(d:Dk):d.oR.err=0:=(right_pg d.oA_gf d.oB_gf (by omega) (by omega) d.oA_n.2).err (by omega)
theorem Dk.oX_err(d:Dk):d.oX.err=0:=(cases_pg d.oA_gf d.oB_gf d.oC_gf (by omega) (by omega) (by omega) (by omega)).err (by omega)
theorem Dk.oL_acc(d:Dk):Acc d.oK d.oL (orA d.oA.1 d.oB.1):=
 left_acc d.oK_ok d.oA_gf d.oB_gf ⟨d.sqH,[d.oB.1,orA d.oA.1 d.oB.1,twoF 3 d.oA.1 d.oC.1,twoF 3 d.oB.1 d.oC.1],rfl,rfl⟩ (Nat.le_refl _) d.oB_n.1
theorem Dk.oR_acc(d:Dk):Acc d.oK d.oR (orA d.oA.1 d.oB.1):=
 right_acc d.oK_ok d.oA_gf d.oB_gf ⟨d.sqH++[d.oA.1],[orA d.oA.1 d.oB.1,twoF 3 d.oA.1 d.oC.1,twoF 3 d.oB.1 d.oC.1],by simp[Dk.oK,Dk.oH],rfl⟩ (Nat.le_refl _) d.oA_n.1
theorem Dk.oX_acc(d:Dk):Acc d.oK d.oX d.oC.1:=
 cases_acc d.oK_ok d.oA_gf d.oB_gf d.oC_gf (i:=2) (j:=1) (k:=0) ⟨d.sqH++[d.oA.1,d.oB.1],[twoF 3 d.oA.1 d.oC.1,twoF 3 d.oB.1 d.oC.1],by simp[Dk.oK,Dk.oH],rfl⟩
  ⟨d.sqH++[d.oA.1,d.oB.1,orA d.oA.1 d.oB.1],[twoF 3 d.oB.1 d.oC.1],by simp[Dk.oK,Dk.oH],rfl⟩ ⟨d.sqH++[d.oA.1,d.oB.1,orA d.oA.1 d.oB.1,twoF 3 d.oA.1 d.oC.1],[],by simp[Dk.oK,Dk.oH],rfl⟩
theorem lsum65{α:Type}(f g:α→Nat):∀l:List α,(∀x∈l,f x≤65*g x)→(l.map f).sum≤65*(l.map g).sum
 |[],_=>by simp
 |x::l,h=>by
  have h1:=h x (by simp)
  have h2:=lsum65 f g l fun y hy=>h y (by simp[hy])
  simp only[List.map_cons,List.sum_cons];omega
theorem pfull_le(p:Pf):p.shape=true→p.full≤65*p.size:=by
 induction p using Pf.ind with
 |h p ih=>
  intro hs
  obtain⟨h1,h2,h3,h4⟩:=pshape_parts hs
  have ht:p.ty.size≤64:=by
   have hh:=h1
   unfold Pf.head at hh
   split at hh
   ·cases hh
   ·rename_i nd _
    simp only[Bool.and_eq_true] at hh
    have h5:=hh.2
    split at h5
    ·simp only[Ty.ok,Bool.and_eq_true,decide_eq_true_eq] at h5;exact h5.2
    ·rw [Ty.no_of h5];decide
  have a1:=lsum65 Tm.full Tm.size p.terms fun t ht=>tfull_le t (h2 t ht)
  have a2:=lsum65 Fm.full Fm.size p.forms fun f hf=>ffull_le f (h3 f hf)
  have a3:=lsum65 Pf.full Pf.size p.args fun x hx=>ih x hx (h4 x hx)
  have e1:=p.full_eq
  have e2:=p.size_eq
  omega
end Go.Ab
