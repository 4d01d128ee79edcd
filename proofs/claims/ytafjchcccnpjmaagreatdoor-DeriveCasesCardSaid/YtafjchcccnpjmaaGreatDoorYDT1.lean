/- A part of the proofs of this seat's statements: D34, D42, D50, D55, D56, D57, D58, D59, D60. It has no conditions of its own. -/
import Derived.Test.YtafjchcccnpjmaaGreatDoorYA1
import Derived.Test.YtafjchcccnpjmaaGreatDoorYD1
import Derived.Test.YtafjchcccnpjmaaGreatDoorDT1
namespace Go.Ab
open Go
set_option linter.all false
theorem lift_same(t:Tm)(a n m:Int)(hn:0≤n):(t.re (liftG a n) 0).re (liftG a m) 0=t.re (liftG a (n+m)) 0:=by
 rw[re_re]
 refine re_congr t 0 fun p hp=> ?_
 simp only[liftG_eq,re_vT]
 congr 1
 by_cases h:p.1-p.2≥a
 ·rw [if_pos h,if_pos (by omega),if_pos h];omega
 ·rw [if_neg h,if_neg h,if_neg h]
theorem fokT_idx{f:Fm}{g:List Ty}(h:f.okT g)(he:f.err=0)(hg:g.length≤100):∀p∈f.tms 0,∀q∈p.1.vars 0,q.1≤4500:=fun p hp q hq=>by
 have h1:=(Fm.err_iff f).1 he
 have:=fokT_vars h h1.1 p hp q hq
 omega
theorem zT_inf(g:List Ty):zT.inf g=(natT,0):=by simp[zT,Tm.inf,Tm.infs,rule]
theorem nil_inf(g:List Ty):nilM.inf g=(listT,0):=by simp[nilM,Tm.inf,Tm.infs,rule]
def lim(e:Int):Prop:=e=0∨e=4∨e=5∨e=3
def Dk.nH(d:Dk):List Fm:=d.wH++[eqF (sT d.w0.1) (sT d.w2.1),eqF zT (sT d.w1.1)]
def Dk.nC(d:Dk):Ck:=⟨[],d.ctx.1,d.nH⟩
theorem re_pt{g g':Int→Int→Tm}(h:∀i c,g i c=g' i c)(t:Tm)(b:Int):t.re g b=t.re g' b:=by
 have:g=g':=funext fun i=>funext fun c=>h i c
 rw[this]
theorem vT_lift(j fr by_ c:Int):(vT j).re (liftG fr by_) c=vT (if j-c≥fr then j+by_ else j):=by rw[re_vT];rfl
theorem vT_put(j a:Int)(s:Tm)(c:Int):(vT j).re (putG a s) c=if j-c=a then s.re (liftG 0 (a+c)) 0 else vT (if j-c>a then j-1 else j):=by rw[re_vT];rfl
theorem vT_lift0(j d:Int)(hj:0≤j):(vT j).re (liftG 0 d) 0=vT (j+d):=by rw[vT_lift,if_pos (by omega)]
theorem Fm.re_shift(G:Int→Tm→Tm)(c:Int)(f:Fm):∀b,f.re G (b+c)=f.re (fun b t=>G (b+c) t) b:=by
 induction f using Fm.ind with
 |h f ih=>
  intro b
  have e:upF f.kind (b+c)=upF f.kind b+c:=by simp only[upF];split<;>omega
  rw[Fm.re_eq,Fm.re_eq,e]
  congr 1
  exact List.map_congr_left fun x hx=>ih x hx _
theorem Fm.re_pt{G G':Int→Tm→Tm}(h:∀b t,0≤b→G b t=G' b t)(f:Fm):f.re G 0=f.re G' 0:=by
 refine Fm.re_congr f 0 fun p hp=>h _ _ ?_
 exact tms_snd p hp
theorem lft_at(f:Fm)(a n:Int):f.lft a n=f.re (fun b t=>t.re (liftG (a+b) n) 0) 0:=rfl
theorem fput_at(f:Fm)(a:Int)(s:Tm):f.put a s=f.re (fun b t=>t.re (putG (a+b) s) 0) 0:=rfl
theorem lft_qu(k:Int)(s:Ty)(f:Fm)(a n:Int):(quF k s f).lft a n=quF k s (if quantK k=true then f.lft (a+1) n else f.lft a n):=by
 rw[lft_at,Fm.re_eq]
 simp only[quF,Fm.kind,Fm.ty,Fm.terms,Fm.args,List.map_nil,List.map_cons]
 congr 2
 cases h:quantK k with
 |true=>
  have e:upF k 0=0+1:=by simp[upF,h]
  rw[e,Fm.re_shift,if_pos rfl,lft_at]
  refine Fm.re_pt (fun b t _=> ?_) f
  rw[show a+(b+1)=a+1+b by omega]
 |false=>
  have e:upF k 0=0:=by simp[upF,h]
  rw[e,if_neg (by simp)];rfl
theorem put_qu{k:Int}(hk:quantK k=true)(s:Ty)(f:Fm)(a:Int)(x:Tm):(quF k s f).put a x=quF k s (f.put (a+1) x):=by
 rw[fput_at,Fm.re_eq]
 simp only[quF,Fm.kind,Fm.ty,Fm.terms,Fm.args,List.map_nil,List.map_cons]
 congr 2
 have e:upF k 0=0+1:=by simp[upF,hk]
 rw[e,Fm.re_shift,fput_at]
 refine Fm.re_pt (fun b t _=> ?_) f
 rw[show a+(b+1)=a+1+b by omega]
theorem lft_lft(f:Fm)(a n m:Int)(hn:0≤n):(f.lft a n).lft a m=f.lft a (n+m):=by
 rw[lft_at,lft_at,lft_at,Fm.re_re]
 exact Fm.re_pt (fun b t _=>lift_same t _ n m hn) f
theorem lift_put(t s:Tm)(n b:Int)(hb:0≤b)(hn:0≤n):(t.re (liftG (1+b) n) 0).re (putG b (s.re (liftG 0 n) 0)) 0=(t.re (putG b s) 0).re (liftG b n) 0:=by
 rw[re_re,re_re]
 refine re_congr t 0 fun p hp=> ?_
 have h0:=vars_snd t 0 p hp
 obtain⟨i,c⟩:=p
 simp only at h0 ⊢
 rw[liftG_eq,putG_eq]
 by_cases h1:i-c≥1+b
 ·rw [if_pos h1,if_neg (by omega),if_pos (by omega),vT_put,if_neg (by omega),if_pos (by omega),vT_lift,if_pos (by omega)];congr 1;omega
 ·rw [if_neg h1,vT_put]
  by_cases h2:i-c=b
  ·rw [if_pos h2,if_pos h2,lift_lift s n (b+c) hn,re_shift0 (liftG b n) c,re_re]
   refine re_congr s 0 fun q hq=> ?_
   have h3:=vars_snd s 0 q hq
   obtain⟨j,d⟩:=q
   simp only at h3 ⊢
   rw[liftG_eq,liftG_eq,re_vT,liftG_eq]
   by_cases h4:j-d≥0
   ·rw [if_pos h4,if_pos h4,if_pos (by omega)];congr 1;omega
   ·rw [if_neg h4,if_neg h4,if_neg (by omega)]
  ·rw [if_neg h2,if_neg h2,if_neg (by omega),vT_lift,if_neg (by omega)]
theorem flift_put(f:Fm)(s:Tm)(n:Int)(hn:0≤n):(f.lft 1 n).put 0 (s.re (liftG 0 n) 0)=(f.put 0 s).lft 0 n:=by
 rw[fput_at,lft_at,fput_at,lft_at,Fm.re_re,Fm.re_re]
 refine Fm.re_pt (fun b t hb=> ?_) f
 simp only[Int.zero_add]
 exact lift_put t s n b hb hn
theorem fput_v0{f:Fm}(hf:f.shape=true):(f.lft 1 1).put 0 (vT 0)=f:=by
 rw[fput_at,lft_at,Fm.re_re]
 refine Fm.re_id f 0 fun p hp=> ?_
 have hb:=tms_snd p hp
 obtain⟨t,b⟩:=p
 simp only[Int.zero_add] at hb ⊢
 rw[re_re]
 refine re_id t 0 (tms_shape f hf 0 _ hp) fun q hq=> ?_
 have h0:=vars_snd t 0 q hq
 obtain⟨i,c⟩:=q
 simp only at h0 ⊢
 rw[liftG_eq,vT_put]
 by_cases h1:i-c≥1+b
 ·rw [if_pos h1,if_neg (by omega),if_pos (by omega)];congr 1;omega
 ·rw [if_neg h1]
  by_cases h2:i-c=b
  ·rw [if_pos h2,vT_lift0 _ _ (by omega)];congr 1;omega
  ·rw [if_neg h2,if_neg (by omega)]
theorem re_sT(x:Tm)(g:Int→Int→Tm)(b:Int):(sT x).re g b=sT (x.re g b):=by rw[re_node (by simp[sT])];rfl
theorem re3(g1 g2 g3:Int→Int→Tm)(t:Tm)(b:Int):((t.re g1 b).re g2 b).re g3 b=t.re (fun i c=>((g1 i c).re g2 c).re g3 c) b:=by rw[re_re g1 g2 t b,re_re]
theorem re4(g1 g2 g3 g4:Int→Int→Tm)(t:Tm)(b:Int):(((t.re g1 b).re g2 b).re g3 b).re g4 b=t.re (fun i c=>(((g1 i c).re g2 c).re g3 c).re g4 c) b:=by rw[re3 g1 g2 g3 t b,re_re]
theorem re5(g1 g2 g3 g4 g5:Int→Int→Tm)(t:Tm)(b:Int):((((t.re g1 b).re g2 b).re g3 b).re g4 b).re g5 b=t.re (fun i c=>((((g1 i c).re g2 c).re g3 c).re g4 c).re g5 c) b:=by rw[re4 g1 g2 g3 g4 t b,re_re]
theorem step_nat(f:Fm):(((f.lft 1 1).put 0 (sT (vT 0))).lft 1 2).put 0 (vT 0)=((f.lft 1 1).lft 1 1).put 0 (sT (vT 0)):=by
 simp only[fput_at,lft_at,Fm.re_re]
 refine Fm.re_pt (fun b t hb=> ?_) f
 simp only[Int.zero_add]
 rw[re4,re3]
 refine re_congr t 0 fun p hp=> ?_
 have h0:=vars_snd t 0 p hp
 obtain⟨i,c⟩:=p
 simp only at h0 ⊢
 rw[liftG_eq]
 by_cases h1:i-c≥1+b
 ·rw [if_pos h1,vT_put,if_neg (by omega),if_pos (by omega),vT_lift,if_pos (by omega),vT_put,if_neg (by omega),if_pos (by omega)]
  rw[vT_lift,if_pos (by omega),vT_put,if_neg (by omega),if_pos (by omega)]
  congr 1;omega
 ·rw [if_neg h1,vT_put]
  by_cases h2:i-c=b
  ·rw [if_pos h2,re_sT,vT_lift0 _ _ (by omega),re_sT,re_sT,vT_lift,if_neg (by omega),vT_put,if_pos (by omega),vT_lift0 _ _ (by omega)]
   rw[vT_lift,if_neg h1,vT_put,if_pos h2,re_sT,vT_lift0 _ _ (by omega)]
  ·rw [if_neg h2,if_neg (by omega),vT_lift,if_neg h1,vT_put,if_neg h2,if_neg (by omega),vT_lift,if_neg h1,vT_put,if_neg h2,if_neg (by omega)]
theorem consM_re(g:Int→Int→Tm)(b:Int)(x y:Tm):(Tm.mk 8 0 (.mk 0 []) [x,y]).re g b=Tm.mk 8 0 (.mk 0 []) [x.re g b,y.re g b]:=by rw[re_node (by simp)];rfl
theorem step_list(f:Fm):((((f.lft 1 2).put 0 consM).lft 2 3).put 1 (vT 1)).put 0 (vT 0)=((f.lft 1 1).lft 1 2).put 0 consM:=by
 simp only[fput_at,lft_at,Fm.re_re,consM]
 refine Fm.re_pt (fun b t hb=> ?_) f
 simp only[Int.zero_add]
 rw[re5,re3]
 refine re_congr t 0 fun p hp=> ?_
 have h0:=vars_snd t 0 p hp
 obtain⟨i,c⟩:=p
 simp only at h0 ⊢
 rw[liftG_eq,liftG_eq]
 by_cases h1:i-c≥1+b
 ·rw [if_pos h1,if_pos h1,vT_put,if_neg (by omega),if_pos (by omega),vT_lift,if_pos (by omega),vT_put,if_neg (by omega),if_pos (by omega),vT_put,if_neg (by omega),if_pos (by omega)]
  rw[vT_lift,if_pos (by omega),vT_put,if_neg (by omega),if_pos (by omega)]
  congr 1;omega
 ·rw [if_neg h1,if_neg h1,vT_put,vT_lift,if_neg h1,vT_put]
  by_cases h2:i-c=b
  ·rw [if_pos h2,consM_re,vT_lift0 _ _ (by omega),vT_lift0 _ _ (by omega),consM_re,vT_lift,vT_lift,if_neg (by omega),if_neg (by omega),consM_re,vT_put,vT_put,if_pos (by omega),if_neg (by omega),if_neg (by omega),consM_re,vT_lift0 _ _ (by omega),vT_put,vT_put,if_neg (by omega),if_pos (by omega),if_pos (by omega),vT_lift0 _ _ (by omega)]
   congr 3;omega
  ·rw [if_neg h2,if_neg (by omega),vT_lift,if_neg (by omega),vT_put,if_neg (by omega),if_neg (by omega),vT_put,if_neg h2,if_neg (by omega)]
structure Gf (g:List Ty) (f:Fm) (n:Nat):Prop where
 sh:f.shape=true
 sz:f.size≤n
 ok:f.okT g
structure Gt (g:List Ty) (s:Tm) (T:Ty) (m:Nat):Prop where
 sh:s.shape=true
 sz:s.size≤m
 inf:s.inf g=(T,0)
theorem Gf.err{g:List Ty}{f:Fm}{n:Nat}(h:Gf g f n)(hn:n≤4096):f.err=0:=(Fm.err_iff f).2 ⟨h.sh,Nat.le_trans h.sz hn⟩
theorem Gt.err{g:List Ty}{s:Tm}{T:Ty}{m:Nat}(h:Gt g s T m)(hn:m≤4096):s.err=0:=(Tm.err_iff s).2 ⟨h.sh,Nat.le_trans h.sz hn⟩
theorem cntF_le_size(f:Fm)(a:Int):cntF a (f.tms 0)≤f.size:=by
 have h1:=cntF_le a (f.tms 0)
 have h2:=tms_size f 0
 omega
theorem Gf.put{g:List Ty}{f:Fm}{n m:Nat}{s:Tm}{T:Ty}(hf:Gf (g++[T]) f n)(hs:Gt g s T m)(hm:1≤m)(hz:n*m≤4096)(hg:g.length≤20):
 putFErr f 0 s=0∧Gf g (f.put 0 s) (n*m):=by
 have hn:n≤n*m:=Nat.le_mul_of_pos_right n hm
 have ef:=hf.err (by omega)
 have hp:=s.size_pos
 have p2:=f.size_pos
 have hmz:m≤4096:=by
  have:1*m≤n*m:=Nat.mul_le_mul_right m (by have:=hf.sz;omega)
  omega
 have es:=hs.err hmz
 have nf:=(fokT_near hf.ok ef (by simp;omega)).1
 have ns:=near_of (t:=s) (g:=g) (by rw[hs.inf]) hs.sh (by have:=hs.sz;omega)
 have hc:=cntF_le_size f 0
 have h1:cntF 0 (f.tms 0)*(s.size-1)≤n*(m-1):=Nat.mul_le_mul (Nat.le_trans hc hf.sz) (by have:=hs.sz;omega)
 have h2:n*(m-1)+n=n*m:=by rw[←Nat.mul_succ];congr 1;omega
 have h3:=hf.sz
 refine⟨?_,fput_shape (by omega) hs.sh hf.sh,?_,?_⟩
 ·unfold putFErr
  rw[if_neg (by simp[ef]),if_neg (by omega),if_neg (by simp[es]),if_neg (by simp[nf,ns]),if_neg]
  have e:((cntF 0 (f.tms 0):Int)*((s.size:Int)-1))=((cntF 0 (f.tms 0)*(s.size-1):Nat):Int):=by
   rw[Int.natCast_mul];congr 1;omega
  rw[e]
  omega
 ·have h4:=fput_size 0 s hs.sh f hf.sh 0
  have h5:(f.put 0 s).size=f.size+cntF 0 (f.tms 0)*(s.size-1):=h4
  omega
 ·have h6:=fokT_put 0 s g T hs.sh hs.inf f [] 0 rfl hf.sh (by simpa using hf.ok)
  have h7:(f.put 0 s).okT (g++[]):=h6
  simpa using h7
theorem Gf.lft{g h:List Ty}(m:List Ty){f:Fm}{n:Nat}(hf:Gf (g++h) f n):Gf (g++m++h) (f.lft h.length m.length) n:=
 have hk:=lft_keeps hf.sh (fr:=h.length) (by_:=m.length) (by omega)
 ⟨hk.1,by rw[hk.2.1];exact hf.sz,lft_okTs m hf.sh hf.ok⟩
theorem Gf.qu{g:List Ty}{s:Ty}{f:Fm}{n:Nat}(k:Int)(hk:4≤k∧k≤7)(hs:s.err=0)(hf:Gf (g++[s]) f n):Gf g (quF k s f) (n+1):=
 ⟨qu_shape_iff hk hs hf.sh,by rw[quF_size];have:=hf.sz;omega,fokT_qu hk hf.ok⟩
theorem Gf.quI{g:List Ty}{s:Ty}{f:Fm}{n:Nat}(k:Int)(hk:4≤k∧k≤7)(hf:Gf g (quF k s f) (n+1)):Gf (g++[s]) f n:=
 ⟨by have:=hf.sh;rw[Fm.shape_eq] at this;simp[quF] at this;exact this.2,by have:=hf.sz;rw[quF_size] at this;omega,qu_okT hk hf.ok⟩
theorem Gt.zero(g:List Ty):Gt g zT natT 1:=⟨by decide,by decide,zT_inf g⟩
theorem Gt.nil(g:List Ty):Gt g nilM listT 1:=⟨by decide,by decide,nil_inf g⟩
theorem Gt.v0(g:List Ty)(u:Ty):Gt (g++[u]) (vT 0) u 1:=⟨by decide,by decide,v0_inf g u⟩
theorem Gt.v1(g:List Ty)(u w:Ty):Gt (g++[u,w]) (vT 1) u 1:=by
 refine⟨by decide,by decide,?_⟩
 rw[inf_var' _ _ (by omega),if_neg (by simp;omega)]
 have:look (g++[u,w]) 1=look [u,w] 1:=look_right (by simp)
 simp only[show(1:Int).toNat=1 from rfl]
 rw[this];rfl
theorem Gt.suc0(g:List Ty):Gt (g++[natT]) (sT (vT 0)) natT 2:=by
 have h:=Gt.v0 g natT
 exact⟨by decide,by decide,by
  have e:(sT (vT 0)).inf (g++[natT])=(natT,0):=by simp[sT,Tm.inf,Tm.infs,rule,h.inf]
  exact e⟩
theorem Gt.cons(g:List Ty):Gt (g++[natT,listT]) consM listT 3:=by
 have h1:=(Gt.v1 g natT listT).inf
 have h0:(vT 0).inf (g++[natT,listT])=(listT,0):=by
  have:=(Gt.v0 (g++[natT]) listT).inf
  simpa using this
 exact⟨by decide,by decide,by
  have e:consM.inf (g++[natT,listT])=(listT,0):=by simp[consM,Tm.inf,Tm.infs,rule,h0,h1]
  exact e⟩
theorem putK_of{f:Fm}{t:Tm}(h:putFErr f 0 t=0):putK f t=(f.put 0 t,0):=by unfold putK;rw[if_pos h,h]
theorem room_of{c:Ck}{v h:Nat}(h1:c.tys.length+v≤16)(h2:c.hyps.length+h≤16):c.room v h=0:=by unfold Ck.room;rw[if_neg (by omega)]
theorem partR_of{r:Rs}{c:Ck}{f:Fm}{t:Tm}{u:List Int}(h:putFErr f 0 t=0)(hr:r c=(f.put 0 t,u,0))(he:(f.put 0 t).err=0):partR r c f t=(u,0):=by
 unfold partR
 rw[putK_of h,hr]
 simp[mtchF_refl he]
theorem finR_of{f:Fm}{u:List Int}(he:f.err=0):∃u',finR (f,u,0)=(f,u',0):=by
 unfold finR
 rw[if_neg (by simp),if_neg (by simp[he])]
 exact⟨_,rfl⟩
theorem all_inf{c:Ck}{s:Ty}{p:Pf}{x:Fm}{u:List Int}(hr:c.room 1 0=0)(hp:infP p (c.below [s])=(x,u,0))(he:(quF 4 s x).err=0):
 ∃u',infP (.mk 8 0 s [] [] [p]) c=(quF 4 s x,u',0):=by
 rw[infP_eq]
 have e:ruleR (Pf.mk 8 0 s [] [] [p]).kind (Pf.mk 8 0 s [] [] [p]).index (Pf.mk 8 0 s [] [] [p]).ty (Pf.mk 8 0 s [] [] [p]).terms (Pf.mk 8 0 s [] [] [p]).forms ((Pf.mk 8 0 s [] [] [p]).args.map infP) c=allR 8 s (infP p) c:=rfl
 rw[e]
 unfold allR
 rw[if_neg (by simp[hr]),hp,if_neg (by simp),if_pos rfl]
 exact finR_of he
theorem allE_inf{c:Ck}{s:Ty}{t:Tm}{p:Pf}{x:Fm}{u:List Int}(ht:typeOf c.tys t=(s,0))(hp:infP p c=(quF 4 s x,u,0))(h:putFErr x 0 t=0)(he:(x.put 0 t).err=0):
 ∃u',infP (.mk 9 0 (.mk 0 []) [t] [] [p]) c=(x.put 0 t,u',0):=by
 rw[infP_eq]
 have e:ruleR (Pf.mk 9 0 (.mk 0 []) [t] [] [p]).kind (Pf.mk 9 0 (.mk 0 []) [t] [] [p]).index (Pf.mk 9 0 (.mk 0 []) [t] [] [p]).ty (Pf.mk 9 0 (.mk 0 []) [t] [] [p]).terms (Pf.mk 9 0 (.mk 0 []) [t] [] [p]).forms ((Pf.mk 9 0 (.mk 0 []) [t] [] [p]).args.map infP) c=atR 9 t (infP p) c:=rfl
 rw[e]
 unfold atR
 have e1:(quF 4 s x).kind=4:=rfl
 have e2:(quF 4 s x).ty=s:=rfl
 have e3:(quF 4 s x).args.getD 0 noFm=x:=rfl
 rw[ht,hp]
 simp only[e1,e2,e3,putK_of h]
 rw[if_neg (by simp),if_neg (by simp),if_neg (by simp[kI]),if_neg (by simp)]
 exact finR_of he
theorem ind_inf{c:Ck}{F:Fm}{t:Tm}{p q:Pf}{u w:List Int}(hF:typedF (c.tys++[natT]) F=0)(ht:kTyp c t 1=0)(hr:c.room 1 1=0)
 (h0:putFErr F 0 zT=0) (e0:(F.put 0 zT).err=0) (hp:infP p c=(F.put 0 zT,u,0))
 (h1:putFErr (F.lft 1 1) 0 (sT (vT 0))=0) (e1:((F.lft 1 1).put 0 (sT (vT 0))).err=0) (hq:infP q ((c.below [natT]).with_ F)=((F.lft 1 1).put 0 (sT (vT 0)),w,0))
 (h2:putFErr F 0 t=0) (e2:(F.put 0 t).err=0):∃u',infP (.mk 16 0 (.mk 0 []) [t] [F] [p,q]) c=(F.put 0 t,u',0):=by
 rw[infP_eq]
 have e:ruleR (Pf.mk 16 0 (.mk 0 []) [t] [F] [p,q]).kind (Pf.mk 16 0 (.mk 0 []) [t] [F] [p,q]).index (Pf.mk 16 0 (.mk 0 []) [t] [F] [p,q]).ty (Pf.mk 16 0 (.mk 0 []) [t] [F] [p,q]).terms (Pf.mk 16 0 (.mk 0 []) [t] [F] [p,q]).forms ((Pf.mk 16 0 (.mk 0 []) [t] [F] [p,q]).args.map infP) c=indR F t (infP p) (infP q) c:=rfl
 rw[e]
 unfold indR
 rw[partR_of h0 hp e0,partR_of h1 hq e1,putK_of h2,if_neg (by simp[hF]),if_neg (by simp[ht]),if_neg (by simp),if_neg (by simp[hr]),if_neg (by simp)]
 exact finR_of e2
theorem list_inf{c:Ck}{F:Fm}{t:Tm}{p q:Pf}{u w:List Int}(hF:typedF (c.tys++[listT]) F=0)(ht:kTyp c t 2=0)(hr:c.room 2 1=0)
 (h0:putFErr F 0 nilM=0) (e0:(F.put 0 nilM).err=0) (hp:infP p c=(F.put 0 nilM,u,0))
 (h1:putFErr (F.lft 1 2) 0 consM=0) (e1:((F.lft 1 2).put 0 consM).err=0) (hq:infP q ((c.below [natT,listT]).with_ (F.lft 1 1))=((F.lft 1 2).put 0 consM,w,0))
 (h2:putFErr F 0 t=0) (e2:(F.put 0 t).err=0):∃u',infP (.mk 17 0 (.mk 0 []) [t] [F] [p,q]) c=(F.put 0 t,u',0):=by
 rw[infP_eq]
 have e:ruleR (Pf.mk 17 0 (.mk 0 []) [t] [F] [p,q]).kind (Pf.mk 17 0 (.mk 0 []) [t] [F] [p,q]).index (Pf.mk 17 0 (.mk 0 []) [t] [F] [p,q]).ty (Pf.mk 17 0 (.mk 0 []) [t] [F] [p,q]).terms (Pf.mk 17 0 (.mk 0 []) [t] [F] [p,q]).forms ((Pf.mk 17 0 (.mk 0 []) [t] [F] [p,q]).args.map infP) c=listR F t (infP p) (infP q) c:=rfl
 rw[e]
 unfold listR
 rw[partR_of h0 hp e0,partR_of h1 hq e1,putK_of h2,if_neg (by simp[hF]),if_neg (by simp[ht]),if_neg (by simp),if_neg (by simp[hr]),if_neg (by simp)]
 exact finR_of e2
theorem typeOf_of{c:Ck}(hc:c.ok){s:Tm}{T:Ty}(he:s.err=0)(hi:s.inf c.tys=(T,0)):typeOf c.tys s=(T,0):=by
 unfold typeOf typed
 rw[if_neg (by simp[hc.ctx]),if_neg (by simp[he]),hi]
theorem kTyp_of2{c:Ck}(hc:c.ok){s:Tm}(he:s.err=0)(hi:s.inf c.tys=(listT,0)):kTyp c s 2=0:=by
 unfold kTyp
 rw[typeOf_of hc he hi];rfl
theorem fte{g:List Ty}{f:Fm}{n:Nat}(h:Gf g f n)(hn:n≤4096):typedF g f=0:=okT_typedF h.ok (h.err hn)
def numbersP(f:Fm)(p q:Pf):Pf:= .mk 8 0 natT [] [] [.mk 16 0 (.mk 0 []) [vT 0] [f.lft 1 1] [p,.mk 9 0 (.mk 0 []) [vT 0] [] [q]]]
def listsP(f:Fm)(p q:Pf):Pf:= .mk 8 0 listT [] [] [.mk 17 0 (.mk 0 []) [vT 0] [f.lft 1 1] [p,.mk 9 0 (.mk 0 []) [vT 0] [] [.mk 9 0 (.mk 0 []) [vT 1] [] [q]]]]
theorem zT_l(g:Int→Int→Tm)(b:Int):zT.re g b=zT:=by rw[re_node (by simp[zT])];rfl
theorem nil_l(g:Int→Int→Tm)(b:Int):nilM.re g b=nilM:=by rw[re_node (by simp[nilM])];rfl
theorem lift_zero_put(f:Fm)(n:Int)(hn:0≤n):(f.lft 1 n).put 0 zT=(f.put 0 zT).lft 0 n:=by
 have h:=flift_put f zT n hn
 rw[zT_l] at h;exact h
theorem lift_nil_put(f:Fm)(n:Int)(hn:0≤n):(f.lft 1 n).put 0 nilM=(f.put 0 nilM).lft 0 n:=by
 have h:=flift_put f nilM n hn
 rw[nil_l] at h;exact h
theorem numbers_inf{c:Ck}(hc:c.ok)(hl:c.tys.length+2≤16)(hh:c.hyps.length+1≤16){f:Fm}{n:Nat}(hf:Gf (c.tys++[natT]) f n)(hn:n≤1000){p q:Pf}{u w:List Int}
 (hp:infP p (c.below [natT])=((f.put 0 zT).lft 0 1,u,0))
 (hq:infP q (((c.below [natT]).below [natT]).with_ (f.lft 1 1))=((quF 4 natT ((f.lft 1 1).put 0 (sT (vT 0)))).lft 0 2,w,0)):
 ∃u',infP (numbersP f p q) c=(quF 4 natT f,u',0):=by
 have hc1:(c.below [natT]).ok:=hc.below (by simp;omega) (by simp[nat_err])
 have t1:(c.below [natT]).tys=c.tys++[natT]:=rfl
 have hF:Gf (c.tys++[natT]++[natT]) (f.lft 1 1) n:=hf.lft (h:=[natT]) [natT]
 have hF2:Gf (c.tys++[natT]++[natT]++[natT]) ((f.lft 1 1).lft 1 1) n:=Gf.lft (h:=[natT]) [natT] hF
 obtain⟨a0,b0⟩:=hF.put (Gt.zero _) (by omega) (by omega) (by simp;omega)
 obtain⟨a1,b1⟩:=hF2.put (Gt.suc0 _) (by omega) (by omega) (by simp;omega)
 obtain⟨a2,b2⟩:=hF.put (Gt.v0 c.tys natT) (by omega) (by omega) (by simp;omega)
 have hc2:(((c.below [natT]).below [natT]).with_ (f.lft 1 1)).ok:=(hc1.below (by simp[Ck.below];omega) (by simp[nat_err])).with_ (by simp[Ck.below];omega) (hF.err (by omega)) hF.ok
 have hv:Gt (c.tys++[natT]++[natT]) (vT 0) natT 1:=Gt.v0 _ natT
 have hx:((f.lft 1 1).put 0 (sT (vT 0))).lft 1 2=((f.lft 1 1).put 0 (sT (vT 0))).lft (([natT]:List Ty).length:Nat) (([natT,natT]:List Ty).length:Nat):=rfl
 have hN1:Gf (c.tys++[natT]++[natT]) (f.lft 1 1) n:=hF
 obtain⟨_,bn⟩:=hN1.put (Gt.suc0 c.tys) (by omega) (by omega) (by simp;omega)
 have hL:Gf (c.tys++[natT,natT]++[natT]) (((f.lft 1 1).put 0 (sT (vT 0))).lft 1 2) (n*2):=Gf.lft (h:=[natT]) [natT,natT] bn
 have hL':Gf (c.tys++[natT]++[natT]++[natT]) (((f.lft 1 1).put 0 (sT (vT 0))).lft 1 2) (n*2):=by simpa using hL
 obtain⟨a3,b3⟩:=hL'.put hv (by omega) (by omega) (by simp;omega)
 rw[lft_qu,if_pos (by decide)] at hq
 obtain⟨w',hq'⟩:=allE_inf (t:=vT 0) (typeOf_of hc2 (by decide) hv.inf) hq a3 (b3.err (by omega))
 have e3:(((f.lft 1 1).put 0 (sT (vT 0))).lft (0+1) 2).put 0 (vT 0)=((f.lft 1 1).lft 1 1).put 0 (sT (vT 0)):=step_nat f
 rw[e3] at hq'
 rw[←lift_zero_put f 1 (by omega)] at hp
 obtain⟨u1,hi⟩:=ind_inf (c:=c.below [natT]) (F:=f.lft 1 1) (t:=vT 0) (fte hF (by omega)) (kTyp_of hc1 (by decide) (Gt.v0 c.tys natT).inf) (room_of (by simp[Ck.below];omega) (by simp[Ck.below];omega)) a0 (b0.err (by omega)) hp a1 (b1.err (by omega)) hq' a2 (b2.err (by omega))
 rw[fput_v0 hf.sh] at hi
 exact all_inf (room_of (by omega) (by omega)) hi ((hf.qu 4 (by omega) nat_err).err (by omega))
theorem lists_inf{c:Ck}(hc:c.ok)(hl:c.tys.length+3≤16)(hh:c.hyps.length+1≤16){f:Fm}{n:Nat}(hf:Gf (c.tys++[listT]) f n)(hn:n≤1000){p q:Pf}{u w:List Int}
 (hp:infP p (c.below [listT])=((f.put 0 nilM).lft 0 1,u,0))
 (hq:infP q (((c.below [listT]).below [natT,listT]).with_ ((f.lft 1 1).lft 1 1))=((quF 4 natT (quF 4 listT ((f.lft 1 2).put 0 consM))).lft 0 3,w,0)):
 ∃u',infP (listsP f p q) c=(quF 4 listT f,u',0):=by
 have hc1:(c.below [listT]).ok:=hc.below (by simp;omega) (by simp[list_err])
 have hF:Gf (c.tys++[listT]++[listT]) (f.lft 1 1) n:=hf.lft (h:=[listT]) [listT]
 have hF2:Gf (c.tys++[listT]++[natT,listT]++[listT]) ((f.lft 1 1).lft 1 2) n:=Gf.lft (h:=[listT]) [natT,listT] hF
 obtain⟨a0,b0⟩:=hF.put (Gt.nil _) (by omega) (by omega) (by simp;omega)
 obtain⟨a1,b1⟩:=hF2.put (Gt.cons _) (by omega) (by omega) (by simp;omega)
 obtain⟨a2,b2⟩:=hF.put (Gt.v0 c.tys listT) (by omega) (by omega) (by simp;omega)
 have hF3:Gf (c.tys++[listT]++[natT,listT]) ((f.lft 1 1).lft 1 1) n:=by
  have:=Gf.lft (h:=[listT]) [natT] hF
  simpa using this
 have hc2:(((c.below [listT]).below [natT,listT]).with_ ((f.lft 1 1).lft 1 1)).ok:=(hc1.below (by simp[Ck.below];omega) (by simp[nat_err,list_err])).with_ (by simp[Ck.below];omega) (hF3.err (by omega)) hF3.ok
 have hG:Gf (c.tys++[natT,listT]++[listT]) (f.lft 1 2) n:=hf.lft (h:=[listT]) [natT,listT]
 obtain⟨_,bn⟩:=hG.put (Gt.cons c.tys) (by omega) (by omega) (by simp;omega)
 have hL:Gf (c.tys++[listT,natT,listT]++[natT,listT]) (((f.lft 1 2).put 0 consM).lft 2 3) (n*3):=Gf.lft (h:=[natT,listT]) [listT,natT,listT] bn
 have hL':Gf (c.tys++[listT]++[natT,listT]++[natT]++[listT]) (((f.lft 1 2).put 0 consM).lft 2 3) (n*3):=by simpa using hL
 have hq1:Gf (c.tys++[listT]++[natT,listT]++[natT]) (quF 4 listT (((f.lft 1 2).put 0 consM).lft 2 3)) (n*3+1):=hL'.qu 4 (by omega) list_err
 have v1:Gt (c.tys++[listT]++[natT,listT]) (vT 1) natT 1:=Gt.v1 _ natT listT
 have v0:Gt (c.tys++[listT]++[natT,listT]) (vT 0) listT 1:=by
  have:=Gt.v0 (c.tys++[listT]++[natT]) listT
  simpa using this
 obtain⟨a3,b3⟩:=hq1.put v1 (by omega) (by omega) (by simp;omega)
 have e1:((quF 4 natT (quF 4 listT ((f.lft 1 2).put 0 consM))).lft 0 3)=quF 4 natT (quF 4 listT (((f.lft 1 2).put 0 consM).lft 2 3)):=by
  rw[lft_qu,if_pos (by decide),lft_qu,if_pos (by decide)];rfl
 rw[e1] at hq
 obtain⟨w1,hq1⟩:=allE_inf (t:=vT 1) (typeOf_of hc2 (by decide) v1.inf) hq a3 (b3.err (by omega))
 have e2:(quF 4 listT (((f.lft 1 2).put 0 consM).lft 2 3)).put 0 (vT 1)=quF 4 listT ((((f.lft 1 2).put 0 consM).lft 2 3).put 1 (vT 1)):=put_qu (by decide) _ _ _ _
 rw[e2] at hq1 b3
 have b3':Gf (c.tys++[listT]++[natT,listT]) (quF 4 listT ((((f.lft 1 2).put 0 consM).lft 2 3).put 1 (vT 1))) (n*3+1):=⟨b3.sh,by have:=b3.sz;omega,b3.ok⟩
 have b4:=Gf.quI 4 (by omega) b3'
 obtain⟨a5,b5⟩:=b4.put v0 (by omega) (by omega) (by simp;omega)
 obtain⟨w2,hq2⟩:=allE_inf (t:=vT 0) (typeOf_of hc2 (by decide) v0.inf) hq1 a5 (b5.err (by omega))
 rw[step_list f] at hq2
 rw[←lift_nil_put f 1 (by omega)] at hp
 obtain⟨u1,hi⟩:=list_inf (c:=c.below [listT]) (F:=f.lft 1 1) (t:=vT 0) (fte hF (by omega)) (kTyp_of2 hc1 (by decide) (Gt.v0 c.tys listT).inf) (room_of (by simp[Ck.below];omega) (by simp[Ck.below];omega)) a0 (b0.err (by omega)) hp a1 (b1.err (by omega)) hq2 a2 (b2.err (by omega))
 rw[fput_v0 hf.sh] at hi
 exact all_inf (room_of (by omega) (by omega)) hi ((hf.qu 4 (by omega) list_err).err (by omega))
end Go.Ab
namespace Go.Ab
open Go
set_option linter.all false
set_option maxHeartbeats 1000000
def Dk.cf(d:Dk):Fm×Dk:=Dk.fm 2 d.sqD (d.ctx.1++[natT])
def Dk.cg(d:Dk):Fm×Dk:=Dk.fm 2 d.cf.2 (d.ctx.1++[listT])
theorem Dk.s_n(d:Dk):smalls (d.ctx.1++[natT]):=smalls_app d.ctx_smalls (smalls_cons small_nat smalls_nil)
theorem Dk.s_l(d:Dk):smalls (d.ctx.1++[listT]):=smalls_app d.ctx_smalls (smalls_cons small_list smalls_nil)
theorem Dk.cf_gf(d:Dk):Gf (d.ctx.1++[natT]) d.cf.1 487:=by
 have h:=Dk.fm_good 2 d.sqD (d.ctx.1++[natT]) d.s_n
 exact⟨h.1,by have:=h.2.1;unfold Dk.cf;omega,Dk.fm_okT 2 _ _ d.s_n⟩
theorem Dk.cg_gf(d:Dk):Gf (d.ctx.1++[listT]) d.cg.1 487:=by
 have h:=Dk.fm_good 2 d.cf.2 (d.ctx.1++[listT]) d.s_l
 exact⟨h.1,by have:=h.2.1;unfold Dk.cg;omega,Dk.fm_okT 2 _ _ d.s_l⟩
def zeroH(f:Fm):Fm:=f.put 0 zT
def nextH(f:Fm):Fm:=(f.lft 1 1).put 0 (sT (vT 0))
def noneH(f:Fm):Fm:=f.put 0 nilM
def consH(f:Fm):Fm:=(f.lft 1 2).put 0 consM
theorem Gf.zeroH{g:List Ty}{f:Fm}(h:Gf (g++[natT]) f 487)(hg:g.length≤16):putFErr f 0 zT=0∧Gf g (zeroH f) 487:=h.put (Gt.zero g) (by omega) (by omega) (by omega)
theorem Gf.nextH{g:List Ty}{f:Fm}(h:Gf (g++[natT]) f 487)(hg:g.length≤16):putFErr (f.lft 1 1) 0 (sT (vT 0))=0∧Gf (g++[natT]) (nextH f) 974:=by
 have h1:Gf (g++[natT]++[natT]) (f.lft 1 1) 487:=h.lft (h:=[natT]) [natT]
 exact h1.put (Gt.suc0 g) (by omega) (by omega) (by simp;omega)
theorem Gf.noneH{g:List Ty}{f:Fm}(h:Gf (g++[listT]) f 487)(hg:g.length≤16):putFErr f 0 nilM=0∧Gf g (noneH f) 487:=h.put (Gt.nil g) (by omega) (by omega) (by omega)
theorem Gf.consH{g:List Ty}{f:Fm}(h:Gf (g++[listT]) f 487)(hg:g.length≤16):putFErr (f.lft 1 2) 0 consM=0∧Gf (g++[natT,listT]) (consH f) 1461:=by
 have h1:Gf (g++[natT,listT]++[listT]) (f.lft 1 2) 487:=h.lft (h:=[listT]) [natT,listT]
 exact h1.put (Gt.cons g) (by omega) (by omega) (by simp;omega)
def Dk.cH(d:Dk):List Fm:=d.sqH++[zeroH d.cf.1,quF 4 natT (nextH d.cf.1),noneH d.cg.1,quF 4 natT (quF 4 listT (consH d.cg.1))]
def Dk.cC(d:Dk):Ck:=⟨[],d.ctx.1,d.cH⟩
theorem Dk.cC_ok(d:Dk):d.cC.ok:=by
 have hl:=d.ctx_len
 have h1:=(d.cf_gf.zeroH (by omega)).2
 have h2:=(d.cf_gf.nextH (by omega)).2.qu 4 (by omega) nat_err
 have h3:=(d.cg_gf.noneH (by omega)).2
 have h4':Gf (d.ctx.1++[natT]++[listT]) (consH d.cg.1) 1461:=by simpa using (d.cg_gf.consH (by omega)).2
 have h4:=(h4'.qu 4 (by omega) list_err).qu 4 (by omega) nat_err
 refine⟨d.sqC_ok.ctx,by have:=d.sqH_len;simp[Dk.cC,Dk.cH];omega,by simp[Dk.cC],fun f hf=> ?_,fun f h=>by cases h⟩
 rcases List.mem_append.1 hf with h|h
 ·exact d.sqC_ok.hyps f h
 ·simp only[List.mem_cons,List.not_mem_nil,or_false] at h
  rcases h with rfl|rfl|rfl|rfl
  ·exact ⟨h1.err (by omega),h1.ok⟩
  ·exact ⟨h2.err (by omega),h2.ok⟩
  ·exact ⟨h3.err (by omega),h3.ok⟩
  ·exact ⟨h4.err (by omega),h4.ok⟩
theorem hyp_back{c:Ck}(hc:c.ok){A B:List Fm}{f:Fm}(h:c.hyps=A++f::B){i:Int}(hi:i=B.length):infP (hypP i) c=(f,[],0):=by
 subst hi
 rw[hyp_inf hc (by rw[h];simp;omega),h]
 congr 1
 rw[getD_at (by simp)]
 simp only[List.length_append,List.length_cons]
 rw[List.getElem_append_right (by omega)]
 simp
theorem numbersP_err{f:Fm}{p q:Pf}(hs:(f.lft 1 1).shape=true)(hz:(f.lft 1 1).size≤3000)(hp:p.err=0)(hq:q.err=0)(zp:p.size≤5000)(zq:q.size≤5000):(numbersP f p q).err=0:=by
 unfold numbersP
 generalize f.lft 1 1=F at*
 have h3:=(Pf.err_iff _).1 hp
 have h4:=(Pf.err_iff _).1 hq
 have v:(vT 0).shape=true:=by decide
 have w:(vT 0).size=1:=by decide
 rw[Pf.err_iff]
 refine⟨?_,?_,?_⟩
 ·simp [Pf.shape,Pf.shapes,Pf.head,ndP,hs,h3.1,h4.1,v,Ty.isNo,Ty.kind,Ty.args]
  decide
 ·simp only[Pf.small_eq (.mk 8 _ _ _ _ _),Pf.small_eq (.mk 16 _ _ _ _ _),Pf.small_eq (.mk 9 _ _ _ _ _),Pf.terms,Pf.forms,Pf.args,List.all_cons,List.all_nil,h3.2.1,h4.2.1,w]
  simp;omega
 ·simp only[Pf.size_eq (.mk 8 _ _ _ _ _),Pf.size_eq (.mk 16 _ _ _ _ _),Pf.size_eq (.mk 9 _ _ _ _ _),Pf.terms,Pf.forms,Pf.args,List.map_cons,List.map_nil,List.sum_cons,List.sum_nil,w]
  omega
theorem listsP_err{f:Fm}{p q:Pf}(hs:(f.lft 1 1).shape=true)(hz:(f.lft 1 1).size≤3000)(hp:p.err=0)(hq:q.err=0)(zp:p.size≤5000)(zq:q.size≤5000):(listsP f p q).err=0:=by
 unfold listsP
 generalize f.lft 1 1=F at*
 have h3:=(Pf.err_iff _).1 hp
 have h4:=(Pf.err_iff _).1 hq
 have v:(vT 0).shape=true:=by decide
 have w:(vT 0).size=1:=by decide
 have v':(vT 1).shape=true:=by decide
 have w':(vT 1).size=1:=by decide
 rw[Pf.err_iff]
 refine⟨?_,?_,?_⟩
 ·simp [Pf.shape,Pf.shapes,Pf.head,ndP,hs,h3.1,h4.1,v,v',Ty.isNo,Ty.kind,Ty.args]
  decide
 ·simp only[Pf.small_eq (.mk 8 _ _ _ _ _),Pf.small_eq (.mk 17 _ _ _ _ _),Pf.small_eq (.mk 9 _ _ _ _ _),Pf.terms,Pf.forms,Pf.args,List.all_cons,List.all_nil,h3.2.1,h4.2.1,w,w']
  simp;omega
 ·simp only[Pf.size_eq (.mk 8 _ _ _ _ _),Pf.size_eq (.mk 17 _ _ _ _ _),Pf.size_eq (.mk 9 _ _ _ _ _),Pf.terms,Pf.forms,Pf.args,List.map_cons,List.map_nil,List.sum_cons,List.sum_nil,w,w']
  omega
theorem Dk.nums_acc(d:Dk):AcceptsR d.cC.lems d.cC.tys d.cC.hyps (numbersP d.cf.1 (hypP 3) (hypP 3)) (quF 4 natT d.cf.1)=0:=by
 have hl:=d.ctx_len
 have hc:=d.cC_ok
 have hcl:=d.sqH_len
 have hg:=d.cf_gf
 have hh:d.cC.hyps.length≤6:=by simp[Dk.cC,Dk.cH];omega
 have ht:d.cC.tys.length≤3:=hl
 have hF:Gf (d.ctx.1++[natT]++[natT]) (d.cf.1.lft 1 1) 487:=hg.lft (h:=[natT]) [natT]
 have hc1:(d.cC.below [natT]).ok:=hc.below (by simp;omega) (by simp[nat_err])
 have hc2:(((d.cC.below [natT]).below [natT]).with_ (d.cf.1.lft 1 1)).ok:=(hc1.below (by simp[Ck.below];omega) (by simp[nat_err])).with_ (by simp[Ck.below];omega) (hF.err (by omega)) hF.ok
 have p1:=hyp_back hc1 (i:=3) (A:=d.sqH.map fun f=>f.lft 0 1) (f:=(zeroH d.cf.1).lft 0 1) (B:=[(quF 4 natT (nextH d.cf.1)).lft 0 1,(noneH d.cg.1).lft 0 1,(quF 4 natT (quF 4 listT (consH d.cg.1))).lft 0 1]) (by simp[Ck.below,Dk.cC,Dk.cH]) rfl
 have p2:=hyp_back hc2 (i:=3) (A:=(d.sqH.map fun f=>(f.lft 0 1).lft 0 1)++[((zeroH d.cf.1).lft 0 1).lft 0 1]) (f:=((quF 4 natT (nextH d.cf.1)).lft 0 1).lft 0 1) (B:=[((noneH d.cg.1).lft 0 1).lft 0 1,((quF 4 natT (quF 4 listT (consH d.cg.1))).lft 0 1).lft 0 1,d.cf.1.lft 1 1]) (by simp[Ck.below,Ck.with_,Dk.cC,Dk.cH]) rfl
 rw[lft_lft _ _ _ _ (by omega)] at p2
 obtain⟨u,hi⟩:=numbers_inf hc (by omega) (by omega) hg (by omega) p1 p2
 have hq:=hg.qu 4 (by omega) nat_err
 have he:=numbersP_err (f:=d.cf.1) hF.sh (by have:=hF.sz;omega) (hypP_err (i:=3) (by omega)) (hypP_err (i:=3) (by omega)) (by rw[hypP_size];omega) (by rw[hypP_size];omega)
 rw[accepts_of hc he hi (hq.err (by omega)) hq.ok]
 exact mtchF_refl (hq.err (by omega))
theorem Dk.lists_acc(d:Dk):AcceptsR d.cC.lems d.cC.tys d.cC.hyps (listsP d.cg.1 (hypP 1) (hypP 1)) (quF 4 listT d.cg.1)=0:=by
 have hl:=d.ctx_len
 have hc:=d.cC_ok
 have hcl:=d.sqH_len
 have hg:=d.cg_gf
 have hh:d.cC.hyps.length≤6:=by simp[Dk.cC,Dk.cH];omega
 have ht:d.cC.tys.length≤3:=hl
 have hF:Gf (d.ctx.1++[listT]++[listT]) (d.cg.1.lft 1 1) 487:=hg.lft (h:=[listT]) [listT]
 have hF3:Gf (d.ctx.1++[listT]++[natT,listT]) ((d.cg.1.lft 1 1).lft 1 1) 487:=by
  have:=Gf.lft (h:=[listT]) [natT] hF
  simpa using this
 have hc1:(d.cC.below [listT]).ok:=hc.below (by simp;omega) (by simp[list_err])
 have hc2:(((d.cC.below [listT]).below [natT,listT]).with_ ((d.cg.1.lft 1 1).lft 1 1)).ok:=(hc1.below (by simp[Ck.below];omega) (by simp[nat_err,list_err])).with_ (by simp[Ck.below];omega) (hF3.err (by omega)) hF3.ok
 have p1:=hyp_back hc1 (i:=1) (A:=(d.sqH.map fun f=>f.lft 0 1)++[(zeroH d.cf.1).lft 0 1,(quF 4 natT (nextH d.cf.1)).lft 0 1]) (f:=(noneH d.cg.1).lft 0 1) (B:=[(quF 4 natT (quF 4 listT (consH d.cg.1))).lft 0 1]) (by simp[Ck.below,Dk.cC,Dk.cH]) rfl
 have p2:=hyp_back hc2 (i:=1) (A:=(d.sqH.map fun f=>(f.lft 0 1).lft 0 2)++[((zeroH d.cf.1).lft 0 1).lft 0 2,((quF 4 natT (nextH d.cf.1)).lft 0 1).lft 0 2,((noneH d.cg.1).lft 0 1).lft 0 2]) (f:=((quF 4 natT (quF 4 listT (consH d.cg.1))).lft 0 1).lft 0 2) (B:=[(d.cg.1.lft 1 1).lft 1 1]) (by simp[Ck.below,Ck.with_,Dk.cC,Dk.cH]) rfl
 rw[lft_lft (quF 4 natT (quF 4 listT (consH d.cg.1))) 0 1 2 (by omega)] at p2
 obtain⟨u,hi⟩:=lists_inf hc (by omega) (by omega) hg (by omega) p1 p2
 have hq:=hg.qu 4 (by omega) list_err
 have he:=listsP_err (f:=d.cg.1) hF.sh (by have:=hF.sz;omega) (hypP_err (i:=1) (by omega)) (hypP_err (i:=1) (by omega)) (by rw[hypP_size];omega) (by rw[hypP_size];omega)
 rw[accepts_of hc he hi (hq.err (by omega)) hq.ok]
 exact mtchF_refl (hq.err (by omega))
end Go.Ab
namespace Go.Ab
open Go
set_option linter.all false
mutual
def Pf.up(fr b v:Int):Pf→Pf
 | .mk k i s ts fs zs=> .mk k i s (ts.map fun t=>t.re (liftG (fr+v) b) 0) (fs.map fun f=>f.lft (fr+(v+fvK k)) b) (Pf.ups fr b v (vaK k) zs)
def Pf.ups(fr b v w:Int):List Pf→List Pf
 |[]=>[]
 |p::l=>Pf.up fr b (if l.length=0 then v+w else v) p::Pf.ups fr b v w l
end
mutual
def Pf.lh(fr b y:Int):Pf→Pf
 | .mk k i s ts fs zs=>if k=1 then .mk 1 (if i-y≥fr then i+b else i) (.mk 0 []) [] [] [] else .mk k i s ts fs (Pf.lhs fr b y (hyK k) zs)
def Pf.lhs(fr b y w:Int):List Pf→List Pf
 |[]=>[]
 |p::l=>Pf.lh fr b (if l.length=0 then y+w else y) p::Pf.lhs fr b y w l
end
theorem Pf.up_eq(fr b v:Int)(p:Pf):p.up fr b v= .mk p.kind p.index p.ty (p.terms.map fun t=>t.re (liftG (fr+v) b) 0) (p.forms.map fun f=>f.lft (fr+(v+fvK p.kind)) b) (Pf.ups fr b v (vaK p.kind) p.args):=by cases p;simp only[Pf.up];rfl
theorem Pf.lh_eq(fr b y:Int)(p:Pf):p.lh fr b y=if p.kind=1 then .mk 1 (if p.index-y≥fr then p.index+b else p.index) (.mk 0 []) [] [] [] else .mk p.kind p.index p.ty p.terms p.forms (Pf.lhs fr b y (hyK p.kind) p.args):=by cases p;simp only[Pf.lh];rfl
theorem ups_len(fr b v w:Int):∀l:List Pf,(Pf.ups fr b v w l).length=l.length
 |[]=>by simp only[Pf.ups]
 |p::l=>by simp only[Pf.ups,List.length_cons,ups_len fr b v w l]
theorem lhs_len(fr b v w:Int):∀l:List Pf,(Pf.lhs fr b v w l).length=l.length
 |[]=>by simp only[Pf.lhs]
 |p::l=>by simp only[Pf.lhs,List.length_cons,lhs_len fr b v w l]
theorem ups_get(fr b v w:Int):∀(l:List Pf) (m:Nat) (h:m<l.length) (h':m<(Pf.ups fr b v w l).length),(Pf.ups fr b v w l)[m]=l[m].up fr b (if m+1=l.length then v+w else v)
 |p::l,0,h,h'=>by
  simp only[Pf.ups,List.getElem_cons_zero,List.length_cons]
  by_cases e:l.length=0
  ·rw [if_pos e,if_pos (by omega)]
  ·rw [if_neg e,if_neg (by omega)]
 |p::l,m+1,h,h'=>by
  simp only[Pf.ups,List.getElem_cons_succ,List.length_cons,Nat.add_right_cancel_iff]
  exact ups_get fr b v w l m (by simpa using h) _
theorem lhs_get(fr b v w:Int):∀(l:List Pf) (m:Nat) (h:m<l.length) (h':m<(Pf.lhs fr b v w l).length),(Pf.lhs fr b v w l)[m]=l[m].lh fr b (if m+1=l.length then v+w else v)
 |p::l,0,h,h'=>by
  simp only[Pf.lhs,List.getElem_cons_zero,List.length_cons]
  by_cases e:l.length=0
  ·rw [if_pos e,if_pos (by omega)]
  ·rw [if_neg e,if_neg (by omega)]
 |p::l,m+1,h,h'=>by
  simp only[Pf.lhs,List.getElem_cons_succ,List.length_cons,Nat.add_right_cancel_iff]
  exact lhs_get fr b v w l m (by simpa using h) _
theorem ups_take{fr b v w:Int}{l:List Pf}{m:Nat}(h:m<l.length):(Pf.ups fr b v w l).take m++[l[m].up fr b (if m+1=l.length then v+w else v)]=(Pf.ups fr b v w l).take (m+1):=by
 rw[←ups_get fr b v w l m h (by rw[ups_len];exact h),List.take_append_getElem]
theorem lhs_take{fr b v w:Int}{l:List Pf}{m:Nat}(h:m<l.length):(Pf.lhs fr b v w l).take m++[l[m].lh fr b (if m+1=l.length then v+w else v)]=(Pf.lhs fr b v w l).take (m+1):=by
 rw[←lhs_get fr b v w l m h (by rw[lhs_len];exact h),List.take_append_getElem]
theorem ups_all{fr b v w:Int}{l:List Pf}:(Pf.ups fr b v w l).take l.length=Pf.ups fr b v w l:=by rw[←ups_len fr b v w l,List.take_length]
theorem lhs_all{fr b v w:Int}{l:List Pf}:(Pf.lhs fr b v w l).take l.length=Pf.lhs fr b v w l:=by rw[←lhs_len fr b v w l,List.take_length]
mutual
def Pf.ix(C:Int):Pf→Prop
 | .mk _ _ _ ts fs zs=>(∀t∈ts,∀p∈t.vars 0,0≤p.1∧p.1<C)∧(∀f∈fs,∀p∈f.tms 0,∀q∈p.1.vars 0,0≤q.1∧q.1<C)∧Pf.ixs C zs
def Pf.ixs(C:Int):List Pf→Prop
 |[]=>True
 |p::l=>Pf.ix C p∧Pf.ixs C l
end
theorem ixs_iff(C:Int):∀l:List Pf,Pf.ixs C l↔∀p∈l,p.ix C
 |[]=>by simp[Pf.ixs]
 |p::l=>by simp[Pf.ixs,ixs_iff C l]
theorem Pf.ix_iff(C:Int)(p:Pf):p.ix C↔(∀t∈p.terms,∀q∈t.vars 0,0≤q.1∧q.1<C)∧(∀f∈p.forms,∀q∈f.tms 0,∀r∈q.1.vars 0,0≤r.1∧r.1<C)∧∀x∈p.args,x.ix C:=by
 cases p;simp only[Pf.ix,ixs_iff];rfl
mutual
def Pf.hx(C:Int):Pf→Prop
 | .mk k i _ _ _ zs=>if k=1 then 0≤i∧i<C else Pf.hxs C zs
def Pf.hxs(C:Int):List Pf→Prop
 |[]=>True
 |p::l=>Pf.hx C p∧Pf.hxs C l
end
theorem hxs_iff(C:Int):∀l:List Pf,Pf.hxs C l↔∀p∈l,p.hx C
 |[]=>by simp[Pf.hxs]
 |p::l=>by simp[Pf.hxs,hxs_iff C l]
theorem Pf.hx_iff(C:Int)(p:Pf):p.hx C↔(p.kind=1→0≤p.index∧p.index<C)∧(p.kind≠1→∀x∈p.args,x.hx C):=by
 cases p with
 |mk k i s ts fs zs=>
  by_cases h:k=1
  ·simp [Pf.hx,h,Pf.kind,Pf.index]
  ·simp [Pf.hx,h,hxs_iff,Pf.kind,Pf.args]
theorem hyp_hx{C i:Int}(h:0≤i∧i<C):(hypP i).hx C:=by simpa [hypP,Pf.hx] using h
theorem hyp_up(fr b v i:Int):(hypP i).up fr b v=hypP i:=by simp[hypP,Pf.up,Pf.ups]
theorem hyp_lh(fr b y i:Int):(hypP i).lh fr b y=hypP (if i-y≥fr then i+b else i):=by simp[hypP,Pf.lh]
theorem hyp_ix(C i:Int):(hypP i).ix C:=by simp[hypP,Pf.ix,Pf.ixs]
end Go.Ab
