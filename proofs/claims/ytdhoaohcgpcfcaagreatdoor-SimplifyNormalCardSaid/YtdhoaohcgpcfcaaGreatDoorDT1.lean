/- A part of the proofs of this seat. No conditions. -/
import Derived.Test.YtdhoaohcgpcfcaaGreatDoorAT1
import Derived.Test.YtdhoaohcgpcfcaaGreatDoorD1
namespace Go.Ab
open Go
set_option linter.all false
def nub(acc l:List Int):List Int:=l.foldl (fun ks k=>putKs k ks) acc
def fre(l:List (Int×Int)):List Int:=l.filterMap fun p=>if p.2≤p.1 then some (p.1-p.2) else none
def useK(t:Tm):List Int:=nub [] (fre (t.vars 0))
def usesI(t:Tm):List Int:=sortI (useK t)
def shI(fr by_ v:Int):Int:=if v≥fr then v+by_ else v
def lowerErr(t:Tm)(a:Int):Int:=if t.err≠0 then t.err else if ¬(0≤a∧a≤4096) then 1 else if 0<cnt a (t.vars 0) then 6 else 0
def prevs(l:List Int):List Int:=(l.filter fun v=>decide (v≠0)).map (·-1)
def wantI(a b:List Int):List Int:=nub (nub [] (prevs a)) (if 0∈a then b else [])
def hasM(a:List Int)(m:Nat):Bool:=decide (0∈a.take m)
def wM(a:List Int)(m:Nat):List Int:=nub [] (prevs (a.take m))
def wN(a b:List Int)(h:Bool)(m:Nat):List Int:=nub (wM a a.length) (if h=true then b.take m else [])
def useKF(f:Fm):List Int:=nub [] (fre (varsL (f.tms 0)))
def usesFI(f:Fm):List Int:=sortI (useKF f)
def Fm.lft(f:Fm)(fr by_:Int):Fm:=f.re (fun b t=>t.re (liftG (fr+b) by_) 0) 0
def liftFErr(f:Fm)(fr by_:Int):Int:=if f.err≠0 then f.err else if ¬(0≤fr∧fr≤4096)∨¬(0≤by_∧by_≤4096)∨f.near=false then 1 else 0
def lowerFErr(f:Fm)(a:Int):Int:=if f.err≠0 then f.err else if ¬(0≤a∧a≤4096) then 1 else if 0<cntF a (f.tms 0) then 6 else 0
def falseF:Fm:=eqF (.mk 4 0 (.mk 0 []) []) (.mk 5 0 (.mk 0 []) [.mk 4 0 (.mk 0 []) []])
def notF(f:Fm):Fm:= .mk 3 (.mk 0 []) [] [f,falseF]
def zeroF:Fm:=eqF (.mk 1 0 (.mk 0 []) []) (.mk 4 0 (.mk 0 []) [])
def orF(a b:Fm):Fm:= .mk 5 natT [] [.mk 2 (.mk 0 []) [] [.mk 3 (.mk 0 []) [] [zeroF,a],.mk 3 (.mk 0 []) [] [.mk 3 (.mk 0 []) [] [zeroF,falseF],b]]]
def exF:Fm:= .mk 4 natT [] [.mk 1 (.mk 0 []) [vT 0,vT 1] []]
end Go.Ab
namespace Go.Ab
set_option linter.all false
theorem node_inf{k i:Int}{th T:Ty}{xs:List Tm}{g:List Ty}(k1:k≠1)(k2:k≠2)(h:(Tm.mk k i th xs).inf g=(T,0)):
 (∀x∈xs,x.inf g=((x.inf g).1,0))∧rule k th (xs.map fun x=>(x.inf g).1)=(T,0):=by
 obtain⟨h1,h2⟩:=inf_node (t:=Tm.mk k i th xs) k1 k2 h
 exact⟨fun x hx=>by rw[←h1 x hx],h2⟩
theorem rec_inf{i:Int}{th T:Ty}{x f n:Tm}{g:List Ty}(h:(Tm.mk 6 i th [x,f,n]).inf g=(T,0)):
 T=th∧x.inf g=(th,0)∧f.inf g=(funT natT (funT th th),0)∧n.inf g=(natT,0):=by
 obtain⟨h1,h2⟩:=node_inf (by decide) (by decide) h
 have hx:=h1 x (by simp)
 have hf:=h1 f (by simp)
 have hn:=h1 n (by simp)
 simp only[rule,List.map_cons,List.map_nil,at0_cons0,at0_cons1,at0_cons2,reduceIte,Int.reduceEq] at h2
 by_cases hc:¬(x.inf g).1=th∨¬(f.inf g).1=funT natT (funT th th)∨¬(n.inf g).1=natT
 ·rw [if_pos hc] at h2;cases h2
 ·rw [if_neg hc] at h2
  have e:=congrArg Prod.fst h2
  simp only[not_or,Decidable.not_not] at hc
  exact⟨e.symm,by rw[hx,hc.1],by rw[hf,hc.2.1],by rw[hn,hc.2.2]⟩
theorem fold_inf{i:Int}{th T:Ty}{x f n:Tm}{g:List Ty}(h:(Tm.mk 9 i th [x,f,n]).inf g=(T,0)):
 T=th∧x.inf g=(th,0)∧f.inf g=(funT natT (funT listT (funT th th)),0)∧n.inf g=(listT,0):=by
 obtain⟨h1,h2⟩:=node_inf (by decide) (by decide) h
 have hx:=h1 x (by simp)
 have hf:=h1 f (by simp)
 have hn:=h1 n (by simp)
 simp only[rule,List.map_cons,List.map_nil,at0_cons0,at0_cons1,at0_cons2,reduceIte,Int.reduceEq] at h2
 by_cases hc:¬(x.inf g).1=th∨¬(f.inf g).1=funT natT (funT listT (funT th th))∨¬(n.inf g).1=listT
 ·rw [if_pos hc] at h2;cases h2
 ·rw [if_neg hc] at h2
  have e:=congrArg Prod.fst h2
  simp only[not_or,Decidable.not_not] at hc
  exact⟨e.symm,by rw[hx,hc.1],by rw[hf,hc.2.1],by rw[hn,hc.2.2]⟩
theorem succ_inf{i:Int}{th T:Ty}{x:Tm}{g:List Ty}(h:(Tm.mk 5 i th [x]).inf g=(T,0)):T=natT∧x.inf g=(natT,0):=by
 obtain⟨h1,h2⟩:=node_inf (by decide) (by decide) h
 have hx:=h1 x (by simp)
 simp only[rule,List.map_cons,List.map_nil,at0_cons0,reduceIte,Int.reduceEq] at h2
 by_cases hc:¬(x.inf g).1=natT
 ·rw [if_pos hc] at h2;cases h2
 ·rw [if_neg hc] at h2
  have e:=congrArg Prod.fst h2
  exact⟨e.symm,by rw[hx,Decidable.not_not.1 hc]⟩
theorem cons_inf{i:Int}{th T:Ty}{x y:Tm}{g:List Ty}(h:(Tm.mk 8 i th [x,y]).inf g=(T,0)):T=listT∧x.inf g=(natT,0)∧y.inf g=(listT,0):=by
 obtain⟨h1,h2⟩:=node_inf (by decide) (by decide) h
 have hx:=h1 x (by simp)
 have hy:=h1 y (by simp)
 simp only[rule,List.map_cons,List.map_nil,at0_cons0,at0_cons1,reduceIte,Int.reduceEq] at h2
 by_cases hc:¬(x.inf g).1=natT∨¬(y.inf g).1=listT
 ·rw [if_pos hc] at h2;cases h2
 ·rw [if_neg hc] at h2
  have e:=congrArg Prod.fst h2
  simp only[not_or,Decidable.not_not] at hc
  exact⟨e.symm,by rw[hx,hc.1],by rw[hy,hc.2]⟩
end Go.Ab
namespace Go.Ab
set_option linter.all false
set_option maxRecDepth 10000
def noRs:Rs:= .mk 0 [] [] noTm []
abbrev EvT:=Tm→List Rs→Int→Rs×Int×Bool
abbrev ClT:=Rs→Rs→Int→Rs×Int×Bool
def argsE(ev:EvT)(env:List Rs):List Tm→Int→List Rs×Int×Bool
 |[],u=>([],u,false)
 |t::l,u=>if(ev t env u).2.2=true then([(ev t env u).1],(ev t env u).2.1,true)
  else((ev t env u).1::(argsE ev env l (ev t env u).2.1).1,(argsE ev env l (ev t env u).2.1).2)
def callE(ev:EvT):ClT:=fun f a u=>ev f.body (f.env++[a]) u
def recE(cl:ClT)(f:Rs):Nat→Rs→Int→Rs×Int×Bool
 |0,r,u=>(r,u,false)
 |k+1,r,u=>
  if(recE cl f k r u).2.2=true then recE cl f k r u
  else if(cl f (.mk k [] [] noTm []) (recE cl f k r u).2.1).2.2=true then((recE cl f k r u).1,(cl f (.mk k [] [] noTm []) (recE cl f k r u).2.1).2.1,true)
  else cl (cl f (.mk k [] [] noTm []) (recE cl f k r u).2.1).1 (recE cl f k r u).1 (cl f (.mk k [] [] noTm []) (recE cl f k r u).2.1).2.1
def foldE(cl:ClT)(f:Rs):List Int→Rs→Int→Rs×Int×Bool
 |[],r,u=>(r,u,false)
 |x::l,r,u=>
  if(foldE cl f l r u).2.2=true then foldE cl f l r u
  else if(cl f (.mk x [] [] noTm []) (foldE cl f l r u).2.1).2.2=true then((foldE cl f l r u).1,(cl f (.mk x [] [] noTm []) (foldE cl f l r u).2.1).2.1,true)
  else if(cl (cl f (.mk x [] [] noTm []) (foldE cl f l r u).2.1).1 (.mk 0 l [] noTm []) (cl f (.mk x [] [] noTm []) (foldE cl f l r u).2.1).2.1).2.2=true then
   ((foldE cl f l r u).1,(cl (cl f (.mk x [] [] noTm []) (foldE cl f l r u).2.1).1 (.mk 0 l [] noTm []) (cl f (.mk x [] [] noTm []) (foldE cl f l r u).2.1).2.1).2.1,true)
  else cl (cl (cl f (.mk x [] [] noTm []) (foldE cl f l r u).2.1).1 (.mk 0 l [] noTm []) (cl f (.mk x [] [] noTm []) (foldE cl f l r u).2.1).2.1).1 (foldE cl f l r u).1
   (cl (cl f (.mk x [] [] noTm []) (foldE cl f l r u).2.1).1 (.mk 0 l [] noTm []) (cl f (.mk x [] [] noTm []) (foldE cl f l r u).2.1).2.1).2.1
def headE(cl:ClT)(k:Int)(l:List Rs)(u:Int):Rs×Int×Bool:=
 if k=3 then cl (l.getD 0 noRs) (l.getD 1 noRs) u
 else if k=5 then(.mk ((l.getD 0 noRs).num+1) [] [] noTm [],u,false)
 else if k=6 then recE cl (l.getD 1 noRs) (l.getD 2 noRs).num.toNat (l.getD 0 noRs) u
 else if k=8 then(.mk 0 ((l.getD 0 noRs).num::(l.getD 1 noRs).list) [] noTm [],u,false)
 else if k=9 then foldE cl (l.getD 1 noRs) (l.getD 2 noRs).list (l.getD 0 noRs) u
 else if k=10 then(.mk 0 [] l noTm [],u,false)
 else if k=11 then((l.getD 0 noRs).pair.getD 0 noRs,u,false)
 else if k=12 then((l.getD 0 noRs).pair.getD 1 noRs,u,false)
 else(noRs,u,false)
def evalE(most:Int):Nat→EvT
 |0,_,_,u=>(noRs,u,true)
 |n+1,t,env,u=>
  if u=most then(noRs,u,true)
  else if t.kind=1 then(env.getD (env.length-1-t.index.toNat) noRs,u+1,false)
  else if t.kind=2 then(.mk 0 [] [] (t.arg 0) env,u+1,false)
  else if(argsE (evalE most n) env t.args (u+1)).2.2=true then(noRs,(argsE (evalE most n) env t.args (u+1)).2.1,true)
  else headE (callE (evalE most n)) t.kind (argsE (evalE most n) env t.args (u+1)).1 (argsE (evalE most n) env t.args (u+1)).2.1
def Cl(t:Tm):Prop:=t.shape=true∧∀p∈t.vars 0,p.1<p.2
theorem cl_re{c:Tm}(h:Cl c){g:Int→Int→Tm}(hg:∀i d,i<d→g i d=vT i)(b:Int)(hb:0≤b):c.re g b=c:=by
 refine re_id c b h.1 fun p hp=> ?_
 have hv:=vars_shift c 0 b
 rw[Int.zero_add] at hv
 rw[hv] at hp
 obtain⟨q,hq,rfl⟩:=List.mem_map.1 hp
 have:=h.2 q hq
 exact hg _ _ (by simp only;omega)
theorem cl_lift{c:Tm}(h:Cl c)(n b:Int)(hb:0≤b):c.re (liftG 0 n) b=c:=cl_re h (fun i d hid=>by rw[liftG_eq,if_neg (by omega)]) b hb
theorem cl_put{c:Tm}(h:Cl c)(a:Tm)(b:Int)(hb:0≤b):c.re (putG 0 a) b=c:=cl_re h (fun i d hid=>by rw[putG_eq,if_neg (by omega),if_neg (by omega)]) b hb
theorem cl_sub{c:Tm}(h:Cl c)(σ:Int→Tm)(b:Int)(hb:0≤b):c.re (subG σ) b=c:=cl_re h (fun i d hid=>if_pos hid) b hb
theorem zT_cl:Cl zT:=⟨by decide,by simp[zT,Tm.vars,Tm.varss]⟩
def envS(cs:List Tm)(j:Int):Tm:=if j.toNat<cs.length then cs.getD (cs.length-1-j.toNat) zT else zT
theorem envS_cl{cs:List Tm}(h:∀c∈cs,Cl c)(j:Int):Cl (envS cs j):=by
 unfold envS
 split
 ·rename_i hj
  rw[List.getD_eq_getElem?_getD,List.getElem?_eq_getElem (by omega)]
  exact h _ (List.getElem_mem _)
 ·exact zT_cl
theorem envS_last(cs:List Tm)(c:Tm):envS (cs++[c]) 0=c:=by
 unfold envS
 rw[if_pos (by simp)]
 simp[List.getD]
theorem envS_prev(cs:List Tm)(c:Tm)(j:Int)(hj:1≤j):envS (cs++[c]) j=envS cs (j-1):=by
 unfold envS
 by_cases h:j.toNat<(cs++[c]).length
 ·have h2:(j-1).toNat<cs.length:=by simp at h;omega
  rw[if_pos h,if_pos h2]
  have e:(cs++[c]).length-1-j.toNat=cs.length-1-(j-1).toNat:=by simp;omega
  rw[e]
  simp only[List.getD]
  rw[List.getElem?_append_left (by omega)]
 ·have h2:¬(j-1).toNat<cs.length:=by simp at h;omega
  rw[if_neg h,if_neg h2]
theorem inst_put(cs:List Tm)(ca b:Tm)(hcs:∀c∈cs,Cl c)(ha:Cl ca):(b.re (subG (envS cs)) 1).re (putG 0 ca) 0=b.re (subG (envS (cs++[ca]))) 0:=by
 rw[re_shift0 _ 1,re_re]
 refine re_congr b 0 fun p hp=> ?_
 have h2:=vars_snd b 0 p hp
 simp only[subG]
 by_cases h:p.1<p.2
 ·rw [if_pos (by omega),if_pos h,re_vT,putG_eq,if_neg (by omega),if_neg (by omega)]
 ·rw [if_neg h]
  by_cases h0:p.1=p.2
  ·rw [if_pos (by omega),re_vT,putG_eq,if_pos (by omega),h0,Int.sub_self,envS_last]
   rw[cl_lift ha _ _ (by omega),cl_lift ha _ _ (by omega)]
  ·rw [if_neg (by omega),envS_prev _ _ _ (by omega),show p.1-(p.2+1)=p.1-p.2-1 by omega]
   have hc:=envS_cl hcs (p.1-p.2-1)
   rw[cl_lift hc _ _ (by omega),cl_put hc _ _ h2,cl_lift hc _ _ (by omega)]
theorem inf_vars(t:Tm):∀(g:List Ty) (b:Int),(t.inf g).2=0→t.shape=true→∀p∈t.vars b,p.1-(p.2-b)<g.length:=by
 induction t using Tm.ind with
 |h t ih=>
  intro g b h hs p hp
  rw[Tm.inf_eq] at h
  rw[t.vars_eq,List.mem_append] at hp
  by_cases h1:t.kind=1
  ·have hargs:t.args=[]:=by
    have:=arK_len hs
    rw[h1] at this
    exact List.eq_nil_of_length_eq_zero (Option.some.inj this).symm
   rw[if_pos h1] at h hp
   simp only[hargs,List.flatMap_nil,List.not_mem_nil,or_false,List.mem_cons,or_false] at hp
   subst hp
   by_cases h2:t.index≥(g.length:Int)
   ·rw [if_pos h2] at h;exact absurd h (by simp)
   ·simp only;omega
  ·rw [if_neg h1] at h hp
   simp only[List.not_mem_nil,false_or] at hp
   obtain⟨x,hx,hp⟩:=List.mem_flatMap.1 hp
   by_cases h2:t.kind=2
   ·rw [if_pos h2] at h
    by_cases h3:(Tm.infs (g++[t.ty]) t.args).2=0
    ·have:=ih x hx (g++[t.ty]) _ (Tm.infs_all _ _ h3 x hx) (shape_args hs x hx) p hp
     have e:up t.kind b=b+1:=if_pos h2
     rw[e] at this
     simp at this;omega
    ·rw [if_pos h3] at h;exact absurd h h3
   ·rw [if_neg h2] at h
    by_cases h3:(Tm.infs g t.args).2=0
    ·have:=ih x hx g _ (Tm.infs_all _ _ h3 x hx) (shape_args hs x hx) p hp
     rw[up_ne h2] at this;exact this
    ·rw [if_pos h3] at h;exact absurd h h3
def nilT:Tm:= .mk 7 0 (.mk 0 []) []
def consT(x l:Tm):Tm:= .mk 8 0 (.mk 0 []) [x,l]
def lstT:List Int→Tm
 |[]=>nilT
 |x::l=>consT (numT x.toNat) (lstT l)
def uniT:Tm:= .mk 13 0 (.mk 0 []) []
def prT(a b:Tm):Tm:= .mk 10 0 (.mk 0 []) [a,b]
theorem node_cl{k:Int}{xs:List Tm}(hk:arK k=some xs.length)(ht:typedK k=false)(h1:k≠1)(h2:k≠2)(h:∀x∈xs,Cl x):Cl (.mk k 0 (.mk 0 []) xs):=by
 refine⟨?_,fun p hp=> ?_⟩
 ·rw [Tm.shape_eq,Bool.and_eq_true,List.all_eq_true]
  refine⟨?_,fun x hx=>(h x hx).1⟩
  simp only[Tm.head,Tm.kind_mk,Tm.args_mk,Tm.index_mk,Tm.ty_mk,hk,ht]
  simp[Ty.isNo,Ty.kind,Ty.args]
 ·rw [Tm.vars_eq,if_neg (by simpa using h1),List.nil_append] at hp
  obtain⟨x,hx,hp⟩:=List.mem_flatMap.1 hp
  rw[up_ne (by simpa using h2)] at hp
  exact(h x hx).2 p hp
theorem numT_cl:∀n,Cl (numT n)
 |0=>zT_cl
 |n+1=>node_cl (k:=5) (xs:=[numT n]) rfl rfl (by decide) (by decide) (by simpa using numT_cl n)
theorem lstT_cl:∀l,Cl (lstT l)
 |[]=>node_cl (k:=7) (xs:=[]) rfl rfl (by decide) (by decide) (by simp)
 |x::l=>node_cl (k:=8) (xs:=[numT x.toNat,lstT l]) rfl rfl (by decide) (by decide) (by
  intro y hy
  simp only[List.mem_cons,List.not_mem_nil,or_false] at hy
  rcases hy with rfl|rfl
  ·exact numT_cl _
  ·exact lstT_cl l)
theorem uniT_cl:Cl uniT:=node_cl (k:=13) (xs:=[]) rfl rfl (by decide) (by decide) (by simp)
theorem prT_cl{a b:Tm}(ha:Cl a)(hb:Cl b):Cl (prT a b):=node_cl (k:=10) (xs:=[a,b]) rfl rfl (by decide) (by decide) (by
 intro y hy
 simp only[List.mem_cons,List.not_mem_nil,or_false] at hy
 rcases hy with rfl|rfl
 ·exact ha
 ·exact hb)
inductive Rep (C:Nat):Int→Ty→Rs→Tm→Prop
 |nat {E T n l p b e} (hT:T=natT) (h:0≤n∧n≤E):Rep C E T (.mk n l p b e) (numT n.toNat)
 |list {E T n l p b e} (hT:T=listT) (h:∀x∈l,0≤x∧x≤E) (hl:(l.length:Int)≤E):Rep C E T (.mk n l p b e) (lstT l)
 |unit {E T r} (hT:T=unitT):Rep C E T r uniT
 |pair {E T a b n l ra rb bd e ca cb} (hT:T=twoT a b) (ha:Rep C E a ra ca) (hb:Rep C E b rb cb):Rep C E T (.mk n l [ra,rb] bd e) (prT ca cb)
 |fn {E T gs env cs a c b n l p} (hT:T=funT a c) (h1:env.length=gs.length) (h2:cs.length=gs.length)
  (h:∀i,i<gs.length→Rep C E (gs.getD i noTy) (env.getD i noRs) (cs.getD i zT)) (hi:b.inf (gs++[a])=(c,0)) (hs:b.shape=true) (hh:a.ok=true) (hC:gs.length+b.size+1≤C):
  Rep C E T (.mk n l p b env) (.mk 2 0 a [b.re (subG (envS cs)) 1])
theorem Rep.mono{C:Nat}{E E':Int}{T:Ty}{r:Rs}{c:Tm}(h:Rep C E T r c)(he:E≤E'):Rep C E' T r c:=by
 induction h with
 |nat hT h=>exact .nat hT ⟨h.1,by omega⟩
 |list hT h hl=>exact .list hT (fun x hx=>⟨(h x hx).1,by have:=(h x hx).2;omega⟩) (by omega)
 |unit hT=>exact .unit hT
 |pair hT _ _ iha ihb=>exact .pair hT iha ihb
 |fn hT h1 h2 _ hi hs hh hC ih=>exact .fn hT h1 h2 (fun i h=>ih i h) hi hs hh hC
structure EnvOk (C:Nat) (E:Int) (gs:List Ty) (env:List Rs) (cs:List Tm):Prop where
 l1:env.length=gs.length
 l2:cs.length=gs.length
 h:∀i,i<gs.length→Rep C E (gs.getD i noTy) (env.getD i noRs) (cs.getD i zT)
theorem EnvOk.mono{C:Nat}{E E':Int}{gs env cs}(h:EnvOk C E gs env cs)(he:E≤E'):EnvOk C E' gs env cs:=⟨h.l1,h.l2,fun i hi=>(h.h i hi).mono he⟩
theorem at_last{α:Type}(l:List α)(x d:α):(l++[x]).getD l.length d=x:=by simp[List.getD]
theorem at_prev{α:Type}(l:List α)(x d:α)(i:Nat)(h:i<l.length):(l++[x]).getD i d=l.getD i d:=by simp only[List.getD];rw[List.getElem?_append_left h]
theorem EnvOk.push{C:Nat}{E:Int}{gs env cs}{a:Ty}{r:Rs}{c:Tm}(h:EnvOk C E gs env cs)(hr:Rep C E a r c):EnvOk C E (gs++[a]) (env++[r]) (cs++[c]):=by
 refine⟨by simp[h.l1],by simp[h.l2],fun i hi=> ?_⟩
 rw[List.length_append] at hi
 by_cases hl:i<gs.length
 ·rw [at_prev _ _ _ _ hl,at_prev _ _ _ _ (by rw[h.l1];exact hl),at_prev _ _ _ _ (by rw[h.l2];exact hl)]
  exact h.h i hl
 ·have e:i=gs.length:=by simp at hi;omega
  subst e
  rw[at_last]
  have e1:=at_last env r noRs
  have e2:=at_last cs c zT
  rw[h.l1] at e1
  rw[h.l2] at e2
  rw[e1,e2];exact hr
theorem envC{cs:List Tm}{n:Nat}(h:∀i,i<n→Cl (cs.getD i zT))(hl:cs.length=n):∀c∈cs,Cl c:=by
 intro c hc
 obtain⟨i,hi,rfl⟩:=List.getElem_of_mem hc
 have:=h i (by omega)
 rwa [List.getD_eq_getElem?_getD,List.getElem?_eq_getElem hi] at this
theorem sub_cl{b:Tm}{gs:List Ty}{cs:List Tm}{d:Nat}(hb:b.shape=true)(hi:(b.inf gs).2=0)(hg:gs.length≤cs.length+d)(hc:∀c∈cs,Cl c):
 (b.re (subG (envS cs)) d).shape=true∧∀p∈(b.re (subG (envS cs)) d).vars d,p.1<p.2:=by
 have hv:=inf_vars b gs d hi hb
 refine⟨re_shape _ b d hb fun p hp=> ?_,fun p hp=> ?_⟩
 ·simp only[subG]
  split
  ·have:=Tm.vars_nonneg b hb _ p hp
   simp[vT,Tm.shape,Tm.shapes,Tm.head,arK,typedK,Ty.isNo,Ty.kind,Ty.args,this]
  ·rw [cl_lift (envS_cl hc _) _ _ (by omega)];exact(envS_cl hc _).1
 ·rw [vars_re _ _ _ hb] at hp
  obtain⟨q,hq,hp⟩:=List.mem_flatMap.1 hp
  have h1:=hv q hq
  have h2:=vars_snd b d q hq
  simp only[subG] at hp
  split at hp
  ·rw [vars_vT] at hp
   simp only[List.mem_cons,List.not_mem_nil,or_false] at hp
   subst hp;assumption
  ·rw [cl_lift (envS_cl hc _) _ _ (by omega)] at hp
   have hcl:=envS_cl hc (q.1-q.2)
   have hs:=vars_shift (envS cs (q.1-q.2)) 0 q.2
   rw[Int.zero_add] at hs
   rw[hs] at hp
   obtain⟨p',hp',rfl⟩:=List.mem_map.1 hp
   have:=hcl.2 p' hp'
   simp only;omega
theorem Rep.cl{C:Nat}{E:Int}{T:Ty}{r:Rs}{c:Tm}(h:Rep C E T r c):Cl c:=by
 induction h with
 |nat=>exact numT_cl _
 |list=>exact lstT_cl _
 |unit=>exact uniT_cl
 |pair _ _ _ iha ihb=>exact prT_cl iha ihb
 | @fn T gs env cs a c b n l p hT h1 h2 _ hi hs hh hC ih=>
   have hcs:=envC ih h2
   obtain⟨k1,k2⟩:=sub_cl (gs:=gs++[a]) (d:=1) hs (by rw[hi]) (by simp;omega) hcs
   refine⟨?_,fun p hp=> ?_⟩
   ·rw [Tm.shape_eq,Bool.and_eq_true,List.all_eq_true]
    refine⟨by simp[Tm.head,arK,typedK,hh],fun x hx=> ?_⟩
    simp only[Tm.args_mk,List.mem_cons,List.not_mem_nil,or_false] at hx
    subst hx;exact k1
   ·rw [Tm.vars_eq,if_neg (by simp),List.nil_append] at hp
    simp only[Tm.args_mk,Tm.kind_mk,List.flatMap_cons,List.flatMap_nil,List.append_nil,up,if_true] at hp
    exact k2 p (by simpa using hp)
theorem EnvOk.cl{C:Nat}{E:Int}{gs env cs}(h:EnvOk C E gs env cs):∀c∈cs,Cl c:=envC (fun i hi=>(h.h i hi).cl) h.l2
theorem pst_n1{k i:Int}{h:Ty}{x x':Tm}(hx:Pst x x'):Pst (.mk k i h [x]) (.mk k i h [x']):=by
 induction hx with
 |refl=>exact .refl _
 |step h1 _ ih=>exact .step (.node (.cons h1 .nil)) ih
theorem pst_n2{k i:Int}{h:Ty}{x x' y y':Tm}(hx:Pst x x')(hy:Pst y y'):Pst (.mk k i h [x,y]) (.mk k i h [x',y']):=by
 have a1:Pst (.mk k i h [x,y]) (.mk k i h [x',y]):=by
  induction hx with
  |refl=>exact .refl _
  |step h1 _ ih=>exact .step (.node (.cons h1 (.cons (Par.refl _) .nil))) ih
 refine a1.trans ?_
 clear a1
 induction hy with
 |refl=>exact .refl _
 |step h1 _ ih=>exact .step (.node (.cons (Par.refl _) (.cons h1 .nil))) ih
theorem pst_n3{k i:Int}{h:Ty}{x x' y y' z z':Tm}(hx:Pst x x')(hy:Pst y y')(hz:Pst z z'):Pst (.mk k i h [x,y,z]) (.mk k i h [x',y',z']):=by
 have a1:Pst (.mk k i h [x,y,z]) (.mk k i h [x',y,z]):=by
  induction hx with
  |refl=>exact .refl _
  |step h1 _ ih=>exact .step (.node (.cons h1 (.cons (Par.refl _) (.cons (Par.refl _) .nil)))) ih
 have a2:Pst (.mk k i h [x',y,z]) (.mk k i h [x',y',z]):=by
  clear a1
  induction hy with
  |refl=>exact .refl _
  |step h1 _ ih=>exact .step (.node (.cons (Par.refl _) (.cons h1 (.cons (Par.refl _) .nil)))) ih
 refine(a1.trans a2).trans ?_
 clear a1 a2
 induction hz with
 |refl=>exact .refl _
 |step h1 _ ih=>exact .step (.node (.cons (Par.refl _) (.cons (Par.refl _) (.cons h1 .nil)))) ih
theorem pst_ap{x x' y y':Tm}(hx:Pst x x')(hy:Pst y y'):Pst (apT x y) (apT x' y'):=pst_n2 hx hy
def EvOk(C:Nat)(most:Int)(ev:EvT):Prop:=∀(g:List Ty) (t:Tm) (env:List Rs) (cs:List Tm) (u E:Int) (T:Ty),t.shape=true→t.inf g=(T,0)→EnvOk C E g env cs→g.length+t.size≤C→0≤E→u≤most→
 u≤(ev t env u).2.1∧(ev t env u).2.1≤most∧((ev t env u).2.2=false→u<(ev t env u).2.1∧∃c,Rep C (E+((ev t env u).2.1-u)) T (ev t env u).1 c∧Pst (t.re (subG (envS cs)) 0) c)
def ClOk(C:Nat)(most:Int)(cl:ClT):Prop:=∀(a b:Ty) (f x:Rs) (cf cx:Tm) (u E:Int),Rep C E (funT a b) f cf→Rep C E a x cx→0≤E→u≤most→
 u≤(cl f x u).2.1∧(cl f x u).2.1≤most∧((cl f x u).2.2=false→∃c,Rep C (E+((cl f x u).2.1-u)) b (cl f x u).1 c∧Pst (apT cf cx) c)
theorem fn_inv{C:Nat}{E:Int}{T:Ty}{r:Rs}{c:Tm}(h:Rep C E T r c){a b:Ty}(hT:T=funT a b):
 ∃gs cs,EnvOk C E gs r.env cs∧r.body.inf (gs++[a])=(b,0)∧r.body.shape=true∧gs.length+r.body.size+1≤C∧c= .mk 2 0 a [r.body.re (subG (envS cs)) 1]:=by
 cases h with
 |nat h=>rw[hT] at h;cases h
 |list h=>rw[hT] at h;cases h
 |unit h=>rw[hT] at h;cases h
 |pair h=>rw[hT] at h;cases h
 |fn h h1 h2 h3 hi hs hh hC=>
  rw[hT] at h
  obtain⟨rfl,rfl⟩:a=_∧b=_:=by simpa [funT] using h
  exact⟨_,_,⟨h1,h2,h3⟩,hi,hs,hC,rfl⟩
theorem callE_ok{C:Nat}{most:Int}{ev:EvT}(hev:EvOk C most ev):ClOk C most (callE ev):=by
 intro a b f x cf cx u E hf hx hE hu
 obtain⟨gs,cs,he,hi,hs,hC,rfl⟩:=fn_inv hf rfl
 obtain⟨h1,h2,h3⟩:=hev (gs++[a]) f.body (f.env++[x]) (cs++[cx]) u E b hs hi (he.push hx) (by simp;omega) hE hu
 refine⟨h1,h2,fun h=> ?_⟩
 obtain⟨_,c,h5,h6⟩:=h3 h
 refine⟨c,h5,.step (Par.beta (Par.refl _) (Par.refl _)) ?_⟩
 rw[inst_put _ _ _ he.cl hx.cl]
 exact h6
theorem recE_ok{C:Nat}{most:Int}{cl:ClT}(hcl:ClOk C most cl){T:Ty}{f r:Rs}{cf cr:Tm}{u E:Int}(hf:Rep C E (funT natT (funT T T)) f cf)(hr:Rep C E T r cr)(hE:0≤E)(hu:u≤most):
 ∀k:Nat,(k:Int)≤E+1→u≤(recE cl f k r u).2.1∧(recE cl f k r u).2.1≤most∧((recE cl f k r u).2.2=false→∃c,Rep C (E+((recE cl f k r u).2.1-u)) T (recE cl f k r u).1 c∧Pst (.mk 6 0 T [cr,cf,numT k]) c):=by
 intro k
 induction k with
 |zero=>
  intro _
  refine⟨Int.le_refl _,hu,fun _=>⟨cr,?_,.one (Par.rz (Par.refl _))⟩⟩
  simp only[recE]
  exact hr.mono (by omega)
 |succ k ih=>
  intro hk
  obtain⟨i1,i2,i3⟩:=ih (by omega)
  simp only[recE]
  generalize recE cl f k r u=S at*
  obtain⟨s,v,o⟩:=S
  simp only at*
  cases o with
  |true=>exact⟨i1,i2,fun h=>by cases h⟩
  |false=>
   obtain⟨c1,q1,q2⟩:=i3 rfl
   have hn:Rep C (E+(v-u)) natT (.mk k [] [] noTm []) (numT (k:Int).toNat):= .nat rfl (by omega)
   obtain⟨j1,j2,j3⟩:=hcl _ _ f (.mk k [] [] noTm []) cf _ v (E+(v-u)) (hf.mono (by omega)) hn (by omega) i2
   simp only[Bool.false_eq_true,if_false]
   generalize cl f (.mk k [] [] noTm []) v=G at*
   obtain⟨gq,w,o2⟩:=G
   simp only at*
   cases o2 with
   |true=>exact⟨by simp only[if_true];omega,by simp only[if_true];exact j2,fun h=>by simp only[if_true] at h;cases h⟩
   |false=>
    obtain⟨c2,q3,q4⟩:=j3 rfl
    simp only[Bool.false_eq_true,if_false]
    obtain⟨k1,k2,k3⟩:=hcl _ _ gq s c2 c1 w (E+(w-u)) (q3.mono (by omega)) (q1.mono (by omega)) (by omega) j2
    refine⟨by omega,k2,fun h=> ?_⟩
    obtain⟨c3,q5,q6⟩:=k3 h
    refine⟨c3,q5.mono (by omega),?_⟩
    refine .step (Par.rs (i:=0) (th:=T) (j:=0) (s:= .mk 0 []) (Par.refl cr) (Par.refl cf) (Par.refl (numT k))) ?_
    refine Pst.trans (pst_ap ?_ q2) q6
    simpa using q4
theorem foldE_ok{C:Nat}{most:Int}{cl:ClT}(hcl:ClOk C most cl){T:Ty}{f r:Rs}{cf cr:Tm}{u E:Int}(hf:Rep C E (funT natT (funT listT (funT T T))) f cf)(hr:Rep C E T r cr)(hE:0≤E)(hu:u≤most):
 ∀l:List Int,(∀x∈l,0≤x∧x≤E)→(l.length:Int)≤E→u≤(foldE cl f l r u).2.1∧(foldE cl f l r u).2.1≤most∧
  ((foldE cl f l r u).2.2=false→∃c,Rep C (E+((foldE cl f l r u).2.1-u)) T (foldE cl f l r u).1 c∧Pst (.mk 9 0 T [cr,cf,lstT l]) c):=by
 intro l
 induction l with
 |nil=>
  intro _ _
  refine⟨Int.le_refl _,hu,fun _=>⟨cr,?_,.one (Par.fz (Par.refl _))⟩⟩
  simp only[foldE]
  exact hr.mono (by omega)
 |cons x l ih=>
  intro hx hl
  have hx0:=hx x (by simp)
  have hl':(l.length:Int)≤E:=by simp at hl;omega
  obtain⟨i1,i2,i3⟩:=ih (fun y hy=>hx y (by simp[hy])) hl'
  simp only[foldE]
  generalize foldE cl f l r u=S at*
  obtain⟨s,v,o⟩:=S
  simp only at*
  cases o with
  |true=>exact⟨i1,i2,fun h=>by cases h⟩
  |false=>
   obtain⟨c1,q1,q2⟩:=i3 rfl
   have hn:Rep C (E+(v-u)) natT (.mk x [] [] noTm []) (numT x.toNat):= .nat rfl (by omega)
   obtain⟨j1,j2,j3⟩:=hcl _ _ f (.mk x [] [] noTm []) cf _ v (E+(v-u)) (hf.mono (by omega)) hn (by omega) i2
   simp only[Bool.false_eq_true,if_false]
   generalize cl f (.mk x [] [] noTm []) v=G at*
   obtain⟨gq,w,o2⟩:=G
   simp only at*
   cases o2 with
   |true=>exact⟨by simp only[if_true];omega,by simp only[if_true];exact j2,fun h=>by simp only[if_true] at h;cases h⟩
   |false=>
    obtain⟨c2,q3,q4⟩:=j3 rfl
    simp only[Bool.false_eq_true,if_false]
    have hm:Rep C (E+(w-u)) listT (.mk 0 l [] noTm []) (lstT l):= .list rfl (fun y hy=>⟨(hx y (by simp[hy])).1,by have:=(hx y (by simp[hy])).2;omega⟩) (by omega)
    obtain⟨m1,m2,m3⟩:=hcl _ _ gq (.mk 0 l [] noTm []) c2 _ w (E+(w-u)) (q3.mono (by omega)) hm (by omega) j2
    generalize cl gq (.mk 0 l [] noTm []) w=H at*
    obtain⟨hq,z,o3⟩:=H
    simp only at*
    cases o3 with
    |true=>exact⟨by simp only[if_true];omega,by simp only[if_true];exact m2,fun h=>by simp only[if_true] at h;cases h⟩
    |false=>
     obtain⟨c3,q5,q6⟩:=m3 rfl
     simp only[Bool.false_eq_true,if_false]
     obtain⟨k1,k2,k3⟩:=hcl _ _ hq s c3 c1 z (E+(z-u)) (q5.mono (by omega)) (q1.mono (by omega)) (by omega) m2
     refine⟨by omega,k2,fun h=> ?_⟩
     obtain⟨c4,q7,q8⟩:=k3 h
     refine⟨c4,q7.mono (by omega),?_⟩
     refine .step (Par.fs (i:=0) (th:=T) (j:=0) (s:= .mk 0 []) (Par.refl cr) (Par.refl cf) (Par.refl (numT x.toNat)) (Par.refl (lstT l))) ?_
     exact Pst.trans (pst_ap (Pst.trans (pst_ap q4 (.refl _)) q6) q2) q8
theorem argsE_ok{C:Nat}{most:Int}{ev:EvT}(hev:EvOk C most ev){g:List Ty}{env:List Rs}{cs:List Tm}{E:Int}(he:EnvOk C E g env cs)(hE:0≤E):
 ∀(xs:List Tm) (u:Int),(∀x∈xs,x.shape=true∧(x.inf g).2=0∧g.length+x.size≤C)→u≤most→
  u≤(argsE ev env xs u).2.1∧(argsE ev env xs u).2.1≤most∧((argsE ev env xs u).2.2=false→(argsE ev env xs u).1.length=xs.length∧∃ds:List Tm,ds.length=xs.length∧
   ∀i,i<xs.length→Rep C (E+((argsE ev env xs u).2.1-u)) ((xs.getD i noTm).inf g).1 ((argsE ev env xs u).1.getD i noRs) (ds.getD i zT)∧Pst ((xs.getD i noTm).re (subG (envS cs)) 0) (ds.getD i zT)):=by
 intro xs
 induction xs with
 |nil=>intro u _ hu;exact⟨Int.le_refl _,hu,fun _=>⟨rfl,[],rfl,fun i hi=>by simp at hi⟩⟩
 |cons x l ih=>
  intro u hx hu
  obtain⟨a1,a2,a3⟩:=hx x (by simp)
  obtain⟨b1,b2,b3⟩:=hev g x env cs u E (x.inf g).1 a1 (by rw[←a2]) he a3 hE hu
  simp only[argsE]
  generalize ev x env u=R at*
  obtain⟨r,v,o⟩:=R
  simp only at*
  cases o with
  |true=>exact⟨by simp only[if_true];exact b1,by simp only[if_true];exact b2,fun h=>by simp only[if_true] at h;cases h⟩
  |false=>
   obtain⟨b4,c,b5,b6⟩:=b3 rfl
   obtain⟨c1,c2,c3⟩:=ih v (fun y hy=>hx y (by simp[hy])) b2
   simp only[Bool.false_eq_true,if_false]
   refine⟨by omega,c2,fun h=> ?_⟩
   obtain⟨c4,ds,c5,c6⟩:=c3 h
   refine⟨by simp[c4],c::ds,by simp[c5],fun i hi=> ?_⟩
   cases i with
   |zero=>exact⟨b5.mono (by omega),b6⟩
   |succ i=>
    obtain⟨d1,d2⟩:=c6 i (by simpa using hi)
    exact⟨by simpa using d1.mono (by omega),by simpa using d2⟩
theorem two_of{α:Type}{l:List α}(h:l.length=2):∃x y,l=[x,y]:=by
 match l,h with
 |[x,y],_=>exact⟨x,y,rfl⟩
theorem three_of{α:Type}{l:List α}(h:l.length=3):∃x y z,l=[x,y,z]:=by
 match l,h with
 |[x,y,z],_=>exact⟨x,y,z,rfl⟩
theorem canon{t:Tm}(hs:t.shape=true)(h1:t.kind≠1):t.index=0∧(typedK t.kind=false→t.ty= .mk 0 [])∧(typedK t.kind=true→t.ty.ok=true):=by
 rw[Tm.shape_eq,Bool.and_eq_true] at hs
 have h:=hs.1
 simp only[Tm.head,Bool.and_eq_true,Bool.or_eq_true,beq_iff_eq,decide_eq_true_eq] at h
 refine⟨by rcases h.1.2 with h|h;exact h;exact absurd h h1,fun hk=> ?_,fun hk=> ?_⟩
 ·have h2:=h.2
  rw[hk] at h2
  simp only[cond_false,Ty.isNo,Bool.and_eq_true,beq_iff_eq] at h2
  obtain⟨⟨k,as'⟩,h3,h4⟩:∃T:Ty,T=t.ty∧True:=⟨t.ty,rfl,trivial⟩
  rw[←h3] at h2 ⊢
  obtain⟨h5,h6⟩:=h2
  simp only[Ty.kind,Ty.args] at h5 h6
  rw[h5,List.eq_nil_of_length_eq_zero h6]
 ·have h2:=h.2
  rw[hk] at h2
  exact h2
theorem nat_inv{C:Nat}{E:Int}{T:Ty}{r:Rs}{c:Tm}(h:Rep C E T r c)(hT:T=natT):0≤r.num∧r.num≤E∧c=numT r.num.toNat:=by
 cases h with
 |nat h h2=>exact⟨h2.1,h2.2,rfl⟩
 |list h=>rw[hT] at h;cases h
 |unit h=>rw[hT] at h;cases h
 |pair h=>rw[hT] at h;cases h
 |fn h=>rw[hT] at h;cases h
theorem list_inv{C:Nat}{E:Int}{T:Ty}{r:Rs}{c:Tm}(h:Rep C E T r c)(hT:T=listT):(∀x∈r.list,0≤x∧x≤E)∧(r.list.length:Int)≤E∧c=lstT r.list:=by
 cases h with
 |nat h=>rw[hT] at h;cases h
 |list h h2 h3=>exact⟨h2,h3,rfl⟩
 |unit h=>rw[hT] at h;cases h
 |pair h=>rw[hT] at h;cases h
 |fn h=>rw[hT] at h;cases h
theorem pair_inv{C:Nat}{E:Int}{T:Ty}{r:Rs}{c:Tm}(h:Rep C E T r c)(hT:T.kind=3):∃a b ra rb ca cb,T=twoT a b∧r.pair=[ra,rb]∧Rep C E a ra ca∧Rep C E b rb cb∧c=prT ca cb:=by
 cases h with
 |nat h=>rw[h] at hT;cases hT
 |list h=>rw[h] at hT;cases hT
 |unit h=>rw[h] at hT;cases hT
 |pair h h2 h3=>exact⟨_,_,_,_,_,_,h,rfl,h2,h3,rfl⟩
 |fn h=>rw[h] at hT;cases hT
theorem fun_inv{C:Nat}{E:Int}{T:Ty}{r:Rs}{c:Tm}(h:Rep C E T r c)(hT:T.kind=4):∃a b,T=funT a b:=by
 cases h with
 |nat h=>rw[h] at hT;cases hT
 |list h=>rw[h] at hT;cases hT
 |unit h=>rw[h] at hT;cases hT
 |pair h=>rw[h] at hT;cases hT
 |fn h=>exact⟨_,_,h⟩
theorem app_inf{i:Int}{th T:Ty}{x y:Tm}{g:List Ty}(h:(Tm.mk 3 i th [x,y]).inf g=(T,0)):(x.inf g).1.kind=4∧at0 (x.inf g).1.args 0=(y.inf g).1∧T=at0 (x.inf g).1.args 1:=by
 obtain⟨h1,h2⟩:=node_inf (by decide) (by decide) h
 simp only[rule,List.map_cons,List.map_nil,at0_cons0,at0_cons1,reduceIte] at h2
 by_cases hc:¬(x.inf g).1.kind=4∨¬at0 (x.inf g).1.args 0=(y.inf g).1
 ·rw [if_pos hc] at h2;cases h2
 ·rw [if_neg hc] at h2
  simp only[not_or,Decidable.not_not] at hc
  exact⟨hc.1,hc.2,(congrArg Prod.fst h2).symm⟩
theorem fst_inf{i:Int}{th T:Ty}{x:Tm}{g:List Ty}(h:(Tm.mk 11 i th [x]).inf g=(T,0)):(x.inf g).1.kind=3∧T=at0 (x.inf g).1.args 0:=by
 obtain⟨h1,h2⟩:=node_inf (by decide) (by decide) h
 simp only[rule,List.map_cons,List.map_nil,at0_cons0,reduceIte,Int.reduceEq,true_or,or_true] at h2
 by_cases hc:¬(x.inf g).1.kind=3
 ·rw [if_pos hc] at h2;cases h2
 ·rw [if_neg hc] at h2
  exact⟨Decidable.not_not.1 hc,(congrArg Prod.fst h2).symm⟩
theorem snd_inf{i:Int}{th T:Ty}{x:Tm}{g:List Ty}(h:(Tm.mk 12 i th [x]).inf g=(T,0)):(x.inf g).1.kind=3∧T=at0 (x.inf g).1.args 1:=by
 obtain⟨h1,h2⟩:=node_inf (by decide) (by decide) h
 simp only[rule,List.map_cons,List.map_nil,at0_cons0,reduceIte,Int.reduceEq,true_or,or_true] at h2
 by_cases hc:¬(x.inf g).1.kind=3
 ·rw [if_pos hc] at h2;cases h2
 ·rw [if_neg hc] at h2
  exact⟨Decidable.not_not.1 hc,(congrArg Prod.fst h2).symm⟩
theorem pr_inf{i:Int}{th T:Ty}{x y:Tm}{g:List Ty}(h:(Tm.mk 10 i th [x,y]).inf g=(T,0)):T=twoT (x.inf g).1 (y.inf g).1:=by
 obtain⟨h1,h2⟩:=node_inf (by decide) (by decide) h
 simp only[rule,List.map_cons,List.map_nil,at0_cons0,at0_cons1,reduceIte,Int.reduceEq] at h2
 simp only[okT] at h2
 split at h2
 ·exact (congrArg Prod.fst h2).symm
 ·cases h2
theorem leaf_inf{k i:Int}{th T:Ty}{g:List Ty}(k1:k=4∨k=7∨k=13)(h:(Tm.mk k i th []).inf g=(T,0)):T=if k=4 then natT else if k=7 then listT else unitT:=by
 obtain⟨h1,h2⟩:=node_inf (by rcases k1 with rfl|rfl|rfl<;>decide) (by rcases k1 with rfl|rfl|rfl<;>decide) h
 rcases k1 with rfl|rfl|rfl<;>simp[rule] at h2 ⊢<;>exact h2.symm
theorem sub_node{k i:Int}{th:Ty}{xs:List Tm}(h1:k≠1)(h2:k≠2)(σ:Int→Tm):(Tm.mk k i th xs).re (subG σ) 0= .mk k i th (xs.map fun x=>x.re (subG σ) 0):=by
 rw[Tm.re_eq,if_neg (by simpa using h1)]
 simp only[Tm.kind_mk,Tm.index_mk,Tm.ty_mk,Tm.args_mk,up_ne h2]
theorem evalE_ok(C:Nat)(most:Int):∀n:Nat,EvOk C most (evalE most n):=by
 intro n
 induction n with
 |zero=>intro g t env cs u E T hs hi he hC hE hu;exact⟨Int.le_refl _,hu,fun h=>by cases h⟩
 |succ n ih=>
  intro g t env cs u E T hs hi he hC hE hu
  simp only[evalE]
  by_cases hm:u=most
  ·rw [if_pos hm];exact⟨Int.le_refl _,hu,fun h=>by cases h⟩
  rw[if_neg hm]
  by_cases k1:t.kind=1
  ·rw [if_pos k1]
   refine⟨by simp only;omega,by simp only;omega,fun _=>⟨by simp only;omega,?_⟩⟩
   have hidx:0≤t.index:=by
    rw[Tm.shape_eq,Bool.and_eq_true] at hs
    have h:=hs.1
    simp only[Tm.head,Bool.and_eq_true,decide_eq_true_eq] at h
    exact h.1.1.2
   have hti:=hi
   rw[Tm.inf_eq,if_pos k1] at hti
   by_cases hlt:t.index≥(g.length:Int)
   ·rw [if_pos hlt] at hti;cases hti
   rw[if_neg hlt] at hti
   have hT:at0 g (g.length-1-t.index.toNat)=T:=congrArg Prod.fst hti
   have hr:=he.h (g.length-1-t.index.toNat) (by omega)
   refine⟨cs.getD (g.length-1-t.index.toNat) zT,?_,?_⟩
   ·rw [←hT,he.l1]
    exact hr.mono (by simp only;omega)
   ·have hv:=var_vT hs k1
    rw[hv,re_vT]
    simp only[subG]
    rw[if_neg (by omega),Int.sub_zero,cl_lift (envS_cl he.cl _) _ _ (by omega)]
    have e:envS cs t.index=cs.getD (g.length-1-t.index.toNat) zT:=by
     unfold envS
     rw[if_pos (by rw[he.l2];omega),he.l2]
    rw[e]
    exact .refl _
  rw[if_neg k1]
  by_cases k2:t.kind=2
  ·rw [if_pos k2]
   refine⟨by simp only;omega,by simp only;omega,fun _=>⟨by simp only;omega,?_⟩⟩
   obtain⟨c1,_,c3⟩:=canon hs k1
   have c4:=c3 (by rw[k2];rfl)
   obtain⟨i,th,b,rfl,hb⟩:=mkArgs1 hs k2 rfl
   simp only[Tm.index_mk,Tm.ty_mk] at c1 c4
   subst c1
   obtain⟨h3,h4⟩:=inf_lam_inv hi
   have hsz:=(Tm.mk 2 0 th [b]).size_eq
   simp only[Tm.args_mk,List.map_cons,List.map_nil,List.sum_cons,List.sum_nil] at hsz
   refine⟨.mk 2 0 th [b.re (subG (envS cs)) 1],?_,?_⟩
   ·simp only[Tm.arg,Tm.args_mk,List.getD_cons_zero]
    exact .fn h4 he.l1 he.l2 (fun i hi=>(he.h i hi).mono (by omega)) (by rw[←h3]) hb c4 (by omega)
   ·rw [Tm.re_eq,if_neg (by simp)]
    simp only[Tm.kind_mk,Tm.index_mk,Tm.ty_mk,Tm.args_mk,List.map_cons,List.map_nil,up,if_true,Int.zero_add]
    exact .refl _
  rw[if_neg k2]
  obtain⟨i1,i2⟩:=inf_node k1 k2 hi
  have hszs:∀x∈t.args,x.size+1≤t.size:=fun x hx=>by have:=lsum_mem Tm.size hx;have:=t.size_eq;omega
  obtain⟨a1,a2,a3⟩:=argsE_ok ih he hE t.args (u+1) (fun x hx=>⟨shape_args hs x hx,i1 x hx,by have:=hszs x hx;omega⟩) (by omega)
  generalize argsE (evalE most n) env t.args (u+1)=A at*
  obtain⟨l,v,o⟩:=A
  simp only at*
  cases o with
  |true=>exact⟨by simp only[if_true];omega,by simp only[if_true];exact a2,fun h=>by simp only[if_true] at h;cases h⟩
  |false=>
   obtain⟨a4,ds,a5,a6⟩:=a3 rfl
   simp only[Bool.false_eq_true,if_false]
   have hcl:=callE_ok ih
   generalize callE (evalE most n)=cl at*
   obtain⟨c1,c2,c3⟩:=canon hs k1
   have hl:=arK_len hs
   obtain⟨k,i,th,xs⟩:=t
   simp only[Tm.kind_mk,Tm.index_mk,Tm.ty_mk,Tm.args_mk] at*
   subst c1
   have hre:=sub_node (i:=0) (th:=th) (xs:=xs) k1 k2 (envS cs)
   rcases arK_cases hl with⟨hn,hk⟩|⟨hn,hk⟩|⟨hn,hk⟩|⟨hn,hk⟩
   ·
    obtain rfl:=List.eq_nil_of_length_eq_zero hn
    obtain rfl:=List.eq_nil_of_length_eq_zero (a4.trans hn)
    rcases hk with rfl|rfl|rfl|rfl
    ·exact absurd rfl k1
    ·obtain rfl:=c2 rfl
     have hT:=leaf_inf (.inl rfl) hi
     simp only[if_true] at hT
     refine⟨by simp[headE];omega,by simp[headE];omega,fun _=>⟨by simp[headE];omega,zT,?_,?_⟩⟩
     ·simp only[headE,Int.reduceEq,if_false]
      exact .nat hT ⟨by decide,by omega⟩
     ·rw [hre];exact .refl _
    ·obtain rfl:=c2 rfl
     have hT:=leaf_inf (.inr (.inl rfl)) hi
     simp only[Int.reduceEq,if_false,if_true] at hT
     refine⟨by simp[headE];omega,by simp[headE];omega,fun _=>⟨by simp[headE];omega,nilT,?_,?_⟩⟩
     ·simp only[headE,Int.reduceEq,if_false]
      exact .list (l:=[]) hT (by simp) (by simp;omega)
     ·rw [hre];exact .refl _
    ·obtain rfl:=c2 rfl
     have hT:=leaf_inf (.inr (.inr rfl)) hi
     simp only[Int.reduceEq,if_false] at hT
     refine⟨by simp[headE];omega,by simp[headE];omega,fun _=>⟨by simp[headE];omega,uniT,?_,?_⟩⟩
     ·simp only[headE,Int.reduceEq,if_false]
      exact .unit hT
     ·rw [hre];exact .refl _
   ·
    obtain⟨x,rfl⟩:∃x,xs=[x]:=List.length_eq_one_iff.1 hn
    obtain⟨r,rfl⟩:∃r,l=[r]:=List.length_eq_one_iff.1 a4
    obtain⟨c,rfl⟩:∃c,ds=[c]:=List.length_eq_one_iff.1 a5
    obtain⟨r1,p1⟩:=a6 0 (by simp)
    simp only[List.getD_cons_zero] at r1 p1
    rcases hk with rfl|rfl|rfl|rfl
    ·exact absurd rfl k2
    ·obtain rfl:=c2 rfl
     obtain⟨hT,hx⟩:=succ_inf hi
     rw[hx] at r1
     obtain⟨n1,n2,rfl⟩:=nat_inv r1 rfl
     refine⟨by simp[headE];omega,by simp[headE];omega,fun _=>⟨by simp[headE];omega,numT (r.num+1).toNat,?_,?_⟩⟩
     ·simp only[headE,Int.reduceEq,if_false,if_true,List.getD_cons_zero]
      exact .nat hT ⟨by omega,by omega⟩
     ·rw [hre,show(r.num+1).toNat=r.num.toNat+1 by omega]
      exact pst_n1 p1
    ·obtain rfl:=c2 rfl
     obtain⟨hk3,hT⟩:=fst_inf hi
     obtain⟨a,b,ra,rb,ca,cb,e1,e2,q1,q2,rfl⟩:=pair_inv r1 hk3
     rw[e1] at hT
     refine⟨by simp[headE];omega,by simp[headE];omega,fun _=>⟨by simp[headE];omega,ca,?_,?_⟩⟩
     ·simp only[headE,Int.reduceEq,if_false,if_true,List.getD_cons_zero,e2]
      rw[hT]
      exact q1.mono (by omega)
     ·rw [hre]
      exact(pst_n1 p1).trans (.one (Par.p1 (Par.refl _)))
    ·obtain rfl:=c2 rfl
     obtain⟨hk3,hT⟩:=snd_inf hi
     obtain⟨a,b,ra,rb,ca,cb,e1,e2,q1,q2,rfl⟩:=pair_inv r1 hk3
     rw[e1] at hT
     refine⟨by simp[headE];omega,by simp[headE];omega,fun _=>⟨by simp[headE];omega,cb,?_,?_⟩⟩
     ·simp only[headE,Int.reduceEq,if_false,if_true,List.getD_cons_zero,e2,List.getD_cons_succ]
      rw[hT]
      exact q2.mono (by omega)
     ·rw [hre]
      exact(pst_n1 p1).trans (.one (Par.p2 (Par.refl _)))
   ·
    obtain⟨x,y,rfl⟩:∃x y,xs=[x,y]:=two_of hn
    obtain⟨r,s,rfl⟩:∃r s,l=[r,s]:=two_of a4
    obtain⟨c,d,rfl⟩:∃c d,ds=[c,d]:=two_of a5
    obtain⟨r1,p1⟩:=a6 0 (by simp)
    obtain⟨r2,p2⟩:=a6 1 (by simp)
    simp only[List.getD_cons_zero,List.getD_cons_succ] at r1 p1 r2 p2
    rcases hk with rfl|rfl|rfl
    ·obtain rfl:=c2 rfl
     obtain⟨h4,h5,hT⟩:=app_inf hi
     obtain⟨a,b,e1⟩:=fun_inv r1 h4
     rw[e1] at r1 h5 hT
     rw[←h5] at r2
     obtain⟨m1,m2,m3⟩:=hcl a b r s c d v (E+(v-(u+1))) r1 r2 (by omega) a2
     simp only[headE,if_true,List.getD_cons_zero,List.getD_cons_succ]
     refine⟨by omega,m2,fun h=>⟨by omega,?_⟩⟩
     obtain⟨c',q1,q2⟩:=m3 h
     refine⟨c',?_,?_⟩
     ·rw [hT];exact q1.mono (by omega)
     ·rw [hre]
      exact(pst_n2 p1 p2).trans q2
    ·obtain rfl:=c2 rfl
     obtain⟨hT,hx,hy⟩:=cons_inf hi
     rw[hx] at r1
     rw[hy] at r2
     obtain⟨n1,n2,rfl⟩:=nat_inv r1 rfl
     obtain⟨n3,n4,rfl⟩:=list_inv r2 rfl
     refine⟨by simp[headE];omega,by simp[headE];omega,fun _=>⟨by simp[headE];omega,lstT (r.num::s.list),?_,?_⟩⟩
     ·simp only[headE,Int.reduceEq,if_false,if_true,List.getD_cons_zero,List.getD_cons_succ]
      refine .list hT (fun z hz=> ?_) (by simp only[List.length_cons];omega)
      rcases List.mem_cons.1 hz with rfl|hz
      ·exact ⟨n1,by omega⟩
      ·exact ⟨(n3 z hz).1,by have:=(n3 z hz).2;omega⟩
     ·rw [hre]
      exact pst_n2 p1 p2
    ·obtain rfl:=c2 rfl
     have hT:=pr_inf hi
     refine⟨by simp[headE];omega,by simp[headE];omega,fun _=>⟨by simp[headE];omega,prT c d,?_,?_⟩⟩
     ·simp only[headE,Int.reduceEq,if_false,if_true]
      exact .pair hT (r1.mono (by omega)) (r2.mono (by omega))
     ·rw [hre]
      exact pst_n2 p1 p2
   ·
    obtain⟨x,y,z,rfl⟩:∃x y z,xs=[x,y,z]:=three_of hn
    obtain⟨r,s,w,rfl⟩:∃r s w,l=[r,s,w]:=three_of a4
    obtain⟨c,d,e,rfl⟩:∃c d e,ds=[c,d,e]:=three_of a5
    obtain⟨r1,p1⟩:=a6 0 (by simp)
    obtain⟨r2,p2⟩:=a6 1 (by simp)
    obtain⟨r3,p3⟩:=a6 2 (by simp)
    simp only[List.getD_cons_zero,List.getD_cons_succ] at r1 p1 r2 p2 r3 p3
    rcases hk with rfl|rfl
    ·obtain ⟨hT,hx,hy,hz⟩:=rec_inf hi
     rw[hx] at r1
     rw[hy] at r2
     rw[hz] at r3
     obtain⟨n1,n2,rfl⟩:=nat_inv r3 rfl
     obtain⟨m1,m2,m3⟩:=recE_ok hcl r2 r1 (u:=v) (by omega) a2 w.num.toNat (by omega)
     simp only[headE,Int.reduceEq,if_false,if_true,List.getD_cons_zero,List.getD_cons_succ]
     refine⟨by omega,m2,fun h=>⟨by omega,?_⟩⟩
     obtain⟨c',q1,q2⟩:=m3 h
     refine⟨c',?_,?_⟩
     ·rw [hT];exact q1.mono (by omega)
     ·rw [hre]
      exact(pst_n3 p1 p2 p3).trans q2
    ·obtain ⟨hT,hx,hy,hz⟩:=fold_inf hi
     rw[hx] at r1
     rw[hy] at r2
     rw[hz] at r3
     obtain⟨n1,n2,rfl⟩:=list_inv r3 rfl
     obtain⟨m1,m2,m3⟩:=foldE_ok hcl r2 r1 (u:=v) (by omega) a2 w.list n1 n2
     simp only[headE,Int.reduceEq,if_false,if_true,List.getD_cons_zero,List.getD_cons_succ]
     refine⟨by omega,m2,fun h=>⟨by omega,?_⟩⟩
     obtain⟨c',q1,q2⟩:=m3 h
     refine⟨c',?_,?_⟩
     ·rw [hT];exact q1.mono (by omega)
     ·rw [hre]
      exact(pst_n3 p1 p2 p3).trans q2
theorem numT_inj:∀{m n:Nat},numT m=numT n→m=n
 |0,0,_=>rfl
 |0,n+1,h=>by simp[numT] at h
 |m+1,0,h=>by simp[numT] at h
 |m+1,n+1,h=>by
  have:numT m=numT n:=by simpa [numT] using h
  rw[numT_inj this]
theorem lstT_inj:∀{l m:List Int},(∀x∈l,0≤x)→(∀x∈m,0≤x)→lstT l=lstT m→l=m
 |[],[],_,_,_=>rfl
 |[],y::m,_,_,h=>by simp[lstT,nilT,consT] at h
 |x::l,[],_,_,h=>by simp[lstT,nilT,consT] at h
 |x::l,y::m,hl,hm,h=>by
  have h2:numT x.toNat=numT y.toNat∧lstT l=lstT m:=by simpa [lstT,consT] using h
  have h3:=numT_inj h2.1
  have h4:=hl x (by simp)
  have h5:=hm y (by simp)
  rw[lstT_inj (fun z hz=>hl z (by simp[hz])) (fun z hz=>hm z (by simp[hz])) h2.2,show x=y by omega]
theorem pars_nf:∀{xs ys:List Tm},Pars xs ys→(∀x∈xs,nf x)→ys=xs
 |_,_,.nil,_=>rfl
 |_,_,.cons (x:=x) (xs:=xs) h hs,hn=>by rw[hn x (by simp) _ h,pars_nf hs fun z hz=>hn z (by simp[hz])]
theorem node_nf{k i:Int}{h:Ty}{xs:List Tm}(hk:k=4∨k=5∨k=7∨k=8∨k=10∨k=13)(hx:∀x∈xs,nf x):nf (.mk k i h xs):=by
 intro u hu
 generalize ht:Tm.mk k i h xs=t at hu
 cases hu with
 |node hp=>
  cases ht
  rw[pars_nf hp hx]
 |_=>cases ht;omega
theorem numT_nf:∀n,nf (numT n)
 |0=>node_nf (by decide) (by simp)
 |n+1=>node_nf (by decide) (by simpa using numT_nf n)
theorem lstT_nf:∀l,nf (lstT l)
 |[]=>node_nf (by decide) (by simp)
 |x::l=>node_nf (by decide) (by
  intro y hy
  simp only[List.mem_cons,List.not_mem_nil,or_false] at hy
  rcases hy with rfl|rfl
  ·exact numT_nf _
  ·exact lstT_nf l)
theorem uniT_nf:nf uniT:=node_nf (by decide) (by simp)
theorem prT_nf{a b:Tm}(ha:nf a)(hb:nf b):nf (prT a b):=node_nf (by decide) (by
 intro y hy
 simp only[List.mem_cons,List.not_mem_nil,or_false] at hy
 rcases hy with rfl|rfl
 ·exact ha
 ·exact hb)
def plainF:Nat→Ty→Rs→Vl
 |0,_,_=> .mk 4 0 [] []
 |n+1,t,r=>if t.kind=1 then .mk 1 r.num [] [] else if t.kind=2 then .mk 2 0 r.list []
  else if t.kind=3 then .mk 3 0 [] [plainF n (at0 t.args 0) (r.pair.getD 0 noRs),plainF n (at0 t.args 1) (r.pair.getD 1 noRs)] else .mk 4 0 [] []
def splT(T:Ty):Prop:=T=natT∨T=listT∨T=unitT
def datT(T:Ty):Prop:=splT T∨∃a b,T=twoT a b∧splT a∧splT b
theorem unit_inv{C:Nat}{E:Int}{T:Ty}{r:Rs}{c:Tm}(h:Rep C E T r c)(hT:T=unitT):c=uniT:=by
 cases h with
 |nat h=>rw[hT] at h;cases h
 |list h=>rw[hT] at h;cases h
 |unit h=>rfl
 |pair h=>rw[hT] at h;cases h
 |fn h=>rw[hT] at h;cases h
theorem sim_same{C:Nat}{E E':Int}{T:Ty}{r r':Rs}{c c':Tm}(hT:splT T)(h:Rep C E T r c)(h':Rep C E' T r' c'):nf c∧(c=c'→∀n,plainF (n+1) T r=plainF (n+1) T r'):=by
 rcases hT with hT|hT|hT
 ·obtain ⟨a1,a2,a3⟩:=nat_inv h hT
  obtain⟨b1,b2,b3⟩:=nat_inv h' hT
  refine⟨by rw[a3];exact numT_nf _,fun e n=> ?_⟩
  rw[a3,b3] at e
  have:=numT_inj e
  simp only[plainF,hT,natT,Ty.kind,if_true]
  rw[show r.num=r'.num by omega]
 ·obtain ⟨a1,a2,a3⟩:=list_inv h hT
  obtain⟨b1,b2,b3⟩:=list_inv h' hT
  refine⟨by rw[a3];exact lstT_nf _,fun e n=> ?_⟩
  rw[a3,b3] at e
  have:=lstT_inj (fun x hx=>(a1 x hx).1) (fun x hx=>(b1 x hx).1) e
  simp[plainF,hT,listT,Ty.kind,this]
 ·refine ⟨by rw[unit_inv h hT];exact uniT_nf,fun e n=> ?_⟩
  simp[plainF,hT,unitT,Ty.kind]
theorem dat_same{C:Nat}{E E':Int}{T:Ty}{r r':Rs}{c c':Tm}(hT:datT T)(h:Rep C E T r c)(h':Rep C E' T r' c'):nf c∧(c=c'→∀n,plainF (n+2) T r=plainF (n+2) T r'):=by
 rcases hT with hT|⟨a,b,hT,ha,hb⟩
 ·exact ⟨(sim_same hT h h').1,fun e n=>(sim_same hT h h').2 e (n+1)⟩
 ·obtain ⟨a1,b1,ra,rb,ca,cb,e1,e2,q1,q2,q3⟩:=pair_inv h (by rw[hT];rfl)
  obtain⟨a2,b2,ra',rb',ca',cb',e1',e2',q1',q2',q3'⟩:=pair_inv h' (by rw[hT];rfl)
  rw[hT] at e1 e1'
  obtain⟨rfl,rfl⟩:a=a1∧b=b1:=by simpa [twoT] using e1
  obtain⟨rfl,rfl⟩:a=a2∧b=b2:=by simpa [twoT] using e1'
  have s1:=sim_same ha q1 q1'
  have s2:=sim_same hb q2 q2'
  refine⟨by rw[q3];exact prT_nf s1.1 s2.1,fun e n=> ?_⟩
  rw[q3,q3'] at e
  obtain⟨f1,f2⟩:ca=ca'∧cb=cb':=by simpa [prT] using e
  have g1:=s1.2 f1 n
  have g2:=s2.2 f2 n
  rw[hT]
  rw[show plainF (n+2) (twoT a b) r= .mk 3 0 [] [plainF (n+1) a (r.pair.getD 0 noRs),plainF (n+1) b (r.pair.getD 1 noRs)] from rfl,
   show plainF (n+2) (twoT a b) r'= .mk 3 0 [] [plainF (n+1) a (r'.pair.getD 0 noRs),plainF (n+1) b (r'.pair.getD 1 noRs)] from rfl,e2,e2']
  simp only[List.getD_cons_zero,List.getD_cons_succ,g1,g2]
theorem nil_ok(C:Nat):EnvOk C 0 [] [] []:=⟨rfl,rfl,fun i hi=>by simp at hi⟩
theorem eval_same{most:Int}{n m:Nat}{t u:Tm}{T:Ty}(hm:0≤most)(ht:t.shape=true)(hi:t.inf []=(T,0))(hu:u.shape=true)(hj:u.inf []=(T,0))(hp:Pst t u)(hT:datT T)
 (h1:(evalE most n t [] 0).2.2=false) (h2:(evalE most m u [] 0).2.2=false):∀k,plainF (k+2) T (evalE most n t [] 0).1=plainF (k+2) T (evalE most m u [] 0).1:=by
 have hc:∀x:Tm,x.shape=true→x.inf []=(T,0)→x.re (subG (envS [])) 0=x:=fun x hx hi=>cl_sub ⟨hx,fun p hp=>by
  have:=inf_vars x [] 0 (by rw[hi]) hx p hp
  simp at this;omega⟩ _ _ (Int.le_refl _)
 obtain⟨_,_,a⟩:=evalE_ok (t.size+u.size) most n [] t [] [] 0 0 T ht hi (nil_ok _) (by simp) (Int.le_refl _) hm
 obtain⟨_,_,b⟩:=evalE_ok (t.size+u.size) most m [] u [] [] 0 0 T hu hj (nil_ok _) (by simp) (Int.le_refl _) hm
 obtain⟨_,c,r1,p1⟩:=a h1
 obtain⟨_,d,r2,p2⟩:=b h2
 rw[hc t ht hi] at p1
 rw[hc u hu hj] at p2
 have n1:=(dat_same hT r1 r2).1
 have n2:=(dat_same hT r2 r1).1
 exact(dat_same hT r1 r2).2 (nf_uniq n1 n2 p1 (hp.trans p2))
end Go.Ab
namespace Go.Ab
set_option linter.all false
theorem argsE_snoc{ev:EvT}{env:List Rs}:∀(xs:List Tm) (x:Tm) (u:Int),(argsE ev env xs u).2.2=false→
 argsE ev env (xs++[x]) u=((argsE ev env xs u).1++[(ev x env (argsE ev env xs u).2.1).1],(ev x env (argsE ev env xs u).2.1).2.1,(ev x env (argsE ev env xs u).2.1).2.2)
 |[],x,u,_=>by
  simp only[List.nil_append,argsE]
  cases h:(ev x env u).2.2<;>simp
 |t::l,x,u,h=>by
  simp only[List.cons_append,argsE] at h ⊢
  cases h1:(ev t env u).2.2 with
  |true=>rw[h1] at h;simp at h
  |false=>
   rw[h1] at h
   simp only[Bool.false_eq_true,if_false] at h ⊢
   rw[argsE_snoc l x _ h]
   simp
theorem argsE_out{ev:EvT}{env:List Rs}(ys:List Tm):∀(xs:List Tm) (u:Int),(argsE ev env xs u).2.2=true→(argsE ev env (xs++ys) u).2=(argsE ev env xs u).2
 |[],u,h=>by simp[argsE] at h
 |t::l,u,h=>by
  simp only[List.cons_append,argsE] at h ⊢
  cases h1:(ev t env u).2.2 with
  |true=>simp
  |false=>
   rw[h1] at h
   simp only[Bool.false_eq_true,if_false] at h ⊢
   exact argsE_out ys l _ h
theorem recE_out{cl:ClT}{f r:Rs}{u:Int}{k:Nat}(h:(recE cl f k r u).2.2=true):∀j,recE cl f (k+j) r u=recE cl f k r u
 |0=>rfl
 |j+1=>by
  rw[show k+(j+1)=(k+j)+1 from rfl]
  simp only[recE]
  rw[recE_out h j,if_pos h]
theorem foldE_out{cl:ClT}{f r:Rs}{u:Int}{l:List Int}(h:(foldE cl f l r u).2.2=true):∀m:List Int,foldE cl f (m++l) r u=foldE cl f l r u
 |[]=>rfl
 |x::m=>by
  simp only[List.cons_append,foldE]
  rw[foldE_out h m,if_pos h]
end Go.Ab
