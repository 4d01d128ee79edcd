/- A part of the proofs of this seat's statements: D53, D55, D56. It has no conditions of its own. -/
import Derived.Test.YtafjchcccnpjmaaGreatDoorXA1
import Derived.Test.YtafjchcccnpjmaaGreatDoorXD1
import Derived.Test.YtafjchcccnpjmaaGreatDoorXS1
import Derived.Test.YtafjchcccnpjmaaGreatDoorDT1
namespace Go.Ab
open Go
set_option linter.all false
theorem mtF_eqn(a b x y:Tm):mtF (eqF a b) (eqF x y)=if mtchR a x 1000≠0 then mtchR a x 1000 else mtchR b y 1000:=by
 rw[mtF_eq,if_pos ⟨rfl,rfl⟩]
 simp only[eqF,Fm.terms_mk,Fm.args_mk,mtTs,mtFs]
 by_cases h1:mtchR a x 1000≠0
 ·simp only[h1,ne_eq,not_false_eq_true,if_true]
 ·by_cases h2:mtchR b y 1000≠0
  ·simp only[h1,h2,ne_eq,not_false_eq_true,if_true,if_false,not_true_eq_false]
  ·simp only[h1,h2,if_false,ne_eq,not_true_eq_false]
   rw[Decidable.not_not] at h2;exact h2.symm
def lim(e:Int):Prop:=e=0∨e=4∨e=5∨e=3
theorem accepts_lim{c:Ck}(hc:c.ok){p:Pf}{f:Fm}{e:Int}(hp:p.err=0)(he:e≠0)(hi:infP p c=noRes e):AcceptsR c.lems c.tys c.hyps p f=e:=by
 have hI:InferR c.lems c.tys c.hyps p=noRes e:=by
  unfold InferR
  rw[if_neg (by simp[seqE_of hc]),if_neg (by simp[hp])];exact hi
 unfold AcceptsR
 rw[hI]
 exact if_pos he
theorem accepts_two{c:Ck}(hc:c.ok){p:Pf}{f g:Fm}{e:Int}(hp:p.err=0)(hi:infP p c=if e≠0 then noRes e else(g,[],0))(h1:lim e)(hf:f.err=0)(hok:f.okT c.tys)(h2:lim (mtchF g f)):
 lim (AcceptsR c.lems c.tys c.hyps p f):=by
 by_cases h:e≠0
 ·rw [if_pos h] at hi;rw[accepts_lim hc hp h hi];exact h1
 ·rw [if_neg h] at hi;rw[accepts_of hc hp hi hf hok];exact h2
theorem mtchEq{g:List Ty}{a b d:Tm}(hg:g.length≤1000)(ha:NumOk g a)(hb:NumOk g b)(hd:NumOk g d)(h:Pst b d):lim (mtchF (eqF a b) (eqF a d)):=by
 unfold mtchF
 rw[if_neg (by simp[ha.eq_err hb]),if_neg (by simp[ha.eq_err hd]),mtF_eqn,mtchR_refl ha.err,if_neg (by simp)]
 rcases mtch_pst (steps:=1000) h hb.err hd.err (hb.near hg) (hd.near hg) (by omega) with h|h|h
 ·exact .inl h
 ·exact .inr (.inl h)
 ·exact .inr (.inr (.inl h))
theorem Par.two{k i:Int}{h:Ty}{a b a' b':Tm}(ha:Par a a')(hb:Par b b'):Par (.mk k i h [a,b]) (.mk k i h [a',b']):= .node (.cons ha (.cons hb .nil))
theorem shape_s{s:Tm}(h:s.shape=true):(sT s).shape=true:=shape_one' (k:=5) rfl rfl h
theorem size_s(s:Tm):(sT s).size=1+s.size:=by simp[sT,Tm.size,Tm.sizes]
theorem NumOk.suc{g:List Ty}{s:Tm}(h:NumOk g s)(hz:s.size≤800):NumOk g (sT s):=
 ⟨(Tm.err_iff _).2 ⟨shape_s h.shape,by rw[size_s];omega⟩,inf_succ h.inf,by rw[size_s];omega⟩
theorem pred_shape:predT.shape=true:=by decide
theorem pred_size:predT.size=7:=by decide
theorem NumOk.prd{g:List Ty}{s:Tm}(h:NumOk g s)(hz:s.size≤800):NumOk g (apT predT s):=
 ⟨(Tm.err_iff _).2 ⟨shape_ap pred_shape h.shape,by rw[size_ap,pred_size];omega⟩,inf_app (inf_pred g) h.inf,by rw[size_ap,pred_size];omega⟩
theorem numZ(g:List Ty):NumOk g zT:=⟨by decide,inf_zero g,by decide⟩
theorem pred_pst{s:Tm}(hs:s.shape=true):Pst (apT predT (sT s)) s:=by
 have h1:Par (apT predT (sT s)) (recT zT (lamT (lamT (vT 1))) (sT s)):=by
  have h:=Par.beta (i:=0) (th:= .mk 0 []) (j:=0) (s:= .mk 1 []) (Par.refl (recT zT (lamT (lamT (vT 1))) (vT 0))) (Par.refl (sT s))
  have e:(recT zT (lamT (lamT (vT 1))) (vT 0)).re (putG 0 (sT s)) 0=recT zT (lamT (lamT (vT 1))) ((vT 0).re (putG 0 (sT s)) 0):=rfl
  rw[e,put_v0 (shape_s hs)] at h;exact h
 have h2:Par (recT zT (lamT (lamT (vT 1))) (sT s)) (apT (apT (lamT (lamT (vT 1))) s) (recT zT (lamT (lamT (vT 1))) s)):=Par.rs (Par.refl _) (Par.refl _) (Par.refl _)
 have h3:Par (apT (apT (lamT (lamT (vT 1))) s) (recT zT (lamT (lamT (vT 1))) s)) (apT (lamT (s.re (liftG 0 1) 0)) (recT zT (lamT (lamT (vT 1))) s)):=by
  have h:=Par.beta (i:=0) (th:= .mk 0 []) (j:=0) (s:= .mk 1 []) (Par.refl (lamT (vT 1))) (Par.refl s)
  have e:(lamT (vT 1)).re (putG 0 s) 0=lamT (s.re (liftG 0 1) 0):=rfl
  rw[e] at h
  exact Par.two h (Par.refl _)
 have h4:Par (apT (lamT (s.re (liftG 0 1) 0)) (recT zT (lamT (lamT (vT 1))) s)) s:=by
  have h:=Par.beta (i:=0) (th:= .mk 0 []) (j:=0) (s:= .mk 1 []) (Par.refl (s.re (liftG 0 1) 0)) (Par.refl (recT zT (lamT (lamT (vT 1))) s))
  rw[put_l1 hs] at h;exact h
 exact .step h1 (.step h2 (.step h3 (.one h4)))
theorem either_z(t:Tm):Pst (eitherT zT t zT) zT:= .one (Par.rz (Par.refl _))
theorem either_s(n:Tm):Pst (eitherT zT (sT zT) (sT n)) (sT zT):=by
 have h2:Par (eitherT zT (sT zT) (sT n)) (apT (apT (lmT natT (lmT natT (sT zT))) n) (eitherT zT (sT zT) n)):=Par.rs (Par.refl _) (Par.refl _) (Par.refl _)
 have h3:Par (apT (apT (lmT natT (lmT natT (sT zT))) n) (eitherT zT (sT zT) n)) (apT (lmT natT (sT zT)) (eitherT zT (sT zT) n)):=
  Par.two (Par.beta (i:=0) (th:= .mk 0 []) (j:=0) (s:= .mk 1 []) (Par.refl (lmT natT (sT zT))) (Par.refl n)) (Par.refl _)
 have h4:Par (apT (lmT natT (sT zT)) (eitherT zT (sT zT) n)) (sT zT):=
  Par.beta (i:=0) (th:= .mk 0 []) (j:=0) (s:= .mk 1 []) (Par.refl (sT zT)) (Par.refl _)
 exact .step h2 (.step h3 (.one h4))
theorem either_inf{g:List Ty}{n:Tm}(h:n.inf g=(natT,0)):(eitherT zT (sT zT) n).inf g=(natT,0):=
 inf_rec (t:=natT) (inf_zero _) (inf_lam (s:=natT) (inf_lam (s:=natT) (inf_succ (inf_zero _)) rfl) rfl) h
theorem either_shape{n:Tm}(h:n.shape=true):(eitherT zT (sT zT) n).shape=true:=shape_h3 (k:=6) rfl rfl rfl (by decide) (by decide) h
theorem either_size(n:Tm):(eitherT zT (sT zT) n).size=6+n.size:=by
 have e:eitherT zT (sT zT) n= .mk 6 0 natT [zT,lmT natT (lmT natT (sT zT)),n]:=rfl
 rw[e]
 simp[lmT,sT,zT,Tm.size,Tm.sizes];omega
theorem NumOk.eit{g:List Ty}{n:Tm}(h:NumOk g n)(hz:n.size≤810):NumOk g (eitherT zT (sT zT) n):=
 ⟨(Tm.err_iff _).2 ⟨either_shape h.shape,by rw[either_size];omega⟩,either_inf h.inf,by rw[either_size];omega⟩
theorem put_eit{x:Tm}(hx:x.shape=true):(eitherT zT (sT zT) (vT 0)).re (putG 0 x) 0=eitherT zT (sT zT) x:=by
 have e:(eitherT zT (sT zT) (vT 0)).re (putG 0 x) 0=eitherT zT (sT zT) ((vT 0).re (putG 0 x) 0):=rfl
 rw[e,put_v0 hx]
theorem injP_err{g:List Ty}{s:Tm}(hs:NumOk g s){p:Pf}(hp:p.err=0)(hz:p.size≤1000):(injP s p).err=0:=by
 have zs:=hs.size
 have zl:=lift_size 0 1 s 0 hs.shape
 have e1:(eqF (s.re (liftG 0 1) 0) (apT predT (vT 0))).err=0:=eqf_err (lift_shape 0 hs.shape (by omega)) (shape_ap pred_shape (shape_vT 0 (by omega))) (by rw[zl,size_ap,pred_size,size_v];omega)
 exact substP_err e1 hp (reflP_err hs.err) (by rw[eqF_size,zl,size_ap,pred_size,size_v,reflP_size];omega)
theorem absP_err{p:Pf}(hp:p.err=0)(hz:p.size≤1000):(absurdP p).err=0:=by
 have e1:(eqF zT (eitherT zT (sT zT) (vT 0))).err=0:=by decide
 have z1:(eqF zT (eitherT zT (sT zT) (vT 0))).size≤100:=by decide
 exact substP_err e1 hp (reflP_err (by decide)) (by have:(reflP zT).size=2:=(reflP_size _).trans (by decide);omega)
theorem inj_acc{c:Ck}(hc:c.ok){s t:Tm}(hs:NumOk c.tys s)(ht:NumOk c.tys t)(zs:s.size≤300)(zt:t.size≤300){p:Pf}{u:List Int}(hpe:p.err=0)(hpz:p.size≤1000)(hp:infP p c=(eqF (sT s) (sT t),u,0)):
 lim (AcceptsR c.lems c.tys c.hyps (injP s p) (eqF s t)):=by
 have zl:=lift_size 0 1 s 0 hs.shape
 have zp:=pred_size
 have hl:=hc.len
 have h:SideOk c.tys (s.re (liftG 0 1) 0) (apT predT (vT 0)):=
  ⟨lift_shape 0 hs.shape (by omega),shape_ap pred_shape (shape_vT 0 (by omega)),lift_nat hs.shape hs.inf _,inf_app (inf_pred _) (v0_inf _ _),by rw[zl,size_ap,size_v];omega⟩
 have hcn:cnt 0 ((s.re (liftG 0 1) 0).vars 0)+cnt 0 ((apT predT (vT 0)).vars 0)=1:=by
  rw[cnt_l1 hs.shape,show cnt 0 ((apT predT (vT 0)).vars 0)=1 from by decide]
 have i:=substEq_inf hc h (hs.suc (by omega)) (ht.suc (by omega)) (by rw[hcn,zl,size_ap,size_v,size_s];omega) (by rw[hcn,zl,size_ap,size_v,size_s];omega) hp (hs.refl hc)
 have ep:∀x:Tm,predT.re (putG 0 x) 0=predT:=fun _=>rfl
 rw[put_l1 hs.shape,put_l1 hs.shape,re_ap,re_ap,ep,ep,put_v0 (shape_s hs.shape),put_v0 (shape_s ht.shape)] at i
 exact accepts_two hc (injP_err hs hpe hpz) i (mtchEq (by omega) hs ((hs.suc (by omega)).prd (by rw[size_s];omega)) hs (pred_pst hs.shape)) (hs.eq_err ht) (eq_okT.2 ⟨hs.inf,ht.inf⟩)
  (mtchEq (by omega) hs ((ht.suc (by omega)).prd (by rw[size_s];omega)) ht (pred_pst ht.shape))
theorem abs_acc{c:Ck}(hc:c.ok){n:Tm}(hn:NumOk c.tys n)(zn:n.size≤300){p:Pf}{u:List Int}(hpe:p.err=0)(hpz:p.size≤1000)(hp:infP p c=(eqF zT (sT n),u,0)):
 lim (AcceptsR c.lems c.tys c.hyps (absurdP p) (eqF zT (sT zT))):=by
 have hl:=hc.len
 have hz:=numZ c.tys
 have h:SideOk c.tys zT (eitherT zT (sT zT) (vT 0)):=⟨by decide,by decide,inf_zero _,either_inf (v0_inf _ _),by decide⟩
 have hcn:cnt 0 (zT.vars 0)+cnt 0 ((eitherT zT (sT zT) (vT 0)).vars 0)=1:=by decide
 have z0:zT.size=1:=by decide
 have i:=substEq_inf hc h hz (hn.suc (by omega)) (by rw[hcn,either_size,size_v,z0];omega) (by rw[hcn,either_size,size_v,size_s,z0];omega) hp (hz.refl hc)
 have ez:∀x:Tm,zT.re (putG 0 x) 0=zT:=fun _=>rfl
 rw[ez,ez,put_eit hz.shape,put_eit (shape_s hn.shape)] at i
 exact accepts_two hc (absP_err hpe hpz) i (mtchEq (by omega) hz (hz.eit (by omega)) hz (either_z _)) (hz.eq_err (hz.suc (by omega))) (eq_okT.2 ⟨hz.inf,(hz.suc (by omega)).inf⟩)
  (mtchEq (by omega) hz ((hn.suc (by omega)).eit (by rw[size_s];omega)) (hz.suc (by omega)) (either_s n))
def Dk.nH(d:Dk):List Fm:=d.wH++[eqF (sT d.w0.1) (sT d.w2.1),eqF zT (sT d.w1.1)]
def Dk.nC(d:Dk):Ck:=⟨[],d.ctx.1,d.nH⟩
theorem Dk.nH_ok(d:Dk):∀f∈d.nH,f.err=0∧f.okT d.ctx.1:=fun f hf=>by
 have h0:=d.n0.1.suc (by have:=d.n0.2;omega)
 have h1:=d.n1.1.suc (by have:=d.n1.2;omega)
 have h2:=d.n2.1.suc (by have:=d.n2.2;omega)
 have hz:=numZ d.ctx.1
 rcases List.mem_append.1 hf with h|h
 ·exact d.wH_ok f h
 ·simp only[List.mem_cons,List.not_mem_nil,or_false] at h
  rcases h with rfl|rfl
  ·exact ⟨h0.eq_err h2,eq_okT.2 ⟨h0.inf,h2.inf⟩⟩
  ·exact ⟨hz.eq_err h1,eq_okT.2 ⟨hz.inf,h1.inf⟩⟩
theorem Dk.nC_ok(d:Dk):d.nC.ok:=
 ⟨d.sqC_ok.ctx,by have:=d.sqH_len;simp[Dk.nC,Dk.nH,Dk.wH];omega,by simp[Dk.nC],d.nH_ok,fun f h=>by cases h⟩
theorem Dk.nhyp0(d:Dk):infP (hypP 0) d.nC=(eqF zT (sT d.w1.1),[],0):=by
 have h:=hyp_inf d.nC_ok (i:=0) (by simp[Dk.nC,Dk.nH])
 rw[show((0:Nat):Int)=0 from rfl] at h
 rw[h]
 congr 1
 have e:d.nC.hyps=(d.wH++[eqF (sT d.w0.1) (sT d.w2.1)])++[eqF zT (sT d.w1.1)]:=by simp[Dk.nC,Dk.nH]
 rw[e,getD_at (by simp)]
 simp
theorem Dk.nhyp1(d:Dk):infP (hypP 1) d.nC=(eqF (sT d.w0.1) (sT d.w2.1),[],0):=by
 have h:=hyp_inf d.nC_ok (i:=1) (by simp[Dk.nC,Dk.nH])
 rw[show((1:Nat):Int)=1 from rfl] at h
 rw[h]
 congr 1
 have e:d.nC.hyps=d.wH++[eqF (sT d.w0.1) (sT d.w2.1),eqF zT (sT d.w1.1)]:=rfl
 rw[e,getD_at (by simp)]
 simp
end Go.Ab
