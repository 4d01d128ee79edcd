/- A part of this seat's proofs. No conditions. -/
import Derived.Test.YtmhcohcihajegaaGreatDoorHS22
namespace Go.Ab
open Go Go.Proofs
set_option maxRecDepth 100000
set_option maxHeartbeats 4000000
set_option linter.all false
theorem Yi9(lems hyps:List Fm)(tys:List Ty)(hl:∀f∈lems,f.full<274877906944)(hh:∀f∈hyps,f.full<274877906944)(ht:(tys.map Ty.size).sum<549755813888)(hll:lems.length<549755813888)(hhl:hyps.length<549755813888):
 PC E 39 [.s .fm lems,.agg [.s .ty tys,.s .fm hyps]] (.i (Ya0 lems tys hyps)):=by
 have h1:=Zhj tys (by omega);unfold Ya0;by_cases c1:lems.length>32
 ·rw[if_pos c1];refine M.F Tryz.func39 ?_;(repeat' first|refine M.o0 ?_|refine M.z1 3 ?_|refine M.cs ?_ ?_<;>intro h|refine M.gk ?_|fail);all_goals first
   |rfl
   |(exfalso;simp at h;omega)
   |trace_state
 rw[if_neg c1];refine M.F Tryz.func39 ?_;(repeat' first|refine M.w0 ?_|refine M.cs ?_ ?_<;>intro h|fail)
 ·exfalso;simp at h;omega
 refine M.rp lems.length (fun m=>∀j (hj:j<lems.length),j<m->y6 [] lems[j]=0)
  (fun m=>([(3,.ptr 0 0),(15,.s .fm lems),(16,.i lems.length),(17,.i m)],⟨1,[(0,.var [.s .ty tys,.s .fm hyps])]⟩))
  (fun j hj h=>by omega) (M.W rh1) ?_ ?_
 ·intro m hm hP;have hc:=Zig [] lems[m] (by have:=hl _ (List.getElem_mem hm);omega) (by simp);by_cases hx:y6 [] lems[m]=0
  ·rw[hx] at hc;refine M.w1 @hc ?_;exact⟨rfl,yj (p:=fun f=>y6 [] f=0) hm hP hx,(M.W rh1)⟩
  ·have e:=Zcj hm hP hx;rw[e,if_pos hx];(repeat' first|refine M.w1 @hc ?_|refine M.cs ?_ ?_<;>intro h|fail);all_goals first
    |rfl
    |(exfalso;rename_i h5;simp at h5;exact hx h5)
    |(exfalso;simp at h;exact hx h)
    |trace_state
 ·intro hP;rw[uk fun j hj _=>hP j hj hj,if_neg (by simp)];by_cases c2:wd tys=0;case neg=>
   rw[if_pos c2];(repeat' first|refine M.o1 @h1 ?_|refine M.z1 13 ?_|refine M.cs ?_ ?_<;>intro h|refine M.gk ?_|fail);all_goals first
    |rfl
    |(exfalso;simp at h;exact c2 h)
    |trace_state
  rw[if_neg (by simp[c2])];rw[c2] at h1;by_cases c3:hyps.length>16
  ·rw[if_pos c3];(repeat' first|refine M.o1 @h1 ?_|refine M.z1 15 ?_|refine M.cs ?_ ?_<;>intro h|refine M.gk ?_|fail);all_goals first
    |rfl
    |(exfalso;simp at h;omega)
    |trace_state
  rw[if_neg c3];(repeat' first|refine M.w1 @h1 ?_|refine M.cs ?_ ?_<;>intro h|fail)
  ·exfalso;simp at h;omega
  refine M.rp hyps.length (fun m=>∀j (hj:j<hyps.length),j<m->y6 tys hyps[j]=0)
   (fun m=>([(3,.ptr 0 0),(38,.s .fm hyps),(39,.i hyps.length),(40,.i m)],⟨1,[(0,.var [.s .ty tys,.s .fm hyps])]⟩))
   (fun j hj h=>by omega) (M.W rh1) ?_ ?_
  ·intro m hm hP2;have hc:=Zig tys hyps[m] (by have:=hh _ (List.getElem_mem hm);omega) (by omega);by_cases hx:y6 tys hyps[m]=0
   ·rw[hx] at hc;refine M.w1 @hc ?_;exact⟨rfl,yj (p:=fun f=>y6 tys f=0) hm hP2 hx,(M.W rh1)⟩
   ·have e:=Zcj hm hP2 hx;rw[e];(repeat' first|refine M.w1 @hc ?_|refine M.cs ?_ ?_<;>intro h|fail);all_goals first
     |rfl
     |(exfalso;rename_i h5;simp at h5;exact hx h5)
     |(exfalso;simp at h;exact hx h)
     |trace_state
  ·intro hP2;rw[uk fun j hj _=>hP2 j hj hj];refine M.w0 ?_
   rfl
theorem Yc9(lems hyps:List Fm)(tys:List Ty)(p:Pf)(hl:∀f∈lems,f.full<274877906944)(hh:∀f∈hyps,f.full<274877906944)(ht:(tys.map Ty.size).sum<549755813888)(hll:lems.length<549755813888)(hhl:hyps.length<549755813888)(hp:p.full<274877906944):
 PC E 14 [.s .fm lems,.agg [.s .ty tys,.s .fm hyps],.agg p.view] (Znj (Zo9 lems tys hyps p).1 (Zo9 lems tys hyps p).2.1 (Zo9 lems tys hyps p).2.2):=by
 have h1:=Yi9 lems hyps tys hl hh ht hll hhl;have h2:=Zoc p (by omega);unfold Zo9;by_cases c1:Ya0 lems tys hyps=0;case neg=>
  rw[if_pos c1];refine M.F Tryz.func14 ?_;(repeat' first|refine M.o1 @h1 ?_|refine M.z1 4 ?_|refine M.cs ?_ ?_<;>intro h|refine M.gk ?_|fail);all_goals first
   |rfl
   |(exfalso;simp at h;exact c1 h)
   |trace_state
 rw[if_neg (by simp[c1])];rw[c1] at h1;by_cases c2:p.err=0;case neg=>
  rw[if_pos c2];refine M.F Tryz.func14 ?_;(repeat' first|refine M.o2 @h1 @h2 ?_|refine M.z1 7 ?_|refine M.cs ?_ ?_<;>intro h|refine M.gk ?_|fail);all_goals first
   |rfl
   |(exfalso;simp at h;exact c2 h)
   |trace_state
 rw[if_neg (by simp[c2])];rw[c2] at h2;obtain⟨ps,pm,_⟩:=(Pf.err_iff p).1 c2;have hok:=Yg7 c1;have h3:PC E 41 [.agg [.s .fm lems,.s .ty tys,.s .fm hyps],.agg p.view] (Znj (yo p ⟨lems,tys,hyps⟩).1 (yo p ⟨lems,tys,hyps⟩).2.1 (yo p ⟨lems,tys,hyps⟩).2.2):=Yef p ps pm ⟨lems,tys,hyps⟩ hok;have hro:=Zl5 p ps ⟨lems,tys,hyps⟩ hok;generalize yo p ⟨lems,tys,hyps⟩=r at*;obtain⟨f,u,e⟩:=r;have hb:=Zvy hok hro;have h4:=uu _ f (Nat.le_refl _) (by omega);by_cases he:e=0
 ·subst he;refine M.F Tryz.func14 ?_;refine M.w4 @h1 @h2 @h3 @h4 ?_
  rfl
 ·have e1:=hro.2 he;simp only[yh,Prod.mk.injEq] at e1;obtain⟨rfl,rfl,_⟩:=e1;refine M.F Tryz.func14 ?_;(repeat' first|refine M.o3 @h1 @h2 @h3 ?_|refine M.z1 10 ?_|refine M.cs ?_ ?_<;>intro h|refine M.gk ?_|fail);all_goals first
   |rfl
   |(exfalso;simp at h;exact he h)
   |trace_state
def bdP(n:Nat):Nat:=4000000*3^n
theorem Zt0:∀n:Nat,1<=3^n
 |0=>by decide
 |n+1=>by rw[Nat.pow_succ];have:=Zt0 n;omega
theorem vm(n:Nat):4000000<=bdP n:=by unfold bdP;have:=Zt0 n;omega
theorem wi(n:Nat):bdP (n+1)=3*bdP n:=by unfold bdP;rw[Nat.pow_succ];omega
theorem Za4{n:Nat}(h:n<=4):bdP n<=400000000:=by unfold bdP;have:3^n<=3^4:=Nat.pow_le_pow_right (by omega) h;omega
theorem Zns(f:Fm)(fr by_:Int):(f.lft fr by_).full<=f.full:=Fm.re_fle (fun b t=>Tm.re_fle (fun i c=>by simp[zk,Tm.full,Tm.fulls,Ty.size,Ty.sizes]) t 0) f 0
theorem Yex(f:Fm)(h1:f.shape=true)(h2:(f.tms 0).all (fun q=>(q.1.vars 0).all fun r=>decide (0<=r.1/\r.1<10000))=true)(h3:f.full<=300000):FmI f:=
 ⟨h1,fun q hq r hr=>by simpa using List.all_eq_true.1 (List.all_eq_true.1 h2 q hq) r hr,h3⟩
theorem Ykm(d:Dk)(hd:d.ok):∃(s:Ty) (d':Dk),d'.ok/\s.small/\AC E 54 [.ptr 0 0,.i 1] ⟨1,[(0,.var d.cells)]⟩ (.agg s.view) ⟨1,[(0,.var d'.cells)]⟩:=
 ⟨_,_,Dk.type_ok 1 d hd,d.type1,Zlg 1 1 d (by omega) (by omega) (by omega) hd⟩
theorem mTy0(d:Dk)(hd:d.ok):∃(s:Ty) (d':Dk),d'.ok/\s.small/\AC E 54 [.ptr 0 0,.i 0] ⟨1,[(0,.var d.cells)]⟩ (.agg s.view) ⟨1,[(0,.var d'.cells)]⟩:=
 ⟨_,_,Dk.type_ok 0 d hd,⟨d.type0.1,by rw[d.type0.2];omega⟩,Zlg 0 0 d (by omega) (by omega) (by omega) hd⟩
theorem mNx(d:Dk)(n:Int)(hd:d.ok)(hn:0<n/\n<1099511627776):∃(i:Int) (d':Dk),d'.ok/\(0<=i/\i<n)/\AC E 12 [.ptr 0 0,.i n] ⟨1,[(0,.var d.cells)]⟩ (.i i) ⟨1,[(0,.var d'.cells)]⟩:=
 ⟨_,_,Dk.next_ok hd n,Dk.next_bd d n hn.1,Za2 d n hd hn.2⟩
theorem FmI.size{g:List Ty}{f:Fm}(hs:f.shape=true)(hz:f.size<=4500)(ho:f.okT g)(hg:g.length<=20):FmI f:=by
 have h1:=Zb2 f hs;refine⟨hs,fun q hq r hr=> ?_,by omega⟩;have:=Zy3 f g 0 hs ho q hq r hr;omega
theorem Zhf{f:Fm}(hf:f.err=0):(f.lft 0 1).shape=true/\(f.lft 0 1).size<=4096:=(Fm.err_iff _).1 (Zj7 hf (by omega))
theorem Zlp{f:Fm}{g:List Ty}(hf:f.err=0)(ho:f.okT g)(s:Ty):(f.lft 0 1).okT (g++[s]):=by
 have h:=Zdb (g:=g) (h:=[]) [s] ((Fm.err_iff f).1 hf).1 (by simpa using ho);simpa using h
theorem quI{f:Fm}{g:List Ty}{k:Int}{s:Ty}(hk:k=5\/k=7)(hs:s.small)(h1:f.shape=true)(h2:f.size<=4400)(ho:f.okT (g++[s]))(hg:g.length<=16):FmI (quF k s f):=by
 have he:=ud hs;have hq:=Gf.qu (g:=g) k (by omega) he ⟨h1,h2,ho⟩;exact FmI.size hq.sh (by have:=hq.sz;omega) hq.ok (by omega)
theorem lftI{f:Fm}{g:List Ty}(hf:f.err=0)(ho:f.okT g)(s:Ty)(hg:g.length<=16):FmI (f.lft 0 1):=
 FmI.of (g:=g++[s]) (Zj7 hf (by omega)) (Zlp hf ho s) (by simp;omega)
theorem Yfp{t:Tm}{g:List Ty}(he:t.err=0)(hi:t.inf g=(natT,0)):(t.re (zk 0 1) 0).inf (g++[natT])=(natT,0)/\(t.re (zk 0 1) 0).shape=true/\(t.re (zk 0 1) 0).size=t.size:=by
 have hs:=(Tm.err_iff t).1 he;have h1:=Zlp (f:=eqF t t) (g:=g);have h2:=Zdb (f:=eqF t t) (g:=g) (h:=[]) [natT] (Zbq hs.1 hs.1) (by simpa using eq_okT.2 ⟨hi,hi⟩);have e:(eqF t t).lft ([]:List Ty).length [natT].length=eqF (t.re (zk 0 1) 0) (t.re (zk 0 1) 0):=rfl;rw[e] at h2;have h3:=(eq_okT.1 h2).1;refine⟨by simpa using h3,?_,?_⟩
 ·exact x6 0 hs.1 (by omega)
 ·exact Zbk 0 1 t 0 hs.1
theorem Zz8{t:Tm}{g:List Ty}(he:t.err=0)(hi:t.inf g=(natT,0))(hz:t.size<=2000):(eqF (t.re (zk 0 1) 0) (vT 0)).err=0/\(eqF (t.re (zk 0 1) 0) (vT 0)).okT (g++[natT]):=by
 obtain⟨h1,h2,h3⟩:=Yfp he hi;exact⟨(Fm.err_iff _).2 ⟨Zbq h2 (Zgb 0 (by omega)),by rw[Zc7,h3];have h9:=(show(vT 0).size=1 by decide);omega⟩,eq_okT.2 ⟨h1,Yfd g natT⟩⟩
theorem Zav{lems:List Fm}{tys:List Ty}{hyps:List Fm}(hc:(Ck.mk lems tys hyps).ok):tys.length<=16/\hyps.length<=16/\lems.length<=32:=⟨hc.len,hc.nh,hc.nl⟩
end Go.Ab
