/- A part of the proofs of this seat's statements: S92, S94, S93b, S93, S95, S96, S97, S102, S100, S101, S103, S124. It has no conditions of its own. -/
import Derived.Test.YtdkjbjikpofgbaaGreatDoorA2
import Derived.Test.YtdkjbjikpofgbaaGreatDoorST2
import Derived.Test.YtdkjbjikpofgbaaGreatDoorDT1
import Derived.Test.YtdkjbjikpofgbaaGreatDoorST1
import Derived.Test.YtdkjbjikpofgbaaGreatDoorS3
import Derived.Test.YtdkjbjikpofgbaaGreatDoorD1
namespace Go.Ab
open Go Go.Proofs
set_option maxRecDepth 100000
set_option maxHeartbeats 4000000
set_option linter.all false
section
variable {c:Ck} (hc:c.ok) {p q:Pf} {r0 r1:Rs}
include hc
theorem Yby{k:Int}(hk:k=10∨k=14){f:Fm}{t:Tm}(hf:f.full≤300000)(ht:t.full≤300000)
 (hpa:PC E 235 [.agg c.view,.agg p.view,.agg (f.args.getD 0 noFm).view,.agg t.view] (.tup [.s .int (yz r0 c (f.args.getD 0 noFm) t).1,.i (yz r0 c (f.args.getD 0 noFm) t).2]))
 (hua:UsesOk c.tys.length (yz r0 c (f.args.getD 0 noFm) t).1):
 PC E 207 [.agg c.view,.agg (Pf.mk k 0 (.mk 0 []) [t] [f] [p]).view] (Za8 (exR k f t r0 c)):=by
 have hl:=hc.len
 have hsum:=hc.sum
 have hul:=hua.len
 have h1:=Zfh c.tys f (by omega) (by omega)
 have h2:=Zjf c.tys t (by omega) (by omega)
 unfold exR
 generalize yz r0 c (f.args.getD 0 noFm) t=pr at*
 by_cases t0:ym c.tys f=0
 case neg=>
  rw[if_pos t0]
  refine M.F Tryz.func207 ?_
  repeat'(first|refine M.go ?_|refine M.c2 (h1) ?_|((with_reducible refine D.aw ?_);(fail_if_success with_reducible refine D.stopR (id:=5) ?_);(fail_if_success with_reducible refine D.stopS (id:=5) ?_);first|refine M.ga ?_|refine AW.condS U (fun h=> ?_) (fun h=> ?_))|refine M.gk ?_|fail)
  all_goals first
   |rfl
   |(exfalso;simp at h;exact t0 h)
 rw[if_neg (by simp[t0])]
 rw[t0] at h1
 obtain⟨fe,fo⟩:=xo t0
 have s0:=(Fm.err_iff _).1 fe
 by_cases hkd:f.kind=kI k 14 7 5
 case neg=>
  rw[if_pos hkd]
  rcases hk with rfl|rfl
  all_goals
   refine M.F Tryz.func207 ?_
   repeat'(first|refine M.go ?_|refine M.c2 (h1) ?_|((with_reducible refine D.aw ?_);(fail_if_success with_reducible refine D.stopR (id:=10) ?_);(fail_if_success with_reducible refine D.stopS (id:=10) ?_);first|refine M.ga ?_|refine AW.condS U (fun h=> ?_) (fun h=> ?_))|refine M.gk ?_|fail)
   all_goals first
    |rfl
    |(exfalso;simp at h;exact hkd h)
    |trace_state
 rw[if_neg (by simp[hkd])]
 have hkk:4≤f.kind∧f.kind≤7:=by rw[hkd,kI];split<;>omega
 obtain⟨x,e⟩:=Zhg s0.1 hkk
 have hx:f.args.getD 0 noFm=x:=by rw[e];rfl
 have hte:=Zey s0.1 hkk
 have hsame:=xj _ f.ty (yy c.tys t).1 (Nat.le_refl _) (by have:=((Ty.err_iff _).1 hte).2;omega)
 rw[hx] at hpa
 by_cases t1:(yy c.tys t).2=0
 case neg=>
  rw[if_pos t1]
  clear hsame hte
  generalize f.ty=s at*
  rw[hkd] at e
  subst e
  rcases hk with rfl|rfl
  all_goals
   simp only[kI] at*
   refine M.F Tryz.func207 ?_
   repeat'(first|refine M.go ?_|refine M.c2 (h1) ?_|refine M.c2 (h2) ?_|((with_reducible refine D.aw ?_);(fail_if_success with_reducible refine D.stopR (id:=13) ?_);(fail_if_success with_reducible refine D.stopS (id:=13) ?_);first|refine M.ga ?_|refine AW.condS U (fun h=> ?_) (fun h=> ?_))|refine M.gk ?_|fail)
   all_goals first
    |rfl
    |(exfalso;simp at h;exact t1 h)
    |trace_state
 rw[if_neg (by simp[t1])]
 rw[t1] at h2
 obtain⟨_,te,ti,_⟩:=Zax t1
 have hfr:=Ziu t te ti (by omega)
 have hfl:=(vr ti).len
 have hun:=uf pr.1 (Zco t) (by omega) (by omega)
 by_cases hts:f.ty=(yy c.tys t).1
 case neg=>
  rw[if_pos hts]
  rw[decide_eq_false hts] at hsame
  clear hte
  generalize f.ty=s at*
  rw[hkd] at e
  subst e
  rcases hk with rfl|rfl
  all_goals
   simp only[kI] at*
   refine M.F Tryz.func207 ?_
   repeat'(first|refine M.gw ?_|refine M.c2 (h1) ?_|refine M.c2 (h2) ?_|refine M.c2 (hsame) ?_|fail)
   all_goals first
    |rfl
    |trace_state
 rw[if_neg (by simp[hts])]
 rw[decide_eq_true hts] at hsame
 clear hte
 generalize f.ty=s at*
 rw[hkd] at e
 subst e
 rcases hk with rfl|rfl
 all_goals
  simp only[kI] at*
  refine M.F Tryz.func207 ?_
  repeat'(first|refine M.gw ?_|refine M.c2 (h1) ?_|refine M.c2 (h2) ?_|refine M.c2 (hsame) ?_|refine M.c2 (hpa) ?_|refine M.c2 (hfr) ?_|refine M.c2 (hun) ?_|fail)
  all_goals first
   |rfl
   |trace_state
theorem Yc9{f:Fm}{t:Tm}(hf:f.full≤300000)(ht:t.full≤300000)
 (hpa:PC E 235 [.agg c.view,.agg p.view,.agg f.view,.agg zT.view] (.tup [.s .int (yz r0 c f zT).1,.i (yz r0 c f zT).2]))
 (hpb:((c.below [natT]).with_ f).ok→PC E 235 [.agg ((c.below [natT]).with_ f).view,.agg q.view,.agg (f.lft 1 1).view,.agg (sT (vT 0)).view] (.tup [.s .int (yz r1 ((c.below [natT]).with_ f) (f.lft 1 1) (sT (vT 0))).1,.i (yz r1 ((c.below [natT]).with_ f) (f.lft 1 1) (sT (vT 0))).2]))
 (hua:UsesOk c.tys.length (yz r0 c f zT).1) (hub:((c.below [natT]).with_ f).ok→UsesOk (c.tys.length+1) (yz r1 ((c.below [natT]).with_ f) (f.lft 1 1) (sT (vT 0))).1):
 PC E 209 [.agg c.view,.agg (Pf.mk 16 0 (.mk 0 []) [t] [f] [p,q]).view] (Za8 (Ycm f t r0 r1 c)):=by
 have hl:=hc.len
 have hn:=hc.nh
 have hsum:=hc.sum
 have hul:=hua.len
 have h1:=Zfg (c.tys++[natT]) f (by omega) (hc.one Zbc) (by simp;omega)
 have h2:=Zs5 c t 1 (by omega) (by omega)
 have h3:=n_c 4 [] (by simp)
 have h4:=Zf6 c 1 1 (by omega) (by omega)
 have h5:=vb
 have h6:=Zfn c hc [natT] (by simp) (by simp)
 have h7:=Zig (c.below [natT]) f (by simp[Ck.below];omega)
 have h9:=Zbb 0
 have h10:=n_c 5 [vT 0] (by simp[vT,Tm.full,Tm.fulls,Ty.size,Ty.sizes])
 have h11:=Zh5 f t (by omega) (by omega)
 unfold Ycm
 generalize hA:yz r0 c f zT=a at*
 generalize hB:yz r1 ((c.below [natT]).with_ f) (f.lft 1 1) (sT (vT 0))=b at*
 by_cases e0:ww (c.tys++[natT]) f=0
 case neg=>
  rw[if_pos e0]
  refine M.F Tryz.func209 ?_
  repeat'(first|refine M.go ?_|refine M.c2 (h5) ?_|refine M.c2 (h1) ?_|((with_reducible refine D.aw ?_);(fail_if_success with_reducible refine D.stopR (id:=5) ?_);(fail_if_success with_reducible refine D.stopS (id:=5) ?_);first|refine M.ga ?_|refine AW.condS U (fun h=> ?_) (fun h=> ?_))|refine M.gk ?_|fail)
  all_goals first
   |rfl
   |(exfalso;simp at h;exact e0 h)
   |trace_state
 rw[if_neg (by simp[e0])]
 rw[e0] at h1
 obtain⟨f1,f2⟩:=ur (hc.one Zbc) e0
 have s0:=(Fm.err_iff _).1 f1
 by_cases e1:Zlx c t 1=0
 case neg=>
  rw[if_pos e1]
  refine M.F Tryz.func209 ?_
  repeat'(first|refine M.go ?_|refine M.c2 (h5) ?_|refine M.c2 (h1) ?_|refine M.c2 (h2) ?_|((with_reducible refine D.aw ?_);(fail_if_success with_reducible refine D.stopR (id:=8) ?_);(fail_if_success with_reducible refine D.stopS (id:=8) ?_);first|refine M.ga ?_|refine AW.condS U (fun h=> ?_) (fun h=> ?_))|refine M.gk ?_|fail)
  all_goals first
   |rfl
   |(exfalso;simp at h;exact e1 h)
   |trace_state
 rw[if_neg (by simp[e1])]
 rw[e1] at h2
 obtain⟨te,ti⟩:=Ziv e1
 by_cases e2:a.2=0
 case neg=>
  rw[if_pos e2]
  refine M.F Tryz.func209 ?_
  repeat'(first|refine M.go ?_|refine M.c2 (h5) ?_|refine M.c2 (h1) ?_|refine M.c2 (h2) ?_|refine M.c2 (h3) ?_|refine M.c2 (hpa) ?_|((with_reducible refine D.aw ?_);(fail_if_success with_reducible refine D.stopR (id:=11) ?_);(fail_if_success with_reducible refine D.stopS (id:=11) ?_);first|refine M.ga ?_|refine AW.condS U (fun h=> ?_) (fun h=> ?_))|refine M.gk ?_|fail)
  all_goals first
   |rfl
   |(exfalso;simp at h;exact e2 h)
   |trace_state
 rw[if_neg (by simp[e2])]
 rw[e2] at hpa
 by_cases e3:c.room 1 1=0
 case neg=>
  rw[if_pos e3]
  rw[Zgs e3] at h4
  refine M.F Tryz.func209 ?_
  repeat'(first|refine M.gw ?_|refine M.c2 (h5) ?_|refine M.c2 (h1) ?_|refine M.c2 (h2) ?_|refine M.c2 (h3) ?_|refine M.c2 (hpa) ?_|refine M.c2 (h4) ?_|fail)
  all_goals first
   |rfl
   |trace_state
 rw[if_neg (by simp[e3])]
 rw[e3] at h4
 have hr:=wd e3
 have hb:((c.below [natT]).with_ f).ok:=(hc.below (l:=[natT]) hr.1 (by simp[Zbc])).with_ (by simpa [Ck.below] using hr.2) f1 f2
 have h8:=Zdm f2 s0.1 (by omega) (by simp;omega) 1 1 (by omega) (by omega)
 have h12:=hpb hb
 have hub':=hub hb
 by_cases e4:b.2=0
 case neg=>
  rw[if_pos e4]
  refine M.F Tryz.func209 ?_
  repeat'(first|refine M.go ?_|refine M.c2 (h5) ?_|refine M.c2 (h1) ?_|refine M.c2 (h2) ?_|refine M.c2 (h3) ?_|refine M.c2 (hpa) ?_|refine M.c2 (h4) ?_|refine M.c2 (h6) ?_|refine M.c2 (h7) ?_|refine M.c2 (h8) ?_|refine M.c2 (h9) ?_|refine M.c2 (h10) ?_|refine M.c2 (h12) ?_|((with_reducible refine D.aw ?_);(fail_if_success with_reducible refine D.stopR (id:=17) ?_);(fail_if_success with_reducible refine D.stopS (id:=17) ?_);first|refine M.ga ?_|refine AW.condS U (fun h=> ?_) (fun h=> ?_))|refine M.gk ?_|fail)
  all_goals first
   |rfl
   |(exfalso;simp at h;exact e4 h)
   |trace_state
 rw[if_neg (by simp[e4])]
 rw[e4] at h12
 have hfr:=Ziu t te ti (by omega)
 have hfl:=(vr ti).len
 have hun:=uf (Zco t) a.1 (by omega) (by omega)
 have hlu:UsesOk c.tys.length (vf (Zco t) a.1):= .union (vr ti).2 hua.2
 have hll:=hlu.len
 have hbl:=hub'.len
 have hou:=Zn7 b.1 1 (by omega) (by omega) (fun x hx=>by have:=hub'.2 x hx;omega)
 have hol:=Zfo b.1 1
 have hun2:=uf (vf (Zco t) a.1) (Zhc b.1 1) (by omega) (by omega)
 refine M.F Tryz.func209 ?_
 repeat'(first|refine M.gw ?_|refine M.c2 (h5) ?_|refine M.c2 (h1) ?_|refine M.c2 (h2) ?_|refine M.c2 (h3) ?_|refine M.c2 (hpa) ?_|refine M.c2 (h4) ?_|refine M.c2 (h6) ?_|refine M.c2 (h7) ?_|refine M.c2 (h8) ?_|refine M.c2 (h9) ?_|refine M.c2 (h10) ?_|refine M.c2 (h12) ?_|refine M.c2 (h11) ?_|refine M.c2 (hfr) ?_|refine M.c2 (hun) ?_|refine M.c2 (hou) ?_|refine M.c2 (hun2) ?_|fail)
 all_goals first
  |rfl
  |trace_state
end
section
variable {c:Ck} (hc:c.ok) {p q:Pf} {r0 r1:Rs}
include hc
theorem Ztx{k:Int}(hk:k=11∨k=15){f0 f1:Fm}{u0 u1:List Int}{e0 e1:Int}(hr0:r0 c=(f0,u0,e0))(hr1:Zhi r1 c f0=(f1,u1,e1))
 (hp:PC E 108 [.agg c.view,.agg p.view] (Zj0 f0 u0 e0)) (o0:Zdk c (f0,u0,e0))
 (hq:((c.below [f0.ty]).with_ (f0.args.getD 0 noFm)).ok→PC E 108 [.agg ((c.below [f0.ty]).with_ (f0.args.getD 0 noFm)).view,.agg q.view] (Zj0 f1 u1 e1))
 (o1:((c.below [f0.ty]).with_ (f0.args.getD 0 noFm)).ok→Zdk ((c.below [f0.ty]).with_ (f0.args.getD 0 noFm)) (f1,u1,e1)):
 PC E 208 [.agg c.view,.agg (Pf.mk k 0 (.mk 0 []) [] [] [p,q]).view] (Za8 (Ybp k r0 r1 c)):=by
 have hl:=hc.len
 have hn:=hc.nh
 have b0:=Zqg hc o0
 unfold Ybp
 rw[hr0]
 simp only[hr1]
 by_cases he:e0=0
 case neg=>
  rw[if_pos he]
  refine M.F Tryz.func208 ?_
  repeat'(first|refine M.go ?_|refine M.c2 (hp) ?_|((with_reducible refine D.aw ?_);(fail_if_success with_reducible refine D.stopR (id:=4) ?_);(fail_if_success with_reducible refine D.stopS (id:=4) ?_);first|refine M.ga ?_|refine AW.condS U (fun h=> ?_) (fun h=> ?_))|refine M.gk ?_|fail)
  all_goals first
   |rfl
   |(exfalso;simp at h;exact he h)
   |trace_state
 subst he
 rw[if_neg (by simp)]
 have ho:=o0.1 rfl
 have s0:=(Fm.err_iff _).1 ho.1
 by_cases hkd:f0.kind=kI k 15 7 5
 case neg=>
  rw[if_pos hkd]
  rcases hk with rfl|rfl
  all_goals
   refine M.F Tryz.func208 ?_
   repeat'(first|refine M.go ?_|refine M.c2 (hp) ?_|((with_reducible refine D.aw ?_);(fail_if_success with_reducible refine D.stopR (id:=9) ?_);(fail_if_success with_reducible refine D.stopS (id:=9) ?_);first|refine M.ga ?_|refine AW.condS U (fun h=> ?_) (fun h=> ?_))|refine M.gk ?_|fail)
   all_goals first
    |rfl
    |(exfalso;simp at h;exact hkd h)
    |trace_state
 rw[if_neg (by simp[hkd])]
 have hkk:4≤f0.kind∧f0.kind≤7:=by rw[hkd,kI];split<;>omega
 obtain⟨x,e⟩:=Zhg s0.1 hkk
 have hx:f0.args.getD 0 noFm=x:=by simp only at e;rw[e];rfl
 have hte:=Zey s0.1 hkk
 have ex:=w4 ho.1 (x:=x) (by simp only at e;rw[show(f0,u0,(0:Int)).1=f0 from rfl,e];simp[quF])
 have ok0:=ho.2.1
 simp only at e hte ok0
 rw[e] at ok0
 have o1':=Zgj hkk ok0
 rw[hx] at hq o1
 clear ok0 hr1 hr0 s0 hx
 generalize f0.ty=s at*
 rw[hkd] at e
 subst e
 have h1:=Zf6 c 1 1 (by omega) (by omega)
 by_cases hr:c.room 1 1=0
 case neg=>
  rw[if_pos hr]
  rw[Zgs hr] at h1
  rcases hk with rfl|rfl
  all_goals
   simp only[kI] at*
   refine M.F Tryz.func208 ?_
   repeat'(first|refine M.gw ?_|refine M.c2 (hp) ?_|refine M.c2 (h1) ?_|fail)
   all_goals first
    |rfl
    |trace_state
 rw[if_neg (by simp[hr])]
 have hro:=wd hr
 rw[hr] at h1
 have hb:((c.below [s]).with_ x).ok:=(hc.below (l:=[s]) hro.1 (by simpa using hte)).with_ (by simpa [Ck.below] using hro.2) ex o1'
 have h2:=Zfn c hc [s] (by simp) (by simp)
 have h3:=Zig (c.below [s]) x (by simp[Ck.below];omega)
 have h4:=hq hb
 have o1b:=o1 hb
 have b1:=Zqg hb o1b
 by_cases he1:e1=0
 case neg=>
  rw[if_pos he1]
  rcases hk with rfl|rfl
  all_goals
   simp only[kI] at*
   refine M.F Tryz.func208 ?_
   repeat'(first|refine M.go ?_|refine M.c2 (hp) ?_|refine M.c2 (h1) ?_|refine M.c2 (h2) ?_|refine M.c2 (h3) ?_|refine M.c2 (h4) ?_|((with_reducible refine D.aw ?_);(fail_if_success with_reducible refine D.stopR (id:=15) ?_);(fail_if_success with_reducible refine D.stopS (id:=15) ?_);first|refine M.ga ?_|refine AW.condS U (fun h=> ?_) (fun h=> ?_))|refine M.gk ?_|fail)
   all_goals first
    |rfl
    |(exfalso;simp at h;exact he1 h)
    |trace_state
 subst he1
 rw[if_neg (by simp)]
 have hf1:=o1b.1 rfl
 simp only at hf1
 have s1:=(Fm.err_iff _).1 hf1.1
 have h5:=Zx2 _ f1 0 (Nat.le_refl _) (by omega) (by omega) (by omega) s1.1
 have hu:=Zxw u1
 have hou:=Zn7 u1 1 (by omega) (by omega) b1.2.2
 have hol:=Zfo u1 1
 have hun:=uf u0 (Zhc u1 1) (by omega) (by omega)
 have h6:=Zsh _ f1 (Nat.le_refl _) (by omega)
 by_cases t0:y1 0 f1=0
 case pos=>
  have ef:Zbn f1=(f1,0):=by unfold Zbn;rw[if_pos t0]
  rw[ef]
  rw[decide_eq_false (by simp[t0])] at h5
  have h7:=h6
  have hup:=Zdm (hf1.2.1) s1.1 (by omega) (by simp[Ck.below,Ck.with_];omega) 1 (-1) (by omega) (by omega)
  rw[if_neg (by simp)]
  rcases hk with rfl|rfl
  ·rw [if_neg (by simp)]
   simp only[kI] at*
   refine M.F Tryz.func208 ?_
   repeat'(first|refine M.gw ?_|refine M.c2 (hp) ?_|refine M.c2 (h1) ?_|refine M.c2 (h2) ?_|refine M.c2 (h3) ?_|refine M.c2 (h4) ?_|refine M.c2 (h5) ?_|refine M.c2 (hup) ?_|refine M.c2 (hou) ?_|refine M.c2 (hun) ?_|fail)
   all_goals first
    |rfl
    |trace_state
  ·simp only[kI] at*
   cases hh:Ya1 u1 with
   |true=>
    rw[hh] at hu
    rw[if_pos (by simp)]
    refine M.F Tryz.func208 ?_
    repeat'(first|refine M.gw ?_|refine M.c2 (hp) ?_|refine M.c2 (h1) ?_|refine M.c2 (h2) ?_|refine M.c2 (h3) ?_|refine M.c2 (h4) ?_|refine M.c2 (h5) ?_|refine M.c2 (hu) ?_|fail)
    all_goals first
     |rfl
     |trace_state
   |false=>
    rw[hh] at hu
    rw[if_neg (by simp)]
    refine M.F Tryz.func208 ?_
    repeat'(first|refine M.gw ?_|refine M.c2 (hp) ?_|refine M.c2 (h1) ?_|refine M.c2 (h2) ?_|refine M.c2 (h3) ?_|refine M.c2 (h4) ?_|refine M.c2 (h5) ?_|refine M.c2 (hu) ?_|refine M.c2 (hup) ?_|refine M.c2 (hou) ?_|refine M.c2 (hun) ?_|fail)
    all_goals first
     |rfl
     |trace_state
 rw[decide_eq_true t0] at h5
 by_cases n0:(xq f1).2=0
 case neg=>
  have ef:Zbn f1=(noFm,(xq f1).2):=by unfold Zbn;rw[if_neg t0,if_pos n0]
  rw[ef,if_pos n0]
  rcases hk with rfl|rfl
  all_goals
   simp only[kI] at*
   refine M.F Tryz.func208 ?_
   repeat'(first|refine M.go ?_|refine M.c2 (hp) ?_|refine M.c2 (h1) ?_|refine M.c2 (h2) ?_|refine M.c2 (h3) ?_|refine M.c2 (h4) ?_|refine M.c2 (h5) ?_|refine M.c2 (h6) ?_|((with_reducible refine D.aw ?_);(fail_if_success with_reducible refine D.stopR (id:=20) ?_);(fail_if_success with_reducible refine D.stopS (id:=20) ?_);first|refine M.ga ?_|refine AW.condS U (fun h=> ?_) (fun h=> ?_))|refine M.gk ?_|fail)
   all_goals first
    |rfl
    |(exfalso;simp at h;exact n0 h)
    |trace_state
 rw[n0] at h6
 obtain⟨nk,ns,nz,no⟩:=Zni f1 n0 s1.1
 have nfl:=Zak (xq f1).1 ns
 have h7:=Zx2 _ (xq f1).1 0 (Nat.le_refl _) (by omega) (by omega) (by omega) ns
 by_cases n1:y1 0 (xq f1).1=0
 case neg=>
  have ef:Zbn f1=(noFm,6):=by unfold Zbn;rw[if_neg t0,if_neg (by simp[n0]),if_pos n1]
  rw[ef,if_pos (by decide)]
  rw[decide_eq_true n1] at h7
  rcases hk with rfl|rfl
  all_goals
   simp only[kI] at*
   refine M.F Tryz.func208 ?_
   repeat'(first|refine M.gw ?_|refine M.c2 (hp) ?_|refine M.c2 (h1) ?_|refine M.c2 (h2) ?_|refine M.c2 (h3) ?_|refine M.c2 (h4) ?_|refine M.c2 (h5) ?_|refine M.c2 (h6) ?_|refine M.c2 (h7) ?_|fail)
   all_goals first
    |rfl
    |trace_state
 case pos=>
  have ef:Zbn f1=((xq f1).1,0):=by unfold Zbn;rw[if_neg t0,if_neg (by simp[n0]),if_neg (by simp[n1])]
  rw[ef]
  rw[decide_eq_false (by simp[n1])] at h7
  have hup:=Zdm (no _ hf1.2.1) ns (by omega) (by simp[Ck.below,Ck.with_];omega) 1 (-1) (by omega) (by omega)
  rw[if_neg (by simp)]
  rcases hk with rfl|rfl
  ·rw [if_neg (by simp)]
   simp only[kI] at*
   refine M.F Tryz.func208 ?_
   repeat'(first|refine M.gw ?_|refine M.c2 (hp) ?_|refine M.c2 (h1) ?_|refine M.c2 (h2) ?_|refine M.c2 (h3) ?_|refine M.c2 (h4) ?_|refine M.c2 (h5) ?_|refine M.c2 (h6) ?_|refine M.c2 (h7) ?_|refine M.c2 (hup) ?_|refine M.c2 (hou) ?_|refine M.c2 (hun) ?_|fail)
   all_goals first
    |rfl
    |trace_state
  ·simp only[kI] at*
   cases hh:Ya1 u1 with
   |true=>
    rw[hh] at hu
    rw[if_pos (by simp)]
    refine M.F Tryz.func208 ?_
    repeat'(first|refine M.gw ?_|refine M.c2 (hp) ?_|refine M.c2 (h1) ?_|refine M.c2 (h2) ?_|refine M.c2 (h3) ?_|refine M.c2 (h4) ?_|refine M.c2 (h5) ?_|refine M.c2 (h6) ?_|refine M.c2 (h7) ?_|refine M.c2 (hu) ?_|fail)
    all_goals first
     |rfl
     |trace_state
   |false=>
    rw[hh] at hu
    rw[if_neg (by simp)]
    refine M.F Tryz.func208 ?_
    repeat'(first|refine M.gw ?_|refine M.c2 (hp) ?_|refine M.c2 (h1) ?_|refine M.c2 (h2) ?_|refine M.c2 (h3) ?_|refine M.c2 (h4) ?_|refine M.c2 (h5) ?_|refine M.c2 (h6) ?_|refine M.c2 (h7) ?_|refine M.c2 (hu) ?_|refine M.c2 (hup) ?_|refine M.c2 (hou) ?_|refine M.c2 (hun) ?_|fail)
    all_goals first
     |rfl
     |trace_state
end
section
variable {c:Ck} (hc:c.ok) {p q:Pf} {r0 r1:Rs}
include hc
theorem Zv2{f:Fm}{f0:Fm}{u0:List Int}{e0:Int}(hr0:r0 c=(f0,u0,e0))(hf:f.full≤300000)
 (hp:PC E 108 [.agg c.view,.agg p.view] (Zj0 f0 u0 e0)) (o0:Zdk c (f0,u0,e0))
 (hpb:∀t:Tm,t.full≤300000→PC E 235 [.agg c.view,.agg q.view,.agg f.view,.agg t.view] (.tup [.s .int (yz r1 c f t).1,.i (yz r1 c f t).2])):
 PC E 212 [.agg c.view,.agg (Pf.mk 19 0 (.mk 0 []) [] [f] [p,q]).view] (Za8 (Zkd f r0 r1 c)):=by
 have hl:=hc.len
 have hsum:=hc.sum
 have h1:=Zfg (c.tys++[natT]) f (by omega) (hc.one Zbc) (by simp;omega)
 have h5:=vb
 unfold Zkd
 rw[hr0]
 by_cases t0:ww (c.tys++[natT]) f=0
 case neg=>
  rw[if_pos t0]
  refine M.F Tryz.func212 ?_
  repeat'(first|refine M.go ?_|refine M.c2 (h5) ?_|refine M.c2 (h1) ?_|((with_reducible refine D.aw ?_);(fail_if_success with_reducible refine D.stopR (id:=5) ?_);(fail_if_success with_reducible refine D.stopS (id:=5) ?_);first|refine M.ga ?_|refine AW.condS U (fun h=> ?_) (fun h=> ?_))|refine M.gk ?_|fail)
  all_goals first
   |rfl
   |(exfalso;simp at h;exact t0 h)
   |trace_state
 rw[if_neg (by simp[t0])]
 rw[t0] at h1
 by_cases he:e0=0
 case neg=>
  rw[if_pos he]
  refine M.F Tryz.func212 ?_
  repeat'(first|refine M.go ?_|refine M.c2 (h5) ?_|refine M.c2 (h1) ?_|refine M.c2 (hp) ?_|((with_reducible refine D.aw ?_);(fail_if_success with_reducible refine D.stopR (id:=8) ?_);(fail_if_success with_reducible refine D.stopS (id:=8) ?_);first|refine M.ga ?_|refine AW.condS U (fun h=> ?_) (fun h=> ?_))|refine M.gk ?_|fail)
  all_goals first
   |rfl
   |(exfalso;simp at h;exact he h)
   |trace_state
 subst he
 rw[if_neg (by simp)]
 by_cases hk:f0.kind=1
 case neg=>
  rw[if_pos hk]
  refine M.F Tryz.func212 ?_
  repeat'(first|refine M.go ?_|refine M.c2 (h5) ?_|refine M.c2 (h1) ?_|refine M.c2 (hp) ?_|((with_reducible refine D.aw ?_);(fail_if_success with_reducible refine D.stopR (id:=10) ?_);(fail_if_success with_reducible refine D.stopS (id:=10) ?_);first|refine M.ga ?_|refine AW.condS U (fun h=> ?_) (fun h=> ?_))|refine M.gk ?_|fail)
  all_goals first
   |rfl
   |(exfalso;simp at h;exact hk h)
   |trace_state
 rw[if_neg (by simp[hk])]
 have ho:=o0.1 rfl
 obtain⟨x,y,e⟩:=Yag ((Fm.err_iff _).1 ho.1).1 hk
 simp only at e
 subst e
 have ex:=Zoh ho.1 (t:=x) (by simp[eqF])
 have ey:=Zoh ho.1 (t:=y) (by simp[eqF])
 have h2:=hpb x (by have:=z8 ex;omega)
 have h3:=Zh5 f y (by omega) (by have:=z8 ey;omega)
 have e1:((eqF x y).terms.getD 0 Zbo)=x:=rfl
 have e2:((eqF x y).terms.getD 1 Zbo)=y:=rfl
 simp only[e1,e2]
 generalize yz r1 c f x=a at*
 by_cases ea:a.2=0
 case neg=>
  rw[if_pos ea]
  refine M.F Tryz.func212 ?_
  repeat'(first|refine M.go ?_|refine M.c2 (h5) ?_|refine M.c2 (h1) ?_|refine M.c2 (hp) ?_|refine M.c2 (h2) ?_|((with_reducible refine D.aw ?_);(fail_if_success with_reducible refine D.stopR (id:=13) ?_);(fail_if_success with_reducible refine D.stopS (id:=13) ?_);first|refine M.ga ?_|refine AW.condS U (fun h=> ?_) (fun h=> ?_))|refine M.gk ?_|fail)
  all_goals first
   |rfl
   |(exfalso;simp at h;exact ea h)
   |trace_state
 rw[if_neg (by simp[ea])]
 rw[ea] at h2
 refine M.F Tryz.func212 ?_
 repeat'(first|refine M.gw ?_|refine M.c2 (h5) ?_|refine M.c2 (h1) ?_|refine M.c2 (hp) ?_|refine M.c2 (h2) ?_|refine M.c2 (h3) ?_|fail)
 all_goals first
  |rfl
  |trace_state
theorem Zuj{f0:Fm}{u0:List Int}{e0:Int}(hr0:r0 c=(f0,u0,e0))
 (hp:PC E 108 [.agg c.view,.agg p.view] (Zj0 f0 u0 e0)) (o0:Zdk c (f0,u0,e0)):
 PC E 213 [.agg c.view,.agg (Pf.mk 20 0 (.mk 0 []) [] [] [p]).view] (Za8 (Zgl r0 c)):=by
 have hl:=hc.len
 unfold Zgl
 rw[hr0]
 by_cases he:e0=0
 case neg=>
  rw[if_pos he]
  refine M.F Tryz.func213 ?_
  repeat'(first|refine M.go ?_|refine M.c2 (hp) ?_|((with_reducible refine D.aw ?_);(fail_if_success with_reducible refine D.stopR (id:=4) ?_);(fail_if_success with_reducible refine D.stopS (id:=4) ?_);first|refine M.ga ?_|refine AW.condS U (fun h=> ?_) (fun h=> ?_))|refine M.gk ?_|fail)
  all_goals first
   |rfl
   |(exfalso;simp at h;exact he h)
   |trace_state
 subst he
 rw[if_neg (by simp)]
 have ho:=o0.1 rfl
 have s0:=(Fm.err_iff _).1 ho.1
 by_cases hk:f0.kind=4
 case neg=>
  rw[if_pos (.inl hk)]
  refine M.F Tryz.func213 ?_
  repeat'(first|refine M.go ?_|refine M.c2 (hp) ?_|((fail_if_success refine AX.wt U ?_);refine AX.gs U U (fun _=>trivial) (fun h=> ?_) (fun h=> ?_))|((with_reducible refine D.aw ?_);(fail_if_success with_reducible refine D.stopR (id:=6) ?_);(fail_if_success with_reducible refine D.stopS (id:=6) ?_);first|refine M.ga ?_|refine AW.condS U (fun h=> ?_) (fun h=> ?_))|refine M.gk ?_|fail)
  all_goals first
   |rfl
   |(exfalso;simp at h;exact hk h)
   |(exfalso;rename_i h1;simp at h1;exact hk h1)
   |trace_state
 obtain⟨x,e⟩:=Zhg s0.1 (by simp only;omega)
 have hte:=Zey s0.1 (by simp only;omega)
 simp only at e hte
 have ex:=w4 ho.1 (x:=x) (by rw[show(f0,u0,(0:Int)).1=f0 from rfl,e];simp[quF])
 have sx:=(Fm.err_iff _).1 ex
 have ok0:=ho.2.1
 simp only at ok0
 generalize f0.ty=s at*
 rw[hk] at e
 subst e
 have e1:((quF 4 s x).args.getD 0 noFm)=x:=rfl
 have o1:=Zgj (by omega) ok0
 by_cases hk2:x.kind=5
 case neg=>
  rw[if_pos (.inr (by rw[e1];exact hk2))]
  refine M.F Tryz.func213 ?_
  repeat'(first|refine M.go ?_|refine M.c2 (hp) ?_|((with_reducible refine D.aw ?_);(fail_if_success with_reducible refine D.stopR (id:=6) ?_);(fail_if_success with_reducible refine D.stopS (id:=6) ?_);first|refine M.ga ?_|refine AW.condS U (fun h=> ?_) (fun h=> ?_))|refine M.gk ?_|fail)
  all_goals first
   |rfl
   |(exfalso;simp at h;exact hk2 h)
   |trace_state
 rw[if_neg (by rintro(h|h);exact h hk;exact h (by rw[e1];exact hk2))]
 obtain⟨y,e⟩:=Zhg sx.1 (by omega)
 have hte2:=Zey sx.1 (by omega)
 have ey:=w4 ex (x:=y) (by rw[e];simp[quF])
 have sy:=(Fm.err_iff _).1 ey
 generalize x.ty=u at*
 rw[hk2] at e
 subst e
 have o2:=Zgj (by omega) o1
 have zs:=((Ty.err_iff s).1 hte).2
 have zu:=((Ty.err_iff u).1 hte2).2
 have h1:=Zm6 s u (by omega) (by omega)
 have h2:=ut (yw s u) (by simp only[yw,Ty.size,Ty.sizes];omega)
 have e2:chF (quF 4 s (quF 5 u y))=yw s u:=rfl
 have e3:chB (quF 4 s (quF 5 u y))=Ze2 (y.lft 2 1) appV:=rfl
 simp only[e2,e3]
 by_cases ef:(yw s u).err=0
 case neg=>
  rw[if_pos ef]
  refine M.F Tryz.func213 ?_
  repeat'(first|refine M.go ?_|refine M.c2 (hp) ?_|refine M.c2 (h1) ?_|refine M.c2 (h2) ?_|((with_reducible refine D.aw ?_);(fail_if_success with_reducible refine D.stopR (id:=10) ?_);(fail_if_success with_reducible refine D.stopS (id:=10) ?_);first|refine M.ga ?_|refine AW.condS U (fun h=> ?_) (fun h=> ?_))|refine M.gk ?_|fail)
  all_goals first
   |rfl
   |(exfalso;simp at h;exact ef h)
   |trace_state
 rw[if_neg (by simp[ef])]
 rw[ef] at h2
 have h3:=Zdm o2 sy.1 (by omega) (by simp;omega) 2 1 (by omega) (by omega)
 have h4:=Zbb 1
 have h4':=Zbb 0
 have h5:=n_c 3 [vT 1,vT 0] (by simp[vT,Tm.full,Tm.fulls,Ty.size,Ty.sizes])
 have hlf:=Zbp sy.1 (fr:=2) (by_:=1) (by omega)
 have h6:=Zh5 (y.lft 2 1) appV (by rw[hlf.2.2];have:=yr ey;omega) (by decide)
 have hb:=Zuh (y.lft 2 1) appV
 have h7:=Zet 4 s (Ze2 (y.lft 2 1) appV).1 (by omega) (by omega)
 have h8:=Zet 5 (yw s u) (.mk 4 s [] [(Ze2 (y.lft 2 1) appV).1]) (by simp only[yw,Ty.size,Ty.sizes];omega) (by simp only[Fm.full,Fm.fulls,List.map_nil,List.sum_nil];omega)
 refine M.F Tryz.func213 ?_
 repeat'(first|refine M.gw ?_|refine M.c2 (hp) ?_|refine M.c2 (h1) ?_|refine M.c2 (h2) ?_|refine M.c2 (h3) ?_|refine M.c2 (h4) ?_|refine M.c2 (h4') ?_|refine M.c2 (h5) ?_|refine M.c2 (h6) ?_|refine M.c2 (h7) ?_|refine M.c2 (h8) ?_|fail)
 all_goals first
  |rfl
  |trace_state
end
section
variable {c:Ck} (hc:c.ok) {p q:Pf} {r0 r1:Rs}
include hc
theorem Zy6{f:Fm}{t:Tm}(hf:f.full≤300000)(ht:t.full≤300000)
 (hpa:PC E 235 [.agg c.view,.agg p.view,.agg f.view,.agg nilM.view] (.tup [.s .int (yz r0 c f nilM).1,.i (yz r0 c f nilM).2]))
 (hpb:((c.below [natT,listT]).with_ (f.lft 1 1)).ok→PC E 235 [.agg ((c.below [natT,listT]).with_ (f.lft 1 1)).view,.agg q.view,.agg (f.lft 1 2).view,.agg consM.view] (.tup [.s .int (yz r1 ((c.below [natT,listT]).with_ (f.lft 1 1)) (f.lft 1 2) consM).1,.i (yz r1 ((c.below [natT,listT]).with_ (f.lft 1 1)) (f.lft 1 2) consM).2]))
 (hua:UsesOk c.tys.length (yz r0 c f nilM).1) (hub:((c.below [natT,listT]).with_ (f.lft 1 1)).ok→UsesOk (c.tys.length+2) (yz r1 ((c.below [natT,listT]).with_ (f.lft 1 1)) (f.lft 1 2) consM).1):
 PC E 210 [.agg c.view,.agg (Pf.mk 17 0 (.mk 0 []) [t] [f] [p,q]).view] (Za8 (Zrr f t r0 r1 c)):=by
 have hl:=hc.len
 have hn:=hc.nh
 have hsum:=hc.sum
 have hul:=hua.len
 have h1:=Zfg (c.tys++[listT]) f (by omega) (hc.one Zde) (by simp;omega)
 have h2:=Zs5 c t 2 (by omega) (by omega)
 have h3:=n_c 7 [] (by simp)
 have h4:=Zf6 c 2 1 (by omega) (by omega)
 have h5:=vb
 have h6:=Zfn c hc [natT,listT] (by simp) (by simp)
 have h7:=Zig (c.below [natT,listT]) (f.lft 1 1) (by simp[Ck.below];omega)
 have h9:=Zbb 0
 have h9':=Zbb 1
 have h5':=uc
 have h10:=n_c 8 [vT 1,vT 0] (by simp[vT,Tm.full,Tm.fulls,Ty.size,Ty.sizes])
 have h11:=Zh5 f t (by omega) (by omega)
 unfold Zrr
 generalize hA:yz r0 c f nilM=a at*
 generalize hB:yz r1 ((c.below [natT,listT]).with_ (f.lft 1 1)) (f.lft 1 2) consM=b at*
 by_cases e0:ww (c.tys++[listT]) f=0
 case neg=>
  rw[if_pos e0]
  refine M.F Tryz.func210 ?_
  repeat'(first|refine M.go ?_|refine M.c2 (h5') ?_|refine M.c2 (h1) ?_|((with_reducible refine D.aw ?_);(fail_if_success with_reducible refine D.stopR (id:=5) ?_);(fail_if_success with_reducible refine D.stopS (id:=5) ?_);first|refine M.ga ?_|refine AW.condS U (fun h=> ?_) (fun h=> ?_))|refine M.gk ?_|fail)
  all_goals first
   |rfl
   |(exfalso;simp at h;exact e0 h)
   |trace_state
 rw[if_neg (by simp[e0])]
 rw[e0] at h1
 obtain⟨f1,f2⟩:=ur (hc.one Zde) e0
 have s0:=(Fm.err_iff _).1 f1
 by_cases e1:Zlx c t 2=0
 case neg=>
  rw[if_pos e1]
  refine M.F Tryz.func210 ?_
  repeat'(first|refine M.go ?_|refine M.c2 (h5') ?_|refine M.c2 (h1) ?_|refine M.c2 (h2) ?_|((with_reducible refine D.aw ?_);(fail_if_success with_reducible refine D.stopR (id:=8) ?_);(fail_if_success with_reducible refine D.stopS (id:=8) ?_);first|refine M.ga ?_|refine AW.condS U (fun h=> ?_) (fun h=> ?_))|refine M.gk ?_|fail)
  all_goals first
   |rfl
   |(exfalso;simp at h;exact e1 h)
   |trace_state
 rw[if_neg (by simp[e1])]
 rw[e1] at h2
 obtain⟨te,ti⟩:=Zk9 e1
 by_cases e2:a.2=0
 case neg=>
  rw[if_pos e2]
  refine M.F Tryz.func210 ?_
  repeat'(first|refine M.go ?_|refine M.c2 (h5') ?_|refine M.c2 (h1) ?_|refine M.c2 (h2) ?_|refine M.c2 (h3) ?_|refine M.c2 (hpa) ?_|((with_reducible refine D.aw ?_);(fail_if_success with_reducible refine D.stopR (id:=11) ?_);(fail_if_success with_reducible refine D.stopS (id:=11) ?_);first|refine M.ga ?_|refine AW.condS U (fun h=> ?_) (fun h=> ?_))|refine M.gk ?_|fail)
  all_goals first
   |rfl
   |(exfalso;simp at h;exact e2 h)
   |trace_state
 rw[if_neg (by simp[e2])]
 rw[e2] at hpa
 by_cases e3:c.room 2 1=0
 case neg=>
  rw[if_pos e3]
  rw[Zgs e3] at h4
  refine M.F Tryz.func210 ?_
  repeat'(first|refine M.gw ?_|refine M.c2 (h5') ?_|refine M.c2 (h1) ?_|refine M.c2 (h2) ?_|refine M.c2 (h3) ?_|refine M.c2 (hpa) ?_|refine M.c2 (h4) ?_|fail)
  all_goals first
   |rfl
   |trace_state
 rw[if_neg (by simp[e3])]
 rw[e3] at h4
 have hr:=wd e3
 have hb:((c.below [natT,listT]).with_ (f.lft 1 1)).ok:=(hc.below (l:=[natT,listT]) hr.1 (by simp[Zbc,Zde])).with_ (by simpa [Ck.below] using hr.2) (Zf4 f1 (by omega)) (by simpa [Ck.below] using Zbf (g:=c.tys) (h:=[listT]) [natT] s0.1 f2)
 have h8:=Zdm f2 s0.1 (by omega) (by simp;omega) 1 1 (by omega) (by omega)
 have h8':=Zdm f2 s0.1 (by omega) (by simp;omega) 1 2 (by omega) (by omega)
 have h12:=hpb hb
 have hub':=hub hb
 by_cases e4:b.2=0
 case neg=>
  rw[if_pos e4]
  refine M.F Tryz.func210 ?_
  repeat'(first|refine M.go ?_|refine M.c2 (h5) ?_|refine M.c2 (h5') ?_|refine M.c2 (h1) ?_|refine M.c2 (h2) ?_|refine M.c2 (h3) ?_|refine M.c2 (hpa) ?_|refine M.c2 (h4) ?_|refine M.c2 (h6) ?_|refine M.c2 (h7) ?_|refine M.c2 (h8) ?_|refine M.c2 (h8') ?_|refine M.c2 (h9) ?_|refine M.c2 (h9') ?_|refine M.c2 (h10) ?_|refine M.c2 (h12) ?_|((with_reducible refine D.aw ?_);(fail_if_success with_reducible refine D.stopR (id:=17) ?_);(fail_if_success with_reducible refine D.stopS (id:=17) ?_);first|refine M.ga ?_|refine AW.condS U (fun h=> ?_) (fun h=> ?_))|refine M.gk ?_|fail)
  all_goals first
   |rfl
   |(exfalso;simp at h;exact e4 h)
   |trace_state
 rw[if_neg (by simp[e4])]
 rw[e4] at h12
 have hfr:=Ziu t te ti (by omega)
 have hfl:=(vr ti).len
 have hun:=uf (Zco t) a.1 (by omega) (by omega)
 have hlu:UsesOk c.tys.length (vf (Zco t) a.1):= .union (vr ti).2 hua.2
 have hll:=hlu.len
 have hbl:=hub'.len
 have hou:=Zn7 b.1 2 (by omega) (by omega) (fun x hx=>by have:=hub'.2 x hx;omega)
 have hol:=Zfo b.1 2
 have hun2:=uf (vf (Zco t) a.1) (Zhc b.1 2) (by omega) (by omega)
 refine M.F Tryz.func210 ?_
 repeat'(first|refine M.gw ?_|refine M.c2 (h5) ?_|refine M.c2 (h5') ?_|refine M.c2 (h1) ?_|refine M.c2 (h2) ?_|refine M.c2 (h3) ?_|refine M.c2 (hpa) ?_|refine M.c2 (h4) ?_|refine M.c2 (h6) ?_|refine M.c2 (h7) ?_|refine M.c2 (h8) ?_|refine M.c2 (h8') ?_|refine M.c2 (h9) ?_|refine M.c2 (h9') ?_|refine M.c2 (h10) ?_|refine M.c2 (h12) ?_|refine M.c2 (h11) ?_|refine M.c2 (hfr) ?_|refine M.c2 (hun) ?_|refine M.c2 (hou) ?_|refine M.c2 (hun2) ?_|fail)
 all_goals first
  |rfl
  |trace_state
end
def InfC(p:Pf):Prop:=∀c:Ck,c.ok→PC E 108 [.agg c.view,.agg p.view] (Zj0 (Zai p c).1 (Zai p c).2.1 (Zai p c).2.2)
def PPart(p:Pf):Prop:=p.shape=true∧p.small=true
theorem Zlo{p:Pf}(h:p.small=true):(∀t∈p.terms,t.size≤4096)∧(∀f∈p.forms,f.size≤4096)∧∀x∈p.args,x.small=true:=by
 rw[p.small_eq] at h
 simp only[Bool.and_eq_true,List.all_eq_true,decide_eq_true_eq] at h
 exact⟨h.1.1,h.1.2,h.2⟩
theorem Zp3{p:Pf}{c:Ck}(hc:c.ok)(hr:w8 c (Ziy p.kind p.index p.ty p.terms p.forms (p.args.map Zai) c))
 (hrl:PC E 161 [.agg c.view,.agg p.view] (Za8 (Ziy p.kind p.index p.ty p.terms p.forms (p.args.map Zai) c))):
 PC E 108 [.agg c.view,.agg p.view] (Zj0 (Zai p c).1 (Zai p c).2.1 (Zai p c).2.2):=by
 rw[Zmy]
 generalize Ziy p.kind p.index p.ty p.terms p.forms (p.args.map Zai) c=r at*
 obtain⟨f,u,e⟩:=r
 unfold Yax
 by_cases he:e=0
 case neg=>
  rw[if_pos he]
  refine M.F Tryz.func108 ?_
  repeat'(first|refine M.go ?_|refine M.c2 (hrl) ?_|((with_reducible refine D.aw ?_);(fail_if_success with_reducible refine D.stopR (id:=4) ?_);(fail_if_success with_reducible refine D.stopS (id:=4) ?_);first|refine M.ga ?_|refine AW.condS U (fun h=> ?_) (fun h=> ?_))|refine M.gk ?_|fail)
  all_goals first
   |rfl
   |(exfalso;simp at h;exact he h)
   |trace_state
 subst he
 rw[if_neg (by simp)]
 obtain⟨r1,r2,r3,r4⟩:=hr rfl
 simp only at r1 r2
 have hfl:=Zak f r1
 have h1:=Zaz f (by omega)
 by_cases hf:f.err=0
 case neg=>
  rw[if_pos hf]
  refine M.F Tryz.func108 ?_
  repeat'(first|refine M.go ?_|refine M.c2 (hrl) ?_|refine M.c2 (h1) ?_|((with_reducible refine D.aw ?_);(fail_if_success with_reducible refine D.stopR (id:=6) ?_);(fail_if_success with_reducible refine D.stopS (id:=6) ?_);first|refine M.ga ?_|refine AW.condS U (fun h=> ?_) (fun h=> ?_))|refine M.gk ?_|fail)
  all_goals first
   |rfl
   |(exfalso;simp at h;exact hf h)
   |trace_state
 rw[if_neg (by simp[hf])]
 have h2:=Zo9 f hf
 rw[hf] at h1
 cases hcf:Za3 f with
 |true=>
  rw[hcf] at h2
  rw[if_pos rfl]
  refine M.F Tryz.func108 ?_
  repeat'(first|refine M.gw ?_|refine M.c2 (hrl) ?_|refine M.c2 (h1) ?_|refine M.c2 (h2) ?_|fail)
  all_goals first
   |rfl
   |trace_state
 |false=>
  rw[hcf] at h2
  rw[if_neg (by simp)]
  refine M.F Tryz.func108 ?_
  repeat'(first|refine M.gw ?_|refine M.c2 (hrl) ?_|refine M.c2 (h1) ?_|refine M.c2 (h2) ?_|fail)
  all_goals first
   |rfl
   |trace_state
theorem Zu2{t:Tm}(hs:t.shape=true)(hz:t.size≤4096):t.full≤300000:=by have:=Zdf t hs;omega
theorem Zw6{f:Fm}(hs:f.shape=true)(hz:f.size≤4096):f.full≤300000:=by have:=Zak f hs;omega
section
variable {c:Ck}
theorem Zwi{s:Ty}{p:Pf}{r:Res}(h1:PC E 205 [.agg c.view,.agg (Pf.mk 8 0 s [] [] [p]).view] (Za8 r)):PC E 161 [.agg c.view,.agg (Pf.mk 8 0 s [] [] [p]).view] (Za8 r):=by
 refine M.F Tryz.func161 ?_
 repeat'(first|refine M.gw ?_|refine M.c2 (h1) ?_|((with_reducible refine D.blk ?_);refine AW.block ?_)|fail)
 rfl
theorem Zrb{s:Ty}{p:Pf}{r:Res}(h1:PC E 205 [.agg c.view,.agg (Pf.mk 12 0 s [] [] [p]).view] (Za8 r)):PC E 161 [.agg c.view,.agg (Pf.mk 12 0 s [] [] [p]).view] (Za8 r):=by
 refine M.F Tryz.func161 ?_
 repeat'(first|refine M.gw ?_|refine M.c2 (h1) ?_|((with_reducible refine D.blk ?_);refine AW.block ?_)|fail)
 rfl
theorem Zyk{t:Tm}{p:Pf}{r:Res}(h1:PC E 206 [.agg c.view,.agg (Pf.mk 9 0 (.mk 0 []) [t] [] [p]).view] (Za8 r)):PC E 161 [.agg c.view,.agg (Pf.mk 9 0 (.mk 0 []) [t] [] [p]).view] (Za8 r):=by
 refine M.F Tryz.func161 ?_
 repeat'(first|refine M.gw ?_|refine M.c2 (h1) ?_|((with_reducible refine D.blk ?_);refine AW.block ?_)|fail)
 rfl
theorem Zuw{t:Tm}{p:Pf}{r:Res}(h1:PC E 206 [.agg c.view,.agg (Pf.mk 13 0 (.mk 0 []) [t] [] [p]).view] (Za8 r)):PC E 161 [.agg c.view,.agg (Pf.mk 13 0 (.mk 0 []) [t] [] [p]).view] (Za8 r):=by
 refine M.F Tryz.func161 ?_
 repeat'(first|refine M.gw ?_|refine M.c2 (h1) ?_|((with_reducible refine D.blk ?_);refine AW.block ?_)|fail)
 rfl
theorem Zvg{t:Tm}{f:Fm}{p:Pf}{r:Res}(h1:PC E 207 [.agg c.view,.agg (Pf.mk 10 0 (.mk 0 []) [t] [f] [p]).view] (Za8 r)):PC E 161 [.agg c.view,.agg (Pf.mk 10 0 (.mk 0 []) [t] [f] [p]).view] (Za8 r):=by
 refine M.F Tryz.func161 ?_
 repeat'(first|refine M.gw ?_|refine M.c2 (h1) ?_|((with_reducible refine D.blk ?_);refine AW.block ?_)|fail)
 rfl
theorem Zu4{t:Tm}{f:Fm}{p:Pf}{r:Res}(h1:PC E 207 [.agg c.view,.agg (Pf.mk 14 0 (.mk 0 []) [t] [f] [p]).view] (Za8 r)):PC E 161 [.agg c.view,.agg (Pf.mk 14 0 (.mk 0 []) [t] [f] [p]).view] (Za8 r):=by
 refine M.F Tryz.func161 ?_
 repeat'(first|refine M.gw ?_|refine M.c2 (h1) ?_|((with_reducible refine D.blk ?_);refine AW.block ?_)|fail)
 rfl
theorem Zpu{p q:Pf}{r:Res}(h1:PC E 208 [.agg c.view,.agg (Pf.mk 11 0 (.mk 0 []) [] [] [p,q]).view] (Za8 r)):PC E 161 [.agg c.view,.agg (Pf.mk 11 0 (.mk 0 []) [] [] [p,q]).view] (Za8 r):=by
 refine M.F Tryz.func161 ?_
 repeat'(first|refine M.gw ?_|refine M.c2 (h1) ?_|((with_reducible refine D.blk ?_);refine AW.block ?_)|fail)
 rfl
theorem Zpo{p q:Pf}{r:Res}(h1:PC E 208 [.agg c.view,.agg (Pf.mk 15 0 (.mk 0 []) [] [] [p,q]).view] (Za8 r)):PC E 161 [.agg c.view,.agg (Pf.mk 15 0 (.mk 0 []) [] [] [p,q]).view] (Za8 r):=by
 refine M.F Tryz.func161 ?_
 repeat'(first|refine M.gw ?_|refine M.c2 (h1) ?_|((with_reducible refine D.blk ?_);refine AW.block ?_)|fail)
 rfl
theorem Zro{t:Tm}{f:Fm}{p q:Pf}{r:Res}(h1:PC E 209 [.agg c.view,.agg (Pf.mk 16 0 (.mk 0 []) [t] [f] [p,q]).view] (Za8 r)):PC E 161 [.agg c.view,.agg (Pf.mk 16 0 (.mk 0 []) [t] [f] [p,q]).view] (Za8 r):=by
 refine M.F Tryz.func161 ?_
 repeat'(first|refine M.gw ?_|refine M.c2 (h1) ?_|((with_reducible refine D.blk ?_);refine AW.block ?_)|fail)
 rfl
theorem Zqa{t:Tm}{f:Fm}{p q:Pf}{r:Res}(h1:PC E 210 [.agg c.view,.agg (Pf.mk 17 0 (.mk 0 []) [t] [f] [p,q]).view] (Za8 r)):PC E 161 [.agg c.view,.agg (Pf.mk 17 0 (.mk 0 []) [t] [f] [p,q]).view] (Za8 r):=by
 refine M.F Tryz.func161 ?_
 repeat'(first|refine M.gw ?_|refine M.c2 (h1) ?_|((with_reducible refine D.blk ?_);refine AW.block ?_)|fail)
 rfl
theorem Zl0{f:Fm}{p q:Pf}{r:Res}(h1:PC E 212 [.agg c.view,.agg (Pf.mk 19 0 (.mk 0 []) [] [f] [p,q]).view] (Za8 r)):PC E 161 [.agg c.view,.agg (Pf.mk 19 0 (.mk 0 []) [] [f] [p,q]).view] (Za8 r):=by
 refine M.F Tryz.func161 ?_
 repeat'(first|refine M.gw ?_|refine M.c2 (h1) ?_|((with_reducible refine D.blk ?_);refine AW.block ?_)|fail)
 rfl
theorem Zkq{p:Pf}{r:Res}(h1:PC E 213 [.agg c.view,.agg (Pf.mk 20 0 (.mk 0 []) [] [] [p]).view] (Za8 r)):PC E 161 [.agg c.view,.agg (Pf.mk 20 0 (.mk 0 []) [] [] [p]).view] (Za8 r):=by
 refine M.F Tryz.func161 ?_
 repeat'(first|refine M.gw ?_|refine M.c2 (h1) ?_|((with_reducible refine D.blk ?_);refine AW.block ?_)|fail)
 rfl
theorem Zvh{t:Tm}(hc:c.ok)(ht:t.full≤300000):PC E 161 [.agg c.view,.agg (Pf.mk 18 0 (.mk 0 []) [t] [] []).view] (Za8 (Zpe t c)):=by
 have h1:=Zb5 t t (by omega) (by omega)
 have h2:=Zs5 c t 1 (by omega) (by have:=hc.sum;omega)
 unfold Zpe
 refine M.F Tryz.func161 ?_
 repeat'(first|refine M.gw ?_|refine M.c2 (h1) ?_|refine M.c2 (h2) ?_|((with_reducible refine D.blk ?_);refine AW.block ?_)|fail)
 rfl
end
theorem Zxc(p:Pf):p.shape=true→p.small=true→InfC p:=by
 induction p using Pf.ind with
 |h p ih=>
  intro hs hm c hc
  refine Zp3 hc (Zwd hs hc) ?_
  obtain⟨h1,h2,h3,h4⟩:=yl hs
  obtain⟨m1,m2,m3⟩:=Zlo hm
  obtain⟨nd,n1,n2,n3,n4,n5,n6,n7,n8,n9⟩:=Zo3 hs
  have hA:∀a∈p.args,InfC a∧RsOk (Zai a):=fun a ha=>⟨ih a ha (h4 a ha) (m3 a ha),Zil a (h4 a ha)⟩
  have hT:∀t∈p.terms,t.full≤300000:=fun t ht=>Zu2 (h2 t ht) (m1 t ht)
  have hF:∀f∈p.forms,f.full≤300000:=fun f hf=>Zw6 (h3 f hf) (m2 f hf)
  have hS:∀f∈p.forms,f.shape=true:=h3
  have hk:p.kind=1∨p.kind=2∨p.kind=3∨p.kind=4∨p.kind=5∨p.kind=6∨p.kind=7∨p.kind=8∨p.kind=9∨p.kind=10∨p.kind=11∨p.kind=12∨p.kind=13∨p.kind=14∨p.kind=15∨p.kind=16∨p.kind=17∨p.kind=18∨p.kind=19∨p.kind=20:=by omega
  clear ih hs hm h1 h2 h3 h4 m1 m2 m3 n9
  obtain⟨k,i,s,ts,fs,zs⟩:=p
  simp only[Pf.kind,Pf.index,Pf.ty,Pf.terms,Pf.forms,Pf.args] at*
  have hroom:c.tys.length+1≤16→∀s:Ty,s.err=0→(c.below [s]).ok:=fun h s hs=>hc.below (l:=[s]) h (by simpa using hs)
  rcases hk with rfl|rfl|rfl|rfl|rfl|rfl|rfl|rfl|rfl|rfl|rfl|rfl|rfl|rfl|rfl|rfl|rfl|rfl|rfl|rfl
  all_goals(simp only[ndP,reduceIte,Int.reduceEq,or_false,false_or,or_true,true_or,Option.some.injEq] at n1)
  all_goals(subst n1)
  all_goals(simp only[forall_const,reduceCtorEq,false_implies,Bool.true_eq_false,Bool.false_eq_true] at n2 n3 n4 n6 n7 n8)
  all_goals(first|(obtain rfl:=ln0 n2)|(obtain⟨t,rfl⟩:=ln1 n2))
  all_goals(first|(obtain rfl:=ln0 n3)|(obtain⟨f,rfl⟩:=ln1 n3))
  all_goals(first|(obtain rfl:=ln0 n4)|(obtain⟨a,rfl⟩:=ln1 n4)|(obtain⟨a,b,rfl⟩:=ln2 n4))
  all_goals(try subst n6)
  all_goals(try subst n8)
  ·exact Zz9 hc i n5
  ·exact Zza hc i n5
  ·exact Zzi hc ((hA a (by simp)).1 c hc) ((hA b (by simp)).1 c hc) ((hA a (by simp)).2 c hc) ((hA b (by simp)).2 c hc)
  ·exact Zsx hc 0 (by omega) ((hA a (by simp)).1 c hc) ((hA a (by simp)).2 c hc)
  ·exact Zsx hc 1 (by omega) ((hA a (by simp)).1 c hc) ((hA a (by simp)).2 c hc)
  ·exact Zwq hc (hF f (by simp)) (fun t0 r0=>(hA a (by simp)).1 _ (hc.with_ (wd r0).2 (xo t0).1 (xo t0).2))
    (fun t0 r0=>by
     have ho:=hc.with_ (wd r0).2 (xo t0).1 (xo t0).2
     exact(Zqg ho ((hA a (by simp)).2 _ ho)).1)
  ·exact Zw8 hc ((hA a (by simp)).1 c hc) ((hA b (by simp)).1 c hc) ((hA a (by simp)).2 c hc) ((hA b (by simp)).2 c hc)
  ·exact Zwi (Zx3 hc (.inl rfl) n7 (fun r0=>(hA a (by simp)).1 _ (hroom (wd r0).1 s n7)) (fun r0=>Zqg (hroom (wd r0).1 s n7) ((hA a (by simp)).2 _ (hroom (wd r0).1 s n7))))
  ·exact Zyk (Ydo hc (.inl rfl) (hT t (by simp)) ((hA a (by simp)).1 c hc) ((hA a (by simp)).2 c hc))
  ·exact Zvg (Yby (r0:=Zai a) hc (.inl rfl) (hF f (by simp)) (hT t (by simp)) (Zc6 hc (by have:=Zki f;have:=hF f (by simp);omega) (hT t (by simp)) ((hA a (by simp)).1 c hc) ((hA a (by simp)).2 c hc)) (wi (hA a (by simp)).2 hc _ _))
  ·exact Zpu (Ztx (r0:=Zai a) (r1:=Zai b) hc (.inl rfl) rfl rfl ((hA a (by simp)).1 c hc) ((hA a (by simp)).2 c hc) (fun h=>(hA b (by simp)).1 _ h) (fun h=>(hA b (by simp)).2 _ h))
  ·exact Zrb (Zx3 hc (.inr rfl) n7 (fun r0=>(hA a (by simp)).1 _ (hroom (wd r0).1 s n7)) (fun r0=>Zqg (hroom (wd r0).1 s n7) ((hA a (by simp)).2 _ (hroom (wd r0).1 s n7))))
  ·exact Zuw (Ydo hc (.inr rfl) (hT t (by simp)) ((hA a (by simp)).1 c hc) ((hA a (by simp)).2 c hc))
  ·exact Zu4 (Yby (r0:=Zai a) hc (.inr rfl) (hF f (by simp)) (hT t (by simp)) (Zc6 hc (by have:=Zki f;have:=hF f (by simp);omega) (hT t (by simp)) ((hA a (by simp)).1 c hc) ((hA a (by simp)).2 c hc)) (wi (hA a (by simp)).2 hc _ _))
  ·exact Zpo (Ztx (r0:=Zai a) (r1:=Zai b) hc (.inr rfl) rfl rfl ((hA a (by simp)).1 c hc) ((hA a (by simp)).2 c hc) (fun h=>(hA b (by simp)).1 _ h) (fun h=>(hA b (by simp)).2 _ h))
  ·have hff:=hF f (by simp)
   exact Zro (Yc9 (r0:=Zai a) (r1:=Zai b) hc hff (hT t (by simp)) (Zc6 hc (by omega) (by decide) ((hA a (by simp)).1 c hc) ((hA a (by simp)).2 c hc))
    (fun h=>Zc6 h (by have:=(Zbp (hS f (by simp)) (fr:=1) (by_:=1) (by omega)).2.2;omega) (by decide) ((hA b (by simp)).1 _ h) ((hA b (by simp)).2 _ h))
    (wi (hA a (by simp)).2 hc _ _) (fun h=>by have:=wi (hA b (by simp)).2 h (f.lft 1 1) (sT (vT 0));simpa [Ck.below,Ck.with_] using this))
  ·have hff:=hF f (by simp)
   exact Zqa (Zy6 (r0:=Zai a) (r1:=Zai b) hc hff (hT t (by simp)) (Zc6 hc (by omega) (by decide) ((hA a (by simp)).1 c hc) ((hA a (by simp)).2 c hc))
    (fun h=>Zc6 h (by have:=(Zbp (hS f (by simp)) (fr:=1) (by_:=2) (by omega)).2.2;omega) (by decide) ((hA b (by simp)).1 _ h) ((hA b (by simp)).2 _ h))
    (wi (hA a (by simp)).2 hc _ _) (fun h=>by have:=wi (hA b (by simp)).2 h (f.lft 1 2) consM;simpa [Ck.below,Ck.with_] using this))
  ·exact Zvh hc (hT t (by simp))
  ·exact Zl0 (Zv2 (r0:=Zai a) (r1:=Zai b) hc rfl (hF f (by simp)) ((hA a (by simp)).1 c hc) ((hA a (by simp)).2 c hc) (fun t ht=>Zc6 hc (by have:=hF f (by simp);omega) ht ((hA b (by simp)).1 c hc) ((hA b (by simp)).2 c hc)))
  ·exact Zkq (Zuj (r0:=Zai a) hc rfl ((hA a (by simp)).1 c hc) ((hA a (by simp)).2 c hc))
theorem Ydt(lems hyps:List Fm)(tys:List Ty)(hl:∀f∈lems,f.full<274877906944)(hh:∀f∈hyps,f.full<274877906944)(ht:(tys.map Ty.size).sum<549755813888)(hll:lems.length<549755813888)(hhl:hyps.length<549755813888):
 PC E 106 [.s .fm lems,.agg [.s .ty tys,.s .fm hyps]] (.i (Zur lems tys hyps)):=by
 have h1:=Zen tys (by omega)
 unfold Zur
 by_cases c1:lems.length>32
 ·rw [if_pos c1]
  refine M.F Tryz.func106 ?_
  repeat'(first|refine M.go ?_|((with_reducible refine D.aw ?_);(fail_if_success with_reducible refine D.stopR (id:=3) ?_);(fail_if_success with_reducible refine D.stopS (id:=3) ?_);first|refine M.ga ?_|refine AW.condS U (fun h=> ?_) (fun h=> ?_))|refine M.gk ?_|fail)
  all_goals first
   |rfl
   |(exfalso;simp at h;omega)
   |trace_state
 rw[if_neg c1]
 refine M.F Tryz.func106 ?_
 repeat'(first|refine M.gw ?_|refine AW.condS U (fun h=> ?_) (fun h=> ?_)|fail)
 ·exfalso;simp at h;omega
 refine AW.range lems.length (fun m=>∀j (hj:j<lems.length),j<m→ym [] lems[j]=0)
  (fun m=>([(3,.ptr 0 0),(15,.s .fm lems),(16,.i lems.length),(17,.i m)],⟨1,[(0,.var [.s .ty tys,.s .fm hyps])]⟩))
  (by omega) (fun m=>rfl) (fun m=>rfl) rfl (fun j hj h=>by omega) (M.W [some 0]) ?_ ?_
 ·intro m hm hP
  have hc:=Zfh [] lems[m] (by have:=hl _ (List.getElem_mem hm);omega) (by simp)
  by_cases hx:ym [] lems[m]=0
  ·rw [hx] at hc
   repeat'(first|refine M.gw ?_|refine M.c2 (hc) ?_|fail)
   exact⟨rfl,yb (p:=fun f=>ym [] f=0) hm hP hx,(M.W [some 0])⟩
  ·have e:=Za5 hm hP hx
   rw[e,if_pos hx]
   repeat'(first|refine M.gw ?_|refine M.c2 (hc) ?_|refine AW.condS U (fun h=> ?_) (fun h=> ?_)|fail)
   all_goals first
    |rfl
    |(exfalso;rename_i h5;simp at h5;exact hx h5)
    |(exfalso;simp at h;exact hx h)
    |trace_state
 ·intro hP
  rw[wm fun j hj _=>hP j hj hj,if_neg (by simp)]
  by_cases c2:y6 tys=0
  case neg=>
   rw[if_pos c2]
   repeat'(first|refine M.go ?_|refine M.c2 (h1) ?_|((with_reducible refine D.aw ?_);(fail_if_success with_reducible refine D.stopR (id:=13) ?_);(fail_if_success with_reducible refine D.stopS (id:=13) ?_);first|refine M.ga ?_|refine AW.condS U (fun h=> ?_) (fun h=> ?_))|refine M.gk ?_|fail)
   all_goals first
    |rfl
    |(exfalso;simp at h;exact c2 h)
    |trace_state
  rw[if_neg (by simp[c2])]
  rw[c2] at h1
  by_cases c3:hyps.length>16
  ·rw [if_pos c3]
   repeat'(first|refine M.go ?_|refine M.c2 (h1) ?_|((with_reducible refine D.aw ?_);(fail_if_success with_reducible refine D.stopR (id:=15) ?_);(fail_if_success with_reducible refine D.stopS (id:=15) ?_);first|refine M.ga ?_|refine AW.condS U (fun h=> ?_) (fun h=> ?_))|refine M.gk ?_|fail)
   all_goals first
    |rfl
    |(exfalso;simp at h;omega)
    |trace_state
  rw[if_neg c3]
  repeat'(first|refine M.gw ?_|refine M.c2 (h1) ?_|refine AW.condS U (fun h=> ?_) (fun h=> ?_)|fail)
  ·exfalso;simp at h;omega
  refine AW.range hyps.length (fun m=>∀j (hj:j<hyps.length),j<m→ym tys hyps[j]=0)
   (fun m=>([(3,.ptr 0 0),(38,.s .fm hyps),(39,.i hyps.length),(40,.i m)],⟨1,[(0,.var [.s .ty tys,.s .fm hyps])]⟩))
   (by omega) (fun m=>rfl) (fun m=>rfl) rfl (fun j hj h=>by omega) (M.W [some 0]) ?_ ?_
  ·intro m hm hP2
   have hc:=Zfh tys hyps[m] (by have:=hh _ (List.getElem_mem hm);omega) (by omega)
   by_cases hx:ym tys hyps[m]=0
   ·rw [hx] at hc
    repeat'(first|refine M.gw ?_|refine M.c2 (hc) ?_|fail)
    exact⟨rfl,yb (p:=fun f=>ym tys f=0) hm hP2 hx,(M.W [some 0])⟩
   ·have e:=Za5 hm hP2 hx
    rw[e]
    repeat'(first|refine M.gw ?_|refine M.c2 (hc) ?_|refine AW.condS U (fun h=> ?_) (fun h=> ?_)|fail)
    all_goals first
     |rfl
     |(exfalso;rename_i h5;simp at h5;exact hx h5)
     |(exfalso;simp at h;exact hx h)
     |trace_state
  ·intro hP2
   rw[wm fun j hj _=>hP2 j hj hj]
   repeat'(first|refine M.gw ?_|fail)
   rfl
theorem Zwt(lems hyps:List Fm)(tys:List Ty)(p:Pf)(hl:∀f∈lems,f.full<274877906944)(hh:∀f∈hyps,f.full<274877906944)(ht:(tys.map Ty.size).sum<549755813888)(hll:lems.length<549755813888)(hhl:hyps.length<549755813888)(hp:p.full<274877906944):
 PC E 37 [.s .fm lems,.agg [.s .ty tys,.s .fm hyps],.agg p.view] (Zj0 (Ze5 lems tys hyps p).1 (Ze5 lems tys hyps p).2.1 (Ze5 lems tys hyps p).2.2):=by
 have h1:=Ydt lems hyps tys hl hh ht hll hhl
 have h2:=Zko p (by omega)
 unfold Ze5
 by_cases c1:Zur lems tys hyps=0
 case neg=>
  rw[if_pos c1]
  refine M.F Tryz.func37 ?_
  repeat'(first|refine M.go ?_|refine M.c2 (h1) ?_|((with_reducible refine D.aw ?_);(fail_if_success with_reducible refine D.stopR (id:=4) ?_);(fail_if_success with_reducible refine D.stopS (id:=4) ?_);first|refine M.ga ?_|refine AW.condS U (fun h=> ?_) (fun h=> ?_))|refine M.gk ?_|fail)
  all_goals first
   |rfl
   |(exfalso;simp at h;exact c1 h)
   |trace_state
 rw[if_neg (by simp[c1])]
 rw[c1] at h1
 by_cases c2:p.err=0
 case neg=>
  rw[if_pos c2]
  refine M.F Tryz.func37 ?_
  repeat'(first|refine M.go ?_|refine M.c2 (h1) ?_|refine M.c2 (h2) ?_|((with_reducible refine D.aw ?_);(fail_if_success with_reducible refine D.stopR (id:=7) ?_);(fail_if_success with_reducible refine D.stopS (id:=7) ?_);first|refine M.ga ?_|refine AW.condS U (fun h=> ?_) (fun h=> ?_))|refine M.gk ?_|fail)
  all_goals first
   |rfl
   |(exfalso;simp at h;exact c2 h)
   |trace_state
 rw[if_neg (by simp[c2])]
 rw[c2] at h2
 obtain⟨ps,pm,_⟩:=(Pf.err_iff p).1 c2
 have hok:=Zz0 c1
 have h3:PC E 108 [.agg [.s .fm lems,.s .ty tys,.s .fm hyps],.agg p.view] (Zj0 (Zai p ⟨lems,tys,hyps⟩).1 (Zai p ⟨lems,tys,hyps⟩).2.1 (Zai p ⟨lems,tys,hyps⟩).2.2):=Zxc p ps pm ⟨lems,tys,hyps⟩ hok
 have hro:=Zil p ps ⟨lems,tys,hyps⟩ hok
 generalize Zai p ⟨lems,tys,hyps⟩=r at*
 obtain⟨f,u,e⟩:=r
 have hb:=Zqg hok hro
 have h4:=w9 _ f (Nat.le_refl _) (by omega)
 by_cases he:e=0
 ·subst he
  refine M.F Tryz.func37 ?_
  repeat'(first|refine M.gw ?_|refine M.c2 (h1) ?_|refine M.c2 (h2) ?_|refine M.c2 (h3) ?_|refine M.c2 (h4) ?_|fail)
  rfl
 ·have e1:=hro.2 he
  simp only[ya,Prod.mk.injEq] at e1
  obtain⟨rfl,rfl,_⟩:=e1
  refine M.F Tryz.func37 ?_
  repeat'(first|refine M.go ?_|refine M.c2 (h1) ?_|refine M.c2 (h2) ?_|refine M.c2 (h3) ?_|((with_reducible refine D.aw ?_);(fail_if_success with_reducible refine D.stopR (id:=10) ?_);(fail_if_success with_reducible refine D.stopS (id:=10) ?_);first|refine M.ga ?_|refine AW.condS U (fun h=> ?_) (fun h=> ?_))|refine M.gk ?_|fail)
  all_goals first
   |rfl
   |(exfalso;simp at h;exact he h)
   |trace_state
theorem Zkr(p:Pf):(p.shape=false∧p.err=2∧p.num=0)∨(p.shape=true∧(p.small=false∨p.size>16384)∧p.err=4∧p.num=0)∨(p.shape=true∧p.small=true∧p.size≤16384∧p.err=0∧p.num=p.size):=by
 unfold Pf.num Pf.err
 cases hs:p.shape with
 |false=>simp
 |true=>
  by_cases h:p.small=false∨p.size>16384
  ·simp [h]
  ·have h':=h
   rw[not_or,Bool.not_eq_false] at h'
   simp[h,h'.1];omega
theorem Zky(p:Pf)(hp:p.full<274877906944):PC E 85 [.agg p.view] (.tup [.i p.num,.i p.err]):=by
 have ht:=Zwe _ p (0,false) (Nat.le_refl _) hp (by simp only;omega)
 obtain⟨t1,t2,t3⟩:=Zqr p (0,false)
 rw[t1] at ht
 have hsz:=p.size_le_full
 rcases Zkr p with⟨h1,h2,h3⟩|⟨h1,h2,h3,h4⟩|⟨h1,h2,h3,h4,h5⟩
 ·rw [h2,h3]
  rw[h1] at ht
  refine M.F Tryz.func85 ?_
  repeat'(first|refine M.gw ?_|refine M.cb (ht) [1] 0 ?_|((with_reducible refine D.sblk ?_);refine K.sq (AW.block ?_))|fail)
  rfl
 ·rw [h3,h4]
  rw[h1] at ht
  obtain⟨t4,t5⟩:=t3 h1
  rw[t4] at ht
  cases hm:p.small with
  |false=>
   rw[hm] at ht
   refine M.F Tryz.func85 ?_
   repeat'(first|refine M.gw ?_|refine M.cb (ht) [1] 0 ?_|((with_reducible refine D.sblk ?_);refine K.sq (AW.block ?_))|fail)
   rfl
  |true=>
   have t6:=t5 hm
   have h6:p.size>16384:=by rcases h2 with h2|h2;rw[hm] at h2;cases h2;exact h2
   rw[hm,t6] at ht
   simp only[Nat.zero_add,Bool.not_true,Bool.or_false] at ht
   refine M.F Tryz.func85 ?_
   repeat'(first|refine M.gw ?_|refine M.cb (ht) [1] 0 ?_|((with_reducible refine D.sblk ?_);refine K.sq (AW.block ?_))|refine AW.condS U (fun h=> ?_) (fun h=> ?_)|fail)
   all_goals first
    |rfl
    |(exfalso;simp at h;omega)
    |trace_state
 ·rw [h4,h5]
  rw[h1] at ht
  obtain⟨t4,t5⟩:=t3 h1
  have t6:=t5 h2
  rw[t4,h2,t6] at ht
  simp only[Nat.zero_add,Bool.not_true,Bool.or_false] at ht
  refine M.F Tryz.func85 ?_
  repeat'(first|refine M.gw ?_|refine M.cb (ht) [1] 0 ?_|((with_reducible refine D.sblk ?_);refine K.sq (AW.block ?_))|refine AW.condS U (fun h=> ?_) (fun h=> ?_)|fail)
  all_goals first
   |rfl
   |(exfalso;simp at h;omega)
   |trace_state
theorem Ze0(p:Pf)(hp:p.full<274877906944):PC E 87 [.agg p.view] (.i p.err):=by
 have h1:=Zky p hp
 refine M.F Tryz.func87 ?_
 repeat'(first|refine M.gw ?_|refine M.c2 (h1) ?_|fail)
 rfl
def Ybm(p:Pf):Pf×Int:=if p.err=0 then(p,0) else(Zuq,4)
inductive Ch where
 |tm (t:Tm)|fm (f:Fm)|pf (p:Pf)
def Ch.cell:Ch→V
 | .tm t=> .ifc 44 t.view
 | .fm f=> .ifc 65 f.view
 | .pf p=> .ifc 38 p.view
def Ch.err:Ch→Int
 | .tm t=>t.err| .fm f=>f.err| .pf p=>p.err
def Ch.full:Ch→Nat
 | .tm t=>t.full| .fm f=>f.full| .pf p=>p.full
def chV(l:List Ch):V:= .slice .any (.u 1 (l.map fun x=>[x.cell]))
def Yew(l:List Ch)(p:Pf):Pf×Int:=if y9 Ch.err l≠0 then(Zuq,y9 Ch.err l) else Ybm p
theorem Zoe(a b:Tm):(eqF a b).full=2+a.full+b.full:=by
 simp only[eqF,Fm.full,Fm.fulls,List.map_cons,List.map_nil,List.sum_cons,List.sum_nil,Ty.size,Ty.sizes];omega
theorem Zed(i:Int):(vT i).full=2:=by simp only[vT,Tm.full,Tm.fulls,Ty.size,Ty.sizes]
theorem Zee(f x:Tm):(apT f x).full=2+f.full+x.full:=by
 simp only[apT,Tm.full,Tm.fulls,Ty.size,Ty.sizes];omega
theorem Zne(i:Int):PC E 31 [.i i] (.agg (va i).view):=by
 refine M.F Tryz.func31 ?_
 repeat'(first|refine M.gw ?_|fail)
 rfl
theorem Yau(d:Dk)(hd:d.ok):AC E 10 [.ptr 0 0] ⟨1,[(0,.var d.cells)]⟩ (.agg [.s .ty d.ctx.1,.s .fm d.sqH]) ⟨1,[(0,.var d.sqD.cells)]⟩:=by
 have h1:=Zty d hd
 have h2:=ud d.ctx.2 3 (Dk.ctx_ok hd) (by omega)
 have hb:=Dk.next_bd d.ctx.2 3 (by omega)
 have hg:=d.ctx_smalls
 have hgl:=d.ctx_len
 obtain⟨c,hc⟩:∃c:Nat,(d.ctx.2.next 3).1=c:=⟨(d.ctx.2.next 3).1.toNat,by omega⟩
 have hcn:d.sqN=c:=by unfold Dk.sqN;omega
 have hdo:=Dk.next_ok (Dk.ctx_ok hd) 3
 rw[hc] at h2 hb
 have eH:d.sqH=(Dk.fms c (d.ctx.2.next 3).2 d.ctx.1).1:=by unfold Dk.sqH;rw[hcn]
 have eD:d.sqD=(Dk.fms c (d.ctx.2.next 3).2 d.ctx.1).2:=by unfold Dk.sqD;rw[hcn]
 rw[eH,eD]
 generalize d.ctx.1=g at*
 generalize (d.ctx.2.next 3).2=d2 at*
 refine M.F Tryz.func10 ?_
 repeat'(first|refine M.gw ?_|refine M.cb (h1) [0] 0 ?_|refine M.cb (h2) [0] 0 ?_|fail)
 refine AW.down c (fun m=>m≤c)
  (fun m=>([(0,.ptr 0 0),(2,.ptr 1 0),(3,.ptr 2 0),(4,.i m)],⟨4,[(0,.var (Dk.fms (c-m) d2 g).2.cells),(1,.var [.slice .nil (.t .ty []),.slice .nil (.t .fm [])]),(2,.var [.s .ty g,.slice (.own 3) (.t .fm (Dk.fms (c-m) d2 g).1)]),(3,.row)]⟩))
  (by omega) (fun m=>rfl) rfl (Nat.le_refl _) ?_ ?_ ?_
 ·simp only[Nat.sub_self]
  exact(M.W [some 0,some 1,some 2,none])
 ·intro m hm hP
  have e:=Dk.fms_snoc (c-(m+1)) d2 g
  rw[show c-(m+1)+1=c-m by omega] at e
  have h3:=Zs2 2 (Dk.fms (c-(m+1)) d2 g).2 g 2 (by omega) rfl (Dk.fms_ok _ _ _ hdo) hg (by omega)
  have hl:=Dk.fms_len (c-(m+1)) d2 g
  repeat'(first|refine M.gw ?_|refine M.cb (h3) [0] 0 ?_|fail)
  refine⟨rfl,by omega,?_⟩
  simp only[e]
  exact(M.W [some 0,some 1,some 2,some 4])
 ·intro _
  simp only[Nat.sub_zero]
  repeat'(first|refine M.gw ?_|fail)
  (exact M.n2 [some 0] (h8:=(by simp[zi,V.wk,V.wks,za,Ty.view,Tm.view,V.frz])))
def exC:Ck:=⟨[],[natT,natT],[eqF (vT 0) (vT 1)]⟩
theorem Ye6(a:Int)(s:Tm)(ha:0≤a∧a<100000000000)(hs:s.full<274877906944)(hsi:∀p∈s.vars 0,0≤p.1∧p.1<549755813888)(t:Tm)(bl:Int)(ht:t.full<274877906944)(hb:0≤bl∧bl<100000000000)(hix:∀p∈t.vars 0,0≤p.1∧p.1<549755813888):
 AC E 127 [.agg t.view,.i bl,.ptr 0 0,.ptr 1 0] ⟨2,[(0,.var [.i a]),(1,.var s.view)]⟩ (.agg (t.re (y5 (a+bl) s) 0).view) ⟨2,[(0,.var [.i a]),(1,.var s.view)]⟩:=by
 have hc:=Ybf t (a+bl) s (by omega) hs hsi ht hix
 generalize t.re (y5 (a+bl) s) 0=u at*
 refine M.F Tryz.func127 ?_
 repeat'(first|refine M.gw ?_|refine M.c2 (hc) ?_|fail)
 (exact M.n2 [some 0,some 1] (h8:=(by simp[zi,V.wk,V.wks,za,Ty.view,Tm.view,hc])))
theorem Ye5(a:Int)(s:Tm)(ha:0≤a∧a<100000000000)(hs:s.full<274877906944)(hsi:∀p∈s.vars 0,0≤p.1∧p.1<549755813888)(f:Fm)(bl:Int)(ht:f.full<137438953472)(hb:0≤bl∧bl<100000000000)(hix:∀p∈f.tms 0,∀q∈p.1.vars 0,0≤q.1∧q.1<549755813888):
 AC E 129 [.agg f.view,.i bl,.ptr 0 0,.ptr 1 0] ⟨2,[(0,.var [.i a]),(1,.var s.view)]⟩ (.agg (f.put (a+bl) s).view) ⟨2,[(0,.var [.i a]),(1,.var s.view)]⟩:=by
 have hc:=Zz6 f (a+bl) s (by omega) hs hsi ht hix
 generalize f.put (a+bl) s=F at*
 refine M.F Tryz.func129 ?_
 repeat'(first|refine M.gw ?_|refine M.c2 (hc) ?_|fail)
 (exact M.n2 [some 0,some 1] (h8:=(by simp[zi,V.wk,V.wks,za,Ty.view,Tm.view,Fm.view])))
theorem Ybg(a:Int)(s:Tm)(ha:0≤a∧a<10000000000)(hs0:s.full<274877906944)(hsi:∀p∈s.vars 0,0≤p.1∧p.1<549755813888):∀(n:Nat) (p:Pf) (v y:Int),p.full≤n→n<10000000000→(0≤v∧v+2*n≤50000000000)→(0≤y∧y+2*n≤50000000000)→p.nd→p.ix 549755813888→
 AC E 126 [.agg p.view,.agg [.i v,.i y],.agg [.fn (.func 127) [] [.ptr 0 0,.ptr 1 0],.fn (.func 129) [] [.ptr 0 0,.ptr 1 0],.nilf]] ⟨2,[(0,.var [.i a]),(1,.var s.view)]⟩ (.agg (p.pt a s v).view) ⟨2,[(0,.var [.i a]),(1,.var s.view)]⟩:=by
 intro n
 induction n with
 |zero=>intro p v y hz;have:=p.full_pos;omega
 |succ n ih=>
 intro p v y hz hn hv hh hs hix
 obtain⟨i1,i2,i3⟩:=(Pf.ix_iff _ p).1 hix
 have hre:=p.pt_eq a s v
 have hsz':=p.full_eq
 have hlen:=zc Pf.full Pf.full_pos p.args
 have hlen1:=zc Fm.full Fm.full_pos p.forms
 have hlen2:=zc Tm.full Tm.full_pos p.terms
 have hty:=Zjp _ p.ty (Nat.le_refl _) (by omega)
 have hru:=Zck p.kind
 obtain⟨⟨nd,n1,n4⟩,hpf⟩:=(Pf.nd_iff p).1 hs
 have hal:p.args.length≤2:=by
  rw[n4]
  unfold ndP at n1
  repeat(split at n1;· cases n1;decide)
  cases n1
 have hpl:=fun(m:Nat) (hm:m≤1000000)=>vu p.kind v y nd n1 m hm (by omega) (by omega)
 have e2:ruC p.kind=[.bool nd.index,.bool nd.typ,.i nd.terms,.i nd.forms,.i nd.args,.i (fvK p.kind),.i (vaK p.kind),.i (hyK p.kind)]:=by unfold ruC;rw[n1]
 have b1:0≤vaK p.kind∧vaK p.kind≤2:=by unfold vaK;split<;>(try split)<;>omega
 have b2:0≤hyK p.kind∧hyK p.kind≤1:=by unfold hyK;split<;>omega
 have b3:0≤fvK p.kind∧fvK p.kind≤1:=by unfold fvK;split<;>omega
 rw[n1] at hru
 simp only[Option.isSome_some] at hru
 rw[e2] at hru
 simp only[e2] at hpl
 refine M.F Tryz.func126 ?_
 repeat'(first|refine M.gw ?_|refine M.c2 (hru) ?_|refine M.c2 (hty) ?_|((fail_if_success refine AX.wt U ?_);refine AX.gs U U (fun _=>trivial) (fun h=> ?_) (fun h=> ?_))|fail)
 all_goals
  refine AW.range p.terms.length (fun m=>True)
   (fun m=>([(3,.ptr 2 0),(4,.ptr 3 0),(5,.ptr 4 0),(6,.ptr 5 0),(7,.ptr 6 0),(9,.ptr 7 0),(44,.s .tm p.terms),(45,.i p.terms.length),(46,.i m)],⟨9,[(0,.var [.i a]),(1,.var s.view),(2,.var p.view),(3,.var [.i v,.i y]),(4,.var [.fn (.func 127) [] [.ptr 0 0,.ptr 1 0],.fn (.func 129) [] [.ptr 0 0,.ptr 1 0],.nilf]),(5,.var [.i 0,.i 0,.i 0,.slice .nil (.t .ty []),.slice .nil (.t .tm []),.slice .nil (.t .fm []),.slice .nil (.t .pf [])]),(6,.var [.bool nd.index,.bool nd.typ,.i nd.terms,.i nd.forms,.i nd.args,.i (fvK p.kind),.i (vaK p.kind),.i (hyK p.kind)]),(7,.var [.i p.kind,.i p.index,.i p.ty.kind,.s .ty p.ty.args,.slice (.own 8) (.t .tm ((p.terms.take m).map fun t=>t.re (y5 (a+v) s) 0)),.slice .nil (.t .fm []),.slice .nil (.t .pf [])]),(8,.row)]⟩))
   (by omega) (fun m=>rfl) (fun m=>rfl) rfl trivial (M.W [some 0,some 1,some 2,some 3,some 4,some 5,some 6,some 7,none]) ?_ ?_
  ·intro m hm _
   have hs2:=zb Tm.full (List.getElem_mem hm)
   have hc:=Ye6 a s (by omega) hs0 hsi p.terms[m] v (by omega) (by omega) (i1 _ (List.getElem_mem hm))
   repeat'(first|refine M.gw ?_|refine M.cv (hc) [0,1] 0 ?_|fail)
   exact⟨rfl,trivial,(M.W [some 0,some 1,some 2,some 3,some 4,some 5,some 6,some 7,some 10] (he:=(by(repeat'(first|exact trivial|exact Or.inr ⟨_,U,rfl⟩|refine And.intro ?_ ?_|refine⟨_,U,_,U,_,U,?_⟩|exact VLe.refl _|exact VLe.of_eq (by simp[Sto.upd,yc _ _ _ hm])));done)))⟩
  ·intro _
   simp only[List.take_length]
   repeat'(first|refine M.gw ?_|fail)
   refine AW.range p.forms.length (fun m=>True)
    (fun m=>([(3,.ptr 2 0),(4,.ptr 3 0),(5,.ptr 4 0),(6,.ptr 5 0),(7,.ptr 6 0),(9,.ptr 7 0),(73,.s .fm p.forms),(74,.i p.forms.length),(75,.i m)],⟨10,[(0,.var [.i a]),(1,.var s.view),(2,.var p.view),(3,.var [.i v,.i y]),(4,.var [.fn (.func 127) [] [.ptr 0 0,.ptr 1 0],.fn (.func 129) [] [.ptr 0 0,.ptr 1 0],.nilf]),(5,.var [.i 0,.i 0,.i 0,.slice .nil (.t .ty []),.slice .nil (.t .tm []),.slice .nil (.t .fm []),.slice .nil (.t .pf [])]),(6,.var [.bool nd.index,.bool nd.typ,.i nd.terms,.i nd.forms,.i nd.args,.i (fvK p.kind),.i (vaK p.kind),.i (hyK p.kind)]),(7,.var [.i p.kind,.i p.index,.i p.ty.kind,.s .ty p.ty.args,.slice (.own 8) (.t .tm (p.terms.map fun t=>t.re (y5 (a+v) s) 0)),.slice (.own 9) (.t .fm ((p.forms.take m).map fun f=>f.put (a+(v+fvK p.kind)) s)),.slice .nil (.t .pf [])]),(8,.row),(9,.row)]⟩))
    (by omega) (fun m=>rfl) (fun m=>rfl) rfl trivial (M.W [some 0,some 1,some 2,some 3,some 4,some 5,some 6,some 7,some 8,none]) ?_ ?_
   ·intro m hm _
    have hs2:=zb Fm.full (List.getElem_mem hm)
    have hc:=Ye5 a s (by omega) hs0 hsi p.forms[m] (v+fvK p.kind) (by omega) (by omega) (i2 _ (List.getElem_mem hm))
    repeat'(first|refine M.gw ?_|refine M.cv (hc) [0,1] 0 ?_|fail)
    exact⟨rfl,trivial,(M.W [some 0,some 1,some 2,some 3,some 4,some 5,some 6,some 7,some 8,some 11] (he:=(by(repeat'(first|exact trivial|exact Or.inr ⟨_,U,rfl⟩|refine And.intro ?_ ?_|refine⟨_,U,_,U,_,U,?_⟩|exact VLe.refl _|exact VLe.of_eq (by simp[Sto.upd,yc _ _ _ hm])));done)))⟩
   ·intro _
    simp only[List.take_length]
    repeat'(first|refine M.gw ?_|fail)
    refine AW.range p.args.length (fun m=>True)
     (fun m=>([(3,.ptr 2 0),(4,.ptr 3 0),(5,.ptr 4 0),(6,.ptr 5 0),(7,.ptr 6 0),(9,.ptr 7 0),(105,.s .pf p.args),(106,.i p.args.length),(107,.i m)],⟨11,[(0,.var [.i a]),(1,.var s.view),(2,.var p.view),(3,.var [.i v,.i y]),(4,.var [.fn (.func 127) [] [.ptr 0 0,.ptr 1 0],.fn (.func 129) [] [.ptr 0 0,.ptr 1 0],.nilf]),(5,.var [.i 0,.i 0,.i 0,.slice .nil (.t .ty []),.slice .nil (.t .tm []),.slice .nil (.t .fm []),.slice .nil (.t .pf [])]),(6,.var [.bool nd.index,.bool nd.typ,.i nd.terms,.i nd.forms,.i nd.args,.i (fvK p.kind),.i (vaK p.kind),.i (hyK p.kind)]),(7,.var [.i p.kind,.i p.index,.i p.ty.kind,.s .ty p.ty.args,.slice (.own 8) (.t .tm (p.terms.map fun t=>t.re (y5 (a+v) s) 0)),.slice (.own 9) (.t .fm (p.forms.map fun f=>f.put (a+(v+fvK p.kind)) s)),.slice (.own 10) (.t .pf ((Pf.pts a s v (vaK p.kind) p.args).take m))]),(8,.row),(9,.row),(10,.row)]⟩))
     (by omega) (fun m=>rfl) (fun m=>rfl) rfl trivial (M.W [some 0,some 1,some 2,some 3,some 4,some 5,some 6,some 7,some 8,some 9,none]) ?_ ?_
    ·intro m hm _
     have hs2:=zb Pf.full (List.getElem_mem hm)
     have hb:=hpl m (by omega)
     have hc:=ih p.args[m] (if m+1=p.args.length then v+vaK p.kind else v) (if(m:Int)=(nd.args:Int)-1 then y+hyK p.kind else y) (by omega) (by omega) (by split<;>omega) (by split<;>omega) (hpf _ (List.getElem_mem hm)) (i3 _ (List.getElem_mem hm))
     have ev:(if(m:Int)=(nd.args:Int)-1 then v+vaK p.kind else v)=(if m+1=p.args.length then v+vaK p.kind else v):=by
      by_cases hx:m+1=p.args.length
      ·rw [if_pos hx,if_pos (by omega)]
      ·rw [if_neg hx,if_neg (by omega)]
     rw[ev] at hb
     repeat'(first|refine M.gw ?_|refine M.c2 (hb) ?_|refine M.cv (hc) [0,1] 0 ?_|fail)
     exact⟨rfl,trivial,(M.W [some 0,some 1,some 2,some 3,some 4,some 5,some 6,some 7,some 8,some 9,some 12] (he:=(by(repeat'(first|exact trivial|exact Or.inr ⟨_,U,rfl⟩|refine And.intro ?_ ?_|refine⟨_,U,_,U,_,U,?_⟩|exact VLe.refl _|exact VLe.of_eq (by simp[Sto.upd,Zvr hm])));done)))⟩
    ·intro _
     simp only[Zzt]
     repeat'(first|refine M.gw ?_|fail)
     rw[hre]
     (exact M.n2 [some 0,some 1] (h8:=(by simp[zi,V.wk,V.wks,za,Ty.view,Tm.view,hre])))
theorem Ycx(p:Pf)(a:Int)(s:Tm)(ha:0≤a∧a<10000000000)(hs0:s.full<274877906944)(hsi:∀p∈s.vars 0,0≤p.1∧p.1<549755813888)(hp:p.full<5000000000)(hs:p.nd)(hix:p.ix 549755813888):
 PC E 66 [.agg p.view,.i a,.agg s.view] (.agg (p.pt a s 0).view):=by
 have hc:=Ybg a s ha hs0 hsi _ p 0 0 (Nat.le_refl _) (by omega) (by omega) (by omega) hs hix
 generalize p.pt a s 0=P at*
 refine M.F Tryz.func66 ?_
 repeat'(first|refine M.gw ?_|refine M.cv (hc) [1,2] 0 ?_|fail)
 simp[zi,V.wk,V.wks,za,Ty.view,Tm.view]
end Go.Ab
