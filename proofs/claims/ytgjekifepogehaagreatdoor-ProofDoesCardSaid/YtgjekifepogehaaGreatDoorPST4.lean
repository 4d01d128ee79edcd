/- A part of this seat's proofs. No conditions. -/
import Derived.Test.YtgjekifepogehaaGreatDoorPST3
namespace Go.Ab
open Go Go.Proofs
set_option maxRecDepth 100000
set_option maxHeartbeats 4000000
set_option linter.all false
section
variable {c:Ck} (hc:c.ok) {p q:Pf} {r0 r1:Rs}
include hc
theorem X0{k:Int}(hk:k=11\/k=15){f0 f1:Fm}{u0 u1:List Int}{e0 e1:Int}(hr0:r0 c=(f0,u0,e0))(hr1:I6 r1 c f0=(f1,u1,e1))
 (hp:PC E 135 [.agg c.view,.agg p.view] (FD f0 u0 e0)) (o0:GV c (f0,u0,e0))
 (hq:((c.below [f0.ty]).AH (f0.args.getD 0 Bf)).ok->PC E 135 [.agg ((c.below [f0.ty]).AH (f0.args.getD 0 Bf)).view,.agg q.view] (FD f1 u1 e1))
 (o1:((c.below [f0.ty]).AH (f0.args.getD 0 Bf)).ok->GV ((c.below [f0.ty]).AH (f0.args.getD 0 Bf)) (f1,u1,e1)):
 PC E 235 [.agg c.view,.agg (Pf.mk k 0 (.mk 0 []) [] [] [p,q]).view] (CY (MV k r0 r1 c)):=by
 have hl:=hc.len;have hn:=hc.nh;have b0:=HI hc o0;unfold MV;rw[hr0];simp only[hr1];by_cases he:e0=0;case neg=>
  rw[if_pos he];refine M.F Tryz.func235 ?_;(repeat' first|refine M.o1 @hp ?_|refine M.z1 4 ?_|refine M.cs ?_ ?_<;>intro h|refine M.gk ?_|fail);all_goals first
   |rfl
   |(exfalso;simp at h;exact he h)
   |trace_state
 subst he;rw[if_neg dZ];have ho:=o0.1 rfl;have s0:=(Fm.Ad _).1 ho.1;by_cases hkd:f0.kind=kI k 15 7 5;case neg=>
  rw[if_pos hkd];rcases hk with rfl|rfl;all_goals
   refine M.F Tryz.func235 ?_;(repeat' first|refine M.o1 @hp ?_|refine M.z1 9 ?_|refine M.cs ?_ ?_<;>intro h|refine M.gk ?_|fail);all_goals first
    |rfl
    |(exfalso;simp at h;exact hkd h)
    |trace_state
 rw[if_neg (by simp[hkd])];have hkk:4<=f0.kind/\f0.kind<=7:=iY
 obtain⟨x,e⟩:=Ja s0.1 hkk;have hx:f0.args.getD 0 Bf=x:=by simp only at e;rw[e];rfl
 have hte:=J1 s0.1 hkk;have ex:=uk ho.1 (x:=x) (by simp only at e;rw[show(f0,u0,(0:Int)).1=f0 from rfl,e];simp[BK]);have ok0:=ho.2.1;simp only at e hte ok0;rw[e] at ok0;have o1':=Lc hkk ok0;rw[hx] at hq o1;clear ok0 hr1 hr0 s0 hx;generalize f0.ty=s at*;rw[hkd] at e;subst e;have h1:=Og c 1 1 dY dY;by_cases hr:c.room 1 1=0;case neg=>
  rw[if_pos hr];rw[MQ hr] at h1;rcases hk with rfl|rfl;all_goals
   simp only[kI] at*;refine M.F Tryz.func235 ?_;refine M.w2 @hp @h1 ?_;all_goals first
    |rfl
    |trace_state
 rw[if_neg (by simp[hr])];have hro:=va hr;rw[hr] at h1;have hb:((c.below [s]).AH x).ok:=(hc.below (l:=[s]) hro.1 (by simpa using hte)).AH (by simpa[Ck.below] using hro.2) ex o1';have h2:=PI c hc [s] dZ dZ;have h3:=Pj (c.below [s]) x gZ;have h4:=hq hb;have o1b:=o1 hb;have b1:=HI hb o1b;by_cases he1:e1=0;case neg=>
  rw[if_pos he1];rcases hk with rfl|rfl;all_goals
   simp only[kI] at*;refine M.F Tryz.func235 ?_;(repeat' first|refine M.o5 @hp @h1 @h2 @h3 @h4 ?_|refine M.z1 15 ?_|refine M.cs ?_ ?_<;>intro h|refine M.gk ?_|fail);all_goals first
    |rfl
    |(exfalso;simp at h;exact he1 h)
    |trace_state
 subst he1;rw[if_neg dZ];have hf1:=o1b.1 rfl;simp only at hf1;have s1:=(Fm.Ad _).1 hf1.1;have h5:=Ve _ f1 0 (ZB _) dY dY dY s1.1;have hu:=Ym u1;have hou:=Pk u1 1 dY dY b1.2.2;have hol:=PJ u1 1;have hun:=Jw u0 (EH u1 1) dY dY;have h6:=Zwv _ f1 (ZB _) dY;by_cases t0:xq 0 f1=0;case pos=>
  have ef:Fw f1=(f1,0):=by unfold Fw;rw[if_pos t0]
  rw[ef];rw[decide_eq_false gL] at h5;have h7:=h6;have hup:=GZ (hf1.2.1) s1.1 dY (by simp[Ck.below,Ck.AH];omega) 1 (-1) dY dY;rw[if_neg dZ];rcases hk with rfl|rfl
  .rw[if_neg dZ];simp only[kI] at*;refine M.F Tryz.func235 ?_;(repeat' first|refine M.w6 @hp @h1 @h2 @h3 @h4 @h5 ?_|refine M.c2 (hup) ?_|refine M.c2 (hou) ?_|refine M.c2 (hun) ?_|fail);all_goals first
    |rfl
    |trace_state
  .simp only[kI] at*;cases hh:LR u1 with
   |true=>
    rw[hh] at hu;rw[if_pos dZ];refine M.F Tryz.func235 ?_;(repeat' first|refine M.w6 @hp @h1 @h2 @h3 @h4 @h5 ?_|refine M.c2 (hu) ?_|fail);all_goals first
     |rfl
     |trace_state
   |false=>
    rw[hh] at hu;rw[if_neg dZ];refine M.F Tryz.func235 ?_;(repeat' first|refine M.w6 @hp @h1 @h2 @h3 @h4 @h5 ?_|refine M.c2 (hu) ?_|refine M.c2 (hup) ?_|refine M.c2 (hou) ?_|refine M.c2 (hun) ?_|fail);all_goals first
     |rfl
     |trace_state
 rw[decide_eq_true t0] at h5;by_cases n0:(wo f1).2=0;case neg=>
  have ef:Fw f1=(Bf,(wo f1).2):=by unfold Fw;rw[if_neg t0,if_pos n0]
  rw[ef,if_pos n0];rcases hk with rfl|rfl;all_goals
   simp only[kI] at*;refine M.F Tryz.func235 ?_;(repeat' first|refine M.o6 @hp @h1 @h2 @h3 @h4 @h5 ?_|refine M.c2 (h6) ?_|refine M.z1 20 ?_|refine M.cs ?_ ?_<;>intro h|refine M.gk ?_|fail);all_goals first
    |rfl
    |(exfalso;simp at h;exact n0 h)
    |trace_state
 rw[n0] at h6;obtain⟨nk,ns,nz,no⟩:=Zu f1 n0 s1.1;have nfl:=JK (wo f1).1 ns;have h7:=Ve _ (wo f1).1 0 (ZB _) dY dY dY ns;by_cases n1:xq 0 (wo f1).1=0;case neg=>
  have ef:Fw f1=(Bf,6):=by unfold Fw;rw[if_neg t0,if_neg (by simp[n0]),if_pos n1]
  rw[ef,if_pos ej];rw[decide_eq_true n1] at h7;rcases hk with rfl|rfl;all_goals
   simp only[kI] at*;refine M.F Tryz.func235 ?_;(repeat' first|refine M.w6 @hp @h1 @h2 @h3 @h4 @h5 ?_|refine M.c2 (h6) ?_|refine M.c2 (h7) ?_|fail);all_goals first
    |rfl
    |trace_state
 case pos=>
  have ef:Fw f1=((wo f1).1,0):=by unfold Fw;rw[if_neg t0,if_neg (by simp[n0]),if_neg (by simp[n1])]
  rw[ef];rw[decide_eq_false (by simp[n1])] at h7;have hup:=GZ (no _ hf1.2.1) ns dY (by simp[Ck.below,Ck.AH];omega) 1 (-1) dY dY;rw[if_neg dZ];rcases hk with rfl|rfl
  .rw[if_neg dZ];simp only[kI] at*;refine M.F Tryz.func235 ?_;(repeat' first|refine M.w6 @hp @h1 @h2 @h3 @h4 @h5 ?_|refine M.c2 (h6) ?_|refine M.c2 (h7) ?_|refine M.c2 (hup) ?_|refine M.c2 (hou) ?_|refine M.c2 (hun) ?_|fail);all_goals first
    |rfl
    |trace_state
  .simp only[kI] at*;cases hh:LR u1 with
   |true=>
    rw[hh] at hu;rw[if_pos dZ];refine M.F Tryz.func235 ?_;(repeat' first|refine M.w6 @hp @h1 @h2 @h3 @h4 @h5 ?_|refine M.c2 (h6) ?_|refine M.c2 (h7) ?_|refine M.c2 (hu) ?_|fail);all_goals first
     |rfl
     |trace_state
   |false=>
    rw[hh] at hu;rw[if_neg dZ];refine M.F Tryz.func235 ?_;(repeat' first|refine M.w6 @hp @h1 @h2 @h3 @h4 @h5 ?_|refine M.c2 (h6) ?_|refine M.c2 (h7) ?_|refine M.c2 (hu) ?_|refine M.c2 (hup) ?_|refine M.c2 (hou) ?_|refine M.c2 (hun) ?_|fail);all_goals first
     |rfl
     |trace_state
end
section
variable {c:Ck} (hc:c.ok) {p q:Pf} {r0 r1:Rs}
include hc
theorem Ybj{f:Fm}{f0:Fm}{u0:List Int}{e0:Int}(hr0:r0 c=(f0,u0,e0))(hf:f.full<=300000)
 (hp:PC E 135 [.agg c.view,.agg p.view] (FD f0 u0 e0)) (o0:GV c (f0,u0,e0))
 (hpb:∀t:Tm,t.full<=300000->PC E 257 [.agg c.view,.agg q.view,.agg f.view,.agg t.view] (.AM [.s .int (xo r1 c f t).1,.i (xo r1 c f t).2])):
 PC E 239 [.agg c.view,.agg (Pf.mk 19 0 (.mk 0 []) [] [f] [p,q]).view] (CY (Ot f r0 r1 c)):=by
 have hl:=hc.len;have hsum:=hc.sum;have h1:=OU (c.tys++[Ae]) f dY (hc.one Jg) eB;have h5:=uq;unfold Ot;rw[hr0];by_cases t0:um (c.tys++[Ae]) f=0;case neg=>
  rw[if_pos t0];refine M.F Tryz.func239 ?_;(repeat' first|refine M.o2 @h5 @h1 ?_|refine M.z1 5 ?_|refine M.cs ?_ ?_<;>intro h|refine M.gk ?_|fail);all_goals first
   |rfl
   |(exfalso;simp at h;exact t0 h)
   |trace_state
 rw[if_neg gL];rw[t0] at h1;by_cases he:e0=0;case neg=>
  rw[if_pos he];refine M.F Tryz.func239 ?_;(repeat' first|refine M.o3 @h5 @h1 @hp ?_|refine M.z1 8 ?_|refine M.cs ?_ ?_<;>intro h|refine M.gk ?_|fail);all_goals first
   |rfl
   |(exfalso;simp at h;exact he h)
   |trace_state
 subst he;rw[if_neg dZ];by_cases hk:f0.kind=1;case neg=>
  rw[if_pos hk];refine M.F Tryz.func239 ?_;(repeat' first|refine M.o3 @h5 @h1 @hp ?_|refine M.z1 10 ?_|refine M.cs ?_ ?_<;>intro h|refine M.gk ?_|fail);all_goals first
   |rfl
   |(exfalso;simp at h;exact hk h)
   |trace_state
 rw[if_neg (by simp[hk])];have ho:=o0.1 rfl;obtain⟨x,y,e⟩:=RH ((Fm.Ad _).1 ho.1).1 hk;simp only at e;subst e;have ex:=VD ho.1 (t:=x) (by simp[Bv]);have ey:=VD ho.1 (t:=y) (by simp[Bv]);have h2:=hpb x (by have:=yd ex;omega);have h3:=L8 f y dY (by have:=yd ey;omega);have e1:((Bv x y).terms.getD 0 Da)=x:=rfl;have e2:((Bv x y).terms.getD 1 Da)=y:=rfl;simp only[e1,e2];generalize xo r1 c f x=a at*;by_cases ea:a.2=0;case neg=>
  rw[if_pos ea];refine M.F Tryz.func239 ?_;(repeat' first|refine M.o4 @h5 @h1 @hp @h2 ?_|refine M.z1 13 ?_|refine M.cs ?_ ?_<;>intro h|refine M.gk ?_|fail);all_goals first
   |rfl
   |(exfalso;simp at h;exact ea h)
   |trace_state
 rw[if_neg (by simp[ea])];rw[ea] at h2;refine M.F Tryz.func239 ?_;refine M.w5 @h5 @h1 @hp @h2 @h3 ?_;all_goals first
  |rfl
  |trace_state
theorem Zzm{f0:Fm}{u0:List Int}{e0:Int}(hr0:r0 c=(f0,u0,e0))
 (hp:PC E 135 [.agg c.view,.agg p.view] (FD f0 u0 e0)) (o0:GV c (f0,u0,e0)):
 PC E 240 [.agg c.view,.agg (Pf.mk 20 0 (.mk 0 []) [] [] [p]).view] (CY (Oj r0 c)):=by
 have hl:=hc.len;unfold Oj;rw[hr0];by_cases he:e0=0;case neg=>
  rw[if_pos he];refine M.F Tryz.func240 ?_;(repeat' first|refine M.o1 @hp ?_|refine M.z1 4 ?_|refine M.cs ?_ ?_<;>intro h|refine M.gk ?_|fail);all_goals first
   |rfl
   |(exfalso;simp at h;exact he h)
   |trace_state
 subst he;rw[if_neg dZ];have ho:=o0.1 rfl;have s0:=(Fm.Ad _).1 ho.1;by_cases hk:f0.kind=4;case neg=>
  rw[if_pos (.inl hk)];refine M.F Tryz.func240 ?_;(repeat' first|refine M.o1 @hp ?_|refine M.gs ?_ ?_<;>intro h|refine M.z1 6 ?_|refine M.cs ?_ ?_<;>intro h|refine M.gk ?_|fail);all_goals first
   |rfl
   |(exfalso;simp at h;exact hk h)
   |(exfalso;rename_i h1;simp at h1;exact hk h1)
   |trace_state
 obtain⟨x,e⟩:=Ja s0.1 fT;have hte:=J1 s0.1 fT;simp only at e hte;have ex:=uk ho.1 (x:=x) jx;have sx:=(Fm.Ad _).1 ex;have ok0:=ho.2.1;simp only at ok0;generalize f0.ty=s at*;rw[hk] at e;subst e;have e1:((BK 4 s x).args.getD 0 Bf)=x:=rfl;have o1:=Lc dY ok0;by_cases hk2:x.kind=5;case neg=>
  rw[if_pos (.inr (by rw[e1];exact hk2))];refine M.F Tryz.func240 ?_;(repeat' first|refine M.o1 @hp ?_|refine M.z1 6 ?_|refine M.cs ?_ ?_<;>intro h|refine M.gk ?_|fail);all_goals first
   |rfl
   |(exfalso;simp at h;exact hk2 h)
   |trace_state
 rw[if_neg (by rintro(h|h);exact h hk;exact h (by rw[e1];exact hk2))];obtain⟨y,e⟩:=Ja sx.1 dY;have hte2:=J1 sx.1 dY;have ey:=uk ex (x:=y) (by rw[e];simp[BK]);have sy:=(Fm.Ad _).1 ey;generalize x.ty=u at*;rw[hk2] at e;subst e;have o2:=Lc dY o1;have zs:=((Ty.Ad s).1 hte).2;have zu:=((Ty.Ad u).1 hte2).2;have h1:=KY s u dY dY;have h2:=L9 (xn s u) gV;have e2:Nv (BK 4 s (BK 5 u y))=xn s u:=rfl;have e3:ML (BK 4 s (BK 5 u y))=D7 (y.Bi 2 1) F6:=rfl;simp only[e2,e3];by_cases ef:(xn s u).err=0;case neg=>
  rw[if_pos ef];refine M.F Tryz.func240 ?_;(repeat' first|refine M.o3 @hp @h1 @h2 ?_|refine M.z1 10 ?_|refine M.cs ?_ ?_<;>intro h|refine M.gk ?_|fail);all_goals first
   |rfl
   |(exfalso;simp at h;exact ef h)
   |trace_state
 rw[if_neg (by simp[ef])];rw[ef] at h2;have h3:=GZ o2 sy.1 dY eB 2 1 dY dY;have h4:=E7 1;have h4':=E7 0;have h5:=Dh 3 [vT 1,vT 0] iV;have hlf:=Lf sy.1 (fr:=2) (by_:=1) dY;have h6:=L8 (y.Bi 2 1) F6 (by rw[hlf.2.2];have:=yw ey;omega) ej;have hb:=XD (y.Bi 2 1) F6;have h7:=G9 4 s (D7 (y.Bi 2 1) F6).1 dY dY;have h8:=G9 5 (xn s u) (.mk 4 s [] [(D7 (y.Bi 2 1) F6).1]) gV (by simp only[Fm.full,Fm.Av,Z2,aN];omega);refine M.F Tryz.func240 ?_;(repeat' first|refine M.w6 @hp @h1 @h2 @h3 @h4 @h4' ?_|refine M.c2 (h5) ?_|refine M.c2 (h6) ?_|refine M.c2 (h7) ?_|refine M.c2 (h8) ?_|fail);all_goals first
  |rfl
  |trace_state
end
section
variable {c:Ck} (hc:c.ok) {p q:Pf} {r0 r1:Rs}
include hc
theorem Yf2{f:Fm}{t:Tm}(hf:f.full<=300000)(ht:t.full<=300000)
 (hpa:PC E 257 [.agg c.view,.agg p.view,.agg f.view,.agg Ej.view] (.AM [.s .int (xo r0 c f Ej).1,.i (xo r0 c f Ej).2]))
 (hpb:((c.below [Ae,Ao]).AH (f.Bi 1 1)).ok->PC E 257 [.agg ((c.below [Ae,Ao]).AH (f.Bi 1 1)).view,.agg q.view,.agg (f.Bi 1 2).view,.agg CH.view] (.AM [.s .int (xo r1 ((c.below [Ae,Ao]).AH (f.Bi 1 1)) (f.Bi 1 2) CH).1,.i (xo r1 ((c.below [Ae,Ao]).AH (f.Bi 1 1)) (f.Bi 1 2) CH).2]))
 (hua:Be c.tys.length (xo r0 c f Ej).1) (hub:((c.below [Ae,Ao]).AH (f.Bi 1 1)).ok->Be (c.tys.length+2) (xo r1 ((c.below [Ae,Ao]).AH (f.Bi 1 1)) (f.Bi 1 2) CH).1):
 PC E 237 [.agg c.view,.agg (Pf.mk 17 0 (.mk 0 []) [t] [f] [p,q]).view] (CY (MO f t r0 r1 c)):=by
 have hl:=hc.len;have hn:=hc.nh;have hsum:=hc.sum;have hul:=hua.len;have h1:=OU (c.tys++[Ao]) f dY (hc.one M8) eB;have h2:=TU c t 2 dY dY;have h3:=Dh 7 [] dZ;have h4:=Og c 2 1 dY dY;have h5:=uq;have h6:=PI c hc [Ae,Ao] dZ dZ;have h7:=Pj (c.below [Ae,Ao]) (f.Bi 1 1) gZ;have h9:=E7 0;have h9':=E7 1;have h5':=Ga;have h10:=Dh 8 [vT 1,vT 0] iV;have h11:=L8 f t dY dY;unfold MO;generalize hA:xo r0 c f Ej=a at*;generalize hB:xo r1 ((c.below [Ae,Ao]).AH (f.Bi 1 1)) (f.Bi 1 2) CH=b at*;by_cases e0:um (c.tys++[Ao]) f=0;case neg=>
  rw[if_pos e0];refine M.F Tryz.func237 ?_;(repeat' first|refine M.o2 @h5' @h1 ?_|refine M.z1 5 ?_|refine M.cs ?_ ?_<;>intro h|refine M.gk ?_|fail);all_goals first
   |rfl
   |(exfalso;simp at h;exact e0 h)
   |trace_state
 rw[if_neg (by simp[e0])];rw[e0] at h1;obtain⟨f1,f2⟩:=L3 (hc.one M8) e0;have s0:=(Fm.Ad _).1 f1;by_cases e1:F8 c t 2=0;case neg=>
  rw[if_pos e1];refine M.F Tryz.func237 ?_;(repeat' first|refine M.o3 @h5' @h1 @h2 ?_|refine M.z1 8 ?_|refine M.cs ?_ ?_<;>intro h|refine M.gk ?_|fail);all_goals first
   |rfl
   |(exfalso;simp at h;exact e1 h)
   |trace_state
 rw[if_neg (by simp[e1])];rw[e1] at h2;obtain⟨te,ti⟩:=YZ e1;by_cases e2:a.2=0;case neg=>
  rw[if_pos e2];refine M.F Tryz.func237 ?_;(repeat' first|refine M.o5 @h5' @h1 @h2 @h3 @hpa ?_|refine M.z1 11 ?_|refine M.cs ?_ ?_<;>intro h|refine M.gk ?_|fail);all_goals first
   |rfl
   |(exfalso;simp at h;exact e2 h)
   |trace_state
 rw[if_neg (by simp[e2])];rw[e2] at hpa;by_cases e3:c.room 2 1=0;case neg=>
  rw[if_pos e3];rw[MQ e3] at h4;refine M.F Tryz.func237 ?_;refine M.w6 @h5' @h1 @h2 @h3 @hpa @h4 ?_;all_goals first
   |rfl
   |trace_state
 rw[if_neg (by simp[e3])];rw[e3] at h4;have hr:=va e3;have hb:((c.below [Ae,Ao]).AH (f.Bi 1 1)).ok:=(hc.below (l:=[Ae,Ao]) hr.1 (by simp[Jg,M8])).AH gG (Mr f1 dY) (by simpa[Ck.below] using Ld (g:=c.tys) (h:=[Ao]) [Ae] s0.1 f2);have h8:=GZ f2 s0.1 dY eB 1 1 dY dY;have h8':=GZ f2 s0.1 dY eB 1 2 dY dY;have h12:=hpb hb;have hub':=hub hb;by_cases e4:b.2=0;case neg=>
  rw[if_pos e4];refine M.F Tryz.func237 ?_;(repeat' first|refine M.o6 @h5 @h5' @h1 @h2 @h3 @hpa ?_|refine M.c2 (h4) ?_|refine M.c2 (h6) ?_|refine M.c2 (h7) ?_|refine M.c2 (h8) ?_|refine M.c2 (h8') ?_|refine M.c2 (h9) ?_|refine M.c2 (h9') ?_|refine M.c2 (h10) ?_|refine M.c2 (h12) ?_|refine M.z1 17 ?_|refine M.cs ?_ ?_<;>intro h|refine M.gk ?_|fail);all_goals first
   |rfl
   |(exfalso;simp at h;exact e4 h)
   |trace_state
 rw[if_neg (by simp[e4])];rw[e4] at h12;have hfr:=PD t te ti dY;have hfl:=(I0 ti).len;have hun:=Jw (F9 t) a.1 dY dY;have hlu:Be c.tys.length (ur (F9 t) a.1):= .union (I0 ti).2 hua.2;have hll:=hlu.len;have hbl:=hub'.len;have hou:=Pk b.1 2 dY dY (fun x hx=>by have:=hub'.2 x hx;omega);have hol:=PJ b.1 2;have hun2:=Jw (ur (F9 t) a.1) (EH b.1 2) dY dY;refine M.F Tryz.func237 ?_;(repeat' first|refine M.w6 @h5 @h5' @h1 @h2 @h3 @hpa ?_|refine M.c2 (h4) ?_|refine M.c2 (h6) ?_|refine M.c2 (h7) ?_|refine M.c2 (h8) ?_|refine M.c2 (h8') ?_|refine M.c2 (h9) ?_|refine M.c2 (h9') ?_|refine M.c2 (h10) ?_|refine M.c2 (h12) ?_|refine M.c2 (h11) ?_|refine M.c2 (hfr) ?_|refine M.c2 (hun) ?_|refine M.c2 (hou) ?_|refine M.c2 (hun2) ?_|fail);all_goals first
  |rfl
  |trace_state
end
def M7(p:Pf):Prop:=∀c:Ck,c.ok->PC E 135 [.agg c.view,.agg p.view] (FD (CP p c).1 (CP p c).2.1 (CP p c).2.2)
theorem Zoo{p:Pf}(h:p.small=true):(∀t∈p.terms,t.size<=4096)/\(∀f∈p.Aa,f.size<=4096)/\∀x∈p.args,x.small=true:=by
 rw[p.Cl] at h;simp only[ZC,ZH,decide_eq_true_eq] at h;exact⟨h.1.1,h.1.2,h.2⟩
theorem Zs8{p:Pf}{c:Ck}(hc:c.ok)(hr:ul c (Jh p.kind p.index p.ty p.terms p.Aa (p.args.map CP) c))
 (hrl:PC E 196 [.agg c.view,.agg p.view] (CY (Jh p.kind p.index p.ty p.terms p.Aa (p.args.map CP) c))):
 PC E 135 [.agg c.view,.agg p.view] (FD (CP p c).1 (CP p c).2.1 (CP p c).2.2):=by
 rw[SG];generalize Jh p.kind p.index p.ty p.terms p.Aa (p.args.map CP) c=r at*;obtain⟨f,u,e⟩:=r;unfold L6;by_cases he:e=0;case neg=>
  rw[if_pos he];refine M.F Tryz.func135 ?_;(repeat' first|refine M.o1 @hrl ?_|refine M.z1 4 ?_|refine M.cs ?_ ?_<;>intro h|refine M.gk ?_|fail);all_goals first
   |rfl
   |(exfalso;simp at h;exact he h)
   |trace_state
 subst he;rw[if_neg dZ];obtain⟨r1,r2,r3,r4⟩:=hr rfl;simp only at r1 r2;have hfl:=JK f r1;have h1:=LX f dY;by_cases hf:f.err=0;case neg=>
  rw[if_pos hf];refine M.F Tryz.func135 ?_;(repeat' first|refine M.o2 @hrl @h1 ?_|refine M.z1 6 ?_|refine M.cs ?_ ?_<;>intro h|refine M.gk ?_|fail);all_goals first
   |rfl
   |(exfalso;simp at h;exact hf h)
   |trace_state
 rw[if_neg (by simp[hf])];have h2:=Ztb f hf;rw[hf] at h1;cases hcf:E2 f with
 |true=>
  rw[hcf] at h2;rw[if_pos rfl];refine M.F Tryz.func135 ?_;refine M.w3 @hrl @h1 @h2 ?_;all_goals first
   |rfl
   |trace_state
 |false=>
  rw[hcf] at h2;rw[if_neg dZ];refine M.F Tryz.func135 ?_;refine M.w3 @hrl @h1 @h2 ?_;all_goals first
   |rfl
   |trace_state
theorem Ybe{t:Tm}(hs:t.shape=true)(hz:t.size<=4096):t.full<=300000:=by have:=Mx t hs;omega
theorem Zzv{f:Fm}(hs:f.shape=true)(hz:f.size<=4096):f.full<=300000:=by have:=JK f hs;omega
section
variable {c:Ck}
theorem Yao{s:Ty}{p:Pf}{r:C8}(h1:PC E 232 [.agg c.view,.agg (Pf.mk 8 0 s [] [] [p]).view] (CY r)):PC E 196 [.agg c.view,.agg (Pf.mk 8 0 s [] [] [p]).view] (CY r):=by
 exact j9
theorem Zwr{s:Ty}{p:Pf}{r:C8}(h1:PC E 232 [.agg c.view,.agg (Pf.mk 12 0 s [] [] [p]).view] (CY r)):PC E 196 [.agg c.view,.agg (Pf.mk 12 0 s [] [] [p]).view] (CY r):=by
 exact j9
theorem Yf4{t:Tm}{p:Pf}{r:C8}(h1:PC E 233 [.agg c.view,.agg (Pf.mk 9 0 (.mk 0 []) [t] [] [p]).view] (CY r)):PC E 196 [.agg c.view,.agg (Pf.mk 9 0 (.mk 0 []) [t] [] [p]).view] (CY r):=by
 exact j9
theorem Ycg{t:Tm}{p:Pf}{r:C8}(h1:PC E 233 [.agg c.view,.agg (Pf.mk 13 0 (.mk 0 []) [t] [] [p]).view] (CY r)):PC E 196 [.agg c.view,.agg (Pf.mk 13 0 (.mk 0 []) [t] [] [p]).view] (CY r):=by
 exact j9
theorem Zz4{t:Tm}{f:Fm}{p:Pf}{r:C8}(h1:PC E 234 [.agg c.view,.agg (Pf.mk 10 0 (.mk 0 []) [t] [f] [p]).view] (CY r)):PC E 196 [.agg c.view,.agg (Pf.mk 10 0 (.mk 0 []) [t] [f] [p]).view] (CY r):=by
 exact j9
theorem Ycu{t:Tm}{f:Fm}{p:Pf}{r:C8}(h1:PC E 234 [.agg c.view,.agg (Pf.mk 14 0 (.mk 0 []) [t] [f] [p]).view] (CY r)):PC E 196 [.agg c.view,.agg (Pf.mk 14 0 (.mk 0 []) [t] [f] [p]).view] (CY r):=by
 exact j9
theorem Zs7{p q:Pf}{r:C8}(h1:PC E 235 [.agg c.view,.agg (Pf.mk 11 0 (.mk 0 []) [] [] [p,q]).view] (CY r)):PC E 196 [.agg c.view,.agg (Pf.mk 11 0 (.mk 0 []) [] [] [p,q]).view] (CY r):=by
 exact j9
theorem Zth{p q:Pf}{r:C8}(h1:PC E 235 [.agg c.view,.agg (Pf.mk 15 0 (.mk 0 []) [] [] [p,q]).view] (CY r)):PC E 196 [.agg c.view,.agg (Pf.mk 15 0 (.mk 0 []) [] [] [p,q]).view] (CY r):=by
 exact j9
theorem Zxg{t:Tm}{f:Fm}{p q:Pf}{r:C8}(h1:PC E 236 [.agg c.view,.agg (Pf.mk 16 0 (.mk 0 []) [t] [f] [p,q]).view] (CY r)):PC E 196 [.agg c.view,.agg (Pf.mk 16 0 (.mk 0 []) [t] [f] [p,q]).view] (CY r):=by
 exact j9
theorem Ztm{t:Tm}{f:Fm}{p q:Pf}{r:C8}(h1:PC E 237 [.agg c.view,.agg (Pf.mk 17 0 (.mk 0 []) [t] [f] [p,q]).view] (CY r)):PC E 196 [.agg c.view,.agg (Pf.mk 17 0 (.mk 0 []) [t] [f] [p,q]).view] (CY r):=by
 exact j9
theorem Zp9{f:Fm}{p q:Pf}{r:C8}(h1:PC E 239 [.agg c.view,.agg (Pf.mk 19 0 (.mk 0 []) [] [f] [p,q]).view] (CY r)):PC E 196 [.agg c.view,.agg (Pf.mk 19 0 (.mk 0 []) [] [f] [p,q]).view] (CY r):=by
 exact j9
theorem Zng{p:Pf}{r:C8}(h1:PC E 240 [.agg c.view,.agg (Pf.mk 20 0 (.mk 0 []) [] [] [p]).view] (CY r)):PC E 196 [.agg c.view,.agg (Pf.mk 20 0 (.mk 0 []) [] [] [p]).view] (CY r):=by
 exact j9
theorem Yck{t:Tm}(hc:c.ok)(ht:t.full<=300000):PC E 196 [.agg c.view,.agg (Pf.mk 18 0 (.mk 0 []) [t] [] []).view] (CY (Mb t c)):=by
 have h1:=HW t t dY dY;have h2:=TU c t 1 dY (by have:=hc.sum;omega);unfold Mb;refine M.F Tryz.func196 ?_;refine M.v2 @h1 @h2 ?_
 rfl
end
theorem Yaz(p:Pf):p.shape=true->p.small=true->M7 p:=by
 induction p using Pf.ind with
 |h p ih=>
  intro hs hm c hc;refine Zs8 hc (Yal hs hc) ?_;obtain⟨h1,h2,h3,h4⟩:=zk hs;obtain⟨m1,m2,m3⟩:=Zoo hm;obtain⟨nd,n1,n2,n3,n4,n5,n6,n7,n8,n9⟩:=Jq hs;have hA:∀a∈p.args,M7 a/\Cq (CP a):=fun a ha=>⟨ih a ha (h4 a ha) (m3 a ha),Ql a (h4 a ha)⟩;have hT:∀t∈p.terms,t.full<=300000:=fun t ht=>Ybe (h2 t ht) (m1 t ht);have hF:∀f∈p.Aa,f.full<=300000:=fun f hf=>Zzv (h3 f hf) (m2 f hf);have hS:∀f∈p.Aa,f.shape=true:=h3;have hk:p.kind=1\/p.kind=2\/p.kind=3\/p.kind=4\/p.kind=5\/p.kind=6\/p.kind=7\/p.kind=8\/p.kind=9\/p.kind=10\/p.kind=11\/p.kind=12\/p.kind=13\/p.kind=14\/p.kind=15\/p.kind=16\/p.kind=17\/p.kind=18\/p.kind=19\/p.kind=20:=dY
  clear ih hs hm h1 h2 h3 h4 m1 m2 m3 n9;obtain⟨k,i,s,ts,fs,zs⟩:=p;simp only[Pf.kind,Pf.index,Pf.ty,Pf.terms,Pf.Aa,Pf.args] at*;have hroom:c.tys.length+1<=16->∀s:Ty,s.err=0->(c.below [s]).ok:=fun h s hs=>hc.below (l:=[s]) h (by simpa using hs);rcases hk with rfl|rfl|rfl|rfl|rfl|rfl|rfl|rfl|rfl|rfl|rfl|rfl|rfl|rfl|rfl|rfl|rfl|rfl|rfl|rfl;all_goals(simp only[BZ,reduceIte,Int.reduceEq,or_false,false_or,or_true,true_or,ZI] at n1)
  all_goals(subst n1)
  all_goals(simp only[forall_const,reduceCtorEq,false_implies,Bool.true_eq_false,Bool.false_eq_true] at n2 n3 n4 n6 n7 n8)
  all_goals(first|(obtain rfl:=RX n2)|(obtain⟨t,rfl⟩:=TW n2))
  all_goals(first|(obtain rfl:=RX n3)|(obtain⟨f,rfl⟩:=TW n3))
  all_goals(first|(obtain rfl:=RX n4)|(obtain⟨a,rfl⟩:=TW n4)|(obtain⟨a,b,rfl⟩:=ln2 n4))
  all_goals(try subst n6)
  all_goals(try subst n8)
  .exact Yfn hc i n5
  .exact Ygz hc i n5
  .exact Ygx hc ((hA a dZ).1 c hc) ((hA b dZ).1 c hc) ((hA a dZ).2 c hc) ((hA b dZ).2 c hc)
  .exact Zv hc 0 dY ((hA a dZ).1 c hc) ((hA a dZ).2 c hc)
  .exact Zv hc 1 dY ((hA a dZ).1 c hc) ((hA a dZ).2 c hc)
  .exact Zzx hc (hF f dZ) (fun t0 r0=>(hA a dZ).1 _ (hc.AH (va r0).2 (wd t0).1 (wd t0).2))
    (fun t0 r0=>by
     have ho:=hc.AH (va r0).2 (wd t0).1 (wd t0).2;exact(HI ho ((hA a dZ).2 _ ho)).1)
  .exact Yah hc ((hA a dZ).1 c hc) ((hA b dZ).1 c hc) ((hA a dZ).2 c hc) ((hA b dZ).2 c hc)
  .exact Yao (Xc hc (.inl rfl) n7 (fun r0=>(hA a dZ).1 _ (hroom (va r0).1 s n7)) (fun r0=>HI (hroom (va r0).1 s n7) ((hA a dZ).2 _ (hroom (va r0).1 s n7))))
  .exact Yf4 (XO hc (.inl rfl) (hT t dZ) ((hA a dZ).1 c hc) ((hA a dZ).2 c hc))
  .exact Zz4 (YF (r0:=CP a) hc (.inl rfl) (hF f dZ) (hT t dZ) (KT hc (by have:=Zk f;have:=hF f dZ;omega) (hT t dZ) ((hA a dZ).1 c hc) ((hA a dZ).2 c hc)) (vh (hA a dZ).2 hc _ _))
  .exact Zs7 (X0 (r0:=CP a) (r1:=CP b) hc (.inl rfl) rfl rfl ((hA a dZ).1 c hc) ((hA a dZ).2 c hc) (fun h=>(hA b dZ).1 _ h) (fun h=>(hA b dZ).2 _ h))
  .exact Zwr (Xc hc (.inr rfl) n7 (fun r0=>(hA a dZ).1 _ (hroom (va r0).1 s n7)) (fun r0=>HI (hroom (va r0).1 s n7) ((hA a dZ).2 _ (hroom (va r0).1 s n7))))
  .exact Ycg (XO hc (.inr rfl) (hT t dZ) ((hA a dZ).1 c hc) ((hA a dZ).2 c hc))
  .exact Ycu (YF (r0:=CP a) hc (.inr rfl) (hF f dZ) (hT t dZ) (KT hc (by have:=Zk f;have:=hF f dZ;omega) (hT t dZ) ((hA a dZ).1 c hc) ((hA a dZ).2 c hc)) (vh (hA a dZ).2 hc _ _))
  .exact Zth (X0 (r0:=CP a) (r1:=CP b) hc (.inr rfl) rfl rfl ((hA a dZ).1 c hc) ((hA a dZ).2 c hc) (fun h=>(hA b dZ).1 _ h) (fun h=>(hA b dZ).2 _ h))
  .have hff:=hF f dZ;exact Zxg (Yi9 (r0:=CP a) (r1:=CP b) hc hff (hT t dZ) (KT hc dY ej ((hA a dZ).1 c hc) ((hA a dZ).2 c hc))
    (fun h=>KT h (by have:=(Lf (hS f dZ) (fr:=1) (by_:=1) dY).2.2;omega) ej ((hA b dZ).1 _ h) ((hA b dZ).2 _ h))
    (vh (hA a dZ).2 hc _ _) (fun h=>by have:=vh (hA b dZ).2 h (f.Bi 1 1) (sT (vT 0));simpa[Ck.below,Ck.AH] using this))
  .have hff:=hF f dZ;exact Ztm (Yf2 (r0:=CP a) (r1:=CP b) hc hff (hT t dZ) (KT hc dY ej ((hA a dZ).1 c hc) ((hA a dZ).2 c hc))
    (fun h=>KT h (by have:=(Lf (hS f dZ) (fr:=1) (by_:=2) dY).2.2;omega) ej ((hA b dZ).1 _ h) ((hA b dZ).2 _ h))
    (vh (hA a dZ).2 hc _ _) (fun h=>by have:=vh (hA b dZ).2 h (f.Bi 1 2) CH;simpa[Ck.below,Ck.AH] using this))
  .exact Yck hc (hT t dZ)
  .exact Zp9 (Ybj (r0:=CP a) (r1:=CP b) hc rfl (hF f dZ) ((hA a dZ).1 c hc) ((hA a dZ).2 c hc) (fun t ht=>KT hc (by have:=hF f dZ;omega) ht ((hA b dZ).1 c hc) ((hA b dZ).2 c hc)))
  .exact Zng (Zzm (r0:=CP a) hc rfl ((hA a dZ).1 c hc) ((hA a dZ).2 c hc))
theorem Yhl(lems hyps:List Fm)(tys:List Ty)(hl:∀f∈lems,f.full<274877906944)(hh:∀f∈hyps,f.full<274877906944)(ht:(tys.map Ty.size).sum<549755813888)(hll:lems.length<549755813888)(hhl:hyps.length<549755813888):
 PC E 134 [.s .fm lems,.agg [.s .ty tys,.s .fm hyps]] (.i (I2 lems tys hyps)):=by
 have h1:=Rt tys dY;unfold I2;by_cases c1:lems.length>32
 .rw[if_pos c1];refine M.F Tryz.func134 ?_;(repeat' first|refine M.o0 ?_|refine M.z1 3 ?_|refine M.cs ?_ ?_<;>intro h|refine M.gk ?_|fail);all_goals first
   |rfl
   |(exfalso;simp at h;omega)
   |trace_state
 rw[if_neg c1];refine M.F Tryz.func134 ?_;(repeat' first|refine M.w0 ?_|refine M.cs ?_ ?_<;>intro h|fail)
 .exact kX
 refine M.rp lems.length (fun m=>∀j (hj:j<lems.length),j<m->y9 [] lems[j]=0)
  (fun m=>([(3,.ptr 0 0),(15,.s .fm lems),(16,.i lems.length),(17,.i m)],⟨1,[(0,.var [.s .ty tys,.s .fm hyps])]⟩))
  (fun j hj h=>dY) (M.W Ay) ?_ ?_
 .intro m hm hP;have hc:=OY [] lems[m] (by have:=hl _ (ZA hm);omega) dZ;by_cases hx:y9 [] lems[m]=0
  .rw[hx] at hc;refine M.w1 @hc ?_;exact⟨rfl,ya (p:=fun f=>y9 [] f=0) hm hP hx,(M.W Ay)⟩
  .have e:=L2 hm hP hx;rw[e,if_pos hx];(repeat' first|refine M.w1 @hc ?_|refine M.cs ?_ ?_<;>intro h|fail);all_goals first
    |rfl
    |(exfalso;rename_i h5;simp at h5;exact hx h5)
    |(exfalso;simp at h;exact hx h)
    |trace_state
 .intro hP;rw[vn fun j hj _=>hP j hj hj,if_neg dZ];by_cases c2:xz tys=0;case neg=>
   rw[if_pos c2];(repeat' first|refine M.o1 @h1 ?_|refine M.z1 13 ?_|refine M.cs ?_ ?_<;>intro h|refine M.gk ?_|fail);all_goals first
    |rfl
    |(exfalso;simp at h;exact c2 h)
    |trace_state
  rw[if_neg (by simp[c2])];rw[c2] at h1;by_cases c3:hyps.length>16
  .rw[if_pos c3];(repeat' first|refine M.o1 @h1 ?_|refine M.z1 15 ?_|refine M.cs ?_ ?_<;>intro h|refine M.gk ?_|fail);all_goals first
    |rfl
    |(exfalso;simp at h;omega)
    |trace_state
  rw[if_neg c3];(repeat' first|refine M.w1 @h1 ?_|refine M.cs ?_ ?_<;>intro h|fail)
  .exact kX
  refine M.rp hyps.length (fun m=>∀j (hj:j<hyps.length),j<m->y9 tys hyps[j]=0)
   (fun m=>([(3,.ptr 0 0),(38,.s .fm hyps),(39,.i hyps.length),(40,.i m)],⟨1,[(0,.var [.s .ty tys,.s .fm hyps])]⟩))
   (fun j hj h=>dY) (M.W Ay) ?_ ?_
  .intro m hm hP2;have hc:=OY tys hyps[m] (by have:=hh _ (ZA hm);omega) dY;by_cases hx:y9 tys hyps[m]=0
   .rw[hx] at hc;refine M.w1 @hc ?_;exact⟨rfl,ya (p:=fun f=>y9 tys f=0) hm hP2 hx,(M.W Ay)⟩
   .have e:=L2 hm hP2 hx;rw[e];(repeat' first|refine M.w1 @hc ?_|refine M.cs ?_ ?_<;>intro h|fail);all_goals first
     |rfl
     |(exfalso;rename_i h5;simp at h5;exact hx h5)
     |(exfalso;simp at h;exact hx h)
     |trace_state
  .intro hP2;rw[vn fun j hj _=>hP2 j hj hj];refine M.w0 ?_
   rfl
theorem Zzy(lems hyps:List Fm)(tys:List Ty)(p:Pf)(hl:∀f∈lems,f.full<274877906944)(hh:∀f∈hyps,f.full<274877906944)(ht:(tys.map Ty.size).sum<549755813888)(hll:lems.length<549755813888)(hhl:hyps.length<549755813888)(hp:p.full<274877906944):
 PC E 48 [.s .fm lems,.agg [.s .ty tys,.s .fm hyps],.agg p.view] (FD (N9 lems tys hyps p).1 (N9 lems tys hyps p).2.1 (N9 lems tys hyps p).2.2):=by
 have h1:=Yhl lems hyps tys hl hh ht hll hhl;have h2:=we p dY;unfold N9;by_cases c1:I2 lems tys hyps=0;case neg=>
  rw[if_pos c1];refine M.F Tryz.func48 ?_;(repeat' first|refine M.o1 @h1 ?_|refine M.z1 4 ?_|refine M.cs ?_ ?_<;>intro h|refine M.gk ?_|fail);all_goals first
   |rfl
   |(exfalso;simp at h;exact c1 h)
   |trace_state
 rw[if_neg (by simp[c1])];rw[c1] at h1;by_cases c2:p.err=0;case neg=>
  rw[if_pos c2];refine M.F Tryz.func48 ?_;(repeat' first|refine M.o2 @h1 @h2 ?_|refine M.z1 7 ?_|refine M.cs ?_ ?_<;>intro h|refine M.gk ?_|fail);all_goals first
   |rfl
   |(exfalso;simp at h;exact c2 h)
   |trace_state
 rw[if_neg (by simp[c2])];rw[c2] at h2;obtain⟨ps,pm,_⟩:=(Pf.Ad p).1 c2;have hok:=Yge c1;have h3:PC E 135 [.agg [.s .fm lems,.s .ty tys,.s .fm hyps],.agg p.view] (FD (CP p ⟨lems,tys,hyps⟩).1 (CP p ⟨lems,tys,hyps⟩).2.1 (CP p ⟨lems,tys,hyps⟩).2.2):=Yaz p ps pm ⟨lems,tys,hyps⟩ hok;have hro:=Ql p ps ⟨lems,tys,hyps⟩ hok;generalize CP p ⟨lems,tys,hyps⟩=r at*;obtain⟨f,u,e⟩:=r;have hb:=HI hok hro;have h4:=vj _ f (ZB _) dY;by_cases he:e=0
 .subst he;refine M.F Tryz.func48 ?_;refine M.w4 @h1 @h2 @h3 @h4 ?_
  rfl
 .have e1:=hro.2 he;simp only[ye,Prod.mk.injEq] at e1;obtain⟨rfl,rfl,_⟩:=e1;refine M.F Tryz.func48 ?_;(repeat' first|refine M.o3 @h1 @h2 @h3 ?_|refine M.z1 10 ?_|refine M.cs ?_ ?_<;>intro h|refine M.gk ?_|fail);all_goals first
   |rfl
   |(exfalso;simp at h;exact he h)
   |trace_state
theorem Zm7(p:Pf):(p.shape=false/\p.err=2/\p.num=0)\/(p.shape=true/\(p.small=false\/p.size>16384)/\p.err=4/\p.num=0)\/(p.shape=true/\p.small=true/\p.size<=16384/\p.err=0/\p.num=p.size):=by
 unfold Pf.num Pf.err;cases hs:p.shape with
 |false=>simp
 |true=>
  by_cases h:p.small=false\/p.size>16384
  .simp[h]
  .have h':=h;rw[not_or,cm] at h';simp[h,h'.1];omega
theorem Wg(p:Pf)(hp:p.full<274877906944):PC E 78 [.agg p.view] (.AM [.i p.num,.i p.err]):=by
 have ht:=Ybl _ p (0,false) (ZB _) hp fT;obtain⟨t1,t2,t3⟩:=SF p (0,false);rw[t1] at ht;have hsz:=p.Ah;rcases Zm7 p with⟨h1,h2,h3⟩|⟨h1,h2,h3,h4⟩|⟨h1,h2,h3,h4,h5⟩
 .rw[h2,h3];rw[h1] at ht;refine M.F Tryz.func78 ?_;(repeat' first|refine M.w0 ?_|refine M.cb (ht) [1] 0 ?_|refine M.zb ?_|fail)
  rfl
 .rw[h3,h4];rw[h1] at ht;obtain⟨t4,t5⟩:=t3 h1;rw[t4] at ht;cases hm:p.small with
  |false=>
   rw[hm] at ht;refine M.F Tryz.func78 ?_;(repeat' first|refine M.w0 ?_|refine M.cb (ht) [1] 0 ?_|refine M.zb ?_|fail)
   rfl
  |true=>
   have t6:=t5 hm;have h6:p.size>16384:=by rcases h2 with h2|h2;rw[hm] at h2;cases h2;exact h2
   rw[hm,t6] at ht;simp only[aq,eo,Bool.or_false] at ht;refine M.F Tryz.func78 ?_;(repeat' first|refine M.w0 ?_|refine M.cb (ht) [1] 0 ?_|refine M.zb ?_|refine M.cs ?_ ?_<;>intro h|fail);all_goals first
    |rfl
    |(exfalso;simp at h;omega)
    |trace_state
 .rw[h4,h5];rw[h1] at ht;obtain⟨t4,t5⟩:=t3 h1;have t6:=t5 h2;rw[t4,h2,t6] at ht;simp only[aq,eo,Bool.or_false] at ht;refine M.F Tryz.func78 ?_;(repeat' first|refine M.w0 ?_|refine M.cb (ht) [1] 0 ?_|refine M.zb ?_|refine M.cs ?_ ?_<;>intro h|fail);all_goals first
   |rfl
   |(exfalso;simp at h;omega)
   |trace_state
theorem vv(p:Pf)(hp:p.full<274877906944):PC E 23 [.agg p.view] (.i p.err):=by
 have h1:=Wg p hp;refine M.F Tryz.func23 ?_;refine M.w1 @h1 ?_
 rfl
inductive Ch where
 |tm (t:Tm)|fm (f:Fm)|pf (p:Pf)
def Ch.cell:Ch->V
 | .tm t=> .ifc 32 t.view
 | .fm f=> .ifc 65 f.view
 | .pf p=> .ifc 30 p.view
def Ch.err:Ch->Int
 | .tm t=>t.err| .fm f=>f.err| .pf p=>p.err
theorem Pu(a b:Tm):(Bv a b).full=2+a.full+b.full:=by
 simp only[Bv,Fm.full,Fm.Av,ZJ,Z2,ZW,aN,Ty.size,Ty.sizes];omega
theorem Lo(i:Int):(vT i).full=2:=by simp only[vT,Tm.full,Tm.Av,Ty.size,Ty.sizes]
theorem LF(f x:Tm):(Bd f x).full=2+f.full+x.full:=by
 simp only[Bd,Tm.full,Tm.Av,Ty.size,Ty.sizes];omega
theorem R4(i:Int):PC E 39 [.i i] (.agg (x8 i).view):=by
 refine M.F Tryz.func39 ?_;refine M.w0 ?_
 rfl
theorem Yd6(d:Dk)(hd:d.ok):AC E 10 [.ptr 0 0] ⟨1,[(0,.var d.cells)]⟩ (.agg [.s .ty d.ctx.1,.s .fm d.JZ]) ⟨1,[(0,.var d.On.cells)]⟩:=by
 have h1:=Zzi d hd;have h2:=vd d.ctx.2 3 (Dk.Gv hd) dY;have hb:=Dk.Bh d.ctx.2 3 dY;have hg:=d.C3;have hgl:=d.Fq;obtain⟨c,hc⟩:∃c:Nat,(d.ctx.2.next 3).1=c:=⟨(d.ctx.2.next 3).1.toNat,dY⟩;have hcn:d.Me=c:=by unfold Dk.Me;omega
 have hdo:=Dk.AG (Dk.Gv hd) 3;rw[hc] at h2 hb;have eH:d.JZ=(Dk.DB c (d.ctx.2.next 3).2 d.ctx.1).1:=by unfold Dk.JZ;rw[hcn]
 have eD:d.On=(Dk.DB c (d.ctx.2.next 3).2 d.ctx.1).2:=by unfold Dk.On;rw[hcn]
 rw[eH,eD];generalize d.ctx.1=g at*;generalize (d.ctx.2.next 3).2=d2 at*;refine M.F Tryz.func10 ?_;refine M.w2 @h1 @h2 ?_;refine AW.down c (fun m=>m<=c)
  (fun m=>([(0,.ptr 0 0),(2,.ptr 1 0),(3,.ptr 2 0),(4,.i m)],⟨4,[(0,.var (Dk.DB (c-m) d2 g).2.cells),(1,.var [.slice .nil (.t .ty []),.slice .nil (.t .fm [])]),(2,.var [.s .ty g,.slice (.own 3) (.t .fm (Dk.DB (c-m) d2 g).1)]),(3,.row)]⟩))
  dY (fun m=>rfl) rfl (ZB _) ?_ ?_ ?_
 .simp only[cw];exact(M.W HU)
 .intro m hm hP;have e:=Dk.Ek (c-(m+1)) d2 g;rw[show c-(m+1)+1=c-m by omega] at e;have h3:=T9 2 (Dk.DB (c-(m+1)) d2 g).2 g 2 dY rfl (Dk.Ey _ _ _ hdo) hg dY;have hl:=Dk.DO (c-(m+1)) d2 g;refine M.w1 @h3 ?_;refine⟨rfl,dY,?_⟩;simp only[e];exact(M.W [some 0,some 1,some 2,some 4])
 .intro _;simp only[dK];refine M.w0 ?_
  (exact M.n2 Ay (h8:=eM))
end Go.Ab
