/- A part of this seat's proofs. No conditions. -/
import Derived.Test.YtmhcohcihajegaaGreatDoorHS16
import Derived.Test.YtmhcohcihajegaaGreatDoorHS18
namespace Go.Ab
open Go Go.Proofs
set_option maxRecDepth 100000
set_option maxHeartbeats 4000000
set_option linter.all false
theorem phCb(a:Int)(q:Pf)(ha:0<=a/\a<10000000000)(hq:q.full<5000000000)(hqn:q.nd)(v y:Int)(hy:0<=y/\y<100000000000)(p:Pf)(hp:0<=p.index/\p.index<549755813888):
 AC E 126 [.agg p.view,.agg [.i v,.i y],.ptr 0 0,.ptr 1 0] ⟨2,[(0,.var [.i a]),(1,.var q.view)]⟩ (.agg (if p.index-y=a then q.uph v (a+y) else if p.index-y>a then va (p.index-1) else va p.index).view) ⟨2,[(0,.var [.i a]),(1,.var q.view)]⟩:=by
 have h1:=Yc1 (p.index-1);have h2:=Yc1 p.index;have h3:=Yfe q 0 v (by omega) (by omega) hqn;have h4:=Yes (q.uw 0 v 0) 0 (a+y) (by have:=Ygv 0 v q 0;omega) (Ymi 0 v q hqn 0);have e:q.uph v (a+y)=(q.uw 0 v 0).hw 0 (a+y) 0:=rfl;rw[<-e] at h4;generalize q.uph v (a+y)=U at*;generalize q.uw 0 v 0=W at*;by_cases h0:p.index-y=a
 ·rw[if_pos h0];refine M.F Tryz.func126 ?_;(repeat' first|refine M.v4 @h1 @h2 @h3 @h4 ?_|refine M.cs ?_ ?_<;>intro h|fail);all_goals first|exfalso;simp at h;omega|exfalso;simp_all;done|exact M.n2 rh2 (h8:=(by simp[zn,V.wk,V.wks,za,Ty.view,Tm.view,Pf.view]))
 rw[if_neg h0];by_cases h5:p.index-y>a
 ·rw[if_pos h5];refine M.F Tryz.func126 ?_;(repeat' first|refine M.o2 @h1 @h2 ?_|refine M.z1 3 ?_|refine M.bl ?_|refine M.cs ?_ ?_<;>intro h|refine M.gk ?_|fail);all_goals first|exfalso;simp at h;omega|exfalso;simp at*;omega|exact M.n2 rh2 (h8:=(by simp[zn,V.wk,V.wks,za,Ty.view,Tm.view,Pf.view,va]))
 ·rw[if_neg h5];refine M.F Tryz.func126 ?_;(repeat' first|refine M.o2 @h1 @h2 ?_|refine M.z1 3 ?_|refine M.bl ?_|refine M.cs ?_ ?_<;>intro h|refine M.gk ?_|fail);all_goals first|exfalso;simp at h;omega|exfalso;simp at*;omega|exact M.n2 rh2 (h8:=(by simp[zn,V.wk,V.wks,za,Ty.view,Tm.view,Pf.view,va]))
theorem Ylb(a:Int)(q:Pf)(ha:0<=a/\a<10000000000)(hq:q.full<5000000000)(hqn:q.nd):∀(n:Nat) (p:Pf) (v y:Int),p.full<=n->n<10000000000->(0<=v/\v+2*n<=50000000000)->(0<=y/\y+2*n<=50000000000)->p.nd->p.hx 549755813888->
 AC E 108 [.agg p.view,.agg [.i v,.i y],.agg [.nilf,.nilf,.fn (.func 126) [] [.ptr 0 0,.ptr 1 0]]] ⟨2,[(0,.var [.i a]),(1,.var q.view)]⟩ (.agg (Pf.ph a q v y p).view) ⟨2,[(0,.var [.i a]),(1,.var q.view)]⟩:=by
 intro n;induction n with
 |zero=>intro p v y hz;have:=p.full_pos;omega
 |succ n ih=>
 intro p v y hz hn hv hh hs hhx;obtain⟨i1,i2⟩:=(Pf.hx_iff _ p).1 hhx;have hre:=Pf.ph_eq a q v y p;by_cases hk:p.kind=1
 ·rw[if_pos hk] at hre;rw[hre];have hc:=phCb a q ha hq hqn v y (by omega) p (i1 hk);refine M.F Tryz.func108 ?_;(repeat' first|refine M.o1 @hc ?_|refine M.gs ?_ ?_<;>intro h|refine M.z1 3 ?_|refine M.gk ?_|fail);all_goals first|exfalso;simp at h;omega|exfalso;simp_all;done|exact M.n2 rh2 (h8:=(by simp[zn,V.wk,V.wks,za,Ty.view,Tm.view,Pf.view]))
 rw[if_neg hk] at hre;have hsz':=p.full_eq;have hlen:=zg Pf.full Pf.full_pos p.args;have hlen1:=zg Fm.full Fm.full_pos p.forms;have hlen2:=zg Tm.full Tm.full_pos p.terms;have hty:=Zfa _ p.ty (Nat.le_refl _) (by omega);have hru:=Za6 p.kind;obtain⟨⟨nd,n1,n4⟩,hpf⟩:=(Pf.nd_iff p).1 hs;have hal:p.args.length<=2:=by
  rw[n4];unfold ndP at n1
  repeat(split at n1;· cases n1;decide)
  cases n1
 have hpl:=fun(m:Nat) (hm:m<=1000000)=>wu p.kind v y nd n1 m hm (by omega) (by omega);have e2:ruC p.kind=[.bool nd.index,.bool nd.typ,.i nd.terms,.i nd.forms,.i nd.args,.i (fvK p.kind),.i (vaK p.kind),.i (hyK p.kind)]:=by unfold ruC;rw[n1]
 have b1:0<=vaK p.kind/\vaK p.kind<=2:=by unfold vaK;split<;>(try split)<;>omega
 have b2:0<=hyK p.kind/\hyK p.kind<=1:=by unfold hyK;split<;>omega
 have b3:0<=fvK p.kind/\fvK p.kind<=1:=by unfold fvK;split<;>omega
 rw[n1] at hru;simp only[Option.isSome_some] at hru;rw[e2] at hru;simp only[e2] at hpl;refine M.F Tryz.func108 ?_;(repeat' first|refine M.o2 @hru @hty ?_|refine M.gs ?_ ?_<;>intro h|refine M.z1 5 ?_|refine M.gk ?_|fail);all_goals first
  |(exfalso;simp at h;omega)
  |skip
 refine M.w0 ?_;all_goals
  refine M.rt p.terms.length
   (fun m=>([(3,.ptr 2 0),(4,.ptr 3 0),(5,.ptr 4 0),(6,.ptr 5 0),(7,.ptr 6 0),(9,.ptr 7 0),(44,.s .tm p.terms),(45,.i p.terms.length),(46,.i m)],⟨9,[(0,.var [.i a]),(1,.var q.view),(2,.var p.view),(3,.var [.i v,.i y]),(4,.var [.nilf,.nilf,.fn (.func 126) [] [.ptr 0 0,.ptr 1 0]]),(5,.var [.i 0,.i 0,.i 0,.slice .nil (.t .ty []),.slice .nil (.t .tm []),.slice .nil (.t .fm []),.slice .nil (.t .pf [])]),(6,.var [.bool nd.index,.bool nd.typ,.i nd.terms,.i nd.forms,.i nd.args,.i (fvK p.kind),.i (vaK p.kind),.i (hyK p.kind)]),(7,.var [.i p.kind,.i p.index,.i p.ty.kind,.s .ty p.ty.args,.slice (.own 8) (.t .tm (p.terms.take m)),.slice .nil (.t .fm []),.slice .nil (.t .pf [])]),(8,.row)]⟩))
   (M.W rn8) ?_ ?_
  ·intro m hm _;have hs2:=zc Tm.full (List.getElem_mem hm);have hc:=Zrx _ p.terms[m] (Nat.le_refl _) (by omega);refine M.w1 @hc ?_;exact⟨rfl,trivial,(M.W [some 0,some 1,some 2,some 3,some 4,some 5,some 6,some 7,some 10] (he:=(by(repeat'(first|exact trivial|exact Or.inr ⟨_,U,rfl⟩|refine And.intro ?_ ?_|refine⟨_,U,_,U,_,U,?_⟩|exact VLe.refl _|exact VLe.of_eq (by simp[Sto.upd,List.take_append_getElem])));done)))⟩
  ·intro _;simp only[List.take_length];refine M.w0 ?_;refine M.rt p.forms.length
    (fun m=>([(3,.ptr 2 0),(4,.ptr 3 0),(5,.ptr 4 0),(6,.ptr 5 0),(7,.ptr 6 0),(9,.ptr 7 0),(73,.s .fm p.forms),(74,.i p.forms.length),(75,.i m)],⟨10,[(0,.var [.i a]),(1,.var q.view),(2,.var p.view),(3,.var [.i v,.i y]),(4,.var [.nilf,.nilf,.fn (.func 126) [] [.ptr 0 0,.ptr 1 0]]),(5,.var [.i 0,.i 0,.i 0,.slice .nil (.t .ty []),.slice .nil (.t .tm []),.slice .nil (.t .fm []),.slice .nil (.t .pf [])]),(6,.var [.bool nd.index,.bool nd.typ,.i nd.terms,.i nd.forms,.i nd.args,.i (fvK p.kind),.i (vaK p.kind),.i (hyK p.kind)]),(7,.var [.i p.kind,.i p.index,.i p.ty.kind,.s .ty p.ty.args,.slice (.own 8) (.t .tm (p.terms)),.slice (.own 9) (.t .fm (p.forms.take m)),.slice .nil (.t .pf [])]),(8,.row),(9,.row)]⟩))
    (M.W rn9) ?_ ?_
   ·intro m hm _;have hs2:=zc Fm.full (List.getElem_mem hm);have hc:=Yab p.forms[m] (by omega);refine M.w1 @hc ?_;exact⟨rfl,trivial,(M.W [some 0,some 1,some 2,some 3,some 4,some 5,some 6,some 7,some 8,some 11] (he:=(by(repeat'(first|exact trivial|exact Or.inr ⟨_,U,rfl⟩|refine And.intro ?_ ?_|refine⟨_,U,_,U,_,U,?_⟩|exact VLe.refl _|exact VLe.of_eq (by simp[Sto.upd,List.take_append_getElem])));done)))⟩
   ·intro _;simp only[List.take_length];refine M.w0 ?_;refine M.rt p.args.length
     (fun m=>([(3,.ptr 2 0),(4,.ptr 3 0),(5,.ptr 4 0),(6,.ptr 5 0),(7,.ptr 6 0),(9,.ptr 7 0),(105,.s .pf p.args),(106,.i p.args.length),(107,.i m)],⟨11,[(0,.var [.i a]),(1,.var q.view),(2,.var p.view),(3,.var [.i v,.i y]),(4,.var [.nilf,.nilf,.fn (.func 126) [] [.ptr 0 0,.ptr 1 0]]),(5,.var [.i 0,.i 0,.i 0,.slice .nil (.t .ty []),.slice .nil (.t .tm []),.slice .nil (.t .fm []),.slice .nil (.t .pf [])]),(6,.var [.bool nd.index,.bool nd.typ,.i nd.terms,.i nd.forms,.i nd.args,.i (fvK p.kind),.i (vaK p.kind),.i (hyK p.kind)]),(7,.var [.i p.kind,.i p.index,.i p.ty.kind,.s .ty p.ty.args,.slice (.own 8) (.t .tm (p.terms)),.slice (.own 9) (.t .fm (p.forms)),.slice (.own 10) (.t .pf ((Pf.phs a q v y (vaK p.kind) (hyK p.kind) p.args).take m))]),(8,.row),(9,.row),(10,.row)]⟩))
     (M.W Ylx) ?_ ?_
    ·intro m hm _;have hs2:=zc Pf.full (List.getElem_mem hm);have hb:=hpl m (by omega);have hc:=ih p.args[m] (if m+1=p.args.length then v+vaK p.kind else v) (if m+1=p.args.length then y+hyK p.kind else y) (by omega) (by omega) (by split<;>omega) (by split<;>omega) (hpf _ (List.getElem_mem hm)) (i2 hk _ (List.getElem_mem hm));have ev:(if(m:Int)=(nd.args:Int)-1 then y+hyK p.kind else y)=(if m+1=p.args.length then y+hyK p.kind else y):=by
      by_cases hx:m+1=p.args.length
      ·rw[if_pos hx,if_pos (by omega)]
      ·rw[if_neg hx,if_neg (by omega)]
     have ev2:(if(m:Int)=(nd.args:Int)-1 then v+vaK p.kind else v)=(if m+1=p.args.length then v+vaK p.kind else v):=by
      by_cases hx:m+1=p.args.length
      ·rw[if_pos hx,if_pos (by omega)]
      ·rw[if_neg hx,if_neg (by omega)]
     rw[ev,ev2] at hb;refine M.w2 @hb @hc ?_;exact⟨rfl,trivial,(M.W [some 0,some 1,some 2,some 3,some 4,some 5,some 6,some 7,some 8,some 9,some 12] (he:=(by(repeat'(first|exact trivial|exact Or.inr ⟨_,U,rfl⟩|refine And.intro ?_ ?_|refine⟨_,U,_,U,_,U,?_⟩|exact VLe.refl _|exact VLe.of_eq (by simp[Sto.upd,Ybf hm])));done)))⟩
    ·intro _;simp only[Yh7];refine M.w0 ?_;rw[hre]
     (exact M.n2 rh2 (h8:=(by simp[zn,V.wk,V.wks,za,Ty.view,Tm.view,hre])))
theorem Ykp(p:Pf)(a:Int)(q:Pf)(ha:0<=a/\a<10000000000)(hq:q.full<5000000000)(hqn:q.nd)(hp:p.full<5000000000)(hs:p.nd)(hx:p.hx 549755813888):
 PC E 77 [.agg p.view,.i a,.agg q.view] (.agg (Pf.ph a q 0 0 p).view):=by
 have hc:=Ylb a q ha hq hqn _ p 0 0 (Nat.le_refl _) (by omega) (by omega) (by omega) hs hx;generalize Pf.ph a q 0 0 p=P at*;refine M.F Tryz.func77 ?_;(repeat' first|refine M.w0 ?_|refine M.cv (hc) [1,2] 0 ?_|fail);simp[zn,V.wk,V.wks,za,Ty.view,Tm.view]
section
variable {c:Ck} (hc:c.ok) {p q:Pf} {r0 r1:Rs}
include hc
theorem Zz9{k:Int}(hk:k=11\/k=15){f0 f1:Fm}{u0 u1:List Int}{e0 e1:Int}(hr0:r0 c=(f0,u0,e0))(hr1:Zhz r1 c f0=(f1,u1,e1))
 (hp:PC E 41 [.agg c.view,.agg p.view] (Znj f0 u0 e0)) (o0:Zga c (f0,u0,e0))
 (hq:((c.below [f0.ty]).with_ (f0.args.getD 0 noFm)).ok->PC E 41 [.agg ((c.below [f0.ty]).with_ (f0.args.getD 0 noFm)).view,.agg q.view] (Znj f1 u1 e1))
 (o1:((c.below [f0.ty]).with_ (f0.args.getD 0 noFm)).ok->Zga ((c.below [f0.ty]).with_ (f0.args.getD 0 noFm)) (f1,u1,e1)):
 PC E 156 [.agg c.view,.agg (Pf.mk k 0 (.mk 0 []) [] [] [p,q]).view] (Zc5 (Yfu k r0 r1 c)):=by
 have hl:=hc.len;have hn:=hc.nh;have b0:=Zvy hc o0;unfold Yfu;rw[hr0];simp only[hr1];by_cases he:e0=0;case neg=>
  rw[if_pos he];refine M.F Tryz.func156 ?_;(repeat' first|refine M.o1 @hp ?_|refine M.z1 4 ?_|refine M.cs ?_ ?_<;>intro h|refine M.gk ?_|fail);all_goals first
   |rfl
   |(exfalso;simp at h;exact he h)
   |trace_state
 subst he;rw[if_neg (by simp)];have ho:=o0.1 rfl;have s0:=(Fm.err_iff _).1 ho.1;by_cases hkd:f0.kind=kI k 15 7 5;case neg=>
  rw[if_pos hkd];rcases hk with rfl|rfl;all_goals
   refine M.F Tryz.func156 ?_;(repeat' first|refine M.o1 @hp ?_|refine M.z1 9 ?_|refine M.cs ?_ ?_<;>intro h|refine M.gk ?_|fail);all_goals first
    |rfl
    |(exfalso;simp at h;exact hkd h)
    |trace_state
 rw[if_neg (by simp[hkd])];have hkk:4<=f0.kind/\f0.kind<=7:=by rw[hkd,kI];split<;>omega
 obtain⟨x,e⟩:=Zkf s0.1 hkk;have hx:f0.args.getD 0 noFm=x:=by simp only at e;rw[e];rfl
 have hte:=Zhx s0.1 hkk;have ex:=uz ho.1 (x:=x) (by simp only at e;rw[show(f0,u0,(0:Int)).1=f0 from rfl,e];simp[quF]);have ok0:=ho.2.1;simp only at e hte ok0;rw[e] at ok0;have o1':=Zi8 hkk ok0;rw[hx] at hq o1;clear ok0 hr1 hr0 s0 hx;generalize f0.ty=s at*;rw[hkd] at e;subst e;have h1:=Zir c 1 1 (by omega) (by omega);by_cases hr:c.room 1 1=0;case neg=>
  rw[if_pos hr];rw[Zji hr] at h1;rcases hk with rfl|rfl;all_goals
   simp only[kI] at*;refine M.F Tryz.func156 ?_;refine M.w2 @hp @h1 ?_;all_goals first
    |rfl
    |trace_state
 rw[if_neg (by simp[hr])];have hro:=v7 hr;rw[hr] at h1;have hb:((c.below [s]).with_ x).ok:=(hc.below (l:=[s]) hro.1 (by simpa using hte)).with_ (by simpa[Ck.below] using hro.2) ex o1';have h2:=Zh8 c hc [s] (by simp) (by simp);have h3:=Zlj (c.below [s]) x (by simp[Ck.below];omega);have h4:=hq hb;have o1b:=o1 hb;have b1:=Zvy hb o1b;by_cases he1:e1=0;case neg=>
  rw[if_pos he1];rcases hk with rfl|rfl;all_goals
   simp only[kI] at*;refine M.F Tryz.func156 ?_;(repeat' first|refine M.o5 @hp @h1 @h2 @h3 @h4 ?_|refine M.z1 15 ?_|refine M.cs ?_ ?_<;>intro h|refine M.gk ?_|fail);all_goals first
    |rfl
    |(exfalso;simp at h;exact he1 h)
    |trace_state
 subst he1;rw[if_neg (by simp)];have hf1:=o1b.1 rfl;simp only at hf1;have s1:=(Fm.err_iff _).1 hf1.1;have h5:=Ye4 _ f1 0 (Nat.le_refl _) (by omega) (by omega) (by omega) s1.1;have hu:=Yeu u1;have hou:=Zub u1 1 (by omega) (by omega) b1.2.2;have hol:=Zh0 u1 1;have hun:=Zbb u0 (Zj9 u1 1) (by omega) (by omega);have h6:=Zz6 _ f1 (Nat.le_refl _) (by omega);by_cases t0:zp 0 f1=0;case pos=>
  have ef:Za9 f1=(f1,0):=by unfold Za9;rw[if_pos t0]
  rw[ef];rw[decide_eq_false (by simp[t0])] at h5;have h7:=h6;have hup:=Zf7 (hf1.2.1) s1.1 (by omega) (by simp[Ck.below,Ck.with_];omega) 1 (-1) (by omega) (by omega);rw[if_neg (by simp)];rcases hk with rfl|rfl
  ·rw[if_neg (by simp)];simp only[kI] at*;refine M.F Tryz.func156 ?_;(repeat' first|refine M.w6 @hp @h1 @h2 @h3 @h4 @h5 ?_|refine M.c2 (hup) ?_|refine M.c2 (hou) ?_|refine M.c2 (hun) ?_|fail);all_goals first
    |rfl
    |trace_state
  ·simp only[kI] at*;cases hh:Yf5 u1 with
   |true=>
    rw[hh] at hu;rw[if_pos (by simp)];refine M.F Tryz.func156 ?_;(repeat' first|refine M.w6 @hp @h1 @h2 @h3 @h4 @h5 ?_|refine M.c2 (hu) ?_|fail);all_goals first
     |rfl
     |trace_state
   |false=>
    rw[hh] at hu;rw[if_neg (by simp)];refine M.F Tryz.func156 ?_;(repeat' first|refine M.w6 @hp @h1 @h2 @h3 @h4 @h5 ?_|refine M.c2 (hu) ?_|refine M.c2 (hup) ?_|refine M.c2 (hou) ?_|refine M.c2 (hun) ?_|fail);all_goals first
     |rfl
     |trace_state
 rw[decide_eq_true t0] at h5;by_cases n0:(xf f1).2=0;case neg=>
  have ef:Za9 f1=(noFm,(xf f1).2):=by unfold Za9;rw[if_neg t0,if_pos n0]
  rw[ef,if_pos n0];rcases hk with rfl|rfl;all_goals
   simp only[kI] at*;refine M.F Tryz.func156 ?_;(repeat' first|refine M.o6 @hp @h1 @h2 @h3 @h4 @h5 ?_|refine M.c2 (h6) ?_|refine M.z1 20 ?_|refine M.cs ?_ ?_<;>intro h|refine M.gk ?_|fail);all_goals first
    |rfl
    |(exfalso;simp at h;exact n0 h)
    |trace_state
 rw[n0] at h6;obtain⟨nk,ns,nz,no⟩:=Zf1 f1 n0 s1.1;have nfl:=Zb2 (xf f1).1 ns;have h7:=Ye4 _ (xf f1).1 0 (Nat.le_refl _) (by omega) (by omega) (by omega) ns;by_cases n1:zp 0 (xf f1).1=0;case neg=>
  have ef:Za9 f1=(noFm,6):=by unfold Za9;rw[if_neg t0,if_neg (by simp[n0]),if_pos n1]
  rw[ef,if_pos (by decide)];rw[decide_eq_true n1] at h7;rcases hk with rfl|rfl;all_goals
   simp only[kI] at*;refine M.F Tryz.func156 ?_;(repeat' first|refine M.w6 @hp @h1 @h2 @h3 @h4 @h5 ?_|refine M.c2 (h6) ?_|refine M.c2 (h7) ?_|fail);all_goals first
    |rfl
    |trace_state
 case pos=>
  have ef:Za9 f1=((xf f1).1,0):=by unfold Za9;rw[if_neg t0,if_neg (by simp[n0]),if_neg (by simp[n1])]
  rw[ef];rw[decide_eq_false (by simp[n1])] at h7;have hup:=Zf7 (no _ hf1.2.1) ns (by omega) (by simp[Ck.below,Ck.with_];omega) 1 (-1) (by omega) (by omega);rw[if_neg (by simp)];rcases hk with rfl|rfl
  ·rw[if_neg (by simp)];simp only[kI] at*;refine M.F Tryz.func156 ?_;(repeat' first|refine M.w6 @hp @h1 @h2 @h3 @h4 @h5 ?_|refine M.c2 (h6) ?_|refine M.c2 (h7) ?_|refine M.c2 (hup) ?_|refine M.c2 (hou) ?_|refine M.c2 (hun) ?_|fail);all_goals first
    |rfl
    |trace_state
  ·simp only[kI] at*;cases hh:Yf5 u1 with
   |true=>
    rw[hh] at hu;rw[if_pos (by simp)];refine M.F Tryz.func156 ?_;(repeat' first|refine M.w6 @hp @h1 @h2 @h3 @h4 @h5 ?_|refine M.c2 (h6) ?_|refine M.c2 (h7) ?_|refine M.c2 (hu) ?_|fail);all_goals first
     |rfl
     |trace_state
   |false=>
    rw[hh] at hu;rw[if_neg (by simp)];refine M.F Tryz.func156 ?_;(repeat' first|refine M.w6 @hp @h1 @h2 @h3 @h4 @h5 ?_|refine M.c2 (h6) ?_|refine M.c2 (h7) ?_|refine M.c2 (hu) ?_|refine M.c2 (hup) ?_|refine M.c2 (hou) ?_|refine M.c2 (hun) ?_|fail);all_goals first
     |rfl
     |trace_state
end
theorem eqf_fl(a b:Tm):(eqF a b).full=2+a.full+b.full:=by
 simp only[eqF,Fm.full,Fm.fulls,List.map_cons,List.map_nil,List.sum_cons,List.sum_nil,Ty.size,Ty.sizes];omega
theorem Zhk(i:Int):(vT i).full=2:=by simp only[vT,Tm.full,Tm.fulls,Ty.size,Ty.sizes]
theorem Zg1(f x:Tm):(apT f x).full=2+f.full+x.full:=by
 simp only[apT,Tm.full,Tm.fulls,Ty.size,Ty.sizes];omega
section
variable {c:Ck}
theorem Ydj{s:Ty}{p:Pf}{r:Res}(h1:PC E 153 [.agg c.view,.agg (Pf.mk 8 0 s [] [] [p]).view] (Zc5 r)):PC E 101 [.agg c.view,.agg (Pf.mk 8 0 s [] [] [p]).view] (Zc5 r):=by
 refine M.F Tryz.func101 ?_;refine M.v1 @h1 ?_
 rfl
theorem Zww{s:Ty}{p:Pf}{r:Res}(h1:PC E 153 [.agg c.view,.agg (Pf.mk 12 0 s [] [] [p]).view] (Zc5 r)):PC E 101 [.agg c.view,.agg (Pf.mk 12 0 s [] [] [p]).view] (Zc5 r):=by
 refine M.F Tryz.func101 ?_;refine M.v1 @h1 ?_
 rfl
theorem Yh0{t:Tm}{p:Pf}{r:Res}(h1:PC E 154 [.agg c.view,.agg (Pf.mk 9 0 (.mk 0 []) [t] [] [p]).view] (Zc5 r)):PC E 101 [.agg c.view,.agg (Pf.mk 9 0 (.mk 0 []) [t] [] [p]).view] (Zc5 r):=by
 refine M.F Tryz.func101 ?_;refine M.v1 @h1 ?_
 rfl
theorem Yd9{t:Tm}{p:Pf}{r:Res}(h1:PC E 154 [.agg c.view,.agg (Pf.mk 13 0 (.mk 0 []) [t] [] [p]).view] (Zc5 r)):PC E 101 [.agg c.view,.agg (Pf.mk 13 0 (.mk 0 []) [t] [] [p]).view] (Zc5 r):=by
 refine M.F Tryz.func101 ?_;refine M.v1 @h1 ?_
 rfl
theorem Ydn{t:Tm}{f:Fm}{p:Pf}{r:Res}(h1:PC E 155 [.agg c.view,.agg (Pf.mk 10 0 (.mk 0 []) [t] [f] [p]).view] (Zc5 r)):PC E 101 [.agg c.view,.agg (Pf.mk 10 0 (.mk 0 []) [t] [f] [p]).view] (Zc5 r):=by
 refine M.F Tryz.func101 ?_;refine M.v1 @h1 ?_
 rfl
theorem Ycq{t:Tm}{f:Fm}{p:Pf}{r:Res}(h1:PC E 155 [.agg c.view,.agg (Pf.mk 14 0 (.mk 0 []) [t] [f] [p]).view] (Zc5 r)):PC E 101 [.agg c.view,.agg (Pf.mk 14 0 (.mk 0 []) [t] [f] [p]).view] (Zc5 r):=by
 refine M.F Tryz.func101 ?_;refine M.v1 @h1 ?_
 rfl
theorem Zu4{p q:Pf}{r:Res}(h1:PC E 156 [.agg c.view,.agg (Pf.mk 11 0 (.mk 0 []) [] [] [p,q]).view] (Zc5 r)):PC E 101 [.agg c.view,.agg (Pf.mk 11 0 (.mk 0 []) [] [] [p,q]).view] (Zc5 r):=by
 refine M.F Tryz.func101 ?_;refine M.v1 @h1 ?_
 rfl
theorem Zvq{p q:Pf}{r:Res}(h1:PC E 156 [.agg c.view,.agg (Pf.mk 15 0 (.mk 0 []) [] [] [p,q]).view] (Zc5 r)):PC E 101 [.agg c.view,.agg (Pf.mk 15 0 (.mk 0 []) [] [] [p,q]).view] (Zc5 r):=by
 refine M.F Tryz.func101 ?_;refine M.v1 @h1 ?_
 rfl
theorem Zxj{t:Tm}{f:Fm}{p q:Pf}{r:Res}(h1:PC E 157 [.agg c.view,.agg (Pf.mk 16 0 (.mk 0 []) [t] [f] [p,q]).view] (Zc5 r)):PC E 101 [.agg c.view,.agg (Pf.mk 16 0 (.mk 0 []) [t] [f] [p,q]).view] (Zc5 r):=by
 refine M.F Tryz.func101 ?_;refine M.v1 @h1 ?_
 rfl
theorem Zvg{t:Tm}{f:Fm}{p q:Pf}{r:Res}(h1:PC E 158 [.agg c.view,.agg (Pf.mk 17 0 (.mk 0 []) [t] [f] [p,q]).view] (Zc5 r)):PC E 101 [.agg c.view,.agg (Pf.mk 17 0 (.mk 0 []) [t] [f] [p,q]).view] (Zc5 r):=by
 refine M.F Tryz.func101 ?_;refine M.v1 @h1 ?_
 rfl
theorem Zqf{f:Fm}{p q:Pf}{r:Res}(h1:PC E 160 [.agg c.view,.agg (Pf.mk 19 0 (.mk 0 []) [] [f] [p,q]).view] (Zc5 r)):PC E 101 [.agg c.view,.agg (Pf.mk 19 0 (.mk 0 []) [] [f] [p,q]).view] (Zc5 r):=by
 refine M.F Tryz.func101 ?_;refine M.v1 @h1 ?_
 rfl
theorem Znu{p:Pf}{r:Res}(h1:PC E 161 [.agg c.view,.agg (Pf.mk 20 0 (.mk 0 []) [] [] [p]).view] (Zc5 r)):PC E 101 [.agg c.view,.agg (Pf.mk 20 0 (.mk 0 []) [] [] [p]).view] (Zc5 r):=by
 refine M.F Tryz.func101 ?_;refine M.v1 @h1 ?_
 rfl
theorem Ybo{t:Tm}(hc:c.ok)(ht:t.full<=300000):PC E 101 [.agg c.view,.agg (Pf.mk 18 0 (.mk 0 []) [t] [] []).view] (Zc5 (Zqn t c)):=by
 have h1:=Zdw t t (by omega) (by omega);have h2:=Zyv c t 1 (by omega) (by have:=hc.sum;omega);unfold Zqn;refine M.F Tryz.func101 ?_;refine M.v2 @h1 @h2 ?_
 rfl
end
end Go.Ab
