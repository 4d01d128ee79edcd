/- A part of this seat's proofs. No conditions. -/
import Derived.Test.YtgjekifepogehaaGreatDoorPS6
import Derived.Test.YtgjekifepogehaaGreatDoorPST1
namespace Go.Ab
open Go Go.Proofs
set_option maxRecDepth 100000
set_option maxHeartbeats 4000000
set_option linter.all false
theorem X7(k b:Int):b<=AR k b/\AR k b<=b+1:=by unfold AR;split<;>omega
theorem Zz8:∀(n:Nat) (f:Fm) (ks:List Int) (bl:Int),f.full<=n->n<549755813888->0<=bl->bl+n<549755813888->f.B7->
 AC E 151 [.agg f.view,.i bl,.mp 0] ⟨1,[(0,.map .bl ks (List.replicate ks.length true))]⟩ (.AM []) ⟨1,[(0,.map .bl (Az ks (f.CD bl)) (List.replicate (Az ks (f.CD bl)).length true))]⟩:=by
 intro n;induction n with
 |zero=>intro f b bl h;have:=f.Ac;omega
 |succ n ih=>
 intro f ks bl hsz hb hbl hbn hix;have hsz':=f.Af;have hlen:=zd Fm.full Fm.Ac f.args;have hlen2:=zd Tm.full Tm.Ac f.terms;have hbe:=Nz f;have hup:=X7 f.kind bl;have hpl:=Oo f.kind bl;have hend:Az ks (f.CD bl)=Az (Az ks (f.terms.flatMap fun t=>BS (t.vars bl))) (f.args.flatMap fun a=>a.CD (AR f.kind bl)):=by rw[EE,xr]
 rw[hend];obtain⟨k0,hk0⟩:∃k0,k0=Az ks (f.terms.flatMap fun t=>BS (t.vars bl)):=⟨_,rfl⟩;rw[<-hk0];have hu0:0<=AR f.kind 0/\AR f.kind 0<=1:=by have:=X7 f.kind 0;omega
 refine M.F Tryz.func151 ?_;refine M.w0 ?_;refine M.rt f.terms.length
  (fun m=>([(1,.i bl),(2,.mp 0),(3,.ptr 1 0),(11,.s .tm f.terms),(12,.i f.terms.length),(13,.i m)],⟨2,[(0,.map .bl (Az ks ((f.terms.take m).flatMap fun t=>BS (t.vars bl))) (List.replicate (Az ks ((f.terms.take m).flatMap fun t=>BS (t.vars bl))).length true)),(1,.var f.view)]⟩))
  gF ?_ ?_
 .intro m hm hP;have hs2:=zc Tm.full (ZA hm);have hc:=RQ _ f.terms[m] (Az ks ((f.terms.take m).flatMap fun t=>BS (t.vars bl))) bl (ZB _) dY dY dY (Fm.HD hix (ZA hm) bl);refine M.w1 @hc ?_;refine⟨rfl,trivial,?_⟩;exact(M.W AQ (he:=(by(repeat'(first|exact trivial|refine And.intro ?_ ?_|refine⟨_,U,_,U,_,U,?_⟩|exact Ai.refl _|refine⟨_,U,_,_,U,?_,?_⟩|(simp[Aj.Aw,xr,wg _ _ _ hm];done)));done)))
 .intro hP;simp only[ZF,<-hk0];refine M.w0 ?_;refine M.rt f.args.length
   (fun m=>([(1,.i bl),(2,.mp 0),(3,.ptr 1 0),(23,.s .fm f.args),(24,.i f.args.length),(25,.i m)],⟨2,[(0,.map .bl (Az k0 ((f.args.take m).flatMap fun a=>a.CD (AR f.kind bl))) (List.replicate (Az k0 ((f.args.take m).flatMap fun a=>a.CD (AR f.kind bl))).length true)),(1,.var f.view)]⟩))
   gF ?_ ?_
  .intro m hm hP;have hs2:=zc Fm.full (ZA hm);have hc:=ih f.args[m] (Az k0 ((f.args.take m).flatMap fun a=>a.CD (AR f.kind bl))) (AR f.kind bl) dY dY dY dY (Fm.IB hix (ZA hm));rw[<-hpl] at hc ⊢;refine M.w2 @hbe @hc ?_;refine⟨rfl,trivial,?_⟩;exact(M.W AQ (he:=(by(repeat'(first|exact trivial|refine And.intro ?_ ?_|refine⟨_,U,_,U,_,U,?_⟩|exact Ai.refl _|refine⟨_,U,_,_,U,?_,?_⟩|(simp[Aj.Aw,xr,wg _ _ _ hm];done)));done)))
  .exact mw
theorem SR{k:Int}{nd:Nd}(h:BZ k=some nd):k=1\/k=2\/k=3\/k=4\/k=5\/k=6\/k=7\/k=8\/k=9\/k=10\/k=11\/k=12\/k=13\/k=14\/k=15\/k=16\/k=17\/k=18\/k=19\/k=20:=by
 unfold BZ at h
 repeat(split at h;· omega)
 cases h
theorem Qg{k:Int}{nd:Nd}(hnd:BZ k=some nd)(m:Nat)(hm:m<nd.args):PC E 154 [.i k,.i m] (.i (if m+1=nd.args then Ar k else 0)):=by
 have hk:=SR hnd;rcases hk with rfl|rfl|rfl|rfl|rfl|rfl|rfl|rfl|rfl|rfl|rfl|rfl|rfl|rfl|rfl|rfl|rfl|rfl|rfl|rfl;all_goals(simp only[BZ,reduceIte,Int.reduceEq,or_false,false_or,or_true,true_or,ZI] at hnd;subst hnd;simp only at hm)
 all_goals first
  |(exfalso;omega)
  |(have h0:m=0:=by omega
    subst h0;refine M.F Tryz.func154 ?_;refine M.v0 ?_;all_goals rfl)
  |(have h0:m=0\/m=1:=by omega
    rcases h0 with rfl|rfl;all_goals
     refine M.F Tryz.func154 ?_;refine M.v0 ?_;all_goals rfl)
theorem MB{k:Int}{nd:Nd}(hnd:BZ k=some nd)(m:Nat)(hm:m<nd.args):PC E 153 [.i k,.i m] (.i (if m+1=nd.args then Ap k else 0)):=by
 have hk:=SR hnd;rcases hk with rfl|rfl|rfl|rfl|rfl|rfl|rfl|rfl|rfl|rfl|rfl|rfl|rfl|rfl|rfl|rfl|rfl|rfl|rfl|rfl;all_goals(simp only[BZ,reduceIte,Int.reduceEq,or_false,false_or,or_true,true_or,ZI] at hnd;subst hnd;simp only at hm)
 all_goals first
  |(exfalso;omega)
  |(have h0:m=0:=by omega
    subst h0;refine M.F Tryz.func153 ?_;refine M.v0 ?_;all_goals rfl)
  |(have h0:m=0\/m=1:=by omega
    rcases h0 with rfl|rfl;all_goals
     refine M.F Tryz.func153 ?_;refine M.v0 ?_;all_goals rfl)
theorem Qe{k:Int}{nd:Nd}(hnd:BZ k=some nd):PC E 152 [.i k] (.i (Au k)):=by
 have hk:=SR hnd;rcases hk with rfl|rfl|rfl|rfl|rfl|rfl|rfl|rfl|rfl|rfl|rfl|rfl|rfl|rfl|rfl|rfl|rfl|rfl|rfl|rfl;all_goals
  refine M.F Tryz.func152 ?_;refine M.v0 ?_;all_goals rfl
theorem P8(k:Int):0<=Au k/\Au k<=1:=eW
theorem Na(k:Int):0<=Ap k/\Ap k<=2:=eT
theorem OO(k:Int):0<=Ar k/\Ar k<=1:=eV
theorem Yad:∀(n:Nat) (p:Pf) (ks:List Int) (bl:Int),p.full<=n->n<100000000000->0<=bl->bl+2*n<300000000000->p.B7->p.nd->
 AC E 88 [.agg p.view,.i bl,.mp 0] ⟨1,[(0,.map .bl ks (List.replicate ks.length true))]⟩ (.AM []) ⟨1,[(0,.map .bl (Az ks (p.CD bl)) (List.replicate (Az ks (p.CD bl)).length true))]⟩:=by
 intro n;induction n with
 |zero=>intro p b bl h;have:=p.Ac;omega
 |succ n ih=>
 intro p ks bl hsz hb hbl hbn hix hn;obtain⟨x0,x1,x2,x3⟩:=(Pf.Dr p).1 hix;obtain⟨⟨nd,n1,n4⟩,hpn⟩:=(Pf.Bt p).1 hn;have hsz':=p.Af;have hlen:=zd Pf.full Pf.Ac p.args;have hlen1:=zd Fm.full Fm.Ac p.Aa;have hlen2:=zd Tm.full Tm.Ac p.terms;have b1:=Na p.kind;have b3:=P8 p.kind;have hmo:=Qe n1;have hend:Az ks (p.CD bl)=Az (Az (Az ks (p.terms.flatMap fun t=>BS (t.vars bl))) (p.Aa.flatMap fun f=>f.CD (bl+Au p.kind))) (Pf.Cp bl (Ap p.kind) p.args).flatten:=by rw[Pf.EE,xr,xr]
 rw[hend];obtain⟨k0,hk0⟩:∃k0,k0=Az ks (p.terms.flatMap fun t=>BS (t.vars bl)):=⟨_,rfl⟩;rw[<-hk0];obtain⟨k1,hk1⟩:∃k1,k1=Az k0 (p.Aa.flatMap fun f=>f.CD (bl+Au p.kind)):=⟨_,rfl⟩;rw[<-hk1];refine M.F Tryz.func88 ?_;refine M.w0 ?_;refine M.rt p.terms.length
  (fun m=>([(1,.i bl),(2,.mp 0),(3,.ptr 1 0),(13,.s .tm p.terms),(14,.i p.terms.length),(15,.i m)],⟨2,[(0,.map .bl (Az ks ((p.terms.take m).flatMap fun t=>BS (t.vars bl))) (List.replicate (Az ks ((p.terms.take m).flatMap fun t=>BS (t.vars bl))).length true)),(1,.var p.view)]⟩))
  gF ?_ ?_
 .intro m hm hP;have hs2:=zc Tm.full (ZA hm);have hc:=RQ _ p.terms[m] (Az ks ((p.terms.take m).flatMap fun t=>BS (t.vars bl))) bl (ZB _) dY dY dY (x1 _ (ZA hm) bl);refine M.w1 @hc ?_;refine⟨rfl,trivial,?_⟩;exact(M.W AQ (he:=(by(repeat'(first|exact trivial|refine And.intro ?_ ?_|refine⟨_,U,_,U,_,U,?_⟩|exact Ai.refl _|refine⟨_,U,_,_,U,?_,?_⟩|(simp[Aj.Aw,xr,wg _ _ _ hm];done)));done)))
 .intro hP;simp only[ZF,<-hk0];refine M.w0 ?_;refine M.rt p.Aa.length
   (fun m=>([(1,.i bl),(2,.mp 0),(3,.ptr 1 0),(25,.s .fm p.Aa),(26,.i p.Aa.length),(27,.i m)],⟨2,[(0,.map .bl (Az k0 ((p.Aa.take m).flatMap fun f=>f.CD (bl+Au p.kind))) (List.replicate (Az k0 ((p.Aa.take m).flatMap fun f=>f.CD (bl+Au p.kind))).length true)),(1,.var p.view)]⟩))
   gF ?_ ?_
  .intro m hm hP;have hs2:=zc Fm.full (ZA hm);have hc:=Zz8 _ p.Aa[m] (Az k0 ((p.Aa.take m).flatMap fun f=>f.CD (bl+Au p.kind))) (bl+Au p.kind) (ZB _) dY dY dY (x2 _ (ZA hm));refine M.w2 @hmo @hc ?_;refine⟨rfl,trivial,?_⟩;exact(M.W AQ (he:=(by(repeat'(first|exact trivial|refine And.intro ?_ ?_|refine⟨_,U,_,U,_,U,?_⟩|exact Ai.refl _|refine⟨_,U,_,_,U,?_,?_⟩|(simp[Aj.Aw,xr,wg _ _ _ hm];done)));done)))
  .intro hP;simp only[ZF,<-hk1];refine M.w0 ?_;refine M.rt p.args.length
    (fun m=>([(1,.i bl),(2,.mp 0),(3,.ptr 1 0),(41,.s .pf p.args),(42,.i p.args.length),(43,.i m)],⟨2,[(0,.map .bl (Az k1 ((Pf.Cp bl (Ap p.kind) p.args).take m).flatten) (List.replicate (Az k1 ((Pf.Cp bl (Ap p.kind) p.args).take m).flatten).length true)),(1,.var p.view)]⟩))
    gF ?_ ?_
   .intro m hm hP;have hs2:=zc Pf.full (ZA hm);have hva:=MB n1 m dY;rw[<-n4] at hva;have hc:=ih p.args[m] (Az k1 ((Pf.Cp bl (Ap p.kind) p.args).take m).flatten) (if m+1=p.args.length then bl+Ap p.kind else bl) dY dY ez ez (x3 _ (ZA hm)) (hpn _ (ZA hm));have ea:(if m+1=p.args.length then bl+Ap p.kind else bl)=bl+(if m+1=p.args.length then Ap p.kind else 0):=ez
    have hr:0<=(if m+1=p.args.length then Ap p.kind else 0)/\(if m+1=p.args.length then Ap p.kind else 0)<=2:=ez
    have et:=Zu1 (b:=bl) (w:=Ap p.kind) hm;rw[ea] at hc et;rw[<-xr,et] at hc;generalize (if m+1=p.args.length then Ap p.kind else 0)=q at*;refine M.w2 @hva @hc ?_;exact⟨rfl,trivial,(M.W AQ)⟩
   .intro hP;simp only[Ybt];skip
    (exact M.n2 Ay (h8:=eM))
theorem Yft:∀(n:Nat) (p:Pf) (ks:List Int) (bl:Int),p.full<=n->n<100000000000->0<=bl->bl+2*n<300000000000->p.B7->p.nd->
 AC E 92 [.agg p.view,.i bl,.mp 0] ⟨1,[(0,.map .bl ks (List.replicate ks.length true))]⟩ (.AM []) ⟨1,[(0,.map .bl (Az ks (p.D9 bl)) (List.replicate (Az ks (p.D9 bl)).length true))]⟩:=by
 intro n;induction n with
 |zero=>intro p b bl h;have:=p.Ac;omega
 |succ n ih=>
 intro p ks bl hsz hb hbl hbn hix hn;obtain⟨x0,x1,x2,x3⟩:=(Pf.Dr p).1 hix;obtain⟨⟨nd,n1,n4⟩,hpn⟩:=(Pf.Bt p).1 hn;have hsz':=p.Af;have hlen:=zd Pf.full Pf.Ac p.args;have b1:=OO p.kind;have hend:Az ks (p.D9 bl)=Az (Az ks (if p.kind=1/\p.index>=bl then [p.index-bl] else [])) (Pf.Cc bl (Ar p.kind) p.args).flatten:=by rw[Pf.Gu,xr]
 rw[hend];have hL:∀(m:Nat) (hm:m<p.args.length) (k0:List Int),∃q,(0<=q/\q<=1)/\PC E 154 [.i p.kind,.i m] (.i q)/\
  AC E 92 [.agg (p.args[m]).view,.i (bl+q),.mp 0] ⟨1,[(0,.map .bl (Az k0 ((Pf.Cc bl (Ar p.kind) p.args).take m).flatten) (List.replicate (Az k0 ((Pf.Cc bl (Ar p.kind) p.args).take m).flatten).length true))]⟩ (.AM [])
   ⟨1,[(0,.map .bl (Az k0 ((Pf.Cc bl (Ar p.kind) p.args).take (m+1)).flatten) (List.replicate (Az k0 ((Pf.Cc bl (Ar p.kind) p.args).take (m+1)).flatten).length true))]⟩:=fun m hm k0=>by
  have hs2:=zc Pf.full (ZA hm);have hva:=Qg n1 m dY;rw[<-n4] at hva;refine⟨_,?_,hva,?_⟩
  .split<;>omega
  have hc:=ih p.args[m] (Az k0 ((Pf.Cc bl (Ar p.kind) p.args).take m).flatten) (if m+1=p.args.length then bl+Ar p.kind else bl) dY dY ez ez (x3 _ (ZA hm)) (hpn _ (ZA hm));have ea:(if m+1=p.args.length then bl+Ar p.kind else bl)=bl+(if m+1=p.args.length then Ar p.kind else 0):=ez
  have et:=Zuw (b:=bl) (w:=Ar p.kind) hm;rw[ea] at hc et;rw[<-xr,et] at hc;exact hc
 clear ih;by_cases hv1:p.kind=1/\p.index>=bl
 .rw[if_pos hv1,KR];refine M.F Tryz.func92 ?_;(repeat' first|refine M.w0 ?_|refine M.gs ?_ ?_<;>intro h|refine M.cs ?_ ?_<;>intro h|fail)
  rotate_left
  .exact kX
  .exfalso;simp at h;exact h hv1.1
  refine M.rt p.args.length
   (fun m=>([(1,.i bl),(2,.mp 0),(3,.ptr 1 0),(23,.s .pf p.args),(24,.i p.args.length),(25,.i m)],⟨2,[(0,.map .bl (Az (w9 (p.index-bl) ks) ((Pf.Cc bl (Ar p.kind) p.args).take m).flatten) (List.replicate (Az (w9 (p.index-bl) ks) ((Pf.Cc bl (Ar p.kind) p.args).take m).flatten).length true)),(1,.var p.view)]⟩))
   ?_ ?_ ?_
  .simp only[ZX,Z5,xl];rw[<-vx];exact(M.W AQ)
  .intro m hm hP;obtain⟨q,hq,hbo,hc⟩:=hL m hm (w9 (p.index-bl) ks);refine M.w2 @hbo @hc ?_;exact⟨rfl,trivial,(M.W AQ)⟩
  .intro hP;simp only[Zn];skip
   (exact M.n2 Ay (h8:=eM))
 .rw[if_neg hv1,xl];refine M.F Tryz.func92 ?_;(repeat' first|refine M.w0 ?_|refine M.gs ?_ ?_<;>intro h|refine M.cs ?_ ?_<;>intro h|fail)
  .rename_i h1';exfalso;exact hv1 ⟨by simpa using h1',ek⟩
  all_goals
   refine M.rt p.args.length
    (fun m=>([(1,.i bl),(2,.mp 0),(3,.ptr 1 0),(23,.s .pf p.args),(24,.i p.args.length),(25,.i m)],⟨2,[(0,.map .bl (Az ks ((Pf.Cc bl (Ar p.kind) p.args).take m).flatten) (List.replicate (Az ks ((Pf.Cc bl (Ar p.kind) p.args).take m).flatten).length true)),(1,.var p.view)]⟩))
    ?_ ?_ ?_
   .simp only[ZX,Z5,xl];exact(M.W AQ)
   .intro m hm hP;obtain⟨q,hq,hbo,hc⟩:=hL m hm ks;refine M.w2 @hbo @hc ?_;exact⟨rfl,trivial,(M.W AQ)⟩
   .intro hP;simp only[Zn];skip
    (exact M.n2 Ay (h8:=eM))
theorem Yfx:∀(n:Nat) (p:Pf) (ks:List Int),p.full<=n->n<100000000000->
 AC E 95 [.agg p.view,.mp 0] ⟨1,[(0,.map .bl ks (List.replicate ks.length true))]⟩ (.AM []) ⟨1,[(0,.map .bl (Az ks p.Dt) (List.replicate (Az ks p.Dt).length true))]⟩:=by
 intro n;induction n with
 |zero=>intro p b h;have:=p.Ac;omega
 |succ n ih=>
 intro p ks hsz hb;have hsz':=p.Af;have hlen:=zd Pf.full Pf.Ac p.args;have hend:Az ks p.Dt=Az (Az ks (if p.kind=2 then [p.index] else [])) (p.args.map Pf.Dt).flatten:=by rw[Pf.Gx,xr]
 rw[hend];have hL:∀(m:Nat) (hm:m<p.args.length) (k0:List Int),
  AC E 95 [.agg (p.args[m]).view,.mp 0] ⟨1,[(0,.map .bl (Az k0 ((p.args.map Pf.Dt).take m).flatten) (List.replicate (Az k0 ((p.args.map Pf.Dt).take m).flatten).length true))]⟩ (.AM [])
   ⟨1,[(0,.map .bl (Az k0 ((p.args.map Pf.Dt).take (m+1)).flatten) (List.replicate (Az k0 ((p.args.map Pf.Dt).take (m+1)).flatten).length true))]⟩:=fun m hm k0=>by
  have hs2:=zc Pf.full (ZA hm);have hc:=ih p.args[m] (Az k0 ((p.args.map Pf.Dt).take m).flatten) dY dY;rw[<-xr,Zxa hm] at hc;exact hc
 clear ih;by_cases hv1:p.kind=2
 .rw[if_pos hv1,KR];refine M.F Tryz.func95 ?_;(repeat' first|refine M.w0 ?_|refine M.cs ?_ ?_<;>intro h|fail)
  rotate_left
  .exfalso;simp at h;exact h hv1
  refine M.rt p.args.length
   (fun m=>([(1,.mp 0),(2,.ptr 1 0),(13,.s .pf p.args),(14,.i p.args.length),(15,.i m)],⟨2,[(0,.map .bl (Az (w9 p.index ks) ((p.args.map Pf.Dt).take m).flatten) (List.replicate (Az (w9 p.index ks) ((p.args.map Pf.Dt).take m).flatten).length true)),(1,.var p.view)]⟩))
   ?_ ?_ ?_
  .simp only[ZX,Z5,xl];rw[<-vx];exact(M.W AQ)
  .intro m hm hP;have hc:=hL m hm (w9 p.index ks);refine M.w1 @hc ?_;exact⟨rfl,trivial,(M.W AQ)⟩
  .intro hP;simp only[VW];skip
   (exact M.n2 Ay (h8:=eM))
 .rw[if_neg hv1,xl];refine M.F Tryz.func95 ?_;(repeat' first|refine M.w0 ?_|refine M.cs ?_ ?_<;>intro h|fail)
  .exfalso;simp at h;exact hv1 h
  refine M.rt p.args.length
   (fun m=>([(1,.mp 0),(2,.ptr 1 0),(13,.s .pf p.args),(14,.i p.args.length),(15,.i m)],⟨2,[(0,.map .bl (Az ks ((p.args.map Pf.Dt).take m).flatten) (List.replicate (Az ks ((p.args.map Pf.Dt).take m).flatten).length true)),(1,.var p.view)]⟩))
   ?_ ?_ ?_
  .simp only[ZX,Z5,xl];exact(M.W AQ)
  .intro m hm hP;have hc:=hL m hm ks;refine M.w1 @hc ?_;exact⟨rfl,trivial,(M.W AQ)⟩
  .intro hP;simp only[VW];skip
   (exact M.n2 Ay (h8:=eM))
theorem TE(l:List Int):(Az [] l).length<=l.length:=by have:=IE l [];simpa using this
theorem Yep(p:Pf)(hp:p.full<100000000000)(hix:p.err=0->p.B7):PC E 20 [.agg p.view] (.AM [.s .int (if p.err=0 then G8 p else []),.i p.err]):=by
 have h1:=we p dY;by_cases he:p.err=0
 .have hc:=Yft _ p [] 0 (ZB _) dY dY dY (hix he) (Lb p ((Pf.Ad p).1 he).1);simp only[Z7,bf] at hc;have hl:=TE (p.D9 0);have hl2:=Zvi p 0;have hs:=NO (ks:=Az [] (p.D9 0)) (wh bp) dY;rw[if_pos he];rw[he] at h1 ⊢;unfold G8;refine M.F Tryz.func20 ?_;(repeat' first|refine M.w1 @h1 ?_|refine M.cb (hc) [1] 0 ?_|refine M.cb (hs) [1] 0 ?_|fail);all_goals first
   |rfl
   |(exfalso;simp at h;done)
   |trace_state
 .rw[if_neg he];refine M.F Tryz.func20 ?_;(repeat' first|refine M.o1 @h1 ?_|refine M.z1 4 ?_|refine M.cs ?_ ?_<;>intro h|refine M.gk ?_|fail);all_goals first
   |rfl
   |(exfalso;simp at h;exact he h)
   |trace_state
theorem Zzj(p:Pf)(hp:p.full<100000000000):PC E 22 [.agg p.view] (.AM [.s .int (if p.err=0 then H7 p else []),.i p.err]):=by
 have h1:=we p dY;by_cases he:p.err=0
 .have hc:=Yfx _ p [] (ZB _) dY;simp only[Z7,bf] at hc;have hl:=TE p.Dt;have hl2:=Zvz p;have hs:=NO (ks:=Az [] p.Dt) (wh bp) dY;rw[if_pos he];rw[he] at h1 ⊢;unfold H7;refine M.F Tryz.func22 ?_;(repeat' first|refine M.w1 @h1 ?_|refine M.cb (hc) [1] 0 ?_|refine M.cb (hs) [1] 0 ?_|fail);all_goals first
   |rfl
   |(exfalso;simp at h;done)
   |trace_state
 .rw[if_neg he];refine M.F Tryz.func22 ?_;(repeat' first|refine M.o1 @h1 ?_|refine M.z1 4 ?_|refine M.cs ?_ ?_<;>intro h|refine M.gk ?_|fail);all_goals first
   |rfl
   |(exfalso;simp at h;exact he h)
   |trace_state
theorem Yeo(p:Pf)(hp:p.full<100000000000)(hix:p.err=0->p.B7):PC E 18 [.agg p.view] (.AM [.s .int (if p.err=0 then Jm p else []),.i p.err]):=by
 have h1:=we p dY;by_cases he:p.err=0
 .have hc:=Yad _ p [] 0 (ZB _) dY dY dY (hix he) (Lb p ((Pf.Ad p).1 he).1);simp only[Z7,bf] at hc;have hl:=TE (p.CD 0);have hl2:=Q7 p 0;have hs:=NO (ks:=Az [] (p.CD 0)) (wh bp) dY;rw[if_pos he];rw[he] at h1 ⊢;unfold Jm;refine M.F Tryz.func18 ?_;(repeat' first|refine M.w1 @h1 ?_|refine M.cb (hc) [1] 0 ?_|refine M.cb (hs) [1] 0 ?_|fail);all_goals first
   |rfl
   |(exfalso;simp at h;done)
   |trace_state
 .rw[if_neg he];refine M.F Tryz.func18 ?_;(repeat' first|refine M.o1 @h1 ?_|refine M.z1 4 ?_|refine M.cs ?_ ?_<;>intro h|refine M.gk ?_|fail);all_goals first
   |rfl
   |(exfalso;simp at h;exact he h)
   |trace_state
theorem LP:∀(b:Nat) (p:Pf),p.full<=b->b<549755813888->PC E 77 [.agg p.view] (.agg p.view):=by
 intro b;induction b with
 |zero=>intro f h;have:=f.Ac;omega
 |succ b ih=>
 intro p hsz hb;have hsz':=p.Af;have hlen:=zd Pf.full Pf.Ac p.args;have hlen1:=zd Fm.full Fm.Ac p.Aa;have hlen2:=zd Tm.full Tm.Ac p.terms;have hty:=wn _ p.ty (ZB _) dY;refine M.F Tryz.func77 ?_;refine M.w1 @hty ?_;refine M.rt p.terms.length
  (fun m=>([(1,.ptr 0 0),(2,.ptr 1 0),(3,.ptr 2 0),(19,.s .tm p.terms),(20,.i p.terms.length),(21,.i m)],⟨4,[(0,.var p.view),(1,.var [.i 0,.i 0,.i 0,.slice .nil (.t .ty []),.slice .nil (.t .tm []),.slice .nil (.t .fm []),.slice .nil (.t .pf [])]),(2,.var [.i p.kind,.i p.index,.i p.ty.kind,.s .ty p.ty.args,.slice (.own 3) (.t .tm (p.terms.take m)),.slice .nil (.t .fm []),.slice .nil (.t .pf [])]),(3,.row)]⟩))
  (M.W HU) ?_ ?_
 .exact kD
 .intro _;simp only[ZF];refine M.w0 ?_;refine M.rt p.Aa.length
   (fun m=>([(1,.ptr 0 0),(2,.ptr 1 0),(3,.ptr 2 0),(34,.s .fm p.Aa),(35,.i p.Aa.length),(36,.i m)],⟨5,[(0,.var p.view),(1,.var [.i 0,.i 0,.i 0,.slice .nil (.t .ty []),.slice .nil (.t .tm []),.slice .nil (.t .fm []),.slice .nil (.t .pf [])]),(2,.var [.i p.kind,.i p.index,.i p.ty.kind,.s .ty p.ty.args,.slice (.own 3) (.t .tm p.terms),.slice (.own 4) (.t .fm (p.Aa.take m)),.slice .nil (.t .pf [])]),(3,.row),(4,.row)]⟩))
   (M.W HR) ?_ ?_
  .intro m hm _;have hs2:=zc Fm.full (ZA hm);(repeat' first|refine M.w0 ?_|refine M.c2 (vj _ _ (ZB _) ?_) ?_|exact M.lt|fail);exact⟨rfl,trivial,(M.W [some 0,some 1,some 2,some 3,some 6] (he:=(by(repeat'(first|exact trivial|exact Or.inr ⟨_,U,rfl⟩|refine And.intro ?_ ?_|refine⟨_,U,_,U,_,U,?_⟩|exact Ai.refl _|exact Ai.of_eq eO));done)))⟩
  .intro _;simp only[ZF];refine M.w0 ?_;refine M.rt p.args.length
    (fun m=>([(1,.ptr 0 0),(2,.ptr 1 0),(3,.ptr 2 0),(49,.s .pf p.args),(50,.i p.args.length),(51,.i m)],⟨6,[(0,.var p.view),(1,.var [.i 0,.i 0,.i 0,.slice .nil (.t .ty []),.slice .nil (.t .tm []),.slice .nil (.t .fm []),.slice .nil (.t .pf [])]),(2,.var [.i p.kind,.i p.index,.i p.ty.kind,.s .ty p.ty.args,.slice (.own 3) (.t .tm p.terms),.slice (.own 4) (.t .fm p.Aa),.slice (.own 5) (.t .pf (p.args.take m))]),(3,.row),(4,.row),(5,.row)]⟩))
    (M.W Mf) ?_ ?_
   .intro m hm _;have hs2:=zc Pf.full (ZA hm);(repeat' first|refine M.w0 ?_|refine M.c2 (ih _ ?_ ?_) ?_|exact M.le|exact M.lt|fail);exact⟨rfl,trivial,(M.W [some 0,some 1,some 2,some 3,some 4,some 7] (he:=(by(repeat'(first|exact trivial|exact Or.inr ⟨_,U,rfl⟩|refine And.intro ?_ ?_|refine⟨_,U,_,U,_,U,?_⟩|exact Ai.refl _|exact Ai.of_eq eO));done)))⟩
   .exact kW
theorem G3(k:Int)(l:List Pf)(hl:l.length<1000000)(h:∀p∈l,p.full<500000000000):PC E 46 [.i k,.s .pf l] (.agg (Pf.mk k 0 (.mk 0 []) [] [] l).view):=by
 refine M.F Tryz.func46 ?_;refine M.w0 ?_;refine M.rt l.length
  (fun m=>([(4,.ptr 0 0),(5,.ptr 1 0),(10,.s .pf l),(11,.i l.length),(12,.i m)],⟨3,[(0,.var [.i 0,.i 0,.i 0,.slice .nil (.t .ty []),.slice .nil (.t .tm []),.slice .nil (.t .fm []),.slice .nil (.t .pf [])]),(1,.var [.i k,.i 0,.i 0,.slice .nil (.t .ty []),.slice .nil (.t .tm []),.slice .nil (.t .fm []),.slice (.own 2) (.t .pf (l.take m))]),(2,.row)]⟩))
  (M.W OP) ?_ ?_
 .intro m hm _;have hc:=LP _ l[m] (ZB _) (by have:=h _ (ZA hm);omega);refine M.w1 @hc ?_;exact⟨rfl,trivial,(M.W [some 0,some 1,some 4] (he:=(by(repeat'(first|exact trivial|exact Or.inr ⟨_,U,rfl⟩|refine And.intro ?_ ?_|refine⟨_,U,_,U,_,U,?_⟩|exact Ai.refl _|exact Ai.of_eq eO));done)))⟩
 .exact kW
theorem Oy(k:Int)(t:Tm)(p:Pf)(ht:t.full<500000000000)(hp:p.full<500000000000):PC E 51 [.i k,.agg t.view,.agg p.view] (.agg (Pf.mk k 0 (.mk 0 []) [t] [] [p]).view):=by
 have h1:=G3 k [p] dZ eB;have h2:=IU _ t (ZB _) dY;refine M.F Tryz.func51 ?_;refine M.w2 @h1 @h2 ?_
 rfl
theorem Qb(f:Fm)(p:Pf)(hf:f.full<500000000000)(hp:p.full<500000000000):PC E 37 [.agg f.view,.agg p.view] (.agg (Pf.mk 6 0 (.mk 0 []) [] [f] [p]).view):=by
 have h1:=G3 6 [p] dZ eB;have h2:=vj _ f (ZB _) dY;refine M.F Tryz.func37 ?_;refine M.w2 @h1 @h2 ?_
 rfl
theorem NU(k:Int)(s:Ty)(p:Pf)(hs:s.size<500000000000)(hp:p.full<500000000000):PC E 49 [.i k,.agg s.view,.agg p.view] (.agg (Pf.mk k 0 s [] [] [p]).view):=by
 have h1:=G3 k [p] dZ eB;have h2:=wn _ s (ZB _) dY;refine M.F Tryz.func49 ?_;refine M.w2 @h1 @h2 ?_
 rfl
theorem Ln(k:Int)(f:Fm)(t:Tm)(p:Pf)(hf:f.full<500000000000)(ht:t.full<500000000000)(hp:p.full<500000000000):PC E 56 [.i k,.agg f.view,.agg t.view,.agg p.view] (.agg (Pf.mk k 0 (.mk 0 []) [t] [f] [p]).view):=by
 have h1:=Oy k t p ht hp;have h2:=vj _ f (ZB _) dY;refine M.F Tryz.func56 ?_;refine M.w2 @h1 @h2 ?_
 rfl
theorem Ry(k:Int)(f:Fm)(t:Tm)(p q:Pf)(hf:f.full<500000000000)(ht:t.full<500000000000)(hp:p.full<500000000000)(hq:q.full<500000000000):PC E 60 [.i k,.agg f.view,.agg t.view,.agg p.view,.agg q.view] (.agg (Pf.mk k 0 (.mk 0 []) [t] [f] [p,q]).view):=by
 have h1:=G3 k [p,q] dZ (by intro x hx;simp only[Z4,aP,or_false] at hx;rcases hx with rfl|rfl<;>omega);have h2:=vj _ f (ZB _) dY;have h3:=IU _ t (ZB _) dY;refine M.F Tryz.func60 ?_;refine M.w3 @h1 @h2 @h3 ?_
 rfl
theorem u9(t:Tm)(ht:t.full<500000000000):PC E 57 [.agg t.view] (.agg (Pf.mk 18 0 (.mk 0 []) [t] [] []).view):=by
 have h2:=IU _ t (ZB _) dY;refine M.F Tryz.func57 ?_;refine M.w1 @h2 ?_
 rfl
theorem WI(f:Fm)(p q:Pf)(hf:f.full<500000000000)(hp:p.full<500000000000)(hq:q.full<500000000000):PC E 63 [.agg f.view,.agg p.view,.agg q.view] (.agg (Pf.mk 19 0 (.mk 0 []) [] [f] [p,q]).view):=by
 have h1:=G3 19 [p,q] dZ (by intro x hx;simp only[Z4,aP,or_false] at hx;rcases hx with rfl|rfl<;>omega);have h2:=vj _ f (ZB _) dY;refine M.F Tryz.func63 ?_;refine M.w2 @h1 @h2 ?_
 rfl
abbrev BH:List V:=[.i 0,.i 0,.i 0,.slice .nil (.t .ty []),.slice .nil (.t .tm []),.slice .nil (.t .fm []),.slice .nil (.t .pf [])]
theorem Rl(xs:List Fm)(x:Fm):(xs.flatMap Fm.view++x.view).all V.FC=true:=by rw[Z6,ZC];exact⟨vi .fm xs,yk .fm x⟩
theorem SY{y1 y2 y yt1 yt2:Ys}(hp1:(yt1++[]).Perm y1)(hp2:(yt2++y1).Perm y2)(h:y2.Perm y):(yt1++(yt2++[])).Perm y:=by
 rw[ZY] at hp1 ⊢;exact(bz.trans (hp1.append_left yt2)).trans (hp2.trans h)
theorem QB{y1 y2 y yt1 yt2 yt:Ys}{q:Nat×Nat×List V}(hp1:(yt1++[]).Perm y1)(hp2:(yt2++y1).Perm y2)(h:(yt++y2).Perm y):(yt1++(yt2++(q::yt))).Perm (q::y):=by
 rw[ZY] at hp1;rw[<-ZE];refine bM.trans (List.Perm.cons _ ?_);refine bz.trans (List.Perm.trans ?_ h);exact List.Perm.append_left _ ((bz.trans (hp1.append_left yt2)).trans hp2)
theorem Yfj:∀(b:Nat) (f:Pf),f.full<=b->b<549755813888->YC E 77 [.agg f.view] (fun r y=>∃p:Value×Value×Value,r= .agg (Ft f p)/\(y.map Prod.fst).Nodup/\∃yt,Bn True f.yn (Ft f p) yt/\yt.Perm y):=by
 intro b;induction b with
 |zero=>intro f h;have:=f.Ac;omega
 |succ b ih=>
 intro f hsz hb;have hsz':=f.Af;have hlen:=zd Pf.full Pf.Ac f.args;have hlen1:=zd Fm.full Fm.Ac f.Aa;have hlen2:=zd Tm.full Tm.Ac f.terms;have hty:=wn _ f.ty (ZB _) dY;refine YC.mk Tryz.func77 rfl rfl rfl rfl rfl ?_;refine BW.seq (.of (AW.AP ?_));refine M.o0 ?_;refine K.yT (BW.seq (.of (AW.DG mixed ew ?_)));refine M.o1 @hty ?_;refine K.yT (BW.seq (BW.seq (.of (AW.AP ?_))));refine M.o0 ?_;refine K.yT ?_
 let A1:Nat->AF:=fun m=>[(1,.ptr 0 0),(2,.ptr 1 0),(3,.ptr 2 0),(19,.s .tm f.terms),(20,.i f.terms.length),(21,.i m)]
 let S10:Aj:=⟨3,[(0,.var f.view),(1,.var BH),(2,.var [.i f.kind,.i f.index,.i f.ty.kind,.s .ty f.ty.args,.slice .nil (.t .tm []),.slice .nil (.t .fm []),.slice .nil (.t .pf [])])]⟩
 let S11:Nat->List V->Aj:=fun m cells=>⟨4,[(0,.var f.view),(1,.var BH),(2,.var [.i f.kind,.i f.index,.i f.ty.kind,.s .ty f.ty.args,.arr 3 m 5,.slice .nil (.t .fm []),.slice .nil (.t .pf [])]),(3,.var cells)]⟩
 refine BW.range f.terms.length (fun m a σ y=>y=[]/\a=A1 m/\((m=0/\σ=S10)\/(0<m/\σ=S11 m ((f.terms.take m).flatMap Tm.view)))) dY ?_ ?_ rfl (.Gc (M.W CI) ⟨rfl,rfl,.inl ⟨rfl,rfl⟩⟩) ?_ ?_
 .exact mQ
 .exact mQ
 .rintro m a σ y hm ⟨rfl,rfl,hst⟩;have hs2:=zc Tm.full (ZA hm);have hc:=IU _ f.terms[m] (ZB _) dY;have ht:(f.terms.take (m+1)).flatMap Tm.view=(f.terms.take m).flatMap Tm.view++f.terms[m].view:=by
   rw[<-ZM hm,bu];simp
  rcases hst with⟨rfl,rfl⟩|⟨h0,rfl⟩
  .refine BW.seq (.of (AW.AP ?_));refine M.o0 ?_;refine K.yT ?_;refine .of (AW.DG mixed ew ?_);repeat'(first|((with_reducible refine D.nil ?_);refine AX.EP ew ?_)|((with_reducible refine D.load ?_);refine L.Ez U U U U U U ?_)|((with_reducible refine D.fieldAddr ?_);refine L.G0 U U U U U ?_)|((with_reducible refine D.call ?_);first|refine L.yN U U U U U U U U U U dY dY ?_|refine L.c2 (hc) U U U U ?_)|((with_reducible refine D.store ?_);refine L.st U U U U U U U U U ?_)|((with_reducible refine D.ax ?_);refine L.GB 0 U U U U U U U ?_))
   exact K.yB ⟨rfl,.Gc (a2:=A1 1) (σ2:=S11 1 f.terms[0].view) (Bc.mk [some 0,some 1,some 2,some 5] _ _ _ U U U U (by repeat'(first|exact trivial|refine And.intro ?_ ?_|refine⟨_,U,_,U,?_⟩|exact Ai.refl _)) (by repeat'(first|exact trivial|refine And.intro ?_ ?_|refine⟨_,U,_,U,_,U,?_⟩|refine⟨_,U,_,(Bn.Hz (s:=False) (xj _ iN) _),_,U,?_⟩|exact Ai.refl _|exact Bb.refl _|exact Ai.DI _))) ⟨rfl,U,.inr ⟨dY,by show S11 _ _=S11 _ _;rw[ht];rfl⟩⟩⟩
  .refine BW.seq (.of (AW.AP ?_));refine M.o0 ?_;refine K.yT ?_;have hcl:((f.terms.take m).flatMap Tm.view).length=m*5:=by have:=wv .tm (f.terms.take m);rw[cA] at this;rw[show min m f.terms.length=m by omega] at this;exact this
   refine .of (AW.DG mixed ew ?_);repeat'(first|((with_reducible refine D.nil ?_);refine AX.EP ew ?_)|((with_reducible refine D.load ?_);refine L.Ez U U U U U U ?_)|((with_reducible refine D.fieldAddr ?_);refine L.G0 U U U U U ?_)|((with_reducible refine D.call ?_);first|refine L.yR U U U U U U U U hcl U U U dY dY ?_|refine L.c2 (hc) U U U U ?_)|((with_reducible refine D.store ?_);refine L.st U U U U U U U U U ?_)|((with_reducible refine D.ax ?_);refine L.GB 0 U U U U U U U ?_))
   exact K.yB ⟨rfl,.Gc (a2:=A1 (m+1)) (σ2:=S11 (m+1) ((f.terms.take m).flatMap Tm.view++f.terms[m].view)) (Bc.mk [some 0,some 1,some 2,some 6] _ _ _ U U U U (by repeat'(first|exact trivial|refine And.intro ?_ ?_|refine⟨_,U,_,U,?_⟩|exact Ai.refl _)) (by repeat'(first|exact trivial|refine And.intro ?_ ?_|refine⟨_,U,_,U,_,U,?_⟩|refine⟨_,U,_,(Bn.Hz (s:=False) (xj _ iN) _),_,U,?_⟩|exact Ai.refl _|exact Bb.refl _|exact Ai.DI _))) ⟨rfl,U,.inr ⟨dY,by show S11 _ _=S11 _ _;rw[ht]⟩⟩⟩
 rintro a σ y ⟨hyy,rfl,hst⟩;obtain rfl:[]=y:=hyy.symm;refine K.yT (BW.weak (S:=fun a3 σ3 y3=>∃tv yt,YM True (DH .tm f.terms) (.raw tv) yt/\(yt++[]).Perm y3/\(y3.map Prod.fst).Nodup/\a3=[(1,.ptr 0 0),(2,.ptr 1 0),(3,.ptr 2 0)]/\σ3=⟨3,[(0,.var f.view),(1,.var BH),(2,.var [.i f.kind,.i f.index,.i f.ty.kind,.s .ty f.ty.args,.raw tv,.slice .nil (.t .fm []),.slice .nil (.t .pf [])])]⟩) ?_ ?_)
 .rcases hst with⟨h0,rfl⟩|⟨h0,rfl⟩
  .have hn:f.terms=[]:=ZS h0;refine As.Gc (Bc.mk CI _ _ _ U U U U (by repeat'(first|exact trivial|refine And.intro ?_ ?_|refine⟨_,U,_,U,?_⟩|exact Ai.refl _)) (by repeat'(first|exact trivial|refine And.intro ?_ ?_|refine⟨_,U,_,U,_,U,?_⟩|refine⟨_,U,_,(Bn.Hz (s:=False) (xj _ iN) _),_,U,?_⟩|exact Ai.refl _|exact Bb.refl _|exact Ai.DI _))) ⟨.slice none 0 0,[],by rw[hn];exact Vu .tm,.refl _,dZ,U,rfl⟩
  .refine As.trans (As.CC (n:=3) (len0:=f.terms.length) (sz:=5) (cs:=(f.terms.take f.terms.length).flatMap Tm.view) rfl (Bn.free (s:=False) (xj _ (vi .tm _))) (.inr ⟨2,_,4,rfl,rfl⟩) (fun b cap=>[(1,.ptr 0 0),(2,.ptr 1 0),(3,.ptr 2 0)])
    (fun b cap=>[(0,.var f.view),(1,.var BH),(2,.var [.i f.kind,.i f.index,.i f.ty.kind,.s .ty f.ty.args,.rs b f.terms.length cap,.slice .nil (.t .fm []),.slice .nil (.t .pf [])]),(3,.gone)])
    (fun b cap=>AF.BM.get ⟨⟨_,rfl,.inl rfl⟩,⟨_,rfl,.inl rfl⟩,⟨_,rfl,.inl rfl⟩,trivial⟩)
    (fun b cap=>Es.BM.get ⟨⟨_,rfl,.same (fun _=> .inl rfl) _⟩,⟨_,rfl,.same (fun _=> .inl rfl) _⟩,⟨_,rfl,.var ⟨.inl rfl,.inl rfl,.inl rfl,.inl rfl,.inr (.inr ⟨_,rfl,rfl⟩),.inl rfl,.inl rfl,trivial⟩⟩,⟨_,rfl,trivial⟩,trivial⟩) (fun b cap=>rfl)) ?_
   rintro _ _ _ ⟨b,cap,hcap,hnb,rfl,rfl,rfl⟩;rw[ZF];refine As.Gc (M.W CI) ⟨_,_,Xw .tm f.terms b _ cap (fun _=>rfl) hcap h0,.refl _,?_,rfl,rfl⟩;simp
 rintro _ _ y1 ⟨tv,yt1,hy1,hp1,hnd1,rfl,rfl⟩;refine BW.seq (BW.seq (.of (AW.AP ?_)));refine M.o0 ?_;refine K.yT ?_
 let A2:Nat->AF:=fun m=>[(1,.ptr 0 0),(2,.ptr 1 0),(3,.ptr 2 0),(34,.s .fm f.Aa),(35,.i f.Aa.length),(36,.i m)]
 let S20:Aj:=⟨3,[(0,.var f.view),(1,.var BH),(2,.var [.i f.kind,.i f.index,.i f.ty.kind,.s .ty f.ty.args,.raw tv,.slice .nil (.t .fm []),.slice .nil (.t .pf [])])]⟩
 let S21:Nat->List V->Aj:=fun m cells=>⟨4,[(0,.var f.view),(1,.var BH),(2,.var [.i f.kind,.i f.index,.i f.ty.kind,.s .ty f.ty.args,.raw tv,.arr 3 m 5,.slice .nil (.t .pf [])]),(3,.var cells)]⟩
 refine BW.range f.Aa.length (fun m a σ y=>y=y1/\a=A2 m/\((m=0/\σ=S20)\/(0<m/\σ=S21 m ((f.Aa.take m).flatMap Fm.view)))) dY ?_ ?_ rfl (.Gc (M.W CI) ⟨rfl,rfl,.inl ⟨rfl,rfl⟩⟩) ?_ ?_
 .exact mQ
 .exact mQ
 .rintro m a σ y hm ⟨rfl,rfl,hst⟩;have hs2:=zc Fm.full (ZA hm);have hc:=vj _ f.Aa[m] (ZB _) dY;have ht:(f.Aa.take (m+1)).flatMap Fm.view=(f.Aa.take m).flatMap Fm.view++f.Aa[m].view:=by
   rw[<-ZM hm,bu];simp
  rcases hst with⟨rfl,rfl⟩|⟨h0,rfl⟩
  .refine BW.seq (.of (AW.AP ?_));refine M.o0 ?_;refine K.yT ?_;refine .of (AW.DG mixed ew ?_);repeat'(first|((with_reducible refine D.nil ?_);refine AX.EP ew ?_)|((with_reducible refine D.load ?_);refine L.Ez U U U U U U ?_)|((with_reducible refine D.fieldAddr ?_);refine L.G0 U U U U U ?_)|((with_reducible refine D.call ?_);first|refine L.yN U U U U U U U U U U dY dY ?_|refine L.c2 (hc) U U U U ?_)|((with_reducible refine D.store ?_);refine L.st U U U U U U U U U ?_)|((with_reducible refine D.ax ?_);refine L.GB 0 U U U U U U U ?_))
   exact K.yB ⟨rfl,.Gc (a2:=A2 1) (σ2:=S21 1 f.Aa[0].view) (Bc.mk [some 0,some 1,some 2,some 5] _ _ _ U U U U (by repeat'(first|exact trivial|refine And.intro ?_ ?_|refine⟨_,U,_,U,?_⟩|exact Ai.refl _)) (by repeat'(first|exact trivial|refine And.intro ?_ ?_|refine⟨_,U,_,U,_,U,?_⟩|refine⟨_,U,_,(Bn.Hz (s:=False) (xj _ iO) _),_,U,?_⟩|exact Ai.refl _|exact Bb.refl _|exact Ai.DI _))) ⟨rfl,U,.inr ⟨dY,by show S21 _ _=S21 _ _;rw[ht];rfl⟩⟩⟩
  .refine BW.seq (.of (AW.AP ?_));refine M.o0 ?_;refine K.yT ?_;have hcl:((f.Aa.take m).flatMap Fm.view).length=m*5:=by have:=wv .fm (f.Aa.take m);rw[cA] at this;rw[show min m f.Aa.length=m by omega] at this;exact this
   refine .of (AW.DG mixed ew ?_);repeat'(first|((with_reducible refine D.nil ?_);refine AX.EP ew ?_)|((with_reducible refine D.load ?_);refine L.Ez U U U U U U ?_)|((with_reducible refine D.fieldAddr ?_);refine L.G0 U U U U U ?_)|((with_reducible refine D.call ?_);first|refine L.yR U U U U U U U U hcl U U U dY dY ?_|refine L.c2 (hc) U U U U ?_)|((with_reducible refine D.store ?_);refine L.st U U U U U U U U U ?_)|((with_reducible refine D.ax ?_);refine L.GB 0 U U U U U U U ?_))
   exact K.yB ⟨rfl,.Gc (a2:=A2 (m+1)) (σ2:=S21 (m+1) ((f.Aa.take m).flatMap Fm.view++f.Aa[m].view)) (Bc.mk [some 0,some 1,some 2,some 6] _ _ _ U U U U (by repeat'(first|exact trivial|refine And.intro ?_ ?_|refine⟨_,U,_,U,?_⟩|exact Ai.refl _)) (by repeat'(first|exact trivial|refine And.intro ?_ ?_|refine⟨_,U,_,U,_,U,?_⟩|refine⟨_,U,_,(Bn.Hz (s:=False) (xj _ iO) _),_,U,?_⟩|exact Ai.refl _|exact Bb.refl _|exact Ai.DI _))) ⟨rfl,U,.inr ⟨dY,by show S21 _ _=S21 _ _;rw[ht]⟩⟩⟩
 rintro a σ y ⟨hyy,rfl,hst⟩;obtain rfl:y1=y:=hyy.symm;refine K.yT (BW.weak (S:=fun a3 σ3 y3=>∃fv yt,YM True (DH .fm f.Aa) (.raw fv) yt/\(yt++y1).Perm y3/\(y3.map Prod.fst).Nodup/\a3=[(1,.ptr 0 0),(2,.ptr 1 0),(3,.ptr 2 0)]/\σ3=⟨3,[(0,.var f.view),(1,.var BH),(2,.var [.i f.kind,.i f.index,.i f.ty.kind,.s .ty f.ty.args,.raw tv,.raw fv,.slice .nil (.t .pf [])])]⟩) ?_ ?_)
 .rcases hst with⟨h0,rfl⟩|⟨h0,rfl⟩
  .have hn:f.Aa=[]:=ZS h0;refine As.Gc (Bc.mk CI _ _ _ U U U U (by repeat'(first|exact trivial|refine And.intro ?_ ?_|refine⟨_,U,_,U,?_⟩|exact Ai.refl _)) (by repeat'(first|exact trivial|refine And.intro ?_ ?_|refine⟨_,U,_,U,_,U,?_⟩|refine⟨_,U,_,(Bn.Hz (s:=False) (xj _ iO) _),_,U,?_⟩|exact Ai.refl _|exact Bb.refl _|exact Ai.DI _))) ⟨.slice none 0 0,[],by rw[hn];exact Vu .fm,.refl _,hnd1,U,rfl⟩
  .refine As.trans (As.CC (n:=3) (len0:=f.Aa.length) (sz:=5) (cs:=(f.Aa.take f.Aa.length).flatMap Fm.view) rfl (Bn.free (s:=False) (xj _ (vi .fm _))) (.inr ⟨2,_,5,rfl,rfl⟩) (fun b cap=>[(1,.ptr 0 0),(2,.ptr 1 0),(3,.ptr 2 0)])
    (fun b cap=>[(0,.var f.view),(1,.var BH),(2,.var [.i f.kind,.i f.index,.i f.ty.kind,.s .ty f.ty.args,.raw tv,.rs b f.Aa.length cap,.slice .nil (.t .pf [])]),(3,.gone)])
    (fun b cap=>AF.BM.get ⟨⟨_,rfl,.inl rfl⟩,⟨_,rfl,.inl rfl⟩,⟨_,rfl,.inl rfl⟩,trivial⟩)
    (fun b cap=>Es.BM.get ⟨⟨_,rfl,.same (fun _=> .inl rfl) _⟩,⟨_,rfl,.same (fun _=> .inl rfl) _⟩,⟨_,rfl,.var ⟨.inl rfl,.inl rfl,.inl rfl,.inl rfl,.inl rfl,.inr (.inr ⟨_,rfl,rfl⟩),.inl rfl,trivial⟩⟩,⟨_,rfl,trivial⟩,trivial⟩) (fun b cap=>rfl)) ?_
   rintro _ _ _ ⟨b,cap,hcap,hnb,rfl,rfl,rfl⟩;rw[ZF];refine As.Gc (M.W CI) ⟨_,_,Xw .fm f.Aa b _ cap (fun _=>rfl) hcap h0,.refl _,?_,rfl,rfl⟩;rw[ZJ,aR];refine⟨fun h=> ?_,hnd1⟩;obtain⟨p,hp,e⟩:=ZQ.1 h;exact hnb p hp e
 rintro _ _ y2 ⟨fv,yt2,hy2,hp2,hnd2,rfl,rfl⟩;refine BW.seq (BW.seq (.of (AW.AP ?_)));refine M.o0 ?_;refine K.yT ?_
 let A2:Nat->AF:=fun m=>[(1,.ptr 0 0),(2,.ptr 1 0),(3,.ptr 2 0),(49,.s .pf f.args),(50,.i f.args.length),(51,.i m)]
 let S2:Aj:=⟨3,[(0,.var f.view),(1,.var BH),(2,.var [.i f.kind,.i f.index,.i f.ty.kind,.s .ty f.ty.args,.raw tv,.raw fv,.slice .nil (.t .pf [])])]⟩
 let S3:Nat->List V->Aj:=fun m cells=>⟨4,[(0,.var f.view),(1,.var BH),(2,.var [.i f.kind,.i f.index,.i f.ty.kind,.s .ty f.ty.args,.raw tv,.raw fv,.arr 3 m 7]),(3,.var cells)]⟩
 refine BW.range f.args.length (fun m a σ y=>∃cells yt,Bn True (Pf.CG (f.args.take m)) cells yt/\(yt++y2).Perm y/\(y.map Prod.fst).Nodup/\a=A2 m/\((m=0/\σ=S2)\/(0<m/\σ=S3 m cells))) dY ?_ ?_ rfl (.Gc (M.W CI) ⟨[],[],.nil,.refl _,hnd2,rfl,.inl ⟨rfl,rfl⟩⟩) ?_ ?_
 .rintro m a σ y ⟨cells,_,_,_,_,rfl,_⟩;rfl
 .rintro m a σ y ⟨cells,_,_,_,_,rfl,_⟩;rfl
 .rintro m a σ y hm ⟨cells,yt,hym,hpm,hnd,rfl,hst⟩;have hs2:=zc Pf.full (ZA hm);have hcl:cells.length=m*7:=by rw[hym.len,Pf.Dv,cA];omega
  have hc:=ih f.args[m] dY dY;have hnx:∀(p:Value×Value×Value) (y' yt':Ys),(y'.map Prod.fst).Nodup->(∀p∈y',∀q∈y,p.1≠q.1)->yt'.Perm y'->Bn True f.args[m].yn (Ft f.args[m] p) yt'->
   ∃yt2,Bn True (Pf.CG (f.args.take (m+1))) (cells++Ft f.args[m] p) yt2/\(yt2++y2).Perm (y'++y)/\((y'++y).map Prod.fst).Nodup:=by
   intro p y' yt' h1 h2 h3 h4;refine⟨yt++yt',?_,?_,?_⟩
   .rw[<-ZM hm,Pf.GF];have:Pf.CG [f.args[m]]=f.args[m].yn:=by simp[Pf.CG]
    rw[this];exact hym.app h4
   .refine ((bz.append_right y2).trans ?_);rw[ZE];exact h3.append hpm
   .rw[aZ,dm];refine⟨h1,hnd,fun a ha b hb=> ?_⟩;obtain⟨p,hp,rfl⟩:=ZQ.1 ha;obtain⟨q,hq,rfl⟩:=ZQ.1 hb;exact h2 p hp q hq
  rcases hst with⟨rfl,rfl⟩|⟨h0,rfl⟩
  .refine BW.seq (.of (AW.AP ?_));refine M.o0 ?_;refine K.yT ?_;refine BW.Kb (π:=Value×Value×Value) (.slice none 0 0,.slice none 0 0,.slice none 0 0) (l1:=[_,_,_]) (fun p=> .agg (Ft f.args[0] p)) _ _ hc mixed ew U U U _ (fun y'=>Bz.G0 U U U U U (Bz.Ez U U U U U U (Bz.Ez U U U U U U (.nil _ _)))) ⟨_,_,U,U,(by(repeat'(first|exact Ai.refl _|exact Ai.any _ _|refine Ai.agg ?_|exact trivial|refine And.intro ?_ ?_));done)⟩ ?_;intro p y';repeat'(first|((with_reducible refine D.nil ?_);refine AX.EP ew ?_)|((with_reducible refine D.fieldAddr ?_);refine L.G0 U U U U U ?_)|((with_reducible refine D.call ?_);refine L.yN U U U U U U U U U U dY dY ?_)|((with_reducible refine D.store ?_);refine L.st U U U U U U U U U ?_)|((with_reducible refine D.ax ?_);refine L.GB 0 U U U U U U U ?_))
   refine⟨rfl,?_⟩;rintro y'' rfl ⟨hnd',yt',hvs,hpm'⟩ hne;obtain⟨yt2,h1,h2,h3⟩:=hnx p _ _ hnd' hne hpm' hvs;have hcn:cells=[]:=ZS dY;rw[hcn,Z3] at h1;exact K.yB ⟨rfl,.Gc (a2:=A2 1) (σ2:=S3 1 (Ft f.args[0] p)) (M.W [some 0,some 1,some 2,some 5]) ⟨_,yt2,h1,h2,h3,rfl,.inr ⟨dY,rfl⟩⟩⟩
  .refine BW.seq (.of (AW.AP ?_));refine M.o0 ?_;refine K.yT ?_;refine BW.Kb (π:=Value×Value×Value) (.slice none 0 0,.slice none 0 0,.slice none 0 0) (l1:=[_,_,_]) (fun p=> .agg (Ft f.args[m] p)) _ _ hc mixed ew U U U _ (fun y'=>Bz.G0 U U U U U (Bz.Ez U U U U U U (Bz.Ez U U U U U U (.nil _ _)))) ⟨_,_,U,U,(by(repeat'(first|exact Ai.refl _|exact Ai.any _ _|refine Ai.agg ?_|exact trivial|refine And.intro ?_ ?_));done)⟩ ?_;intro p y';repeat'(first|((with_reducible refine D.nil ?_);refine AX.EP ew ?_)|((with_reducible refine D.fieldAddr ?_);refine L.G0 U U U U U ?_)|((with_reducible refine D.call ?_);refine L.yR U U U U U U U U hcl U U U dY dY ?_)|((with_reducible refine D.store ?_);refine L.st U U U U U U U U U ?_)|((with_reducible refine D.ax ?_);refine L.GB 0 U U U U U U U ?_))
   refine⟨rfl,?_⟩;rintro y'' rfl ⟨hnd',yt',hvs,hpm'⟩ hne;obtain⟨yt2,h1,h2,h3⟩:=hnx p _ _ hnd' hne hpm' hvs;exact K.yB ⟨rfl,.Gc (a2:=A2 (m+1)) (σ2:=S3 (m+1) (cells++Ft f.args[m] p)) (Bc.mk [some 0,some 1,some 2,some 6] _ _ _ U U U U (by repeat'(first|exact trivial|refine And.intro ?_ ?_|refine⟨_,U,_,U,?_⟩|exact Ai.refl _)) (by repeat'(first|exact trivial|refine And.intro ?_ ?_|refine⟨_,U,_,U,_,U,?_⟩|refine⟨_,U,_,h1.Hz _,_,U,?_⟩|exact Ai.refl _|exact Bb.refl _))) ⟨_,yt2,h1,h2,h3,U,.inr ⟨dY,rfl⟩⟩⟩
 .rintro a σ y ⟨cells,yt,hym,hpm,hnd,rfl,hst⟩;rw[ZF] at hym;rcases hst with⟨h0,rfl⟩|⟨h0,rfl⟩
  .refine K.yT (BW.seq (.of (AW.AP ?_)));refine M.o0 ?_;refine K.yT (BW.ret ?_);have hn:f.args=[]:=ZS h0;refine⟨.agg (Ft f (tv,fv,.slice none 0 0)),⟨(tv,fv,.slice none 0 0),rfl,hnd,yt1++(yt2++[]),.Ev hy1 hy2 ?_,?_⟩,?_⟩
   .rw[hn];exact .nil .pf
   .rw[hn] at hym;cases hym;exact SY hp1 hp2 (by simpa using hpm)
   .exact ⟨_,U,[],U,U,U,U,trivial,_,U,Ai.agg (by repeat'(first|exact trivial|refine And.intro ?_ ?_|exact Ai.refl _|exact Ai.any _ _|exact Ai.DI _))⟩
  .refine K.yT (BW.weak (As.CC (n:=3) (len0:=f.args.length) (sz:=7) (cs:=cells) rfl hym.free (.inr ⟨2,_,6,rfl,rfl⟩) (fun b cap=>[(2,.ptr 1 0),(3,.ptr 2 0)])
    (fun b cap=>[(1,.var BH),(2,.var (Ft f (tv,fv,.slice (some ⟨b,0,none⟩) f.args.length cap))),(3,.gone)])
    (fun b cap=>AF.BM.get ⟨⟨_,rfl,.inl rfl⟩,⟨_,rfl,.inl rfl⟩,trivial⟩) (fun b cap=>Es.BM.get ⟨⟨_,rfl,.same (fun _=> .inl rfl) _⟩,⟨_,rfl,.var ⟨.inl rfl,.inl rfl,.inl rfl,.inl rfl,.inl rfl,.inl rfl,.inr (.inr ⟨_,rfl,rfl⟩),trivial⟩⟩,⟨_,rfl,trivial⟩,trivial⟩) (fun b cap=>rfl)) ?_)
   rintro a2 σ2 y2 ⟨b,cap,hcap,hnb,rfl,rfl,rfl⟩;refine BW.seq (.of (AW.AP ?_));refine M.o0 ?_;refine K.yT (BW.ret ?_);refine⟨.agg (Ft f (tv,fv,.slice (some ⟨b,0,none⟩) f.args.length cap)),⟨_,rfl,?_,yt1++(yt2++((b,cap*7,cells)::yt)),.Ev hy1 hy2 ?_,?_⟩,?_⟩
   .rw[ZJ,aR];refine⟨fun h=> ?_,hnd⟩;obtain⟨p,hp,e⟩:=ZQ.1 h;exact hnb p hp e
   .exact .row .pf _ _ b _ cap _ _ (fun _=>rfl) hcap h0 (Pf.Dv _) hym
   .exact QB hp1 hp2 hpm
   .exact ⟨_,U,[],U,U,U,U,trivial,_,U,Ai.agg (by repeat'(first|exact trivial|refine And.intro ?_ ?_|exact Ai.refl _|exact Ai.any _ _))⟩
end Go.Ab
