/- A part of this seat's proofs. No conditions. -/
import Derived.Test.YtknjfffhfolkcaaGreatDoorHS10
import Derived.Test.YtknjfffhfolkcaaGreatDoorHST1
namespace Go.Ab
open Go Go.Proofs
set_option maxRecDepth 100000
set_option maxHeartbeats 4000000
set_option linter.all false
theorem Np(a:Nat)(b:Bool)(n:Nat)(e:Int)(ha:a<=1000000000000)(hn:n<=1000000000000):
 AC E 159 [.ptr 0 0,.i n,.i e] ⟨1,[(0,.var [.i a,.bool b])]⟩ (.bool (e !=2)) ⟨1,[(0,.var [.i ((a+n:Nat):Int),.bool (b||e==4)])]⟩:=by
 rw[W5];cases b with
 |true=>
  refine M.F Tryz.func159 ?_;(repeat' first|refine M.gw ?_|fail)
  (exact M.n2 [some 0] (h8:=(by simp[zk,V.wk,V.Ap,zc,Ty.view,Tm.view,V.BQ])))
 |false=>
  refine M.F Tryz.func159 ?_;(repeat' first|refine M.gw ?_|fail)
  (exact M.n2 [some 0] (h8:=(by simp[zk,V.wk,V.Ap,zc,Ty.view,Tm.view,V.BQ])))
theorem Yah:∀(n:Nat) (p:Pf) (s:Tl),p.full<=n->n<274877906944->s.1+p.full<=549755813888->
 AC E 117 [.ptr 0 0,.agg p.view] ⟨1,[(0,.var [.i s.1,.bool s.2])]⟩ (.bool (Ds p s).1) ⟨1,[(0,.var [.i (Ds p s).2.1,.bool (Ds p s).2.2])]⟩:=by
 intro n;induction n with
 |zero=>intro p s h;have:=p.Aa;omega
 |succ n ih=>
 intro p s hsz hn hs;have hsz':=p.Af;have hse:=p.size_eq;have hlen:=zd Pf.full Pf.Aa p.args;have hlen1:=zd Fm.full Fm.Aa p.Ac;have hlen2:=zd Tm.full Tm.Aa p.terms;have hle0:=yw (f:=Tm.size) (g:=Tm.full) p.terms fun x _=>x.Aj;have hle1:=yw (f:=Fm.size) (g:=Fm.full) p.Ac fun x _=>x.Aj;have hle2:=yw (f:=Pf.size) (g:=Pf.full) p.args fun x _=>x.Aj;have hru:=vd p.kind;have he:=TZ p s;cases hnd:BD p.kind with
 |none=>
  have e2:C0 p.kind=[.bool false,.bool false,.i 0,.i 0,.i 0,.i 0,.i 0,.i 0]:=by unfold C0;rw[hnd]
  have e:p.Fa=false:=by unfold Pf.Fa;rw[hnd]
  rw[hnd,e2] at hru;rw[if_pos e] at he;rw[he];refine M.F Tryz.func117 ?_;(repeat' first|refine M.gw ?_|refine M.c2 (hru) ?_|fail)
  (exact M.n2 [some 0] (h8:=(by simp[zk,V.wk,V.Ap,zc,Ty.view,Tm.view,V.BQ])))
 |some nd=>
 cases hty:nd.typ with
 |true=>
  have e2:C0 p.kind=[.bool nd.index,.bool true,.i nd.terms,.i nd.Ac,.i nd.args,.i (Aw p.kind),.i (As p.kind),.i (At p.kind)]:=by unfold C0;rw[hnd,<-hty]
  rw[hnd,e2] at hru;simp only[Xf] at hru;by_cases hA:p.Fa=false
  .rw[if_pos hA] at he;rw[he];refine M.F Tryz.func117 ?_;(repeat' first|refine M.go ?_|refine M.c2 (hru) ?_|refine M.gs ?_ ?_<;>intro h|refine M.z1 4 ?_|refine M.cs ?_ ?_<;>intro h|refine M.gk ?_|fail);all_goals(try(exfalso;simp only[Pf.Fa,hnd] at hA;simp_all;done))
   all_goals(try(exfalso;simp only[Pf.Fa,hnd] at hA;simp_all;omega))
   all_goals(exact M.n2 [some 0] (h8:=(by simp[zk,V.wk,V.Ap,zc,Ty.view,Tm.view,V.BQ])))
  rw[if_neg hA] at he;rw[XF] at hA;have hA2:=hA;simp only[Pf.Fa,hnd,Wk,Xl,decide_eq_true_eq,beq_iff_eq] at hA2;obtain⟨⟨⟨⟨q1,q2⟩,q3⟩,q4⟩,q5⟩:=hA2;have hT:p.F4=p.ty.ok:=by unfold Pf.F4;rw[hnd];simp only[hty];rfl
  have hct:=OG p.ty (by omega);by_cases hx:p.ty.err=0;case neg=>
   have hT2:p.F4=false:=by
    rw[hT];cases ho:p.ty.ok with
    |false=>rfl
    |true=>exact absurd (Rx ho) hx
   rw[if_pos hT2] at he;rw[he];refine M.F Tryz.func117 ?_;(repeat' first|refine M.go ?_|refine M.c2 (hru) ?_|refine M.c2 (hct) ?_|refine M.gs ?_ ?_<;>intro h|refine M.z1 11 ?_|refine M.cs ?_ ?_<;>intro h|refine M.gk ?_|fail);all_goals(try(exfalso;simp_all;done))
   all_goals(try(exfalso;simp_all;omega))
   all_goals(exact M.n2 [some 0] (h8:=(by simp[zk,V.wk,V.Ap,zc,Ty.view,Tm.view,V.BQ])))
  have hT2:p.F4=true:=by
   rw[hT];have:=(Ty.Ad p.ty).1 hx;exact JA this.1 this.2
  rw[if_neg (by simp[hT2])] at he;rw[hx] at hct;refine M.F Tryz.func117 ?_;(repeat' first|refine M.gw ?_|refine M.c2 (hru) ?_|refine M.c2 (hct) ?_|refine M.gs ?_ ?_<;>intro h|refine M.cs ?_ ?_<;>intro h|fail);all_goals(try(exfalso;simp_all;done))
  all_goals(try(exfalso;simp_all;omega))
  all_goals
   refine AW.range p.terms.length (fun m=>(BV (p.terms.take m) (s.1+1,s.2)).1=true)
    (fun m=>([(0,.ptr 0 0),(3,.ptr 1 0),(84,.s .tm p.terms),(85,.i p.terms.length),(86,.i m)],⟨2,[(0,.var [.i ((BV (p.terms.take m) (s.1+1,s.2)).2.1:Nat),.bool (BV (p.terms.take m) (s.1+1,s.2)).2.2]),(1,.var p.view)]⟩))
    (by omega) (fun m=>rfl) (fun m=>rfl) rfl rfl (M.W [some 0,some 1]) ?_ ?_
   .intro m hm hP;have hs2:=za Tm.full (Wi hm);have hs4:=zm Tm.size p.terms m;have hok:=(Jx (p.terms.take m) (s.1+1,s.2)).2.1;have hnn:0<=p.terms[m].num/\p.terms[m].num<=4096:=by rcases PG p.terms[m] with⟨_,_,_,e⟩|⟨_,_,e⟩|⟨_,_,_,e⟩<;>omega
    have hnum:p.terms[m].num=(p.terms[m].num.toNat:Int):=by omega
    have hc:=Kf p.terms[m] (by omega);rw[hnum] at hc;have hcnt:=Np (BV (p.terms.take m) (s.1+1,s.2)).2.1 (BV (p.terms.take m) (s.1+1,s.2)).2.2 p.terms[m].num.toNat p.terms[m].err (by simp only at hok;omega) (by omega);by_cases h2:p.terms[m].err=2
    .rw[show(p.terms[m].err !=2)=false by simp[h2]] at hcnt;have hst:=S9 hm hP h2;rw[hst,if_pos rfl] at he;rw[he];(repeat' first|refine M.gw ?_|refine M.c2 (hc) ?_|refine M.cb (hcnt) [0] 0 ?_|fail)
     (exact M.n2 [some 0] (h8:=(by simp[zk,V.wk,V.Ap,zc,Ty.view,Tm.view,V.BQ])))
    .rw[show(p.terms[m].err !=2)=true by simp[h2]] at hcnt;have hA1:BV (p.terms.take (m+1)) (s.1+1,s.2)=(true,((BV (p.terms.take m) (s.1+1,s.2)).2.1+p.terms[m].num.toNat,(BV (p.terms.take m) (s.1+1,s.2)).2.2||p.terms[m].err==4)):=by
      rw[RE hm hP,BV,if_neg h2];rfl
     (repeat' first|refine M.gw ?_|refine M.c2 (hc) ?_|refine M.cb (hcnt) [0] 0 ?_|fail);refine⟨rfl,congrArg Prod.fst hA1,?_⟩;simp only[hA1];exact(M.W [some 0,some 1])
   .intro hP;simp only[Wp] at hP;simp only[Wp];have hAok:=(Jx p.terms (s.1+1,s.2)).2.1;rw[if_neg (by simp[hP])] at he;generalize hA0:BV p.terms (s.1+1,s.2)=a0 at*;(repeat' first|refine M.gw ?_|fail);refine AW.range p.Ac.length (fun m=>(B7 (p.Ac.take m) a0.2).1=true)
     (fun m=>([(0,.ptr 0 0),(3,.ptr 1 0),(99,.s .fm p.Ac),(100,.i p.Ac.length),(101,.i m)],⟨2,[(0,.var [.i ((B7 (p.Ac.take m) a0.2).2.1:Nat),.bool (B7 (p.Ac.take m) a0.2).2.2]),(1,.var p.view)]⟩))
     (by omega) (fun m=>rfl) (fun m=>rfl) rfl rfl (M.W [some 0,some 1]) ?_ ?_
    .intro m hm hP2;have hs2:=za Fm.full (Wi hm);have hs4:=zm Fm.size p.Ac m;have hok:=(Jl (p.Ac.take m) a0.2).2.1;have hnn:=So p.Ac[m];have hnum:p.Ac[m].num=(p.Ac[m].num.toNat:Int):=by omega
     have hc:=OJ p.Ac[m] (by omega);rw[hnum] at hc;have hcnt:=Np (B7 (p.Ac.take m) a0.2).2.1 (B7 (p.Ac.take m) a0.2).2.2 p.Ac[m].num.toNat p.Ac[m].err (by simp only at hAok;omega) (by omega);by_cases h2:p.Ac[m].err=2
     .rw[show(p.Ac[m].err !=2)=false by simp[h2]] at hcnt;have hst:=Uv hm hP2 h2;rw[hst,if_pos rfl] at he;rw[he];(repeat' first|refine M.gw ?_|refine M.c2 (hc) ?_|refine M.cb (hcnt) [0] 0 ?_|fail)
      (exact M.n2 [some 0] (h8:=(by simp[zk,V.wk,V.Ap,zc,Ty.view,Tm.view,V.BQ])))
     .rw[show(p.Ac[m].err !=2)=true by simp[h2]] at hcnt;have hA1:B7 (p.Ac.take (m+1)) a0.2=(true,((B7 (p.Ac.take m) a0.2).2.1+p.Ac[m].num.toNat,(B7 (p.Ac.take m) a0.2).2.2||p.Ac[m].err==4)):=by
       rw[Ut hm hP2,B7,if_neg h2];rfl
      (repeat' first|refine M.gw ?_|refine M.c2 (hc) ?_|refine M.cb (hcnt) [0] 0 ?_|fail);refine⟨rfl,congrArg Prod.fst hA1,?_⟩;simp only[hA1];exact(M.W [some 0,some 1])
    .intro hP2;simp only[Wp] at hP2;simp only[Wp];have hBok:=(Jl p.Ac a0.2).2.1;rw[if_neg (by simp[hP2])] at he;generalize hB0:B7 p.Ac a0.2=b0 at*;(repeat' first|refine M.gw ?_|fail);refine AW.range p.args.length (fun m=>(Cs (p.args.take m) b0.2).1=true)
      (fun m=>([(0,.ptr 0 0),(3,.ptr 1 0),(114,.s .pf p.args),(115,.i p.args.length),(116,.i m)],⟨2,[(0,.var [.i ((Cs (p.args.take m) b0.2).2.1:Nat),.bool (Cs (p.args.take m) b0.2).2.2]),(1,.var p.view)]⟩))
      (by omega) (fun m=>rfl) (fun m=>rfl) rfl rfl (M.W [some 0,some 1]) ?_ ?_
     .intro m hm hP3;have hs2:=za Pf.full (Wi hm);have hs4:=zm Pf.size p.args m;have hok:=(Od (p.args.take m) (fun q _=>PK q) b0.2).2.1;have hs5:=yk Pf.full p.args m hm;have hs6:=zm Pf.full p.args (m+1);have hs7:=yw (f:=Pf.size) (g:=Pf.full) (p.args.take m) fun x _=>x.Aj;have hc:=ih p.args[m] (Cs (p.args.take m) b0.2).2 (by omega) (by omega) (by simp only at hAok;omega);cases h2:(Ds p.args[m] (Cs (p.args.take m) b0.2).2).1 with
      |false=>
       have hst:=Tv hm hP3 h2;rw[hst] at he;rw[he];rw[h2] at hc ⊢;(repeat' first|refine M.gw ?_|refine M.cb (hc) [0] 0 ?_|fail)
       (exact M.n2 [some 0] (h8:=(by simp[zk,V.wk,V.Ap,zc,Ty.view,Tm.view,V.BQ])))
      |true=>
       rw[h2] at hc;have hA1:Cs (p.args.take (m+1)) b0.2=Ds p.args[m] (Cs (p.args.take m) b0.2).2:=by rw[Te hm hP3,Wb]
       (repeat' first|refine M.gw ?_|refine M.cb (hc) [0] 0 ?_|fail);refine⟨rfl,(congrArg Prod.fst hA1).trans h2,?_⟩;simp only[hA1];exact(M.W [some 0,some 1])
     .intro hP3;simp only[Wp] at hP3;simp only[Wp];rw[he,hP3];(repeat' first|refine M.gw ?_|fail)
      (exact M.n2 [some 0] (h8:=(by simp[zk,V.wk,V.Ap,zc,Ty.view,Tm.view,V.BQ])))
 |false=>
  have e2:C0 p.kind=[.bool nd.index,.bool false,.i nd.terms,.i nd.Ac,.i nd.args,.i (Aw p.kind),.i (As p.kind),.i (At p.kind)]:=by unfold C0;rw[hnd,<-hty]
  rw[hnd,e2] at hru;simp only[Xf] at hru;by_cases hA:p.Fa=false
  .rw[if_pos hA] at he;rw[he];refine M.F Tryz.func117 ?_;(repeat' first|refine M.go ?_|refine M.c2 (hru) ?_|refine M.gs ?_ ?_<;>intro h|refine M.z1 4 ?_|refine M.cs ?_ ?_<;>intro h|refine M.gk ?_|fail);all_goals(try(exfalso;simp only[Pf.Fa,hnd] at hA;simp_all;done))
   all_goals(try(exfalso;simp only[Pf.Fa,hnd] at hA;simp_all;omega))
   all_goals(exact M.n2 [some 0] (h8:=(by simp[zk,V.wk,V.Ap,zc,Ty.view,Tm.view,V.BQ])))
  rw[if_neg hA] at he;rw[XF] at hA;have hA2:=hA;simp only[Pf.Fa,hnd,Wk,Xl,decide_eq_true_eq,beq_iff_eq] at hA2;obtain⟨⟨⟨⟨q1,q2⟩,q3⟩,q4⟩,q5⟩:=hA2;have hT:p.F4=p.ty.BL:=by unfold Pf.F4;rw[hnd];simp only[hty];rfl
  have hct:=PD p.ty;by_cases hx:p.ty.BL=true;case neg=>
   rw[X4] at hx;have hT2:p.F4=false:=by rw[hT,hx]
   rw[if_pos hT2] at he;rw[he];rw[hx] at hct;refine M.F Tryz.func117 ?_;(repeat' first|refine M.go ?_|refine M.c2 (hru) ?_|refine M.c2 (hct) ?_|refine M.gs ?_ ?_<;>intro h|refine M.z1 11 ?_|refine M.cs ?_ ?_<;>intro h|refine M.gk ?_|fail);all_goals(try(exfalso;simp_all;done))
   all_goals(try(exfalso;simp_all;omega))
   all_goals(exact M.n2 [some 0] (h8:=(by simp[zk,V.wk,V.Ap,zc,Ty.view,Tm.view,V.BQ])))
  have hT2:p.F4=true:=by rw[hT,hx]
  rw[if_neg (by simp[hT2])] at he;rw[hx] at hct;refine M.F Tryz.func117 ?_;(repeat' first|refine M.gw ?_|refine M.c2 (hru) ?_|refine M.c2 (hct) ?_|refine M.gs ?_ ?_<;>intro h|refine M.cs ?_ ?_<;>intro h|fail);all_goals(try(exfalso;simp_all;done))
  all_goals(try(exfalso;simp_all;omega))
  all_goals
   refine AW.range p.terms.length (fun m=>(BV (p.terms.take m) (s.1+1,s.2)).1=true)
    (fun m=>([(0,.ptr 0 0),(3,.ptr 1 0),(84,.s .tm p.terms),(85,.i p.terms.length),(86,.i m)],⟨2,[(0,.var [.i ((BV (p.terms.take m) (s.1+1,s.2)).2.1:Nat),.bool (BV (p.terms.take m) (s.1+1,s.2)).2.2]),(1,.var p.view)]⟩))
    (by omega) (fun m=>rfl) (fun m=>rfl) rfl rfl (M.W [some 0,some 1]) ?_ ?_
   .intro m hm hP;have hs2:=za Tm.full (Wi hm);have hs4:=zm Tm.size p.terms m;have hok:=(Jx (p.terms.take m) (s.1+1,s.2)).2.1;have hnn:0<=p.terms[m].num/\p.terms[m].num<=4096:=by rcases PG p.terms[m] with⟨_,_,_,e⟩|⟨_,_,e⟩|⟨_,_,_,e⟩<;>omega
    have hnum:p.terms[m].num=(p.terms[m].num.toNat:Int):=by omega
    have hc:=Kf p.terms[m] (by omega);rw[hnum] at hc;have hcnt:=Np (BV (p.terms.take m) (s.1+1,s.2)).2.1 (BV (p.terms.take m) (s.1+1,s.2)).2.2 p.terms[m].num.toNat p.terms[m].err (by simp only at hok;omega) (by omega);by_cases h2:p.terms[m].err=2
    .rw[show(p.terms[m].err !=2)=false by simp[h2]] at hcnt;have hst:=S9 hm hP h2;rw[hst,if_pos rfl] at he;rw[he];(repeat' first|refine M.gw ?_|refine M.c2 (hc) ?_|refine M.cb (hcnt) [0] 0 ?_|fail)
     (exact M.n2 [some 0] (h8:=(by simp[zk,V.wk,V.Ap,zc,Ty.view,Tm.view,V.BQ])))
    .rw[show(p.terms[m].err !=2)=true by simp[h2]] at hcnt;have hA1:BV (p.terms.take (m+1)) (s.1+1,s.2)=(true,((BV (p.terms.take m) (s.1+1,s.2)).2.1+p.terms[m].num.toNat,(BV (p.terms.take m) (s.1+1,s.2)).2.2||p.terms[m].err==4)):=by
      rw[RE hm hP,BV,if_neg h2];rfl
     (repeat' first|refine M.gw ?_|refine M.c2 (hc) ?_|refine M.cb (hcnt) [0] 0 ?_|fail);refine⟨rfl,congrArg Prod.fst hA1,?_⟩;simp only[hA1];exact(M.W [some 0,some 1])
   .intro hP;simp only[Wp] at hP;simp only[Wp];have hAok:=(Jx p.terms (s.1+1,s.2)).2.1;rw[if_neg (by simp[hP])] at he;generalize hA0:BV p.terms (s.1+1,s.2)=a0 at*;(repeat' first|refine M.gw ?_|fail);refine AW.range p.Ac.length (fun m=>(B7 (p.Ac.take m) a0.2).1=true)
     (fun m=>([(0,.ptr 0 0),(3,.ptr 1 0),(99,.s .fm p.Ac),(100,.i p.Ac.length),(101,.i m)],⟨2,[(0,.var [.i ((B7 (p.Ac.take m) a0.2).2.1:Nat),.bool (B7 (p.Ac.take m) a0.2).2.2]),(1,.var p.view)]⟩))
     (by omega) (fun m=>rfl) (fun m=>rfl) rfl rfl (M.W [some 0,some 1]) ?_ ?_
    .intro m hm hP2;have hs2:=za Fm.full (Wi hm);have hs4:=zm Fm.size p.Ac m;have hok:=(Jl (p.Ac.take m) a0.2).2.1;have hnn:=So p.Ac[m];have hnum:p.Ac[m].num=(p.Ac[m].num.toNat:Int):=by omega
     have hc:=OJ p.Ac[m] (by omega);rw[hnum] at hc;have hcnt:=Np (B7 (p.Ac.take m) a0.2).2.1 (B7 (p.Ac.take m) a0.2).2.2 p.Ac[m].num.toNat p.Ac[m].err (by simp only at hAok;omega) (by omega);by_cases h2:p.Ac[m].err=2
     .rw[show(p.Ac[m].err !=2)=false by simp[h2]] at hcnt;have hst:=Uv hm hP2 h2;rw[hst,if_pos rfl] at he;rw[he];(repeat' first|refine M.gw ?_|refine M.c2 (hc) ?_|refine M.cb (hcnt) [0] 0 ?_|fail)
      (exact M.n2 [some 0] (h8:=(by simp[zk,V.wk,V.Ap,zc,Ty.view,Tm.view,V.BQ])))
     .rw[show(p.Ac[m].err !=2)=true by simp[h2]] at hcnt;have hA1:B7 (p.Ac.take (m+1)) a0.2=(true,((B7 (p.Ac.take m) a0.2).2.1+p.Ac[m].num.toNat,(B7 (p.Ac.take m) a0.2).2.2||p.Ac[m].err==4)):=by
       rw[Ut hm hP2,B7,if_neg h2];rfl
      (repeat' first|refine M.gw ?_|refine M.c2 (hc) ?_|refine M.cb (hcnt) [0] 0 ?_|fail);refine⟨rfl,congrArg Prod.fst hA1,?_⟩;simp only[hA1];exact(M.W [some 0,some 1])
    .intro hP2;simp only[Wp] at hP2;simp only[Wp];have hBok:=(Jl p.Ac a0.2).2.1;rw[if_neg (by simp[hP2])] at he;generalize hB0:B7 p.Ac a0.2=b0 at*;(repeat' first|refine M.gw ?_|fail);refine AW.range p.args.length (fun m=>(Cs (p.args.take m) b0.2).1=true)
      (fun m=>([(0,.ptr 0 0),(3,.ptr 1 0),(114,.s .pf p.args),(115,.i p.args.length),(116,.i m)],⟨2,[(0,.var [.i ((Cs (p.args.take m) b0.2).2.1:Nat),.bool (Cs (p.args.take m) b0.2).2.2]),(1,.var p.view)]⟩))
      (by omega) (fun m=>rfl) (fun m=>rfl) rfl rfl (M.W [some 0,some 1]) ?_ ?_
     .intro m hm hP3;have hs2:=za Pf.full (Wi hm);have hs4:=zm Pf.size p.args m;have hok:=(Od (p.args.take m) (fun q _=>PK q) b0.2).2.1;have hs5:=yk Pf.full p.args m hm;have hs6:=zm Pf.full p.args (m+1);have hs7:=yw (f:=Pf.size) (g:=Pf.full) (p.args.take m) fun x _=>x.Aj;have hc:=ih p.args[m] (Cs (p.args.take m) b0.2).2 (by omega) (by omega) (by simp only at hAok;omega);cases h2:(Ds p.args[m] (Cs (p.args.take m) b0.2).2).1 with
      |false=>
       have hst:=Tv hm hP3 h2;rw[hst] at he;rw[he];rw[h2] at hc ⊢;(repeat' first|refine M.gw ?_|refine M.cb (hc) [0] 0 ?_|fail)
       (exact M.n2 [some 0] (h8:=(by simp[zk,V.wk,V.Ap,zc,Ty.view,Tm.view,V.BQ])))
      |true=>
       rw[h2] at hc;have hA1:Cs (p.args.take (m+1)) b0.2=Ds p.args[m] (Cs (p.args.take m) b0.2).2:=by rw[Te hm hP3,Wb]
       (repeat' first|refine M.gw ?_|refine M.cb (hc) [0] 0 ?_|fail);refine⟨rfl,(congrArg Prod.fst hA1).trans h2,?_⟩;simp only[hA1];exact(M.W [some 0,some 1])
     .intro hP3;simp only[Wp] at hP3;simp only[Wp];rw[he,hP3];(repeat' first|refine M.gw ?_|fail)
      (exact M.n2 [some 0] (h8:=(by simp[zk,V.wk,V.Ap,zc,Ty.view,Tm.view,V.BQ])))
theorem y3(k v h:Int)(nd:Nd)(hnd:BD k=some nd)(m:Nat)(hm:m<=1000000)(hv:0<=v/\v<=1000000000000)(hh:0<=h/\h<=1000000000000):
 PC E 131 [.agg [.i v,.i h],.agg (C0 k),.i m] (.agg [.i (if(m:Int)=(nd.args:Int)-1 then v+As k else v),.i (if(m:Int)=(nd.args:Int)-1 then h+At k else h)]):=by
 have e2:C0 k=[.bool nd.index,.bool nd.typ,.i nd.terms,.i nd.Ac,.i nd.args,.i (Aw k),.i (As k),.i (At k)]:=by unfold C0;rw[hnd]
 have b1:0<=As k/\As k<=2:=by unfold As;split<;>(try split)<;>omega
 have b2:0<=At k/\At k<=1:=by unfold At;split<;>omega
 have b3:(nd.args:Int)<=2:=by
  have:nd.args<=2:=by
   unfold BD at hnd
   repeat(split at hnd;· cases hnd;decide)
   cases hnd
  omega
 rw[e2];by_cases hl:(m:Int)=(nd.args:Int)-1
 .rw[if_pos hl,if_pos hl];refine M.F Tryz.func131 ?_;(repeat' first|refine M.gw ?_|refine M.cs ?_ ?_<;>intro h|fail);all_goals first
   |rfl
   |(exfalso;simp at h;omega)
   |trace_state
 .rw[if_neg hl,if_neg hl];refine M.F Tryz.func131 ?_;(repeat' first|refine M.gw ?_|refine M.cs ?_ ?_<;>intro h|fail);all_goals first
   |rfl
   |(exfalso;simp at h;omega)
   |trace_state
theorem Yd1:∀(n:Nat) (p:Pf) (v y:Int),p.full<=n->n<274877906944->(0<=v/\v+2*n<=1000000000000)->(0<=y/\y+2*n<=1000000000000)->p.shape=true->
 PC E 97 [.agg p.view,.agg [.i v,.i y],.agg [.nilf,.nilf,.nilf]] (.agg p.view):=by
 intro n;induction n with
 |zero=>intro p v y hz;have:=p.Aa;omega
 |succ n ih=>
 intro p v y hz hn hv hh hs;have hsz':=p.Af;have hlen:=zd Pf.full Pf.Aa p.args;have hlen1:=zd Fm.full Fm.Aa p.Ac;have hlen2:=zd Tm.full Tm.Aa p.terms;have hty:=uk _ p.ty (Wj _) (by omega);have hru:=vd p.kind;obtain⟨nd,n1,n2,n3,n4,_⟩:=xr hs;have hal:p.args.length<=2:=by
  rw[n4];unfold BD at n1
  repeat(split at n1;· cases n1;decide)
  cases n1
 have hpl:=fun(m:Nat) (hm:m<=1000000)=>y3 p.kind v y nd n1 m hm (by omega) (by omega);have e2:C0 p.kind=[.bool nd.index,.bool nd.typ,.i nd.terms,.i nd.Ac,.i nd.args,.i (Aw p.kind),.i (As p.kind),.i (At p.kind)]:=by unfold C0;rw[n1]
 have b1:0<=As p.kind/\As p.kind<=2:=by unfold As;split<;>(try split)<;>omega
 have b2:0<=At p.kind/\At p.kind<=1:=by unfold At;split<;>omega
 rw[n1] at hru;simp only[Xf] at hru;have hpf:=(ze hs).2.2.2;rw[e2] at hru;simp only[e2] at hpl;refine M.F Tryz.func97 ?_;(repeat' first|refine M.gw ?_|refine M.c2 (hru) ?_|refine M.c2 (hty) ?_|refine M.gs ?_ ?_<;>intro h|fail);all_goals
  refine AW.range p.terms.length (fun m=>True)
   (fun m=>([(3,.ptr 0 0),(4,.ptr 1 0),(5,.ptr 2 0),(6,.ptr 3 0),(7,.ptr 4 0),(9,.ptr 5 0),(44,.s .tm p.terms),(45,.i p.terms.length),(46,.i m)],⟨7,[(0,.var p.view),(1,.var [.i v,.i y]),(2,.var [.nilf,.nilf,.nilf]),(3,.var [.i 0,.i 0,.i 0,.slice .nil (.t .ty []),.slice .nil (.t .tm []),.slice .nil (.t .fm []),.slice .nil (.t .pf [])]),(4,.var [.bool nd.index,.bool nd.typ,.i nd.terms,.i nd.Ac,.i nd.args,.i (Aw p.kind),.i (As p.kind),.i (At p.kind)]),(5,.var [.i p.kind,.i p.index,.i p.ty.kind,.s .ty p.ty.args,.slice (.own 6) (.t .tm (p.terms.take m)),.slice .nil (.t .fm []),.slice .nil (.t .pf [])]),(6,.row)]⟩))
   (by omega) (fun m=>rfl) (fun m=>rfl) rfl trivial (M.W [some 0,some 1,some 2,some 3,some 4,some 5,none]) ?_ ?_
  .intro m hm _;have hs2:=za Tm.full (Wi hm);have hc:=Mo _ p.terms[m] (Wj _) (by omega);(repeat' first|refine M.gw ?_|refine M.c2 (hc) ?_|fail);exact⟨rfl,trivial,(M.W [some 0,some 1,some 2,some 3,some 4,some 5,some 8] (he:=(by(repeat'(first|exact trivial|exact Or.inr ⟨_,U,rfl⟩|refine And.intro ?_ ?_|refine⟨_,U,_,U,_,U,?_⟩|exact Ao.refl _|exact Ao.of_eq (by simp[Aq.Ay,Wv])));done)))⟩
  .intro _;simp only[Wp];(repeat' first|refine M.gw ?_|fail);refine AW.range p.Ac.length (fun m=>True)
    (fun m=>([(3,.ptr 0 0),(4,.ptr 1 0),(5,.ptr 2 0),(6,.ptr 3 0),(7,.ptr 4 0),(9,.ptr 5 0),(73,.s .fm p.Ac),(74,.i p.Ac.length),(75,.i m)],⟨8,[(0,.var p.view),(1,.var [.i v,.i y]),(2,.var [.nilf,.nilf,.nilf]),(3,.var [.i 0,.i 0,.i 0,.slice .nil (.t .ty []),.slice .nil (.t .tm []),.slice .nil (.t .fm []),.slice .nil (.t .pf [])]),(4,.var [.bool nd.index,.bool nd.typ,.i nd.terms,.i nd.Ac,.i nd.args,.i (Aw p.kind),.i (As p.kind),.i (At p.kind)]),(5,.var [.i p.kind,.i p.index,.i p.ty.kind,.s .ty p.ty.args,.slice (.own 6) (.t .tm p.terms),.slice (.own 7) (.t .fm (p.Ac.take m)),.slice .nil (.t .pf [])]),(6,.row),(7,.row)]⟩))
    (by omega) (fun m=>rfl) (fun m=>rfl) rfl trivial (M.W [some 0,some 1,some 2,some 3,some 4,some 5,some 6,none]) ?_ ?_
   .intro m hm _;have hs2:=za Fm.full (Wi hm);have hc:=Re p.Ac[m] (by omega);(repeat' first|refine M.gw ?_|refine M.c2 (hc) ?_|fail);exact⟨rfl,trivial,(M.W [some 0,some 1,some 2,some 3,some 4,some 5,some 6,some 9] (he:=(by(repeat'(first|exact trivial|exact Or.inr ⟨_,U,rfl⟩|refine And.intro ?_ ?_|refine⟨_,U,_,U,_,U,?_⟩|exact Ao.refl _|exact Ao.of_eq (by simp[Aq.Ay,Wv])));done)))⟩
   .intro _;simp only[Wp];(repeat' first|refine M.gw ?_|fail);refine AW.range p.args.length (fun m=>True)
     (fun m=>([(3,.ptr 0 0),(4,.ptr 1 0),(5,.ptr 2 0),(6,.ptr 3 0),(7,.ptr 4 0),(9,.ptr 5 0),(105,.s .pf p.args),(106,.i p.args.length),(107,.i m)],⟨9,[(0,.var p.view),(1,.var [.i v,.i y]),(2,.var [.nilf,.nilf,.nilf]),(3,.var [.i 0,.i 0,.i 0,.slice .nil (.t .ty []),.slice .nil (.t .tm []),.slice .nil (.t .fm []),.slice .nil (.t .pf [])]),(4,.var [.bool nd.index,.bool nd.typ,.i nd.terms,.i nd.Ac,.i nd.args,.i (Aw p.kind),.i (As p.kind),.i (At p.kind)]),(5,.var [.i p.kind,.i p.index,.i p.ty.kind,.s .ty p.ty.args,.slice (.own 6) (.t .tm p.terms),.slice (.own 7) (.t .fm p.Ac),.slice (.own 8) (.t .pf (p.args.take m))]),(6,.row),(7,.row),(8,.row)]⟩))
     (by omega) (fun m=>rfl) (fun m=>rfl) rfl trivial (M.W [some 0,some 1,some 2,some 3,some 4,some 5,some 6,some 7,none]) ?_ ?_
    .intro m hm _;have hs2:=za Pf.full (Wi hm);have hb:=hpl m (by omega);have hc:=ih p.args[m] (if(m:Int)=(nd.args:Int)-1 then v+As p.kind else v) (if(m:Int)=(nd.args:Int)-1 then y+At p.kind else y) (by omega) (by omega) (by split<;>omega) (by split<;>omega) (hpf _ (Wi hm));(repeat' first|refine M.gw ?_|refine M.c2 (hb) ?_|refine M.c2 (hc) ?_|fail);exact⟨rfl,trivial,(M.W [some 0,some 1,some 2,some 3,some 4,some 5,some 6,some 7,some 10] (he:=(by(repeat'(first|exact trivial|exact Or.inr ⟨_,U,rfl⟩|refine And.intro ?_ ?_|refine⟨_,U,_,U,_,U,?_⟩|exact Ao.refl _|exact Ao.of_eq (by simp[Aq.Ay,Wv])));done)))⟩
    .intro _;simp only[Wp];(repeat' first|refine M.gw ?_|fail)
     rfl
theorem Mz{k:Int}{nd:Nd}(h:BD k=some nd):k=1\/k=2\/k=3\/k=4\/k=5\/k=6\/k=7\/k=8\/k=9\/k=10\/k=11\/k=12\/k=13\/k=14\/k=15\/k=16\/k=17\/k=18\/k=19\/k=20:=by
 unfold BD at h
 repeat(split at h;· omega)
 cases h
theorem Q1{k:Int}{nd:Nd}(hnd:BD k=some nd)(m:Nat)(hm:m<nd.args):PC E 237 [.i k,.i m] (.i (if m+1=nd.args then At k else 0)):=by
 have hk:=Mz hnd;rcases hk with rfl|rfl|rfl|rfl|rfl|rfl|rfl|rfl|rfl|rfl|rfl|rfl|rfl|rfl|rfl|rfl|rfl|rfl|rfl|rfl;all_goals(simp only[BD,reduceIte,Int.reduceEq,or_false,false_or,or_true,true_or,Wq] at hnd;subst hnd;simp only at hm)
 all_goals first
  |(exfalso;omega)
  |(have h0:m=0:=by omega
    subst h0;refine M.F Tryz.func237 ?_;(repeat' first|refine M.gw ?_|refine M.bp 3 ?_|refine L.mn U U U U ?_|refine L.mx U U U U ?_|refine L.apt9 U U U U U U (by first|exact trivial|exact⟨rfl,trivial⟩) U U (by first|omega|(simp;omega)) ?_|refine L.aptF9 U U U U (by first|assumption|simp) U U U (by first|omega|(simp;omega)) ?_|refine L.LD U U U U U U U U U U ?_|refine M.gs ?_ ?_<;>intro h|refine M.zb ?_|refine M.bl ?_|refine M.ks ?_ ?_<;>intro h|refine M.cs ?_ ?_<;>intro h|exact M.le|exact M.lt|fail);all_goals rfl)
  |(have h0:m=0\/m=1:=by omega
    rcases h0 with rfl|rfl;all_goals
     refine M.F Tryz.func237 ?_;(repeat' first|refine M.gw ?_|refine M.bp 3 ?_|refine L.mn U U U U ?_|refine L.mx U U U U ?_|refine L.apt9 U U U U U U (by first|exact trivial|exact⟨rfl,trivial⟩) U U (by first|omega|(simp;omega)) ?_|refine L.aptF9 U U U U (by first|assumption|simp) U U U (by first|omega|(simp;omega)) ?_|refine L.LD U U U U U U U U U U ?_|refine M.gs ?_ ?_<;>intro h|refine M.zb ?_|refine M.bl ?_|refine M.ks ?_ ?_<;>intro h|refine M.cs ?_ ?_<;>intro h|exact M.le|exact M.lt|fail);all_goals rfl)
theorem Mh{k:Int}{nd:Nd}(hnd:BD k=some nd)(m:Nat)(hm:m<nd.args):PC E 240 [.i k,.i m] (.i (if m+1=nd.args then As k else 0)):=by
 have hk:=Mz hnd;rcases hk with rfl|rfl|rfl|rfl|rfl|rfl|rfl|rfl|rfl|rfl|rfl|rfl|rfl|rfl|rfl|rfl|rfl|rfl|rfl|rfl;all_goals(simp only[BD,reduceIte,Int.reduceEq,or_false,false_or,or_true,true_or,Wq] at hnd;subst hnd;simp only at hm)
 all_goals first
  |(exfalso;omega)
  |(have h0:m=0:=by omega
    subst h0;refine M.F Tryz.func240 ?_;(repeat' first|refine M.gw ?_|refine M.bp 3 ?_|refine L.mn U U U U ?_|refine L.mx U U U U ?_|refine L.apt9 U U U U U U (by first|exact trivial|exact⟨rfl,trivial⟩) U U (by first|omega|(simp;omega)) ?_|refine L.aptF9 U U U U (by first|assumption|simp) U U U (by first|omega|(simp;omega)) ?_|refine L.LD U U U U U U U U U U ?_|refine M.gs ?_ ?_<;>intro h|refine M.zb ?_|refine M.bl ?_|refine M.ks ?_ ?_<;>intro h|refine M.cs ?_ ?_<;>intro h|exact M.le|exact M.lt|fail);all_goals rfl)
  |(have h0:m=0\/m=1:=by omega
    rcases h0 with rfl|rfl;all_goals
     refine M.F Tryz.func240 ?_;(repeat' first|refine M.gw ?_|refine M.bp 3 ?_|refine L.mn U U U U ?_|refine L.mx U U U U ?_|refine L.apt9 U U U U U U (by first|exact trivial|exact⟨rfl,trivial⟩) U U (by first|omega|(simp;omega)) ?_|refine L.aptF9 U U U U (by first|assumption|simp) U U U (by first|omega|(simp;omega)) ?_|refine L.LD U U U U U U U U U U ?_|refine M.gs ?_ ?_<;>intro h|refine M.zb ?_|refine M.bl ?_|refine M.ks ?_ ?_<;>intro h|refine M.cs ?_ ?_<;>intro h|exact M.le|exact M.lt|fail);all_goals rfl)
theorem Qw{k:Int}{nd:Nd}(hnd:BD k=some nd):PC E 243 [.i k] (.i (Aw k)):=by
 have hk:=Mz hnd;rcases hk with rfl|rfl|rfl|rfl|rfl|rfl|rfl|rfl|rfl|rfl|rfl|rfl|rfl|rfl|rfl|rfl|rfl|rfl|rfl|rfl;all_goals
  refine M.F Tryz.func243 ?_;(repeat' first|refine M.gw ?_|refine M.bp 3 ?_|refine L.mn U U U U ?_|refine L.mx U U U U ?_|refine L.apt9 U U U U U U (by first|exact trivial|exact⟨rfl,trivial⟩) U U (by first|omega|(simp;omega)) ?_|refine L.aptF9 U U U U (by first|assumption|simp) U U U (by first|omega|(simp;omega)) ?_|refine L.LD U U U U U U U U U U ?_|refine M.gs ?_ ?_<;>intro h|refine M.zb ?_|refine M.bl ?_|refine M.ks ?_ ?_<;>intro h|refine M.cs ?_ ?_<;>intro h|exact M.le|exact M.lt|fail);all_goals rfl
theorem QW(k:Int):0<=Aw k/\Aw k<=1:=by unfold Aw;split<;>omega
theorem L3(k:Int):0<=As k/\As k<=2:=by unfold As;split<;>(try split)<;>omega
theorem Q2(k:Int):0<=At k/\At k<=1:=by unfold At;split<;>omega
end Go.Ab
