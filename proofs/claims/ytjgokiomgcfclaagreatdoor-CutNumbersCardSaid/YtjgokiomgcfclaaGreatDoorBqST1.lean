/- A part of the proofs of this seat. No conditions. -/
import Derived.Test.YtjgokiomgcfclaaGreatDoorBqDT1
import Derived.Test.YtjgokiomgcfclaaGreatDoorST2
namespace Go.Ab
open Go Go.Proofs
set_option maxRecDepth 100000
set_option maxHeartbeats 4000000
set_option linter.all false
theorem ul(k:Int):PC E 135 [.i k] (.At [.agg (C2 k),.bool (BX k).isSome]):=by
 by_cases hk:1<=k/\k<=20
 ·have:k=1\/k=2\/k=3\/k=4\/k=5\/k=6\/k=7\/k=8\/k=9\/k=10\/k=11\/k=12\/k=13\/k=14\/k=15\/k=16\/k=17\/k=18\/k=19\/k=20:=by omega
  rcases this with rfl|rfl|rfl|rfl|rfl|rfl|rfl|rfl|rfl|rfl|rfl|rfl|rfl|rfl|rfl|rfl|rfl|rfl|rfl|rfl;all_goals(refine M.F Tryz.func135 ?_)
  all_goals(repeat'(first|refine M.gw ?_|fail))
  all_goals(first|(refine L.CX 1 rfl rfl rfl rfl rfl ?_ ?_ rfl ?_;decide;decide)|(refine L.CX 2 rfl rfl rfl rfl rfl ?_ ?_ rfl ?_;decide;decide)|(refine L.CX 3 rfl rfl rfl rfl rfl ?_ ?_ rfl ?_;decide;decide)|(refine L.CX 4 rfl rfl rfl rfl rfl ?_ ?_ rfl ?_;decide;decide)|(refine L.CX 5 rfl rfl rfl rfl rfl ?_ ?_ rfl ?_;decide;decide)|(refine L.CX 6 rfl rfl rfl rfl rfl ?_ ?_ rfl ?_;decide;decide)|(refine L.CX 7 rfl rfl rfl rfl rfl ?_ ?_ rfl ?_;decide;decide)|(refine L.CX 8 rfl rfl rfl rfl rfl ?_ ?_ rfl ?_;decide;decide)|(refine L.CX 9 rfl rfl rfl rfl rfl ?_ ?_ rfl ?_;decide;decide)|(refine L.CX 10 rfl rfl rfl rfl rfl ?_ ?_ rfl ?_;decide;decide)|(refine L.CX 11 rfl rfl rfl rfl rfl ?_ ?_ rfl ?_;decide;decide)|(refine L.CX 12 rfl rfl rfl rfl rfl ?_ ?_ rfl ?_;decide;decide)|(refine L.CX 13 rfl rfl rfl rfl rfl ?_ ?_ rfl ?_;decide;decide)|(refine L.CX 14 rfl rfl rfl rfl rfl ?_ ?_ rfl ?_;decide;decide)|(refine L.CX 15 rfl rfl rfl rfl rfl ?_ ?_ rfl ?_;decide;decide)|(refine L.CX 16 rfl rfl rfl rfl rfl ?_ ?_ rfl ?_;decide;decide)|(refine L.CX 17 rfl rfl rfl rfl rfl ?_ ?_ rfl ?_;decide;decide)|(refine L.CX 18 rfl rfl rfl rfl rfl ?_ ?_ rfl ?_;decide;decide)|(refine L.CX 19 rfl rfl rfl rfl rfl ?_ ?_ rfl ?_;decide;decide)|(refine L.CX 20 rfl rfl rfl rfl rfl ?_ ?_ rfl ?_;decide;decide))
  all_goals(repeat'(first|refine M.gw ?_|fail))
  all_goals rfl
 ·have e:BX k=none:=by
   unfold BX
   repeat rw[if_neg (by omega)]
  have e2:C2 k=[.bool false,.bool false,.i 0,.i 0,.i 0,.i 0,.i 0,.i 0]:=by unfold C2;rw[e]
  rw[e,e2];refine M.F Tryz.func135 ?_;(repeat' first|refine M.gw ?_|refine M.gs ?_ ?_<;>intro h|refine M.cs ?_ ?_<;>intro h|fail);all_goals first
   |rfl
   |(exfalso;simp at*;omega)
theorem P6(a:Nat)(b:Bool)(n:Nat)(e:Int)(ha:a<=1000000000000)(hn:n<=1000000000000):
 AC E 202 [.ptr 0 0,.i n,.i e] ⟨1,[(0,.var [.i a,.bool b])]⟩ (.bool (e !=2)) ⟨1,[(0,.var [.i ((a+n:Nat):Int),.bool (b||e==4)])]⟩:=by
 rw[Int.natCast_add];cases b with
 |true=>
  refine M.F Tryz.func202 ?_;(repeat' first|refine M.gw ?_|fail)
  (exact M.n2 [some 0] (h8:=(by simp[zi,V.wk,V.An,zd,Ty.view,Tm.view,V.BU])))
 |false=>
  refine M.F Tryz.func202 ?_;(repeat' first|refine M.gw ?_|fail)
  (exact M.n2 [some 0] (h8:=(by simp[zi,V.wk,V.An,zd,Ty.view,Tm.view,V.BU])))
theorem Ycq:∀(n:Nat) (p:Pf) (s:Tl),p.full<=n->n<274877906944->s.1+p.full<=549755813888->
 AC E 129 [.ptr 0 0,.agg p.view] ⟨1,[(0,.var [.i s.1,.bool s.2])]⟩ (.bool (Dz p s).1) ⟨1,[(0,.var [.i (Dz p s).2.1,.bool (Dz p s).2.2])]⟩:=by
 intro n;induction n with
 |zero=>intro p s h;have:=p.Aa;omega
 |succ n ih=>
 intro p s hsz hn hs;have hsz':=p.Ag;have hse:=p.size_eq;have hlen:=zg Pf.full Pf.Aa p.args;have hlen1:=zg Fm.full Fm.Aa p.Ad;have hlen2:=zg Tm.full Tm.Aa p.terms;have hle0:=xi (f:=Tm.size) (g:=Tm.full) p.terms fun x _=>x.Ak;have hle1:=xi (f:=Fm.size) (g:=Fm.full) p.Ad fun x _=>x.Ak;have hle2:=xi (f:=Pf.size) (g:=Pf.full) p.args fun x _=>x.Ak;have hru:=ul p.kind;have he:=XU p s;cases hnd:BX p.kind with
 |none=>
  have e2:C2 p.kind=[.bool false,.bool false,.i 0,.i 0,.i 0,.i 0,.i 0,.i 0]:=by unfold C2;rw[hnd]
  have e:p.FF=false:=by unfold Pf.FF;rw[hnd]
  rw[hnd,e2] at hru;rw[if_pos e] at he;rw[he];refine M.F Tryz.func129 ?_;(repeat' first|refine M.gw ?_|refine M.c2 (hru) ?_|fail)
  (exact M.n2 [some 0] (h8:=(by simp[zi,V.wk,V.An,zd,Ty.view,Tm.view,V.BU])))
 |some nd=>
 cases hty:nd.typ with
 |true=>
  have e2:C2 p.kind=[.bool nd.index,.bool true,.i nd.terms,.i nd.Ad,.i nd.args,.i (AK p.kind),.i (Az p.kind),.i (Ay p.kind)]:=by unfold C2;rw[hnd,<-hty]
  rw[hnd,e2] at hru;simp only[Option.isSome_some] at hru;by_cases hA:p.FF=false
  ·rw[if_pos hA] at he;rw[he];refine M.F Tryz.func129 ?_;(repeat' first|refine M.go ?_|refine M.c2 (hru) ?_|refine M.gs ?_ ?_<;>intro h|refine M.z1 4 ?_|refine M.cs ?_ ?_<;>intro h|refine M.gk ?_|fail);all_goals(try(exfalso;simp only[Pf.FF,hnd] at hA;simp_all;done))
   all_goals(try(exfalso;simp only[Pf.FF,hnd] at hA;simp_all;omega))
   all_goals(exact M.n2 [some 0] (h8:=(by simp[zi,V.wk,V.An,zd,Ty.view,Tm.view,V.BU])))
  rw[if_neg hA] at he;rw[Bool.not_eq_false] at hA;have hA2:=hA;simp only[Pf.FF,hnd,Bool.and_eq_true,Bool.or_eq_true,decide_eq_true_eq,beq_iff_eq] at hA2;obtain⟨⟨⟨⟨q1,q2⟩,q3⟩,q4⟩,q5⟩:=hA2;have hT:p.Gs=p.ty.ok:=by unfold Pf.Gs;rw[hnd];simp only[hty];rfl
  have hct:=Ng p.ty (by omega);by_cases hx:p.ty.err=0;case neg=>
   have hT2:p.Gs=false:=by
    rw[hT];cases ho:p.ty.ok with
    |false=>rfl
    |true=>exact absurd (Zv ho) hx
   rw[if_pos hT2] at he;rw[he];refine M.F Tryz.func129 ?_;(repeat' first|refine M.go ?_|refine M.c2 (hru) ?_|refine M.c2 (hct) ?_|refine M.gs ?_ ?_<;>intro h|refine M.z1 11 ?_|refine M.cs ?_ ?_<;>intro h|refine M.gk ?_|fail);all_goals(try(exfalso;simp_all;done))
   all_goals(try(exfalso;simp_all;omega))
   all_goals(exact M.n2 [some 0] (h8:=(by simp[zi,V.wk,V.An,zd,Ty.view,Tm.view,V.BU])))
  have hT2:p.Gs=true:=by
   rw[hT];have:=(Ty.Ae p.ty).1 hx;exact Li this.1 this.2
  rw[if_neg (by simp[hT2])] at he;rw[hx] at hct;refine M.F Tryz.func129 ?_;(repeat' first|refine M.gw ?_|refine M.c2 (hru) ?_|refine M.c2 (hct) ?_|refine M.gs ?_ ?_<;>intro h|refine M.cs ?_ ?_<;>intro h|fail);all_goals(try(exfalso;simp_all;done))
  all_goals(try(exfalso;simp_all;omega))
  all_goals
   refine AW.range p.terms.length (fun m=>(BZ (p.terms.take m) (s.1+1,s.2)).1=true)
    (fun m=>([(0,.ptr 0 0),(3,.ptr 1 0),(84,.s .tm p.terms),(85,.i p.terms.length),(86,.i m)],⟨2,[(0,.var [.i ((BZ (p.terms.take m) (s.1+1,s.2)).2.1:Nat),.bool (BZ (p.terms.take m) (s.1+1,s.2)).2.2]),(1,.var p.view)]⟩))
    (by omega) (fun m=>rfl) (fun m=>rfl) rfl rfl (M.W [some 0,some 1]) ?_ ?_
   ·intro m hm hP;have hs2:=ze Tm.full (List.getElem_mem hm);have hs4:=zw Tm.size p.terms m;have hok:=(Lq (p.terms.take m) (s.1+1,s.2)).2.1;have hnn:0<=p.terms[m].num/\p.terms[m].num<=4096:=by rcases Sy p.terms[m] with⟨_,_,_,e⟩|⟨_,_,e⟩|⟨_,_,_,e⟩<;>omega
    have hnum:p.terms[m].num=(p.terms[m].num.toNat:Int):=by omega
    have hc:=L7 p.terms[m] (by omega);rw[hnum] at hc;have hcnt:=P6 (BZ (p.terms.take m) (s.1+1,s.2)).2.1 (BZ (p.terms.take m) (s.1+1,s.2)).2.2 p.terms[m].num.toNat p.terms[m].err (by simp only at hok;omega) (by omega);by_cases h2:p.terms[m].err=2
    ·rw[show(p.terms[m].err !=2)=false by simp[h2]] at hcnt;have hst:=Uj hm hP h2;rw[hst,if_pos rfl] at he;rw[he];(repeat' first|refine M.gw ?_|refine M.c2 (hc) ?_|refine M.cb (hcnt) [0] 0 ?_|fail)
     (exact M.n2 [some 0] (h8:=(by simp[zi,V.wk,V.An,zd,Ty.view,Tm.view,V.BU])))
    ·rw[show(p.terms[m].err !=2)=true by simp[h2]] at hcnt;have hA1:BZ (p.terms.take (m+1)) (s.1+1,s.2)=(true,((BZ (p.terms.take m) (s.1+1,s.2)).2.1+p.terms[m].num.toNat,(BZ (p.terms.take m) (s.1+1,s.2)).2.2||p.terms[m].err==4)):=by
      rw[YQ hm hP,BZ,if_neg h2];rfl
     (repeat' first|refine M.gw ?_|refine M.c2 (hc) ?_|refine M.cb (hcnt) [0] 0 ?_|fail);refine⟨rfl,congrArg Prod.fst hA1,?_⟩;simp only[hA1];exact(M.W [some 0,some 1])
   ·intro hP;simp only[List.take_length] at hP;simp only[List.take_length];have hAok:=(Lq p.terms (s.1+1,s.2)).2.1;rw[if_neg (by simp[hP])] at he;generalize hA0:BZ p.terms (s.1+1,s.2)=a0 at*;(repeat' first|refine M.gw ?_|fail);refine AW.range p.Ad.length (fun m=>(Ca (p.Ad.take m) a0.2).1=true)
     (fun m=>([(0,.ptr 0 0),(3,.ptr 1 0),(99,.s .fm p.Ad),(100,.i p.Ad.length),(101,.i m)],⟨2,[(0,.var [.i ((Ca (p.Ad.take m) a0.2).2.1:Nat),.bool (Ca (p.Ad.take m) a0.2).2.2]),(1,.var p.view)]⟩))
     (by omega) (fun m=>rfl) (fun m=>rfl) rfl rfl (M.W [some 0,some 1]) ?_ ?_
    ·intro m hm hP2;have hs2:=ze Fm.full (List.getElem_mem hm);have hs4:=zw Fm.size p.Ad m;have hok:=(KU (p.Ad.take m) a0.2).2.1;have hnn:=Rd p.Ad[m];have hnum:p.Ad[m].num=(p.Ad[m].num.toNat:Int):=by omega
     have hc:=NO p.Ad[m] (by omega);rw[hnum] at hc;have hcnt:=P6 (Ca (p.Ad.take m) a0.2).2.1 (Ca (p.Ad.take m) a0.2).2.2 p.Ad[m].num.toNat p.Ad[m].err (by simp only at hAok;omega) (by omega);by_cases h2:p.Ad[m].err=2
     ·rw[show(p.Ad[m].err !=2)=false by simp[h2]] at hcnt;have hst:=YM hm hP2 h2;rw[hst,if_pos rfl] at he;rw[he];(repeat' first|refine M.gw ?_|refine M.c2 (hc) ?_|refine M.cb (hcnt) [0] 0 ?_|fail)
      (exact M.n2 [some 0] (h8:=(by simp[zi,V.wk,V.An,zd,Ty.view,Tm.view,V.BU])))
     ·rw[show(p.Ad[m].err !=2)=true by simp[h2]] at hcnt;have hA1:Ca (p.Ad.take (m+1)) a0.2=(true,((Ca (p.Ad.take m) a0.2).2.1+p.Ad[m].num.toNat,(Ca (p.Ad.take m) a0.2).2.2||p.Ad[m].err==4)):=by
       rw[Yq hm hP2,Ca,if_neg h2];rfl
      (repeat' first|refine M.gw ?_|refine M.c2 (hc) ?_|refine M.cb (hcnt) [0] 0 ?_|fail);refine⟨rfl,congrArg Prod.fst hA1,?_⟩;simp only[hA1];exact(M.W [some 0,some 1])
    ·intro hP2;simp only[List.take_length] at hP2;simp only[List.take_length];have hBok:=(KU p.Ad a0.2).2.1;rw[if_neg (by simp[hP2])] at he;generalize hB0:Ca p.Ad a0.2=b0 at*;(repeat' first|refine M.gw ?_|fail);refine AW.range p.args.length (fun m=>(Cr (p.args.take m) b0.2).1=true)
      (fun m=>([(0,.ptr 0 0),(3,.ptr 1 0),(114,.s .pf p.args),(115,.i p.args.length),(116,.i m)],⟨2,[(0,.var [.i ((Cr (p.args.take m) b0.2).2.1:Nat),.bool (Cr (p.args.take m) b0.2).2.2]),(1,.var p.view)]⟩))
      (by omega) (fun m=>rfl) (fun m=>rfl) rfl rfl (M.W [some 0,some 1]) ?_ ?_
     ·intro m hm hP3;have hs2:=ze Pf.full (List.getElem_mem hm);have hs4:=zw Pf.size p.args m;have hok:=(SG (p.args.take m) (fun q _=>Tz q) b0.2).2.1;have hs5:=yv Pf.full p.args m hm;have hs6:=zw Pf.full p.args (m+1);have hs7:=xi (f:=Pf.size) (g:=Pf.full) (p.args.take m) fun x _=>x.Ak;have hc:=ih p.args[m] (Cr (p.args.take m) b0.2).2 (by omega) (by omega) (by simp only at hAok;omega);cases h2:(Dz p.args[m] (Cr (p.args.take m) b0.2).2).1 with
      |false=>
       have hst:=Uv hm hP3 h2;rw[hst] at he;rw[he];rw[h2] at hc ⊢;(repeat' first|refine M.gw ?_|refine M.cb (hc) [0] 0 ?_|fail)
       (exact M.n2 [some 0] (h8:=(by simp[zi,V.wk,V.An,zd,Ty.view,Tm.view,V.BU])))
      |true=>
       rw[h2] at hc;have hA1:Cr (p.args.take (m+1)) b0.2=Dz p.args[m] (Cr (p.args.take m) b0.2).2:=by rw[Yv hm hP3,Wq]
       (repeat' first|refine M.gw ?_|refine M.cb (hc) [0] 0 ?_|fail);refine⟨rfl,(congrArg Prod.fst hA1).trans h2,?_⟩;simp only[hA1];exact(M.W [some 0,some 1])
     ·intro hP3;simp only[List.take_length] at hP3;simp only[List.take_length];rw[he,hP3];(repeat' first|refine M.gw ?_|fail)
      (exact M.n2 [some 0] (h8:=(by simp[zi,V.wk,V.An,zd,Ty.view,Tm.view,V.BU])))
 |false=>
  have e2:C2 p.kind=[.bool nd.index,.bool false,.i nd.terms,.i nd.Ad,.i nd.args,.i (AK p.kind),.i (Az p.kind),.i (Ay p.kind)]:=by unfold C2;rw[hnd,<-hty]
  rw[hnd,e2] at hru;simp only[Option.isSome_some] at hru;by_cases hA:p.FF=false
  ·rw[if_pos hA] at he;rw[he];refine M.F Tryz.func129 ?_;(repeat' first|refine M.go ?_|refine M.c2 (hru) ?_|refine M.gs ?_ ?_<;>intro h|refine M.z1 4 ?_|refine M.cs ?_ ?_<;>intro h|refine M.gk ?_|fail);all_goals(try(exfalso;simp only[Pf.FF,hnd] at hA;simp_all;done))
   all_goals(try(exfalso;simp only[Pf.FF,hnd] at hA;simp_all;omega))
   all_goals(exact M.n2 [some 0] (h8:=(by simp[zi,V.wk,V.An,zd,Ty.view,Tm.view,V.BU])))
  rw[if_neg hA] at he;rw[Bool.not_eq_false] at hA;have hA2:=hA;simp only[Pf.FF,hnd,Bool.and_eq_true,Bool.or_eq_true,decide_eq_true_eq,beq_iff_eq] at hA2;obtain⟨⟨⟨⟨q1,q2⟩,q3⟩,q4⟩,q5⟩:=hA2;have hT:p.Gs=p.ty.BJ:=by unfold Pf.Gs;rw[hnd];simp only[hty];rfl
  have hct:=QI p.ty;by_cases hx:p.ty.BJ=true;case neg=>
   rw[Bool.not_eq_true] at hx;have hT2:p.Gs=false:=by rw[hT,hx]
   rw[if_pos hT2] at he;rw[he];rw[hx] at hct;refine M.F Tryz.func129 ?_;(repeat' first|refine M.go ?_|refine M.c2 (hru) ?_|refine M.c2 (hct) ?_|refine M.gs ?_ ?_<;>intro h|refine M.z1 11 ?_|refine M.cs ?_ ?_<;>intro h|refine M.gk ?_|fail);all_goals(try(exfalso;simp_all;done))
   all_goals(try(exfalso;simp_all;omega))
   all_goals(exact M.n2 [some 0] (h8:=(by simp[zi,V.wk,V.An,zd,Ty.view,Tm.view,V.BU])))
  have hT2:p.Gs=true:=by rw[hT,hx]
  rw[if_neg (by simp[hT2])] at he;rw[hx] at hct;refine M.F Tryz.func129 ?_;(repeat' first|refine M.gw ?_|refine M.c2 (hru) ?_|refine M.c2 (hct) ?_|refine M.gs ?_ ?_<;>intro h|refine M.cs ?_ ?_<;>intro h|fail);all_goals(try(exfalso;simp_all;done))
  all_goals(try(exfalso;simp_all;omega))
  all_goals
   refine AW.range p.terms.length (fun m=>(BZ (p.terms.take m) (s.1+1,s.2)).1=true)
    (fun m=>([(0,.ptr 0 0),(3,.ptr 1 0),(84,.s .tm p.terms),(85,.i p.terms.length),(86,.i m)],⟨2,[(0,.var [.i ((BZ (p.terms.take m) (s.1+1,s.2)).2.1:Nat),.bool (BZ (p.terms.take m) (s.1+1,s.2)).2.2]),(1,.var p.view)]⟩))
    (by omega) (fun m=>rfl) (fun m=>rfl) rfl rfl (M.W [some 0,some 1]) ?_ ?_
   ·intro m hm hP;have hs2:=ze Tm.full (List.getElem_mem hm);have hs4:=zw Tm.size p.terms m;have hok:=(Lq (p.terms.take m) (s.1+1,s.2)).2.1;have hnn:0<=p.terms[m].num/\p.terms[m].num<=4096:=by rcases Sy p.terms[m] with⟨_,_,_,e⟩|⟨_,_,e⟩|⟨_,_,_,e⟩<;>omega
    have hnum:p.terms[m].num=(p.terms[m].num.toNat:Int):=by omega
    have hc:=L7 p.terms[m] (by omega);rw[hnum] at hc;have hcnt:=P6 (BZ (p.terms.take m) (s.1+1,s.2)).2.1 (BZ (p.terms.take m) (s.1+1,s.2)).2.2 p.terms[m].num.toNat p.terms[m].err (by simp only at hok;omega) (by omega);by_cases h2:p.terms[m].err=2
    ·rw[show(p.terms[m].err !=2)=false by simp[h2]] at hcnt;have hst:=Uj hm hP h2;rw[hst,if_pos rfl] at he;rw[he];(repeat' first|refine M.gw ?_|refine M.c2 (hc) ?_|refine M.cb (hcnt) [0] 0 ?_|fail)
     (exact M.n2 [some 0] (h8:=(by simp[zi,V.wk,V.An,zd,Ty.view,Tm.view,V.BU])))
    ·rw[show(p.terms[m].err !=2)=true by simp[h2]] at hcnt;have hA1:BZ (p.terms.take (m+1)) (s.1+1,s.2)=(true,((BZ (p.terms.take m) (s.1+1,s.2)).2.1+p.terms[m].num.toNat,(BZ (p.terms.take m) (s.1+1,s.2)).2.2||p.terms[m].err==4)):=by
      rw[YQ hm hP,BZ,if_neg h2];rfl
     (repeat' first|refine M.gw ?_|refine M.c2 (hc) ?_|refine M.cb (hcnt) [0] 0 ?_|fail);refine⟨rfl,congrArg Prod.fst hA1,?_⟩;simp only[hA1];exact(M.W [some 0,some 1])
   ·intro hP;simp only[List.take_length] at hP;simp only[List.take_length];have hAok:=(Lq p.terms (s.1+1,s.2)).2.1;rw[if_neg (by simp[hP])] at he;generalize hA0:BZ p.terms (s.1+1,s.2)=a0 at*;(repeat' first|refine M.gw ?_|fail);refine AW.range p.Ad.length (fun m=>(Ca (p.Ad.take m) a0.2).1=true)
     (fun m=>([(0,.ptr 0 0),(3,.ptr 1 0),(99,.s .fm p.Ad),(100,.i p.Ad.length),(101,.i m)],⟨2,[(0,.var [.i ((Ca (p.Ad.take m) a0.2).2.1:Nat),.bool (Ca (p.Ad.take m) a0.2).2.2]),(1,.var p.view)]⟩))
     (by omega) (fun m=>rfl) (fun m=>rfl) rfl rfl (M.W [some 0,some 1]) ?_ ?_
    ·intro m hm hP2;have hs2:=ze Fm.full (List.getElem_mem hm);have hs4:=zw Fm.size p.Ad m;have hok:=(KU (p.Ad.take m) a0.2).2.1;have hnn:=Rd p.Ad[m];have hnum:p.Ad[m].num=(p.Ad[m].num.toNat:Int):=by omega
     have hc:=NO p.Ad[m] (by omega);rw[hnum] at hc;have hcnt:=P6 (Ca (p.Ad.take m) a0.2).2.1 (Ca (p.Ad.take m) a0.2).2.2 p.Ad[m].num.toNat p.Ad[m].err (by simp only at hAok;omega) (by omega);by_cases h2:p.Ad[m].err=2
     ·rw[show(p.Ad[m].err !=2)=false by simp[h2]] at hcnt;have hst:=YM hm hP2 h2;rw[hst,if_pos rfl] at he;rw[he];(repeat' first|refine M.gw ?_|refine M.c2 (hc) ?_|refine M.cb (hcnt) [0] 0 ?_|fail)
      (exact M.n2 [some 0] (h8:=(by simp[zi,V.wk,V.An,zd,Ty.view,Tm.view,V.BU])))
     ·rw[show(p.Ad[m].err !=2)=true by simp[h2]] at hcnt;have hA1:Ca (p.Ad.take (m+1)) a0.2=(true,((Ca (p.Ad.take m) a0.2).2.1+p.Ad[m].num.toNat,(Ca (p.Ad.take m) a0.2).2.2||p.Ad[m].err==4)):=by
       rw[Yq hm hP2,Ca,if_neg h2];rfl
      (repeat' first|refine M.gw ?_|refine M.c2 (hc) ?_|refine M.cb (hcnt) [0] 0 ?_|fail);refine⟨rfl,congrArg Prod.fst hA1,?_⟩;simp only[hA1];exact(M.W [some 0,some 1])
    ·intro hP2;simp only[List.take_length] at hP2;simp only[List.take_length];have hBok:=(KU p.Ad a0.2).2.1;rw[if_neg (by simp[hP2])] at he;generalize hB0:Ca p.Ad a0.2=b0 at*;(repeat' first|refine M.gw ?_|fail);refine AW.range p.args.length (fun m=>(Cr (p.args.take m) b0.2).1=true)
      (fun m=>([(0,.ptr 0 0),(3,.ptr 1 0),(114,.s .pf p.args),(115,.i p.args.length),(116,.i m)],⟨2,[(0,.var [.i ((Cr (p.args.take m) b0.2).2.1:Nat),.bool (Cr (p.args.take m) b0.2).2.2]),(1,.var p.view)]⟩))
      (by omega) (fun m=>rfl) (fun m=>rfl) rfl rfl (M.W [some 0,some 1]) ?_ ?_
     ·intro m hm hP3;have hs2:=ze Pf.full (List.getElem_mem hm);have hs4:=zw Pf.size p.args m;have hok:=(SG (p.args.take m) (fun q _=>Tz q) b0.2).2.1;have hs5:=yv Pf.full p.args m hm;have hs6:=zw Pf.full p.args (m+1);have hs7:=xi (f:=Pf.size) (g:=Pf.full) (p.args.take m) fun x _=>x.Ak;have hc:=ih p.args[m] (Cr (p.args.take m) b0.2).2 (by omega) (by omega) (by simp only at hAok;omega);cases h2:(Dz p.args[m] (Cr (p.args.take m) b0.2).2).1 with
      |false=>
       have hst:=Uv hm hP3 h2;rw[hst] at he;rw[he];rw[h2] at hc ⊢;(repeat' first|refine M.gw ?_|refine M.cb (hc) [0] 0 ?_|fail)
       (exact M.n2 [some 0] (h8:=(by simp[zi,V.wk,V.An,zd,Ty.view,Tm.view,V.BU])))
      |true=>
       rw[h2] at hc;have hA1:Cr (p.args.take (m+1)) b0.2=Dz p.args[m] (Cr (p.args.take m) b0.2).2:=by rw[Yv hm hP3,Wq]
       (repeat' first|refine M.gw ?_|refine M.cb (hc) [0] 0 ?_|fail);refine⟨rfl,(congrArg Prod.fst hA1).trans h2,?_⟩;simp only[hA1];exact(M.W [some 0,some 1])
     ·intro hP3;simp only[List.take_length] at hP3;simp only[List.take_length];rw[he,hP3];(repeat' first|refine M.gw ?_|fail)
      (exact M.n2 [some 0] (h8:=(by simp[zi,V.wk,V.An,zd,Ty.view,Tm.view,V.BU])))
theorem xp(k v h:Int)(nd:Nd)(hnd:BX k=some nd)(m:Nat)(hm:m<=1000000)(hv:0<=v/\v<=1000000000000)(hh:0<=h/\h<=1000000000000):
 PC E 136 [.agg [.i v,.i h],.agg (C2 k),.i m] (.agg [.i (if(m:Int)=(nd.args:Int)-1 then v+Az k else v),.i (if(m:Int)=(nd.args:Int)-1 then h+Ay k else h)]):=by
 have e2:C2 k=[.bool nd.index,.bool nd.typ,.i nd.terms,.i nd.Ad,.i nd.args,.i (AK k),.i (Az k),.i (Ay k)]:=by unfold C2;rw[hnd]
 have b1:0<=Az k/\Az k<=2:=by unfold Az;split<;>(try split)<;>omega
 have b2:0<=Ay k/\Ay k<=1:=by unfold Ay;split<;>omega
 have b3:(nd.args:Int)<=2:=by
  have:nd.args<=2:=by
   unfold BX at hnd
   repeat(split at hnd;· cases hnd;decide)
   cases hnd
  omega
 rw[e2];by_cases hl:(m:Int)=(nd.args:Int)-1
 ·rw[if_pos hl,if_pos hl];refine M.F Tryz.func136 ?_;(repeat' first|refine M.gw ?_|refine M.cs ?_ ?_<;>intro h|fail);all_goals first
   |rfl
   |(exfalso;simp at h;omega)
   |trace_state
 ·rw[if_neg hl,if_neg hl];refine M.F Tryz.func136 ?_;(repeat' first|refine M.gw ?_|refine M.cs ?_ ?_<;>intro h|fail);all_goals first
   |rfl
   |(exfalso;simp at h;omega)
   |trace_state
theorem Yhj:∀(n:Nat) (p:Pf) (v y:Int),p.full<=n->n<274877906944->(0<=v/\v+2*n<=1000000000000)->(0<=y/\y+2*n<=1000000000000)->p.shape=true->
 PC E 87 [.agg p.view,.agg [.i v,.i y],.agg [.nilf,.nilf,.nilf]] (.agg p.view):=by
 intro n;induction n with
 |zero=>intro p v y hz;have:=p.Aa;omega
 |succ n ih=>
 intro p v y hz hn hv hh hs;have hsz':=p.Ag;have hlen:=zg Pf.full Pf.Aa p.args;have hlen1:=zg Fm.full Fm.Aa p.Ad;have hlen2:=zg Tm.full Tm.Aa p.terms;have hty:=u7 _ p.ty (Nat.le_refl _) (by omega);have hru:=ul p.kind;obtain⟨nd,n1,n2,n3,n4,_⟩:=SX hs;have hal:p.args.length<=2:=by
  rw[n4];unfold BX at n1
  repeat(split at n1;· cases n1;decide)
  cases n1
 have hpl:=fun(m:Nat) (hm:m<=1000000)=>xp p.kind v y nd n1 m hm (by omega) (by omega);have e2:C2 p.kind=[.bool nd.index,.bool nd.typ,.i nd.terms,.i nd.Ad,.i nd.args,.i (AK p.kind),.i (Az p.kind),.i (Ay p.kind)]:=by unfold C2;rw[n1]
 have b1:0<=Az p.kind/\Az p.kind<=2:=by unfold Az;split<;>(try split)<;>omega
 have b2:0<=Ay p.kind/\Ay p.kind<=1:=by unfold Ay;split<;>omega
 rw[n1] at hru;simp only[Option.isSome_some] at hru;have hpf:=(zl hs).2.2.2;rw[e2] at hru;simp only[e2] at hpl;refine M.F Tryz.func87 ?_;(repeat' first|refine M.gw ?_|refine M.c2 (hru) ?_|refine M.c2 (hty) ?_|refine M.gs ?_ ?_<;>intro h|fail);all_goals
  refine AW.range p.terms.length (fun m=>True)
   (fun m=>([(3,.ptr 0 0),(4,.ptr 1 0),(5,.ptr 2 0),(6,.ptr 3 0),(7,.ptr 4 0),(9,.ptr 5 0),(44,.s .tm p.terms),(45,.i p.terms.length),(46,.i m)],⟨7,[(0,.var p.view),(1,.var [.i v,.i y]),(2,.var [.nilf,.nilf,.nilf]),(3,.var [.i 0,.i 0,.i 0,.slice .nil (.t .ty []),.slice .nil (.t .tm []),.slice .nil (.t .fm []),.slice .nil (.t .pf [])]),(4,.var [.bool nd.index,.bool nd.typ,.i nd.terms,.i nd.Ad,.i nd.args,.i (AK p.kind),.i (Az p.kind),.i (Ay p.kind)]),(5,.var [.i p.kind,.i p.index,.i p.ty.kind,.s .ty p.ty.args,.slice (.own 6) (.t .tm (p.terms.take m)),.slice .nil (.t .fm []),.slice .nil (.t .pf [])]),(6,.row)]⟩))
   (by omega) (fun m=>rfl) (fun m=>rfl) rfl trivial (M.W [some 0,some 1,some 2,some 3,some 4,some 5,none]) ?_ ?_
  ·intro m hm _;have hs2:=ze Tm.full (List.getElem_mem hm);have hc:=Jk _ p.terms[m] (Nat.le_refl _) (by omega);(repeat' first|refine M.gw ?_|refine M.c2 (hc) ?_|fail);exact⟨rfl,trivial,(M.W [some 0,some 1,some 2,some 3,some 4,some 5,some 8] (he:=(by(repeat'(first|exact trivial|exact Or.inr ⟨_,U,rfl⟩|refine And.intro ?_ ?_|refine⟨_,U,_,U,_,U,?_⟩|exact Aj.refl _|exact Aj.of_eq (by simp[Ao.Ar,List.take_append_getElem])));done)))⟩
  ·intro _;simp only[List.take_length];(repeat' first|refine M.gw ?_|fail);refine AW.range p.Ad.length (fun m=>True)
    (fun m=>([(3,.ptr 0 0),(4,.ptr 1 0),(5,.ptr 2 0),(6,.ptr 3 0),(7,.ptr 4 0),(9,.ptr 5 0),(73,.s .fm p.Ad),(74,.i p.Ad.length),(75,.i m)],⟨8,[(0,.var p.view),(1,.var [.i v,.i y]),(2,.var [.nilf,.nilf,.nilf]),(3,.var [.i 0,.i 0,.i 0,.slice .nil (.t .ty []),.slice .nil (.t .tm []),.slice .nil (.t .fm []),.slice .nil (.t .pf [])]),(4,.var [.bool nd.index,.bool nd.typ,.i nd.terms,.i nd.Ad,.i nd.args,.i (AK p.kind),.i (Az p.kind),.i (Ay p.kind)]),(5,.var [.i p.kind,.i p.index,.i p.ty.kind,.s .ty p.ty.args,.slice (.own 6) (.t .tm p.terms),.slice (.own 7) (.t .fm (p.Ad.take m)),.slice .nil (.t .pf [])]),(6,.row),(7,.row)]⟩))
    (by omega) (fun m=>rfl) (fun m=>rfl) rfl trivial (M.W [some 0,some 1,some 2,some 3,some 4,some 5,some 6,none]) ?_ ?_
   ·intro m hm _;have hs2:=ze Fm.full (List.getElem_mem hm);have hc:=KK p.Ad[m] (by omega);(repeat' first|refine M.gw ?_|refine M.c2 (hc) ?_|fail);exact⟨rfl,trivial,(M.W [some 0,some 1,some 2,some 3,some 4,some 5,some 6,some 9] (he:=(by(repeat'(first|exact trivial|exact Or.inr ⟨_,U,rfl⟩|refine And.intro ?_ ?_|refine⟨_,U,_,U,_,U,?_⟩|exact Aj.refl _|exact Aj.of_eq (by simp[Ao.Ar,List.take_append_getElem])));done)))⟩
   ·intro _;simp only[List.take_length];(repeat' first|refine M.gw ?_|fail);refine AW.range p.args.length (fun m=>True)
     (fun m=>([(3,.ptr 0 0),(4,.ptr 1 0),(5,.ptr 2 0),(6,.ptr 3 0),(7,.ptr 4 0),(9,.ptr 5 0),(105,.s .pf p.args),(106,.i p.args.length),(107,.i m)],⟨9,[(0,.var p.view),(1,.var [.i v,.i y]),(2,.var [.nilf,.nilf,.nilf]),(3,.var [.i 0,.i 0,.i 0,.slice .nil (.t .ty []),.slice .nil (.t .tm []),.slice .nil (.t .fm []),.slice .nil (.t .pf [])]),(4,.var [.bool nd.index,.bool nd.typ,.i nd.terms,.i nd.Ad,.i nd.args,.i (AK p.kind),.i (Az p.kind),.i (Ay p.kind)]),(5,.var [.i p.kind,.i p.index,.i p.ty.kind,.s .ty p.ty.args,.slice (.own 6) (.t .tm p.terms),.slice (.own 7) (.t .fm p.Ad),.slice (.own 8) (.t .pf (p.args.take m))]),(6,.row),(7,.row),(8,.row)]⟩))
     (by omega) (fun m=>rfl) (fun m=>rfl) rfl trivial (M.W [some 0,some 1,some 2,some 3,some 4,some 5,some 6,some 7,none]) ?_ ?_
    ·intro m hm _;have hs2:=ze Pf.full (List.getElem_mem hm);have hb:=hpl m (by omega);have hc:=ih p.args[m] (if(m:Int)=(nd.args:Int)-1 then v+Az p.kind else v) (if(m:Int)=(nd.args:Int)-1 then y+Ay p.kind else y) (by omega) (by omega) (by split<;>omega) (by split<;>omega) (hpf _ (List.getElem_mem hm));(repeat' first|refine M.gw ?_|refine M.c2 (hb) ?_|refine M.c2 (hc) ?_|fail);exact⟨rfl,trivial,(M.W [some 0,some 1,some 2,some 3,some 4,some 5,some 6,some 7,some 10] (he:=(by(repeat'(first|exact trivial|exact Or.inr ⟨_,U,rfl⟩|refine And.intro ?_ ?_|refine⟨_,U,_,U,_,U,?_⟩|exact Aj.refl _|exact Aj.of_eq (by simp[Ao.Ar,List.take_append_getElem])));done)))⟩
    ·intro _;simp only[List.take_length];(repeat' first|refine M.gw ?_|fail)
     rfl
theorem Zn9(p:Pf):(p.shape=false/\p.err=2/\p.num=0)\/(p.shape=true/\(p.small=false\/p.size>16384)/\p.err=4/\p.num=0)\/(p.shape=true/\p.small=true/\p.size<=16384/\p.err=0/\p.num=p.size):=by
 unfold Pf.num Pf.err;cases hs:p.shape with
 |false=>simp
 |true=>
  by_cases h:p.small=false\/p.size>16384
  ·simp[h]
  ·have h':=h;rw[not_or,Bool.not_eq_false] at h';simp[h,h'.1];omega
theorem UM(p:Pf)(hp:p.full<274877906944):PC E 81 [.agg p.view] (.At [.i p.num,.i p.err]):=by
 have ht:=Ycq _ p (0,false) (Nat.le_refl _) hp (by simp only;omega);obtain⟨t1,t2,t3⟩:=Tz p (0,false);rw[t1] at ht;have hsz:=p.Ak;rcases Zn9 p with⟨h1,h2,h3⟩|⟨h1,h2,h3,h4⟩|⟨h1,h2,h3,h4,h5⟩
 ·rw[h2,h3];rw[h1] at ht;refine M.F Tryz.func81 ?_;(repeat' first|refine M.gw ?_|refine M.cb (ht) [1] 0 ?_|refine M.zb ?_|fail)
  rfl
 ·rw[h3,h4];rw[h1] at ht;obtain⟨t4,t5⟩:=t3 h1;rw[t4] at ht;cases hm:p.small with
  |false=>
   rw[hm] at ht;refine M.F Tryz.func81 ?_;(repeat' first|refine M.gw ?_|refine M.cb (ht) [1] 0 ?_|refine M.zb ?_|fail)
   rfl
  |true=>
   have t6:=t5 hm;have h6:p.size>16384:=by rcases h2 with h2|h2;rw[hm] at h2;cases h2;exact h2
   rw[hm,t6] at ht;simp only[Nat.zero_add,Bool.not_true,Bool.or_false] at ht;refine M.F Tryz.func81 ?_;(repeat' first|refine M.gw ?_|refine M.cb (ht) [1] 0 ?_|refine M.zb ?_|refine M.cs ?_ ?_<;>intro h|fail);all_goals first
    |rfl
    |(exfalso;simp at h;omega)
    |trace_state
 ·rw[h4,h5];rw[h1] at ht;obtain⟨t4,t5⟩:=t3 h1;have t6:=t5 h2;rw[t4,h2,t6] at ht;simp only[Nat.zero_add,Bool.not_true,Bool.or_false] at ht;refine M.F Tryz.func81 ?_;(repeat' first|refine M.gw ?_|refine M.cb (ht) [1] 0 ?_|refine M.zb ?_|refine M.cs ?_ ?_<;>intro h|fail);all_goals first
   |rfl
   |(exfalso;simp at h;omega)
   |trace_state
theorem SA(p:Pf)(hp:p.full<274877906944):PC E 38 [.agg p.view] (.i p.err):=by
 have h1:=UM p hp;refine M.F Tryz.func38 ?_;(repeat' first|refine M.gw ?_|refine M.c2 (h1) ?_|fail)
 rfl
theorem Vo(p:Pf)(hp:p.full<200000000000)(hs:p.shape=true):PC E 41 [.agg p.view] (.agg p.view):=by
 have h1:=Yhj _ p 0 0 (Nat.le_refl _) (by omega) (by omega) (by omega) hs;refine M.F Tryz.func41 ?_;(repeat' first|refine M.gw ?_|refine M.c2 (h1) ?_|fail)
 rfl
theorem P7(i:Int):PC E 268 [.i i] (.agg (w8 i).view):=by
 refine AC.mk Tryz.func268 rfl rfl rfl rfl rfl (Nat.le_of_ble_eq_true rfl) ?_;repeat'(first|((with_reducible refine D.nil ?_);refine AX.A5 ?_)|((with_reducible refine D.move ?_);refine L.mv U U U ?_)|((with_reducible refine D.alloc ?_);refine L.al U U U ?_)|((with_reducible refine D.store ?_);refine L.st U U U U U U U U U ?_)|((with_reducible refine D.ax ?_);refine L.bd U U U U U ?_)|((with_reducible refine D.aw ?_);first|refine K.sq (AW.AN ?_)|refine AW.ret ?_)|with_reducible refine K.tN ?_|with_reducible refine K.r1 (by with_unfolding_all rfl) (by with_unfolding_all rfl) ?_)
 rfl
theorem TP(fr by_ i bl:Int):AC E 234 [.i i,.i bl,.ptr 0 0,.ptr 1 0] ⟨2,[(0,.var [.i fr]),(1,.var [.i by_])]⟩ (.agg (HO fr by_ i bl).view) ⟨2,[(0,.var [.i fr]),(1,.var [.i by_])]⟩:=by
 have hv:=SM;refine M.F Tryz.func234 ?_;(repeat' first|refine M.gw ?_|refine M.c2 (hv _) ?_|refine M.cs ?_ ?_<;>intro h|fail)
 ·have h':fr<=IntKind.i64.wrap (i-bl):=by simpa using h
  (exact M.n2 [some 0,some 1] (h8:=(by simp[zi,V.wk,V.An,zd,Ty.view,Tm.view,HO,h'])))
 ·have h':¬fr<=IntKind.i64.wrap (i-bl):=by simpa using h
  (exact M.n2 [some 0,some 1] (h8:=(by simp[zi,V.wk,V.An,zd,Ty.view,Tm.view,HO,h'])))
theorem Ypt(fr by_:Int):∀(n:Nat) (t:Tm) (bl:Int),t.full<=n->n<549755813888->0<=bl->bl+n<549755813888->AC E 259 [.agg t.view,.i bl,.ptr 0 0,.ptr 1 0] ⟨4,[(0,.var [.fn (.func 234) [] [.ptr 2 0,.ptr 3 0]]),(1,.var [.fn (.func 259) [] [.ptr 0 0,.ptr 1 0]]),(2,.var [.i fr]),(3,.var [.i by_])]⟩ (.agg (t.re (HO fr by_) bl).view) ⟨4,[(0,.var [.fn (.func 234) [] [.ptr 2 0,.ptr 3 0]]),(1,.var [.fn (.func 259) [] [.ptr 0 0,.ptr 1 0]]),(2,.var [.i fr]),(3,.var [.i by_])]⟩:=by
 intro n;induction n with
 |zero=>intro t bl h;have:=t.Aa;omega
 |succ n ih=>
 intro t bl hsz hb hbl hbn;have hsz':=Tm.Ag t;have hlen:=zg Tm.full Tm.Aa t.args;have hre:=Tm.Bz (HO fr by_) bl t;have hcb:=TP fr by_ t.index bl;have hown:=u7 _ t.ty (Nat.le_refl _) (by omega);refine M.F Tryz.func259 ?_;(repeat' first|refine M.gw ?_|refine M.cv (hcb) [2,3] 0 ?_|refine M.c2 (hown) ?_|refine M.cs ?_ ?_<;>intro h|fail)
 ·have hk:t.kind=1:=by simpa using h
  (exact M.n2 [some 0,some 1,some 2,some 3] (h8:=(by simp[zi,V.wk,V.An,zd,Ty.view,Tm.view,hre,hk])))
 all_goals
  rename_i hk1;have hup:up t.kind bl<=bl+1:=by simp only[up];split<;>omega
  have hup0:0<=up t.kind bl:=by simp only[up];split<;>omega
  have hk1':¬t.kind=1:=by simpa using hk1
  refine AW.range t.args.length (fun m=>True)
   (fun m=>([(1,.i (up t.kind bl)),(3,.ptr 1 0),(6,.ptr 5 0),(7,.ptr 6 0),(32,.s .tm t.args),(33,.i t.args.length),(34,.i m)],⟨8,[(0,.var [.fn (.func 234) [] [.ptr 2 0,.ptr 3 0]]),(1,.var [.fn (.func 259) [] [.ptr 0 0,.ptr 1 0]]),(2,.var [.i fr]),(3,.var [.i by_]),(4,.var t.view),(5,.var [.i 0,.i 0,.i 0,.slice .nil (.t .ty []),.slice .nil (.t .tm [])]),(6,.var [.i t.kind,.i t.index,.i t.ty.kind,.s .ty t.ty.args,.slice (.own 7) (.t .tm ((t.args.take m).map (Tm.re (HO fr by_) (up t.kind bl))))]),(7,.row)]⟩))
   (by omega) (fun m=>rfl) (fun m=>rfl) rfl trivial ?_ ?_ ?_
  ·simp_all only[beq_iff_eq,beq_eq_false_iff_ne,ne_eq];exact(M.W [some 0,some 1,some 2,some 3,some 4,some 5,some 6,none] (hf:=(by(repeat'(first|exact trivial|refine And.intro ?_ ?_|refine⟨_,U,_,U,?_⟩|exact Aj.refl _|exact Aj.of_eq (by simp[Ao.Ar,up, *])));done)))
  ·intro m hm hP;have hs2:=ze Tm.full (List.getElem_mem hm);have hc:=ih t.args[m] (up t.kind bl) (by omega) (by omega) hup0 (by omega);(repeat' first|refine M.gw ?_|refine M.cv (hc) [0,1,2,3] 0 ?_|fail);refine⟨rfl,trivial,?_⟩;exact(M.W [some 0,some 1,some 2,some 3,some 4,some 5,some 6,some 9] (he:=(by(repeat'(first|exact trivial|exact Or.inr ⟨_,U,rfl⟩|refine And.intro ?_ ?_|refine⟨_,U,_,U,_,U,?_⟩|exact Aj.refl _|exact Aj.of_eq (by simp[Ao.Ar,ya _ _ _ hm])));done)))
  ·intro hP;(repeat' first|refine M.gw ?_|fail)
   (exact M.n2 [some 0,some 1,some 2,some 3] (h8:=(by simp[zi,V.wk,V.An,zd,Ty.view,Tm.view,hre,hk1'])))
theorem SI(fr by_:Int)(t:Tm)(ht:t.full<274877906944):AC E 233 [.agg t.view,.fn (.func 234) [] [.ptr 0 0,.ptr 1 0]] ⟨2,[(0,.var [.i fr]),(1,.var [.i by_])]⟩ (.agg (t.lw fr by_).view) ⟨2,[(0,.var [.i fr]),(1,.var [.i by_])]⟩:=by
 have hc:=Ypt fr by_ _ t 0 (Nat.le_refl _) (by omega) (by omega) (by omega);unfold Tm.lw;refine M.F Tryz.func233 ?_;(repeat' first|refine M.gw ?_|refine M.cv (hc) [3,5,0,1] 0 ?_|fail)
 (exact M.n2 [some 0,some 1] (h8:=(by simp[zi,V.wk,V.An,zd,Ty.view,Tm.view,hc])))
theorem Ni(t:Tm)(fr by_:Int)(ht:t.full<274877906944):PC E 193 [.agg t.view,.i fr,.i by_] (.agg (t.lw fr by_).view):=by
 have hc:=SI fr by_ t ht;refine M.F Tryz.func193 ?_;(repeat' first|refine M.gw ?_|refine M.cb (hc) [1,2] 0 ?_|fail);simp[zi,V.wk,V.An,zd,Ty.view,Tm.view]
theorem Ykr(fr by_:Int)(hat:0<=fr/\fr<274877906944)(t:Tm)(bl:Int)(ht:t.full<274877906944)(hb:0<=bl/\bl<274877906944):
 AC E 282 [.agg t.view,.i bl,.ptr 0 0,.ptr 1 0] ⟨2,[(0,.var [.i fr]),(1,.var [.i by_])]⟩ (.agg (t.lw (fr+bl) by_).view) ⟨2,[(0,.var [.i fr]),(1,.var [.i by_])]⟩:=by
 have hc:=Ni t (fr+bl) by_ ht;refine M.F Tryz.func282 ?_;(repeat' first|refine M.gw ?_|refine M.c2 (hc) ?_|fail)
 (exact M.n2 [some 0,some 1] (h8:=(by simp[zi,V.wk,V.An,zd,Ty.view,Tm.view,hc])))
theorem Yko(fr by_:Int)(hat:0<=fr/\fr<274877906944):∀(n:Nat) (f:Fm) (bl:Int),f.full<=n->n<274877906944->0<=bl->bl+n<274877906944->
 AC E 189 [.agg f.view,.i bl,.fn (.func 282) [] [.ptr 0 0,.ptr 1 0]] ⟨2,[(0,.var [.i fr]),(1,.var [.i by_])]⟩ (.agg (f.re (fun b t=>t.lw (fr+b) by_) bl).view) ⟨2,[(0,.var [.i fr]),(1,.var [.i by_])]⟩:=by
 intro n;induction n with
 |zero=>intro f bl h;intros;have:=f.Aa;omega
 |succ n ih=>
 intro f bl hsz hb hbl hbn;have hsz':=f.Ag;have hlen:=zg Fm.full Fm.Aa f.args;have hlen2:=zg Tm.full Tm.Aa f.terms;have hty:=u7 _ f.ty (Nat.le_refl _) (by omega);have hq:=vd f.kind;have hre:=Fm.Bz (fun b t=>t.lw (fr+b) by_) bl f;refine M.F Tryz.func189 ?_;(repeat' first|refine M.gw ?_|refine M.c2 (hty) ?_|fail);refine AW.range f.terms.length (fun m=>True)
  (fun m=>([(1,.i bl),(2,.fn (.func 282) [] [.ptr 0 0,.ptr 1 0]),(3,.ptr 2 0),(6,.ptr 3 0),(7,.ptr 4 0),(19,.s .tm f.terms),(20,.i f.terms.length),(21,.i m)],⟨6,[(0,.var [.i fr]),(1,.var [.i by_]),(2,.var f.view),(3,.var [.i 0,.i 0,.slice .nil (.t .ty []),.slice .nil (.t .tm []),.slice .nil (.t .fm [])]),(4,.var [.i f.kind,.i f.ty.kind,.s .ty f.ty.args,.slice (.own 5) (.t .tm ((f.terms.take m).map ((fun b t=>t.lw (fr+b) by_) bl))),.slice .nil (.t .fm [])]),(5,.row)]⟩))
  (by omega) (fun m=>rfl) (fun m=>rfl) rfl trivial (M.W [some 0,some 1,some 2,some 3,some 4,none]) ?_ ?_
 ·intro m hm _;have hs2:=ze Tm.full (List.getElem_mem hm);have hc:=Ykr fr by_ hat f.terms[m] bl (by omega) (by omega);(repeat' first|refine M.gw ?_|refine M.cv (hc) [0,1] 0 ?_|fail);exact⟨rfl,trivial,(M.W [some 0,some 1,some 2,some 3,some 4,some 7] (he:=(by(repeat'(first|exact trivial|exact Or.inr ⟨_,U,rfl⟩|refine And.intro ?_ ?_|refine⟨_,U,_,U,_,U,?_⟩|exact Aj.refl _|exact Aj.of_eq (by simp[Ao.Ar,ya _ _ _ hm])));done)))⟩
 ·intro _;simp only[List.take_length];cases hqk:xq f.kind with
  |true=>
   rw[hqk] at hq;have hu:AE f.kind bl=bl+1:=by simp[AE,hqk]
   rw[hu] at hre;(repeat' first|refine M.gw ?_|refine M.c2 (hq) ?_|fail);refine AW.range f.args.length (fun m=>True)
    (fun m=>([(1,.i (bl+1)),(2,.fn (.func 282) [] [.ptr 0 0,.ptr 1 0]),(3,.ptr 2 0),(6,.ptr 3 0),(7,.ptr 4 0),(41,.s .fm f.args),(42,.i f.args.length),(43,.i m)],⟨7,[(0,.var [.i fr]),(1,.var [.i by_]),(2,.var f.view),(3,.var [.i 0,.i 0,.slice .nil (.t .ty []),.slice .nil (.t .tm []),.slice .nil (.t .fm [])]),(4,.var [.i f.kind,.i f.ty.kind,.s .ty f.ty.args,.slice (.own 5) (.t .tm (f.terms.map ((fun b t=>t.lw (fr+b) by_) bl))),.slice (.own 6) (.t .fm ((f.args.take m).map (Fm.re (fun b t=>t.lw (fr+b) by_) (bl+1))))]),(5,.row),(6,.row)]⟩))
    (by omega) (fun m=>rfl) (fun m=>rfl) rfl trivial (M.W [some 0,some 1,some 2,some 3,some 4,some 5,none]) ?_ ?_
   ·intro m hm _;have hs2:=ze Fm.full (List.getElem_mem hm);have hc:=ih f.args[m] (bl+1) (by omega) (by omega) (by omega) (by omega);(repeat' first|refine M.gw ?_|refine M.cv (hc) [0,1] 0 ?_|fail);exact⟨rfl,trivial,(M.W [some 0,some 1,some 2,some 3,some 4,some 5,some 8] (he:=(by(repeat'(first|exact trivial|exact Or.inr ⟨_,U,rfl⟩|refine And.intro ?_ ?_|refine⟨_,U,_,U,_,U,?_⟩|exact Aj.refl _|exact Aj.of_eq (by simp[Ao.Ar,ya _ _ _ hm])));done)))⟩
   ·intro _;simp only[List.take_length];(repeat' first|refine M.gw ?_|fail)
    (exact M.n2 [some 0,some 1] (h8:=(by simp[zi,V.wk,V.An,zd,Ty.view,Tm.view,hre])))
  |false=>
   rw[hqk] at hq;have hu:AE f.kind bl=bl:=by simp[AE,hqk]
   rw[hu] at hre;(repeat' first|refine M.gw ?_|refine M.c2 (hq) ?_|fail);refine AW.range f.args.length (fun m=>True)
    (fun m=>([(1,.i bl),(2,.fn (.func 282) [] [.ptr 0 0,.ptr 1 0]),(3,.ptr 2 0),(6,.ptr 3 0),(7,.ptr 4 0),(41,.s .fm f.args),(42,.i f.args.length),(43,.i m)],⟨7,[(0,.var [.i fr]),(1,.var [.i by_]),(2,.var f.view),(3,.var [.i 0,.i 0,.slice .nil (.t .ty []),.slice .nil (.t .tm []),.slice .nil (.t .fm [])]),(4,.var [.i f.kind,.i f.ty.kind,.s .ty f.ty.args,.slice (.own 5) (.t .tm (f.terms.map ((fun b t=>t.lw (fr+b) by_) bl))),.slice (.own 6) (.t .fm ((f.args.take m).map (Fm.re (fun b t=>t.lw (fr+b) by_) bl)))]),(5,.row),(6,.row)]⟩))
    (by omega) (fun m=>rfl) (fun m=>rfl) rfl trivial (M.W [some 0,some 1,some 2,some 3,some 4,some 5,none]) ?_ ?_
   ·intro m hm _;have hs2:=ze Fm.full (List.getElem_mem hm);have hc:=ih f.args[m] bl (by omega) (by omega) (by omega) (by omega);(repeat' first|refine M.gw ?_|refine M.cv (hc) [0,1] 0 ?_|fail);exact⟨rfl,trivial,(M.W [some 0,some 1,some 2,some 3,some 4,some 5,some 8] (he:=(by(repeat'(first|exact trivial|exact Or.inr ⟨_,U,rfl⟩|refine And.intro ?_ ?_|refine⟨_,U,_,U,_,U,?_⟩|exact Aj.refl _|exact Aj.of_eq (by simp[Ao.Ar,ya _ _ _ hm])));done)))⟩
   ·intro _;simp only[List.take_length];(repeat' first|refine M.gw ?_|fail)
    (exact M.n2 [some 0,some 1] (h8:=(by simp[zi,V.wk,V.An,zd,Ty.view,Tm.view,hre])))
theorem Yn2(f:Fm)(fr by_:Int)(hat:0<=fr/\fr<274877906944)(hf:f.full<137438953472):PC E 278 [.agg f.view,.i fr,.i by_] (.agg (f.lw fr by_).view):=by
 have hc:=Yko fr by_ hat _ f 0 (Nat.le_refl _) (by omega) (by omega) (by omega);refine M.F Tryz.func278 ?_;(repeat' first|refine M.gw ?_|refine M.cv (hc) [1,2] 0 ?_|fail)
 rfl
theorem Yow(fr by_:Int)(hat:0<=fr/\fr<274877906944)(t:Tm)(bl:Int)(ht:t.full<274877906944)(hb:0<=bl/\bl<274877906944):
 AC E 276 [.agg t.view,.i bl,.ptr 0 0,.ptr 1 0] ⟨2,[(0,.var [.i fr]),(1,.var [.i by_])]⟩ (.agg (t.lw (fr+bl) by_).view) ⟨2,[(0,.var [.i fr]),(1,.var [.i by_])]⟩:=by
 have hc:=Ni t (fr+bl) by_ ht;refine M.F Tryz.func276 ?_;(repeat' first|refine M.gw ?_|refine M.c2 (hc) ?_|fail)
 (exact M.n2 [some 0,some 1] (h8:=(by simp[zi,V.wk,V.An,zd,Ty.view,Tm.view,hc])))
theorem Ypg(fr by_:Int)(hat:0<=fr/\fr<100000000000)(f:Fm)(bl:Int)(ht:f.full<137438953472)(hb:0<=bl/\bl<100000000000):
 AC E 277 [.agg f.view,.i bl,.ptr 0 0,.ptr 1 0] ⟨2,[(0,.var [.i fr]),(1,.var [.i by_])]⟩ (.agg (f.lw (fr+bl) by_).view) ⟨2,[(0,.var [.i fr]),(1,.var [.i by_])]⟩:=by
 have hc:=Yn2 f (fr+bl) by_ (by omega) ht;generalize f.lw (fr+bl) by_=F at*;refine M.F Tryz.func277 ?_;(repeat' first|refine M.gw ?_|refine M.c2 (hc) ?_|fail)
 (exact M.n2 [some 0,some 1] (h8:=(by simp[zi,V.wk,V.An,zd,Ty.view,Tm.view,Fm.view])))
theorem Yk5(fr by_:Int)(hfr:0<=fr/\fr<10000000000):∀(n:Nat) (p:Pf) (v y:Int),p.full<=n->n<10000000000->(0<=v/\v+2*n<=50000000000)->(0<=y/\y+2*n<=50000000000)->p.nd->
 AC E 87 [.agg p.view,.agg [.i v,.i y],.agg [.fn (.func 276) [] [.ptr 0 0,.ptr 1 0],.fn (.func 277) [] [.ptr 0 0,.ptr 1 0],.nilf]] ⟨2,[(0,.var [.i fr]),(1,.var [.i by_])]⟩ (.agg (p.uw fr by_ v).view) ⟨2,[(0,.var [.i fr]),(1,.var [.i by_])]⟩:=by
 intro n;induction n with
 |zero=>intro p v y hz;have:=p.Aa;omega
 |succ n ih=>
 intro p v y hz hn hv hh hs;have hre:=p.F2 fr by_ v;have hsz':=p.Ag;have hlen:=zg Pf.full Pf.Aa p.args;have hlen1:=zg Fm.full Fm.Aa p.Ad;have hlen2:=zg Tm.full Tm.Aa p.terms;have hty:=u7 _ p.ty (Nat.le_refl _) (by omega);have hru:=ul p.kind;obtain⟨⟨nd,n1,n4⟩,hpf⟩:=(Pf.BL p).1 hs;have hal:p.args.length<=2:=by
  rw[n4];unfold BX at n1
  repeat(split at n1;· cases n1;decide)
  cases n1
 have hpl:=fun(m:Nat) (hm:m<=1000000)=>xp p.kind v y nd n1 m hm (by omega) (by omega);have e2:C2 p.kind=[.bool nd.index,.bool nd.typ,.i nd.terms,.i nd.Ad,.i nd.args,.i (AK p.kind),.i (Az p.kind),.i (Ay p.kind)]:=by unfold C2;rw[n1]
 have b1:0<=Az p.kind/\Az p.kind<=2:=by unfold Az;split<;>(try split)<;>omega
 have b2:0<=Ay p.kind/\Ay p.kind<=1:=by unfold Ay;split<;>omega
 have b3:0<=AK p.kind/\AK p.kind<=1:=by unfold AK;split<;>omega
 rw[n1] at hru;simp only[Option.isSome_some] at hru;rw[e2] at hru;simp only[e2] at hpl;refine M.F Tryz.func87 ?_;(repeat' first|refine M.gw ?_|refine M.c2 (hru) ?_|refine M.c2 (hty) ?_|refine M.gs ?_ ?_<;>intro h|fail);all_goals
  refine AW.range p.terms.length (fun m=>True)
   (fun m=>([(3,.ptr 2 0),(4,.ptr 3 0),(5,.ptr 4 0),(6,.ptr 5 0),(7,.ptr 6 0),(9,.ptr 7 0),(44,.s .tm p.terms),(45,.i p.terms.length),(46,.i m)],⟨9,[(0,.var [.i fr]),(1,.var [.i by_]),(2,.var p.view),(3,.var [.i v,.i y]),(4,.var [.fn (.func 276) [] [.ptr 0 0,.ptr 1 0],.fn (.func 277) [] [.ptr 0 0,.ptr 1 0],.nilf]),(5,.var [.i 0,.i 0,.i 0,.slice .nil (.t .ty []),.slice .nil (.t .tm []),.slice .nil (.t .fm []),.slice .nil (.t .pf [])]),(6,.var [.bool nd.index,.bool nd.typ,.i nd.terms,.i nd.Ad,.i nd.args,.i (AK p.kind),.i (Az p.kind),.i (Ay p.kind)]),(7,.var [.i p.kind,.i p.index,.i p.ty.kind,.s .ty p.ty.args,.slice (.own 8) (.t .tm ((p.terms.take m).map fun t=>t.lw (fr+v) by_)),.slice .nil (.t .fm []),.slice .nil (.t .pf [])]),(8,.row)]⟩))
   (by omega) (fun m=>rfl) (fun m=>rfl) rfl trivial (M.W [some 0,some 1,some 2,some 3,some 4,some 5,some 6,some 7,none]) ?_ ?_
  ·intro m hm _;have hs2:=ze Tm.full (List.getElem_mem hm);have hc:=Yow fr by_ (by omega) p.terms[m] v (by omega) (by omega);(repeat' first|refine M.gw ?_|refine M.cv (hc) [0,1] 0 ?_|fail);exact⟨rfl,trivial,(M.W [some 0,some 1,some 2,some 3,some 4,some 5,some 6,some 7,some 10] (he:=(by(repeat'(first|exact trivial|exact Or.inr ⟨_,U,rfl⟩|refine And.intro ?_ ?_|refine⟨_,U,_,U,_,U,?_⟩|exact Aj.refl _|exact Aj.of_eq (by simp[Ao.Ar,ya _ _ _ hm])));done)))⟩
  ·intro _;simp only[List.take_length];(repeat' first|refine M.gw ?_|fail);refine AW.range p.Ad.length (fun m=>True)
    (fun m=>([(3,.ptr 2 0),(4,.ptr 3 0),(5,.ptr 4 0),(6,.ptr 5 0),(7,.ptr 6 0),(9,.ptr 7 0),(73,.s .fm p.Ad),(74,.i p.Ad.length),(75,.i m)],⟨10,[(0,.var [.i fr]),(1,.var [.i by_]),(2,.var p.view),(3,.var [.i v,.i y]),(4,.var [.fn (.func 276) [] [.ptr 0 0,.ptr 1 0],.fn (.func 277) [] [.ptr 0 0,.ptr 1 0],.nilf]),(5,.var [.i 0,.i 0,.i 0,.slice .nil (.t .ty []),.slice .nil (.t .tm []),.slice .nil (.t .fm []),.slice .nil (.t .pf [])]),(6,.var [.bool nd.index,.bool nd.typ,.i nd.terms,.i nd.Ad,.i nd.args,.i (AK p.kind),.i (Az p.kind),.i (Ay p.kind)]),(7,.var [.i p.kind,.i p.index,.i p.ty.kind,.s .ty p.ty.args,.slice (.own 8) (.t .tm (p.terms.map fun t=>t.lw (fr+v) by_)),.slice (.own 9) (.t .fm ((p.Ad.take m).map fun f=>f.lw (fr+(v+AK p.kind)) by_)),.slice .nil (.t .pf [])]),(8,.row),(9,.row)]⟩))
    (by omega) (fun m=>rfl) (fun m=>rfl) rfl trivial (M.W [some 0,some 1,some 2,some 3,some 4,some 5,some 6,some 7,some 8,none]) ?_ ?_
   ·intro m hm _;have hs2:=ze Fm.full (List.getElem_mem hm);have hc:=Ypg fr by_ (by omega) p.Ad[m] (v+AK p.kind) (by omega) (by omega);(repeat' first|refine M.gw ?_|refine M.cv (hc) [0,1] 0 ?_|fail);exact⟨rfl,trivial,(M.W [some 0,some 1,some 2,some 3,some 4,some 5,some 6,some 7,some 8,some 11] (he:=(by(repeat'(first|exact trivial|exact Or.inr ⟨_,U,rfl⟩|refine And.intro ?_ ?_|refine⟨_,U,_,U,_,U,?_⟩|exact Aj.refl _|exact Aj.of_eq (by simp[Ao.Ar,ya _ _ _ hm])));done)))⟩
   ·intro _;simp only[List.take_length];(repeat' first|refine M.gw ?_|fail);refine AW.range p.args.length (fun m=>True)
     (fun m=>([(3,.ptr 2 0),(4,.ptr 3 0),(5,.ptr 4 0),(6,.ptr 5 0),(7,.ptr 6 0),(9,.ptr 7 0),(105,.s .pf p.args),(106,.i p.args.length),(107,.i m)],⟨11,[(0,.var [.i fr]),(1,.var [.i by_]),(2,.var p.view),(3,.var [.i v,.i y]),(4,.var [.fn (.func 276) [] [.ptr 0 0,.ptr 1 0],.fn (.func 277) [] [.ptr 0 0,.ptr 1 0],.nilf]),(5,.var [.i 0,.i 0,.i 0,.slice .nil (.t .ty []),.slice .nil (.t .tm []),.slice .nil (.t .fm []),.slice .nil (.t .pf [])]),(6,.var [.bool nd.index,.bool nd.typ,.i nd.terms,.i nd.Ad,.i nd.args,.i (AK p.kind),.i (Az p.kind),.i (Ay p.kind)]),(7,.var [.i p.kind,.i p.index,.i p.ty.kind,.s .ty p.ty.args,.slice (.own 8) (.t .tm (p.terms.map fun t=>t.lw (fr+v) by_)),.slice (.own 9) (.t .fm (p.Ad.map fun f=>f.lw (fr+(v+AK p.kind)) by_)),.slice (.own 10) (.t .pf ((Pf.DL fr by_ v (Az p.kind) p.args).take m))]),(8,.row),(9,.row),(10,.row)]⟩))
     (by omega) (fun m=>rfl) (fun m=>rfl) rfl trivial (M.W [some 0,some 1,some 2,some 3,some 4,some 5,some 6,some 7,some 8,some 9,none]) ?_ ?_
    ·intro m hm _;have hs2:=ze Pf.full (List.getElem_mem hm);have hb:=hpl m (by omega);have hc:=ih p.args[m] (if m+1=p.args.length then v+Az p.kind else v) (if(m:Int)=(nd.args:Int)-1 then y+Ay p.kind else y) (by omega) (by omega) (by split<;>omega) (by split<;>omega) (hpf _ (List.getElem_mem hm));have ev:(if(m:Int)=(nd.args:Int)-1 then v+Az p.kind else v)=(if m+1=p.args.length then v+Az p.kind else v):=by
      by_cases hx:m+1=p.args.length
      ·rw[if_pos hx,if_pos (by omega)]
      ·rw[if_neg hx,if_neg (by omega)]
     rw[ev] at hb;(repeat' first|refine M.gw ?_|refine M.c2 (hb) ?_|refine M.cv (hc) [0,1] 0 ?_|fail);exact⟨rfl,trivial,(M.W [some 0,some 1,some 2,some 3,some 4,some 5,some 6,some 7,some 8,some 9,some 12] (he:=(by(repeat'(first|exact trivial|exact Or.inr ⟨_,U,rfl⟩|refine And.intro ?_ ?_|refine⟨_,U,_,U,_,U,?_⟩|exact Aj.refl _|exact Aj.of_eq (by simp[Ao.Ar,Yds hm])));done)))⟩
    ·intro _;simp only[Ygu];(repeat' first|refine M.gw ?_|fail);rw[hre]
     (exact M.n2 [some 0,some 1] (h8:=(by simp[zi,V.wk,V.An,zd,Ty.view,Tm.view,hre])))
theorem Yl1(p:Pf)(fr by_:Int)(hfr:0<=fr/\fr<10000000000)(hp:p.full<5000000000)(hs:p.nd):PC E 267 [.agg p.view,.i fr,.i by_] (.agg (p.uw fr by_ 0).view):=by
 have hc:=Yk5 fr by_ hfr _ p 0 0 (Nat.le_refl _) (by omega) (by omega) (by omega) hs;refine M.F Tryz.func267 ?_;(repeat' first|refine M.gw ?_|refine M.cv (hc) [1,2] 0 ?_|fail);simp[zi,V.wk,V.An,zd,Ty.view,Tm.view]
theorem RH(fr by_:Int)(i v y:Int)(p:Pf):
 AC E 275 [.agg p.view,.agg [.i v,.i y],.ptr 0 0,.ptr 1 0] ⟨2,[(0,.var [.i fr]),(1,.var [.i by_])]⟩ (.agg (w8 (if IntKind.i64.wrap (p.index-y)>=fr then IntKind.i64.wrap (p.index+by_) else p.index)).view) ⟨2,[(0,.var [.i fr]),(1,.var [.i by_])]⟩:=by
 have h1:=P7 (IntKind.i64.wrap (p.index+by_));have h2:=P7 p.index;by_cases h0:IntKind.i64.wrap (p.index-y)>=fr
 ·rw[if_pos h0];refine M.F Tryz.func275 ?_;(repeat' first|refine M.gw ?_|refine M.c2 (h1) ?_|refine M.c2 (h2) ?_|refine M.cs ?_ ?_<;>intro h|fail)
  ·(exact M.n2 [some 0,some 1] (h8:=(by simp[zi,V.wk,V.An,zd,Ty.view,Tm.view,Pf.view,w8])))
  ·exfalso;simp at h;omega
 ·rw[if_neg h0];refine M.F Tryz.func275 ?_;(repeat' first|refine M.gw ?_|refine M.c2 (h1) ?_|refine M.c2 (h2) ?_|refine M.cs ?_ ?_<;>intro h|fail)
  ·exfalso;simp at h;omega
  ·(exact M.n2 [some 0,some 1] (h8:=(by simp[zi,V.wk,V.An,zd,Ty.view,Tm.view,Pf.view,w8])))
theorem Ym3(fr by_:Int):∀(n:Nat) (p:Pf) (v y:Int),p.full<=n->n<10000000000->(0<=v/\v+2*n<=50000000000)->(0<=y/\y+2*n<=50000000000)->p.nd->
 AC E 87 [.agg p.view,.agg [.i v,.i y],.agg [.nilf,.nilf,.fn (.func 275) [] [.ptr 0 0,.ptr 1 0]]] ⟨2,[(0,.var [.i fr]),(1,.var [.i by_])]⟩ (.agg (p.hw fr by_ y).view) ⟨2,[(0,.var [.i fr]),(1,.var [.i by_])]⟩:=by
 intro n;induction n with
 |zero=>intro p v y hz;have:=p.Aa;omega
 |succ n ih=>
 intro p v y hz hn hv hh hs;have hre:=p.JD fr by_ y;by_cases hk:p.kind=1
 ·rw[if_pos hk] at hre;rw[hre];have hc:=RH fr by_ 0 v y p;refine M.F Tryz.func87 ?_;(repeat' first|refine M.go ?_|refine M.cv (hc) [0,1] 0 ?_|refine M.gs ?_ ?_<;>intro h|refine M.z1 3 ?_|refine M.gk ?_|fail);all_goals first|exfalso;simp at h;omega|exfalso;simp_all;done|exact M.n2 [some 0,some 1] (h8:=(by simp[zi,V.wk,V.An,zd,Ty.view,Tm.view,Pf.view,w8]))
 rw[if_neg hk] at hre;have hsz':=p.Ag;have hlen:=zg Pf.full Pf.Aa p.args;have hlen1:=zg Fm.full Fm.Aa p.Ad;have hlen2:=zg Tm.full Tm.Aa p.terms;have hty:=u7 _ p.ty (Nat.le_refl _) (by omega);have hru:=ul p.kind;obtain⟨⟨nd,n1,n4⟩,hpf⟩:=(Pf.BL p).1 hs;have hal:p.args.length<=2:=by
  rw[n4];unfold BX at n1
  repeat(split at n1;· cases n1;decide)
  cases n1
 have hpl:=fun(m:Nat) (hm:m<=1000000)=>xp p.kind v y nd n1 m hm (by omega) (by omega);have e2:C2 p.kind=[.bool nd.index,.bool nd.typ,.i nd.terms,.i nd.Ad,.i nd.args,.i (AK p.kind),.i (Az p.kind),.i (Ay p.kind)]:=by unfold C2;rw[n1]
 have b1:0<=Az p.kind/\Az p.kind<=2:=by unfold Az;split<;>(try split)<;>omega
 have b2:0<=Ay p.kind/\Ay p.kind<=1:=by unfold Ay;split<;>omega
 have b3:0<=AK p.kind/\AK p.kind<=1:=by unfold AK;split<;>omega
 rw[n1] at hru;simp only[Option.isSome_some] at hru;rw[e2] at hru;simp only[e2] at hpl;refine M.F Tryz.func87 ?_;(repeat' first|refine M.go ?_|refine M.c2 (hru) ?_|refine M.c2 (hty) ?_|refine M.gs ?_ ?_<;>intro h|refine M.z1 5 ?_|refine M.gk ?_|fail);all_goals first
  |(exfalso;simp at h;omega)
  |skip
 (repeat' first|refine M.gw ?_|fail);all_goals
  refine AW.range p.terms.length (fun m=>True)
   (fun m=>([(3,.ptr 2 0),(4,.ptr 3 0),(5,.ptr 4 0),(6,.ptr 5 0),(7,.ptr 6 0),(9,.ptr 7 0),(44,.s .tm p.terms),(45,.i p.terms.length),(46,.i m)],⟨9,[(0,.var [.i fr]),(1,.var [.i by_]),(2,.var p.view),(3,.var [.i v,.i y]),(4,.var [.nilf,.nilf,.fn (.func 275) [] [.ptr 0 0,.ptr 1 0]]),(5,.var [.i 0,.i 0,.i 0,.slice .nil (.t .ty []),.slice .nil (.t .tm []),.slice .nil (.t .fm []),.slice .nil (.t .pf [])]),(6,.var [.bool nd.index,.bool nd.typ,.i nd.terms,.i nd.Ad,.i nd.args,.i (AK p.kind),.i (Az p.kind),.i (Ay p.kind)]),(7,.var [.i p.kind,.i p.index,.i p.ty.kind,.s .ty p.ty.args,.slice (.own 8) (.t .tm (p.terms.take m)),.slice .nil (.t .fm []),.slice .nil (.t .pf [])]),(8,.row)]⟩))
   (by omega) (fun m=>rfl) (fun m=>rfl) rfl trivial (M.W [some 0,some 1,some 2,some 3,some 4,some 5,some 6,some 7,none]) ?_ ?_
  ·intro m hm _;have hs2:=ze Tm.full (List.getElem_mem hm);have hc:=Jk _ p.terms[m] (Nat.le_refl _) (by omega);(repeat' first|refine M.gw ?_|refine M.c2 (hc) ?_|fail);exact⟨rfl,trivial,(M.W [some 0,some 1,some 2,some 3,some 4,some 5,some 6,some 7,some 10] (he:=(by(repeat'(first|exact trivial|exact Or.inr ⟨_,U,rfl⟩|refine And.intro ?_ ?_|refine⟨_,U,_,U,_,U,?_⟩|exact Aj.refl _|exact Aj.of_eq (by simp[Ao.Ar,List.take_append_getElem])));done)))⟩
  ·intro _;simp only[List.take_length];(repeat' first|refine M.gw ?_|fail);refine AW.range p.Ad.length (fun m=>True)
    (fun m=>([(3,.ptr 2 0),(4,.ptr 3 0),(5,.ptr 4 0),(6,.ptr 5 0),(7,.ptr 6 0),(9,.ptr 7 0),(73,.s .fm p.Ad),(74,.i p.Ad.length),(75,.i m)],⟨10,[(0,.var [.i fr]),(1,.var [.i by_]),(2,.var p.view),(3,.var [.i v,.i y]),(4,.var [.nilf,.nilf,.fn (.func 275) [] [.ptr 0 0,.ptr 1 0]]),(5,.var [.i 0,.i 0,.i 0,.slice .nil (.t .ty []),.slice .nil (.t .tm []),.slice .nil (.t .fm []),.slice .nil (.t .pf [])]),(6,.var [.bool nd.index,.bool nd.typ,.i nd.terms,.i nd.Ad,.i nd.args,.i (AK p.kind),.i (Az p.kind),.i (Ay p.kind)]),(7,.var [.i p.kind,.i p.index,.i p.ty.kind,.s .ty p.ty.args,.slice (.own 8) (.t .tm (p.terms)),.slice (.own 9) (.t .fm (p.Ad.take m)),.slice .nil (.t .pf [])]),(8,.row),(9,.row)]⟩))
    (by omega) (fun m=>rfl) (fun m=>rfl) rfl trivial (M.W [some 0,some 1,some 2,some 3,some 4,some 5,some 6,some 7,some 8,none]) ?_ ?_
   ·intro m hm _;have hs2:=ze Fm.full (List.getElem_mem hm);have hc:=KK p.Ad[m] (by omega);(repeat' first|refine M.gw ?_|refine M.c2 (hc) ?_|fail);exact⟨rfl,trivial,(M.W [some 0,some 1,some 2,some 3,some 4,some 5,some 6,some 7,some 8,some 11] (he:=(by(repeat'(first|exact trivial|exact Or.inr ⟨_,U,rfl⟩|refine And.intro ?_ ?_|refine⟨_,U,_,U,_,U,?_⟩|exact Aj.refl _|exact Aj.of_eq (by simp[Ao.Ar,List.take_append_getElem])));done)))⟩
   ·intro _;simp only[List.take_length];(repeat' first|refine M.gw ?_|fail);refine AW.range p.args.length (fun m=>True)
     (fun m=>([(3,.ptr 2 0),(4,.ptr 3 0),(5,.ptr 4 0),(6,.ptr 5 0),(7,.ptr 6 0),(9,.ptr 7 0),(105,.s .pf p.args),(106,.i p.args.length),(107,.i m)],⟨11,[(0,.var [.i fr]),(1,.var [.i by_]),(2,.var p.view),(3,.var [.i v,.i y]),(4,.var [.nilf,.nilf,.fn (.func 275) [] [.ptr 0 0,.ptr 1 0]]),(5,.var [.i 0,.i 0,.i 0,.slice .nil (.t .ty []),.slice .nil (.t .tm []),.slice .nil (.t .fm []),.slice .nil (.t .pf [])]),(6,.var [.bool nd.index,.bool nd.typ,.i nd.terms,.i nd.Ad,.i nd.args,.i (AK p.kind),.i (Az p.kind),.i (Ay p.kind)]),(7,.var [.i p.kind,.i p.index,.i p.ty.kind,.s .ty p.ty.args,.slice (.own 8) (.t .tm (p.terms)),.slice (.own 9) (.t .fm (p.Ad)),.slice (.own 10) (.t .pf ((Pf.Ea fr by_ y (Ay p.kind) p.args).take m))]),(8,.row),(9,.row),(10,.row)]⟩))
     (by omega) (fun m=>rfl) (fun m=>rfl) rfl trivial (M.W [some 0,some 1,some 2,some 3,some 4,some 5,some 6,some 7,some 8,some 9,none]) ?_ ?_
    ·intro m hm _;have hs2:=ze Pf.full (List.getElem_mem hm);have hb:=hpl m (by omega);have hc:=ih p.args[m] (if(m:Int)=(nd.args:Int)-1 then v+Az p.kind else v) (if m+1=p.args.length then y+Ay p.kind else y) (by omega) (by omega) (by split<;>omega) (by split<;>omega) (hpf _ (List.getElem_mem hm));have ev:(if(m:Int)=(nd.args:Int)-1 then y+Ay p.kind else y)=(if m+1=p.args.length then y+Ay p.kind else y):=by
      by_cases hx:m+1=p.args.length
      ·rw[if_pos hx,if_pos (by omega)]
      ·rw[if_neg hx,if_neg (by omega)]
     rw[ev] at hb;(repeat' first|refine M.gw ?_|refine M.c2 (hb) ?_|refine M.cv (hc) [0,1] 0 ?_|fail);exact⟨rfl,trivial,(M.W [some 0,some 1,some 2,some 3,some 4,some 5,some 6,some 7,some 8,some 9,some 12] (he:=(by(repeat'(first|exact trivial|exact Or.inr ⟨_,U,rfl⟩|refine And.intro ?_ ?_|refine⟨_,U,_,U,_,U,?_⟩|exact Aj.refl _|exact Aj.of_eq (by simp[Ao.Ar,Ye2 hm])));done)))⟩
    ·intro _;simp only[Yhz];(repeat' first|refine M.gw ?_|fail);rw[hre]
     (exact M.n2 [some 0,some 1] (h8:=(by simp[zi,V.wk,V.An,zd,Ty.view,Tm.view,hre])))
theorem Ymb(p:Pf)(fr by_:Int)(hp:p.full<5000000000)(hs:p.nd):PC E 266 [.agg p.view,.i fr,.i by_] (.agg (p.hw fr by_ 0).view):=by
 have hc:=Ym3 fr by_ _ p 0 0 (Nat.le_refl _) (by omega) (by omega) (by omega) hs;refine M.F Tryz.func266 ?_;(repeat' first|refine M.gw ?_|refine M.cv (hc) [1,2] 0 ?_|fail);simp[zi,V.wk,V.An,zd,Ty.view,Tm.view]
end Go.Ab
