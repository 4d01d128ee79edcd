/- A part of this seat's proofs. No conditions. -/
import Derived.Test.YtmhcohcihajegaaGreatDoorCS7
namespace Go.Ab
open Go Go.Proofs
set_option maxRecDepth 100000
set_option maxHeartbeats 4000000
set_option linter.all false
theorem Q9(a:Nat)(b:Bool)(n:Nat)(e:Int)(ha:a<=1000000000000)(hn:n<=1000000000000):
 AC E 201 [.ptr 0 0,.i n,.i e] ⟨1,[(0,.var [.i a,.bool b])]⟩ (.bool (e !=2)) ⟨1,[(0,.var [.i ((a+n:Nat):Int),.bool (b||e==4)])]⟩:=by
 rw[ij];cases b with
 |true=>
  exact td
 |false=>
  exact td
theorem Yij:∀(n:Nat) (p:Pf) (s:Tl),p.full<=n->n<274877906944->s.1+p.full<=549755813888->
 AC E 163 [.ptr 0 0,.agg p.view] ⟨1,[(0,.var [.i s.1,.bool s.2])]⟩ (.bool (Em p s).1) ⟨1,[(0,.var [.i (Em p s).2.1,.bool (Em p s).2.2])]⟩:=by
 intro n;induction n with
 |zero=>intro p s h;have:=p.Ad;omega
 |succ n ih=>
 intro p s hsz hn hs;have hsz':=p.Ag;have hse:=p.size_eq;have hlen:=ze Pf.full Pf.Ad p.args;have hlen1:=ze Fm.full Fm.Ad p.Ae;have hlen2:=ze Tm.full Tm.Ad p.terms;have hle0:=x6 (f:=Tm.size) (g:=Tm.full) p.terms fun x _=>x.An;have hle1:=x6 (f:=Fm.size) (g:=Fm.full) p.Ae fun x _=>x.An;have hle2:=x6 (f:=Pf.size) (g:=Pf.full) p.args fun x _=>x.An;have hru:=Js p.kind;have he:=dN p s;cases hnd:B6 p.kind with
 |none=>
  have e2:Ds p.kind=[.bool false,.bool false,.i 0,.i 0,.i 0,.i 0,.i 0,.i 0]:=by unfold Ds;rw[hnd]
  have e:p.GQ=false:=by unfold Pf.GQ;rw[hnd]
  rw[hnd,e2] at hru;rw[if_pos e] at he;rw[he];refine M.F Tryz.func163 ?_;refine M.w1 @hru ?_
  (exact M.n2 AJ (h8:=kR))
 |some nd=>
 cases hty:nd.typ with
 |true=>
  have e2:Ds p.kind=[.bool nd.index,.bool true,.i nd.terms,.i nd.Ae,.i nd.args,.i (AN p.kind),.i (Aw p.kind),.i (AA p.kind)]:=by unfold Ds;rw[hnd,<-hty]
  rw[hnd,e2] at hru;simp only[gI] at hru;by_cases hA:p.GQ=false
  .exact qg
  rw[if_neg hA] at he;rw[iS] at hA;have hA2:=hA;simp only[Pf.GQ,hnd,fD,ic,decide_eq_true_eq,beq_iff_eq] at hA2;obtain⟨⟨⟨⟨q1,q2⟩,q3⟩,q4⟩,q5⟩:=hA2;have hT:p.Ie=p.ty.ok:=pM
  have hct:=Vk p.ty kn;by_cases hx:p.ty.err=0;case neg=>
   have hT2:p.Ie=false:=by
    rw[hT];cases ho:p.ty.ok with
    |false=>rfl
    |true=>exact absurd (bD ho) hx
   rw[if_pos hT2] at he;rw[he];refine M.F Tryz.func163 ?_;(repeat' first|refine M.o2 @hru @hct ?_|refine M.gs ?_ ?_<;>intro h|refine M.z1 11 ?_|refine M.cs ?_ ?_<;>intro h|refine M.gk ?_|fail);all_goals(try(exfalso;simp_all;done))
   all_goals(try(exfalso;simp_all;omega))
   all_goals(exact M.n2 AJ (h8:=kR))
  have hT2:p.Ie=true:=by
   rw[hT];have:=(Ty.Aa p.ty).1 hx;exact Nm this.1 this.2
  rw[if_neg (by simp[hT2])] at he;rw[hx] at hct;refine M.F Tryz.func163 ?_;(repeat' first|refine M.w2 @hru @hct ?_|refine M.gs ?_ ?_<;>intro h|refine M.cs ?_ ?_<;>intro h|fail);all_goals(try(exfalso;simp_all;done))
  all_goals(try(exfalso;simp_all;omega))
  all_goals
   refine M.rp p.terms.length (fun m=>(Ce (p.terms.take m) (s.1+1,s.2)).1=true)
    (fun m=>([(0,.ptr 0 0),(3,.ptr 1 0),(84,.s .tm p.terms),(85,.i p.terms.length),(86,.i m)],⟨2,[(0,.var [.i ((Ce (p.terms.take m) (s.1+1,s.2)).2.1:Nat),.bool (Ce (p.terms.take m) (s.1+1,s.2)).2.2]),(1,.var p.view)]⟩))
    rfl (M.W Bo) ?_ ?_
   .exact pU
   .exact pQ
 |false=>
  have e2:Ds p.kind=[.bool nd.index,.bool false,.i nd.terms,.i nd.Ae,.i nd.args,.i (AN p.kind),.i (Aw p.kind),.i (AA p.kind)]:=by unfold Ds;rw[hnd,<-hty]
  rw[hnd,e2] at hru;simp only[gI] at hru;by_cases hA:p.GQ=false
  .exact qg
  rw[if_neg hA] at he;rw[iS] at hA;have hA2:=hA;simp only[Pf.GQ,hnd,fD,ic,decide_eq_true_eq,beq_iff_eq] at hA2;obtain⟨⟨⟨⟨q1,q2⟩,q3⟩,q4⟩,q5⟩:=hA2;have hT:p.Ie=p.ty.Bv:=pM
  have hct:=Vh p.ty;by_cases hx:p.ty.Bv=true;case neg=>
   rw[jU] at hx;have hT2:p.Ie=false:=by rw[hT,hx]
   rw[if_pos hT2] at he;rw[he];rw[hx] at hct;refine M.F Tryz.func163 ?_;(repeat' first|refine M.o2 @hru @hct ?_|refine M.gs ?_ ?_<;>intro h|refine M.z1 11 ?_|refine M.cs ?_ ?_<;>intro h|refine M.gk ?_|fail);all_goals(try(exfalso;simp_all;done))
   all_goals(try(exfalso;simp_all;omega))
   all_goals(exact M.n2 AJ (h8:=kR))
  have hT2:p.Ie=true:=by rw[hT,hx]
  rw[if_neg (by simp[hT2])] at he;rw[hx] at hct;refine M.F Tryz.func163 ?_;(repeat' first|refine M.w2 @hru @hct ?_|refine M.gs ?_ ?_<;>intro h|refine M.cs ?_ ?_<;>intro h|fail);all_goals(try(exfalso;simp_all;done))
  all_goals(try(exfalso;simp_all;omega))
  all_goals
   refine M.rp p.terms.length (fun m=>(Ce (p.terms.take m) (s.1+1,s.2)).1=true)
    (fun m=>([(0,.ptr 0 0),(3,.ptr 1 0),(84,.s .tm p.terms),(85,.i p.terms.length),(86,.i m)],⟨2,[(0,.var [.i ((Ce (p.terms.take m) (s.1+1,s.2)).2.1:Nat),.bool (Ce (p.terms.take m) (s.1+1,s.2)).2.2]),(1,.var p.view)]⟩))
    rfl (M.W Bo) ?_ ?_
   .exact pU
   .exact pQ
theorem wd(k v h:Int)(nd:Nd)(hnd:B6 k=some nd)(m:Nat)(hm:m<=1000000)(hv:0<=v/\v<=1000000000000)(hh:0<=h/\h<=1000000000000):
 PC E 165 [.agg [.i v,.i h],.agg (Ds k),.i m] (.agg [.i (if(m:Int)=(nd.args:Int)-1 then v+Aw k else v),.i (if(m:Int)=(nd.args:Int)-1 then h+AA k else h)]):=by
 have e2:Ds k=[.bool nd.index,.bool nd.typ,.i nd.terms,.i nd.Ae,.i nd.args,.i (AN k),.i (Aw k),.i (AA k)]:=by unfold Ds;rw[hnd]
 have b1:0<=Aw k/\Aw k<=2:=kT
 have b2:0<=AA k/\AA k<=1:=kX
 have b3:(nd.args:Int)<=2:=by
  have:nd.args<=2:=by
   unfold B6 at hnd
   repeat(split at hnd;· cases hnd;decide)
   cases hnd
  omega
 rw[e2];by_cases hl:(m:Int)=(nd.args:Int)-1
 .rw[if_pos hl,if_pos hl];refine M.F Tryz.func165 ?_;(repeat' first|refine M.w0 ?_|refine M.cs ?_ ?_<;>intro h|fail);all_goals first
   |rfl
   |(exfalso;simp at h;omega)
   |trace_state
 .rw[if_neg hl,if_neg hl];refine M.F Tryz.func165 ?_;(repeat' first|refine M.w0 ?_|refine M.cs ?_ ?_<;>intro h|fail);all_goals first
   |rfl
   |(exfalso;simp at h;omega)
   |trace_state
theorem Ylr:∀(n:Nat) (p:Pf) (v y:Int),p.full<=n->n<274877906944->(0<=v/\v+2*n<=1000000000000)->(0<=y/\y+2*n<=1000000000000)->p.shape=true->
 PC E 108 [.agg p.view,.agg [.i v,.i y],.agg [.nilf,.nilf,.nilf]] (.agg p.view):=by
 intro n;induction n with
 |zero=>intro p v y hz;have:=p.Ad;omega
 |succ n ih=>
 intro p v y hz hn hv hh hs;have hsz':=p.Ag;have hlen:=ze Pf.full Pf.Ad p.args;have hlen1:=ze Fm.full Fm.Ad p.Ae;have hlen2:=ze Tm.full Tm.Ad p.terms;have hty:=It _ p.ty (fB _) kn;have hru:=Js p.kind;obtain⟨nd,n1,n2,n3,n4,_⟩:=T9 hs;have hal:p.args.length<=2:=by
  exact pW
 have hpl:=fun(m:Nat) (hm:m<=1000000)=>wd p.kind v y nd n1 m hm kn kn;have e2:Ds p.kind=[.bool nd.index,.bool nd.typ,.i nd.terms,.i nd.Ae,.i nd.args,.i (AN p.kind),.i (Aw p.kind),.i (AA p.kind)]:=lp
 have b1:0<=Aw p.kind/\Aw p.kind<=2:=kT
 have b2:0<=AA p.kind/\AA p.kind<=1:=kX
 rw[n1] at hru;simp only[gI] at hru;have hpf:=(zh hs).2.2.2;rw[e2] at hru;simp only[e2] at hpl;refine M.F Tryz.func108 ?_;(repeat' first|refine M.w2 @hru @hty ?_|refine M.gs ?_ ?_<;>intro h|fail);all_goals
  refine M.rt p.terms.length
   (fun m=>([(3,.ptr 0 0),(4,.ptr 1 0),(5,.ptr 2 0),(6,.ptr 3 0),(7,.ptr 4 0),(9,.ptr 5 0),(44,.s .tm p.terms),(45,.i p.terms.length),(46,.i m)],⟨7,[(0,.var p.view),(1,.var [.i v,.i y]),(2,.var [.nilf,.nilf,.nilf]),(3,.var [.i 0,.i 0,.i 0,.slice .nil (.t .ty []),.slice .nil (.t .tm []),.slice .nil (.t .fm []),.slice .nil (.t .pf [])]),(4,.var [.bool nd.index,.bool nd.typ,.i nd.terms,.i nd.Ae,.i nd.args,.i (AN p.kind),.i (Aw p.kind),.i (AA p.kind)]),(5,.var [.i p.kind,.i p.index,.i p.ty.kind,.s .ty p.ty.args,.slice (.own 6) (.t .tm (p.terms.take m)),.slice .nil (.t .fm []),.slice .nil (.t .pf [])]),(6,.row)]⟩))
   (M.W PS) ?_ ?_
  .intro m hm _;have hs2:=zc Tm.full (fA hm);have hc:=Qq _ p.terms[m] (fB _) kn;refine M.w1 @hc ?_;exact⟨rfl,trivial,(M.W [some 0,some 1,some 2,some 3,some 4,some 5,some 8] (he:=(by(repeat'(first|exact trivial|exact Or.inr ⟨_,U,rfl⟩|refine And.intro ?_ ?_|refine⟨_,U,_,U,_,U,?_⟩|exact Ap.refl _|exact Ap.of_eq kQ));done)))⟩
  .intro _;simp only[fH];refine M.w0 ?_;refine M.rt p.Ae.length
    (fun m=>([(3,.ptr 0 0),(4,.ptr 1 0),(5,.ptr 2 0),(6,.ptr 3 0),(7,.ptr 4 0),(9,.ptr 5 0),(73,.s .fm p.Ae),(74,.i p.Ae.length),(75,.i m)],⟨8,[(0,.var p.view),(1,.var [.i v,.i y]),(2,.var [.nilf,.nilf,.nilf]),(3,.var [.i 0,.i 0,.i 0,.slice .nil (.t .ty []),.slice .nil (.t .tm []),.slice .nil (.t .fm []),.slice .nil (.t .pf [])]),(4,.var [.bool nd.index,.bool nd.typ,.i nd.terms,.i nd.Ae,.i nd.args,.i (AN p.kind),.i (Aw p.kind),.i (AA p.kind)]),(5,.var [.i p.kind,.i p.index,.i p.ty.kind,.s .ty p.ty.args,.slice (.own 6) (.t .tm p.terms),.slice (.own 7) (.t .fm (p.Ae.take m)),.slice .nil (.t .pf [])]),(6,.row),(7,.row)]⟩))
    (M.W Rw) ?_ ?_
   .intro m hm _;have hs2:=zc Fm.full (fA hm);have hc:=Vt p.Ae[m] kn;refine M.w1 @hc ?_;exact⟨rfl,trivial,(M.W [some 0,some 1,some 2,some 3,some 4,some 5,some 6,some 9] (he:=(by(repeat'(first|exact trivial|exact Or.inr ⟨_,U,rfl⟩|refine And.intro ?_ ?_|refine⟨_,U,_,U,_,U,?_⟩|exact Ap.refl _|exact Ap.of_eq kQ));done)))⟩
   .intro _;simp only[fH];refine M.w0 ?_;refine M.rt p.args.length
     (fun m=>([(3,.ptr 0 0),(4,.ptr 1 0),(5,.ptr 2 0),(6,.ptr 3 0),(7,.ptr 4 0),(9,.ptr 5 0),(105,.s .pf p.args),(106,.i p.args.length),(107,.i m)],⟨9,[(0,.var p.view),(1,.var [.i v,.i y]),(2,.var [.nilf,.nilf,.nilf]),(3,.var [.i 0,.i 0,.i 0,.slice .nil (.t .ty []),.slice .nil (.t .tm []),.slice .nil (.t .fm []),.slice .nil (.t .pf [])]),(4,.var [.bool nd.index,.bool nd.typ,.i nd.terms,.i nd.Ae,.i nd.args,.i (AN p.kind),.i (Aw p.kind),.i (AA p.kind)]),(5,.var [.i p.kind,.i p.index,.i p.ty.kind,.s .ty p.ty.args,.slice (.own 6) (.t .tm p.terms),.slice (.own 7) (.t .fm p.Ae),.slice (.own 8) (.t .pf (p.args.take m))]),(6,.row),(7,.row),(8,.row)]⟩))
     (M.W OT) ?_ ?_
    .intro m hm _;have hs2:=zc Pf.full (fA hm);have hb:=hpl m kn;have hc:=ih p.args[m] (if(m:Int)=(nd.args:Int)-1 then v+Aw p.kind else v) (if(m:Int)=(nd.args:Int)-1 then y+AA p.kind else y) kn kn kJ kJ (hpf _ (fA hm));refine M.w2 @hb @hc ?_;exact⟨rfl,trivial,(M.W [some 0,some 1,some 2,some 3,some 4,some 5,some 6,some 7,some 10] (he:=(by(repeat'(first|exact trivial|exact Or.inr ⟨_,U,rfl⟩|refine And.intro ?_ ?_|refine⟨_,U,_,U,_,U,?_⟩|exact Ap.refl _|exact Ap.of_eq kQ));done)))⟩
    .exact qt
theorem Zq9(p:Pf):(p.shape=false/\p.err=2/\p.num=0)\/(p.shape=true/\(p.small=false\/p.size>16384)/\p.err=4/\p.num=0)\/(p.shape=true/\p.small=true/\p.size<=16384/\p.err=0/\p.num=p.size):=by
 unfold Pf.num Pf.err;cases hs:p.shape with
 |false=>simp
 |true=>
  by_cases h:p.small=false\/p.size>16384
  .simp[h]
  .have h':=h;rw[not_or,iS] at h';simp[h,h'.1];omega
theorem Yc(p:Pf)(hp:p.full<274877906944):PC E 104 [.agg p.view] (.AP [.i p.num,.i p.err]):=by
 have ht:=Yij _ p (0,false) (fB _) hp lq;obtain⟨t1,t2,t3⟩:=UO p (0,false);rw[t1] at ht;have hsz:=p.An;rcases Zq9 p with⟨h1,h2,h3⟩|⟨h1,h2,h3,h4⟩|⟨h1,h2,h3,h4,h5⟩
 .rw[h2,h3];rw[h1] at ht;refine M.F Tryz.func104 ?_;(repeat' first|refine M.w0 ?_|refine M.cb (ht) [1] 0 ?_|refine M.zb ?_|fail)
  rfl
 .rw[h3,h4];rw[h1] at ht;obtain⟨t4,t5⟩:=t3 h1;rw[t4] at ht;cases hm:p.small with
  |false=>
   rw[hm] at ht;refine M.F Tryz.func104 ?_;(repeat' first|refine M.w0 ?_|refine M.cb (ht) [1] 0 ?_|refine M.zb ?_|fail)
   rfl
  |true=>
   have t6:=t5 hm;have h6:p.size>16384:=by rcases h2 with h2|h2;rw[hm] at h2;cases h2;exact h2
   rw[hm,t6] at ht;simp only[gN,jN,Bool.or_false] at ht;refine M.F Tryz.func104 ?_;(repeat' first|refine M.w0 ?_|refine M.cb (ht) [1] 0 ?_|refine M.zb ?_|refine M.cs ?_ ?_<;>intro h|fail);all_goals first
    |rfl
    |(exfalso;simp at h;omega)
    |trace_state
 .rw[h4,h5];rw[h1] at ht;obtain⟨t4,t5⟩:=t3 h1;have t6:=t5 h2;rw[t4,h2,t6] at ht;simp only[gN,jN,Bool.or_false] at ht;refine M.F Tryz.func104 ?_;(repeat' first|refine M.w0 ?_|refine M.cb (ht) [1] 0 ?_|refine M.zb ?_|refine M.cs ?_ ?_<;>intro h|fail);all_goals first
   |rfl
   |(exfalso;simp at h;omega)
   |trace_state
theorem an(p:Pf)(hp:p.full<274877906944):PC E 43 [.agg p.view] (.i p.err):=by
 have h1:=Yc p hp;refine M.F Tryz.func43 ?_;refine M.w1 @h1 ?_
 rfl
theorem Ylo(p:Pf)(hp:p.full<200000000000)(hs:p.shape=true):PC E 46 [.agg p.view] (.agg p.view):=by
 have h1:=Ylr _ p 0 0 (fB _) kn kn kn hs;refine M.F Tryz.func46 ?_;refine M.w1 @h1 ?_
 rfl
inductive Ch where
 |tm (t:Tm)|fm (f:Fm)|pf (p:Pf)
def Ch.err:Ch->Int
 | .tm t=>t.err| .fm f=>f.err| .pf p=>p.err
def Ch.full:Ch->Nat
 | .tm t=>t.full| .fm f=>f.full| .pf p=>p.full
end Go.Ab
