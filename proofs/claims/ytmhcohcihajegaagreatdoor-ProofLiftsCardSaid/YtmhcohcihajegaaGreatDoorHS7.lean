/- A part of this seat's proofs. No conditions. -/
import Derived.Test.YtmhcohcihajegaaGreatDoorHS5
namespace Go.Ab
open Go Go.Proofs
set_option maxRecDepth 100000
set_option maxHeartbeats 4000000
set_option linter.all false
theorem Zki:∀(b:Nat) (f:Fm),f.full<=b->b<1099511627776->PC E 223 [.agg f.view] (.tup [.i f.nodes,.bool f.shape]):=by
 intro b;induction b with
 |zero=>intro f h;have:=f.full_pos;omega
 |succ b ih=>
 intro f hsz hb;have hsz':=f.full_eq;have hse:=f.size_eq;have hle:=f.size_le_full;have hlen:=zg Fm.full Fm.full_pos f.args;have hlen2:=zg Tm.full Tm.full_pos f.terms;have hsh:=f.shape_eq;have h1:=Ydq f (by omega);cases hh:f.head with
 |false=>
  rw[hh] at h1 hsh;have e:f.shape=false:=by rw[hsh];rfl
  rw[show f.nodes=0 by simp[Fm.nodes,e],e];refine M.F Tryz.func223 ?_;refine M.w1 @h1 ?_
  rfl
 |true=>
 rw[hh] at h1 hsh;refine M.F Tryz.func223 ?_;refine M.w1 @h1 ?_;refine M.rp f.terms.length (fun m=>∀j (hj:j<f.terms.length),j<m->(f.terms[j]).shape=true)
  (fun m=>([(1,.ptr 0 0),(4,.i (1+((f.terms.take m).map Tm.size).sum:Nat)),(17,.s .tm f.terms),(18,.i f.terms.length),(19,.i m)],⟨1,[(0,.var f.view)]⟩))
  (fun j hj h=>by omega) (M.W rh1) ?_ ?_
 ·intro m hm hP;have hs1:=xd Tm.size f.terms m hm;have hs2:=zc Tm.full (List.getElem_mem hm);have hs3:=ya Tm.size f.terms m;have hs4:=xv (f:=Tm.size) (g:=Tm.full) f.terms fun x _=>x.size_le_full;have hs5:=f.terms[m].size_le_full;have hc:=Zjm _ f.terms[m] (Nat.le_refl _) (by omega);cases hx:(f.terms[m]).shape with
  |false=>
   rw[show Ziw f.terms[m]= .tup [.i 0,.bool false] by simp[Ziw,Tm.nodes,hx]] at hc;have e:f.shape=false:=by rw[hsh,ul Tm.shape hm hx];rfl
   rw[show f.nodes=0 by simp[Fm.nodes,e],e];refine M.w1 @hc ?_
   rfl
  |true=>
   rw[show Ziw f.terms[m]= .tup [.i f.terms[m].size,.bool true] by simp[Ziw,Tm.nodes,hx]] at hc;refine M.w1 @hc ?_;refine⟨rfl,yj (p:=fun t=>Tm.shape t=true) hm hP hx,?_⟩;simp only[hs1];exact(M.W rh1 (hf:=(by(repeat'(first|exact trivial|refine And.intro ?_ ?_|refine⟨_,U,_,U,?_⟩|exact VLe.refl _|exact VLe.of_eq (by simp[Sto.upd,Int.natCast_add,Int.add_assoc])));done)))
 ·intro hP;have hpt:=Zbu Tm.shape f.terms fun j hj=>hP j hj hj;rw[hpt] at hsh;simp only[List.take_length];refine M.w0 ?_;refine M.rp f.args.length (fun m=>∀j (hj:j<f.args.length),j<m->(f.args[j]).shape=true)
   (fun m=>([(1,.ptr 0 0),(4,.i (1+(f.terms.map Tm.size).sum+((f.args.take m).map Fm.size).sum:Nat)),(35,.s .fm f.args),(36,.i f.args.length),(37,.i m)],⟨1,[(0,.var f.view)]⟩))
   (fun j hj h=>by omega) (M.W rh1) ?_ ?_
  ·intro m hm hP;have hs0:=xv (f:=Tm.size) (g:=Tm.full) f.terms fun x _=>x.size_le_full;have hs1:=xd Fm.size f.args m hm;have hs2:=zc Fm.full (List.getElem_mem hm);have hs3:=ya Fm.size f.args m;have hs4:=xv (f:=Fm.size) (g:=Fm.full) f.args fun x _=>x.size_le_full;have hs5:=f.args[m].size_le_full;have hc:=ih f.args[m] (by omega) (by omega);cases hx:(f.args[m]).shape with
   |false=>
    rw[hx,show(f.args[m]).nodes=0 by simp[Fm.nodes,hx]] at hc;have e:f.shape=false:=by rw[hsh,ul Fm.shape hm hx];rfl
    rw[show f.nodes=0 by simp[Fm.nodes,e],e];refine M.w1 @hc ?_
    rfl
   |true=>
    rw[hx,show(f.args[m]).nodes=(f.args[m]).size by simp[Fm.nodes,hx]] at hc;refine M.w1 @hc ?_;refine⟨rfl,yj (p:=fun t=>Fm.shape t=true) hm hP hx,?_⟩;simp only[hs1];exact(M.W rh1 (hf:=(by(repeat'(first|exact trivial|refine And.intro ?_ ?_|refine⟨_,U,_,U,?_⟩|exact VLe.refl _|exact VLe.of_eq (by simp[Sto.upd,Int.natCast_add,Int.add_assoc])));done)))
  ·intro hP;have hpa:=Zbu Fm.shape f.args fun j hj=>hP j hj hj;rw[hpa] at hsh;have e:f.shape=true:=hsh;rw[show f.nodes=f.size by simp[Fm.nodes,e],e,hse];simp only[List.take_length];refine M.w0 ?_
   rfl
theorem Zoi(f:Fm)(hf:f.full<1099511627776):PC E 203 [.agg f.view] (.tup [.i f.num,.i f.err]):=by
 have h1:=Zki _ f (Nat.le_refl _) hf;have hle:=f.size_le_full;cases hs:f.shape with
 |false=>
  have e:f.err=2:=by simp[Fm.err,hs]
  rw[hs,show f.nodes=0 by simp[Fm.nodes,hs]] at h1;rw[show f.num=0 by simp[Fm.num,e],e];refine M.F Tryz.func203 ?_;(repeat' first|refine M.w1 @h1 ?_|refine M.zb ?_|fail)
  rfl
 |true=>
  rw[hs,show f.nodes=f.size by simp[Fm.nodes,hs]] at h1;by_cases hz:f.size>4096
  ·have e:f.err=4:=by simp[Fm.err,hs,hz]
   rw[show f.num=0 by simp[Fm.num,e],e];refine M.F Tryz.func203 ?_;(repeat' first|refine M.w1 @h1 ?_|refine M.zb ?_|refine M.cs ?_ ?_<;>intro h|fail)
   ·rfl
   ·exfalso;simp at h;omega
  ·have e:f.err=0:=by simp[Fm.err,hs,hz]
   rw[show f.num=f.size by simp[Fm.num,e],e];refine M.F Tryz.func203 ?_;(repeat' first|refine M.w1 @h1 ?_|refine M.zb ?_|refine M.cs ?_ ?_<;>intro h|fail)
   ·exfalso;simp at h;omega
   ·rfl
theorem Zib(a:Nat)(b:Bool)(n:Nat)(e:Int)(ha:a<=1000000000000)(hn:n<=1000000000000):
 AC E 201 [.ptr 0 0,.i n,.i e] ⟨1,[(0,.var [.i a,.bool b])]⟩ (.bool (e !=2)) ⟨1,[(0,.var [.i ((a+n:Nat):Int),.bool (b||e==4)])]⟩:=by
 rw[Int.natCast_add];cases b with
 |true=>
  refine M.F Tryz.func201 ?_;refine M.w0 ?_
  (exact M.n2 rh1 (h8:=(by simp[zn,V.wk,V.wks,za,Ty.view,Tm.view,V.frz])))
 |false=>
  refine M.F Tryz.func201 ?_;refine M.w0 ?_
  (exact M.n2 rh1 (h8:=(by simp[zn,V.wk,V.wks,za,Ty.view,Tm.view,V.frz])))
theorem Ybe:∀(n:Nat) (p:Pf) (s:Tl),p.full<=n->n<274877906944->s.1+p.full<=549755813888->
 AC E 163 [.ptr 0 0,.agg p.view] ⟨1,[(0,.var [.i s.1,.bool s.2])]⟩ (.bool (tlP p s).1) ⟨1,[(0,.var [.i (tlP p s).2.1,.bool (tlP p s).2.2])]⟩:=by
 intro n;induction n with
 |zero=>intro p s h;have:=p.full_pos;omega
 |succ n ih=>
 intro p s hsz hn hs;have hsz':=p.full_eq;have hse:=p.size_eq;have hlen:=zg Pf.full Pf.full_pos p.args;have hlen1:=zg Fm.full Fm.full_pos p.forms;have hlen2:=zg Tm.full Tm.full_pos p.terms;have hle0:=xv (f:=Tm.size) (g:=Tm.full) p.terms fun x _=>x.size_le_full;have hle1:=xv (f:=Fm.size) (g:=Fm.full) p.forms fun x _=>x.size_le_full;have hle2:=xv (f:=Pf.size) (g:=Pf.full) p.args fun x _=>x.size_le_full;have hru:=Za6 p.kind;have he:=Yfo p s;cases hnd:ndP p.kind with
 |none=>
  have e2:ruC p.kind=[.bool false,.bool false,.i 0,.i 0,.i 0,.i 0,.i 0,.i 0]:=by unfold ruC;rw[hnd]
  have e:p.hdA=false:=by unfold Pf.hdA;rw[hnd]
  rw[hnd,e2] at hru;rw[if_pos e] at he;rw[he];refine M.F Tryz.func163 ?_;refine M.w1 @hru ?_
  (exact M.n2 rh1 (h8:=(by simp[zn,V.wk,V.wks,za,Ty.view,Tm.view,V.frz])))
 |some nd=>
 cases hty:nd.typ with
 |true=>
  have e2:ruC p.kind=[.bool nd.index,.bool true,.i nd.terms,.i nd.forms,.i nd.args,.i (fvK p.kind),.i (vaK p.kind),.i (hyK p.kind)]:=by unfold ruC;rw[hnd,<-hty]
  rw[hnd,e2] at hru;simp only[Option.isSome_some] at hru;by_cases hA:p.hdA=false
  ·rw[if_pos hA] at he;rw[he];refine M.F Tryz.func163 ?_;(repeat' first|refine M.o1 @hru ?_|refine M.gs ?_ ?_<;>intro h|refine M.z1 4 ?_|refine M.cs ?_ ?_<;>intro h|refine M.gk ?_|fail);all_goals(try(exfalso;simp only[Pf.hdA,hnd] at hA;simp_all;done))
   all_goals(try(exfalso;simp only[Pf.hdA,hnd] at hA;simp_all;omega))
   all_goals(exact M.n2 rh1 (h8:=(by simp[zn,V.wk,V.wks,za,Ty.view,Tm.view,V.frz])))
  rw[if_neg hA] at he;rw[Bool.not_eq_false] at hA;have hA2:=hA;simp only[Pf.hdA,hnd,Bool.and_eq_true,Bool.or_eq_true,decide_eq_true_eq,beq_iff_eq] at hA2;obtain⟨⟨⟨⟨q1,q2⟩,q3⟩,q4⟩,q5⟩:=hA2;have hT:p.hdT=p.ty.ok:=by unfold Pf.hdT;rw[hnd];simp only[hty];rfl
  have hct:=Zi9 p.ty (by omega);by_cases hx:p.ty.err=0;case neg=>
   have hT2:p.hdT=false:=by
    rw[hT];cases ho:p.ty.ok with
    |false=>rfl
    |true=>exact absurd (Zzy ho) hx
   rw[if_pos hT2] at he;rw[he];refine M.F Tryz.func163 ?_;(repeat' first|refine M.o2 @hru @hct ?_|refine M.gs ?_ ?_<;>intro h|refine M.z1 11 ?_|refine M.cs ?_ ?_<;>intro h|refine M.gk ?_|fail);all_goals(try(exfalso;simp_all;done))
   all_goals(try(exfalso;simp_all;omega))
   all_goals(exact M.n2 rh1 (h8:=(by simp[zn,V.wk,V.wks,za,Ty.view,Tm.view,V.frz])))
  have hT2:p.hdT=true:=by
   rw[hT];have:=(Ty.err_iff p.ty).1 hx;exact Zuz this.1 this.2
  rw[if_neg (by simp[hT2])] at he;rw[hx] at hct;refine M.F Tryz.func163 ?_;(repeat' first|refine M.w2 @hru @hct ?_|refine M.gs ?_ ?_<;>intro h|refine M.cs ?_ ?_<;>intro h|fail);all_goals(try(exfalso;simp_all;done))
  all_goals(try(exfalso;simp_all;omega))
  all_goals
   refine M.rp p.terms.length (fun m=>(tlT (p.terms.take m) (s.1+1,s.2)).1=true)
    (fun m=>([(0,.ptr 0 0),(3,.ptr 1 0),(84,.s .tm p.terms),(85,.i p.terms.length),(86,.i m)],⟨2,[(0,.var [.i ((tlT (p.terms.take m) (s.1+1,s.2)).2.1:Nat),.bool (tlT (p.terms.take m) (s.1+1,s.2)).2.2]),(1,.var p.view)]⟩))
    rfl (M.W rh2) ?_ ?_
   ·intro m hm hP;have hs2:=zc Tm.full (List.getElem_mem hm);have hs4:=ya Tm.size p.terms m;have hok:=(Zle (p.terms.take m) (s.1+1,s.2)).2.1;have hnn:0<=p.terms[m].num/\p.terms[m].num<=4096:=by rcases Zg9 p.terms[m] with⟨_,_,_,e⟩|⟨_,_,e⟩|⟨_,_,_,e⟩<;>omega
    have hnum:p.terms[m].num=(p.terms[m].num.toNat:Int):=by omega
    have hc:=Zom p.terms[m] (by omega);rw[hnum] at hc;have hcnt:=Zib (tlT (p.terms.take m) (s.1+1,s.2)).2.1 (tlT (p.terms.take m) (s.1+1,s.2)).2.2 p.terms[m].num.toNat p.terms[m].err (by simp only at hok;omega) (by omega);by_cases h2:p.terms[m].err=2
    ·rw[show(p.terms[m].err !=2)=false by simp[h2]] at hcnt;have hst:=Zs7 hm hP h2;rw[hst,if_pos rfl] at he;rw[he];refine M.w2 @hc @hcnt ?_
     (exact M.n2 rh1 (h8:=(by simp[zn,V.wk,V.wks,za,Ty.view,Tm.view,V.frz])))
    ·rw[show(p.terms[m].err !=2)=true by simp[h2]] at hcnt;have hA1:tlT (p.terms.take (m+1)) (s.1+1,s.2)=(true,((tlT (p.terms.take m) (s.1+1,s.2)).2.1+p.terms[m].num.toNat,(tlT (p.terms.take m) (s.1+1,s.2)).2.2||p.terms[m].err==4)):=by
      rw[Zsn hm hP,tlT,if_neg h2];rfl
     refine M.w2 @hc @hcnt ?_;refine⟨rfl,congrArg Prod.fst hA1,?_⟩;simp only[hA1];exact(M.W rh2)
   ·intro hP;simp only[List.take_length] at hP;simp only[List.take_length];have hAok:=(Zle p.terms (s.1+1,s.2)).2.1;rw[if_neg (by simp[hP])] at he;generalize hA0:tlT p.terms (s.1+1,s.2)=a0 at*;refine M.w0 ?_;refine M.rp p.forms.length (fun m=>(tlF (p.forms.take m) a0.2).1=true)
     (fun m=>([(0,.ptr 0 0),(3,.ptr 1 0),(99,.s .fm p.forms),(100,.i p.forms.length),(101,.i m)],⟨2,[(0,.var [.i ((tlF (p.forms.take m) a0.2).2.1:Nat),.bool (tlF (p.forms.take m) a0.2).2.2]),(1,.var p.view)]⟩))
     rfl (M.W rh2) ?_ ?_
    ·intro m hm hP2;have hs2:=zc Fm.full (List.getElem_mem hm);have hs4:=ya Fm.size p.forms m;have hok:=(Zkv (p.forms.take m) a0.2).2.1;have hnn:=Zwr p.forms[m];have hnum:p.forms[m].num=(p.forms[m].num.toNat:Int):=by omega
     have hc:=Zoi p.forms[m] (by omega);rw[hnum] at hc;have hcnt:=Zib (tlF (p.forms.take m) a0.2).2.1 (tlF (p.forms.take m) a0.2).2.2 p.forms[m].num.toNat p.forms[m].err (by simp only at hAok;omega) (by omega);by_cases h2:p.forms[m].err=2
     ·rw[show(p.forms[m].err !=2)=false by simp[h2]] at hcnt;have hst:=Zt9 hm hP2 h2;rw[hst,if_pos rfl] at he;rw[he];refine M.w2 @hc @hcnt ?_
      (exact M.n2 rh1 (h8:=(by simp[zn,V.wk,V.wks,za,Ty.view,Tm.view,V.frz])))
     ·rw[show(p.forms[m].err !=2)=true by simp[h2]] at hcnt;have hA1:tlF (p.forms.take (m+1)) a0.2=(true,((tlF (p.forms.take m) a0.2).2.1+p.forms[m].num.toNat,(tlF (p.forms.take m) a0.2).2.2||p.forms[m].err==4)):=by
       rw[Ztm hm hP2,tlF,if_neg h2];rfl
      refine M.w2 @hc @hcnt ?_;refine⟨rfl,congrArg Prod.fst hA1,?_⟩;simp only[hA1];exact(M.W rh2)
    ·intro hP2;simp only[List.take_length] at hP2;simp only[List.take_length];have hBok:=(Zkv p.forms a0.2).2.1;rw[if_neg (by simp[hP2])] at he;generalize hB0:tlF p.forms a0.2=b0 at*;refine M.w0 ?_;refine M.rp p.args.length (fun m=>(Zc4 (p.args.take m) b0.2).1=true)
      (fun m=>([(0,.ptr 0 0),(3,.ptr 1 0),(114,.s .pf p.args),(115,.i p.args.length),(116,.i m)],⟨2,[(0,.var [.i ((Zc4 (p.args.take m) b0.2).2.1:Nat),.bool (Zc4 (p.args.take m) b0.2).2.2]),(1,.var p.view)]⟩))
      rfl (M.W rh2) ?_ ?_
     ·intro m hm hP3;have hs2:=zc Pf.full (List.getElem_mem hm);have hs4:=ya Pf.size p.args m;have hok:=(Zqs (p.args.take m) (fun q _=>Zxq q) b0.2).2.1;have hs5:=xd Pf.full p.args m hm;have hs6:=ya Pf.full p.args (m+1);have hs7:=xv (f:=Pf.size) (g:=Pf.full) (p.args.take m) fun x _=>x.size_le_full;have hc:=ih p.args[m] (Zc4 (p.args.take m) b0.2).2 (by omega) (by omega) (by simp only at hAok;omega);cases h2:(tlP p.args[m] (Zc4 (p.args.take m) b0.2).2).1 with
      |false=>
       have hst:=Znq hm hP3 h2;rw[hst] at he;rw[he];rw[h2] at hc ⊢;refine M.w1 @hc ?_
       (exact M.n2 rh1 (h8:=(by simp[zn,V.wk,V.wks,za,Ty.view,Tm.view,V.frz])))
      |true=>
       rw[h2] at hc;have hA1:Zc4 (p.args.take (m+1)) b0.2=tlP p.args[m] (Zc4 (p.args.take m) b0.2).2:=by rw[Zod hm hP3,Zt2]
       refine M.w1 @hc ?_;refine⟨rfl,(congrArg Prod.fst hA1).trans h2,?_⟩;simp only[hA1];exact(M.W rh2)
     ·intro hP3;simp only[List.take_length] at hP3;simp only[List.take_length];rw[he,hP3];refine M.w0 ?_
      (exact M.n2 rh1 (h8:=(by simp[zn,V.wk,V.wks,za,Ty.view,Tm.view,V.frz])))
 |false=>
  have e2:ruC p.kind=[.bool nd.index,.bool false,.i nd.terms,.i nd.forms,.i nd.args,.i (fvK p.kind),.i (vaK p.kind),.i (hyK p.kind)]:=by unfold ruC;rw[hnd,<-hty]
  rw[hnd,e2] at hru;simp only[Option.isSome_some] at hru;by_cases hA:p.hdA=false
  ·rw[if_pos hA] at he;rw[he];refine M.F Tryz.func163 ?_;(repeat' first|refine M.o1 @hru ?_|refine M.gs ?_ ?_<;>intro h|refine M.z1 4 ?_|refine M.cs ?_ ?_<;>intro h|refine M.gk ?_|fail);all_goals(try(exfalso;simp only[Pf.hdA,hnd] at hA;simp_all;done))
   all_goals(try(exfalso;simp only[Pf.hdA,hnd] at hA;simp_all;omega))
   all_goals(exact M.n2 rh1 (h8:=(by simp[zn,V.wk,V.wks,za,Ty.view,Tm.view,V.frz])))
  rw[if_neg hA] at he;rw[Bool.not_eq_false] at hA;have hA2:=hA;simp only[Pf.hdA,hnd,Bool.and_eq_true,Bool.or_eq_true,decide_eq_true_eq,beq_iff_eq] at hA2;obtain⟨⟨⟨⟨q1,q2⟩,q3⟩,q4⟩,q5⟩:=hA2;have hT:p.hdT=p.ty.isNo:=by unfold Pf.hdT;rw[hnd];simp only[hty];rfl
  have hct:=Zma p.ty;by_cases hx:p.ty.isNo=true;case neg=>
   rw[Bool.not_eq_true] at hx;have hT2:p.hdT=false:=by rw[hT,hx]
   rw[if_pos hT2] at he;rw[he];rw[hx] at hct;refine M.F Tryz.func163 ?_;(repeat' first|refine M.o2 @hru @hct ?_|refine M.gs ?_ ?_<;>intro h|refine M.z1 11 ?_|refine M.cs ?_ ?_<;>intro h|refine M.gk ?_|fail);all_goals(try(exfalso;simp_all;done))
   all_goals(try(exfalso;simp_all;omega))
   all_goals(exact M.n2 rh1 (h8:=(by simp[zn,V.wk,V.wks,za,Ty.view,Tm.view,V.frz])))
  have hT2:p.hdT=true:=by rw[hT,hx]
  rw[if_neg (by simp[hT2])] at he;rw[hx] at hct;refine M.F Tryz.func163 ?_;(repeat' first|refine M.w2 @hru @hct ?_|refine M.gs ?_ ?_<;>intro h|refine M.cs ?_ ?_<;>intro h|fail);all_goals(try(exfalso;simp_all;done))
  all_goals(try(exfalso;simp_all;omega))
  all_goals
   refine M.rp p.terms.length (fun m=>(tlT (p.terms.take m) (s.1+1,s.2)).1=true)
    (fun m=>([(0,.ptr 0 0),(3,.ptr 1 0),(84,.s .tm p.terms),(85,.i p.terms.length),(86,.i m)],⟨2,[(0,.var [.i ((tlT (p.terms.take m) (s.1+1,s.2)).2.1:Nat),.bool (tlT (p.terms.take m) (s.1+1,s.2)).2.2]),(1,.var p.view)]⟩))
    rfl (M.W rh2) ?_ ?_
   ·intro m hm hP;have hs2:=zc Tm.full (List.getElem_mem hm);have hs4:=ya Tm.size p.terms m;have hok:=(Zle (p.terms.take m) (s.1+1,s.2)).2.1;have hnn:0<=p.terms[m].num/\p.terms[m].num<=4096:=by rcases Zg9 p.terms[m] with⟨_,_,_,e⟩|⟨_,_,e⟩|⟨_,_,_,e⟩<;>omega
    have hnum:p.terms[m].num=(p.terms[m].num.toNat:Int):=by omega
    have hc:=Zom p.terms[m] (by omega);rw[hnum] at hc;have hcnt:=Zib (tlT (p.terms.take m) (s.1+1,s.2)).2.1 (tlT (p.terms.take m) (s.1+1,s.2)).2.2 p.terms[m].num.toNat p.terms[m].err (by simp only at hok;omega) (by omega);by_cases h2:p.terms[m].err=2
    ·rw[show(p.terms[m].err !=2)=false by simp[h2]] at hcnt;have hst:=Zs7 hm hP h2;rw[hst,if_pos rfl] at he;rw[he];refine M.w2 @hc @hcnt ?_
     (exact M.n2 rh1 (h8:=(by simp[zn,V.wk,V.wks,za,Ty.view,Tm.view,V.frz])))
    ·rw[show(p.terms[m].err !=2)=true by simp[h2]] at hcnt;have hA1:tlT (p.terms.take (m+1)) (s.1+1,s.2)=(true,((tlT (p.terms.take m) (s.1+1,s.2)).2.1+p.terms[m].num.toNat,(tlT (p.terms.take m) (s.1+1,s.2)).2.2||p.terms[m].err==4)):=by
      rw[Zsn hm hP,tlT,if_neg h2];rfl
     refine M.w2 @hc @hcnt ?_;refine⟨rfl,congrArg Prod.fst hA1,?_⟩;simp only[hA1];exact(M.W rh2)
   ·intro hP;simp only[List.take_length] at hP;simp only[List.take_length];have hAok:=(Zle p.terms (s.1+1,s.2)).2.1;rw[if_neg (by simp[hP])] at he;generalize hA0:tlT p.terms (s.1+1,s.2)=a0 at*;refine M.w0 ?_;refine M.rp p.forms.length (fun m=>(tlF (p.forms.take m) a0.2).1=true)
     (fun m=>([(0,.ptr 0 0),(3,.ptr 1 0),(99,.s .fm p.forms),(100,.i p.forms.length),(101,.i m)],⟨2,[(0,.var [.i ((tlF (p.forms.take m) a0.2).2.1:Nat),.bool (tlF (p.forms.take m) a0.2).2.2]),(1,.var p.view)]⟩))
     rfl (M.W rh2) ?_ ?_
    ·intro m hm hP2;have hs2:=zc Fm.full (List.getElem_mem hm);have hs4:=ya Fm.size p.forms m;have hok:=(Zkv (p.forms.take m) a0.2).2.1;have hnn:=Zwr p.forms[m];have hnum:p.forms[m].num=(p.forms[m].num.toNat:Int):=by omega
     have hc:=Zoi p.forms[m] (by omega);rw[hnum] at hc;have hcnt:=Zib (tlF (p.forms.take m) a0.2).2.1 (tlF (p.forms.take m) a0.2).2.2 p.forms[m].num.toNat p.forms[m].err (by simp only at hAok;omega) (by omega);by_cases h2:p.forms[m].err=2
     ·rw[show(p.forms[m].err !=2)=false by simp[h2]] at hcnt;have hst:=Zt9 hm hP2 h2;rw[hst,if_pos rfl] at he;rw[he];refine M.w2 @hc @hcnt ?_
      (exact M.n2 rh1 (h8:=(by simp[zn,V.wk,V.wks,za,Ty.view,Tm.view,V.frz])))
     ·rw[show(p.forms[m].err !=2)=true by simp[h2]] at hcnt;have hA1:tlF (p.forms.take (m+1)) a0.2=(true,((tlF (p.forms.take m) a0.2).2.1+p.forms[m].num.toNat,(tlF (p.forms.take m) a0.2).2.2||p.forms[m].err==4)):=by
       rw[Ztm hm hP2,tlF,if_neg h2];rfl
      refine M.w2 @hc @hcnt ?_;refine⟨rfl,congrArg Prod.fst hA1,?_⟩;simp only[hA1];exact(M.W rh2)
    ·intro hP2;simp only[List.take_length] at hP2;simp only[List.take_length];have hBok:=(Zkv p.forms a0.2).2.1;rw[if_neg (by simp[hP2])] at he;generalize hB0:tlF p.forms a0.2=b0 at*;refine M.w0 ?_;refine M.rp p.args.length (fun m=>(Zc4 (p.args.take m) b0.2).1=true)
      (fun m=>([(0,.ptr 0 0),(3,.ptr 1 0),(114,.s .pf p.args),(115,.i p.args.length),(116,.i m)],⟨2,[(0,.var [.i ((Zc4 (p.args.take m) b0.2).2.1:Nat),.bool (Zc4 (p.args.take m) b0.2).2.2]),(1,.var p.view)]⟩))
      rfl (M.W rh2) ?_ ?_
     ·intro m hm hP3;have hs2:=zc Pf.full (List.getElem_mem hm);have hs4:=ya Pf.size p.args m;have hok:=(Zqs (p.args.take m) (fun q _=>Zxq q) b0.2).2.1;have hs5:=xd Pf.full p.args m hm;have hs6:=ya Pf.full p.args (m+1);have hs7:=xv (f:=Pf.size) (g:=Pf.full) (p.args.take m) fun x _=>x.size_le_full;have hc:=ih p.args[m] (Zc4 (p.args.take m) b0.2).2 (by omega) (by omega) (by simp only at hAok;omega);cases h2:(tlP p.args[m] (Zc4 (p.args.take m) b0.2).2).1 with
      |false=>
       have hst:=Znq hm hP3 h2;rw[hst] at he;rw[he];rw[h2] at hc ⊢;refine M.w1 @hc ?_
       (exact M.n2 rh1 (h8:=(by simp[zn,V.wk,V.wks,za,Ty.view,Tm.view,V.frz])))
      |true=>
       rw[h2] at hc;have hA1:Zc4 (p.args.take (m+1)) b0.2=tlP p.args[m] (Zc4 (p.args.take m) b0.2).2:=by rw[Zod hm hP3,Zt2]
       refine M.w1 @hc ?_;refine⟨rfl,(congrArg Prod.fst hA1).trans h2,?_⟩;simp only[hA1];exact(M.W rh2)
     ·intro hP3;simp only[List.take_length] at hP3;simp only[List.take_length];rw[he,hP3];refine M.w0 ?_
      (exact M.n2 rh1 (h8:=(by simp[zn,V.wk,V.wks,za,Ty.view,Tm.view,V.frz])))
end Go.Ab
