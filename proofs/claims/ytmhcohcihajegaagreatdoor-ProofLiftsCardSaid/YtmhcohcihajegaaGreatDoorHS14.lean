/- A part of this seat's proofs. No conditions. -/
import Derived.Test.YtmhcohcihajegaaGreatDoorHS15
namespace Go.Ab
open Go Go.Proofs
set_option maxRecDepth 100000
set_option maxHeartbeats 4000000
set_option linter.all false
theorem Yhc:∀(n:Nat) (t:Tm) (ks:List Int) (bl:Int),t.full<=n->n<1099511627776->0<=bl->bl+n<1099511627776->(∀p∈t.vars bl,0<=p.1/\p.1<9223372036854775808)->
 AC E 240 [.agg t.view,.i bl,.mp 0] ⟨1,[(0,.map .bl ks (List.replicate ks.length true))]⟩ (.tup []) ⟨1,[(0,.map .bl (nub ks (fre (t.vars bl))) (List.replicate (nub ks (fre (t.vars bl))).length true))]⟩:=by
 intro n;induction n with
 |zero=>intro t b bl h;have:=t.full_pos;omega
 |succ n ih=>
 intro t ks bl hsz hb hbl hbn hix;have hsz':=Tm.full_eq t;have hlen:=zg Tm.full Tm.full_pos t.args;have hv:=Tm.vars_eq bl t;have hbe:=Zf5 t;have hup:=Zyw t.kind bl;have hpl:=Zim t.kind bl;have hi:t.kind=1->0<=t.index/\t.index<9223372036854775808:=fun h=>by simpa using hix (t.index,bl) (by rw[hv];simp[h])
 have loopE:∀m (hm:m<t.args.length) ks',AC E 240 [.agg (t.args[m]).view,.i (bl+up t.kind 0),.mp 0] ⟨1,[(0,.map .bl ks' (List.replicate ks'.length true))]⟩ (.tup []) ⟨1,[(0,.map .bl (nub ks' (fre ((t.args[m]).vars (up t.kind bl)))) (List.replicate (nub ks' (fre ((t.args[m]).vars (up t.kind bl)))).length true))]⟩:=fun m hm ks'=>by
  have hs2:=zc Tm.full (List.getElem_mem hm);have:=ih t.args[m] ks' (up t.kind bl) (by omega) (by omega) (by omega) (by omega) (fun p hp=>hix p (by rw[hv];exact List.mem_append_right _ (List.mem_flatMap.2 ⟨_,List.getElem_mem hm,hp⟩)));rw[<-hpl] at this ⊢;exact this
 obtain⟨k0,hk0⟩:∃k0,k0=nub ks (fre (if t.kind=1 then [(t.index,bl)] else [])):=⟨_,rfl⟩;have hk1:t.kind=1->t.index>=bl->k0=uh (t.index-bl) ks:=fun h1 h2=>by rw[hk0,if_pos h1,Zrd,if_pos h2];exact Zlu _ _
 have hk2:¬(t.kind=1/\t.index>=bl)->k0=ks:=fun h1=>by
  rw[hk0];by_cases h2:t.kind=1
  ·rw[if_pos h2,Zrd,if_neg (fun h3=>h1 ⟨h2,h3⟩)];rfl
  ·rw[if_neg h2];rfl
 have hend:nub ks (fre (t.vars bl))=nub k0 (fre (t.args.flatMap (Tm.vars (up t.kind bl)))):=by rw[hv,Zdg,Zbw,hk0]
 rw[hend];by_cases hv1:t.kind=1/\t.index>=bl
 ·have e:=hk1 hv1.1 hv1.2;have hi':=hi hv1.1;refine M.F Tryz.func240 ?_;(repeat' first|refine M.w0 ?_|refine M.gs ?_ ?_<;>intro h|refine M.cs ?_ ?_<;>intro h|fail)
  rotate_left
  ·exfalso;simp at h;omega
  ·exfalso;simp at h;exact h hv1.1
  refine M.rt t.args.length
   (fun m=>([(1,.i bl),(2,.mp 0),(3,.ptr 1 0),(23,.s .tm t.args),(24,.i t.args.length),(25,.i m)],⟨2,[(0,.map .bl (nub k0 (fre ((t.args.take m).flatMap (Tm.vars (up t.kind bl))))) (List.replicate (nub k0 (fre ((t.args.take m).flatMap (Tm.vars (up t.kind bl))))).length true)),(1,.var t.view)]⟩))
   ?_ ?_ ?_
  ·simp only[List.take_zero,List.flatMap_nil,Zix,Zbr];rw[e];rw[<-vx];exact(M.W rh2)
  ·intro m hm hP;have hc:=loopE m hm (nub k0 (fre ((t.args.take m).flatMap (Tm.vars (up t.kind bl)))));refine M.w2 @hbe @hc ?_;refine⟨rfl,trivial,?_⟩;exact(M.W rh2 (he:=(by(repeat'(first|exact trivial|refine And.intro ?_ ?_|refine⟨_,U,_,U,_,U,?_⟩|exact VLe.refl _|refine⟨_,U,_,_,U,?_,?_⟩|(simp[Sto.upd,Zdg,Zbw,Zcx _ _ _ hm];done)));done)))
  ·intro hP;simp only[List.take_length];skip
   (exact M.n2 rh1 (h8:=(by simp[zn,V.wk,V.wks,za,Ty.view,Tm.view,V.frz])))
 ·have e:=hk2 hv1;refine M.F Tryz.func240 ?_;(repeat' first|refine M.w0 ?_|refine M.gs ?_ ?_<;>intro h|refine M.cs ?_ ?_<;>intro h|fail)
  ·rename_i h1';exfalso;exact hv1 ⟨by simpa using h1',by simpa using h⟩
  all_goals
   refine M.rt t.args.length
    (fun m=>([(1,.i bl),(2,.mp 0),(3,.ptr 1 0),(23,.s .tm t.args),(24,.i t.args.length),(25,.i m)],⟨2,[(0,.map .bl (nub k0 (fre ((t.args.take m).flatMap (Tm.vars (up t.kind bl))))) (List.replicate (nub k0 (fre ((t.args.take m).flatMap (Tm.vars (up t.kind bl))))).length true)),(1,.var t.view)]⟩))
    ?_ ?_ ?_
   ·simp only[List.take_zero,List.flatMap_nil,Zix,Zbr];rw[e];exact(M.W rh2)
   ·intro m hm hP;have hc:=loopE m hm (nub k0 (fre ((t.args.take m).flatMap (Tm.vars (up t.kind bl)))));refine M.w2 @hbe @hc ?_;refine⟨rfl,trivial,?_⟩;exact(M.W rh2 (he:=(by(repeat'(first|exact trivial|refine And.intro ?_ ?_|refine⟨_,U,_,U,_,U,?_⟩|exact VLe.refl _|refine⟨_,U,_,_,U,?_,?_⟩|(simp[Sto.upd,Zdg,Zbw,Zcx _ _ _ hm];done)));done)))
   ·intro hP;simp only[List.take_length];skip
    (exact M.n2 rh1 (h8:=(by simp[zn,V.wk,V.wks,za,Ty.view,Tm.view,V.frz])))
theorem Yia(t:Tm)(ht:t.full<549755813888)(hix:t.err=0->∀p∈t.vars 0,0<=p.1/\p.1<9223372036854775808):PC E 218 [.agg t.view] (.tup [.s .int (if t.err=0 then Zux t else []),.i t.err]):=by
 have h1:=Zah t (by omega);have hc:t.err=0->_:=fun h=>Yhc _ t [] 0 (Nat.le_refl _) (by omega) (by omega) (by omega) (hix h);have hu:nub [] (fre (t.vars 0))=Yca t:=rfl;simp only[List.length_nil,List.replicate_zero,hu] at hc;have hlen:=Yb2 t;have hsz:=t.size_le_full;have hs:=Zp4 (Zk0 t) (by omega);have e0:yq (Yca t)=Zux t:=rfl;rw[e0] at hs;refine M.F Tryz.func218 ?_;(repeat' first|refine M.w1 @h1 ?_|refine M.cb (hc (by simpa using h)) [1] 0 ?_|refine M.cb (hs) [1] 0 ?_|refine M.cs ?_ ?_<;>intro h|fail)
 ·have e:¬t.err=0:=by simpa using h
  rw[if_neg e];simp[zn,V.wk,V.wks];rfl
 ·have e:t.err=0:=by simpa using h
  rw[if_pos e];simp[zn,V.wk,V.wks,e]
theorem Yd7:∀(n:Nat) (f:Fm) (g:List Ty),f.full<=n->n<100000000->f.shape=true->(∀x∈g,x.err=0)->g.length+n<274877906944->g.length+f.size<100000->PC E 185 [.s .ty g,.agg f.view] (.i (f.tyE g)):=by
 intro n;induction n with
 |zero=>intro f g h;have:=f.full_pos;omega
 |succ n ih=>
 intro f g hsz hn hs hg hgl hgz;have hsz':=f.full_eq;have hse:=f.size_eq;have hlen:=zg Fm.full Fm.full_pos f.args;have hlen2:=zg Tm.full Tm.full_pos f.terms;have he:=Fm.tyE_eq g f;have hq:=Zmy f.kind;refine M.F Tryz.func185 ?_;refine M.w0 ?_;refine M.rp f.terms.length (fun m=>∀j (hj:j<f.terms.length),j<m->tE g f.terms[j]=0)
  (fun m=>([(0,.s .ty g),(3,.ptr 0 0),(13,.s .tm f.terms),(14,.i f.terms.length),(15,.i m)],⟨1,[(0,.var f.view)]⟩))
  (fun j hj h=>by omega) (M.W rh1) ?_ ?_
 ·intro m hm hP;have hs2:=zc Tm.full (List.getElem_mem hm);have hc:=Zta g f.terms[m] (by omega) hg (by omega);have hfi:tE g f.terms[m]≠0->f.tyE g=tE g f.terms[m]:=fun hx=>by
   have h1:=Zcj hm hP hx;rw[he,h1,if_pos hx]
  by_cases hx:(Zc1 g f.terms[m]).2=0
  ·by_cases hk:(Zc1 g f.terms[m]).1.kind=1
   ·have ht:tE g f.terms[m]=0:=by simp[tE,hx,hk]
    rw[hx] at hc;(repeat' first|refine M.w1 @hc ?_|refine M.cs ?_ ?_<;>intro h|fail)
    ·exfalso;simp at h;exact h hk
    ·exact ⟨rfl,yj (p:=fun t'=>tE g t'=0) hm hP ht,(M.W rh1)⟩
   ·have ht:tE g f.terms[m]=7:=by simp[tE,hx,hk]
    rw[ht] at hfi;rw[hfi (by decide)];rw[hx] at hc;(repeat' first|refine M.w1 @hc ?_|refine M.cs ?_ ?_<;>intro h|fail)
    ·rfl
    ·exfalso;simp at h;exact hk h
  ·have ht:tE g f.terms[m]=(Zc1 g f.terms[m]).2:=by simp[tE,hx]
   rw[ht] at hfi;rw[hfi hx];(repeat' first|refine M.w1 @hc ?_|refine M.cs ?_ ?_<;>intro h|fail)
   ·rfl
   all_goals(exfalso;simp_all)
 ·intro hP;have h0:vz (tE g) f.terms=0:=uk fun j hj _=>hP j hj hj;rw[if_neg (by simp[h0])] at he;have htyl:=f.ty.size_pos;have hrest:∀g',g'=Zg6 g f->(∀x∈g',x.err=0)/\g'.length<=g.length+1/\∀(m:Nat) (hm:m<f.args.length),PC E 185 [.s .ty g',.agg f.args[m].view] (.i (f.args[m].tyE g')):=fun g' hg'=>by
   have hl:g'.length<=g.length+1:=by rw[hg'];simp only[Zg6];split<;>simp
   have hee:∀x∈g',x.err=0:=fun x hx=>by
    rw[hg'] at hx;simp only[Zg6] at hx;split at hx
    ·rename_i hqk;rcases List.mem_append.1 hx with hx|hx
     ·exact hg x hx
     ·rw[List.mem_singleton] at hx;subst hx;have h1:=Zsv hqk;rw[hs] at h1;have h2:f.ty.ok=true:=by
       cases ho:f.ty.ok with
       |true=>rfl
       |false=>rw[ho] at h1;simp at h1
      rw[Zm1] at h2;simpa using h2
    ·exact hg x hx
   refine⟨hee,hl,fun m hm=> ?_⟩;have hs2:=zc Fm.full (List.getElem_mem hm);have hs3:=zc Fm.size (List.getElem_mem hm);exact ih f.args[m] g' (by omega) (by omega) (zx hs (List.getElem_mem hm)) hee (by omega) (by omega)
  cases hqk:x9 f.kind with
  |true=>
   rw[hqk] at hq;have hcx:Zg6 g f=g++[f.ty]:=Zgd hqk;obtain⟨_,_,hcall⟩:=hrest (g++[f.ty]) hcx.symm;rw[hcx] at he;refine M.w1 @hq ?_;refine M.rp f.args.length (fun m=>∀j (hj:j<f.args.length),j<m->f.args[j].tyE (g++[f.ty])=0)
    (fun m=>([(0,.s .ty (g++[f.ty])),(3,.ptr 0 0),(46,.s .fm f.args),(47,.i f.args.length),(48,.i m)],⟨1,[(0,.var f.view)]⟩))
    (fun j hj h=>by omega) (M.W rh1) ?_ ?_
   ·intro m hm hP;have hc:=hcall m hm;by_cases hx:f.args[m].tyE (g++[f.ty])=0
    ·rw[hx] at hc;refine M.w1 @hc ?_;exact⟨rfl,yj (p:=fun t'=>Fm.tyE (g++[f.ty]) t'=0) hm hP hx,(M.W rh1)⟩
    ·rw[he,Zcj hm hP hx];(repeat' first|refine M.w1 @hc ?_|refine M.cs ?_ ?_<;>intro h|fail)
     ·rfl
     ·exfalso;simp at h;exact hx h
   ·intro hP;rw[he,uk fun j hj _=>hP j hj hj];refine M.w0 ?_
    rfl
  |false=>
   rw[hqk] at hq;have hcx:Zg6 g f=g:=Zfv (by simp[hqk]);obtain⟨_,_,hcall⟩:=hrest g hcx.symm;rw[hcx] at he;refine M.w1 @hq ?_;refine M.rp f.args.length (fun m=>∀j (hj:j<f.args.length),j<m->f.args[j].tyE g=0)
    (fun m=>([(0,.s .ty g),(3,.ptr 0 0),(46,.s .fm f.args),(47,.i f.args.length),(48,.i m)],⟨1,[(0,.var f.view)]⟩))
    (fun j hj h=>by omega) (M.W rh1) ?_ ?_
   ·intro m hm hP;have hc:=hcall m hm;by_cases hx:f.args[m].tyE g=0
    ·rw[hx] at hc;refine M.w1 @hc ?_;exact⟨rfl,yj (p:=fun t'=>Fm.tyE g t'=0) hm hP hx,(M.W rh1)⟩
    ·rw[he,Zcj hm hP hx];(repeat' first|refine M.w1 @hc ?_|refine M.cs ?_ ?_<;>intro h|fail)
     ·rfl
     ·exfalso;simp at h;exact hx h
   ·intro hP;rw[he,uk fun j hj _=>hP j hj hj];refine M.w0 ?_
    rfl
theorem Zh3(g:List Ty)(f:Fm)(hf:f.full<549755813888)(hg:∀x∈g,x.err=0)(hgl:g.length<90000):PC E 143 [.s .ty g,.agg f.view] (.i (uq g f)):=by
 have h1:=Zc3 f hf;by_cases he:f.err=0
 ·have h2:=(Fm.err_iff f).1 he;have h3:=xg he;have h4:=Yd7 _ f g (Nat.le_refl _) (by omega) h2.1 hg (by omega) (by omega);have e:uq g f=f.tyE g:=by simp only[uq];rw[if_neg (by simp[he])]
  rw[he] at h1;rw[e];refine M.F Tryz.func143 ?_;refine M.w2 @h1 @h4 ?_
  rfl
 ·have e:uq g f=f.err:=by simp only[uq];rw[if_pos he]
  rw[e];refine M.F Tryz.func143 ?_;(repeat' first|refine M.w1 @h1 ?_|refine M.cs ?_ ?_<;>intro h|fail)
  ·rfl
  ·exfalso;simp at h;exact he h
theorem Zig(g:List Ty)(f:Fm)(hf:f.full<549755813888)(hg:(g.map Ty.size).sum<1099511627776):PC E 97 [.s .ty g,.agg f.view] (.i (y6 g f)):=by
 have h1:=Zhj g hg;by_cases he:wd g=0
 ·have h2:=Zaa he;have h4:=Zh3 g f hf h2.2 (by omega);have e:y6 g f=uq g f:=by simp only[y6];rw[if_neg (by simp[he])]
  rw[he] at h1;rw[e];refine M.F Tryz.func97 ?_;refine M.w2 @h1 @h4 ?_
  rfl
 ·have e:y6 g f=wd g:=by simp only[y6];rw[if_pos he]
  rw[e];refine M.F Tryz.func97 ?_;(repeat' first|refine M.w1 @h1 ?_|refine M.cs ?_ ?_<;>intro h|fail)
  ·rfl
  ·exfalso;simp at h;exact he h
end Go.Ab
