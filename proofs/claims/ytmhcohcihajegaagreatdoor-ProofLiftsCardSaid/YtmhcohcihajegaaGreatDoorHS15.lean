/- A part of this seat's proofs. No conditions. -/
import Derived.Test.YtmhcohcihajegaaGreatDoorHS12
namespace Go.Ab
open Go Go.Proofs
set_option maxRecDepth 100000
set_option linter.all false
theorem Zhj(l:List Ty)(hl:(l.map Ty.size).sum<1099511627776):PC E 98 [.s .ty l] (.i (wd l)):=by
 have hlen:=zg Ty.size Ty.size_pos l;refine M.F Tryz.func98 ?_;(repeat' first|refine M.w0 ?_|refine M.cs ?_ ?_<;>intro h|fail)
 ·have h':l.length>16:=by simp at h;omega
  simp[zn,V.wk,V.wks,za,wd,h']
 have h':¬l.length>16:=by simp at h;omega
 refine M.rp l.length (fun m=>∀j (hj:j<l.length),j<m->l[j].err=0)
  (fun m=>([(9,.s .ty l),(10,.i l.length),(11,.i m)],⟨0,[]⟩))
  (by intro j hj h;omega) (M.W []) ?_ ?_
 ·intro m hm hP;have hs2:=zc Ty.size (List.getElem_mem hm);(repeat' first|refine M.w0 ?_|refine M.c2 (Zbf _ ?_) ?_|refine M.cs ?_ ?_<;>intro h|exact M.lt|fail)
  ·have h1:¬l[m].err=0:=by simpa using h
   simp[zn,V.wk,V.wks,za,wd,h',Zqg l m hm hP h1]
  ·exact ⟨rfl,yj (p:=fun t=>Ty.err t=0) hm hP (by simpa using h),(M.W [])⟩
 ·intro hP;refine M.w0 ?_;simp[zn,V.wk,V.wks,za,wd,h',Zgg l hP]
end Go.Ab
namespace Go.Ab
open Go Go.Proofs
set_option maxRecDepth 100000
set_option maxHeartbeats 4000000
set_option linter.all false
theorem Zta(g:List Ty)(t:Tm)(ht:t.full<137438953472)(hg:∀x∈g,x.err=0)(hl:g.length<100000):PC E 217 [.s .ty g,.agg t.view] (.tup [.agg (Zc1 g t).1.view,.i (Zc1 g t).2]):=by
 have h1:=Zah t (by omega);have h2:t.err=0->_:=fun h=>Yga _ t g (Nat.le_refl _) (by omega) ((Tm.err_iff t).1 h).1 hg (by omega);refine M.F Tryz.func217 ?_;(repeat' first|refine M.w1 @h1 ?_|refine M.c2 (h2 (by simpa using h)) ?_|refine M.cs ?_ ?_<;>intro h|fail)
 ·have h':t.err≠0:=by simpa using h
  simp[zn,V.wk,V.wks,za,Ty.view,Zc1,h',noTy]
 ·have h':t.err=0:=by simpa using h
  simp[zn,V.wk,V.wks,za,Ty.view,Zc1,h']
theorem Zmw(g:List Ty)(t:Tm)(ht:t.full<137438953472)(hg:(g.map Ty.size).sum<1099511627776):PC E 193 [.s .ty g,.agg t.view] (.tup [.agg (xq g t).1.view,.i (xq g t).2]):=by
 have h1:=Zhj g hg;have h2:wd g=0->_:=fun h=>Zta g t ht (Zaa h).2 (by have:=(Zaa h).1;omega);refine M.F Tryz.func193 ?_;(repeat' first|refine M.w1 @h1 ?_|refine M.c2 (h2 (by simpa using h)) ?_|refine M.cs ?_ ?_<;>intro h|fail)
 ·have h':wd g≠0:=by simpa using h
  simp[zn,V.wk,V.wks,za,Ty.view,xq,h',noTy]
 ·have h':wd g=0:=by simpa using h
  simp[zn,V.wk,V.wks,za,Ty.view,xq,h']
theorem Znk(f g:Fm)(hf:f.full<274877906944)(hg:g.full<274877906944):PC E 17 [.agg f.view,.agg g.view] (.i (Ybi f g)):=by
 have h1:=Zc3 f (by omega);have h2:=Zc3 g (by omega);unfold Ybi;by_cases ef:f.err=0;case neg=>
  rw[if_pos ef];refine M.F Tryz.func17 ?_;(repeat' first|refine M.w1 @h1 ?_|refine M.cs ?_ ?_<;>intro h|fail);all_goals first
   |rfl
   |(exfalso;simp at h;exact ef h)
 rw[ef] at h1;rw[if_neg (by simp[ef])];by_cases eg:g.err=0;case neg=>
  rw[if_pos eg];refine M.F Tryz.func17 ?_;(repeat' first|refine M.w2 @h1 @h2 ?_|refine M.cs ?_ ?_<;>intro h|fail);all_goals first
   |rfl
   |(exfalso;simp at h;exact eg h)
 rw[eg] at h2;rw[if_neg (by simp[eg])];have h3:=Zzu _ f g (Nat.le_refl _) hf hg ((Fm.err_iff f).1 ef).1 ((Fm.err_iff g).1 eg).1;refine M.F Tryz.func17 ?_;refine M.w3 @h1 @h2 @h3 ?_
 rfl
theorem Yd8(a b:Tm):PC E 162 [.agg (eqF a b).view] (.bool false):=by
 unfold eqF;refine M.F Tryz.func162 ?_;refine M.v0 ?_
 rfl
end Go.Ab
