/- A part of the proofs of this seat. No conditions. -/
import Derived.Test.YtpnbmjgblakifaaGreatDoorBCqA1
import Derived.Test.YtpnbmjgblakifaaGreatDoorS2
namespace Go.Ab
open Go Go.Proofs
set_option maxRecDepth 100000
set_option linter.all false
theorem Uj(n:Int):PC E 236 [.i n] (.bool (decide (0<=n/\n<=4096))):=by
 refine M.F Tryz.func236 ?_;(repeat' first|refine M.gw ?_|refine M.gs ?_ ?_<;>intro h|fail);all_goals simp_all[zj,V.wk,V.Ap,za]
 omega
end Go.Ab
namespace Go.Ab
open Go Go.Proofs
set_option maxRecDepth 100000
set_option maxHeartbeats 4000000
set_option linter.all false
theorem Ygn(t:Tm)(ht:t.full<1099511627776):PC E 235 [.agg t.view] (.i t.err):=by
 have h1:=LU t ht;refine M.F Tryz.func235 ?_;(repeat' first|refine M.gw ?_|refine M.c2 (h1) ?_|fail);simp[zj,V.wk,V.Ap,za,Ty.view,Tm.view]
end Go.Ab
namespace Go.Ab
open Go Go.Proofs
set_option maxRecDepth 100000
set_option linter.all false
theorem Zph(t:Tm)(fr by_:Int)(ht:t.full<274877906944):PC E 212 [.agg t.view,.i fr,.i by_] (.Az [.agg (if xm t fr by_=0 then t.re (zl fr by_) 0 else A0).view,.i (xm t fr by_)]):=by
 have h1:=Ygn t (by omega);have h2:=Uj fr;have h3:=Uj by_;have h4:=M7 t (by omega);have h5:t.err=0->t.near=true->(0<=by_/\by_<=4096)->_:=fun h hn hy=>Wi t fr by_ (by omega) ht (Sf h hn);refine M.F Tryz.func212 ?_;(repeat' first|refine M.gw ?_|refine M.c2 (h1) ?_|refine M.c2 (h2) ?_|refine M.c2 (h3) ?_|refine M.c2 (h4) ?_|refine M.c2 (h5 (by simp_all) (by simp_all) (by simp_all)) ?_|refine M.gs ?_ ?_<;>intro h|refine M.cs ?_ ?_<;>intro h|fail)
 ·have e':t.err≠0:=by simpa using h
  have e:xm t fr by_=t.err:=by simp only[xm];rw[if_pos e']
  simp[zj,V.wk,V.Ap,za,Ty.view,Tm.view,e,A0,e']
 ·rename_i h0;have e':¬t.err≠0:=by simpa using h0
  have e:xm t fr by_=1:=by simp only[xm];rw[if_neg e',if_pos (.inl (by intro hc;simp[hc] at h))]
  simp[zj,V.wk,V.Ap,za,Ty.view,Tm.view,e,A0]
 ·rename_i h0 h1;have e':¬t.err≠0:=by simpa using h0
  have e:xm t fr by_=1:=by simp only[xm];rw[if_neg e',if_pos (.inr (.inl (by intro hc;simp[hc] at h)))]
  simp[zj,V.wk,V.Ap,za,Ty.view,Tm.view,e,A0]
 ·rename_i h0 h1 h2;have e':¬t.err≠0:=by simpa using h0
  have e:xm t fr by_=1:=by simp only[xm];rw[if_neg e',if_pos (.inr (.inr (by simpa using h)))]
  simp[zj,V.wk,V.Ap,za,Ty.view,Tm.view,e,A0]
 ·rename_i h0 h1 h2;have e':¬t.err≠0:=by simpa using h0
  have e:xm t fr by_=0:=by
   simp only[xm];rw[if_neg e',if_neg];rintro(hc|hc|hc)
   ·simp at h1;omega
   ·simp at h2;omega
   ·simp[hc] at h
  simp[zj,V.wk,V.Ap,za,Ty.view,Tm.view,e,A0]
end Go.Ab
