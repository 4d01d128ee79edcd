/- A part of the proofs of this seat's statements: S31. It has no conditions of its own. -/
import Derived.Test.YtafjchcccnpjmaaGreatDoorXA1
import Derived.Test.YtafjchcccnpjmaaGreatDoorXD1
import Derived.Test.YtafjchcccnpjmaaGreatDoorA2
import Derived.Test.YtafjchcccnpjmaaGreatDoorS2
namespace Go.Ab
open Go Go.Proofs
set_option maxRecDepth 100000
set_option maxHeartbeats 4000000
set_option linter.all false
theorem tlam_c(b:Tm)(l:List Ty)(hl:l.length<1000000):PC E 121 [.agg b.view,.s .ty l] (.agg (lamsT b l).view):=by
 refine M.F Tryz.func121 ?_
 repeat'(first|refine M.gw ?_|fail)
 refine AW.downG l.length (fun m=>True)
  (fun m=>([(1,.s .ty l),(2,.ptr 0 0),(4,.ptr 1 0),(5,.i ((m:Int)-1))],⟨2,[(0,.var (lamsT b (l.drop m)).view),(1,.var [.i 0,.i 0,.i 0,.slice .nil (.t .ty []),.slice .nil (.t .tm [])])]⟩))
  (by omega) (fun m=>rfl) rfl trivial ?_ ?_ ?_
 ·simp only[List.drop_length]
  exact(M.W [some 0,some 1])
 ·intro m hm _
  have e:lamsT b (l.drop m)=lmT l[m] (lamsT b (l.drop (m+1))):=by rw[List.drop_eq_getElem_cons hm];rfl
  repeat'(first|refine M.gw ?_|fail)
  refine L.ixt m rfl rfl rfl rfl (by omega) rfl rfl hm ?_
  repeat'(first|refine M.gw ?_|fail)
  refine⟨rfl,trivial,?_⟩
  simp only[e]
  exact(M.W [some 0,some 1])
 ·intro _
  repeat'(first|refine M.gw ?_|fail)
  simp[tupV,V.wk,V.wks,Tm.view]
end Go.Ab
