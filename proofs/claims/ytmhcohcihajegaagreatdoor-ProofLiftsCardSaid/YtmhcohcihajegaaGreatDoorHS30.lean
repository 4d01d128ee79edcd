/- A part of this seat's proofs. No conditions. -/
import Derived.Test.YtmhcohcihajegaaGreatDoorHS25
namespace Go.Ab
open Go Go.Proofs
set_option maxRecDepth 100000
set_option maxHeartbeats 4000000
set_option linter.all false
theorem quUp{f:Fm}{g:List Ty}{k:Int}{s:Ty}(hk:k=5\/k=7)(hs:s.small)(h1:f.shape=true)(h2:f.size<=4400)(ho:f.okT (g++[s]))(hg:g.length<=16):FmI ((quF k s f).lft 0 1):=by
 have hq:=Gf.qu (g:=g) k (by omega) (ud hs) ⟨h1,h2,ho⟩;have hq2:Gf (g++[]) (quF k s f) (4400+1):=by simpa using hq
 have hl:Gf (g++[natT]++[]) ((quF k s f).lft 0 1) (4400+1):=Gf.lft (h:=[]) [natT] hq2;exact FmI.size hl.sh (by have:=hl.sz;omega) hl.ok (by simp;omega)
theorem Zo7:PC E 23 [] (.agg falseF.view):=by
 have h1:=n_c 4 [] (by simp);have h2:=n_c 5 [.mk 4 0 (.mk 0 []) []] (by simp[Tm.full,Tm.fulls,Ty.size,Ty.sizes]);have h3:=Zdw (.mk 4 0 (.mk 0 []) []) (.mk 5 0 (.mk 0 []) [.mk 4 0 (.mk 0 []) []]) (by simp[Tm.full,Tm.fulls,Ty.size,Ty.sizes]) (by simp[Tm.full,Tm.fulls,Ty.size,Ty.sizes]);refine M.F Tryz.func23 ?_;refine M.w3 @h1 @h2 @h3 ?_
 rfl
theorem Gf.up{g:List Ty}{f:Fm}{n m:Nat}(h:Gf g f n)(hm:n<=m):Gf g f m:=⟨h.sh,Nat.le_trans h.sz hm,h.ok⟩
end Go.Ab
