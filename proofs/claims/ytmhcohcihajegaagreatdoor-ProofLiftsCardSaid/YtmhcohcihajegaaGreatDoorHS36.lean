/- A part of this seat's proofs. No conditions. -/
import Derived.Test.YtmhcohcihajegaaGreatDoorHDT2
import Derived.Test.YtmhcohcihajegaaGreatDoorHS30
import Derived.Test.YtmhcohcihajegaaGreatDoorHS33
namespace Go.Ab
open Go Go.Proofs
set_option maxRecDepth 100000
set_option maxHeartbeats 4000000
set_option linter.all false
def exI(i:Int):Pf:= .mk 6 0 (.mk 0 []) [] [falseF] [va i]
theorem Yfm(i:Int)(h:0<=i/\i<9223372036854775808):(exI i).hx 9223372036854775808:=(Pf.hx_iff _ _).2 ⟨fun h=>absurd h (show ¬(6:Int)=1 by decide),fun _ x hx=>by
 obtain rfl:x=va i:=List.mem_singleton.1 hx;exact Zse h⟩
theorem Ztv:PC E 19 [] (.bool true):=by
 have h0:=Ztz 0;have h3:=Ztz 3;have i0:=Zfm falseF (va 0) (by decide) (by decide);have i3:=Zfm falseF (va 3) (by decide) (by decide);have p0:=Zqj (exI 0) (by decide) (fun _=>Yfm _ (by omega));have p3:=Zqj (exI 3) (by decide) (fun _=>Yfm _ (by omega));rw[show(if(exI 0).err=0 then xp (exI 0) else [])=[] by decide+kernel,show(exI 0).err=0 by decide+kernel] at p0;rw[show(if(exI 3).err=0 then xp (exI 3) else [])=[2] by decide+kernel,show(exI 3).err=0 by decide+kernel] at p3;unfold exI at p0 p3;refine M.F Tryz.func19 ?_;(repeat' first|refine M.w6 @Zo7 @h0 @h3 @i0 @i3 @p0 ?_|refine M.c2 (p3) ?_|fail)
 rfl
theorem Ye2(d:Dk):(Ck.mk d.lm.1 d.lm.2.ctx.1 d.lm.2.sqH).ok:=by
 have h:=d.lm.2.sqC_ok;exact⟨h.ctx,h.nh,by have:=d.lm_len;simp only;omega,h.hyps,fun f hf=>Dk.fms_good _ _ _ zi f hf⟩
theorem Zee{p:Pf}{C:Int}(he:p.err=0)(hx:p.hx C)(hC:C<=9223372036854775808):PC E 21 [.agg p.view] (.tup [.s .int (xp p),.i 0]):=by
 have f:=vh he;have h:=Zqj p (by omega) (fun _=>Zaz hx hC);rw[he,if_pos rfl] at h;exact h
end Go.Ab
