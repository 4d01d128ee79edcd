/- A part of the proofs of this seat's statements: B38, B35. It has no conditions of its own. -/
import Derived.Test.YthlkampfjlkniaaGreatDoorA2
namespace Go.Ab
open Go
set_option linter.unusedSimpArgs false
set_option linter.unusedVariables false
theorem findE_pre{es:Es}:∀{pre:Es},(∀p∈pre,findE es p.1=some p.2)→∀n,findE (pre++es) n=findE es n
 |[],_,n=>rfl
 |p::l,h,n=>by
  obtain⟨m,e⟩:=p
  rw[List.cons_append,findE_cons]
  by_cases hm:m=n
  ·rw [if_pos hm];subst hm;exact(h (m,e) (by simp)).symm
  ·rw [if_neg hm];exact findE_pre (fun q hq=>h q (by simp[hq])) n
section
variable {E:Env} {N k:Nat} {o:Oper} {a:AF}
theorem OS.read{pre:Es}{v:V}(h:OS E N o a pre v [] pre):OS E N o a pre v [] []:=by
 intro g D es w act hR hp hn hF K Q hK
 refine h g D es w act hR hp hn hF K Q fun g' v' w' hR' hv hx=>hK g' v' w' (hR'.same (findE_pre hp)) hv ?_
 have e:Foot g' (pre++es)=Foot g' ([]++es):=Foot.same (findE_pre hp)
 rw[←e];exact hx
end
section
variable {E:Env} {N k:Nat} {a:AF} {σ:Sto} {Q:Exit→AF→Sto→Prop} {ops:List Oper} {dr:Bool} {rest:List Oper} {acc:List Rec}
variable {d:Option Tmp} {ty:TypeId} {ps:String} {af:Array Edge} {gd:Option (Nat×Bool)}
theorem L.cvr{x:Operand}{f:FuncId}{fi caps:List V}{xs:List Operand}{ts:List TypeId}{cs args:List V}{σ1 σ2:Sto}{r r':V}{pre post:Es}(h:AC E f args σ1 r σ2)(L:List Nat)(hw:wantG ops a gd=some true)(hf:ev E 0 a x=some (.fn (.func f) fi caps))(hx:evT E a xs ts=some cs)
 (hpre:pickE σ.es L=some pre) (hL:L.length=σ1.nx) (hn':σ2.nx=σ1.nx+0) (hd:distinct (someL (callNames L σ.nx 0))=true) (hr:renVs (someL L) args=some (V.wks (fi++cs++caps))) (hin:ELe (someL L) pre σ1.es) (hout:renEs (someL (callNames L σ.nx 0)) σ2.es=some post) (hcov:covers σ2.es σ2.nx=true)
 (hr':renV (someL (callNames L σ.nx 0)) r=some r') (hpp:post=pre) (hdst:dstOk N d=true)
 (h2:AX E N k dr ops rest (a.put d r') (σ.upd 0 []) (⟨pre,r',0,[]⟩::acc) Q):AX E N k dr ops (⟨d,.call ⟨.value x,xs.toArray,ts.toArray⟩,ty,ps,af,gd⟩::rest) a σ acc Q:=by
 subst hpp
 exact AX.run 0 hw (OS.read (OS.callVB rfl (fr (by simp[Op.operands,Call.operands]) hf) (frT (by intro y hy;simp[Op.operands,Call.operands,hy]) hx) h hL hn' hd hin hout hcov hr' (pickE_all hpre) ⟨_,hr,VsLe.wks _⟩)) (pickE_ok hpre) hdst h2
end
end Go.Ab
namespace Go.Ab
open Go
set_option linter.all false
section
variable {E:Env} {N k:Nat} {a:AF} {σ:Sto} {Q:Exit→AF→Sto→Prop} {ops:List Oper} {dr:Bool} {rest:List Oper} {acc:List Rec}
variable {d:Option Tmp} {ty:TypeId} {ps:String} {af:Array Edge} {gd:Option (Nat×Bool)}
theorem M.ix{t:TypeId}{x y:Operand}{z:Nat}{zr:List V}{c:Option EC}{sz bytes:Nat}{sp:Sp}{l:SL V}{n:Int}{cs:List V}{kd:IntKind}(h2:AX E N k dr ops rest (a.put d (.addr cs)) σ (⟨[],.addr cs,0,[]⟩::acc) Q)(hw:wantG ops a gd=some true:=by exact rfl)(hx:ev E t a x=some (.slice sp l):=by exact rfl)(ht:E.ti t=some ⟨z,zr,.slc c sz bytes⟩:=by exact rfl)(hy:ev E 0 a y=some (.int kd n):=by exact rfl)(hn:n=0:=by exact rfl)(hlt:0<l.len:=by exact Nat.le_of_ble_eq_true rfl)(hk:l.get 0=some cs:=by exact rfl)(hsz:Nat.beq l.cells sz=true:=by exact rfl)(hd:dstOk N d=true:=by exact rfl):
 AX E N k dr ops (⟨d,.indexAddr t x y,ty,ps,af,gd⟩::rest) a σ acc Q:=L.ix 0 hw hx ht hy hn hlt hk hsz hd h2
end
end Go.Ab
