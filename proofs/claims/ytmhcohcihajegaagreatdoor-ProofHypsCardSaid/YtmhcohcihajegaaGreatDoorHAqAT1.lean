/- A part of this seat's proofs. No conditions. -/
import Derived.Test.YtmhcohcihajegaaGreatDoorHAT1
namespace Go.Ab
open Go
set_option linter.unusedSimpArgs false
set_option linter.unusedVariables false
def lkB(k:Int)(ks:List Int)(cs:List Bool):Bool:=match Zcg k ks with|some i=>cs.getD i false|none=>false
section
variable {E:Env} {N:Nat} {o:Oper} {a:AF}
theorem OS.lookupB{t kt et:TypeId}{x y:Operand}{n:Nat}{k:Int}{ks:List Int}{cs:List Bool}{i:TI}(ho:o.op= .lookup t x y false)(hm:E.P.underlying t=some (.map kt et))(hk:E.P.underlying kt=some (.int .i64))
 (hx:ev E 0 a x=some (.mp n)) (hy:ev E 0 a y=some (.i k)) (ht:E.ti et=some i) (hz:i.zero=[.bool false]) (hz1:Zg4 E.P et=false):OS E N o a [(n,.map .bl ks cs)] (.bool (lkB k ks cs)) [] []:=
 .pure fun g D es w act hR hp hF=>by
  have h1:=z6 hx hR hF;have h2:=(z6 hy hR hF).int_inv;have hn:=hp (n,.map .bl ks cs) (by simp);obtain⟨_,ms,clock,h4,⟨h5,hbn⟩,h6,h7,h8⟩:=hR.ents n _ hn;generalize hv:act.eval x=v at h1;cases h1 with
  |data h=>cases h
  |mp _ hD=>
   have h9:=Zct k ms ks 0 (h5.trans h6.symm) h7;cases hi:Zcg k ks with
   |some j=>
    have hil:j<ms.length:=by rw[h5,<-h6];exact(Zcn hi).2
    have hjc:j<cs.length:=by rw[<-h5];exact hil
    rw[hi,Option.bind_some,List.getElem?_eq_getElem hil,Option.map_some] at h9;refine⟨(ms[j]'hil).val,?_,?_⟩
    ·simp[execOp,ho,Instr.lookup,hv,h2,yp hm,MapKept.run_getObj_map h4,MapKept.run_checkKey hk (k:= .int .i64 k) rfl,MapKept.run_findKey hk h9,Result.andThen]
    ·have e:lkB k ks cs=cs[j]:=by simp[lkB,hi,List.getD_eq_getElem?_getD,List.getElem?_eq_getElem hjc]
     rw[e];exact h8 j _ cs[j] (List.getElem?_eq_getElem hil) (List.getElem?_eq_getElem hjc)
   |none=>
    obtain⟨inf,q1,q2,z,q3,q4⟩:=Zce ht;obtain⟨q5,q6,q7⟩:=Zae q4;have hzv:z= .bool false:=by
     rw[hz] at q5 q7;have hl:z.cells.toList.length=1:=by simpa using q5
     match hzc:z.cells.toList,hl with
     |[u],_=>
      have h10:=q7 g D w 0 u (.bool false) (by rw[hzc];rfl) rfl;have h11:=h10.bool_inv;subst h11;unfold Zg4 at hz1;rw[q1] at hz1;simp only[q3] at hz1;cases z<;>simp_all[Value.cells]
    subst hzv;rw[hi,Option.bind_none] at h9;refine⟨.bool false,?_,?_⟩
    ·simp[execOp,ho,Instr.lookup,hv,h2,yp hm,MapKept.run_getObj_map h4,MapKept.run_checkKey hk (k:= .int .i64 k) rfl,MapKept.run_findKey hk h9,Result.andThen,Zef q1 q3]
    ·have e:lkB k ks cs=false:=by simp[lkB,hi]
     rw[e];exact .data (.bool _)
end
section
variable {E:Env} {N k:Nat} {a:AF} {σ:Sto}
variable {Q:Exit->AF->Sto->Prop} {ops:List Oper} {dr:Bool} {rest:List Oper} {acc:List Rec}
variable {d:Option Tmp} {ty:TypeId} {ps:String} {af:Array Edge} {gd:Option (Nat×Bool)}
theorem L.lkb{t kt et:TypeId}{x y:Operand}{n:Nat}{q:Int}{ks:List Int}{cs:List Bool}{i:TI}(hw:yb ops a gd=some true)(hx:ev E 0 a x=some (.mp n))(hy:ev E 0 a y=some (.i q))(hm:E.P.underlying t=some (.map kt et))(hk:E.P.underlying kt=some (.int .i64))
 (hn:zm σ.es n=some (.map .bl ks cs)) (ht:E.ti et=some i) (hz:i.zero=[.bool false]) (hz1:Zg4 E.P et=false) (hd:zw N d=true)
 (h2:AX E N k dr ops rest (a.put d (.bool (lkB q ks cs))) σ (⟨[(n,.map .bl ks cs)],.bool (lkB q ks cs),0,[]⟩::acc) Q):AX E N k dr ops (⟨d,.lookup t x y false,ty,ps,af,gd⟩::rest) a σ acc Q:=
 AX.run 0 hw (OS.lookupB rfl hm hk (fr (by simp[Op.operands]) hx) (fr (by simp[Op.operands]) hy) ht hz hz1) ⟨hn,trivial⟩ hd h2
end
end Go.Ab
