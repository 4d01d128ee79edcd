/- A part of the proofs of this seat. No conditions. -/
import Derived.Test.YtpnbmjgblakifaaGreatDoorA2
namespace Go.Ab
open Go
set_option linter.all false
theorem Znr{P:Program}(w:World){t ti:TypeId}{k:IntKind}{a1 a2 b1 b2:Int}(h1:P.underlying t=some (.struct (P.fieldsOf t)))(h2:P.stoodInHeld t=false)(hi:P.underlying ti=some (.int k))
 (h4:(P.fieldsOf t).toList.map (fun f=>(f.name== "_",f.offset,f.type))=[(false,0,ti),(false,1,ti)]):
 (binOp .eql t (.agg #[.int k a1,.int k a2]) (.agg #[.int k b1,.int k b2])).run P w= .ok (.bool (decide (a1=b1)&&decide (a2=b2))) w:=by
 rw[run_eql_struct,run_equalIn_agg w 9999 t _ _ h1 h2];generalize (P.fieldsOf t).toList=fs at h4
 match fs,h4 with
 |[],h4=>simp at h4
 |[_],h4=>simp at h4
 |_::_::_::_,h4=>simp at h4
 |[f,g],h4=>
  simp only[List.map_cons,List.map_nil,List.cons.injEq,Prod.mk.injEq,and_true] at h4;obtain⟨⟨n1,o1,t1⟩,n2,o2,t2⟩:=h4;have m1:f.name≠ "_" :=by intro h;rw[h] at n1;simp at n1
  have m2:g.name≠ "_" :=by intro h;rw[h] at n2;simp at n2
  have hp:P.plainKey ti=true:=by unfold Program.plainKey;rw[hi]
  simp only[Op.eqFields,m1,m2,ne_eq,not_false_eq_true,if_true,Sem.run_bind,o1,o2,t1,t2];rw[run_part_plain w hp (v:= .int k a1) rfl,Result.andThen_ok,run_part_plain w hp (v:= .int k b1) rfl,Result.andThen_ok,run_equalIn_int w 9998 ti k k a1 b1 hi,Result.andThen_ok];by_cases e1:a1=b1
  ·simp only[e1,beq_self_eq_true,Bool.not_true,Bool.false_eq_true,if_false,Sem.run_bind];rw[run_part_plain w hp (v:= .int k a2) rfl,Result.andThen_ok,run_part_plain w hp (v:= .int k b2) rfl,Result.andThen_ok,run_equalIn_int w 9998 ti k k a2 b2 hi,Result.andThen_ok];by_cases e2:a2=b2<;>simp[e2]
  ·simp[e1]
theorem OS.HQ{E:Env}{N:Nat}{o:Oper}{a:AF}{t ti u:TypeId}{x y:Operand}{k:IntKind}{a1 a2 b1 b2:Int}(ho:o.op= .binOp .eql t x y u)(h1:E.P.underlying t=some (.struct (E.P.fieldsOf t)))(h2:E.P.stoodInHeld t=false)
 (h3:E.P.eqGuardType E.P.depth t=false) (hi:E.P.underlying ti=some (.int k)) (h4:(E.P.fieldsOf t).toList.map (fun f=>(f.name== "_",f.offset,f.type))=[(false,0,ti),(false,1,ti)])
 (hx:ev E t a x=some (.agg [.int k a1,.int k a2])) (hy:ev E t a y=some (.agg [.int k b1,.int k b2])):OS E N o a [] (.bool (decide (a1=b1)&&decide (a2=b2))) [] []:=
 .pure fun g D es w act hR _ hF=>by
  have key:∀{z:Operand} {c1 c2:Int},ev E t a z=some (.agg [.int k c1,.int k c2])->act.eval z= .agg #[.int k c1,.int k c2]:=fun {z c1 c2} hz=>by
   obtain⟨vs,e,hl,_,hv⟩:=(z4 hz hR hF).Ew
   match vs,hl with
   |[v1,v2],_=>
    have r1:=(hv 0 v1 _ rfl rfl).Bg;have r2:=(hv 1 v2 _ rfl rfl).Bg;rw[e,r1,r2]
  have e1:=key hx;have e2:=key hy;exact⟨.bool (decide (a1=b1)&&decide (a2=b2)),by simp[execOp,ho,e1,e2,run_eqGuard_agg w _ _ _ _ _ _ h3,Znr w h1 h2 hi h4],.data (.bool _)⟩
section
variable {E:Env} {N k:Nat} {dr:Bool} {ops rest:List Oper} {a:AF} {σ:Ao} {acc:List Rec} {Q:Exit->AF->Ao->Prop}
variable {d:Option Tmp} {ty:TypeId} {ps:String} {af:Array Edge} {gd:Option (Nat×Bool)}
theorem L.bpr(ti:TypeId){t u:TypeId}{x y:Operand}{kd:IntKind}{a1 a2 b1 b2:Int}(hw:z5 ops a gd=some true)(hx:ev E t a x=some (.agg [.int kd a1,.int kd a2]))(hy:ev E t a y=some (.agg [.int kd b1,.int kd b2]))
 (h1:E.P.underlying t=some (.struct (E.P.fieldsOf t))) (h2:E.P.stoodInHeld t=false) (h3:E.P.eqGuardType E.P.depth t=false) (hi:E.P.underlying ti=some (.int kd))
 (h4:(E.P.fieldsOf t).toList.map (fun f=>(f.name== "_",f.offset,f.type))=[(false,0,ti),(false,1,ti)]) (hd:zy N d=true)
 (h5:AX E N k dr ops rest (a.put d (.bool (decide (a1=b1)&&decide (a2=b2)))) σ (⟨[],.bool (decide (a1=b1)&&decide (a2=b2)),0,[]⟩::acc) Q):AX E N k dr ops (⟨d,.binOp .eql t x y u,ty,ps,af,gd⟩::rest) a σ acc Q:=
 AX.run 0 hw (OS.HQ rfl h1 h2 h3 hi h4 (fr (by simp[Op.operands,Call.operands]) hx) (fr (by simp[Op.operands,Call.operands]) hy)) trivial hd h5
end
section
variable {E:Env} {N k:Nat} {a:AF} {σ:Ao} {Q:Exit->AF->Ao->Prop} {ops:List Oper} {dr:Bool} {rest:List Oper} {acc:List Rec}
variable {d:Option Tmp} {ty:TypeId} {ps:String} {af:Array Edge} {gd:Option (Nat×Bool)}
theorem M.qB{ti:Nat}{t u:TypeId}{x y:Operand}{kd:IntKind}{a1 a2 b1 b2:Int}(s:M.St ti)(hw:z5 ops a gd=some true)(hx:ev E t a x=some (.agg [.int kd a1,.int kd a2]))(hy:ev E t a y=some (.agg [.int kd b1,.int kd b2]))
 (h1:E.P.underlying t=some (.struct (E.P.fieldsOf t))) (h2:E.P.stoodInHeld t=false) (h3:E.P.eqGuardType E.P.depth t=false) (hi:E.P.underlying ti=some (.int kd))
 (h4:(E.P.fieldsOf t).toList.map (fun f=>(f.name== "_",f.offset,f.type))=[(false,0,ti),(false,1,ti)]) (hd:zy N d=true)
 (h5:AX E N k dr ops rest (a.put d (.bool (decide (a1=b1)&&decide (a2=b2)))) σ (⟨[],.bool (decide (a1=b1)&&decide (a2=b2)),0,[]⟩::acc) Q):AX E N k dr ops (⟨d,.binOp .eql t x y u,ty,ps,af,gd⟩::rest) a σ acc Q:=
 L.bpr ti hw hx hy h1 h2 h3 hi h4 hd h5
theorem M.ks{P R S:Prop}(k:R)(l:S)(h:M.Hid R->M.Hid S->P:=by(intro k l;(with_reducible refine D.aw ?_);(refine K.sq (AW.Du rfl ?_ ?_));exact M.Hid.out k;exact M.Hid.out l)):P:=h ⟨k⟩ ⟨l⟩
theorem M.bp(n:Nat){P R:Prop}(k:R)(h:M.St n->M.Hid R->P:=by(intro s k;(refine M.qB s rfl rfl rfl (by kernel_rfl) (by kernel_rfl) (by kernel_rfl) (by kernel_rfl) (by kernel_rfl) rfl ?_);exact M.Hid.out k)):P:=h ⟨⟩ ⟨k⟩
end
end Go.Ab
