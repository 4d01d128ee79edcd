/- A part of the proofs of this seat. No conditions. -/
import Derived.Shelf.SlIterI.Sorted
import Derived.Test.YtdhoaohcgpcfcaaGreatDoorA2
namespace Go.Ab
open Go Go.Proofs Go.RowKit Go.Sort
set_option linter.unusedSimpArgs false
set_option linter.unusedVariables false
def rdNil:Value→Option (DataW Unit×List MemPlace):=fun _=>some (.nil,[])
theorem R.given{G:Glob}{g:Gh}{D:Nat→Prop}{es:Es}{w w':World}(hR:R G g D es w)(hb:Below w.heap.size w w'){t:TypeId}{v:Value}{ns:List Int}
 (ho:w'.ownsRow w.heap.size t 1 v ns.length (ns.map encZ)):
 ∃g',R G g' D es w'∧VRel g' D w' v (.s .int ns)∧Ext D g (Foot g es) w g' (Foot g' es) w':=by
 have hcell0:∀b o,o<g.m b→w'.cell? ⟨b,o,none⟩=w.cell? ⟨b,o,none⟩:=fun b o ho=>by
  refine World.cell?_of_block (a:=⟨b,o,none⟩) (hb.block b ?_)
  rcases Nat.lt_or_ge b w.heap.size with h|h
  ·exact h
  ·rw [hR.fresh b h] at ho;omega
 rcases ho.2 with⟨rfl,hz⟩|⟨gb,cap,cur,rfl,h1,h2,h3,h4,h5,h6⟩
 ·have hns:ns=[]:=List.length_eq_zero_iff.1 hz
  subst hns
  refine⟨g,hR.step (fun _=>Nat.le_refl _) hcell0 (fun _ h=>h) (fun _ _=>rfl) (fun _ _=>rfl) (fun i e he=> .inl ⟨he,fun b h=>⟨hb.block b (hR.foot_lt he h),rfl⟩⟩) hR.foots ?_,.data (.nilS _ rfl),?_⟩
  ·intro b h
   exact hR.fresh b (Nat.le_trans hb.size h)
  ·exact ⟨hb.os,hb.tape,hb.output,hb.size,hcell0,fun _=>Nat.le_refl _,fun _ _=>rfl,fun _ _=>rfl,fun b h _=>⟨hb.block b h,rfl⟩,fun b h=> .inl h⟩
 ·have hgl:gb<w'.heap.size:=(Array.getElem?_eq_some_iff.1 h2).1
  have hm0:g.m gb=0:=hR.fresh gb h1
  have hm:∀b,g.m b≤(g.share gb ns.length).m b:=fun b=>by
   by_cases h:b=gb
   ·subst h;rw[hm0];omega
   ·simp [Gh.share,h]
  have hsame:∀b,b<w.heap.size→w'.heap[b]? =w.heap[b]? ∧(g.share gb ns.length).m b=g.m b:=fun b h=>⟨hb.block b h,by
   have:b≠gb:=by omega
   simp[Gh.share,this]⟩
  refine⟨g.share gb ns.length,hR.step hm hcell0 (fun _ h=>h) (fun _ _=>rfl) (fun _ _=>rfl) (fun i e he=> .inl ⟨he,fun b h=>hsame b (hR.foot_lt he h)⟩) hR.foots ?_,?_,?_⟩
  ·intro b h
   have:b≠gb:=by omega
   simp[Gh.share,this]
   exact hR.fresh b (Nat.le_trans hb.size h)
  ·refine .data ?_
   have hrow:DRel (g.share gb ns.length).m w' (.slice (some ⟨gb,0,none⟩) (SL.len (V:=V) (.t .int ns)) cap) (.slice .any (.t .int ns)):=by
    refine DRel.of_row (m:=g.m) (w:=w) (cells:=cur.toList) (t:=t) (fr:=(0,0)) (by simpa using h2) h3 ?_ ?_ ?_ hm hcell0
    ·simp [Gh.share,SL.len,SL.cells,EC.cells]
    ·intro i hi
     simp only[SL.len] at hi
     exact⟨[.i ns[i]],by simp[SL.get,List.getElem?_eq_getElem hi,EC.view],rfl⟩
    ·intro i j cs c h7 h8 h9 h10
     simp only[SL.len] at h9
     simp only[SL.cells,EC.cells] at h10 ⊢
     have hj:j=0:=by omega
     subst hj
     simp only[SL.get,List.getElem?_eq_getElem h9,Option.map_some,Option.some.injEq,EC.view] at h7
     subst h7
     simp at h8
     subst h8
     refine⟨.int .i64 ns[i],?_,.int _ _⟩
     have h11:(cur.toList.take (ns.length*1))[i]? =(ns.map encZ)[i]? :=by rw[h6]
     rw[List.getElem?_take_of_lt (by omega)] at h11
     rw[Nat.mul_one,Nat.add_zero,h11]
     simp[List.getElem?_eq_getElem h9]
   exact hrow
  ·exact ⟨hb.os,hb.tape,hb.output,hb.size,hcell0,hm,fun _ _=>rfl,fun _ _=>rfl,fun b h _=>hsame b h,fun b h=> .inl h⟩
section
variable {E:Env} {ρ7 ρ6:Go.Shelf.Ren}
def sortI(l:List Int):List Int:=l.mergeSort fun x y=>decide (x≤y)
end
end Go.Ab
namespace Go.Ab
open Go
set_option linter.unusedSimpArgs false
set_option linter.unusedVariables false
def lkB(k:Int)(ks:List Int)(cs:List Bool):Bool:=match keyAt k ks with|some i=>cs.getD i false|none=>false
section
variable {E:Env} {N:Nat} {o:Oper} {a:AF}
theorem OS.lookupB{t kt et:TypeId}{x y:Operand}{n:Nat}{k:Int}{ks:List Int}{cs:List Bool}{i:TI}(ho:o.op= .lookup t x y false)(hm:E.P.underlying t=some (.map kt et))(hk:E.P.underlying kt=some (.int .i64))
 (hx:ev E 0 a x=some (.mp n)) (hy:ev E 0 a y=some (.i k)) (ht:E.ti et=some i) (hz:i.zero=[.bool false]) (hz1:zeroAgg E.P et=false):OS E N o a [(n,.map .bl ks cs)] (.bool (lkB k ks cs)) [] []:=
 .pure fun g D es w act hR hp hF=>by
  have h1:=ev_rel hx hR hF
  have h2:=(ev_rel hy hR hF).int_inv
  have hn:=hp (n,.map .bl ks cs) (by simp)
  obtain⟨_,ms,clock,h4,⟨h5,hbn⟩,h6,h7,h8⟩:=hR.ents n _ hn
  generalize hv:act.eval x=v at h1
  cases h1 with
  |data h=>cases h
  |mp _ hD=>
   have h9:=findNow_at k ms ks 0 (h5.trans h6.symm) h7
   cases hi:keyAt k ks with
   |some j=>
    have hil:j<ms.length:=by rw[h5,←h6];exact(keyAt_some hi).2
    have hjc:j<cs.length:=by rw[←h5];exact hil
    rw[hi,Option.bind_some,List.getElem?_eq_getElem hil,Option.map_some] at h9
    refine⟨(ms[j]'hil).val,?_,?_⟩
    ·simp [execOp,ho,Instr.lookup,hv,h2,run_und hm,MapKept.run_getObj_map h4,MapKept.run_checkKey hk (k:= .int .i64 k) rfl,MapKept.run_findKey hk h9,Result.andThen]
    ·have e:lkB k ks cs=cs[j]:=by simp[lkB,hi,List.getD_eq_getElem?_getD,List.getElem?_eq_getElem hjc]
     rw[e]
     exact h8 j _ cs[j] (List.getElem?_eq_getElem hil) (List.getElem?_eq_getElem hjc)
   |none=>
    obtain⟨inf,q1,q2,z,q3,q4⟩:=ti_info ht
    obtain⟨q5,q6,q7⟩:=zmatch_rel q4
    have hzv:z= .bool false:=by
     rw[hz] at q5 q7
     have hl:z.cells.toList.length=1:=by simpa using q5
     match hzc:z.cells.toList,hl with
     |[u],_=>
      have h10:=q7 g D w 0 u (.bool false) (by rw[hzc];rfl) rfl
      have h11:=h10.bool_inv
      subst h11
      unfold zeroAgg at hz1
      rw[q1] at hz1
      simp only[q3] at hz1
      cases z<;>simp_all[Value.cells]
    subst hzv
    rw[hi,Option.bind_none] at h9
    refine⟨.bool false,?_,?_⟩
    ·simp [execOp,ho,Instr.lookup,hv,h2,run_und hm,MapKept.run_getObj_map h4,MapKept.run_checkKey hk (k:= .int .i64 k) rfl,MapKept.run_findKey hk h9,Result.andThen,run_zero q1 q3]
    ·have e:lkB k ks cs=false:=by simp[lkB,hi]
     rw[e]
     exact .data (.bool _)
end
section
variable {E:Env} {N k:Nat} {a:AF} {σ:Sto}
variable {Q:Exit→AF→Sto→Prop} {ops:List Oper} {dr:Bool} {rest:List Oper} {acc:List Rec}
variable {d:Option Tmp} {ty:TypeId} {ps:String} {af:Array Edge} {gd:Option (Nat×Bool)}
theorem L.lkb{t kt et:TypeId}{x y:Operand}{n:Nat}{q:Int}{ks:List Int}{cs:List Bool}{i:TI}(hw:wantG ops a gd=some true)(hx:ev E 0 a x=some (.mp n))(hy:ev E 0 a y=some (.i q))(hm:E.P.underlying t=some (.map kt et))(hk:E.P.underlying kt=some (.int .i64))
 (hn:findE σ.es n=some (.map .bl ks cs)) (ht:E.ti et=some i) (hz:i.zero=[.bool false]) (hz1:zeroAgg E.P et=false) (hd:dstOk N d=true)
 (h2:AX E N k dr ops rest (a.put d (.bool (lkB q ks cs))) σ (⟨[(n,.map .bl ks cs)],.bool (lkB q ks cs),0,[]⟩::acc) Q):AX E N k dr ops (⟨d,.lookup t x y false,ty,ps,af,gd⟩::rest) a σ acc Q:=
 AX.run 0 hw (OS.lookupB rfl hm hk (fr (by simp[Op.operands]) hx) (fr (by simp[Op.operands]) hy) ht hz hz1) ⟨hn,trivial⟩ hd h2
end
end Go.Ab
