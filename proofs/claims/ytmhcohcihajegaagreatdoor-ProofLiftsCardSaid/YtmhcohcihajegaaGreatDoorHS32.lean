/- A part of this seat's proofs. No conditions. -/
import Derived.Handed
import Derived.JoinedOf
import Derived.LaidMore
import Derived.Lay
import Derived.OpenShut
import Derived.ProofKit
import Derived.SevenTiedAt
import Derived.Stop.Joined
import Derived.Test.YtmhcohcihajegaaGreatDoorCards
import Derived.Test.YtmhcohcihajegaaGreatDoorTie
import Derived.Test.YtmhcohcihajegaaGreatDoorHS1
namespace Go.Proofs.YtmhcohcihajegaaGreatDoor
open Go Go.Ab Go.ChangeShapes Go.WideShapes Go.ChangeAt Go.RowKit
set_option maxRecDepth 100000
set_option linter.all false
theorem own:ownKnob Tryz.prog.godebug=none:=by kernel_rfl
abbrev Za0:List (String×DataW Unit):=[("proofprograms/tree.rules",Rows.laid_proofprograms_tree_rules),("proofprograms/tree.arities",Rows.laid_proofprograms_tree_arities)]
theorem Zlh{W:World}(h:laidMetH Tryz.prog Za0 W):
 (∃cs fuel p,W.var? Tryz.prog "proofprograms/tree.rules" =some cs/\DataW.trod (fun _=>()) Tryz.prog W 0 (fun _=>true) false fuel 208 cs.toList=some (Rows.laid_proofprograms_tree_rules,p))/\
 (∃cs fuel p,W.var? Tryz.prog "proofprograms/tree.arities" =some cs/\DataW.trod (fun _=>()) Tryz.prog W 0 (fun _=>true) false fuel 258 cs.toList=some (Rows.laid_proofprograms_tree_arities,p)):=by
 rw[MakeChecks.laidMetH_plain _ _ _ (by kernel_rfl)] at h;obtain⟨ps,⟨g,t,cs,fuel,p,q,hg,ht,hv,hd,⟨g2,t2,cs2,fuel2,p2,q2,hg2,ht2,hv2,hd2,_,_⟩,_⟩,_,_⟩:=h;obtain rfl:=Option.some.inj ((show Tryz.prog.globalNamed "proofprograms/tree.rules" =some 0 by kernel_rfl).symm.trans hg);obtain rfl:=Option.some.inj ((show(Tryz.prog.globals[0]?).map (·.type)=some 208 by kernel_rfl).symm.trans ht);obtain rfl:=Option.some.inj ((show Tryz.prog.globalNamed "proofprograms/tree.arities" =some 1 by kernel_rfl).symm.trans hg2);obtain rfl:=Option.some.inj ((show(Tryz.prog.globals[1]?).map (·.type)=some 258 by kernel_rfl).symm.trans ht2);exact⟨⟨cs,fuel,p,hv,hd⟩,⟨cs2,fuel2,p2,hv2,hd2⟩⟩
noncomputable def ofD{H:Type}:DataW H->V
 | .lit (.bool b)=> .bool b
 | .lit (.int k n)=> .int k n
 |_=> .i 0
theorem scal{H:Type}{enc:TypeId×Value->H}{P:Program}{W:World}{base:Nat}{sp:Nat->Bool}{held:Bool}{m:Nat}{t:TypeId}{cs:List Value}{x:DataW H×List MemPlace}(mm:Nat->Nat)
 (ht:P.underlying t=some .bool\/P.underlying t=some (.int .i64)) (h:DataW.trod enc P W base sp held m t cs=some x):∃v,cs=[v]/\DRel mm W v (ofD x.1):=by
 rcases ht with ht|ht
 ·obtain ⟨b,rfl,rfl⟩:=DataW.trod_bool ht h;exact⟨_,rfl,.bool _⟩
 ·obtain ⟨n,rfl,rfl,_⟩:=DataW.trod_int ht h;exact⟨_,rfl,.int _ _⟩
theorem Zrg{H:Type}{enc:TypeId×Value->H}{P:Program}{W:World}{base:Nat}{sp:Nat->Bool}{held:Bool}{m:Nat}{t:TypeId}{cs:List Value}{x:DataW H×List MemPlace}(mm:Nat->Nat){fs:Array Field}
 (ht:P.underlying t=some (.struct fs)) (h:DataW.trod enc P W base sp held m t cs=some x) {ds:List (DataW H)} (hx:x.1= .agg ds) {j:Nat} {f:Field} (hf:fs[j]? =some f) (ho:f.offset=j) (hc:P.cellsOf f.type=1)
 (hk:P.underlying f.type=some .bool\/P.underlying f.type=some (.int .i64)):∃v,cs[j]? =some v/\DRel mm W v (ofD (ds[j]?.getD .nil)):=by
 obtain⟨ys,n,_,rfl,hl,hlen,hfs⟩:=DataW.trod_struct ht h;have hj:j<ys.length:=by rw[hlen];exact(Array.getElem?_eq_some_iff.1 hf).1
 have he:=hfs j f hf;rw[hc,ho,List.getElem?_eq_getElem hj] at he;obtain⟨v,e1,e2⟩:=scal mm hk he;have ed:ds=ys.map (·.1):=(DataW.agg.inj hx).symm;refine⟨v,?_,?_⟩
 ·have h0:((cs.drop j).take 1)[0]? =some v:=by rw[e1];rfl
  simpa using h0
 ·rw[ed,List.getElem?_map,List.getElem?_eq_getElem hj];exact e2
noncomputable def ruD:List (List (DataW Unit)):=match (Rows.laid_proofprograms_tree_rules:DataW Unit) with
 | .agg ps=>ps.map fun d=>match d with| .agg qs=>qs|_=>[]
 |_=>[]
theorem ruD_eq:(Rows.laid_proofprograms_tree_rules:DataW Unit)= .agg (ruD.map .agg):=rfl
noncomputable def Ykx(r:Nat):V:=ofD (((ruD[r/8]?).getD [])[r%8]?.getD .nil)
theorem Yjr:Go.Ab.ruV=(List.range 168).map Ykx:=rfl
noncomputable def Zxw:Array Field:=match Tryz.prog.underlying 177 with|some (.struct fs)=>fs|_=> #[]
noncomputable def Ye3(j:Nat):Bool:=match Zxw[j]? with
 |some f=>f.offset==j&&Tryz.prog.cellsOf f.type==1&&(match Tryz.prog.underlying f.type with|some .bool=>true|some (.int .i64)=>true|_=>false)
 |none=>false
theorem Yeg{j:Nat}(hj:j<8):∃f,Zxw[j]? =some f/\f.offset=j/\Tryz.prog.cellsOf f.type=1/\(Tryz.prog.underlying f.type=some .bool\/Tryz.prog.underlying f.type=some (.int .i64)):=by
 have h:((List.range 8).all Ye3)=true:=by kernel_rfl
 have h1:=List.all_eq_true.1 h j (List.mem_range.2 hj);unfold Ye3 at h1;split at h1
 ·rename_i f hf;simp only[Bool.and_eq_true,beq_iff_eq] at h1;refine⟨f,hf,h1.1.1,h1.1.2,?_⟩;have h2:=h1.2;split at h2
  ·exact .inl ‹_›
  ·exact .inr ‹_›
  ·cases h2
 ·cases h1
theorem Yfr{W:World}(h:laidMetH Tryz.prog Za0 W)(r:Nat)(hr:r<168):∃v,W.cell? ⟨0,r,none⟩=some v/\DRel (Zq8 W) W v (Ykx r):=by
 obtain⟨⟨cs,fuel,p,hv,hd⟩,_⟩:=Zlh h;obtain⟨xs,m,_,ex,_,hl,hel⟩:=DataW.trod_array (show Tryz.prog.underlying 208=some (.array 21 177) by kernel_rfl) hd;have c8:Tryz.prog.cellsOf 177=8:=by kernel_rfl
 have hi:r/8<xs.length:=by omega
 have hE:=hel (r/8) (by omega);rw[c8,List.getElem?_eq_getElem hi] at hE;have hn:ruD.length=21:=rfl;have hi':r/8<ruD.length:=by omega
 have e3:xs.map (·.1)=ruD.map .agg:=(DataW.agg.inj (ruD_eq.symm.trans (Prod.mk.inj ex).1)).symm;have e4:(xs.map (·.1))[r/8]? =(ruD.map DataW.agg)[r/8]? :=by rw[e3]
 rw[List.getElem?_map,List.getElem?_map,List.getElem?_eq_getElem hi,List.getElem?_eq_getElem hi'] at e4;have e5:=Option.some.inj e4;obtain⟨f,hf,ho,hc,hk⟩:=Yeg (j:=r%8) (by omega);obtain⟨v,e6,e7⟩:=Zrg (Zq8 W) (show Tryz.prog.underlying 177=some (.struct Zxw) by kernel_rfl) hE e5 hf ho hc hk;refine⟨v,?_,?_⟩
 ·rw[World.var?_cell (show Tryz.prog.globalNamed "proofprograms/tree.rules" =some 0 by kernel_rfl) hv r];rw[List.getElem?_take,if_pos (by omega),List.getElem?_drop] at e6;have:r/8*8+r%8=r:=by omega
  rw[this] at e6;simpa using e6
 ·have:Ykx r=ofD (ruD[r/8][r%8]?.getD .nil):=by
   unfold Ykx;rw[List.getElem?_eq_getElem hi'];rfl
  rw[this];exact e7
def arInts:List Int:=[0,0,1,2,0,1,3,0,2,3,2,1,1,0]
theorem Ygc{W:World}(h:laidMetH Tryz.prog Za0 W)(r:Nat)(hr:r<14):W.cell? ⟨1,r,none⟩=some (.int .i64 (arInts.getD r 0)):=by
 obtain⟨_,⟨cs,fuel,p,hv,hd⟩⟩:=Zlh h;have hg:Tryz.prog.globalNamed "proofprograms/tree.arities" =some 1:=by kernel_rfl
 obtain⟨xs,m,_,ex,_,hl,hel⟩:=DataW.trod_array (show Tryz.prog.underlying 258=some (.array 14 3) by kernel_rfl) hd;have c5:Tryz.prog.cellsOf 3=1:=by kernel_rfl
 have hE:=hel r hr;rw[c5,Nat.mul_one,List.getElem?_eq_getElem (by omega)] at hE;obtain⟨z,e1,e2,_⟩:=DataW.trod_int (show Tryz.prog.underlying 3=some (.int .i64) by kernel_rfl) hE;have hlen:arInts.length=14:=rfl;have e3:(xs.map (·.1))=arInts.map fun n=> .lit (.int .i64 n):=(DataW.agg.inj (Prod.mk.inj ex).1).symm;have e4:(xs.map (·.1))[r]? =(arInts.map fun n=>(DataW.lit (.int .i64 n):DataW Unit))[r]? :=by rw[e3]
 rw[List.getElem?_map,List.getElem?_map,List.getElem?_eq_getElem (by omega:r<xs.length),List.getElem?_eq_getElem (by omega:r<arInts.length),e2] at e4;have hz:z=arInts.getD r 0:=by
  simp only[Option.map_some,Option.some.injEq,DataW.lit.injEq,Lit.int.injEq,true_and] at e4;rw[e4,List.getD,List.getElem?_eq_getElem (by omega:r<arInts.length)];rfl
 rw[World.var?_cell hg hv r,<-hz];have:cs.toList[r]? =some (.int .i64 z):=by
  have h0:((cs.toList.drop r).take 1)[0]? =some (.int .i64 z):=by rw[e1];rfl
  simpa using h0
 simpa using this
theorem Zwv{W:World}(h:laidMetH Tryz.prog Za0 W):∀p∈Go.Ab.E.G,∀(j:Nat) c,p.2[j]? =some c->∃v,W.cell? ⟨p.1,j,none⟩=some v/\DRel (Zq8 W) W v c:=by
 intro p hp j c hc;have hp':p=(1,arV)\/p=(0,ruV):=by simpa[Go.Ab.E] using hp
 rcases hp' with rfl|rfl;case inr=>
  rw[show((0,ruV):Nat×List V).2=(List.range 168).map Ykx from Yjr,List.getElem?_map] at hc;by_cases hj:j<168
  ·rw[List.getElem?_range hj] at hc;cases hc;exact Yfr h j hj
  ·rw[List.getElem?_eq_none (by simpa using hj)] at hc;cases hc
 have hj:j<14:=by
  have:=(List.getElem?_eq_some_iff.1 hc).1;simpa[arV] using this
 refine⟨_,Ygc h j hj,?_⟩;have e:arV[j]? =some (.int .i64 (arInts.getD j 0)):=by
  have:arV=arInts.map V.i:=rfl;rw[this,List.getElem?_map,List.getD_eq_getElem?_getD,List.getElem?_eq_getElem (by simpa[arInts] using hj)]
  rfl
 rw[e] at hc;cases hc;exact .int _ _
end Go.Proofs.YtmhcohcihajegaaGreatDoor
