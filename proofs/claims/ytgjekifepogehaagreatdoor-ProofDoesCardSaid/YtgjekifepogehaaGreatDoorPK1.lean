/- A part of this seat's proofs. No conditions. -/
import Derived.Handed
import Derived.JoinedOf
import Derived.LaidMore
import Derived.Lay
import Derived.OpenShut
import Derived.ProofKit
import Derived.SevenTiedAt
import Derived.Stop.Joined
import Derived.Test.YtgjekifepogehaaGreatDoorCards
import Derived.Test.YtgjekifepogehaaGreatDoorTie
import Derived.Test.YtgjekifepogehaaGreatDoorPA3
import Derived.Test.YtgjekifepogehaaGreatDoorPS1
namespace Go.Proofs.YtgjekifepogehaaGreatDoor
open Go Go.Ab Go.ChangeShapes Go.WideShapes Go.ChangeAt Go.RowKit
set_option maxRecDepth 100000
set_option linter.all false
theorem own:ownKnob Tryz.prog.godebug=none:=ew
abbrev JW:List (String×DataW Unit):=[("proofprograms/tree.rules",Rows.laid_proofprograms_tree_rules),("proofprograms/tree.arities",Rows.laid_proofprograms_tree_arities)]
theorem Y6{W:World}(h:laidMetH Tryz.prog JW W):
 (∃cs fuel p,W.var? Tryz.prog "proofprograms/tree.rules" =some cs/\DataW.trod (fun _=>()) Tryz.prog W 0 (fun _=>true) false fuel 214 cs.toList=some (Rows.laid_proofprograms_tree_rules,p))/\
 (∃cs fuel p,W.var? Tryz.prog "proofprograms/tree.arities" =some cs/\DataW.trod (fun _=>()) Tryz.prog W 0 (fun _=>true) false fuel 224 cs.toList=some (Rows.laid_proofprograms_tree_arities,p)):=by
 rw[MakeChecks.laidMetH_plain _ _ _ ew] at h;obtain⟨ps,⟨g,t,cs,fuel,p,q,hg,ht,hv,hd,⟨g2,t2,cs2,fuel2,p2,q2,hg2,ht2,hv2,hd2,_,_⟩,_⟩,_,_⟩:=h;obtain rfl:=aW ((show Tryz.prog.globalNamed "proofprograms/tree.rules" =some 0 by kernel_rfl).symm.trans hg);obtain rfl:=aW ((show(Tryz.prog.globals[0]?).map (·.type)=some 214 by kernel_rfl).symm.trans ht);obtain rfl:=aW ((show Tryz.prog.globalNamed "proofprograms/tree.arities" =some 1 by kernel_rfl).symm.trans hg2);obtain rfl:=aW ((show(Tryz.prog.globals[1]?).map (·.type)=some 224 by kernel_rfl).symm.trans ht2);exact⟨⟨cs,fuel,p,hv,hd⟩,⟨cs2,fuel2,p2,hv2,hd2⟩⟩
noncomputable def O9{H:Type}:DataW H->V
 | .lit (.bool b)=> .bool b
 | .lit (.int k n)=> .int k n
 |_=> .i 0
theorem Sc{H:Type}{enc:TypeId×Value->H}{P:Program}{W:World}{base:Nat}{sp:Nat->Bool}{held:Bool}{m:Nat}{t:TypeId}{cs:List Value}{x:DataW H×List MemPlace}(mm:Nat->Nat)
 (ht:P.underlying t=some .bool\/P.underlying t=some (.int .i64)) (h:DataW.trod enc P W base sp held m t cs=some x):∃v,cs=[v]/\A4 mm W v (O9 x.1):=by
 rcases ht with ht|ht
 .obtain ⟨b,rfl,rfl⟩:=DataW.trod_bool ht h;exact⟨_,rfl,.bool _⟩
 .obtain ⟨n,rfl,rfl,_⟩:=DataW.trod_int ht h;exact⟨_,rfl,.int _ _⟩
theorem Zo4{H:Type}{enc:TypeId×Value->H}{P:Program}{W:World}{base:Nat}{sp:Nat->Bool}{held:Bool}{m:Nat}{t:TypeId}{cs:List Value}{x:DataW H×List MemPlace}(mm:Nat->Nat){fs:Array Field}
 (ht:P.underlying t=some (.struct fs)) (h:DataW.trod enc P W base sp held m t cs=some x) {ds:List (DataW H)} (hx:x.1= .agg ds) {j:Nat} {f:Field} (hf:fs[j]? =some f) (ho:f.offset=j) (hc:P.cellsOf f.type=1)
 (hk:P.underlying f.type=some .bool\/P.underlying f.type=some (.int .i64)):∃v,cs[j]? =some v/\A4 mm W v (O9 (ds[j]?.getD .nil)):=by
 obtain⟨ys,n,_,rfl,hl,hlen,hfs⟩:=DataW.trod_struct ht h;have hj:j<ys.length:=by rw[hlen];exact(au.1 hf).1
 have he:=hfs j f hf;rw[hc,ho,ZD hj] at he;obtain⟨v,e1,e2⟩:=Sc mm hk he;have ed:ds=ys.map (·.1):=(DataW.agg.inj hx).symm;refine⟨v,?_,?_⟩
 .have h0:((cs.drop j).take 1)[0]? =some v:=by rw[e1];rfl
  simpa using h0
 .rw[ed,Z8,ZD hj];exact e2
noncomputable def Kv:List (List (DataW Unit)):=match (Rows.laid_proofprograms_tree_rules:DataW Unit) with
 | .agg ps=>ps.map fun d=>match d with| .agg qs=>qs|_=>[]
 |_=>[]
theorem Ky:(Rows.laid_proofprograms_tree_rules:DataW Unit)= .agg (Kv.map .agg):=rfl
noncomputable def My(r:Nat):V:=O9 (((Kv[r/8]?).getD [])[r%8]?.getD .nil)
theorem Yh0:Go.Ab.PE=(List.range 168).map My:=rfl
noncomputable def TT:Array Field:=match Tryz.prog.underlying 183 with|some (.struct fs)=>fs|_=> #[]
noncomputable def Yf(j:Nat):Bool:=match TT[j]? with
 |some f=>f.offset==j&&Tryz.prog.cellsOf f.type==1&&(match Tryz.prog.underlying f.type with|some .bool=>true|some (.int .i64)=>true|_=>false)
 |none=>false
theorem Yaj{j:Nat}(hj:j<8):∃f,TT[j]? =some f/\f.offset=j/\Tryz.prog.cellsOf f.type=1/\(Tryz.prog.underlying f.type=some .bool\/Tryz.prog.underlying f.type=some (.int .i64)):=by
 have h:((List.range 8).all Yf)=true:=ew
 have h1:=ZH.1 h j (bS.2 hj);unfold Yf at h1;split at h1
 .rename_i f hf;simp only[ZC,beq_iff_eq] at h1;refine⟨f,hf,h1.1.1,h1.1.2,?_⟩;have h2:=h1.2;split at h2
  .exact .inl ‹_›
  .exact .inr ‹_›
  .cases h2
 .cases h1
theorem Yf6{W:World}(h:laidMetH Tryz.prog JW W)(r:Nat)(hr:r<168):∃v,W.cell? ⟨0,r,none⟩=some v/\A4 (Gq W) W v (My r):=by
 obtain⟨⟨cs,fuel,p,hv,hd⟩,_⟩:=Y6 h;obtain⟨xs,m,_,ex,_,hl,hel⟩:=DataW.trod_array (show Tryz.prog.underlying 214=some (.array 21 183) by kernel_rfl) hd;have c8:Tryz.prog.cellsOf 183=8:=ew
 have hi:r/8<xs.length:=dY
 have hE:=hel (r/8) dY;rw[c8,ZD hi] at hE;have hn:Kv.length=21:=rfl;have hi':r/8<Kv.length:=dY
 have e3:xs.map (·.1)=Kv.map .agg:=(DataW.agg.inj (Ky.symm.trans (Prod.mk.inj ex).1)).symm;have e4:(xs.map (·.1))[r/8]? =(Kv.map DataW.agg)[r/8]? :=by rw[e3]
 rw[Z8,Z8,ZD hi,ZD hi'] at e4;have e5:=aW e4;obtain⟨f,hf,ho,hc,hk⟩:=Yaj (j:=r%8) dY;obtain⟨v,e6,e7⟩:=Zo4 (Gq W) (show Tryz.prog.underlying 183=some (.struct TT) by kernel_rfl) hE e5 hf ho hc hk;refine⟨v,?_,?_⟩
 .rw[World.var?_cell (show Tryz.prog.globalNamed "proofprograms/tree.rules" =some 0 by kernel_rfl) hv r];rw[bq,if_pos dY,List.getElem?_drop] at e6;have:r/8*8+r%8=r:=dY
  rw[this] at e6;simpa using e6
 .have:My r=O9 (Kv[r/8][r%8]?.getD .nil):=by
   unfold My;rw[ZD hi'];rfl
  rw[this];exact e7
def CN:List Int:=[0,0,1,2,0,1,3,0,2,3,2,1,1,0]
theorem Yev{W:World}(h:laidMetH Tryz.prog JW W)(r:Nat)(hr:r<14):W.cell? ⟨1,r,none⟩=some (.int .i64 (CN.getD r 0)):=by
 obtain⟨_,⟨cs,fuel,p,hv,hd⟩⟩:=Y6 h;have hg:Tryz.prog.globalNamed "proofprograms/tree.arities" =some 1:=ew
 obtain⟨xs,m,_,ex,_,hl,hel⟩:=DataW.trod_array (show Tryz.prog.underlying 224=some (.array 14 3) by kernel_rfl) hd;have c5:Tryz.prog.cellsOf 3=1:=ew
 have hE:=hel r hr;rw[c5,eX,ZD dY] at hE;obtain⟨z,e1,e2,_⟩:=DataW.trod_int (show Tryz.prog.underlying 3=some (.int .i64) by kernel_rfl) hE;have hlen:CN.length=14:=rfl;have e3:(xs.map (·.1))=CN.map fun n=> .lit (.int .i64 n):=(DataW.agg.inj (Prod.mk.inj ex).1).symm;have e4:(xs.map (·.1))[r]? =(CN.map fun n=>(DataW.lit (.int .i64 n):DataW Unit))[r]? :=by rw[e3]
 rw[Z8,Z8,ZD (by omega:r<xs.length),ZD (by omega:r<CN.length),e2] at e4;have hz:z=CN.getD r 0:=by
  simp only[ak,ZI,DataW.lit.injEq,Lit.int.injEq,true_and] at e4;rw[e4,List.getD,ZD (by omega:r<CN.length)];rfl
 rw[World.var?_cell hg hv r,<-hz];have:cs.toList[r]? =some (.int .i64 z):=by
  have h0:((cs.toList.drop r).take 1)[0]? =some (.int .i64 z):=by rw[e1];rfl
  simpa using h0
 simpa using this
theorem Ye3{W:World}(h:laidMetH Tryz.prog JW W):∀p∈Go.Ab.E.G,∀(j:Nat) c,p.2[j]? =some c->∃v,W.cell? ⟨p.1,j,none⟩=some v/\A4 (Gq W) W v c:=by
 intro p hp j c hc;have hp':p=(1,Nx)\/p=(0,PE):=by simpa[Go.Ab.E] using hp
 rcases hp' with rfl|rfl;case inr=>
  rw[show((0,PE):Nat×List V).2=(List.range 168).map My from Yh0,Z8] at hc;by_cases hj:j<168
  .rw[List.getElem?_range hj] at hc;cases hc;exact Yf6 h j hj
  .rw[dU fG] at hc;cases hc
 have hj:j<14:=by
  have:=(ZT.1 hc).1;simpa[Nx] using this
 refine⟨_,Yev h j hj,?_⟩;have e:Nx[j]? =some (.int .i64 (CN.getD j 0)):=by
  have:Nx=CN.map V.i:=rfl;rw[this,Z8,aB,ZD (by simpa[CN] using hj)]
  rfl
 rw[e] at hc;cases hc;exact .int _ _
end Go.Proofs.YtgjekifepogehaaGreatDoor
