/- A part of the proofs of this seat's statements: B30, B31. It has no conditions of its own. -/
import Derived.Test.YtecbeopjdkdboaaDoorA2
import Derived.Shelf.SlIterI.Sorted
namespace Go.Ab
open Go Go.Proofs Go.RowKit Go.Sort
set_option linter.unusedSimpArgs false
set_option linter.unusedVariables false
def rdNil:Value→Option (DataW Unit×List MemPlace):=fun _=>some (.nil,[])
theorem R.given{G:Glob}{g:Gh}{D:Nat→Prop}{es:Es}{w w':World}(hR:R G g D es w)(hb:Below w.heap.size w w'){t:TypeId}{v:Value}{ns:List Int}
 (ho:w'.ownsRow w.heap.size t 1 v ns.length (ns.map encZ)):
 ∃g',R G g' D es w'∧VRel g' D w' v (.s .int ns)∧Ext D g (Foot g es) w g' (Foot g' es) w':=by
 have hcell0:∀b o,o<g.m b→w'.cell? ⟨b,o,none⟩=w.cell? ⟨b,o,none⟩:=fun b o ho=>by
  refine World.cell?_of_block (a:=⟨b,o,none⟩) (hb.block b ?_)
  rcases Nat.lt_or_ge b w.heap.size with h|h
  ·exact h
  ·rw [hR.fresh b h] at ho;omega
 rcases ho.2 with⟨rfl,hz⟩|⟨gb,cap,cur,rfl,h1,h2,h3,h4,h5,h6⟩
 ·have hns:ns=[]:=List.length_eq_zero_iff.1 hz
  subst hns
  refine⟨g,hR.step (fun _=>Nat.le_refl _) hcell0 (fun _ h=>h) (fun _ _=>rfl) (fun _ _=>rfl) (fun i e he=> .inl ⟨he,fun b h=>⟨hb.block b (hR.foot_lt he h),rfl⟩⟩) hR.foots ?_,.data (.nilS _ rfl),?_⟩
  ·intro b h
   exact hR.fresh b (Nat.le_trans hb.size h)
  ·exact ⟨hb.os,hb.tape,hb.output,hb.size,hcell0,fun _=>Nat.le_refl _,fun _ _=>rfl,fun _ _=>rfl,fun b h _=>⟨hb.block b h,rfl⟩,fun b h=> .inl h⟩
 ·have hgl:gb<w'.heap.size:=(Array.getElem?_eq_some_iff.1 h2).1
  have hm0:g.m gb=0:=hR.fresh gb h1
  have hm:∀b,g.m b≤(g.share gb ns.length).m b:=fun b=>by
   by_cases h:b=gb
   ·subst h;rw[hm0];omega
   ·simp [Gh.share,h]
  have hsame:∀b,b<w.heap.size→w'.heap[b]? =w.heap[b]? ∧(g.share gb ns.length).m b=g.m b:=fun b h=>⟨hb.block b h,by
   have:b≠gb:=by omega
   simp[Gh.share,this]⟩
  refine⟨g.share gb ns.length,hR.step hm hcell0 (fun _ h=>h) (fun _ _=>rfl) (fun _ _=>rfl) (fun i e he=> .inl ⟨he,fun b h=>hsame b (hR.foot_lt he h)⟩) hR.foots ?_,?_,?_⟩
  ·intro b h
   have:b≠gb:=by omega
   simp[Gh.share,this]
   exact hR.fresh b (Nat.le_trans hb.size h)
  ·refine .data ?_
   have hrow:DRel (g.share gb ns.length).m w' (.slice (some ⟨gb,0,none⟩) (SL.len (V:=V) (.t .int ns)) cap) (.slice .any (.t .int ns)):=by
    refine DRel.of_row (m:=g.m) (w:=w) (cells:=cur.toList) (t:=t) (fr:=(0,0)) (by simpa using h2) h3 ?_ ?_ ?_ hm hcell0
    ·simp [Gh.share,SL.len,SL.cells,EC.cells]
    ·intro i hi
     simp only[SL.len] at hi
     exact⟨[.i ns[i]],by simp[SL.get,List.getElem?_eq_getElem hi,EC.view],rfl⟩
    ·intro i j cs c h7 h8 h9 h10
     simp only[SL.len] at h9
     simp only[SL.cells,EC.cells] at h10 ⊢
     have hj:j=0:=by omega
     subst hj
     simp only[SL.get,List.getElem?_eq_getElem h9,Option.map_some,Option.some.injEq,EC.view] at h7
     subst h7
     simp at h8
     subst h8
     refine⟨.int .i64 ns[i],?_,.int _ _⟩
     have h11:(cur.toList.take (ns.length*1))[i]? =(ns.map encZ)[i]? :=by rw[h6]
     rw[List.getElem?_take_of_lt (by omega)] at h11
     rw[Nat.mul_one,Nat.add_zero,h11]
     simp[List.getElem?_eq_getElem h9]
   exact hrow
  ·exact ⟨hb.os,hb.tape,hb.output,hb.size,hcell0,hm,fun _ _=>rfl,fun _ _=>rfl,fun b h _=>hsame b h,fun b h=> .inl h⟩
section
variable {E:Env} {ρ7 ρ6:Go.Shelf.Ren}
def sortI(l:List Int):List Int:=l.mergeSort fun x y=>decide (x≤y)
end
end Go.Ab
namespace Go.Ab
open Go
set_option linter.unusedSimpArgs false
set_option linter.unusedVariables false
def lkB(k:Int)(ks:List Int)(cs:List Bool):Bool:=match keyAt k ks with|some i=>cs.getD i false|none=>false
section
variable {E:Env} {N:Nat} {o:Oper} {a:AF}
end
section
variable {E:Env} {N k:Nat} {a:AF} {σ:Sto}
variable {Q:Exit→AF→Sto→Prop} {ops:List Oper} {dr:Bool} {rest:List Oper} {acc:List Rec}
variable {d:Option Tmp} {ty:TypeId} {ps:String} {af:Array Edge} {gd:Option (Nat×Bool)}
end
end Go.Ab
