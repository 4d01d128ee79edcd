/- A part of the proofs of this seat. No conditions. -/
import Derived.Test.YtpnbmjgblakifaaGreatDoorAT1
namespace Go.Ab
open Go Go.Proofs Go.RowKit Go.Sort
set_option linter.unusedSimpArgs false
set_option linter.unusedVariables false
theorem R.ownsMap{G:Dc}{g:Gh}{D:Nat->Prop}{es:Es}{w:World}(hR:R G g D es w){n:Nat}{c:EC}{ks:List Int}{xs:List c.sem}(hn:zk es n=some (.map c ks xs)){P:Program}{k:TypeId}
 (hk:P.underlying k=some (.int .i64)) (hnd:ks.Nodup) (hwf:∀x∈ks,(Lit.int .i64 x).wf=true) (hmax:ks.length<=maxLen):
 ∃D0:DataW Unit,w.ownsMap P k MG (g.blk n) ks.length D0/\Maps.size D0=ks.length/\(Go.intKeys D0).Perm ks:=by
 obtain⟨_,ms,clock,h4,⟨h5,hb⟩,h6,h7,h8⟩:=hR.BN n _ hn;have hlen:ms.length=ks.length:=h5.trans h6.symm;have hkeys:ms.map (·.key)=ks.map (Value.int .i64):=by
  apply List.ext_getElem?;intro i;rw[List.getElem?_map,List.getElem?_map];rcases Nat.lt_or_ge i ms.length with hi|hi
  ·have hi':i<ks.length:=by omega
   rw[List.getElem?_eq_getElem hi,List.getElem?_eq_getElem hi'];simp only[Option.map_some];rw[h7 i _ _ (List.getElem?_eq_getElem hi) (List.getElem?_eq_getElem hi')]
  ·rw[List.getElem?_eq_none (by omega),List.getElem?_eq_none (by omega)];rfl
 have hrd:∀x∈ms,∃q∈ks,x.key= .int .i64 q/\Go.WideElems.rd P k MG x=some (.int .i64 q,.nil):=fun x hx=>by
  have h1:x.key∈ms.map (·.key):=List.mem_map_of_mem hx;rw[hkeys] at h1;obtain⟨q,hq,e⟩:=List.mem_map.1 h1;refine⟨q,hq,e.symm,?_⟩;simp only[Go.WideElems.rd,<-e,Go.Maps.keyOf_int_mk hk (hwf q hq),MG,Option.bind_some,Option.map_some]
 have hrg:(ms.map (Go.WideElems.rg P k MG))=ks.map fun q=>(Lit.int .i64 q,(DataW.nil:DataW Unit)):=by
  apply List.ext_getElem?;intro i;rw[List.getElem?_map,List.getElem?_map];rcases Nat.lt_or_ge i ms.length with hi|hi
  ·have hi':i<ks.length:=by omega
   rw[List.getElem?_eq_getElem hi,List.getElem?_eq_getElem hi'];simp only[Option.map_some];obtain⟨q,hq,e1,e2⟩:=hrd ms[i] (List.getElem_mem hi);have e3:=h7 i _ _ (List.getElem?_eq_getElem hi) (List.getElem?_eq_getElem hi');rw[e1] at e3;have:q=ks[i]:=by simpa using e3
   rw[Go.WideElems.rg_of e2,this]
  ·rw[List.getElem?_eq_none (by omega),List.getElem?_eq_none (by omega)];rfl
 refine⟨.map ((ms.map (Go.WideElems.rg P k MG)).foldr DataW.insert []),⟨ms.toArray,clock,h4,⟨by simp;omega,⟨by simpa using hb.1,by simpa using hb.2,?_⟩,?_⟩,by simp;omega,rfl⟩,?_,?_⟩
 ·simp only[hkeys];rw[List.Nodup,List.pairwise_map];exact hnd.imp fun h e=>h (by simpa using e)
 ·intro x hx;obtain⟨q,_,_,e⟩:=hrd x (by simpa using hx);exact⟨_,e⟩
 ·rw[hrg];show((ks.map fun q=>(Lit.int .i64 q,(DataW.nil:DataW Unit))).foldr DataW.insert []).length=_;rw[(Go.WideShapes.sorted_perm _).length_eq,List.length_map]
 ·rw[hrg];show(((ks.map fun q=>(Lit.int .i64 q,(DataW.nil:DataW Unit))).foldr DataW.insert []).map fun p=>Go.intOf p.1).Perm ks;refine((Go.WideShapes.sorted_perm _).map _).trans ?_;rw[List.map_map];show(ks.map fun q=>q).Perm ks;rw[List.map_id']
section
variable {E:Env} {ρ7 ρ6:Go.Shelf.Ren}
theorem AC.mapKeys(h:SlLaysZI.n7 E.P ρ7)(he:∀vs w,(callFunc (ρ7.f 7) vs).run E.P w= .ok (.enter (ρ7.f 7) vs) w){σ:Ao}{n:Nat}:
 n<σ.nx->AC E (ρ7.f 7) [.mp n] σ (.fn (.func (ρ7.f 10)) [] [.ptr σ.nx 0]) ⟨σ.nx+1,(σ.nx,.var [.mp n])::σ.es⟩:=by
 intro hlt;refine⟨he,by simp,fun g w vs hR hl hv=> ?_⟩
 match vs,hl with
 |[v],_=>
  have h1:=hv 0 v (.mp n) rfl rfl;cases h1 with
  |data h=>cases h
  |mp _ hD=>
   refine(callsIn_wide (n:=5)).1 ((AnyZI.keys_in h Fence.wide 5 trivial rfl (some (g.blk n)) w).mono ?_);rintro e w' ⟨rfl,rfl⟩;have hv1:Aq g (·<σ.nx) w (.map (some (g.blk n))) (.mp n):= .mp n hlt;obtain⟨hR',hx⟩:=hR.box (n:=σ.nx) (by simp) (vs:=[.map (some (g.blk n))]) (cs:=[.mp n]) (ρ7.t 23) (by simp) (by simp[Value.oneCell']) (fun i v c h1 h2=>by
    rcases i with _|i
    ·simp at h1 h2;subst h1 h2;exact hv1
    ·simp at h1)
   refine⟨_,g.AK σ.nx w.heap.size none,rfl,?_,?_,hx⟩
   ·exact hR'.more (fun i hi=>by rcases hi with h|h<;>(show i<σ.nx+1)<;>omega)
   ·refine .fn _ [] [.pointer (some ⟨w.heap.size,0,none⟩)] [] [.ptr σ.nx 0] rfl rfl (fun i v c h=>by simp at h) (fun i v c h1 h2=> ?_);rcases i with _|i
    ·simp at h1 h2;subst h1 h2;have h3:=Aq.ptr (g:=g.AK σ.nx w.heap.size none) (D:=(·<σ.nx+1)) (w:=w.alloc (.cells #[.map (some (g.blk n))] (ρ7.t 23))) σ.nx 0 (Nat.lt_succ_self _);have hb:(g.AK σ.nx w.heap.size none).blk σ.nx=w.heap.size:=by simp[Gh.AK]
     rw[hb] at h3;exact h3
    ·simp at h1
theorem AC.Fi(h7:SlLaysZI.n7 E.P ρ7)(h6:SlLaysZI.n6 E.P ρ6)(hs:∀m,AnyZI.SortsIn E.P ρ6 Fence.wide m)(he:∀vs w,(callFunc (ρ6.f 6) vs).run E.P w= .ok (.enter (ρ6.f 6) vs) w)
 (e9:∀args w,(callFunc (ρ6.f 9) args).run E.P w= .ok (.enter (ρ6.f 9) args) w) (eg:∀args w,(callFunc (ρ7.f 10) args).run E.P w= .ok (.enter (ρ7.f 10) args) w) (hk:E.P.underlying (ρ7.t 26)=some (.int .i64))
 {σ:Ao} {n b:Nat} {c:EC} {ks:List Int} {xs:List c.sem} (hb:zk σ.es b=some (.var [.mp n])) (hn:zk σ.es n=some (.map c ks xs))
 (hnd:ks.Nodup) (hwf:∀x∈ks,(Lit.int .i64 x).wf=true) (hmax:ks.length<=maxLen) (hmax8:ks.length*8<=140737488355328):
 AC E (ρ6.f 6) [.fn (.func (ρ7.f 10)) [] [.ptr b 0]] σ (.s .int (yj ks)) σ:=by
 refine⟨he,Nat.le_refl _,fun g w vs hR hl hv=> ?_⟩
 match vs,hl with
 |[v],_=>
  have h1:=hv 0 v _ rfl rfl;obtain⟨fi,caps,rfl,q1,q2,q3,q4⟩:=h1.GI;have hfi:fi=[]:=List.length_eq_zero_iff.1 q1;subst hfi
  match caps,q2 with
  |[p],_=>
   have h2:=q4 0 p _ rfl rfl;cases h2 with
   |data h=>cases h
   |ptr _ _ hD=>
    obtain⟨_,us,t,h3,h4,h5,h6',_⟩:=hR.BN b _ hb;obtain⟨D0,hown,hsz,hperm⟩:=hR.ownsMap hn hk hnd hwf hmax;have hbl:g.blk b<w.heap.size:=(Array.getElem?_eq_some_iff.1 h3).1;have hcell:w.cell? ⟨g.blk b,0,none⟩=some (.map (some (g.blk n))):=by
     have hu:0<us.length:=Nat.lt_of_lt_of_le Nat.zero_lt_one h4;have hv0:=h6' 0 us[0] _ (List.getElem?_eq_getElem hu) rfl;have:us[0]= .map (some (g.blk n)):=by
      generalize us[0]=u at hv0;cases hv0 with
      |data h=>cases h
      |mp _ _=>rfl
     simp[World.cell?,h3,hu,this]
    have hseq:SeqGives Fence.wide 2 E.P (ρ7.f 10) #[.pointer (some ⟨g.blk b,0,none⟩)] encZ (fun ss=>ss.Perm (Go.intKeys D0)) (Maps.size D0) w:=
     AnyZI.keys_gives (ρ:=ρ7) {h7 with} Fence.wide _ trivial rfl (by omega) (g.blk b) (g.blk n) ks.length D0 w hbl hcell hown
    refine(callsIn_wide (n:=5)).1 ((AnyZI.sorted_in h6 Fence.wide 5 trivial trivial trivial trivial rfl (by omega) (hs _) e9 (ρ7.f 10) #[.pointer (some ⟨g.blk b,0,none⟩)] trivial eg _ _ (by omega) (by omega) w hseq).mono ?_);rintro e w' ⟨v,ss,rfl,hS,hrow,_,hbw⟩;have hlen:ss.length=(yj ks).length:=by
     have:=(hS.trans hperm).length_eq;simp[yj,this]
    have hms:(ss.mergeSort fun x y=>decide (x<=y))=yj ks:=Go.mergeSort_of_perm_i (hS.trans hperm);rw[hms,hlen] at hrow;obtain⟨g',hR',hv',hx'⟩:=hR.given hbw hrow;exact⟨v,g',rfl,hR',hv',hx'⟩
end
end Go.Ab
