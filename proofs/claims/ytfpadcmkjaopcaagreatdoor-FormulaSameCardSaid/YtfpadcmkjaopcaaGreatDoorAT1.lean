/- A part of the proofs of this seat's statements: B33, B30, B31. It has no conditions of its own. -/
import Derived.Test.YtfpadcmkjaopcaaGreatDoorA2
import Derived.Maps.RangeRun
import Derived.Shelf.SlIterI.Sorted
namespace Go.Ab
open Go Go.ChangeMaps
set_option linter.unusedSimpArgs false
set_option linter.unusedVariables false
structure Rng (w:World) (r bm:Nat) (es:Array MapEntry) (clock:Nat) (l:List Int) (cnt:Nat):Prop where
 mp:w.heap[bm]? =some (.map es clock)
 it:∃since seen c0,w.heap[r]? =some (.mapIter (some bm) since seen c0)∧(∀x∈es.toList,x.born<since)∧since≤c0∧since≤clock∧(∀x∈es.toList,seen.contains x.born=true↔∃q∈l,x.key= .int .i64 q)∧(leftOf es seen).size=cnt
theorem Rng.ne{w:World}{r bm:Nat}{es:Array MapEntry}{clock:Nat}{l:List Int}{cnt:Nat}(h:Rng w r bm es clock l cnt):r≠bm:=by
 obtain⟨since,seen,c0,h1,_⟩:=h.it
 intro e
 rw[e,h.mp] at h1;cases h1
theorem Rng.next{P:Program}{w:World}{r bm:Nat}{es:Array MapEntry}{clock:Nat}{l:List Int}{cnt:Nat}(h:Rng w r bm es clock l cnt)(hborn:Born es.toList clock){ks:List Int}(hlen:es.size=ks.length)
 (hkey:∀(i:Nat) e k,es.toList[i]? =some e→ks[i]? =some k→e.key= .int .i64 k) (hnd:ks.Nodup) (hl:l.Nodup) (hlk:∀x∈l,x∈ks) (ty:TypeId):
 (l.Perm ks∧(Instr.next (.pointer (some ⟨r,0,none⟩)) false ty).run P w= .ok (.tuple #[.bool false]) w)∨
 ∃q v w' cnt',q∈ks∧q∉l∧(Instr.next (.pointer (some ⟨r,0,none⟩)) false ty).run P w= .ok (.tuple #[.bool true,.int .i64 q,v]) w'∧Rng w' r bm es clock (l++[q]) cnt'∧cnt'<cnt∧
  (w'.os=w.os∧w'.tape=w.tape∧w'.output=w.output∧w'.heap.size=w.heap.size∧∀b,b≠r→w'.heap[b]? =w.heap[b]?)∧(Instr.entry (.pointer (some ⟨r,0,none⟩))).run P w'= .ok (.tuple #[.int .i64 q,v]) w':=by
 have hne:=h.ne
 have hb:=h.mp
 obtain⟨since,seen,c0,hr,hold,hsc,hsk,hseen,hcnt⟩:=h.it
 have hat:∀e∈es.toList,∃i k,es.toList[i]? =some e∧ks[i]? =some k∧e.key= .int .i64 k:=fun e he=>by
  obtain⟨i,hi⟩:=List.mem_iff_getElem?.1 he
  have hi2:=(List.getElem?_eq_some_iff.1 hi).1
  have hi3:i<ks.length:=by rw[←hlen];simpa using hi2
  exact⟨i,ks[i],hi,List.getElem?_eq_getElem hi3,hkey i e _ hi (List.getElem?_eq_getElem hi3)⟩
 rcases run_next_at (P:=P) w ty r bm since c0 seen es clock hr hb hold hsc with⟨h0,hrun⟩|⟨e,he,w1,hal,hrun⟩
 ·refine .inl ⟨(List.perm_ext_iff_of_nodup hl hnd).2 fun x=>⟨hlk x,fun hx=> ?_⟩,hrun⟩
  obtain⟨i,hi⟩:=List.mem_iff_getElem?.1 hx
  have hi2:=(List.getElem?_eq_some_iff.1 hi).1
  have hi3:i<es.toList.length:=by simp;omega
  have h1:=all_seen es seen h0 _ (List.getElem_mem hi3)
  obtain⟨q,hq,hk⟩:=(hseen _ (List.getElem_mem hi3)).1 h1
  have:=hkey i _ _ (List.getElem?_eq_getElem hi3) hi
  rw[this] at hk
  cases hk
  exact hq
 ·obtain ⟨hem,hes⟩:=mem_left he
  obtain⟨i,q,hi,hq,hek⟩:=hat e hem
  have hr1:w1.heap[r]? =some (.mapIter (some bm) since seen c0):=by rcases hal with rfl|rfl<;>exact hr
  have hb1:w1.heap[bm]? =some (.map es clock):=by rcases hal with rfl|rfl<;>exact hb
  have hset:=MapKept.heap_set (o':= .mapIter (some bm) since (seen.push e.born) clock) hr1
  have hb':(setBlock w1 r (.mapIter (some bm) since (seen.push e.born) clock)).heap[bm]? =some (.map es clock):=(hset.2 bm (fun e1=>hne e1.symm)).trans hb1
  have hql:q∉l:=fun hc=>by
   have:=(hseen e hem).2 ⟨q,hc,hek⟩
   rw[hes] at this;cases this
  have hone:∀x∈es.toList,x.born=e.born→x=e:=fun x hx hxe=>born_inj hborn.2 hx hem hxe
  have hone2:∀x∈es.toList,x.key= .int .i64 q→x=e:=fun x hx hxe=>by
   obtain⟨j,q',hj,hq',hxk⟩:=hat x hx
   rw[hxe] at hxk
   cases hxk
   have h1:=(List.getElem?_eq_some_iff.1 hq)
   have h2:=(List.getElem?_eq_some_iff.1 hq')
   have hij:i=j:=by
    have hp:=List.pairwise_iff_getElem.1 hnd
    obtain⟨a1,a2⟩:=h1
    obtain⟨b1,b2⟩:=h2
    rcases Nat.lt_trichotomy i j with h|h|h
    ·exact absurd (a2.trans b2.symm) (hp i j a1 b1 h)
    ·exact h
    ·exact absurd (b2.trans a2.symm) (hp j i b1 a1 h)
   subst hij
   rw[hi] at hj;exact(Option.some.inj hj).symm
  rw[hek] at hrun
  refine .inr ⟨q,e.val,_,(leftOf es (seen.push e.born)).size,List.mem_of_getElem? hq,hql,hrun,⟨hb',since,seen.push e.born,clock,hset.1,hold,hsk,hsk,fun x hx=> ?_,rfl⟩,by rw[←hcnt];exact left_shrinks es seen e he,?_,?_⟩
  ·rw [contains_push,Bool.or_eq_true,beq_iff_eq,hseen x hx]
   constructor
   ·rintro (⟨q',h1,h2⟩|h1)
    ·exact ⟨q',by simp[h1],h2⟩
    ·rw [hone x hx h1];exact⟨q,by simp,hek⟩
   ·rintro ⟨q',h1,h2⟩
    rcases List.mem_append.1 h1 with h1|h1
    ·exact .inl ⟨q',h1,h2⟩
    ·simp only[List.mem_singleton] at h1
     subst h1
     exact .inr (by rw[hone2 x hx h2])
  ·rcases hal with rfl|rfl<;>exact⟨rfl,rfl,rfl,by simp[setBlock],fun b hbr=>hset.2 b hbr⟩
  ·have:=run_entry_at (P:=P) _ r bm since seen es clock e hset.1 hb' hem hborn.2
   rw[hek] at this;exact this
section
variable {E:Env} {N k:Nat} {a:AF} {σ:Sto} {Q:Exit→AF→Sto→Prop}
end
end Go.Ab
namespace Go.Ab
open Go Go.Proofs Go.RowKit Go.Sort
set_option linter.unusedSimpArgs false
set_option linter.unusedVariables false
def rdNil:Value→Option (DataW Unit×List MemPlace):=fun _=>some (.nil,[])
theorem R.ownsMap{G:Glob}{g:Gh}{D:Nat→Prop}{es:Es}{w:World}(hR:R G g D es w){n:Nat}{c:EC}{ks:List Int}{xs:List c.sem}(hn:findE es n=some (.map c ks xs)){P:Program}{k:TypeId}
 (hk:P.underlying k=some (.int .i64)) (hnd:ks.Nodup) (hwf:∀x∈ks,(Lit.int .i64 x).wf=true) (hmax:ks.length≤maxLen):
 ∃D0:DataW Unit,w.ownsMap P k rdNil (g.blk n) ks.length D0∧Maps.size D0=ks.length∧(Go.intKeys D0).Perm ks:=by
 obtain⟨_,ms,clock,h4,⟨h5,hb⟩,h6,h7,h8⟩:=hR.ents n _ hn
 have hlen:ms.length=ks.length:=h5.trans h6.symm
 have hkeys:ms.map (·.key)=ks.map (Value.int .i64):=by
  apply List.ext_getElem?
  intro i
  rw[List.getElem?_map,List.getElem?_map]
  rcases Nat.lt_or_ge i ms.length with hi|hi
  ·have hi':i<ks.length:=by omega
   rw[List.getElem?_eq_getElem hi,List.getElem?_eq_getElem hi']
   simp only[Option.map_some]
   rw[h7 i _ _ (List.getElem?_eq_getElem hi) (List.getElem?_eq_getElem hi')]
  ·rw [List.getElem?_eq_none (by omega),List.getElem?_eq_none (by omega)];rfl
 have hrd:∀x∈ms,∃q∈ks,x.key= .int .i64 q∧Go.WideElems.rd P k rdNil x=some (.int .i64 q,.nil):=fun x hx=>by
  have h1:x.key∈ms.map (·.key):=List.mem_map_of_mem hx
  rw[hkeys] at h1
  obtain⟨q,hq,e⟩:=List.mem_map.1 h1
  refine⟨q,hq,e.symm,?_⟩
  simp only[Go.WideElems.rd,←e,Go.Maps.keyOf_int_mk hk (hwf q hq),rdNil,Option.bind_some,Option.map_some]
 have hrg:(ms.map (Go.WideElems.rg P k rdNil))=ks.map fun q=>(Lit.int .i64 q,(DataW.nil:DataW Unit)):=by
  apply List.ext_getElem?
  intro i
  rw[List.getElem?_map,List.getElem?_map]
  rcases Nat.lt_or_ge i ms.length with hi|hi
  ·have hi':i<ks.length:=by omega
   rw[List.getElem?_eq_getElem hi,List.getElem?_eq_getElem hi']
   simp only[Option.map_some]
   obtain⟨q,hq,e1,e2⟩:=hrd ms[i] (List.getElem_mem hi)
   have e3:=h7 i _ _ (List.getElem?_eq_getElem hi) (List.getElem?_eq_getElem hi')
   rw[e1] at e3
   have:q=ks[i]:=by simpa using e3
   rw[Go.WideElems.rg_of e2,this]
  ·rw [List.getElem?_eq_none (by omega),List.getElem?_eq_none (by omega)];rfl
 refine⟨.map ((ms.map (Go.WideElems.rg P k rdNil)).foldr DataW.insert []),⟨ms.toArray,clock,h4,⟨by simp;omega,⟨by simpa using hb.1,by simpa using hb.2,?_⟩,?_⟩,by simp;omega,rfl⟩,?_,?_⟩
 ·simp only[hkeys]
  rw[List.Nodup,List.pairwise_map]
  exact hnd.imp fun h e=>h (by simpa using e)
 ·intro x hx
  obtain⟨q,_,_,e⟩:=hrd x (by simpa using hx)
  exact⟨_,e⟩
 ·rw [hrg]
  show((ks.map fun q=>(Lit.int .i64 q,(DataW.nil:DataW Unit))).foldr DataW.insert []).length=_
  rw[(Go.WideShapes.sorted_perm _).length_eq,List.length_map]
 ·rw [hrg]
  show(((ks.map fun q=>(Lit.int .i64 q,(DataW.nil:DataW Unit))).foldr DataW.insert []).map fun p=>Go.intOf p.1).Perm ks
  refine((Go.WideShapes.sorted_perm _).map _).trans ?_
  rw[List.map_map]
  show(ks.map fun q=>q).Perm ks
  rw[List.map_id']
theorem R.given{G:Glob}{g:Gh}{D:Nat→Prop}{es:Es}{w w':World}(hR:R G g D es w)(hb:Below w.heap.size w w'){t:TypeId}{v:Value}{ns:List Int}
 (ho:w'.ownsRow w.heap.size t 1 v ns.length (ns.map encZ)):
 ∃g',R G g' D es w'∧VRel g' D w' v (.s .int ns)∧Ext D g (Foot g es) w g' (Foot g' es) w':=by
 have hcell0:∀b o,o<(g.m b).n→w'.cell? ⟨b,o,none⟩=w.cell? ⟨b,o,none⟩:=fun b o ho=>by
  refine World.cell?_of_block (a:=⟨b,o,none⟩) (hb.block b ?_)
  rcases Nat.lt_or_ge b w.heap.size with h|h
  ·exact h
  ·rw [hR.fresh b h] at ho;exact absurd ho (Nat.not_lt_zero _)
 rcases ho.2 with⟨rfl,hz⟩|⟨gb,cap,cur,rfl,h1,h2,h3,h4,h5,h6⟩
 ·have hns:ns=[]:=List.length_eq_zero_iff.1 hz
  subst hns
  refine⟨g,hR.step (fun _=>Mrk.le_refl _) hcell0 (fun _ h=>h) (fun _ _=>rfl) (fun _ _=>rfl) (fun i e he=> .inl ⟨he,fun b h=>⟨hb.block b (hR.foot_lt he h),rfl⟩⟩) hR.foots ?_ (hR.nodesH (fun _ _ h=>h) fun b t h=>hb.block b (hR.node_lt h)),.data (.nilS _ rfl),?_⟩
  ·intro b h
   exact hR.fresh b (Nat.le_trans hb.size h)
  ·exact ⟨hb.os,hb.tape,hb.output,hb.size,hcell0,fun _=>Mrk.le_refl _,fun _ _=>rfl,fun _ _=>rfl,fun b h _=>⟨fun _=>hb.block b h,rfl⟩,fun b h=> .inl h⟩
 ·have hgl:gb<w'.heap.size:=(Array.getElem?_eq_some_iff.1 h2).1
  have hm0:g.m gb=0:=hR.fresh gb h1
  have hm:∀b,g.m b≤(g.share gb ns.length).m b:=fun b=>by
   by_cases h:b=gb
   ·subst h;simp only[Gh.share,if_true];exact Mrk.le_sh hm0 (Nat.zero_le _)
   ·simp only[Gh.share,h,if_false];exact Mrk.le_refl _
  have hsame:∀b,b<w.heap.size→w'.heap[b]? =w.heap[b]? ∧(g.share gb ns.length).m b=g.m b:=fun b h=>⟨hb.block b h,by
   have:b≠gb:=by omega
   simp[Gh.share,this]⟩
  refine⟨g.share gb ns.length,hR.step hm hcell0 (fun _ h=>h) (fun _ _=>rfl) (fun _ _=>rfl) (fun i e he=> .inl ⟨he,fun b h=>hsame b (hR.foot_lt he h)⟩) hR.foots ?_ (hR.nodesH (fun b t h=>by
   simp only[Gh.share] at h;split at h
   ·exact (Mrk.not_of rfl h).elim
   ·exact h) fun b t h=>hb.block b (hR.node_lt h)),?_,?_⟩
  ·intro b h
   have:b≠gb:=by omega
   simp[Gh.share,this]
   exact hR.fresh b (Nat.le_trans hb.size h)
  ·refine .data ?_
   have hrow:DRel (g.share gb ns.length).m w' (.slice (some ⟨gb,0,none⟩) (SL.len (V:=V) (.t .int ns)) cap) (.slice .any (.t .int ns)):=by
    refine DRel.of_row (m:=g.m) (w:=w) (cells:=cur.toList) (t:=t) (fr:=(0,0)) (by simpa using h2) h3 ?_ ?_ ?_ hm hcell0
    ·simp [Gh.share,SL.len,SL.cells,EC.cells]
    ·intro i hi
     simp only[SL.len] at hi
     exact⟨[.i ns[i]],by simp[SL.get,List.getElem?_eq_getElem hi,EC.view],rfl⟩
    ·intro i j cs c h7 h8 h9 h10
     simp only[SL.len] at h9
     simp only[SL.cells,EC.cells] at h10 ⊢
     have hj:j=0:=by omega
     subst hj
     simp only[SL.get,List.getElem?_eq_getElem h9,Option.map_some,Option.some.injEq,EC.view] at h7
     subst h7
     simp at h8
     subst h8
     refine⟨.int .i64 ns[i],?_,.int _ _⟩
     have h11:(cur.toList.take (ns.length*1))[i]? =(ns.map encZ)[i]? :=by rw[h6]
     rw[List.getElem?_take_of_lt (by omega)] at h11
     rw[Nat.mul_one,Nat.add_zero,h11]
     simp[List.getElem?_eq_getElem h9]
   exact hrow
  ·exact ⟨hb.os,hb.tape,hb.output,hb.size,hcell0,hm,fun _ _=>rfl,fun _ _=>rfl,fun b h _=>fr2 (hsame b h),fun b h=> .inl h⟩
section
variable {E:Env} {ρ7 ρ6:Go.Shelf.Ren}
theorem AC.mapKeys(h:SlLaysZI.n7 E.P ρ7)(he:∀vs w,(callFunc (ρ7.f 7) vs).run E.P w= .ok (.enter (ρ7.f 7) vs) w){σ:Sto}{n:Nat}:
 n<σ.nx→AC E (ρ7.f 7) [.mp n] σ (.fn (.func (ρ7.f 10)) [] [.ptr σ.nx 0]) ⟨σ.nx+1,(σ.nx,.var [.mp n])::σ.es⟩:=by
 intro hlt
 refine⟨he,by simp,fun g w vs hR hl hv=> ?_⟩
 match vs,hl with
 |[v],_=>
  have h1:=hv 0 v (.mp n) rfl rfl
  cases h1 with
  |data h=>cases h
  |mp _ hD=>
   refine(callsIn_wide (n:=5)).1 ((AnyZI.keys_in h Fence.wide 5 trivial rfl (some (g.blk n)) w).mono ?_)
   rintro e w' ⟨rfl,rfl⟩
   have hv1:VRel g (·<σ.nx) w (.map (some (g.blk n))) (.mp n):= .mp n hlt
   obtain⟨hR',hx⟩:=hR.box (n:=σ.nx) (by simp) (vs:=[.map (some (g.blk n))]) (cs:=[.mp n]) (ρ7.t 23) (by simp) (by simp[Value.oneCell']) (fun i v c h1 h2=>by
    rcases i with _|i
    ·simp at h1 h2;subst h1 h2;exact hv1
    ·simp at h1)
   refine⟨_,g.nameR σ.nx w.heap.size none,rfl,?_,?_,hx⟩
   ·exact hR'.more (fun i hi=>by rcases hi with h|h<;>(show i<σ.nx+1)<;>omega)
   ·refine .fn _ [] [.pointer (some ⟨w.heap.size,0,none⟩)] [] [.ptr σ.nx 0] rfl rfl (fun i v c h=>by simp at h) (fun i v c h1 h2=> ?_)
    rcases i with _|i
    ·simp at h1 h2;subst h1 h2
     have h3:=VRel.ptr (g:=g.nameR σ.nx w.heap.size none) (D:=(·<σ.nx+1)) (w:=w.alloc (.cells #[.map (some (g.blk n))] (ρ7.t 23))) σ.nx 0 (Nat.lt_succ_self _)
     have hb:(g.nameR σ.nx w.heap.size none).blk σ.nx=w.heap.size:=by simp[Gh.nameR]
     rw[hb] at h3
     exact h3
    ·simp at h1
def sortI(l:List Int):List Int:=l.mergeSort fun x y=>decide (x≤y)
theorem AC.sortedKeys(h7:SlLaysZI.n7 E.P ρ7)(h6:SlLaysZI.n6 E.P ρ6)(hs:∀m,AnyZI.SortsIn E.P ρ6 Fence.wide m)(he:∀vs w,(callFunc (ρ6.f 6) vs).run E.P w= .ok (.enter (ρ6.f 6) vs) w)
 (e9:∀args w,(callFunc (ρ6.f 9) args).run E.P w= .ok (.enter (ρ6.f 9) args) w) (eg:∀args w,(callFunc (ρ7.f 10) args).run E.P w= .ok (.enter (ρ7.f 10) args) w) (hk:E.P.underlying (ρ7.t 26)=some (.int .i64))
 {σ:Sto} {n b:Nat} {c:EC} {ks:List Int} {xs:List c.sem} (hb:findE σ.es b=some (.var [.mp n])) (hn:findE σ.es n=some (.map c ks xs))
 (hnd:ks.Nodup) (hwf:∀x∈ks,(Lit.int .i64 x).wf=true) (hmax:ks.length≤maxLen) (hmax8:ks.length*8≤140737488355328):
 AC E (ρ6.f 6) [.fn (.func (ρ7.f 10)) [] [.ptr b 0]] σ (.s .int (sortI ks)) σ:=by
 refine⟨he,Nat.le_refl _,fun g w vs hR hl hv=> ?_⟩
 match vs,hl with
 |[v],_=>
  have h1:=hv 0 v _ rfl rfl
  obtain⟨fi,caps,rfl,q1,q2,q3,q4⟩:=h1.fn_inv
  have hfi:fi=[]:=List.length_eq_zero_iff.1 q1
  subst hfi
  match caps,q2 with
  |[p],_=>
   have h2:=q4 0 p _ rfl rfl
   cases h2 with
   |data h=>cases h
   |ptr _ _ hD=>
    obtain⟨_,us,t,h3,h4,h5,h6',_⟩:=hR.ents b _ hb
    obtain⟨D0,hown,hsz,hperm⟩:=hR.ownsMap hn hk hnd hwf hmax
    have hbl:g.blk b<w.heap.size:=(Array.getElem?_eq_some_iff.1 h3).1
    have hcell:w.cell? ⟨g.blk b,0,none⟩=some (.map (some (g.blk n))):=by
     have hu:0<us.length:=Nat.lt_of_lt_of_le Nat.zero_lt_one h4
     have hv0:=h6' 0 us[0] _ (List.getElem?_eq_getElem hu) rfl
     have:us[0]= .map (some (g.blk n)):=by
      generalize us[0]=u at hv0
      cases hv0 with
      |data h=>cases h
      |mp _ _=>rfl
     simp[World.cell?,h3,hu,this]
    have hseq:SeqGives Fence.wide 2 E.P (ρ7.f 10) #[.pointer (some ⟨g.blk b,0,none⟩)] encZ (fun ss=>ss.Perm (Go.intKeys D0)) (Maps.size D0) w:=
     AnyZI.keys_gives (ρ:=ρ7) {h7 with} Fence.wide _ trivial rfl (by omega) (g.blk b) (g.blk n) ks.length D0 w hbl hcell hown
    refine(callsIn_wide (n:=5)).1 ((AnyZI.sorted_in h6 Fence.wide 5 trivial trivial trivial trivial rfl (by omega) (hs _) e9 (ρ7.f 10) #[.pointer (some ⟨g.blk b,0,none⟩)] trivial eg _ _ (by omega) (by omega) w hseq).mono ?_)
    rintro e w' ⟨v,ss,rfl,hS,hrow,_,hbw⟩
    have hlen:ss.length=(sortI ks).length:=by
     have:=(hS.trans hperm).length_eq
     simp[sortI,this]
    have hms:(ss.mergeSort fun x y=>decide (x≤y))=sortI ks:=Go.mergeSort_of_perm_i (hS.trans hperm)
    rw[hms,hlen] at hrow
    obtain⟨g',hR',hv',hx'⟩:=hR.given hbw hrow
    exact⟨v,g',rfl,hR',hv',hx'⟩
end
end Go.Ab
namespace Go.Ab
open Go
set_option linter.unusedSimpArgs false
set_option linter.unusedVariables false
def lkB(k:Int)(ks:List Int)(cs:List Bool):Bool:=match keyAt k ks with|some i=>cs.getD i false|none=>false
section
variable {E:Env} {N:Nat} {o:Oper} {a:AF}
end
section
variable {E:Env} {N k:Nat} {a:AF} {σ:Sto}
variable {Q:Exit→AF→Sto→Prop} {ops:List Oper} {dr:Bool} {rest:List Oper} {acc:List Rec}
variable {d:Option Tmp} {ty:TypeId} {ps:String} {af:Array Edge} {gd:Option (Nat×Bool)}
end
end Go.Ab
