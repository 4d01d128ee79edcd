/- A part of the proofs of this seat's statements: B55, L1, L2. It has no conditions of its own. -/
import Derived.Test.YtfpadcmkjaopcaaGreatDoorA2
import Derived.ChangeReads
import Derived.ChangeArms
import Derived.ChangeShapes
import Derived.ChangeFn
import Derived.DataReads
import Derived.DataShut
import Derived.ChangeSame
namespace Go.Ab
open Go
set_option linter.unusedSimpArgs false
set_option linter.unusedVariables false
def Tm.nall(t:Tm):List V:=t.nview++[.bor (t.gnf=true)]
theorem VRel.nd_inv{g:Gh}{D:Nat→Prop}{w:World}{v:Value}{t:Tm}{off:Nat}(h:VRel g D w v (.nd t off)):
 ∃(b:Nat) (f:Nat→Value),v= .pointer (some ⟨b,off,none⟩)∧g.m b= .of t∧(∀j,j<7→w.cell? ⟨b,j,none⟩=some (f j))∧∀j c,t.nview[j]? =some c→DRel g.m w (f j) c:=by
 cases h with
 |data h=>cases h with|nd t b off f h1 h2 h3=>exact⟨b,f,rfl,h1,h2,h3⟩
section
variable {E:Env} {N:Nat} {o:Oper} {a:AF}
theorem OS.ncN{x:Operand}{t:Tm}{off:Nat}(ho:o.op= .nilCheck x)(hx:ev E 0 a x=some (.nd t off)):OS E N o a [] (.nd t off) [] []:=
 .pure fun g D es w act hR _ hF=>by
  have h:=ev_rel hx hR hF
  obtain⟨b,f,h1,_⟩:=h.nd_inv
  exact⟨.pointer (some ⟨b,off,none⟩),by simp[execOp,ho,h1],by rw[←h1];exact h⟩
theorem OS.faN{T:TypeId}{x:Operand}{i:TI}{gs:List (Nat×Nat×Bool)}{f:Nat}{p:Nat×Nat×Bool}{t:Tm}{off:Nat}(ho:o.op= .fieldAddr T x f)(ht:E.ti T=some i)(hd:i.desc= .strct gs)
 (hf:gs[f]? =some p) (hx:ev E 0 a x=some (.nd t off)):OS E N o a [] (.nd t (off+p.1)) [] []:=
 .pure fun g D es w act hR _ hF=>by
  obtain⟨fs,h1,h2⟩:=strct_inv ht hd
  obtain⟨fd,h3,h4,⟨inf,h5,h6⟩,h7,_⟩:=field_at h2 f p hf
  obtain⟨b,fv,h8,q1,q2,q3⟩:=(ev_rel hx hR hF).nd_inv
  have h9:fs[f]? =some fd:=by simpa using h3
  refine⟨.pointer (some ⟨b,off+p.1,none⟩),?_,.data (.nd t b _ fv q1 q2 q3)⟩
  simp only[execOp,ho,Instr.fieldAt,run_und h1,Sem.run_bind,Result.andThen_ok,h9,Instr.sureAddr,h8,Sem.run_pure,run_fieldPlace (E:=E) h5 (by omega),h4]
theorem OS.ldN{T:TypeId}{x:Operand}{i:TI}{t:Tm}{off:Nat}{c:V}(ho:o.op= .load T x)(ht:E.ti T=some i)(hx:ev E 0 a x=some (.nd t off))(hc:loadC i (t.nall.drop off)=some c):
 OS E N o a [] c [] []:=
 .pure fun g D es w act hR _ hF=>by
  obtain⟨b,f,h1,q1,q2,q3⟩:=(ev_rel hx hR hF).nd_inv
  obtain⟨us,ty,fl,p1,p2,p3⟩:=hR.nodes b t q1
  have hl:t.nall.length=8:=rfl
  have hln:t.nview.length=7:=rfl
  obtain⟨v',h2,h3⟩:=run_loadC (E:=E) (g:=g) (D:=D) (w:=w) (b:=b) (off:=off) ht hc (fun j=>if off+j=7 then .bool fl else f (off+j))
   (fun j hj=>by
    simp only[List.length_drop,hl] at hj
    by_cases h7:off+j=7
    ·rw [if_pos h7,h7,cell_in p1];simpa using p2
    ·rw [if_neg h7];exact q2 _ (by omega))
   (fun j c hj=>by
    rw[List.getElem?_drop] at hj
    have hlt:=(List.getElem?_eq_some_iff.1 hj).1
    rw[hl] at hlt
    by_cases h7:off+j=7
    ·rw [if_pos h7]
     rw[h7] at hj
     have:c= .bor (t.gnf=true):=by
      have e:t.nall[7]? =some (.bor (t.gnf=true)):=rfl
      rw[e] at hj;exact(Option.some.inj hj).symm
     subst this
     exact⟨.bor fl _ p3,rfl⟩
    ·rw [if_neg h7]
     have hj2:t.nview[off+j]? =some c:=by
      rw[Tm.nall,List.getElem?_append_left (by rw[hln];omega)] at hj;exact hj
     have h8:=q3 _ c hj2
     exact⟨.data h8,h8.one⟩)
  exact⟨v',by simp[execOp,ho,Instr.loadAt,Instr.sureAddr,h1,h2],h3⟩
def isPtrT(P:Program)(t:TypeId):Bool:=match P.underlying t with|some (.pointer _)=>true|_=>false
theorem isPtrT_ex{P:Program}{t:TypeId}(h:isPtrT P t=true):∃a,P.underlying t=some (.pointer a):=by
 unfold isPtrT at h
 split at h
 ·exact ⟨_,by assumption⟩
 ·cases h
def isNdV:V→Option Bool
 | .nilp=>some false
 | .nd _ _=>some true
 |_=>none
theorem nd_equal{T:TypeId}(ht:isPtrT E.P T=true){c:V}{b:Bool}(hc:isNdV c=some b){v v':Value}{g:Gh}{D:Nat→Prop}{w:World}(h1:VRel g D w v c)(h2:VRel g D w v' .nilp):
 ∃q,v= .pointer q∧v'= .pointer none∧(Op.equal T v v').run E.P w= .ok (!b) w:=by
 obtain⟨q,hu⟩:=isPtrT_ex ht
 have e2:v'= .pointer none:=by
  cases h2 with
  |data h=>cases h
  |nilp=>rfl
 subst e2
 cases c with
 |nilp=>
  simp only[isNdV,Option.some.injEq] at hc
  subst hc
  have e1:v= .pointer none:=by
   cases h1 with
   |data h=>cases h
   |nilp=>rfl
  subst e1
  refine⟨_,rfl,rfl,?_⟩
  unfold Op.equal Op.maxDepth Op.equalIn
  simp[run_und hu]
 |nd t off=>
  simp only[isNdV,Option.some.injEq] at hc
  subst hc
  obtain⟨b,f,e1,_⟩:=h1.nd_inv
  subst e1
  refine⟨_,rfl,rfl,?_⟩
  unfold Op.equal Op.maxDepth Op.equalIn
  simp[run_und hu]
 |_=>cases hc
theorem OS.ndn{t u:TypeId}{x y:Operand}{c:V}{b:Bool}(ho:o.op= .binOp .neq t x y u)(ht:isPtrT E.P t=true)(hx:ev E t a x=some c)(hc:isNdV c=some b)(hy:ev E t a y=some .nilp):OS E N o a [] (.bool b) [] []:=
 .pure fun g D es w act hR _ hF=>by
  obtain⟨q,hvx,hvy,he⟩:=nd_equal ht hc (ev_rel hx hR hF) (ev_rel hy hR hF)
  rw[hvx,hvy] at he
  exact⟨.bool b,by simp[execOp,ho,eqGuard,hvx,hvy,binOp,he],.data (.bool _)⟩
theorem OS.nde{t u:TypeId}{x y:Operand}{c:V}{b:Bool}(ho:o.op= .binOp .eql t x y u)(ht:isPtrT E.P t=true)(hx:ev E t a x=some c)(hc:isNdV c=some b)(hy:ev E t a y=some .nilp):OS E N o a [] (.bool (!b)) [] []:=
 .pure fun g D es w act hR _ hF=>by
  obtain⟨q,hvx,hvy,he⟩:=nd_equal ht hc (ev_rel hx hR hF) (ev_rel hy hR hF)
  rw[hvx,hvy] at he
  exact⟨.bool (!b),by simp[execOp,ho,eqGuard,hvx,hvy,binOp,he],.data (.bool _)⟩
theorem OS.stN{T:TypeId}{x y:Operand}{i:TI}{t:Tm}(ho:o.op= .store T x y)(ht:E.ti T=some i)(hs:i.size=1)(hx:ev E 0 a x=some (.nd t 7))(hy:ev E T a y=some (.bool true))(hn:t.gnf=true):
 OS E N o a [] (.tup []) [] []:=
 .of_skip fun g D es w act hR hp hF=>by
  obtain⟨b,f,h1,q1,q2,q3⟩:=(ev_rel hx hR hF).nd_inv
  obtain⟨us,ty,fl,p1,p2,p3⟩:=hR.nodes b t q1
  have hv:act.eval y= .bool true:=(ev_rel hy hR hF).bool_inv
  obtain⟨inf,h12,h13,_⟩:=ti_info ht
  have h7:7<us.length:=(List.getElem?_eq_some_iff.1 p2).1
  have hst:=run_storeCells_at E.P b 7 ty [Value.bool true] 0 us.toArray w p1 (by simp;omega) (fun u hu=>by simp only[List.mem_singleton] at hu;subst hu;rfl)
  have hother:∀b',b'≠b→(w.setRow b (us.take 7++[Value.bool true]++us.drop 8).toArray).heap[b']? =w.heap[b']? :=fun b' hb=>setRow_other w b b' _ hb
  have hself:(w.setRow b (us.take 7++[Value.bool true]++us.drop 8).toArray).heap[b]? =some (.cells (us.take 7++[Value.bool true]++us.drop 8).toArray ty (0,0)):=setRow_heap w _ _ _ ty _ p1
  have hcell:∀b' o',o'<(g.m b').n→(w.setRow b (us.take 7++[Value.bool true]++us.drop 8).toArray).cell? ⟨b',o',none⟩=w.cell? ⟨b',o',none⟩:=fun b' o' ho'=>by
   by_cases hb:b'=b
   ·subst hb
    rw[q1] at ho'
    rw[cell_in hself,cell_in p1]
    have ho2:o'<7:=ho'
    simp only[List.getElem?_toArray]
    rw[List.append_assoc,List.getElem?_append_left (by simp;omega),List.getElem?_take,if_pos ho2]
   ·exact cell_setRow_other w _ _ b' o' hb
  refine⟨w.setRow b (us.take 7++[Value.bool true]++us.drop 8).toArray,?_,?_,?_⟩
  ·have h14:((act.eval y).cells.size≠inf.size)=False:=by rw[hv,h13,hs];simp[Value.cells]
   have h15:(act.eval y).cells.toList=[Value.bool true]:=by rw[hv];rfl
   have e1:us.take 7++[Value.bool true]++us.drop 8=us.take (7+0)++[Value.bool true]++us.drop (7+0+[Value.bool true].length):=rfl
   simp only[execOp,ho,Instr.storeAt,Instr.sureAddr,h1,storeVar,Sem.run_bind,Sem.run_pure,Result.andThen_ok,run_size h12,h14,if_false,h15,hst]
   rfl
  ·refine hR.step (fun _=>Mrk.le_refl _) hcell (fun i hi=>hi) (fun _ _=>rfl) (fun _ _=>rfl) (fun n e he=> .inl ⟨he,fun b' hb=>⟨hother b' fun e2=> ?_,rfl⟩⟩) hR.foots (fun b' hb=>hR.fresh b' (by simpa using hb)) (fun b' t' h=> ?_)
   ·have h3:=hR.foot_nd he hb
    rw[e2,q1] at h3;cases h3
   ·by_cases hb:b'=b
    ·subst hb
     rw[q1] at h
     have e3:t'=t:=by
      have:=congrArg Mrk.nd h
      exact(Option.some.inj this).symm
     subst e3
     exact⟨_,ty,true,hself,by rw[List.append_assoc,List.getElem?_append_right (by simp;omega)];simp[Nat.min_eq_left (Nat.le_of_lt h7)],fun _=>hn⟩
    ·exact (hR.nodes b' t' h).same (hother b' hb)
  ·exact ⟨rfl,rfl,rfl,by simp,hcell,fun _=>Mrk.le_refl _,fun _ _=>rfl,fun _ _=>rfl,fun b' _ _=>⟨fun h0=>hother b' (fun e=>by rw[e,q1] at h0;cases h0),rfl⟩,fun b' h=> .inl h⟩
end
section
variable {E:Env} {N k:Nat} {a:AF} {σ:Sto} {Q:Exit→AF→Sto→Prop} {ops:List Oper} {dr:Bool} {rest:List Oper} {acc:List Rec}
variable {d:Option Tmp} {ty:TypeId} {ps:String} {af:Array Edge} {gd:Option (Nat×Bool)}
namespace L
theorem nn{x:Operand}{t:Tm}{off:Nat}(hw:wantG ops a gd=some true)(hx:ev E 0 a x=some (.nd t off))(hd:dstOk N d=true)(h2:AX E N k dr ops rest (a.put d (.nd t off)) σ (⟨[],.nd t off,0,[]⟩::acc) Q):
 AX E N k dr ops (⟨d,.nilCheck x,ty,ps,af,gd⟩::rest) a σ acc Q:=
 AX.run 0 hw (OS.ncN rfl (fr (by simp[Op.operands,Call.operands]) hx)) trivial hd h2
theorem nf{T:TypeId}{x:Operand}{z:Nat}{zr:List V}{gs:List (Nat×Nat×Bool)}{f:Nat}{p:Nat×Nat×Bool}{t:Tm}{off:Nat}(hw:wantG ops a gd=some true)(hx:ev E 0 a x=some (.nd t off))(ht:E.ti T=some ⟨z,zr,.strct gs⟩)
 (hf:gs[f]? =some p) (hd:dstOk N d=true) (h2:AX E N k dr ops rest (a.put d (.nd t (off+p.1))) σ (⟨[],.nd t (off+p.1),0,[]⟩::acc) Q):AX E N k dr ops (⟨d,.fieldAddr T x f,ty,ps,af,gd⟩::rest) a σ acc Q:=
 AX.run 0 hw (OS.faN rfl ht rfl hf (fr (by simp[Op.operands,Call.operands]) hx)) trivial hd h2
theorem nl{T:TypeId}{x:Operand}{i:TI}{t:Tm}{off:Nat}{c:V}(hw:wantG ops a gd=some true)(hx:ev E 0 a x=some (.nd t off))(ht:E.ti T=some i)(hc:loadC i (t.nall.drop off)=some c)(hd:dstOk N d=true)
 (h2:AX E N k dr ops rest (a.put d c) σ (⟨[],c,0,[]⟩::acc) Q):AX E N k dr ops (⟨d,.load T x,ty,ps,af,gd⟩::rest) a σ acc Q:=
 AX.run 0 hw (OS.ldN rfl ht (fr (by simp[Op.operands,Call.operands]) hx) hc) trivial hd h2
theorem ndn{t u:TypeId}{x y:Operand}{c:V}{b:Bool}(hw:wantG ops a gd=some true)(ht:isPtrT E.P t=true)(hx:ev E t a x=some c)(hc:isNdV c=some b)(hy:ev E t a y=some .nilp)(hd:dstOk N d=true)
 (h2:AX E N k dr ops rest (a.put d (.bool b)) σ (⟨[],.bool b,0,[]⟩::acc) Q):AX E N k dr ops (⟨d,.binOp .neq t x y u,ty,ps,af,gd⟩::rest) a σ acc Q:=
 AX.run 0 hw (OS.ndn rfl ht (fr (by simp[Op.operands,Call.operands]) hx) hc (fr (by simp[Op.operands,Call.operands]) hy)) trivial hd h2
theorem nde{t u:TypeId}{x y:Operand}{c:V}{b:Bool}(hw:wantG ops a gd=some true)(ht:isPtrT E.P t=true)(hx:ev E t a x=some c)(hc:isNdV c=some b)(hy:ev E t a y=some .nilp)(hd:dstOk N d=true)
 (h2:AX E N k dr ops rest (a.put d (.bool (!b))) σ (⟨[],.bool (!b),0,[]⟩::acc) Q):AX E N k dr ops (⟨d,.binOp .eql t x y u,ty,ps,af,gd⟩::rest) a σ acc Q:=
 AX.run 0 hw (OS.nde rfl ht (fr (by simp[Op.operands,Call.operands]) hx) hc (fr (by simp[Op.operands,Call.operands]) hy)) trivial hd h2
theorem ns{T:TypeId}{x y:Operand}{i:TI}{t:Tm}(hn:t.gnf=true)(hw:wantG ops a gd=some true)(hx:ev E 0 a x=some (.nd t 7))(hy:ev E T a y=some (.bool true))(ht:E.ti T=some i)(hs:Nat.beq i.size 1=true)(hd:dstOk N d=true)
 (h2:AX E N k dr ops rest (a.put d (.tup [])) σ (⟨[],.tup [],0,[]⟩::acc) Q):AX E N k dr ops (⟨d,.store T x y,ty,ps,af,gd⟩::rest) a σ acc Q:=
 AX.run 0 hw (OS.stN rfl ht (Nat.eq_of_beq_eq_true hs) (fr (by simp[Op.operands,Call.operands]) hx) (fr (by simp[Op.operands,Call.operands]) hy) hn) trivial hd h2
end L
theorem AW.condB{c:Operand}{x y:Code}{P:Prop}(hc:ev E 0 a c=some (.bor P))(ht:P→AW E N k x a σ Q)(hf:AW E N k y a σ Q):AW E N k (.cond c x y) a σ Q:=by
 constructor
 intro hk g w act hR hF hY
 have hv:=ev_rel hc hR hF
 obtain⟨b,hb,hp⟩:∃b,act.eval c= .bool b∧(b=true→P):=by
  generalize act.eval c=v at hv
  cases hv with
  |data h=>cases h
  |bor b _ h=>exact⟨b,rfl,h⟩
 exact wp_cond_split hb (fun h=>(ht (hp h)).run hk g w act hR hF hY) (fun h=>hf.run hk g w act hR hF hY)
theorem Weak.node(n t':Nat)(t:Tm)(hn:findE σ.es n=some (.var (t.nview++[.bool false])))(hd:a.get t'=some (.ptr n 0)):
 Weak E N k a σ ((t',.nd t 0)::a) ⟨σ.nx,(n,.gone)::σ.es⟩:=by
 intro hk
 refine⟨hk,fun g w act hR hF=> ?_⟩
 obtain⟨h1,vs,ty,h2,h3,h4,h5,_⟩:=hR.ents n _ hn
 let g':Gh:={g with m:=fun b=>if b=g.blk n then .of t else g.m b}
 have hlt:g.blk n<w.heap.size:=(Array.getElem?_eq_some_iff.1 h2).1
 have hmn:g'.m (g.blk n)= .of t:=if_pos rfl
 have hm':∀b,b≠g.blk n→g'.m b=g.m b:=fun b hb=>if_neg hb
 have hm:∀b,g.m b≤g'.m b:=fun b=>by
  by_cases hb:b=g.blk n
  ·subst hb;rw[hmn];exact Mrk.le_of h1
  ·rw [hm' b hb];exact Mrk.le_refl _
 have hl8:(t.nview++[V.bool false]).length=8:=rfl
 have hln:t.nview.length=7:=rfl
 have hvw:∀c∈t.nview,V.isD c=true:=by
  intro c hc
  simp only[Tm.nview,List.mem_cons,List.not_mem_nil,or_false] at hc
  rcases hc with rfl|rfl|rfl|rfl|rfl|rfl|rfl<;>rfl
 have hmono:∀{v c},VRel g (·<σ.nx) w v c→VRel g' (·<σ.nx) w v c:=fun h=>h.mono hm (fun _ _ _=>rfl) (fun _ h=>h) (fun _ _=>rfl) (fun _ _=>rfl)
 have hfind:∀i e,findE ((n,Ent.gone)::σ.es) i=some e→(i=n∧e= .gone)∨(i≠n∧findE σ.es i=some e):=fun i e he=>by
  rcases findE_gone he with h|h
  ·exact .inl h
  ·exact .inr h
 have hne:∀i e b,i≠n→findE σ.es i=some e→e.foot g i=some b→b≠g.blk n:=fun i e b hi he hb e2=>hi (hR.foots i n e _ b he hn hb (by simp[Ent.foot,e2]))
 have hfoot:∀(e:Ent) i,e.foot g' i=e.foot g i:=fun e i=>by cases e<;>rfl
 refine⟨g',?_,⟨hF.size,hF.defers,fun t1 c hc=> ?_⟩,?_⟩
 ·refine hR.step hm (fun _ _ _=>rfl) (fun _ h=>h) (fun _ _=>rfl) (fun _ _=>rfl) (fun i e he=> ?_) (fun i j e e' b he he' hb hb'=> ?_) (fun b hb=> ?_) (fun b t1 h=> ?_)
  ·rcases hfind i e he with⟨rfl,rfl⟩|⟨hi,he⟩
   ·exact .inr ⟨hR.lt _ _ hn,trivial⟩
   ·exact .inl ⟨he,fun b hb=>⟨rfl,hm' b (hne i e b hi he hb)⟩⟩
  ·rw [hfoot] at hb hb'
   rcases hfind i e he with⟨rfl,rfl⟩|⟨hi,he⟩
   ·cases hb
   ·rcases hfind j e' he' with⟨rfl,rfl⟩|⟨hj,he'⟩
    ·cases hb'
    ·exact hR.foots i j e e' b he he' hb hb'
  ·rw [hm' b (by omega)];exact hR.fresh b hb
  ·by_cases hb:b=g.blk n
   ·subst hb
    rw[hmn] at h
    have e3:t1=t:=(Option.some.inj (congrArg Mrk.nd h)).symm
    subst e3
    rw[hl8] at h3
    have h7:vs[7]? =some (vs[7]'(by omega)):=List.getElem?_eq_getElem _
    have h6:=(h5 7 _ (.bool false) h7 rfl).bool_inv
    exact⟨vs,ty,false,h2,by rw[h7,h6],fun h=>by cases h⟩
   ·rw [hm' b hb] at h;exact hR.nodes b t1 h
 ·rw [AF.get_cons] at hc
  by_cases ht:t'=t1
  ·subst ht
   simp only[if_true,Option.some.injEq] at hc
   subst hc
   obtain⟨v,q1,q2⟩:=hF.vals t' _ hd
   refine⟨v,q1,?_⟩
   cases q2 with
   |data h=>cases h
   |ptr _ _ hD=>
    refine .data (.nd t (g.blk n) 0 (fun j=>vs.getD j undef) hmn (fun j hj=> ?_) (fun j c hj=> ?_))
    ·rw [hl8] at h3
     rw[cell_in h2]
     have:j<vs.length:=by omega
     simp[List.getElem?_eq_getElem this,List.getD_eq_getElem?_getD]
    ·have hlt7:=(List.getElem?_eq_some_iff.1 hj).1
     rw[hln] at hlt7
     rw[hl8] at h3
     have h8:vs[j]? =some (vs[j]'(by omega)):=List.getElem?_eq_getElem _
     have h9:(t.nview++[V.bool false])[j]? =some c:=by rw[List.getElem?_append_left (by rw[hln];exact hlt7)];exact hj
     rw[List.getD_eq_getElem?_getD,h8]
     exact((h5 j _ c h8 h9).isD (hvw c (List.mem_of_getElem? hj))).mono hm (fun _ _ _=>rfl)
  ·rw [if_neg ht] at hc
   obtain⟨v,q1,q2⟩:=hF.vals t1 c hc
   exact⟨v,q1,hmono q2⟩
 ·refine ⟨rfl,rfl,rfl,Nat.le_refl _,fun _ _ _=>rfl,hm,fun _ _=>rfl,fun _ _=>rfl,fun b hb hnf=>⟨fun _=>rfl,hm' b fun hh=>hnf ⟨n,_,hn,by simp[Ent.foot,hh]⟩⟩,fun b hb=> .inl ?_⟩
  obtain⟨i,e,q1,q2⟩:=hb
  rw[hfoot] at q2
  rcases hfind i e q1 with⟨rfl,rfl⟩|⟨hi,he⟩
  ·cases q2
  ·exact ⟨i,e,he,q2⟩
theorem AW.node{code:Code}(n t':Nat)(t:Tm)(hn:findE σ.es n=some (.var (t.nview++[.bool false])))(hd:a.get t'=some (.ptr n 0))(h:AW E N k code ((t',.nd t 0)::a) ⟨σ.nx,(n,.gone)::σ.es⟩ Q):AW E N k code a σ Q:=
 AW.weak (Weak.node n t' t hn hd) h
end
end Go.Ab
namespace Go.Ab
open Go
set_option linter.all false
def allN(W:World)(b:Nat):Nat:=match W.heap[b]? with
 |some (.cells cs _ _)=>cs.size
 |_=>0
def allM(W:World)(b:Nat):Mrk:=sh (allN W b)
theorem allM_cell{W:World}{b o:Nat}{v:Value}(h:W.cell? ⟨b,o,none⟩=some v):o<(allM W b).n:=by
 show o<allN W b
 unfold allN
 simp only[World.cell?] at h
 split at h
 ·rename_i cs t fr hh
  rw[hh]
  simp only at h ⊢
  exact(Array.getElem?_eq_some_iff.1 h).1
 ·cases h
def gh0(W:World):Gh:=⟨fun _=>0,fun _=>none,allM W⟩
def Old(W W':World):Prop:=∀b,b<W.heap.size→W'.heap[b]? =W.heap[b]?
theorem Old.cell{W W':World}(h:Old W W'){a:Addr}{v:Value}(hc:W.cell? a=some v):W'.cell? a=some v:=by
 have hb:a.block<W.heap.size:=by
  simp only[World.cell?] at hc
  split at hc
  ·rename_i hh
   exact(Array.getElem?_eq_some_iff.1 hh).1
  ·cases hc
 rw[←hc]
 simp only[World.cell?,h a.block hb]
theorem spot_none{W:World}{a:Addr}{i:Nat}{v:Value}(hv:W.cell? (a.add i)=some v):a.add i=⟨a.block,a.off+i,none⟩:=by
 have hspot:(a.add i).spot=none:=by
  cases hsp:(a.add i).spot with
  |none=>rfl
  |some s=>
   simp only[World.cell?] at hv
   split at hv
   ·simp [hsp] at hv
   ·cases hv
 unfold Addr.add at hspot ⊢
 split
 ·rename_i h0
  subst h0
  rw[if_pos rfl] at hspot
  cases a
  simp_all
 ·rfl
section
variable {H:Type} {enc:TypeId×Value→H} {P:Program} {W:World}
def Rel(W:World)(cs:List Value)(vs:List V):Prop:=cs.length=vs.length∧∀(i:Nat) v c,cs[i]? =some v→vs[i]? =some c→DRel (allM W) W v c
def Keeps(enc:TypeId×Value→H)(P:Program)(W:World)(n:Nat)(t:TypeId)(cs:List Value)(x:DataW H×List MemPlace):Prop:=
 ∀W' sp,Old W W'→(∀b,b<W.heap.size→sp b=true)→DataW.trod enc P W' 0 sp true n t cs=some x
def Good(enc:TypeId×Value→H)(P:Program)(W:World)(n:Nat)(t:TypeId)(F:List V→Prop):Prop:=
 ∀cs x,DataW.trod enc P W 0 (fun _=>true) true n t cs=some x→Keeps enc P W n t cs x∧∃vs,F vs∧Rel W cs vs
theorem Old.cells{W':World}(h:Old W W'){a:Addr}{n:Nat}{cs:List Value}(hc:W.cells? 0 a n=some cs):W'.cells? 0 a n=some cs:=by
 obtain⟨h1,h2,h3⟩:=World.cells?_some hc
 exact World.cells?_of_each h1 h2 fun i hi=>by
  have h4:=h3 i hi
  rw[List.getElem?_eq_getElem (by omega)] at h4 ⊢
  exact h.cell h4
theorem good_int{t:TypeId}{k:IntKind}(ht:P.underlying t=some (.int k))(n:Nat):Good enc P W n t (fun vs=>∃i,vs=[.int k i]∧(Lit.int k i).wf=true):=by
 intro cs x h
 obtain⟨i,rfl,rfl,hw⟩:=DataW.trod_int ht h
 refine⟨fun W' sp _ _=> ?_,[.int k i],⟨i,rfl,hw⟩,rfl,?_⟩
 ·cases n with
  |zero=>simp[DataW.trod] at h
  |succ n=>simp[DataW.trod,ht,hw]
 ·intro j v c hv hc
  cases j with
  |zero=>simp at hv hc;subst hv;subst hc;exact .int k i
  |succ j=>simp at hv
theorem mapM_eq_of{α β:Type}{f g:α→Option β}:∀{l:List α} {r:List β},l.mapM f=some r→(∀x∈l,∀y,f x=some y→g x=some y)→l.mapM g=some r:=by
 intro l
 induction l with
 |nil=>intro r h _;simpa using h
 |cons x l ih=>
  intro r h hg
  simp only[List.mapM_cons,Option.bind_eq_bind,Option.bind_eq_some_iff,Option.pure_def,Option.some.injEq] at h ⊢
  obtain⟨y,h1,ys,h2,rfl⟩:=h
  exact⟨y,hg x (by simp) y h1,ys,ih h2 fun z hz=>hg z (by simp[hz]),rfl⟩
theorem slice_relP{t e:TypeId}{c:EC}{n:Nat}(p:c.sem→Prop)(ht:P.underlying t=some (.slice e))(hc:P.cellsOf e=c.cells)(hpos:0<c.cells)(he:Good enc P W n e (fun vs=>∃y:c.sem,vs=c.view y∧p y))
 {cs:List Value} {x:DataW H×List MemPlace} (h:DataW.trod enc P W 0 (fun _=>true) true (n+1) t cs=some x):
 Keeps enc P W (n+1) t cs x∧∃vs,(∃ys:List c.sem,vs=[.slice .any (.t c ys)]∧ys.length≤maxLen∧∀y∈ys,p y)∧Rel W cs vs:=by
 have h':=h
 rcases DataW.trod_slice ht h with⟨rfl,rfl⟩|⟨a,len,cap,elems,rest,n',hn,rfl,hx,hb,hlc,hcm,hel,hi,hr,_⟩
 ·refine ⟨fun W' sp _ _=>by simp[DataW.trod,ht],[.slice .any (.t c [])],⟨[],rfl,Nat.zero_le _,fun y hy=>by cases hy⟩,rfl,?_⟩
  intro j v d hv hd
  cases j with
  |zero=>simp at hv hd;subst hv;subst hd;exact .nilS _ rfl
  |succ j=>simp at hv
 ·cases hn
  have key:∀i,i<len→∃us y,W.cells? 0 (a.add (i*P.cellsOf e)) (P.cellsOf e)=some us∧DataW.trod enc P W 0 (fun _=>true) true n e us=some y∧elems[i]? =some y:=by
   intro i hlt
   have h1:=hi i hlt
   rw[List.getElem?_eq_getElem (by omega)] at h1 ⊢
   obtain⟨us,h2,h3⟩:=Option.bind_eq_some_iff.1 h1
   exact⟨us,_,h2,h3,rfl⟩
  have hex:∀k,k≤len→∃ys:List c.sem,ys.length=k∧(∀y∈ys,p y)∧∀i,i<k→∃us y,W.cells? 0 (a.add (i*P.cellsOf e)) (P.cellsOf e)=some us∧ys[i]? =some y∧Rel W us (c.view y):=by
   intro k
   induction k with
   |zero=>intro _;exact⟨[],rfl,(fun y hy=>by cases hy),fun i hi=>by omega⟩
   |succ k ih=>
    intro hk
    obtain⟨ys,h1,h0,h2⟩:=ih (by omega)
    obtain⟨us,y,h3,h4,_⟩:=key k (by omega)
    obtain⟨_,vs,⟨z,rfl,hz⟩,hrel⟩:=he us y h4
    refine⟨ys++[z],by simp[h1],(fun y hy=>by
     rcases List.mem_append.1 hy with h|h
     ·exact h0 y h
     ·simp only[List.mem_singleton] at h;subst h;exact hz),fun i hlt=> ?_⟩
    by_cases hik:i<k
    ·obtain ⟨us',y',h5,h6,h7⟩:=h2 i hik
     exact⟨us',y',h5,by rw[List.getElem?_append_left (by omega)];exact h6,h7⟩
    ·have:i=k:=by omega
     subst this
     exact⟨us,z,h3,by rw[List.getElem?_append_right (by omega)];simp[h1],hrel⟩
  obtain⟨ys,hyl,hyp,hys⟩:=hex len (Nat.le_refl _)
  refine⟨fun W' sp hold hsp=> ?_,[.slice .any (.t c ys)],⟨ys,rfl,by omega,hyp⟩,rfl,?_⟩
  ·
   have hcarry:∀i,(W.cells? 0 (a.add (i*P.cellsOf e)) (P.cellsOf e)).bind (DataW.trod enc P W 0 (fun _=>true) true n e)=none∨
    (W'.cells? 0 (a.add (i*P.cellsOf e)) (P.cellsOf e)).bind (DataW.trod enc P W' 0 sp true n e)=(W.cells? 0 (a.add (i*P.cellsOf e)) (P.cellsOf e)).bind (DataW.trod enc P W 0 (fun _=>true) true n e):=by
    intro i
    cases hc1:W.cells? 0 (a.add (i*P.cellsOf e)) (P.cellsOf e) with
    |none=>exact .inl rfl
    |some us=>
     cases ht1:DataW.trod enc P W 0 (fun _=>true) true n e us with
     |none=>left;simp[ht1]
     |some y=>
      right
      rw[hold.cells hc1]
      simp only[Option.bind_some]
      rw[ht1,(he us y ht1).1 W' sp hold hsp]
   have hblk:0<cap→a.block<W.heap.size:=by
    intro hcap
    by_cases hl:0<len
    ·obtain ⟨us,y,h3,_⟩:=key 0 hl
     have:=World.cells?_block h3 (by omega)
     simpa [Addr.add] using this
    ·obtain ⟨h5,h6⟩:=hr rfl
     have h7:=h6 0 (by omega)
     rw[List.getElem?_eq_getElem (by omega)] at h7
     obtain⟨us,h8,_⟩:=Option.bind_eq_some_iff.1 h7
     have:=World.cells?_block h8 (by omega)
     have e1:(a.add ((len+0)*P.cellsOf e)).block=a.block:=by unfold Addr.add;split<;>rfl
     rw[e1] at this
     exact this
   have hspb:cap-len=0∨sp a.block=true:=by
    by_cases hcap:0<cap
    ·exact .inr (hsp _ (hblk hcap))
    ·left;omega
   unfold DataW.trod at h' ⊢
   rw[ht] at h' ⊢
   simp only at h' ⊢
   have hcond:0≤a.block∧len≤cap∧cap≤maxLen:=⟨hb,hlc,hcm⟩
   rw[if_pos hcond] at h' ⊢
   obtain⟨el,h1,h2⟩:=Option.bind_eq_some_iff.1 h'
   obtain⟨re,h3,h4⟩:=Option.map_eq_some_iff.1 h2
   simp only[if_true] at h3
   refine Option.bind_eq_some_iff.2 ⟨el,mapM_eq_of h1 fun i _ y hy=> ?_,Option.map_eq_some_iff.2 ⟨re,?_,h4⟩⟩
   ·rcases hcarry i with hc1|hc1
    ·rw [hc1] at hy;cases hy
    ·rw [hc1];exact hy
   ·rcases hspb with h0|h0
    ·rw [h0] at h3 ⊢
     simp at h3
     subst h3
     split<;>simp
    ·rw [if_pos h0]
     exact mapM_eq_of h3 fun j _ y hy=>by
      rcases hcarry (len+j) with hc1|hc1
      ·rw [hc1] at hy;cases hy
      ·rw [hc1];exact hy
  ·intro j v d hv hd
   cases j with
   |succ j=>simp at hv
   |zero=>
    simp only[List.getElem?_cons_zero,Option.some.injEq] at hv hd
    subst hv;subst hd
    by_cases hlen:len=0
    ·subst hlen
     exact .emp (.t c ys) hyl a cap
    have hsp0:a=⟨a.block,a.off,none⟩:=by
     obtain⟨us,y,h3,_⟩:=key 0 (by omega)
     obtain⟨_,h4,h5⟩:=World.cells?_some h3
     have h6:=h5 0 (by omega)
     rw[List.getElem?_eq_getElem (by omega)] at h6
     have:=spot_none h6
     simpa [Addr.add] using this
    obtain⟨ab,ao,as⟩:=a
    have:as=none:=by simpa using hsp0
    subst this
    have hadd:∀o k,Addr.add (⟨ab,o,none⟩:Addr) k=⟨ab,o+k,none⟩:=fun o k=>by
     unfold Addr.add;split
     ·rename_i h0;rw[h0];rfl
     ·rfl
    have hget:∀i j,i<ys.length→j<c.cells→∃v,W.cell? ⟨ab,ao+(i*c.cells+j),none⟩=some v∧∀cs d,(SL.t c ys:SL V).get i=some cs→cs[j]? =some d→DRel (allM W) W v d:=by
     intro i j hi2 hj
     obtain⟨us,y,h5,h6,h7,h8⟩:=hys i (by omega)
     obtain⟨_,h9,h10⟩:=World.cells?_some h5
     have h11:=h10 j (by omega)
     rw[hadd,hadd,List.getElem?_eq_getElem (by omega),hc] at h11
     refine⟨us[j]'(by omega),by rw[←Nat.add_assoc];exact h11,fun cs d h12 h13=> ?_⟩
     have:cs=c.view y:=by
      simp only[SL.get,h6,Option.map_some,Option.some.injEq] at h12
      exact h12.symm
     subst this
     exact h8 j _ d (List.getElem?_eq_getElem _) h13
    refine DRel.slice (SL.t c ys) ab ao cap (fun i j=>(W.cell? ⟨ab,ao+(i*c.cells+j),none⟩).getD undef) ?_ (by show ys.length≤cap;omega) ?_ ?_ ?_|>fun h=>by rw[show len=(SL.t c ys:SL V).len from hyl.symm];exact h
    ·show ao+ys.length*c.cells≤(allM W ab).n
     obtain⟨v,hv,_⟩:=hget (ys.length-1) (c.cells-1) (by omega) (by omega)
     have:=allM_cell hv
     have e1:(ys.length-1)*c.cells+c.cells=ys.length*c.cells:=by
      rw[←Nat.succ_mul];congr 1;omega
     omega
    ·intro i hi2
     exact⟨c.view (ys[i]'hi2),by show(ys[i]?).map c.view=_;rw[List.getElem?_eq_getElem (show i<ys.length from hi2)];rfl,EC.view_len _ _⟩
    ·intro i j hi2 hj
     obtain⟨v,hv,_⟩:=hget i j hi2 hj
     show W.cell? ⟨ab,ao+(i*c.cells+j),none⟩=_
     rw[hv];rfl
    ·intro i j cs d hi2 h12 h13
     have hj:j<c.cells:=by
      have:cs=c.view (ys[i]'hi2):=by
       simp only[SL.get,List.getElem?_eq_getElem (show i<ys.length from hi2),Option.map_some,Option.some.injEq] at h12
       exact h12.symm
      subst this
      have:=(List.getElem?_eq_some_iff.1 h13).1
      rw[EC.view_len] at this;exact this
     obtain⟨v,hv,hd⟩:=hget i j hi2 hj
     show DRel _ _ ((W.cell? ⟨ab,ao+(i*c.cells+j),none⟩).getD undef) d
     rw[hv]
     exact hd cs d h12 h13
theorem slice_rel{t e:TypeId}{c:EC}{n:Nat}(ht:P.underlying t=some (.slice e))(hc:P.cellsOf e=c.cells)(hpos:0<c.cells)(he:Good enc P W n e (fun vs=>∃y:c.sem,vs=c.view y))
 {cs:List Value} {x:DataW H×List MemPlace} (h:DataW.trod enc P W 0 (fun _=>true) true (n+1) t cs=some x):
 Keeps enc P W (n+1) t cs x∧∃vs,(∃ys:List c.sem,vs=[.slice .any (.t c ys)]∧ys.length≤maxLen)∧Rel W cs vs:=by
 obtain⟨h1,vs,⟨ys,h2,h3,_⟩,h4⟩:=slice_relP (p:=fun _=>True) ht hc hpos (fun cs x hx=>by
  obtain⟨q1,vs,⟨y,q2⟩,q3⟩:=he cs x hx
  exact⟨q1,vs,⟨y,q2,trivial⟩,q3⟩) h
 exact⟨h1,vs,⟨ys,h2,h3⟩,h4⟩
theorem good_slice{t e:TypeId}{c:EC}{n:Nat}(ht:P.underlying t=some (.slice e))(hc:P.cellsOf e=c.cells)(hpos:0<c.cells)(he:Good enc P W n e (fun vs=>∃y:c.sem,vs=c.view y)):
 Good enc P W (n+1) t (fun vs=>∃ys:List c.sem,vs=[.slice .any (.t c ys)]∧ys.length≤maxLen):=fun cs x h=>slice_rel ht hc hpos he h
theorem good_zero{t:TypeId}{F:List V→Prop}:Good enc P W 0 t F:=fun cs x h=>by simp[DataW.trod] at h
theorem good_ints{t e:TypeId}(ht:P.underlying t=some (.slice e))(he:P.underlying e=some (.int .i64))(hc:P.cellsOf e=1)(n:Nat):Good enc P W n t (fun vs=>∃ys:List Int,vs=[.slice .any (.t .int ys)]∧ys.length≤maxLen):=by
 cases n with
 |zero=>exact good_zero
 |succ n=>
  refine good_slice (c:= .int) ht hc (by decide) ?_
  intro cs x h
  obtain⟨h1,vs,⟨i,rfl,_⟩,h2⟩:=good_int he n cs x h
  exact⟨h1,_,⟨i,rfl⟩,h2⟩
theorem arg_of{t:TypeId}{v:Value}{d:DataW H}{ps:List MemPlace}{F:List V→Prop}(h:DataW.Trod enc P W 0 (fun _=>true) true t v d ps)(hg:∀n,Good enc P W n t F):
 (∀W' sp,Old W W'→(∀b,b<W.heap.size→sp b=true)→DataW.Trod enc P W' 0 sp true t v d ps)∧∃vs,F vs∧Rel W v.cells.toList vs:=by
 obtain⟨n,hn⟩:=h
 obtain⟨h1,h2⟩:=hg n _ _ hn
 exact⟨fun W' sp ho hs=>⟨n,h1 W' sp ho hs⟩,h2⟩
theorem slice_val{t e:TypeId}{r:Reach}{base:Nat}{v:Value}(ht:P.underlying t=some (.slice e))(h:Value.okWide P W r base t v):v.cells.toList=[v]:=by
 cases v<;>simp[Value.okWide,ht,Cell.okWide,Cell.ok] at h<;>rfl
theorem rel_one{v:Value}{c:V}(hv:v.cells.toList=[v])(h:Rel W v.cells.toList [c]):DRel (allM W) W v c:=by
 obtain⟨_,h2⟩:=h
 exact h2 0 v c (by rw[hv];rfl) rfl
theorem R_start{G:Glob}(hG:∀p∈G,∀(j:Nat) c,p.2[j]? =some c→∃v,W.cell? ⟨p.1,j,none⟩=some v∧DRel (allM W) W v c):R G (gh0 W) (·<0) [] W:=by
 refine⟨fun n e h=>(by cases h),fun n n' e e' b h=>(by cases h),fun n e h=>(by cases h),fun b hb=> ?_,fun b t h=>(Mrk.not_of rfl h).elim,fun p hp=>⟨?_,hG p hp⟩⟩
 ·show sh (allN W b)=sh 0
  unfold allN
  rw[Array.getElem?_eq_none hb]
 ·show p.2.length≤(allM W p.1).n
  cases hl:p.2 with
  |nil=>exact Nat.zero_le _
  |cons x l=>
   have hlt:p.2.length-1<p.2.length:=by rw[hl];simp
   obtain⟨v,hv,_⟩:=hG p hp (p.2.length-1) _ (List.getElem?_eq_getElem hlt)
   have:=allM_cell hv
   rw[←hl]
   omega
theorem old_of_ext{g':Gh}{W':World}{F':Nat→Prop}(h:Ext (·<0) (gh0 W) (Foot (gh0 W) []) W g' F' W'):Old W W':=fun b hb=>
 (h.frame b hb (fun hf=>by obtain⟨n,e,h1,_⟩:=hf;cases h1) rfl).1
theorem kept_of_old{W':World}(h:Old W W')(ho:W'.os=W.os)(hp:W'.output=W.output)(may:MemPlace→Prop):W.keptBut W' may:=by
 refine⟨ho,hp,fun i hi=> ?_⟩
 rw[h i hi]
 exact(World.keptBut_refl W may).2.2 i hi
theorem law_calls{E:Env}{f:FuncId}{args:List V}{vs:List Value}(h:PC E f args (.bool true))(hG:∀p∈E.G,∀(j:Nat) c,p.2[j]? =some c→∃v,W.cell? ⟨p.1,j,none⟩=some v∧DRel (allM W) W v c)
 (hl:vs.length=args.length) (hr:∀(i:Nat) v c,vs[i]? =some v→args[i]? =some c→VRel (gh0 W) (·<0) W v c):
 Calls E.P f vs.toArray W fun e W'=>e= .returned (.bool true)∧Old W W'∧W'.os=W.os∧W'.output=W.output:=by
 obtain⟨_,_,h3⟩:=h
 refine(h3 (gh0 W) W vs (R_start hG) hl hr).mono ?_
 rintro e W' ⟨v,g',rfl,_,hv,hx⟩
 have:=hv.bool_inv
 subst this
 exact⟨rfl,old_of_ext hx,hx.os,hx.output⟩
end
mutual
def Tm.wf:Tm→Prop
 | .mk _ i _ xs=>(-9223372036854775808≤i∧i≤9223372036854775807)∧Tm.wfs xs
def Tm.wfs:List Tm→Prop
 |[]=>True
 |t::l=>t.wf∧Tm.wfs l
end
mutual
def Fm.wf:Fm→Prop
 | .mk _ _ ts xs=>(∀t∈ts,t.wf)∧Fm.wfs xs
def Fm.wfs:List Fm→Prop
 |[]=>True
 |t::l=>t.wf∧Fm.wfs l
end
def structB(P:Program)(t:TypeId)(l:List (TypeId×Nat)):Bool:=match P.underlying t with
 |some (.struct fs)=>decide (fs.toList.map (fun f=>(f.type,f.offset))=l)
 |_=>false
def contB(P:Program):Nat→List (TypeId×Nat)→Nat→Bool
 |o,[],n=>o==n
 |o,p::l,n=>p.2==o&&contB P (o+P.cellsOf p.1) l n
inductive Cat:List (List V→Prop)→List V→Prop
 |nil:Cat [] []
 |cons {F:List V→Prop} {Fs:List (List V→Prop)} {a b:List V} (h:F a) (hb:Cat Fs b):Cat (F::Fs) (a++b)
section
variable {H:Type} {enc:TypeId×Value→H} {P:Program} {W:World}
theorem Rel.app{c1 c2:List Value}{v1 v2:List V}(h1:Rel W c1 v1)(h2:Rel W c2 v2):Rel W (c1++c2) (v1++v2):=by
 obtain⟨l1,r1⟩:=h1
 obtain⟨l2,r2⟩:=h2
 refine⟨by simp[l1,l2],fun i v c hv hc=> ?_⟩
 by_cases hi:i<c1.length
 ·rw [List.getElem?_append_left hi] at hv
  rw[List.getElem?_append_left (by omega)] at hc
  exact r1 i v c hv hc
 ·rw [List.getElem?_append_right (by omega)] at hv
  rw[List.getElem?_append_right (by omega)] at hc
  rw[←l1] at hc
  exact r2 _ v c hv hc
abbrev FI(vs:List V):Prop:=∃i,vs=[V.i i]∧(Lit.int .i64 i).wf=true
abbrev FS(c:EC)(vs:List V):Prop:=∃ys:List c.sem,vs=[V.s c ys]∧ys.length≤maxLen
structure DataT (P:Program) where
 ti:TypeId
 ty:TypeId
 tys:TypeId
 tm:TypeId
 tms:TypeId
 h0:P.underlying ti=some (.int .i64)
 h1:structB P ty [(ti,0),(tys,1)]=true
 h2:contB P 0 [(ti,0),(tys,1)] (P.cellsOf ty)=true
 h3:P.underlying tys=some (.slice ty)
 h4:P.cellsOf ty=2
 h5:structB P tm [(ti,0),(ti,1),(ty,2),(tms,4)]=true
 h6:contB P 0 [(ti,0),(ti,1),(ty,2),(tms,4)] (P.cellsOf tm)=true
 h7:P.underlying tms=some (.slice tm)
 h8:P.cellsOf tm=5
structure FormT (P:Program) extends DataT P where
 fm:TypeId
 fms:TypeId
 k1:structB P fm [(ti,0),(ty,1),(tms,3),(fms,4)]=true
 k2:contB P 0 [(ti,0),(ty,1),(tms,3),(fms,4)] (P.cellsOf fm)=true
 k3:P.underlying fms=some (.slice fm)
 k4:P.cellsOf fm=5
def KeepsArg(enc:TypeId×Value→H)(P:Program)(W:World)(t:TypeId)(v:Value)(d:DataW H)(ps:List MemPlace):Prop:=
 ∀W' sp,Old W W'→(∀b,b<W.heap.size→sp b=true)→DataW.Trod enc P W' 0 sp true t v d ps
abbrev Is(W:World)(v:Value)(c:V):Prop:=VRel (gh0 W) (·<0) W v c
theorem arg_ints{t e:TypeId}{v:Value}{d:DataW H}{ps:List MemPlace}{r:Reach}{base:Nat}(ht:P.underlying t=some (.slice e))(he:P.underlying e=some (.int .i64))(hc:P.cellsOf e=1)
 (h:DataW.Trod enc P W 0 (fun _=>true) true t v d ps) (hv:Value.okWide P W r base t v):KeepsArg enc P W t v d ps∧∃l:List Int,Is W v (.s .int l)∧l.length≤maxLen:=by
 obtain⟨keep,vs,⟨l,rfl,hl⟩,hr⟩:=arg_of h (good_ints ht he hc)
 exact⟨keep,l,.data (rel_one (slice_val ht hv) hr),hl⟩
abbrev FSw(c:EC)(p:c.sem→Prop)(vs:List V):Prop:=∃ys:List c.sem,vs=[V.s c ys]∧ys.length≤maxLen∧∀y∈ys,p y
end
end Go.Ab
