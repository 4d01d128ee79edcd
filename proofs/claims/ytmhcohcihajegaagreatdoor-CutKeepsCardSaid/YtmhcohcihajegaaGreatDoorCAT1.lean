/- A part of this seat's proofs. No conditions. -/
import Derived.Maps.RangeRun
import Derived.Shelf.SlIterI.Sorted
import Derived.Test.YtmhcohcihajegaaGreatDoorCA2
namespace Go.Ab
open Go Go.ChangeMaps
set_option linter.unusedSimpArgs false
set_option linter.unusedVariables false
theorem R.turn{G:D5}{g:Gh}{D:Nat->Prop}{es:Es}{w w':World}(hR:R G g D es w){r:Nat}(hm:g.m r=0)(hf:¬Av g es r)(hs:w.heap.size<=w'.heap.size)(ho:∀b,b<w.heap.size->b≠r->w'.heap[b]? =w.heap[b]?):R G g D es w':=by
 have hcell:∀b o,o<g.m b->w'.cell? ⟨b,o,none⟩=w.cell? ⟨b,o,none⟩:=fun b o hb=>by
  have hb2:b<w.heap.size:=by
   rcases jk b w.heap.size with h|h
   .exact h
   .rw[hR.fresh b h] at hb;omega
  have:b≠r:=fun e=>kr
  exact World.cell?_of_block (a:=⟨b,o,none⟩) (ho b hb2 this)
 refine hR.step (fun _=>fB _) hcell (fun _ h=>h) (fun _ _=>rfl) (fun _ _=>rfl) (fun n e h=> .inl ⟨h,fun b hb=>⟨ho b (hR.B4 h hb) fun e2=>hf ⟨n,e,h,kr⟩,rfl⟩⟩) hR.Bd fun b hb=>hR.fresh b kn
theorem Ext.turn{D:Nat->Prop}{g g':Gh}{F F':Nat->Prop}{w0 w w':World}(h:Ext D g F w0 g' F' w){r:Nat}(hr:w0.heap.size<=r)(hfr:∀b,w0.heap.size<=b->g.m b=0)(hs:w.heap.size<=w'.heap.size)(ho:∀b,b<w.heap.size->b≠r->w'.heap[b]? =w.heap[b]?)
 (h1:w'.os=w.os) (h2:w'.tape=w.tape) (h3:w'.output=w.output):Ext D g F w0 g' F' w' where
 os:=h1.trans h.os
 tape:=h2.trans h.tape
 output:=h3.trans h.output
 size:=gD h.size hs
 cells b o hb:=by
  have hb2:b<w0.heap.size:=by
   grind
  exact(World.cell?_of_block (a:=⟨b,o,none⟩) (ho b (iW hb2 h.size) kn)).trans (h.cells b o hb)
 mark:=h.mark
 blk:=h.blk
 row:=h.row
 frame b hb hF:=⟨(ho b (iW hb h.size) kn).trans (h.frame b hb hF).1,(h.frame b hb hF).2⟩
 CQ:=h.CQ
structure HO (w:World) (r bm:Nat) (es:Array MapEntry) (clock:Nat) (l:List Int) (cnt:Nat):Prop where
 mp:w.heap[bm]? =some (.map es clock)
 it:∃since seen c0,w.heap[r]? =some (.mapIter (some bm) since seen c0)/\(∀x∈es.toList,x.born<since)/\since<=c0/\since<=clock/\(∀x∈es.toList,seen.contains x.born=true↔∃q∈l,x.key= .int .i64 q)/\(leftOf es seen).size=cnt
theorem HO.ne{w:World}{r bm:Nat}{es:Array MapEntry}{clock:Nat}{l:List Int}{cnt:Nat}(h:HO w r bm es clock l cnt):r≠bm:=by
 obtain⟨since,seen,c0,h1,_⟩:=h.it;intro e;rw[e,h.mp] at h1;cases h1
theorem HO.kept{w w':World}{r bm:Nat}{es:Array MapEntry}{clock:Nat}{l:List Int}{cnt:Nat}(h:HO w r bm es clock l cnt)(h1:w'.heap[bm]? =w.heap[bm]?)(h2:w'.heap[r]? =w.heap[r]?):HO w' r bm es clock l cnt:=by
 obtain⟨since,seen,c0,h3,h4⟩:=h.it;exact⟨h1.trans h.mp,since,seen,c0,h2.trans h3,h4⟩
theorem HO.start{w:World}{bm:Nat}{es:Array MapEntry}{clock:Nat}(hb:w.heap[bm]? =some (.map es clock))(hborn:Ej es.toList clock):HO (w.alloc (.mapIter (some bm) clock #[] clock)) w.heap.size bm es clock [] es.size:=by
 have hlt:bm<w.heap.size:=(g8.1 hb).1;refine⟨((j5 hlt).trans (iB hlt).symm).trans hb,clock,#[],clock,heap_alloc_new w _,hborn.1,fB _,fB _,fun x hx=> ?_,?_⟩
 .simp
 .simp[leftOf]
theorem HO.next{P:Program}{w:World}{r bm:Nat}{es:Array MapEntry}{clock:Nat}{l:List Int}{cnt:Nat}(h:HO w r bm es clock l cnt)(hborn:Ej es.toList clock){ks:List Int}(hlen:es.size=ks.length)
 (hkey:∀(i:Nat) e k,es.toList[i]? =some e->ks[i]? =some k->e.key= .int .i64 k) (hnd:ks.Nodup) (hl:l.Nodup) (hlk:∀x∈l,x∈ks) (ty:TypeId):
 (l.Perm ks/\(Instr.next (.pointer (some ⟨r,0,none⟩)) false ty).run P w= .ok (.tuple #[.bool false]) w)\/
 ∃q v w' cnt',q∈ks/\q∉l/\(Instr.next (.pointer (some ⟨r,0,none⟩)) false ty).run P w= .ok (.tuple #[.bool true,.int .i64 q,v]) w'/\HO w' r bm es clock (l++[q]) cnt'/\cnt'<cnt/\
  (w'.os=w.os/\w'.tape=w.tape/\w'.output=w.output/\w'.heap.size=w.heap.size/\∀b,b≠r->w'.heap[b]? =w.heap[b]?)/\(Instr.entry (.pointer (some ⟨r,0,none⟩))).run P w'= .ok (.tuple #[.int .i64 q,v]) w':=by
 have hne:=h.ne;have hb:=h.mp;obtain⟨since,seen,c0,hr,hold,hsc,hsk,hseen,hcnt⟩:=h.it;have hat:∀e∈es.toList,∃i k,es.toList[i]? =some e/\ks[i]? =some k/\e.key= .int .i64 k:=fun e he=>by
  obtain⟨i,hi⟩:=jr.1 he;have hi2:=(fZ.1 hi).1;have hi3:i<ks.length:=kr
  exact⟨i,ks[i],hi,fG hi3,hkey i e _ hi (fG hi3)⟩
 rcases run_next_at (P:=P) w ty r bm since c0 seen es clock hr hb hold hsc with⟨h0,hrun⟩|⟨e,he,w1,hal,hrun⟩
 .refine .inl ⟨(List.perm_ext_iff_of_nodup hl hnd).2 fun x=>⟨hlk x,fun hx=> ?_⟩,hrun⟩;obtain⟨i,hi⟩:=jr.1 hx;have hi2:=(fZ.1 hi).1;have hi3:i<es.toList.length:=kr
  have h1:=all_seen es seen h0 _ (fA hi3)
  grind
 .obtain ⟨hem,hes⟩:=mem_left he;obtain⟨i,q,hi,hq,hek⟩:=hat e hem;have hr1:w1.heap[r]? =some (.mapIter (some bm) since seen c0):=by rcases hal with rfl|rfl<;>exact hr
  have hb1:w1.heap[bm]? =some (.map es clock):=by rcases hal with rfl|rfl<;>exact hb
  have hset:=MapKept.heap_set (o':= .mapIter (some bm) since (seen.push e.born) clock) hr1;have hb':(setBlock w1 r (.mapIter (some bm) since (seen.push e.born) clock)).heap[bm]? =some (.map es clock):=(hset.2 bm (fun e1=>hne e1.symm)).trans hb1;have hql:q∉l:=fun hc=>by
   grind
  have hone:∀x∈es.toList,x.born=e.born->x=e:=fun x hx hxe=>born_inj hborn.2 hx hem hxe;have hone2:∀x∈es.toList,x.key= .int .i64 q->x=e:=fun x hx hxe=>by
   obtain⟨j,q',hj,hq',hxk⟩:=hat x hx;rw[hxe] at hxk;cases hxk;have h1:=(fZ.1 hq);have h2:=(fZ.1 hq');have hij:i=j:=by
    have hp:=jI.1 hnd
    grind
   grind
  rw[hek] at hrun;refine .inr ⟨q,e.val,_,(leftOf es (seen.push e.born)).size,iQ hq,hql,hrun,⟨hb',since,seen.push e.born,clock,hset.1,hold,hsk,hsk,fun x hx=> ?_,rfl⟩,by rw[<-hcnt];exact left_shrinks es seen e he,?_,?_⟩
  .grind
  .rcases hal with rfl|rfl<;>exact⟨rfl,rfl,rfl,by simp[setBlock],fun b hbr=>hset.2 b hbr⟩
  .have:=run_entry_at (P:=P) _ r bm since seen es clock e hset.1 hb' hem hborn.2
   grind
section
variable {E:Env} {N k:Nat} {a:AF} {σ:Ao} {Q:Exit->AF->Ao->Prop}
theorem Aq.H8{g g':Gh}{D D':Nat->Prop}{w w':World}{v:Value}{c:EC}{x:c.sem}(h:Aq g D w v (HI c x))(hm:∀b,g.m b<=g'.m b)(hw:∀b o,o<g.m b->w'.cell? ⟨b,o,none⟩=w.cell? ⟨b,o,none⟩):Aq g' D' w' v (HI c x):=by
 have hall:=eM c x;unfold HI at h ⊢;generalize c.view x=cs at h hall ⊢;have one:∀{u:Value} {d:V},Aq g D w u d->V.HU d=true->Aq g' D' w' u d:=fun h hd=> .data ((h.HU hd).mono hm hw)
 match cs with
 |[d]=>grind
 |[]=>
  cases h with
  |data h=>cases h
  |agg vs _ hl h1 h2=>exact .agg vs _ hl h1 fun i v c _ hc=>kr
 |d::e::l=>
  cases h with
  |data h=>cases h
  |agg vs _ hl h1 h2=>exact .agg vs _ hl h1 fun i v c hv hc=>one (h2 i v c hv hc) (fF.1 hall c (iQ hc))
theorem KN{P:Program}{o:Oper}{act:Act}{w w':World}{v:Value}{ops:Array Oper}{rest:List Oper}{Q:Exit->Act->World->Prop}(hg:o.guard=none)(h:(execOp act.eval o).run P w= .ok (.value v) w')
 (h2:wpList P ops Q rest (act.put o.dst v) w'):wpList P ops Q (o::rest) act w:=
 wpList_plain hg fun K hK=>by
  unfold Oper.wp;rw[h];exact hK _ _ h2
theorem Act.Bw{act:Act}{t:Nat}{v:Value}(h:t<act.tmps.size):(act.put (some t) v).eval (.tmp t)=v:=by
 simp[Act.eval,Act.put,gv,gU,h]
theorem AW.Lx{i2 i3 i4 b0 b1:Nat}{t6 t7 t8 t9 t10 t11 t4:Tmp}{x:Operand}{T T1 T2 T3 T4 T5 T6 T7 kt et:TypeId}{p1 p2 p3 p4 p5 p6 p7:String}{e1 e2 e3 e4 e5 e6 e7:Array Edge}{body:Code}{n:Nat}{c:EC}{ks:List Int}{xs:List c.sem}
 (hx:ev E T1 a x=some (.mp n)) (hn:zo σ.es n=some (.map c ks xs)) (hnk:n<k) (hm:E.P.underlying T=some (.map kt et)) (hnd:ks.Nodup)
 (hd:(Nat.blt t6 N&&Nat.blt t7 N&&Nat.blt t8 N&&Nat.blt t9 N&&Nat.blt t10 N&&Nat.blt t11 N&&Nat.blt t4 N&& !Nat.beq t7 t8&& !Nat.beq t7 t9&& !Nat.beq t7 t10&& !Nat.beq t7 t11)=true)
 (J:Nat->List Int->AF×Ao) (hJ7:∀r l,(J r l).1.get t7=some (.raw (.pointer (some ⟨r,0,none⟩)))) (hJt:∀r l,∀t∈[t8,t9,t10,t11,t4],(J r l).1.get t=none)
 (hJn:∀r l e,zo (J r l).2.es n=some e->e= .gone)
 (h0:∀r,Bg E N k ((t7,.raw (.pointer (some ⟨r,0,none⟩)))::(t6,.mp n)::a) ⟨σ.nx,(n,.gone)::σ.es⟩ (J r []).1 (J r []).2)
 (hb:∀r l q,l.Nodup->(∀x∈l,x∈ks)->q∈ks->q∉l->AW E N k body ((t4,.i q)::(J r l).1) (J r l).2 (fun e a1 σ1=>e= .normal/\Bg E N k a1 σ1 (J r (l++[q])).1 (J r (l++[q])).2))
 (he:∀r l,l.Perm ks->Q .normal ((t9,.bool false)::(J r l).1) ⟨(J r l).2.nx,(n,.map c ks xs)::(J r l).2.es⟩):
 AW E N k (.seq (.region i2 #[⟨some t6,.move x,T1,p1,e1,none⟩,⟨some t7,.range T (.tmp t6),T2,p2,e2,none⟩] false)
  (.block b0 (.loop (.seq (.region i3 #[⟨some t8,.next (.tmp t7) false,T3,p3,e3,none⟩,⟨some t9,.extract (.tmp t8) 0,T4,p4,e4,none⟩] false)
   (.seq (.cond (.tmp t9) .skip (.exit b0)) (.block b1 (.seq (.region i4 #[⟨some t10,.entry (.tmp t7),T5,p5,e5,none⟩,⟨some t11,.extract (.tmp t10) 0,T6,p6,e6,none⟩,⟨some t4,.assign (.tmp t11),T7,p7,e7,none⟩] false) body))))))) a σ Q:=by
 simp only[fD,Bool.not_eq_true'] at hd;obtain⟨⟨⟨⟨⟨⟨⟨⟨⟨⟨d6,d7⟩,d8⟩,d9⟩,d10⟩,d11⟩,d4⟩,q8⟩,q9⟩,q10⟩,q11⟩:=hd;replace d6:t6<N:=fP d6;replace d7:t7<N:=fP d7;replace d8:t8<N:=fP d8;replace d9:t9<N:=fP d9;replace d10:t10<N:=fP d10;replace d11:t11<N:=fP d11;replace d4:t4<N:=fP d4;have hsome:∀{t N:Nat},t<N->∀t',some t=some t'->t'<N:=fun h t' e=>by cases e;exact h
 constructor;intro hk g w act hR hF hY;obtain⟨hmb,es,clock,hh,⟨hel,hborn⟩,hkl,hkey,hval⟩:=hR.Cg n _ hn;have hnx:n<σ.nx:=hR.lt n _ hn;have hbl:g.blk n<w.heap.size:=(g8.1 hh).1;have hvx:=yk hx hR hF;have hxe:act.eval x= .map (some (g.blk n)):=by
  generalize act.eval x=v at hvx;cases hvx with
  |data h=>cases h
  |mp=>rfl
 obtain⟨hRg,hxg⟩:=hR.gone hn;have hnfoot:¬Av g ((n,.gone)::σ.es) (g.blk n):=by
  rintro⟨i,e,h1,h2⟩;rw[zv] at h1;by_cases hi:n=i
  .rw[if_pos hi] at h1;cases h1;cases h2
  .rw[if_neg hi] at h1;exact hi (hR.Bd n i _ e (g.blk n) hn h1 (by simp[A7.AD]) h2)
 let r:=w.heap.size
 let w1:=w.alloc (.mapIter (some (g.blk n)) clock #[] clock)
 have hmr:g.m r=0:=hR.fresh _ (fB _);have hnr:¬Av g ((n,.gone)::σ.es) r:=by
  rintro⟨i,e,h1,h2⟩;have:=hRg.B4 h1 h2;omega
 have hw1o:∀b,b<w.heap.size->b≠r->w1.heap[b]? =w.heap[b]? :=fun b hb _=>(j5 hb).trans (iB hb).symm;have hR1:R E.G g (·<σ.nx) ((n,.gone)::σ.es) w1:=hRg.turn hmr hnr (by simp[w1]) hw1o;have hX1:Ext (·<k) g (Av g σ.es) w g (Av g ((n,.gone)::σ.es)) w1:=(hxg.mono (fun n hn=>kn)).turn (fB _) hR.fresh (by simp[w1]) hw1o rfl rfl rfl;have hlen:es.toArray.size=ks.length:=by simp[hel,hkl]
 have hkey':∀(i:Nat) e k,es.toArray.toList[i]? =some e->ks[i]? =some k->e.key= .int .i64 k:=fun i e k h1 h2=>hkey i e k lT h2;have hborn':Ej es.toArray.toList clock:=by simpa using hborn
 have hRng1:HO w1 r (g.blk n) es.toArray clock [] es.toArray.size:=HO.start hh hborn'
 let Inv:Nat->Act->World->Prop:=fun cnt act' w'=>∃l g',l.Nodup/\(∀x∈l,x∈ks)/\HO w' r (g.blk n) es.toArray clock l cnt/\k<=(J r l).2.nx/\R E.G g' (·<(J r l).2.nx) (J r l).2.es w'/\Bi g' (·<(J r l).2.nx) w' N act' (J r l).1/\
  Ext (·<k) g (Av g σ.es) w g' (Av g' (J r l).2.es) w'/\g'.m r=0/\¬Av g' (J r l).2.es r/\g'.m (g.blk n)=0/\¬Av g' (J r l).2.es (g.blk n)
 let Fin:Act->World->Prop:=fun act' w'=>∃l g',l.Perm ks/\k<=(J r l).2.nx/\R E.G g' (·<(J r l).2.nx) ((n,.map c ks xs)::(J r l).2.es) w'/\Bi g' (·<(J r l).2.nx) w' N act' ((t9,.bool false)::(J r l).1)/\
  Ext (·<k) g (Av g σ.es) w g' (Av g' ((n,.map c ks xs)::(J r l).2.es)) w'
 have hloop:∀act1,Bi g (·<σ.nx) w1 N act1 ((t7,.raw (.pointer (some ⟨r,0,none⟩)))::(t6,.mp n)::a)->
  (Code.block b0 (.loop (.seq (.region i3 #[⟨some t8,.next (.tmp t7) false,T3,p3,e3,none⟩,⟨some t9,.extract (.tmp t8) 0,T4,p4,e4,none⟩] false)
   (.seq (.cond (.tmp t9) .skip (.exit b0)) (.block b1 (.seq (.region i4 #[⟨some t10,.entry (.tmp t7),T5,p5,e5,none⟩,⟨some t11,.extract (.tmp t10) 0,T6,p6,e6,none⟩,⟨some t4,.assign (.tmp t11),T7,p7,e7,none⟩] false) body)))))).wp E.P
   (fun e act' w'=>e= .normal/\Fin act' w') act1 w1:=by
  intro act1 hF1;refine wp_block (wp_loop_ghost Inv es.toArray.size ?_ ?_)
  .obtain ⟨hk2,hw⟩:=h0 r (show k<=σ.nx from hk);obtain⟨g2,hR2,hF2,hx2⟩:=hw g w1 act1 hR1 hF1;have hfr:=fun b (hb:b<w1.heap.size) hf=>hx2.frame b hb hf;have hr1:r<w1.heap.size:=by simp[w1,r]
   have hbl1:g.blk n<w1.heap.size:=iW hbl hX1.size;refine⟨[],g2,jm,(fun x hx=>by cases hx),hRng1,hk2,hR2,hF2,hX1.trans hx2,?_,?_,?_,?_⟩
   .rw[(hfr r hr1 hnr).2];exact hmr
   .intro hc;rcases hx2.CQ r hc with h|h
    .exact hnr h
    .omega
   .rw[(hfr _ hbl1 hnfoot).2];exact hmb
   .intro hc;rcases hx2.CQ _ hc with h|h
    .exact hnfoot h
    .omega
  .rintro cnt act2 w2 ⟨l,g2,hl,hlk,hrng,hk2,hR2,hF2,hX2,hm2,hf2,hmb2,hfb2⟩;have h7:act2.eval (.tmp t7)= .pointer (some ⟨r,0,none⟩):=by
    obtain⟨v,h1,h2⟩:=hF2.vals t7 _ (hJ7 r l);have:act2.eval (.tmp t7)=v:=by simp[Act.eval,gv,h1]
    rw[this];cases h2 with
    |data h=>cases h
    |raw v=>rfl
   have hget:∀{t v} {act':Act},(∀t',t'∉[t8,t9,t10,t11,t4]->act'.tmps[t']? =act2.tmps[t']?)->(J r l).1.get t=some v->act'.tmps[t]? =act2.tmps[t]? :=fun {t v act'} h hv=>h t fun hc=>by rw[hJt r l t hc] at hv;cases hv
   have hput:∀(ac:Act) (t:Nat) (v:Value) (t':Nat),t'≠t->(ac.put (some t) v).tmps[t']? =ac.tmps[t']? :=fun ac t v t' h=>by simp[Act.put,gU,Ne.symm h]
   have hsz2:=hF2.size;refine wp_seq (wp_region_lit ?_);rcases hrng.next (P:=E.P) hborn' hlen hkey' hnd hl hlk T3 with⟨hperm,hrun⟩|⟨q,v,w3,cnt',hq,hql,hrun,hrng3,hcnt,⟨ho1,ho2,ho3,ho4,ho5⟩,hent⟩
   .refine KN (v:= .tuple #[.bool false]) (w':=w2) rfl oE ?_;refine KN (v:= .bool false) (w':=w2) rfl (by
     have:(act2.put (some t8) (.tuple #[.bool false])).eval (.tmp t8)= .tuple #[.bool false]:=Act.Bw (by rw[hsz2];exact d8);simp only[execOp,Instr.extract,this,Sem.run_bind,Result.andThen_ok,Sem.run_pure,Sem.run_map];simp) (wpList_nil ?_)
    have hc9:((act2.put (some t8) (.tuple #[.bool false])).put (some t9) (.bool false)).eval (.tmp t9)= .bool false:=Act.Bw (by simp[Act.put,hsz2];exact d9);refine wp_seq (wp_cond_split hc9 (fun h=>kM) fun _=>wp_exit ?_);simp only[Exit.then,Exit.inBlock,if_true];refine⟨trivial,l,g2,hperm,hk2,?_,?_,?_⟩
    .have hblk:g2.blk n=g.blk n:=hX2.blk n hnk;have hfind:∀i e,zo ((n,A7.map c ks xs)::(J r l).2.es) i=some e->(i=n/\e= .map c ks xs)\/(i≠n/\zo (J r l).2.es i=some e):=fun i e h=>by
      rw[zv] at h;by_cases hi:n=i
      .rw[if_pos hi] at h;cases h;exact .inl ⟨hi.symm,rfl⟩
      .rw[if_neg hi] at h;exact .inr ⟨fun e=>hi e.symm,h⟩
     refine hR2.step (fun _=>fB _) (fun _ _ _=>rfl) (fun _ h=>h) (fun _ _=>rfl) (fun _ _=>rfl) ?_ ?_ hR2.fresh
     .intro i e h;rcases hfind i e h with⟨rfl,rfl⟩|⟨_,h1⟩
      .refine .inr ⟨kn,by rw[hblk];exact hmb2,es,clock,by rw[hblk];exact hrng.mp,⟨hel,hborn⟩,hkl,hkey,fun j e' x' h1 h2=> ?_⟩;exact(hval j e' x' h1 h2).H8 hX2.mark hX2.cells
      .exact .inl ⟨h1,fun _ _=>⟨rfl,rfl⟩⟩
     .intro i j e e' b h1 h2 h3 h4;rcases hfind i e h1 with⟨rfl,rfl⟩|⟨hi,h5⟩
      .rcases hfind j e' h2 with⟨rfl,_⟩|⟨hj,h6⟩
       .rfl
       .simp only[A7.AD,fI] at h3;rw[hblk] at h3;exact absurd ⟨j,e',h6,by rw[h3];exact h4⟩ hfb2
      .rcases hfind j e' h2 with⟨rfl,rfl⟩|⟨hj,h6⟩
       .simp only[A7.AD,fI] at h4;rw[hblk] at h4;exact absurd ⟨i,e,h5,by rw[h4];exact h3⟩ hfb2
       .exact hR2.Bd i j e e' b h5 h6 h3 h4
    .refine ⟨by simp[Act.put,hsz2],hF2.defers,fun t v hv=> ?_⟩;rw[AF.Bf] at hv;by_cases ht:t9=t
     .subst ht;simp only[if_true,fI] at hv;subst hv;exact⟨.bool false,by simp[Act.put,gU,hsz2,d9],.data (.bool _)⟩
     .rw[if_neg ht] at hv;obtain⟨u,h1,h2⟩:=hF2.vals t v hv;exact⟨u,by rw[hput _ _ _ _ (fun e=>ht e.symm),hput _ _ _ _ (fun e=>by subst e;rw[hJt r l t ko] at hv;cases hv)];exact h1,h2⟩
    .have hblk:g2.blk n=g.blk n:=hX2.blk n hnk;refine {hX2 with CQ:=fun b hb=> ?_};obtain⟨i,e,h1,h2⟩:=hb;rw[zv] at h1;by_cases hi:n=i
     .rw[if_pos hi] at h1;cases h1;subst hi;simp only[A7.AD,fI] at h2;rw[hblk] at h2;exact .inl ⟨n,_,hn,by simp[A7.AD,h2]⟩
     .rw[if_neg hi] at h1;exact hX2.CQ b ⟨i,e,h1,h2⟩
   .refine KN (v:= .tuple #[.bool true,.int .i64 q,v]) (w':=w3) rfl oE ?_;refine KN (v:= .bool true) (w':=w3) rfl (by
     have:(act2.put (some t8) (.tuple #[.bool true,.int .i64 q,v])).eval (.tmp t8)= .tuple #[.bool true,.int .i64 q,v]:=Act.Bw (by rw[hsz2];exact d8);simp only[execOp,Instr.extract,this,Sem.run_bind,Result.andThen_ok,Sem.run_pure,Sem.run_map];simp) (wpList_nil ?_)
    generalize hact3:(act2.put (some t8) (.tuple #[.bool true,.int .i64 q,v])).put (some t9) (.bool true)=act3;have hsz3:act3.tmps.size=N:=by rw[<-hact3];simp[Act.put,hsz2]
    have hc9:act3.eval (.tmp t9)= .bool true:=by rw[<-hact3];exact Act.Bw (by simp[Act.put,hsz2];exact d9)
    have h73:act3.eval (.tmp t7)= .pointer (some ⟨r,0,none⟩):=by
     rw[<-h7,<-hact3];simp only[Act.eval,gv];rw[hput _ _ _ _ (fun e=>by subst e;simp at q9),hput _ _ _ _ (fun e=>by subst e;simp at q8)]
    refine wp_seq (wp_cond_split hc9 (fun _=>wp_skip ?_) fun h=>kM);refine wp_block (wp_seq (wp_region_lit ?_));refine KN (v:= .tuple #[.int .i64 q,v]) (w':=w3) rfl (by simp only[execOp,h73,hent,Sem.run_bind,Result.andThen_ok,Sem.run_pure,Sem.run_map]) ?_;refine KN (v:= .int .i64 q) (w':=w3) rfl (by
     have:(act3.put (some t10) (.tuple #[.int .i64 q,v])).eval (.tmp t10)= .tuple #[.int .i64 q,v]:=Act.Bw (by rw[hsz3];exact d10);simp only[execOp,Instr.extract,this,Sem.run_bind,Result.andThen_ok,Sem.run_pure,Sem.run_map];simp) ?_
    refine KN (v:= .int .i64 q) (w':=w3) rfl (by
     have:((act3.put (some t10) (.tuple #[.int .i64 q,v])).put (some t11) (.int .i64 q)).eval (.tmp t11)= .int .i64 q:=Act.Bw (by simp[Act.put,hsz3];exact d11);simp only[execOp,this,Sem.run_bind,Result.andThen_ok,Sem.run_pure,Sem.run_map]) (wpList_nil ?_)
    generalize hact4:((act3.put (some t10) (.tuple #[.int .i64 q,v])).put (some t11) (.int .i64 q)).put (some t4) (.int .i64 q)=act4;have hr2:r<w2.heap.size:=by
     obtain⟨_,_,_,h1,_⟩:=hrng.it;exact(g8.1 h1).1
    have hR3:R E.G g2 (·<(J r l).2.nx) (J r l).2.es w3:=hR2.turn hm2 hf2 (jD ho4.symm) fun b _ hb=>ho5 b hb;have hX3:Ext (·<k) g (Av g σ.es) w g2 (Av g2 (J r l).2.es) w3:=hX2.turn (fB _) hR.fresh (jD ho4.symm) (fun b _ hb=>ho5 b hb) ho1 ho2 ho3;have hcell3:∀b o,o<g2.m b->w3.cell? ⟨b,o,none⟩=w2.cell? ⟨b,o,none⟩:=fun b o hb=>by
     have:b≠r:=fun e=>by rw[e,hm2] at hb;omega
     exact World.cell?_of_block (a:=⟨b,o,none⟩) (ho5 b this)
    have hF4:Bi g2 (·<(J r l).2.nx) w3 N act4 ((t4,.i q)::(J r l).1):=by
     refine⟨by rw[<-hact4];simp[Act.put,hsz3],by rw[<-hact4,<-hact3];exact hF2.defers,fun t u hu=> ?_⟩;rw[AF.Bf] at hu;by_cases ht:t4=t
     .subst ht;simp only[if_true,fI] at hu;subst hu;exact⟨.int .i64 q,by rw[<-hact4];simp[Act.put,gU,hsz3,d4],.data (.int _ _)⟩
     .rw[if_neg ht] at hu;obtain⟨u',h1,h2⟩:=hF2.vals t u hu;have hnot:∀t'∈[t8,t9,t10,t11,t4],t≠t':=fun t' ht' e=>by subst e;rw[hJt r l t ht'] at hu;cases hu
      refine⟨u',?_,h2.mono (fun _=>fB _) hcell3 (fun _ h=>h) (fun _ _=>rfl) (fun _ _=>rfl)⟩;rw[<-hact4,<-hact3,hput _ _ _ _ (hnot t4 ko),hput _ _ _ _ (hnot t11 ko),hput _ _ _ _ (hnot t10 ko),hput _ _ _ _ (hnot t9 ko),hput _ _ _ _ (hnot t8 ko)];exact h1
    refine wp_mono ((hb r l q hl hlk hq hql).run hk2 g2 w3 act4 hR3 hF4 (hY.ext hX3)) ?_;rintro e act5 w5 ⟨g5,a5,σ5,⟨rfl,hW⟩,hk5,hR5,hF5,hX5⟩;obtain⟨hk6,hW⟩:=hW hk5;obtain⟨g6,hR6,hF6,hX6⟩:=hW g5 w5 act5 hR5 hF5;have hX56:=hX5.trans hX6;have hr3:r<w3.heap.size:=by rw[ho4];exact hr2
    have hbl3:g.blk n<w3.heap.size:=(g8.1 hrng3.mp).1;refine⟨cnt',hcnt,l++[q],g6,?_,?_,hrng3.kept (hX56.frame _ hbl3 hfb2).1 (hX56.frame _ hr3 hf2).1,hk6,hR6,hF6,hX3.trans hX56,?_,?_,?_,?_⟩
    .rw[List.nodup_append];exact⟨hl,ko,fun a ha b hb=>by simp only[gp] at hb;subst hb;exact fun e=>hql (e▸ha)⟩
    .intro y hy;rcases fV.1 hy with h|h
     .exact hlk y h
     .simp only[gp] at h;subst h;exact hq
    .rw[(hX56.frame _ hr3 hf2).2];exact hm2
    .intro hc;rcases hX56.CQ r hc with h|h
     .exact hf2 h
     .omega
    .rw[(hX56.frame _ hbl3 hfb2).2];exact hmb2
    .intro hc;rcases hX56.CQ _ hc with h|h
     .exact hfb2 h
     .omega
 refine wp_seq (wp_region_lit ?_);refine KN (v:= .map (some (g.blk n))) (w':=w) rfl (by simp only[execOp,hxe,Sem.run_bind,Result.andThen_ok,Sem.run_pure,Sem.run_map]) ?_;refine KN (v:= .pointer (some ⟨r,0,none⟩)) (w':=w1) rfl (by
  have:(act.put (some t6) (.map (some (g.blk n)))).eval (.tmp t6)= .map (some (g.blk n)):=Act.Bw (by rw[hF.size];exact d6);have h2:=run_range_map (P:=E.P) w T kt et (g.blk n) es.toArray clock hm hh;simp only[execOp,this,h2,Sem.run_bind,Result.andThen_ok,Sem.run_pure,Sem.run_map];rfl) (wpList_nil ?_)
 have hFa:Bi g (·<σ.nx) w1 N ((act.put (some t6) (.map (some (g.blk n)))).put (some t7) (.pointer (some ⟨r,0,none⟩))) ((t7,.raw (.pointer (some ⟨r,0,none⟩)))::(t6,.mp n)::a):=by
  have hF1:Bi g (·<σ.nx) w1 N act a:=hF.ext (D:=(·<σ.nx)) (hxg.turn (fB _) hR.fresh (by simp[w1]) hw1o rfl rfl rfl) (fun _ h=>h);exact(hF1.put (d:=some t6) (hsome d6) (c:= .mp n) (.mp n hnx)).put (d:=some t7) (hsome d7) (c:= .raw _) (.raw _)
 refine wp_mono (hloop _ hFa) ?_;rintro e act' w' ⟨rfl,l,g',hperm,hk2,hR2,hF2,hX2⟩;exact⟨g',_,_,he r l hperm,hk2,hR2,hF2,hX2⟩
end
end Go.Ab
namespace Go.Ab
open Go Go.Proofs Go.RowKit Go.Sort
set_option linter.unusedSimpArgs false
set_option linter.unusedVariables false
section
variable {E:Env} {ρ7 ρ6:Go.Shelf.Ren}
def x8(l:List Int):List Int:=l.mergeSort fun x y=>decide (x<=y)
end
end Go.Ab
