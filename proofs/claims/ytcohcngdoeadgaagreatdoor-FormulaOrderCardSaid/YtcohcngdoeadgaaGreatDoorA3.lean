/- A part of the proofs of this seat's statements: B48, B49, B50, B51, B52, B53, B54, B55, L1, L2. It has no conditions of its own. -/
import Derived.Test.YtcohcngdoeadgaaGreatDoorA2
import Derived.ChangeReads
import Derived.ChangeArms
import Derived.ChangeShapes
import Derived.ChangeFn
import Derived.DataReads
import Derived.DataShut
import Derived.ChangeSame
namespace Go.Ab
open Go
set_option linter.unusedSimpArgs false
set_option linter.unusedVariables false
def ECv(Cv:V→V→Prop):Ent→Ent→Prop
 |_,.gone=>True
 | .var cs,.var cs2=>cs2.length=cs.length∧∀(i:Nat) c c2,cs[i]? =some c→cs2[i]? =some c2→Cv c c2
 |e,e2=>e2=e
theorem ECv.foot{Cv:V→V→Prop}{e e2:Ent}(h:ECv Cv e e2){g g2:Gh}{D:Nat→Prop}{n:Nat}(hn:D n)(hb:∀n,D n→g2.blk n=g.blk n)(hr:∀n,D n→g2.row n=g.row n){b:Nat}(hf:e2.foot g2 n=some b):e.foot g n=some b:=by
 rw[←Ent.foot_same hn hb hr]
 cases e2 with
 |gone=>cases hf
 |var cs2=>cases e<;>first|exact hf|exact(by cases h)
 |map c ks xs=>cases e<;>first|exact(by cases h;exact hf)|exact(by cases h)
 |row=>cases e<;>first|exact hf|exact(by cases h)
theorem R.conv{G:Glob}{g g2:Gh}{D D2:Nat→Prop}{es es2:Es}{w:World}(hR:R G g D es w)(hD:∀n,D n→D2 n)(hm:∀b,g.m b≤g2.m b)(hb:∀n,D n→g2.blk n=g.blk n)(hr:∀n,D n→g2.row n=g.row n)
 (hfoot:∀b,Foot g es b→g2.m b=g.m b) (hfresh:∀b,w.heap.size≤b→g2.m b=0) (hnodes:∀b t,g2.m b= .of t→FlagOk w b t) (Cv:V→V→Prop) (hv:∀v c c2,Cv c c2→VRel g D w v c→VRel g2 D2 w v c2) (n0:Nat)
 (he:∀n e2,findE es2 n=some e2→(n=n0∧D2 n∧ERel g2 D2 w n e2∧∀b,e2.foot g2 n=some b→¬Foot g es b)∨∃e,findE es n=some e∧ECv Cv e e2):R G g2 D2 es2 w:=by
 refine hR.step hm (fun _ _ _=>rfl) hD hb hr (fun n e2 h=> .inr ?_) ?_ hfresh hnodes
 ·rcases he n e2 h with⟨_,h1,h2,_⟩|⟨e,h1,h2⟩
  ·exact ⟨h1,h2⟩
  ·refine ⟨hD n (hR.lt n e h1),?_⟩
   have h3:=(hR.ents n e h1).mono (g':=g2) (D':=D2) (w':=w) (hR.lt n e h1) hm (fun _ _ _=>rfl) hD hb hr (fun b hb=>⟨rfl,hfoot b ⟨n,e,h1,hb⟩⟩)
   cases e2 with
   |gone=>trivial
   |var cs2=>
    cases e with
    |var cs=>
     obtain⟨h4,h5⟩:=h2
     obtain⟨q1,us,t,q2,q3,q4,q5,q6⟩:=h3
     obtain⟨p1,us',t',p2,_,_,p5,_⟩:=hR.ents n _ h1
     rw[hb n (hR.lt n _ h1)] at q2
     rw[q2] at p2
     simp only[Option.some.injEq,Obj.cells.injEq] at p2
     obtain⟨p3,_,_⟩:=p2
     have p3:us=us':=by simpa using p3
     subst p3
     refine⟨q1,us,t,by rw[hb n (hR.lt n _ h1)];exact q2,by omega,q4,fun i v c2 hvi hci=> ?_,q6⟩
     obtain⟨c,hc⟩:=getElem?_of_len h4 hci
     exact hv v c c2 (h5 i c c2 hc hci) (p5 i v c hvi hc)
    |map _ _ _=>cases h2
    |row=>cases h2
    |gone=>cases h2
   |map c ks xs=>cases e<;>first|exact(by cases h2;exact h3)|exact(by cases h2)
   |row=>cases e<;>first|exact h3|exact(by cases h2)
 ·intro n n' e e' b h1 h2 h3 h4
  rcases he n e h1 with⟨rfl,_,_,q⟩|⟨d,h5,h6⟩
  ·rcases he n' e' h2 with⟨rfl,_⟩|⟨d',h7,h8⟩
   ·rfl
   ·exact absurd ⟨n',d',h7,h8.foot (hR.lt _ _ h7) hb hr h4⟩ (q b h3)
  ·rcases he n' e' h2 with⟨rfl,_,_,q⟩|⟨d',h7,h8⟩
   ·exact absurd ⟨n,d,h5,h6.foot (hR.lt _ _ h5) hb hr h3⟩ (q b h4)
   ·exact hR.foots n n' d d' b h5 h7 (h6.foot (hR.lt _ _ h5) hb hr h3) (h8.foot (hR.lt _ _ h7) hb hr h4)
theorem key_inj:∀{y:Ys},(y.map Prod.fst).Nodup→∀p∈y,∀q∈y,q.1=p.1→q=p
 |[],_,p,hp,_,_,_=>by cases hp
 |x::l,h,p,hp,q,hq,e=>by
  simp only[List.map_cons,List.nodup_cons] at h
  rcases List.mem_cons.1 hp with h1|h1
  ·rcases List.mem_cons.1 hq with h2|h2
   ·rw [h1,h2]
   ·exact absurd (by rw[←h1,←e];exact List.mem_map_of_mem h2) h.1
  ·rcases List.mem_cons.1 hq with h2|h2
   ·exact absurd (by rw[←h2,e];exact List.mem_map_of_mem h1) h.1
   ·exact key_inj h.2 p h1 q h2 e
def TCv(b n cap sz:Nat)(c c2:V):Prop:=c2=c∨(∃off,c= .rp b off∧c2= .ptr n off)∨(∃len,len≤cap∧c= .rs b len cap∧c2= .arr n len sz)
section
variable {E:Env} {N k:Nat} {a:AF} {σ:Sto} {y:Ys} {Q:Exit→AF→Sto→Ys→Prop}
theorem takeCore{b cap sz:Nat}{cs:List V}{y1:Ys}(hy:y.Perm ((b,cap*sz,cs)::y1))(hnd:(y.map Prod.fst).Nodup)(a2:AF)(es2:Es)
 (hf:∀t c2,a2.get t=some c2→∃c,a.get t=some c∧TCv b σ.nx cap sz c c2)
 (he:∀n e2,findE es2 n=some e2→(n=σ.nx∧e2= .var cs)∨∃e,findE σ.es n=some e∧ECv (TCv b σ.nx cap sz) e e2):
 k≤σ.nx→∀g w act,R E.G g (·<σ.nx) σ.es w→FRel g (·<σ.nx) w N act a→YOk y g (Foot g σ.es) w→
 ∃g2,g2.blk σ.nx=b∧g2.row σ.nx=some ⟨b,0,cap,sz,0⟩∧R E.G g2 (·<σ.nx+1) es2 w∧FRel g2 (·<σ.nx+1) w N act a2∧YOk y1 g2 (Foot g2 es2) w∧Ext (·<k) g (FY g σ.es y) w g2 (FY g2 es2 y1) w:=by
 intro hk g w act hR hF hY
 let g2:=g.nameR σ.nx b (some ⟨b,0,cap,sz,0⟩)
 have hne:∀i,i<σ.nx→i≠σ.nx:=fun i h=>by omega
 have hb:∀i,i<σ.nx→g2.blk i=g.blk i:=fun i hi=>by simp[g2,Gh.nameR,hne i hi]
 have hrw:∀i,i<σ.nx→g2.row i=g.row i:=fun i hi=>by simp[g2,Gh.nameR,hne i hi]
 have hbn:g2.blk σ.nx=b:=by simp[g2,Gh.nameR]
 have hrn:g2.row σ.nx=some ⟨b,0,cap,sz,0⟩:=by simp[g2,Gh.nameR]
 have hD:∀n,n<σ.nx→n<σ.nx+1:=fun n h=>by omega
 obtain⟨h1,h2,vs,t,h3,h4,h5,h6,h7⟩:=hY (b,cap*sz,cs) (hy.mem_iff.2 (by simp))
 simp only at h1 h2 h3 h4 h5 h7
 have hmono:∀v c,VRel g (·<σ.nx) w v c→VRel g2 (·<σ.nx+1) w v c:=fun v c h=>h.mono (fun _=>Mrk.le_refl _) (fun _ _ _=>rfl) hD hb hrw
 have hv:∀v c c2,TCv b σ.nx cap sz c c2→VRel g (·<σ.nx) w v c→VRel g2 (·<σ.nx+1) w v c2:=by
  rintro v c c2 (rfl|⟨off,rfl,rfl⟩|⟨len,hl,rfl,rfl⟩) h
  ·exact hmono v _ h
  ·rw [h.raw_inv]
   have:=VRel.ptr (g:=g2) (D:=(·<σ.nx+1)) (w:=w) σ.nx off (by show σ.nx<σ.nx+1;omega)
   rwa [hbn] at this
  ·rw [h.raw_inv]
   have:=VRel.arr (g:=g2) (D:=(·<σ.nx+1)) (w:=w) σ.nx len sz cap (by show σ.nx<σ.nx+1;omega) hl (by rw[hbn];exact hrn)
   rwa [hbn] at this
 have hent:ERel g2 (·<σ.nx+1) w σ.nx (.var cs):=by
  refine⟨by rw[hbn];exact h1,vs,t,by rw[hbn];exact h3,by omega,h6,fun i v c hv hc=>(h7 i v c hv hc).mono (fun _=>Mrk.le_refl _) (fun _ _ _=>rfl) (fun _ h=>h.elim) (fun _ h=>h.elim) (fun _ h=>h.elim),fun ρ hρ=> ?_⟩
  rw[hrn] at hρ;cases hρ;exact h4
 have hfootin:∀x,Foot g2 es2 x→Foot g σ.es x∨x=b:=by
  rintro x ⟨n,e2,q1,q2⟩
  rcases he n e2 q1 with⟨rfl,rfl⟩|⟨e,q3,q4⟩
  ·simp only[Ent.foot,Option.some.injEq,hbn] at q2;exact .inr q2.symm
  ·exact .inl ⟨n,e,q3,q4.foot (D:=(·<σ.nx)) (hR.lt _ _ q3) hb hrw q2⟩
 have hnd2:∀p∈y1,p.1≠b:=by
  have:=(hy.map Prod.fst).nodup hnd
  simp only[List.map_cons,List.nodup_cons] at this
  intro p hp e
  exact this.1 (e▸List.mem_map_of_mem hp)
 refine⟨g2,hbn,hrn,?_,⟨hF.size,hF.defers,fun t c2 hc=> ?_⟩,?_,?_⟩
 ·refine hR.conv hD (fun _=>Mrk.le_refl _) hb hrw (fun _ _=>rfl) hR.fresh hR.nodes _ hv σ.nx fun n e2 hn=> ?_
  rcases he n e2 hn with⟨rfl,rfl⟩|h
  ·refine .inl ⟨rfl,by show σ.nx<σ.nx+1;omega,hent,fun x hx=> ?_⟩
   simp only[Ent.foot,Option.some.injEq,hbn] at hx
   subst hx
   exact h2
  ·exact .inr h
 ·obtain ⟨c,q1,q2⟩:=hf t c2 hc
  obtain⟨v,q3,q4⟩:=hF.vals t c q1
  exact⟨v,q3,hv v c c2 q2 q4⟩
 ·intro p hp
  obtain⟨q1,q2,us,t',q3,q4,q5,q6,q7⟩:=hY p (hy.mem_iff.2 (by simp[hp]))
  refine⟨q1,fun hfo=> ?_,us,t',q3,q4,q5,q6,fun i v c hv hc=>(q7 i v c hv hc).mono (fun _=>Mrk.le_refl _) (fun _ _ _=>rfl) (fun _ h=>h) (fun _ h=>h.elim) (fun _ h=>h.elim)⟩
  rcases hfootin _ hfo with h|h
  ·exact q2 h
  ·exact hnd2 p hp h
 ·refine ⟨rfl,rfl,rfl,Nat.le_refl _,fun _ _ _=>rfl,fun _=>Mrk.le_refl _,fun n hn=>hb n (by omega),fun n hn=>hrw n (by omega),fun _ _ _=>⟨fun _=>rfl,rfl⟩,fun x hx=> .inl ?_⟩
  rcases hx with hx|⟨p,hp,rfl⟩
  ·rcases hfootin x hx with h|rfl
   ·exact .inl h
   ·exact .inr ⟨(x,cap*sz,cs),hy.mem_iff.2 (by simp),rfl⟩
  ·exact .inr ⟨p,hy.mem_iff.2 (by simp[hp]),rfl⟩
theorem WeakB.take{b cap sz:Nat}{cs:List V}{y1:Ys}(hy:y.Perm ((b,cap*sz,cs)::y1))(hnd:(y.map Prod.fst).Nodup)(a2:AF)(es2:Es)
 (hf:∀t c2,a2.get t=some c2→∃c,a.get t=some c∧TCv b σ.nx cap sz c c2)
 (he:∀n e2,findE es2 n=some e2→(n=σ.nx∧e2= .var cs)∨∃e,findE σ.es n=some e∧ECv (TCv b σ.nx cap sz) e e2):
 WeakB E N k a σ y (fun a3 σ3 y3=>a3=a2∧σ3=⟨σ.nx+1,es2⟩∧y3=y1):=by
 intro hk g w act hR hF hY
 obtain⟨g2,_,_,h1,h2,h3,h4⟩:=takeCore hy hnd a2 es2 hf he hk g w act hR hF hY
 exact⟨a2,_,y1,g2,⟨rfl,rfl,rfl⟩,by show k≤σ.nx+1;omega,h1,h2,h3,h4⟩
def V.free(c:V):Prop:=∀g D w v,VRel g D w v c→VRel g (fun _=>False) w v c
theorem V.free_raw(u:Value):V.free (.raw u):=fun g D w v h=>by rw[h.raw_inv];exact .raw u
def GCv(n b cap sz:Nat)(c c2:V):Prop:=c2=c∨(∃off,c= .ptr n off∧c2= .rp b off)∨(∃len,c= .arr n len sz∧c2= .rs b len cap)
theorem giveAt{n:Nat}{cs:List V}(hn:findE σ.es n=some (.var cs))(hcs:∀c∈cs,V.free c){g:Gh}{w:World}{act:Act}(hR:R E.G g (·<σ.nx) σ.es w)(hF:FRel g (·<σ.nx) w N act a)(hY:YOk y g (Foot g σ.es) w)(a2:AF)(es2:Es)
 (h1:∀t c2,a2.get t=some c2→∃c,a.get t=some c∧∀v,VRel g (·<σ.nx) w v c→VRel g (·<σ.nx) w v c2)
 (h2:∀i e2,findE es2 i=some e2→∃e,findE σ.es i=some e∧ECv (fun c c2=>∀v,VRel g (·<σ.nx) w v c→VRel g (·<σ.nx) w v c2) e e2) (h3:findE es2 n=some .gone):
 ∃room,(∀ρ,g.row n=some ρ→room=ρ.cap*ρ.sz)∧(∀p∈y,p.1≠g.blk n)∧R E.G g (·<σ.nx) es2 w∧FRel g (·<σ.nx) w N act a2∧YOk ((g.blk n,room,cs)::y) g (Foot g es2) w∧
  Ext (·<k) g (FY g σ.es y) w g (FY g es2 ((g.blk n,room,cs)::y)) w:=by
 obtain⟨q1,us,t,q2,q3,q4,q5,q6⟩:=hR.ents n _ hn
 have hyb:∀p∈y,p.1≠g.blk n:=fun p hp e=>(hY p hp).2.1 ⟨n,_,hn,by simp[Ent.foot,e]⟩
 have hfootin:∀x,Foot g es2 x→Foot g σ.es x∧x≠g.blk n:=by
  rintro x ⟨i,e2,p1,p2⟩
  obtain⟨e,p3,p4⟩:=h2 i e2 p1
  have p5:=p4.foot (D:=(·<σ.nx)) (n:=i) (hR.lt _ _ p3) (g:=g) (g2:=g) (fun _ _=>rfl) (fun _ _=>rfl) p2
  refine⟨⟨i,e,p3,p5⟩,fun hx=> ?_⟩
  subst hx
  have:=hR.foots i n e _ _ p3 hn p5 (by simp[Ent.foot])
  subst this
  rw[h3] at p1
  cases p1
  cases p2
 refine⟨us.length,q6,hyb,?_,⟨hF.size,hF.defers,fun t c2 hc=> ?_⟩,?_,?_⟩
 ·exact hR.conv (fun _ h=>h) (fun _=>Mrk.le_refl _) (fun _ _=>rfl) (fun _ _=>rfl) (fun _ _=>rfl) hR.fresh hR.nodes _ (fun v c c2 h hv=>h v hv) σ.nx fun i e2 hi=> .inr (h2 i e2 hi)
 ·obtain ⟨c,p1,p2⟩:=h1 t c2 hc
  obtain⟨v,p3,p4⟩:=hF.vals t c p1
  exact⟨v,p3,p2 v p4⟩
 ·intro p hp
  rcases List.mem_cons.1 hp with rfl|hp
  ·exact ⟨q1,fun hfo=>(hfootin _ hfo).2 rfl,us,t,q2,rfl,q3,q4,fun i v c hv hc=>hcs c (List.mem_of_getElem? hc) _ _ _ _ (q5 i v c hv hc)⟩
  ·obtain ⟨p1,p2,us',t',p3,p4,p5,p6,p7⟩:=hY p hp
   exact⟨p1,fun hfo=>p2 (hfootin _ hfo).1,us',t',p3,p4,p5,p6,p7⟩
 ·refine ⟨rfl,rfl,rfl,Nat.le_refl _,fun _ _ _=>rfl,fun _=>Mrk.le_refl _,fun _ _=>rfl,fun _ _=>rfl,fun _ _ _=>⟨fun _=>rfl,rfl⟩,fun x hx=> .inl ?_⟩
  rcases hx with hx|⟨p,hp,rfl⟩
  ·exact .inl (hfootin x hx).1
  ·rcases List.mem_cons.1 hp with rfl|hp
   ·exact .inl ⟨n,_,hn,by simp[Ent.foot]⟩
   ·exact .inr ⟨p,hp,rfl⟩
theorem WeakB.giveCore{n:Nat}{cs:List V}(hn:findE σ.es n=some (.var cs))(hcs:∀c∈cs,V.free c){S:AF→Sto→Ys→Prop}
 (hS:∀g w act,R E.G g (·<σ.nx) σ.es w→FRel g (·<σ.nx) w N act a→∀room,(∀ρ,g.row n=some ρ→room=ρ.cap*ρ.sz)→(∀p∈y,p.1≠g.blk n)→∃a2 es2,S a2 ⟨σ.nx,es2⟩ ((g.blk n,room,cs)::y)∧
  (∀t c2,a2.get t=some c2→∃c,a.get t=some c∧∀v,VRel g (·<σ.nx) w v c→VRel g (·<σ.nx) w v c2)∧
  (∀i e2,findE es2 i=some e2→∃e,findE σ.es i=some e∧ECv (fun c c2=>∀v,VRel g (·<σ.nx) w v c→VRel g (·<σ.nx) w v c2) e e2)∧findE es2 n=some .gone):WeakB E N k a σ y S:=by
 intro hk g w act hR hF hY
 obtain⟨q1,us,t,q2,q3,q4,q5,q6⟩:=hR.ents n _ hn
 have hyb:∀p∈y,p.1≠g.blk n:=fun p hp e=>(hY p hp).2.1 ⟨n,_,hn,by simp[Ent.foot,e]⟩
 have hroom:∀room,(∀a2 es2,(∀t c2,a2.get t=some c2→∃c,a.get t=some c∧∀v,VRel g (·<σ.nx) w v c→VRel g (·<σ.nx) w v c2)→
  (∀i e2,findE es2 i=some e2→∃e,findE σ.es i=some e∧ECv (fun c c2=>∀v,VRel g (·<σ.nx) w v c→VRel g (·<σ.nx) w v c2) e e2)→findE es2 n=some .gone→
  S a2 ⟨σ.nx,es2⟩ ((g.blk n,room,cs)::y)→room=us.length→∃a2 σ2 y2 g2,S a2 σ2 y2∧k≤σ2.nx∧R E.G g2 (·<σ2.nx) σ2.es w∧FRel g2 (·<σ2.nx) w N act a2∧YOk y2 g2 (Foot g2 σ2.es) w∧Ext (·<k) g (FY g σ.es y) w g2 (FY g2 σ2.es y2) w):=by
  intro room a2 es2 h1 h2 h3 hs hr
  obtain⟨room2,_,_,r1,r2,r3,r4⟩:=giveAt (k:=k) hn hcs hR hF hY a2 es2 h1 h2 h3
  have:room2=us.length:=by
   obtain⟨_,_,us2,t2,p1,p2,_⟩:=r3 _ List.mem_cons_self
   simp only at p1 p2
   rw[q2] at p1
   simp only[Option.some.injEq,Obj.cells.injEq] at p1
   have:us=us2:=by simpa using p1.1
   rw[this];exact p2.symm
  subst hr
  rw[this] at r3 r4
  exact⟨a2,_,_,g,hs,hk,r1,r2,r3,r4⟩
 obtain⟨a2,es2,hs,h1,h2,h3⟩:=hS g w act hR hF us.length q6 hyb
 exact hroom us.length a2 es2 h1 h2 h3 hs rfl
theorem WeakB.giveA{n len0 sz:Nat}{cs:List V}(hn:findE σ.es n=some (.var cs))(hcs:∀c∈cs,V.free c)
 (wit:(∃t,a.get t=some (.arr n len0 sz))∨∃(m:Nat) (csm:List V) (j:Nat),findE σ.es m=some (.var csm)∧csm[j]? =some (V.arr n len0 sz)) (a2:Nat→Nat→AF) (es2:Nat→Nat→Es)
 (hf:∀b cap t c2,(a2 b cap).get t=some c2→∃c,a.get t=some c∧GCv n b cap sz c c2)
 (he:∀b cap i e2,findE (es2 b cap) i=some e2→∃e,findE σ.es i=some e∧ECv (GCv n b cap sz) e e2) (hg:∀b cap,findE (es2 b cap) n=some .gone):
 WeakB E N k a σ y (fun a3 σ3 y3=>∃b cap,len0≤cap∧(∀p∈y,p.1≠b)∧a3=a2 b cap∧σ3=⟨σ.nx,es2 b cap⟩∧y3=(b,cap*sz,cs)::y):=by
 refine WeakB.giveCore hn hcs fun g w act hR hF room hroom hyb=> ?_
 have hw:∃v,VRel g (·<σ.nx) w v (.arr n len0 sz):=by
  rcases wit with⟨t,ht⟩|⟨m,csm,j,h1,h2⟩
  ·obtain ⟨v,_,h⟩:=hF.vals t _ ht;exact⟨v,h⟩
  ·obtain ⟨_,us,t,_,q3,_,q5,_⟩:=hR.ents m _ h1
   have hlt:j<us.length:=by have:=(List.getElem?_eq_some_iff.1 h2).1;omega
   exact⟨us[j],q5 j _ _ (List.getElem?_eq_getElem hlt) h2⟩
 obtain⟨cap,hcap,hrow⟩:∃cap,len0≤cap∧g.row n=some ⟨g.blk n,0,cap,sz,0⟩:=by
  obtain⟨v,h⟩:=hw
  cases h with
  |data h=>cases h
  |arr _ _ _ cap _ hc hr=>exact⟨cap,hc,hr⟩
 have hr:=hroom _ hrow
 simp only at hr
 subst hr
 have key:∀c c2,GCv n (g.blk n) cap sz c c2→∀v,VRel g (·<σ.nx) w v c→VRel g (·<σ.nx) w v c2:=by
  rintro c c2 (rfl|⟨off,rfl,rfl⟩|⟨len,rfl,rfl⟩) v h
  ·exact h
  ·cases h with
   |data h=>cases h
   |ptr _ _ _=>exact .raw _
  ·cases h with
   |data h=>cases h
   |arr _ _ _ cap' _ _ hr=>
    rw[hrow] at hr
    simp only[Option.some.injEq,RowG.mk.injEq,true_and,and_true] at hr
    subst hr
    exact .raw _
 refine⟨a2 (g.blk n) cap,es2 (g.blk n) cap,⟨_,cap,hcap,hyb,rfl,rfl,rfl⟩,fun t c2 hc=> ?_,fun i e2 hi=> ?_,hg _ _⟩
 ·obtain ⟨c,h1,h2⟩:=hf _ _ t c2 hc
  exact⟨c,h1,key c c2 h2⟩
 ·obtain ⟨e,h1,h2⟩:=he _ _ i e2 hi
  refine⟨e,h1,?_⟩
  cases e2 with
  |gone=>cases e<;>trivial
  |var cs2=>cases e<;>first|exact⟨h2.1,fun i c c2 h3 h4=>key _ _ (h2.2 i c c2 h3 h4)⟩|exact h2
  |map c ks xs=>cases e<;>exact h2
  |row=>cases e<;>exact h2
theorem BW.after{c:Code}(h:BW E N k c a σ y (fun e a σ y=>WeakB E N k a σ y (Q e))):BW E N k c a σ y Q:=by
 constructor
 intro hk g w act hR hF hY
 refine wp_mono (h.run hk g w act hR hF hY) ?_
 rintro e act1 w1 ⟨g1,a1,σ1,y1,hq,hk1,hR1,hF1,hY1,hx⟩
 obtain⟨a2,σ2,y2,g2,hs,hk2,hR2,hF2,hY2,hx2⟩:=hq hk1 g1 w1 act1 hR1 hF1 hY1
 exact⟨g2,a2,σ2,y2,hs,hk2,hR2,hF2,hY2,hx.trans hx2⟩
theorem BW.taken{c:Code}{b cap sz:Nat}{cs:List V}{y1:Ys}(hy:y.Perm ((b,cap*sz,cs)::y1))(hnd:(y.map Prod.fst).Nodup)(a2:AF)(es2:Es)
 (hf:∀t c2,a2.get t=some c2→∃c,a.get t=some c∧TCv b σ.nx cap sz c c2)
 (he:∀n e2,findE es2 n=some e2→(n=σ.nx∧e2= .var cs)∨∃e,findE σ.es n=some e∧ECv (TCv b σ.nx cap sz) e e2)
 (h:BW E N (σ.nx+1) c a2 ⟨σ.nx+1,es2⟩ y1 (fun e a' σ' y'=>∃cs' a3 es3,findE σ'.es σ.nx=some (.var cs')∧(∀c∈cs',V.free c)∧
  (∀t c2,a3.get t=some c2→∃c,a'.get t=some c∧(c2=c∨∃off,c= .ptr σ.nx off∧c2= .rp b off))∧
  (∀i e2,findE es3 i=some e2→∃e,findE σ'.es i=some e∧ECv (fun c c2=>c2=c∨∃off,c= .ptr σ.nx off∧c2= .rp b off) e e2)∧findE es3 σ.nx=some .gone∧
  ((∀p∈y',p.1≠b)→Q e a3 ⟨σ'.nx,es3⟩ ((b,cap*sz,cs')::y')))):BW E N k c a σ y Q:=by
 constructor
 intro hk g w act hR hF hY
 obtain⟨g2,hb,hr,hR2,hF2,hY2,hx2⟩:=takeCore (k:=k) hy hnd a2 es2 hf he hk g w act hR hF hY
 refine wp_mono (h.run (Nat.le_refl _) g2 w act hR2 hF2 hY2) ?_
 rintro e act1 w1 ⟨g3,a1,σ1,y3,⟨cs',a3,es3,h1,h2,h3,h4,h5,h6⟩,hk1,hR1,hF1,hY1,hx3⟩
 have hb3:g3.blk σ.nx=b:=(hx3.blk σ.nx (Nat.lt_succ_self _)).trans hb
 have hr3:g3.row σ.nx=some ⟨b,0,cap,sz,0⟩:=(hx3.row σ.nx (Nat.lt_succ_self _)).trans hr
 have key:∀c c2,(c2=c∨∃off,c= .ptr σ.nx off∧c2= .rp b off)→∀v,VRel g3 (·<σ1.nx) w1 v c→VRel g3 (·<σ1.nx) w1 v c2:=by
  rintro c c2 (rfl|⟨off,rfl,rfl⟩) v h
  ·exact h
  ·cases h with
   |data h=>cases h
   |ptr _ _ _=>rw[hb3];exact .raw _
 obtain⟨room,hroom,hne,r1,r2,r3,r4⟩:=giveAt (k:=k) h1 h2 hR1 hF1 hY1 a3 es3 (fun t c2 hc=>by
  obtain⟨c,p1,p2⟩:=h3 t c2 hc
  exact⟨c,p1,key c c2 p2⟩) (fun i e2 hi=>by
  obtain⟨e,p1,p2⟩:=h4 i e2 hi
  refine⟨e,p1,?_⟩
  cases e2 with
  |gone=>cases e<;>trivial
  |var cs2=>cases e<;>first|exact⟨p2.1,fun i c c2 q1 q2=>key _ _ (p2.2 i c c2 q1 q2)⟩|exact p2
  |map c ks xs=>cases e<;>exact p2
  |row=>cases e<;>exact p2) h5
 have hrm:=hroom _ hr3
 simp only at hrm
 subst hrm
 rw[hb3] at hne r3 r4
 exact⟨g3,a3,⟨σ1.nx,es3⟩,_,h6 hne,by show k≤σ1.nx;omega,r1,r2,r3,hx2.trans ((hx3.mono fun n (hn:n<k)=>(show n<σ.nx+1 by omega)).trans r4)⟩
def Frz(y:Ys)(u:Value)(l:SL V):Prop:=∀g w,(∀p∈y,p.2.2.length≤(g.m p.1).n∧∃(vs:List Value) (t:TypeId),w.heap[p.1]? =some (.cells vs.toArray t (0,0))∧p.2.2.length≤vs.length∧
 ∀(i:Nat) v c,vs[i]? =some v→p.2.2[i]? =some c→VRel g (fun _=>False) w v c)→DRel g.m w u (.slice .any l)
theorem WeakB.frz(hnd:(y.map Prod.fst).Nodup)(a2:AF)(es2:Es)
 (hf:∀t c2,a2.get t=some c2→∃c,a.get t=some c∧(c2=c∨∃u l,c= .raw u∧c2= .slice .any l∧Frz y u l))
 (he:∀i e2,findE es2 i=some e2→∃e,findE σ.es i=some e∧ECv (fun c c2=>c2=c∨∃u l,c= .raw u∧c2= .slice .any l∧Frz y u l) e e2):
 WeakB E N k a σ y (fun a3 σ3 y3=>a3=a2∧σ3=⟨σ.nx,es2⟩∧y3=[]):=by
 intro hk g w act hR hF hY
 let g2:Gh:={g with m:=fun b=>match y.find? (fun p=>p.1==b) with|some p=>sh p.2.2.length|none=>g.m b}
 have hnk:∀b,¬Keys y b→g2.m b=g.m b:=fun b hb=>by
  show(match y.find? (fun p=>p.1==b) with|some p=>sh p.2.2.length|none=>g.m b)=g.m b
  rw[List.find?_eq_none.2 (fun p hp=>by
   have:¬p.1=b:=fun e=>hb ⟨p,hp,e⟩
   simpa using this)]
 have hky:∀p∈y,g2.m p.1=sh p.2.2.length:=by
  intro p hp
  show(match y.find? (fun q=>q.1==p.1) with|some q=>sh q.2.2.length|none=>g.m p.1)=_
  cases hfd:y.find? (fun q=>q.1==p.1) with
  |none=>
   have:=List.find?_eq_none.1 hfd p hp
   simp at this
  |some q=>
   have h1:=List.mem_of_find?_eq_some hfd
   have h2:q.1=p.1:=by simpa using List.find?_some hfd
   have:q=p:=key_inj hnd p hp q h1 h2
   subst this
   rfl
 have hfk:∀b,Foot g σ.es b→¬Keys y b:=by rintro b hb ⟨p,hp,rfl⟩;exact(hY p hp).2.1 hb
 have hlt:∀p∈y,p.1<w.heap.size:=fun p hp=>by
  obtain⟨_,_,_,_,h,_⟩:=hY p hp
  exact(Array.getElem?_eq_some_iff.1 h).1
 have hm:∀b,g.m b≤g2.m b:=fun b=>by
  by_cases hb:Keys y b
  ·obtain ⟨p,hp,rfl⟩:=hb
   rw[hky p hp];exact Mrk.le_sh (hY p hp).1 (Nat.zero_le _)
  ·rw [hnk b hb];exact Mrk.le_refl _
 have hyd:∀p∈y,p.2.2.length≤(g2.m p.1).n∧∃(vs:List Value) (t:TypeId),w.heap[p.1]? =some (.cells vs.toArray t (0,0))∧p.2.2.length≤vs.length∧
  ∀(i:Nat) v c,vs[i]? =some v→p.2.2[i]? =some c→VRel g2 (fun _=>False) w v c:=by
  intro p hp
  obtain⟨_,_,us,t,h3,h4,h5,h6,h7⟩:=hY p hp
  exact⟨by rw[hky p hp];exact Nat.le_refl _,us,t,h3,by omega,fun i v c hv hc=>(h7 i v c hv hc).mono hm (fun _ _ _=>rfl) (fun _ h=>h) (fun _ _=>rfl) (fun _ _=>rfl)⟩
 have hv:∀v c c2,(c2=c∨∃u l,c= .raw u∧c2= .slice .any l∧Frz y u l)→VRel g (·<σ.nx) w v c→VRel g2 (·<σ.nx) w v c2:=by
  rintro v c c2 (rfl|⟨u,l,rfl,rfl,hz⟩) h
  ·exact h.mono hm (fun _ _ _=>rfl) (fun _ h=>h) (fun _ _=>rfl) (fun _ _=>rfl)
  ·rw [h.raw_inv]
   exact .data (hz g2 w hyd)
 have hfootin:∀x,Foot g2 es2 x→Foot g σ.es x:=by
  rintro x ⟨i,e2,p1,p2⟩
  obtain⟨e,p3,p4⟩:=he i e2 p1
  exact⟨i,e,p3,p4.foot (D:=(·<σ.nx)) (n:=i) (hR.lt _ _ p3) (g:=g) (g2:=g2) (fun _ _=>rfl) (fun _ _=>rfl) p2⟩
 refine⟨a2,_,[],g2,⟨rfl,rfl,rfl⟩,hk,?_,⟨hF.size,hF.defers,fun t c2 hc=> ?_⟩,.nil,?_⟩
 ·refine hR.conv (fun _ h=>h) hm (fun _ _=>rfl) (fun _ _=>rfl) (fun b hb=>hnk b (hfk b hb)) (fun b hb=> ?_) (fun b t h=> ?_) _ hv σ.nx fun i e2 hi=> .inr (he i e2 hi)
  ·rw [hnk b (by rintro⟨p,hp,rfl⟩;have:=hlt p hp;omega)]
   exact hR.fresh b hb
  ·by_cases hb:Keys y b
   ·obtain ⟨p,hp,rfl⟩:=hb
    exact(Mrk.not_of (hky p hp) h).elim
   ·exact hR.nodes b t ((hnk b hb).symm.trans h)
 ·obtain ⟨c,p1,p2⟩:=hf t c2 hc
  obtain⟨v,p3,p4⟩:=hF.vals t c p1
  exact⟨v,p3,hv v c c2 p2 p4⟩
 ·refine ⟨rfl,rfl,rfl,Nat.le_refl _,fun _ _ _=>rfl,hm,fun _ _=>rfl,fun _ _=>rfl,fun b hb hnf=>⟨fun _=>rfl,hnk b fun h=>hnf (.inr h)⟩,fun x hx=> .inl ?_⟩
  rw[FY.nil] at hx
  exact .inl (hfootin x hx)
end
end Go.Ab
namespace Go.Ab
open Go
set_option linter.all false
section
variable {E:Env} {N:Nat} {o:Oper} {a:AF}
theorem OS.appendRR{t te:TypeId}{s x:Operand}{i ie:TI}{co:Option EC}{sz bytes n r len q len2:Nat}{cs cs2:List V}(ho:o.op= .call {callee:= .builtin .append,args:= #[s,x],argTypes:= #[t,t]})
 (ht:E.ti t=some i) (hd:i.desc= .slc co sz bytes) (hte:E.P.underlying t=some (.slice te)) (hti:E.ti te=some ie) (hs:ev E t a s=some (.arr r len sz)) (hx:ev E t a x=some (.arr q len2 sz)) (hpos:0<len2) (hcl:cs.length=len*sz)
 (hcl2:cs2.length=len2*sz) (hb:(len+len2)*bytes≤140737488355328) (hb2:len+len2≤9223372036854775807):
 OS E N o a [(r,.var cs),(q,.var cs2)] (.arr n (len+len2) sz) [n] [(n,.var (cs++cs2)),(r,.gone)]:=
 .of_run fun g D es w act hR hp hn hF=>by
  obtain⟨e,inf,z,h1,h2,h3,h4,h5,h6,h7,h8⟩:=slc_inv ht hd
  obtain rfl:e=te:=by rw[h1] at hte;cases hte;rfl
  obtain⟨inf2,hi1,hi2,z2,hi3,hi4⟩:=ti_info hti
  have hz1:∀v∈z.cells.toList,v.oneCell'=true:=by
   rw[h2] at hi1;cases hi1
   rw[h5] at hi3;cases hi3
   exact(zmatch_rel hi4).2.1
  have hn':¬D n:=hn n (by simp)
  have hr:=hp (r,.var cs) (by simp)
  have hq:=hp (q,.var cs2) (by simp)
  have hvs:=ev_rel hs hR hF
  have hvx:=ev_rel hx hR hF
  have hDD:∀i,(D i∨i=n)→(D i∨i∈[n]):=fun i h=>h.imp id (fun h=>by simp[h])
  have hrun:∀v w',(Builtin.append_ #[t,t] o.type #[act.eval s,act.eval x]).run E.P w= .ok v w'→(execOp act.eval o).run E.P w= .ok (.value v) w':=fun v w' h=>by
   simp[execOp,ho,resolve,invoke,builtin,h]
  generalize hxv:act.eval x=xv at hvx hrun
  cases hvx with
  |data h=>cases h
  |arr _ _ _ cap2 hDq hcap2 hrow2=>
  obtain⟨_,us,te2,k10,k11,k12,k13,k14⟩:=hR.ents q _ hq
  have hlen2:=k14 _ hrow2
  simp only at hlen2
  have hus:len2*sz≤us.length:=by rw[hlen2];exact Nat.mul_le_mul_right _ hcap2
  obtain⟨news,hnews0⟩:∃news,news=us.take (len2*sz):=⟨_,rfl⟩
  have hnews:news.length=len2*sz:=by rw[hnews0,List.length_take];omega
  have hn1:∀v∈news,v.oneCell'=true:=fun v hv=>by rw[hnews0] at hv;exact k12 v (List.mem_of_mem_take hv)
  have hnf:∀W:World,W.heap=w.heap→(Builtin.firstCells inf.size len2 (.slice (some ⟨g.blk q,0,none⟩) len2 cap2)).run E.P W= .ok news.toArray W:=fun W hW=>by
   rw[h3]
   exact run_firstCells_some (P:=E.P) W sz len2 ⟨g.blk q,0,none⟩ len2 cap2 news hnews (fun j v hv=>by
    rw[hnews0,List.getElem?_take] at hv
    split at hv
    ·rw [addN,Nat.zero_add,cell_in (by rw[hW];exact k10)];simpa using hv
    ·cases hv)
  have hnv:∀(p:Nat) u d,news[p]? =some u→cs2[p]? =some d→VRel g D w u d:=fun p u d hu hd=>by
   rw[hnews0,List.getElem?_take] at hu
   split at hu
   ·exact k13 p u d hu hd
   ·cases hu
  generalize hv:act.eval s=v at hvs hrun
  cases hvs with
  |data h=>cases h
  |arr _ _ _ cap hDr hcap hrow=>
   obtain⟨h9,vs,te,h10,h11,h12,h13,h14⟩:=hR.ents r _ hr
   have hlen:=h14 _ hrow
   simp only at hlen
   by_cases hroom:len+len2≤cap
   ·have hfit:len*sz+news.length≤vs.length:=by rw[hnews,←Nat.add_mul,hlen];exact Nat.mul_le_mul_right _ hroom
    obtain⟨hR1,hx1⟩:=hR.store hr h10 (vs':=vs.take (len*sz)++news++vs.drop (len*sz+news.length)) (cs':=cs++cs2)
     (by simp only[List.length_append,List.length_take,List.length_drop,hcl2,hcl];omega) (by simp only[List.length_append,List.length_take,List.length_drop];omega)
     (fun u hu=>by
      rcases List.mem_append.1 hu with hu|hu
      ·rcases List.mem_append.1 hu with hu|hu
       ·exact h12 u (List.mem_of_mem_take hu)
       ·exact hn1 u hu
      ·exact h12 u (List.mem_of_mem_drop hu))
     (fun j u d hu hd=>by
      rw[splice_get _ _ _ _ (by omega)] at hu
      by_cases hj:j<len*sz
      ·rw [if_pos hj] at hu
       rw[List.getElem?_append_left (by omega)] at hd
       exact h13 j u d hu hd
      ·rw [if_neg hj] at hu
       rw[List.getElem?_append_right (by omega),hcl] at hd
       have hq:=(List.getElem?_eq_some_iff.1 hd).1
       rw[if_pos (by omega)] at hu
       exact hnv _ u d hu hd)
    obtain⟨hR2,hx2⟩:=hR1.moved (n:=n) hn' (r:=r) (cs:=cs++cs2) (by rw[findE_cons,if_pos rfl])
    rw[hrow] at hR2 hx2
    have he:∀i,findE ((n,Ent.var (cs++cs2))::(r,.gone)::es) i=findE ((n,Ent.var (cs++cs2))::(r,.gone)::(r,.var (cs++cs2))::es) i:=fun i=>by
     simp only[findE_cons]
     by_cases q1:n=i
     ·simp [q1]
     ·by_cases q2:r=i<;>simp[q1,q2]
    refine⟨_,.slice (some ⟨g.blk r,0,none⟩) (len+len2) cap,_,hrun _ _ ?_,(hR2.congr he).more hDD,?_,?_⟩
    ·have:=run_app_room (P:=E.P) (w:=w) (ty:=o.type) h1 h2 h10 (sLen:=len) (sCap:=cap) (xb:=some ⟨g.blk q,0,none⟩) (n:=len2) (xc:=cap2) (news:=news) (by rw[hnews,h3]) hn1 (hnf w rfl) hroom (by rw[h3];simpa using hfit)
     rw[h3] at this
     exact this
    ·exact arr_same D g n (g.blk r) _ hroom
    ·have h15:=hx1.trans hx2
     have hf:Foot (g.nameR n (g.blk r) (some ⟨g.blk r,0,cap,sz,0⟩)) ([(n,.var (cs++cs2)),(r,.gone)]++es)=Foot (g.nameR n (g.blk r) (some ⟨g.blk r,0,cap,sz,0⟩)) ((n,Ent.var (cs++cs2))::(r,.gone)::(r,.var (cs++cs2))::es):=Foot.congr he
     rw[hf]
     exact h15
   ·obtain ⟨hRg,hxg⟩:=hR.gone hr
    have hge:=grownCap_ge w (len+len2) cap e
    obtain⟨olds,holds⟩:∃olds,olds=vs.take (len*sz):=⟨_,rfl⟩
    have hol:olds.length=len*sz:=by rw[holds,List.length_take];omega
    obtain⟨hR',hx'⟩:=hRg.drew.boxR hn' (some ⟨w.heap.size,0,grownCap w (len+len2) cap e,sz,0⟩) (vs:=olds++news++(Builtin.zeroCells z.cells (grownCap w (len+len2) cap e-(len+len2))).toList) (cs:=cs++cs2) e
     (by simp only[List.length_append,hcl2,hcl,hol,hnews];omega)
     (fun v hv=>by
      rcases List.mem_append.1 hv with hv|hv
      ·rcases List.mem_append.1 hv with hv|hv
       ·rw [holds] at hv;exact h12 v (List.mem_of_mem_take hv)
       ·exact hn1 v hv
      ·exact zeroCells_one hz1 _ v hv)
     (fun q v d hv hd=>by
      by_cases hq:q<len*sz
      ·rw [List.append_assoc,List.getElem?_append_left (by omega),holds,List.getElem?_take,if_pos hq] at hv
       rw[List.getElem?_append_left (by omega)] at hd
       exact(h13 q v d hv hd).mono (fun _=>Mrk.le_refl _) (fun _ _ _=>rfl) (fun _ h=>h) (fun _ _=>rfl) (fun _ _=>rfl)
      ·rw [List.getElem?_append_right (by omega),hcl] at hd
       have hq2:=(List.getElem?_eq_some_iff.1 hd).1
       rw[List.append_assoc,List.getElem?_append_right (by omega),hol,List.getElem?_append_left (by omega)] at hv
       exact(hnv _ v d hv hd).mono (fun _=>Mrk.le_refl _) (fun _ _ _=>rfl) (fun _ h=>h) (fun _ _=>rfl) (fun _ _=>rfl))
     (fun r hr=>by
      cases hr
      simp only[List.length_append,Array.length_toList,size_zeroCells,hnews,hol,h6]
      rw[←Nat.add_mul,←Nat.add_mul]
      congr 1
      omega)
    refine⟨_,.slice (some ⟨w.heap.size,0,none⟩) (len+len2) (grownCap w (len+len2) cap e),_,hrun _ _ ?_,hR'.more hDD,?_,(hxg.trans Ext.drew).trans hx'⟩
    ·have hof:∀W:World,W.heap=w.heap→(Builtin.firstCells inf.size len (.slice (some ⟨g.blk r,0,none⟩) len cap)).run E.P W= .ok olds.toArray W:=fun W hW=>by
      rw[h3]
      exact run_firstCells_some (P:=E.P) W sz len ⟨g.blk r,0,none⟩ len cap olds hol (fun j v hv=>by
       rw[holds,List.getElem?_take] at hv
       split at hv
       ·rw [addN,Nat.zero_add,cell_in (by rw[hW];exact h10)];simpa using hv
       ·cases hv)
     exact run_app_new (P:=E.P) (w:=w) (ty:=o.type) h1 h2 h5 (base:=some ⟨g.blk r,0,none⟩) (sLen:=len) (sCap:=cap) (xb:=some ⟨g.blk q,0,none⟩) (n:=len2) (xc:=cap2) (olds:=olds) (news:=news)
      hof (fun W hW=>hnf W hW) (by omega) (by rw[h4];exact hb) (by omega)
    ·exact arr_same D g n _ _ hge
theorem OS.appendNR{t te:TypeId}{s x:Operand}{i ie:TI}{co:Option EC}{sz bytes n q len2:Nat}{l0:SL V}{cs2:List V}(ho:o.op= .call {callee:= .builtin .append,args:= #[s,x],argTypes:= #[t,t]})
 (ht:E.ti t=some i) (hd:i.desc= .slc co sz bytes) (hte:E.P.underlying t=some (.slice te)) (hti:E.ti te=some ie) (hs:ev E t a s=some (.slice .nil l0)) (hx:ev E t a x=some (.arr q len2 sz)) (hpos:0<len2)
 (hcl2:cs2.length=len2*sz) (hb:len2*bytes≤140737488355328) (hb2:len2≤9223372036854775807):
 OS E N o a [(q,.var cs2)] (.arr n len2 sz) [n] [(n,.var cs2)]:=
 .of_run fun g D es w act hR hp hn hF=>by
  obtain⟨e,inf,z,h1,h2,h3,h4,h5,h6,h7,h8⟩:=slc_inv ht hd
  obtain rfl:e=te:=by rw[h1] at hte;cases hte;rfl
  obtain⟨inf2,hi1,hi2,z2,hi3,hi4⟩:=ti_info hti
  have hz1:∀v∈z.cells.toList,v.oneCell'=true:=by
   rw[h2] at hi1;cases hi1
   rw[h5] at hi3;cases hi3
   exact(zmatch_rel hi4).2.1
  have hn':¬D n:=hn n (by simp)
  have hq:=hp (q,.var cs2) (by simp)
  have hvs:=ev_rel hs hR hF
  have hvx:=ev_rel hx hR hF
  have hsv:act.eval s= .slice none 0 0:=by
   generalize hv:act.eval s=v at hvs
   cases hvs with
   |data h=>cases h
   |nilS _ h=>rfl
  generalize hxv:act.eval x=xv at hvx
  cases hvx with
  |data h=>cases h
  |arr _ _ _ cap2 hDq hcap2 hrow2=>
  obtain⟨_,us,te2,k10,k11,k12,k13,k14⟩:=hR.ents q _ hq
  have hlen2:=k14 _ hrow2
  simp only at hlen2
  have hus:len2*sz≤us.length:=by rw[hlen2];exact Nat.mul_le_mul_right _ hcap2
  obtain⟨news,hnews0⟩:∃news,news=us.take (len2*sz):=⟨_,rfl⟩
  have hnews:news.length=len2*sz:=by rw[hnews0,List.length_take];omega
  have hn1:∀v∈news,v.oneCell'=true:=fun v hv=>by rw[hnews0] at hv;exact k12 v (List.mem_of_mem_take hv)
  have hnf:∀W:World,W.heap=w.heap→(Builtin.firstCells inf.size len2 (.slice (some ⟨g.blk q,0,none⟩) len2 cap2)).run E.P W= .ok news.toArray W:=fun W hW=>by
   rw[h3]
   exact run_firstCells_some (P:=E.P) W sz len2 ⟨g.blk q,0,none⟩ len2 cap2 news hnews (fun j v hv=>by
    rw[hnews0,List.getElem?_take] at hv
    split at hv
    ·rw [addN,Nat.zero_add,cell_in (by rw[hW];exact k10)];simpa using hv
    ·cases hv)
  have hnv:∀(p:Nat) u d,news[p]? =some u→cs2[p]? =some d→VRel g D w u d:=fun p u d hu hd=>by
   rw[hnews0,List.getElem?_take] at hu
   split at hu
   ·exact k13 p u d hu hd
   ·cases hu
  have hrun:=run_app_new (P:=E.P) (w:=w) (ty:=o.type) h1 h2 h5 (base:=none) (sLen:=0) (sCap:=0) (xb:=some ⟨g.blk q,0,none⟩) (n:=len2) (xc:=cap2) (olds:=[]) (news:=news) (fun W _=>by simp[Builtin.firstCells])
   (fun W hW=>hnf W hW) (by omega) (by rw[h4];simpa using hb) (by omega)
  have hge:=grownCap_ge w (0+len2) 0 e
  obtain⟨hR',hx'⟩:=hR.drew.boxR hn' (some ⟨w.heap.size,0,grownCap w (0+len2) 0 e,sz,0⟩) (vs:=[]++news++(Builtin.zeroCells z.cells (grownCap w (0+len2) 0 e-(0+len2))).toList) (cs:=cs2) e
   (by rw[List.nil_append,List.length_append,hnews,hcl2];omega)
   (fun v hv=>by
    rw[List.nil_append] at hv
    rcases List.mem_append.1 hv with hv|hv
    ·exact hn1 v hv
    ·exact zeroCells_one hz1 _ v hv)
   (fun p v d hv hd=>by
    have hq:=(List.getElem?_eq_some_iff.1 hd).1
    rw[List.nil_append,List.getElem?_append_left (by omega)] at hv
    exact(hnv p v d hv hd).mono (fun _=>Mrk.le_refl _) (fun _ _ _=>rfl) (fun _ h=>h) (fun _ _=>rfl) (fun _ _=>rfl))
   (fun r hr=>by
    cases hr
    simp only[List.length_append,List.nil_append,Array.length_toList,size_zeroCells,hnews,h6]
    rw[←Nat.add_mul]
    congr 1
    omega)
  refine⟨_,.slice (some ⟨w.heap.size,0,none⟩) (0+len2) (grownCap w (0+len2) 0 e),_,?_,hR'.more (fun i hi=>by simpa using hi),?_,Ext.drew.trans hx'⟩
  ·simp only[List.nil_append] at hrun
   simp[execOp,ho,resolve,invoke,builtin,hsv,hxv,hrun]
  ·have h9:=arr_new D g n (w.drew.alloc (.cells ([]++news++(Builtin.zeroCells z.cells (grownCap w (0+len2) 0 e-(0+len2))).toList).toArray e)) (b:=w.drew.heap.size) (len:=len2) (cap:=grownCap w (0+len2) 0 e) (sz:=sz) (by omega)
   rw[Nat.zero_add] at h9 ⊢
   exact h9
end
section
variable {E:Env} {N k:Nat} {a:AF} {σ:Sto} {Q:Exit→AF→Sto→Prop} {ops:List Oper} {dr:Bool} {rest:List Oper} {acc:List Rec}
variable {d:Option Tmp} {ty:TypeId} {ps:String} {af:Array Edge} {gd:Option (Nat×Bool)}
namespace L
theorem yR{t te:TypeId}{s x:Operand}{z:Nat}{zr:List V}{ie:TI}{co:Option EC}{sz bytes r len q len2:Nat}{cs cs2:List V}(hw:wantG ops a gd=some true)(hs:ev E t a s=some (.arr r len sz))(hx:ev E t a x=some (.arr q len2 sz))(ht:E.ti t=some ⟨z,zr,.slc co sz bytes⟩)
 (hte:E.P.underlying t=some (.slice te)) (hti:E.ti te=some ie) (hn:findE σ.es r=some (.var cs)) (hn2:findE σ.es q=some (.var cs2)) (hcl:cs.length=len*sz) (hcl2:cs2.length=len2*sz) (hd:dstOk N d=true) (hby:Nat.ble bytes 128=true) (hpos:0<len2) (hb:len+len2≤1099511627776)
 (h2:AX E N k dr ops rest (a.put d (.arr σ.nx (len+len2) sz)) (σ.upd 1 [(σ.nx,.var (cs++cs2)),(r,.gone)]) (⟨[(r,.var cs),(q,.var cs2)],.arr σ.nx (len+len2) sz,1,[(σ.nx,.var (cs++cs2)),(r,.gone)]⟩::acc) Q):
 AX E N k dr ops (⟨d,.call ⟨.builtin .append,#[s,x],#[t,t]⟩,ty,ps,af,gd⟩::rest) a σ acc Q:=
 AX.run 1 hw (OS.appendRR rfl ht rfl hte hti (fr (by simp[Op.operands,Call.operands]) hs) (fr (by simp[Op.operands,Call.operands]) hx) hpos hcl hcl2
  (by
   have h3:bytes≤128:=Nat.le_of_ble_eq_true hby
   have h4:(len+len2)*bytes≤1099511627776*128:=Nat.mul_le_mul hb h3
   omega) (by omega)) ⟨hn,hn2,trivial⟩ hd h2
theorem yN{t te:TypeId}{s x:Operand}{z:Nat}{zr:List V}{ie:TI}{co:Option EC}{sz bytes q len2:Nat}{l0:SL V}{cs2:List V}(hw:wantG ops a gd=some true)(hs:ev E t a s=some (.slice .nil l0))(hx:ev E t a x=some (.arr q len2 sz))(ht:E.ti t=some ⟨z,zr,.slc co sz bytes⟩)
 (hte:E.P.underlying t=some (.slice te)) (hti:E.ti te=some ie) (hn2:findE σ.es q=some (.var cs2)) (hcl2:cs2.length=len2*sz) (hd:dstOk N d=true) (hby:Nat.ble bytes 128=true) (hpos:0<len2) (hb:len2≤1099511627776)
 (h2:AX E N k dr ops rest (a.put d (.arr σ.nx len2 sz)) (σ.upd 1 [(σ.nx,.var cs2)]) (⟨[(q,.var cs2)],.arr σ.nx len2 sz,1,[(σ.nx,.var cs2)]⟩::acc) Q):
 AX E N k dr ops (⟨d,.call ⟨.builtin .append,#[s,x],#[t,t]⟩,ty,ps,af,gd⟩::rest) a σ acc Q:=
 AX.run 1 hw (OS.appendNR rfl ht rfl hte hti (fr (by simp[Op.operands,Call.operands]) hs) (fr (by simp[Op.operands,Call.operands]) hx) hpos hcl2
  (by
   have h3:bytes≤128:=Nat.le_of_ble_eq_true hby
   have h4:len2*bytes≤1099511627776*128:=Nat.mul_le_mul hb h3
   omega) (by omega)) ⟨hn2,trivial⟩ hd h2
end L
end
inductive Yn where
 |dat (c:V)
 |row (c:EC) (n:Nat) (cells:List Yn)
mutual
inductive YM (s:Prop):Yn→V→Ys→Prop
 |dat (c:V) (h:V.isD c=true):YM s (.dat c) c []
 |nil (c:EC):YM s (.row c 0 []) (.raw (.slice none 0 0)) []
 |row (c:EC) (n:Nat) (cells:List Yn) (b room cap:Nat) (cs:List V) (y:Ys) (hroom:s→room=cap*c.cells) (hcap:n≤cap) (hn:0<n) (hl:cells.length=n*c.cells) (h:YMs s cells cs y):
  YM s (.row c n cells) (.rs b n cap) ((b,room,cs)::y)
inductive YMs (s:Prop):List Yn→List V→Ys→Prop
 |nil:YMs s [] [] []
 |cons {x:Yn} {v:V} {y:Ys} {l:List Yn} {vs:List V} {y2:Ys} (h:YM s x v y) (h2:YMs s l vs y2):YMs s (x::l) (v::vs) (y++y2)
end
mutual
inductive Er:Yn→V→Prop
 |dat (c:V) (h:V.isD c=true):Er (.dat c) c
 |row (c:EC) (n:Nat) (cells:List Yn) (xs:List c.sem) (hl:xs.length=n) (h:Ers cells (xs.flatMap c.view)):Er (.row c n cells) (.slice .any (.t c xs))
inductive Ers:List Yn→List V→Prop
 |nil:Ers [] []
 |cons {x:Yn} {v:V} {l:List Yn} {vs:List V} (h:Er x v) (h2:Ers l vs):Ers (x::l) (v::vs)
end
theorem YMs.len{s:Prop}:∀{l:List Yn} {cs:List V} {y:Ys},YMs s l cs y→cs.length=l.length
 |[],_,_,h=>by cases h;rfl
 |x::l,_,_,h=>by cases h with|cons h h2=>simp[h2.len]
theorem Ers.len:∀{l:List Yn} {cs:List V},Ers l cs→cs.length=l.length
 |[],_,h=>by cases h;rfl
 |x::l,_,h=>by cases h with|cons h h2=>simp[h2.len]
theorem YMs.app{s:Prop}:∀{l:List Yn} {cs:List V} {y:Ys} {l2:List Yn} {cs2:List V} {y2:Ys},YMs s l cs y→YMs s l2 cs2 y2→YMs s (l++l2) (cs++cs2) (y++y2)
 |[],_,_,l2,cs2,y2,h,h2=>by cases h;exact h2
 |x::l,_,_,l2,cs2,y2,h,h2=>by
  cases h with
  |cons h h3=>rw[List.append_assoc];exact .cons h (h3.app h2)
theorem YMs.split{s:Prop}:∀{l l2:List Yn} {cs:List V} {y:Ys},YMs s (l++l2) cs y→∃cs1 cs2 y1 y2,cs=cs1++cs2∧y=y1++y2∧YMs s l cs1 y1∧YMs s l2 cs2 y2
 |[],l2,cs,y,h=>⟨[],cs,[],y,rfl,rfl,.nil,h⟩
 |x::l,l2,_,_,h=>by
  cases h with
  | @cons _ v y0 _ vs y2 h h3=>
    obtain⟨cs1,cs2,y1,y2,rfl,rfl,h4,h5⟩:=h3.split
    exact⟨v::cs1,cs2,y0++y1,y2,rfl,by rw[List.append_assoc],.cons h h4,h5⟩
theorem Ers.app:∀{l:List Yn} {cs:List V} {l2:List Yn} {cs2:List V},Ers l cs→Ers l2 cs2→Ers (l++l2) (cs++cs2)
 |[],_,l2,cs2,h,h2=>by cases h;exact h2
 |x::l,_,l2,cs2,h,h2=>by cases h with|cons h h3=>exact .cons h (h3.app h2)
theorem Ers.split:∀{l l2:List Yn} {cs:List V},Ers (l++l2) cs→∃cs1 cs2,cs=cs1++cs2∧Ers l cs1∧Ers l2 cs2
 |[],l2,cs,h=>⟨[],cs,rfl,.nil,h⟩
 |x::l,l2,_,h=>by
  cases h with
  |cons h h3=>
   obtain⟨cs1,cs2,rfl,h4,h5⟩:=h3.split
   exact⟨_::cs1,cs2,rfl,.cons h h4,h5⟩
mutual
theorem YM.weak{s s':Prop}(hs:s'→s):∀{x:Yn} {v:V} {y:Ys},YM s x v y→YM s' x v y
 |_,_,_,.dat c h=> .dat c h
 |_,_,_,.nil c=> .nil c
 |_,_,_,.row c n cells b room cap cs y hroom hcap hn hl h=> .row c n cells b room cap cs y (fun h=>hroom (hs h)) hcap hn hl (h.weak hs)
theorem YMs.weak{s s':Prop}(hs:s'→s):∀{l:List Yn} {cs:List V} {y:Ys},YMs s l cs y→YMs s' l cs y
 |_,_,_,.nil=> .nil
 |_,_,_,.cons h h2=> .cons (h.weak hs) (h2.weak hs)
end
theorem V.isD_ren{c:V}(h:V.isD c=true)(ρ:List (Option Nat)):renV ρ c=some c:=by
 cases c with
 |slice sp l=>cases sp<;>first|rfl|cases h
 |_=>first|rfl|cases h
theorem V.isD_free{c:V}(h:V.isD c=true):V.free c:=fun g D w v hv=> .data (hv.isD h)
theorem YM.ren{s:Prop}{x:Yn}{v:V}{y:Ys}(h:YM s x v y)(ρ:List (Option Nat)):renV ρ v=some v∧V.free v:=by
 cases h with
 |dat _ h=>exact⟨V.isD_ren h ρ,V.isD_free h⟩
 |nil=>exact⟨rfl,V.free_raw _⟩
 |row=>exact⟨rfl,V.free_raw _⟩
theorem YMs.ren{s:Prop}:∀{l:List Yn} {cs:List V} {y:Ys},YMs s l cs y→∀ρ:List (Option Nat),renVs ρ cs=some cs
 |_,_,_,.nil,ρ=>rfl
 |_,_,_,.cons h h2,ρ=>by simp[renVs,(h.ren ρ).1,h2.ren ρ]
theorem YMs.free{s:Prop}:∀{l:List Yn} {cs:List V} {y:Ys},YMs s l cs y→∀c∈cs,V.free c
 |_,_,_,.nil,c,hc=>by cases hc
 |_,_,_,.cons h h2,c,hc=>by
  rcases List.mem_cons.1 hc with rfl|hc
  ·exact (h.ren []).2
  ·exact h2.free c hc
def YD(y:Ys)(g:Gh)(w:World):Prop:=∀p∈y,p.2.2.length≤(g.m p.1).n∧∃(vs:List Value) (t:TypeId),w.heap[p.1]? =some (.cells vs.toArray t (0,0))∧p.2.2.length≤vs.length∧
 ∀(i:Nat) v c,vs[i]? =some v→p.2.2[i]? =some c→VRel g (fun _=>False) w v c
mutual
theorem YM.data{s:Prop}{g:Gh}{w:World}:∀{x:Yn} {v:V} {y:Ys},YM s x v y→∀{c:V},Er x c→YD y g w→∀{u:Value},VRel g (fun _=>False) w u v→DRel g.m w u c
 |_,_,_,.dat c _,_,he,_,u,hu=>by cases he with|dat _ h=>exact hu.isD h
 |_,_,_,.nil c,_,he,_,u,hu=>by
  cases he with
  |row _ _ _ xs hl h=>
   rw[hu.raw_inv]
   exact .nilS _ (by simpa [SL.len] using hl)
 |_,_,_,.row c n cells b room cap cs y _ hcap hn hlc h,_,he,hy,u,hu=>by
  cases he with
  |row _ _ _ xs hxl hx=>
   rw[hu.raw_inv]
   obtain⟨hm,vs,t,hh,hvl,hv⟩:=hy (b,room,cs) (by simp)
   simp only at hm hh hvl hv
   have hcl:=h.len
   have key:=h.data hx (fun p hp=>hy p (by simp[hp])) (vs:=vs.take cs.length) (by simp;omega) (fun i v c hi hc=>by
    rw[List.getElem?_take] at hi
    split at hi
    ·exact hv i v c hi hc
    ·cases hi)
   subst hxl
   have hfl:=fview_len c xs
   refine .slice (.t c xs) b 0 cap (fun i j=>vs.getD (i*c.cells+j) undef) (by show 0+xs.length*c.cells≤(g.m b).n;omega) hcap (fun i hi=> ?_) (fun i j hi hj=> ?_) (fun i j ds d hi hds hd=> ?_)
   ·exact ⟨c.view xs[i],by show(xs[i]?).map c.view=_;rw[List.getElem?_eq_getElem hi];rfl,EC.view_len c _⟩
   ·rw [Nat.zero_add,cell_in hh]
    have:=slot_lt hi hj
    have hlt:i*c.cells+j<vs.length:=by
     have:i*c.cells+j<xs.length*c.cells:=this
     omega
    show vs.toArray[i*c.cells+j]? =some (vs.getD (i*c.cells+j) undef)
    rw[List.getElem?_toArray,List.getElem?_eq_getElem hlt,List.getD_eq_getElem?_getD,List.getElem?_eq_getElem hlt];rfl
   ·have hds':(xs[i]?).map c.view=some ds:=hds
    rw[List.getElem?_eq_getElem hi] at hds'
    simp only[Option.map_some,Option.some.injEq] at hds'
    subst hds'
    have hj:j<c.cells:=by have:=(List.getElem?_eq_some_iff.1 hd).1;rwa [EC.view_len] at this
    have h1:(xs.flatMap c.view)[i*c.cells+j]? =some d:=by rw[fview_get c xs i j hj,List.getElem?_eq_getElem hi];exact hd
    have hlt:i*c.cells+j<vs.length:=by
     have h2:=(List.getElem?_eq_some_iff.1 h1).1
     omega
    have h3:(vs.take cs.length)[i*c.cells+j]? =some (vs.getD (i*c.cells+j) undef):=by
     have h2:=(List.getElem?_eq_some_iff.1 h1).1
     rw[List.getElem?_take,if_pos (by omega),List.getElem?_eq_getElem hlt,List.getD_eq_getElem?_getD,List.getElem?_eq_getElem hlt];rfl
    exact key _ _ _ h3 h1
theorem YMs.data{s:Prop}{g:Gh}{w:World}:∀{l:List Yn} {cs:List V} {y:Ys},YMs s l cs y→∀{ds:List V},Ers l ds→YD y g w→∀{vs:List Value},vs.length=cs.length→(∀(i:Nat) v c,vs[i]? =some v→cs[i]? =some c→VRel g (fun _=>False) w v c)→
 ∀(i:Nat) v d,vs[i]? =some v→ds[i]? =some d→DRel g.m w v d
 |_,_,_,.nil,_,he,_,vs,hl,hv=>fun i v d hi hd=>by cases he;simp at hd
 |_,_,_,.cons h h2,_,he,hy,vs,hl,hv=>fun i v d hi hd=>by
  cases he with
  |cons he he2=>
   cases vs with
   |nil=>simp at hi
   |cons u us=>
    cases i with
    |zero=>
     simp at hi hd
     subst hi;subst hd
     exact h.data he (fun p hp=>hy p (by simp[hp])) (hv 0 _ _ rfl rfl)
    |succ i=>
     exact h2.data he2 (fun p hp=>hy p (by simp[hp])) (vs:=us) (by simpa using hl) (fun i v c hi hc=>hv (i+1) v c (by simpa using hi) (by simpa using hc)) i v d (by simpa using hi) (by simpa using hd)
end
theorem Frz.of{s:Prop}{x:Yn}{u:Value}{y y2:Ys}{l:SL V}(h:YM s x (.raw u) y)(he:Er x (.slice .any l))(hy:∀p∈y,p∈y2):Frz y2 u l:=
 fun g w hd=>h.data he (fun p hp=>hd p (hy p hp)) (.raw u)
mutual
def Tm.yn:Tm→List Yn| .mk k i t as=>[.dat (.i k),.dat (.i i),.dat (.i t.kind),.dat (.s .ty t.args),.row .tm as.length (Tm.yns as)]
def Tm.yns:List Tm→List Yn|[]=>[]|a::l=>a.yn++Tm.yns l
end
theorem Tm.yn_len:∀t:Tm,t.yn.length=5| .mk _ _ _ _=>rfl
theorem Tm.yns_len:∀l:List Tm,(Tm.yns l).length=l.length*5
 |[]=>rfl
 |a::l=>by rw[Tm.yns,List.length_append,Tm.yn_len,Tm.yns_len l,List.length_cons];omega
mutual
theorem Tm.er:∀t:Tm,Ers t.yn t.view
 | .mk k i t as=> .cons (.dat _ rfl) (.cons (.dat _ rfl) (.cons (.dat _ rfl) (.cons (.dat _ rfl) (.cons (.row .tm _ _ as rfl (Tm.ers as)) .nil))))
theorem Tm.ers:∀l:List Tm,Ers (Tm.yns l) (l.flatMap (EC.view .tm))
 |[]=> .nil
 |a::l=>by rw[Tm.yns,List.flatMap_cons];exact(Tm.er a).app (Tm.ers l)
end
section
variable {E:Env} {N k:Nat} {a:AF} {σ:Sto} {y:Ys} {Q:Exit→AF→Sto→Ys→Prop}
theorem WeakB.ofW{a2:AF}{σ2:Sto}{S:AF→Sto→Ys→Prop}(h:Weak E N k a σ a2 σ2)(hS:S a2 σ2 y):WeakB E N k a σ y S:=by
 intro hk g w act hR hF hY
 obtain⟨hk2,hw⟩:=h hk
 obtain⟨g2,hR2,hF2,hx⟩:=hw g w act hR hF
 exact⟨a2,σ2,y,g2,hS,hk2,hR2,hF2,hY.ext hx,hx.keys y⟩
theorem WeakB.mono{S S':AF→Sto→Ys→Prop}(h:WeakB E N k a σ y S)(hS:∀a σ y,S a σ y→S' a σ y):WeakB E N k a σ y S':=by
 intro hk g w act hR hF hY
 obtain⟨a2,σ2,y2,g2,hs,h2⟩:=h hk g w act hR hF hY
 exact⟨a2,σ2,y2,g2,hS _ _ _ hs,h2⟩
theorem WeakB.keep{S:AF→Sto→Ys→Prop}(hS:S a σ y):WeakB E N k a σ y S:= .ofW .refl hS
theorem BW.weakW{c:Code}{a2:AF}{σ2:Sto}(h:Weak E N k a σ a2 σ2)(h2:BW E N k c a2 σ2 y Q):BW E N k c a σ y Q:=
 .weak (S:=fun a3 σ3 y3=>a3=a2∧σ3=σ2∧y3=y) (.ofW h ⟨rfl,rfl,rfl⟩) (by rintro _ _ _ ⟨rfl,rfl,rfl⟩;exact h2)
namespace K
theorem yT{z:Code}(h:BW E N k z a σ y Q):thenB E N k z Q .normal a σ y:=h
theorem yB{id:Nat}(h:Q .normal a σ y):blockB id Q .normal a σ y:=h
end K
def AF.Cnv(Cv:V→V→Prop)(a:AF):AF→Prop
 |[]=>True
 |p::l=>(∃c,a.get p.1=some c∧Cv c p.2)∧AF.Cnv Cv a l
theorem AF.Cnv.get{Cv:V→V→Prop}{a:AF}:∀{a2:AF},AF.Cnv Cv a a2→∀t c2,a2.get t=some c2→∃c,a.get t=some c∧Cv c c2
 |[],_,t,c2,h=>by cases h
 |p::l,h,t,c2,hc=>by
  obtain⟨m,e⟩:=p
  rw[AF.get_cons] at hc
  by_cases ht:m=t
  ·subst ht;rw[if_pos rfl] at hc;cases hc;exact h.1
  ·rw [if_neg ht] at hc;exact AF.Cnv.get h.2 t c2 hc
def Es.Cnv(Cv:V→V→Prop)(es:Es):Es→Prop
 |[]=>True
 |p::l=>(∃e,findE es p.1=some e∧ECv Cv e p.2)∧Es.Cnv Cv es l
theorem Es.Cnv.get{Cv:V→V→Prop}{es:Es}:∀{es2:Es},Es.Cnv Cv es es2→∀n e2,findE es2 n=some e2→∃e,findE es n=some e∧ECv Cv e e2
 |[],_,t,c2,h=>by cases h
 |p::l,h,t,c2,hc=>by
  obtain⟨m,e⟩:=p
  rw[findE_cons] at hc
  by_cases ht:m=t
  ·subst ht;rw[if_pos rfl] at hc;cases hc;exact h.1
  ·rw [if_neg ht] at hc;exact Es.Cnv.get h.2 t c2 hc
theorem ECv.same{Cv:V→V→Prop}(hr:∀c,Cv c c)(e:Ent):ECv Cv e e:=by
 cases e with
 |var cs=>exact⟨rfl,fun i c c2 h h2=>by rw[h] at h2;cases h2;exact hr c⟩
 |_=>first|trivial|rfl
def CvL(Cv:V→V→Prop):List V→List V→Prop
 |[],[]=>True
 |c::cs,c2::cs2=>Cv c c2∧CvL Cv cs cs2
 |_,_=>False
theorem CvL.get{Cv:V→V→Prop}:∀{cs cs2:List V},CvL Cv cs cs2→cs2.length=cs.length∧∀(i:Nat) c c2,cs[i]? =some c→cs2[i]? =some c2→Cv c c2
 |[],[],_=>⟨rfl,fun i c c2 h=>by simp at h⟩
 |c::cs,c2::cs2,h=>by
  obtain⟨h1,h2⟩:=CvL.get h.2
  refine⟨by simp[h1],fun i d d2 q q2=> ?_⟩
  cases i with
  |zero=>simp at q q2;subst q;subst q2;exact h.1
  |succ i=>exact h2 i d d2 (by simpa using q) (by simpa using q2)
 |[],_::_,h=>h.elim
 |_::_,[],h=>h.elim
theorem ECv.var{Cv:V→V→Prop}{cs cs2:List V}(h:CvL Cv cs cs2):ECv Cv (.var cs) (.var cs2):=h.get
theorem VLe.nilRaw(l:SL V):VLe (.slice .nil l) (.raw (.slice none 0 0)):=by
 intro g D w v h
 cases h with
 |data h=>cases h
 |nilS _ h=>exact .raw _
end
theorem YMs.inv{s:Prop}{x:Yn}{l:List Yn}{cs:List V}{y:Ys}(h:YMs s (x::l) cs y):∃v vs y1 y2,cs=v::vs∧y=y1++y2∧YM s x v y1∧YMs s l vs y2:=by
 cases h with|cons h h2=>exact⟨_,_,_,_,rfl,rfl,h,h2⟩
theorem YMs.tm{s:Prop}{t:Tm}{vs:List V}{y:Ys}(h:YMs s t.yn vs y):∃sv,vs=[.i t.kind,.i t.index,.i t.ty.kind,.s .ty t.ty.args,.raw sv]∧YM s (.row .tm t.args.length (Tm.yns t.args)) (.raw sv) y:=by
 obtain⟨k,i,ty,as⟩:=t
 have h:YMs s [.dat (.i k),.dat (.i i),.dat (.i ty.kind),.dat (.s .ty ty.args),.row .tm as.length (Tm.yns as)] vs y:=by unfold Tm.yn at h;exact h
 show ∃sv,vs=[.i k,.i i,.i ty.kind,.s .ty ty.args,.raw sv]∧YM s (.row .tm as.length (Tm.yns as)) (.raw sv) y
 generalize as.length=n at h ⊢
 generalize Tm.yns as=cells at h ⊢
 obtain⟨_,_,_,_,rfl,rfl,k1,h1⟩:=h.inv;cases k1
 obtain⟨_,_,_,_,rfl,rfl,k2,h2⟩:=h1.inv;cases k2
 obtain⟨_,_,_,_,rfl,rfl,k3,h3⟩:=h2.inv;cases k3
 obtain⟨_,_,_,_,rfl,rfl,k4,h4⟩:=h3.inv;cases k4
 obtain⟨_,_,_,_,rfl,rfl,k5,h5⟩:=h4.inv;cases h5
 cases k5 with
 |nil c=>exact⟨_,rfl,by simpa using YM.nil .tm⟩
 |row c n cells b room cap cs y hroom hcap hn hl hz=>exact⟨_,rfl,by simpa using YM.row .tm _ _ b room cap cs y hroom hcap hn hl hz⟩
section
variable {E:Env} {N k:Nat} {dr:Bool} {ops rest:List Oper} {a:AF} {σ:Sto} {acc:List Rec} {Q:Exit→AF→Sto→Prop}
variable {d:Option Tmp} {ty:TypeId} {ps:String} {af:Array Edge} {gd:Option (Nat×Bool)}
theorem L.bsC{t:TypeId}{vs:Array Value}{z:Nat}{zr:List V}{c:Option EC}{sz bytes:Nat}(cs:List V)(hw:wantG ops a gd=some true)(ht:E.ti t=some ⟨z,zr,.slc c sz bytes⟩)
 (hz:zmatch vs.toList cs=true) (hsz:Nat.beq cs.length sz=true) (hb:Nat.ble (1*sz) 16777216=true) (hd:dstOk N d=true)
 (h2:AX E N k dr ops rest (a.put d (.arr σ.nx 1 sz)) (σ.upd 1 [(σ.nx,.var cs)]) (⟨[],.arr σ.nx 1 sz,1,[(σ.nx,.var cs)]⟩::acc) Q):
 AX E N k dr ops (⟨d,.buildSlice t 1 #[(0,.const (.agg vs))],ty,ps,af,gd⟩::rest) a σ acc Q:=by
 have e:[cs].flatten=cs:=by simp
 obtain⟨h3,h4,h5⟩:=zmatch_rel hz
 refine AX.run 1 hw (OS.bslG (xs:=[.const (.agg vs)]) (cs:=[.agg cs]) (vcs:=[cs]) rfl rfl ht rfl (fun {g D es w act} _ _=>⟨rfl,fun i v c hv hc=> ?_⟩) rfl (by simp only[List.all_cons,List.all_nil,hsz];rfl) hb) trivial hd (by rw[e];exact h2)
 cases i with
 |zero=>
  simp only[List.map_cons,List.map_nil,List.getElem?_cons_zero,Option.some.injEq] at hv hc
  subst hv;subst hc
  exact .agg vs.toList cs h3 h4 (fun i v c=>h5 g D w i v c)
 |succ i=>simp at hc
end
theorem mid_drop{csA csL csB:List V}{off j:Nat}(h:csA.length=off)(hj:j≤csL.length):(csA++csL++csB).drop (off+j)=csL.drop j++csB:=by
 rw[List.append_assoc,List.drop_append,List.drop_of_length_le (by omega),List.nil_append,h,Nat.add_sub_cancel_left,List.drop_append_of_le_length hj]
theorem mid_set{csA csL csB vc:List V}{off j:Nat}(h:csA.length=off)(hj:j+vc.length≤csL.length):
 (csA++csL++csB).take (off+j)++vc++(csA++csL++csB).drop (off+j+vc.length)=csA++(csL.take j++vc++csL.drop (j+vc.length))++csB:=by
 have e1:(csA++csL++csB).take (off+j)=csA++csL.take j:=by
  rw[List.append_assoc,List.take_append,List.take_of_length_le (by omega),h,Nat.add_sub_cancel_left,List.take_append_of_le_length (by omega)]
 rw[e1,Nat.add_assoc,mid_drop h hj]
 simp only[List.append_assoc]
section
variable {E:Env} {N k:Nat} {ops:List Oper} {dr:Bool} {rest:List Oper} {a:AF} {σ:Sto} {acc:List Rec} {Q:Exit→AF→Sto→Prop}
variable {d:Option Tmp} {ty:TypeId} {ps:String} {af:Array Edge} {gd:Option (Nat×Bool)}
namespace L
theorem ldm{t:TypeId}{x:Operand}{i:TI}{n off:Nat}(j:Nat){csA csL csB:List V}{c:V}(hw:wantG ops a gd=some true)(hx:ev E 0 a x=some (.ptr n (off+j)))(ht:E.ti t=some i)(hn:findE σ.es n=some (.var (csA++csL++csB)))
 (hA:csA.length=off) (hj:Nat.ble j csL.length=true) (hc:loadC i (csL.drop j++csB)=some c) (hd:dstOk N d=true)
 (h2:AX E N k dr ops rest (a.put d c) σ (⟨[(n,.var (csA++csL++csB))],c,0,[]⟩::acc) Q):AX E N k dr ops (⟨d,.load t x,ty,ps,af,gd⟩::rest) a σ acc Q:=
 L.ldb hw hx ht hn (by rw[mid_drop hA (Nat.le_of_ble_eq_true hj)];exact hc) hd h2
theorem ylm{t:TypeId}{x:Operand}{i:TI}{b off room:Nat}(j:Nat){csA csL csB:List V}{c:V}(hw:wantG ops a gd=some true)(hx:ev E 0 a x=some (.rp b (off+j)))(ht:E.ti t=some i)(hm:(b,room,csA++csL++csB)∈E.Y)
 (hA:csA.length=off) (hj:Nat.ble j csL.length=true) (hc:loadC i (csL.drop j++csB)=some c) (hd:dstOk N d=true)
 (h2:AX E N k dr ops rest (a.put d c) σ (⟨[],c,0,[]⟩::acc) Q):AX E N k dr ops (⟨d,.load t x,ty,ps,af,gd⟩::rest) a σ acc Q:=
 L.yl hw hx ht hm (by rw[mid_drop hA (Nat.le_of_ble_eq_true hj)];exact hc) hd h2
theorem stm{t:TypeId}{x y:Operand}{i:TI}{n off:Nat}(j:Nat){csA csL csB:List V}{c:V}{vc:List V}(hw:wantG ops a gd=some true)(hx:ev E 0 a x=some (.ptr n (off+j)))(ht:E.ti t=some i)(hy:ev E t a y=some c)
 (hn:findE σ.es n=some (.var (csA++csL++csB))) (hc:cellsOf c=some vc) (hs:vc.length=i.size) (hA:csA.length=off) (hb:Nat.ble (j+vc.length) csL.length=true) (hd:dstOk N d=true)
 (h2:AX E N k dr ops rest (a.put d (.tup [])) (σ.upd 0 [(n,.var (csA++(csL.take j++vc++csL.drop (j+vc.length))++csB))]) (⟨[(n,.var (csA++csL++csB))],.tup [],0,[(n,.var (csA++(csL.take j++vc++csL.drop (j+vc.length))++csB))]⟩::acc) Q):
 AX E N k dr ops (⟨d,.store t x y,ty,ps,af,gd⟩::rest) a σ acc Q:=by
 have hle:=Nat.le_of_ble_eq_true hb
 rw[←mid_set hA hle] at h2
 exact L.st hw hx ht hy hn hc hs (Nat.ble_eq_true_of_le (by simp only[List.length_append];omega)) hd h2
theorem ste{t:TypeId}{x y:Operand}{i:TI}{n off:Nat}{csA csL:List V}{c:V}{vc:List V}(hw:wantG ops a gd=some true)(hx:ev E 0 a x=some (.ptr n off))(ht:E.ti t=some i)(hy:ev E t a y=some c)
 (hn:findE σ.es n=some (.var (csA++csL))) (hc:cellsOf c=some vc) (hs:vc.length=i.size) (hA:csA.length=off) (hb:Nat.beq vc.length csL.length=true) (hd:dstOk N d=true)
 (h2:AX E N k dr ops rest (a.put d (.tup [])) (σ.upd 0 [(n,.var (csA++vc))]) (⟨[(n,.var (csA++csL))],.tup [],0,[(n,.var (csA++vc))]⟩::acc) Q):
 AX E N k dr ops (⟨d,.store t x y,ty,ps,af,gd⟩::rest) a σ acc Q:=by
 have hle:=Nat.eq_of_beq_eq_true hb
 have e:(csA++csL).take off++vc++(csA++csL).drop (off+vc.length)=csA++vc:=by
  rw[List.take_append_of_le_length (by omega),List.take_of_length_le (by omega),List.drop_of_length_le (by simp;omega),List.append_nil]
 rw[←e] at h2
 exact L.st hw hx ht hy hn hc hs (Nat.ble_eq_true_of_le (by simp only[List.length_append];omega)) hd h2
end L
theorem VLe.rawNil{l:SL V}(h:l.len=0):VLe (.raw (.slice none 0 0)) (.slice .nil l):=by
 intro g D w v hv
 rw[hv.raw_inv]
 exact .nilS l h
theorem CvL.refl{Cv:V→V→Prop}(hr:∀c,Cv c c):∀cs:List V,CvL Cv cs cs
 |[]=>trivial
 |c::cs=>⟨hr c,CvL.refl hr cs⟩
theorem CvL.app{Cv:V→V→Prop}:∀{a a' b b':List V},CvL Cv a a'→CvL Cv b b'→CvL Cv (a++b) (a'++b')
 |[],[],_,_,_,h2=>h2
 |c::a,c'::a',_,_,h,h2=>⟨h.1,CvL.app h.2 h2⟩
 |[],_::_,_,_,h,_=>h.elim
 |_::_,[],_,_,h,_=>h.elim
theorem ym_cv{s:Prop}{y2:Ys}:∀{l:List Yn} {cs:List V} {y:Ys},YMs s l cs y→∀{ds:List V},Ers l ds→(∀p∈y,p∈y2)→CvL (fun c c2=>c2=c∨∃u l,c= .raw u∧c2= .slice .any l∧Frz y2 u l) cs ds
 |_,_,_,.nil,_,he,_=>by cases he;trivial
 |_,_,_,.cons h h2,_,he,hy=>by
  cases he with
  |cons e1 e2=>
   refine⟨?_,ym_cv h2 e2 fun p hp=>hy p (by simp[hp])⟩
   cases h with
   |dat _ hD=>cases e1;exact .inl rfl
   |nil c=>
    cases e1 with
    |row _ _ _ xs hl hx=>exact .inr ⟨_,_,rfl,rfl,.of (s:=s) (.nil c) (.row c 0 [] xs hl hx) (fun p hp=>by cases hp)⟩
   |row c n cells b room cap cs y hroom hcap hn hl hz=>
    cases e1 with
    |row _ _ _ xs hxl hx=>exact .inr ⟨_,_,rfl,rfl,.of (s:=s) (.row c n cells b room cap cs y hroom hcap hn hl hz) (.row c n cells xs hxl hx) (fun p hp=>hy p (List.mem_append_left _ hp))⟩
theorem ym_dats{s:Prop}:∀cs:List V,cs.all V.isD=true→YMs s (cs.map Yn.dat) cs []
 |[],_=> .nil
 |c::cs,h=>by
  simp only[List.all_cons,Bool.and_eq_true] at h
  exact YMs.cons (y:=[]) (.dat c h.1) (ym_dats cs h.2)
theorem er_dats:∀cs:List V,cs.all V.isD=true→Ers (cs.map Yn.dat) cs
 |[],_=> .nil
 |c::cs,h=>by
  simp only[List.all_cons,Bool.and_eq_true] at h
  exact .cons (.dat c h.1) (er_dats cs h.2)
theorem YM.nil_inv{s:Prop}{c:EC}{n:Nat}{cells:List Yn}{sv:Value}{y:Ys}(h:YM s (.row c n cells) (.raw sv) y)(hn:n=0):sv= .slice none 0 0∧y=[]:=by
 cases h with
 |nil=>exact⟨rfl,rfl⟩
 |row=>omega
def Es.CnvN(Cv:V→V→Prop)(es:Es)(n0:Nat)(cs0:List V):Es→Prop
 |[]=>True
 |p::l=>((p.1=n0∧p.2= .var cs0)∨∃e,findE es p.1=some e∧ECv Cv e p.2)∧Es.CnvN Cv es n0 cs0 l
theorem Es.CnvN.get{Cv:V→V→Prop}{es:Es}{n0:Nat}{cs0:List V}:∀{es2:Es},Es.CnvN Cv es n0 cs0 es2→∀n e2,findE es2 n=some e2→(n=n0∧e2= .var cs0)∨∃e,findE es n=some e∧ECv Cv e e2
 |[],_,t,c2,h=>by cases h
 |p::l,h,t,c2,hc=>by
  obtain⟨m,e⟩:=p
  rw[findE_cons] at hc
  by_cases ht:m=t
  ·subst ht;rw[if_pos rfl] at hc;cases hc;exact h.1
  ·rw [if_neg ht] at hc;exact Es.CnvN.get h.2 t c2 hc
section
variable {E:Env} {N k:Nat} {a:AF} {σ:Sto} {y:Ys}
theorem WeakB.cnv(a2:AF)(es2:Es)(hf:∀t c2,a2.get t=some c2→∃c,a.get t=some c∧VLe c c2)(he:∀i e2,findE es2 i=some e2→∃e,findE σ.es i=some e∧ECv VLe e e2):
 WeakB E N k a σ y (fun a3 σ3 y3=>a3=a2∧σ3=⟨σ.nx,es2⟩∧y3=y):=by
 intro hk g w act hR hF hY
 have hfootin:∀x,Foot g es2 x→Foot g σ.es x:=by
  rintro x ⟨i,e2,p1,p2⟩
  obtain⟨e,p3,p4⟩:=he i e2 p1
  exact⟨i,e,p3,p4.foot (D:=(·<σ.nx)) (n:=i) (hR.lt _ _ p3) (g:=g) (g2:=g) (fun _ _=>rfl) (fun _ _=>rfl) p2⟩
 have hx:Ext (·<k) g (Foot g σ.es) w g (Foot g es2) w:=⟨rfl,rfl,rfl,Nat.le_refl _,fun _ _ _=>rfl,fun _=>Mrk.le_refl _,fun _ _=>rfl,fun _ _=>rfl,fun _ _ _=>⟨fun _=>rfl,rfl⟩,fun b hb=> .inl (hfootin b hb)⟩
 refine⟨a2,_,y,g,⟨rfl,rfl,rfl⟩,hk,?_,⟨hF.size,hF.defers,fun t c2 hc=> ?_⟩,hY.ext hx,hx.keys y⟩
 ·exact hR.conv (fun _ h=>h) (fun _=>Mrk.le_refl _) (fun _ _=>rfl) (fun _ _=>rfl) (fun _ _=>rfl) hR.fresh hR.nodes _ (fun v c c2 h hv=>h _ _ _ _ hv) σ.nx fun i e2 hi=> .inr (he i e2 hi)
 ·obtain ⟨c,p1,p2⟩:=hf t c2 hc
  obtain⟨v,p3,p4⟩:=hF.vals t c p1
  exact⟨v,p3,p2 _ _ _ _ p4⟩
theorem fin_w{c:EC}{z:c.sem}{X:List Yn}{cs:List V}{yX:Ys}{D:List V}{Z:List V}(hX:YMs False X cs yX)(hE:Ers X (c.view z))(hp:∀p∈yX,p∈y)(hnd:(y.map Prod.fst).Nodup)
 (hD:∀ρ,renVs ρ D=some D) (hZ:∀ρ,renVs ρ Z=some Z) (h0:a.get 0=some (.ptr 0 0)) (h3:a.get 3=some (.ptr 1 0)) (h4:a.get 4=some (.ptr 2 0))
 (e0:findE σ.es 0=some (.var D)) (e1:findE σ.es 1=some (.var cs)) (e2:findE σ.es 2=some (.var Z)) (hnx:below σ.nx [some 0,some 1,some 2]=true):
 WeakB E N 1 a σ y (fun a3 σ3 y3=>y3=[]∧a3=[(0,.ptr 0 0),(3,.ptr 1 0),(4,.ptr 2 0)]∧σ3=⟨3,[(0,.var D),(1,.var (c.view z)),(2,.var Z)]⟩):=by
 refine WeakB.trans (WeakB.frz hnd [(0,.ptr 0 0),(3,.ptr 1 0),(4,.ptr 2 0)] [(0,.var D),(1,.var (c.view z)),(2,.var Z)]
  (AF.Cnv.get ⟨⟨_,h0,.inl rfl⟩,⟨_,h3,.inl rfl⟩,⟨_,h4,.inl rfl⟩,trivial⟩)
  (Es.Cnv.get ⟨⟨_,e0,.same (fun _=> .inl rfl) _⟩,⟨_,e1,.var (ym_cv hX hE hp)⟩,⟨_,e2,.same (fun _=> .inl rfl) _⟩,trivial⟩)) ?_
 rintro _ _ _ ⟨rfl,rfl,rfl⟩
 refine WeakB.ofW (Weak.mk [some 0,some 1,some 2] _ _ _ rfl rfl rfl hnx ?_ ?_) ⟨rfl,rfl,rfl⟩
 ·exact ⟨⟨_,rfl,_,rfl,.refl _⟩,⟨_,rfl,_,rfl,.refl _⟩,⟨_,rfl,_,rfl,.refl _⟩,trivial⟩
 ·exact ⟨⟨_,rfl,_,hD _,_,rfl,.refl _⟩,⟨_,rfl,_,renVs_view _ c z,_,rfl,.refl _⟩,⟨_,rfl,_,hZ _,_,rfl,.refl _⟩,trivial⟩
end
end
end Go.Ab
namespace Go.Ab
open Go
set_option linter.unusedSimpArgs false
set_option linter.unusedVariables false
theorem upAt_agree{β:Type}{fl:Nat→Bool}:∀{us us':List (List (Nat×β))} {i:Nat} {es:List (Nat×β)},us.length=us'.length→(∀j,fl (i+j)=true→us[j]? =us'[j]?)→upAt fl i us es=upAt fl i us' es
 |[],[],i,es,_,_=>rfl
 |u::us,u'::us',i,es,hl,h=>by
  simp only[upAt]
  have h0:(bif fl i then u++es else es)=bif fl i then u'++es else es:=by
   cases hf:fl i with
   |false=>rfl
   |true=>have:=h 0 (by simpa using hf);simp at this;rw[this]
  rw[h0]
  refine upAt_agree (by simpa using hl) fun j hj=> ?_
  have:=h (j+1) (by rw[show i+(j+1)=i+1+j by omega];exact hj)
  simpa using this
 |[],_::_,_,_,hl,_=>by simp at hl
 |_::_,[],_,_,hl,_=>by simp at hl
theorem upAt_pre{β:Type}:∀{us us2:List (List (Nat×β))} {es:List (Nat×β)},upAt (fun j=>decide (j<us.length)) 0 (us++us2) es=upAt (fun _=>true) 0 us es
 |[],us2,es=>by simp only[List.nil_append];rw[upAt_none fun j _=>by simp];rfl
 |u::us,us2,es=>by
  have h1:∀{i:Nat} {us:List (List (Nat×β))} {es:List (Nat×β)},upAt (fun _=>true) (i+1) us es=upAt (fun _=>true) i us es:=fun {i us es}=>upAt_shift
  have h2:=upAt_pre (us:=us) (us2:=us2) (es:=u++es)
  simp only[List.cons_append,upAt,List.length_cons,Nat.zero_lt_succ,decide_true,cond_true,Nat.zero_add]
  rw[upAt_shift,h1,←h2]
  congr 1
  funext j
  simp
theorem ev_mono{E:Env}{T:TypeId}{a a':AF}{x:Operand}{c:V}(h:∀t c,Operand.tmp t=x→a.get t=some c→a'.get t=some c)(hx:ev E T a x=some c):ev E T a' x=some c:=by
 cases x with
 |tmp t=>exact h t c rfl hx
 |_=>exact hx
theorem evT_mono{E:Env}{a a':AF}:∀{xs:List Operand} {ts:List TypeId} {cs:List V},(∀t c,Operand.tmp t∈xs→a.get t=some c→a'.get t=some c)→evT E a xs ts=some cs→evT E a' xs ts=some cs
 |[],_,cs,_,h=>h
 |x::xs,[],cs,hm,h=>by
  simp only[evT,Option.bind_eq_some_iff,Option.map_eq_some_iff] at h ⊢
  obtain⟨v,h1,vs,h2,h3⟩:=h
  exact⟨v,ev_mono (fun t c e=>hm t c (by simp[e])) h1,vs,evT_mono (fun t c e=>hm t c (by simp[e])) h2,h3⟩
 |x::xs,t::ts,cs,hm,h=>by
  simp only[evT,Option.bind_eq_some_iff,Option.map_eq_some_iff] at h ⊢
  obtain⟨v,h1,vs,h2,h3⟩:=h
  exact⟨v,ev_mono (fun t c e=>hm t c (by simp[e])) h1,vs,evT_mono (fun t c e=>hm t c (by simp[e])) h2,h3⟩
section
variable {E:Env} {N k:Nat} {a:AF} {σ:Sto} {y:Ys} {Q:Exit→AF→Sto→Ys→Prop}
set_option maxHeartbeats 4000000 in
theorem BW.regYD{π:Type}{ops:List Oper}{id:Nat}(m:Nat){d:Nat}{f:FuncId}{xs:List Operand}{ts:List TypeId}{ty:TypeId}{ps:String}{af:Array Edge}
 (hops:ops[m]? =some ⟨some d,.call ⟨.value (.func f),xs.toArray,ts.toArray⟩,ty,ps,af,none⟩) (hmix:E.P.follows .mixedOrders=true) (hedge:edgesOk 0 ops=true) (C:π→V) (T:π→Ys→Prop) (args:List V)
 (hf:YC E f args (fun r y=>∃p,r=C p∧T p y)) (hdN:dstOk N (some d)=true) (D:List Nat) (hD:∀j∈D,j<m) (hcl:∀j o',ops[j]? =some o'→j∉D→j=m∨∃e∈hardOf o',e∉D)
 (rs1:List Rec) {a1':AF} {σ1':Sto} (h1:Plan (E.y y) N (fun o=>o=⟨some d,.call ⟨.value (.func f),xs.toArray,ts.toArray⟩,ty,ps,af,none⟩) ops ops a σ rs1 a1' σ1') (ho1:ordOk ops rs1=true) (hm1:(rs1[m]?).map Rec.post=some [])
 (h2:∀p y',T p y'→(∀p∈y',∀q∈y,p.1≠q.1)→∃rs2 A2 S2 a2,Plan (E.y (y'++y)) N (fun o=>o=⟨some d,.call ⟨.value (.func f),xs.toArray,ts.toArray⟩,ty,ps,af,none⟩) ops ops a σ rs2 A2 S2∧ordOk ops rs2=true∧rs2[m]? =some ⟨[],C p,0,[]⟩∧
  (∀j,j<m→rs1[j]? =rs2[j]?)∧(∀t,AF.get a2 t=AF.get A2 t)∧Q .normal a2 S2 (y'++y))
 (hdst:∀j o',ops[j]? =some o'→j≠m→o'.dst≠some d)
 (hev:∃cs cs1,evT E (upAt (fun j=>decide (j<m)) 0 (fus ops rs1) a) xs ts=some cs∧renVs [] args=some cs1∧VsLe cs cs1):BW E N k (.region id ops.toArray true) a σ y Q:=by
 have hedge':∀j o,ops[j]? =some o→∀e∈hardOf o,e<j:=fun j o ho e he'=>by have:=edgesOk_spec hedge j o ho e he';omega
 have hml:m<ops.length:=(List.getElem?_eq_some_iff.1 hops).1
 have hXm:∀i (hin:i<ops.length),ops[i]=⟨some d,.call ⟨.value (.func f),xs.toArray,ts.toArray⟩,ty,ps,af,none⟩→i=m:=fun i hin hX=>Classical.byContradiction fun hne=>
  hdst i ops[i] (List.getElem?_eq_getElem hin) hne (by rw[hX])
 constructor
 intro hk g w act hR hF hY
 refine wp_region_any hmix (draw_soundX (E:=E.y y) (Q:=fun _ _ _=>False) (S:=fun l=>l.getD m false=false) (PP:=BPost E N k g (FY g σ.es y) w Q) h1 ho1 ?_ ?_ hk hY hedge' ?_ ?_ ?_ _ _ _ _ ?_ (by simp) ?_ ?_ ⟨g,?_,?_,?_⟩)
 ·
  intro listed i hin hs hnX
  by_cases hi:i=m
  ·subst hi
   exact absurd (by rw[List.getElem?_eq_getElem hin] at hops;exact Option.some.inj hops) hnX
  ·have hs:listed.getD m false=false:=hs
   show(listed.setIfInBounds i true).getD m false=false
   simp only[Array.getD_eq_getD_getElem?,Array.getElem?_setIfInBounds] at hs ⊢
   rw[if_neg hi];exact hs
 ·intro listed hs hall
  have hs:listed.getD m false=false:=hs
  rw[hall m hml] at hs;cases hs
 ·intro i hin hX b hb
  rw[hX] at hb
  simp[wantG] at hb
 ·rintro act1 w1 ⟨_,_,_,h,_⟩
  exact h.elim
 ·
  intro fuel listed act1 w1 i hin g1 hs hsz hcnt hclo hR1 hF1 hx1 hX hfi hhard hlook
  obtain rfl:=hXm i hin hX
  obtain⟨cs,cs1,hev,hren,hle⟩:=hev
  have hY1:=hY.ext hx1
  have hlk:∀t,Operand.tmp t∈xs→t∈looks ops ops[i]:=fun t ht=>by
   rw[hX]
   exact List.mem_append_left _ (mem_tmpsOf (by simp[Op.operands,Call.operands,ht]))
  have hev1:=evT_mono (a':=upAt (fun j=>listed.getD j false) 0 (fus ops rs1) a) (fun t c ht hc=>(hlook t (hlk t ht)).trans hc) hev
  obtain⟨q1,q2⟩:=evT_rel hev1 hR1 hF1
  have hlis:∀j,listed.getD j false=true→j<ops.length→j∈D:=by
   intro j
   induction j using Nat.strongRecOn with
   |_ j ih=>
    intro hj hjl
    refine Classical.byContradiction fun hn=> ?_
    rcases hcl j ops[j] (List.getElem?_eq_getElem hjl) hn with rfl|⟨e,he,hen⟩
    ·rw [hj] at hfi;cases hfi
    ·have h3:=hclo j ops[j] (List.getElem?_eq_getElem hjl) hj e he
     have h4:=hedge' j ops[j] (List.getElem?_eq_getElem hjl) e he
     exact hen (ih e h4 h3 (by omega))
  rw[hX]
  refine call_wp (ts:=ts.toArray) rfl hf.1 (hf.use hR1 hY1 q1 q2 ⟨cs1,hren,hle⟩ fun v g2 w2 r y' hT hR2 hv hY2 hne hx2=>⟨v,rfl,?_⟩)
  obtain⟨p,rfl,hT⟩:=hT
  have hil:i<listed.size:=by omega
  have hfl':∀j,(listed.setIfInBounds i true).getD j false=(if j=i then true else listed.getD j false):=by
   intro j
   by_cases hji:j=i
   ·subst hji;simp[Array.getD_eq_getD_getElem?,Array.getElem?_setIfInBounds,hil]
   ·have:¬i=j:=fun e=>hji e.symm
    simp[Array.getD_eq_getD_getElem?,Array.getElem?_setIfInBounds,hji,this]
  obtain⟨rs2,A2,S2,a2,hp2,ho2,hm2,hag,ha2,hq⟩:=h2 p y' hT hne
  have hl1:=h1.len
  have hl2:=hp2.len
  have hnx:∀j,j<i→nxAt σ.nx rs2 j=nxAt σ.nx rs1 j:=fun j hj=>by
   have e:rs2.take j=rs1.take j:=by
    apply List.ext_getElem?
    intro q
    rw[List.getElem?_take,List.getElem?_take]
    split
    ·exact (hag q (by omega)).symm
    ·rfl
   simp only[nxAt,e]
  have hDD:∀n,Dn σ.nx rs1 (fun j=>listed.getD j false) n→Dn σ.nx rs2 (fun j=>(listed.setIfInBounds i true).getD j false) n:=by
   rintro n (hn|⟨j,r,hj,hfj,hm⟩)
   ·exact .inl hn
   ·have hjl:=(List.getElem?_eq_some_iff.1 hj).1
    refine .inr ⟨j,r,?_,?_,by rw[hnx j (hD j (hlis j hfj (by omega)))];exact hm⟩
    ·rw [←hag j (hD j (hlis j hfj (by omega)))];exact hj
    ·show (listed.setIfInBounds i true).getD j false=true
     rw[hfl'];split
     ·rfl
     ·exact hfj
  have hpi1:(pus rs1)[i]? =some []:=by simp only[pus,List.getElem?_map];exact hm1
  have hes:∀n,findE (upAt (fun j=>(listed.setIfInBounds i true).getD j false) 0 (pus rs2) σ.es) n=findE (upAt (fun j=>listed.getD j false) 0 (pus rs1) σ.es) n:=by
   intro n
   have e1:upAt (fun j=>listed.getD j false) 0 (pus rs1) σ.es=upAt (fun j=>listed.getD j false) 0 (pus rs2) σ.es:=by
    refine upAt_agree (by simp[pus,hl1,hl2]) fun j hj=> ?_
    rw[Nat.zero_add] at hj
    by_cases hjl:j<ops.length
    ·simp only[pus,List.getElem?_map,hag j (hD j (hlis j hj hjl))]
    ·rw [List.getElem?_eq_none (by simp[pus,hl1];omega),List.getElem?_eq_none (by simp[pus,hl2];omega)]
   rw[e1,findE_eq,findE_eq]
   refine upAt_congr rfl fun j u hj hn=> ?_
   rw[Nat.zero_add,hfl']
   split
   ·rename_i hji
    subst hji
    simp only[pus,List.getElem?_map,hm2,Option.map_some,Option.some.injEq] at hj
    subst hj
    simp at hn
   ·rfl
  have hfr:∀t,AF.get (upAt (fun j=>(listed.setIfInBounds i true).getD j false) 0 (fus ops rs2) a) t=AF.get (AF.put (upAt (fun j=>listed.getD j false) 0 (fus ops rs1) a) (some d) (C p)) t:=by
   intro t
   have e1:upAt (fun j=>listed.getD j false) 0 (fus ops rs1) a=upAt (fun j=>listed.getD j false) 0 (fus ops rs2) a:=by
    refine upAt_agree (by simp[fus,hl1,hl2]) fun j hj=> ?_
    rw[Nat.zero_add] at hj
    by_cases hjl:j<ops.length
    ·simp only[fus,List.getElem?_zipWith,hag j (hD j (hlis j hj hjl))]
    ·rw [List.getElem?_eq_none (by simp[fus,hl1];omega),List.getElem?_eq_none (by simp[fus,hl2];omega)]
   have hfi2:(fus ops rs2)[i]? =some [(d,C p)]:=by
    simp only[fus,List.getElem?_zipWith,hops,hm2];rfl
   have hkeys:∀j u,j≠i→(fus ops rs2)[j]? =some u→d∉u.map Prod.fst:=by
    intro j u hji hu hd
    simp only[fus,List.getElem?_zipWith] at hu
    split at hu
    ·rename_i o' r' ho' hr'
     cases hu
     have:=hdst j o' ho' hji
     cases hdo:o'.dst with
     |none=>rw[hdo] at hd;simp[putL] at hd
     |some d'=>rw[hdo] at hd;simp[putL] at hd;rw[hdo,hd] at this;exact this rfl
    ·cases hu
   rw[e1,put_eq,get_eq,get_eq,findA_append]
   by_cases ht:t=d
   ·subst ht
    rw[upAt_last (k:=i) hfi2 (by rw[Nat.zero_add,hfl',if_pos rfl]) (by simp)]
    ·simp [putL,findA_cons]
    ·intro j u hij hj hnu
     exact absurd hnu (hkeys j u (by omega) hj)
   ·rw [show findA (putL (some d) (C p)) t=none from by simp[putL,findA_cons,findA,Ne.symm ht],Option.none_or]
    refine upAt_congr rfl fun j u hj hn=> ?_
    rw[Nat.zero_add,hfl']
    split
    ·rename_i hji
     subst hji
     rw[hfi2] at hj
     cases hj
     simp at hn
     exact absurd hn ht
    ·rfl
  have hF2:FRel g2 (Dn σ.nx rs2 fun j=>(listed.setIfInBounds i true).getD j false) w2 N (act1.put (some d) v) (upAt (fun j=>(listed.setIfInBounds i true).getD j false) 0 (fus ops rs2) a):=by
   have q3:FRel g2 (Dn σ.nx rs2 fun j=>(listed.setIfInBounds i true).getD j false) w2 N act1 (upAt (fun j=>listed.getD j false) 0 (fus ops rs1) a):=hF1.ext (F:=FY g1 _ y) hx2 hDD
   exact(q3.put (dstOk_lt hdN) (hv.more hDD)).congr hfr
  have hkx:Ext (·<k) g (FY g σ.es y) w g2 (FY g2 (upAt (fun j=>listed.getD j false) 0 (pus rs1) σ.es) (y'++y)) w2:=
   (hx1.keys y).trans (hx2.mono fun n (hn:n<k)=> .inl (by omega))
  refine draw_soundX (E:=E.y (y'++y)) (Q:=fun e x τ=>e= .normal∧x=A2∧τ=S2) (S:=fun l=>l.getD i false=true) (g0:=g2) (F0:=Foot g2 (upAt (fun j=>listed.getD j false) 0 (pus rs1) σ.es)) (w0:=w2) hp2 ho2 ?_ ?_ hk hY2 hedge' ?_ ?_ ?_ fuel _ _ _ ?_ (by simpa using hsz) ?_ ?_ ⟨g2,?_,hF2,?_⟩
  ·intro l j hjn hs _
   have hs:l.getD i false=true:=hs
   show(l.setIfInBounds j true).getD i false=true
   simp only[Array.getD_eq_getD_getElem?,Array.getElem?_setIfInBounds] at hs ⊢
   split
   ·split<;>simp_all
   ·exact hs
  ·exact fun _ _ _=>⟨rfl,rfl,rfl⟩
  ·intro j hjn hX b hb
   rw[hX] at hb
   simp[wantG] at hb
  ·rintro act3 w3 ⟨g3,a3,σ3,⟨_,rfl,rfl⟩,hk3,hR3,hF3,hx3⟩
   exact⟨g3,a2,σ3,_,hq,hk3,hR3,hF3.congr ha2,hY2.ext hx3,hkx.trans (hx3.keys (y'++y))⟩
  ·intro fuel2 l2 act3 w3 j hjn g3 hs2 _ _ _ _ _ _ hX2 hf2 _ _
   obtain rfl:=hXm j hjn hX2
   have hs2:l2.getD j false=true:=hs2
   rw[hf2] at hs2;cases hs2
  ·show (listed.setIfInBounds i true).getD i false=true
   rw[hfl',if_pos rfl]
  ·have hc0:listed.toList.count false=(listed.setIfInBounds i true).toList.count false+1:=by
    rw[Array.toList_setIfInBounds]
    have hil2:i<listed.toList.length:=by simpa using hil
    have hli:listed.toList[i]=false:=by
     have:=hfi
     simp only[Array.getD_eq_getD_getElem?,Array.getElem?_eq_getElem hil,Option.getD_some] at this
     simpa using this
    have h9:=List.count_set (a:=true) (b:=false) (l:=listed.toList) hil2
    have h10:0<listed.toList.count false:=List.count_pos_iff.2 (by rw[←hli];exact List.getElem_mem _)
    rw[h9,hli,if_pos (show(false==false)=true from rfl),if_neg (show ¬(true==false)=true by decide)]
    omega
   omega
  ·intro j o ho hj e he
   rw[hfl'] at hj ⊢
   split
   ·rfl
   ·by_cases hji:j=i
    ·subst hji
     have:ops[j]=o:=by rw[List.getElem?_eq_getElem hin] at ho;exact Option.some.inj ho
     exact hhard e (by rw[this];exact he)
    ·rw [if_neg hji] at hj
     exact hclo j o ho hj e he
  ·exact (hR2.congr hes).more hDD
  ·rw [Foot.congr hes];exact .refl ..
 ·show (Array.replicate ops.toArray.size false).getD m false=false
  simp[Array.getD_eq_getD_getElem?,Array.getElem?_replicate];split<;>rfl
 ·simp
 ·intro j o ho hj
  exfalso
  have:(Array.replicate ops.toArray.size false).getD j false=false:=by
   simp[Array.getD_eq_getD_getElem?,Array.getElem?_replicate];split<;>rfl
  rw[this] at hj;cases hj
 all_goals
  have hff:(fun j=>(Array.replicate ops.toArray.size false).getD j false)=fun _=>false:=by
   funext j;simp[Array.getD_eq_getD_getElem?,Array.getElem?_replicate];split<;>rfl
  have e1:upAt (fun _=>false) 0 (pus rs1) σ.es=σ.es:=upAt_none fun _ _=>rfl
  have e2:upAt (fun _=>false) 0 (fus ops rs1) a=a:=upAt_none fun _ _=>rfl
  rw[hff]
 ·rw [e1];exact hR.drew.more (fun n hn=>Or.inl hn)
 ·rw [e2]
  exact⟨hF.size,hF.defers,fun t c hc=>let ⟨v,h1,h2⟩:=hF.vals t c hc;⟨v,h1,h2.drew.more (fun n hn=>Or.inl hn)⟩⟩
 ·rw [e1];exact Ext.drew
end
section
variable {E:Env} {N k:Nat} {ops:List Oper}
theorem Plan.app{X:Oper→Prop}{l1 l2:List Oper}{a:AF}{σ:Sto}{R1:List Rec}{a1:AF}{σ1:Sto}(h:Plan E N X ops l1 a σ R1 a1 σ1):∀{R2:List Rec} {a2:AF} {σ2:Sto},Plan E N X ops l2 a1 σ1 R2 a2 σ2→Plan E N X ops (l1++l2) a σ (R1++R2) a2 σ2:=by
 induction h with
 |nil=>intro _ _ _ h;exact h
 |run r hw h hp hd _ ih=>intro _ _ _ h2;exact .run r hw h hp hd (ih h2)
 |sk hw hd _ ih=>intro _ _ _ h2;exact .sk hw hd (ih h2)
theorem Plan.monoX{X Y:Oper→Prop}(hXY:∀o,X o→Y o){l1:List Oper}{a:AF}{σ:Sto}{R1:List Rec}{a1:AF}{σ1:Sto}(h:Plan E N X ops l1 a σ R1 a1 σ1):Plan E N Y ops l1 a σ R1 a1 σ1:=by
 induction h with
 |nil=>exact .nil _ _
 |run r hw h hp hd _ ih=>exact .run r hw (h.imp (hXY _) id) hp hd ih
 |sk hw hd _ ih=>exact .sk hw hd ih
variable {X:Oper→Prop} {rest:List Oper} {a a':AF} {σ σ':Sto} {rs:List Rec} {d:Option Tmp} {ty:TypeId} {ps:String} {af:Array Edge} {gd:Option (Nat×Bool)}
theorem Plan.fab{t:TypeId}{x:Operand}{z:Nat}{zr:List V}{gs:List (Nat×Nat×Bool)}{f:Nat}{p:Nat×Nat×Bool}{n off:Nat}(hw:wantG ops a gd=some true)(hx:ev E 0 a x=some (.ptr n off))(ht:E.ti t=some ⟨z,zr,.strct gs⟩)
 (hf:gs[f]? =some p) (hd:dstOk N d=true) (h2:Plan E N X ops rest (a.put d (.ptr n (off+p.1))) σ rs a' σ'):Plan E N X ops (⟨d,.fieldAddr t x f,ty,ps,af,gd⟩::rest) a σ (⟨[],.ptr n (off+p.1),0,[]⟩::rs) a' σ':=
 .run ⟨[],.ptr n (off+p.1),0,[]⟩ hw (.inr (OS.fieldAddrB (a:=frm true ops a _) rfl ht rfl hf (fr (dr:=true) (by simp[Op.operands,Call.operands]) hx)).y) trivial hd h2
theorem Plan.ldb{t:TypeId}{x:Operand}{i:TI}{n off:Nat}{cs:List V}{c:V}(hw:wantG ops a gd=some true)(hx:ev E 0 a x=some (.ptr n off))(ht:E.ti t=some i)(hn:findE σ.es n=some (.var cs))(hc:loadC i (cs.drop off)=some c)(hd:dstOk N d=true)
 (h2:Plan E N X ops rest (a.put d c) σ rs a' σ'):Plan E N X ops (⟨d,.load t x,ty,ps,af,gd⟩::rest) a σ (⟨[(n,.var cs)],c,0,[]⟩::rs) a' σ':=
 .run ⟨[(n,.var cs)],c,0,[]⟩ hw (.inr (OS.loadB (a:=frm true ops a _) rfl ht (fr (dr:=true) (by simp[Op.operands,Call.operands]) hx) hc).y) ⟨hn,trivial⟩ hd h2
end
section
variable {E:Env} {N k:Nat} {a:AF} {σ:Sto} {y:Ys} {Q:Exit→AF→Sto→Ys→Prop}
theorem BW.drawY{π:Type}(p0:π){l1 l2:List Oper}{id:Nat}{d:Nat}{f:FuncId}{xs:List Operand}{ts:List TypeId}{ty:TypeId}{ps:String}{af:Array Edge}(C:π→V)(T:π→Ys→Prop)(args:List V)
 (hf:YC E f args (fun r y=>∃p,r=C p∧T p y)) (hmix:E.P.follows .mixedOrders=true) (hedge:edgesOk 0 (l1++⟨some d,.call ⟨.value (.func f),xs.toArray,ts.toArray⟩,ty,ps,af,none⟩::l2)=true) (hdN:dstOk N (some d)=true)
 (hcl:(l2.all fun o=>(hardOf o).any fun e=>Nat.ble l1.length e)=true) (hdst:((l1++l2).all fun o=>match o.dst with|some e=> !(Nat.beq e d)|none=>true)=true)
 (R1:List Rec) {a1:AF} {σ1:Sto} (h1:∀y',Plan (E.y y') N (fun _=>False) (l1++⟨some d,.call ⟨.value (.func f),xs.toArray,ts.toArray⟩,ty,ps,af,none⟩::l2) l1 a σ R1 a1 σ1)
 (hev:∃cs cs1,evT E a1 xs ts=some cs∧renVs [] args=some cs1∧VsLe cs cs1)
 (h2:∀p y',AX (E.y y') N k true (l1++⟨some d,.call ⟨.value (.func f),xs.toArray,ts.toArray⟩,ty,ps,af,none⟩::l2) l2 (a1.put (some d) (C p)) σ1 (⟨[],C p,0,[]⟩::R1.reverse)
  (fun e a2 σ2=>e= .normal∧∀y'',y'=y''++y→T p y''→(∀p∈y'',∀q∈y,p.1≠q.1)→Q .normal a2 σ2 (y''++y))):
 BW E N k (.region id (l1++⟨some d,.call ⟨.value (.func f),xs.toArray,ts.toArray⟩,ty,ps,af,none⟩::l2).toArray true) a σ y Q:=by
 have hR1:=(h1 []).len
 have whole:∀(p:π) (y':Ys),∃R2 A2 S2 a2,Plan (E.y y') N (fun o=>o=⟨some d,.call ⟨.value (.func f),xs.toArray,ts.toArray⟩,ty,ps,af,none⟩) (l1++⟨some d,.call ⟨.value (.func f),xs.toArray,ts.toArray⟩,ty,ps,af,none⟩::l2)
  (l1++⟨some d,.call ⟨.value (.func f),xs.toArray,ts.toArray⟩,ty,ps,af,none⟩::l2) a σ (R1++⟨[],C p,0,[]⟩::R2) A2 S2∧ordOk (l1++⟨some d,.call ⟨.value (.func f),xs.toArray,ts.toArray⟩,ty,ps,af,none⟩::l2) (R1++⟨[],C p,0,[]⟩::R2)=true∧
  (∀t,AF.get a2 t=AF.get A2 t)∧∀y'',y'=y''++y→T p y''→(∀p∈y'',∀q∈y,p.1≠q.1)→Q .normal a2 S2 (y''++y):=by
  intro p y'
  obtain⟨R2,A2,S2,a2,q1,q2,q3,_,q4⟩:=(h2 p y').out
  refine⟨R2,A2,S2,a2,((h1 y').monoX fun _ h=>h.elim).app (.run ⟨[],C p,0,[]⟩ rfl (.inl rfl) trivial hdN (q1.monoX fun _ h=>h.elim)),?_,q3,q4⟩
  simpa [List.append_assoc] using q2
 obtain⟨R0,A0,S0,a0,w1,w2,_,_⟩:=whole p0 y
 have hm:(l1++(⟨some d,.call ⟨.value (.func f),xs.toArray,ts.toArray⟩,ty,ps,af,none⟩:Oper)::l2)[l1.length]? =some ⟨some d,.call ⟨.value (.func f),xs.toArray,ts.toArray⟩,ty,ps,af,none⟩:=by simp
 refine BW.regYD l1.length hm hmix hedge C T args hf hdN (List.range l1.length) (fun j hj=>List.mem_range.1 hj) (fun j o' ho hj=> ?_) (R1++⟨[],C p0,0,[]⟩::R0) w1 w2 ?_ (fun p y' hT hne=> ?_) (fun j o' ho hj=> ?_) ?_
 ·have hj:l1.length≤j:=by simpa using hj
  rcases Nat.eq_or_lt_of_le hj with h|h
  ·exact .inl h.symm
  ·right
   rw[List.getElem?_append_right hj] at ho
   obtain⟨i,rfl⟩:∃i,j=l1.length+1+i:=⟨j-(l1.length+1),by omega⟩
   rw[show l1.length+1+i-l1.length=i+1 by omega,List.getElem?_cons_succ] at ho
   have h4:=List.all_eq_true.1 hcl o' (List.mem_of_getElem? ho)
   obtain⟨e,he,h5⟩:=List.any_eq_true.1 h4
   exact⟨e,he,by have:=Nat.le_of_ble_eq_true h5;simpa using this⟩
 ·rw [←hR1,List.getElem?_append_right (Nat.le_refl _)];simp
 ·obtain ⟨R2,A2,S2,a2,q1,q2,q3,q4⟩:=whole p (y'++y)
  refine⟨_,A2,S2,a2,q1,q2,?_,fun j hj=> ?_,q3,q4 y' rfl hT hne⟩
  ·rw [←hR1,List.getElem?_append_right (Nat.le_refl _)];simp
  ·rw [List.getElem?_append_left (by omega),List.getElem?_append_left (by omega)]
 ·have hmem:o'∈l1++l2:=by
   rcases Nat.lt_or_ge j l1.length with h|h
   ·rw [List.getElem?_append_left h] at ho
    exact List.mem_append_left _ (List.mem_of_getElem? ho)
   ·rw [List.getElem?_append_right h] at ho
    obtain⟨i,rfl⟩:∃i,j=l1.length+1+i:=⟨j-(l1.length+1),by omega⟩
    rw[show l1.length+1+i-l1.length=i+1 by omega,List.getElem?_cons_succ] at ho
    exact List.mem_append_right _ (List.mem_of_getElem? ho)
  have h4:=List.all_eq_true.1 hdst o' hmem
  intro he
  rw[he] at h4
  simp at h4
 ·have hf:=((h1 []).fin).1
  have e1:upAt (fun j=>decide (j<l1.length)) 0 (fus (l1++⟨some d,.call ⟨.value (.func f),xs.toArray,ts.toArray⟩,ty,ps,af,none⟩::l2) (R1++⟨[],C p0,0,[]⟩::R0)) a=a1:=by
   rw[hf]
   have e2:fus (l1++⟨some d,.call ⟨.value (.func f),xs.toArray,ts.toArray⟩,ty,ps,af,none⟩::l2) (R1++⟨[],C p0,0,[]⟩::R0)=fus l1 R1++fus (⟨some d,.call ⟨.value (.func f),xs.toArray,ts.toArray⟩,ty,ps,af,none⟩::l2) (⟨[],C p0,0,[]⟩::R0):=by
    simp only[fus];rw[List.zipWith_append hR1.symm]
   rw[e2]
   have e3:(fus l1 R1).length=l1.length:=by simp[fus,hR1]
   rw[←e3]
   exact upAt_pre
  rw[e1];exact hev
end
def RC(E:Env)(f:FuncId)(args:List V)(y:Ys)(r:V):Prop:=
 (∀vs w,(callFunc f vs).run E.P w= .ok (.enter f vs) w)∧
 ∀g w (vs:List Value),R E.G g (·<0) [] w→YOk y g (Foot g []) w→vs.length=args.length→(∀(i:Nat) v c,vs[i]? =some v→args[i]? =some c→VRel g (·<0) w v c)→
  Calls E.P f vs.toArray w fun e w'=>∃v g',e= .returned v∧R E.G g' (·<0) [] w'∧VRel g' (·<0) w' v r∧Ext (·<0) g (Foot g []) w g' (Foot g' []) w'
def ZC(E:Env)(f:FuncId)(args:List V)(y:Ys)(T:V→Ys→Prop):Prop:=
 (∀vs w,(callFunc f vs).run E.P w= .ok (.enter f vs) w)∧
 ∀g w (vs:List Value),R E.G g (·<0) [] w→YOk y g (Foot g []) w→vs.length=args.length→(∀(i:Nat) v c,vs[i]? =some v→args[i]? =some c→VRel g (·<0) w v c)→
  Calls E.P f vs.toArray w fun e w'=>∃v g' r y',e= .returned v∧T r y'∧R E.G g' (·<0) [] w'∧VRel g' (·<0) w' v r∧YOk y' g' (Foot g' []) w'∧Ext (·<0) g (FY g [] y) w g' (FY g' [] y') w'
theorem YOk.noF{y:Ys}{g:Gh}{F F':Nat→Prop}{w:World}(h:YOk y g F w)(hF:∀b,F' b→F b):YOk y g F' w:=fun p hp=>by
 obtain⟨h1,h2,h3⟩:=h p hp
 exact⟨h1,fun hf=>h2 (hF _ hf),h3⟩
section
variable {E:Env} {N k:Nat} {a:AF} {σ:Sto} {y:Ys} {Q:Exit→AF→Sto→Ys→Prop}
theorem RC.mk{f:FuncId}{fn:Func}{c:Code}{args:List V}{r:V}{rs:List ResultVar}(hf:E.P.funcs[f]? =some fn)(hb:fn.body=some c)(hname:(fn.name== "runtime.NumGoroutine")=false)(hN:fn.ntmps=N)
 (hrs:fn.results=rs.toArray) (hargs:Nat.ble args.length N=true) (h:AW (E.y y) N 0 c (argF 0 args) ⟨0,[]⟩ (retQ (E.y y) 0 rs r ⟨0,[]⟩)):RC E f args y r:=by
 refine⟨fun vs w=> ?_,fun g w vs hR hY hl hr=> ?_⟩
 ·have hname':¬fn.name= "runtime.NumGoroutine" :=by simpa using hname
  simp[callFunc,hf,hname',hb]
 ·have hle:=Nat.le_of_ble_eq_true hargs
  refine calls_of_wp hf hb (wp_mono (h.run (Nat.le_refl _) g w _ hR ?_ hY) ?_)
  ·refine ⟨by simp[hN];omega,rfl,fun t c hc=> ?_⟩
   obtain⟨_,h1⟩:=argF_get hc
   simp only[Nat.sub_zero] at h1
   obtain⟨v,hv⟩:=getElem?_of_len hl.symm h1
   have hlt:=(List.getElem?_eq_some_iff.1 hv).1
   exact⟨v,by simp[Array.getElem?_append,hlt];exact(List.getElem?_eq_some_iff.1 hv).2,hr t v c hv h1⟩
  ·rintro e act' w' ⟨g',a',σ1,hq,hk1,hR1,hF1,hx1⟩
   cases e with
   |normal=>
    obtain⟨v,g2,h1,h2,h3,h4⟩:=Ret.done (E:=E.y y) hq hrs hR1 hF1
    exact⟨hF1.defers,v,h1,v,g2,rfl,h2,h3,hx1.trans h4⟩
   |ret=>
    obtain⟨v,g2,h1,h2,h3,h4⟩:=Ret.done (E:=E.y y) hq hrs hR1 hF1
    exact⟨hF1.defers,v,h1,v,g2,rfl,h2,h3,hx1.trans h4⟩
   |_=>exact hq.elim
theorem RC.use{f:FuncId}{args:List V}{r:V}(h:RC E f args y r){g:Gh}{D:Nat→Prop}{es:Es}{w:World}(hR:R E.G g D es w)(hY:YOk y g (Foot g es) w){vs:List Value}{cs:List V}(hl:vs.length=cs.length)
 (hr:∀(i:Nat) v c,vs[i]? =some v→cs[i]? =some c→VRel g D w v c) (hle:∃cs1,renVs [] args=some cs1∧VsLe cs cs1) {P:Ending→World→Prop}
 (hP:∀v g' w',R E.G g' D es w'→VRel g' D w' v r→Ext D g (Foot g es) w g' (Foot g' es) w'→P (.returned v) w'):Calls E.P f vs.toArray w P:=by
 obtain⟨cs1,h1,h2⟩:=hle
 obtain⟨_,h3⟩:=h
 have hRs:R E.G g (·<0) [] w:=⟨fun n e h=>(by cases h),fun n n' e e' b h=>(by cases h),fun n e h=>(by cases h),hR.fresh,hR.nodes,hR.glob⟩
 have hnr:∀n m,renN [] n≠some m:=fun n m h=>by simp[renN,nthO] at h
 refine(h3 g w vs hRs (hY.noF fun b h=>by obtain⟨n,e,h,_⟩:=h;cases h) (by rw[hl,h2.len,←renVs_len h1]) (fun i v c hv hc=> ?_)).mono ?_
 ·obtain ⟨c1,hc1⟩:=getElem?_of_len (renVs_len h1) hc
  obtain⟨c0,hc0,hle⟩:=h2.nth i c1 hc1
  exact VRel.unren (ρ:=[]) (g2:=g) (hle _ _ _ _ (hr i v c0 hv hc0)) rfl (fun n m h=>absurd h (hnr n m)) (fun n m h=>absurd h (hnr n m)) (fun n h=>by simp[nthO] at h) c (renVs_at h1 i c c1 hc hc1)
 ·rintro e w' ⟨v,g',rfl,hR',hv,hx⟩
  have hnf:∀b,¬Foot g [] b:=fun b h=>by obtain⟨n,e,h,_⟩:=h;cases h
  have hsame:∀b,b<w.heap.size→((g.m b).nd=none→w'.heap[b]? =w.heap[b]?)∧g'.m b=g.m b:=fun b hb=>hx.fr b hb (hnf b)
  have hsameF:∀n e b,findE es n=some e→e.foot g n=some b→w'.heap[b]? =w.heap[b]? ∧g'.m b=g.m b:=fun n e b he hb=>⟨(hsame b (hR.foot_lt he hb)).1 (hR.foot_nd he hb),(hsame b (hR.foot_lt he hb)).2⟩
  have hfoot:Foot (g.marks g') es=Foot g es:=by
   funext b;simp only[Foot,Gh.marks]
   apply propext
   constructor
   ·rintro ⟨n,e,h4,h5⟩;exact⟨n,e,h4,by cases e<;>exact h5⟩
   ·rintro ⟨n,e,h4,h5⟩;exact⟨n,e,h4,by cases e<;>exact h5⟩
  refine hP v (g.marks g') w' ?_ ?_ ?_
  ·refine hR.step hx.mark hx.cells (fun _ h=>h) (fun _ _=>rfl) (fun _ _=>rfl) (fun n e he=> .inl ⟨he,fun b hb=>hsameF n e b he hb⟩) ?_ hR'.fresh hR'.nodes
   intro n n' e e' b h4 h5 h6 h7
   exact hR.foots n n' e e' b h4 h5 (by cases e<;>exact h6) (by cases e'<;>exact h7)
  ·exact hv.mono (fun _=>Mrk.le_refl _) (fun _ _ _=>rfl) (fun n h=>absurd h (Nat.not_lt_zero n)) (fun n h=>absurd h (Nat.not_lt_zero n)) (fun n h=>absurd h (Nat.not_lt_zero n))
  ·refine ⟨hx.os,hx.tape,hx.output,hx.size,hx.cells,hx.mark,fun _ _=>rfl,fun _ _=>rfl,fun b hb _=>hsame b hb,fun b hb=> ?_⟩
   rw[hfoot] at hb
   exact .inl hb
theorem ZC.mk{f:FuncId}{fn:Func}{c:Code}{args:List V}{T:V→Ys→Prop}{rs:List ResultVar}(hf:E.P.funcs[f]? =some fn)(hb:fn.body=some c)(hname:(fn.name== "runtime.NumGoroutine")=false)(hN:fn.ntmps=N)
 (hrs:fn.results=rs.toArray) (hargs:Nat.ble args.length N=true) (h:BW E N 0 c (argF 0 args) ⟨0,[]⟩ y (retY E rs T)):ZC E f args y T:=by
 refine⟨fun vs w=> ?_,fun g w vs hR hY hl hr=> ?_⟩
 ·have hname':¬fn.name= "runtime.NumGoroutine" :=by simpa using hname
  simp[callFunc,hf,hname',hb]
 ·have hle:=Nat.le_of_ble_eq_true hargs
  refine calls_of_wp hf hb (wp_mono (h.run (Nat.le_refl _) g w _ hR ?_ hY) ?_)
  ·refine ⟨by simp[hN];omega,rfl,fun t c hc=> ?_⟩
   obtain⟨_,h1⟩:=argF_get hc
   simp only[Nat.sub_zero] at h1
   obtain⟨v,hv⟩:=getElem?_of_len hl.symm h1
   have hlt:=(List.getElem?_eq_some_iff.1 hv).1
   exact⟨v,by simp[Array.getElem?_append,hlt];exact(List.getElem?_eq_some_iff.1 hv).2,hr t v c hv h1⟩
  ·rintro e act' w' ⟨g',a',σ1,y1,hq,hk1,hR1,hF1,hY1,hx1⟩
   have key:(∃r,T r y1∧Ret E 0 rs r ⟨0,[]⟩ a' σ1)→act'.defers=[]∧∃v,(results fn act'.tmps).run E.P w'= .ok v w'∧∃v' g'' r y',Ending.returned v= .returned v'∧T r y'∧R E.G g'' (·<0) [] w'∧VRel g'' (·<0) w' v' r∧YOk y' g'' (Foot g'' []) w'∧
    Ext (·<0) g (FY g [] y) w g'' (FY g'' [] y') w':=by
    rintro⟨r,hT,hret⟩
    obtain⟨v,g2,h1,h2,h3,h4⟩:=Ret.done hret hrs hR1 hF1
    exact⟨hF1.defers,v,h1,v,g2,r,y1,rfl,hT,h2,h3,hY1.ext h4,hx1.trans (h4.keys y1)⟩
   cases e with
   |normal=>exact key hq
   |ret=>exact key hq
   |_=>exact hq.elim
theorem ZC.use{f:FuncId}{args:List V}{T:V→Ys→Prop}(h:ZC E f args y T){g:Gh}{D:Nat→Prop}{es:Es}{w:World}(hR:R E.G g D es w)(hY:YOk y g (Foot g es) w){vs:List Value}{cs:List V}(hl:vs.length=cs.length)
 (hr:∀(i:Nat) v c,vs[i]? =some v→cs[i]? =some c→VRel g D w v c) (hle:∃cs1,renVs [] args=some cs1∧VsLe cs cs1) {P:Ending→World→Prop}
 (hP:∀v g' w' r y',T r y'→R E.G g' D es w'→VRel g' D w' v r→YOk y' g' (Foot g' es) w'→Ext D g (FY g es y) w g' (FY g' es y') w'→P (.returned v) w'):Calls E.P f vs.toArray w P:=by
 obtain⟨cs1,h1,h2⟩:=hle
 obtain⟨_,h3⟩:=h
 have hRs:R E.G g (·<0) [] w:=⟨fun n e h=>(by cases h),fun n n' e e' b h=>(by cases h),fun n e h=>(by cases h),hR.fresh,hR.nodes,hR.glob⟩
 have hnr:∀n m,renN [] n≠some m:=fun n m h=>by simp[renN,nthO] at h
 refine(h3 g w vs hRs (hY.noF fun b h=>by obtain⟨n,e,h,_⟩:=h;cases h) (by rw[hl,h2.len,←renVs_len h1]) (fun i v c hv hc=> ?_)).mono ?_
 ·obtain ⟨c1,hc1⟩:=getElem?_of_len (renVs_len h1) hc
  obtain⟨c0,hc0,hle⟩:=h2.nth i c1 hc1
  exact VRel.unren (ρ:=[]) (g2:=g) (hle _ _ _ _ (hr i v c0 hv hc0)) rfl (fun n m h=>absurd h (hnr n m)) (fun n m h=>absurd h (hnr n m)) (fun n h=>by simp[nthO] at h) c (renVs_at h1 i c c1 hc hc1)
 ·rintro e w' ⟨v,g',r,y',rfl,hT,hR',hv,hY',hx⟩
  have hnf:∀b,¬Foot g [] b:=fun b h=>by obtain⟨n,e,h,_⟩:=h;cases h
  have hsame:∀b,b<w.heap.size→¬Keys y b→((g.m b).nd=none→w'.heap[b]? =w.heap[b]?)∧g'.m b=g.m b:=fun b hb hk=>hx.fr b hb (fun h=>h.elim (hnf b) hk)
  have hdis:∀b,Foot g es b→¬Keys y b:=fun b hf hk=>by
   obtain⟨p,hp,rfl⟩:=hk
   exact(hY p hp).2.1 hf
  have hnew:∀p∈y',Keys y p.1∨w.heap.size≤p.1:=fun p hp=>by
   rcases hx.newf p.1 (.inr ⟨p,hp,rfl⟩) with h|h
   ·exact .inl (h.resolve_left (hnf _))
   ·exact .inr h
  have hfoot:Foot (g.marks g') es=Foot g es:=by
   funext b;simp only[Foot,Gh.marks]
   apply propext
   constructor
   ·rintro ⟨n,e,h4,h5⟩;exact⟨n,e,h4,by cases e<;>exact h5⟩
   ·rintro ⟨n,e,h4,h5⟩;exact⟨n,e,h4,by cases e<;>exact h5⟩
  refine hP v (g.marks g') w' r y' hT ?_ ?_ ?_ ?_
  ·refine hR.step hx.mark hx.cells (fun _ h=>h) (fun _ _=>rfl) (fun _ _=>rfl) (fun n e he=> .inl ⟨he,fun b hb=>⟨(hsame b (hR.foot_lt he hb) (hdis b ⟨n,e,he,hb⟩)).1 (hR.foot_nd he hb),(hsame b (hR.foot_lt he hb) (hdis b ⟨n,e,he,hb⟩)).2⟩⟩) ?_ hR'.fresh hR'.nodes
   intro n n' e e' b h4 h5 h6 h7
   exact hR.foots n n' e e' b h4 h5 (by cases e<;>exact h6) (by cases e'<;>exact h7)
  ·exact hv.mono (fun _=>Mrk.le_refl _) (fun _ _ _=>rfl) (fun n h=>absurd h (Nat.not_lt_zero n)) (fun n h=>absurd h (Nat.not_lt_zero n)) (fun n h=>absurd h (Nat.not_lt_zero n))
  ·rw [hfoot]
   intro p hp
   obtain⟨q1,q2,us,t,q3,q4,q5,q6,q7⟩:=hY' p hp
   refine⟨q1,fun hf=> ?_,us,t,q3,q4,q5,q6,fun i v c hv hc=>(q7 i v c hv hc).mono (fun _=>Mrk.le_refl _) (fun _ _ _=>rfl) (fun _ h=>h) (fun _ h=>h.elim) (fun _ h=>h.elim)⟩
   rcases hnew p hp with h|h
   ·exact hdis _ hf h
   ·obtain ⟨n,e,h4,h5⟩:=hf
    have:=hR.foot_lt h4 h5
    omega
  ·refine ⟨hx.os,hx.tape,hx.output,hx.size,hx.cells,hx.mark,fun _ _=>rfl,fun _ _=>rfl,fun b hb hb2=>hsame b hb (fun h=>hb2 (.inr h)),fun b hb=> ?_⟩
   rcases hb with hb|⟨p,hp,rfl⟩
   ·rw [hfoot] at hb;exact .inl (.inl hb)
   ·rcases hnew p hp with h|h
    ·exact .inl (.inr h)
    ·exact .inr h
set_option maxHeartbeats 4000000 in
end
section
variable {E:Env} {N k:Nat} {a:AF} {σ:Sto} {y:Ys} {Q:Exit→AF→Sto→Ys→Prop}
end
def Tm.nall(t:Tm):List V:=t.nview++[.bor (t.gnf=true)]
theorem VRel.nd_inv{g:Gh}{D:Nat→Prop}{w:World}{v:Value}{t:Tm}{off:Nat}(h:VRel g D w v (.nd t off)):
 ∃(b:Nat) (f:Nat→Value),v= .pointer (some ⟨b,off,none⟩)∧g.m b= .of t∧(∀j,j<7→w.cell? ⟨b,j,none⟩=some (f j))∧∀j c,t.nview[j]? =some c→DRel g.m w (f j) c:=by
 cases h with
 |data h=>cases h with|nd t b off f h1 h2 h3=>exact⟨b,f,rfl,h1,h2,h3⟩
section
variable {E:Env} {N:Nat} {o:Oper} {a:AF}
theorem OS.ncN{x:Operand}{t:Tm}{off:Nat}(ho:o.op= .nilCheck x)(hx:ev E 0 a x=some (.nd t off)):OS E N o a [] (.nd t off) [] []:=
 .pure fun g D es w act hR _ hF=>by
  have h:=ev_rel hx hR hF
  obtain⟨b,f,h1,_⟩:=h.nd_inv
  exact⟨.pointer (some ⟨b,off,none⟩),by simp[execOp,ho,h1],by rw[←h1];exact h⟩
theorem OS.faN{T:TypeId}{x:Operand}{i:TI}{gs:List (Nat×Nat×Bool)}{f:Nat}{p:Nat×Nat×Bool}{t:Tm}{off:Nat}(ho:o.op= .fieldAddr T x f)(ht:E.ti T=some i)(hd:i.desc= .strct gs)
 (hf:gs[f]? =some p) (hx:ev E 0 a x=some (.nd t off)):OS E N o a [] (.nd t (off+p.1)) [] []:=
 .pure fun g D es w act hR _ hF=>by
  obtain⟨fs,h1,h2⟩:=strct_inv ht hd
  obtain⟨fd,h3,h4,⟨inf,h5,h6⟩,h7,_⟩:=field_at h2 f p hf
  obtain⟨b,fv,h8,q1,q2,q3⟩:=(ev_rel hx hR hF).nd_inv
  have h9:fs[f]? =some fd:=by simpa using h3
  refine⟨.pointer (some ⟨b,off+p.1,none⟩),?_,.data (.nd t b _ fv q1 q2 q3)⟩
  simp only[execOp,ho,Instr.fieldAt,run_und h1,Sem.run_bind,Result.andThen_ok,h9,Instr.sureAddr,h8,Sem.run_pure,run_fieldPlace (E:=E) h5 (by omega),h4]
theorem OS.ldN{T:TypeId}{x:Operand}{i:TI}{t:Tm}{off:Nat}{c:V}(ho:o.op= .load T x)(ht:E.ti T=some i)(hx:ev E 0 a x=some (.nd t off))(hc:loadC i (t.nall.drop off)=some c):
 OS E N o a [] c [] []:=
 .pure fun g D es w act hR _ hF=>by
  obtain⟨b,f,h1,q1,q2,q3⟩:=(ev_rel hx hR hF).nd_inv
  obtain⟨us,ty,fl,p1,p2,p3⟩:=hR.nodes b t q1
  have hl:t.nall.length=8:=rfl
  have hln:t.nview.length=7:=rfl
  obtain⟨v',h2,h3⟩:=run_loadC (E:=E) (g:=g) (D:=D) (w:=w) (b:=b) (off:=off) ht hc (fun j=>if off+j=7 then .bool fl else f (off+j))
   (fun j hj=>by
    simp only[List.length_drop,hl] at hj
    by_cases h7:off+j=7
    ·rw [if_pos h7,h7,cell_in p1];simpa using p2
    ·rw [if_neg h7];exact q2 _ (by omega))
   (fun j c hj=>by
    rw[List.getElem?_drop] at hj
    have hlt:=(List.getElem?_eq_some_iff.1 hj).1
    rw[hl] at hlt
    by_cases h7:off+j=7
    ·rw [if_pos h7]
     rw[h7] at hj
     have:c= .bor (t.gnf=true):=by
      have e:t.nall[7]? =some (.bor (t.gnf=true)):=rfl
      rw[e] at hj;exact(Option.some.inj hj).symm
     subst this
     exact⟨.bor fl _ p3,rfl⟩
    ·rw [if_neg h7]
     have hj2:t.nview[off+j]? =some c:=by
      rw[Tm.nall,List.getElem?_append_left (by rw[hln];omega)] at hj;exact hj
     have h8:=q3 _ c hj2
     exact⟨.data h8,h8.one⟩)
  exact⟨v',by simp[execOp,ho,Instr.loadAt,Instr.sureAddr,h1,h2],h3⟩
def isPtrT(P:Program)(t:TypeId):Bool:=match P.underlying t with|some (.pointer _)=>true|_=>false
theorem isPtrT_ex{P:Program}{t:TypeId}(h:isPtrT P t=true):∃a,P.underlying t=some (.pointer a):=by
 unfold isPtrT at h
 split at h
 ·exact ⟨_,by assumption⟩
 ·cases h
def isNdV:V→Option Bool
 | .nilp=>some false
 | .nd _ _=>some true
 |_=>none
theorem nd_equal{T:TypeId}(ht:isPtrT E.P T=true){c:V}{b:Bool}(hc:isNdV c=some b){v v':Value}{g:Gh}{D:Nat→Prop}{w:World}(h1:VRel g D w v c)(h2:VRel g D w v' .nilp):
 ∃q,v= .pointer q∧v'= .pointer none∧(Op.equal T v v').run E.P w= .ok (!b) w:=by
 obtain⟨q,hu⟩:=isPtrT_ex ht
 have e2:v'= .pointer none:=by
  cases h2 with
  |data h=>cases h
  |nilp=>rfl
 subst e2
 cases c with
 |nilp=>
  simp only[isNdV,Option.some.injEq] at hc
  subst hc
  have e1:v= .pointer none:=by
   cases h1 with
   |data h=>cases h
   |nilp=>rfl
  subst e1
  refine⟨_,rfl,rfl,?_⟩
  unfold Op.equal Op.maxDepth Op.equalIn
  simp[run_und hu]
 |nd t off=>
  simp only[isNdV,Option.some.injEq] at hc
  subst hc
  obtain⟨b,f,e1,_⟩:=h1.nd_inv
  subst e1
  refine⟨_,rfl,rfl,?_⟩
  unfold Op.equal Op.maxDepth Op.equalIn
  simp[run_und hu]
 |_=>cases hc
theorem OS.ndn{t u:TypeId}{x y:Operand}{c:V}{b:Bool}(ho:o.op= .binOp .neq t x y u)(ht:isPtrT E.P t=true)(hx:ev E t a x=some c)(hc:isNdV c=some b)(hy:ev E t a y=some .nilp):OS E N o a [] (.bool b) [] []:=
 .pure fun g D es w act hR _ hF=>by
  obtain⟨q,hvx,hvy,he⟩:=nd_equal ht hc (ev_rel hx hR hF) (ev_rel hy hR hF)
  rw[hvx,hvy] at he
  exact⟨.bool b,by simp[execOp,ho,eqGuard,hvx,hvy,binOp,he],.data (.bool _)⟩
theorem OS.nde{t u:TypeId}{x y:Operand}{c:V}{b:Bool}(ho:o.op= .binOp .eql t x y u)(ht:isPtrT E.P t=true)(hx:ev E t a x=some c)(hc:isNdV c=some b)(hy:ev E t a y=some .nilp):OS E N o a [] (.bool (!b)) [] []:=
 .pure fun g D es w act hR _ hF=>by
  obtain⟨q,hvx,hvy,he⟩:=nd_equal ht hc (ev_rel hx hR hF) (ev_rel hy hR hF)
  rw[hvx,hvy] at he
  exact⟨.bool (!b),by simp[execOp,ho,eqGuard,hvx,hvy,binOp,he],.data (.bool _)⟩
theorem OS.stN{T:TypeId}{x y:Operand}{i:TI}{t:Tm}(ho:o.op= .store T x y)(ht:E.ti T=some i)(hs:i.size=1)(hx:ev E 0 a x=some (.nd t 7))(hy:ev E T a y=some (.bool true))(hn:t.gnf=true):
 OS E N o a [] (.tup []) [] []:=
 .of_skip fun g D es w act hR hp hF=>by
  obtain⟨b,f,h1,q1,q2,q3⟩:=(ev_rel hx hR hF).nd_inv
  obtain⟨us,ty,fl,p1,p2,p3⟩:=hR.nodes b t q1
  have hv:act.eval y= .bool true:=(ev_rel hy hR hF).bool_inv
  obtain⟨inf,h12,h13,_⟩:=ti_info ht
  have h7:7<us.length:=(List.getElem?_eq_some_iff.1 p2).1
  have hst:=run_storeCells_at E.P b 7 ty [Value.bool true] 0 us.toArray w p1 (by simp;omega) (fun u hu=>by simp only[List.mem_singleton] at hu;subst hu;rfl)
  have hother:∀b',b'≠b→(w.setRow b (us.take 7++[Value.bool true]++us.drop 8).toArray).heap[b']? =w.heap[b']? :=fun b' hb=>setRow_other w b b' _ hb
  have hself:(w.setRow b (us.take 7++[Value.bool true]++us.drop 8).toArray).heap[b]? =some (.cells (us.take 7++[Value.bool true]++us.drop 8).toArray ty (0,0)):=setRow_heap w _ _ _ ty _ p1
  have hcell:∀b' o',o'<(g.m b').n→(w.setRow b (us.take 7++[Value.bool true]++us.drop 8).toArray).cell? ⟨b',o',none⟩=w.cell? ⟨b',o',none⟩:=fun b' o' ho'=>by
   by_cases hb:b'=b
   ·subst hb
    rw[q1] at ho'
    rw[cell_in hself,cell_in p1]
    have ho2:o'<7:=ho'
    simp only[List.getElem?_toArray]
    rw[List.append_assoc,List.getElem?_append_left (by simp;omega),List.getElem?_take,if_pos ho2]
   ·exact cell_setRow_other w _ _ b' o' hb
  refine⟨w.setRow b (us.take 7++[Value.bool true]++us.drop 8).toArray,?_,?_,?_⟩
  ·have h14:((act.eval y).cells.size≠inf.size)=False:=by rw[hv,h13,hs];simp[Value.cells]
   have h15:(act.eval y).cells.toList=[Value.bool true]:=by rw[hv];rfl
   have e1:us.take 7++[Value.bool true]++us.drop 8=us.take (7+0)++[Value.bool true]++us.drop (7+0+[Value.bool true].length):=rfl
   simp only[execOp,ho,Instr.storeAt,Instr.sureAddr,h1,storeVar,Sem.run_bind,Sem.run_pure,Result.andThen_ok,run_size h12,h14,if_false,h15,hst]
   rfl
  ·refine hR.step (fun _=>Mrk.le_refl _) hcell (fun i hi=>hi) (fun _ _=>rfl) (fun _ _=>rfl) (fun n e he=> .inl ⟨he,fun b' hb=>⟨hother b' fun e2=> ?_,rfl⟩⟩) hR.foots (fun b' hb=>hR.fresh b' (by simpa using hb)) (fun b' t' h=> ?_)
   ·have h3:=hR.foot_nd he hb
    rw[e2,q1] at h3;cases h3
   ·by_cases hb:b'=b
    ·subst hb
     rw[q1] at h
     have e3:t'=t:=by
      have:=congrArg Mrk.nd h
      exact(Option.some.inj this).symm
     subst e3
     exact⟨_,ty,true,hself,by rw[List.append_assoc,List.getElem?_append_right (by simp;omega)];simp[Nat.min_eq_left (Nat.le_of_lt h7)],fun _=>hn⟩
    ·exact (hR.nodes b' t' h).same (hother b' hb)
  ·exact ⟨rfl,rfl,rfl,by simp,hcell,fun _=>Mrk.le_refl _,fun _ _=>rfl,fun _ _=>rfl,fun b' _ _=>⟨fun h0=>hother b' (fun e=>by rw[e,q1] at h0;cases h0),rfl⟩,fun b' h=> .inl h⟩
end
section
variable {E:Env} {N k:Nat} {a:AF} {σ:Sto} {Q:Exit→AF→Sto→Prop} {ops:List Oper} {dr:Bool} {rest:List Oper} {acc:List Rec}
variable {d:Option Tmp} {ty:TypeId} {ps:String} {af:Array Edge} {gd:Option (Nat×Bool)}
namespace L
theorem nn{x:Operand}{t:Tm}{off:Nat}(hw:wantG ops a gd=some true)(hx:ev E 0 a x=some (.nd t off))(hd:dstOk N d=true)(h2:AX E N k dr ops rest (a.put d (.nd t off)) σ (⟨[],.nd t off,0,[]⟩::acc) Q):
 AX E N k dr ops (⟨d,.nilCheck x,ty,ps,af,gd⟩::rest) a σ acc Q:=
 AX.run 0 hw (OS.ncN rfl (fr (by simp[Op.operands,Call.operands]) hx)) trivial hd h2
theorem nf{T:TypeId}{x:Operand}{z:Nat}{zr:List V}{gs:List (Nat×Nat×Bool)}{f:Nat}{p:Nat×Nat×Bool}{t:Tm}{off:Nat}(hw:wantG ops a gd=some true)(hx:ev E 0 a x=some (.nd t off))(ht:E.ti T=some ⟨z,zr,.strct gs⟩)
 (hf:gs[f]? =some p) (hd:dstOk N d=true) (h2:AX E N k dr ops rest (a.put d (.nd t (off+p.1))) σ (⟨[],.nd t (off+p.1),0,[]⟩::acc) Q):AX E N k dr ops (⟨d,.fieldAddr T x f,ty,ps,af,gd⟩::rest) a σ acc Q:=
 AX.run 0 hw (OS.faN rfl ht rfl hf (fr (by simp[Op.operands,Call.operands]) hx)) trivial hd h2
theorem nl{T:TypeId}{x:Operand}{i:TI}{t:Tm}{off:Nat}{c:V}(hw:wantG ops a gd=some true)(hx:ev E 0 a x=some (.nd t off))(ht:E.ti T=some i)(hc:loadC i (t.nall.drop off)=some c)(hd:dstOk N d=true)
 (h2:AX E N k dr ops rest (a.put d c) σ (⟨[],c,0,[]⟩::acc) Q):AX E N k dr ops (⟨d,.load T x,ty,ps,af,gd⟩::rest) a σ acc Q:=
 AX.run 0 hw (OS.ldN rfl ht (fr (by simp[Op.operands,Call.operands]) hx) hc) trivial hd h2
theorem ndn{t u:TypeId}{x y:Operand}{c:V}{b:Bool}(hw:wantG ops a gd=some true)(ht:isPtrT E.P t=true)(hx:ev E t a x=some c)(hc:isNdV c=some b)(hy:ev E t a y=some .nilp)(hd:dstOk N d=true)
 (h2:AX E N k dr ops rest (a.put d (.bool b)) σ (⟨[],.bool b,0,[]⟩::acc) Q):AX E N k dr ops (⟨d,.binOp .neq t x y u,ty,ps,af,gd⟩::rest) a σ acc Q:=
 AX.run 0 hw (OS.ndn rfl ht (fr (by simp[Op.operands,Call.operands]) hx) hc (fr (by simp[Op.operands,Call.operands]) hy)) trivial hd h2
theorem nde{t u:TypeId}{x y:Operand}{c:V}{b:Bool}(hw:wantG ops a gd=some true)(ht:isPtrT E.P t=true)(hx:ev E t a x=some c)(hc:isNdV c=some b)(hy:ev E t a y=some .nilp)(hd:dstOk N d=true)
 (h2:AX E N k dr ops rest (a.put d (.bool (!b))) σ (⟨[],.bool (!b),0,[]⟩::acc) Q):AX E N k dr ops (⟨d,.binOp .eql t x y u,ty,ps,af,gd⟩::rest) a σ acc Q:=
 AX.run 0 hw (OS.nde rfl ht (fr (by simp[Op.operands,Call.operands]) hx) hc (fr (by simp[Op.operands,Call.operands]) hy)) trivial hd h2
theorem ns{T:TypeId}{x y:Operand}{i:TI}{t:Tm}(hn:t.gnf=true)(hw:wantG ops a gd=some true)(hx:ev E 0 a x=some (.nd t 7))(hy:ev E T a y=some (.bool true))(ht:E.ti T=some i)(hs:Nat.beq i.size 1=true)(hd:dstOk N d=true)
 (h2:AX E N k dr ops rest (a.put d (.tup [])) σ (⟨[],.tup [],0,[]⟩::acc) Q):AX E N k dr ops (⟨d,.store T x y,ty,ps,af,gd⟩::rest) a σ acc Q:=
 AX.run 0 hw (OS.stN rfl ht (Nat.eq_of_beq_eq_true hs) (fr (by simp[Op.operands,Call.operands]) hx) (fr (by simp[Op.operands,Call.operands]) hy) hn) trivial hd h2
end L
theorem AW.condB{c:Operand}{x y:Code}{P:Prop}(hc:ev E 0 a c=some (.bor P))(ht:P→AW E N k x a σ Q)(hf:AW E N k y a σ Q):AW E N k (.cond c x y) a σ Q:=by
 constructor
 intro hk g w act hR hF hY
 have hv:=ev_rel hc hR hF
 obtain⟨b,hb,hp⟩:∃b,act.eval c= .bool b∧(b=true→P):=by
  generalize act.eval c=v at hv
  cases hv with
  |data h=>cases h
  |bor b _ h=>exact⟨b,rfl,h⟩
 exact wp_cond_split hb (fun h=>(ht (hp h)).run hk g w act hR hF hY) (fun h=>hf.run hk g w act hR hF hY)
theorem Weak.node(n t':Nat)(t:Tm)(hn:findE σ.es n=some (.var (t.nview++[.bool false])))(hd:a.get t'=some (.ptr n 0)):
 Weak E N k a σ ((t',.nd t 0)::a) ⟨σ.nx,(n,.gone)::σ.es⟩:=by
 intro hk
 refine⟨hk,fun g w act hR hF=> ?_⟩
 obtain⟨h1,vs,ty,h2,h3,h4,h5,_⟩:=hR.ents n _ hn
 let g':Gh:={g with m:=fun b=>if b=g.blk n then .of t else g.m b}
 have hlt:g.blk n<w.heap.size:=(Array.getElem?_eq_some_iff.1 h2).1
 have hmn:g'.m (g.blk n)= .of t:=if_pos rfl
 have hm':∀b,b≠g.blk n→g'.m b=g.m b:=fun b hb=>if_neg hb
 have hm:∀b,g.m b≤g'.m b:=fun b=>by
  by_cases hb:b=g.blk n
  ·subst hb;rw[hmn];exact Mrk.le_of h1
  ·rw [hm' b hb];exact Mrk.le_refl _
 have hl8:(t.nview++[V.bool false]).length=8:=rfl
 have hln:t.nview.length=7:=rfl
 have hvw:∀c∈t.nview,V.isD c=true:=by
  intro c hc
  simp only[Tm.nview,List.mem_cons,List.not_mem_nil,or_false] at hc
  rcases hc with rfl|rfl|rfl|rfl|rfl|rfl|rfl<;>rfl
 have hmono:∀{v c},VRel g (·<σ.nx) w v c→VRel g' (·<σ.nx) w v c:=fun h=>h.mono hm (fun _ _ _=>rfl) (fun _ h=>h) (fun _ _=>rfl) (fun _ _=>rfl)
 have hfind:∀i e,findE ((n,Ent.gone)::σ.es) i=some e→(i=n∧e= .gone)∨(i≠n∧findE σ.es i=some e):=fun i e he=>by
  rcases findE_gone he with h|h
  ·exact .inl h
  ·exact .inr h
 have hne:∀i e b,i≠n→findE σ.es i=some e→e.foot g i=some b→b≠g.blk n:=fun i e b hi he hb e2=>hi (hR.foots i n e _ b he hn hb (by simp[Ent.foot,e2]))
 have hfoot:∀(e:Ent) i,e.foot g' i=e.foot g i:=fun e i=>by cases e<;>rfl
 refine⟨g',?_,⟨hF.size,hF.defers,fun t1 c hc=> ?_⟩,?_⟩
 ·refine hR.step hm (fun _ _ _=>rfl) (fun _ h=>h) (fun _ _=>rfl) (fun _ _=>rfl) (fun i e he=> ?_) (fun i j e e' b he he' hb hb'=> ?_) (fun b hb=> ?_) (fun b t1 h=> ?_)
  ·rcases hfind i e he with⟨rfl,rfl⟩|⟨hi,he⟩
   ·exact .inr ⟨hR.lt _ _ hn,trivial⟩
   ·exact .inl ⟨he,fun b hb=>⟨rfl,hm' b (hne i e b hi he hb)⟩⟩
  ·rw [hfoot] at hb hb'
   rcases hfind i e he with⟨rfl,rfl⟩|⟨hi,he⟩
   ·cases hb
   ·rcases hfind j e' he' with⟨rfl,rfl⟩|⟨hj,he'⟩
    ·cases hb'
    ·exact hR.foots i j e e' b he he' hb hb'
  ·rw [hm' b (by omega)];exact hR.fresh b hb
  ·by_cases hb:b=g.blk n
   ·subst hb
    rw[hmn] at h
    have e3:t1=t:=(Option.some.inj (congrArg Mrk.nd h)).symm
    subst e3
    rw[hl8] at h3
    have h7:vs[7]? =some (vs[7]'(by omega)):=List.getElem?_eq_getElem _
    have h6:=(h5 7 _ (.bool false) h7 rfl).bool_inv
    exact⟨vs,ty,false,h2,by rw[h7,h6],fun h=>by cases h⟩
   ·rw [hm' b hb] at h;exact hR.nodes b t1 h
 ·rw [AF.get_cons] at hc
  by_cases ht:t'=t1
  ·subst ht
   simp only[if_true,Option.some.injEq] at hc
   subst hc
   obtain⟨v,q1,q2⟩:=hF.vals t' _ hd
   refine⟨v,q1,?_⟩
   cases q2 with
   |data h=>cases h
   |ptr _ _ hD=>
    refine .data (.nd t (g.blk n) 0 (fun j=>vs.getD j undef) hmn (fun j hj=> ?_) (fun j c hj=> ?_))
    ·rw [hl8] at h3
     rw[cell_in h2]
     have:j<vs.length:=by omega
     simp[List.getElem?_eq_getElem this,List.getD_eq_getElem?_getD]
    ·have hlt7:=(List.getElem?_eq_some_iff.1 hj).1
     rw[hln] at hlt7
     rw[hl8] at h3
     have h8:vs[j]? =some (vs[j]'(by omega)):=List.getElem?_eq_getElem _
     have h9:(t.nview++[V.bool false])[j]? =some c:=by rw[List.getElem?_append_left (by rw[hln];exact hlt7)];exact hj
     rw[List.getD_eq_getElem?_getD,h8]
     exact((h5 j _ c h8 h9).isD (hvw c (List.mem_of_getElem? hj))).mono hm (fun _ _ _=>rfl)
  ·rw [if_neg ht] at hc
   obtain⟨v,q1,q2⟩:=hF.vals t1 c hc
   exact⟨v,q1,hmono q2⟩
 ·refine ⟨rfl,rfl,rfl,Nat.le_refl _,fun _ _ _=>rfl,hm,fun _ _=>rfl,fun _ _=>rfl,fun b hb hnf=>⟨fun _=>rfl,hm' b fun hh=>hnf ⟨n,_,hn,by simp[Ent.foot,hh]⟩⟩,fun b hb=> .inl ?_⟩
  obtain⟨i,e,q1,q2⟩:=hb
  rw[hfoot] at q2
  rcases hfind i e q1 with⟨rfl,rfl⟩|⟨hi,he⟩
  ·cases q2
  ·exact ⟨i,e,he,q2⟩
theorem AW.node{code:Code}(n t':Nat)(t:Tm)(hn:findE σ.es n=some (.var (t.nview++[.bool false])))(hd:a.get t'=some (.ptr n 0))(h:AW E N k code ((t',.nd t 0)::a) ⟨σ.nx,(n,.gone)::σ.es⟩ Q):AW E N k code a σ Q:=
 AW.weak (Weak.node n t' t hn hd) h
end
end Go.Ab
namespace Go.Ab
open Go
set_option linter.all false
def allN(W:World)(b:Nat):Nat:=match W.heap[b]? with
 |some (.cells cs _ _)=>cs.size
 |_=>0
def allM(W:World)(b:Nat):Mrk:=sh (allN W b)
theorem allM_cell{W:World}{b o:Nat}{v:Value}(h:W.cell? ⟨b,o,none⟩=some v):o<(allM W b).n:=by
 show o<allN W b
 unfold allN
 simp only[World.cell?] at h
 split at h
 ·rename_i cs t fr hh
  rw[hh]
  simp only at h ⊢
  exact(Array.getElem?_eq_some_iff.1 h).1
 ·cases h
def gh0(W:World):Gh:=⟨fun _=>0,fun _=>none,allM W⟩
def Old(W W':World):Prop:=∀b,b<W.heap.size→W'.heap[b]? =W.heap[b]?
theorem Old.cell{W W':World}(h:Old W W'){a:Addr}{v:Value}(hc:W.cell? a=some v):W'.cell? a=some v:=by
 have hb:a.block<W.heap.size:=by
  simp only[World.cell?] at hc
  split at hc
  ·rename_i hh
   exact(Array.getElem?_eq_some_iff.1 hh).1
  ·cases hc
 rw[←hc]
 simp only[World.cell?,h a.block hb]
theorem spot_none{W:World}{a:Addr}{i:Nat}{v:Value}(hv:W.cell? (a.add i)=some v):a.add i=⟨a.block,a.off+i,none⟩:=by
 have hspot:(a.add i).spot=none:=by
  cases hsp:(a.add i).spot with
  |none=>rfl
  |some s=>
   simp only[World.cell?] at hv
   split at hv
   ·simp [hsp] at hv
   ·cases hv
 unfold Addr.add at hspot ⊢
 split
 ·rename_i h0
  subst h0
  rw[if_pos rfl] at hspot
  cases a
  simp_all
 ·rfl
section
variable {H:Type} {enc:TypeId×Value→H} {P:Program} {W:World}
def Rel(W:World)(cs:List Value)(vs:List V):Prop:=cs.length=vs.length∧∀(i:Nat) v c,cs[i]? =some v→vs[i]? =some c→DRel (allM W) W v c
def Keeps(enc:TypeId×Value→H)(P:Program)(W:World)(n:Nat)(t:TypeId)(cs:List Value)(x:DataW H×List MemPlace):Prop:=
 ∀W' sp,Old W W'→(∀b,b<W.heap.size→sp b=true)→DataW.trod enc P W' 0 sp true n t cs=some x
def Good(enc:TypeId×Value→H)(P:Program)(W:World)(n:Nat)(t:TypeId)(F:List V→Prop):Prop:=
 ∀cs x,DataW.trod enc P W 0 (fun _=>true) true n t cs=some x→Keeps enc P W n t cs x∧∃vs,F vs∧Rel W cs vs
theorem Old.cells{W':World}(h:Old W W'){a:Addr}{n:Nat}{cs:List Value}(hc:W.cells? 0 a n=some cs):W'.cells? 0 a n=some cs:=by
 obtain⟨h1,h2,h3⟩:=World.cells?_some hc
 exact World.cells?_of_each h1 h2 fun i hi=>by
  have h4:=h3 i hi
  rw[List.getElem?_eq_getElem (by omega)] at h4 ⊢
  exact h.cell h4
theorem good_int{t:TypeId}{k:IntKind}(ht:P.underlying t=some (.int k))(n:Nat):Good enc P W n t (fun vs=>∃i,vs=[.int k i]∧(Lit.int k i).wf=true):=by
 intro cs x h
 obtain⟨i,rfl,rfl,hw⟩:=DataW.trod_int ht h
 refine⟨fun W' sp _ _=> ?_,[.int k i],⟨i,rfl,hw⟩,rfl,?_⟩
 ·cases n with
  |zero=>simp[DataW.trod] at h
  |succ n=>simp[DataW.trod,ht,hw]
 ·intro j v c hv hc
  cases j with
  |zero=>simp at hv hc;subst hv;subst hc;exact .int k i
  |succ j=>simp at hv
theorem mapM_eq_of{α β:Type}{f g:α→Option β}:∀{l:List α} {r:List β},l.mapM f=some r→(∀x∈l,∀y,f x=some y→g x=some y)→l.mapM g=some r:=by
 intro l
 induction l with
 |nil=>intro r h _;simpa using h
 |cons x l ih=>
  intro r h hg
  simp only[List.mapM_cons,Option.bind_eq_bind,Option.bind_eq_some_iff,Option.pure_def,Option.some.injEq] at h ⊢
  obtain⟨y,h1,ys,h2,rfl⟩:=h
  exact⟨y,hg x (by simp) y h1,ys,ih h2 fun z hz=>hg z (by simp[hz]),rfl⟩
theorem slice_relP{t e:TypeId}{c:EC}{n:Nat}(p:c.sem→Prop)(ht:P.underlying t=some (.slice e))(hc:P.cellsOf e=c.cells)(hpos:0<c.cells)(he:Good enc P W n e (fun vs=>∃y:c.sem,vs=c.view y∧p y))
 {cs:List Value} {x:DataW H×List MemPlace} (h:DataW.trod enc P W 0 (fun _=>true) true (n+1) t cs=some x):
 Keeps enc P W (n+1) t cs x∧∃vs,(∃ys:List c.sem,vs=[.slice .any (.t c ys)]∧ys.length≤maxLen∧∀y∈ys,p y)∧Rel W cs vs:=by
 have h':=h
 rcases DataW.trod_slice ht h with⟨rfl,rfl⟩|⟨a,len,cap,elems,rest,n',hn,rfl,hx,hb,hlc,hcm,hel,hi,hr,_⟩
 ·refine ⟨fun W' sp _ _=>by simp[DataW.trod,ht],[.slice .any (.t c [])],⟨[],rfl,Nat.zero_le _,fun y hy=>by cases hy⟩,rfl,?_⟩
  intro j v d hv hd
  cases j with
  |zero=>simp at hv hd;subst hv;subst hd;exact .nilS _ rfl
  |succ j=>simp at hv
 ·cases hn
  have key:∀i,i<len→∃us y,W.cells? 0 (a.add (i*P.cellsOf e)) (P.cellsOf e)=some us∧DataW.trod enc P W 0 (fun _=>true) true n e us=some y∧elems[i]? =some y:=by
   intro i hlt
   have h1:=hi i hlt
   rw[List.getElem?_eq_getElem (by omega)] at h1 ⊢
   obtain⟨us,h2,h3⟩:=Option.bind_eq_some_iff.1 h1
   exact⟨us,_,h2,h3,rfl⟩
  have hex:∀k,k≤len→∃ys:List c.sem,ys.length=k∧(∀y∈ys,p y)∧∀i,i<k→∃us y,W.cells? 0 (a.add (i*P.cellsOf e)) (P.cellsOf e)=some us∧ys[i]? =some y∧Rel W us (c.view y):=by
   intro k
   induction k with
   |zero=>intro _;exact⟨[],rfl,(fun y hy=>by cases hy),fun i hi=>by omega⟩
   |succ k ih=>
    intro hk
    obtain⟨ys,h1,h0,h2⟩:=ih (by omega)
    obtain⟨us,y,h3,h4,_⟩:=key k (by omega)
    obtain⟨_,vs,⟨z,rfl,hz⟩,hrel⟩:=he us y h4
    refine⟨ys++[z],by simp[h1],(fun y hy=>by
     rcases List.mem_append.1 hy with h|h
     ·exact h0 y h
     ·simp only[List.mem_singleton] at h;subst h;exact hz),fun i hlt=> ?_⟩
    by_cases hik:i<k
    ·obtain ⟨us',y',h5,h6,h7⟩:=h2 i hik
     exact⟨us',y',h5,by rw[List.getElem?_append_left (by omega)];exact h6,h7⟩
    ·have:i=k:=by omega
     subst this
     exact⟨us,z,h3,by rw[List.getElem?_append_right (by omega)];simp[h1],hrel⟩
  obtain⟨ys,hyl,hyp,hys⟩:=hex len (Nat.le_refl _)
  refine⟨fun W' sp hold hsp=> ?_,[.slice .any (.t c ys)],⟨ys,rfl,by omega,hyp⟩,rfl,?_⟩
  ·
   have hcarry:∀i,(W.cells? 0 (a.add (i*P.cellsOf e)) (P.cellsOf e)).bind (DataW.trod enc P W 0 (fun _=>true) true n e)=none∨
    (W'.cells? 0 (a.add (i*P.cellsOf e)) (P.cellsOf e)).bind (DataW.trod enc P W' 0 sp true n e)=(W.cells? 0 (a.add (i*P.cellsOf e)) (P.cellsOf e)).bind (DataW.trod enc P W 0 (fun _=>true) true n e):=by
    intro i
    cases hc1:W.cells? 0 (a.add (i*P.cellsOf e)) (P.cellsOf e) with
    |none=>exact .inl rfl
    |some us=>
     cases ht1:DataW.trod enc P W 0 (fun _=>true) true n e us with
     |none=>left;simp[ht1]
     |some y=>
      right
      rw[hold.cells hc1]
      simp only[Option.bind_some]
      rw[ht1,(he us y ht1).1 W' sp hold hsp]
   have hblk:0<cap→a.block<W.heap.size:=by
    intro hcap
    by_cases hl:0<len
    ·obtain ⟨us,y,h3,_⟩:=key 0 hl
     have:=World.cells?_block h3 (by omega)
     simpa [Addr.add] using this
    ·obtain ⟨h5,h6⟩:=hr rfl
     have h7:=h6 0 (by omega)
     rw[List.getElem?_eq_getElem (by omega)] at h7
     obtain⟨us,h8,_⟩:=Option.bind_eq_some_iff.1 h7
     have:=World.cells?_block h8 (by omega)
     have e1:(a.add ((len+0)*P.cellsOf e)).block=a.block:=by unfold Addr.add;split<;>rfl
     rw[e1] at this
     exact this
   have hspb:cap-len=0∨sp a.block=true:=by
    by_cases hcap:0<cap
    ·exact .inr (hsp _ (hblk hcap))
    ·left;omega
   unfold DataW.trod at h' ⊢
   rw[ht] at h' ⊢
   simp only at h' ⊢
   have hcond:0≤a.block∧len≤cap∧cap≤maxLen:=⟨hb,hlc,hcm⟩
   rw[if_pos hcond] at h' ⊢
   obtain⟨el,h1,h2⟩:=Option.bind_eq_some_iff.1 h'
   obtain⟨re,h3,h4⟩:=Option.map_eq_some_iff.1 h2
   simp only[if_true] at h3
   refine Option.bind_eq_some_iff.2 ⟨el,mapM_eq_of h1 fun i _ y hy=> ?_,Option.map_eq_some_iff.2 ⟨re,?_,h4⟩⟩
   ·rcases hcarry i with hc1|hc1
    ·rw [hc1] at hy;cases hy
    ·rw [hc1];exact hy
   ·rcases hspb with h0|h0
    ·rw [h0] at h3 ⊢
     simp at h3
     subst h3
     split<;>simp
    ·rw [if_pos h0]
     exact mapM_eq_of h3 fun j _ y hy=>by
      rcases hcarry (len+j) with hc1|hc1
      ·rw [hc1] at hy;cases hy
      ·rw [hc1];exact hy
  ·intro j v d hv hd
   cases j with
   |succ j=>simp at hv
   |zero=>
    simp only[List.getElem?_cons_zero,Option.some.injEq] at hv hd
    subst hv;subst hd
    by_cases hlen:len=0
    ·subst hlen
     exact .emp (.t c ys) hyl a cap
    have hsp0:a=⟨a.block,a.off,none⟩:=by
     obtain⟨us,y,h3,_⟩:=key 0 (by omega)
     obtain⟨_,h4,h5⟩:=World.cells?_some h3
     have h6:=h5 0 (by omega)
     rw[List.getElem?_eq_getElem (by omega)] at h6
     have:=spot_none h6
     simpa [Addr.add] using this
    obtain⟨ab,ao,as⟩:=a
    have:as=none:=by simpa using hsp0
    subst this
    have hadd:∀o k,Addr.add (⟨ab,o,none⟩:Addr) k=⟨ab,o+k,none⟩:=fun o k=>by
     unfold Addr.add;split
     ·rename_i h0;rw[h0];rfl
     ·rfl
    have hget:∀i j,i<ys.length→j<c.cells→∃v,W.cell? ⟨ab,ao+(i*c.cells+j),none⟩=some v∧∀cs d,(SL.t c ys:SL V).get i=some cs→cs[j]? =some d→DRel (allM W) W v d:=by
     intro i j hi2 hj
     obtain⟨us,y,h5,h6,h7,h8⟩:=hys i (by omega)
     obtain⟨_,h9,h10⟩:=World.cells?_some h5
     have h11:=h10 j (by omega)
     rw[hadd,hadd,List.getElem?_eq_getElem (by omega),hc] at h11
     refine⟨us[j]'(by omega),by rw[←Nat.add_assoc];exact h11,fun cs d h12 h13=> ?_⟩
     have:cs=c.view y:=by
      simp only[SL.get,h6,Option.map_some,Option.some.injEq] at h12
      exact h12.symm
     subst this
     exact h8 j _ d (List.getElem?_eq_getElem _) h13
    refine DRel.slice (SL.t c ys) ab ao cap (fun i j=>(W.cell? ⟨ab,ao+(i*c.cells+j),none⟩).getD undef) ?_ (by show ys.length≤cap;omega) ?_ ?_ ?_|>fun h=>by rw[show len=(SL.t c ys:SL V).len from hyl.symm];exact h
    ·show ao+ys.length*c.cells≤(allM W ab).n
     obtain⟨v,hv,_⟩:=hget (ys.length-1) (c.cells-1) (by omega) (by omega)
     have:=allM_cell hv
     have e1:(ys.length-1)*c.cells+c.cells=ys.length*c.cells:=by
      rw[←Nat.succ_mul];congr 1;omega
     omega
    ·intro i hi2
     exact⟨c.view (ys[i]'hi2),by show(ys[i]?).map c.view=_;rw[List.getElem?_eq_getElem (show i<ys.length from hi2)];rfl,EC.view_len _ _⟩
    ·intro i j hi2 hj
     obtain⟨v,hv,_⟩:=hget i j hi2 hj
     show W.cell? ⟨ab,ao+(i*c.cells+j),none⟩=_
     rw[hv];rfl
    ·intro i j cs d hi2 h12 h13
     have hj:j<c.cells:=by
      have:cs=c.view (ys[i]'hi2):=by
       simp only[SL.get,List.getElem?_eq_getElem (show i<ys.length from hi2),Option.map_some,Option.some.injEq] at h12
       exact h12.symm
      subst this
      have:=(List.getElem?_eq_some_iff.1 h13).1
      rw[EC.view_len] at this;exact this
     obtain⟨v,hv,hd⟩:=hget i j hi2 hj
     show DRel _ _ ((W.cell? ⟨ab,ao+(i*c.cells+j),none⟩).getD undef) d
     rw[hv]
     exact hd cs d h12 h13
theorem slice_rel{t e:TypeId}{c:EC}{n:Nat}(ht:P.underlying t=some (.slice e))(hc:P.cellsOf e=c.cells)(hpos:0<c.cells)(he:Good enc P W n e (fun vs=>∃y:c.sem,vs=c.view y))
 {cs:List Value} {x:DataW H×List MemPlace} (h:DataW.trod enc P W 0 (fun _=>true) true (n+1) t cs=some x):
 Keeps enc P W (n+1) t cs x∧∃vs,(∃ys:List c.sem,vs=[.slice .any (.t c ys)]∧ys.length≤maxLen)∧Rel W cs vs:=by
 obtain⟨h1,vs,⟨ys,h2,h3,_⟩,h4⟩:=slice_relP (p:=fun _=>True) ht hc hpos (fun cs x hx=>by
  obtain⟨q1,vs,⟨y,q2⟩,q3⟩:=he cs x hx
  exact⟨q1,vs,⟨y,q2,trivial⟩,q3⟩) h
 exact⟨h1,vs,⟨ys,h2,h3⟩,h4⟩
theorem good_slice{t e:TypeId}{c:EC}{n:Nat}(ht:P.underlying t=some (.slice e))(hc:P.cellsOf e=c.cells)(hpos:0<c.cells)(he:Good enc P W n e (fun vs=>∃y:c.sem,vs=c.view y)):
 Good enc P W (n+1) t (fun vs=>∃ys:List c.sem,vs=[.slice .any (.t c ys)]∧ys.length≤maxLen):=fun cs x h=>slice_rel ht hc hpos he h
theorem good_zero{t:TypeId}{F:List V→Prop}:Good enc P W 0 t F:=fun cs x h=>by simp[DataW.trod] at h
theorem good_ints{t e:TypeId}(ht:P.underlying t=some (.slice e))(he:P.underlying e=some (.int .i64))(hc:P.cellsOf e=1)(n:Nat):Good enc P W n t (fun vs=>∃ys:List Int,vs=[.slice .any (.t .int ys)]∧ys.length≤maxLen):=by
 cases n with
 |zero=>exact good_zero
 |succ n=>
  refine good_slice (c:= .int) ht hc (by decide) ?_
  intro cs x h
  obtain⟨h1,vs,⟨i,rfl,_⟩,h2⟩:=good_int he n cs x h
  exact⟨h1,_,⟨i,rfl⟩,h2⟩
theorem arg_of{t:TypeId}{v:Value}{d:DataW H}{ps:List MemPlace}{F:List V→Prop}(h:DataW.Trod enc P W 0 (fun _=>true) true t v d ps)(hg:∀n,Good enc P W n t F):
 (∀W' sp,Old W W'→(∀b,b<W.heap.size→sp b=true)→DataW.Trod enc P W' 0 sp true t v d ps)∧∃vs,F vs∧Rel W v.cells.toList vs:=by
 obtain⟨n,hn⟩:=h
 obtain⟨h1,h2⟩:=hg n _ _ hn
 exact⟨fun W' sp ho hs=>⟨n,h1 W' sp ho hs⟩,h2⟩
theorem slice_val{t e:TypeId}{r:Reach}{base:Nat}{v:Value}(ht:P.underlying t=some (.slice e))(h:Value.okWide P W r base t v):v.cells.toList=[v]:=by
 cases v<;>simp[Value.okWide,ht,Cell.okWide,Cell.ok] at h<;>rfl
theorem rel_one{v:Value}{c:V}(hv:v.cells.toList=[v])(h:Rel W v.cells.toList [c]):DRel (allM W) W v c:=by
 obtain⟨_,h2⟩:=h
 exact h2 0 v c (by rw[hv];rfl) rfl
theorem R_start{G:Glob}(hG:∀p∈G,∀(j:Nat) c,p.2[j]? =some c→∃v,W.cell? ⟨p.1,j,none⟩=some v∧DRel (allM W) W v c):R G (gh0 W) (·<0) [] W:=by
 refine⟨fun n e h=>(by cases h),fun n n' e e' b h=>(by cases h),fun n e h=>(by cases h),fun b hb=> ?_,fun b t h=>(Mrk.not_of rfl h).elim,fun p hp=>⟨?_,hG p hp⟩⟩
 ·show sh (allN W b)=sh 0
  unfold allN
  rw[Array.getElem?_eq_none hb]
 ·show p.2.length≤(allM W p.1).n
  cases hl:p.2 with
  |nil=>exact Nat.zero_le _
  |cons x l=>
   have hlt:p.2.length-1<p.2.length:=by rw[hl];simp
   obtain⟨v,hv,_⟩:=hG p hp (p.2.length-1) _ (List.getElem?_eq_getElem hlt)
   have:=allM_cell hv
   rw[←hl]
   omega
theorem old_of_ext{g':Gh}{W':World}{F':Nat→Prop}(h:Ext (·<0) (gh0 W) (Foot (gh0 W) []) W g' F' W'):Old W W':=fun b hb=>
 (h.frame b hb (fun hf=>by obtain⟨n,e,h1,_⟩:=hf;cases h1) rfl).1
theorem kept_of_old{W':World}(h:Old W W')(ho:W'.os=W.os)(hp:W'.output=W.output)(may:MemPlace→Prop):W.keptBut W' may:=by
 refine⟨ho,hp,fun i hi=> ?_⟩
 rw[h i hi]
 exact(World.keptBut_refl W may).2.2 i hi
theorem law_calls{E:Env}{f:FuncId}{args:List V}{vs:List Value}(h:PC E f args (.bool true))(hG:∀p∈E.G,∀(j:Nat) c,p.2[j]? =some c→∃v,W.cell? ⟨p.1,j,none⟩=some v∧DRel (allM W) W v c)
 (hl:vs.length=args.length) (hr:∀(i:Nat) v c,vs[i]? =some v→args[i]? =some c→VRel (gh0 W) (·<0) W v c):
 Calls E.P f vs.toArray W fun e W'=>e= .returned (.bool true)∧Old W W'∧W'.os=W.os∧W'.output=W.output:=by
 obtain⟨_,_,h3⟩:=h
 refine(h3 (gh0 W) W vs (R_start hG) hl hr).mono ?_
 rintro e W' ⟨v,g',rfl,_,hv,hx⟩
 have:=hv.bool_inv
 subst this
 exact⟨rfl,old_of_ext hx,hx.os,hx.output⟩
end
mutual
def Tm.wf:Tm→Prop
 | .mk _ i _ xs=>(-9223372036854775808≤i∧i≤9223372036854775807)∧Tm.wfs xs
def Tm.wfs:List Tm→Prop
 |[]=>True
 |t::l=>t.wf∧Tm.wfs l
end
mutual
def Fm.wf:Fm→Prop
 | .mk _ _ ts xs=>(∀t∈ts,t.wf)∧Fm.wfs xs
def Fm.wfs:List Fm→Prop
 |[]=>True
 |t::l=>t.wf∧Fm.wfs l
end
def structB(P:Program)(t:TypeId)(l:List (TypeId×Nat)):Bool:=match P.underlying t with
 |some (.struct fs)=>decide (fs.toList.map (fun f=>(f.type,f.offset))=l)
 |_=>false
theorem structB_iff{P:Program}{t:TypeId}{l:List (TypeId×Nat)}(h:structB P t l=true):∃fs:Array Field,P.underlying t=some (.struct fs)∧fs.toList.map (fun f=>(f.type,f.offset))=l:=by
 unfold structB at h
 split at h
 ·rename_i fs hfs;exact⟨fs,hfs,by simpa using h⟩
 ·cases h
def contB(P:Program):Nat→List (TypeId×Nat)→Nat→Bool
 |o,[],n=>o==n
 |o,p::l,n=>p.2==o&&contB P (o+P.cellsOf p.1) l n
inductive Cat:List (List V→Prop)→List V→Prop
 |nil:Cat [] []
 |cons {F:List V→Prop} {Fs:List (List V→Prop)} {a b:List V} (h:F a) (hb:Cat Fs b):Cat (F::Fs) (a++b)
section
variable {H:Type} {enc:TypeId×Value→H} {P:Program} {W:World}
theorem Rel.app{c1 c2:List Value}{v1 v2:List V}(h1:Rel W c1 v1)(h2:Rel W c2 v2):Rel W (c1++c2) (v1++v2):=by
 obtain⟨l1,r1⟩:=h1
 obtain⟨l2,r2⟩:=h2
 refine⟨by simp[l1,l2],fun i v c hv hc=> ?_⟩
 by_cases hi:i<c1.length
 ·rw [List.getElem?_append_left hi] at hv
  rw[List.getElem?_append_left (by omega)] at hc
  exact r1 i v c hv hc
 ·rw [List.getElem?_append_right (by omega)] at hv
  rw[List.getElem?_append_right (by omega)] at hc
  rw[←l1] at hc
  exact r2 _ v c hv hc
theorem mapM_of_get{α β:Type}{f:α→Option β}:∀(l:List α) (r:List β),l.length=r.length→(∀(i:Nat) (hi:i<l.length),f l[i]=r[i]?)→l.mapM f=some r
 |[],[],_,_=>rfl
 |[],_::_,h,_=>by simp at h
 |_::_,[],h,_=>by simp at h
 |x::l,y::r,hl,h=>by
  have h0:=h 0 (by simp)
  simp only[List.getElem_cons_zero,List.getElem?_cons_zero] at h0
  have h1:=mapM_of_get l r (by simpa using hl) fun i hi=>by have:=h (i+1) (by simpa using hi);simpa using this
  simp[h0,h1]
theorem cat_rel{n:Nat}(cs:List Value):∀(l:List (TypeId×Nat)) (Fs:List (List V→Prop)) (o:Nat),l.length=Fs.length→contB P o l cs.length=true→
 (∀(i:Nat) (p:TypeId×Nat) (F:List V→Prop),l[i]? =some p→Fs[i]? =some F→∃vs,F vs∧Rel W ((cs.drop p.2).take (P.cellsOf p.1)) vs)→∃vs,Cat Fs vs∧Rel W (cs.drop o) vs
 |[],[],o,_,hc,_=>by
  simp only[contB,beq_iff_eq] at hc
  subst hc
  exact⟨[],.nil,by simp,fun i v c hv _=>by simp at hv⟩
 |[],_::_,o,hl,_,_=>by simp at hl
 |_::_,[],o,hl,_,_=>by simp at hl
 |p::l,F::Fs,o,hl,hc,hf=>by
  simp only[contB,Bool.and_eq_true,beq_iff_eq] at hc
  obtain⟨a,ha,hra⟩:=hf 0 p F rfl rfl
  obtain⟨b,hb,hrb⟩:=cat_rel (n:=n) cs l Fs (o+P.cellsOf p.1) (by simpa using hl) hc.2 fun i q G hq hG=>hf (i+1) q G (by simpa using hq) (by simpa using hG)
  refine⟨a++b,.cons ha hb,?_⟩
  have e:cs.drop o=(cs.drop o).take (P.cellsOf p.1)++cs.drop (o+P.cellsOf p.1):=by rw[←List.drop_drop,List.take_append_drop]
  rw[e]
  rw[hc.1] at hra
  exact hra.app hrb
theorem good_struct{t:TypeId}{n:Nat}(l:List (TypeId×Nat))(Fs:List (List V→Prop))(ht:structB P t l=true)(hc:contB P 0 l (P.cellsOf t)=true)(hl:l.length=Fs.length)
 (hg:∀(i:Nat) (p:TypeId×Nat) (F:List V→Prop),l[i]? =some p→Fs[i]? =some F→Good enc P W n p.1 F):Good enc P W (n+1) t (Cat Fs):=by
 intro cs x h
 obtain⟨fs,hu,hfs⟩:=structB_iff ht
 obtain⟨xs,n',hn,hx,hlen,hxl,hel⟩:=DataW.trod_struct hu h
 obtain rfl:n=n':=by omega
 have hfl:fs.size=l.length:=by rw[←hfs];simp
 have key:∀(i:Nat) (f:Field),fs[i]? =some f→∃F y,Fs[i]? =some F∧l[i]? =some (f.type,f.offset)∧DataW.trod enc P W 0 (fun _=>true) true n f.type ((cs.drop f.offset).take (P.cellsOf f.type))=some y∧xs[i]? =some y:=by
  intro i f hf
  have hi:i<fs.size:=(Array.getElem?_eq_some_iff.1 hf).1
  have h1:=hel i f hf
  rw[List.getElem?_eq_getElem (by omega)] at h1
  refine⟨Fs[i]'(by omega),xs[i]'(by omega),List.getElem?_eq_getElem (by omega),?_,h1,List.getElem?_eq_getElem (by omega)⟩
  rw[←hfs,List.getElem?_map,Array.getElem?_toList,hf];rfl
 refine⟨fun W' sp hold hsp=> ?_,?_⟩
 ·rw [hx]
  refine Go.ChangeShapes.trod_struct_mk hu hlen (mapM_of_get _ _ (by simpa using hxl.symm) fun i hi=> ?_)
  have hi':i<fs.size:=by simpa using hi
  obtain⟨F,y',hF,hp,hy',hxi⟩:=key i fs[i] (Array.getElem?_eq_getElem hi')
  have e:fs.toList[i]=fs[i]:=by simp
  rw[hxi,e]
  exact(hg i _ F hp hF _ _ hy').1 W' sp hold hsp
 ·obtain ⟨vs,h1,h2⟩:=cat_rel (P:=P) (W:=W) (n:=n) cs l Fs 0 hl (by rw[hlen];exact hc) fun i p F hp hF=>by
   have hi:i<l.length:=(List.getElem?_eq_some_iff.1 hp).1
   obtain⟨F',y,hF',hp',hy,_⟩:=key i (fs[i]'(by omega)) (Array.getElem?_eq_getElem (by omega))
   rw[hF] at hF';cases hF'
   rw[hp] at hp';cases hp'
   exact(hg i _ F hp hF _ _ hy).2
  exact⟨vs,h1,by simpa using h2⟩
theorem get_two{α:Type}{a b x:α}{i:Nat}(h:[a,b][i]? =some x):(i=0∧x=a)∨(i=1∧x=b):=by
 match i with
 |0=>exact .inl ⟨rfl,by simpa using h.symm⟩
 |1=>exact .inr ⟨rfl,by simpa using h.symm⟩
 |i+2=>simp at h
theorem get_four{α:Type}{a b c d x:α}{i:Nat}(h:[a,b,c,d][i]? =some x):(i=0∧x=a)∨(i=1∧x=b)∨(i=2∧x=c)∨(i=3∧x=d):=by
 match i with
 |0=>exact .inl ⟨rfl,by simpa using h.symm⟩
 |1=>exact .inr (.inl ⟨rfl,by simpa using h.symm⟩)
 |2=>exact .inr (.inr (.inl ⟨rfl,by simpa using h.symm⟩))
 |3=>exact .inr (.inr (.inr ⟨rfl,by simpa using h.symm⟩))
 |i+4=>simp at h
abbrev FI(vs:List V):Prop:=∃i,vs=[V.i i]∧(Lit.int .i64 i).wf=true
abbrev FS(c:EC)(vs:List V):Prop:=∃ys:List c.sem,vs=[V.s c ys]∧ys.length≤maxLen
structure DataT (P:Program) where
 ti:TypeId
 ty:TypeId
 tys:TypeId
 tm:TypeId
 tms:TypeId
 h0:P.underlying ti=some (.int .i64)
 h1:structB P ty [(ti,0),(tys,1)]=true
 h2:contB P 0 [(ti,0),(tys,1)] (P.cellsOf ty)=true
 h3:P.underlying tys=some (.slice ty)
 h4:P.cellsOf ty=2
 h5:structB P tm [(ti,0),(ti,1),(ty,2),(tms,4)]=true
 h6:contB P 0 [(ti,0),(ti,1),(ty,2),(tms,4)] (P.cellsOf tm)=true
 h7:P.underlying tms=some (.slice tm)
 h8:P.cellsOf tm=5
theorem good_weak{t:TypeId}{n:Nat}{F G:List V→Prop}(h:Good enc P W n t F)(hFG:∀vs,F vs→G vs):Good enc P W n t G:=fun cs x hx=>by
 obtain⟨h1,vs,h2,h3⟩:=h cs x hx
 exact⟨h1,vs,hFG vs h2,h3⟩
theorem good_sl{t e:TypeId}{c:EC}(ht:P.underlying t=some (.slice e))(hc:P.cellsOf e=c.cells)(hpos:0<c.cells):∀n,(∀m,m<n→Good enc P W m e (fun vs=>∃y:c.sem,vs=c.view y))→Good enc P W n t (FS c)
 |0,_=>good_zero
 |n+1,h=>good_slice ht hc hpos (h n (by omega))
theorem good_ty(T:DataT P):∀n,Good enc P W n T.ty (fun vs=>∃y:Ty,vs=y.view):=by
 intro n
 induction n using Nat.strongRecOn with
 |ind n ih=>
  cases n with
  |zero=>exact good_zero
  |succ n=>
   refine good_weak (good_struct [(T.ti,0),(T.tys,1)] [FI,FS .ty] T.h1 T.h2 rfl fun i p F hp hF=> ?_) ?_
   ·rcases get_two hp with⟨rfl,rfl⟩|⟨rfl,rfl⟩
    ·cases hF;exact good_int T.h0 n
    ·cases hF;exact good_sl (c:= .ty) T.h3 T.h4 (by decide) n fun m hm=>ih m (by omega)
   ·intro vs h
    cases h with
    |cons h1 h=>cases h with
     |cons h2 h=>cases h with
      |nil=>
       obtain⟨i,rfl,_⟩:=h1
       obtain⟨l,rfl,_⟩:=h2
       exact⟨.mk i l,rfl⟩
theorem good_tm(T:DataT P):∀n,Good enc P W n T.tm (fun vs=>∃y:Tm,vs=y.view):=by
 intro n
 induction n using Nat.strongRecOn with
 |ind n ih=>
  cases n with
  |zero=>exact good_zero
  |succ n=>
   refine good_weak (good_struct [(T.ti,0),(T.ti,1),(T.ty,2),(T.tms,4)] [FI,FI,fun vs=>∃y:Ty,vs=y.view,FS .tm] T.h5 T.h6 rfl fun i p F hp hF=> ?_) ?_
   ·rcases get_four hp with⟨rfl,rfl⟩|⟨rfl,rfl⟩|⟨rfl,rfl⟩|⟨rfl,rfl⟩
    ·cases hF;exact good_int T.h0 n
    ·cases hF;exact good_int T.h0 n
    ·cases hF;exact good_ty T n
    ·cases hF;exact good_sl (c:= .tm) T.h7 T.h8 (by decide) n fun m hm=>ih m (by omega)
   ·intro vs h
    cases h with
    |cons h1 h=>cases h with
     |cons h2 h=>cases h with
      |cons h3 h=>cases h with
       |cons h4 h=>cases h with
        |nil=>
         obtain⟨k,rfl,_⟩:=h1
         obtain⟨i,rfl,_⟩:=h2
         obtain⟨y,rfl⟩:=h3
         obtain⟨l,rfl,_⟩:=h4
         exact⟨.mk k i y l,rfl⟩
theorem good_tms(T:DataT P)(n:Nat):Good enc P W n T.tms (FS .tm):=good_sl (c:= .tm) T.h7 T.h8 (by decide) n fun m _=>good_tm T m
structure FormT (P:Program) extends DataT P where
 fm:TypeId
 fms:TypeId
 k1:structB P fm [(ti,0),(ty,1),(tms,3),(fms,4)]=true
 k2:contB P 0 [(ti,0),(ty,1),(tms,3),(fms,4)] (P.cellsOf fm)=true
 k3:P.underlying fms=some (.slice fm)
 k4:P.cellsOf fm=5
theorem good_fm(T:FormT P):∀n,Good enc P W n T.fm (fun vs=>∃y:Fm,vs=y.view):=by
 intro n
 induction n using Nat.strongRecOn with
 |ind n ih=>
  cases n with
  |zero=>exact good_zero
  |succ n=>
   refine good_weak (good_struct [(T.ti,0),(T.ty,1),(T.tms,3),(T.fms,4)] [FI,fun vs=>∃y:Ty,vs=y.view,FS .tm,FS .fm] T.k1 T.k2 rfl fun i p F hp hF=> ?_) ?_
   ·rcases get_four hp with⟨rfl,rfl⟩|⟨rfl,rfl⟩|⟨rfl,rfl⟩|⟨rfl,rfl⟩
    ·cases hF;exact good_int T.h0 n
    ·cases hF;exact good_ty T.toDataT n
    ·cases hF;exact good_tms T.toDataT n
    ·cases hF;exact good_sl (c:= .fm) T.k3 T.k4 (by decide) n fun m hm=>ih m (by omega)
   ·intro vs h
    cases h with
    |cons h1 h=>cases h with
     |cons h3 h=>cases h with
      |cons h2 h=>cases h with
       |cons h4 h=>cases h with
        |nil=>
         obtain⟨k,rfl,_⟩:=h1
         obtain⟨i,rfl,_⟩:=h2
         obtain⟨y,rfl⟩:=h3
         obtain⟨l,rfl,_⟩:=h4
         exact⟨.mk k y i l,rfl⟩
theorem rel_agg{t:TypeId}{r:Reach}{base:Nat}{v:Value}{vs:List V}{l:List (TypeId×Nat)}(ht:structB P t l=true)(h:Value.okWide P W r base t v)(hr:Rel W v.cells.toList vs):VRel (gh0 W) (·<0) W v (.agg vs):=by
 obtain⟨fs,hu,_⟩:=structB_iff ht
 unfold Value.okWide at h
 rw[hu] at h
 obtain⟨cs,rfl,_,_⟩:=h
 have hr':Rel W cs.toList vs:=hr
 obtain⟨h1,h2⟩:=hr'
 have e:cs=cs.toList.toArray:=by simp
 rw[e]
 refine .agg cs.toList vs h1 (fun v hv=> ?_) fun i v c hv hc=> .data (h2 i v c hv hc)
 obtain⟨i,hi,rfl⟩:=List.mem_iff_getElem.1 hv
 exact(h2 i _ _ (List.getElem?_eq_getElem hi) (List.getElem?_eq_getElem (by omega))).one
def KeepsArg(enc:TypeId×Value→H)(P:Program)(W:World)(t:TypeId)(v:Value)(d:DataW H)(ps:List MemPlace):Prop:=
 ∀W' sp,Old W W'→(∀b,b<W.heap.size→sp b=true)→DataW.Trod enc P W' 0 sp true t v d ps
abbrev Is(W:World)(v:Value)(c:V):Prop:=VRel (gh0 W) (·<0) W v c
theorem arg_ints{t e:TypeId}{v:Value}{d:DataW H}{ps:List MemPlace}{r:Reach}{base:Nat}(ht:P.underlying t=some (.slice e))(he:P.underlying e=some (.int .i64))(hc:P.cellsOf e=1)
 (h:DataW.Trod enc P W 0 (fun _=>true) true t v d ps) (hv:Value.okWide P W r base t v):KeepsArg enc P W t v d ps∧∃l:List Int,Is W v (.s .int l)∧l.length≤maxLen:=by
 obtain⟨keep,vs,⟨l,rfl,hl⟩,hr⟩:=arg_of h (good_ints ht he hc)
 exact⟨keep,l,.data (rel_one (slice_val ht hv) hr),hl⟩
theorem arg_fm(T:FormT P){v:Value}{d:DataW H}{ps:List MemPlace}{r:Reach}{base:Nat}
 (h:DataW.Trod enc P W 0 (fun _=>true) true T.fm v d ps) (hv:Value.okWide P W r base T.fm v):KeepsArg enc P W T.fm v d ps∧∃y:Fm,Is W v (.agg y.view):=by
 obtain⟨keep,vs,⟨y,rfl⟩,hr⟩:=arg_of h (good_fm T)
 exact⟨keep,y,rel_agg T.k1 hv hr⟩
abbrev FSw(c:EC)(p:c.sem→Prop)(vs:List V):Prop:=∃ys:List c.sem,vs=[V.s c ys]∧ys.length≤maxLen∧∀y∈ys,p y
end
end Go.Ab
