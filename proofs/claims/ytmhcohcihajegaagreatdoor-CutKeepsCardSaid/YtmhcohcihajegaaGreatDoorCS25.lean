/- A part of this seat's proofs. No conditions. -/
import Derived.Handed
import Derived.JoinedOf
import Derived.LaidMore
import Derived.Lay
import Derived.OpenShut
import Derived.ProofKit
import Derived.SevenTiedAt
import Derived.Shelf.SlIterI.Keys
import Derived.Shelf.SortM.Plain
import Derived.Shelf.SortM.SortNone
import Derived.Stop.Joined
import Derived.Test.YtmhcohcihajegaaGreatDoorCards
import Derived.Test.YtmhcohcihajegaaGreatDoorTie
import Derived.Test.YtmhcohcihajegaaGreatDoorCS21
namespace Go.Ab
open Go Go.Proofs
set_option maxRecDepth 100000
set_option maxHeartbeats 4000000
set_option linter.all false
theorem Il(p:Pf)(h:p.kind=16\/p.kind=17->p.terms≠[]):PC E 204 [.agg p.view] (.agg [.i (yl p).1,.i (yl p).2]):=by
 by_cases hk:p.kind=16\/p.kind=17
 .rw[Ux hk];obtain⟨k,i,s,ts,fs,zs⟩:=p;simp only[Pf.Ai,Pf.Am,Pf.Af] at h hk ⊢;cases ts with
  |nil=>exact absurd rfl (h hk)
  |cons t ts=>
   obtain⟨a,b,c,d⟩:=t;refine M.F Tryz.func204 ?_;(repeat' first|refine M.w0 ?_|refine M.gs ?_ ?_<;>intro h|refine M.zb ?_|refine M.cs ?_ ?_<;>intro h|fail);all_goals first
    |rfl
    |(exfalso;simp at*;omega)
    |trace_state
 .by_cases h0:0<p.args.length
  .rw[SM hk h0];obtain⟨k,i,s,ts,fs,zs⟩:=p;simp only[Pf.Ai,Pf.Am,Pf.Af] at h hk h0 ⊢;cases zs with
   |nil=>exact absurd h0 ko
   |cons z zs=>
    obtain⟨a1,a2,a3,a4,a5,a6⟩:=z;refine M.F Tryz.func204 ?_;(repeat' first|refine M.w0 ?_|refine M.gs ?_ ?_<;>intro h|refine M.zb ?_|refine M.cs ?_ ?_<;>intro h|fail);all_goals first
     |rfl
     |(exfalso;have:=of_decide_eq_false h;simp only[Pf.Af,fQ] at this;omega)
     |(exfalso;simp at*;omega)
     |trace_state
  .rw[Sf hk h0];obtain⟨k,i,s,ts,fs,zs⟩:=p;simp only[Pf.Ai,Pf.Am,Pf.Af] at h hk h0 ⊢;refine M.F Tryz.func204 ?_;(repeat' first|refine M.w0 ?_|refine M.gs ?_ ?_<;>intro h|refine M.zb ?_|refine M.cs ?_ ?_<;>intro h|fail);all_goals first
    |rfl
    |(exfalso;have:=of_decide_eq_true h;simp only[Pf.Af] at this;omega)
    |(exfalso;simp at*;omega)
    |trace_state
theorem Yg2:PC E 205 [] (.slice .any (.u 2 (GR.map fun q=>[V.i q.1,V.i q.2]))):=by
 refine M.F Tryz.func205 ?_;refine M.w0 ?_
 rfl
theorem Yic(p:Pf)(h:p.kind=16\/p.kind=17->p.terms≠[]):PC E 166 [.agg p.view] (.bool (Gn p)):=by
 have h1:=Il p h;have h2:=Yg2;unfold Gn;obtain⟨a,ha⟩:∃a,a=(yl p).1:=⟨_,rfl⟩;obtain⟨b,hb⟩:∃b,b=(yl p).2:=⟨_,rfl⟩;rw[show yl p=(a,b) by rw[ha,hb]];rw[<-ha,<-hb] at h1;clear ha hb;obtain⟨L0,hL⟩:∃l,l=GR:=⟨_,rfl⟩;rw[<-hL] at h2 ⊢;have hl:L0.length=11:=by rw[hL];rfl
 have hlm:(SL.u 2 (L0.map fun q=>[V.i q.1,V.i q.2])).len=L0.length:=nF
 clear hL;refine M.F Tryz.func166 ?_;refine M.w2 @h1 @h2 ?_;rw[hlm];refine M.rp L0.length (fun m=>(a,b)∉L0.take m) (fun m=>([(3,.ptr 1 0),(8,.slice .any (.u 2 (L0.map fun q=>[V.i q.1,V.i q.2]))),(9,.i L0.length),(10,.i m)],⟨2,[(0,.var p.view),(1,.var [.i a,.i b])]⟩))
  ko (M.W Bo) ?_ ?_
 .intro m hm hP;refine M.w0 ?_;refine L.ix m (cs:=[.i L0[m].1,.i L0[m].2]) rfl rfl rfl rfl rfl (by rw[hlm];exact hm) (by simp[SL.get,hm]) rfl rfl ?_;by_cases e:L0[m].1=a/\L0[m].2=b
  .have em:(a,b)∈L0:=by
    have:L0[m]=(a,b):=jT e.1 e.2;exact this▸fA hm
   rw[decide_eq_true em];(repeat' first|refine M.w0 ?_|refine M.bp 3 ?_|refine M.cs ?_ ?_<;>intro h|fail);all_goals first
    |rfl
    |(exfalso;simp[e.1,e.2] at h;done)
    |trace_state
  .repeat' (first|refine M.w0 ?_|refine M.bp 3 ?_|refine M.cs ?_ ?_<;>intro h|fail)
   all_goals first
    |(exfalso;simp at h;exact e h)
    |skip
   refine⟨rfl,fun hc=> ?_,(M.W Bo)⟩;rw[gQ hm,fV] at hc;rcases hc with hc|hc
   .exact hP hc
   .simp only[gp] at hc;exact e ⟨by rw[<-hc],by rw[<-hc]⟩
 .intro hP;rw[fH] at hP;rw[decide_eq_false hP];refine M.w0 ?_
  rfl
theorem Gf.up{g:List Ty}{f:Fm}{n m:Nat}(h:Gf g f n)(hm:n<=m):Gf g f m:=⟨h.sh,gD h.sz hm,h.ok⟩
theorem ZA(l:List Tm)(h:(l.map Tm.full).sum<1099511627776):PC E 48 [.s .tm l,.s .tm l] (.bool true):=by
 have hlen:=ze Tm.full Tm.Ad l;refine M.F Tryz.func48 ?_;(repeat' first|refine M.w0 ?_|refine M.cs ?_ ?_<;>intro h|fail)
 .exfalso;simp at h
 refine M.rt l.length (fun m=>([(0,.s .tm l),(1,.s .tm l),(11,.s .tm l),(12,.i l.length),(13,.i m)],⟨0,[]⟩))
  (M.W []) ?_ ?_
 .intro m hm _;have hs2:=zc Tm.full (fA hm);have hc:=Yf3 l[m] kn;refine M.w1 @hc ?_;exact⟨rfl,trivial,(M.W [])⟩
 .exact rI
theorem Yfr:∀(n:Nat) (f:Fm),f.full<=n->n<1099511627776->PC E 110 [.agg f.view,.agg f.view] (.bool true):=by
 intro n;induction n with
 |zero=>intro f h;have:=f.Ad;omega
 |succ n ih=>
 intro f hsz hn;have hsz':=f.Ag;have hlen:=ze Fm.full Fm.Ad f.args;have h1:=cQ f.ty kn;have h2:=ZA f.terms kn;refine M.F Tryz.func110 ?_;(repeat' first|refine M.w2 @h1 @h2 ?_|refine M.gs ?_ ?_<;>intro h|refine M.cs ?_ ?_<;>intro h|fail);all_goals first
  |(exfalso;simp at h;done)
  |skip
 refine M.rt f.args.length (fun m=>([(2,.ptr 0 0),(3,.ptr 1 0),(37,.s .fm f.args),(38,.i f.args.length),(39,.i m)],⟨2,[(0,.var f.view),(1,.var f.view)]⟩))
  (M.W Bo) ?_ ?_
 .intro m hm _;have hs2:=zc Fm.full (fA hm);have hc:=ih f.args[m] kn kn;refine M.w1 @hc ?_;exact⟨rfl,trivial,(M.W Bo)⟩
 .exact rI
theorem Ztg(l:List Fm)(h:(l.map Fm.full).sum<1099511627776):PC E 49 [.s .fm l,.s .fm l] (.bool true):=by
 have hlen:=ze Fm.full Fm.Ad l;refine M.F Tryz.func49 ?_;(repeat' first|refine M.w0 ?_|refine M.cs ?_ ?_<;>intro h|fail)
 .exfalso;simp at h
 refine M.rt l.length (fun m=>([(0,.s .fm l),(1,.s .fm l),(11,.s .fm l),(12,.i l.length),(13,.i m)],⟨0,[]⟩))
  (M.W []) ?_ ?_
 .intro m hm _;have hs2:=zc Fm.full (fA hm);have hc:=Yfr _ l[m] (fB _) kn;refine M.w1 @hc ?_;exact⟨rfl,trivial,(M.W [])⟩
 .exact rI
end Go.Ab
namespace Go.Proofs.YtmhcohcihajegaaGreatDoor
open Go Go.Ab Go.ChangeShapes Go.WideShapes Go.ChangeAt Go.RowKit
set_option maxRecDepth 100000
set_option linter.all false
theorem own:ownKnob Tryz.prog.godebug=none:=kA
abbrev K2:List (String×DataW Unit):=[("proofprograms/tree.rules",Rows.laid_proofprograms_tree_rules),("proofprograms/tree.arities",Rows.laid_proofprograms_tree_arities)]
theorem Xo{W:World}(h:laidMetH Tryz.prog K2 W):
 (∃cs fuel p,W.var? Tryz.prog "proofprograms/tree.rules" =some cs/\DataW.trod (fun _=>()) Tryz.prog W 0 (fun _=>true) false fuel 208 cs.toList=some (Rows.laid_proofprograms_tree_rules,p))/\
 (∃cs fuel p,W.var? Tryz.prog "proofprograms/tree.arities" =some cs/\DataW.trod (fun _=>()) Tryz.prog W 0 (fun _=>true) false fuel 258 cs.toList=some (Rows.laid_proofprograms_tree_arities,p)):=by
 rw[MakeChecks.laidMetH_plain _ _ _ kA] at h;obtain⟨ps,⟨g,t,cs,fuel,p,q,hg,ht,hv,hd,⟨g2,t2,cs2,fuel2,p2,q2,hg2,ht2,hv2,hd2,_,_⟩,_⟩,_,_⟩:=h;obtain rfl:=gV ((show Tryz.prog.globalNamed "proofprograms/tree.rules" =some 0 by kernel_rfl).symm.trans hg);obtain rfl:=gV ((show(Tryz.prog.globals[0]?).map (·.type)=some 208 by kernel_rfl).symm.trans ht);obtain rfl:=gV ((show Tryz.prog.globalNamed "proofprograms/tree.arities" =some 1 by kernel_rfl).symm.trans hg2);obtain rfl:=gV ((show(Tryz.prog.globals[1]?).map (·.type)=some 258 by kernel_rfl).symm.trans ht2);exact⟨⟨cs,fuel,p,hv,hd⟩,⟨cs2,fuel2,p2,hv2,hd2⟩⟩
noncomputable def Sl{H:Type}:DataW H->V
 | .lit (.bool b)=> .bool b
 | .lit (.int k n)=> .int k n
 |_=> .i 0
theorem VH{H:Type}{enc:TypeId×Value->H}{P:Program}{W:World}{base:Nat}{sp:Nat->Bool}{held:Bool}{m:Nat}{t:TypeId}{cs:List Value}{x:DataW H×List MemPlace}(mm:Nat->Nat)
 (ht:P.underlying t=some .bool\/P.underlying t=some (.int .i64)) (h:DataW.trod enc P W base sp held m t cs=some x):∃v,cs=[v]/\A2 mm W v (Sl x.1):=by
 rcases ht with ht|ht
 .obtain ⟨b,rfl,rfl⟩:=DataW.trod_bool ht h;exact⟨_,rfl,.bool _⟩
 .obtain ⟨n,rfl,rfl,_⟩:=DataW.trod_int ht h;exact⟨_,rfl,.int _ _⟩
theorem Zsv{H:Type}{enc:TypeId×Value->H}{P:Program}{W:World}{base:Nat}{sp:Nat->Bool}{held:Bool}{m:Nat}{t:TypeId}{cs:List Value}{x:DataW H×List MemPlace}(mm:Nat->Nat){fs:Array Field}
 (ht:P.underlying t=some (.struct fs)) (h:DataW.trod enc P W base sp held m t cs=some x) {ds:List (DataW H)} (hx:x.1= .agg ds) {j:Nat} {f:Field} (hf:fs[j]? =some f) (ho:f.offset=j) (hc:P.cellsOf f.type=1)
 (hk:P.underlying f.type=some .bool\/P.underlying f.type=some (.int .i64)):∃v,cs[j]? =some v/\A2 mm W v (Sl (ds[j]?.getD .nil)):=by
 obtain⟨ys,n,_,rfl,hl,hlen,hfs⟩:=DataW.trod_struct ht h;have hj:j<ys.length:=by rw[hlen];exact(g8.1 hf).1
 have he:=hfs j f hf;rw[hc,ho,fG hj] at he;obtain⟨v,e1,e2⟩:=VH mm hk he;have ed:ds=ys.map (·.1):=(DataW.agg.inj hx).symm;refine⟨v,?_,?_⟩
 .have h0:((cs.drop j).take 1)[0]? =some v:=by rw[e1];rfl
  simpa using h0
 .rw[ed,gJ,fG hj];exact e2
noncomputable def Md:List (List (DataW Unit)):=match (Rows.laid_proofprograms_tree_rules:DataW Unit) with
 | .agg ps=>ps.map fun d=>match d with| .agg qs=>qs|_=>[]
 |_=>[]
theorem Ms:(Rows.laid_proofprograms_tree_rules:DataW Unit)= .agg (Md.map .agg):=rfl
noncomputable def P4(r:Nat):V:=Sl (((Md[r/8]?).getD [])[r%8]?.getD .nil)
theorem Yqt:Go.Ab.RN=(List.range 168).map P4:=rfl
noncomputable def Te:Array Field:=match Tryz.prog.underlying 177 with|some (.struct fs)=>fs|_=> #[]
noncomputable def aX(j:Nat):Bool:=match Te[j]? with
 |some f=>f.offset==j&&Tryz.prog.cellsOf f.type==1&&(match Tryz.prog.underlying f.type with|some .bool=>true|some (.int .i64)=>true|_=>false)
 |none=>false
theorem Yi3{j:Nat}(hj:j<8):∃f,Te[j]? =some f/\f.offset=j/\Tryz.prog.cellsOf f.type=1/\(Tryz.prog.underlying f.type=some .bool\/Tryz.prog.underlying f.type=some (.int .i64)):=by
 have h:((List.range 8).all aX)=true:=kA
 have h1:=fF.1 h j (iT.2 hj);unfold aX at h1;split at h1
 .rename_i f hf;simp only[fD,beq_iff_eq] at h1;refine⟨f,hf,h1.1.1,h1.1.2,?_⟩;have h2:=h1.2;split at h2
  .exact .inl ‹_›
  .exact .inr ‹_›
  .cases h2
 .cases h1
theorem Yl1{W:World}(h:laidMetH Tryz.prog K2 W)(r:Nat)(hr:r<168):∃v,W.cell? ⟨0,r,none⟩=some v/\A2 (GK W) W v (P4 r):=by
 obtain⟨⟨cs,fuel,p,hv,hd⟩,_⟩:=Xo h;obtain⟨xs,m,_,ex,_,hl,hel⟩:=DataW.trod_array (show Tryz.prog.underlying 208=some (.array 21 177) by kernel_rfl) hd;have c8:Tryz.prog.cellsOf 177=8:=kA
 have hi:r/8<xs.length:=kn
 have hE:=hel (r/8) kn;rw[c8,fG hi] at hE;have hn:Md.length=21:=rfl;have hi':r/8<Md.length:=kn
 have e3:xs.map (·.1)=Md.map .agg:=(DataW.agg.inj (Ms.symm.trans (jj ex).1)).symm;have e4:(xs.map (·.1))[r/8]? =(Md.map DataW.agg)[r/8]? :=by rw[e3]
 rw[gJ,gJ,fG hi,fG hi'] at e4;have e5:=gV e4;obtain⟨f,hf,ho,hc,hk⟩:=Yi3 (j:=r%8) kn;obtain⟨v,e6,e7⟩:=Zsv (GK W) (show Tryz.prog.underlying 177=some (.struct Te) by kernel_rfl) hE e5 hf ho hc hk;refine⟨v,?_,?_⟩
 .rw[World.var?_cell (show Tryz.prog.globalNamed "proofprograms/tree.rules" =some 0 by kernel_rfl) hv r];rw[iO,if_pos kn,List.getElem?_drop] at e6;have:r/8*8+r%8=r:=kn
  rw[this] at e6;simpa using e6
 .have:P4 r=Sl (Md[r/8][r%8]?.getD .nil):=by
   unfold P4;rw[fG hi'];rfl
  rw[this];exact e7
def CL:List Int:=[0,0,1,2,0,1,3,0,2,3,2,1,1,0]
theorem Ynx{W:World}(h:laidMetH Tryz.prog K2 W)(r:Nat)(hr:r<14):W.cell? ⟨1,r,none⟩=some (.int .i64 (CL.getD r 0)):=by
 obtain⟨_,⟨cs,fuel,p,hv,hd⟩⟩:=Xo h;have hg:Tryz.prog.globalNamed "proofprograms/tree.arities" =some 1:=kA
 obtain⟨xs,m,_,ex,_,hl,hel⟩:=DataW.trod_array (show Tryz.prog.underlying 258=some (.array 14 3) by kernel_rfl) hd;have c5:Tryz.prog.cellsOf 3=1:=kA
 have hE:=hel r hr;rw[c5,Nat.mul_one,fG kn] at hE;obtain⟨z,e1,e2,_⟩:=DataW.trod_int (show Tryz.prog.underlying 3=some (.int .i64) by kernel_rfl) hE;have hlen:CL.length=14:=rfl;have e3:(xs.map (·.1))=CL.map fun n=> .lit (.int .i64 n):=(DataW.agg.inj (jj ex).1).symm;have e4:(xs.map (·.1))[r]? =(CL.map fun n=>(DataW.lit (.int .i64 n):DataW Unit))[r]? :=by rw[e3]
 rw[gJ,gJ,fG (by omega:r<xs.length),fG (by omega:r<CL.length),e2] at e4;have hz:z=CL.getD r 0:=by
  simp only[gM,fI,DataW.lit.injEq,Lit.int.injEq,true_and] at e4;rw[e4,List.getD,fG (by omega:r<CL.length)];rfl
 rw[World.var?_cell hg hv r,<-hz];have:cs.toList[r]? =some (.int .i64 z):=by
  have h0:((cs.toList.drop r).take 1)[0]? =some (.int .i64 z):=by rw[e1];rfl
  simpa using h0
 simpa using this
theorem Yka{W:World}(h:laidMetH Tryz.prog K2 W):∀p∈Go.Ab.E.G,∀(j:Nat) c,p.2[j]? =some c->∃v,W.cell? ⟨p.1,j,none⟩=some v/\A2 (GK W) W v c:=by
 intro p hp j c hc;have hp':p=(1,P5)\/p=(0,RN):=by simpa[Go.Ab.E] using hp
 rcases hp' with rfl|rfl;case inr=>
  rw[show((0,RN):Nat×List V).2=(List.range 168).map P4 from Yqt,gJ] at hc;by_cases hj:j<168
  .rw[List.getElem?_range hj] at hc;cases hc;exact Yl1 h j hj
  .rw[iC kY] at hc;cases hc
 have hj:j<14:=by
  have:=(fZ.1 hc).1;simpa[P5] using this
 refine⟨_,Ynx h j hj,?_⟩;have e:P5[j]? =some (.int .i64 (CL.getD j 0)):=by
  have:P5=CL.map V.i:=rfl;rw[this,gJ,gy,fG (by simpa[CL] using hj)]
  rfl
 rw[e] at hc;cases hc;exact .int _ _
end Go.Proofs.YtmhcohcihajegaaGreatDoor
