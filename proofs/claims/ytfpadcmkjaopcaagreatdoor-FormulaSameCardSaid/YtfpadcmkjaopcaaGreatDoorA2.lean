/- A part of the proofs of this seat's statements: B16, B17, B18, B19, B20, B21, B22, B23, B24, B25, B26, B27, B28, B29, B32, B34, B36, B37, B38, B35, B41, B44, B42, B45, B46, B47, B48, B50, B51, B52, B53, B54. It has no conditions of its own. -/
import Derived.Test.YtfpadcmkjaopcaaGreatDoorA1
import Derived.Laws.Entries
import Derived.MapKept
import Derived.ScopeJumps
import Derived.Laws.StructEq
import Derived.ChangeKeysEq
namespace Go.Ab
open Go
set_option linter.unusedSimpArgs false
set_option linter.unusedVariables false
theorem restr_congr{a a':AF}(h:∀t,a'.get t=a.get t)(l:List Nat):restr a' l=restr a l:=by
 induction l with
 |nil=>rfl
 |cons t l ih=>simp only[restr,h t,ih]
theorem put_congr{a a':AF}(h:∀t,a'.get t=a.get t)(d:Option Nat)(v:V):∀t,AF.get (a'.put d v) t=AF.get (a.put d v) t:=by
 intro t
 cases d with
 |none=>exact h t
 |some d=>simp only[AF.put,AF.get_cons,h t]
section
variable {E:Env} {N k:Nat} {ops:List Oper}
theorem Plan.congr{X:Oper→Prop}{rest:List Oper}{a:AF}{σ:Sto}{rs:List Rec}{a':AF}{σ':Sto}(h:Plan E N X ops rest a σ rs a' σ'):∀{b:AF},(∀t,b.get t=a.get t)→∃b',(∀t,b'.get t=a'.get t)∧Plan E N X ops rest b σ rs b' σ':=by
 induction h with
 |nil a σ=>intro b hb;exact⟨b,hb,.nil b σ⟩
 |run r hw h hp hd _ ih=>
  intro b hb
  obtain⟨b',h1,h2⟩:=ih (put_congr hb _ _)
  exact⟨b',h1,.run r ((wantG_congr fun t _=>hb t).trans hw) (h.imp id fun h=>by rw[restr_congr hb];exact h) hp hd h2⟩
 |sk hw hd _ ih=>
  intro b hb
  obtain⟨b',h1,h2⟩:=ih (put_congr hb _ _)
  exact⟨b',h1,.sk ((wantG_congr fun t _=>hb t).trans hw) hd h2⟩
def AX0(E:Env)(N k:Nat)(dr:Bool)(ops rest:List Oper)(a:AF)(σ:Sto)(acc:List Rec)(Q:Exit→AF→Sto→Prop):Prop:=
 match dr with
 |false=>AWL E N k ops rest a σ Q
 |true=>∃rs a' σ' a2,Plan E N (fun _=>False) ops rest a σ rs a' σ'∧ordOk ops (acc.reverse++rs)=true∧(∀t,a2.get t=a'.get t)∧Q .normal a2 σ'
def frm(dr:Bool)(ops:List Oper)(a:AF)(o:Oper):AF:=match dr with|true=>restr a (looks ops o)|false=>a
variable {dr:Bool} {rest:List Oper} {a:AF} {σ:Sto} {acc:List Rec} {Q:Exit→AF→Sto→Prop}
theorem AX0.run{o:Oper}{pre:Es}{v:V}(news:Nat){post:Es}(hw:wantG ops a o.guard=some true)(h:OSY E N o (frm dr ops a o) pre v (List.range' σ.nx news) post)(hp:preOk σ.es pre)(hd:dstOk N o.dst=true)
 (h2:AX0 E N k dr ops rest (a.put o.dst v) (σ.upd news post) (⟨pre,v,news,post⟩::acc) Q):AX0 E N k dr ops (o::rest) a σ acc Q:=by
 cases dr with
 |false=>exact AWL.run (news:=news) hw h hp hd h2
 |true=>
  obtain⟨rs,a',σ',a2,h3,h4,h5,h6⟩:=h2
  refine⟨_,a',σ',a2,.run ⟨pre,v,news,post⟩ hw (.inr h) hp hd h3,?_,h5,h6⟩
  simpa [List.append_assoc] using h4
theorem AX0.sk{o:Oper}(hw:wantG ops a o.guard=some false)(hd:dstOk N o.dst=true)(h2:AX0 E N k dr ops rest (a.put o.dst (.tup [])) σ (⟨[],.tup [],0,[]⟩::acc) Q):AX0 E N k dr ops (o::rest) a σ acc Q:=by
 cases dr with
 |false=>exact AWL.sk hw hd h2
 |true=>
  obtain⟨rs,a',σ',a2,h3,h4,h5,h6⟩:=h2
  refine⟨_,a',σ',a2,.sk hw hd h3,?_,h5,h6⟩
  simpa [List.append_assoc] using h4
theorem AX0.nilL(h:Q .normal a σ):AX0 E N k false ops [] a σ acc Q:=AWL.nil h
theorem AX0.nilD(ho:ordOk ops acc.reverse=true)(h:Q .normal a σ):AX0 E N k true ops [] a σ acc Q:=
 ⟨[],a,σ,a,.nil a σ,by simpa using ho,fun _=>rfl,h⟩
theorem AX0.split(d:Tmp){b:Bool}(hb:a.get d=some (.bool b))(ht:b=true→AX0 E N k dr ops rest ((d,.bool true)::a) σ acc Q)(hf:b=false→AX0 E N k dr ops rest ((d,.bool false)::a) σ acc Q):AX0 E N k dr ops rest a σ acc Q:=by
 cases dr with
 |false=>exact AWL.split hb ht hf
 |true=>
  have key:∀b',b=b'→(∃rs a' σ' a2,Plan E N (fun _=>False) ops rest ((d,.bool b')::a) σ rs a' σ'∧ordOk ops (acc.reverse++rs)=true∧(∀t,AF.get a2 t=AF.get a' t)∧Q .normal a2 σ')→AX0 E N k true ops rest a σ acc Q:=by
   rintro _ rfl ⟨rs,a',σ',a2,h1,h2,h3,h4⟩
   obtain⟨b',h5,h6⟩:=h1.congr (b:=a) fun t=>by
    rw[AF.get_cons]
    by_cases ht:d=t
    ·subst ht;rw[if_pos rfl];exact hb
    ·rw [if_neg ht]
   exact⟨rs,b',σ',a2,h6,h2,fun t=>(h3 t).trans (h5 t).symm,h4⟩
  cases hbb:b with
  |true=>exact key true hbb (ht hbb)
  |false=>exact key false hbb (hf hbb)
structure AX (E:Env) (N k:Nat) (dr:Bool) (ops rest:List Oper) (a:AF) (σ:Sto) (acc:List Rec) (Q:Exit→AF→Sto→Prop):Prop where
 out:AX0 E N k dr ops rest a σ acc Q
theorem AX.runY{o:Oper}{pre:Es}{v:V}(news:Nat){post:Es}(hw:wantG ops a o.guard=some true)(h:OSY E N o (frm dr ops a o) pre v (List.range' σ.nx news) post)(hp:preOk σ.es pre)(hd:dstOk N o.dst=true)
 (h2:AX E N k dr ops rest (a.put o.dst v) (σ.upd news post) (⟨pre,v,news,post⟩::acc) Q):AX E N k dr ops (o::rest) a σ acc Q:=⟨AX0.run news hw h hp hd h2.out⟩
theorem AX.run{o:Oper}{pre:Es}{v:V}(news:Nat){post:Es}(hw:wantG ops a o.guard=some true)(h:OS E N o (frm dr ops a o) pre v (List.range' σ.nx news) post)(hp:preOk σ.es pre)(hd:dstOk N o.dst=true)
 (h2:AX E N k dr ops rest (a.put o.dst v) (σ.upd news post) (⟨pre,v,news,post⟩::acc) Q):AX E N k dr ops (o::rest) a σ acc Q:=AX.runY news hw h.y hp hd h2
theorem AX.sk{o:Oper}(hw:wantG ops a o.guard=some false)(hd:dstOk N o.dst=true)(h2:AX E N k dr ops rest (a.put o.dst (.tup [])) σ (⟨[],.tup [],0,[]⟩::acc) Q):AX E N k dr ops (o::rest) a σ acc Q:=⟨AX0.sk hw hd h2.out⟩
theorem AX.nilL(h:Q .normal a σ):AX E N k false ops [] a σ acc Q:=⟨AX0.nilL h⟩
theorem AX.nilD(ho:ordOk ops acc.reverse=true)(h:Q .normal a σ):AX E N k true ops [] a σ acc Q:=⟨AX0.nilD ho h⟩
theorem AX.split(d:Tmp){b:Bool}(hb:a.get d=some (.bool b))(ht:b=true→AX E N k dr ops rest ((d,.bool true)::a) σ acc Q)(hf:b=false→AX E N k dr ops rest ((d,.bool false)::a) σ acc Q):AX E N k dr ops rest a σ acc Q:=
 ⟨AX0.split d hb (fun h=>(ht h).out) (fun h=>(hf h).out)⟩
theorem AW.regL{id:Nat}{l:List Oper}(h:AX E N k false l l a σ [] Q):AW E N k (.region id l.toArray false) a σ Q:= .region h.out
theorem AW.regD{id:Nat}{l:List Oper}(hmix:E.P.follows .mixedOrders=true)(he:edgesOk 0 l=true)(h:AX E N k true l l a σ [] Q):AW E N k (.region id l.toArray true) a σ Q:=by
 obtain⟨rs,a',σ',a2,h1,h2,h3,h4⟩:=h.out
 have:=AW.draw (E:=E) (N:=N) (k:=k) (Q:=fun e x τ=>e= .normal∧x=a'∧τ=σ') (a:=a) (σ:=σ) (id:=id) hmix he ⟨rs,a',σ',h1,by simpa using h2,rfl,rfl,rfl⟩
 constructor
 intro hk g w act hR hF hY
 refine wp_mono (this.run hk g w act hR hF hY) ?_
 rintro e act' w' ⟨g1,a1,σ1,⟨rfl,rfl,rfl⟩,h6,h7,h8,h9⟩
 exact⟨g1,a2,σ1,h4,h6,h7,h8.congr h3,h9⟩
theorem mem_tmpsOf{xs:List Operand}{t:Nat}(h:Operand.tmp t∈xs):t∈tmpsOf xs:=List.mem_filterMap.2 ⟨_,h,rfl⟩
theorem restr_get2{a:AF}:∀{l:List Nat} {t:Nat},t∈l→(restr a l).get t=a.get t:=by
 intro l
 induction l with
 |nil=>intro t h;cases h
 |cons x l ih=>
  intro t h
  simp only[restr]
  cases hx:a.get x with
  |none=>
   rcases List.mem_cons.1 h with rfl|h
   ·by_cases hl:t∈l
    ·exact ih hl
    ·cases hr:(restr a l).get t with
     |none=>rw[hx]
     |some c=>exact absurd (restr_get hr).1 hl
   ·exact ih h
  |some v=>
   simp only[AF.get_cons]
   by_cases hxt:x=t
   ·subst hxt;simp[hx]
   ·simp only[hxt,if_false]
    rcases List.mem_cons.1 h with rfl|h
    ·exact absurd rfl hxt
    ·exact ih h
theorem fr_eq{T:TypeId}{o:Oper}{x:Operand}(hx:x∈o.op.operands.toList):ev E T (frm dr ops a o) x=ev E T a x:=by
 cases dr with
 |false=>rfl
 |true=>
  cases x with
  |tmp t=>exact restr_get2 (List.mem_append_left _ (mem_tmpsOf hx))
  |_=>rfl
theorem fr{T:TypeId}{o:Oper}{x:Operand}{v:V}(hx:x∈o.op.operands.toList)(h:ev E T a x=some v):ev E T (frm dr ops a o) x=some v:=(fr_eq hx).trans h
theorem frs{T:TypeId}{o:Oper}:∀{xs:List Operand} {vs:List V},(∀x∈xs,x∈o.op.operands.toList)→evs E T a xs=some vs→evs E T (frm dr ops a o) xs=some vs:=by
 intro xs
 induction xs with
 |nil=>intro vs _ h;exact h
 |cons x l ih=>
  intro vs hx h
  simp only[evs] at h ⊢
  rw[fr_eq (hx x (by simp))]
  simp only[Option.bind_eq_some_iff,Option.map_eq_some_iff] at h ⊢
  obtain⟨v,h1,vs',h2,h3⟩:=h
  exact⟨v,h1,vs',ih (fun y hy=>hx y (by simp[hy])) h2,h3⟩
theorem frT{o:Oper}:∀{xs:List Operand} {ts:List TypeId} {vs:List V},(∀x∈xs,x∈o.op.operands.toList)→evT E a xs ts=some vs→evT E (frm dr ops a o) xs ts=some vs:=by
 intro xs
 induction xs with
 |nil=>intro ts vs _ h;exact h
 |cons x l ih=>
  intro ts vs hx h
  cases ts with
  |nil=>
   simp only[evT] at h ⊢
   rw[fr_eq (hx x (by simp))]
   simp only[Option.bind_eq_some_iff,Option.map_eq_some_iff] at h ⊢
   obtain⟨v,h1,vs',h2,h3⟩:=h
   exact⟨v,h1,vs',ih (fun y hy=>hx y (by simp[hy])) h2,h3⟩
  |cons t ts=>
   simp only[evT] at h ⊢
   rw[fr_eq (hx x (by simp))]
   simp only[Option.bind_eq_some_iff,Option.map_eq_some_iff] at h ⊢
   obtain⟨v,h1,vs',h2,h3⟩:=h
   exact⟨v,h1,vs',ih (fun y hy=>hx y (by simp[hy])) h2,h3⟩
theorem frP{o:Oper}:∀{pp:List (Nat×Operand)} {vs:List (Nat×List V)},(∀p∈pp,p.2∈o.op.operands.toList)→partsV E a pp=some vs→partsV E (frm dr ops a o) pp=some vs:=by
 intro pp
 induction pp with
 |nil=>intro vs _ h;exact h
 |cons x l ih=>
  intro vs hx h
  simp only[partsV] at h ⊢
  rw[fr_eq (hx x (by simp))]
  simp only[Option.bind_eq_some_iff,Option.map_eq_some_iff] at h ⊢
  obtain⟨v,h1,vs',h2,h3⟩:=h
  exact⟨v,h1,vs',ih (fun y hy=>hx y (by simp[hy])) h2,h3⟩
variable {d:Option Tmp} {ty:TypeId} {ps:String} {af:Array Edge} {gd:Option (Nat×Bool)}
namespace L
theorem mv{x:Operand}{v:V}(hw:wantG ops a gd=some true)(h:ev E ty a x=some v)(hd:dstOk N d=true)(h2:AX E N k dr ops rest (a.put d v) σ (⟨[],v,0,[]⟩::acc) Q):AX E N k dr ops (⟨d,.move x,ty,ps,af,gd⟩::rest) a σ acc Q:=
 AX.run 0 hw (OS.move (.inl rfl) (fr (by simp[Op.operands,Call.operands]) h)) trivial hd h2
theorem asg{x:Operand}{v:V}(hw:wantG ops a gd=some true)(h:ev E ty a x=some v)(hd:dstOk N d=true)(h2:AX E N k dr ops rest (a.put d v) σ (⟨[],v,0,[]⟩::acc) Q):AX E N k dr ops (⟨d,.assign x,ty,ps,af,gd⟩::rest) a σ acc Q:=
 AX.run 0 hw (OS.move (.inr rfl) (fr (by simp[Op.operands,Call.operands]) h)) trivial hd h2
theorem pk{c x y:Operand}{b:Bool}{v:V}(hw:wantG ops a gd=some true)(hc:ev E 0 a c=some (.bool b))(h:ev E ty a (bif b then x else y)=some v)(hd:dstOk N d=true)(h2:AX E N k dr ops rest (a.put d v) σ (⟨[],v,0,[]⟩::acc) Q):
 AX E N k dr ops (⟨d,.pick c x y,ty,ps,af,gd⟩::rest) a σ acc Q:=
 AX.run 0 hw (OS.pick rfl (fr (by simp[Op.operands,Call.operands]) hc) (by cases b<;>exact fr (by simp[Op.operands]) h)) trivial hd h2
theorem bx{t:TypeId}{x:Operand}{c:V}{cs:List V}(hw:wantG ops a gd=some true)(h:ev E t a x=some c)(hc:cellsOf c=some cs)(hd:dstOk N d=true)
 (h2:AX E N k dr ops rest (a.put d (.ptr σ.nx 0)) (σ.upd 1 [(σ.nx,.var cs)]) (⟨[],.ptr σ.nx 0,1,[(σ.nx,.var cs)]⟩::acc) Q):AX E N k dr ops (⟨d,.box t x,ty,ps,af,gd⟩::rest) a σ acc Q:=
 AX.run 1 hw (OS.box rfl (fr (by simp[Op.operands,Call.operands]) h) hc) trivial hd h2
theorem al{t:TypeId}{i:TI}(hw:wantG ops a gd=some true)(h:E.ti t=some i)(hd:dstOk N d=true)
 (h2:AX E N k dr ops rest (a.put d (.ptr σ.nx 0)) (σ.upd 1 [(σ.nx,.var i.zero)]) (⟨[],.ptr σ.nx 0,1,[(σ.nx,.var i.zero)]⟩::acc) Q):AX E N k dr ops (⟨d,.alloc t,ty,ps,af,gd⟩::rest) a σ acc Q:=
 AX.run 1 hw (OS.alloc rfl h) trivial hd h2
theorem lda{t:TypeId}{x:Operand}{i:TI}{cs:List V}{c:V}(hw:wantG ops a gd=some true)(hx:ev E 0 a x=some (.addr cs))(ht:E.ti t=some i)(hc:loadC i cs=some c)(hd:dstOk N d=true)
 (h2:AX E N k dr ops rest (a.put d c) σ (⟨[],c,0,[]⟩::acc) Q):AX E N k dr ops (⟨d,.load t x,ty,ps,af,gd⟩::rest) a σ acc Q:=
 AX.run 0 hw (OS.loadA rfl ht (fr (by simp[Op.operands,Call.operands]) hx) hc) trivial hd h2
theorem ldb{t:TypeId}{x:Operand}{i:TI}{n off:Nat}{cs:List V}{c:V}(hw:wantG ops a gd=some true)(hx:ev E 0 a x=some (.ptr n off))(ht:E.ti t=some i)(hn:findE σ.es n=some (.var cs))(hc:loadC i (cs.drop off)=some c)(hd:dstOk N d=true)
 (h2:AX E N k dr ops rest (a.put d c) σ (⟨[(n,.var cs)],c,0,[]⟩::acc) Q):AX E N k dr ops (⟨d,.load t x,ty,ps,af,gd⟩::rest) a σ acc Q:=
 AX.run 0 hw (OS.loadB rfl ht (fr (by simp[Op.operands,Call.operands]) hx) hc) ⟨hn,trivial⟩ hd h2
theorem st{t:TypeId}{x y:Operand}{i:TI}{n off:Nat}{cs:List V}{c:V}{vc:List V}(hw:wantG ops a gd=some true)(hx:ev E 0 a x=some (.ptr n off))(ht:E.ti t=some i)(hy:ev E t a y=some c)(hn:findE σ.es n=some (.var cs))
 (hc:cellsOf c=some vc) (hs:vc.length=i.size) (hb:Nat.ble (off+vc.length) cs.length=true) (hd:dstOk N d=true)
 (h2:AX E N k dr ops rest (a.put d (.tup [])) (σ.upd 0 [(n,.var (cs.take off++vc++cs.drop (off+vc.length)))]) (⟨[(n,.var cs)],.tup [],0,[(n,.var (cs.take off++vc++cs.drop (off+vc.length)))]⟩::acc) Q):AX E N k dr ops (⟨d,.store t x y,ty,ps,af,gd⟩::rest) a σ acc Q:=
 AX.run 0 hw (OS.store rfl ht (fr (by simp[Op.operands,Call.operands]) hx) (fr (by simp[Op.operands,Call.operands]) hy) hc hs hb) ⟨hn,trivial⟩ hd h2
theorem faa{t:TypeId}{x:Operand}{z:Nat}{zr:List V}{gs:List (Nat×Nat×Bool)}{f:Nat}{p:Nat×Nat×Bool}{cs:List V}(hw:wantG ops a gd=some true)(hx:ev E 0 a x=some (.addr cs))(ht:E.ti t=some ⟨z,zr,.strct gs⟩)
 (hf:gs[f]? =some p) (hb:Nat.ble p.1 cs.length=true) (hd:dstOk N d=true) (h2:AX E N k dr ops rest (a.put d (.addr (cs.drop p.1))) σ (⟨[],.addr (cs.drop p.1),0,[]⟩::acc) Q):AX E N k dr ops (⟨d,.fieldAddr t x f,ty,ps,af,gd⟩::rest) a σ acc Q:=
 AX.run 0 hw (OS.fieldAddrA rfl ht rfl hf (fr (by simp[Op.operands,Call.operands]) hx) hb) trivial hd h2
theorem fab{t:TypeId}{x:Operand}{z:Nat}{zr:List V}{gs:List (Nat×Nat×Bool)}{f:Nat}{p:Nat×Nat×Bool}{n off:Nat}(hw:wantG ops a gd=some true)(hx:ev E 0 a x=some (.ptr n off))(ht:E.ti t=some ⟨z,zr,.strct gs⟩)
 (hf:gs[f]? =some p) (hd:dstOk N d=true) (h2:AX E N k dr ops rest (a.put d (.ptr n (off+p.1))) σ (⟨[],.ptr n (off+p.1),0,[]⟩::acc) Q):AX E N k dr ops (⟨d,.fieldAddr t x f,ty,ps,af,gd⟩::rest) a σ acc Q:=
 AX.run 0 hw (OS.fieldAddrB rfl ht rfl hf (fr (by simp[Op.operands,Call.operands]) hx)) trivial hd h2
theorem fd{t:TypeId}{x:Operand}{z:Nat}{zr:List V}{gs:List (Nat×Nat×Bool)}{f:Nat}{p:Nat×Nat×Bool}{cs:List V}{c:V}(hw:wantG ops a gd=some true)(hx:ev E 0 a x=some (.agg cs))(ht:E.ti t=some ⟨z,zr,.strct gs⟩)
 (hf:gs[f]? =some p) (hc:partC p cs=some c) (hd:dstOk N d=true) (h2:AX E N k dr ops rest (a.put d c) σ (⟨[],c,0,[]⟩::acc) Q):AX E N k dr ops (⟨d,.field t x f,ty,ps,af,gd⟩::rest) a σ acc Q:=
 AX.run 0 hw (OS.field rfl ht rfl hf (fr (by simp[Op.operands,Call.operands]) hx) hc) trivial hd h2
theorem ex{x:Operand}{ix:Nat}{cs:List V}{c:V}(hw:wantG ops a gd=some true)(hx:ev E 0 a x=some (.tup cs))(hc:cs[ix]? =some c)(hd:dstOk N d=true)(h2:AX E N k dr ops rest (a.put d c) σ (⟨[],c,0,[]⟩::acc) Q):
 AX E N k dr ops (⟨d,.extract x ix,ty,ps,af,gd⟩::rest) a σ acc Q:=
 AX.run 0 hw (OS.extract rfl (fr (by simp[Op.operands,Call.operands]) hx) hc) trivial hd h2
theorem nt{t:TypeId}{x:Operand}{b:Bool}(hw:wantG ops a gd=some true)(hx:ev E 0 a x=some (.bool b))(hd:dstOk N d=true)(h2:AX E N k dr ops rest (a.put d (.bool (!b))) σ (⟨[],.bool (!b),0,[]⟩::acc) Q):AX E N k dr ops (⟨d,.unOp .not t x,ty,ps,af,gd⟩::rest) a σ acc Q:=
 AX.run 0 hw (OS.not rfl (fr (by simp[Op.operands,Call.operands]) hx)) trivial hd h2
theorem bn{op:BinOp}{t u:TypeId}{x y:Operand}{kd:IntKind}{n m:Int}{c:V}(hw:wantG ops a gd=some true)(hx:ev E t a x=some (.int kd n))(hy:ev E t a y=some (.int kd m))(hc:intB op kd n m=some c)(hd:dstOk N d=true)
 (h2:AX E N k dr ops rest (a.put d c) σ (⟨[],c,0,[]⟩::acc) Q):AX E N k dr ops (⟨d,.binOp op t x y u,ty,ps,af,gd⟩::rest) a σ acc Q:=
 AX.run 0 hw (OS.bin rfl (fr (by simp[Op.operands,Call.operands]) hx) (fr (by simp[Op.operands,Call.operands]) hy) hc) trivial hd h2
theorem ad{t u:TypeId}{x y:Operand}{n m:Int}(hw:wantG ops a gd=some true)(hx:ev E t a x=some (.int .i64 n))(hy:ev E t a y=some (.int .i64 m))(hd:dstOk N d=true)(h1: -9223372036854775808≤n+m∧n+m≤9223372036854775807)
 (h2:AX E N k dr ops rest (a.put d (.int .i64 (n+m))) σ (⟨[],.int .i64 (n+m),0,[]⟩::acc) Q):AX E N k dr ops (⟨d,.binOp .add t x y u,ty,ps,af,gd⟩::rest) a σ acc Q:=
 AX.run 0 hw (OS.add rfl (fr (by simp[Op.operands,Call.operands]) hx) (fr (by simp[Op.operands,Call.operands]) hy) h1.1 h1.2) trivial hd h2
theorem sb{t u:TypeId}{x y:Operand}{n m:Int}(hw:wantG ops a gd=some true)(hx:ev E t a x=some (.int .i64 n))(hy:ev E t a y=some (.int .i64 m))(hd:dstOk N d=true)(h1: -9223372036854775808≤n-m∧n-m≤9223372036854775807)
 (h2:AX E N k dr ops rest (a.put d (.int .i64 (n-m))) σ (⟨[],.int .i64 (n-m),0,[]⟩::acc) Q):AX E N k dr ops (⟨d,.binOp .sub t x y u,ty,ps,af,gd⟩::rest) a σ acc Q:=
 AX.run 0 hw (OS.sub rfl (fr (by simp[Op.operands,Call.operands]) hx) (fr (by simp[Op.operands,Call.operands]) hy) h1.1 h1.2) trivial hd h2
theorem ln{t:TypeId}{x:Operand}{sp:Sp}{l:SL V}{z:Nat}{zr:List V}{c:Option EC}{sz by_:Nat}(hw:wantG ops a gd=some true)(hx:ev E t a x=some (.slice sp l))(ht:E.ti t=some ⟨z,zr,.slc c sz by_⟩)(hd:dstOk N d=true)
 (h2:AX E N k dr ops rest (a.put d (.int .i64 l.len)) σ (⟨[],.int .i64 l.len,0,[]⟩::acc) Q):AX E N k dr ops (⟨d,.call ⟨.builtin .len,#[x],#[t]⟩,ty,ps,af,gd⟩::rest) a σ acc Q:=
 AX.run 0 hw (OS.lenS (u:=0) rfl ht rfl (fr (by simp[Op.operands,Call.operands]) hx)) trivial hd h2
theorem nc{x:Operand}{c:V}(hw:wantG ops a gd=some true)(hx:ev E 0 a x=some c)(hc:isPtr c=true)(hd:dstOk N d=true)(h2:AX E N k dr ops rest (a.put d c) σ (⟨[],c,0,[]⟩::acc) Q):
 AX E N k dr ops (⟨d,.nilCheck x,ty,ps,af,gd⟩::rest) a σ acc Q:=
 AX.run 0 hw (OS.nilCheck rfl (fr (by simp[Op.operands,Call.operands]) hx) hc) trivial hd h2
theorem mf{f:Fn}{fi caps:List Operand}{vs us:List V}(hw:wantG ops a gd=some true)(h1:evs E 0 a fi=some vs)(h3:evs E 0 a caps=some us)(hd:dstOk N d=true)(h2:AX E N k dr ops rest (a.put d (.fn f vs us)) σ (⟨[],.fn f vs us,0,[]⟩::acc) Q):
 AX E N k dr ops (⟨d,.makeFunc f fi.toArray caps.toArray,ty,ps,af,gd⟩::rest) a σ acc Q:=
 AX.run 0 hw (OS.makeFunc rfl (frs (by intro x hx;simp[Op.operands,hx]) h1) (frs (by intro x hx;simp[Op.operands,hx]) h3)) trivial hd h2
theorem bd{t:TypeId}{pp:List (Nat×Operand)}{z:Nat}{zr:List V}{gs:List (Nat×Nat×Bool)}{vps:List (Nat×List V)}{cs:List V}(hw:wantG ops a gd=some true)(ht:E.ti t=some ⟨z,zr,.strct gs⟩)(hp:partsV E a pp=some vps)
 (hf:fillV gs zr vps=some cs) (hd:dstOk N d=true) (h2:AX E N k dr ops rest (a.put d (.agg cs)) σ (⟨[],.agg cs,0,[]⟩::acc) Q):AX E N k dr ops (⟨d,.build t pp.toArray,ty,ps,af,gd⟩::rest) a σ acc Q:=
 AX.run 0 hw (OS.build rfl ht rfl (frP (by intro p hp;simp only[Op.operands,List.mem_map];exact⟨p,hp,rfl⟩) hp) hf) trivial hd h2
theorem bs{t:TypeId}{n:Nat}{pp:List (Nat×Operand)}{z:Nat}{zr:List V}{c:Option EC}{sz bytes:Nat}{cs:List V}{vcs:List (List V)}{l:SL V}(et:TypeId)(hw:wantG ops a gd=some true)(ht:E.ti t=some ⟨z,zr,.slc c sz bytes⟩)
 (hpp:pp=(pp.map Prod.snd).zipIdx.map fun x=>(x.2,x.1)) (hn:(pp.map Prod.snd).length=n) (hev:evs E et a (pp.map Prod.snd)=some cs) (hcs:mapO cellsOf cs=some vcs)
 (hsz:(vcs.all fun vc=>Nat.beq vc.length sz)=true) (hf:foldS c sz vcs=some l) (hb:Nat.ble (n*sz) 16777216=true) (hd:dstOk N d=true) (h2:AX E N k dr ops rest (a.put d (.slice .full l)) σ (⟨[],.slice .full l,0,[]⟩::acc) Q):
 AX E N k dr ops (⟨d,.buildSlice t n pp.toArray,ty,ps,af,gd⟩::rest) a σ acc Q:=
 AX.run 0 hw (OS.buildSlice (et:=et) (by rw[←hpp]) hn ht rfl (frs (by intro x hx;simpa [Op.operands] using hx) hev) hcs hsz hf hb) trivial hd h2
theorem ix{t:TypeId}{x y:Operand}{z:Nat}{zr:List V}{c:Option EC}{sz bytes:Nat}{sp:Sp}{l:SL V}{n:Int}(kk:Nat){cs:List V}{kd:IntKind}(hw:wantG ops a gd=some true)(hx:ev E t a x=some (.slice sp l))(ht:E.ti t=some ⟨z,zr,.slc c sz bytes⟩)
 (hy:ev E 0 a y=some (.int kd n)) (hn:n=kk) (hlt:kk<l.len) (hk:l.get kk=some cs) (hsz:Nat.beq l.cells sz=true) (hd:dstOk N d=true) (h2:AX E N k dr ops rest (a.put d (.addr cs)) σ (⟨[],.addr cs,0,[]⟩::acc) Q):AX E N k dr ops (⟨d,.indexAddr t x y,ty,ps,af,gd⟩::rest) a σ acc Q:=
 AX.run 0 hw (OS.indexS rfl ht rfl (fr (by simp[Op.operands,Call.operands]) hx) (fr (by simp[Op.operands,Call.operands]) hy) hn hk hlt hsz) trivial hd h2
theorem ixa{t:TypeId}{x y:Operand}{z:Nat}{zr:List V}{m esz:Nat}{ea:Bool}{cs:List V}{n:Int}(kk:Nat){kd:IntKind}(hw:wantG ops a gd=some true)(hx:ev E 0 a x=some (.addr cs))(ht:E.ti t=some ⟨z,zr,.arr m esz ea⟩)
 (hy:ev E 0 a y=some (.int kd n)) (hn:n=kk) (hlt:kk<m) (hb:kk*esz≤cs.length) (hd:dstOk N d=true) (h2:AX E N k dr ops rest (a.put d (.addr (cs.drop (kk*esz)))) σ (⟨[],.addr (cs.drop (kk*esz)),0,[]⟩::acc) Q):AX E N k dr ops (⟨d,.indexAddr t x y,ty,ps,af,gd⟩::rest) a σ acc Q:=
 AX.run 0 hw (OS.indexA rfl ht rfl (fr (by simp[Op.operands,Call.operands]) hx) (fr (by simp[Op.operands,Call.operands]) hy) hn hlt hb) trivial hd h2
theorem ixb{t:TypeId}{x y:Operand}{z:Nat}{zr:List V}{m esz:Nat}{ea:Bool}{p off:Nat}{n:Int}(kk:Nat){kd:IntKind}(hw:wantG ops a gd=some true)(hx:ev E 0 a x=some (.ptr p off))(ht:E.ti t=some ⟨z,zr,.arr m esz ea⟩)
 (hy:ev E 0 a y=some (.int kd n)) (hn:n=kk) (hlt:kk<m) (hd:dstOk N d=true) (h2:AX E N k dr ops rest (a.put d (.ptr p (off+kk*esz))) σ (⟨[],.ptr p (off+kk*esz),0,[]⟩::acc) Q):AX E N k dr ops (⟨d,.indexAddr t x y,ty,ps,af,gd⟩::rest) a σ acc Q:=
 AX.run 0 hw (OS.indexB rfl ht rfl (fr (by simp[Op.operands,Call.operands]) hx) (fr (by simp[Op.operands,Call.operands]) hy) hn hlt) trivial hd h2
theorem s3{t:TypeId}{x y zz:Operand}{z:Nat}{zr:List V}{c:Option EC}{sz bytes:Nat}{sp:Sp}{l:SL V}{k1 k2:IntKind}(hw:wantG ops a gd=some true)(hx:ev E t a x=some (.slice sp l))(ht:E.ti t=some ⟨z,zr,.slc c sz bytes⟩)
 (hy:ev E 0 a y=some (.int k1 l.len)) (hz:ev E 0 a zz=some (.int k2 l.len)) (hd:dstOk N d=true) (h2:AX E N k dr ops rest (a.put d (.slice .full l)) σ (⟨[],.slice .full l,0,[]⟩::acc) Q):AX E N k dr ops (⟨d,.slice t x none (some y) (some zz),ty,ps,af,gd⟩::rest) a σ acc Q:=
 AX.run 0 hw (OS.slice3 rfl ht rfl (fr (by simp[Op.operands,Call.operands]) hx) (fr (by simp[Op.operands,Call.operands]) hy) (fr (by simp[Op.operands,Call.operands]) hz)) trivial hd h2
theorem ap{t:TypeId}{s x:Operand}{z:Nat}{zr:List V}{c:Option EC}{sz bytes:Nat}{sp sp':Sp}{l l' l2:SL V}(hw:wantG ops a gd=some true)(hs:ev E t a s=some (.slice sp l))(hx:ev E t a x=some (.slice sp' l'))(ht:E.ti t=some ⟨z,zr,.slc c sz bytes⟩)
 (hsp:isGrow sp=true) (hl:l.app l'=some l2) (hsz:Nat.beq l.cells sz=true) (hp:preOk σ.es (appPre sp)) (hd:dstOk N d=true)
 (hb:(l.len+l'.len)*bytes≤140737488355328∧l.len+l'.len≤9223372036854775807) (h2:AX E N k dr ops rest (a.put d (.slice (.own σ.nx) l2)) (σ.upd 1 (appPost σ.nx sp)) (⟨appPre sp,.slice (.own σ.nx) l2,1,appPost σ.nx sp⟩::acc) Q):
 AX E N k dr ops (⟨d,.call ⟨.builtin .append,#[s,x],#[t,t]⟩,ty,ps,af,gd⟩::rest) a σ acc Q:=
 AX.run 1 hw (OS.append rfl ht rfl (fr (by simp[Op.operands,Call.operands]) hs) (fr (by simp[Op.operands,Call.operands]) hx) hsp hl hsz hb.1 hb.2) hp hd h2
theorem apF{t:TypeId}{s x:Operand}{z:Nat}{zr:List V}{c:Option EC}{sz bytes:Nat}{sp sp':Sp}{l l' l2:SL V}(hw:wantG ops a gd=some true)(hs:ev E t a s=some (.slice sp l))(hx:ev E t a x=some (.slice sp' l'))(ht:E.ti t=some ⟨z,zr,.slc c sz bytes⟩)
 (hsp:sp= .full∧0<l'.len) (hl:l.app l'=some l2) (hsz:Nat.beq l.cells sz=true) (hp:preOk σ.es (appPre sp)) (hd:dstOk N d=true)
 (hb:(l.len+l'.len)*bytes≤140737488355328∧l.len+l'.len≤9223372036854775807) (h2:AX E N k dr ops rest (a.put d (.slice (.own σ.nx) l2)) (σ.upd 1 (appPost σ.nx sp)) (⟨appPre sp,.slice (.own σ.nx) l2,1,appPost σ.nx sp⟩::acc) Q):
 AX E N k dr ops (⟨d,.call ⟨.builtin .append,#[s,x],#[t,t]⟩,ty,ps,af,gd⟩::rest) a σ acc Q:=
 AX.run 1 hw (OS.appendG rfl ht rfl (fr (by simp[Op.operands,Call.operands]) hs) (fr (by simp[Op.operands,Call.operands]) hx) (.inr hsp) hl hsz hb.1 hb.2) hp hd h2
theorem c0{f:FuncId}{xs:List Operand}{ts:List TypeId}{cs args cs1:List V}{r:V}(h:PC E f args r)(hw:wantG ops a gd=some true)(hx:evT E a xs ts=some cs)(hr:renVs [] args=some cs1)(hle:VsLe cs cs1)(hd:dstOk N d=true)
 (h2:AX E N k dr ops rest (a.put d r) σ (⟨[],r,0,[]⟩::acc) Q):AX E N k dr ops (⟨d,.call ⟨.value (.func f),xs.toArray,ts.toArray⟩,ty,ps,af,gd⟩::rest) a σ acc Q:=
 AX.run 0 hw (OS.call0 rfl (frT (by intro x hx;simp[Op.operands,Call.operands,hx]) hx) h ⟨cs1,hr,hle⟩) trivial hd h2
end L
end
section
variable {E:Env} {N k:Nat} {a:AF} {σ:Sto} {Q:Exit→AF→Sto→Prop}
def rngQ(E:Env)(N k:Nat)(B:Nat)(i d:Tmp)(m:Nat)(P:Nat→Prop)(J:Nat→AF×Sto)(Q:Exit→AF→Sto→Prop):Exit→AF→Sto→Prop
 | .normal,a,σ=>a.get i=some (.int .i64 m)∧P (m+1)∧Weak E N k ((i,.int .i64 ((m+1:Nat):Int))::(d,.int .i64 ((m+1:Nat):Int))::a) σ (J (m+1)).1 (J (m+1)).2
 | .exit id,a,σ=>bif Nat.beq id B then Q .normal a σ else Q (.exit id) a σ
 |e,a,σ=>Q e a σ
theorem Weak.trans{a':AF}{σ':Sto}{a'':AF}{σ'':Sto}(h:Weak E N k a σ a' σ')(h':Weak E N k a' σ' a'' σ''):Weak E N k a σ a'' σ'':=by
 intro hk
 obtain⟨hk1,h1⟩:=h hk
 obtain⟨hk2,h2⟩:=h' hk1
 refine⟨hk2,fun g w act hR hF=> ?_⟩
 obtain⟨g1,hR1,hF1,hx1⟩:=h1 g w act hR hF
 obtain⟨g2,hR2,hF2,hx2⟩:=h2 g1 w act hR1 hF1
 exact⟨g2,hR2,hF2,hx1.trans hx2⟩
theorem Weak.slots{a':AF}(h:∀t c,a'.get t=some c→a.get t=some c):Weak E N k a σ a' σ:=
 fun hk=>⟨hk,fun g w act hR hF=>⟨g,hR,⟨hF.size,hF.defers,fun t c hc=>hF.vals t c (h t c hc)⟩,.refl ..⟩⟩
theorem AW.range{B C r1 r2:Nat}{c i n d:Tmp}{T T' T2 T3:TypeId}{ty1 ty2 ty3:TypeId}{p1 p2 p3:String}{af1 af2 af3:Array Edge}{body:Code}(len:Nat)(P:Nat→Prop)(J:Nat→AF×Sto)(hlen:len<4611686018427387904)
 (hi:∀m,(J m).1.get i=some (.int .i64 m)) (hn:∀m,(J m).1.get n=some (.int .i64 len)) (hd:dstOk N (some c)&&dstOk N (some d)&&dstOk N (some i)&& !Nat.beq d i=true) (hP:P 0) (h0:Weak E N k a σ (J 0).1 (J 0).2)
 (hb:∀m,m<len→P m→AW E N k body ((c,.bool true)::(J m).1) (J m).2 (blockQ C (rngQ E N k B i d m P J Q)))
 (he:P len→Q .normal ((c,.bool false)::(J len).1) (J len).2):
 AW E N k (.block B (.loop (.seq (.region r1 #[⟨some c,.binOp .lss T (.tmp i) (.tmp n) T',ty1,p1,af1,none⟩] false)
  (.seq (.cond (.tmp c) .skip (.exit B)) (.seq (.block C body)
   (.region r2 #[⟨some d,.binOp .add T2 (.tmp i) (.const (.int .i64 1)) T3,ty2,p2,af2,none⟩,⟨some i,.move (.tmp d),ty3,p3,af3,none⟩] false)))))) a σ Q:=by
 simp only[Bool.and_eq_true] at hd
 obtain⟨⟨⟨hd1,hd2⟩,hd3⟩,hd4⟩:=hd
 refine .block (.loop (ι:={m:Nat // m≤len∧P m}) (fun m=>J m.1) (fun m=>len-m.1) ⟨0,Nat.zero_le _,hP⟩ h0 fun⟨m,hm,hPm⟩=> ?_)
 refine .seq (.regL (L.bn rfl (hi m) (hn m) rfl hd1 (.nilL ?_)))
 show AW E N k _ ((c,.bool (decide ((m:Int)<(len:Int))))::(J m).1) (J m).2 _
 by_cases hlt:m<len
 ·have hdec:decide ((m:Int)<(len:Int))=true:=by simp;omega
  rw[hdec]
  refine .seq (.condT (by simp[ev,AF.get]) (.skip ?_))
  show AW E N k _ _ _ _
  refine .seq (.block ((hb m hlt hPm).mono ?_))
  rintro e a1 σ1 hq
  have hnorm:rngQ E N k B i d m P J Q .normal a1 σ1→thenQ E N k (.region r2 #[⟨some d,.binOp .add T2 (.tmp i) (.const (.int .i64 1)) T3,ty2,p2,af2,none⟩,⟨some i,.move (.tmp d),ty3,p3,af3,none⟩] false)
   (loopQ E N k (fun m:{m:Nat // m≤len∧P m}=>J m.1) (fun m=>len-m.1) ⟨m,hm,hPm⟩ (blockQ B Q)) .normal a1 σ1:=by
   rintro⟨h1,h2,h3⟩
   show AW E N k _ _ _ _
   refine .regL (L.ad rfl h1 (show ev E T2 a1 (.const (.int .i64 1))=some (.int .i64 1) from rfl) hd2 (by omega) (L.mv rfl (v:= .int .i64 ((m:Int)+1)) (by simp[ev,AF.put,AF.get]) hd3 (.nilL ?_)))
   rw[show((m:Int)+1)=((m+1:Nat):Int) from by omega]
   refine⟨⟨m+1,hlt,h2⟩,by show len-(m+1)<len-m;omega,?_⟩
   exact h3
  cases e with
  |normal=>exact hnorm hq
  |exit id=>
   simp only[blockQ] at hq ⊢
   cases hb:Nat.beq id C with
   |true=>rw[hb] at hq;exact hnorm hq
   |false=>rw[hb] at hq;exact hq
  |goto l=>exact hq
  |ret=>exact hq
  |panic ch=>exact hq
  |outgrown=>exact hq
 ·have hm':m=len:=by omega
  subst hm'
  have hdec:decide ((m:Int)<(m:Int))=false:=by simp
  rw[hdec]
  refine .seq (.condF (by simp[ev,AF.get]) (.exit ?_))
  show blockQ B Q (.exit B) _ _
  simp only[blockQ,Nat.beq_refl,cond_true]
  exact he hPm
end
section
variable {E:Env} {N k:Nat} {a:AF} {σ:Sto} {Q:Exit→AF→Sto→Prop} {ops:List Oper} {dr:Bool} {rest:List Oper} {acc:List Rec}
def gTest(ops:List Oper):Option (Nat×Bool)→Option Tmp
 |some (j,_)=>(ops[j]?).bind (·.dst)
 |none=>none
theorem AX.gs{o:Oper}{d:Tmp}{b:Bool}(h1:gTest ops o.guard=some d)(hb:a.get d=some (.bool b))(hn:wantG ops a o.guard=none→True)(ht:b=true→AX E N k dr ops (o::rest) ((d,.bool true)::a) σ acc Q)(hf:b=false→AX E N k dr ops (o::rest) ((d,.bool false)::a) σ acc Q):AX E N k dr ops (o::rest) a σ acc Q:=
 AX.split d hb ht hf
theorem AX.wt{o:Oper}(h:wantG ops a o.guard=some true)(h2:AX E N k dr ops (o::rest) a σ acc Q):AX E N k dr ops (o::rest) a σ acc Q:=h2
@[simp] theorem Ty.eta(t:Ty):Ty.mk t.kind t.args=t:=by cases t;rfl
@[simp] theorem Ty.kind_mk(k:Int)(xs:List Ty):(Ty.mk k xs).kind=k:=rfl
@[simp] theorem Ty.args_mk(k:Int)(xs:List Ty):(Ty.mk k xs).args=xs:=rfl
@[simp] theorem Tm.eta(t:Tm):Tm.mk t.kind t.index t.ty t.args=t:=by cases t;rfl
@[simp] theorem Tm.kind_mk(k i:Int)(h:Ty)(xs:List Tm):(Tm.mk k i h xs).kind=k:=rfl
@[simp] theorem Tm.index_mk(k i:Int)(h:Ty)(xs:List Tm):(Tm.mk k i h xs).index=i:=rfl
@[simp] theorem Tm.ty_mk(k i:Int)(h:Ty)(xs:List Tm):(Tm.mk k i h xs).ty=h:=rfl
@[simp] theorem Tm.args_mk(k i:Int)(h:Ty)(xs:List Tm):(Tm.mk k i h xs).args=xs:=rfl
theorem AW.condS{t:Tmp}{x y:Code}{b:Bool}(hc:a.get t=some (.bool b))(ht:b=true→AW E N k x ((t,.bool true)::a) σ Q)(hf:b=false→AW E N k y ((t,.bool false)::a) σ Q):AW E N k (.cond (.tmp t) x y) a σ Q:=
 have key:∀b',b=b'→Weak E N k a σ ((t,.bool b')::a) σ:=fun b' hb=>Weak.slots fun u c hu=>by
  rw[AF.get_cons] at hu
  by_cases h:t=u
  ·subst h;rw[if_pos rfl] at hu;rw[hc,hb];exact hu
  ·rw [if_neg h] at hu;exact hu
 .cond hc (fun h=> .weak (key _ h) (ht h)) (fun h=> .weak (key _ h) (hf h))
theorem AW.cutT{ι:Type}{x y:Code}(J:ι→AF×Sto)(h:AW E N k x a σ (cutQ E N k J Q))(h2:∀i,AW E N k y (J i).1 (J i).2 Q):AW E N k x a σ (thenQ E N k y Q):=
 h.mono fun e a σ hq=>by
  cases e with
  |normal=>obtain⟨i,hi⟩:=hq;exact(AW.weak hi (h2 i):AW E N k y a σ Q)
  |_=>exact hq
namespace K
theorem gR{B:Nat}{i d:Tmp}{m:Nat}{P:Nat→Prop}{J:Nat→AF×Sto}(h:Q .ret a σ):rngQ E N k B i d m P J Q .ret a σ:=h
theorem gE{B:Nat}{i d:Tmp}{m:Nat}{P:Nat→Prop}{J:Nat→AF×Sto}{id:Nat}(hb:Nat.beq id B=true)(h:Q .normal a σ):rngQ E N k B i d m P J Q (.exit id) a σ:=by simp only[rngQ,hb,cond_true];exact h
theorem gO{B:Nat}{i d:Tmp}{m:Nat}{P:Nat→Prop}{J:Nat→AF×Sto}{id:Nat}(hb:Nat.beq id B=false)(h:Q (.exit id) a σ):rngQ E N k B i d m P J Q (.exit id) a σ:=by simp only[rngQ,hb,cond_false];exact h
theorem bX{id id':Nat}(hb:Nat.beq id' id=true)(h:Q .normal a σ):blockQ id Q (.exit id') a σ:=by simp only[blockQ,hb,cond_true];exact h
end K
variable {d:Option Tmp} {ty:TypeId} {ps:String} {af:Array Edge} {gd:Option (Nat×Bool)}
namespace L
theorem lnt{t:TypeId}{x:Operand}{sp:Sp}{e:EC}{l:List e.sem}{z:Nat}{zr:List V}{c:Option EC}{sz by_:Nat}(hw:wantG ops a gd=some true)(hx:ev E t a x=some (.slice sp (.t e l)))(ht:E.ti t=some ⟨z,zr,.slc c sz by_⟩)(hd:dstOk N d=true)
 (h2:AX E N k dr ops rest (a.put d (.int .i64 l.length)) σ (⟨[],.int .i64 l.length,0,[]⟩::acc) Q):AX E N k dr ops (⟨d,.call ⟨.builtin .len,#[x],#[t]⟩,ty,ps,af,gd⟩::rest) a σ acc Q:=
 L.ln hw hx ht hd h2
theorem ixt(kk:Nat){t:TypeId}{x y:Operand}{z:Nat}{zr:List V}{c:EC}{co:Option EC}{sz bytes:Nat}{sp:Sp}{xs:List c.sem}{n:Int}{kd:IntKind}(hw:wantG ops a gd=some true)(hx:ev E t a x=some (.slice sp (.t c xs)))(ht:E.ti t=some ⟨z,zr,.slc co sz bytes⟩)
 (hy:ev E 0 a y=some (.int kd n)) (hn:n=kk) (hsz:Nat.beq c.cells sz=true) (hd:dstOk N d=true) (hlt:kk<xs.length) (h2:AX E N k dr ops rest (a.put d (.addr (c.view xs[kk]))) σ (⟨[],.addr (c.view xs[kk]),0,[]⟩::acc) Q):AX E N k dr ops (⟨d,.indexAddr t x y,ty,ps,af,gd⟩::rest) a σ acc Q:=
 L.ix kk hw hx ht hy hn hlt (by simp[SL.get,hlt]) hsz hd h2
end L
end
end Go.Ab
namespace Go.Ab
open Go
section
variable {E:Env} {N k:Nat} {a:AF} {σ:Sto} {Q:Exit→AF→Sto→Prop} {ops:List Oper} {dr:Bool} {rest:List Oper} {acc:List Rec}
variable {d:Option Tmp} {ty:TypeId} {ps:String} {af:Array Edge} {gd:Option (Nat×Bool)}
namespace D
theorem nil(h:AX E N k dr ops [] a σ acc Q):AX E N k dr ops [] a σ acc Q:=h
theorem ax{o:Oper}(h:AX E N k dr ops (o::rest) a σ acc Q):AX E N k dr ops (o::rest) a σ acc Q:=h
theorem aw{c:Code}(h:AW E N k c a σ Q):AW E N k c a σ Q:=h
theorem blk{id:Nat}{x y:Code}(h:AW E N k (.block id (.seq x y)) a σ Q):AW E N k (.block id (.seq x y)) a σ Q:=h
theorem sblk{id:Nat}{x y z:Code}(h:AW E N k (.seq (.block id (.seq x y)) z) a σ Q):AW E N k (.seq (.block id (.seq x y)) z) a σ Q:=h
theorem load{t:TypeId}{x:Operand}(h:AX E N k dr ops (⟨d,.load t x,ty,ps,af,gd⟩::rest) a σ acc Q):AX E N k dr ops (⟨d,.load t x,ty,ps,af,gd⟩::rest) a σ acc Q:=h
theorem store{t:TypeId}{x y:Operand}(h:AX E N k dr ops (⟨d,.store t x y,ty,ps,af,gd⟩::rest) a σ acc Q):AX E N k dr ops (⟨d,.store t x y,ty,ps,af,gd⟩::rest) a σ acc Q:=h
theorem fieldAddr{t:TypeId}{x:Operand}{f:Nat}(h:AX E N k dr ops (⟨d,.fieldAddr t x f,ty,ps,af,gd⟩::rest) a σ acc Q):AX E N k dr ops (⟨d,.fieldAddr t x f,ty,ps,af,gd⟩::rest) a σ acc Q:=h
theorem field{t:TypeId}{x:Operand}{f:Nat}(h:AX E N k dr ops (⟨d,.field t x f,ty,ps,af,gd⟩::rest) a σ acc Q):AX E N k dr ops (⟨d,.field t x f,ty,ps,af,gd⟩::rest) a σ acc Q:=h
theorem move{x:Operand}(h:AX E N k dr ops (⟨d,.move x,ty,ps,af,gd⟩::rest) a σ acc Q):AX E N k dr ops (⟨d,.move x,ty,ps,af,gd⟩::rest) a σ acc Q:=h
theorem assign{x:Operand}(h:AX E N k dr ops (⟨d,.assign x,ty,ps,af,gd⟩::rest) a σ acc Q):AX E N k dr ops (⟨d,.assign x,ty,ps,af,gd⟩::rest) a σ acc Q:=h
theorem pick{c x y:Operand}(h:AX E N k dr ops (⟨d,.pick c x y,ty,ps,af,gd⟩::rest) a σ acc Q):AX E N k dr ops (⟨d,.pick c x y,ty,ps,af,gd⟩::rest) a σ acc Q:=h
theorem box{t:TypeId}{x:Operand}(h:AX E N k dr ops (⟨d,.box t x,ty,ps,af,gd⟩::rest) a σ acc Q):AX E N k dr ops (⟨d,.box t x,ty,ps,af,gd⟩::rest) a σ acc Q:=h
theorem alloc{t:TypeId}(h:AX E N k dr ops (⟨d,.alloc t,ty,ps,af,gd⟩::rest) a σ acc Q):AX E N k dr ops (⟨d,.alloc t,ty,ps,af,gd⟩::rest) a σ acc Q:=h
theorem bin{o:BinOp}{t u:TypeId}{x y:Operand}(h:AX E N k dr ops (⟨d,.binOp o t x y u,ty,ps,af,gd⟩::rest) a σ acc Q):AX E N k dr ops (⟨d,.binOp o t x y u,ty,ps,af,gd⟩::rest) a σ acc Q:=h
theorem call{c:Call}(h:AX E N k dr ops (⟨d,.call c,ty,ps,af,gd⟩::rest) a σ acc Q):AX E N k dr ops (⟨d,.call c,ty,ps,af,gd⟩::rest) a σ acc Q:=h
theorem extract{x:Operand}{n:Nat}(h:AX E N k dr ops (⟨d,.extract x n,ty,ps,af,gd⟩::rest) a σ acc Q):AX E N k dr ops (⟨d,.extract x n,ty,ps,af,gd⟩::rest) a σ acc Q:=h
theorem indexAddr{t:TypeId}{x y:Operand}(h:AX E N k dr ops (⟨d,.indexAddr t x y,ty,ps,af,gd⟩::rest) a σ acc Q):AX E N k dr ops (⟨d,.indexAddr t x y,ty,ps,af,gd⟩::rest) a σ acc Q:=h
theorem not{o:UnOp}{t:TypeId}{x:Operand}(h:AX E N k dr ops (⟨d,.unOp o t x,ty,ps,af,gd⟩::rest) a σ acc Q):AX E N k dr ops (⟨d,.unOp o t x,ty,ps,af,gd⟩::rest) a σ acc Q:=h
theorem stopR{id:Nat}{o:Array Oper}{b:Bool}{z:Code}(h:AW E N k (.seq (.region id o b) z) a σ Q):AW E N k (.seq (.region id o b) z) a σ Q:=h
theorem stopS{id:Nat}{o:Array Oper}{b:Bool}{y z:Code}(h:AW E N k (.seq (.seq (.region id o b) y) z) a σ Q):AW E N k (.seq (.seq (.region id o b) y) z) a σ Q:=h
end D
def partAt:List Nat→Code→Code
 |[],c=>c
 |0::l,.seq c _=>partAt l c
 |_::l,.seq _ c=>partAt l c
 |0::l,.cond _ c _=>partAt l c
 |_::l,.cond _ _ c=>partAt l c
 |_::l,.block _ c=>partAt l c
 |_::l,.loop c=>partAt l c
 |_::l,.scope c=>partAt l c
 |_,c=>c
def bodyOf(f:Func):Code:=f.body.getD .skip
end
end Go.Ab
namespace Go.Ab
open Go
set_option linter.unusedSimpArgs false
set_option linter.unusedVariables false
def Gh.sub(ρ:List (Option Nat))(g:Gh):Gh:={blk:=fun n=>g.blk ((renN ρ n).getD n),row:=fun n=>match renN ρ n with|some m=>g.row m|none=>none,m:=g.m}
theorem Gh.sub_blk{ρ:List (Option Nat)}{g:Gh}{n n':Nat}(h:renN ρ n=some n'):(g.sub ρ).blk n=g.blk n':=by simp[Gh.sub,h]
theorem Gh.sub_row{ρ:List (Option Nat)}{g:Gh}{n n':Nat}(h:renN ρ n=some n'):(g.sub ρ).row n=g.row n':=by simp[Gh.sub,h]
theorem Gh.sub_none{ρ:List (Option Nat)}{g:Gh}{n:Nat}(h:nthO ρ n=some none):(g.sub ρ).row n=none:=by simp[Gh.sub,renN,h]
theorem sub_foot{ρ:List (Option Nat)}{g:Gh}{es es2:Es}(he:ELe ρ es es2){n:Nat}{e2:Ent}{b:Nat}(h1:findE es2 n=some e2)(h2:e2.foot (g.sub ρ) n=some b):∃m e,renN ρ n=some m∧findE es m=some e∧e.foot g m=some b:=by
 have h3:=he.get n e2 h1
 cases e2 with
 |var cs=>
  obtain⟨m,hm,cs1,_,cs0,h4,_⟩:=h3
  refine⟨m,_,hm,h4,?_⟩
  simp only[Ent.foot,Gh.sub_blk hm] at h2 ⊢
  exact h2
 |map c ks xs=>
  obtain⟨m,hm,ks0,xs0,h4,_⟩:=h3
  refine⟨m,_,hm,h4,?_⟩
  simp only[Ent.foot,Gh.sub_blk hm] at h2 ⊢
  exact h2
 |row=>
  rcases h3 with h3|⟨m,hm,h4⟩
  ·simp [Ent.foot,Gh.sub_none h3] at h2
  ·refine ⟨m,_,hm,h4,?_⟩
   simp only[Ent.foot,Gh.sub_row hm] at h2 ⊢
   exact h2
 |gone=>cases h2
theorem R.sub{G:Glob}{g:Gh}{D:Nat→Prop}{es:Es}{w:World}(hR:R G g D es w){ρ:List (Option Nat)}{es2:Es}(hd:distinct ρ=true)(he:ELe ρ es es2):R G (g.sub ρ) (·<ρ.length) es2 w:=by
 have hun:∀{v c c2},VRel g D w v c→renV ρ c2=some c→VRel (g.sub ρ) (·<ρ.length) w v c2:=fun {v c c2} h hc=>VRel.unren (g2:=g.sub ρ) h rfl (fun _ _ h=>Gh.sub_blk h) (fun _ _ h=>Gh.sub_row h) (fun _ h=>Gh.sub_none h) c2 hc
 refine⟨?_,?_,?_,hR.fresh,hR.nodes,hR.glob⟩
 ·intro n e h
  have h3:=he.get n e h
  cases e with
  |var cs=>obtain⟨m,hm,_⟩:=h3;exact nthO_lt (renN_nth hm)
  |map c ks xs=>obtain⟨m,hm,_⟩:=h3;exact nthO_lt (renN_nth hm)
  |row=>
   rcases h3 with h3|⟨m,hm,_⟩
   ·exact nthO_lt h3
   ·exact nthO_lt (renN_nth hm)
  |gone=>exact Nat.le_of_ble_eq_true h3
 ·intro n n' e e' b h1 h2 h3 h4
  obtain⟨m,d,hm,h5,h6⟩:=sub_foot he h1 h3
  obtain⟨m',d',hm',h7,h8⟩:=sub_foot he h2 h4
  have:=hR.foots m m' d d' b h5 h7 h6 h8
  subst this
  exact distinct_spec hd n n' m (renN_nth hm) (renN_nth hm')
 ·intro n e h
  have h3:=he.get n e h
  cases e with
  |var cs=>
   obtain⟨m,hm,cs1,hc1,cs0,h4,h5⟩:=h3
   obtain⟨h6,vs,t,h7,h8,h9,h10,h11⟩:=hR.ents m _ h4
   refine⟨by rw[Gh.sub_blk hm];exact h6,vs,t,by rw[Gh.sub_blk hm];exact h7,?_,h9,?_,by rw[Gh.sub_row hm];exact h11⟩
   ·have e1:=h5.len;have e2:=renVs_len hc1;omega
   ·intro i v c hv hc
    obtain⟨c1,hc2⟩:=getElem?_of_len (renVs_len hc1) hc
    obtain⟨c0,hc3,hc4⟩:=h5.nth i c1 hc2
    exact hun (hc4 _ _ _ _ (h10 i v c0 hv hc3)) (renVs_at hc1 i c c1 hc hc2)
  |map c ks xs=>
   obtain⟨m,hm,ks0,xs0,h4,rfl,rfl⟩:=h3
   obtain⟨h6,vs,t,h7,h8,h9,h9',h10⟩:=hR.ents m _ h4
   refine⟨by rw[Gh.sub_blk hm];exact h6,vs,t,by rw[Gh.sub_blk hm];exact h7,h8,h9,h9',?_⟩
   intro i v x hv hx
   exact hun (h10 i v x hv hx) (renV_data ρ c x)
  |row=>
   intro ρ' hρ'
   rcases h3 with h3|⟨m,hm,h4⟩
   ·rw [Gh.sub_none h3] at hρ';cases hρ'
   ·rw [Gh.sub_row hm] at hρ'
    exact hR.ents m _ h4 ρ' hρ'
  |gone=>trivial
def callNames(L:List Nat)(nx news:Nat):List Nat:=L++List.range' nx news
def someL(L:List Nat):List (Option Nat):=L.map some
def renE(ρ:List (Option Nat)):Ent→Option Ent
 | .var cs=>(renVs ρ cs).map .var
 | .map c ks xs=>some (.map c ks xs)
 | .row=>some .row
 | .gone=>some .gone
def renEs(ρ:List (Option Nat)):Es→Option Es
 |[]=>some []
 |p::l=>(renN ρ p.1).bind fun n=>(renE ρ p.2).bind fun e=>(renEs ρ l).map fun l'=>(n,e)::l'
def covers(es:Es):Nat→Bool
 |0=>true
 |n+1=>(findE es n).isSome&&covers es n
theorem covers_spec{es:Es}:∀{n:Nat},covers es n=true→∀j,j<n→∃e,findE es j=some e:=by
 intro n
 induction n with
 |zero=>intro _ j hj;omega
 |succ n ih=>
  intro h j hj
  simp only[covers,Bool.and_eq_true] at h
  by_cases hjn:j=n
  ·subst hjn;exact Option.isSome_iff_exists.1 h.1
  ·exact ih h.2 j (by omega)
theorem nthO_someL{L:List Nat}:∀{n:Nat},nthO (someL L) n=(L[n]?).map some:=by
 induction L with
 |nil=>intro n;rfl
 |cons x l ih=>
  intro n
  cases n with
  |zero=>rfl
  |succ n=>simp[someL,nthO];exact ih
theorem renN_someL{L:List Nat}{n:Nat}:renN (someL L) n=L[n]? :=by
 simp only[renN,nthO_someL]
 cases L[n]? <;>rfl
theorem renEs_find{ρ:List (Option Nat)}(hd:distinct ρ=true):∀{es post:Es},renEs ρ es=some post→∀n e,findE post n=some e→∃j e0,renN ρ j=some n∧findE es j=some e0∧renE ρ e0=some e:=by
 intro es
 induction es with
 |nil=>intro post h n e hf;simp[renEs] at h;subst h;cases hf
 |cons p l ih=>
  intro post h n e hf
  simp only[renEs,Option.bind_eq_some_iff,Option.map_eq_some_iff] at h
  obtain⟨m,h1,e1,h2,l',h3,rfl⟩:=h
  obtain⟨pn,pe⟩:=p
  rw[findE_cons] at hf
  by_cases hm:m=n
  ·subst hm
   rw[if_pos rfl] at hf
   cases hf
   exact⟨pn,pe,h1,by rw[findE_cons,if_pos rfl],h2⟩
  ·rw [if_neg hm] at hf
   obtain⟨j,e0,h4,h5,h6⟩:=ih h3 n e hf
   refine⟨j,e0,h4,?_,h6⟩
   rw[findE_cons,if_neg]
   ·exact h5
   ·intro hj
    subst hj
    simp only at h1
    rw[h1] at h4
    cases h4
    exact hm rfl
theorem renEs_find'{ρ:List (Option Nat)}(hd:distinct ρ=true):∀{es post:Es},renEs ρ es=some post→∀j e0 n,findE es j=some e0→renN ρ j=some n→∃e,findE post n=some e:=by
 intro es
 induction es with
 |nil=>intro post h j e0 n hf;cases hf
 |cons p l ih=>
  intro post h j e0 n hf hn
  simp only[renEs,Option.bind_eq_some_iff,Option.map_eq_some_iff] at h
  obtain⟨m,h1,e1,h2,l',h3,rfl⟩:=h
  obtain⟨pn,pe⟩:=p
  rw[findE_cons] at hf
  rw[findE_cons]
  by_cases hm:m=n
  ·exact ⟨e1,if_pos hm⟩
  ·rw [if_neg hm]
   by_cases hj:pn=j
   ·subst hj
    simp only at h1
    rw[h1] at hn
    cases hn
    exact absurd rfl hm
   ·rw [if_neg hj] at hf
    exact ih h3 j e0 n hf hn
theorem findE_append{l l':Es}{n:Nat}:findE (l++l') n=match findE l n with|some e=>some e|none=>findE l' n:=by
 induction l with
 |nil=>rfl
 |cons p l ih=>
  obtain⟨m,e⟩:=p
  rw[List.cons_append,findE_cons,findE_cons]
  by_cases h:m=n
  ·simp [h]
  ·simp [h,ih]
theorem findE_mem{es:Es}{n:Nat}{e:Ent}(h:findE es n=some e):(n,e)∈es:=by
 induction es with
 |nil=>cases h
 |cons p l ih=>
  obtain⟨m,x⟩:=p
  rw[findE_cons] at h
  by_cases hm:m=n
  ·rw [if_pos hm] at h;cases h;subst hm;exact List.mem_cons_self
  ·rw [if_neg hm] at h;exact List.mem_cons_of_mem _ (ih h)
theorem ELe.more{ρ:List (Option Nat)}{pre es:Es}(hp:∀p∈pre,findE es p.1=some p.2):∀{es2:Es},ELe ρ pre es2→ELe ρ es es2:=by
 have key:∀{n e},findE pre n=some e→findE es n=some e:=fun h=>hp _ (findE_mem h)
 intro es2
 induction es2 with
 |nil=>intro _;trivial
 |cons p l ih=>
  intro h
  refine⟨?_,ih h.2⟩
  have h1:=h.1
  cases hp2:p.2 with
  |var cs=>
   rw[hp2] at h1
   obtain⟨m,hm,cs1,h3,cs0,h4,h5⟩:=h1
   exact⟨m,hm,cs1,h3,cs0,key h4,h5⟩
  |map c ks xs=>
   rw[hp2] at h1
   obtain⟨m,hm,ks0,xs0,h4,h5⟩:=h1
   exact⟨m,hm,ks0,xs0,key h4,h5⟩
  |row=>
   rw[hp2] at h1
   rcases h1 with h1|⟨m,hm,h4⟩
   ·exact .inl h1
   ·exact .inr ⟨m,hm,key h4⟩
  |gone=>rw[hp2] at h1;exact h1
section
variable {E:Env} {N:Nat} {o:Oper} {a:AF}
theorem AC.use{f:FuncId}{args:List V}{σ σ':Sto}{r r':V}(h:AC E f args σ r σ')(L:List Nat)(nx news:Nat){pre post:Es}(hL:L.length=σ.nx)(hn':σ'.nx=σ.nx+news)(hd:distinct (someL (callNames L nx news))=true)
 (hin:ELe (someL L) pre σ.es) (hout:renEs (someL (callNames L nx news)) σ'.es=some post) (hcov:covers σ'.es σ'.nx=true) (hr':renV (someL (callNames L nx news)) r=some r')
 {g:Gh} {D:Nat→Prop} {es:Es} {w:World} (hR:R E.G g D es w) (hp:∀p∈pre,findE es p.1=some p.2) (hnew:∀n∈List.range' nx news,¬D n) (hLD:∀n∈L,D n) {vs:List Value} {cs:List V} (hl:vs.length=cs.length)
 (hr:∀(i:Nat) v c,vs[i]? =some v→cs[i]? =some c→VRel g D w v c) (hle:∃cs1,renVs (someL L) args=some cs1∧VsLe cs cs1) {P:Ending→World→Prop}
 (hP:∀v g' w',R E.G g' (fun n=>D n∨n∈List.range' nx news) (post++es) w'→VRel g' (fun n=>D n∨n∈List.range' nx news) w' v r'→Ext D g (Foot g es) w g' (Foot g' (post++es)) w'→P (.returned v) w'):Calls E.P f vs.toArray w P:=by
 obtain⟨cs1,h1,h2⟩:=hle
 obtain⟨_,_,h3⟩:=h
 have hin':=hin.more hp
 have hlen:(someL L).length=σ.nx:=by simp[someL,hL]
 have hdL:distinct (someL L)=true:=by
  have:∀(l:List (Option Nat)) l',distinct (l++l')=true→distinct l=true:=by
   intro l
   induction l with
   |nil=>intro l' _;rfl
   |cons x l ih=>
    intro l' hh
    cases x with
    |none=>exact ih l' hh
    |some m=>
     simp only[List.cons_append,distinct,List.all_append,Bool.and_eq_true] at hh ⊢
     exact⟨hh.1.1,ih l' hh.2⟩
  refine this (someL L) (someL (List.range' nx news)) ?_
  rw[←hd];simp[someL,callNames]
 have hRs:R E.G (g.sub (someL L)) (·<σ.nx) σ.es w:=by rw[←hlen];exact hR.sub hdL hin'
 have hnoneL:∀n,nthO (someL L) n≠some none:=fun n hc=>by rw[nthO_someL] at hc;cases hL2:L[n]? <;>rw[hL2] at hc<;>cases hc
 refine(h3 (g.sub (someL L)) w vs hRs (by rw[hl,h2.len,←renVs_len h1]) (fun i v c hv hc=> ?_)).mono ?_
 ·obtain ⟨c1,hc1⟩:=getElem?_of_len (renVs_len h1) hc
  obtain⟨c0,hc0,hle⟩:=h2.nth i c1 hc1
  have:=VRel.unren (g2:=g.sub (someL L)) (hle _ _ _ _ (hr i v c0 hv hc0)) rfl (fun _ _ h=>Gh.sub_blk h) (fun _ _ h=>Gh.sub_row h) (fun _ h=>Gh.sub_none h) c (renVs_at h1 i c c1 hc hc1)
  rw[hlen] at this
  exact this
 ·rintro e w' ⟨v,g',rfl,hR',hv,hx⟩
  let M:=callNames L nx news
  let g3:Gh:={blk:=fun n=>if n∈List.range' nx news then g'.blk (σ.nx+(n-nx)) else g.blk n,row:=fun n=>if n∈List.range' nx news then g'.row (σ.nx+(n-nx)) else g.row n,m:=g'.m}
  have hMlen:M.length=σ'.nx:=by simp[M,callNames,hL,hn']
  have hg3D:∀n,D n→g3.blk n=g.blk n∧g3.row n=g.row n:=fun n hn=>by
   have:n∉List.range' nx news:=fun hc=>hnew n hc hn
   simp only[g3,if_neg this,and_self]
  have hM:∀j n,M[j]? =some n→(j<σ.nx∧L[j]? =some n∧D n)∨(σ.nx≤j∧n=nx+(j-σ.nx)∧n∈List.range' nx news):=by
   intro j n hj
   by_cases hjL:j<L.length
   ·rw [show M=L++List.range' nx news from rfl,List.getElem?_append_left hjL] at hj
    exact .inl ⟨by omega,hj,hLD n (List.mem_of_getElem? hj)⟩
   ·rw [show M=L++List.range' nx news from rfl,List.getElem?_append_right (by omega)] at hj
    have hmem:=List.mem_of_getElem? hj
    have hlt:=(List.getElem?_eq_some_iff.1 hj).1
    rw[List.getElem?_range' (by simpa using hlt)] at hj
    simp only[Option.some.injEq] at hj
    exact .inr ⟨by omega,by omega,hmem⟩
  have hg3:∀j n,renN (someL M) j=some n→g'.blk j=g3.blk n∧g'.row j=g3.row n∧(D n∨n∈List.range' nx news):=by
   intro j n hj
   rw[renN_someL] at hj
   rcases hM j n hj with⟨h4,h5,h6⟩|⟨h4,h5,h6⟩
   ·have hs:renN (someL L) j=some n:=by rw[renN_someL];exact h5
    refine⟨?_,?_,.inl h6⟩
    ·rw [hx.blk j h4,Gh.sub_blk hs,(hg3D n h6).1]
    ·rw [hx.row j h4,Gh.sub_row hs,(hg3D n h6).2]
   ·have he:σ.nx+(n-nx)=j:=by omega
    simp only[g3,if_pos h6,he,true_and]
    exact .inr h6
  have hallM:∀n,nthO (someL M) n≠some none:=fun n hc=>by rw[nthO_someL] at hc;cases hL2:M[n]? <;>rw[hL2] at hc<;>cases hc
  have hren:∀{v c c'},VRel g' (·<σ'.nx) w' v c'→renV (someL M) c'=some c→VRel g3 (fun n=>D n∨n∈List.range' nx news) w' v c:=fun {v c c'} hv hc=>
   VRel.ren (g2:=g') (g:=g3) hv rfl (fun j n hj=>⟨(hg3 j n hj).1,(hg3 j n hj).2.2⟩) (fun j n hj=>(hg3 j n hj).2.1) hallM c hc
  have hfootin:∀b,Foot (g.sub (someL L)) σ.es b→∃m e,m∈L∧findE es m=some e∧e.foot g m=some b:=by
   rintro b ⟨n,e2,h4,h5⟩
   obtain⟨m,e,h6,h7,h8⟩:=sub_foot hin' h4 h5
   rw[renN_someL] at h6
   exact⟨m,e,List.mem_of_getElem? h6,h7,h8⟩
  have hentfoot:∀{j n e0 e b},renN (someL M) j=some n→renE (someL M) e0=some e→e.foot g3 n=some b→e0.foot g' j=some b:=by
   intro j n e0 e b hj he hb
   cases e0 with
   |var cs=>
    simp only[renE,Option.map_eq_some_iff] at he
    obtain⟨cs',_,rfl⟩:=he
    simp only[Ent.foot] at hb ⊢
    rw[(hg3 j n hj).1];exact hb
   |map c ks xs=>
    cases he
    simp only[Ent.foot] at hb ⊢
    rw[(hg3 j n hj).1];exact hb
   |row=>cases he;simp only[Ent.foot] at hb ⊢;rw[(hg3 j n hj).2.1];exact hb
   |gone=>cases he;cases hb
  have hcase:∀n e,findE (post++es) n=some e→(∃j e0,renN (someL M) j=some n∧findE σ'.es j=some e0∧renE (someL M) e0=some e)∨(n∉M∧findE es n=some e):=by
   intro n e hf
   rw[findE_append] at hf
   cases hpn:findE post n with
   |some e1=>
    rw[hpn] at hf
    simp only[Option.some.injEq] at hf
    subst hf
    exact .inl (renEs_find hd hout n e1 hpn)
   |none=>
    rw[hpn] at hf
    refine .inr ⟨fun hm=> ?_,hf⟩
    obtain⟨j,hj⟩:=List.mem_iff_getElem?.1 hm
    have hjlt:j<σ'.nx:=by rw[←hMlen];exact(List.getElem?_eq_some_iff.1 hj).1
    obtain⟨e0,he0⟩:=covers_spec hcov j hjlt
    obtain⟨e1,he1⟩:=renEs_find' hd hout j e0 n he0 (by rw[renN_someL];exact hj)
    rw[hpn] at he1;cases he1
  have hsub:∀b,Foot (g.sub (someL L)) σ.es b→Foot g es b:=fun b hb=>by
   obtain⟨m,e,_,h5,h6⟩:=hfootin b hb;exact⟨m,e,h5,h6⟩
  have hold:∀n e b,n∉M→findE es n=some e→e.foot g n=some b→¬Foot (g.sub (someL L)) σ.es b:=by
   intro n e b hn hf hb hc
   obtain⟨m,e',h4,h5,h6⟩:=hfootin b hc
   have:=hR.foots n m e e' b hf h5 hb h6
   subst this
   exact hn (List.mem_append_left _ h4)
  have holdfoot:∀n e b,n∉M→findE es n=some e→e.foot g3 n=some b→e.foot g n=some b:=by
   intro n e b hn hf hb
   have h4:=hg3D n (hR.lt n e hf)
   cases e with
   |var cs=>simp only[Ent.foot] at hb ⊢;rw[←h4.1];exact hb
   |map c ks xs=>simp only[Ent.foot] at hb ⊢;rw[←h4.1];exact hb
   |row=>simp only[Ent.foot] at hb ⊢;rw[←h4.2];exact hb
   |gone=>cases hb
  have hext:Ext D g (Foot g es) w g3 (Foot g3 (post++es)) w':=by
   refine⟨hx.os,hx.tape,hx.output,hx.size,hx.cells,hx.mark,fun n hn=>(hg3D n hn).1,fun n hn=>(hg3D n hn).2,fun b hb hF=>hx.fr b hb fun hc=>hF (hsub b hc),?_⟩
   rintro b ⟨n,e,h4,h5⟩
   rcases hcase n e h4 with⟨j,e0,h6,h7,h8⟩|⟨h6,h7⟩
   ·exact (hx.newf b ⟨j,e0,h7,hentfoot h6 h8 h5⟩).imp (hsub b) id
   ·exact .inl ⟨n,e,h7,holdfoot n e b h6 h7 h5⟩
  refine hP v g3 w' ?_ (hren hv hr') hext
  refine hR.step hx.mark hx.cells (fun n hn=> .inl hn) (fun n hn=>(hg3D n hn).1) (fun n hn=>(hg3D n hn).2) (fun n e hf=> ?_) ?_ hR'.fresh hR'.nodes
  ·rcases hcase n e hf with⟨j,e0,h6,h7,h8⟩|⟨h6,h7⟩
   ·refine .inr ⟨(hg3 j n h6).2.2,?_⟩
    have he:=hR'.ents j e0 h7
    cases e0 with
    |var cs0=>
     simp only[renE,Option.map_eq_some_iff] at h8
     obtain⟨cs',hcs,rfl⟩:=h8
     obtain⟨h9,vs',t,h10,h11,h12,h13,h14⟩:=he
     refine⟨by rw[←(hg3 j n h6).1];exact h9,vs',t,by rw[←(hg3 j n h6).1];exact h10,by have e1:=renVs_len hcs;omega,h12,fun i v c hv hc=> ?_,by rw[←(hg3 j n h6).2.1];exact h14⟩
     obtain⟨c0,hc0⟩:=getElem?_of_len (renVs_len hcs).symm hc
     exact hren (h13 i v c0 hv hc0) (renVs_at hcs i c0 c hc0 hc)
    |map c ks xs=>
     cases h8
     obtain⟨h9,vs',t,h10,h11,h12,h12',h13⟩:=he
     refine⟨by rw[←(hg3 j n h6).1];exact h9,vs',t,by rw[←(hg3 j n h6).1];exact h10,h11,h12,h12',fun i v x hv hx=> ?_⟩
     exact hren (h13 i v x hv hx) (renV_data _ c x)
    |row=>cases h8;intro ρ' hρ';exact he ρ' (by rw[(hg3 j n h6).2.1];exact hρ')
    |gone=>cases h8;trivial
   ·refine .inl ⟨h7,fun b hb=> ?_⟩
    exact hx.frame b (hR.foot_lt h7 hb) (hold n e b h6 h7 hb) (hR.foot_nd h7 hb)
  ·intro n n' e e' b h4 h5 h6 h7
   rcases hcase n e h4 with⟨j,e0,h8,h9,h10⟩|⟨h8,h9⟩<;>rcases hcase n' e' h5 with⟨j',e0',h8',h9',h10'⟩|⟨h8',h9'⟩
   ·have:=hR'.foots j j' e0 e0' b h9 h9' (hentfoot h8 h10 h6) (hentfoot h8' h10' h7)
    subst this
    rw[h8] at h8';cases h8';rfl
   ·exfalso
    have hb:=holdfoot n' e' b h8' h9' h7
    rcases hx.newf b ⟨j,e0,h9,hentfoot h8 h10 h6⟩ with hf|hf
    ·exact hold n' e' b h8' h9' hb hf
    ·have:=hR.foot_lt h9' hb;omega
   ·exfalso
    have hb:=holdfoot n e b h8 h9 h6
    rcases hx.newf b ⟨j',e0',h9',hentfoot h8' h10' h7⟩ with hf|hf
    ·exact hold n e b h8 h9 hb hf
    ·have:=hR.foot_lt h9 hb;omega
   ·exact hR.foots n n' e e' b h9 h9' (holdfoot n e b h8 h9 h6) (holdfoot n' e' b h8' h9' h7)
theorem all_D{G:Glob}{L:List Nat}{pre:Es}(h:(L.all fun n=>(findE pre n).isSome)=true){g:Gh}{D:Nat→Prop}{es:Es}{w:World}(hR:R G g D es w)(hp:∀p∈pre,findE es p.1=some p.2):∀n∈L,D n:=fun n hn=>by
 obtain⟨e,he⟩:=Option.isSome_iff_exists.1 (List.all_eq_true.1 h n hn)
 exact hR.lt n e (hp _ (findE_mem he))
theorem OS.callB{f:FuncId}{xs:List Operand}{ts:Array TypeId}{cs args:List V}{σ σ':Sto}{r r':V}{L:List Nat}{nx news:Nat}{pre post:Es}(ho:o.op= .call {callee:= .value (.func f),args:=xs.toArray,argTypes:=ts})(hx:evT E a xs ts.toList=some cs)(h:AC E f args σ r σ')
 (hL:L.length=σ.nx) (hn':σ'.nx=σ.nx+news) (hd:distinct (someL (callNames L nx news))=true) (hin:ELe (someL L) pre σ.es) (hout:renEs (someL (callNames L nx news)) σ'.es=some post) (hcov:covers σ'.es σ'.nx=true)
 (hr':renV (someL (callNames L nx news)) r=some r') (hLp:(L.all fun n=>(findE pre n).isSome)=true) (hle:∃cs1,renVs (someL L) args=some cs1∧VsLe cs cs1):OS E N o a pre r' (List.range' nx news) post:=by
 intro g D es w act hR hp hn hF K Q hK
 obtain⟨h1,h2⟩:=evT_rel hx hR hF
 exact call_wp ho h.1 (h.use L nx news hL hn' hd hin hout hcov hr' hR hp hn (all_D hLp hR hp) h1 h2 hle fun v g' w' h3 h4 h5=>⟨v,rfl,hK g' v w' h3 h4 h5⟩)
theorem OS.callVB{x:Operand}{f:FuncId}{fi caps:List V}{xs:List Operand}{ts:Array TypeId}{cs args:List V}{σ σ':Sto}{r r':V}{L:List Nat}{nx news:Nat}{pre post:Es}(ho:o.op= .call {callee:= .value x,args:=xs.toArray,argTypes:=ts})(hf:ev E 0 a x=some (.fn (.func f) fi caps))
 (hx:evT E a xs ts.toList=some cs) (h:AC E f args σ r σ')
 (hL:L.length=σ.nx) (hn':σ'.nx=σ.nx+news) (hd:distinct (someL (callNames L nx news))=true) (hin:ELe (someL L) pre σ.es) (hout:renEs (someL (callNames L nx news)) σ'.es=some post) (hcov:covers σ'.es σ'.nx=true)
 (hr':renV (someL (callNames L nx news)) r=some r') (hLp:(L.all fun n=>(findE pre n).isSome)=true) (hle:∃cs1,renVs (someL L) args=some cs1∧VsLe (fi++cs++caps) cs1):OS E N o a pre r' (List.range' nx news) post:=by
 intro g D es w act hR hp hn hF K Q hK
 obtain⟨h1,h2⟩:=evT_rel hx hR hF
 obtain⟨vs,us,h6,h7,h8,h9,h10⟩:=(ev_rel hf hR hF).fn_inv
 refine callV_wp ho h6 h.1 (h.use L nx news hL hn' hd hin hout hcov hr' hR hp hn (all_D hLp hR hp) (cs:=fi++cs++caps) (by simp at h1 ⊢;omega) (fun i v c hv hc=> ?_) hle fun v g' w' h3 h4 h5=>⟨v,rfl,hK g' v w' h3 h4 h5⟩)
 have hl1:(vs++xs.map act.eval).length=(fi++cs).length:=by simp at h1 ⊢;omega
 by_cases hi:i<(fi++cs).length
 ·rw [List.getElem?_append_left hi] at hc
  rw[List.getElem?_append_left (by omega)] at hv
  by_cases hi2:i<fi.length
  ·rw [List.getElem?_append_left hi2] at hc
   rw[List.getElem?_append_left (by omega)] at hv
   exact h9 i v c hv hc
  ·rw [List.getElem?_append_right (by omega)] at hc hv
   rw[h7] at hv
   exact h2 _ v c hv hc
 ·rw [List.getElem?_append_right (by omega)] at hc hv
  rw[hl1] at hv
  exact h10 _ v c hv hc
end
def pickE(es:Es):List Nat→Option Es
 |[]=>some []
 |n::l=>(findE es n).bind fun e=>(pickE es l).map fun l'=>(n,e)::l'
theorem pickE_ok{es:Es}:∀{L:List Nat} {pre:Es},pickE es L=some pre→preOk es pre:=by
 intro L
 induction L with
 |nil=>intro pre h;simp[pickE] at h;subst h;trivial
 |cons n l ih=>
  intro pre h
  simp only[pickE,Option.bind_eq_some_iff,Option.map_eq_some_iff] at h
  obtain⟨e,h1,l',h2,rfl⟩:=h
  exact⟨h1,ih h2⟩
theorem pickE_all{es:Es}:∀{L:List Nat} {pre:Es},pickE es L=some pre→(L.all fun n=>(findE pre n).isSome)=true:=by
 have key:∀{L:List Nat} {pre:Es},pickE es L=some pre→∀n∈L,(findE pre n).isSome=true:=by
  intro L
  induction L with
  |nil=>intro pre h n hn;cases hn
  |cons n l ih=>
   intro pre h m hm
   simp only[pickE,Option.bind_eq_some_iff,Option.map_eq_some_iff] at h
   obtain⟨e,h1,l',h2,rfl⟩:=h
   rw[findE_cons]
   by_cases hnm:n=m
   ·rw [if_pos hnm];rfl
   ·rw [if_neg hnm]
    rcases List.mem_cons.1 hm with rfl|hm
    ·exact absurd rfl hnm
    ·exact ih h2 m hm
 intro L pre h
 exact List.all_eq_true.2 (key h)
section
variable {E:Env} {N k:Nat} {a:AF} {σ:Sto} {Q:Exit→AF→Sto→Prop} {ops:List Oper} {dr:Bool} {rest:List Oper} {acc:List Rec}
variable {d:Option Tmp} {ty:TypeId} {ps:String} {af:Array Edge} {gd:Option (Nat×Bool)}
namespace L
theorem cb{f:FuncId}{xs:List Operand}{ts:List TypeId}{cs args cs1:List V}{σ1 σ2:Sto}{r r':V}{pre post:Es}(h:AC E f args σ1 r σ2)(L:List Nat)(news:Nat)(hw:wantG ops a gd=some true)(hx:evT E a xs ts=some cs)(hpre:pickE σ.es L=some pre)
 (hL:L.length=σ1.nx) (hn':σ2.nx=σ1.nx+news) (hd:distinct (someL (callNames L σ.nx news))=true) (hin:ELe (someL L) pre σ1.es) (hout:renEs (someL (callNames L σ.nx news)) σ2.es=some post) (hcov:covers σ2.es σ2.nx=true)
 (hr':renV (someL (callNames L σ.nx news)) r=some r') (hle:VsLe cs cs1) (hr:renVs (someL L) args=some cs1) (hdst:dstOk N d=true)
 (h2:AX E N k dr ops rest (a.put d r') (σ.upd news post) (⟨pre,r',news,post⟩::acc) Q):AX E N k dr ops (⟨d,.call ⟨.value (.func f),xs.toArray,ts.toArray⟩,ty,ps,af,gd⟩::rest) a σ acc Q:=
 AX.run news hw (OS.callB rfl (frT (by intro x hx;simp[Op.operands,Call.operands,hx]) hx) h hL hn' hd hin hout hcov hr' (pickE_all hpre) ⟨cs1,hr,hle⟩) (pickE_ok hpre) hdst h2
theorem cv{x:Operand}{f:FuncId}{fi caps:List V}{xs:List Operand}{ts:List TypeId}{cs args cs1:List V}{σ1 σ2:Sto}{r r':V}{pre post:Es}(h:AC E f args σ1 r σ2)(L:List Nat)(news:Nat)(hw:wantG ops a gd=some true)(hf:ev E 0 a x=some (.fn (.func f) fi caps))(hx:evT E a xs ts=some cs)
 (hpre:pickE σ.es L=some pre) (hL:L.length=σ1.nx) (hn':σ2.nx=σ1.nx+news) (hd:distinct (someL (callNames L σ.nx news))=true) (hin:ELe (someL L) pre σ1.es) (hout:renEs (someL (callNames L σ.nx news)) σ2.es=some post) (hcov:covers σ2.es σ2.nx=true)
 (hr':renV (someL (callNames L σ.nx news)) r=some r') (hle:VsLe (fi++cs++caps) cs1) (hr:renVs (someL L) args=some cs1) (hdst:dstOk N d=true)
 (h2:AX E N k dr ops rest (a.put d r') (σ.upd news post) (⟨pre,r',news,post⟩::acc) Q):AX E N k dr ops (⟨d,.call ⟨.value x,xs.toArray,ts.toArray⟩,ty,ps,af,gd⟩::rest) a σ acc Q:=
 AX.run news hw (OS.callVB rfl (fr (by simp[Op.operands,Call.operands]) hf) (frT (by intro y hy;simp[Op.operands,Call.operands,hy]) hx) h hL hn' hd hin hout hcov hr' (pickE_all hpre) ⟨cs1,hr,hle⟩) (pickE_ok hpre) hdst h2
end L
end
mutual
def V.wk:V→V
 | .slice _ l=> .slice .any l
 | .agg cs=> .agg (V.wks cs)
 | .tup cs=> .tup (V.wks cs)
 |v=>v
def V.wks:List V→List V
 |[]=>[]
 |c::cs=>c.wk::V.wks cs
end
mutual
theorem VLe.wk:∀c:V,VLe c c.wk
 | .slice sp l=> .any sp l
 | .agg cs=> .agg (VsLe.wks cs)
 | .tup cs=> .tup (VsLe.wks cs)
 | .int _ _| .bool _| .str _| .nil| .addr _| .ptr _ _| .arr _ _ _| .mp _| .nilp| .fn _ _ _| .nilf| .raw _| .ifc _ _| .nd _ _| .bor _=> .refl _
theorem VsLe.wks:∀cs:List V,VsLe cs (V.wks cs)
 |[]=>trivial
 |c::cs=>⟨VLe.wk c,VsLe.wks cs⟩
end
theorem OS.mul{E:Env}{N:Nat}{o:Oper}{a:AF}{t u:TypeId}{x y:Operand}{n m:Int}(ho:o.op= .binOp .mul t x y u)(hx:ev E t a x=some (.i n))(hy:ev E t a y=some (.i m))(h1: -9223372036854775808≤n*m)(h2:n*m≤9223372036854775807):
 OS E N o a [] (.i (n*m)) [] []:=by
 have:=OS.bin (N:=N) (c:= .int .i64 (IntKind.i64.wrap (n*m))) ho hx hy rfl
 rwa [IntWalk.i64_in _ (by omega)] at this
section
variable {E:Env} {N k:Nat} {a:AF} {σ:Sto}
theorem K.r1{rs:List ResultVar}{r:V}{cs:List V}{c1:V}(h1:resVs E a σ.es rs=some cs)(h7:renV [] r=some c1)(h8:(tupV cs).wk=c1):retQ E 0 rs r ⟨0,[]⟩ .ret a σ:=
 K.r0 h1 h7 (h8▸VLe.wk _)
theorem K.n1{rs:List ResultVar}{r:V}{cs:List V}{c1:V}(h1:resVs E a σ.es rs=some cs)(h7:renV [] r=some c1)(h8:(tupV cs).wk=c1):retQ E 0 rs r ⟨0,[]⟩ .normal a σ:=
 K.r1 (rs:=rs) h1 h7 h8
theorem K.r2{rs:List ResultVar}{r:V}{σ':Sto}{cs:List V}{c1:V}(ρ:List (Option Nat))(h1:resVs E a σ.es rs=some cs)(h2:ρ.length=σ'.nx)(h3:idTo 0 k ρ=true)(h4:distinct ρ=true)(h5:below σ.nx ρ=true)
 (h6:ELe ρ σ.es σ'.es) (h7:renV ρ r=some c1) (h8:(tupV cs).wk=c1):retQ E k rs r σ' .ret a σ:=K.rt ρ h1 h2 h3 h4 h5 h6 h7 (h8▸VLe.wk _)
theorem K.n2{rs:List ResultVar}{r:V}{σ':Sto}{cs:List V}{c1:V}(ρ:List (Option Nat))(h1:resVs E a σ.es rs=some cs)(h2:ρ.length=σ'.nx)(h3:idTo 0 k ρ=true)(h4:distinct ρ=true)(h5:below σ.nx ρ=true)
 (h6:ELe ρ σ.es σ'.es) (h7:renV ρ r=some c1) (h8:(tupV cs).wk=c1):retQ E k rs r σ' .normal a σ:=K.r2 (rs:=rs) ρ h1 h2 h3 h4 h5 h6 h7 h8
variable {Q:Exit→AF→Sto→Prop} {ops:List Oper} {dr:Bool} {rest:List Oper} {acc:List Rec}
variable {d:Option Tmp} {ty:TypeId} {ps:String} {af:Array Edge} {gd:Option (Nat×Bool)}
namespace L
theorem apt{t:TypeId}{s x:Operand}{z:Nat}{zr:List V}{e:EC}{co:Option EC}{sz bytes:Nat}{sp sp':Sp}{l l':List e.sem}(hw:wantG ops a gd=some true)(hs:ev E t a s=some (.slice sp (.t e l)))(hx:ev E t a x=some (.slice sp' (.t e l')))(ht:E.ti t=some ⟨z,zr,.slc co sz bytes⟩)
 (hsp:isGrow sp=true) (hsz:Nat.beq e.cells sz=true) (hp:preOk σ.es (appPre sp)) (hd:dstOk N d=true) (hby:Nat.ble bytes 128=true)
 (hb:l.length+l'.length≤1099511627776) (h2:AX E N k dr ops rest (a.put d (.slice (.own σ.nx) (.t e (l++l')))) (σ.upd 1 (appPost σ.nx sp)) (⟨appPre sp,.slice (.own σ.nx) (.t e (l++l')),1,appPost σ.nx sp⟩::acc) Q):
 AX E N k dr ops (⟨d,.call ⟨.builtin .append,#[s,x],#[t,t]⟩,ty,ps,af,gd⟩::rest) a σ acc Q:=
 L.ap hw hs hx ht hsp (l2:= .t e (l++l')) (by simp[SL.app]) hsz hp hd
  (by
   have h3:bytes≤128:=Nat.le_of_ble_eq_true hby
   have h4:(l.length+l'.length)*bytes≤1099511627776*128:=Nat.mul_le_mul hb h3
   exact⟨by simp only[SL.len];omega,by simp only[SL.len];omega⟩) h2
theorem aptF{t:TypeId}{s x:Operand}{z:Nat}{zr:List V}{e:EC}{co:Option EC}{sz bytes:Nat}{sp':Sp}{l l':List e.sem}(hw:wantG ops a gd=some true)(hs:ev E t a s=some (.slice .full (.t e l)))(hx:ev E t a x=some (.slice sp' (.t e l')))(ht:E.ti t=some ⟨z,zr,.slc co sz bytes⟩)
 (hsp:0<l'.length) (hsz:Nat.beq e.cells sz=true) (hd:dstOk N d=true) (hby:Nat.ble bytes 128=true)
 (hb:l.length+l'.length≤1099511627776) (h2:AX E N k dr ops rest (a.put d (.slice (.own σ.nx) (.t e (l++l')))) (σ.upd 1 [(σ.nx,.row)]) (⟨[],.slice (.own σ.nx) (.t e (l++l')),1,[(σ.nx,.row)]⟩::acc) Q):
 AX E N k dr ops (⟨d,.call ⟨.builtin .append,#[s,x],#[t,t]⟩,ty,ps,af,gd⟩::rest) a σ acc Q:=
 L.apF hw hs hx ht ⟨rfl,hsp⟩ (l2:= .t e (l++l')) (by simp[SL.app]) hsz trivial hd
  (by
   have h3:bytes≤128:=Nat.le_of_ble_eq_true hby
   have h4:(l.length+l'.length)*bytes≤1099511627776*128:=Nat.mul_le_mul hb h3
   exact⟨by simp only[SL.len];omega,by simp only[SL.len];omega⟩) h2
theorem ml{t u:TypeId}{x y:Operand}{n m:Int}(hw:wantG ops a gd=some true)(hx:ev E t a x=some (.int .i64 n))(hy:ev E t a y=some (.int .i64 m))(hd:dstOk N d=true)(h1: -9223372036854775808≤n*m∧n*m≤9223372036854775807)
 (h2:AX E N k dr ops rest (a.put d (.int .i64 (n*m))) σ (⟨[],.int .i64 (n*m),0,[]⟩::acc) Q):AX E N k dr ops (⟨d,.binOp .mul t x y u,ty,ps,af,gd⟩::rest) a σ acc Q:=
 AX.run 0 hw (OS.mul rfl (fr (by simp[Op.operands,Call.operands]) hx) (fr (by simp[Op.operands,Call.operands]) hy) h1.1 h1.2) trivial hd h2
theorem rm{t u:TypeId}{x y:Operand}{kd:IntKind}{n m:Int}(hw:wantG ops a gd=some true)(hx:ev E t a x=some (.int kd n))(hy:ev E t a y=some (.int kd m))(hd:dstOk N d=true)(h1:m≠0)
 (h2:AX E N k dr ops rest (a.put d (.int kd (n.tmod m))) σ (⟨[],.int kd (n.tmod m),0,[]⟩::acc) Q):AX E N k dr ops (⟨d,.binOp .rem t x y u,ty,ps,af,gd⟩::rest) a σ acc Q:=
 AX.run 0 hw (OS.rem rfl (fr (by simp[Op.operands,Call.operands]) hx) (fr (by simp[Op.operands,Call.operands]) hy) h1) trivial hd h2
theorem c2{f:FuncId}{xs:List Operand}{ts:List TypeId}{cs args:List V}{r:V}(h:PC E f args r)(hw:wantG ops a gd=some true)(hx:evT E a xs ts=some cs)(hr:renVs [] args=some (V.wks cs))(hd:dstOk N d=true)
 (h2:AX E N k dr ops rest (a.put d r) σ (⟨[],r,0,[]⟩::acc) Q):AX E N k dr ops (⟨d,.call ⟨.value (.func f),xs.toArray,ts.toArray⟩,ty,ps,af,gd⟩::rest) a σ acc Q:=
 L.c0 h hw hx hr (VsLe.wks cs) hd h2
theorem cb2{f:FuncId}{xs:List Operand}{ts:List TypeId}{cs args:List V}{σ1 σ2:Sto}{r r':V}{pre post:Es}(h:AC E f args σ1 r σ2)(L:List Nat)(news:Nat)(hw:wantG ops a gd=some true)(hx:evT E a xs ts=some cs)(hpre:pickE σ.es L=some pre)
 (hL:L.length=σ1.nx) (hn':σ2.nx=σ1.nx+news) (hd:distinct (someL (callNames L σ.nx news))=true) (hr:renVs (someL L) args=some (V.wks cs)) (hin:ELe (someL L) pre σ1.es) (hout:renEs (someL (callNames L σ.nx news)) σ2.es=some post) (hcov:covers σ2.es σ2.nx=true)
 (hr':renV (someL (callNames L σ.nx news)) r=some r') (hdst:dstOk N d=true)
 (h2:AX E N k dr ops rest (a.put d r') (σ.upd news post) (⟨pre,r',news,post⟩::acc) Q):AX E N k dr ops (⟨d,.call ⟨.value (.func f),xs.toArray,ts.toArray⟩,ty,ps,af,gd⟩::rest) a σ acc Q:=
 Go.Ab.L.cb h L news hw hx hpre hL hn' hd hin hout hcov hr' (VsLe.wks cs) hr hdst h2
theorem cv2{x:Operand}{f:FuncId}{fi caps:List V}{xs:List Operand}{ts:List TypeId}{cs args:List V}{σ1 σ2:Sto}{r r':V}{pre post:Es}(h:AC E f args σ1 r σ2)(L:List Nat)(news:Nat)(hw:wantG ops a gd=some true)(hf:ev E 0 a x=some (.fn (.func f) fi caps))(hx:evT E a xs ts=some cs)
 (hpre:pickE σ.es L=some pre) (hL:L.length=σ1.nx) (hn':σ2.nx=σ1.nx+news) (hd:distinct (someL (callNames L σ.nx news))=true) (hr:renVs (someL L) args=some (V.wks (fi++cs++caps))) (hin:ELe (someL L) pre σ1.es) (hout:renEs (someL (callNames L σ.nx news)) σ2.es=some post) (hcov:covers σ2.es σ2.nx=true)
 (hr':renV (someL (callNames L σ.nx news)) r=some r') (hdst:dstOk N d=true)
 (h2:AX E N k dr ops rest (a.put d r') (σ.upd news post) (⟨pre,r',news,post⟩::acc) Q):AX E N k dr ops (⟨d,.call ⟨.value x,xs.toArray,ts.toArray⟩,ty,ps,af,gd⟩::rest) a σ acc Q:=
 Go.Ab.L.cv h L news hw hf hx hpre hL hn' hd hin hout hcov hr' (VsLe.wks _) hr hdst h2
theorem bs1{t:TypeId}{x:Operand}{z:Nat}{zr:List V}{e:EC}{sz bytes:Nat}{c:V}{vc:List V}{y:e.sem}(hw:wantG ops a gd=some true)(ht:E.ti t=some ⟨z,zr,.slc (some e) sz bytes⟩)(hev:ev E 0 a x=some c)(hcs:cellsOf c=some vc)(hsz:Nat.beq vc.length sz=true)(hf:e.fold vc=some y)
 (hb:Nat.ble (1*sz) 16777216=true) (hd:dstOk N d=true) (h2:AX E N k dr ops rest (a.put d (.slice .full (.t e [y]))) σ (⟨[],.slice .full (.t e [y]),0,[]⟩::acc) Q):
 AX E N k dr ops (⟨d,.buildSlice t 1 #[(0,x)],ty,ps,af,gd⟩::rest) a σ acc Q:=
 L.bs (pp:=[(0,x)]) (cs:=[c]) (vcs:=[vc]) 0 hw ht rfl rfl (by simp[evs,hev]) (by simp[mapO,hcs]) (by simp only[List.all_cons,List.all_nil,hsz];rfl) (by simp[foldS,mapO,hf]) hb hd h2
theorem bs2{t:TypeId}{x x':Operand}{z:Nat}{zr:List V}{e:EC}{sz bytes:Nat}{c c':V}{vc vc':List V}{y y':e.sem}(hw:wantG ops a gd=some true)(ht:E.ti t=some ⟨z,zr,.slc (some e) sz bytes⟩)(hev:ev E 0 a x=some c)(hcs:cellsOf c=some vc)(hsz:Nat.beq vc.length sz=true)(hf:e.fold vc=some y)
 (hev':ev E 0 a x'=some c') (hcs':cellsOf c'=some vc') (hsz':Nat.beq vc'.length sz=true) (hf':e.fold vc'=some y')
 (hb:Nat.ble (2*sz) 16777216=true) (hd:dstOk N d=true) (h2:AX E N k dr ops rest (a.put d (.slice .full (.t e [y,y']))) σ (⟨[],.slice .full (.t e [y,y']),0,[]⟩::acc) Q):
 AX E N k dr ops (⟨d,.buildSlice t 2 #[(0,x),(1,x')],ty,ps,af,gd⟩::rest) a σ acc Q:=
 L.bs (pp:=[(0,x),(1,x')]) (cs:=[c,c']) (vcs:=[vc,vc']) 0 hw ht rfl rfl (by simp[evs,hev,hev']) (by simp[mapO,hcs,hcs']) (by simp only[List.all_cons,List.all_nil,hsz,hsz'];rfl) (by simp[foldS,mapO,hf,hf']) hb hd h2
theorem bs3{t:TypeId}{x x' x2:Operand}{z:Nat}{zr:List V}{e:EC}{sz bytes:Nat}{c c' c2:V}{vc vc' vc2:List V}{y y' y2:e.sem}(hw:wantG ops a gd=some true)(ht:E.ti t=some ⟨z,zr,.slc (some e) sz bytes⟩)(hev:ev E 0 a x=some c)(hcs:cellsOf c=some vc)(hsz:Nat.beq vc.length sz=true)(hf:e.fold vc=some y)
 (hev':ev E 0 a x'=some c') (hcs':cellsOf c'=some vc') (hsz':Nat.beq vc'.length sz=true) (hf':e.fold vc'=some y') (hev2:ev E 0 a x2=some c2) (hcs2:cellsOf c2=some vc2) (hsz2:Nat.beq vc2.length sz=true) (hf2:e.fold vc2=some y2)
 (hb:Nat.ble (3*sz) 16777216=true) (hd:dstOk N d=true) (h2:AX E N k dr ops rest (a.put d (.slice .full (.t e [y,y',y2]))) σ (⟨[],.slice .full (.t e [y,y',y2]),0,[]⟩::acc) Q):
 AX E N k dr ops (⟨d,.buildSlice t 3 #[(0,x),(1,x'),(2,x2)],ty,ps,af,gd⟩::rest) a σ acc Q:=
 L.bs (pp:=[(0,x),(1,x'),(2,x2)]) (cs:=[c,c',c2]) (vcs:=[vc,vc',vc2]) 0 hw ht rfl rfl (by simp[evs,hev,hev',hev2]) (by simp[mapO,hcs,hcs',hcs2]) (by simp only[List.all_cons,List.all_nil,hsz,hsz',hsz2];rfl) (by simp[foldS,mapO,hf,hf',hf2]) hb hd h2
end L
end
theorem EC.fold_of{e:EC}{y:e.sem}{vc:List V}(h:vc=e.view y):e.fold vc=some y:=by
 subst h
 cases e with
 |ty=>cases y;rfl
 |tm=>rcases y with⟨_,_,⟨_,_⟩,_⟩;rfl
 |vl=>cases y;rfl
 |fm=>rcases y with⟨_,⟨_,_⟩,_,_⟩;rfl
 |pf=>rcases y with⟨_,_,⟨_,_⟩,_,_,_⟩;rfl
 |gl=>rcases y with⟨⟨_,_⟩,⟨_,⟨_,_⟩,_,_⟩⟩;rfl
 |st=>cases y;rfl
 |sz=>rcases y with⟨⟨_,_⟩,_⟩;rfl
 |tk=>cases y;rfl
 |int=>rfl
 |u8=>rfl
 |str=>rfl
 |tys=>rfl
 |tms=>rfl
 |bl=>rfl
 |nd=>rfl
 |rs=>rcases y with⟨_,_,_,⟨_,_,⟨_,_⟩,_⟩,_⟩;rfl
section
variable {E:Env} {N k:Nat} {a:AF} {σ:Sto} {Q:Exit→AF→Sto→Prop}
def dwnQ(E:Env)(N k:Nat)(B:Nat)(v p q:Tmp)(m:Nat)(P:Nat→Prop)(J:Nat→AF×Sto)(Q:Exit→AF→Sto→Prop):Exit→AF→Sto→Prop
 | .normal,a,σ=>a.get v=some (.int .i64 ((m+1:Nat):Int))∧P m∧Weak E N k ((v,.int .i64 (m:Int))::(q,.int .i64 (m:Int))::(p,.int .i64 ((m+1:Nat):Int))::a) σ (J m).1 (J m).2
 | .exit id,a,σ=>bif Nat.beq id B then Q .normal a σ else Q (.exit id) a σ
 |e,a,σ=>Q e a σ
theorem AW.down{B C r1 r2:Nat}{c v p p2 q:Tmp}{T T' T2 T3:TypeId}{ty0 ty1 ty2 ty3 ty4:TypeId}{s0 s1 s2 s3 s4:String}{af0 af1 af2 af3 af4:Array Edge}{body:Code}(len:Nat)(P:Nat→Prop)(J:Nat→AF×Sto)(hlen:len<4611686018427387904)
 (hv:∀m,(J m).1.get v=some (.int .i64 m)) (hd:(dstOk N (some c)&&dstOk N (some p)&&dstOk N (some p2)&&dstOk N (some q)&&dstOk N (some v)&&(!Nat.beq q p2)&&(!Nat.beq p2 v))=true) (hP:P len) (h0:Weak E N k a σ (J len).1 (J len).2)
 (hb:∀m,m<len→P (m+1)→AW E N k body ((c,.bool true)::(p,.int .i64 ((m+1:Nat):Int))::(J (m+1)).1) (J (m+1)).2 (blockQ C (dwnQ E N k B v p2 q m P J Q)))
 (he:P 0→Q .normal ((c,.bool false)::(p,.int .i64 ((0:Nat):Int))::(J 0).1) (J 0).2):
 AW E N k (.block B (.loop (.seq (.seq (.region r1 #[⟨some p,.move (.tmp v),ty0,s0,af0,none⟩,⟨some c,.binOp .gtr T (.tmp p) (.const (.int .i64 0)) T',ty1,s1,af1,none⟩] false)
  (.cond (.tmp c) .skip (.exit B))) (.seq (.block C body)
   (.region r2 #[⟨some p2,.move (.tmp v),ty2,s2,af2,none⟩,⟨some q,.binOp .sub T2 (.tmp p2) (.const (.int .i64 1)) T3,ty3,s3,af3,none⟩,⟨some v,.assign (.tmp q),ty4,s4,af4,none⟩] false))))) a σ Q:=by
 simp only[Bool.and_eq_true] at hd
 obtain⟨⟨⟨⟨⟨⟨hd1,hd2⟩,hd3⟩,hd4⟩,hd5⟩,hd6⟩,hd7⟩:=hd
 refine .block (.loop (ι:={m:Nat // m≤len∧P m}) (fun m=>J m.1) (fun m=>m.1) ⟨len,Nat.le_refl _,hP⟩ h0 fun⟨m,hm,hPm⟩=> ?_)
 refine .seq (.seq (.regL (L.mv rfl (hv m) hd2 (L.bn rfl (show ev E T _ (.tmp p)=some (.int .i64 (m:Int)) by simp[ev,AF.put,AF.get]) (show ev E T _ (.const (.int .i64 0))=some (.int .i64 0) from rfl) rfl hd1 (.nilL ?_)))))
 show AW E N k _ ((c,.bool (decide ((m:Int)>0)))::(p,.int .i64 (m:Int))::(J m).1) (J m).2 _
 cases m with
 |succ m=>
  have hdec:decide (((m+1:Nat):Int)>0)=true:=by simp
  rw[hdec]
  refine .condT (by simp[ev,AF.get]) (.skip ?_)
  show AW E N k _ _ _ _
  refine .seq (.block ((hb m (by omega) hPm).mono ?_))
  rintro e a1 σ1 hq
  have hnorm:dwnQ E N k B v p2 q m P J Q .normal a1 σ1→thenQ E N k (.region r2 #[⟨some p2,.move (.tmp v),ty2,s2,af2,none⟩,⟨some q,.binOp .sub T2 (.tmp p2) (.const (.int .i64 1)) T3,ty3,s3,af3,none⟩,⟨some v,.assign (.tmp q),ty4,s4,af4,none⟩] false)
   (loopQ E N k (fun m:{m:Nat // m≤len∧P m}=>J m.1) (fun m=>m.1) ⟨m+1,hm,hPm⟩ (blockQ B Q)) .normal a1 σ1:=by
   rintro⟨h1,h2,h3⟩
   show AW E N k _ _ _ _
   refine .regL (L.mv rfl h1 hd3 (L.sb rfl (show ev E T2 _ (.tmp p2)=some (.int .i64 ((m+1:Nat):Int)) by simp[ev,AF.put,AF.get]) (show ev E T2 _ (.const (.int .i64 1))=some (.int .i64 1) from rfl) hd4 (by omega)
    (L.asg rfl (show ev E ty4 _ (.tmp q)=some (.int .i64 (((m+1:Nat):Int)-1)) by simp[ev,AF.put,AF.get]) hd5 (.nilL ?_))))
   rw[show(((m+1:Nat):Int)-1)=(m:Int) from by omega]
   exact⟨⟨m,by omega,h2⟩,by show m<m+1;omega,h3⟩
  cases e with
  |normal=>exact hnorm hq
  |exit id=>
   simp only[blockQ] at hq ⊢
   cases hb:Nat.beq id C with
   |true=>rw[hb] at hq;exact hnorm hq
   |false=>rw[hb] at hq;exact hq
  |goto l=>exact hq
  |ret=>exact hq
  |panic ch=>exact hq
  |outgrown=>exact hq
 |zero=>
  have hdec:decide (((0:Nat):Int)>0)=false:=by simp
  rw[hdec]
  refine .condF (by simp[ev,AF.get]) (.exit ?_)
  show blockQ B Q (.exit B) _ _
  simp only[blockQ,Nat.beq_refl,cond_true]
  exact he hPm
namespace K
theorem dR{B:Nat}{i d q:Tmp}{m:Nat}{P:Nat→Prop}{J:Nat→AF×Sto}(h:Q .ret a σ):dwnQ E N k B i d q m P J Q .ret a σ:=h
end K
end
section
variable {E:Env} {N k:Nat} {a:AF} {σ:Sto} {Q:Exit→AF→Sto→Prop}
def dwgQ(E:Env)(N k:Nat)(B:Nat)(v p q:Tmp)(m:Nat)(P:Nat→Prop)(J:Nat→AF×Sto)(Q:Exit→AF→Sto→Prop):Exit→AF→Sto→Prop
 | .normal,a,σ=>a.get v=some (.int .i64 (((m+1:Nat):Int)-1))∧P m∧Weak E N k ((v,.int .i64 ((m:Int)-1))::(q,.int .i64 ((m:Int)-1))::(p,.int .i64 (((m+1:Nat):Int)-1))::a) σ (J m).1 (J m).2
 | .exit id,a,σ=>bif Nat.beq id B then Q .normal a σ else Q (.exit id) a σ
 |e,a,σ=>Q e a σ
theorem AW.downG{B C r1 r2:Nat}{c v p p2 q:Tmp}{T T' T2 T3:TypeId}{ty0 ty1 ty2 ty3 ty4:TypeId}{s0 s1 s2 s3 s4:String}{af0 af1 af2 af3 af4:Array Edge}{body:Code}(len:Nat)(P:Nat→Prop)(J:Nat→AF×Sto)(hlen:len<4611686018427387904)
 (hv:∀m,(J m).1.get v=some (.int .i64 ((m:Int)-1))) (hd:(dstOk N (some c)&&dstOk N (some p)&&dstOk N (some p2)&&dstOk N (some q)&&dstOk N (some v)&&(!Nat.beq q p2)&&(!Nat.beq p2 v))=true) (hP:P len) (h0:Weak E N k a σ (J len).1 (J len).2)
 (hb:∀m,m<len→P (m+1)→AW E N k body ((c,.bool true)::(p,.int .i64 (((m+1:Nat):Int)-1))::(J (m+1)).1) (J (m+1)).2 (blockQ C (dwgQ E N k B v p2 q m P J Q)))
 (he:P 0→Q .normal ((c,.bool false)::(p,.int .i64 (((0:Nat):Int)-1))::(J 0).1) (J 0).2):
 AW E N k (.block B (.loop (.seq (.seq (.region r1 #[⟨some p,.move (.tmp v),ty0,s0,af0,none⟩,⟨some c,.binOp .geq T (.tmp p) (.const (.int .i64 0)) T',ty1,s1,af1,none⟩] false)
  (.cond (.tmp c) .skip (.exit B))) (.seq (.block C body)
   (.region r2 #[⟨some p2,.move (.tmp v),ty2,s2,af2,none⟩,⟨some q,.binOp .sub T2 (.tmp p2) (.const (.int .i64 1)) T3,ty3,s3,af3,none⟩,⟨some v,.assign (.tmp q),ty4,s4,af4,none⟩] false))))) a σ Q:=by
 simp only[Bool.and_eq_true] at hd
 obtain⟨⟨⟨⟨⟨⟨hd1,hd2⟩,hd3⟩,hd4⟩,hd5⟩,hd6⟩,hd7⟩:=hd
 refine .block (.loop (ι:={m:Nat // m≤len∧P m}) (fun m=>J m.1) (fun m=>m.1) ⟨len,Nat.le_refl _,hP⟩ h0 fun⟨m,hm,hPm⟩=> ?_)
 refine .seq (.seq (.regL (L.mv rfl (hv m) hd2 (L.bn rfl (show ev E T _ (.tmp p)=some (.int .i64 ((m:Int)-1)) by simp[ev,AF.put,AF.get]) (show ev E T _ (.const (.int .i64 0))=some (.int .i64 0) from rfl) rfl hd1 (.nilL ?_)))))
 show AW E N k _ ((c,.bool (decide ((m:Int)-1≥0)))::(p,.int .i64 ((m:Int)-1))::(J m).1) (J m).2 _
 cases m with
 |succ m=>
  have hdec:decide (((m+1:Nat):Int)-1≥0)=true:=by simp
  rw[hdec]
  refine .condT (by simp[ev,AF.get]) (.skip ?_)
  show AW E N k _ _ _ _
  refine .seq (.block ((hb m (by omega) hPm).mono ?_))
  rintro e a1 σ1 hq
  have hnorm:dwgQ E N k B v p2 q m P J Q .normal a1 σ1→thenQ E N k (.region r2 #[⟨some p2,.move (.tmp v),ty2,s2,af2,none⟩,⟨some q,.binOp .sub T2 (.tmp p2) (.const (.int .i64 1)) T3,ty3,s3,af3,none⟩,⟨some v,.assign (.tmp q),ty4,s4,af4,none⟩] false)
   (loopQ E N k (fun m:{m:Nat // m≤len∧P m}=>J m.1) (fun m=>m.1) ⟨m+1,hm,hPm⟩ (blockQ B Q)) .normal a1 σ1:=by
   rintro⟨h1,h2,h3⟩
   show AW E N k _ _ _ _
   refine .regL (L.mv rfl h1 hd3 (L.sb rfl (show ev E T2 _ (.tmp p2)=some (.int .i64 (((m+1:Nat):Int)-1)) by simp[ev,AF.put,AF.get]) (show ev E T2 _ (.const (.int .i64 1))=some (.int .i64 1) from rfl) hd4 (by omega)
    (L.asg rfl (show ev E ty4 _ (.tmp q)=some (.int .i64 (((m+1:Nat):Int)-1-1)) by simp[ev,AF.put,AF.get]) hd5 (.nilL ?_))))
   rw[show(((m+1:Nat):Int)-1-1)=(m:Int)-1 from by omega]
   exact⟨⟨m,by omega,h2⟩,by show m<m+1;omega,h3⟩
  cases e with
  |normal=>exact hnorm hq
  |exit id=>
   simp only[blockQ] at hq ⊢
   cases hb:Nat.beq id C with
   |true=>rw[hb] at hq;exact hnorm hq
   |false=>rw[hb] at hq;exact hq
  |goto l=>exact hq
  |ret=>exact hq
  |panic ch=>exact hq
  |outgrown=>exact hq
 |zero=>
  have hdec:decide (((0:Nat):Int)-1≥0)=false:=by simp
  rw[hdec]
  refine .condF (by simp[ev,AF.get]) (.exit ?_)
  show blockQ B Q (.exit B) _ _
  simp only[blockQ,Nat.beq_refl,cond_true]
  exact he hPm
namespace K
theorem hR{B:Nat}{i d q:Tmp}{m:Nat}{P:Nat→Prop}{J:Nat→AF×Sto}(h:Q .ret a σ):dwgQ E N k B i d q m P J Q .ret a σ:=h
end K
variable {ops:List Oper} {dr:Bool} {rest:List Oper} {acc:List Rec} {d:Option Tmp} {ty:TypeId} {ps:String} {af:Array Edge} {gd:Option (Nat×Bool)}
namespace L
theorem sl{t:TypeId}{x:Operand}{ylo yhi:Option Operand}{lo hi:Nat}{z:Nat}{zr:List V}{c:EC}{co:Option EC}{sz bytes:Nat}{sp:Sp}{xs:List c.sem}(hw:wantG ops a gd=some true)(hx:ev E t a x=some (.slice sp (.t c xs)))(ht:E.ti t=some ⟨z,zr,.slc co sz bytes⟩)
 (hlo:optV E a 0 ylo=some lo) (hhi:optV E a xs.length yhi=some hi) (hsz:Nat.beq c.cells sz=true) (hd:dstOk N d=true) (hb:lo≤hi∧hi≤xs.length)
 (h2:AX E N k dr ops rest (a.put d (.slice .any (.t c ((xs.drop lo).take (hi-lo))))) σ (⟨[],.slice .any (.t c ((xs.drop lo).take (hi-lo))),0,[]⟩::acc) Q):AX E N k dr ops (⟨d,.slice t x ylo yhi none,ty,ps,af,gd⟩::rest) a σ acc Q:=by
 have key:∀{a':AF} {d' n:Nat} {y:Option Operand},optV E a d' y=some n→(∀x,y=some x→ev E 0 a' x=ev E 0 a x)→optV E a' d' y=some n:=by
  intro a' d' n y h1 h2
  cases y with
  |none=>exact h1
  |some x=>simp only[optV] at h1 ⊢;rw[h2 x rfl];exact h1
 refine AX.run 0 hw (OS.slice2 (l:= .t c xs) rfl ht rfl (fr (by simp[Op.operands,Call.operands]) hx) ?_ ?_ hb.1 hb.2 hsz) trivial hd h2
 ·exact key hlo fun y hy=>fr_eq (by subst hy;simp[Op.operands])
 ·exact key hhi fun y hy=>fr_eq (by subst hy;simp[Op.operands])
end L
end
theorem ti_bool{E:Env}{t:TypeId}{i:TI}(h:E.ti t=some i)(hd:i.desc= .bool):E.P.underlying t=some .bool:=by
 obtain⟨d,h1,h2⟩:=ti_desc h
 rw[hd] at h2
 cases d<;>first|exact h1|(simp at h2)
theorem ti_int{E:Env}{t:TypeId}{i:TI}{kd:IntKind}(h:E.ti t=some i)(hd:i.desc= .int kd):E.P.underlying t=some (.int kd):=by
 obtain⟨d,h1,h2⟩:=ti_desc h
 rw[hd] at h2
 cases d<;>first|(simp only[decide_eq_true_eq] at h2;rw[←h2];exact h1)|(simp at h2)
section
variable {E:Env} {N k:Nat} {o:Oper} {a:AF}
theorem OS.convert{s t:TypeId}{x:Operand}{is it:TI}{k1 k2:IntKind}{n:Int}(ho:o.op= .convert s t x)(hs:E.ti s=some is)(ht:E.ti t=some it)(hd:it.desc= .int k2)(hx:ev E s a x=some (.int k1 n)):
 OS E N o a [] (.int k2 (k2.wrap n)) [] []:=
 .pure fun g D es w act hR _ hF=>by
  have h1:=(ev_rel hx hR hF).int_inv
  obtain⟨d,h2,_⟩:=ti_desc hs
  have h3:=ti_int ht hd
  have h4:E.P.intKind t=k2:=by simp[Program.intKind,h3]
  have h5:=run_convert_int (P:=E.P) w s t k1 n (by simp[h2]) (by rw[h4];exact h3)
  rw[h4] at h5
  exact⟨.int k2 (k2.wrap n),by simp[execOp,ho,h1,h5],.data (.int _ _)⟩
theorem OS.appendE{t:TypeId}{s x:Operand}{i:TI}{c:Option EC}{sz bytes:Nat}{sp':Sp}{l l':SL V}(ho:o.op= .call {callee:= .builtin .append,args:= #[s,x],argTypes:= #[t,t]})
 (ht:E.ti t=some i) (hd:i.desc= .slc c sz bytes) (hs:ev E t a s=some (.slice .full l)) (hx:ev E t a x=some (.slice sp' l')) (hm:l'.len=0) (hsz:Nat.beq l'.cells sz=true):OS E N o a [] (.slice .full l) [] []:=
 .pure fun g D es w act hR _ hF=>by
  obtain⟨e,inf,z,h1,h2,h3,h4,h5,h6,h7,h8⟩:=slc_inv ht hd
  have hvs:=ev_rel hs hR hF
  have hdx:=(ev_rel hx hR hF).slice_inv
  obtain⟨xb,xc,hxv⟩:=hdx.slice_inv
  obtain⟨news,hnl,hn1,hnf,hnr,hnl2⟩:=hdx.cells_of
  rw[hxv] at hnf
  have hcs:l'.cells=sz:=Nat.eq_of_beq_eq_true hsz
  have hnews:news=[]:=List.eq_nil_of_length_eq_zero (by rw[hnl,hm];simp)
  have hf:=hnf w rfl E.P
  rw[hnews,hm,hcs,←h3] at hf
  have hrun:∀b m,(Builtin.append_ #[t,t] o.type #[.slice b m m,act.eval x]).run E.P w= .ok (.slice b m m) w:=fun b m=>by
   rw[hxv,hm];exact run_app_zero h1 h2 (Nat.le_refl _) hf
  refine⟨act.eval s,?_,hvs⟩
  have key:∃b m,act.eval s= .slice b m m:=by
   generalize hv:act.eval s=v at hvs
   cases hvs with
   |data h=>cases h
   |fullNil _ hl0=>exact⟨none,0,rfl⟩
   |full a m _ hdr=>exact⟨some a,m,rfl⟩
  obtain⟨b,m,hb⟩:=key
  simp[execOp,ho,resolve,invoke,builtin,hb,hrun]
end
section
variable {E:Env} {N k:Nat} {a:AF} {σ:Sto} {Q:Exit→AF→Sto→Prop} {ops:List Oper} {dr:Bool} {rest:List Oper} {acc:List Rec}
variable {d:Option Tmp} {ty:TypeId} {ps:String} {af:Array Edge} {gd:Option (Nat×Bool)}
namespace L
theorem be{t u:TypeId}{x y:Operand}{z:Nat}{zr:List V}{b c:Bool}(hw:wantG ops a gd=some true)(hx:ev E t a x=some (.bool b))(hy:ev E t a y=some (.bool c))(ht:E.ti t=some ⟨z,zr,.bool⟩)(hd:dstOk N d=true)
 (h2:AX E N k dr ops rest (a.put d (.bool (b==c))) σ (⟨[],.bool (b==c),0,[]⟩::acc) Q):AX E N k dr ops (⟨d,.binOp .eql t x y u,ty,ps,af,gd⟩::rest) a σ acc Q:=
 AX.run 0 hw (OS.binBool rfl (.inl rfl) (ti_bool ht rfl) (fr (by simp[Op.operands,Call.operands]) hx) (fr (by simp[Op.operands,Call.operands]) hy)) trivial hd h2
theorem bnq{t u:TypeId}{x y:Operand}{z:Nat}{zr:List V}{b c:Bool}(hw:wantG ops a gd=some true)(hx:ev E t a x=some (.bool b))(hy:ev E t a y=some (.bool c))(ht:E.ti t=some ⟨z,zr,.bool⟩)(hd:dstOk N d=true)
 (h2:AX E N k dr ops rest (a.put d (.bool (!(b==c)))) σ (⟨[],.bool (!(b==c)),0,[]⟩::acc) Q):AX E N k dr ops (⟨d,.binOp .neq t x y u,ty,ps,af,gd⟩::rest) a σ acc Q:=
 AX.run 0 hw (OS.binBool rfl (.inr rfl) (ti_bool ht rfl) (fr (by simp[Op.operands,Call.operands]) hx) (fr (by simp[Op.operands,Call.operands]) hy)) trivial hd h2
theorem cvt{s t:TypeId}{x:Operand}{is:TI}{z:Nat}{zr:List V}{k1 k2:IntKind}{n:Int}(hw:wantG ops a gd=some true)(hx:ev E s a x=some (.int k1 n))(hs:E.ti s=some is)(ht:E.ti t=some ⟨z,zr,.int k2⟩)(hd:dstOk N d=true)
 (h2:AX E N k dr ops rest (a.put d (.int k2 (k2.wrap n))) σ (⟨[],.int k2 (k2.wrap n),0,[]⟩::acc) Q):AX E N k dr ops (⟨d,.convert s t x,ty,ps,af,gd⟩::rest) a σ acc Q:=
 AX.run 0 hw (OS.convert rfl hs ht rfl (fr (by simp[Op.operands,Call.operands]) hx)) trivial hd h2
theorem cvi{s t:TypeId}{x:Operand}{is:TI}{z:Nat}{zr:List V}{k1:IntKind}{n:Int}(hw:wantG ops a gd=some true)(hx:ev E s a x=some (.int k1 n))(hs:E.ti s=some is)(ht:E.ti t=some ⟨z,zr,.int .i64⟩)(hd:dstOk N d=true)(hb: -9223372036854775808≤n∧n≤9223372036854775807)
 (h2:AX E N k dr ops rest (a.put d (.int .i64 n)) σ (⟨[],.int .i64 n,0,[]⟩::acc) Q):AX E N k dr ops (⟨d,.convert s t x,ty,ps,af,gd⟩::rest) a σ acc Q:=by
 refine L.cvt hw hx hs ht hd ?_
 rw[IntWalk.i64_in _ (by omega)]
 exact h2
theorem apE{t:TypeId}{s x:Operand}{z:Nat}{zr:List V}{e:EC}{co:Option EC}{sz bytes:Nat}{sp':Sp}{l l':List e.sem}(hw:wantG ops a gd=some true)(hs:ev E t a s=some (.slice .full (.t e l)))(hx:ev E t a x=some (.slice sp' (.t e l')))(ht:E.ti t=some ⟨z,zr,.slc co sz bytes⟩)
 (hm:l'=[]) (hsz:Nat.beq e.cells sz=true) (hd:dstOk N d=true)
 (h2:AX E N k dr ops rest (a.put d (.slice .full (.t e l))) σ (⟨[],.slice .full (.t e l),0,[]⟩::acc) Q):
 AX E N k dr ops (⟨d,.call ⟨.builtin .append,#[s,x],#[t,t]⟩,ty,ps,af,gd⟩::rest) a σ acc Q:=
 AX.run 0 hw (OS.appendE rfl ht rfl (fr (by simp[Op.operands,Call.operands]) hs) (fr (by simp[Op.operands,Call.operands]) hx) (by simp[SL.len,hm]) hsz) trivial hd h2
end L
end
theorem fview_len(c:EC)(xs:List c.sem):(xs.flatMap c.view).length=xs.length*c.cells:=by
 induction xs with
 |nil=>simp
 |cons x xs ih=>rw[List.flatMap_cons,List.length_append,ih,EC.view_len,List.length_cons,Nat.add_mul];omega
theorem fview_get(c:EC):∀(xs:List c.sem) (i j:Nat),j<c.cells→(xs.flatMap c.view)[i*c.cells+j]? =(xs[i]?).bind fun x=>(c.view x)[j]?
 |[],i,j,hj=>by simp
 |x::xs,0,j,hj=>by
  rw[List.flatMap_cons,Nat.zero_mul,Nat.zero_add,List.getElem?_append_left (by rw[EC.view_len];exact hj)]
  rfl
 |x::xs,i+1,j,hj=>by
  have h1:(i+1)*c.cells+j=(c.view x).length+(i*c.cells+j):=by rw[EC.view_len,Nat.add_mul];omega
  rw[List.flatMap_cons,h1,List.getElem?_append_right (by omega),Nat.add_sub_cancel_left,fview_get c xs i j hj]
  rfl
theorem fview_set(c:EC):∀(xs:List c.sem) (i:Nat) (y:c.sem),i<xs.length→(xs.flatMap c.view).take (i*c.cells)++c.view y++(xs.flatMap c.view).drop (i*c.cells+c.cells)=(xs.set i y).flatMap c.view
 |[],i,y,hi=>by simp at hi
 |x::xs,0,y,_=>by
  rw[List.flatMap_cons,List.set_cons_zero,List.flatMap_cons,Nat.zero_mul,Nat.zero_add,List.take_zero,List.nil_append]
  congr 1
  have:=EC.view_len c x
  rw[←this,List.drop_left]
 |x::xs,i+1,y,hi=>by
  have h0:=EC.view_len c x
  have h1:(i+1)*c.cells=(c.view x).length+i*c.cells:=by rw[h0,Nat.add_mul];omega
  have h2:(i+1)*c.cells+c.cells=(c.view x).length+(i*c.cells+c.cells):=by rw[h1];omega
  rw[List.flatMap_cons,List.set_cons_succ,List.flatMap_cons,h2,h1,List.drop_append,List.take_append]
  rw[List.take_of_length_le (by omega),List.drop_of_length_le (by omega),Nat.add_sub_cancel_left,Nat.add_sub_cancel_left,List.nil_append,List.append_assoc,List.append_assoc]
  rw[←fview_set c xs i y (by simpa using hi),List.append_assoc]
theorem zeroCells_one{z:Array Value}(h:∀v∈z.toList,v.oneCell'=true)(n:Nat):∀v∈(Builtin.zeroCells z n).toList,v.oneCell'=true:=by
 intro v hv
 simp only[Builtin.zeroCells,Array.toList_map,List.mem_map] at hv
 obtain⟨i,hi,rfl⟩:=hv
 have hi':i<n*z.size:=by simpa using hi
 have hpos:0<z.size:=by
  rcases Nat.eq_zero_or_pos z.size with h0|h0
  ·rw [h0,Nat.mul_zero] at hi';omega
  ·exact h0
 have hlt:i%z.size<z.size:=Nat.mod_lt _ hpos
 rw[getElem!_pos z _ hlt]
 exact h _ (by simp)
section
variable {E:Env} {N k:Nat} {o:Oper} {a:AF}
theorem arr_new(D:Nat→Prop)(g:Gh)(n:Nat)(w:World){b len cap sz:Nat}(h:len≤cap):VRel (g.nameR n b (some ⟨b,0,cap,sz,0⟩)) (fun i=>D i∨i∈[n]) w (.slice (some ⟨b,0,none⟩) len cap) (.arr n len sz):=by
 have h:=VRel.arr (g:=g.nameR n b (some ⟨b,0,cap,sz,0⟩)) (D:=fun i=>D i∨i∈[n]) (w:=w) n len sz cap (Or.inr (List.mem_singleton.2 rfl)) h (by simp[Gh.nameR])
 have hb:(g.nameR n b (some ⟨b,0,cap,sz,0⟩)).blk n=b:=by simp[Gh.nameR]
 rw[hb] at h
 exact h
theorem OS.appendA{t te:TypeId}{s x:Operand}{i ie:TI}{co:Option EC}{c:EC}{sz bytes n:Nat}{sp':Sp}{l0:SL V}{l:List c.sem}(ho:o.op= .call {callee:= .builtin .append,args:= #[s,x],argTypes:= #[t,t]})
 (ht:E.ti t=some i) (hd:i.desc= .slc co sz bytes) (hte:E.P.underlying t=some (.slice te)) (hti:E.ti te=some ie) (hs:ev E t a s=some (.slice .nil l0)) (hx:ev E t a x=some (.slice sp' (.t c l))) (hpos:0<l.length)
 (hsz:Nat.beq c.cells sz=true) (hb:l.length*bytes≤140737488355328) (hb2:l.length≤9223372036854775807):OS E N o a [] (.arr n l.length sz) [n] [(n,.var (l.flatMap c.view))]:=
 .of_run fun g D es w act hR hp hn hF=>by
  obtain⟨e,inf,z,h1,h2,h3,h4,h5,h6,h7,h8⟩:=slc_inv ht hd
  obtain rfl:e=te:=by rw[h1] at hte;cases hte;rfl
  have hcs:c.cells=sz:=Nat.eq_of_beq_eq_true hsz
  have hn':¬D n:=hn n (by simp)
  have hvs:=ev_rel hs hR hF
  have hdx:=(ev_rel hx hR hF).slice_inv
  obtain⟨xb,xc,hxv⟩:=hdx.slice_inv
  obtain⟨news,hnl,hn1,hnf,hnr,hnl2⟩:=hdx.cells_of
  rw[hxv] at hnf
  have hsv:act.eval s= .slice none 0 0:=by
   generalize hv:act.eval s=v at hvs
   cases hvs with
   |data h=>cases h
   |nilS _ h=>rfl
  have hsz':c.cells=inf.size:=by rw[hcs,h3]
  have hrun:=run_app_new (P:=E.P) (w:=w) (ty:=o.type) h1 h2 h5 (base:=none) (sLen:=0) (sCap:=0) (xb:=xb) (n:=l.length) (xc:=xc) (olds:=[]) (news:=news) (fun W _=>by simp[Builtin.firstCells])
   (fun W hW=>by rw[←hsz'];exact hnf W hW E.P) (by omega) (by rw[h4];simpa using hb) (by omega)
  have hge:=grownCap_ge w (0+l.length) 0 e
  obtain⟨inf2,hi1,hi2,z2,hi3,hi4⟩:=ti_info hti
  have hz1:∀v∈z.cells.toList,v.oneCell'=true:=by
   rw[h2] at hi1;cases hi1
   rw[h5] at hi3;cases hi3
   exact(zmatch_rel hi4).2.1
  obtain⟨hR',hx'⟩:=hR.drew.boxR hn' (some ⟨w.heap.size,0,grownCap w (0+l.length) 0 e,sz,0⟩) (vs:=[]++news++(Builtin.zeroCells z.cells (grownCap w (0+l.length) 0 e-(0+l.length))).toList) (cs:=l.flatMap c.view) e
   (by
    rw[fview_len,List.nil_append,List.length_append,hnl]
    show l.length*c.cells≤_
    simp only[SL.len,SL.cells];omega)
   (fun v hv=>by
    rw[List.nil_append] at hv
    rcases List.mem_append.1 hv with hv|hv
    ·exact hn1 v hv
    ·exact zeroCells_one hz1 _ v hv)
   (fun q v d hv hd=>by
    have hc0:0<c.cells:=by omega
    have hq:=(List.getElem?_eq_some_iff.1 hd).1
    rw[fview_len] at hq
    have hqi:q/c.cells<l.length:=(Nat.div_lt_iff_lt_mul hc0).2 hq
    have hqj:q%c.cells<c.cells:=Nat.mod_lt _ hc0
    have hqe:q/c.cells*c.cells+q%c.cells=q:=by rw[Nat.mul_comm];exact Nat.div_add_mod q c.cells
    have hd':=hd
    rw[←hqe,fview_get c l _ _ hqj,List.getElem?_eq_getElem hqi] at hd'
    have hd2:(c.view l[q/c.cells])[q%c.cells]? =some d:=hd'
    obtain⟨u,hu,hdr⟩:=hnr (q/c.cells) (q%c.cells) (c.view l[q/c.cells]) d (by show(l[q/c.cells]?).map c.view=_;rw[List.getElem?_eq_getElem hqi];rfl) hd2 hqi hqj
    have hu':news[q]? =some u:=by rw[←hqe];exact hu
    have hqn:=(List.getElem?_eq_some_iff.1 hu').1
    rw[List.nil_append,List.getElem?_append_left hqn,hu'] at hv
    cases hv
    exact .data (hdr.mono (fun _=>Mrk.le_refl _) (fun _ _ _=>rfl)))
   (fun r hr=>by
    cases hr
    simp only[List.length_append,List.nil_append,Array.length_toList,size_zeroCells,hnl,h6]
    show l.length*c.cells+(grownCap w (0+l.length) 0 e-(0+l.length))*sz=grownCap w (0+l.length) 0 e*sz
    rw[hcs,←Nat.add_mul]
    congr 1
    omega)
  refine⟨_,.slice (some ⟨w.heap.size,0,none⟩) (0+l.length) (grownCap w (0+l.length) 0 e),_,?_,hR'.more (fun i hi=>by simpa using hi),?_,Ext.drew.trans hx'⟩
  ·have hxv':act.eval x= .slice xb l.length xc:=hxv
   simp only[List.nil_append] at hrun
   simp[execOp,ho,resolve,invoke,builtin,hsv,hxv',hrun]
  ·have h9:=arr_new D g n (w.drew.alloc (.cells ([]++news++(Builtin.zeroCells z.cells (grownCap w (0+l.length) 0 e-(0+l.length))).toList).toArray e)) (b:=w.drew.heap.size) (len:=l.length) (cap:=grownCap w (0+l.length) 0 e) (sz:=sz) (by omega)
   rw[Nat.zero_add] at h9 ⊢
   exact h9
theorem OS.indexR{t:TypeId}{x y:Operand}{i:TI}{co:Option EC}{sz bytes p len:Nat}{n:Int}{kk:Nat}{kd:IntKind}(ho:o.op= .indexAddr t x y)(ht:E.ti t=some i)(hd:i.desc= .slc co sz bytes)
 (hx:ev E t a x=some (.arr p len sz)) (hy:ev E 0 a y=some (.int kd n)) (hn:n=kk) (hlt:kk<len):OS E N o a [] (.ptr p (kk*sz)) [] []:=
 .pure fun g D es w act hR _ hF=>by
  obtain⟨e,inf,z,h1,h2,h3,h4,h5,h6,h7,h8⟩:=slc_inv ht hd
  have h8':=ev_rel hx hR hF
  have hi:=(ev_rel hy hR hF).int_inv
  generalize hxv:act.eval x=v at h8'
  cases h8' with
  |data h=>cases h
  |arr _ _ _ cap hD hcap _=>
   refine⟨.pointer (some ⟨g.blk p,0+kk*sz,none⟩),?_,by rw[Nat.zero_add];exact .ptr p _ hD⟩
   have h11:0≤n∧n<(len:Int):=by omega
   have h12:n.toNat=kk:=by omega
   have hpi:=run_indexAt_slice (P:=E.P) w t ⟨g.blk p,0,none⟩ len cap kd n (by simp[Program.elem,h1])
   rw[if_pos h11,show E.P.elem t=e by simp[Program.elem,h1],run_size h2] at hpi
   simp only[Result.andThen_ok,h12,h3,addN] at hpi
   simp[execOp,ho,hxv,hi,hpi]
end
mutual
def V.frz(n:Nat)(s:V):V→V
 | .arr m k z=>bif Nat.beq m n then s else .arr m k z
 | .agg cs=> .agg (V.frzs n s cs)
 | .tup cs=> .tup (V.frzs n s cs)
 | .fn f fi caps=> .fn f (V.frzs n s fi) (V.frzs n s caps)
 |v=>v
def V.frzs(n:Nat)(s:V):List V→List V
 |[]=>[]
 |c::cs=>V.frz n s c::V.frzs n s cs
end
mutual
def V.arrOk(n len:Nat):V→Prop
 | .arr m k _=>m=n→k=len
 | .agg cs=>V.arrOks n len cs
 | .tup cs=>V.arrOks n len cs
 | .fn _ fi caps=>V.arrOks n len fi∧V.arrOks n len caps
 |_=>True
def V.arrOks(n len:Nat):List V→Prop
 |[]=>True
 |c::cs=>V.arrOk n len c∧V.arrOks n len cs
end
theorem V.frzs_map(n:Nat)(s:V):∀cs,V.frzs n s cs=cs.map (V.frz n s)
 |[]=>rfl
 |c::cs=>by rw[V.frzs,V.frzs_map n s cs];rfl
theorem V.arrOks_at{n len:Nat}:∀{cs:List V},V.arrOks n len cs→∀(i:Nat) c,cs[i]? =some c→V.arrOk n len c
 |[],_,i,c,h=>by simp at h
 |x::l,hh,i,c,h=>by
  cases i with
  |zero=>simp at h;subst h;exact hh.1
  |succ i=>exact V.arrOks_at hh.2 i c (by simpa using h)
theorem data_arrOk(n len:Nat)(c:EC)(x:c.sem):V.arrOk n len (dataV c x):=by cases c<;>simp[dataV,EC.view,V.arrOk,V.arrOks,Ty.view,Tm.view,Vl.view,Fm.view,Pf.view,Gl.view,St.view,Sz.view,Tk.view,Rsl.view]
theorem data_frz(n:Nat)(s:V)(c:EC)(x:c.sem):V.frz n s (dataV c x)=dataV c x:=by cases c<;>rfl
def Ent.frz(n:Nat)(s:V):Ent→Ent
 | .var cs=> .var (V.frzs n s cs)
 |e=>e
def Ent.arrOk(n len:Nat):Ent→Prop
 | .var cs=>V.arrOks n len cs
 |_=>True
def Es.frz(n:Nat)(s:V):Es→Es
 |[]=>[]
 |p::l=>(p.1,Ent.frz n s p.2)::Es.frz n s l
def Es.arrOk(n len:Nat):Es→Prop
 |[]=>True
 |p::l=>(p.1≠n→Ent.arrOk n len p.2)∧Es.arrOk n len l
def AF.frz(n:Nat)(s:V):AF→AF
 |[]=>[]
 |p::l=>(p.1,V.frz n s p.2)::AF.frz n s l
def AF.arrOk(n len:Nat):AF→Prop
 |[]=>True
 |p::l=>V.arrOk n len p.2∧AF.arrOk n len l
theorem AF.arrOk_get{n len:Nat}:∀{a:AF},AF.arrOk n len a→∀t c,a.get t=some c→V.arrOk n len c
 |[],_,t,c,h=>by cases h
 |p::l,hh,t,c,h=>by
  obtain⟨m,d⟩:=p
  rw[AF.get_cons] at h
  by_cases hm:m=t
  ·rw [if_pos hm] at h;cases h;exact hh.1
  ·rw [if_neg hm] at h;exact AF.arrOk_get hh.2 t c h
theorem Es.arrOk_find{n len:Nat}:∀{es:Es},Es.arrOk n len es→∀t e,t≠n→findE es t=some e→Ent.arrOk n len e
 |[],_,t,c,_,h=>by cases h
 |p::l,hh,t,c,hn,h=>by
  obtain⟨m,d⟩:=p
  rw[findE_cons] at h
  by_cases hm:m=t
  ·rw [if_pos hm] at h;cases h;exact hh.1 (by show m≠n;rw[hm];exact hn)
  ·rw [if_neg hm] at h;exact Es.arrOk_find hh.2 t c hn h
theorem AF.frz_get(n:Nat)(s:V):∀(a:AF) (t:Nat),(AF.frz n s a).get t=(a.get t).map (V.frz n s)
 |[],t=>rfl
 |p::l,t=>by
  obtain⟨m,c⟩:=p
  simp only[AF.frz,AF.get_cons]
  by_cases h:m=t
  ·simp [h]
  ·simp only[h,if_false];exact AF.frz_get n s l t
theorem Es.frz_find(n:Nat)(s:V):∀(es:Es) (t:Nat),findE (Es.frz n s es) t=(findE es t).map (Ent.frz n s)
 |[],t=>rfl
 |p::l,t=>by
  obtain⟨m,c⟩:=p
  simp only[Es.frz,findE_cons]
  by_cases h:m=t
  ·simp [h]
  ·simp only[h,if_false];exact Es.frz_find n s l t
theorem VRel.frz{g g':Gh}{D:Nat→Prop}{w:World}{n:Nat}{l:SL V}(hm:∀b,g.m b≤g'.m b)(hb:g'.blk=g.blk)(hr:g'.row=g.row)
 (hd:∀cap,l.len≤cap→DRel g'.m w (.slice (some ⟨g.blk n,0,none⟩) l.len cap) (.slice .any l)) {v:Value} {c:V} (h:VRel g D w v c):V.arrOk n l.len c→VRel g' D w v (V.frz n (.slice .any l) c):=by
 have self:∀{v c},VRel g D w v c→VRel g' D w v c:=fun {v c} h=>h.mono hm (fun _ _ _=>rfl) (fun _ h=>h) (fun _ _=>by rw[hb]) (fun _ _=>by rw[hr])
 induction h with
 |data h=>
  have h0:=h
  intro _
  cases h<;>exact self (.data h0)
 |agg vs cs hl h1 _ ih=>
  intro hok
  simp only[V.frz,V.frzs_map]
  refine .agg vs _ (by simpa using hl) h1 fun i v c hv hc=> ?_
  rw[List.getElem?_map,Option.map_eq_some_iff] at hc
  obtain⟨c0,hc0,rfl⟩:=hc
  exact ih i v c0 hv hc0 (V.arrOks_at hok i c0 hc0)
 |tup vs cs hl _ ih=>
  intro hok
  simp only[V.frz,V.frzs_map]
  refine .tup vs _ (by simpa using hl) fun i v c hv hc=> ?_
  rw[List.getElem?_map,Option.map_eq_some_iff] at hc
  obtain⟨c0,hc0,rfl⟩:=hc
  exact ih i v c0 hv hc0 (V.arrOks_at hok i c0 hc0)
 |nil=>exact fun _=> .nil
 |fullNil l h=>exact fun _=> .fullNil l h
 |nilS l h=>exact fun _=> .nilS l h
 |full a n l h=>exact fun _=>self (.full a n l h)
 |own r hr' v l h hd=>exact fun _=>self (.own r hr' v l h hd)
 |addr b off cs f h1 hc h2=>exact fun _=>self (.addr b off cs f h1 hc h2)
 |ptr n off h=>exact fun _=>self (.ptr n off h)
 |arr m k z cap h hcap hrw=>
  intro hok
  simp only[V.frz]
  by_cases he:m=n
  ·subst he
   obtain rfl:k=l.len:=hok rfl
   simp only[Nat.beq_refl,cond_true]
   exact .data (hd cap hcap)
  ·rw [nbeq_ne he]
   exact self (.arr m k z cap h hcap hrw)
 |mp m h=>exact fun _=>self (.mp m h)
 |nilp=>exact fun _=> .nilp
 |fn f fi caps fi' caps' hl hl' _ _ ih ih'=>
  intro hok
  simp only[V.frz,V.frzs_map]
  refine .fn f fi caps _ _ (by simpa using hl) (by simpa using hl') (fun i v c hv hc=> ?_) (fun i v c hv hc=> ?_)
  ·rw [List.getElem?_map,Option.map_eq_some_iff] at hc
   obtain⟨c0,hc0,rfl⟩:=hc
   exact ih i v c0 hv hc0 (V.arrOks_at hok.1 i c0 hc0)
  ·rw [List.getElem?_map,Option.map_eq_some_iff] at hc
   obtain⟨c0,hc0,rfl⟩:=hc
   exact ih' i v c0 hv hc0 (V.arrOks_at hok.2 i c0 hc0)
 |nilf=>exact fun _=> .nilf
 |raw v=>exact fun _=> .raw v
 |bor b P h=>exact fun _=> .bor b P h
section
variable {E:Env} {N k:Nat} {a:AF} {σ:Sto}
def V.isD:V→Bool
 | .int _ _=>true
 | .bool _=>true
 | .str _=>true
 | .slice .any _=>true
 | .nd _ _=>true
 |_=>false
theorem VRel.isD{g:Gh}{D:Nat→Prop}{w:World}{v:Value}{c:V}(h:VRel g D w v c)(hc:V.isD c=true):DRel g.m w v c:=by
 cases h with
 |data h=>exact h
 |_=>simp[V.isD] at hc
theorem view_isD(c:EC)(x:c.sem):(c.view x).all V.isD=true:=by cases c<;>rfl
theorem Weak.frz(n len:Nat){c:EC}(l:List c.sem)(hn:findE σ.es n=some (.var (l.flatMap c.view)))(hlen:l.length=len)(hoa:AF.arrOk n len a)(hoe:Es.arrOk n len σ.es):
 Weak E N k a σ (AF.frz n (.s c l) a) ⟨σ.nx,(n,.gone)::Es.frz n (.s c l) σ.es⟩:=by
 subst hlen
 intro hk
 refine⟨hk,fun g w act hR hF=> ?_⟩
 obtain⟨h1,vs,t,h2,h3,h4,h5,_⟩:=hR.ents n _ hn
 rw[fview_len] at h3
 let g':Gh:={g with m:=fun b=>if b=g.blk n then sh (l.length*c.cells) else g.m b}
 have hlt:g.blk n<w.heap.size:=by
  rcases Nat.lt_or_ge (g.blk n) w.heap.size with h|h
  ·exact h
  ·rw [Array.getElem?_eq_none h] at h2;cases h2
 have hm:∀b,g.m b≤g'.m b:=fun b=>by
  show g.m b≤if b=g.blk n then _ else g.m b
  by_cases hb:b=g.blk n
  ·subst hb;rw[if_pos rfl];exact Mrk.le_sh h1 (Nat.zero_le _)
  ·rw [if_neg hb];exact Mrk.le_refl _
 have hm':∀b,b≠g.blk n→g'.m b=g.m b:=fun b hb=>if_neg hb
 have hd:∀cap,(SL.t c l:SL V).len≤cap→DRel g'.m w (.slice (some ⟨g.blk n,0,none⟩) (SL.t c l:SL V).len cap) (.slice .any (.t c l)):=fun cap hcap=>by
  refine DRel.of_row (m:=g.m) (w:=w) h2 hcap (by show _≤(if g.blk n=g.blk n then _ else _:Mrk).n;rw[if_pos rfl];exact Nat.le_refl _) ?_ ?_ hm (fun _ _ _=>rfl)
  ·intro i hi
   exact⟨c.view (l[i]'hi),by show(l[i]?).map c.view=_;rw[List.getElem?_eq_getElem (show i<l.length from hi)];rfl,EC.view_len _ _⟩
  ·intro i j cs d hg hcs hi hj
   have hi':i<l.length:=hi
   have hg':cs=c.view l[i]:=by
    have:(l[i]?).map c.view=some cs:=hg
    rw[List.getElem?_eq_getElem hi'] at this
    exact(Option.some.inj this).symm
   subst hg'
   have hj':j<c.cells:=hj
   have h6:(l.flatMap c.view)[i*c.cells+j]? =some d:=by rw[fview_get c l i j hj',List.getElem?_eq_getElem hi'];exact hcs
   have h7:i*c.cells+j<vs.length:=by have:=slot_lt hi' hj';omega
   refine⟨vs[i*c.cells+j],List.getElem?_eq_getElem h7,?_⟩
   refine(h5 _ _ d (List.getElem?_eq_getElem h7) h6).isD ?_
   exact List.all_eq_true.1 (view_isD c l[i]) d (List.mem_of_getElem? hcs)
 have hv:∀{v d},VRel g (·<σ.nx) w v d→V.arrOk n l.length d→VRel g' (·<σ.nx) w v (V.frz n (.s c l) d):=fun h hok=>VRel.frz (g':=g') (l:= .t c l) hm rfl rfl hd h hok
 have hfind:∀i e,findE ((n,Ent.gone)::Es.frz n (.s c l) σ.es) i=some e→(i=n∧e= .gone)∨(i≠n∧∃e0,findE σ.es i=some e0∧e=Ent.frz n (.s c l) e0):=fun i e he=>by
  rw[findE_cons] at he
  by_cases hi:n=i
  ·rw [if_pos hi] at he;cases he;exact .inl ⟨hi.symm,rfl⟩
  ·rw [if_neg hi,Es.frz_find,Option.map_eq_some_iff] at he
   obtain⟨e0,h6,h7⟩:=he
   exact .inr ⟨fun h=>hi h.symm,e0,h6,h7.symm⟩
 have hfoot:∀i e b,findE ((n,Ent.gone)::Es.frz n (.s c l) σ.es) i=some e→e.foot g' i=some b→∃e0,findE σ.es i=some e0∧e0.foot g i=some b∧i≠n:=fun i e b he hb=>by
  rcases hfind i e he with⟨rfl,rfl⟩|⟨hi,e0,h6,rfl⟩
  ·cases hb
  ·refine ⟨e0,h6,?_,hi⟩
   cases e0<;>exact hb
 refine⟨g',⟨?_,?_,?_,?_,fun b t h=> ?_,?_⟩,⟨hF.size,hF.defers,?_⟩,?_⟩
 ·intro i e he
  rcases hfind i e he with⟨rfl,_⟩|⟨_,e0,h6,_⟩
  ·exact hR.lt _ _ hn
  ·exact hR.lt _ _ h6
 ·intro i i' e e' b h6 h7 h8 h9
  obtain⟨e0,h10,h11,_⟩:=hfoot i e b h6 h8
  obtain⟨e1,h12,h13,_⟩:=hfoot i' e' b h7 h9
  exact hR.foots i i' e0 e1 b h10 h12 h11 h13
 ·intro i e he
  rcases hfind i e he with⟨rfl,rfl⟩|⟨hi,e0,h6,rfl⟩
  ·trivial
  ·have hent:=hR.ents i e0 h6
   have hok:=Es.arrOk_find hoe i e0 hi h6
   cases e0 with
   |var cs=>
    obtain⟨q1,us,t',q2,q3,q4,q5,q6⟩:=hent
    have hne:g.blk i≠g.blk n:=fun hh=>hi (hR.foots i n _ _ (g.blk n) h6 hn (by simp[Ent.foot,hh]) rfl)
    refine⟨by show g'.m (g.blk i)=0;rw[hm' _ hne];exact q1,us,t',q2,by simp only[V.frzs_map,List.length_map];exact q3,q4,fun j v d hj hd'=> ?_,q6⟩
    rw[V.frzs_map,List.getElem?_map,Option.map_eq_some_iff] at hd'
    obtain⟨d0,hd0,rfl⟩:=hd'
    exact hv (q5 j v d0 hj hd0) (V.arrOks_at hok j d0 hd0)
   |map c ks xs=>
    obtain⟨q1,us,t',q2,q3,q4,q4',q5⟩:=hent
    have hne:g.blk i≠g.blk n:=fun hh=>hi (hR.foots i n _ _ (g.blk n) h6 hn (by simp[Ent.foot,hh]) rfl)
    refine⟨by show g'.m (g.blk i)=0;rw[hm' _ hne];exact q1,us,t',q2,q3,q4,q4',fun j v d hj hd'=> ?_⟩
    have h8:=hv (q5 j v d hj hd') (data_arrOk n _ c d)
    rwa [data_frz] at h8
   |row=>
    intro ρ hρ
    obtain⟨cur,t',q1,q2,q3,q4⟩:=hent ρ hρ
    have hne:ρ.b≠g.blk n:=fun hh=>hi (hR.foots i n _ _ (g.blk n) h6 hn (by show(g.row i).map RowG.b=_;rw[show g.row i=some ρ from hρ];simp[hh]) rfl)
    exact⟨cur,t',q1,q2,by rw[hm' _ hne];exact q3,q4⟩
   |gone=>trivial
 ·intro b hb
  rw[hm' b (by omega)]
  exact hR.fresh b hb
 ·by_cases hb:b=g.blk n
  ·exact absurd (show(if b=g.blk n then _ else _:Mrk)=_ from h) (by rw[if_pos hb];exact fun h=>Mrk.not_of rfl h)
  ·exact hR.nodes b t ((hm' b hb).symm.trans h)
 ·intro p hp
  obtain⟨q1,q2⟩:=hR.glob p hp
  refine⟨Nat.le_trans q1 (hm _).1,fun j d hj=> ?_⟩
  obtain⟨v,q3,q4⟩:=q2 j d hj
  exact⟨v,q3,q4.mono hm (fun _ _ _=>rfl)⟩
 ·intro t' d ht'
  rw[AF.frz_get,Option.map_eq_some_iff] at ht'
  obtain⟨d0,hd0,rfl⟩:=ht'
  obtain⟨v,q1,q2⟩:=hF.vals t' d0 hd0
  exact⟨v,q1,hv q2 (AF.arrOk_get hoa t' d0 hd0)⟩
 ·refine ⟨rfl,rfl,rfl,Nat.le_refl _,fun _ _ _=>rfl,hm,fun _ _=>rfl,fun _ _=>rfl,fun b hb hnf=>⟨fun _=>rfl,hm' b fun hh=>hnf ⟨n,_,hn,by simp[Ent.foot,hh]⟩⟩,fun b hb=> .inl ?_⟩
  obtain⟨i,e,q1,q2⟩:=hb
  obtain⟨e0,q3,q4,_⟩:=hfoot i e b q1 q2
  exact⟨i,e0,q3,q4⟩
theorem AW.frz{Q:Exit→AF→Sto→Prop}{code:Code}(n len:Nat){c:EC}(l:List c.sem)(hn:findE σ.es n=some (.var (l.flatMap c.view)))(hlen:l.length=len)(hoa:AF.arrOk n len a)(hoe:Es.arrOk n len σ.es)
 (h:AW E N k code (AF.frz n (.s c l) a) ⟨σ.nx,(n,.gone)::Es.frz n (.s c l) σ.es⟩ Q):AW E N k code a σ Q:=AW.weak (Weak.frz n len l hn hlen hoa hoe) h
variable {Q:Exit→AF→Sto→Prop} {ops:List Oper} {dr:Bool} {rest:List Oper} {acc:List Rec}
variable {d:Option Tmp} {ty:TypeId} {ps:String} {af:Array Edge} {gd:Option (Nat×Bool)}
namespace L
theorem apA{t te:TypeId}{s x:Operand}{z:Nat}{zr:List V}{ie:TI}{e:EC}{co:Option EC}{sz bytes:Nat}{sp':Sp}{l0:SL V}{l:List e.sem}(hw:wantG ops a gd=some true)(hs:ev E t a s=some (.slice .nil l0))(hx:ev E t a x=some (.slice sp' (.t e l)))(ht:E.ti t=some ⟨z,zr,.slc co sz bytes⟩)
 (hte:E.P.underlying t=some (.slice te)) (hti:E.ti te=some ie) (hsz:Nat.beq e.cells sz=true) (hd:dstOk N d=true) (hby:Nat.ble bytes 128=true) (hpos:0<l.length) (hb:l.length≤1099511627776)
 (h2:AX E N k dr ops rest (a.put d (.arr σ.nx l.length sz)) (σ.upd 1 [(σ.nx,.var (l.flatMap e.view))]) (⟨[],.arr σ.nx l.length sz,1,[(σ.nx,.var (l.flatMap e.view))]⟩::acc) Q):
 AX E N k dr ops (⟨d,.call ⟨.builtin .append,#[s,x],#[t,t]⟩,ty,ps,af,gd⟩::rest) a σ acc Q:=
 AX.run 1 hw (OS.appendA rfl ht rfl hte hti (fr (by simp[Op.operands,Call.operands]) hs) (fr (by simp[Op.operands,Call.operands]) hx) hpos hsz
  (by
   have h3:bytes≤128:=Nat.le_of_ble_eq_true hby
   have h4:l.length*bytes≤1099511627776*128:=Nat.mul_le_mul hb h3
   omega) (by omega)) trivial hd h2
theorem ixr{t:TypeId}{x y:Operand}{z:Nat}{zr:List V}{co:Option EC}{sz bytes p len:Nat}{n:Int}(kk:Nat){kd:IntKind}(hw:wantG ops a gd=some true)(hx:ev E t a x=some (.arr p len sz))(ht:E.ti t=some ⟨z,zr,.slc co sz bytes⟩)
 (hy:ev E 0 a y=some (.int kd n)) (hn:n=kk) (hlt:kk<len) (hd:dstOk N d=true) (h2:AX E N k dr ops rest (a.put d (.ptr p (kk*sz))) σ (⟨[],.ptr p (kk*sz),0,[]⟩::acc) Q):AX E N k dr ops (⟨d,.indexAddr t x y,ty,ps,af,gd⟩::rest) a σ acc Q:=
 AX.run 0 hw (OS.indexR rfl ht rfl (fr (by simp[Op.operands,Call.operands]) hx) (fr (by simp[Op.operands,Call.operands]) hy) hn hlt) trivial hd h2
theorem sta{t:TypeId}{x y:Operand}{i:TI}{n off:Nat}(kk:Nat){c:EC}{l:List c.sem}{u:c.sem}{v:V}(hw:wantG ops a gd=some true)(hx:ev E 0 a x=some (.ptr n off))(ht:E.ti t=some i)(hy:ev E t a y=some v)
 (hn:findE σ.es n=some (.var (l.flatMap c.view))) (hc:cellsOf v=some (c.view u)) (hs:Nat.beq c.cells i.size=true) (hoff:off=kk*c.cells) (hlt:kk<l.length) (hd:dstOk N d=true)
 (h2:AX E N k dr ops rest (a.put d (.tup [])) (σ.upd 0 [(n,.var ((l.set kk u).flatMap c.view))]) (⟨[(n,.var (l.flatMap c.view))],.tup [],0,[(n,.var ((l.set kk u).flatMap c.view))]⟩::acc) Q):AX E N k dr ops (⟨d,.store t x y,ty,ps,af,gd⟩::rest) a σ acc Q:=by
 have e:(l.set kk u).flatMap c.view=(l.flatMap c.view).take off++c.view u++(l.flatMap c.view).drop (off+(c.view u).length):=by
  rw[EC.view_len,hoff];exact(fview_set c l kk u hlt).symm
 rw[e] at h2
 refine L.st hw hx ht hy hn hc (by rw[EC.view_len];exact Nat.eq_of_beq_eq_true hs) (Nat.ble_eq_true_of_le ?_) hd h2
 rw[EC.view_len,hoff,fview_len,←Nat.succ_mul]
 exact Nat.mul_le_mul_right _ hlt
end L
end
def keyAt(k:Int):List Int→Option Nat
 |[]=>none
 |x::l=>if x=k then some 0 else(keyAt k l).map (·+1)
theorem keyAt_some{k:Int}:∀{l:List Int} {i:Nat},keyAt k l=some i→l[i]? =some k∧i<l.length
 |[],i,h=>by cases h
 |x::l,i,h=>by
  simp only[keyAt] at h
  by_cases hx:x=k
  ·rw [if_pos hx] at h;cases h;simp[hx]
  ·rw [if_neg hx,Option.map_eq_some_iff] at h
   obtain⟨j,h1,rfl⟩:=h
   have:=keyAt_some h1
   simpa using this
theorem findNow_at(k:Int):∀(es:List MapEntry) (ks:List Int) (i0:Nat),es.length=ks.length→(∀(i:Nat) e x,es[i]? =some e→ks[i]? =some x→e.key= .int .i64 x)→
 Instr.findNow (.int .i64) (.int .i64 k) es i0=some ((keyAt k ks).bind fun i=>(es[i]?).map fun e=>(i0+i,e.val))
 |[],[],i0,_,_=>rfl
 |[],x::ks,i0,h,_=>by simp at h
 |e::es,[],i0,h,_=>by simp at h
 |e::es,x::ks,i0,h,hk=>by
  have h0:=hk 0 e x rfl rfl
  have ih:=findNow_at k es ks (i0+1) (by simpa using h) fun i e x h1 h2=>hk (i+1) e x (by simpa using h1) (by simpa using h2)
  simp only[Instr.findNow,h0,Instr.sameNow,if_true,keyAt]
  by_cases hx:x=k
  ·subst hx;simp
  ·have hkx:(k==x)=false:=by simp;exact fun h=>hx h.symm
   simp only[hkx,if_neg hx]
   rw[ih]
   cases keyAt k ks with
   |none=>rfl
   |some i=>simp[Nat.add_assoc,Nat.add_comm 1]
theorem R.newmap(c:EC){G:Glob}{g:Gh}{D:Nat→Prop}{es:Es}{w:World}(hR:R G g D es w){n:Nat}(hn:¬D n):
 R G (g.name n w.heap.size) (fun i=>D i∨i=n) ((n,.map c [] [])::es) (w.alloc (.map #[] 0))∧
 Ext D g (Foot g es) w (g.name n w.heap.size) (Foot (g.name n w.heap.size) ((n,.map c [] [])::es)) (w.alloc (.map #[] 0)):=by
 have hb:∀i,D i→(g.name n w.heap.size).blk i=g.blk i:=fun i hi=>by
  have:i≠n:=fun e=>hn (e▸hi)
  simp[Gh.name,this]
 have hcell:∀b o,o<(g.m b).n→(w.alloc (.map #[] 0)).cell? ⟨b,o,none⟩=w.cell? ⟨b,o,none⟩:=fun b o ho=>by
  refine cell_alloc w _ b o ?_
  rcases Nat.lt_or_ge b w.heap.size with h|h
  ·exact h
  ·rw [hR.fresh b h] at ho;exact absurd ho (Nat.not_lt_zero _)
 have hm0:g.m w.heap.size=0:=hR.fresh _ (Nat.le_refl _)
 have hold:∀i e,i≠n→findE ((n,Ent.map c [] [])::es) i=some e→findE es i=some e:=fun i e hi h=>by
  rw[findE_cons,if_neg (fun e=>hi e.symm)] at h;exact h
 have hfold:∀i e b,findE es i=some e→e.foot (g.name n w.heap.size) i=some b→e.foot g i=some b∧b<w.heap.size:=fun i e b h1 h2=>by
  rw[Ent.foot_same (hR.lt i e h1) hb (fun _ _=>rfl)] at h2
  exact⟨h2,hR.foot_lt h1 h2⟩
 have hnew:∀e,findE ((n,Ent.map c [] [])::es) n=some e→e= .map c [] []:=fun e h=>by
  rw[findE_cons,if_pos rfl] at h;exact(Option.some.inj h).symm
 refine⟨hR.step (fun _=>Mrk.le_refl _) hcell (fun i hi=> .inl hi) hb (fun _ _=>rfl) ?_ ?_ ?_ (hR.nodesH (fun _ _ h=>h) fun b t h=>heap_alloc_old w _ b (hR.node_lt h)),?_⟩
 ·intro i e he
  by_cases hi:i=n
  ·subst hi
   rw[hnew e he]
   refine .inr ⟨.inr rfl,by simp[Gh.name,hm0],[],0,by rw[show(g.name i w.heap.size).blk i=w.heap.size from by simp[Gh.name]];exact heap_alloc_new w _,⟨rfl,by simp[Born]⟩,rfl,fun j v q hv hc=>by simp at hv,fun j v q hv hc=>by simp at hv⟩
  ·have h2:=hold i e hi he
   exact .inl ⟨h2,fun b hb'=>⟨heap_alloc_old w _ b (hR.foot_lt h2 hb'),rfl⟩⟩
 ·intro i j e e' b h1 h2 h3 h4
  by_cases hi:i=n
  ·by_cases hj:j=n
   ·rw [hi,hj]
   ·subst hi
    rw[hnew e h1] at h3
    simp[Ent.foot,Gh.name] at h3
    have:=hfold j e' b (hold j e' hj h2) h4
    omega
  ·by_cases hj:j=n
   ·subst hj
    rw[hnew e' h2] at h4
    simp[Ent.foot,Gh.name] at h4
    have:=hfold i e b (hold i e hi h1) h3
    omega
   ·exact hR.foots i j e e' b (hold i e hi h1) (hold j e' hj h2) (hfold i e b (hold i e hi h1) h3).1 (hfold j e' b (hold j e' hj h2) h4).1
 ·intro b hb'
  simp at hb'
  exact hR.fresh b (by omega)
 ·refine ⟨rfl,rfl,rfl,by simp,hcell,fun _=>Mrk.le_refl _,hb,fun _ _=>rfl,fun b hb' _=>⟨fun _=>heap_alloc_old w _ b hb',rfl⟩,?_⟩
  rintro b ⟨i,e,h2,h3⟩
  by_cases hi:i=n
  ·subst hi
   rw[hnew e h2] at h3
   simp[Ent.foot,Gh.name] at h3
   exact .inr (by omega)
  ·have:=hfold i e b (hold i e hi h2) h3
   exact .inl ⟨i,e,hold i e hi h2,this.1⟩
def setObjW(w:World)(b:Nat)(o:Obj):World:={w with heap:=w.heap.setIfInBounds b o}
theorem R.setmap{G:Glob}{g:Gh}{D:Nat→Prop}{es:Es}{w:World}(hR:R G g D es w){n:Nat}{c:EC}{ks ks':List Int}{cs cs':List c.sem}(hn:findE es n=some (.map c ks cs)){ms ms':List MapEntry}{clock clock':Nat}
 (hh:w.heap[g.blk n]? =some (.map ms.toArray clock)) (hl:ms'.length=cs'.length∧Born ms' clock') (hl2:ks'.length=cs'.length) (h1:∀(i:Nat) e k,ms'[i]? =some e→ks'[i]? =some k→e.key= .int .i64 k)
 (h:∀(i:Nat) e x,ms'[i]? =some e→cs'[i]? =some x→VRel g D w e.val (dataV c x)):
 R G g D ((n,.map c ks' cs')::es) (setObjW w (g.blk n) (.map ms'.toArray clock'))∧
 Ext D g (Foot g es) w g (Foot g ((n,.map c ks' cs')::es)) (setObjW w (g.blk n) (.map ms'.toArray clock')):=by
 have hm0:g.m (g.blk n)=0:=(hR.ents n _ hn).1
 have hlt:g.blk n<w.heap.size:=(Array.getElem?_eq_some_iff.1 hh).1
 have hne:∀b o,o<(g.m b).n→b≠g.blk n:=fun b o ho e=>by rw[e,hm0] at ho;exact absurd ho (Nat.not_lt_zero _)
 have hother:∀b,b≠g.blk n→(setObjW w (g.blk n) (.map ms'.toArray clock')).heap[b]? =w.heap[b]? :=fun b hb=>by simp[setObjW,Ne.symm hb]
 have hself:(setObjW w (g.blk n) (.map ms'.toArray clock')).heap[g.blk n]? =some (.map ms'.toArray clock'):=by simp[setObjW,hlt]
 have hcell:∀b o,o<(g.m b).n→(setObjW w (g.blk n) (.map ms'.toArray clock')).cell? ⟨b,o,none⟩=w.cell? ⟨b,o,none⟩:=fun b o ho=>
  World.cell?_of_block (a:=⟨b,o,none⟩) (hother b (hne b o ho))
 have hold:∀i e,i≠n→findE ((n,Ent.map c ks' cs')::es) i=some e→findE es i=some e:=fun i e hi h=>by
  rw[findE_cons,if_neg (fun e=>hi e.symm)] at h;exact h
 have hnew:∀e,findE ((n,Ent.map c ks' cs')::es) n=some e→e= .map c ks' cs':=fun e h=>by
  rw[findE_cons,if_pos rfl] at h;exact(Option.some.inj h).symm
 have hfoot:∀i e b,findE ((n,Ent.map c ks' cs')::es) i=some e→e.foot g i=some b→∃e',findE es i=some e'∧e'.foot g i=some b:=fun i e b h2 h3=>by
  by_cases hi:i=n
  ·subst hi
   rw[hnew e h2] at h3
   exact⟨_,hn,h3⟩
  ·exact ⟨e,hold i e hi h2,h3⟩
 refine⟨hR.step (fun _=>Mrk.le_refl _) hcell (fun i hi=>hi) (fun _ _=>rfl) (fun _ _=>rfl) ?_ ?_ ?_ (hR.nodesH (fun _ _ h=>h) fun b t h=>hother b fun e=>by rw[e,hm0] at h;exact Mrk.not_of rfl h),?_⟩
 ·intro i e he
  by_cases hi:i=n
  ·subst hi
   rw[hnew e he]
   exact .inr ⟨hR.lt _ _ hn,hm0,ms',clock',hself,hl,hl2,h1,fun j v c hv hc=>
    (h j v c hv hc).mono (fun _=>Mrk.le_refl _) hcell (fun i hi=>hi) (fun _ _=>rfl) (fun _ _=>rfl)⟩
  ·refine .inl ⟨hold i e hi he,fun b hb=>⟨hother b (fun e2=>hi ?_),rfl⟩⟩
   exact hR.foots i n e _ b (hold i e hi he) hn hb (by simp[Ent.foot,e2])
 ·intro i j e e' b h2 h3 h4 h5
  obtain⟨d,h6,h7⟩:=hfoot i e b h2 h4
  obtain⟨d',h8,h9⟩:=hfoot j e' b h3 h5
  exact hR.foots i j d d' b h6 h8 h7 h9
 ·intro b hb
  simp[setObjW] at hb
  exact hR.fresh b hb
 ·refine ⟨rfl,rfl,rfl,by simp[setObjW],hcell,fun _=>Mrk.le_refl _,fun _ _=>rfl,fun _ _=>rfl,fun b hb hf=>⟨fun _=>hother b (fun e=>hf ⟨n,_,hn,by simp[Ent.foot,e]⟩),rfl⟩,?_⟩
  rintro b ⟨i,e,h2,h3⟩
  obtain⟨d,h6,h7⟩:=hfoot i e b h2 h3
  exact .inl ⟨i,d,h6,h7⟩
theorem wp_scope_ghost{P:Program}{a:Act}{w:World}{Q:Exit→Act→World→Prop}{c rest:Code}(l:Nat)(J:Nat→Act→World→Prop)(hf:findLabel c l=some rest)
 (first:c.wp P (Exit.jump l (fun a w=>∃n,J n a w) Q) a w)
 (pass:∀n a w,J n a w→rest.wp P (Exit.jump l (fun a' w'=>∃m,m<n∧J m a' w') Q) a w):(Code.scope c).wp P Q a w:=by
 intro b k cs
 have hg:gotoIn l (.inScope c::k)=some (.code rest:: .inScope c::k):=by simp[gotoIn,hf]
 have key:∀n a w,J n a w→∃e a' w',Q e a' w'∧Arrives P (lone (b.at a (.code rest:: .inScope c::k)) cs w) b k cs e a' w':=by
  intro n
  induction n using Nat.strongRecOn with
  |_ n ih=>
   intro a w hJ
   obtain⟨e,a₁,w₁,hq,harr⟩:=pass n a w hJ b (.inScope c::k) cs
   cases e with
   |normal=>exact⟨.normal,a₁,w₁,hq,Steps.trans harr (.one step_inScope)⟩
   |exit id=>exact⟨.exit id,a₁,w₁,hq,fun k' hk=>harr k' (by simp[exitTo,hk])⟩
   |goto l'=>
    obtain⟨rfl,m,hlt,hJ'⟩:=hq
    obtain⟨e₂,a₂,w₂,hq₂,harr₂⟩:=ih m hlt a₁ w₁ hJ'
    exact⟨e₂,a₂,w₂,hq₂,.of_steps (harr _ hg) harr₂⟩
   |ret=>exact⟨_,a₁,w₁,hq,harr⟩
   |panic ch=>exact⟨_,a₁,w₁,hq,harr⟩
   |outgrown=>exact⟨_,a₁,w₁,hq,harr⟩
 obtain⟨e,a₁,w₁,hq,harr⟩:=first b (.inScope c::k) cs
 cases e with
 |normal=>exact⟨.normal,a₁,w₁,hq,.head step_scope (Steps.trans harr (.one step_inScope))⟩
 |exit id=>exact⟨.exit id,a₁,w₁,hq,fun k' hk=> .head step_scope (harr k' (by simp[exitTo,hk]))⟩
 |goto l'=>
  obtain⟨rfl,n,hJ'⟩:=hq
  obtain⟨e₂,a₂,w₂,hq₂,harr₂⟩:=key n a₁ w₁ hJ'
  exact⟨e₂,a₂,w₂,hq₂,.of_steps (.head step_scope (harr _ hg)) harr₂⟩
 |ret=>exact⟨_,a₁,w₁,hq,.of_steps (.one step_scope) harr⟩
 |panic ch=>exact⟨_,a₁,w₁,hq,.of_steps (.one step_scope) harr⟩
 |outgrown=>exact⟨_,a₁,w₁,hq,.of_steps (.one step_scope) harr⟩
section
variable {E:Env} {N k:Nat} {a:AF} {σ:Sto} {Q:Exit→AF→Sto→Prop}
theorem AW.label{l:Nat}(h:Q .normal a σ):AW E N k (.label l) a σ Q:=by
 constructor
 intro hk g w act hR hF hY
 exact wp_label ⟨g,a,σ,h,hk,hR,hF,.refl ..⟩
theorem AW.goto{l:Nat}(h:Q (.goto l) a σ):AW E N k (.goto l) a σ Q:=by
 constructor
 intro hk g w act hR hF hY
 exact wp_goto ⟨g,a,σ,h,hk,hR,hF,.refl ..⟩
def firstQ(E:Env)(N k:Nat){ι:Type}(l:Nat)(J:ι→AF×Sto)(Q:Exit→AF→Sto→Prop):Exit→AF→Sto→Prop
 | .goto l',a,σ=>l'=l∧∃j,Weak E N k a σ (J j).1 (J j).2
 |e,a,σ=>Q e a σ
def passQ(E:Env)(N k:Nat){ι:Type}(l:Nat)(J:ι→AF×Sto)(μ:ι→Nat)(i:ι)(Q:Exit→AF→Sto→Prop):Exit→AF→Sto→Prop
 | .goto l',a,σ=>l'=l∧∃j,μ j<μ i∧Weak E N k a σ (J j).1 (J j).2
 |e,a,σ=>Q e a σ
theorem AW.scope{ι:Type}{c rest:Code}(l:Nat)(J:ι→AF×Sto)(μ:ι→Nat)(hf:findLabel c l=some rest)
 (h0:AW E N k c a σ (firstQ E N k l J Q)) (hp:∀i,AW E N k rest (J i).1 (J i).2 (passQ E N k l J μ i Q)):AW E N k (.scope c) a σ Q:=by
 constructor
 intro hk g w act hR hF hY
 refine wp_scope_ghost l (fun n act' w'=>∃i g',μ i=n∧k≤(J i).2.nx∧R E.G g' (·<(J i).2.nx) (J i).2.es w'∧FRel g' (·<(J i).2.nx) w' N act' (J i).1∧Ext (·<k) g (Foot g σ.es) w g' (Foot g' (J i).2.es) w') hf ?_ ?_
 ·refine wp_mono (h0.run hk g w act hR hF hY) ?_
  rintro e act2 w2 ⟨g2,a2,σ2,hq,hk2,hR2,hF2,hx2⟩
  cases e with
  |goto l'=>
   obtain⟨rfl,j,hJ⟩:=hq
   obtain⟨hk3,hw⟩:=hJ hk2
   obtain⟨g3,hR3,hF3,hx3⟩:=hw g2 w2 act2 hR2 hF2
   exact⟨rfl,_,j,g3,rfl,hk3,hR3,hF3,hx2.trans hx3⟩
  |normal=>exact⟨g2,a2,σ2,hq,hk2,hR2,hF2,hx2⟩
  |exit id=>exact⟨g2,a2,σ2,hq,hk2,hR2,hF2,hx2⟩
  |ret=>exact⟨g2,a2,σ2,hq,hk2,hR2,hF2,hx2⟩
  |panic ch=>exact⟨g2,a2,σ2,hq,hk2,hR2,hF2,hx2⟩
  |outgrown=>exact⟨g2,a2,σ2,hq,hk2,hR2,hF2,hx2⟩
 ·rintro n act1 w1 ⟨i,g1,rfl,hk1,hR1,hF1,hx1⟩
  refine wp_mono ((hp i).run hk1 g1 w1 act1 hR1 hF1 (hY.ext hx1)) ?_
  rintro e act2 w2 ⟨g2,a2,σ2,hq,hk2,hR2,hF2,hx2⟩
  cases e with
  |goto l'=>
   obtain⟨rfl,j,hlt,hJ⟩:=hq
   obtain⟨hk3,hw⟩:=hJ hk2
   obtain⟨g3,hR3,hF3,hx3⟩:=hw g2 w2 act2 hR2 hF2
   exact⟨rfl,_,hlt,j,g3,rfl,hk3,hR3,hF3,(hx1.trans hx2).trans hx3⟩
  |normal=>exact⟨g2,a2,σ2,hq,hk2,hR2,hF2,hx1.trans hx2⟩
  |exit id=>exact⟨g2,a2,σ2,hq,hk2,hR2,hF2,hx1.trans hx2⟩
  |ret=>exact⟨g2,a2,σ2,hq,hk2,hR2,hF2,hx1.trans hx2⟩
  |panic ch=>exact⟨g2,a2,σ2,hq,hk2,hR2,hF2,hx1.trans hx2⟩
  |outgrown=>exact⟨g2,a2,σ2,hq,hk2,hR2,hF2,hx1.trans hx2⟩
namespace K
theorem tG{y:Code}{l:Nat}(h:Q (.goto l) a σ):thenQ E N k y Q (.goto l) a σ:=h
theorem bG{id l:Nat}(h:Q (.goto l) a σ):blockQ id Q (.goto l) a σ:=h
theorem fR{ι:Type}{l:Nat}{J:ι→AF×Sto}(h:Q .ret a σ):firstQ E N k l J Q .ret a σ:=h
theorem pR{ι:Type}{l:Nat}{J:ι→AF×Sto}{μ:ι→Nat}{i:ι}(h:Q .ret a σ):passQ E N k l J μ i Q .ret a σ:=h
end K
end
def putKs(k:Int)(ks:List Int):List Int:=match keyAt k ks with|some _=>ks|none=>ks++[k]
def putCs{α:Type}(k:Int)(ks:List Int)(cs:List α)(c:α):List α:=match keyAt k ks with|some i=>cs.set i c|none=>cs++[c]
def zeroAgg(P:Program)(t:TypeId):Bool:=match P.info? t with|some inf=>(match inf.zero with|some (.agg _)=>true|_=>false)|none=>false
theorem Born.push{es:List MapEntry}{clock:Nat}(h:Born es clock)(key val:Value):Born (es++[⟨key,val,clock⟩]) (clock+1):=by
 refine⟨fun x hx=> ?_,?_⟩
 ·rcases List.mem_append.1 hx with h1|h1
  ·have:=h.1 x h1;omega
  ·simp at h1;subst h1;simp
 ·rw [List.map_append,List.nodup_append]
  refine⟨h.2,by simp,?_⟩
  intro a ha b hb e
  obtain⟨x,hx,rfl⟩:=List.mem_map.1 ha
  simp at hb
  have:=h.1 x hx
  omega
theorem Born.modify{es:List MapEntry}{clock:Nat}(h:Born es clock)(i:Nat)(key val:Value):Born (es.modify i fun e=>{e with key:=key,val:=val}) clock:=by
 have hm:(es.modify i fun e=>{e with key:=key,val:=val}).map (·.born)=es.map (·.born):=by
  apply List.ext_getElem?
  intro j
  rw[List.getElem?_map,List.getElem?_map,List.getElem?_modify]
  cases es[j]? with
  |none=>rfl
  |some e=>simp only[Option.map_eq_map,Option.map_some];split<;>rfl
 refine⟨fun x hx=> ?_,by rw[hm];exact h.2⟩
 have h1:x.born∈(es.modify i fun e=>{e with key:=key,val:=val}).map (·.born):=List.mem_map_of_mem hx
 rw[hm] at h1
 obtain⟨y,hy,e⟩:=List.mem_map.1 h1
 have:=h.1 y hy
 omega
section
variable {E:Env} {N:Nat} {o:Oper} {a:AF}
theorem mp_new(D:Nat→Prop)(g:Gh)(n:Nat)(w:World){b:Nat}:VRel (g.name n b) (fun i=>D i∨i∈[n]) w (.map (some b)) (.mp n):=by
 have h:=VRel.mp (g:=g.name n b) (D:=fun i=>D i∨i∈[n]) (w:=w) n (Or.inr (List.mem_singleton.2 rfl))
 have hb:(g.name n b).blk n=b:=by simp[Gh.name]
 rw[hb] at h
 exact h
theorem OS.makeMap(q:EC){t:TypeId}{n:Nat}(ho:o.op= .makeMap t none):OS E N o a [] (.mp n) [n] [(n,.map q [] [])]:=
 .of_run fun g D es w act hR _ hn hF=>by
  obtain⟨hR',hx⟩:=hR.newmap q (hn n (by simp))
  refine⟨g.name n w.heap.size,.map (some w.heap.size),w.alloc (.map #[] 0),?_,hR'.more (fun i hi=>by simpa using hi),mp_new D g n _,hx⟩
  simp only[execOp,ho,Option.map_none,Instr.makeMap,Sem.run_bind,Sem.run_pure,run_newObj,Result.andThen_ok,World.alloc_eq]
theorem OS.lenM{t kt et:TypeId}{x:Operand}{n:Nat}{ks:List Int}{q:EC}{cs:List q.sem}(ho:o.op= .call {callee:= .builtin .len,args:= #[x],argTypes:= #[t]})(hm:E.P.underlying t=some (.map kt et))
 (hx:ev E t a x=some (.mp n)):OS E N o a [(n,.map q ks cs)] (.i cs.length) [] []:=
 .pure fun g D es w act hR hp hF=>by
  have h1:=ev_rel hx hR hF
  have hn:=hp (n,.map q ks cs) (by simp)
  obtain⟨_,ms,clock,h4,⟨h5,hbn⟩,h6,h7,h8⟩:=hR.ents n _ hn
  generalize hv:act.eval x=v at h1
  cases h1 with
  |data h=>cases h
  |mp _ hD=>
   refine⟨.int .i64 cs.length,?_,.data (.int .i64 _)⟩
   simp[execOp,ho,resolve,invoke,builtin,Builtin.len_,hv,run_und hm,MapKept.run_getObj_map h4,goInt,h5]
theorem OS.lookup{t kt et:TypeId}{x y:Operand}{n:Nat}{k:Int}{ks:List Int}{q:EC}{cs:List q.sem}{i:Nat}{c:q.sem}(ho:o.op= .lookup t x y true)(hm:E.P.underlying t=some (.map kt et))(hk:E.P.underlying kt=some (.int .i64))
 (hx:ev E 0 a x=some (.mp n)) (hy:ev E 0 a y=some (.i k)) (hi:keyAt k ks=some i) (hc:cs[i]? =some c):OS E N o a [(n,.map q ks cs)] (.tup [dataV q c,.bool true]) [] []:=
 .pure fun g D es w act hR hp hF=>by
  have h1:=ev_rel hx hR hF
  have h2:=(ev_rel hy hR hF).int_inv
  have hn:=hp (n,.map q ks cs) (by simp)
  obtain⟨_,ms,clock,h4,⟨h5,hbn⟩,h6,h7,h8⟩:=hR.ents n _ hn
  generalize hv:act.eval x=v at h1
  cases h1 with
  |data h=>cases h
  |mp _ hD=>
   have h9:=findNow_at k ms ks 0 (h5.trans h6.symm) h7
   have hil:i<ms.length:=by rw[h5];exact(List.getElem?_eq_some_iff.1 hc).1
   rw[hi,Option.bind_some,List.getElem?_eq_getElem hil,Option.map_some] at h9
   refine⟨.tuple #[(ms[i]'hil).val,.bool true],?_,?_⟩
   ·simp [execOp,ho,Instr.lookup,hv,h2,run_und hm,MapKept.run_getObj_map h4,MapKept.run_checkKey hk (k:= .int .i64 k) rfl,MapKept.run_findKey hk h9,Result.andThen]
   ·refine VRel.tup [(ms[i]'hil).val,.bool true] _ rfl fun j v d hv' hd=> ?_
    rcases j with _|_|j
    ·simp at hv' hd;subst hv' hd;exact h8 i _ c (List.getElem?_eq_getElem hil) hc
    ·simp at hv' hd;subst hv' hd;exact .data (.bool _)
    ·simp at hv'
theorem OS.lookupN{t kt et:TypeId}{x y:Operand}{n:Nat}{k:Int}{ks:List Int}{q:EC}{cs:List q.sem}{i:TI}(ho:o.op= .lookup t x y true)(hm:E.P.underlying t=some (.map kt et))(hk:E.P.underlying kt=some (.int .i64))
 (hx:ev E 0 a x=some (.mp n)) (hy:ev E 0 a y=some (.i k)) (hi:keyAt k ks=none) (ht:E.ti et=some i) (hz:zeroAgg E.P et=true):OS E N o a [(n,.map q ks cs)] (.tup [.agg i.zero,.bool false]) [] []:=
 .pure fun g D es w act hR hp hF=>by
  have h1:=ev_rel hx hR hF
  have h2:=(ev_rel hy hR hF).int_inv
  have hn:=hp (n,.map q ks cs) (by simp)
  obtain⟨_,ms,clock,h4,⟨h5,hbn⟩,h6,h7,h8⟩:=hR.ents n _ hn
  obtain⟨inf,q1,q2,z,q3,q4⟩:=ti_info ht
  obtain⟨q5,q6,q7⟩:=zmatch_rel q4
  have hzv:∃zs,z= .agg zs:=by
   unfold zeroAgg at hz
   rw[q1] at hz
   simp only[q3] at hz
   cases z<;>simp at hz
   exact⟨_,rfl⟩
  obtain⟨zs,rfl⟩:=hzv
  generalize hv:act.eval x=v at h1
  cases h1 with
  |data h=>cases h
  |mp _ hD=>
   have h9:=findNow_at k ms ks 0 (h5.trans h6.symm) h7
   rw[hi,Option.bind_none] at h9
   refine⟨.tuple #[.agg zs,.bool false],?_,?_⟩
   ·simp [execOp,ho,Instr.lookup,hv,h2,run_und hm,MapKept.run_getObj_map h4,MapKept.run_checkKey hk (k:= .int .i64 k) rfl,MapKept.run_findKey hk h9,Result.andThen,run_zero q1 q3]
   ·refine VRel.tup [.agg zs,.bool false] _ rfl fun j v d hv' hd=> ?_
    rcases j with _|_|j
    ·simp at hv' hd;subst hv' hd
     have:VRel g D w (.agg zs.toList.toArray) (.agg i.zero):= .agg zs.toList i.zero q5 q6 fun j v c h h'=>q7 g D w j v c h h'
     rwa [Array.toArray_toList] at this
    ·simp at hv' hd;subst hv' hd;exact .data (.bool _)
    ·simp at hv'
theorem VLe.weak(c:V):VLe c (V.weak c):=by
 cases c with
 |slice sp l=>exact VLe.any sp l
 |_=>exact VLe.refl _
theorem VsLe.weak:∀cs:List V,VsLe cs (cs.map V.weak)
 |[]=>trivial
 |c::cs=>⟨VLe.weak c,VsLe.weak cs⟩
theorem OS.mapUpdate{t kt et:TypeId}{x y z:Operand}{n:Nat}{k:Int}{ks:List Int}{q:EC}{cs:List q.sem}{c:q.sem}{v:V}(ho:o.op= .mapUpdate t x y z)(hm:E.P.underlying t=some (.map kt et))(hk:E.P.underlying kt=some (.int .i64))
 (hx:ev E 0 a x=some (.mp n)) (hy:ev E 0 a y=some (.i k)) (hz:ev E et a z=some v) (hle:VLe v (dataV q c)):OS E N o a [(n,.map q ks cs)] (.tup []) [] [(n,.map q (putKs k ks) (putCs k ks cs c))]:=
 .of_skip fun g D es w act hR hp hF=>by
  have h1:=ev_rel hx hR hF
  have h2:=(ev_rel hy hR hF).int_inv
  have h3:VRel g D w (act.eval z) (dataV q c):=hle _ _ _ _ (ev_rel hz hR hF)
  have hn:=hp (n,.map q ks cs) (by simp)
  obtain⟨_,ms,clock,h4,⟨h5,hbn⟩,h6,h7,h8⟩:=hR.ents n _ hn
  generalize hv:act.eval x=v at h1
  cases h1 with
  |data h=>cases h
  |mp _ hD=>
   have h9:=findNow_at k ms ks 0 (h5.trans h6.symm) h7
   cases hi:keyAt k ks with
   |none=>
    rw[hi,Option.bind_none] at h9
    have key:=hR.setmap (ks':=putKs k ks) (cs':=putCs k ks cs c) (ms:=ms) (ms':=ms++[⟨.int .i64 k,act.eval z,clock⟩]) (clock':=clock+1) hn h4
     ⟨by simp[putCs,hi,h5],hbn.push _ _⟩ (by simp[putCs,putKs,hi,h6])
     (fun j e x he hx=>by
      simp only[putKs,hi] at hx
      rcases Nat.lt_or_ge j ms.length with hj|hj
      ·rw [List.getElem?_append_left hj] at he
       rw[List.getElem?_append_left (by omega)] at hx
       exact h7 j e x he hx
      ·rw [List.getElem?_append_right hj] at he
       rw[List.getElem?_append_right (by omega)] at hx
       have hj':j-ms.length=0:=by
        have:=(List.getElem?_eq_some_iff.1 he).1;simp at this;omega
       have hj2:j-ks.length=0:=by omega
       rw[hj'] at he;rw[hj2] at hx
       simp at he hx;subst he hx;rfl)
     (fun j e d he hd=>by
      simp only[putCs,hi] at hd
      rcases Nat.lt_or_ge j ms.length with hj|hj
      ·rw [List.getElem?_append_left hj] at he
       rw[List.getElem?_append_left (by omega)] at hd
       exact h8 j e d he hd
      ·rw [List.getElem?_append_right hj] at he
       rw[List.getElem?_append_right (by omega)] at hd
       have hj':j-ms.length=0:=by
        have:=(List.getElem?_eq_some_iff.1 he).1;simp at this;omega
       have hj2:j-cs.length=0:=by omega
       rw[hj'] at he;rw[hj2] at hd
       simp at he hd;subst he hd;exact h3)
    refine⟨_,?_,key.1,key.2⟩
    simp[execOp,ho,Instr.mapUpdate,hv,h2,run_und hm,MapKept.run_getObj_map h4,MapKept.run_checkKey hk (k:= .int .i64 k) rfl,MapKept.run_findKey hk h9,Result.andThen,MapKept.run_setObj_map _ h4,setObjW]
   |some i=>
    have hil:i<ms.length:=by rw[h5,←h6];exact(keyAt_some hi).2
    rw[hi,Option.bind_some,List.getElem?_eq_getElem hil,Option.map_some] at h9
    have hkey:(ms[i]'hil).key= .int .i64 k:=h7 i _ k (List.getElem?_eq_getElem hil) (keyAt_some hi).1
    have key:=hR.setmap (ks':=putKs k ks) (cs':=putCs k ks cs c) (ms:=ms) (ms':=ms.modify i fun e=>{e with key:= .int .i64 k,val:=act.eval z}) (clock':=clock) hn h4
     ⟨by simp[putCs,hi,h5],hbn.modify _ _ _⟩ (by simp[putCs,putKs,hi,h6])
     (fun j e x he hx=>by
      simp only[putKs,hi] at hx
      rw[List.getElem?_modify,Option.map_eq_map,Option.map_eq_some_iff] at he
      obtain⟨e0,he0,rfl⟩:=he
      have h10:=h7 j e0 x he0 hx
      by_cases hij:i=j
      ·subst hij
       rw[(keyAt_some hi).1] at hx;cases hx
       simp
      ·simp [hij,h10])
     (fun j e d he hd=>by
      simp only[putCs,hi] at hd
      rw[List.getElem?_modify,Option.map_eq_map,Option.map_eq_some_iff] at he
      obtain⟨e0,he0,rfl⟩:=he
      by_cases hij:i=j
      ·subst hij
       rw[List.getElem?_set_self (by omega)] at hd;cases hd
       simp;exact h3
      ·rw [List.getElem?_set_ne hij] at hd
       simp[hij];exact h8 j e0 d he0 hd)
    refine⟨_,?_,key.1,key.2⟩
    simp[execOp,ho,Instr.mapUpdate,hv,h2,run_und hm,MapKept.run_getObj_map h4,MapKept.run_checkKey hk (k:= .int .i64 k) rfl,MapKept.run_findKey hk h9,Result.andThen,MapKept.run_setObj_map _ h4,setObjW,List.getElem?_eq_getElem hil,hkey,MapKept.run_keyThatStays (d:= .int .i64) (k:= .int .i64 k) rfl]
end
section
variable {E:Env} {N k:Nat} {a:AF} {σ:Sto}
variable {Q:Exit→AF→Sto→Prop} {ops:List Oper} {dr:Bool} {rest:List Oper} {acc:List Rec}
variable {d:Option Tmp} {ty:TypeId} {ps:String} {af:Array Edge} {gd:Option (Nat×Bool)}
namespace L
theorem mmT{t kt et:TypeId}{i:TI}(hw:wantG ops a gd=some true)(hm:E.P.underlying t=some (.map kt et))(ht:E.ti et=some i)(hs:Nat.beq i.size 5=true)(hd:dstOk N d=true)
 (h2:AX E N k dr ops rest (a.put d (.mp σ.nx)) (σ.upd 1 [(σ.nx,.map .tm [] [])]) (⟨[],.mp σ.nx,1,[(σ.nx,.map .tm [] [])]⟩::acc) Q):AX E N k dr ops (⟨d,.makeMap t none,ty,ps,af,gd⟩::rest) a σ acc Q:=
 AX.run 1 hw (OS.makeMap .tm rfl) trivial hd h2
theorem mmB{t kt et:TypeId}{i:TI}(hw:wantG ops a gd=some true)(hm:E.P.underlying t=some (.map kt et))(ht:E.ti et=some i)(hs:i.desc= .bool)(hd:dstOk N d=true)
 (h2:AX E N k dr ops rest (a.put d (.mp σ.nx)) (σ.upd 1 [(σ.nx,.map .bl [] [])]) (⟨[],.mp σ.nx,1,[(σ.nx,.map .bl [] [])]⟩::acc) Q):AX E N k dr ops (⟨d,.makeMap t none,ty,ps,af,gd⟩::rest) a σ acc Q:=
 AX.run 1 hw (OS.makeMap .bl rfl) trivial hd h2
theorem lnm{t kt et:TypeId}{x:Operand}{n:Nat}{ks:List Int}{q:EC}{cs:List q.sem}(hw:wantG ops a gd=some true)(hx:ev E t a x=some (.mp n))(hm:E.P.underlying t=some (.map kt et))(hn:findE σ.es n=some (.map q ks cs))(hd:dstOk N d=true)
 (h2:AX E N k dr ops rest (a.put d (.int .i64 cs.length)) σ (⟨[(n,.map q ks cs)],.int .i64 cs.length,0,[]⟩::acc) Q):AX E N k dr ops (⟨d,.call ⟨.builtin .len,#[x],#[t]⟩,ty,ps,af,gd⟩::rest) a σ acc Q:=
 AX.run 0 hw (OS.lenM rfl hm (fr (by simp[Op.operands,Call.operands]) hx)) ⟨hn,trivial⟩ hd h2
theorem lkuT{t kt et:TypeId}{x y:Operand}{n:Nat}{q:Int}{ks:List Int}{cs:List Tm}{i:Nat}{c:Tm}(hw:wantG ops a gd=some true)(hx:ev E 0 a x=some (.mp n))(hy:ev E 0 a y=some (.i q))(hm:E.P.underlying t=some (.map kt et))(hk:E.P.underlying kt=some (.int .i64))
 (hn:findE σ.es n=some (.map .tm ks cs)) (hi:keyAt q ks=some i) (hc:cs[i]? =some c) (hd:dstOk N d=true)
 (h2:AX E N k dr ops rest (a.put d (.tup [.agg c.view,.bool true])) σ (⟨[(n,.map .tm ks cs)],.tup [.agg c.view,.bool true],0,[]⟩::acc) Q):AX E N k dr ops (⟨d,.lookup t x y true,ty,ps,af,gd⟩::rest) a σ acc Q:=
 AX.run 0 hw (OS.lookup (q:= .tm) (c:=c) rfl hm hk (fr (by simp[Op.operands]) hx) (fr (by simp[Op.operands]) hy) hi hc) ⟨hn,trivial⟩ hd h2
theorem lkn{t kt et:TypeId}{x y:Operand}{n:Nat}{q:Int}{ks:List Int}{e:EC}{cs:List e.sem}{i:TI}(hw:wantG ops a gd=some true)(hx:ev E 0 a x=some (.mp n))(hy:ev E 0 a y=some (.i q))(hm:E.P.underlying t=some (.map kt et))(hk:E.P.underlying kt=some (.int .i64))
 (hn:findE σ.es n=some (.map e ks cs)) (hi:keyAt q ks=none) (ht:E.ti et=some i) (hz:zeroAgg E.P et=true) (hd:dstOk N d=true)
 (h2:AX E N k dr ops rest (a.put d (.tup [.agg i.zero,.bool false])) σ (⟨[(n,.map e ks cs)],.tup [.agg i.zero,.bool false],0,[]⟩::acc) Q):AX E N k dr ops (⟨d,.lookup t x y true,ty,ps,af,gd⟩::rest) a σ acc Q:=
 AX.run 0 hw (OS.lookupN rfl hm hk (fr (by simp[Op.operands]) hx) (fr (by simp[Op.operands]) hy) hi ht hz) ⟨hn,trivial⟩ hd h2
theorem muT{t kt et:TypeId}{x y z:Operand}{n:Nat}{q:Int}{ks:List Int}{cs:List Tm}{vc:List V}{u:Tm}(hw:wantG ops a gd=some true)(hx:ev E 0 a x=some (.mp n))(hy:ev E 0 a y=some (.i q))(hm:E.P.underlying t=some (.map kt et))(hk:E.P.underlying kt=some (.int .i64))
 (hz:ev E et a z=some (.agg vc)) (hf:EC.fold .tm vc=some u) (hn:findE σ.es n=some (.map .tm ks cs)) (hd:dstOk N d=true)
 (h2:AX E N k dr ops rest (a.put d (.tup [])) (σ.upd 0 [(n,.map .tm (putKs q ks) (putCs q ks cs u))]) (⟨[(n,.map .tm ks cs)],.tup [],0,[(n,.map .tm (putKs q ks) (putCs q ks cs u))]⟩::acc) Q):AX E N k dr ops (⟨d,.mapUpdate t x y z,ty,ps,af,gd⟩::rest) a σ acc Q:=
 AX.run 0 hw (OS.mapUpdate (q:= .tm) (c:=u) (v:= .agg vc) rfl hm hk (fr (by simp[Op.operands]) hx) (fr (by simp[Op.operands]) hy) (fr (by simp[Op.operands]) hz) (by
  have h3:=EC.fold_view .tm vc u hf
  show VLe (.agg vc) (.agg (Tm.view u))
  rw[show Tm.view u=vc.map V.weak from h3]
  exact VLe.agg (VsLe.weak vc))) ⟨hn,trivial⟩ hd h2
theorem muB{t kt et:TypeId}{x y z:Operand}{n:Nat}{q:Int}{ks:List Int}{cs:List Bool}{b:Bool}(hw:wantG ops a gd=some true)(hx:ev E 0 a x=some (.mp n))(hy:ev E 0 a y=some (.i q))(hm:E.P.underlying t=some (.map kt et))(hk:E.P.underlying kt=some (.int .i64))
 (hz:ev E et a z=some (.bool b)) (hn:findE σ.es n=some (.map .bl ks cs)) (hd:dstOk N d=true)
 (h2:AX E N k dr ops rest (a.put d (.tup [])) (σ.upd 0 [(n,.map .bl (putKs q ks) (putCs q ks cs b))]) (⟨[(n,.map .bl ks cs)],.tup [],0,[(n,.map .bl (putKs q ks) (putCs q ks cs b))]⟩::acc) Q):AX E N k dr ops (⟨d,.mapUpdate t x y z,ty,ps,af,gd⟩::rest) a σ acc Q:=
 AX.run 0 hw (OS.mapUpdate (q:= .bl) (c:=b) (v:= .bool b) rfl hm hk (fr (by simp[Op.operands]) hx) (fr (by simp[Op.operands]) hy) (fr (by simp[Op.operands]) hz) (VLe.refl _)) ⟨hn,trivial⟩ hd h2
end L
end
section
variable {E:Env} {N k:Nat} {a:AF} {σ:Sto} {Q:Exit→AF→Sto→Prop}
def upQ(E:Env)(N k:Nat)(len n:Nat)(P:Nat→Prop)(J:Nat→AF×Sto)(Q:Exit→AF→Sto→Prop):Exit→AF→Sto→Prop
 | .normal,a,σ=>n<len∧P (n+1)∧Weak E N k a σ (J (n+1)).1 (J (n+1)).2
 |e,a,σ=>Q e a σ
end
namespace K
variable {E:Env} {N k:Nat} {a:AF} {σ:Sto} {Q:Exit→AF→Sto→Prop}
theorem uR{len n:Nat}{P:Nat→Prop}{J:Nat→AF×Sto}(h:Q .ret a σ):upQ E N k len n P J Q .ret a σ:=h
theorem uE{len n:Nat}{P:Nat→Prop}{J:Nat→AF×Sto}{id:Nat}(h:Q (.exit id) a σ):upQ E N k len n P J Q (.exit id) a σ:=h
end K
section
variable {E:Env} {N k:Nat} {a:AF} {σ:Sto} {Q:Exit→AF→Sto→Prop} {ops:List Oper} {dr:Bool} {rest:List Oper} {acc:List Rec}
variable {d:Option Tmp} {ty:TypeId} {ps:String} {af:Array Edge} {gd:Option (Nat×Bool)}
theorem OS.ng{o:Oper}{t:TypeId}{x:Operand}{n:Int}(ho:o.op= .unOp .neg t x)(hx:ev E 0 a x=some (.i n))(hb: -9223372036854775807≤n∧n≤9223372036854775807):OS E N o a [] (.i (-n)) [] []:=by
 have h:=OS.neg (N:=N) ho hx
 rwa [IntWalk.i64_in _ (by omega),Int.zero_sub] at h
namespace L
theorem ng{t:TypeId}{x:Operand}{n:Int}(hw:wantG ops a gd=some true)(hx:ev E 0 a x=some (.int .i64 n))(hd:dstOk N d=true)(hb: -9223372036854775807≤n∧n≤9223372036854775807)
 (h2:AX E N k dr ops rest (a.put d (.int .i64 (-n))) σ (⟨[],.int .i64 (-n),0,[]⟩::acc) Q):AX E N k dr ops (⟨d,.unOp .neg t x,ty,ps,af,gd⟩::rest) a σ acc Q:=by
 exact AX.run 0 hw (OS.ng rfl (fr (by simp[Op.operands,Call.operands]) hx) hb) trivial hd h2
end L
end
theorem renVs_app{ρ:List (Option Nat)}:∀{a a' b b':List V},renVs ρ a=some a'→renVs ρ b=some b'→renVs ρ (a++b)=some (a'++b')
 |[],_,b,b',h,h'=>by simp[renVs] at h;subst h;exact h'
 |c::a,_,b,b',h,h'=>by
  simp only[renVs,Option.bind_eq_some_iff,Option.map_eq_some_iff] at h
  obtain⟨c',h1,a',h2,rfl⟩:=h
  simp only[List.cons_append,renVs,h1,renVs_app h2 h',Option.bind_some,Option.map_some]
theorem renVs_view(ρ:List (Option Nat))(c:EC)(x:c.sem):renVs ρ (c.view x)=some (c.view x):=by cases c<;>rfl
theorem renVs_flat(ρ:List (Option Nat))(c:EC)(l:List c.sem):renVs ρ (l.flatMap c.view)=some (l.flatMap c.view):=by
 induction l with
 |nil=>rfl
 |cons x l ih=>rw[List.flatMap_cons];exact renVs_app (renVs_view ρ c x) ih
section
variable {E:Env} {N k:Nat} {o:Oper} {a:AF}
end
section
variable {E:Env} {N k:Nat} {a:AF} {σ:Sto} {Q:Exit→AF→Sto→Prop} {ops:List Oper} {dr:Bool} {rest:List Oper} {acc:List Rec}
variable {d:Option Tmp} {ty:TypeId} {ps:String} {af:Array Edge} {gd:Option (Nat×Bool)}
namespace L
end L
end
theorem fill_congr{f g:Nat→Option (Nat×Nat)}:∀(parts:List (Nat×Value)) (z:Array Value),(∀p∈parts,f p.1=g p.1)→Instr.fill f z parts=Instr.fill g z parts
 |[],z,_=>rfl
 |p::l,z,h=>by
  have h1:=h p (by simp)
  simp only[Instr.fill,h1]
  cases g p.1 with
  |none=>rfl
  |some q=>
   simp only
   split
   ·rfl
   ·exact fill_congr l _ fun x hx=>h x (by simp[hx])
theorem fillV_idx{gs:List (Nat×Nat×Bool)}:∀{vps:List (Nat×List V)} {z cs:List V},fillV gs z vps=some cs→∀p∈vps,p.1<gs.length
 |[],z,cs,h,p,hp=>by cases hp
 |q::l,z,cs,h,p,hp=>by
  simp only[fillV] at h
  cases hq:gs[q.1]? with
  |none=>simp[hq] at h
  |some r=>
   rw[hq] at h
   cases hb:Nat.beq q.2.length r.2.1&&Nat.ble (r.1+q.2.length) z.length with
   |false=>simp[hb] at h
   |true=>
    simp only[hb,cond_true] at h
    rcases List.mem_cons.1 hp with rfl|hp
    ·exact (List.getElem?_eq_some_iff.1 hq).1
    ·exact fillV_idx h p hp
theorem partsV_idx{E:Env}{a:AF}:∀{ps:List (Nat×Operand)} {vps:List (Nat×List V)},partsV E a ps=some vps→vps.map (·.1)=ps.map (·.1)
 |[],vps,h=>by simp[partsV] at h;subst h;rfl
 |p::l,vps,h=>by
  simp only[partsV,Option.bind_eq_some_iff,Option.map_eq_some_iff] at h
  obtain⟨vc,_,r,h6,rfl⟩:=h
  simp[partsV_idx h6]
def arrPlaces(n esz:Nat)(ea:Bool):List (Nat×Nat×Bool):=(List.range n).map fun i=>(i*esz,esz,ea)
section
variable {E:Env} {N k:Nat} {o:Oper} {a:AF}
theorem OS.buildA{t:TypeId}{ps:List (Nat×Operand)}{i:TI}{n esz:Nat}{ea:Bool}{vps:List (Nat×List V)}{cs:List V}(ho:o.op= .build t ps.toArray)(ht:E.ti t=some i)(hd:i.desc= .arr n esz ea)
 (hp:partsV E a ps=some vps) (hf:fillV (arrPlaces n esz ea) i.zero vps=some cs):OS E N o a [] (.agg cs) [] []:=
 .pure fun g D es w act hR _ hF=>by
  obtain⟨e,ie,h1,h2,h2',_,_⟩:=arr_inv ht hd
  obtain⟨inf,h3,h4,z,h5,h6⟩:=ti_info ht
  obtain⟨h7,h8,h9⟩:=zmatch_rel h6
  obtain⟨us,h10,h11,h12,h13⟩:=fill_rel hR hF hp hf h7 h8 (fun i v c hv hc=>h9 g D w i v c hv hc)
  refine⟨.agg us.toArray,?_,.agg us cs h11 h12 h13⟩
  have hb:E.P.built t ((ps.toArray.map fun x=>(x.1,act.eval x.2))).toList=some us.toArray:=by
   unfold Program.built
   simp only[h3,h1,h5,h2]
   rw[←h10]
   have e1:(ps.toArray.map fun x=>(x.1,act.eval x.2)).toList=ps.map fun x=>(x.1,act.eval x.2):=by simp
   rw[e1]
   have e2:z.cells.toList.toArray=z.cells:=by simp
   rw[←e2]
   refine fill_congr _ _ fun p hp'=> ?_
   obtain⟨x,hx,rfl⟩:=List.mem_map.1 hp'
   have hlt:x.1<n:=by
    have hm:x.1∈vps.map (·.1):=by rw[partsV_idx hp];exact List.mem_map.2 ⟨x,hx,rfl⟩
    obtain⟨y,hy,hyx⟩:=List.mem_map.1 hm
    have:=fillV_idx hf y hy
    simp only[arrPlaces,List.length_map,List.length_range] at this
    omega
   simp only
   have:(arrPlaces n esz ea)[x.1]? =some (x.1*esz,esz,ea):=by simp[arrPlaces,hlt]
   rw[this,h2'];rfl
  have hrun:=run_build (P:=E.P) w t (ps.toArray.map fun x=>(x.1,act.eval x.2)) us.toArray hb
  simp only[execOp,ho,hrun,Sem.run_bind,Result.andThen_ok,Sem.run_pure]
end
section
variable {E:Env} {N k:Nat} {a:AF} {σ:Sto} {Q:Exit→AF→Sto→Prop} {ops:List Oper} {dr:Bool} {rest:List Oper} {acc:List Rec}
variable {d:Option Tmp} {ty:TypeId} {ps:String} {af:Array Edge} {gd:Option (Nat×Bool)}
theorem L.bda{t:TypeId}{pp:List (Nat×Operand)}{z:Nat}{zr:List V}{n esz:Nat}{ea:Bool}{vps:List (Nat×List V)}{cs:List V}(hw:wantG ops a gd=some true)(ht:E.ti t=some ⟨z,zr,.arr n esz ea⟩)(hp:partsV E a pp=some vps)
 (hf:fillV (arrPlaces n esz ea) zr vps=some cs) (hd:dstOk N d=true) (h2:AX E N k dr ops rest (a.put d (.agg cs)) σ (⟨[],.agg cs,0,[]⟩::acc) Q):AX E N k dr ops (⟨d,.build t pp.toArray,ty,ps,af,gd⟩::rest) a σ acc Q:=
 AX.run 0 hw (OS.buildA rfl ht rfl (frP (by intro p hp;simp only[Op.operands,List.mem_map];exact⟨p,hp,rfl⟩) hp) hf) trivial hd h2
end
def zv(E:Env)(t:TypeId):Value:=((E.P.info? t).bind fun i=>i.zero).getD undef
section
variable {E:Env} {N k:Nat} {o:Oper} {a:AF}
theorem OS.mkI{t:TypeId}{x:Operand}{i:TI}{gs:List (Nat×Nat×Bool)}{cs:List V}(ho:o.op= .makeInterface t x)(ht:E.ti t=some i)(hd:i.desc= .strct gs)(hx:ev E 0 a x=some (.agg cs))
 (hc:(cs.all isData)=true):OS E N o a [] (.ifc t (cs.map V.weak)) [] []:=
 .pure fun g D es w act hR _ hF=>by
  obtain⟨fs,h1,h2⟩:=strct_inv ht hd
  obtain⟨vs,h9,h10,h11,h12⟩:=(ev_rel hx hR hF).agg_inv
  refine⟨.iface t (.agg vs.toArray),?_,.data (.ifc t vs (cs.map V.weak) (by simpa using h10) h11 fun j v c hv hc'=> ?_)⟩
  ·simp only[execOp,ho,Instr.makeInterface,run_und h1,Sem.run_bind,Result.andThen_ok,h9,Sem.run_pure]
  ·rw [List.getElem?_map,Option.map_eq_some_iff] at hc'
   obtain⟨c0,h3,rfl⟩:=hc'
   exact data_weak (h12 j v c0 hv h3) (List.all_eq_true.1 hc c0 (List.mem_of_getElem? h3))
theorem OS.asY{t xt:TypeId}{x:Operand}{i:TI}{gs:List (Nat×Nat×Bool)}{cs:List V}(ho:o.op= .typeAssert x xt t true)(ht:E.ti t=some i)(hd:i.desc= .strct gs)(hx:ev E 0 a x=some (.ifc t cs)):
 OS E N o a [] (.tup [.agg cs,.bool true]) [] []:=
 .pure fun g D es w act hR _ hF=>by
  obtain⟨fs,h1,h2⟩:=strct_inv ht hd
  have h3:=ev_rel hx hR hF
  generalize hv:act.eval x=v at h3
  cases h3 with
  |data h3=>
   cases h3 with
   |ifc _ vs _ hl h4 h5=>
    refine⟨.tuple #[.agg vs.toArray,.bool true],?_,.tup [.agg vs.toArray,.bool true] _ rfl fun j v c hv hc=> ?_⟩
    ·simp only[execOp,ho,Instr.typeAssert,run_und h1,Sem.run_bind,Result.andThen_ok,hv,Sem.run_pure,if_true]
    ·rcases j with _|_|j
     ·simp at hv hc;subst hv;subst hc
      exact .agg vs cs hl h4 fun i v c h6 h7=> .data (h5 i v c h6 h7)
     ·simp at hv hc;subst hv;subst hc
      exact .data (.bool true)
     ·simp at hv
theorem OS.asN{t u xt:TypeId}{x:Operand}{i:TI}{gs:List (Nat×Nat×Bool)}{cs:List V}(ho:o.op= .typeAssert x xt t true)(ht:E.ti t=some i)(hd:i.desc= .strct gs)(hx:ev E 0 a x=some (.ifc u cs))(hne:Nat.beq u t=false):
 OS E N o a [] (.tup [.raw (zv E t),.bool false]) [] []:=
 .pure fun g D es w act hR _ hF=>by
  obtain⟨fs,h1,h2⟩:=strct_inv ht hd
  obtain⟨inf,h6,h7,z,h8,h9⟩:=ti_info ht
  have hz:zv E t=z:=by simp[zv,h6,h8]
  have hut:¬u=t:=fun e=>by subst e;simp at hne
  have h3:=ev_rel hx hR hF
  generalize hv:act.eval x=v at h3
  cases h3 with
  |data h3=>
   cases h3 with
   |ifc _ vs _ hl h4 h5=>
    refine⟨.tuple #[z,.bool false],?_,.tup [z,.bool false] _ rfl fun j v c hv hc=> ?_⟩
    ·simp only[execOp,ho,Instr.typeAssert,run_und h1,Sem.run_bind,Result.andThen_ok,hv,Sem.run_pure,if_true,hut,if_false,run_zero h6 h8]
    ·rcases j with _|_|j
     ·simp at hv hc;subst hv;subst hc;rw[hz];exact .raw _
     ·simp at hv hc;subst hv;subst hc
      exact .data (.bool false)
     ·simp at hv
end
section
variable {E:Env} {N k:Nat} {a:AF} {σ:Sto} {Q:Exit→AF→Sto→Prop} {ops:List Oper} {dr:Bool} {rest:List Oper} {acc:List Rec}
variable {d:Option Tmp} {ty:TypeId} {ps:String} {af:Array Edge} {gd:Option (Nat×Bool)}
theorem L.mki{t:TypeId}{x:Operand}{z:Nat}{zr:List V}{gs:List (Nat×Nat×Bool)}{cs:List V}(hw:wantG ops a gd=some true)(ht:E.ti t=some ⟨z,zr,.strct gs⟩)(hx:ev E 0 a x=some (.agg cs))(hc:(cs.all isData)=true)(hd:dstOk N d=true)
 (h2:AX E N k dr ops rest (a.put d (.ifc t (cs.map V.weak))) σ (⟨[],.ifc t (cs.map V.weak),0,[]⟩::acc) Q):AX E N k dr ops (⟨d,.makeInterface t x,ty,ps,af,gd⟩::rest) a σ acc Q:=
 AX.run 0 hw (OS.mkI rfl ht rfl (fr (by simp[Op.operands,Call.operands]) hx) hc) trivial hd h2
theorem L.asy{t xt:TypeId}{x:Operand}{z:Nat}{zr:List V}{gs:List (Nat×Nat×Bool)}{cs:List V}(hw:wantG ops a gd=some true)(ht:E.ti t=some ⟨z,zr,.strct gs⟩)(hx:ev E 0 a x=some (.ifc t cs))(hd:dstOk N d=true)
 (h2:AX E N k dr ops rest (a.put d (.tup [.agg cs,.bool true])) σ (⟨[],.tup [.agg cs,.bool true],0,[]⟩::acc) Q):AX E N k dr ops (⟨d,.typeAssert x xt t true,ty,ps,af,gd⟩::rest) a σ acc Q:=
 AX.run 0 hw (OS.asY rfl ht rfl (fr (by simp[Op.operands,Call.operands]) hx)) trivial hd h2
theorem L.asn{t u xt:TypeId}{x:Operand}{z:Nat}{zr:List V}{gs:List (Nat×Nat×Bool)}{cs:List V}(hw:wantG ops a gd=some true)(ht:E.ti t=some ⟨z,zr,.strct gs⟩)(hx:ev E 0 a x=some (.ifc u cs))(hne:Nat.beq u t=false)(hd:dstOk N d=true)
 (h2:AX E N k dr ops rest (a.put d (.tup [.raw (zv E t),.bool false])) σ (⟨[],.tup [.raw (zv E t),.bool false],0,[]⟩::acc) Q):AX E N k dr ops (⟨d,.typeAssert x xt t true,ty,ps,af,gd⟩::rest) a σ acc Q:=
 AX.run 0 hw (OS.asN rfl ht rfl (fr (by simp[Op.operands,Call.operands]) hx) hne) trivial hd h2
end
def isFuncT(P:Program)(t:TypeId):Bool:=match P.underlying t with|some (.func _ _ _)=>true|_=>false
theorem isFuncT_ex{P:Program}{t:TypeId}(h:isFuncT P t=true):∃a b c,P.underlying t=some (.func a b c):=by
 unfold isFuncT at h
 split at h
 ·exact ⟨_,_,_,by assumption⟩
 ·cases h
def isFnV:V→Option Bool
 | .nilf=>some false
 | .fn _ _ _=>some true
 |_=>none
section
variable {E:Env} {N k:Nat} {o:Oper} {a:AF}
theorem OS.fnn{t u:TypeId}{x y:Operand}{c:V}{b:Bool}(ho:o.op= .binOp .neq t x y u)(ht:isFuncT E.P t=true)(hx:ev E t a x=some c)(hc:isFnV c=some b)(hy:ev E t a y=some .nilf):OS E N o a [] (.bool b) [] []:=
 .pure fun g D es w act hR _ hF=>by
  obtain⟨p,q,r,hu⟩:=isFuncT_ex ht
  have h1:=ev_rel hx hR hF
  have h2:=ev_rel hy hR hF
  generalize hvx:act.eval x=v at h1
  generalize hvy:act.eval y=v' at h2
  have e2:v'= .nilFunc:=by
   cases h2 with
   |data h=>cases h
   |nilf=>rfl
  subst e2
  cases c with
  |nilf=>
   simp only[isFnV,Option.some.injEq] at hc
   subst hc
   have e1:v= .nilFunc:=by
    cases h1 with
    |data h=>cases h
    |nilf=>rfl
   subst e1
   have he:(Op.equal t .nilFunc .nilFunc).run E.P w= .ok true w:=by
    unfold Op.equal Op.maxDepth Op.equalIn
    simp[run_und hu]
   exact⟨.bool false,by simp[execOp,ho,eqGuard,hvx,hvy,binOp,he],.data (.bool _)⟩
  |fn f fi caps=>
   simp only[isFnV,Option.some.injEq] at hc
   subst hc
   obtain⟨fi',caps',e1⟩:∃fi' caps',v= .func f fi' caps':=by
    cases h1 with
    |data h=>cases h
    |fn=>exact⟨_,_,rfl⟩
   subst e1
   have he:(Op.equal t (.func f fi' caps') .nilFunc).run E.P w= .ok false w:=by
    unfold Op.equal Op.maxDepth Op.equalIn
    simp[run_und hu]
   exact⟨.bool true,by simp[execOp,ho,eqGuard,hvx,hvy,binOp,he],.data (.bool _)⟩
  |_=>cases hc
end
section
variable {E:Env} {N k:Nat} {a:AF} {σ:Sto} {Q:Exit→AF→Sto→Prop} {ops:List Oper} {dr:Bool} {rest:List Oper} {acc:List Rec}
variable {d:Option Tmp} {ty:TypeId} {ps:String} {af:Array Edge} {gd:Option (Nat×Bool)}
theorem L.fnn{t u:TypeId}{x y:Operand}{c:V}{b:Bool}(hw:wantG ops a gd=some true)(ht:isFuncT E.P t=true)(hx:ev E t a x=some c)(hc:isFnV c=some b)(hy:ev E t a y=some .nilf)(hd:dstOk N d=true)
 (h2:AX E N k dr ops rest (a.put d (.bool b)) σ (⟨[],.bool b,0,[]⟩::acc) Q):AX E N k dr ops (⟨d,.binOp .neq t x y u,ty,ps,af,gd⟩::rest) a σ acc Q:=
 AX.run 0 hw (OS.fnn rfl ht (fr (by simp[Op.operands,Call.operands]) hx) hc (fr (by simp[Op.operands,Call.operands]) hy)) trivial hd h2
end
theorem R.same{G:Glob}{g:Gh}{D:Nat→Prop}{es es':Es}{w:World}(h:∀n,findE es n=findE es' n)(hR:R G g D es w):R G g D es' w:=
 ⟨fun n e he=>hR.lt n e (by rw[h];exact he),fun n n' e e' b h1 h2=>hR.foots n n' e e' b (by rw[h];exact h1) (by rw[h];exact h2),fun n e he=>hR.ents n e (by rw[h];exact he),hR.fresh,hR.nodes,hR.glob⟩
theorem Foot.same{g:Gh}{es es':Es}(h:∀n,findE es n=findE es' n):Foot g es=Foot g es':=by
 funext b;unfold Foot;simp only[h]
section
variable {E:Env} {N k:Nat} {o:Oper} {a:AF}
end
section
variable {E:Env} {N k:Nat} {a:AF} {σ:Sto} {Q:Exit→AF→Sto→Prop} {ops:List Oper} {dr:Bool} {rest:List Oper} {acc:List Rec}
variable {d:Option Tmp} {ty:TypeId} {ps:String} {af:Array Edge} {gd:Option (Nat×Bool)}
end
end Go.Ab
namespace Go.Ab
open Go
set_option linter.all false
section
variable {E:Env} {N k:Nat} {a:AF} {σ:Sto} {Q:Exit→AF→Sto→Prop} {ops:List Oper} {dr:Bool} {rest:List Oper} {acc:List Rec}
variable {d:Option Tmp} {ty:TypeId} {ps:String} {af:Array Edge} {gd:Option (Nat×Bool)}
theorem M.sb{t u:TypeId}{x y:Operand}{n m:Int}(h2:AX E N k dr ops rest (a.put d (.int .i64 (n-m))) σ (⟨[],.int .i64 (n-m),0,[]⟩::acc) Q)(hw:wantG ops a gd=some true:=by exact rfl)(hx:ev E t a x=some (.int .i64 n):=by exact rfl)(hy:ev E t a y=some (.int .i64 m):=by exact rfl)(hd:dstOk N d=true:=by exact rfl)(h1: -9223372036854775808≤n-m∧n-m≤9223372036854775807:=by omega):
 AX E N k dr ops (⟨d,.binOp .sub t x y u,ty,ps,af,gd⟩::rest) a σ acc Q:=L.sb hw hx hy hd h1 h2
theorem M.st{t:TypeId}{x y:Operand}{i:TI}{n off:Nat}{cs:List V}{c:V}{vc:List V}(h2:AX E N k dr ops rest (a.put d (.tup [])) (σ.upd 0 [(n,.var (cs.take off++vc++cs.drop (off+vc.length)))]) (⟨[(n,.var cs)],.tup [],0,[(n,.var (cs.take off++vc++cs.drop (off+vc.length)))]⟩::acc) Q)(hw:wantG ops a gd=some true:=by exact rfl)(hx:ev E 0 a x=some (.ptr n off):=by exact rfl)(ht:E.ti t=some i:=by exact rfl)(hy:ev E t a y=some c:=by exact rfl)(hn:findE σ.es n=some (.var cs):=by exact rfl)(hc:cellsOf c=some vc:=by exact rfl)(hs:vc.length=i.size:=by exact rfl)(hb:Nat.ble (off+vc.length) cs.length=true:=by exact rfl)(hd:dstOk N d=true:=by exact rfl):
 AX E N k dr ops (⟨d,.store t x y,ty,ps,af,gd⟩::rest) a σ acc Q:=L.st hw hx ht hy hn hc hs hb hd h2
theorem M.nt{t:TypeId}{x:Operand}{b:Bool}(h2:AX E N k dr ops rest (a.put d (.bool (!b))) σ (⟨[],.bool (!b),0,[]⟩::acc) Q)(hw:wantG ops a gd=some true:=by exact rfl)(hx:ev E 0 a x=some (.bool b):=by exact rfl)(hd:dstOk N d=true:=by exact rfl):
 AX E N k dr ops (⟨d,.unOp .not t x,ty,ps,af,gd⟩::rest) a σ acc Q:=L.nt hw hx hd h2
theorem M.s3{t:TypeId}{x y zz:Operand}{z:Nat}{zr:List V}{c:Option EC}{sz bytes:Nat}{sp:Sp}{l:SL V}{k1 k2:IntKind}(h2:AX E N k dr ops rest (a.put d (.slice .full l)) σ (⟨[],.slice .full l,0,[]⟩::acc) Q)(hw:wantG ops a gd=some true:=by exact rfl)(hx:ev E t a x=some (.slice sp l):=by exact rfl)(ht:E.ti t=some ⟨z,zr,.slc c sz bytes⟩:=by exact rfl)(hy:ev E 0 a y=some (.int k1 l.len):=by exact rfl)(hz:ev E 0 a zz=some (.int k2 l.len):=by exact rfl)(hd:dstOk N d=true:=by exact rfl):
 AX E N k dr ops (⟨d,.slice t x none (some y) (some zz),ty,ps,af,gd⟩::rest) a σ acc Q:=L.s3 hw hx ht hy hz hd h2
theorem M.n1{rs:List ResultVar}{r:V}{cs:List V}{c1:V}(h8:(tupV cs).wk=c1)(h1:resVs E a σ.es rs=some cs:=by with_unfolding_all rfl)(h7:renV [] r=some c1:=by with_unfolding_all rfl):
 retQ E 0 rs r ⟨0,[]⟩ .normal a σ:=K.n1 h1 h7 h8
theorem M.ix{t:TypeId}{x y:Operand}{z:Nat}{zr:List V}{c:Option EC}{sz bytes:Nat}{sp:Sp}{l:SL V}{n:Int}{cs:List V}{kd:IntKind}(h2:AX E N k dr ops rest (a.put d (.addr cs)) σ (⟨[],.addr cs,0,[]⟩::acc) Q)(hw:wantG ops a gd=some true:=by exact rfl)(hx:ev E t a x=some (.slice sp l):=by exact rfl)(ht:E.ti t=some ⟨z,zr,.slc c sz bytes⟩:=by exact rfl)(hy:ev E 0 a y=some (.int kd n):=by exact rfl)(hn:n=0:=by exact rfl)(hlt:0<l.len:=by exact Nat.le_of_ble_eq_true rfl)(hk:l.get 0=some cs:=by exact rfl)(hsz:Nat.beq l.cells sz=true:=by exact rfl)(hd:dstOk N d=true:=by exact rfl):
 AX E N k dr ops (⟨d,.indexAddr t x y,ty,ps,af,gd⟩::rest) a σ acc Q:=L.ix 0 hw hx ht hy hn hlt hk hsz hd h2
theorem M.ixb{t:TypeId}{x y:Operand}{z:Nat}{zr:List V}{m esz:Nat}{ea:Bool}{p off:Nat}{n:Int}{kd:IntKind}(h2:AX E N k dr ops rest (a.put d (.ptr p (off+0*esz))) σ (⟨[],.ptr p (off+0*esz),0,[]⟩::acc) Q)(hw:wantG ops a gd=some true:=by exact rfl)(hx:ev E 0 a x=some (.ptr p off):=by exact rfl)(ht:E.ti t=some ⟨z,zr,.arr m esz ea⟩:=by exact rfl)(hy:ev E 0 a y=some (.int kd n):=by exact rfl)(hn:n=0:=by exact rfl)(hlt:0<m:=by decide)(hd:dstOk N d=true:=by exact rfl):
 AX E N k dr ops (⟨d,.indexAddr t x y,ty,ps,af,gd⟩::rest) a σ acc Q:=L.ixb 0 hw hx ht hy hn hlt hd h2
theorem M.c2{f:FuncId}{xs:List Operand}{ts:List TypeId}{cs args:List V}{r:V}(h:PC E f args r)(h2:AX E N k dr ops rest (a.put d r) σ (⟨[],r,0,[]⟩::acc) Q)(hw:wantG ops a gd=some true:=by exact rfl)(hx:evT E a xs ts=some cs:=by exact rfl)(hr:renVs [] args=some (V.wks cs):=by exact rfl)(hd:dstOk N d=true:=by exact rfl):
 AX E N k dr ops (⟨d,.call ⟨.value (.func f),xs.toArray,ts.toArray⟩,ty,ps,af,gd⟩::rest) a σ acc Q:=L.c2 h hw hx hr hd h2
theorem M.cb{f:FuncId}{xs:List Operand}{ts:List TypeId}{cs args:List V}{σ1 σ2:Sto}{r r':V}{pre post:Es}(h:AC E f args σ1 r σ2)(L:List Nat)(news:Nat)(h2:AX E N k dr ops rest (a.put d r') (σ.upd news post) (⟨pre,r',news,post⟩::acc) Q)(hw:wantG ops a gd=some true:=by exact rfl)(hx:evT E a xs ts=some cs:=by exact rfl)(hpre:pickE σ.es L=some pre:=by exact rfl)(hL:L.length=σ1.nx:=by exact rfl)(hn':σ2.nx=σ1.nx+news:=by exact rfl)(hd:distinct (someL (callNames L σ.nx news))=true:=by exact rfl)(hr:renVs (someL L) args=some (V.wks cs):=by exact rfl)(hin:ELe (someL L) pre σ1.es:=by((repeat'(first|exact trivial|exact Or.inl rfl|exact Or.inr ⟨_,rfl,rfl⟩|refine And.intro ?_ ?_|refine⟨_,rfl,_,rfl,_,rfl,?_⟩|refine⟨_,rfl,_,rfl,?_⟩|exact VLe.refl _|exact VLe.any _ _|exact VsLe.refl _|refine VLe.agg ?_|refine⟨_,rfl,_,_,rfl,?_,?_⟩|with_reducible exact rfl|exact Eq.refl true|refine⟨_,rfl,_,renVs_flat _ _ _,_,rfl,?_⟩|fail));all_goals fail))(hout:renEs (someL (callNames L σ.nx news)) σ2.es=some post:=by exact rfl)(hcov:covers σ2.es σ2.nx=true:=by exact rfl)(hr':renV (someL (callNames L σ.nx news)) r=some r':=by exact rfl)(hdst:dstOk N d=true:=by exact rfl):
 AX E N k dr ops (⟨d,.call ⟨.value (.func f),xs.toArray,ts.toArray⟩,ty,ps,af,gd⟩::rest) a σ acc Q:=Go.Ab.L.cb2 h L news hw hx hpre hL hn' hd hr hin hout hcov hr' hdst h2
theorem M.cv{x:Operand}{f:FuncId}{fi caps:List V}{xs:List Operand}{ts:List TypeId}{cs args:List V}{σ1 σ2:Sto}{r r':V}{pre post:Es}(h:AC E f args σ1 r σ2)(L:List Nat)(news:Nat)(h2:AX E N k dr ops rest (a.put d r') (σ.upd news post) (⟨pre,r',news,post⟩::acc) Q)(hw:wantG ops a gd=some true:=by exact rfl)(hf:ev E 0 a x=some (.fn (.func f) fi caps):=by exact rfl)(hx:evT E a xs ts=some cs:=by exact rfl)(hpre:pickE σ.es L=some pre:=by exact rfl)(hL:L.length=σ1.nx:=by exact rfl)(hn':σ2.nx=σ1.nx+news:=by exact rfl)(hd:distinct (someL (callNames L σ.nx news))=true:=by exact rfl)(hr:renVs (someL L) args=some (V.wks (fi++cs++caps)):=by exact rfl)(hin:ELe (someL L) pre σ1.es:=by((repeat'(first|exact trivial|exact Or.inl rfl|exact Or.inr ⟨_,rfl,rfl⟩|refine And.intro ?_ ?_|refine⟨_,rfl,_,rfl,_,rfl,?_⟩|refine⟨_,rfl,_,rfl,?_⟩|exact VLe.refl _|exact VLe.any _ _|exact VsLe.refl _|refine VLe.agg ?_|refine⟨_,rfl,_,_,rfl,?_,?_⟩|with_reducible exact rfl|exact Eq.refl true|refine⟨_,rfl,_,renVs_flat _ _ _,_,rfl,?_⟩|fail));all_goals fail))(hout:renEs (someL (callNames L σ.nx news)) σ2.es=some post:=by exact rfl)(hcov:covers σ2.es σ2.nx=true:=by exact rfl)(hr':renV (someL (callNames L σ.nx news)) r=some r':=by exact rfl)(hdst:dstOk N d=true:=by exact rfl):
 AX E N k dr ops (⟨d,.call ⟨.value x,xs.toArray,ts.toArray⟩,ty,ps,af,gd⟩::rest) a σ acc Q:=Go.Ab.L.cv2 h L news hw hf hx hpre hL hn' hd hr hin hout hcov hr' hdst h2
theorem M.W(ρ:List (Option Nat)){a2:AF}{es2:Es}{nx2:Nat}(hf:FLe ρ a a2:=by((repeat'(first|exact trivial|exact Or.inl rfl|exact Or.inr ⟨_,rfl,rfl⟩|refine And.intro ?_ ?_|refine⟨_,rfl,_,rfl,_,rfl,?_⟩|refine⟨_,rfl,_,rfl,?_⟩|exact VLe.refl _|exact VLe.any _ _|exact VsLe.refl _|refine VLe.agg ?_|refine⟨_,rfl,_,_,rfl,?_,?_⟩|with_reducible exact rfl|exact Eq.refl true|refine⟨_,rfl,_,renVs_flat _ _ _,_,rfl,?_⟩|fail));all_goals fail))(he:ELe ρ σ.es es2:=by((repeat'(first|exact trivial|exact Or.inl rfl|exact Or.inr ⟨_,rfl,rfl⟩|refine And.intro ?_ ?_|refine⟨_,rfl,_,rfl,_,rfl,?_⟩|refine⟨_,rfl,_,rfl,?_⟩|exact VLe.refl _|exact VLe.any _ _|exact VsLe.refl _|refine VLe.agg ?_|refine⟨_,rfl,_,_,rfl,?_,?_⟩|with_reducible exact rfl|exact Eq.refl true|refine⟨_,rfl,_,renVs_flat _ _ _,_,rfl,?_⟩|fail));all_goals fail))(hnx:nx2=ρ.length:=by exact rfl)(hid:idTo 0 k ρ=true:=by exact rfl)(hd:distinct ρ=true:=by exact rfl)(hb:below σ.nx ρ=true:=by exact rfl):Weak E N k a σ a2 ⟨nx2,es2⟩:=Weak.mk ρ a2 es2 nx2 hnx hid hd hb hf he
theorem M.n2{rs:List ResultVar}{r:V}{σ':Sto}{cs:List V}{c1:V}(ρ:List (Option Nat))(h1:resVs E a σ.es rs=some cs:=by exact rfl)(h2:ρ.length=σ'.nx:=by exact rfl)(h3:idTo 0 k ρ=true:=by exact rfl)(h4:distinct ρ=true:=by exact rfl)(h5:below σ.nx ρ=true:=by exact rfl)(h6:ELe ρ σ.es σ'.es:=by((repeat'(first|exact trivial|exact Or.inl rfl|exact Or.inr ⟨_,rfl,rfl⟩|refine And.intro ?_ ?_|refine⟨_,rfl,_,rfl,_,rfl,?_⟩|refine⟨_,rfl,_,rfl,?_⟩|exact VLe.refl _|exact VLe.any _ _|exact VsLe.refl _|refine VLe.agg ?_|refine⟨_,rfl,_,_,rfl,?_,?_⟩|with_reducible exact rfl|exact Eq.refl true|refine⟨_,rfl,_,renVs_flat _ _ _,_,rfl,?_⟩|fail));all_goals fail))(h7:renV ρ r=some c1:=by exact rfl)(h8:(tupV cs).wk=c1):
 retQ E k rs r σ' .normal a σ:=Go.Ab.K.n2 ρ h1 h2 h3 h4 h5 h6 h7 h8
structure M.Hid (R:Prop):Prop where
 out:R
theorem M.gk{P R:Prop}(k:R)(h:M.Hid R→P:=by(intro k;(first|with_reducible refine K.tN ?_|with_reducible refine K.bN ?_|with_reducible refine K.tR ?_|with_reducible refine K.bR ?_|with_reducible refine K.gR ?_|with_reducible refine K.dR ?_|with_reducible refine K.cR ?_|with_reducible refine K.lR ?_|with_reducible refine K.tE ?_|with_reducible refine K.bX (by with_unfolding_all rfl) ?_|with_reducible refine K.bO (by with_unfolding_all rfl) ?_|with_reducible refine K.gE (by with_unfolding_all rfl) ?_|with_reducible refine K.gO (by with_unfolding_all rfl) ?_|with_reducible refine K.cE ?_|with_reducible refine K.lE ?_|with_reducible refine K.r1 (by with_unfolding_all rfl) (by with_unfolding_all rfl) ?_|with_reducible refine K.n1 (by with_unfolding_all rfl) (by with_unfolding_all rfl) ?_|with_reducible refine K.hR ?_|with_reducible refine K.tG ?_|with_reducible refine K.bG ?_|with_reducible refine K.fR ?_|with_reducible refine K.pR ?_|with_reducible refine K.uR ?_|with_reducible refine K.uE ?_|fail);exact M.Hid.out k)):P:=h ⟨k⟩
theorem M.go{P R:Prop}(k:R)(h:M.Hid R→P:=by(intro k;repeat1' (first|((with_reducible refine D.ax ?_);first|((with_reducible refine D.load ?_);first|refine L.ldb rfl rfl rfl rfl rfl rfl ?_|refine L.lda rfl rfl rfl rfl rfl ?_|refine AX.sk rfl rfl ?_|fail)|((with_reducible refine D.move ?_);first|refine L.mv rfl rfl rfl ?_|refine AX.sk rfl rfl ?_|fail)|((with_reducible refine D.fieldAddr ?_);first|refine L.fab rfl rfl rfl rfl rfl ?_|refine L.faa rfl rfl rfl rfl rfl rfl ?_|refine AX.sk rfl rfl ?_|fail)|((with_reducible refine D.assign ?_);first|refine L.asg rfl rfl rfl ?_|refine AX.sk rfl rfl ?_|fail)|((with_reducible refine D.bin ?_);first|refine L.ad rfl rfl rfl rfl (by omega) ?_|refine L.sb rfl rfl rfl rfl (by omega) ?_|refine L.ml rfl rfl rfl rfl (by first|omega|assumption) ?_|refine L.rm rfl rfl rfl rfl (by omega) ?_|refine L.bn rfl rfl rfl rfl rfl ?_|refine AX.sk rfl rfl ?_|refine L.be rfl rfl rfl rfl rfl ?_|refine L.bnq rfl rfl rfl rfl rfl ?_|refine L.fnn rfl (by kernel_rfl) rfl rfl rfl rfl ?_|refine L.qu8 rfl rfl rfl rfl (by first|assumption|omega) (by omega) ?_|refine L.bpr 3 rfl rfl rfl (by kernel_rfl) (by kernel_rfl) (by kernel_rfl) (by kernel_rfl) (by kernel_rfl) rfl ?_|fail)|((with_reducible refine D.call ?_);first|refine L.lnt rfl rfl rfl rfl ?_|refine L.ln rfl rfl rfl rfl ?_|refine L.apt rfl rfl rfl rfl rfl rfl (by first|exact trivial|exact⟨rfl,trivial⟩) rfl rfl (by first|omega|(simp;omega)) ?_|refine L.aptF rfl rfl rfl rfl (by first|assumption|simp) rfl rfl rfl (by first|omega|(simp;omega)) ?_|refine AX.sk rfl rfl ?_|refine L.apE rfl rfl rfl rfl rfl rfl rfl ?_|refine L.lnm rfl rfl rfl rfl rfl ?_|refine L.mn rfl rfl rfl rfl ?_|fail)|((with_reducible refine D.extract ?_);first|refine L.ex rfl rfl rfl rfl ?_|refine AX.sk rfl rfl ?_|fail)|((with_reducible refine D.box ?_);first|refine L.bx rfl rfl rfl rfl ?_|refine AX.sk rfl rfl ?_|fail)|((with_reducible refine D.alloc ?_);first|refine L.al rfl rfl rfl ?_|refine AX.sk rfl rfl ?_|fail)|((with_reducible refine D.store ?_);first|refine L.st rfl rfl rfl rfl rfl rfl rfl rfl rfl ?_|refine AX.sk rfl rfl ?_|fail)|((with_reducible refine D.indexAddr ?_);first|refine L.ixt _ rfl rfl rfl rfl rfl rfl rfl (by first|assumption|omega|(simp only[Ty.args_mk,Tm.args_mk,List.length_cons,List.length_nil,List.getElem_cons_zero,List.getElem_cons_succ];omega)|(simp at*;omega)|(simp;done)|contradiction) ?_|refine L.ixt 0 rfl rfl rfl rfl rfl rfl rfl (by first|assumption|omega|(simp only[Ty.args_mk,Tm.args_mk,List.length_cons,List.length_nil,List.getElem_cons_zero,List.getElem_cons_succ];omega)|(simp at*;omega)|(simp;done)|contradiction) ?_|refine L.ixt 1 rfl rfl rfl rfl rfl rfl rfl (by first|assumption|omega|(simp only[Ty.args_mk,Tm.args_mk,List.length_cons,List.length_nil,List.getElem_cons_zero,List.getElem_cons_succ];omega)|(simp at*;omega)|(simp;done)|contradiction) ?_|refine L.ixt 2 rfl rfl rfl rfl rfl rfl rfl (by first|assumption|omega|(simp only[Ty.args_mk,Tm.args_mk,List.length_cons,List.length_nil,List.getElem_cons_zero,List.getElem_cons_succ];omega)|(simp at*;omega)|(simp;done)|contradiction) ?_|refine AX.sk rfl rfl ?_|refine L.ixb 0 rfl rfl rfl rfl rfl (by decide) rfl ?_|refine L.ixb 1 rfl rfl rfl rfl rfl (by decide) rfl ?_|refine L.ixb 2 rfl rfl rfl rfl rfl (by decide) rfl ?_|refine L.ix 0 rfl rfl rfl rfl rfl (Nat.le_of_ble_eq_true rfl) rfl rfl rfl ?_|refine L.ix 1 rfl rfl rfl rfl rfl (Nat.le_of_ble_eq_true rfl) rfl rfl rfl ?_|refine L.ix 2 rfl rfl rfl rfl rfl (Nat.le_of_ble_eq_true rfl) rfl rfl rfl ?_|fail)|((with_reducible refine D.not ?_);first|refine L.nt rfl rfl rfl ?_|refine AX.sk rfl rfl ?_|refine L.ng rfl rfl rfl (by omega) ?_|fail)|((with_reducible refine D.field ?_);first|refine L.fd rfl rfl rfl rfl rfl rfl ?_|refine AX.sk rfl rfl ?_|fail)|((with_reducible refine D.pick ?_);first|refine L.pk rfl rfl rfl rfl ?_|refine AX.sk rfl rfl ?_|fail)|((fail_if_success (first|with_reducible refine D.assign ?_|with_reducible refine D.load ?_|with_reducible refine D.move ?_|with_reducible refine D.call ?_|with_reducible refine D.fieldAddr ?_|with_reducible refine D.bin ?_|with_reducible refine D.store ?_|with_reducible refine D.extract ?_|with_reducible refine D.pick ?_|with_reducible refine D.indexAddr ?_|with_reducible refine D.not ?_|with_reducible refine D.field ?_|with_reducible refine D.box ?_|with_reducible refine D.alloc ?_));first|refine L.nc rfl rfl rfl rfl ?_|refine L.bd rfl rfl rfl rfl rfl ?_|refine L.bs1 rfl rfl rfl rfl rfl (EC.fold_of rfl) rfl rfl ?_|refine L.bs1 rfl rfl rfl rfl rfl rfl rfl rfl ?_|refine L.bs2 rfl rfl rfl rfl rfl (EC.fold_of rfl) rfl rfl rfl (EC.fold_of rfl) rfl rfl ?_|refine L.bs2 rfl rfl rfl rfl rfl rfl rfl rfl rfl rfl rfl rfl ?_|refine L.bs3 rfl rfl rfl rfl rfl (EC.fold_of rfl) rfl rfl rfl (EC.fold_of rfl) rfl rfl rfl (EC.fold_of rfl) rfl rfl ?_|refine L.bs3 rfl rfl rfl rfl rfl rfl rfl rfl rfl rfl rfl rfl rfl rfl rfl rfl ?_|refine L.bs 0 rfl rfl rfl rfl rfl rfl rfl rfl rfl rfl ?_|refine L.mf rfl rfl rfl rfl ?_|refine L.s3 rfl rfl rfl rfl rfl rfl ?_|refine AX.sk rfl rfl ?_|refine L.sl rfl rfl rfl rfl rfl rfl rfl (by first|omega|(simp only[List.length_cons,List.length_nil];omega)|(simp;omega)|simp) ?_|refine L.cvi rfl rfl rfl rfl rfl (by omega) ?_|refine L.mmT rfl rfl rfl rfl rfl ?_|refine L.mmB rfl rfl rfl rfl rfl ?_|refine L.lkuT rfl rfl rfl rfl rfl rfl (by first|assumption|rfl) (by first|assumption|rfl) rfl ?_|refine L.lkn rfl rfl rfl rfl rfl rfl (by first|assumption|rfl) rfl rfl rfl ?_|refine L.muT rfl rfl rfl rfl rfl rfl (EC.fold_of rfl) rfl rfl ?_|refine L.muT rfl rfl rfl rfl rfl rfl rfl rfl rfl ?_|refine L.muB rfl rfl rfl rfl rfl rfl rfl rfl ?_|refine L.bda rfl rfl rfl rfl rfl ?_|refine L.mki rfl rfl rfl rfl rfl ?_|refine L.asy rfl rfl rfl rfl ?_|refine L.asn rfl rfl rfl rfl rfl ?_|fail)|fail)|((with_reducible refine D.nil ?_);first|refine AX.nilL ?_|refine AX.nilD (by kernel_rfl) ?_|fail)|fail);exact M.Hid.out k)):P:=h ⟨k⟩
theorem M.gw{P R:Prop}(k:R)(h:M.Hid R→P:=by(intro k;repeat1' (first|((with_reducible refine D.ax ?_);first|((with_reducible refine D.load ?_);first|refine L.ldb rfl rfl rfl rfl rfl rfl ?_|refine L.lda rfl rfl rfl rfl rfl ?_|refine AX.sk rfl rfl ?_|fail)|((with_reducible refine D.move ?_);first|refine L.mv rfl rfl rfl ?_|refine AX.sk rfl rfl ?_|fail)|((with_reducible refine D.fieldAddr ?_);first|refine L.fab rfl rfl rfl rfl rfl ?_|refine L.faa rfl rfl rfl rfl rfl rfl ?_|refine AX.sk rfl rfl ?_|fail)|((with_reducible refine D.assign ?_);first|refine L.asg rfl rfl rfl ?_|refine AX.sk rfl rfl ?_|fail)|((with_reducible refine D.bin ?_);first|refine L.ad rfl rfl rfl rfl (by omega) ?_|refine L.sb rfl rfl rfl rfl (by omega) ?_|refine L.ml rfl rfl rfl rfl (by first|omega|assumption) ?_|refine L.rm rfl rfl rfl rfl (by omega) ?_|refine L.bn rfl rfl rfl rfl rfl ?_|refine AX.sk rfl rfl ?_|refine L.be rfl rfl rfl rfl rfl ?_|refine L.bnq rfl rfl rfl rfl rfl ?_|refine L.fnn rfl (by kernel_rfl) rfl rfl rfl rfl ?_|refine L.qu8 rfl rfl rfl rfl (by first|assumption|omega) (by omega) ?_|refine L.bpr 3 rfl rfl rfl (by kernel_rfl) (by kernel_rfl) (by kernel_rfl) (by kernel_rfl) (by kernel_rfl) rfl ?_|fail)|((with_reducible refine D.call ?_);first|refine L.lnt rfl rfl rfl rfl ?_|refine L.ln rfl rfl rfl rfl ?_|refine L.apt rfl rfl rfl rfl rfl rfl (by first|exact trivial|exact⟨rfl,trivial⟩) rfl rfl (by first|omega|(simp;omega)) ?_|refine L.aptF rfl rfl rfl rfl (by first|assumption|simp) rfl rfl rfl (by first|omega|(simp;omega)) ?_|refine AX.sk rfl rfl ?_|refine L.apE rfl rfl rfl rfl rfl rfl rfl ?_|refine L.lnm rfl rfl rfl rfl rfl ?_|refine L.mn rfl rfl rfl rfl ?_|fail)|((with_reducible refine D.extract ?_);first|refine L.ex rfl rfl rfl rfl ?_|refine AX.sk rfl rfl ?_|fail)|((with_reducible refine D.box ?_);first|refine L.bx rfl rfl rfl rfl ?_|refine AX.sk rfl rfl ?_|fail)|((with_reducible refine D.alloc ?_);first|refine L.al rfl rfl rfl ?_|refine AX.sk rfl rfl ?_|fail)|((with_reducible refine D.store ?_);first|refine L.st rfl rfl rfl rfl rfl rfl rfl rfl rfl ?_|refine AX.sk rfl rfl ?_|fail)|((with_reducible refine D.indexAddr ?_);first|refine L.ixt _ rfl rfl rfl rfl rfl rfl rfl (by first|assumption|omega|(simp only[Ty.args_mk,Tm.args_mk,List.length_cons,List.length_nil,List.getElem_cons_zero,List.getElem_cons_succ];omega)|(simp at*;omega)|(simp;done)|contradiction) ?_|refine L.ixt 0 rfl rfl rfl rfl rfl rfl rfl (by first|assumption|omega|(simp only[Ty.args_mk,Tm.args_mk,List.length_cons,List.length_nil,List.getElem_cons_zero,List.getElem_cons_succ];omega)|(simp at*;omega)|(simp;done)|contradiction) ?_|refine L.ixt 1 rfl rfl rfl rfl rfl rfl rfl (by first|assumption|omega|(simp only[Ty.args_mk,Tm.args_mk,List.length_cons,List.length_nil,List.getElem_cons_zero,List.getElem_cons_succ];omega)|(simp at*;omega)|(simp;done)|contradiction) ?_|refine L.ixt 2 rfl rfl rfl rfl rfl rfl rfl (by first|assumption|omega|(simp only[Ty.args_mk,Tm.args_mk,List.length_cons,List.length_nil,List.getElem_cons_zero,List.getElem_cons_succ];omega)|(simp at*;omega)|(simp;done)|contradiction) ?_|refine AX.sk rfl rfl ?_|refine L.ixb 0 rfl rfl rfl rfl rfl (by decide) rfl ?_|refine L.ixb 1 rfl rfl rfl rfl rfl (by decide) rfl ?_|refine L.ixb 2 rfl rfl rfl rfl rfl (by decide) rfl ?_|refine L.ix 0 rfl rfl rfl rfl rfl (Nat.le_of_ble_eq_true rfl) rfl rfl rfl ?_|refine L.ix 1 rfl rfl rfl rfl rfl (Nat.le_of_ble_eq_true rfl) rfl rfl rfl ?_|refine L.ix 2 rfl rfl rfl rfl rfl (Nat.le_of_ble_eq_true rfl) rfl rfl rfl ?_|fail)|((with_reducible refine D.not ?_);first|refine L.nt rfl rfl rfl ?_|refine AX.sk rfl rfl ?_|refine L.ng rfl rfl rfl (by omega) ?_|fail)|((with_reducible refine D.field ?_);first|refine L.fd rfl rfl rfl rfl rfl rfl ?_|refine AX.sk rfl rfl ?_|fail)|((with_reducible refine D.pick ?_);first|refine L.pk rfl rfl rfl rfl ?_|refine AX.sk rfl rfl ?_|fail)|((fail_if_success (first|with_reducible refine D.assign ?_|with_reducible refine D.load ?_|with_reducible refine D.move ?_|with_reducible refine D.call ?_|with_reducible refine D.fieldAddr ?_|with_reducible refine D.bin ?_|with_reducible refine D.store ?_|with_reducible refine D.extract ?_|with_reducible refine D.pick ?_|with_reducible refine D.indexAddr ?_|with_reducible refine D.not ?_|with_reducible refine D.field ?_|with_reducible refine D.box ?_|with_reducible refine D.alloc ?_));first|refine L.nc rfl rfl rfl rfl ?_|refine L.bd rfl rfl rfl rfl rfl ?_|refine L.bs1 rfl rfl rfl rfl rfl (EC.fold_of rfl) rfl rfl ?_|refine L.bs1 rfl rfl rfl rfl rfl rfl rfl rfl ?_|refine L.bs2 rfl rfl rfl rfl rfl (EC.fold_of rfl) rfl rfl rfl (EC.fold_of rfl) rfl rfl ?_|refine L.bs2 rfl rfl rfl rfl rfl rfl rfl rfl rfl rfl rfl rfl ?_|refine L.bs3 rfl rfl rfl rfl rfl (EC.fold_of rfl) rfl rfl rfl (EC.fold_of rfl) rfl rfl rfl (EC.fold_of rfl) rfl rfl ?_|refine L.bs3 rfl rfl rfl rfl rfl rfl rfl rfl rfl rfl rfl rfl rfl rfl rfl rfl ?_|refine L.bs 0 rfl rfl rfl rfl rfl rfl rfl rfl rfl rfl ?_|refine L.mf rfl rfl rfl rfl ?_|refine L.s3 rfl rfl rfl rfl rfl rfl ?_|refine AX.sk rfl rfl ?_|refine L.sl rfl rfl rfl rfl rfl rfl rfl (by first|omega|(simp only[List.length_cons,List.length_nil];omega)|(simp;omega)|simp) ?_|refine L.cvi rfl rfl rfl rfl rfl (by omega) ?_|refine L.mmT rfl rfl rfl rfl rfl ?_|refine L.mmB rfl rfl rfl rfl rfl ?_|refine L.lkuT rfl rfl rfl rfl rfl rfl (by first|assumption|rfl) (by first|assumption|rfl) rfl ?_|refine L.lkn rfl rfl rfl rfl rfl rfl (by first|assumption|rfl) rfl rfl rfl ?_|refine L.muT rfl rfl rfl rfl rfl rfl (EC.fold_of rfl) rfl rfl ?_|refine L.muT rfl rfl rfl rfl rfl rfl rfl rfl rfl ?_|refine L.muB rfl rfl rfl rfl rfl rfl rfl rfl ?_|refine L.bda rfl rfl rfl rfl rfl ?_|refine L.mki rfl rfl rfl rfl rfl ?_|refine L.asy rfl rfl rfl rfl ?_|refine L.asn rfl rfl rfl rfl rfl ?_|fail)|fail)|((with_reducible refine D.nil ?_);first|refine AX.nilL ?_|refine AX.nilD (by kernel_rfl) ?_|fail)|((with_reducible refine D.aw ?_);first|refine K.sq (AW.regL ?_)|refine K.sq (AW.regD mixed (by kernel_rfl) ?_)|refine K.sq (K.sq ?_)|refine AW.regL ?_|refine AW.regD mixed (by kernel_rfl) ?_|refine K.sq (AW.condT rfl ?_)|refine K.sq (AW.condF rfl ?_)|refine AW.condT rfl ?_|refine AW.condF rfl ?_|refine AW.skip ?_|refine AW.ret ?_|refine AW.exit ?_|refine K.sq (AW.label ?_)|refine AW.label ?_|refine AW.goto ?_|fail)|with_reducible refine K.tN ?_|with_reducible refine K.bN ?_|with_reducible refine K.tR ?_|with_reducible refine K.bR ?_|with_reducible refine K.gR ?_|with_reducible refine K.dR ?_|with_reducible refine K.cR ?_|with_reducible refine K.lR ?_|with_reducible refine K.tE ?_|with_reducible refine K.bX (by with_unfolding_all rfl) ?_|with_reducible refine K.bO (by with_unfolding_all rfl) ?_|with_reducible refine K.gE (by with_unfolding_all rfl) ?_|with_reducible refine K.gO (by with_unfolding_all rfl) ?_|with_reducible refine K.cE ?_|with_reducible refine K.lE ?_|with_reducible refine K.r1 (by with_unfolding_all rfl) (by with_unfolding_all rfl) ?_|with_reducible refine K.n1 (by with_unfolding_all rfl) (by with_unfolding_all rfl) ?_|with_reducible refine K.hR ?_|with_reducible refine K.tG ?_|with_reducible refine K.bG ?_|with_reducible refine K.fR ?_|with_reducible refine K.pR ?_|with_reducible refine K.uR ?_|with_reducible refine K.uE ?_|fail);exact M.Hid.out k)):P:=h ⟨k⟩
theorem M.F{f:FuncId}{fn:Func}{c:Code}{args:List V}{r:V}{σ':Sto}{rs:List ResultVar}(hf:E.P.funcs[f]? =some fn)(h:AW E N σ.nx c (argF 0 args) σ (retQ E σ.nx rs r σ'))(hb:fn.body=some c:=by exact rfl)(hname:(fn.name== "runtime.NumGoroutine")=false:=by exact rfl)(hN:fn.ntmps=N:=by exact rfl)(hrs:fn.results=rs.toArray:=by exact rfl)(hargs:Nat.ble args.length N=true:=by exact rfl)(hnx:σ.nx≤σ'.nx:=by exact Nat.le_of_ble_eq_true rfl)(hY:E.Y=[]:=by rfl):
 AC E f args σ r σ':=Go.Ab.AC.mk hf hb hname hN hrs hargs hnx h hY
end
theorem run_eql_pair{P:Program}(w:World){t ti:TypeId}{k:IntKind}{a1 a2 b1 b2:Int}(h1:P.underlying t=some (.struct (P.fieldsOf t)))(h2:P.stoodInHeld t=false)(hi:P.underlying ti=some (.int k))
 (h4:(P.fieldsOf t).toList.map (fun f=>(f.name== "_",f.offset,f.type))=[(false,0,ti),(false,1,ti)]):
 (binOp .eql t (.agg #[.int k a1,.int k a2]) (.agg #[.int k b1,.int k b2])).run P w= .ok (.bool (decide (a1=b1)&&decide (a2=b2))) w:=by
 rw[run_eql_struct,run_equalIn_agg w 9999 t _ _ h1 h2]
 generalize (P.fieldsOf t).toList=fs at h4
 match fs,h4 with
 |[],h4=>simp at h4
 |[_],h4=>simp at h4
 |_::_::_::_,h4=>simp at h4
 |[f,g],h4=>
  simp only[List.map_cons,List.map_nil,List.cons.injEq,Prod.mk.injEq,and_true] at h4
  obtain⟨⟨n1,o1,t1⟩,n2,o2,t2⟩:=h4
  have m1:f.name≠ "_" :=by intro h;rw[h] at n1;simp at n1
  have m2:g.name≠ "_" :=by intro h;rw[h] at n2;simp at n2
  have hp:P.plainKey ti=true:=by unfold Program.plainKey;rw[hi]
  simp only[Op.eqFields,m1,m2,ne_eq,not_false_eq_true,if_true,Sem.run_bind,o1,o2,t1,t2]
  rw[run_part_plain w hp (v:= .int k a1) rfl,Result.andThen_ok,run_part_plain w hp (v:= .int k b1) rfl,Result.andThen_ok,run_equalIn_int w 9998 ti k k a1 b1 hi,Result.andThen_ok]
  by_cases e1:a1=b1
  ·simp only[e1,beq_self_eq_true,Bool.not_true,Bool.false_eq_true,if_false,Sem.run_bind]
   rw[run_part_plain w hp (v:= .int k a2) rfl,Result.andThen_ok,run_part_plain w hp (v:= .int k b2) rfl,Result.andThen_ok,run_equalIn_int w 9998 ti k k a2 b2 hi,Result.andThen_ok]
   by_cases e2:a2=b2<;>simp[e2]
  ·simp [e1]
theorem OS.binPair{E:Env}{N:Nat}{o:Oper}{a:AF}{t ti u:TypeId}{x y:Operand}{k:IntKind}{a1 a2 b1 b2:Int}(ho:o.op= .binOp .eql t x y u)(h1:E.P.underlying t=some (.struct (E.P.fieldsOf t)))(h2:E.P.stoodInHeld t=false)
 (h3:E.P.eqGuardType E.P.depth t=false) (hi:E.P.underlying ti=some (.int k)) (h4:(E.P.fieldsOf t).toList.map (fun f=>(f.name== "_",f.offset,f.type))=[(false,0,ti),(false,1,ti)])
 (hx:ev E t a x=some (.agg [.int k a1,.int k a2])) (hy:ev E t a y=some (.agg [.int k b1,.int k b2])):OS E N o a [] (.bool (decide (a1=b1)&&decide (a2=b2))) [] []:=
 .pure fun g D es w act hR _ hF=>by
  have key:∀{z:Operand} {c1 c2:Int},ev E t a z=some (.agg [.int k c1,.int k c2])→act.eval z= .agg #[.int k c1,.int k c2]:=fun {z c1 c2} hz=>by
   obtain⟨vs,e,hl,_,hv⟩:=(ev_rel hz hR hF).agg_inv
   match vs,hl with
   |[v1,v2],_=>
    have r1:=(hv 0 v1 _ rfl rfl).int_inv
    have r2:=(hv 1 v2 _ rfl rfl).int_inv
    rw[e,r1,r2]
  have e1:=key hx
  have e2:=key hy
  exact⟨.bool (decide (a1=b1)&&decide (a2=b2)),by simp[execOp,ho,e1,e2,run_eqGuard_agg w _ _ _ _ _ _ h3,run_eql_pair w h1 h2 hi h4],.data (.bool _)⟩
section
variable {E:Env} {N k:Nat} {dr:Bool} {ops rest:List Oper} {a:AF} {σ:Sto} {acc:List Rec} {Q:Exit→AF→Sto→Prop}
variable {d:Option Tmp} {ty:TypeId} {ps:String} {af:Array Edge} {gd:Option (Nat×Bool)}
theorem L.bpr(ti:TypeId){t u:TypeId}{x y:Operand}{kd:IntKind}{a1 a2 b1 b2:Int}(hw:wantG ops a gd=some true)(hx:ev E t a x=some (.agg [.int kd a1,.int kd a2]))(hy:ev E t a y=some (.agg [.int kd b1,.int kd b2]))
 (h1:E.P.underlying t=some (.struct (E.P.fieldsOf t))) (h2:E.P.stoodInHeld t=false) (h3:E.P.eqGuardType E.P.depth t=false) (hi:E.P.underlying ti=some (.int kd))
 (h4:(E.P.fieldsOf t).toList.map (fun f=>(f.name== "_",f.offset,f.type))=[(false,0,ti),(false,1,ti)]) (hd:dstOk N d=true)
 (h5:AX E N k dr ops rest (a.put d (.bool (decide (a1=b1)&&decide (a2=b2)))) σ (⟨[],.bool (decide (a1=b1)&&decide (a2=b2)),0,[]⟩::acc) Q):AX E N k dr ops (⟨d,.binOp .eql t x y u,ty,ps,af,gd⟩::rest) a σ acc Q:=
 AX.run 0 hw (OS.binPair rfl h1 h2 h3 hi h4 (fr (by simp[Op.operands,Call.operands]) hx) (fr (by simp[Op.operands,Call.operands]) hy)) trivial hd h5
end
section
variable {E:Env} {N k:Nat} {a:AF} {σ:Sto} {Q:Exit→AF→Sto→Prop} {ops:List Oper} {dr:Bool} {rest:List Oper} {acc:List Rec}
variable {d:Option Tmp} {ty:TypeId} {ps:String} {af:Array Edge} {gd:Option (Nat×Bool)}
structure M.St (n:Nat):Prop where
theorem M.qR{id:Nat}{o:Array Oper}{b:Bool}{z:Code}(s:M.St id)(h:AW E N k (.seq (.region id o b) z) a σ Q):AW E N k (.seq (.region id o b) z) a σ Q:=h
theorem M.qS{id:Nat}{o:Array Oper}{b:Bool}{y z:Code}(s:M.St id)(h:AW E N k (.seq (.seq (.region id o b) y) z) a σ Q):AW E N k (.seq (.seq (.region id o b) y) z) a σ Q:=h
theorem M.gs{P R S:Prop}(k:R)(l:S)(h:M.Hid R→M.Hid S→P:=by(intro k l;(fail_if_success refine AX.wt rfl ?_);(refine AX.gs rfl rfl (fun _=>trivial) ?_ ?_);exact M.Hid.out k;exact M.Hid.out l)):P:=h ⟨k⟩ ⟨l⟩
theorem M.cs{P R S:Prop}(k:R)(l:S)(h:M.Hid R→M.Hid S→P:=by(intro k l;(with_reducible refine D.aw ?_);(refine AW.condS rfl ?_ ?_);exact M.Hid.out k;exact M.Hid.out l)):P:=h ⟨k⟩ ⟨l⟩
theorem M.bl{P R:Prop}(k:R)(h:M.Hid R→P:=by(intro k;(with_reducible refine D.blk ?_);(refine AW.block ?_);exact M.Hid.out k)):P:=h ⟨k⟩
theorem M.zb{P R:Prop}(k:R)(h:M.Hid R→P:=by(intro k;(with_reducible refine D.sblk ?_);(refine K.sq (AW.block ?_));exact M.Hid.out k)):P:=h ⟨k⟩
theorem M.nl{P R:Prop}(k:R)(h:M.Hid R→P:=by(intro k;(with_reducible refine D.nil ?_);(refine AX.nilL ?_);exact M.Hid.out k)):P:=h ⟨k⟩
theorem M.lt{P:Prop}(h:P:=by((with_reducible show @LT.lt Nat _ _ _);omega)):P:=h
theorem M.le{P:Prop}(h:P:=by((with_reducible show @LE.le Nat _ _ _);omega)):P:=h
theorem M.z1(n1:Nat){P R:Prop}(k:R)(h:M.St n1→M.Hid R→P:=by(intro s1 k;(with_reducible refine D.aw ?_);(fail_if_success with_reducible refine M.qR s1 ?_);(fail_if_success with_reducible refine M.qS s1 ?_);(first|refine K.sq (AW.regL ?_)|refine K.sq (AW.regD mixed (by kernel_rfl) ?_)|refine K.sq (K.sq ?_)|refine AW.regL ?_|refine AW.regD mixed (by kernel_rfl) ?_|refine K.sq (AW.condT rfl ?_)|refine K.sq (AW.condF rfl ?_)|refine AW.condT rfl ?_|refine AW.condF rfl ?_|refine AW.skip ?_|refine AW.ret ?_|refine AW.exit ?_|refine K.sq (AW.label ?_)|refine AW.label ?_|refine AW.goto ?_|fail);exact M.Hid.out k)):P:=h ⟨⟩ ⟨k⟩
theorem M.z3(n1 n2 n3:Nat){P R:Prop}(k:R)(h:M.St n1→M.St n2→M.St n3→M.Hid R→P:=by(intro s1 s2 s3 k;(with_reducible refine D.aw ?_);(fail_if_success with_reducible refine M.qR s1 ?_);(fail_if_success with_reducible refine M.qS s1 ?_);(fail_if_success with_reducible refine M.qR s2 ?_);(fail_if_success with_reducible refine M.qS s2 ?_);(fail_if_success with_reducible refine M.qR s3 ?_);(fail_if_success with_reducible refine M.qS s3 ?_);(first|refine K.sq (AW.regL ?_)|refine K.sq (AW.regD mixed (by kernel_rfl) ?_)|refine K.sq (K.sq ?_)|refine AW.regL ?_|refine AW.regD mixed (by kernel_rfl) ?_|refine K.sq (AW.condT rfl ?_)|refine K.sq (AW.condF rfl ?_)|refine AW.condT rfl ?_|refine AW.condF rfl ?_|refine AW.skip ?_|refine AW.ret ?_|refine AW.exit ?_|refine K.sq (AW.label ?_)|refine AW.label ?_|refine AW.goto ?_|fail);exact M.Hid.out k)):P:=h ⟨⟩ ⟨⟩ ⟨⟩ ⟨k⟩
end
end Go.Ab
namespace Go.Ab
open Go
set_option linter.unusedSimpArgs false
set_option linter.unusedVariables false
section
variable {E:Env} {N k:Nat} {a:AF} {σ:Sto} {o:Oper}
variable {Q:Exit→AF→Sto→Prop} {ops:List Oper} {dr:Bool} {rest:List Oper} {acc:List Rec}
variable {d:Option Tmp} {ty:TypeId} {ps:String} {af:Array Edge} {gd:Option (Nat×Bool)}
theorem OS.min{t u:TypeId}{x y:Operand}{n m:Int}(ho:o.op= .call {callee:= .builtin .min,args:= #[x,y],argTypes:= #[t,u]})(hx:ev E t a x=some (.int .i64 n))(hy:ev E u a y=some (.int .i64 m)):
 OS E N o a [] (.int .i64 (if m<n then m else n)) [] []:=
 .pure fun g D es w act hR _ hF=>by
  have h1:=(ev_rel hx hR hF).int_inv
  have h2:=(ev_rel hy hR hF).int_inv
  exact⟨_,by simp[execOp,ho,resolve,invoke,builtin,Builtin.min_,Builtin.min2,h1,h2],.data (.int _ _)⟩
theorem L.mn{t u:TypeId}{x y:Operand}{n m:Int}(hw:wantG ops a gd=some true)(hx:ev E t a x=some (.int .i64 n))(hy:ev E u a y=some (.int .i64 m))(hd:dstOk N d=true)
 (h2:AX E N k dr ops rest (a.put d (.int .i64 (if m<n then m else n))) σ (⟨[],.int .i64 (if m<n then m else n),0,[]⟩::acc) Q):AX E N k dr ops (⟨d,.call ⟨.builtin .min,#[x,y],#[t,u]⟩,ty,ps,af,gd⟩::rest) a σ acc Q:=
 AX.run 0 hw (OS.min rfl (fr (by simp[Op.operands,Call.operands]) hx) (fr (by simp[Op.operands,Call.operands]) hy)) trivial hd h2
end
section
variable {E:Env} {N k:Nat} {a:AF} {σ:Sto} {o:Oper}
variable {Q:Exit→AF→Sto→Prop} {ops:List Oper} {dr:Bool} {rest:List Oper} {acc:List Rec}
variable {d:Option Tmp} {ty:TypeId} {ps:String} {af:Array Edge} {gd:Option (Nat×Bool)}
theorem OS.max{t u:TypeId}{x y:Operand}{n m:Int}(ho:o.op= .call {callee:= .builtin .max,args:= #[x,y],argTypes:= #[t,u]})(hx:ev E t a x=some (.int .i64 n))(hy:ev E u a y=some (.int .i64 m)):
 OS E N o a [] (.int .i64 (if n<m then m else n)) [] []:=
 .pure fun g D es w act hR _ hF=>by
  have h1:=(ev_rel hx hR hF).int_inv
  have h2:=(ev_rel hy hR hF).int_inv
  exact⟨_,by simp[execOp,ho,resolve,invoke,builtin,Builtin.max_,Builtin.max2,h1,h2],.data (.int _ _)⟩
theorem L.mx{t u:TypeId}{x y:Operand}{n m:Int}(hw:wantG ops a gd=some true)(hx:ev E t a x=some (.int .i64 n))(hy:ev E u a y=some (.int .i64 m))(hd:dstOk N d=true)
 (h2:AX E N k dr ops rest (a.put d (.int .i64 (if n<m then m else n))) σ (⟨[],.int .i64 (if n<m then m else n),0,[]⟩::acc) Q):AX E N k dr ops (⟨d,.call ⟨.builtin .max,#[x,y],#[t,u]⟩,ty,ps,af,gd⟩::rest) a σ acc Q:=
 AX.run 0 hw (OS.max rfl (fr (by simp[Op.operands,Call.operands]) hx) (fr (by simp[Op.operands,Call.operands]) hy)) trivial hd h2
namespace L
end L
end
theorem VRel.raw_inv{g:Gh}{D:Nat→Prop}{w:World}{v u:Value}(h:VRel g D w v (.raw u)):v=u:=by
 cases h with
 |data h=>cases h
 |raw=>rfl
abbrev V.rp(b off:Nat):V:= .raw (.pointer (some ⟨b,off,none⟩))
abbrev V.rs(b n cap:Nat):V:= .raw (.slice (some ⟨b,0,none⟩) n cap)
section
variable {E:Env} {N:Nat} {o:Oper} {a:AF}
theorem OSY.pure{v:V}(h:∀g D es w act,R E.G g D es w→YOk E.Y g (Foot g es) w→FRel g D w N act a→∃v',(execOp act.eval o).run E.P w= .ok (.value v') w∧VRel g D w v' v):
 OSY E N o a [] v [] []:=by
 intro g D es w act hR hY hp hn hF K Q hK
 obtain⟨v',h1,h2⟩:=h g D es w act hR hY hF
 unfold Oper.wp
 rw[h1]
 exact hK g v' w (hR.more fun n h=> .inl h) (h2.more fun n h=> .inl h) (.refl ..)
theorem OS.ncR{x:Operand}{b off:Nat}(ho:o.op= .nilCheck x)(hx:ev E 0 a x=some (.rp b off)):OS E N o a [] (.rp b off) [] []:=
 .pure fun g D es w act hR _ hF=>by
  have h1:=(ev_rel hx hR hF).raw_inv
  exact⟨_,by simp[execOp,ho,h1],.raw _⟩
end
section
variable {E:Env} {N k:Nat} {ops:List Oper} {dr:Bool} {rest:List Oper} {a:AF} {σ:Sto} {acc:List Rec} {Q:Exit→AF→Sto→Prop}
variable {d:Option Tmp} {ty:TypeId} {ps:String} {af:Array Edge} {gd:Option (Nat×Bool)}
namespace L
theorem yn{x:Operand}{b off:Nat}(hw:wantG ops a gd=some true)(hx:ev E 0 a x=some (.rp b off))(hd:dstOk N d=true)(h2:AX E N k dr ops rest (a.put d (.rp b off)) σ (⟨[],.rp b off,0,[]⟩::acc) Q):
 AX E N k dr ops (⟨d,.nilCheck x,ty,ps,af,gd⟩::rest) a σ acc Q:=
 AX.run 0 hw (OS.ncR rfl (fr (by simp[Op.operands,Call.operands]) hx)) trivial hd h2
end L
end
abbrev Env.y(E:Env)(y:Ys):Env:={E with Y:=y}
def Keys(y:Ys)(b:Nat):Prop:=∃p∈y,p.1=b
def FY(g:Gh)(es:Es)(y:Ys)(b:Nat):Prop:=Foot g es b∨Keys y b
theorem FY.nil{g:Gh}{es:Es}:FY g es []=Foot g es:=by
 funext b;simp[FY,Keys]
theorem Ext.keys{D:Nat→Prop}{g g':Gh}{F F':Nat→Prop}{w w':World}(h:Ext D g F w g' F' w')(y:Ys):Ext D g (fun b=>F b∨Keys y b) w g' (fun b=>F' b∨Keys y b) w':=
 h.wider (fun b h=> .inl h) (fun b h=>h.imp id fun h=> .inr h)
def BPost(E:Env)(N k:Nat)(g:Gh)(F:Nat→Prop)(w:World)(Q:Exit→AF→Sto→Ys→Prop)(e:Exit)(act':Act)(w':World):Prop:=
 ∃g' a' σ' y',Q e a' σ' y'∧k≤σ'.nx∧R E.G g' (·<σ'.nx) σ'.es w'∧FRel g' (·<σ'.nx) w' N act' a'∧YOk y' g' (Foot g' σ'.es) w'∧Ext (·<k) g F w g' (FY g' σ'.es y') w'
structure BW (E:Env) (N k:Nat) (c:Code) (a:AF) (σ:Sto) (y:Ys) (Q:Exit→AF→Sto→Ys→Prop):Prop where
 run:k≤σ.nx→∀g w act,R E.G g (·<σ.nx) σ.es w→FRel g (·<σ.nx) w N act a→YOk y g (Foot g σ.es) w→c.wp E.P (BPost E N k g (FY g σ.es y) w Q) act w
def thenB(E:Env)(N k:Nat)(x:Code)(Q:Exit→AF→Sto→Ys→Prop):Exit→AF→Sto→Ys→Prop
 | .normal,a,σ,y=>BW E N k x a σ y Q
 |e,a,σ,y=>Q e a σ y
def blockB(id:Nat)(Q:Exit→AF→Sto→Ys→Prop):Exit→AF→Sto→Ys→Prop
 | .exit id',a,σ,y=>bif Nat.beq id' id then Q .normal a σ y else Q (.exit id') a σ y
 |e,a,σ,y=>Q e a σ y
section
variable {E:Env} {N k:Nat} {a:AF} {σ:Sto} {y:Ys} {Q:Exit→AF→Sto→Ys→Prop}
theorem BPost.later{g g':Gh}{F F':Nat→Prop}{w w':World}{e:Exit}{act:Act}{w'':World}(h:BPost E N k g' F' w' Q e act w'')(x:Ext (·<k) g F w g' F' w'):BPost E N k g F w Q e act w'':=
 let ⟨g2,a2,σ2,y2,h1,h2,h3,h4,h5,h6⟩:=h;⟨g2,a2,σ2,y2,h1,h2,h3,h4,h5,x.trans h6⟩
theorem BW.of{c:Code}(h:AW (E.y y) N k c a σ (fun e a σ=>Q e a σ y)):BW E N k c a σ y Q:=
 ⟨fun hk g w act hR hF hY=>wp_mono (h.run hk g w act hR hF hY) (by
  rintro e act1 w1 ⟨g1,a1,σ1,hq,hk1,hR1,hF1,hx⟩
  exact⟨g1,a1,σ1,y,hq,hk1,hR1,hF1,hY.ext hx,hx.keys y⟩)⟩
theorem BW.seq{x z:Code}(h:BW E N k x a σ y (thenB E N k z Q)):BW E N k (.seq x z) a σ y Q:=by
 constructor
 intro hk g w act hR hF hY
 refine wp_seq (wp_mono (h.run hk g w act hR hF hY) ?_)
 rintro e act1 w1 ⟨g1,a1,σ1,y1,hq,hk1,hR1,hF1,hY1,hx⟩
 cases e with
 |normal=>exact wp_mono (BW.run hq hk1 g1 w1 act1 hR1 hF1 hY1) (fun e act2 w2 hp=>hp.later hx)
 |exit id=>exact⟨g1,a1,σ1,y1,hq,hk1,hR1,hF1,hY1,hx⟩
 |goto l=>exact⟨g1,a1,σ1,y1,hq,hk1,hR1,hF1,hY1,hx⟩
 |ret=>exact⟨g1,a1,σ1,y1,hq,hk1,hR1,hF1,hY1,hx⟩
 |panic ch=>exact⟨g1,a1,σ1,y1,hq,hk1,hR1,hF1,hY1,hx⟩
 |outgrown=>exact⟨g1,a1,σ1,y1,hq,hk1,hR1,hF1,hY1,hx⟩
theorem BW.mono{c:Code}{Q':Exit→AF→Sto→Ys→Prop}(h:BW E N k c a σ y Q)(hq:∀e a σ y,Q e a σ y→Q' e a σ y):BW E N k c a σ y Q':=by
 constructor
 intro hk g w act hR hF hY
 refine wp_mono (h.run hk g w act hR hF hY) ?_
 rintro e act1 w1 ⟨g1,a1,σ1,y1,h1,h2⟩
 exact⟨g1,a1,σ1,y1,hq _ _ _ _ h1,h2⟩
theorem BW.block{id:Nat}{c:Code}(h:BW E N k c a σ y (blockB id Q)):BW E N k (.block id c) a σ y Q:=by
 constructor
 intro hk g w act hR hF hY
 refine wp_block (wp_mono (h.run hk g w act hR hF hY) ?_)
 rintro e act1 w1 ⟨g1,a1,σ1,y1,hq,h2⟩
 cases e with
 |exit id'=>
  simp only[Exit.inBlock]
  by_cases hi:id'=id
  ·subst hi
   simp only[blockB,Nat.beq_refl,cond_true] at hq
   rw[if_pos rfl]
   exact⟨g1,a1,σ1,y1,hq,h2⟩
  ·simp only[blockB,nbeq_ne hi,cond_false] at hq
   rw[if_neg hi]
   exact⟨g1,a1,σ1,y1,hq,h2⟩
 |normal=>exact⟨g1,a1,σ1,y1,hq,h2⟩
 |goto l=>exact⟨g1,a1,σ1,y1,hq,h2⟩
 |ret=>exact⟨g1,a1,σ1,y1,hq,h2⟩
 |panic ch=>exact⟨g1,a1,σ1,y1,hq,h2⟩
 |outgrown=>exact⟨g1,a1,σ1,y1,hq,h2⟩
def WeakB(E:Env)(N k:Nat)(a:AF)(σ:Sto)(y:Ys)(S:AF→Sto→Ys→Prop):Prop:=
 k≤σ.nx→∀g w act,R E.G g (·<σ.nx) σ.es w→FRel g (·<σ.nx) w N act a→YOk y g (Foot g σ.es) w→
  ∃a2 σ2 y2 g2,S a2 σ2 y2∧k≤σ2.nx∧R E.G g2 (·<σ2.nx) σ2.es w∧FRel g2 (·<σ2.nx) w N act a2∧YOk y2 g2 (Foot g2 σ2.es) w∧Ext (·<k) g (FY g σ.es y) w g2 (FY g2 σ2.es y2) w
theorem WeakB.of{a2:AF}{σ2:Sto}(h:Weak E N k a σ a2 σ2):WeakB E N k a σ y (fun a3 σ3 y3=>a3=a2∧σ3=σ2∧y3=y):=by
 intro hk g w act hR hF hY
 obtain⟨hk2,hw⟩:=h hk
 obtain⟨g2,hR2,hF2,hx⟩:=hw g w act hR hF
 exact⟨a2,σ2,y,g2,⟨rfl,rfl,rfl⟩,hk2,hR2,hF2,hY.ext hx,hx.keys y⟩
theorem WeakB.trans{S S':AF→Sto→Ys→Prop}(h:WeakB E N k a σ y S)(h2:∀a σ y,S a σ y→WeakB E N k a σ y S'):WeakB E N k a σ y S':=by
 intro hk g w act hR hF hY
 obtain⟨a2,σ2,y2,g2,hs,hk2,hR2,hF2,hY2,hx⟩:=h hk g w act hR hF hY
 obtain⟨a3,σ3,y3,g3,hs3,hk3,hR3,hF3,hY3,hx3⟩:=h2 _ _ _ hs hk2 g2 w act hR2 hF2 hY2
 exact⟨a3,σ3,y3,g3,hs3,hk3,hR3,hF3,hY3,hx.trans hx3⟩
theorem BW.weak{c:Code}{S:AF→Sto→Ys→Prop}(h:WeakB E N k a σ y S)(h2:∀a σ y,S a σ y→BW E N k c a σ y Q):BW E N k c a σ y Q:=by
 constructor
 intro hk g w act hR hF hY
 obtain⟨a2,σ2,y2,g2,hs,hk2,hR2,hF2,hY2,hx⟩:=h hk g w act hR hF hY
 exact wp_mono ((h2 _ _ _ hs).run hk2 g2 w act hR2 hF2 hY2) (fun e act2 w2 hp=>hp.later hx)
theorem BW.skip(h:Q .normal a σ y):BW E N k .skip a σ y Q:= .of (.skip h)
theorem BW.exit{id:Nat}(h:Q (.exit id) a σ y):BW E N k (.exit id) a σ y Q:= .of (.exit h)
theorem BW.ret(h:Q .ret a σ y):BW E N k .ret a σ y Q:= .of (.ret h)
def rngB(E:Env)(N k:Nat)(B:Nat)(i d:Tmp)(m:Nat)(J:Nat→AF→Sto→Ys→Prop)(Q:Exit→AF→Sto→Ys→Prop):Exit→AF→Sto→Ys→Prop
 | .normal,a,σ,y=>a.get i=some (.int .i64 m)∧WeakB E N k ((i,.int .i64 ((m+1:Nat):Int))::(d,.int .i64 ((m+1:Nat):Int))::a) σ y (J (m+1))
 | .exit id,a,σ,y=>bif Nat.beq id B then Q .normal a σ y else Q (.exit id) a σ y
 |e,a,σ,y=>Q e a σ y
theorem BW.range{B C r1 r2:Nat}{c i n d:Tmp}{T T' T2 T3:TypeId}{ty1 ty2 ty3:TypeId}{p1 p2 p3:String}{af1 af2 af3:Array Edge}{body:Code}(len:Nat)(J:Nat→AF→Sto→Ys→Prop)(hlen:len<4611686018427387904)
 (hi:∀m a σ y,J m a σ y→a.get i=some (.int .i64 m)) (hn:∀m a σ y,J m a σ y→a.get n=some (.int .i64 len)) (hd:dstOk N (some c)&&dstOk N (some d)&&dstOk N (some i)&& !Nat.beq d i=true) (h0:WeakB E N k a σ y (J 0))
 (hb:∀m a σ y,m<len→J m a σ y→BW E N k body ((c,.bool true)::a) σ y (blockB C (rngB E N k B i d m J Q)))
 (he:∀a σ y,J len a σ y→Q .normal ((c,.bool false)::a) σ y):
 BW E N k (.block B (.loop (.seq (.region r1 #[⟨some c,.binOp .lss T (.tmp i) (.tmp n) T',ty1,p1,af1,none⟩] false)
  (.seq (.cond (.tmp c) .skip (.exit B)) (.seq (.block C body)
   (.region r2 #[⟨some d,.binOp .add T2 (.tmp i) (.const (.int .i64 1)) T3,ty2,p2,af2,none⟩,⟨some i,.move (.tmp d),ty3,p3,af3,none⟩] false)))))) a σ y Q:=by
 simp only[Bool.and_eq_true] at hd
 obtain⟨⟨⟨hd1,hd2⟩,hd3⟩,hd4⟩:=hd
 have round:∀m a σ y,m≤len→J m a σ y→BW E N k (.seq (.region r1 #[⟨some c,.binOp .lss T (.tmp i) (.tmp n) T',ty1,p1,af1,none⟩] false)
  (.seq (.cond (.tmp c) .skip (.exit B)) (.seq (.block C body)
   (.region r2 #[⟨some d,.binOp .add T2 (.tmp i) (.const (.int .i64 1)) T3,ty2,p2,af2,none⟩,⟨some i,.move (.tmp d),ty3,p3,af3,none⟩] false)))) a σ y
  (fun e a σ y=>match e with
   | .normal=>m<len∧WeakB E N k a σ y (J (m+1))
   |e=>blockB B Q e a σ y):=by
  intro m a σ y hm hJ
  refine .seq (.of (.regL (L.bn rfl (hi _ _ _ _ hJ) (hn _ _ _ _ hJ) rfl hd1 (.nilL ?_))))
  show BW E N k _ ((c,.bool (decide ((m:Int)<(len:Int))))::a) σ y _
  by_cases hlt:m<len
  ·have hdec:decide ((m:Int)<(len:Int))=true:=by simp;omega
   rw[hdec]
   refine .seq (.of (.condT (by simp[ev,AF.get]) (.skip ?_)))
   show BW E N k _ _ _ _ _
   refine .seq (.block ((hb m a σ y hlt hJ).mono ?_))
   rintro e a1 σ1 y1 hq
   have hnorm:rngB E N k B i d m J Q .normal a1 σ1 y1→BW E N k (.region r2 #[⟨some d,.binOp .add T2 (.tmp i) (.const (.int .i64 1)) T3,ty2,p2,af2,none⟩,⟨some i,.move (.tmp d),ty3,p3,af3,none⟩] false) a1 σ1 y1
    (fun e a σ y=>match e with
     | .normal=>m<len∧WeakB E N k a σ y (J (m+1))
     |e=>blockB B Q e a σ y):=by
    rintro⟨h1,h3⟩
    refine .of (.regL (L.ad rfl h1 (show ev E T2 a1 (.const (.int .i64 1))=some (.int .i64 1) from rfl) hd2 (by omega) (L.mv rfl (v:= .int .i64 ((m:Int)+1)) (by simp[ev,AF.put,AF.get]) hd3 (.nilL ?_))))
    rw[show((m:Int)+1)=((m+1:Nat):Int) from by omega]
    exact⟨hlt,h3⟩
   cases e with
   |normal=>exact hnorm hq
   |exit id=>
    simp only[blockB,thenB] at hq ⊢
    cases hb:Nat.beq id C with
    |true=>rw[hb] at hq;exact hnorm hq
    |false=>rw[hb] at hq;exact hq
   |goto l=>exact hq
   |ret=>exact hq
   |panic ch=>exact hq
   |outgrown=>exact hq
  ·have hm':m=len:=by omega
   subst hm'
   have hdec:decide ((m:Int)<(m:Int))=false:=by simp
   rw[hdec]
   refine .seq (.of (.condF (by simp[ev,AF.get]) (.exit ?_)))
   show blockB B Q (.exit B) _ _ _
   simp only[blockB,Nat.beq_refl,cond_true]
   exact he _ _ _ hJ
 refine .block ?_
 refine .weak h0 fun a σ y hJ=> ?_
 constructor
 intro hk g w act hR hF hY
 refine wp_loop_ghost (fun n act' w'=>∃m g' a' σ' y',len-m=n∧m≤len∧J m a' σ' y'∧k≤σ'.nx∧R E.G g' (·<σ'.nx) σ'.es w'∧FRel g' (·<σ'.nx) w' N act' a'∧YOk y' g' (Foot g' σ'.es) w'∧Ext (·<k) g (FY g σ.es y) w g' (FY g' σ'.es y') w')
  len ⟨0,g,a,σ,y,by omega,by omega,hJ,hk,hR,hF,hY,.refl ..⟩ ?_
 rintro n1 act1 w1 ⟨m,g1,a1,σ1,y1,hn1,hm,hJ1,hk1,hR1,hF1,hY1,hx1⟩
 refine wp_mono ((round m a1 σ1 y1 hm hJ1).run hk1 g1 w1 act1 hR1 hF1 hY1) ?_
 rintro e act2 w2 ⟨g2,a2,σ2,y2,hq,hk2,hR2,hF2,hY2,hx2⟩
 cases e with
 |normal=>
  obtain⟨hlt,hJ⟩:=hq
  obtain⟨a3,σ3,y3,g3,hs,hk3,hR3,hF3,hY3,hx3⟩:=hJ hk2 g2 w2 act2 hR2 hF2 hY2
  exact⟨len-(m+1),by omega,m+1,g3,a3,σ3,y3,rfl,hlt,hs,hk3,hR3,hF3,hY3,(hx1.trans hx2).trans hx3⟩
 |exit id=>exact⟨g2,a2,σ2,y2,hq,hk2,hR2,hF2,hY2,hx1.trans hx2⟩
 |goto l=>exact⟨g2,a2,σ2,y2,hq,hk2,hR2,hF2,hY2,hx1.trans hx2⟩
 |ret=>exact⟨g2,a2,σ2,y2,hq,hk2,hR2,hF2,hY2,hx1.trans hx2⟩
 |panic ch=>exact⟨g2,a2,σ2,y2,hq,hk2,hR2,hF2,hY2,hx1.trans hx2⟩
 |outgrown=>exact⟨g2,a2,σ2,y2,hq,hk2,hR2,hF2,hY2,hx1.trans hx2⟩
end
def YC(E:Env)(f:FuncId)(args:List V)(T:V→Ys→Prop):Prop:=
 (∀vs w,(callFunc f vs).run E.P w= .ok (.enter f vs) w)∧
 ∀g w (vs:List Value),R E.G g (·<0) [] w→vs.length=args.length→(∀(i:Nat) v c,vs[i]? =some v→args[i]? =some c→VRel g (·<0) w v c)→
  Calls E.P f vs.toArray w fun e w'=>∃v g' r y,e= .returned v∧T r y∧R E.G g' (·<0) [] w'∧VRel g' (·<0) w' v r∧YOk y g' (Foot g' []) w'∧Ext (·<0) g (Foot g []) w g' (FY g' [] y) w'
def retY(E:Env)(rs:List ResultVar)(T:V→Ys→Prop):Exit→AF→Sto→Ys→Prop
 | .ret,a,σ,y=>∃r,T r y∧Ret E 0 rs r ⟨0,[]⟩ a σ
 | .normal,a,σ,y=>∃r,T r y∧Ret E 0 rs r ⟨0,[]⟩ a σ
 |_,_,_,_=>False
section
variable {E:Env} {N k:Nat} {a:AF} {σ:Sto} {y:Ys} {Q:Exit→AF→Sto→Ys→Prop}
theorem YC.mk{f:FuncId}{fn:Func}{c:Code}{args:List V}{T:V→Ys→Prop}{rs:List ResultVar}(hf:E.P.funcs[f]? =some fn)(hb:fn.body=some c)(hname:(fn.name== "runtime.NumGoroutine")=false)(hN:fn.ntmps=N)
 (hrs:fn.results=rs.toArray) (hargs:Nat.ble args.length N=true) (h:BW E N 0 c (argF 0 args) ⟨0,[]⟩ [] (retY E rs T)):YC E f args T:=by
 refine⟨fun vs w=> ?_,fun g w vs hR hl hr=> ?_⟩
 ·have hname':¬fn.name= "runtime.NumGoroutine" :=by simpa using hname
  simp[callFunc,hf,hname',hb]
 ·have hle:=Nat.le_of_ble_eq_true hargs
  refine calls_of_wp hf hb (wp_mono (h.run (Nat.le_refl _) g w _ hR ?_ .nil) ?_)
  ·refine ⟨by simp[hN];omega,rfl,fun t c hc=> ?_⟩
   obtain⟨_,h1⟩:=argF_get hc
   simp only[Nat.sub_zero] at h1
   obtain⟨v,hv⟩:=getElem?_of_len hl.symm h1
   have hlt:=(List.getElem?_eq_some_iff.1 hv).1
   exact⟨v,by simp[Array.getElem?_append,hlt];exact(List.getElem?_eq_some_iff.1 hv).2,hr t v c hv h1⟩
  ·rintro e act' w' ⟨g',a',σ1,y1,hq,hk1,hR1,hF1,hY1,hx1⟩
   rw[FY.nil] at hx1
   have key:(∃r,T r y1∧Ret E 0 rs r ⟨0,[]⟩ a' σ1)→act'.defers=[]∧∃v,(results fn act'.tmps).run E.P w'= .ok v w'∧∃v' g'' r y,Ending.returned v= .returned v'∧T r y∧R E.G g'' (·<0) [] w'∧VRel g'' (·<0) w' v' r∧YOk y g'' (Foot g'' []) w'∧
    Ext (·<0) g (Foot g []) w g'' (FY g'' [] y) w':=by
    rintro⟨r,hT,hret⟩
    obtain⟨v,g2,h1,h2,h3,h4⟩:=Ret.done hret hrs hR1 hF1
    exact⟨hF1.defers,v,h1,v,g2,r,y1,rfl,hT,h2,h3,hY1.ext h4,hx1.trans (h4.keys y1)⟩
   cases e with
   |normal=>exact key hq
   |ret=>exact key hq
   |_=>exact hq.elim
theorem YC.use{f:FuncId}{args:List V}{T:V→Ys→Prop}(h:YC E f args T){g:Gh}{D:Nat→Prop}{es:Es}{w:World}(hR:R E.G g D es w)(hY:YOk y g (Foot g es) w){vs:List Value}{cs:List V}(hl:vs.length=cs.length)
 (hr:∀(i:Nat) v c,vs[i]? =some v→cs[i]? =some c→VRel g D w v c) (hle:∃cs1,renVs [] args=some cs1∧VsLe cs cs1) {P:Ending→World→Prop}
 (hP:∀v g' w' r y',T r y'→R E.G g' D es w'→VRel g' D w' v r→YOk (y'++y) g' (Foot g' es) w'→(∀p∈y',∀q∈y,p.1≠q.1)→Ext D g (FY g es y) w g' (FY g' es (y'++y)) w'→P (.returned v) w'):Calls E.P f vs.toArray w P:=by
 obtain⟨cs1,h1,h2⟩:=hle
 obtain⟨_,h3⟩:=h
 have hRs:R E.G g (·<0) [] w:=⟨fun n e h=>(by cases h),fun n n' e e' b h=>(by cases h),fun n e h=>(by cases h),hR.fresh,hR.nodes,hR.glob⟩
 have hnr:∀n m,renN [] n≠some m:=fun n m h=>by simp[renN,nthO] at h
 refine(h3 g w vs hRs (by rw[hl,h2.len,←renVs_len h1]) (fun i v c hv hc=> ?_)).mono ?_
 ·obtain ⟨c1,hc1⟩:=getElem?_of_len (renVs_len h1) hc
  obtain⟨c0,hc0,hle⟩:=h2.nth i c1 hc1
  exact VRel.unren (ρ:=[]) (g2:=g) (hle _ _ _ _ (hr i v c0 hv hc0)) rfl (fun n m h=>absurd h (hnr n m)) (fun n m h=>absurd h (hnr n m)) (fun n h=>by simp[nthO] at h) c (renVs_at h1 i c c1 hc hc1)
 ·rintro e w' ⟨v,g',r,y',rfl,hT,hR',hv,hY',hx⟩
  have hnf:∀b,¬Foot g [] b:=fun b h=>by obtain⟨n,e,h,_⟩:=h;cases h
  have hsame:∀b,b<w.heap.size→((g.m b).nd=none→w'.heap[b]? =w.heap[b]?)∧g'.m b=g.m b:=fun b hb=>hx.fr b hb (hnf b)
  have hsameF:∀n e b,findE es n=some e→e.foot g n=some b→w'.heap[b]? =w.heap[b]? ∧g'.m b=g.m b:=fun n e b he hb=>⟨(hsame b (hR.foot_lt he hb)).1 (hR.foot_nd he hb),(hsame b (hR.foot_lt he hb)).2⟩
  have hnew:∀p∈y',w.heap.size≤p.1:=fun p hp=>by
   rcases hx.newf p.1 (.inr ⟨p,hp,rfl⟩) with h|h
   ·exact absurd h (hnf _)
   ·exact h
  have hfoot:Foot (g.marks g') es=Foot g es:=by
   funext b;simp only[Foot,Gh.marks]
   apply propext
   constructor
   ·rintro ⟨n,e,h4,h5⟩;exact⟨n,e,h4,by cases e<;>exact h5⟩
   ·rintro ⟨n,e,h4,h5⟩;exact⟨n,e,h4,by cases e<;>exact h5⟩
  have hx0:Ext D g (Foot g es) w (g.marks g') (Foot g es) w':=
   ⟨hx.os,hx.tape,hx.output,hx.size,hx.cells,hx.mark,fun _ _=>rfl,fun _ _=>rfl,fun b hb _=>hsame b hb,fun b hb=> .inl hb⟩
  refine hP v (g.marks g') w' r y' hT ?_ ?_ ?_ ?_ ?_
  ·refine hR.step hx.mark hx.cells (fun _ h=>h) (fun _ _=>rfl) (fun _ _=>rfl) (fun n e he=> .inl ⟨he,fun b hb=>hsameF n e b he hb⟩) ?_ hR'.fresh hR'.nodes
   intro n n' e e' b h4 h5 h6 h7
   exact hR.foots n n' e e' b h4 h5 (by cases e<;>exact h6) (by cases e'<;>exact h7)
  ·exact hv.mono (fun _=>Mrk.le_refl _) (fun _ _ _=>rfl) (fun n h=>absurd h (Nat.not_lt_zero n)) (fun n h=>absurd h (Nat.not_lt_zero n)) (fun n h=>absurd h (Nat.not_lt_zero n))
  ·rw [hfoot]
   intro p hp
   rcases List.mem_append.1 hp with hp|hp
   ·obtain ⟨q1,q2,us,t,q3,q4,q5,q6,q7⟩:=hY' p hp
    refine⟨q1,fun hf=> ?_,us,t,q3,q4,q5,q6,fun i v c hv hc=>(q7 i v c hv hc).mono (fun _=>Mrk.le_refl _) (fun _ _ _=>rfl) (fun _ h=>h) (fun _ h=>h.elim) (fun _ h=>h.elim)⟩
    obtain⟨n,e,h4,h5⟩:=hf
    have:=hR.foot_lt h4 h5
    have:=hnew p hp
    omega
   ·exact hY.ext hx0 p hp
  ·intro p hp q hq e
   obtain⟨_,_,us,t,q3,_⟩:=hY q hq
   have:=(Array.getElem?_eq_some_iff.1 q3).1
   have:=hnew p hp
   omega
  ·refine ⟨hx.os,hx.tape,hx.output,hx.size,hx.cells,hx.mark,fun _ _=>rfl,fun _ _=>rfl,fun b hb _=>hsame b hb,fun b hb=> ?_⟩
   rcases hb with hb|⟨p,hp,rfl⟩
   ·rw [hfoot] at hb;exact .inl (.inl hb)
   ·rcases List.mem_append.1 hp with hp|hp
    ·exact .inr (hnew p hp)
    ·exact .inl (.inr ⟨p,hp,rfl⟩)
end
def ECv(Cv:V→V→Prop):Ent→Ent→Prop
 |_,.gone=>True
 | .var cs,.var cs2=>cs2.length=cs.length∧∀(i:Nat) c c2,cs[i]? =some c→cs2[i]? =some c2→Cv c c2
 |e,e2=>e2=e
theorem ECv.foot{Cv:V→V→Prop}{e e2:Ent}(h:ECv Cv e e2){g g2:Gh}{D:Nat→Prop}{n:Nat}(hn:D n)(hb:∀n,D n→g2.blk n=g.blk n)(hr:∀n,D n→g2.row n=g.row n){b:Nat}(hf:e2.foot g2 n=some b):e.foot g n=some b:=by
 rw[←Ent.foot_same hn hb hr]
 cases e2 with
 |gone=>cases hf
 |var cs2=>cases e<;>first|exact hf|exact(by cases h)
 |map c ks xs=>cases e<;>first|exact(by cases h;exact hf)|exact(by cases h)
 |row=>cases e<;>first|exact hf|exact(by cases h)
theorem R.conv{G:Glob}{g g2:Gh}{D D2:Nat→Prop}{es es2:Es}{w:World}(hR:R G g D es w)(hD:∀n,D n→D2 n)(hm:∀b,g.m b≤g2.m b)(hb:∀n,D n→g2.blk n=g.blk n)(hr:∀n,D n→g2.row n=g.row n)
 (hfoot:∀b,Foot g es b→g2.m b=g.m b) (hfresh:∀b,w.heap.size≤b→g2.m b=0) (hnodes:∀b t,g2.m b= .of t→FlagOk w b t) (Cv:V→V→Prop) (hv:∀v c c2,Cv c c2→VRel g D w v c→VRel g2 D2 w v c2) (n0:Nat)
 (he:∀n e2,findE es2 n=some e2→(n=n0∧D2 n∧ERel g2 D2 w n e2∧∀b,e2.foot g2 n=some b→¬Foot g es b)∨∃e,findE es n=some e∧ECv Cv e e2):R G g2 D2 es2 w:=by
 refine hR.step hm (fun _ _ _=>rfl) hD hb hr (fun n e2 h=> .inr ?_) ?_ hfresh hnodes
 ·rcases he n e2 h with⟨_,h1,h2,_⟩|⟨e,h1,h2⟩
  ·exact ⟨h1,h2⟩
  ·refine ⟨hD n (hR.lt n e h1),?_⟩
   have h3:=(hR.ents n e h1).mono (g':=g2) (D':=D2) (w':=w) (hR.lt n e h1) hm (fun _ _ _=>rfl) hD hb hr (fun b hb=>⟨rfl,hfoot b ⟨n,e,h1,hb⟩⟩)
   cases e2 with
   |gone=>trivial
   |var cs2=>
    cases e with
    |var cs=>
     obtain⟨h4,h5⟩:=h2
     obtain⟨q1,us,t,q2,q3,q4,q5,q6⟩:=h3
     obtain⟨p1,us',t',p2,_,_,p5,_⟩:=hR.ents n _ h1
     rw[hb n (hR.lt n _ h1)] at q2
     rw[q2] at p2
     simp only[Option.some.injEq,Obj.cells.injEq] at p2
     obtain⟨p3,_,_⟩:=p2
     have p3:us=us':=by simpa using p3
     subst p3
     refine⟨q1,us,t,by rw[hb n (hR.lt n _ h1)];exact q2,by omega,q4,fun i v c2 hvi hci=> ?_,q6⟩
     obtain⟨c,hc⟩:=getElem?_of_len h4 hci
     exact hv v c c2 (h5 i c c2 hc hci) (p5 i v c hvi hc)
    |map _ _ _=>cases h2
    |row=>cases h2
    |gone=>cases h2
   |map c ks xs=>cases e<;>first|exact(by cases h2;exact h3)|exact(by cases h2)
   |row=>cases e<;>first|exact h3|exact(by cases h2)
 ·intro n n' e e' b h1 h2 h3 h4
  rcases he n e h1 with⟨rfl,_,_,q⟩|⟨d,h5,h6⟩
  ·rcases he n' e' h2 with⟨rfl,_⟩|⟨d',h7,h8⟩
   ·rfl
   ·exact absurd ⟨n',d',h7,h8.foot (hR.lt _ _ h7) hb hr h4⟩ (q b h3)
  ·rcases he n' e' h2 with⟨rfl,_,_,q⟩|⟨d',h7,h8⟩
   ·exact absurd ⟨n,d,h5,h6.foot (hR.lt _ _ h5) hb hr h3⟩ (q b h4)
   ·exact hR.foots n n' d d' b h5 h7 (h6.foot (hR.lt _ _ h5) hb hr h3) (h8.foot (hR.lt _ _ h7) hb hr h4)
def TCv(b n cap sz:Nat)(c c2:V):Prop:=c2=c∨(∃off,c= .rp b off∧c2= .ptr n off)∨(∃len,len≤cap∧c= .rs b len cap∧c2= .arr n len sz)
section
variable {E:Env} {N k:Nat} {a:AF} {σ:Sto} {y:Ys} {Q:Exit→AF→Sto→Ys→Prop}
theorem takeCore{b cap sz:Nat}{cs:List V}{y1:Ys}(hy:y.Perm ((b,cap*sz,cs)::y1))(hnd:(y.map Prod.fst).Nodup)(a2:AF)(es2:Es)
 (hf:∀t c2,a2.get t=some c2→∃c,a.get t=some c∧TCv b σ.nx cap sz c c2)
 (he:∀n e2,findE es2 n=some e2→(n=σ.nx∧e2= .var cs)∨∃e,findE σ.es n=some e∧ECv (TCv b σ.nx cap sz) e e2):
 k≤σ.nx→∀g w act,R E.G g (·<σ.nx) σ.es w→FRel g (·<σ.nx) w N act a→YOk y g (Foot g σ.es) w→
 ∃g2,g2.blk σ.nx=b∧g2.row σ.nx=some ⟨b,0,cap,sz,0⟩∧R E.G g2 (·<σ.nx+1) es2 w∧FRel g2 (·<σ.nx+1) w N act a2∧YOk y1 g2 (Foot g2 es2) w∧Ext (·<k) g (FY g σ.es y) w g2 (FY g2 es2 y1) w:=by
 intro hk g w act hR hF hY
 let g2:=g.nameR σ.nx b (some ⟨b,0,cap,sz,0⟩)
 have hne:∀i,i<σ.nx→i≠σ.nx:=fun i h=>by omega
 have hb:∀i,i<σ.nx→g2.blk i=g.blk i:=fun i hi=>by simp[g2,Gh.nameR,hne i hi]
 have hrw:∀i,i<σ.nx→g2.row i=g.row i:=fun i hi=>by simp[g2,Gh.nameR,hne i hi]
 have hbn:g2.blk σ.nx=b:=by simp[g2,Gh.nameR]
 have hrn:g2.row σ.nx=some ⟨b,0,cap,sz,0⟩:=by simp[g2,Gh.nameR]
 have hD:∀n,n<σ.nx→n<σ.nx+1:=fun n h=>by omega
 obtain⟨h1,h2,vs,t,h3,h4,h5,h6,h7⟩:=hY (b,cap*sz,cs) (hy.mem_iff.2 (by simp))
 simp only at h1 h2 h3 h4 h5 h7
 have hmono:∀v c,VRel g (·<σ.nx) w v c→VRel g2 (·<σ.nx+1) w v c:=fun v c h=>h.mono (fun _=>Mrk.le_refl _) (fun _ _ _=>rfl) hD hb hrw
 have hv:∀v c c2,TCv b σ.nx cap sz c c2→VRel g (·<σ.nx) w v c→VRel g2 (·<σ.nx+1) w v c2:=by
  rintro v c c2 (rfl|⟨off,rfl,rfl⟩|⟨len,hl,rfl,rfl⟩) h
  ·exact hmono v _ h
  ·rw [h.raw_inv]
   have:=VRel.ptr (g:=g2) (D:=(·<σ.nx+1)) (w:=w) σ.nx off (by show σ.nx<σ.nx+1;omega)
   rwa [hbn] at this
  ·rw [h.raw_inv]
   have:=VRel.arr (g:=g2) (D:=(·<σ.nx+1)) (w:=w) σ.nx len sz cap (by show σ.nx<σ.nx+1;omega) hl (by rw[hbn];exact hrn)
   rwa [hbn] at this
 have hent:ERel g2 (·<σ.nx+1) w σ.nx (.var cs):=by
  refine⟨by rw[hbn];exact h1,vs,t,by rw[hbn];exact h3,by omega,h6,fun i v c hv hc=>(h7 i v c hv hc).mono (fun _=>Mrk.le_refl _) (fun _ _ _=>rfl) (fun _ h=>h.elim) (fun _ h=>h.elim) (fun _ h=>h.elim),fun ρ hρ=> ?_⟩
  rw[hrn] at hρ;cases hρ;exact h4
 have hfootin:∀x,Foot g2 es2 x→Foot g σ.es x∨x=b:=by
  rintro x ⟨n,e2,q1,q2⟩
  rcases he n e2 q1 with⟨rfl,rfl⟩|⟨e,q3,q4⟩
  ·simp only[Ent.foot,Option.some.injEq,hbn] at q2;exact .inr q2.symm
  ·exact .inl ⟨n,e,q3,q4.foot (D:=(·<σ.nx)) (hR.lt _ _ q3) hb hrw q2⟩
 have hnd2:∀p∈y1,p.1≠b:=by
  have:=(hy.map Prod.fst).nodup hnd
  simp only[List.map_cons,List.nodup_cons] at this
  intro p hp e
  exact this.1 (e▸List.mem_map_of_mem hp)
 refine⟨g2,hbn,hrn,?_,⟨hF.size,hF.defers,fun t c2 hc=> ?_⟩,?_,?_⟩
 ·refine hR.conv hD (fun _=>Mrk.le_refl _) hb hrw (fun _ _=>rfl) hR.fresh hR.nodes _ hv σ.nx fun n e2 hn=> ?_
  rcases he n e2 hn with⟨rfl,rfl⟩|h
  ·refine .inl ⟨rfl,by show σ.nx<σ.nx+1;omega,hent,fun x hx=> ?_⟩
   simp only[Ent.foot,Option.some.injEq,hbn] at hx
   subst hx
   exact h2
  ·exact .inr h
 ·obtain ⟨c,q1,q2⟩:=hf t c2 hc
  obtain⟨v,q3,q4⟩:=hF.vals t c q1
  exact⟨v,q3,hv v c c2 q2 q4⟩
 ·intro p hp
  obtain⟨q1,q2,us,t',q3,q4,q5,q6,q7⟩:=hY p (hy.mem_iff.2 (by simp[hp]))
  refine⟨q1,fun hfo=> ?_,us,t',q3,q4,q5,q6,fun i v c hv hc=>(q7 i v c hv hc).mono (fun _=>Mrk.le_refl _) (fun _ _ _=>rfl) (fun _ h=>h) (fun _ h=>h.elim) (fun _ h=>h.elim)⟩
  rcases hfootin _ hfo with h|h
  ·exact q2 h
  ·exact hnd2 p hp h
 ·refine ⟨rfl,rfl,rfl,Nat.le_refl _,fun _ _ _=>rfl,fun _=>Mrk.le_refl _,fun n hn=>hb n (by omega),fun n hn=>hrw n (by omega),fun _ _ _=>⟨fun _=>rfl,rfl⟩,fun x hx=> .inl ?_⟩
  rcases hx with hx|⟨p,hp,rfl⟩
  ·rcases hfootin x hx with h|rfl
   ·exact .inl h
   ·exact .inr ⟨(x,cap*sz,cs),hy.mem_iff.2 (by simp),rfl⟩
  ·exact .inr ⟨p,hy.mem_iff.2 (by simp[hp]),rfl⟩
theorem WeakB.take{b cap sz:Nat}{cs:List V}{y1:Ys}(hy:y.Perm ((b,cap*sz,cs)::y1))(hnd:(y.map Prod.fst).Nodup)(a2:AF)(es2:Es)
 (hf:∀t c2,a2.get t=some c2→∃c,a.get t=some c∧TCv b σ.nx cap sz c c2)
 (he:∀n e2,findE es2 n=some e2→(n=σ.nx∧e2= .var cs)∨∃e,findE σ.es n=some e∧ECv (TCv b σ.nx cap sz) e e2):
 WeakB E N k a σ y (fun a3 σ3 y3=>a3=a2∧σ3=⟨σ.nx+1,es2⟩∧y3=y1):=by
 intro hk g w act hR hF hY
 obtain⟨g2,_,_,h1,h2,h3,h4⟩:=takeCore hy hnd a2 es2 hf he hk g w act hR hF hY
 exact⟨a2,_,y1,g2,⟨rfl,rfl,rfl⟩,by show k≤σ.nx+1;omega,h1,h2,h3,h4⟩
def V.free(c:V):Prop:=∀g D w v,VRel g D w v c→VRel g (fun _=>False) w v c
theorem V.free_raw(u:Value):V.free (.raw u):=fun g D w v h=>by rw[h.raw_inv];exact .raw u
def GCv(n b cap sz:Nat)(c c2:V):Prop:=c2=c∨(∃off,c= .ptr n off∧c2= .rp b off)∨(∃len,c= .arr n len sz∧c2= .rs b len cap)
theorem BW.after{c:Code}(h:BW E N k c a σ y (fun e a σ y=>WeakB E N k a σ y (Q e))):BW E N k c a σ y Q:=by
 constructor
 intro hk g w act hR hF hY
 refine wp_mono (h.run hk g w act hR hF hY) ?_
 rintro e act1 w1 ⟨g1,a1,σ1,y1,hq,hk1,hR1,hF1,hY1,hx⟩
 obtain⟨a2,σ2,y2,g2,hs,hk2,hR2,hF2,hY2,hx2⟩:=hq hk1 g1 w1 act1 hR1 hF1 hY1
 exact⟨g2,a2,σ2,y2,hs,hk2,hR2,hF2,hY2,hx.trans hx2⟩
def Frz(y:Ys)(u:Value)(l:SL V):Prop:=∀g w,(∀p∈y,p.2.2.length≤(g.m p.1).n∧∃(vs:List Value) (t:TypeId),w.heap[p.1]? =some (.cells vs.toArray t (0,0))∧p.2.2.length≤vs.length∧
 ∀(i:Nat) v c,vs[i]? =some v→p.2.2[i]? =some c→VRel g (fun _=>False) w v c)→DRel g.m w u (.slice .any l)
end
end Go.Ab
namespace Go.Ab
open Go
set_option linter.all false
inductive Yn where
 |dat (c:V)
 |row (c:EC) (n:Nat) (cells:List Yn)
mutual
inductive YM (s:Prop):Yn→V→Ys→Prop
 |dat (c:V) (h:V.isD c=true):YM s (.dat c) c []
 |nil (c:EC):YM s (.row c 0 []) (.raw (.slice none 0 0)) []
 |row (c:EC) (n:Nat) (cells:List Yn) (b room cap:Nat) (cs:List V) (y:Ys) (hroom:s→room=cap*c.cells) (hcap:n≤cap) (hn:0<n) (hl:cells.length=n*c.cells) (h:YMs s cells cs y):
  YM s (.row c n cells) (.rs b n cap) ((b,room,cs)::y)
inductive YMs (s:Prop):List Yn→List V→Ys→Prop
 |nil:YMs s [] [] []
 |cons {x:Yn} {v:V} {y:Ys} {l:List Yn} {vs:List V} {y2:Ys} (h:YM s x v y) (h2:YMs s l vs y2):YMs s (x::l) (v::vs) (y++y2)
end
mutual
inductive Er:Yn→V→Prop
 |dat (c:V) (h:V.isD c=true):Er (.dat c) c
 |row (c:EC) (n:Nat) (cells:List Yn) (xs:List c.sem) (hl:xs.length=n) (h:Ers cells (xs.flatMap c.view)):Er (.row c n cells) (.slice .any (.t c xs))
inductive Ers:List Yn→List V→Prop
 |nil:Ers [] []
 |cons {x:Yn} {v:V} {l:List Yn} {vs:List V} (h:Er x v) (h2:Ers l vs):Ers (x::l) (v::vs)
end
theorem YMs.len{s:Prop}:∀{l:List Yn} {cs:List V} {y:Ys},YMs s l cs y→cs.length=l.length
 |[],_,_,h=>by cases h;rfl
 |x::l,_,_,h=>by cases h with|cons h h2=>simp[h2.len]
theorem Ers.len:∀{l:List Yn} {cs:List V},Ers l cs→cs.length=l.length
 |[],_,h=>by cases h;rfl
 |x::l,_,h=>by cases h with|cons h h2=>simp[h2.len]
theorem YMs.app{s:Prop}:∀{l:List Yn} {cs:List V} {y:Ys} {l2:List Yn} {cs2:List V} {y2:Ys},YMs s l cs y→YMs s l2 cs2 y2→YMs s (l++l2) (cs++cs2) (y++y2)
 |[],_,_,l2,cs2,y2,h,h2=>by cases h;exact h2
 |x::l,_,_,l2,cs2,y2,h,h2=>by
  cases h with
  |cons h h3=>rw[List.append_assoc];exact .cons h (h3.app h2)
theorem YMs.split{s:Prop}:∀{l l2:List Yn} {cs:List V} {y:Ys},YMs s (l++l2) cs y→∃cs1 cs2 y1 y2,cs=cs1++cs2∧y=y1++y2∧YMs s l cs1 y1∧YMs s l2 cs2 y2
 |[],l2,cs,y,h=>⟨[],cs,[],y,rfl,rfl,.nil,h⟩
 |x::l,l2,_,_,h=>by
  cases h with
  | @cons _ v y0 _ vs y2 h h3=>
    obtain⟨cs1,cs2,y1,y2,rfl,rfl,h4,h5⟩:=h3.split
    exact⟨v::cs1,cs2,y0++y1,y2,rfl,by rw[List.append_assoc],.cons h h4,h5⟩
theorem Ers.app:∀{l:List Yn} {cs:List V} {l2:List Yn} {cs2:List V},Ers l cs→Ers l2 cs2→Ers (l++l2) (cs++cs2)
 |[],_,l2,cs2,h,h2=>by cases h;exact h2
 |x::l,_,l2,cs2,h,h2=>by cases h with|cons h h3=>exact .cons h (h3.app h2)
theorem Ers.split:∀{l l2:List Yn} {cs:List V},Ers (l++l2) cs→∃cs1 cs2,cs=cs1++cs2∧Ers l cs1∧Ers l2 cs2
 |[],l2,cs,h=>⟨[],cs,rfl,.nil,h⟩
 |x::l,l2,_,h=>by
  cases h with
  |cons h h3=>
   obtain⟨cs1,cs2,rfl,h4,h5⟩:=h3.split
   exact⟨_::cs1,cs2,rfl,.cons h h4,h5⟩
mutual
theorem YM.weak{s s':Prop}(hs:s'→s):∀{x:Yn} {v:V} {y:Ys},YM s x v y→YM s' x v y
 |_,_,_,.dat c h=> .dat c h
 |_,_,_,.nil c=> .nil c
 |_,_,_,.row c n cells b room cap cs y hroom hcap hn hl h=> .row c n cells b room cap cs y (fun h=>hroom (hs h)) hcap hn hl (h.weak hs)
theorem YMs.weak{s s':Prop}(hs:s'→s):∀{l:List Yn} {cs:List V} {y:Ys},YMs s l cs y→YMs s' l cs y
 |_,_,_,.nil=> .nil
 |_,_,_,.cons h h2=> .cons (h.weak hs) (h2.weak hs)
end
theorem V.isD_ren{c:V}(h:V.isD c=true)(ρ:List (Option Nat)):renV ρ c=some c:=by
 cases c with
 |slice sp l=>cases sp<;>first|rfl|cases h
 |_=>first|rfl|cases h
theorem V.isD_free{c:V}(h:V.isD c=true):V.free c:=fun g D w v hv=> .data (hv.isD h)
theorem YM.ren{s:Prop}{x:Yn}{v:V}{y:Ys}(h:YM s x v y)(ρ:List (Option Nat)):renV ρ v=some v∧V.free v:=by
 cases h with
 |dat _ h=>exact⟨V.isD_ren h ρ,V.isD_free h⟩
 |nil=>exact⟨rfl,V.free_raw _⟩
 |row=>exact⟨rfl,V.free_raw _⟩
theorem YMs.ren{s:Prop}:∀{l:List Yn} {cs:List V} {y:Ys},YMs s l cs y→∀ρ:List (Option Nat),renVs ρ cs=some cs
 |_,_,_,.nil,ρ=>rfl
 |_,_,_,.cons h h2,ρ=>by simp[renVs,(h.ren ρ).1,h2.ren ρ]
theorem YMs.free{s:Prop}:∀{l:List Yn} {cs:List V} {y:Ys},YMs s l cs y→∀c∈cs,V.free c
 |_,_,_,.nil,c,hc=>by cases hc
 |_,_,_,.cons h h2,c,hc=>by
  rcases List.mem_cons.1 hc with rfl|hc
  ·exact (h.ren []).2
  ·exact h2.free c hc
def YD(y:Ys)(g:Gh)(w:World):Prop:=∀p∈y,p.2.2.length≤(g.m p.1).n∧∃(vs:List Value) (t:TypeId),w.heap[p.1]? =some (.cells vs.toArray t (0,0))∧p.2.2.length≤vs.length∧
 ∀(i:Nat) v c,vs[i]? =some v→p.2.2[i]? =some c→VRel g (fun _=>False) w v c
mutual
theorem YM.data{s:Prop}{g:Gh}{w:World}:∀{x:Yn} {v:V} {y:Ys},YM s x v y→∀{c:V},Er x c→YD y g w→∀{u:Value},VRel g (fun _=>False) w u v→DRel g.m w u c
 |_,_,_,.dat c _,_,he,_,u,hu=>by cases he with|dat _ h=>exact hu.isD h
 |_,_,_,.nil c,_,he,_,u,hu=>by
  cases he with
  |row _ _ _ xs hl h=>
   rw[hu.raw_inv]
   exact .nilS _ (by simpa [SL.len] using hl)
 |_,_,_,.row c n cells b room cap cs y _ hcap hn hlc h,_,he,hy,u,hu=>by
  cases he with
  |row _ _ _ xs hxl hx=>
   rw[hu.raw_inv]
   obtain⟨hm,vs,t,hh,hvl,hv⟩:=hy (b,room,cs) (by simp)
   simp only at hm hh hvl hv
   have hcl:=h.len
   have key:=h.data hx (fun p hp=>hy p (by simp[hp])) (vs:=vs.take cs.length) (by simp;omega) (fun i v c hi hc=>by
    rw[List.getElem?_take] at hi
    split at hi
    ·exact hv i v c hi hc
    ·cases hi)
   subst hxl
   have hfl:=fview_len c xs
   refine .slice (.t c xs) b 0 cap (fun i j=>vs.getD (i*c.cells+j) undef) (by show 0+xs.length*c.cells≤(g.m b).n;omega) hcap (fun i hi=> ?_) (fun i j hi hj=> ?_) (fun i j ds d hi hds hd=> ?_)
   ·exact ⟨c.view xs[i],by show(xs[i]?).map c.view=_;rw[List.getElem?_eq_getElem hi];rfl,EC.view_len c _⟩
   ·rw [Nat.zero_add,cell_in hh]
    have:=slot_lt hi hj
    have hlt:i*c.cells+j<vs.length:=by
     have:i*c.cells+j<xs.length*c.cells:=this
     omega
    show vs.toArray[i*c.cells+j]? =some (vs.getD (i*c.cells+j) undef)
    rw[List.getElem?_toArray,List.getElem?_eq_getElem hlt,List.getD_eq_getElem?_getD,List.getElem?_eq_getElem hlt];rfl
   ·have hds':(xs[i]?).map c.view=some ds:=hds
    rw[List.getElem?_eq_getElem hi] at hds'
    simp only[Option.map_some,Option.some.injEq] at hds'
    subst hds'
    have hj:j<c.cells:=by have:=(List.getElem?_eq_some_iff.1 hd).1;rwa [EC.view_len] at this
    have h1:(xs.flatMap c.view)[i*c.cells+j]? =some d:=by rw[fview_get c xs i j hj,List.getElem?_eq_getElem hi];exact hd
    have hlt:i*c.cells+j<vs.length:=by
     have h2:=(List.getElem?_eq_some_iff.1 h1).1
     omega
    have h3:(vs.take cs.length)[i*c.cells+j]? =some (vs.getD (i*c.cells+j) undef):=by
     have h2:=(List.getElem?_eq_some_iff.1 h1).1
     rw[List.getElem?_take,if_pos (by omega),List.getElem?_eq_getElem hlt,List.getD_eq_getElem?_getD,List.getElem?_eq_getElem hlt];rfl
    exact key _ _ _ h3 h1
theorem YMs.data{s:Prop}{g:Gh}{w:World}:∀{l:List Yn} {cs:List V} {y:Ys},YMs s l cs y→∀{ds:List V},Ers l ds→YD y g w→∀{vs:List Value},vs.length=cs.length→(∀(i:Nat) v c,vs[i]? =some v→cs[i]? =some c→VRel g (fun _=>False) w v c)→
 ∀(i:Nat) v d,vs[i]? =some v→ds[i]? =some d→DRel g.m w v d
 |_,_,_,.nil,_,he,_,vs,hl,hv=>fun i v d hi hd=>by cases he;simp at hd
 |_,_,_,.cons h h2,_,he,hy,vs,hl,hv=>fun i v d hi hd=>by
  cases he with
  |cons he he2=>
   cases vs with
   |nil=>simp at hi
   |cons u us=>
    cases i with
    |zero=>
     simp at hi hd
     subst hi;subst hd
     exact h.data he (fun p hp=>hy p (by simp[hp])) (hv 0 _ _ rfl rfl)
    |succ i=>
     exact h2.data he2 (fun p hp=>hy p (by simp[hp])) (vs:=us) (by simpa using hl) (fun i v c hi hc=>hv (i+1) v c (by simpa using hi) (by simpa using hc)) i v d (by simpa using hi) (by simpa using hd)
end
theorem Frz.of{s:Prop}{x:Yn}{u:Value}{y y2:Ys}{l:SL V}(h:YM s x (.raw u) y)(he:Er x (.slice .any l))(hy:∀p∈y,p∈y2):Frz y2 u l:=
 fun g w hd=>h.data he (fun p hp=>hd p (hy p hp)) (.raw u)
mutual
def Tm.yn:Tm→List Yn| .mk k i t as=>[.dat (.i k),.dat (.i i),.dat (.i t.kind),.dat (.s .ty t.args),.row .tm as.length (Tm.yns as)]
def Tm.yns:List Tm→List Yn|[]=>[]|a::l=>a.yn++Tm.yns l
end
theorem Tm.yn_len:∀t:Tm,t.yn.length=5| .mk _ _ _ _=>rfl
theorem Tm.yns_len:∀l:List Tm,(Tm.yns l).length=l.length*5
 |[]=>rfl
 |a::l=>by rw[Tm.yns,List.length_append,Tm.yn_len,Tm.yns_len l,List.length_cons];omega
mutual
theorem Tm.er:∀t:Tm,Ers t.yn t.view
 | .mk k i t as=> .cons (.dat _ rfl) (.cons (.dat _ rfl) (.cons (.dat _ rfl) (.cons (.dat _ rfl) (.cons (.row .tm _ _ as rfl (Tm.ers as)) .nil))))
theorem Tm.ers:∀l:List Tm,Ers (Tm.yns l) (l.flatMap (EC.view .tm))
 |[]=> .nil
 |a::l=>by rw[Tm.yns,List.flatMap_cons];exact(Tm.er a).app (Tm.ers l)
end
section
variable {E:Env} {N k:Nat} {a:AF} {σ:Sto} {y:Ys} {Q:Exit→AF→Sto→Ys→Prop}
theorem WeakB.mono{S S':AF→Sto→Ys→Prop}(h:WeakB E N k a σ y S)(hS:∀a σ y,S a σ y→S' a σ y):WeakB E N k a σ y S':=by
 intro hk g w act hR hF hY
 obtain⟨a2,σ2,y2,g2,hs,h2⟩:=h hk g w act hR hF hY
 exact⟨a2,σ2,y2,g2,hS _ _ _ hs,h2⟩
namespace K
end K
def AF.Cnv(Cv:V→V→Prop)(a:AF):AF→Prop
 |[]=>True
 |p::l=>(∃c,a.get p.1=some c∧Cv c p.2)∧AF.Cnv Cv a l
theorem AF.Cnv.get{Cv:V→V→Prop}{a:AF}:∀{a2:AF},AF.Cnv Cv a a2→∀t c2,a2.get t=some c2→∃c,a.get t=some c∧Cv c c2
 |[],_,t,c2,h=>by cases h
 |p::l,h,t,c2,hc=>by
  obtain⟨m,e⟩:=p
  rw[AF.get_cons] at hc
  by_cases ht:m=t
  ·subst ht;rw[if_pos rfl] at hc;cases hc;exact h.1
  ·rw [if_neg ht] at hc;exact AF.Cnv.get h.2 t c2 hc
def Es.Cnv(Cv:V→V→Prop)(es:Es):Es→Prop
 |[]=>True
 |p::l=>(∃e,findE es p.1=some e∧ECv Cv e p.2)∧Es.Cnv Cv es l
theorem Es.Cnv.get{Cv:V→V→Prop}{es:Es}:∀{es2:Es},Es.Cnv Cv es es2→∀n e2,findE es2 n=some e2→∃e,findE es n=some e∧ECv Cv e e2
 |[],_,t,c2,h=>by cases h
 |p::l,h,t,c2,hc=>by
  obtain⟨m,e⟩:=p
  rw[findE_cons] at hc
  by_cases ht:m=t
  ·subst ht;rw[if_pos rfl] at hc;cases hc;exact h.1
  ·rw [if_neg ht] at hc;exact Es.Cnv.get h.2 t c2 hc
theorem ECv.same{Cv:V→V→Prop}(hr:∀c,Cv c c)(e:Ent):ECv Cv e e:=by
 cases e with
 |var cs=>exact⟨rfl,fun i c c2 h h2=>by rw[h] at h2;cases h2;exact hr c⟩
 |_=>first|trivial|rfl
def CvL(Cv:V→V→Prop):List V→List V→Prop
 |[],[]=>True
 |c::cs,c2::cs2=>Cv c c2∧CvL Cv cs cs2
 |_,_=>False
theorem CvL.get{Cv:V→V→Prop}:∀{cs cs2:List V},CvL Cv cs cs2→cs2.length=cs.length∧∀(i:Nat) c c2,cs[i]? =some c→cs2[i]? =some c2→Cv c c2
 |[],[],_=>⟨rfl,fun i c c2 h=>by simp at h⟩
 |c::cs,c2::cs2,h=>by
  obtain⟨h1,h2⟩:=CvL.get h.2
  refine⟨by simp[h1],fun i d d2 q q2=> ?_⟩
  cases i with
  |zero=>simp at q q2;subst q;subst q2;exact h.1
  |succ i=>exact h2 i d d2 (by simpa using q) (by simpa using q2)
 |[],_::_,h=>h.elim
 |_::_,[],h=>h.elim
theorem ECv.var{Cv:V→V→Prop}{cs cs2:List V}(h:CvL Cv cs cs2):ECv Cv (.var cs) (.var cs2):=h.get
end
theorem YMs.inv{s:Prop}{x:Yn}{l:List Yn}{cs:List V}{y:Ys}(h:YMs s (x::l) cs y):∃v vs y1 y2,cs=v::vs∧y=y1++y2∧YM s x v y1∧YMs s l vs y2:=by
 cases h with|cons h h2=>exact⟨_,_,_,_,rfl,rfl,h,h2⟩
theorem YMs.tm{s:Prop}{t:Tm}{vs:List V}{y:Ys}(h:YMs s t.yn vs y):∃sv,vs=[.i t.kind,.i t.index,.i t.ty.kind,.s .ty t.ty.args,.raw sv]∧YM s (.row .tm t.args.length (Tm.yns t.args)) (.raw sv) y:=by
 obtain⟨k,i,ty,as⟩:=t
 have h:YMs s [.dat (.i k),.dat (.i i),.dat (.i ty.kind),.dat (.s .ty ty.args),.row .tm as.length (Tm.yns as)] vs y:=by unfold Tm.yn at h;exact h
 show ∃sv,vs=[.i k,.i i,.i ty.kind,.s .ty ty.args,.raw sv]∧YM s (.row .tm as.length (Tm.yns as)) (.raw sv) y
 generalize as.length=n at h ⊢
 generalize Tm.yns as=cells at h ⊢
 obtain⟨_,_,_,_,rfl,rfl,k1,h1⟩:=h.inv;cases k1
 obtain⟨_,_,_,_,rfl,rfl,k2,h2⟩:=h1.inv;cases k2
 obtain⟨_,_,_,_,rfl,rfl,k3,h3⟩:=h2.inv;cases k3
 obtain⟨_,_,_,_,rfl,rfl,k4,h4⟩:=h3.inv;cases k4
 obtain⟨_,_,_,_,rfl,rfl,k5,h5⟩:=h4.inv;cases h5
 cases k5 with
 |nil c=>exact⟨_,rfl,by simpa using YM.nil .tm⟩
 |row c n cells b room cap cs y hroom hcap hn hl hz=>exact⟨_,rfl,by simpa using YM.row .tm _ _ b room cap cs y hroom hcap hn hl hz⟩
section
variable {E:Env} {N k:Nat} {dr:Bool} {ops rest:List Oper} {a:AF} {σ:Sto} {acc:List Rec} {Q:Exit→AF→Sto→Prop}
variable {d:Option Tmp} {ty:TypeId} {ps:String} {af:Array Edge} {gd:Option (Nat×Bool)}
end
section
variable {E:Env} {N k:Nat} {ops:List Oper} {dr:Bool} {rest:List Oper} {a:AF} {σ:Sto} {acc:List Rec} {Q:Exit→AF→Sto→Prop}
variable {d:Option Tmp} {ty:TypeId} {ps:String} {af:Array Edge} {gd:Option (Nat×Bool)}
namespace L
end L
theorem CvL.refl{Cv:V→V→Prop}(hr:∀c,Cv c c):∀cs:List V,CvL Cv cs cs
 |[]=>trivial
 |c::cs=>⟨hr c,CvL.refl hr cs⟩
theorem CvL.app{Cv:V→V→Prop}:∀{a a' b b':List V},CvL Cv a a'→CvL Cv b b'→CvL Cv (a++b) (a'++b')
 |[],[],_,_,_,h2=>h2
 |c::a,c'::a',_,_,h,h2=>⟨h.1,CvL.app h.2 h2⟩
 |[],_::_,_,_,h,_=>h.elim
 |_::_,[],_,_,h,_=>h.elim
theorem er_dats:∀cs:List V,cs.all V.isD=true→Ers (cs.map Yn.dat) cs
 |[],_=> .nil
 |c::cs,h=>by
  simp only[List.all_cons,Bool.and_eq_true] at h
  exact .cons (.dat c h.1) (er_dats cs h.2)
def Es.CnvN(Cv:V→V→Prop)(es:Es)(n0:Nat)(cs0:List V):Es→Prop
 |[]=>True
 |p::l=>((p.1=n0∧p.2= .var cs0)∨∃e,findE es p.1=some e∧ECv Cv e p.2)∧Es.CnvN Cv es n0 cs0 l
theorem Es.CnvN.get{Cv:V→V→Prop}{es:Es}{n0:Nat}{cs0:List V}:∀{es2:Es},Es.CnvN Cv es n0 cs0 es2→∀n e2,findE es2 n=some e2→(n=n0∧e2= .var cs0)∨∃e,findE es n=some e∧ECv Cv e e2
 |[],_,t,c2,h=>by cases h
 |p::l,h,t,c2,hc=>by
  obtain⟨m,e⟩:=p
  rw[findE_cons] at hc
  by_cases ht:m=t
  ·subst ht;rw[if_pos rfl] at hc;cases hc;exact h.1
  ·rw [if_neg ht] at hc;exact Es.CnvN.get h.2 t c2 hc
section
variable {E:Env} {N k:Nat} {a:AF} {σ:Sto} {y:Ys}
end
end
end Go.Ab
namespace Go.Ab
open Go
set_option linter.unusedSimpArgs false
set_option linter.unusedVariables false
section
variable {E:Env} {N k:Nat} {a:AF} {σ:Sto} {y:Ys} {Q:Exit→AF→Sto→Ys→Prop}
set_option maxHeartbeats 4000000 in
end
section
variable {E:Env} {N k:Nat} {ops:List Oper}
theorem Plan.app{X:Oper→Prop}{l1 l2:List Oper}{a:AF}{σ:Sto}{R1:List Rec}{a1:AF}{σ1:Sto}(h:Plan E N X ops l1 a σ R1 a1 σ1):∀{R2:List Rec} {a2:AF} {σ2:Sto},Plan E N X ops l2 a1 σ1 R2 a2 σ2→Plan E N X ops (l1++l2) a σ (R1++R2) a2 σ2:=by
 induction h with
 |nil=>intro _ _ _ h;exact h
 |run r hw h hp hd _ ih=>intro _ _ _ h2;exact .run r hw h hp hd (ih h2)
 |sk hw hd _ ih=>intro _ _ _ h2;exact .sk hw hd (ih h2)
variable {X:Oper→Prop} {rest:List Oper} {a a':AF} {σ σ':Sto} {rs:List Rec} {d:Option Tmp} {ty:TypeId} {ps:String} {af:Array Edge} {gd:Option (Nat×Bool)}
end
section
variable {E:Env} {N k:Nat} {a:AF} {σ:Sto} {y:Ys} {Q:Exit→AF→Sto→Ys→Prop}
end
def RC(E:Env)(f:FuncId)(args:List V)(y:Ys)(r:V):Prop:=
 (∀vs w,(callFunc f vs).run E.P w= .ok (.enter f vs) w)∧
 ∀g w (vs:List Value),R E.G g (·<0) [] w→YOk y g (Foot g []) w→vs.length=args.length→(∀(i:Nat) v c,vs[i]? =some v→args[i]? =some c→VRel g (·<0) w v c)→
  Calls E.P f vs.toArray w fun e w'=>∃v g',e= .returned v∧R E.G g' (·<0) [] w'∧VRel g' (·<0) w' v r∧Ext (·<0) g (Foot g []) w g' (Foot g' []) w'
def ZC(E:Env)(f:FuncId)(args:List V)(y:Ys)(T:V→Ys→Prop):Prop:=
 (∀vs w,(callFunc f vs).run E.P w= .ok (.enter f vs) w)∧
 ∀g w (vs:List Value),R E.G g (·<0) [] w→YOk y g (Foot g []) w→vs.length=args.length→(∀(i:Nat) v c,vs[i]? =some v→args[i]? =some c→VRel g (·<0) w v c)→
  Calls E.P f vs.toArray w fun e w'=>∃v g' r y',e= .returned v∧T r y'∧R E.G g' (·<0) [] w'∧VRel g' (·<0) w' v r∧YOk y' g' (Foot g' []) w'∧Ext (·<0) g (FY g [] y) w g' (FY g' [] y') w'
theorem YOk.noF{y:Ys}{g:Gh}{F F':Nat→Prop}{w:World}(h:YOk y g F w)(hF:∀b,F' b→F b):YOk y g F' w:=fun p hp=>by
 obtain⟨h1,h2,h3⟩:=h p hp
 exact⟨h1,fun hf=>h2 (hF _ hf),h3⟩
section
variable {E:Env} {N k:Nat} {a:AF} {σ:Sto} {y:Ys} {Q:Exit→AF→Sto→Ys→Prop}
theorem RC.mk{f:FuncId}{fn:Func}{c:Code}{args:List V}{r:V}{rs:List ResultVar}(hf:E.P.funcs[f]? =some fn)(hb:fn.body=some c)(hname:(fn.name== "runtime.NumGoroutine")=false)(hN:fn.ntmps=N)
 (hrs:fn.results=rs.toArray) (hargs:Nat.ble args.length N=true) (h:AW (E.y y) N 0 c (argF 0 args) ⟨0,[]⟩ (retQ (E.y y) 0 rs r ⟨0,[]⟩)):RC E f args y r:=by
 refine⟨fun vs w=> ?_,fun g w vs hR hY hl hr=> ?_⟩
 ·have hname':¬fn.name= "runtime.NumGoroutine" :=by simpa using hname
  simp[callFunc,hf,hname',hb]
 ·have hle:=Nat.le_of_ble_eq_true hargs
  refine calls_of_wp hf hb (wp_mono (h.run (Nat.le_refl _) g w _ hR ?_ hY) ?_)
  ·refine ⟨by simp[hN];omega,rfl,fun t c hc=> ?_⟩
   obtain⟨_,h1⟩:=argF_get hc
   simp only[Nat.sub_zero] at h1
   obtain⟨v,hv⟩:=getElem?_of_len hl.symm h1
   have hlt:=(List.getElem?_eq_some_iff.1 hv).1
   exact⟨v,by simp[Array.getElem?_append,hlt];exact(List.getElem?_eq_some_iff.1 hv).2,hr t v c hv h1⟩
  ·rintro e act' w' ⟨g',a',σ1,hq,hk1,hR1,hF1,hx1⟩
   cases e with
   |normal=>
    obtain⟨v,g2,h1,h2,h3,h4⟩:=Ret.done (E:=E.y y) hq hrs hR1 hF1
    exact⟨hF1.defers,v,h1,v,g2,rfl,h2,h3,hx1.trans h4⟩
   |ret=>
    obtain⟨v,g2,h1,h2,h3,h4⟩:=Ret.done (E:=E.y y) hq hrs hR1 hF1
    exact⟨hF1.defers,v,h1,v,g2,rfl,h2,h3,hx1.trans h4⟩
   |_=>exact hq.elim
theorem RC.use{f:FuncId}{args:List V}{r:V}(h:RC E f args y r){g:Gh}{D:Nat→Prop}{es:Es}{w:World}(hR:R E.G g D es w)(hY:YOk y g (Foot g es) w){vs:List Value}{cs:List V}(hl:vs.length=cs.length)
 (hr:∀(i:Nat) v c,vs[i]? =some v→cs[i]? =some c→VRel g D w v c) (hle:∃cs1,renVs [] args=some cs1∧VsLe cs cs1) {P:Ending→World→Prop}
 (hP:∀v g' w',R E.G g' D es w'→VRel g' D w' v r→Ext D g (Foot g es) w g' (Foot g' es) w'→P (.returned v) w'):Calls E.P f vs.toArray w P:=by
 obtain⟨cs1,h1,h2⟩:=hle
 obtain⟨_,h3⟩:=h
 have hRs:R E.G g (·<0) [] w:=⟨fun n e h=>(by cases h),fun n n' e e' b h=>(by cases h),fun n e h=>(by cases h),hR.fresh,hR.nodes,hR.glob⟩
 have hnr:∀n m,renN [] n≠some m:=fun n m h=>by simp[renN,nthO] at h
 refine(h3 g w vs hRs (hY.noF fun b h=>by obtain⟨n,e,h,_⟩:=h;cases h) (by rw[hl,h2.len,←renVs_len h1]) (fun i v c hv hc=> ?_)).mono ?_
 ·obtain ⟨c1,hc1⟩:=getElem?_of_len (renVs_len h1) hc
  obtain⟨c0,hc0,hle⟩:=h2.nth i c1 hc1
  exact VRel.unren (ρ:=[]) (g2:=g) (hle _ _ _ _ (hr i v c0 hv hc0)) rfl (fun n m h=>absurd h (hnr n m)) (fun n m h=>absurd h (hnr n m)) (fun n h=>by simp[nthO] at h) c (renVs_at h1 i c c1 hc hc1)
 ·rintro e w' ⟨v,g',rfl,hR',hv,hx⟩
  have hnf:∀b,¬Foot g [] b:=fun b h=>by obtain⟨n,e,h,_⟩:=h;cases h
  have hsame:∀b,b<w.heap.size→((g.m b).nd=none→w'.heap[b]? =w.heap[b]?)∧g'.m b=g.m b:=fun b hb=>hx.fr b hb (hnf b)
  have hsameF:∀n e b,findE es n=some e→e.foot g n=some b→w'.heap[b]? =w.heap[b]? ∧g'.m b=g.m b:=fun n e b he hb=>⟨(hsame b (hR.foot_lt he hb)).1 (hR.foot_nd he hb),(hsame b (hR.foot_lt he hb)).2⟩
  have hfoot:Foot (g.marks g') es=Foot g es:=by
   funext b;simp only[Foot,Gh.marks]
   apply propext
   constructor
   ·rintro ⟨n,e,h4,h5⟩;exact⟨n,e,h4,by cases e<;>exact h5⟩
   ·rintro ⟨n,e,h4,h5⟩;exact⟨n,e,h4,by cases e<;>exact h5⟩
  refine hP v (g.marks g') w' ?_ ?_ ?_
  ·refine hR.step hx.mark hx.cells (fun _ h=>h) (fun _ _=>rfl) (fun _ _=>rfl) (fun n e he=> .inl ⟨he,fun b hb=>hsameF n e b he hb⟩) ?_ hR'.fresh hR'.nodes
   intro n n' e e' b h4 h5 h6 h7
   exact hR.foots n n' e e' b h4 h5 (by cases e<;>exact h6) (by cases e'<;>exact h7)
  ·exact hv.mono (fun _=>Mrk.le_refl _) (fun _ _ _=>rfl) (fun n h=>absurd h (Nat.not_lt_zero n)) (fun n h=>absurd h (Nat.not_lt_zero n)) (fun n h=>absurd h (Nat.not_lt_zero n))
  ·refine ⟨hx.os,hx.tape,hx.output,hx.size,hx.cells,hx.mark,fun _ _=>rfl,fun _ _=>rfl,fun b hb _=>hsame b hb,fun b hb=> ?_⟩
   rw[hfoot] at hb
   exact .inl hb
theorem ZC.mk{f:FuncId}{fn:Func}{c:Code}{args:List V}{T:V→Ys→Prop}{rs:List ResultVar}(hf:E.P.funcs[f]? =some fn)(hb:fn.body=some c)(hname:(fn.name== "runtime.NumGoroutine")=false)(hN:fn.ntmps=N)
 (hrs:fn.results=rs.toArray) (hargs:Nat.ble args.length N=true) (h:BW E N 0 c (argF 0 args) ⟨0,[]⟩ y (retY E rs T)):ZC E f args y T:=by
 refine⟨fun vs w=> ?_,fun g w vs hR hY hl hr=> ?_⟩
 ·have hname':¬fn.name= "runtime.NumGoroutine" :=by simpa using hname
  simp[callFunc,hf,hname',hb]
 ·have hle:=Nat.le_of_ble_eq_true hargs
  refine calls_of_wp hf hb (wp_mono (h.run (Nat.le_refl _) g w _ hR ?_ hY) ?_)
  ·refine ⟨by simp[hN];omega,rfl,fun t c hc=> ?_⟩
   obtain⟨_,h1⟩:=argF_get hc
   simp only[Nat.sub_zero] at h1
   obtain⟨v,hv⟩:=getElem?_of_len hl.symm h1
   have hlt:=(List.getElem?_eq_some_iff.1 hv).1
   exact⟨v,by simp[Array.getElem?_append,hlt];exact(List.getElem?_eq_some_iff.1 hv).2,hr t v c hv h1⟩
  ·rintro e act' w' ⟨g',a',σ1,y1,hq,hk1,hR1,hF1,hY1,hx1⟩
   have key:(∃r,T r y1∧Ret E 0 rs r ⟨0,[]⟩ a' σ1)→act'.defers=[]∧∃v,(results fn act'.tmps).run E.P w'= .ok v w'∧∃v' g'' r y',Ending.returned v= .returned v'∧T r y'∧R E.G g'' (·<0) [] w'∧VRel g'' (·<0) w' v' r∧YOk y' g'' (Foot g'' []) w'∧
    Ext (·<0) g (FY g [] y) w g'' (FY g'' [] y') w':=by
    rintro⟨r,hT,hret⟩
    obtain⟨v,g2,h1,h2,h3,h4⟩:=Ret.done hret hrs hR1 hF1
    exact⟨hF1.defers,v,h1,v,g2,r,y1,rfl,hT,h2,h3,hY1.ext h4,hx1.trans (h4.keys y1)⟩
   cases e with
   |normal=>exact key hq
   |ret=>exact key hq
   |_=>exact hq.elim
theorem ZC.use{f:FuncId}{args:List V}{T:V→Ys→Prop}(h:ZC E f args y T){g:Gh}{D:Nat→Prop}{es:Es}{w:World}(hR:R E.G g D es w)(hY:YOk y g (Foot g es) w){vs:List Value}{cs:List V}(hl:vs.length=cs.length)
 (hr:∀(i:Nat) v c,vs[i]? =some v→cs[i]? =some c→VRel g D w v c) (hle:∃cs1,renVs [] args=some cs1∧VsLe cs cs1) {P:Ending→World→Prop}
 (hP:∀v g' w' r y',T r y'→R E.G g' D es w'→VRel g' D w' v r→YOk y' g' (Foot g' es) w'→Ext D g (FY g es y) w g' (FY g' es y') w'→P (.returned v) w'):Calls E.P f vs.toArray w P:=by
 obtain⟨cs1,h1,h2⟩:=hle
 obtain⟨_,h3⟩:=h
 have hRs:R E.G g (·<0) [] w:=⟨fun n e h=>(by cases h),fun n n' e e' b h=>(by cases h),fun n e h=>(by cases h),hR.fresh,hR.nodes,hR.glob⟩
 have hnr:∀n m,renN [] n≠some m:=fun n m h=>by simp[renN,nthO] at h
 refine(h3 g w vs hRs (hY.noF fun b h=>by obtain⟨n,e,h,_⟩:=h;cases h) (by rw[hl,h2.len,←renVs_len h1]) (fun i v c hv hc=> ?_)).mono ?_
 ·obtain ⟨c1,hc1⟩:=getElem?_of_len (renVs_len h1) hc
  obtain⟨c0,hc0,hle⟩:=h2.nth i c1 hc1
  exact VRel.unren (ρ:=[]) (g2:=g) (hle _ _ _ _ (hr i v c0 hv hc0)) rfl (fun n m h=>absurd h (hnr n m)) (fun n m h=>absurd h (hnr n m)) (fun n h=>by simp[nthO] at h) c (renVs_at h1 i c c1 hc hc1)
 ·rintro e w' ⟨v,g',r,y',rfl,hT,hR',hv,hY',hx⟩
  have hnf:∀b,¬Foot g [] b:=fun b h=>by obtain⟨n,e,h,_⟩:=h;cases h
  have hsame:∀b,b<w.heap.size→¬Keys y b→((g.m b).nd=none→w'.heap[b]? =w.heap[b]?)∧g'.m b=g.m b:=fun b hb hk=>hx.fr b hb (fun h=>h.elim (hnf b) hk)
  have hdis:∀b,Foot g es b→¬Keys y b:=fun b hf hk=>by
   obtain⟨p,hp,rfl⟩:=hk
   exact(hY p hp).2.1 hf
  have hnew:∀p∈y',Keys y p.1∨w.heap.size≤p.1:=fun p hp=>by
   rcases hx.newf p.1 (.inr ⟨p,hp,rfl⟩) with h|h
   ·exact .inl (h.resolve_left (hnf _))
   ·exact .inr h
  have hfoot:Foot (g.marks g') es=Foot g es:=by
   funext b;simp only[Foot,Gh.marks]
   apply propext
   constructor
   ·rintro ⟨n,e,h4,h5⟩;exact⟨n,e,h4,by cases e<;>exact h5⟩
   ·rintro ⟨n,e,h4,h5⟩;exact⟨n,e,h4,by cases e<;>exact h5⟩
  refine hP v (g.marks g') w' r y' hT ?_ ?_ ?_ ?_
  ·refine hR.step hx.mark hx.cells (fun _ h=>h) (fun _ _=>rfl) (fun _ _=>rfl) (fun n e he=> .inl ⟨he,fun b hb=>⟨(hsame b (hR.foot_lt he hb) (hdis b ⟨n,e,he,hb⟩)).1 (hR.foot_nd he hb),(hsame b (hR.foot_lt he hb) (hdis b ⟨n,e,he,hb⟩)).2⟩⟩) ?_ hR'.fresh hR'.nodes
   intro n n' e e' b h4 h5 h6 h7
   exact hR.foots n n' e e' b h4 h5 (by cases e<;>exact h6) (by cases e'<;>exact h7)
  ·exact hv.mono (fun _=>Mrk.le_refl _) (fun _ _ _=>rfl) (fun n h=>absurd h (Nat.not_lt_zero n)) (fun n h=>absurd h (Nat.not_lt_zero n)) (fun n h=>absurd h (Nat.not_lt_zero n))
  ·rw [hfoot]
   intro p hp
   obtain⟨q1,q2,us,t,q3,q4,q5,q6,q7⟩:=hY' p hp
   refine⟨q1,fun hf=> ?_,us,t,q3,q4,q5,q6,fun i v c hv hc=>(q7 i v c hv hc).mono (fun _=>Mrk.le_refl _) (fun _ _ _=>rfl) (fun _ h=>h) (fun _ h=>h.elim) (fun _ h=>h.elim)⟩
   rcases hnew p hp with h|h
   ·exact hdis _ hf h
   ·obtain ⟨n,e,h4,h5⟩:=hf
    have:=hR.foot_lt h4 h5
    omega
  ·refine ⟨hx.os,hx.tape,hx.output,hx.size,hx.cells,hx.mark,fun _ _=>rfl,fun _ _=>rfl,fun b hb hb2=>hsame b hb (fun h=>hb2 (.inr h)),fun b hb=> ?_⟩
   rcases hb with hb|⟨p,hp,rfl⟩
   ·rw [hfoot] at hb;exact .inl (.inl hb)
   ·rcases hnew p hp with h|h
    ·exact .inl (.inr h)
    ·exact .inr h
set_option maxHeartbeats 4000000 in
end
section
variable {E:Env} {N k:Nat} {a:AF} {σ:Sto} {y:Ys} {Q:Exit→AF→Sto→Ys→Prop}
end
end Go.Ab
