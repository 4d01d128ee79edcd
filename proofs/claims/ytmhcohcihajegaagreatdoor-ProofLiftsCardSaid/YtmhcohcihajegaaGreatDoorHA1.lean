/- A part of this seat's proofs. No conditions. -/
import Derived.Below
import Derived.Deep.LoopGhost
import Derived.IntWalk
import Derived.Laws.AppendOwn
import Derived.Laws.NewBlocks
import Derived.Laws.StructEq
import Derived.Orders
import Derived.Tactics
namespace Go.Ab
open Go
theorem U.{u}{α:Sort u}{a:α}:a=a:=rfl
inductive Ty where
 |mk (kind:Int) (args:List Ty)
def Ty.kind:Ty->Int| .mk k _=>k
def Ty.args:Ty->List Ty| .mk _ as=>as
inductive Tm where
 |mk (kind index:Int) (ty:Ty) (args:List Tm)
def Tm.kind:Tm->Int| .mk k _ _ _=>k
def Tm.index:Tm->Int| .mk _ i _ _=>i
def Tm.ty:Tm->Ty| .mk _ _ t _=>t
def Tm.args:Tm->List Tm| .mk _ _ _ as=>as
inductive Vl where
 |mk (kind num:Int) (list:List Int) (args:List Vl)
def Vl.kind:Vl->Int| .mk k _ _ _=>k
def Vl.num:Vl->Int| .mk _ n _ _=>n
def Vl.list:Vl->List Int| .mk _ _ l _=>l
def Vl.args:Vl->List Vl| .mk _ _ _ as=>as
inductive Fm where
 |mk (kind:Int) (ty:Ty) (terms:List Tm) (args:List Fm)
def Fm.kind:Fm->Int| .mk k _ _ _=>k
def Fm.ty:Fm->Ty| .mk _ t _ _=>t
def Fm.terms:Fm->List Tm| .mk _ _ ts _=>ts
def Fm.args:Fm->List Fm| .mk _ _ _ as=>as
inductive Pf where
 |mk (kind index:Int) (ty:Ty) (terms:List Tm) (forms:List Fm) (args:List Pf)
def Pf.kind:Pf->Int| .mk k _ _ _ _ _=>k
def Pf.index:Pf->Int| .mk _ i _ _ _ _=>i
def Pf.ty:Pf->Ty| .mk _ _ t _ _ _=>t
def Pf.terms:Pf->List Tm| .mk _ _ _ ts _ _=>ts
def Pf.forms:Pf->List Fm| .mk _ _ _ _ fs _=>fs
def Pf.args:Pf->List Pf| .mk _ _ _ _ _ as=>as
structure Sq where
 types:List Ty
 hyps:List Fm
structure Gl where
 sq:Sq
 fm:Fm
structure St where
 kind:Int
 index:Int
 terms:List Tm
 forms:List Fm
structure Sz where
 ty:Ty
 nodes:Int
inductive Rsl where
 |mk (num:Int) (list:List Int) (pair:List Rsl) (body:Tm) (env:List Rsl)
def Rsl.num:Rsl->Int| .mk n _ _ _ _=>n
def Rsl.list:Rsl->List Int| .mk _ l _ _ _=>l
def Rsl.pair:Rsl->List Rsl| .mk _ _ p _ _=>p
def Rsl.body:Rsl->Tm| .mk _ _ _ b _=>b
def Rsl.env:Rsl->List Rsl| .mk _ _ _ _ e=>e
structure Tk where
 kind:Int
 num:Int
 pos:Int
 text:ByteArray
inductive EC where
 |int|u8|str|ty|tm|vl|fm|pf|gl|st|sz|tk|tys|tms|bl|rs
 deriving DecidableEq
abbrev EC.sem:EC->Type
 | .int=>Int| .u8=>Int| .str=>ByteArray| .ty=>Ty| .tm=>Tm| .vl=>Vl| .fm=>Fm| .pf=>Pf| .gl=>Gl| .st=>St| .sz=>Sz| .tk=>Tk
 | .tys=>List Ty| .tms=>List Tm| .bl=>Bool| .rs=>Rsl
def EC.cells:EC->Nat
 | .int=>1| .u8=>1| .str=>1| .ty=>2| .tm=>5| .vl=>4| .fm=>5| .pf=>7| .gl=>7| .st=>4| .sz=>3| .tk=>4
 | .tys=>1| .tms=>1| .bl=>1| .rs=>9
inductive Sp where
 |any|full|nil|own (r:Nat)
inductive SL (V:Type) where
 |t (c:EC) (xs:List c.sem)
 |u (sz:Nat) (xs:List (List V))
inductive V where
 |int (k:IntKind) (n:Int)
 |bool (b:Bool)
 |str (s:ByteArray)
 |agg (cs:List V)
 |tup (vs:List V)
 |nil
 |slice (sp:Sp) (l:SL V)
 |addr (cs:List V)
 |ptr (n off:Nat)
 |arr (n len sz:Nat)
 |mp (n:Nat)
 |nilp
 |fn (f:Fn) (fi caps:List V)
 |nilf
 |raw (v:Value)
 |ifc (t:TypeId) (cs:List V)
instance:Inhabited V:=⟨.nilf⟩
abbrev V.i(n:Int):V:= .int .i64 n
abbrev V.s(c:EC)(xs:List c.sem):V:= .slice .any (.t c xs)
def Ty.view(t:Ty):List V:=[.i t.kind,.s .ty t.args]
def Tm.view(t:Tm):List V:=[.i t.kind,.i t.index,.i t.ty.kind,.s .ty t.ty.args,.s .tm t.args]
def Vl.view(v:Vl):List V:=[.i v.kind,.i v.num,.s .int v.list,.s .vl v.args]
def Fm.view(f:Fm):List V:=[.i f.kind,.i f.ty.kind,.s .ty f.ty.args,.s .tm f.terms,.s .fm f.args]
def Pf.view(p:Pf):List V:=[.i p.kind,.i p.index,.i p.ty.kind,.s .ty p.ty.args,.s .tm p.terms,.s .fm p.forms,.s .pf p.args]
def Gl.view(g:Gl):List V:=[.s .ty g.sq.types,.s .fm g.sq.hyps,.i g.fm.kind,.i g.fm.ty.kind,.s .ty g.fm.ty.args,.s .tm g.fm.terms,.s .fm g.fm.args]
def St.view(s:St):List V:=[.i s.kind,.i s.index,.s .tm s.terms,.s .fm s.forms]
def Sz.view(s:Sz):List V:=[.i s.ty.kind,.s .ty s.ty.args,.i s.nodes]
def Tk.view(t:Tk):List V:=[.i t.kind,.i t.num,.i t.pos,.str t.text]
def Rsl.view(r:Rsl):List V:=[.i r.num,.s .int r.list,.s .rs r.pair,.i r.body.kind,.i r.body.index,.i r.body.ty.kind,.s .ty r.body.ty.args,.s .tm r.body.args,.s .rs r.env]
def EC.view:(c:EC)->c.sem->List V
 | .int,n=>[.i n]| .u8,n=>[.int .u8 n]| .str,s=>[.str s]| .ty,t=>Ty.view t| .tm,t=>Tm.view t| .vl,v=>Vl.view v| .fm,f=>Fm.view f| .pf,p=>Pf.view p
 | .gl,g=>Gl.view g| .st,s=>St.view s| .sz,s=>Sz.view s| .tk,t=>Tk.view t
 | .tys,l=>[.s .ty l]| .tms,l=>[.s .tm l]| .bl,b=>[.bool b]| .rs,r=>Rsl.view r
theorem EC.view_len(c:EC)(x:c.sem):(c.view x).length=c.cells:=by cases c<;>rfl
def Zgm(c:EC)(x:c.sem):V:=match c.view x with|[v]=>v|cs=> .agg cs
def EC.fold:(c:EC)->List V->Option c.sem
 | .int,[.int .i64 n]=>some n
 | .u8,[.int .u8 n]=>some n
 | .str,[.str s]=>some s
 | .ty,[.int .i64 k,.slice _ (.t .ty as)]=>some (Ty.mk k as)
 | .tm,[.int .i64 k,.int .i64 i,.int .i64 hk,.slice _ (.t .ty hs),.slice _ (.t .tm as)]=>some (Tm.mk k i (.mk hk hs) as)
 | .vl,[.int .i64 k,.int .i64 n,.slice _ (.t .int l),.slice _ (.t .vl as)]=>some (Vl.mk k n l as)
 | .fm,[.int .i64 k,.int .i64 hk,.slice _ (.t .ty hs),.slice _ (.t .tm ts),.slice _ (.t .fm as)]=>some (Fm.mk k (.mk hk hs) ts as)
 | .pf,[.int .i64 k,.int .i64 i,.int .i64 hk,.slice _ (.t .ty hs),.slice _ (.t .tm ts),.slice _ (.t .fm fs),.slice _ (.t .pf as)]=>some (Pf.mk k i (.mk hk hs) ts fs as)
 | .gl,[.slice _ (.t .ty ts),.slice _ (.t .fm fs),.int .i64 k,.int .i64 hk,.slice _ (.t .ty hs),.slice _ (.t .tm us),.slice _ (.t .fm as)]=>some ⟨⟨ts,fs⟩,Fm.mk k (.mk hk hs) us as⟩
 | .st,[.int .i64 k,.int .i64 i,.slice _ (.t .tm ts),.slice _ (.t .fm fs)]=>some ⟨k,i,ts,fs⟩
 | .sz,[.int .i64 k,.slice _ (.t .ty as),.int .i64 n]=>some ⟨Ty.mk k as,n⟩
 | .tk,[.int .i64 k,.int .i64 n,.int .i64 p,.str s]=>some ⟨k,n,p,s⟩
 | .tys,[.slice _ (.t .ty l)]=>some l
 | .tms,[.slice _ (.t .tm l)]=>some l
 | .bl,[.bool b]=>some b
 | .rs,[.int .i64 n,.slice _ (.t .int l),.slice _ (.t .rs ps),.int .i64 k,.int .i64 i,.int .i64 hk,.slice _ (.t .ty hs),.slice _ (.t .tm as),.slice _ (.t .rs es)]=>some (Rsl.mk n l ps (Tm.mk k i (.mk hk hs) as) es)
 |_,_=>none
def V.weak:V->V
 | .slice _ l=> .slice .any l
 |v=>v
theorem EC.fold_view(c:EC)(cs:List V)(x:c.sem)(h:c.fold cs=some x):c.view x=cs.map V.weak:=by
 unfold EC.fold at h;split at h<;>first|(cases h;rfl)|cases h
def SL.len{V:Type}:SL V->Nat| .t _ xs=>xs.length| .u _ xs=>xs.length
def SL.cells{V:Type}:SL V->Nat| .t c _=>c.cells| .u s _=>s
def SL.get(l:SL V)(i:Nat):Option (List V):=match l with| .t c xs=>(xs[i]?).map c.view| .u _ xs=>xs[i]?
end Go.Ab
namespace Go.Ab
open Go
set_option linter.unusedSimpArgs false
set_option linter.unusedVariables false
structure RowG where
 b:Nat
 len:Nat
 cap:Nat
 sz:Nat
 off:Nat
structure Gh where
 blk:Nat->Nat
 row:Nat->Option RowG
 m:Nat->Nat
inductive DRel (m:Nat->Nat) (w:World):Value->V->Prop
 |int (k n):DRel m w (.int k n) (.int k n)
 |bool (b):DRel m w (.bool b) (.bool b)
 |str (s):DRel m w (.string s) (.str s)
 |nilS (l:SL V) (h:l.len=0):DRel m w (.slice none 0 0) (.slice .any l)
 |emp (l:SL V) (h:l.len=0) (a:Addr) (cap:Nat):DRel m w (.slice (some a) 0 cap) (.slice .any l)
 |slice (l:SL V) (b off cap:Nat) (f:Nat->Nat->Value) (hm:off+l.len*l.cells<=m b) (hcap:l.len<=cap)
  (hl:∀i,i<l.len->∃cs,l.get i=some cs/\cs.length=l.cells)
  (hc:∀i j,i<l.len->j<l.cells->w.cell? ⟨b,off+(i*l.cells+j),none⟩=some (f i j))
  (hr:∀i j cs c,i<l.len->l.get i=some cs->cs[j]? =some c->DRel m w (f i j) c):
  DRel m w (.slice (some ⟨b,off,none⟩) l.len cap) (.slice .any l)
 |ifc (t:TypeId) (vs:List Value) (cs:List V) (hl:vs.length=cs.length) (h1:∀v∈vs,v.oneCell'=true)
  (h:∀(i:Nat) v c,vs[i]? =some v->cs[i]? =some c->DRel m w v c):DRel m w (.iface t (.agg vs.toArray)) (.ifc t cs)
def Ydk:Option RowG->Nat->Nat->Value->Prop
 |none,n,_,v=>(v= .slice none 0 0\/∃a,v= .slice (some a) 0 0)/\n=0
 |some ρ,n,sz,v=>v= .slice (some ⟨ρ.b,ρ.off,none⟩) ρ.len ρ.cap/\n=ρ.len/\sz=ρ.sz
inductive VRel (g:Gh) (D:Nat->Prop) (w:World):Value->V->Prop
 |data {v c} (h:DRel g.m w v c):VRel g D w v c
 |agg (vs:List Value) (cs:List V) (hl:vs.length=cs.length) (h1:∀v∈vs,v.oneCell'=true)
  (h:∀(i:Nat) v c,vs[i]? =some v->cs[i]? =some c->VRel g D w v c):VRel g D w (.agg vs.toArray) (.agg cs)
 |tup (vs:List Value) (cs:List V) (hl:vs.length=cs.length)
  (h:∀(i:Nat) v c,vs[i]? =some v->cs[i]? =some c->VRel g D w v c):VRel g D w (.tuple vs.toArray) (.tup cs)
 |nil:VRel g D w (.slice none 0 0) .nil
 |fullNil (l:SL V) (h:l.len=0):VRel g D w (.slice none 0 0) (.slice .full l)
 |nilS (l:SL V) (h:l.len=0):VRel g D w (.slice none 0 0) (.slice .nil l)
 |full (a:Addr) (n:Nat) (l:SL V) (h:DRel g.m w (.slice (some a) n n) (.slice .any l)):VRel g D w (.slice (some a) n n) (.slice .full l)
 |own (r:Nat) (hr:D r) (v:Value) (l:SL V) (h:Ydk (g.row r) l.len l.cells v) (hd:DRel g.m w v (.slice .any l)):VRel g D w v (.slice (.own r) l)
 |addr (b off:Nat) (cs:List V) (f:Nat->Value) (hm:off+cs.length<=g.m b)
  (hc:∀j,j<cs.length->w.cell? ⟨b,off+j,none⟩=some (f j)) (hr:∀(j:Nat) c,cs[j]? =some c->DRel g.m w (f j) c):
  VRel g D w (.pointer (some ⟨b,off,none⟩)) (.addr cs)
 |ptr (n off:Nat) (hn:D n):VRel g D w (.pointer (some ⟨g.blk n,off,none⟩)) (.ptr n off)
 |arr (n len sz cap:Nat) (hn:D n) (hcap:len<=cap) (hrow:g.row n=some ⟨g.blk n,0,cap,sz,0⟩):VRel g D w (.slice (some ⟨g.blk n,0,none⟩) len cap) (.arr n len sz)
 |mp (n:Nat) (hn:D n):VRel g D w (.map (some (g.blk n))) (.mp n)
 |nilp:VRel g D w (.pointer none) .nilp
 |fn (f:Fn) (fi caps:List Value) (fi' caps':List V) (hl:fi.length=fi'.length) (hl':caps.length=caps'.length)
  (h:∀(i:Nat) v c,fi[i]? =some v->fi'[i]? =some c->VRel g D w v c)
  (h':∀(i:Nat) v c,caps[i]? =some v->caps'[i]? =some c->VRel g D w v c):VRel g D w (.func f fi.toArray caps.toArray) (.fn f fi' caps')
 |nilf:VRel g D w .nilFunc .nilf
 |raw (v:Value):VRel g D w v (.raw v)
inductive Ent where
 |var (cs:List V)
 |map (c:EC) (ks:List Int) (xs:List c.sem)
 |row
 |gone
abbrev Es:=List (Nat×Ent)
def zm:Es->Nat->Option Ent
 |[],_=>none
 |p::l,n=>bif Nat.beq p.1 n then some p.2 else zm l n
theorem Zru{n n':Nat}(h:¬n=n'):Nat.beq n n'=false:=by
 cases hb:Nat.beq n n'<;>simp_all
theorem zq(m:Nat)(e:Ent)(es:Es)(n:Nat):zm ((m,e)::es) n=if m=n then some e else zm es n:=by
 show(bif Nat.beq m n then some e else zm es n)=_;simp
def Ent.foot(g:Gh)(n:Nat):Ent->Option Nat
 | .var _=>some (g.blk n)
 | .map _ _ _=>some (g.blk n)
 | .row=>(g.row n).map RowG.b
 | .gone=>none
def Foot(g:Gh)(es:Es)(b:Nat):Prop:=∃n e,zm es n=some e/\e.foot g n=some b
def Born(es:List MapEntry)(clock:Nat):Prop:=(∀x∈es,x.born<clock)/\(es.map (·.born)).Nodup
def ERel(g:Gh)(D:Nat->Prop)(w:World)(n:Nat):Ent->Prop
 | .var cs=>g.m (g.blk n)=0/\∃(vs:List Value) (t:TypeId),w.heap[g.blk n]? =some (.cells vs.toArray t (0,0))/\cs.length<=vs.length/\
  (∀v∈vs,v.oneCell'=true)/\(∀(i:Nat) v c,vs[i]? =some v->cs[i]? =some c->VRel g D w v c)/\∀ρ,g.row n=some ρ->vs.length=ρ.cap*ρ.sz
 | .map c ks xs=>g.m (g.blk n)=0/\∃(es:List MapEntry) (clock:Nat),w.heap[g.blk n]? =some (.map es.toArray clock)/\(es.length=xs.length/\Born es clock)/\ks.length=xs.length/\
  (∀(i:Nat) e k,es[i]? =some e->ks[i]? =some k->e.key= .int .i64 k)/\∀(i:Nat) e x,es[i]? =some e->xs[i]? =some x->VRel g D w e.val (Zgm c x)
 | .row=>∀ρ,g.row n=some ρ->∃(cur:Array Value) (t:TypeId),w.heap[ρ.b]? =some (.cells cur t (0,0))/\cur.size=ρ.off+ρ.cap*ρ.sz/\g.m ρ.b=ρ.off+ρ.len*ρ.sz/\ρ.len<=ρ.cap
 | .gone=>True
abbrev Zfn:=List (Nat×List V)
structure R (G:Zfn) (g:Gh) (D:Nat->Prop) (es:Es) (w:World):Prop where
 lt:∀n e,zm es n=some e->D n
 foots:∀n n' e e' b,zm es n=some e->zm es n'=some e'->e.foot g n=some b->e'.foot g n'=some b->n=n'
 ents:∀n e,zm es n=some e->ERel g D w n e
 fresh:∀b,w.heap.size<=b->g.m b=0
 glob:∀p∈G,p.2.length<=g.m p.1/\∀(j:Nat) c,p.2[j]? =some c->∃v,w.cell? ⟨p.1,j,none⟩=some v/\DRel g.m w v c
structure Ext (D:Nat->Prop) (g:Gh) (F:Nat->Prop) (w:World) (g':Gh) (F':Nat->Prop) (w':World):Prop where
 os:w'.os=w.os
 tape:w'.tape=w.tape
 output:w'.output=w.output
 size:w.heap.size<=w'.heap.size
 cells:∀b o,o<g.m b->w'.cell? ⟨b,o,none⟩=w.cell? ⟨b,o,none⟩
 mark:∀b,g.m b<=g'.m b
 blk:∀n,D n->g'.blk n=g.blk n
 row:∀n,D n->g'.row n=g.row n
 frame:∀b,b<w.heap.size->¬F b->w'.heap[b]? =w.heap[b]? /\g'.m b=g.m b
 newf:∀b,F' b->F b\/w.heap.size<=b
theorem Ext.refl(D:Nat->Prop)(g:Gh)(F:Nat->Prop)(w:World):Ext D g F w g F w:=
 ⟨rfl,rfl,rfl,Nat.le_refl _,fun _ _ _=>rfl,fun _=>Nat.le_refl _,fun _ _=>rfl,fun _ _=>rfl,fun _ _ _=>⟨rfl,rfl⟩,fun _ h=> .inl h⟩
theorem Ext.trans{D:Nat->Prop}{g g' g'':Gh}{F F' F'':Nat->Prop}{w w' w'':World}(h:Ext D g F w g' F' w')(h':Ext D g' F' w' g'' F'' w''):Ext D g F w g'' F'' w'' where
 os:=h'.os.trans h.os
 tape:=h'.tape.trans h.tape
 output:=h'.output.trans h.output
 size:=Nat.le_trans h.size h'.size
 cells b o ho:=(h'.cells b o (Nat.lt_of_lt_of_le ho (h.mark b))).trans (h.cells b o ho)
 mark b:=Nat.le_trans (h.mark b) (h'.mark b)
 blk n hn:=(h'.blk n hn).trans (h.blk n hn)
 row n hn:=(h'.row n hn).trans (h.row n hn)
 frame b hb hF:=by
  have h1:=h.frame b hb hF;have h2:=h'.frame b (Nat.lt_of_lt_of_le hb h.size) (fun hm=>by
   rcases h.newf b hm with hf|hf;all_goals grind)
  grind
 newf b hb:=by
  rcases h'.newf b hb with hf|hf
  ·exact h.newf b hf
  ·exact .inr (Nat.le_trans h.size hf)
theorem Ext.mono{D D':Nat->Prop}{g g':Gh}{F F':Nat->Prop}{w w':World}(h:Ext D g F w g' F' w')(hk:∀n,D' n->D n):Ext D' g F w g' F' w':=
 {h with blk:=fun n hn=>h.blk n (hk n hn),row:=fun n hn=>h.row n (hk n hn)}
theorem Ext.wider{D:Nat->Prop}{g g':Gh}{F F' F1 F1':Nat->Prop}{w w':World}(h:Ext D g F w g' F' w')(hF:∀b,F b->F1 b)(hF':∀b,F1' b->F' b\/F1 b):Ext D g F1 w g' F1' w':=
 {h with
  frame:=fun b hb hn=>h.frame b hb (fun hm=>hn (hF b hm))
  newf:=fun b hb=>by
   rcases hF' b hb with h1|h1
   ·exact (h.newf b h1).imp (hF b) id
   grind}
theorem Zio{i n j c:Nat}(hi:i<n)(hj:j<c):i*c+j<n*c:=
 calc i*c+j<i*c+c:=by omega
  _=(i+1)*c:=by grind
  _<=n*c:=Nat.mul_le_mul_right _ hi
theorem DRel.mono{m m':Nat->Nat}{w w':World}{v:Value}{c:V}(h:DRel m w v c)(hm:∀b,m b<=m' b)
 (hw:∀b o,o<m b->w'.cell? ⟨b,o,none⟩=w.cell? ⟨b,o,none⟩):DRel m' w' v c:=by
 induction h with
 |int k n=>exact .int k n
 |bool b=>exact .bool b
 |str s=>exact .str s
 |nilS l h=>exact .nilS l h
 |emp l h a cap=>exact .emp l h a cap
 |slice l b off cap f hm1 hcap hl hc _ ih=>
  exact .slice l b off cap f (Nat.le_trans hm1 (hm b)) hcap hl
   (fun i j hi hj=>(hw b _ (by have:=Zio hi hj;omega)).trans (hc i j hi hj)) ih
 |ifc t vs cs hl h1 _ ih=>exact .ifc t vs cs hl h1 ih
theorem VRel.mono{g g':Gh}{D D':Nat->Prop}{w w':World}{v:Value}{c:V}(h:VRel g D w v c)(hm:∀b,g.m b<=g'.m b)
 (hw:∀b o,o<g.m b->w'.cell? ⟨b,o,none⟩=w.cell? ⟨b,o,none⟩) (hn:∀n,D n->D' n) (hb:∀n,D n->g'.blk n=g.blk n)
 (hr:∀n,D n->g'.row n=g.row n):VRel g' D' w' v c:=by
 induction h with
 |data h=>exact .data (h.mono hm hw)
 |agg vs cs hl h1 _ ih=>exact .agg vs cs hl h1 ih
 |tup vs cs hl _ ih=>exact .tup vs cs hl ih
 |nil=>exact .nil
 |fullNil l h=>exact .fullNil l h
 |nilS l h=>exact .nilS l h
 |full a n l h=>exact .full a n l (h.mono hm hw)
 |own r hr' v l h hd=>exact .own r (hn r hr') v l (by grind) (hd.mono hm hw)
 |addr b off cs f h1 hc h2=>
  exact .addr b off cs f (Nat.le_trans h1 (hm b)) (fun j hj=>(hw b _ (by omega)).trans (hc j hj)) (fun j c hj=>(h2 j c hj).mono hm hw)
 |ptr n off h=>rw[<-hb n h];exact .ptr n off (hn n h)
 |arr n len sz cap h hc hr'=>rw[<-hb n h];exact .arr n len sz cap (hn n h) hc (by grind)
 |mp n h=>rw[<-hb n h];exact .mp n (hn n h)
 |nilp=>exact .nilp
 |fn f fi caps fi' caps' hl hl' _ _ ih ih'=>exact .fn f fi caps fi' caps' hl hl' ih ih'
 |nilf=>exact .nilf
 |raw v=>exact .raw v
theorem VRel.ext{D D':Nat->Prop}{g g':Gh}{F F':Nat->Prop}{w w':World}{v:Value}{c:V}(h:VRel g D w v c)(e:Ext D g F w g' F' w')(hn:∀n,D n->D' n):VRel g' D' w' v c:=
 h.mono e.mark e.cells hn e.blk e.row
def Zet:List (Option Nat)->Nat->Option (Option Nat)
 |[],_=>none
 |x::_,0=>some x
 |_::l,n+1=>Zet l n
theorem Zac{ρ:List (Option Nat)}:∀{n x},Zet ρ n=some x->n<ρ.length:=by
 induction ρ with
 |nil=>intro n x h;cases h
 |cons y l ih=>
  intro n x h;cases n with
  |zero=>simp
  |succ n=>have:=ih h;grind
def Zbx(ρ:List (Option Nat))(n:Nat):Option Nat:=match Zet ρ n with|some (some m)=>some m|_=>none
theorem ur{ρ:List (Option Nat)}{n m:Nat}(h:Zbx ρ n=some m):Zet ρ n=some (some m):=by
 unfold Zbx at h;grind
mutual
def vo(ρ:List (Option Nat)):V->Option V
 | .int k n=>some (.int k n)
 | .bool b=>some (.bool b)
 | .str s=>some (.str s)
 | .agg cs=>(w7 ρ cs).map .agg
 | .tup cs=>(w7 ρ cs).map .tup
 | .nil=>some .nil
 | .slice sp l=>match sp with
   | .any=>some (.slice .any l)
   | .full=>some (.slice .full l)
   | .nil=>some (.slice .nil l)
   | .own r=>match Zet ρ r with
     |some (some r')=>some (.slice (.own r') l)
     |some none=>some (.slice .nil l)
     |none=>none
 | .addr cs=>some (.addr cs)
 | .ptr n off=>(Zbx ρ n).map fun n'=> .ptr n' off
 | .arr n len sz=>(Zbx ρ n).map fun n'=> .arr n' len sz
 | .mp n=>(Zbx ρ n).map .mp
 | .nilp=>some .nilp
 | .fn f fi caps=>(w7 ρ fi).bind fun fi'=>(w7 ρ caps).map fun caps'=> .fn f fi' caps'
 | .nilf=>some .nilf
 | .raw v=>some (.raw v)
 | .ifc t cs=>some (.ifc t cs)
def w7(ρ:List (Option Nat)):List V->Option (List V)
 |[]=>some []
 |c::cs=>(vo ρ c).bind fun c'=>(w7 ρ cs).map fun cs'=>c'::cs'
end
theorem Zdd{w:World}{b:Nat}{vs:Array Value}{t:TypeId}{fr:Nat×Nat}(h:w.heap[b]? =some (.cells vs t fr))(j:Nat):w.cell? ⟨b,j,none⟩=vs[j]? :=
 cell_of_row w b j vs t fr h
theorem yv{ρ:List (Option Nat)}:∀{cs' cs:List V},w7 ρ cs'=some cs->cs'.length=cs.length:=by
 intro cs';induction cs' with
 |nil=>intro cs h;simp[w7] at h;grind
 |cons c l ih=>
  intro cs h;simp only[w7,Option.bind_eq_some_iff,Option.map_eq_some_iff] at h
  grind
theorem vb{ρ:List (Option Nat)}:∀{cs' cs:List V},w7 ρ cs'=some cs->∀(i:Nat) c' c,cs'[i]? =some c'->cs[i]? =some c->vo ρ c'=some c:=by
 intro cs';induction cs' with
 |nil=>simp
 |cons x l ih=>
  intro cs h i c' c h1 h2;simp only[w7,Option.bind_eq_some_iff,Option.map_eq_some_iff] at h
  grind
theorem getElem?_of_len{α β:Type}{l:List α}{l':List β}(h:l.length=l'.length){i:Nat}{x:α}(hx:l[i]? =some x):∃y,l'[i]? =some y:=by
 have:=(List.getElem?_eq_some_iff.1 hx).1;simp_all
theorem Zld{ρ:List (Option Nat)}{sp:Sp}{l:SL V}{c:V}(h:vo ρ (.slice sp l)=some c):
 (sp= .any/\c= .slice .any l)\/(sp= .full/\c= .slice .full l)\/(sp= .nil/\c= .slice .nil l)\/
 (∃r r',sp= .own r/\Zet ρ r=some (some r')/\c= .slice (.own r') l)\/(∃r,sp= .own r/\Zet ρ r=some none/\c= .slice .nil l):=by
 cases sp with
 |any=>simp only[vo,Option.some.injEq] at h;grind
 |full=>simp only[vo,Option.some.injEq] at h;grind
 |nil=>simp only[vo,Option.some.injEq] at h;grind
 |own r=>
  simp only[vo] at h
  grind
theorem VRel.unren{ρ:List (Option Nat)}{g g2:Gh}{D:Nat->Prop}{w:World}{v:Value}{c:V}(h:VRel g D w v c)(hm:g2.m=g.m)
 (hb:∀n n',Zbx ρ n=some n'->g2.blk n=g.blk n') (hr:∀n n',Zbx ρ n=some n'->g2.row n=g.row n') (hn:∀n,Zet ρ n=some none->g2.row n=none):
 ∀c',vo ρ c'=some c->VRel g2 (·<ρ.length) w v c':=by
 have hlt:∀{n n'},Zbx ρ n=some n'->n<ρ.length:=fun {n n'} h=>Zac (ur h);have hs:∀{v c},VRel g D w v c->∀sp l,vo ρ (.slice sp l)=some c->VRel g2 (·<ρ.length) w v (.slice sp l):=by
  intro v c h sp l hc;rcases Zld hc with⟨rfl,rfl⟩|⟨rfl,rfl⟩|⟨rfl,rfl⟩|⟨r,r',rfl,h2,rfl⟩|⟨r,rfl,h2,rfl⟩
  ·cases h with|data h=>exact .data (hm▸h)
  ·cases h with
   |data h=>cases h
   |fullNil _ h=>exact .fullNil _ h
   |full a n _ h=>exact .full a n _ (hm▸h)
  ·cases h with
   |data h=>cases h
   |nilS _ h=>exact .nilS _ h
  ·cases h with
   |data h=>cases h
   |own _ hr' _ _ h hd=>
    refine VRel.own (D:=fun x=>x<ρ.length) r (Zac h2) v _ ?_ (hm▸hd);rw[hr r r' (by simp[Zbx,h2])];exact h
  ·cases h with
   |data h=>cases h
   |nilS _ h=>
    refine VRel.own (D:=fun x=>x<ρ.length) r (Zac h2) _ _ ?_ (.nilS _ h);rw[hn r h2];exact⟨.inl rfl,h⟩
 induction h with
 |data h=>
  intro c' hc;have hd:=h;cases h<;>cases c';all_goals first
   |exact hs (.data hd) _ _ hc
   |(simp only[vo,Option.map_eq_some_iff,Option.bind_eq_some_iff,Option.some.injEq,reduceCtorEq,and_false,exists_false,exists_const,false_and] at hc;done)
   |(simp only[vo,Option.map_eq_some_iff,Option.bind_eq_some_iff,Option.some.injEq,reduceCtorEq,and_false,exists_false,exists_const,false_and] at hc;cases hc;exact .data (hm▸hd))
 |agg vs cs hl h1 h ih=>
  intro c' hc;cases c';case slice sp l'=>exact hs (.agg vs cs hl h1 h) sp l' hc
  all_goals simp only[vo,Option.map_eq_some_iff,Option.bind_eq_some_iff,Option.some.injEq,reduceCtorEq,and_false,exists_false,exists_const,false_and,V.agg.injEq,exists_eq_right] at hc
  case agg cs'=>
   have hll:=yv hc;refine .agg vs cs' (by omega) h1 fun i v c' hv hc'=> ?_;obtain⟨y,hy⟩:=getElem?_of_len hll hc';exact ih i v y hv hy c' (vb hc i c' y hc' hy)
 |tup vs cs hl h ih=>
  intro c' hc;cases c';case slice sp l'=>exact hs (.tup vs cs hl h) sp l' hc
  all_goals simp only[vo,Option.map_eq_some_iff,Option.bind_eq_some_iff,Option.some.injEq,reduceCtorEq,and_false,exists_false,exists_const,false_and,V.tup.injEq,exists_eq_right] at hc
  case tup cs'=>
   have hll:=yv hc;refine .tup vs cs' (by omega) fun i v c' hv hc'=> ?_;obtain⟨y,hy⟩:=getElem?_of_len hll hc';exact ih i v y hv hy c' (vb hc i c' y hc' hy)
 |nil=>
  intro c' hc;cases c';case slice sp l'=>exact hs (.nil) sp l' hc
  all_goals simp only[vo,Option.map_eq_some_iff,Option.bind_eq_some_iff,Option.some.injEq,reduceCtorEq,and_false,exists_false,exists_const,false_and] at hc
  case nil=>exact .nil
 |fullNil l h=>
  intro c' hc;cases c';case slice sp l'=>exact hs (.fullNil l h) sp l' hc
  all_goals simp only[vo,Option.map_eq_some_iff,Option.bind_eq_some_iff,Option.some.injEq,reduceCtorEq,and_false,exists_false,exists_const,false_and] at hc
 |nilS l h=>
  intro c' hc;cases c';case slice sp l'=>exact hs (.nilS l h) sp l' hc
  all_goals simp only[vo,Option.map_eq_some_iff,Option.bind_eq_some_iff,Option.some.injEq,reduceCtorEq,and_false,exists_false,exists_const,false_and] at hc
 |full a n l h=>
  intro c' hc;cases c';case slice sp l'=>exact hs (.full a n l h) sp l' hc
  all_goals simp only[vo,Option.map_eq_some_iff,Option.bind_eq_some_iff,Option.some.injEq,reduceCtorEq,and_false,exists_false,exists_const,false_and] at hc
 |own r hr' v l h hd=>
  intro c' hc;cases c';case slice sp l'=>exact hs (VRel.own r hr' v l h hd) sp l' hc
  all_goals simp only[vo,Option.map_eq_some_iff,Option.bind_eq_some_iff,Option.some.injEq,reduceCtorEq,and_false,exists_false,exists_const,false_and] at hc
 |addr b off cs f h1 hc1 h2=>
  intro c' hc;cases c';case slice sp l'=>exact hs (.addr b off cs f h1 hc1 h2) sp l' hc
  all_goals simp only[vo,Option.map_eq_some_iff,Option.bind_eq_some_iff,Option.some.injEq,reduceCtorEq,and_false,exists_false,exists_const,false_and,V.addr.injEq] at hc
  case addr cs'=>subst hc;exact .addr b off cs' f (by grind) hc1 (fun j c hj=>by grind)
 |ptr n off hn=>
  intro c' hc;cases c';case slice sp l'=>exact hs (.ptr n off hn) sp l' hc
  all_goals simp only[vo,Option.map_eq_some_iff,Option.bind_eq_some_iff,Option.some.injEq,reduceCtorEq,and_false,exists_false,exists_const,false_and,V.ptr.injEq] at hc
  case ptr n' off'=>
   obtain⟨x,hx,rfl,rfl⟩:=hc;rw[<-hb _ _ hx];exact .ptr _ _ (hlt hx)
 |arr n len sz cap hn hcap hrw=>
  intro c' hc;cases c';case slice sp l'=>exact hs (.arr n len sz cap hn hcap hrw) sp l' hc
  all_goals simp only[vo,Option.map_eq_some_iff,Option.bind_eq_some_iff,Option.some.injEq,reduceCtorEq,and_false,exists_false,exists_const,false_and,V.arr.injEq] at hc
  case arr n' len' sz'=>
   obtain⟨x,hx,rfl,rfl,rfl⟩:=hc;rw[<-hb _ _ hx];exact .arr _ _ _ _ (hlt hx) hcap (by grind)
 |mp n hn=>
  intro c' hc;cases c';case slice sp l'=>exact hs (.mp n hn) sp l' hc
  all_goals simp only[vo,Option.map_eq_some_iff,Option.bind_eq_some_iff,Option.some.injEq,reduceCtorEq,and_false,exists_false,exists_const,false_and,V.mp.injEq] at hc
  case mp n'=>
   obtain⟨x,hx,rfl⟩:=hc;rw[<-hb _ _ hx];exact .mp _ (hlt hx)
 |nilp=>
  intro c' hc;cases c';case slice sp l'=>exact hs (.nilp) sp l' hc
  all_goals simp only[vo,Option.map_eq_some_iff,Option.bind_eq_some_iff,Option.some.injEq,reduceCtorEq,and_false,exists_false,exists_const,false_and] at hc
  case nilp=>exact .nilp
 |fn f fi caps fi' caps' hl hl' h h' ih ih'=>
  intro c' hc;cases c';case slice sp l'=>exact hs (VRel.fn f fi caps fi' caps' hl hl' h h') sp l' hc
  all_goals simp only[vo,Option.map_eq_some_iff,Option.bind_eq_some_iff,Option.some.injEq,reduceCtorEq,and_false,exists_false,exists_const,false_and,V.fn.injEq] at hc
  case fn f1 fi1 caps1=>
   obtain⟨x,hx,y,hy,rfl,rfl,rfl⟩:=hc;have l1:=yv hx;have l2:=yv hy;refine .fn f1 fi caps fi1 caps1 (by omega) (by omega) (fun i v c' hv hc'=> ?_) (fun i v c' hv hc'=> ?_)
   ·obtain ⟨z,hz⟩:=getElem?_of_len l1 hc';exact ih i v z hv hz c' (vb hx i c' z hc' hz)
   ·obtain ⟨z,hz⟩:=getElem?_of_len l2 hc';exact ih' i v z hv hz c' (vb hy i c' z hc' hz)
 |nilf=>
  intro c' hc;cases c';case slice sp l'=>exact hs (.nilf) sp l' hc
  all_goals simp only[vo,Option.map_eq_some_iff,Option.bind_eq_some_iff,Option.some.injEq,reduceCtorEq,and_false,exists_false,exists_const,false_and] at hc
  case nilf=>exact .nilf
 |raw v=>
  intro c' hc;cases c';case slice sp l'=>exact hs (.raw v) sp l' hc
  all_goals simp only[vo,Option.map_eq_some_iff,Option.bind_eq_some_iff,Option.some.injEq,reduceCtorEq,and_false,exists_false,exists_const,false_and,V.raw.injEq] at hc
  case raw v'=>subst hc;exact .raw _
theorem VRel.ren{ρ:List (Option Nat)}{g g2:Gh}{D D2:Nat->Prop}{w:World}{v:Value}{c':V}(h:VRel g2 D2 w v c')(hm:g2.m=g.m)
 (hb:∀n n',Zbx ρ n=some n'->g2.blk n=g.blk n'/\D n') (hr:∀n n',Zbx ρ n=some n'->g2.row n=g.row n') (hall:∀n,Zet ρ n≠some none):
 ∀c,vo ρ c'=some c->VRel g D w v c:=by
 induction h with
 |data h=>
  intro c hc;have hd:=h;cases h<;>simp only[vo,Option.some.injEq] at hc<;>subst hc<;>exact .data (hm▸hd)
 |agg vs cs hl h1 _ ih=>
  intro c hc;simp only[vo,Option.map_eq_some_iff] at hc;obtain⟨cs2,hc,rfl⟩:=hc;have hll:=yv hc;refine .agg vs cs2 (by omega) h1 fun i v c hv hc'=> ?_;obtain⟨y,hy⟩:=getElem?_of_len hll.symm hc';exact ih i v y hv hy c (vb hc i y c hy hc')
 |tup vs cs hl _ ih=>
  intro c hc;simp only[vo,Option.map_eq_some_iff] at hc;obtain⟨cs2,hc,rfl⟩:=hc;have hll:=yv hc;refine .tup vs cs2 (by omega) fun i v c hv hc'=> ?_;obtain⟨y,hy⟩:=getElem?_of_len hll.symm hc';exact ih i v y hv hy c (vb hc i y c hy hc')
 |nil=>intro c hc;simp only[vo,Option.some.injEq] at hc;subst hc;exact .nil
 |fullNil l h=>intro c hc;simp only[vo,Option.some.injEq] at hc;subst hc;exact .fullNil l h
 |nilS l h=>intro c hc;simp only[vo,Option.some.injEq] at hc;subst hc;exact .nilS l h
 |full a n l h=>intro c hc;simp only[vo,Option.some.injEq] at hc;subst hc;exact .full a n l (hm▸h)
 |own r hr' v l h hd=>
  intro c hc;rcases Zld hc with⟨h1,_⟩|⟨h1,_⟩|⟨h1,_⟩|⟨r1,r',h1,h2,rfl⟩|⟨r1,h1,h2,rfl⟩
  ·cases h1
  ·cases h1
  ·cases h1
  ·cases h1;have hx:Zbx ρ r=some r':=by simp[Zbx,h2]
   exact .own _ (hb _ _ hx).2 v l (by grind) (hm▸hd)
  grind
 |addr b off cs f h1 hc1 h2=>
  intro c hc;simp only[vo,Option.some.injEq] at hc;subst hc;exact .addr b off cs f (by grind) hc1 (fun j c hj=>by grind)
 |ptr n off hn=>
  intro c hc;simp only[vo,Option.map_eq_some_iff] at hc;obtain⟨x,hx,rfl⟩:=hc;rw[(hb _ _ hx).1];exact .ptr _ _ (hb _ _ hx).2
 |arr n len sz cap hn hcap hrw=>
  intro c hc;simp only[vo,Option.map_eq_some_iff] at hc;obtain⟨x,hx,rfl⟩:=hc;rw[(hb _ _ hx).1];exact .arr _ _ _ _ (hb _ _ hx).2 hcap (by grind)
 |mp n hn=>
  intro c hc;simp only[vo,Option.map_eq_some_iff] at hc;obtain⟨x,hx,rfl⟩:=hc;rw[(hb _ _ hx).1];exact .mp _ (hb _ _ hx).2
 |nilp=>intro c hc;simp only[vo,Option.some.injEq] at hc;subst hc;exact .nilp
 |fn f fi caps fi' caps' hl hl' _ _ ih ih'=>
  intro c hc;simp only[vo,Option.bind_eq_some_iff,Option.map_eq_some_iff] at hc;obtain⟨x,hx,y,hy,rfl⟩:=hc;have l1:=yv hx;have l2:=yv hy;refine .fn f fi caps x y (by omega) (by omega) (fun i v c hv hc'=> ?_) (fun i v c hv hc'=> ?_)
  ·obtain ⟨z,hz⟩:=getElem?_of_len l1.symm hc';exact ih i v z hv hz c (vb hx i z c hz hc')
  ·obtain ⟨z,hz⟩:=getElem?_of_len l2.symm hc';exact ih' i v z hv hz c (vb hy i z c hz hc')
 |nilf=>intro c hc;simp only[vo,Option.some.injEq] at hc;subst hc;exact .nilf
 |raw v=>intro c hc;simp only[vo,Option.some.injEq] at hc;subst hc;exact .raw _
abbrev AF:=List (Nat×V)
def AF.get:AF->Nat->Option V
 |[],_=>none
 |p::l,n=>bif Nat.beq p.1 n then some p.2 else AF.get l n
def AF.put(a:AF)(d:Option Nat)(v:V):AF:=match d with|some d=>(d,v)::a|none=>a
theorem AF.get_cons(m:Nat)(e:V)(es:AF)(n:Nat):AF.get ((m,e)::es) n=if m=n then some e else AF.get es n:=by
 show(bif Nat.beq m n then some e else AF.get es n)=_;simp
inductive TD where
 |int (k:IntKind)|bool|str|other
 |strct (fs:List (Nat×Nat×Bool))
 |arr (n esz:Nat) (eagg:Bool)
 |slc (c:Option EC) (esz bytes:Nat)
structure TI where
 size:Nat
 zero:List V
 desc:TD
def Zjg:List Value->List V->Bool
 |[],[]=>true
 |v::vs,c::cs=>(match v,c with
  | .int k n,.int k' n'=>decide (k=k')&&decide (n=n')
  | .bool b,.bool b'=>decide (b=b')
  | .string s,.str s'=>decide (s=s')
  | .slice none 0 0,.slice .nil l=>Nat.beq l.len 0
  | .pointer none,.nilp=>true
  | .nilFunc,.nilf=>true
  | .map none,.raw (.map none)=>true
  | .nilIface,.raw .nilIface=>true
  |_,_=>false)&&Zjg vs cs
 |_,_=>false
def Yk9(P:Program)(t:TypeId):Option Bool:=
 match P.underlying t with
 |some (.struct _)|some (.array _ _)=>some true
 |some _=>some false
 |none=>none
def Zuq(P:Program)(t:TypeId)(n:Nat):Bool:=match P.info? t with|some i=>Nat.beq i.size n|none=>false
def Zbt(P:Program):List Field->List (Nat×Nat×Bool)->Bool
 |[],[]=>true
 |f::fs,g::gs=>Nat.beq f.offset g.1&&Zuq P f.type g.2.1&&Nat.blt 0 g.2.1&&(match Yk9 P f.type with|some b=>decide (b=g.2.2)|none=>false)&&Zbt P fs gs
 |_,_=>false
def Yhy(P:Program)(e:TypeId)(esz bytes:Nat):Bool:=
 match P.info? e with
 |some i=>Nat.beq i.size esz&&Nat.beq i.bytes bytes&&(match i.zero with|some z=>Nat.beq z.cells.size esz|none=>false)
 |none=>false
def Yku(c:Option EC)(sz:Nat):Bool:=match c with|some c=>Nat.beq c.cells sz|none=>true
def tiB(P:Program)(t:TypeId)(i:TI):Bool:=
 (match P.info? t with
  |some inf=>Nat.beq inf.size i.size&&(match inf.zero with|some z=>Zjg z.cells.toList i.zero|none=>false)
  |none=>false)&&
 (match P.underlying t,i.desc with
  |some (.int k),.int k'=>decide (k=k')
  |some .bool,.bool=>true
  |some .string,.str=>true
  |some (.struct fs),.strct gs=>Zbt P fs.toList gs
  |some (.array n e),.arr n' esz eagg=>Nat.beq n n'&&Zuq P e esz&&Nat.blt 0 esz&&(match Yk9 P e with|some b=>decide (b=eagg)|none=>false)
  |some (.slice e),.slc c esz bytes=>Yhy P e esz bytes&&Nat.blt 0 esz&&Yku c esz
  |some d,.other=>(match d with| .struct _| .array _ _| .slice _=>false|_=>true)
  |_,_=>false)
def Ycx:List (TypeId×TI)->TypeId->Option TI
 |[],_=>none
 |p::l,t=>bif Nat.beq p.1 t then some p.2 else Ycx l t
abbrev Ys:=List (Nat×Nat×List V)
def YOk(y:Ys)(g:Gh)(F:Nat->Prop)(w:World):Prop:=
 ∀p∈y,g.m p.1=0/\¬F p.1/\∃(vs:List Value) (t:TypeId),w.heap[p.1]? =some (.cells vs.toArray t (0,0))/\vs.length=p.2.1/\p.2.2.length<=p.2.1/\(∀v∈vs,v.oneCell'=true)/\
  ∀(i:Nat) v c,vs[i]? =some v->p.2.2[i]? =some c->VRel g (fun _=>False) w v c
theorem YOk.ext{y:Ys}{D:Nat->Prop}{g g':Gh}{F F':Nat->Prop}{w w':World}(h:YOk y g F w)(x:Ext D g F w g' F' w'):YOk y g' F' w':=by
 intro p hp;obtain⟨h1,h2,vs,t,h3,h4,h4',h5,h6⟩:=h p hp;have hb:p.1<w.heap.size:=(Array.getElem?_eq_some_iff.1 h3).1;obtain⟨h7,h8⟩:=x.frame p.1 hb h2;refine⟨h8.trans h1,fun hf=> ?_,vs,t,h7.trans h3,h4,h4',h5,fun i v c hv hc=>(h6 i v c hv hc).mono x.mark x.cells (fun _ h=>h) (fun _ h=>h.elim) (fun _ h=>h.elim)⟩;rcases x.newf _ hf with h9|h9;all_goals grind
theorem YOk.nil{g:Gh}{F:Nat->Prop}{w:World}:YOk [] g F w:=fun _ h=>by cases h
structure Env where
 P:Program
 G:Zfn
 tab:List (TypeId×TI)
 ok:tab.all (fun p=>tiB P p.1 p.2)=true
 Y:Ys
theorem YOk.none{y:Ys}(hy:y=[]){g:Gh}{F:Nat->Prop}{w:World}:YOk y g F w:=hy▸ .nil
def Env.ti(E:Env)(t:TypeId):Option TI:=Ycx E.tab t
theorem Zwo{l:List (TypeId×TI)}{t:TypeId}{i:TI}(h:Ycx l t=some i):(t,i)∈l:=by
 induction l with
 |nil=>cases h
 |cons p l ih=>
  simp only[Ycx] at h;cases hb:Nat.beq p.1 t<;>simp_all<;>grind
theorem Env.ti_ok{E:Env}{t:TypeId}{i:TI}(h:E.ti t=some i):tiB E.P t i=true:=
 List.all_eq_true.1 E.ok _ (Zwo h)
def za(E:Env)(T:TypeId):Value->V
 | .int k n=> .int k n
 | .bool b=> .bool b
 | .string s=> .str s
 | .slice none 0 0=>match E.ti T with
   |some ⟨_,_,.slc (some c) _ _⟩=> .slice .nil (.t c [])
   |some ⟨_,_,.slc none sz _⟩=> .slice .nil (.u sz [])
   |_=> .nil
 | .pointer none=> .nilp
 | .nilFunc=> .nilf
 |v=> .raw v
def Ya3:Zfn->Nat->Option (List V)
 |[],_=>none
 |p::l,n=>bif Nat.beq p.1 n then some p.2 else Ya3 l n
def ev(E:Env)(T:TypeId)(a:AF):Operand->Option V
 | .tmp t=>a.get t
 | .const v=>some (za E T v)
 | .global n=>(Ya3 E.G n).map .addr
 | .func f=>some (.fn (.func f) [] [])
structure FRel (g:Gh) (D:Nat->Prop) (w:World) (N:Nat) (act:Act) (a:AF):Prop where
 size:act.tmps.size=N
 defers:act.defers=[]
 vals:∀t c,a.get t=some c->∃v,act.tmps[t]? =some v/\VRel g D w v c
theorem FRel.ext{D D':Nat->Prop}{g g':Gh}{F F':Nat->Prop}{w w':World}{N:Nat}{act:Act}{a:AF}(h:FRel g D w N act a)(e:Ext D g F w g' F' w')(hn:∀n,D n->D' n):FRel g' D' w' N act a:=
 ⟨h.size,h.defers,fun t c hc=>let ⟨v,h1,h2⟩:=h.vals t c hc;⟨v,h1,h2.ext e hn⟩⟩
theorem FRel.put{g:Gh}{D:Nat->Prop}{w:World}{N:Nat}{act:Act}{a:AF}(h:FRel g D w N act a){d:Option Nat}(hd:∀t,d=some t->t<N){v:Value}{c:V}(hv:VRel g D w v c):
 FRel g D w N (act.put d v) (a.put d c):=by
 cases d with
 |none=>exact h
 |some d=>
  have hd:=hd d rfl;refine⟨by simp[Act.put,h.size],h.defers,fun t c' hc=> ?_⟩;simp only[AF.put,AF.get_cons] at hc;by_cases ht:d=t
  ·subst ht;simp only[if_true,Option.some.injEq] at hc;subst hc;refine⟨v,?_,hv⟩;simp[Act.put,Array.getElem?_setIfInBounds,h.size,hd]
  ·simp only[ht,if_false] at hc;obtain⟨v',h1,h2⟩:=h.vals t c' hc;exact⟨v',by simp[Act.put,Array.getElem?_setIfInBounds,ht,h1],h2⟩
theorem Zuu(E:Env)(T:TypeId)(v:Value)(g:Gh)(D:Nat->Prop)(w:World):VRel g D w v (za E T v):=by
 unfold za;split
 ·exact .data (.int _ _)
 ·exact .data (.bool _)
 ·exact .data (.str _)
 ·split
  ·exact .nilS _ rfl
  ·exact .nilS _ rfl
  ·exact .nil
 ·exact .nilp
 ·exact .nilf
 ·exact .raw _
theorem Zzj{l:Zfn}{t:Nat}{i:List V}(h:Ya3 l t=some i):(t,i)∈l:=by
 induction l with
 |nil=>cases h
 |cons p l ih=>
  simp only[Ya3] at h;cases hb:Nat.beq p.1 t<;>simp_all<;>grind
theorem z6{E:Env}{T:TypeId}{a:AF}{x:Operand}{c:V}(h:ev E T a x=some c){g:Gh}{D:Nat->Prop}{es:Es}{w:World}{N:Nat}{act:Act}
 (hR:R E.G g D es w) (hF:FRel g D w N act a):VRel g D w (act.eval x) c:=by
 cases x with
 |tmp t=>
  obtain⟨v,h1,h2⟩:=hF.vals t c h;have:act.eval (.tmp t)=v:=by simp[Act.eval,Array.getD_eq_getD_getElem?,h1]
  grind
 |const v=>cases h;exact Zuu ..
 |global n=>
  simp only[ev,Option.map_eq_some_iff] at h;obtain⟨cs,h1,rfl⟩:=h;obtain⟨h2,h3⟩:=hR.glob _ (Zzj h1);have h4:∀j,∃v,∀c,cs[j]? =some c->w.cell? ⟨n,j,none⟩=some v/\DRel g.m w v c:=by
   intro j;cases hj:cs[j]?<;>simp_all
  obtain⟨f,hf⟩:=Classical.axiomOfChoice h4;refine .addr n 0 cs f (by grind) (fun j hj=> ?_) (fun j c hj=>(hf j c hj).2);simp_all
 |func f=>cases h;exact .fn (.func f) [] [] [] [] rfl rfl (fun i v c h=>by simp) (fun i v c h=>by simp)
structure Sto where
 nx:Nat
 es:Es
def Post(E:Env)(N k:Nat)(g:Gh)(F:Nat->Prop)(w:World)(Q:Exit->AF->Sto->Prop)(e:Exit)(act':Act)(w':World):Prop:=
 ∃g' a' σ',Q e a' σ'/\k<=σ'.nx/\R E.G g' (·<σ'.nx) σ'.es w'/\FRel g' (·<σ'.nx) w' N act' a'/\Ext (·<k) g F w g' (Foot g' σ'.es) w'
structure AW (E:Env) (N k:Nat) (c:Code) (a:AF) (σ:Sto) (Q:Exit->AF->Sto->Prop):Prop where
 run:k<=σ.nx->∀g w act,R E.G g (·<σ.nx) σ.es w->FRel g (·<σ.nx) w N act a->YOk E.Y g (Foot g σ.es) w->c.wp E.P (Post E N k g (Foot g σ.es) w Q) act w
def Zm2(E:Env)(N k:Nat)(y:Code)(Q:Exit->AF->Sto->Prop):Exit->AF->Sto->Prop
 | .normal,a,σ=>AW E N k y a σ Q
 |e,a,σ=>Q e a σ
def vy(id:Nat)(Q:Exit->AF->Sto->Prop):Exit->AF->Sto->Prop
 | .exit id',a,σ=>bif Nat.beq id' id then Q .normal a σ else Q (.exit id') a σ
 |e,a,σ=>Q e a σ
section
variable {E:Env} {N k:Nat} {a:AF} {σ:Sto} {Q:Exit->AF->Sto->Prop}
theorem Post.later{g g':Gh}{F F':Nat->Prop}{w w':World}{e:Exit}{act:Act}{w'':World}(h:Post E N k g' F' w' Q e act w'')(x:Ext (·<k) g F w g' F' w'):Post E N k g F w Q e act w'':=
 let ⟨g2,a2,σ2,h1,h2,h3,h4,h5⟩:=h;⟨g2,a2,σ2,h1,h2,h3,h4,x.trans h5⟩
theorem AW.seq{x y:Code}(h:AW E N k x a σ (Zm2 E N k y Q)):AW E N k (.seq x y) a σ Q:=by
 constructor;intro hk g w act hR hF hY;refine wp_seq (wp_mono (h.run hk g w act hR hF hY) ?_);rintro e act1 w1 ⟨g1,a1,σ1,hq,hk1,hR1,hF1,hx⟩;cases e with
 |normal=>exact wp_mono (AW.run hq hk1 g1 w1 act1 hR1 hF1 (hY.ext hx)) (fun e act2 w2 hp=>hp.later hx)
 |exit id=>exact⟨g1,a1,σ1,hq,hk1,hR1,hF1,hx⟩
 |goto l=>exact⟨g1,a1,σ1,hq,hk1,hR1,hF1,hx⟩
 |ret=>exact⟨g1,a1,σ1,hq,hk1,hR1,hF1,hx⟩
 |panic ch=>exact⟨g1,a1,σ1,hq,hk1,hR1,hF1,hx⟩
 |outgrown=>exact⟨g1,a1,σ1,hq,hk1,hR1,hF1,hx⟩
theorem AW.mono{c:Code}{Q':Exit->AF->Sto->Prop}(h:AW E N k c a σ Q)(hq:∀e a σ,Q e a σ->Q' e a σ):AW E N k c a σ Q':=by
 constructor;intro hk g w act hR hF hY;refine wp_mono (h.run hk g w act hR hF hY) ?_;rintro e act1 w1 ⟨g1,a1,σ1,h1,h2⟩;exact⟨g1,a1,σ1,hq _ _ _ h1,h2⟩
theorem AW.skip(h:Q .normal a σ):AW E N k .skip a σ Q:=
 ⟨fun hk g w act hR hF hY=>wp_skip ⟨g,a,σ,h,hk,hR,hF,.refl ..⟩⟩
theorem AW.ret(h:Q .ret a σ):AW E N k .ret a σ Q:=
 ⟨fun hk g w act hR hF hY=>wp_ret ⟨g,a,σ,h,hk,hR,hF,.refl ..⟩⟩
theorem AW.exit{id:Nat}(h:Q (.exit id) a σ):AW E N k (.exit id) a σ Q:=
 ⟨fun hk g w act hR hF hY=>wp_exit ⟨g,a,σ,h,hk,hR,hF,.refl ..⟩⟩
theorem AW.block{id:Nat}{c:Code}(h:AW E N k c a σ (vy id Q)):AW E N k (.block id c) a σ Q:=by
 constructor;intro hk g w act hR hF hY;refine wp_block (wp_mono (h.run hk g w act hR hF hY) ?_);rintro e act1 w1 ⟨g1,a1,σ1,hq,h2⟩;cases e with
 |exit id'=>
  simp only[Exit.inBlock];by_cases hi:id'=id
  ·subst hi;simp only[vy,Nat.beq_refl,cond_true] at hq;rw[if_pos rfl];exact⟨g1,a1,σ1,hq,h2⟩
  ·simp only[vy,Zru hi,cond_false] at hq;rw[if_neg hi];exact⟨g1,a1,σ1,hq,h2⟩
 |normal=>exact⟨g1,a1,σ1,hq,h2⟩
 |goto l=>exact⟨g1,a1,σ1,hq,h2⟩
 |ret=>exact⟨g1,a1,σ1,hq,h2⟩
 |panic ch=>exact⟨g1,a1,σ1,hq,h2⟩
 |outgrown=>exact⟨g1,a1,σ1,hq,h2⟩
theorem AW.cond{c:Operand}{x y:Code}{b:Bool}(hc:ev E 0 a c=some (.bool b))(ht:b=true->AW E N k x a σ Q)(hf:b=false->AW E N k y a σ Q):AW E N k (.cond c x y) a σ Q:=by
 constructor;intro hk g w act hR hF hY;have hv:=z6 hc hR hF;have hb:act.eval c= .bool b:=by
  generalize act.eval c=v at hv;cases hv with
  |data h=>cases h;rfl
 exact wp_cond_split hb (fun h=>(ht h).run hk g w act hR hF hY) (fun h=>(hf h).run hk g w act hR hF hY)
theorem AW.condT{c:Operand}{x y:Code}(hc:ev E 0 a c=some (.bool true))(ht:AW E N k x a σ Q):AW E N k (.cond c x y) a σ Q:=
 .cond hc (fun _=>ht) (fun h=>by cases h)
theorem AW.condF{c:Operand}{x y:Code}(hc:ev E 0 a c=some (.bool false))(hf:AW E N k y a σ Q):AW E N k (.cond c x y) a σ Q:=
 .cond hc (fun h=>by cases h) (fun _=>hf)
def Weak(E:Env)(N k:Nat)(a:AF)(σ:Sto)(a2:AF)(σ2:Sto):Prop:=
 k<=σ.nx->k<=σ2.nx/\∀g w act,R E.G g (·<σ.nx) σ.es w->FRel g (·<σ.nx) w N act a->
  ∃g2,R E.G g2 (·<σ2.nx) σ2.es w/\FRel g2 (·<σ2.nx) w N act a2/\Ext (·<k) g (Foot g σ.es) w g2 (Foot g2 σ2.es) w
theorem Weak.refl:Weak E N k a σ a σ:=fun hk=>⟨hk,fun g w act hR hF=>⟨g,hR,hF,.refl ..⟩⟩
theorem AW.weak{a2:AF}{σ2:Sto}{c:Code}(h:Weak E N k a σ a2 σ2)(h2:AW E N k c a2 σ2 Q):AW E N k c a σ Q:=by
 constructor;intro hk g w act hR hF hY;obtain⟨hk2,hw⟩:=h hk;obtain⟨g2,hR2,hF2,hx⟩:=hw g w act hR hF;exact wp_mono (h2.run hk2 g2 w act hR2 hF2 (hY.ext hx)) (fun e act2 w2 hp=>hp.later hx)
def Zxk(E:Env)(N k:Nat){ι:Type}(J:ι->AF×Sto)(μ:ι->Nat)(i:ι)(Q:Exit->AF->Sto->Prop):Exit->AF->Sto->Prop
 | .normal,a,σ=>∃j,μ j<μ i/\Weak E N k a σ (J j).1 (J j).2
 |e,a,σ=>Q e a σ
theorem AW.loop{ι:Type}{c:Code}(J:ι->AF×Sto)(μ:ι->Nat)(i₀:ι)(h₀:Weak E N k a σ (J i₀).1 (J i₀).2)
 (h:∀i,AW E N k c (J i).1 (J i).2 (Zxk E N k J μ i Q)):AW E N k (.loop c) a σ Q:=by
 refine AW.weak h₀ ?_;constructor;intro hk g w act hR hF hY;refine wp_loop_ghost (fun n act' w'=>∃i g',μ i=n/\k<=(J i).2.nx/\R E.G g' (·<(J i).2.nx) (J i).2.es w'/\FRel g' (·<(J i).2.nx) w' N act' (J i).1/\Ext (·<k) g (Foot g (J i₀).2.es) w g' (Foot g' (J i).2.es) w')
  (μ i₀) ⟨i₀,g,rfl,hk,hR,hF,.refl ..⟩ ?_
 rintro n act1 w1 ⟨i,g1,rfl,hk1,hR1,hF1,hx1⟩;refine wp_mono ((h i).run hk1 g1 w1 act1 hR1 hF1 (hY.ext hx1)) ?_;rintro e act2 w2 ⟨g2,a2,σ2,hq,hk2,hR2,hF2,hx2⟩;cases e with
 |normal=>
  obtain⟨j,hj,hJ⟩:=hq;obtain⟨hk3,hJ⟩:=hJ hk2;obtain⟨g3,hR3,hF3,hx3⟩:=hJ g2 w2 act2 hR2 hF2;exact⟨μ j,hj,j,g3,rfl,hk3,hR3,hF3,(hx1.trans hx2).trans hx3⟩
 |exit id=>exact⟨g2,a2,σ2,hq,hk2,hR2,hF2,hx1.trans hx2⟩
 |goto l=>exact⟨g2,a2,σ2,hq,hk2,hR2,hF2,hx1.trans hx2⟩
 |ret=>exact⟨g2,a2,σ2,hq,hk2,hR2,hF2,hx1.trans hx2⟩
 |panic ch=>exact⟨g2,a2,σ2,hq,hk2,hR2,hF2,hx1.trans hx2⟩
 |outgrown=>exact⟨g2,a2,σ2,hq,hk2,hR2,hF2,hx1.trans hx2⟩
end
def VLe(c c':V):Prop:=∀g D w v,VRel g D w v c->VRel g D w v c'
theorem VLe.refl(c:V):VLe c c:=fun _ _ _ _ h=>h
theorem VLe.of_eq{c c':V}(h:c=c'):VLe c c':=h▸ .refl c
theorem VLe.any(sp:Sp)(l:SL V):VLe (.slice sp l) (.slice .any l):=by
 intro g D w v h;cases h with
 |data h=>cases h with
  |nilS _ h=>exact .data (.nilS _ h)
  |emp _ h a cap=>exact .data (.emp _ h a cap)
  |slice _ b off cap f h1 h2 h3 h4 h5=>exact .data (.slice _ b off cap f h1 h2 h3 h4 h5)
 |fullNil _ h=>exact .data (.nilS _ h)
 |nilS _ h=>exact .data (.nilS _ h)
 |full a n _ h=>exact .data h
 |own r hr _ _ h hd=>exact .data hd
def VsLe:List V->List V->Prop
 |[],[]=>True
 |c::cs,c'::cs'=>VLe c c'/\VsLe cs cs'
 |_,_=>False
theorem VsLe.len:∀{cs cs':List V},VsLe cs cs'->cs.length=cs'.length:=by
 intro cs;induction cs with
 |nil=>intro cs' h;cases cs' with|nil=>rfl|cons=>exact h.elim
 |cons c l ih=>intro cs' h;cases cs' with|nil=>exact h.elim|cons c' l'=>simp[ih h.2]
theorem VsLe.nth:∀{cs cs':List V},VsLe cs cs'->∀(i:Nat) c',cs'[i]? =some c'->∃c,cs[i]? =some c/\VLe c c':=by
 intro cs;induction cs with
 |nil=>intro cs' h i c' hc;cases cs' with|nil=>grind|cons=>exact h.elim
 |cons c l ih=>
  intro cs' h i c' hc;cases cs' with
  |nil=>grind
  |cons d l'=>
   cases i with
   |zero=>simp at hc;subst hc;exact⟨c,rfl,h.1⟩
   |succ i=>simp at hc;exact ih h.2 i c' hc
theorem VsLe.refl:∀cs:List V,VsLe cs cs
 |[]=>trivial
 |c::cs=>⟨.refl c,VsLe.refl cs⟩
theorem VLe.agg{cs cs':List V}(h:VsLe cs cs'):VLe (.agg cs) (.agg cs'):=by
 intro g D w v hv;cases hv with
 |data h=>cases h
 |agg vs _ hl h1 hr=>
  refine .agg vs cs' (hl.trans h.len) h1 fun i v c' hv hc=> ?_;obtain⟨c,hc1,hc2⟩:=h.nth i c' hc;exact hc2 _ _ _ _ (hr i v c hv hc1)
theorem VLe.tup{cs cs':List V}(h:VsLe cs cs'):VLe (.tup cs) (.tup cs'):=by
 intro g D w v hv;cases hv with
 |data h=>cases h
 |tup vs _ hl hr=>
  refine .tup vs cs' (hl.trans h.len) fun i v c' hv hc=> ?_;obtain⟨c,hc1,hc2⟩:=h.nth i c' hc;exact hc2 _ _ _ _ (hr i v c hv hc1)
theorem Zjr(ρ:List (Option Nat))(c:EC)(x:c.sem):vo ρ (Zgm c x)=some (Zgm c x):=by cases c<;>rfl
def FLe(ρ:List (Option Nat))(a:AF):AF->Prop
 |[]=>True
 |p::l=>(∃c,vo ρ p.2=some c/\∃c0,a.get p.1=some c0/\VLe c0 c)/\FLe ρ a l
def ELe(ρ:List (Option Nat))(es:Es):Es->Prop
 |[]=>True
 |p::l=>(match p.2 with
  | .var cs=>∃m,Zbx ρ p.1=some m/\∃cs1,w7 ρ cs=some cs1/\∃cs0,zm es m=some (.var cs0)/\VsLe cs0 cs1
  | .map c ks xs=>∃m,Zbx ρ p.1=some m/\∃ks0 xs0,zm es m=some (.map c ks0 xs0)/\ks0=ks/\xs0=xs
  | .row=>Zet ρ p.1=some none\/∃m,Zbx ρ p.1=some m/\zm es m=some .row
  | .gone=>Nat.blt p.1 ρ.length=true)/\ELe ρ es l
def Zuw:Nat->Nat->List (Option Nat)->Bool
 |_,0,_=>true
 |i,n+1,some m::l=>Nat.beq m i&&Zuw (i+1) n l
 |_,_,_=>false
def yg:List (Option Nat)->Bool
 |[]=>true
 |none::l=>yg l
 |some m::l=>(l.all fun x=>match x with|some m'=> !Nat.beq m m'|none=>true)&&yg l
def below(nx:Nat)(ρ:List (Option Nat)):Bool:=ρ.all fun x=>match x with|some m=>Nat.blt m nx|none=>true
theorem Ziy:∀(n i:Nat) (ρ:List (Option Nat)),Zuw i n ρ=true->∀j,j<n->Zet ρ j=some (some (i+j)):=by
 intro n;induction n with
 |zero=>omega
 |succ n ih=>
  intro i ρ h j hj;cases ρ with
  |nil=>simp[Zuw] at h
  |cons x l=>
   cases x with
   |none=>simp[Zuw] at h
   |some m=>
    simp only[Zuw,Bool.and_eq_true] at h;have hm:=Nat.eq_of_beq_eq_true h.1;cases j with
    |zero=>simp[Zet,hm]
    |succ j=>
     have:=ih (i+1) l h.2 j (by omega);simp only[Zet]
     grind
theorem Zsz:∀{ρ:List (Option Nat)} {n x},Zet ρ n=some x->x∈ρ:=by
 intro ρ;induction ρ with
 |nil=>intro n x h;cases h
 |cons y l ih=>
  intro n x h;cases n with
  |zero=>simp[Zet] at h;grind
  |succ n=>exact List.mem_cons_of_mem _ (ih h)
theorem Zfu:∀{ρ:List (Option Nat)},yg ρ=true->∀n n' m,Zet ρ n=some (some m)->Zet ρ n'=some (some m)->n=n':=by
 intro ρ;induction ρ with
 |nil=>intro _ n n' m h;cases h
 |cons y l ih=>
  intro h n n' m h1 h2;have hd:yg l=true:=by
   cases y with
   |none=>simpa[yg] using h
   |some z=>simp only[yg,Bool.and_eq_true] at h;grind
  have hne:∀z,y=some z->∀j,Zet l j≠some (some z):=by
   intro z hz j hj;subst hz;simp only[yg,Bool.and_eq_true,List.all_eq_true] at h;have:=h.1 _ (Zsz hj);simp_all
  cases n with
  |zero=>
   simp only[Zet,Option.some.injEq] at h1;cases n' with
   |zero=>rfl
   |succ n'=>exact absurd h2 (hne m h1 n')
  |succ n=>
   cases n' with
   |zero=>
    simp only[Zet,Option.some.injEq] at h2;exact absurd h1 (hne m h2 n)
   |succ n'=>exact congrArg (·+1) (ih hd n n' m h1 h2)
theorem Zup{nx:Nat}{ρ:List (Option Nat)}(h:below nx ρ=true){n m:Nat}(hn:Zet ρ n=some (some m)):m<nx:=by
 have:=List.all_eq_true.1 h _ (Zsz hn);simp_all
theorem FLe.get{ρ:List (Option Nat)}{a:AF}:∀{a2:AF},FLe ρ a a2->∀t c2,a2.get t=some c2->∃c,vo ρ c2=some c/\∃c0,a.get t=some c0/\VLe c0 c:=by
 intro a2;induction a2 with
 |nil=>intro _ t c2 h;cases h
 |cons p l ih=>
  intro h t c2 hc;obtain⟨m,e⟩:=p;rw[AF.get_cons] at hc;by_cases ht:m=t
  ·subst ht;simp only[if_true,Option.some.injEq] at hc;subst hc;exact h.1
  ·simp only[ht,if_false] at hc;exact ih h.2 t c2 hc
theorem ELe.get{ρ:List (Option Nat)}{es:Es}:∀{es2:Es},ELe ρ es es2->∀n e2,zm es2 n=some e2->(match e2 with
 | .var cs=>∃m,Zbx ρ n=some m/\∃cs1,w7 ρ cs=some cs1/\∃cs0,zm es m=some (.var cs0)/\VsLe cs0 cs1
 | .map c ks xs=>∃m,Zbx ρ n=some m/\∃ks0 xs0,zm es m=some (.map c ks0 xs0)/\ks0=ks/\xs0=xs
 | .row=>Zet ρ n=some none\/∃m,Zbx ρ n=some m/\zm es m=some .row
 | .gone=>Nat.blt n ρ.length=true):=by
 intro es2;induction es2 with
 |nil=>intro _ t c2 h;cases h
 |cons p l ih=>
  intro h n e2 hc;obtain⟨m,e⟩:=p;rw[zq] at hc;by_cases ht:m=n
  ·subst ht;simp only[if_true,Option.some.injEq] at hc;subst hc;exact h.1
  ·simp only[ht,if_false] at hc;exact ih h.2 n e2 hc
theorem Weak.mk{E:Env}{N k:Nat}{a:AF}{σ:Sto}(ρ:List (Option Nat))(a2:AF)(es2:Es)(nx2:Nat)(hnx:nx2=ρ.length)(hid:Zuw 0 k ρ=true)(hd:yg ρ=true)(hb:below σ.nx ρ=true)
 (hf:FLe ρ a a2) (he:ELe ρ σ.es es2):Weak E N k a σ a2 ⟨nx2,es2⟩:=by
 subst hnx;intro hk;have hidk:∀n,n<k->Zet ρ n=some (some n):=fun n hn=>by simpa using Ziy k 0 ρ hid n hn
 refine⟨?_,fun g w act hR hF=> ?_⟩
 ·show k<=ρ.length;rcases Nat.eq_zero_or_pos k with h|h
  ·omega
  ·have:=Zac (hidk (k-1) (by omega));omega
 let g2:Gh:={blk:=fun n=>g.blk ((Zbx ρ n).getD n),row:=fun n=>match Zbx ρ n with|some m=>g.row m|none=>none,m:=g.m}
 have hblk:∀n n',Zbx ρ n=some n'->g2.blk n=g.blk n':=fun n n' h=>by grind
 have hrow:∀n n',Zbx ρ n=some n'->g2.row n=g.row n':=fun n n' h=>by grind
 have hnone:∀n,Zet ρ n=some none->g2.row n=none:=fun n h=>by simp[g2,Zbx,h]
 have hun:∀{v c c2},VRel g (·<σ.nx) w v c->vo ρ c2=some c->VRel g2 (·<ρ.length) w v c2:=fun {v c c2} h hc=>VRel.unren (g2:=g2) h rfl hblk hrow hnone c2 hc;have hfoot:∀n e2 b,zm es2 n=some e2->e2.foot g2 n=some b->∃m e,Zbx ρ n=some m/\zm σ.es m=some e/\e.foot g m=some b:=by
  intro n e2 b h1 h2;have h3:=he.get n e2 h1;cases e2 with
  |var cs=>
   obtain⟨m,hm,cs1,_,cs0,h4,_⟩:=h3;refine⟨m,_,hm,h4,?_⟩;simp only[Ent.foot,hblk n m hm] at h2 ⊢;exact h2
  |map c ks xs=>
   obtain⟨m,hm,ks0,xs0,h4,_⟩:=h3;refine⟨m,_,hm,h4,?_⟩;simp only[Ent.foot,hblk n m hm] at h2 ⊢;exact h2
  |row=>
   rcases h3 with h3|⟨m,hm,h4⟩
   ·simp[Ent.foot,hnone n h3] at h2
   ·refine ⟨m,_,hm,h4,?_⟩;simp only[Ent.foot,hrow n m hm] at h2 ⊢;exact h2
  |gone=>cases h2
 refine⟨g2,⟨?_,?_,?_,hR.fresh,hR.glob⟩,⟨hF.size,hF.defers,?_⟩,?_⟩
 ·intro n e h;have h3:=he.get n e h;cases e with
  |var cs=>obtain⟨m,hm,_⟩:=h3;exact Zac (ur hm)
  |map c ks xs=>obtain⟨m,hm,_⟩:=h3;exact Zac (ur hm)
  |row=>
   rcases h3 with h3|⟨m,hm,_⟩
   ·exact Zac h3
   ·exact Zac (ur hm)
  |gone=>simp_all
 ·intro n n' e e' b h1 h2 h3 h4;obtain⟨m,d,hm,h5,h6⟩:=hfoot n e b h1 h3;obtain⟨m',d',hm',h7,h8⟩:=hfoot n' e' b h2 h4;have:=hR.foots m m' d d' b h5 h7 h6 h8;subst this;exact Zfu hd n n' m (ur hm) (ur hm')
 ·intro n e h;have h3:=he.get n e h;cases e with
  |var cs=>
   obtain⟨m,hm,cs1,hc1,cs0,h4,h5⟩:=h3;obtain⟨h6,vs,t,h7,h8,h9,h10,h11⟩:=hR.ents m _ h4;refine⟨by grind,vs,t,by grind,?_,h9,?_,by grind⟩
   ·have e1:=h5.len;have e2:=yv hc1;omega
   ·intro i v c hv hc;obtain⟨c1,hc2⟩:=getElem?_of_len (yv hc1) hc;obtain⟨c0,hc3,hc4⟩:=h5.nth i c1 hc2;exact hun (hc4 _ _ _ _ (h10 i v c0 hv hc3)) (vb hc1 i c c1 hc hc2)
  |map c ks xs=>
   obtain⟨m,hm,ks0,xs0,h4,rfl,rfl⟩:=h3;obtain⟨h6,vs,t,h7,h8,h9,h9',h10⟩:=hR.ents m _ h4;refine⟨by grind,vs,t,by grind,h8,h9,h9',?_⟩;intro i v x hv hx;exact hun (h10 i v x hv hx) (Zjr ρ c x)
  |row=>
   intro ρ' hρ';rcases h3 with h3|⟨m,hm,h4⟩
   ·grind
   ·rw[hrow n m hm] at hρ';exact hR.ents m _ h4 ρ' hρ'
  |gone=>trivial
 ·intro t c2 hc;obtain⟨c,h1,c0,h2,h3⟩:=hf.get t c2 hc;obtain⟨v,hv,hv2⟩:=hF.vals t c0 h2;exact⟨v,hv,hun (h3 _ _ _ _ hv2) h1⟩
 ·have hrk:∀n,n<k->Zbx ρ n=some n:=fun n hn=>by simp[Zbx,hidk n hn]
  refine⟨rfl,rfl,rfl,Nat.le_refl _,fun _ _ _=>rfl,fun _=>Nat.le_refl _,fun n hn=>hblk n n (hrk n hn),fun n hn=>hrow n n (hrk n hn),fun _ _ _=>⟨rfl,rfl⟩,?_⟩;rintro b ⟨n,e,h1,h2⟩;obtain⟨m,e',_,h3,h4⟩:=hfoot n e b h1 h2;exact .inl ⟨m,e',h3,h4⟩
theorem ERel.mono{g g':Gh}{D D':Nat->Prop}{w w':World}{n:Nat}{e:Ent}(h:ERel g D w n e)(hn:D n)(hm:∀b,g.m b<=g'.m b)
 (hw:∀b o,o<g.m b->w'.cell? ⟨b,o,none⟩=w.cell? ⟨b,o,none⟩) (hD:∀n,D n->D' n) (hb:∀n,D n->g'.blk n=g.blk n)
 (hr:∀n,D n->g'.row n=g.row n) (hf:∀b,e.foot g n=some b->w'.heap[b]? =w.heap[b]? /\g'.m b=g.m b):ERel g' D' w' n e:=by
 cases e with
 |var cs=>
  obtain⟨h1,vs,t,h2,h3,h4,h5,h7⟩:=h;have h6:=hf _ rfl;refine⟨by grind,vs,t,by grind,h3,h4,fun i v c hv hc=>(h5 i v c hv hc).mono hm hw hD hb hr,by grind⟩
 |map c ks xs=>
  obtain⟨h1,vs,t,h2,h3,h4,h4',h5⟩:=h;have h6:=hf _ rfl;exact⟨by grind,vs,t,by grind,h3,h4,h4',fun i v c hv hc=>(h5 i v c hv hc).mono hm hw hD hb hr⟩
 |row=>
  intro ρ hρ;rw[hr n hn] at hρ;obtain⟨cur,t,h1,h2,h3,h4⟩:=h ρ hρ;have h6:=hf ρ.b (by simp[Ent.foot,hρ])
  grind
 |gone=>trivial
theorem R.step{G:Zfn}{g g':Gh}{D D':Nat->Prop}{es es':Es}{w w':World}(hR:R G g D es w)(hm:∀b,g.m b<=g'.m b)
 (hw:∀b o,o<g.m b->w'.cell? ⟨b,o,none⟩=w.cell? ⟨b,o,none⟩) (hD:∀n,D n->D' n) (hb:∀n,D n->g'.blk n=g.blk n)
 (hr:∀n,D n->g'.row n=g.row n)
 (hents:∀n e,zm es' n=some e->(zm es n=some e/\∀b,e.foot g n=some b->w'.heap[b]? =w.heap[b]? /\g'.m b=g.m b)\/(D' n/\ERel g' D' w' n e))
 (hfoots:∀n n' e e' b,zm es' n=some e->zm es' n'=some e'->e.foot g' n=some b->e'.foot g' n'=some b->n=n')
 (hfresh:∀b,w'.heap.size<=b->g'.m b=0):R G g' D' es' w' where
 lt n e h:=by
  rcases hents n e h with h1|h1
  ·exact hD n (hR.lt n e h1.1)
  grind
 foots:=hfoots
 ents n e h:=by
  rcases hents n e h with h1|h1
  ·exact (hR.ents n e h1.1).mono (hR.lt n e h1.1) hm hw hD hb hr h1.2
  grind
 fresh:=hfresh
 glob p hp:=by
  obtain⟨h1,h2⟩:=hR.glob p hp;refine⟨Nat.le_trans h1 (hm _),fun j c hc=> ?_⟩;obtain⟨v,h3,h4⟩:=h2 j c hc;exact⟨v,(hw _ _ (by grind)).trans h3,h4.mono hm hw⟩
theorem R.foot_lt{G:Zfn}{g:Gh}{D:Nat->Prop}{es:Es}{w:World}(hR:R G g D es w){n:Nat}{e:Ent}{b:Nat}(h:zm es n=some e)(hf:e.foot g n=some b):b<w.heap.size:=by
 have he:=hR.ents n e h;cases e with
 |var cs=>
  obtain⟨_,vs,t,h2,_⟩:=he;simp only[Ent.foot,Option.some.injEq] at hf
  grind
 |map c ks xs=>
  obtain⟨_,vs,t,h2,_⟩:=he;simp only[Ent.foot,Option.some.injEq] at hf
  grind
 |row=>
  simp only[Ent.foot,Option.map_eq_some_iff] at hf;obtain⟨ρ,hρ,rfl⟩:=hf;obtain⟨cur,t,h1,_⟩:=he ρ hρ
  grind
 |gone=>cases hf
theorem Ent.foot_same{g g':Gh}{D:Nat->Prop}{n:Nat}{e:Ent}(hn:D n)(hb:∀n,D n->g'.blk n=g.blk n)(hr:∀n,D n->g'.row n=g.row n):e.foot g' n=e.foot g n:=by
 cases e with
 |var cs=>simp[Ent.foot,hb n hn]
 |map c ks xs=>simp[Ent.foot,hb n hn]
 |row=>simp[Ent.foot,hr n hn]
 |gone=>rfl
theorem Zg3(w:World)(o:Obj)(b j:Nat)(h:b<w.heap.size):(w.alloc o).cell? ⟨b,j,none⟩=w.cell? ⟨b,j,none⟩:=World.cell?_alloc_lt (w:=w) (o:=o) (a:=⟨b,j,none⟩) h
def Gh.name(g:Gh)(n b:Nat):Gh:={g with blk:=fun i=>if i=n then b else g.blk i}
def Gh.nameR(g:Gh)(n b:Nat)(ρ:Option RowG):Gh:={g with blk:=fun i=>if i=n then b else g.blk i,row:=fun i=>if i=n then ρ else g.row i}
theorem R.boxR{G:Zfn}{g:Gh}{D:Nat->Prop}{es:Es}{w:World}(hR:R G g D es w){n:Nat}(hn:¬D n)(ρ:Option RowG){vs:List Value}{cs:List V}(t:TypeId)(hl:cs.length<=vs.length)
 (h1:∀v∈vs,v.oneCell'=true) (h:∀(i:Nat) v c,vs[i]? =some v->cs[i]? =some c->VRel g D w v c) (hρ:∀r,ρ=some r->vs.length=r.cap*r.sz):
 R G (g.nameR n w.heap.size ρ) (fun i=>D i\/i=n) ((n,.var cs)::es) (w.alloc (.cells vs.toArray t))/\
 Ext D g (Foot g es) w (g.nameR n w.heap.size ρ) (Foot (g.nameR n w.heap.size ρ) ((n,.var cs)::es)) (w.alloc (.cells vs.toArray t)):=by
 have hb:∀i,D i->(g.nameR n w.heap.size ρ).blk i=g.blk i:=fun i hi=>by
  have:i≠n:=fun e=>hn (e▸hi);simp[Gh.nameR,this]
 have hr:∀i,D i->(g.nameR n w.heap.size ρ).row i=g.row i:=fun i hi=>by
  have:i≠n:=fun e=>hn (e▸hi);simp[Gh.nameR,this]
 have hcell:∀b o,o<g.m b->(w.alloc (.cells vs.toArray t)).cell? ⟨b,o,none⟩=w.cell? ⟨b,o,none⟩:=fun b o ho=>by
  refine Zg3 w _ b o ?_;rcases Nat.lt_or_ge b w.heap.size with h|h
  ·exact h
  ·rw[hR.fresh b h] at ho;omega
 have hm0:g.m w.heap.size=0:=hR.fresh _ (Nat.le_refl _);have hold:∀i e,i≠n->zm ((n,Ent.var cs)::es) i=some e->zm es i=some e:=fun i e hi h=>by
  rw[zq,if_neg (fun e=>hi e.symm)] at h;exact h
 have hfold:∀i e b,zm es i=some e->e.foot (g.nameR n w.heap.size ρ) i=some b->e.foot g i=some b/\b<w.heap.size:=fun i e b h1 h2=>by
  rw[Ent.foot_same (hR.lt i e h1) hb hr] at h2;exact⟨h2,hR.foot_lt h1 h2⟩
 have hnew:∀e,zm ((n,Ent.var cs)::es) n=some e->e= .var cs:=fun e h=>by
  rw[zq,if_pos rfl] at h;grind
 refine⟨hR.step (fun _=>Nat.le_refl _) hcell (fun i hi=> .inl hi) hb hr ?_ ?_ ?_,?_⟩
 ·intro i e he;by_cases hi:i=n
  ·subst hi;rw[hnew e he];refine .inr ⟨.inr rfl,by simp[Gh.nameR,hm0],vs,t,by rw[show(g.nameR i w.heap.size ρ).blk i=w.heap.size from by simp[Gh.nameR]];exact heap_alloc_new w _,hl,h1,fun j v c hv hc=> ?_,fun r hr'=>hρ r (by simpa[Gh.nameR] using hr')⟩;exact(h j v c hv hc).mono (fun _=>Nat.le_refl _) hcell (fun i hi=> .inl hi) hb hr
  ·have h2:=hold i e hi he;exact .inl ⟨h2,fun b hb'=>⟨heap_alloc_old w _ b (hR.foot_lt h2 hb'),rfl⟩⟩
 ·intro i j e e' b h1 h2 h3 h4;by_cases hi:i=n
  ·by_cases hj:j=n
   ·omega
   ·subst hi;rw[hnew e h1] at h3;simp[Ent.foot,Gh.nameR] at h3
    grind
  ·by_cases hj:j=n
   ·subst hj;rw[hnew e' h2] at h4;simp[Ent.foot,Gh.nameR] at h4
    grind
   ·exact hR.foots i j e e' b (hold i e hi h1) (hold j e' hj h2) (hfold i e b (hold i e hi h1) h3).1 (hfold j e' b (hold j e' hj h2) h4).1
 ·intro b hb';simp at hb';exact hR.fresh b (by omega)
 ·refine ⟨rfl,rfl,rfl,by simp,hcell,fun _=>Nat.le_refl _,hb,hr,fun b hb' _=>⟨heap_alloc_old w _ b hb',rfl⟩,?_⟩;rintro b ⟨i,e,h2,h3⟩;by_cases hi:i=n
  ·subst hi;rw[hnew e h2] at h3;simp[Ent.foot,Gh.nameR] at h3;omega
  ·exact .inl ⟨i,e,hold i e hi h2,(hfold i e b (hold i e hi h2) h3).1⟩
theorem R.box{G:Zfn}{g:Gh}{D:Nat->Prop}{es:Es}{w:World}(hR:R G g D es w){n:Nat}(hn:¬D n){vs:List Value}{cs:List V}(t:TypeId)(hl:cs.length<=vs.length)
 (h1:∀v∈vs,v.oneCell'=true) (h:∀(i:Nat) v c,vs[i]? =some v->cs[i]? =some c->VRel g D w v c):
 R G (g.nameR n w.heap.size none) (fun i=>D i\/i=n) ((n,.var cs)::es) (w.alloc (.cells vs.toArray t))/\
 Ext D g (Foot g es) w (g.nameR n w.heap.size none) (Foot (g.nameR n w.heap.size none) ((n,.var cs)::es)) (w.alloc (.cells vs.toArray t)):=
 hR.boxR hn none t hl h1 h (fun r h=>by cases h)
def Gh.share(g:Gh)(b n:Nat):Gh:={g with m:=fun i=>if i=b then n else g.m i}
theorem R.share{G:Zfn}{g:Gh}{D:Nat->Prop}{es:Es}{w:World}(hR:R G g D es w)(vs:Array Value)(t:TypeId)(n:Nat)(hn:n<=vs.size):
 R G (g.share w.heap.size n) D es (w.alloc (.cells vs t))/\
 Ext D g (Foot g es) w (g.share w.heap.size n) (Foot (g.share w.heap.size n) es) (w.alloc (.cells vs t)):=by
 have hm0:g.m w.heap.size=0:=hR.fresh _ (Nat.le_refl _);have hm:∀b,g.m b<=(g.share w.heap.size n).m b:=fun b=>by
  by_cases h:b=w.heap.size
  ·grind
  ·simp[Gh.share,h]
 have hcell:∀b o,o<g.m b->(w.alloc (.cells vs t)).cell? ⟨b,o,none⟩=w.cell? ⟨b,o,none⟩:=fun b o ho=>by
  refine Zg3 w _ b o ?_;rcases Nat.lt_or_ge b w.heap.size with h|h
  ·exact h
  ·rw[hR.fresh b h] at ho;omega
 have hsame:∀b,b<w.heap.size->(w.alloc (.cells vs t)).heap[b]? =w.heap[b]? /\(g.share w.heap.size n).m b=g.m b:=fun b hb=>
  ⟨heap_alloc_old w _ b hb,by simp[Gh.share,Nat.ne_of_lt hb]⟩
 refine⟨hR.step hm hcell (fun i hi=>hi) (fun _ _=>rfl) (fun _ _=>rfl) (fun i e he=> .inl ⟨he,fun b hb=>hsame b (hR.foot_lt he hb)⟩) hR.foots ?_,?_⟩
 ·intro b hb;simp at hb;have:b≠w.heap.size:=by omega
  simp[Gh.share,this];exact hR.fresh b (by omega)
 ·exact ⟨rfl,rfl,rfl,by simp,hcell,hm,fun _ _=>rfl,fun _ _=>rfl,fun b hb _=>hsame b hb,fun b h=> .inl h⟩
theorem Zcl(w:World)(b:Nat)(vs:Array Value)(b' o:Nat)(h:b'≠b):(w.setRow b vs).cell? ⟨b',o,none⟩=w.cell? ⟨b',o,none⟩:=
 World.cell?_of_block (a:=⟨b',o,none⟩) (setRow_other w b b' vs h)
theorem R.store{G:Zfn}{g:Gh}{D:Nat->Prop}{es:Es}{w:World}(hR:R G g D es w){n:Nat}{cs cs':List V}(hn:zm es n=some (.var cs))
 {vs:List Value} {vs':List Value} {t:TypeId} (hh:w.heap[g.blk n]? =some (.cells vs.toArray t (0,0))) (hl:cs'.length<=vs'.length) (hlv:vs'.length=vs.length)
 (h1:∀v∈vs',v.oneCell'=true) (h:∀(i:Nat) v c,vs'[i]? =some v->cs'[i]? =some c->VRel g D w v c):
 R G g D ((n,.var cs')::es) (w.setRow (g.blk n) vs'.toArray)/\
 Ext D g (Foot g es) w g (Foot g ((n,.var cs')::es)) (w.setRow (g.blk n) vs'.toArray):=by
 have hm0:g.m (g.blk n)=0:=(hR.ents n _ hn).1;have hrw:∀r,g.row n=some r->vs.length=r.cap*r.sz:=fun r hr=>by
  obtain⟨_,us,t',q1,_,_,_,q2⟩:=hR.ents n _ hn
  grind
 have hne:∀b o,o<g.m b->b≠g.blk n:=fun b o ho e=>by grind
 have hcell:∀b o,o<g.m b->(w.setRow (g.blk n) vs'.toArray).cell? ⟨b,o,none⟩=w.cell? ⟨b,o,none⟩:=fun b o ho=>
  Zcl w _ _ b o (hne b o ho)
 have hold:∀i e,i≠n->zm ((n,Ent.var cs')::es) i=some e->zm es i=some e:=fun i e hi h=>by
  rw[zq,if_neg (fun e=>hi e.symm)] at h;exact h
 have hnew:∀e,zm ((n,Ent.var cs')::es) n=some e->e= .var cs':=fun e h=>by
  rw[zq,if_pos rfl] at h;grind
 have hfoot:∀i e b,zm ((n,Ent.var cs')::es) i=some e->e.foot g i=some b->∃e',zm es i=some e'/\e'.foot g i=some b:=fun i e b h2 h3=>by
  by_cases hi:i=n
  ·subst hi;rw[hnew e h2] at h3;exact⟨_,hn,h3⟩
  grind
 have hother:∀b,b≠g.blk n->(w.setRow (g.blk n) vs'.toArray).heap[b]? =w.heap[b]? :=fun b hb=>setRow_other w _ b _ hb;refine⟨hR.step (fun _=>Nat.le_refl _) hcell (fun i hi=>hi) (fun _ _=>rfl) (fun _ _=>rfl) ?_ ?_ ?_,?_⟩
 ·intro i e he;by_cases hi:i=n
  ·subst hi;rw[hnew e he];exact .inr ⟨hR.lt _ _ hn,hm0,vs',t,setRow_heap w _ _ _ t _ hh,hl,h1,fun j v c hv hc=>
    (h j v c hv hc).mono (fun _=>Nat.le_refl _) hcell (fun i hi=>hi) (fun _ _=>rfl) (fun _ _=>rfl),fun r hr=>hlv.trans (hrw r hr)⟩
  ·refine .inl ⟨hold i e hi he,fun b hb=>⟨hother b (fun e2=>hi ?_),rfl⟩⟩;exact hR.foots i n e _ b (hold i e hi he) hn hb (by simp[Ent.foot,e2])
 ·intro i j e e' b h2 h3 h4 h5;obtain⟨d,h6,h7⟩:=hfoot i e b h2 h4;obtain⟨d',h8,h9⟩:=hfoot j e' b h3 h5;exact hR.foots i j d d' b h6 h8 h7 h9
 ·intro b hb;simp at hb;exact hR.fresh b hb
 ·refine ⟨rfl,rfl,rfl,by simp,hcell,fun _=>Nat.le_refl _,fun _ _=>rfl,fun _ _=>rfl,fun b hb hf=>⟨hother b (fun e=>hf ⟨n,_,hn,by simp[Ent.foot,e]⟩),rfl⟩,?_⟩;rintro b ⟨i,e,h2,h3⟩;obtain⟨d,h6,h7⟩:=hfoot i e b h2 h3;exact .inl ⟨i,d,h6,h7⟩
theorem VRel.drew{g:Gh}{D:Nat->Prop}{w:World}{v:Value}{c:V}(h:VRel g D w v c):VRel g D w.drew v c:=
 h.mono (fun _=>Nat.le_refl _) (fun _ _ _=>rfl) (fun _ h=>h) (fun _ _=>rfl) (fun _ _=>rfl)
theorem R.drew{G:Zfn}{g:Gh}{D:Nat->Prop}{es:Es}{w:World}(hR:R G g D es w):R G g D es w.drew:=
 hR.step (fun _=>Nat.le_refl _) (fun _ _ _=>rfl) (fun _ h=>h) (fun _ _=>rfl) (fun _ _=>rfl) (fun n e h=> .inl ⟨h,fun _ _=>⟨rfl,rfl⟩⟩) hR.foots hR.fresh
theorem Ext.drew{D:Nat->Prop}{g:Gh}{F:Nat->Prop}{w:World}:Ext D g F w g F w.drew:=
 ⟨rfl,rfl,rfl,Nat.le_refl _,fun _ _ _=>rfl,fun _=>Nat.le_refl _,fun _ _=>rfl,fun _ _=>rfl,fun _ _ _=>⟨rfl,rfl⟩,fun _ h=> .inl h⟩
theorem R.more{G:Zfn}{g:Gh}{D D':Nat->Prop}{es:Es}{w:World}(hR:R G g D es w)(hD:∀n,D n->D' n):R G g D' es w:=
 hR.step (fun _=>Nat.le_refl _) (fun _ _ _=>rfl) hD (fun _ _=>rfl) (fun _ _=>rfl) (fun n e h=> .inl ⟨h,fun _ _=>⟨rfl,rfl⟩⟩) hR.foots hR.fresh
theorem VRel.more{g:Gh}{D D':Nat->Prop}{w:World}{v:Value}{c:V}(h:VRel g D w v c)(hD:∀n,D n->D' n):VRel g D' w v c:=
 h.mono (fun _=>Nat.le_refl _) (fun _ _ _=>rfl) hD (fun _ _=>rfl) (fun _ _=>rfl)
theorem Zcr{es:Es}{r i:Nat}{e:Ent}(h:zm ((r,Ent.gone)::es) i=some e):(i=r/\e= .gone)\/(i≠r/\zm es i=some e):=by
 rw[zq] at h
 grind
theorem R.gone{G:Zfn}{g:Gh}{D:Nat->Prop}{es:Es}{w:World}(hR:R G g D es w){r:Nat}{e:Ent}(hr:zm es r=some e):
 R G g D ((r,.gone)::es) w/\Ext D g (Foot g es) w g (Foot g ((r,.gone)::es)) w:=by
 refine⟨hR.step (fun _=>Nat.le_refl _) (fun _ _ _=>rfl) (fun _ h=>h) (fun _ _=>rfl) (fun _ _=>rfl) ?_ ?_ hR.fresh,?_⟩
 ·intro n e h;rcases Zcr h with⟨rfl,rfl⟩|⟨_,h2⟩
  ·exact .inr ⟨hR.lt _ _ hr,trivial⟩
  grind
 ·intro n n' e e' b h1 h2 h3 h4;rcases Zcr h1 with⟨rfl,rfl⟩|⟨_,h1⟩
  ·cases h3
  ·rcases Zcr h2 with⟨rfl,rfl⟩|⟨_,h2⟩
   ·cases h4
   ·exact hR.foots n n' e e' b h1 h2 h3 h4
 ·refine {Ext.refl D g (Foot g es) w with newf:= ?_};rintro b ⟨n,e,h1,h2⟩;rcases Zcr h1 with⟨rfl,rfl⟩|⟨_,h1⟩
  ·cases h2
  ·exact .inl ⟨n,e,h1,h2⟩
def Gh.rowN(g:Gh)(n:Nat)(ρ:Option RowG):Gh:={g with row:=fun i=>if i=n then ρ else g.row i}
theorem yk{es:Es}{n i:Nat}{d e:Ent}(hi:i≠n)(h:zm ((n,d)::es) i=some e):zm es i=some e:=by
 rw[zq,if_neg (fun e=>hi e.symm)] at h;exact h
theorem vv{es:Es}{n:Nat}{d e:Ent}(h:zm ((n,d)::es) n=some e):e=d:=by
 rw[zq,if_pos rfl] at h;grind
theorem R.newrow{G:Zfn}{g:Gh}{D:Nat->Prop}{es:Es}{w:World}(hR:R G g D es w){n:Nat}(hn:¬D n)(vs:Array Value)(t:TypeId)(len cap sz:Nat)(hs:vs.size=cap*sz)(hc:len<=cap):
 R G ((g.share w.heap.size (len*sz)).rowN n (some ⟨w.heap.size,len,cap,sz,0⟩)) (fun i=>D i\/i=n) ((n,.row)::es) (w.alloc (.cells vs t))/\
 Ext D g (Foot g es) w ((g.share w.heap.size (len*sz)).rowN n (some ⟨w.heap.size,len,cap,sz,0⟩)) (Foot ((g.share w.heap.size (len*sz)).rowN n (some ⟨w.heap.size,len,cap,sz,0⟩)) ((n,.row)::es)) (w.alloc (.cells vs t)):=by
 obtain⟨h1,h2⟩:=hR.share vs t (len*sz) (by rw[hs];exact Nat.mul_le_mul_right _ hc);have hrow:∀i,D i->((g.share w.heap.size (len*sz)).rowN n (some ⟨w.heap.size,len,cap,sz,0⟩)).row i=(g.share w.heap.size (len*sz)).row i:=fun i hi=>by
  have:i≠n:=fun e=>hn (e▸hi);simp[Gh.rowN,this]
 have hnew:((g.share w.heap.size (len*sz)).rowN n (some ⟨w.heap.size,len,cap,sz,0⟩)).row n=some ⟨w.heap.size,len,cap,sz,0⟩:=by simp[Gh.rowN]
 have hfold:∀i e b,zm es i=some e->e.foot ((g.share w.heap.size (len*sz)).rowN n (some ⟨w.heap.size,len,cap,sz,0⟩)) i=some b->e.foot g i=some b/\b<w.heap.size:=fun i e b h1 h2=>by
  have h2:=(Ent.foot_same (g:=g) (g':=(g.share w.heap.size (len*sz)).rowN n (some ⟨w.heap.size,len,cap,sz,0⟩)) (e:=e) (hR.lt i e h1) (fun _ _=>rfl) hrow).symm.trans h2;exact⟨h2,hR.foot_lt h1 h2⟩
 refine⟨h1.step (fun _=>Nat.le_refl _) (fun _ _ _=>rfl) (fun i hi=> .inl hi) (fun _ _=>rfl) hrow ?_ ?_ h1.fresh,?_⟩
 ·intro i e he;by_cases hi:i=n
  ·subst hi;rw[vv he];refine .inr ⟨.inr rfl,fun ρ hρ=> ?_⟩;rw[hnew] at hρ;cases hρ;exact⟨vs,t,heap_alloc_new w _,by grind,by simp[Gh.share,Gh.rowN],hc⟩
  ·exact .inl ⟨yk hi he,fun b hb=>⟨rfl,rfl⟩⟩
 ·intro i j e e' b h3 h4 h5 h6;by_cases hi:i=n
  ·by_cases hj:j=n
   ·omega
   ·subst hi;rw[vv h3] at h5;simp[Ent.foot,hnew] at h5;have:=hfold j e' b (yk hj h4) h6;omega
  ·by_cases hj:j=n
   ·subst hj;rw[vv h4] at h6;simp[Ent.foot,hnew] at h6;have:=hfold i e b (yk hi h3) h5;omega
   ·exact hR.foots i j e e' b (yk hi h3) (yk hj h4) (hfold i e b (yk hi h3) h5).1 (hfold j e' b (yk hj h4) h6).1
 ·refine ⟨rfl,rfl,rfl,h2.size,h2.cells,h2.mark,fun _ _=>rfl,hrow,h2.frame,?_⟩;rintro b ⟨i,e,h3,h4⟩;by_cases hi:i=n
  ·subst hi;rw[vv h3] at h4;simp[Ent.foot,hnew] at h4;omega
  ·exact .inl ⟨i,e,yk hi h3,(hfold i e b (yk hi h3) h4).1⟩
theorem R.nilrow{G:Zfn}{g:Gh}{D:Nat->Prop}{es:Es}{w:World}(hR:R G g D es w){n:Nat}(hn:¬D n):
 R G (g.rowN n none) (fun i=>D i\/i=n) ((n,.row)::es) w/\Ext D g (Foot g es) w (g.rowN n none) (Foot (g.rowN n none) ((n,.row)::es)) w:=by
 have hrow:∀i,D i->(g.rowN n none).row i=g.row i:=fun i hi=>by
  have:i≠n:=fun e=>hn (e▸hi);simp[Gh.rowN,this]
 have hnew:(g.rowN n none).row n=none:=by simp[Gh.rowN]
 have hfold:∀i e b,zm es i=some e->e.foot (g.rowN n none) i=some b->e.foot g i=some b:=fun i e b h1 h2=>by
  exact(Ent.foot_same (g:=g) (g':=g.rowN n none) (e:=e) (hR.lt i e h1) (fun _ _=>rfl) hrow).symm.trans h2
 refine⟨hR.step (fun _=>Nat.le_refl _) (fun _ _ _=>rfl) (fun i hi=> .inl hi) (fun _ _=>rfl) hrow ?_ ?_ hR.fresh,?_⟩
 ·intro i e he;by_cases hi:i=n
  ·subst hi;rw[vv he];exact .inr ⟨.inr rfl,fun ρ hρ=>by grind⟩
  ·exact .inl ⟨yk hi he,fun b hb=>⟨rfl,rfl⟩⟩
 ·intro i j e e' b h3 h4 h5 h6;by_cases hi:i=n
  ·subst hi;rw[vv h3] at h5;simp[Ent.foot,hnew] at h5
  ·by_cases hj:j=n
   ·subst hj;rw[vv h4] at h6;simp[Ent.foot,hnew] at h6
   ·exact hR.foots i j e e' b (yk hi h3) (yk hj h4) (hfold i e b (yk hi h3) h5) (hfold j e' b (yk hj h4) h6)
 ·refine {Ext.refl D g (Foot g es) w with row:=hrow,newf:= ?_};rintro b ⟨i,e,h3,h4⟩;by_cases hi:i=n
  ·subst hi;rw[vv h3] at h4;simp[Ent.foot,hnew] at h4
  ·exact .inl ⟨i,e,yk hi h3,hfold i e b (yk hi h3) h4⟩
theorem R.grow{G:Zfn}{g:Gh}{D:Nat->Prop}{es:Es}{w:World}(hR:R G g D es w){n r:Nat}(hn:¬D n)(hr:zm es r=some .row){ρ:RowG}(hρ:g.row r=some ρ)
 {cur:Array Value} {t:TypeId} (hh:w.heap[ρ.b]? =some (.cells cur t (0,0))) (cur':Array Value) (hsz:cur'.size=cur.size) (hsame:∀o,o<ρ.off+ρ.len*ρ.sz->cur'[o]? =cur[o]?) (len:Nat)
 (hlen:ρ.len<=len) (hcap:len<=ρ.cap):
 R G (({g with m:=fun i=>if i=ρ.b then ρ.off+len*ρ.sz else g.m i}:Gh).rowN n (some ⟨ρ.b,len,ρ.cap,ρ.sz,ρ.off⟩)) (fun i=>D i\/i=n) ((n,.row)::(r,.gone)::es) (w.setRow ρ.b cur')/\
 Ext D g (Foot g es) w (({g with m:=fun i=>if i=ρ.b then ρ.off+len*ρ.sz else g.m i}:Gh).rowN n (some ⟨ρ.b,len,ρ.cap,ρ.sz,ρ.off⟩))
  (Foot (({g with m:=fun i=>if i=ρ.b then ρ.off+len*ρ.sz else g.m i}:Gh).rowN n (some ⟨ρ.b,len,ρ.cap,ρ.sz,ρ.off⟩)) ((n,.row)::(r,.gone)::es)) (w.setRow ρ.b cur'):=by
 obtain⟨cur0,t0,h1,h2,h3,h4⟩:=hR.ents r _ hr ρ hρ;rw[hh] at h1;cases h1;generalize hg':(({g with m:=fun i=>if i=ρ.b then ρ.off+len*ρ.sz else g.m i}:Gh).rowN n (some ⟨ρ.b,len,ρ.cap,ρ.sz,ρ.off⟩))=g';have hblk:∀i,g'.blk i=g.blk i:=fun i=>by subst hg';rfl
 have hrow:∀i,D i->g'.row i=g.row i:=fun i hi=>by
  have:i≠n:=fun e=>hn (e▸hi);subst hg';simp[Gh.rowN,this]
 have hnew:g'.row n=some ⟨ρ.b,len,ρ.cap,ρ.sz,ρ.off⟩:=by subst hg';simp[Gh.rowN]
 have hmb:g'.m ρ.b=ρ.off+len*ρ.sz:=by subst hg';simp[Gh.rowN]
 have hmo:∀b,b≠ρ.b->g'.m b=g.m b:=fun b hb=>by subst hg';simp[Gh.rowN,hb]
 have hm:∀b,g.m b<=g'.m b:=fun b=>by
  by_cases hb:b=ρ.b
  ·subst hb;rw[hmb,h3];exact Nat.add_le_add_left (Nat.mul_le_mul_right _ hlen) _
  grind
 have hheap:(w.setRow ρ.b cur').heap[ρ.b]? =some (.cells cur' t (0,0)):=setRow_heap w _ _ _ t _ hh;have hother:∀b,b≠ρ.b->(w.setRow ρ.b cur').heap[b]? =w.heap[b]? :=fun b hb=>setRow_other w _ b _ hb;have hcell:∀b o,o<g.m b->(w.setRow ρ.b cur').cell? ⟨b,o,none⟩=w.cell? ⟨b,o,none⟩:=fun b o ho=>by
  by_cases hb:b=ρ.b
  ·subst hb;rw[Zdd hheap,Zdd hh]
   grind
  ·exact Zcl w _ _ b o hb
 have hDr:D r:=hR.lt r _ hr;have hnr:r≠n:=fun e=>hn (e▸hDr);have hent:∀i e,zm ((n,Ent.row)::(r,Ent.gone)::es) i=some e->(i=n/\e= .row)\/(i=r/\e= .gone)\/(i≠n/\i≠r/\zm es i=some e):=fun i e h=>by
  by_cases hi:i=n
  ·subst hi;exact .inl ⟨rfl,vv h⟩
  ·rcases Zcr (yk hi h) with⟨h5,h6⟩|⟨h5,h6⟩;all_goals grind
 have hfold:∀i e b,zm es i=some e->e.foot g' i=some b->e.foot g i=some b:=fun i e b h1 h2=>by
  rw[Ent.foot_same (hR.lt i e h1) (g:=g) (fun i _=>hblk i) hrow] at h2;exact h2
 have hrb:(Ent.row).foot g r=some ρ.b:=by simp[Ent.foot,hρ]
 have hne:∀i e b,i≠r->zm es i=some e->e.foot g i=some b->b≠ρ.b:=fun i e b hi h5 h6 e2=>by
  subst e2;exact hi (hR.foots i r e _ _ h5 hr h6 hrb)
 have hnf:∀b,(Ent.row).foot g' n=some b->b=ρ.b:=fun b h=>by simp[Ent.foot,hnew] at h;omega
 refine⟨hR.step hm hcell (fun i hi=> .inl hi) (fun i _=>hblk i) hrow ?_ ?_ ?_,?_⟩
 ·intro i e he;rcases hent i e he with⟨rfl,rfl⟩|⟨rfl,rfl⟩|⟨h5,h6,h7⟩
  ·refine .inr ⟨.inr rfl,fun ρ' hρ'=> ?_⟩
   grind
  ·exact .inr ⟨.inl hDr,trivial⟩
  grind
 ·intro i j e e' b h5 h6 h7 h8;rcases hent i e h5 with⟨rfl,rfl⟩|⟨rfl,rfl⟩|⟨h9,h10,h11⟩
  ·rcases hent j e' h6 with⟨rfl,rfl⟩|⟨rfl,rfl⟩|⟨h12,h13,h14⟩
   ·rfl
   ·cases h8
   grind
  ·cases h7
  ·rcases hent j e' h6 with⟨rfl,rfl⟩|⟨rfl,rfl⟩|⟨h12,h13,h14⟩
   ·grind
   ·cases h8
   ·exact hR.foots i j e e' b h11 h14 (hfold i e b h11 h7) (hfold j e' b h14 h8)
 ·intro b hb;simp at hb;have h5:ρ.b<w.heap.size:=(Array.getElem?_eq_some_iff.1 hh).1;rw[hmo b (by omega)];exact hR.fresh b hb
 ·refine ⟨rfl,rfl,rfl,by simp,hcell,hm,fun i _=>hblk i,hrow,fun b hb hf=> ?_,?_⟩
  ·have:b≠ρ.b:=fun e=>hf ⟨r,_,hr,by grind⟩
   grind
  ·rintro b ⟨i,e,h5,h6⟩;rcases hent i e h5 with⟨rfl,rfl⟩|⟨rfl,rfl⟩|⟨h9,h10,h11⟩
   ·exact .inl ⟨r,_,hr,by grind⟩
   ·cases h6
   ·exact .inl ⟨i,e,h11,hfold i e b h11 h6⟩
def OS(E:Env)(N:Nat)(o:Oper)(a:AF)(pre:Es)(v:V)(news:List Nat)(post:Es):Prop:=
 ∀g D es w act,R E.G g D es w->(∀p∈pre,zm es p.1=some p.2)->(∀n∈news,¬D n)->FRel g D w N act a->∀(K:Act->World->Prop) (Q:Exit->Act->World->Prop),
  (∀g' v' w',R E.G g' (fun n=>D n\/n∈news) (post++es) w'->VRel g' (fun n=>D n\/n∈news) w' v' v->Ext D g (Foot g es) w g' (Foot g' (post++es)) w'->K (act.put o.dst v') w')->o.wp E.P act w K Q
def OSY(E:Env)(N:Nat)(o:Oper)(a:AF)(pre:Es)(v:V)(news:List Nat)(post:Es):Prop:=
 ∀g D es w act,R E.G g D es w->YOk E.Y g (Foot g es) w->(∀p∈pre,zm es p.1=some p.2)->(∀n∈news,¬D n)->FRel g D w N act a->∀(K:Act->World->Prop) (Q:Exit->Act->World->Prop),
  (∀g' v' w',R E.G g' (fun n=>D n\/n∈news) (post++es) w'->VRel g' (fun n=>D n\/n∈news) w' v' v->Ext D g (Foot g es) w g' (Foot g' (post++es)) w'->K (act.put o.dst v') w')->o.wp E.P act w K Q
theorem OS.y{E:Env}{N:Nat}{o:Oper}{a:AF}{pre:Es}{v:V}{news:List Nat}{post:Es}(h:OS E N o a pre v news post):OSY E N o a pre v news post:=
 fun g D es w act hR _=>h g D es w act hR
section
variable {E:Env} {N:Nat} {o:Oper} {a:AF}
theorem OS.of_run{pre:Es}{v:V}{news:List Nat}{post:Es}
 (h:∀g D es w act,R E.G g D es w->(∀p∈pre,zm es p.1=some p.2)->(∀n∈news,¬D n)->FRel g D w N act a->
  ∃g' v' w',(execOp act.eval o).run E.P w= .ok (.value v') w'/\R E.G g' (fun n=>D n\/n∈news) (post++es) w'/\VRel g' (fun n=>D n\/n∈news) w' v' v/\Ext D g (Foot g es) w g' (Foot g' (post++es)) w'):
 OS E N o a pre v news post:=by
 intro g D es w act hR hp hn hF K Q hK;obtain⟨g',v',w',h1,h2,h3,h4⟩:=h g D es w act hR hp hn hF;unfold Oper.wp;rw[h1];exact hK g' v' w' h2 h3 h4
theorem OS.of_skip{pre:Es}{post:Es}
 (h:∀g D es w act,R E.G g D es w->(∀p∈pre,zm es p.1=some p.2)->FRel g D w N act a->
  ∃w',(execOp act.eval o).run E.P w= .ok .skip w'/\R E.G g D (post++es) w'/\Ext D g (Foot g es) w g (Foot g (post++es)) w'):
 OS E N o a pre (.tup []) [] post:=by
 intro g D es w act hR hp hn hF K Q hK;obtain⟨w',h1,h2,h4⟩:=h g D es w act hR hp hF;unfold Oper.wp;rw[h1];exact hK g undef w' (h2.more fun n h=> .inl h) (.tup [] [] rfl (fun i v c h=>by simp)) h4
theorem OS.pure{pre:Es}{v:V}
 (h:∀g D es w act,R E.G g D es w->(∀p∈pre,zm es p.1=some p.2)->FRel g D w N act a->∃v',(execOp act.eval o).run E.P w= .ok (.value v') w/\VRel g D w v' v):
 OS E N o a pre v [] []:=
 .of_run fun g D es w act hR hp _ hF=>
  let ⟨v',h1,h2⟩:=h g D es w act hR hp hF
  ⟨g,v',w,h1,hR.more fun n h=> .inl h,h2.more fun n h=> .inl h,.refl ..⟩
theorem VRel.int_inv{g:Gh}{D:Nat->Prop}{w:World}{v:Value}{k:IntKind}{n:Int}(h:VRel g D w v (.int k n)):v= .int k n:=by
 cases h with|data h=>cases h;rfl
theorem VRel.bool_inv{g:Gh}{D:Nat->Prop}{w:World}{v:Value}{b:Bool}(h:VRel g D w v (.bool b)):v= .bool b:=by
 cases h with|data h=>cases h;rfl
theorem VRel.agg_inv{g:Gh}{D:Nat->Prop}{w:World}{v:Value}{cs:List V}(h:VRel g D w v (.agg cs)):
 ∃vs:List Value,v= .agg vs.toArray/\vs.length=cs.length/\(∀v∈vs,v.oneCell'=true)/\∀(i:Nat) v c,vs[i]? =some v->cs[i]? =some c->VRel g D w v c:=by
 cases h with
 |data h=>cases h
 |agg vs _ hl h1 h=>grind
theorem VRel.tup_inv{g:Gh}{D:Nat->Prop}{w:World}{v:Value}{cs:List V}(h:VRel g D w v (.tup cs)):
 ∃vs:List Value,v= .tuple vs.toArray/\vs.length=cs.length/\∀(i:Nat) v c,vs[i]? =some v->cs[i]? =some c->VRel g D w v c:=by
 cases h with
 |data h=>cases h
 |tup vs _ hl h=>grind
theorem VRel.slice_inv{g:Gh}{D:Nat->Prop}{w:World}{v:Value}{sp:Sp}{l:SL V}(h:VRel g D w v (.slice sp l)):DRel g.m w v (.slice .any l):=by
 have:=VLe.any sp l g D w v h;cases this<;>simp_all
theorem VRel.fn_inv{g:Gh}{D:Nat->Prop}{w:World}{v:Value}{f:Fn}{fi caps:List V}(h:VRel g D w v (.fn f fi caps)):
 ∃vs vs':List Value,v= .func f vs.toArray vs'.toArray/\vs.length=fi.length/\vs'.length=caps.length/\(∀(i:Nat) v c,vs[i]? =some v->fi[i]? =some c->VRel g D w v c)/\
  ∀(i:Nat) v c,vs'[i]? =some v->caps[i]? =some c->VRel g D w v c:=by
 cases h with
 |data h=>cases h
 |fn _ vs vs' _ _ h1 h2 h3 h4=>grind
theorem DRel.slice_inv{m:Nat->Nat}{w:World}{v:Value}{l:SL V}(h:DRel m w v (.slice .any l)):∃b cap,v= .slice b l.len cap:=by
 cases h<;>simp_all
theorem Zce{t:TypeId}{i:TI}(h:E.ti t=some i):∃inf,E.P.info? t=some inf/\inf.size=i.size/\∃z,inf.zero=some z/\Zjg z.cells.toList i.zero=true:=by
 have:=Env.ti_ok h;unfold tiB at this;rw[Bool.and_eq_true] at this;have h1:=this.1;split at h1
 ·rename_i inf hi;rw[Bool.and_eq_true] at h1;have h2:=h1.2;split at h2;all_goals simp_all
 grind
theorem Zc8{t:TypeId}{i:TI}(h:E.ti t=some i):∃d,E.P.underlying t=some d/\(match d,i.desc with
 |(.int k),.int k'=>decide (k=k')
 | .bool,.bool=>true
 | .string,.str=>true
 |(.struct fs),.strct gs=>Zbt E.P fs.toList gs
 |(.array n e),.arr n' esz eagg=>Nat.beq n n'&&Zuq E.P e esz&&Nat.blt 0 esz&&(match Yk9 E.P e with|some b=>decide (b=eagg)|none=>false)
 |(.slice e),.slc c esz bytes=>Yhy E.P e esz bytes&&Nat.blt 0 esz&&Yku c esz
 |d,.other=>(match d with| .struct _| .array _ _| .slice _=>false|_=>true)
 |_,_=>false)=true:=by
 have:=Env.ti_ok h;unfold tiB at this
 grind
theorem Zef{t:TypeId}{inf:TypeInfo}{z:Value}{w:World}(h:E.P.info? t=some inf)(hz:inf.zero=some z):(zeroValue t).run E.P w= .ok z w:=by
 simp[zeroValue,typeInfo,h,hz]
theorem x8{t:TypeId}{inf:TypeInfo}{w:World}(h:E.P.info? t=some inf):(sizeOf t).run E.P w= .ok inf.size w:=by
 simp[sizeOf,typeInfo,h]
theorem yp{t:TypeId}{d:TypeDesc}{w:World}(h:E.P.underlying t=some d):(underlying t).run E.P w= .ok d w:=by
 simp[underlying,h]
def TD.agg:TD->Bool| .strct _| .arr _ _ _=>true|_=>false
theorem Zxm{t:TypeId}{i:TI}{w:World}(h:E.ti t=some i):(isAgg t).run E.P w= .ok i.desc.agg w:=by
 obtain⟨d,h1,h2⟩:=Zc8 h;unfold isAgg;simp only[Sem.run_bind,yp h1,Result.andThen_ok];revert h2;cases d<;>cases i.desc<;>simp[TD.agg]
theorem Zae:∀{vs:List Value} {cs:List V},Zjg vs cs=true->vs.length=cs.length/\(∀v∈vs,v.oneCell'=true)/\
 ∀(g:Gh) (D:Nat->Prop) (w:World) (i:Nat) v c,vs[i]? =some v->cs[i]? =some c->VRel g D w v c:=by
 intro vs;induction vs with
 |nil=>intro cs h;cases cs with|nil=>simp|cons=>simp[Zjg] at h
 |cons v l ih=>
  intro cs h;cases cs with
  |nil=>simp[Zjg] at h
  |cons c l'=>
   simp only[Zjg,Bool.and_eq_true] at h;obtain⟨h1,h2⟩:=h;obtain⟨h3,h4,h5⟩:=ih h2;have hv:v.oneCell'=true/\∀(g:Gh) (D:Nat->Prop) (w:World),VRel g D w v c:=by
    split at h1
    ·simp only[Bool.and_eq_true,decide_eq_true_eq] at h1;obtain⟨rfl,rfl⟩:=h1;exact⟨rfl,fun _ _ _=> .data (.int _ _)⟩
    ·simp only[decide_eq_true_eq] at h1;subst h1;exact⟨rfl,fun _ _ _=> .data (.bool _)⟩
    ·simp only[decide_eq_true_eq] at h1;subst h1;exact⟨rfl,fun _ _ _=> .data (.str _)⟩
    ·exact ⟨rfl,fun _ _ _=> .nilS _ (Nat.eq_of_beq_eq_true h1)⟩
    ·exact ⟨rfl,fun _ _ _=> .nilp⟩
    ·exact ⟨rfl,fun _ _ _=> .nilf⟩
    ·exact ⟨rfl,fun _ _ _=> .raw _⟩
    ·exact ⟨rfl,fun _ _ _=> .raw _⟩
    grind
   grind
theorem OS.move{x:Operand}{v:V}(ho:o.op= .move x\/o.op= .assign x)(h:ev E o.type a x=some v):OS E N o a [] v [] []:=
 .pure fun g D es w act hR _ hF=>⟨_,by rcases ho with ho|ho<;>simp[execOp,ho],z6 h hR hF⟩
theorem OS.pick{c x y:Operand}{b:Bool}{v:V}(ho:o.op= .pick c x y)(hc:ev E 0 a c=some (.bool b))(h:ev E o.type a (if b then x else y)=some v):OS E N o a [] v [] []:=
 .pure fun g D es w act hR _ hF=>by
  have h1:=(z6 hc hR hF).bool_inv;have h2:=z6 h hR hF;refine⟨_,?_,h2⟩;cases b<;>simp[execOp,ho,h1,asBool]
def cellsOf:V->Option (List V)
 | .agg cs=>some cs
 | .tup _=>none
 | .raw _=>none
 |v=>some [v]
theorem Zag{c:V}{cs:List V}(h:cellsOf c=some cs){g:Gh}{D:Nat->Prop}{w:World}{v:Value}(hv:VRel g D w v c):
 ∃vs:List Value,v.cells=vs.toArray/\vs.length=cs.length/\(∀v∈vs,v.oneCell'=true)/\∀(i:Nat) v c,vs[i]? =some v->cs[i]? =some c->VRel g D w v c:=by
 have one:∀{v:Value} {c:V},VRel g D w v c->v.oneCell'=true->v.cells= #[v]->∃vs:List Value,v.cells=vs.toArray/\vs.length=[c].length/\(∀v∈vs,v.oneCell'=true)/\∀(i:Nat) v c',vs[i]? =some v->[c][i]? =some c'->VRel g D w v c':=by
  grind
 have hv0:=hv;cases hv with
 |data h1=>cases h1<;>(simp only[cellsOf,Option.some.injEq] at h;subst h;exact one hv0 rfl rfl)
 |agg vs cs' hl h1 h2=>simp only[cellsOf,Option.some.injEq] at h;subst h;exact⟨vs,rfl,hl,h1,h2⟩
 |tup=>cases h
 |raw=>cases h
 |own r hr v l h1 hd=>
  simp only[cellsOf,Option.some.injEq] at h;subst h;cases hd<;>exact one hv0 rfl rfl
 |_=>simp only[cellsOf,Option.some.injEq] at h;subst h;exact one hv0 rfl rfl
theorem Zyh(D:Nat->Prop)(g:Gh)(n:Nat)(w:World){b:Nat}{ρ:Option RowG}:VRel (g.nameR n b ρ) (fun i=>D i\/i∈[n]) w (.pointer (some ⟨b,0,none⟩)) (.ptr n 0):=by
 have h:=VRel.ptr (g:=g.nameR n b ρ) (D:=fun i=>D i\/i∈[n]) (w:=w) n 0 (Or.inr (List.mem_singleton.2 rfl));have hb:(g.nameR n b ρ).blk n=b:=by simp[Gh.nameR]
 grind
theorem OS.box{t:TypeId}{x:Operand}{c:V}{cs:List V}{n:Nat}(ho:o.op= .box t x)(h:ev E t a x=some c)(hc:cellsOf c=some cs):OS E N o a [] (.ptr n 0) [n] [(n,.var cs)]:=
 .of_run fun g D es w act hR _ hn hF=>by
  obtain⟨vs,h1,h2,h3,h4⟩:=Zag hc (z6 h hR hF);obtain⟨hR',hx⟩:=hR.box (hn n (by simp)) t (Nat.le_of_eq h2.symm) h3 h4;refine⟨g.nameR n w.heap.size none,.pointer (some ⟨w.heap.size,0,none⟩),w.alloc (.cells vs.toArray t),?_,hR'.more (fun i hi=>by grind),?_,hx⟩
  ·simp only[execOp,ho,Instr.box,newVar,newRow,Sem.run_bind,Sem.run_pure,run_newObj,Result.andThen_ok,h1,World.alloc_eq]
  ·exact Zyh D g n _
theorem OS.alloc{t:TypeId}{i:TI}{n:Nat}(ho:o.op= .alloc t)(h:E.ti t=some i):OS E N o a [] (.ptr n 0) [n] [(n,.var i.zero)]:=
 .of_run fun g D es w act hR _ hn hF=>by
  obtain⟨inf,h1,h2,z,h3,h4⟩:=Zce h;obtain⟨h5,h6,h7⟩:=Zae h4;obtain⟨hR',hx⟩:=hR.box (hn n (by simp)) t (Nat.le_of_eq h5.symm) h6 (fun i v c hv hc=>h7 g D w i v c hv hc);refine⟨g.nameR n w.heap.size none,.pointer (some ⟨w.heap.size,0,none⟩),w.alloc (.cells z.cells.toList.toArray t),?_,hR'.more (fun i hi=>by grind),?_,hx⟩
  ·simp only[execOp,ho,Instr.alloc,newVar,newRow,Sem.run_bind,Sem.run_pure,run_newObj,Result.andThen_ok,Zef h1 h3,World.alloc_eq,Array.toArray_toList]
  ·exact Zyh D g n _
def Zlv(i:TI)(cs:List V):Option V:=
 bif i.desc.agg then(bif Nat.ble i.size cs.length then some (.agg (cs.take i.size)) else none) else cs.head?
theorem Zv0(b off n:Nat):(⟨b,off,none⟩:Addr).add n=⟨b,off+n,none⟩:=by
 unfold Addr.add;simp
theorem Zi3{t:TypeId}{i:TI}{b off:Nat}{cs:List V}{c:V}{g:Gh}{D:Nat->Prop}{w:World}(h:E.ti t=some i)(hc:Zlv i cs=some c)(f:Nat->Value)
 (h1:∀j,j<cs.length->w.cell? ⟨b,off+j,none⟩=some (f j)) (h2:∀(j:Nat) c,cs[j]? =some c->VRel g D w (f j) c/\(f j).oneCell'=true):
 ∃v,(loadVar t ⟨b,off,none⟩).run E.P w= .ok v w/\VRel g D w v c:=by
 obtain⟨inf,hi,hs,_⟩:=Zce h;unfold loadVar;simp only[Sem.run_bind,Zxm h,Result.andThen_ok];unfold Zlv at hc;cases ha:i.desc.agg with
 |true=>
  rw[ha] at hc;simp only[cond_true] at hc;cases hb:Nat.ble i.size cs.length with
  |false=>grind
  |true=>
   rw[hb] at hc;simp only[cond_true,Option.some.injEq] at hc;have hle:=Nat.le_of_ble_eq_true hb;have hload:=run_loadCells (P:=E.P) (w:=w) ⟨b,off,none⟩ i.size f (fun j hj=>by rw[Zv0];grind);subst hc;refine⟨.agg ((List.range i.size).map f).toArray,?_,?_⟩
   ·simp only[if_true,Sem.run_bind,x8 hi,Result.andThen_ok,hs,hload,Sem.run_pure]
   ·refine .agg _ _ (by grind) ?_ ?_
    ·intro v hv;simp only[List.mem_map,List.mem_range] at hv;obtain⟨j,hj,rfl⟩:=hv;exact(h2 j _ (List.getElem?_eq_getElem (by omega))).2
    grind
 |false=>
  rw[ha] at hc;simp only[cond_false] at hc;cases cs with
  |nil=>cases hc
  |cons c' l=>
   simp only[List.head?_cons,Option.some.injEq] at hc;subst hc;have h3:=h1 0 (by simp);simp_all
end
section
variable {E:Env} {N:Nat} {o:Oper} {a:AF}
theorem DRel.one{m:Nat->Nat}{w:World}{v:Value}{c:V}(h:DRel m w v c):v.oneCell'=true:=by cases h<;>rfl
theorem OS.loadA{t:TypeId}{x:Operand}{i:TI}{cs:List V}{c:V}(ho:o.op= .load t x)(ht:E.ti t=some i)(hx:ev E 0 a x=some (.addr cs))(hc:Zlv i cs=some c):OS E N o a [] c [] []:=
 .pure fun g D es w act hR _ hF=>by
  have h1:=z6 hx hR hF;generalize hv:act.eval x=v at h1;cases h1 with
  |data h=>cases h
  |addr b off _ f hm hc1 hr=>
   obtain⟨v',h2,h3⟩:=Zi3 (E:=E) (g:=g) (D:=D) (w:=w) (b:=b) (off:=off) ht hc f hc1 (fun j c hj=>⟨.data (hr j c hj),(hr j c hj).one⟩);exact⟨v',by simp[execOp,ho,Instr.loadAt,Instr.sureAddr,hv,h2],h3⟩
theorem OS.loadB{t:TypeId}{x:Operand}{i:TI}{n off:Nat}{cs:List V}{c:V}(ho:o.op= .load t x)(ht:E.ti t=some i)(hx:ev E 0 a x=some (.ptr n off))(hc:Zlv i (cs.drop off)=some c):
 OS E N o a [(n,.var cs)] c [] []:=
 .pure fun g D es w act hR hp hF=>by
  have h1:=z6 hx hR hF;have hn:=hp (n,.var cs) (by simp);obtain⟨_,vs,t',h4,h5,h6,h7,_⟩:=hR.ents n _ hn;generalize hv:act.eval x=v at h1;cases h1 with
  |data h=>cases h
  |ptr _ _ hD=>
   obtain⟨v',h2,h3⟩:=Zi3 (E:=E) (g:=g) (D:=D) (w:=w) (b:=g.blk n) (off:=off) ht hc (fun j=>vs.getD (off+j) undef)
    (fun j hj=>by
     simp only[List.length_drop] at hj;rw[Zdd h4]
     grind)
    (fun j c hj=>by
     grind)
   exact⟨v',by simp[execOp,ho,Instr.loadAt,Instr.sureAddr,hv,h2],h3⟩
theorem Zk4{α:Type}(l m:List α)(o i:Nat)(ho:o+m.length<=l.length):
 (l.take o++m++l.drop (o+m.length))[i]? =if i<o then l[i]? else if i<o+m.length then m[i-o]? else l[i]? :=by
 grind
theorem OS.store{t:TypeId}{x y:Operand}{i:TI}{n off:Nat}{cs:List V}{c:V}{vc:List V}(ho:o.op= .store t x y)(ht:E.ti t=some i)(hx:ev E 0 a x=some (.ptr n off))(hy:ev E t a y=some c)
 (hc:cellsOf c=some vc) (hs:vc.length=i.size) (hb:Nat.ble (off+vc.length) cs.length=true):
 OS E N o a [(n,.var cs)] (.tup []) [] [(n,.var (cs.take off++vc++cs.drop (off+vc.length)))]:=
 .of_skip fun g D es w act hR hp hF=>by
  have h1:=z6 hx hR hF;have hn:=hp (n,.var cs) (by simp);have hle:=Nat.le_of_ble_eq_true hb;obtain⟨_,vs,t',h4,h5,h6,h7,_⟩:=hR.ents n _ hn;obtain⟨us,h8,h9,h10,h11⟩:=Zag hc (z6 hy hR hF);obtain⟨inf,h12,h13,_⟩:=Zce ht;have hl:us.length=vc.length:=h9;generalize hv:act.eval x=v at h1;cases h1 with
  |data h=>cases h
  |ptr _ _ hD=>
   have hst:=run_storeCells_at E.P (g.blk n) off t' us 0 vs.toArray w h4 (by grind) h10;obtain⟨hR',hx'⟩:=hR.store hn h4 (vs':=vs.take off++us++vs.drop (off+us.length)) (cs':=cs.take off++vc++cs.drop (off+vc.length)) (by grind) (by grind)
    (fun u hu=>by
     grind)
    (fun j u d hu hd=>by
     grind)
   refine⟨w.setRow (g.blk n) (vs.take off++us++vs.drop (off+us.length)).toArray,?_,hR',hx'⟩;have h14:((act.eval y).cells.size≠inf.size)=False:=by grind
   have h15:(act.eval y).cells.toList=us:=by rw[h8]
   simp only[execOp,ho,Instr.storeAt,Instr.sureAddr,hv,storeVar,Sem.run_bind,Sem.run_pure,Result.andThen_ok,x8 h12,h14,if_false,h15,hst,Nat.add_zero]
theorem Zlo:∀{fs:List Field} {gs:List (Nat×Nat×Bool)},Zbt E.P fs gs=true->∀(f:Nat) p,gs[f]? =some p->
 ∃fd,fs[f]? =some fd/\fd.offset=p.1/\(∃inf,E.P.info? fd.type=some inf/\inf.size=p.2.1)/\0<p.2.1/\(∀w,(isAgg fd.type).run E.P w= .ok p.2.2 w):=by
 intro fs;induction fs with
 |nil=>intro gs h f p hp;cases gs with|nil=>grind|cons=>simp[Zbt] at h
 |cons fd l ih=>
  intro gs h f p hp;cases gs with
  |nil=>grind
  |cons q l'=>
   simp only[Zbt,Bool.and_eq_true] at h;obtain⟨⟨⟨⟨h1,h2⟩,h3⟩,h4⟩,h5⟩:=h;cases f with
   |succ f=>grind
   |zero=>
    simp at hp;subst hp;refine⟨fd,rfl,Nat.eq_of_beq_eq_true h1,?_,Nat.le_of_ble_eq_true h3,?_⟩
    ·unfold Zuq at h2;split at h2;all_goals simp_all
    ·intro w;unfold Yk9 at h4;unfold isAgg;cases hu:E.P.underlying fd.type with
     |none=>grind
     |some d=>
      rw[hu] at h4;simp only[Sem.run_bind,yp hu,Result.andThen_ok];cases d<;>simp at h4<;>simp[h4]
theorem Zbv{t:TypeId}{i:TI}{gs:List (Nat×Nat×Bool)}(h:E.ti t=some i)(hd:i.desc= .strct gs):∃fs,E.P.underlying t=some (.struct fs)/\Zbt E.P fs.toList gs=true:=by
 obtain⟨d,h1,h2⟩:=Zc8 h
 grind
theorem Zex{fd:Field}{inf:TypeInfo}{b off:Nat}{w:World}(h:E.P.info? fd.type=some inf)(hs:0<inf.size):
 (fieldPlace ⟨b,off,none⟩ fd).run E.P w= .ok ⟨b,off+fd.offset,none⟩ w:=by
 have:¬inf.size=0:=by omega
 simp[fieldPlace,x8 h,this,Zv0]
theorem OS.fieldAddrA{t:TypeId}{x:Operand}{i:TI}{gs:List (Nat×Nat×Bool)}{f:Nat}{p:Nat×Nat×Bool}{cs:List V}(ho:o.op= .fieldAddr t x f)(ht:E.ti t=some i)(hd:i.desc= .strct gs)
 (hf:gs[f]? =some p) (hx:ev E 0 a x=some (.addr cs)) (hb:Nat.ble p.1 cs.length=true):OS E N o a [] (.addr (cs.drop p.1)) [] []:=
 .pure fun g D es w act hR _ hF=>by
  obtain⟨fs,h1,h2⟩:=Zbv ht hd;obtain⟨fd,h3,h4,⟨inf,h5,h6⟩,h7,_⟩:=Zlo h2 f p hf;have h8:=z6 hx hR hF;have hle:=Nat.le_of_ble_eq_true hb;generalize hv:act.eval x=v at h8;cases h8 with
  |data h=>cases h
  |addr b off _ k hm hc hr=>
   have h9:fs[f]? =some fd:=by grind
   refine⟨.pointer (some ⟨b,off+p.1,none⟩),?_,?_⟩
   ·simp only[execOp,ho,Instr.fieldAt,yp h1,Sem.run_bind,Result.andThen_ok,h9,Instr.sureAddr,hv,Sem.run_pure,Zex (E:=E) h5 (by omega),h4]
   ·refine .addr b (off+p.1) _ (fun j=>k (p.1+j)) (by grind) (fun j hj=> ?_) (fun j c hj=> ?_);all_goals grind
theorem OS.fieldAddrB{t:TypeId}{x:Operand}{i:TI}{gs:List (Nat×Nat×Bool)}{f:Nat}{p:Nat×Nat×Bool}{n off:Nat}(ho:o.op= .fieldAddr t x f)(ht:E.ti t=some i)(hd:i.desc= .strct gs)
 (hf:gs[f]? =some p) (hx:ev E 0 a x=some (.ptr n off)):OS E N o a [] (.ptr n (off+p.1)) [] []:=
 .pure fun g D es w act hR _ hF=>by
  obtain⟨fs,h1,h2⟩:=Zbv ht hd;obtain⟨fd,h3,h4,⟨inf,h5,h6⟩,h7,_⟩:=Zlo h2 f p hf;have h8:=z6 hx hR hF;generalize hv:act.eval x=v at h8;cases h8 with
  |data h=>cases h
  |ptr _ _ hD=>
   have h9:fs[f]? =some fd:=by grind
   refine⟨.pointer (some ⟨g.blk n,off+p.1,none⟩),?_,.ptr n _ hD⟩;simp only[execOp,ho,Instr.fieldAt,yp h1,Sem.run_bind,Result.andThen_ok,h9,Instr.sureAddr,hv,Sem.run_pure,Zex (E:=E) h5 (by omega),h4]
theorem VRel.sub{g:Gh}{D:Nat->Prop}{w:World}{vs:List Value}{cs:List V}(hl:vs.length=cs.length)(h1:∀v∈vs,v.oneCell'=true)(h:∀(i:Nat) v c,vs[i]? =some v->cs[i]? =some c->VRel g D w v c)
 (off n:Nat):VRel g D w (.agg ((vs.drop off).take n).toArray) (.agg ((cs.drop off).take n)):=by
 refine .agg _ _ (by grind) (fun v hv=>h1 v (List.mem_of_mem_drop (List.mem_of_mem_take hv))) (fun i v c hv hc=> ?_)
 grind
def Yg5(p:Nat×Nat×Bool)(cs:List V):Option V:=bif p.2.2 then some (.agg ((cs.drop p.1).take p.2.1)) else cs[p.1]?
theorem OS.field{t:TypeId}{x:Operand}{i:TI}{gs:List (Nat×Nat×Bool)}{f:Nat}{p:Nat×Nat×Bool}{cs:List V}{c:V}(ho:o.op= .field t x f)(ht:E.ti t=some i)(hd:i.desc= .strct gs)
 (hf:gs[f]? =some p) (hx:ev E 0 a x=some (.agg cs)) (hc:Yg5 p cs=some c):OS E N o a [] c [] []:=
 .pure fun g D es w act hR _ hF=>by
  obtain⟨fs,h1,h2⟩:=Zbv ht hd;obtain⟨fd,h3,h4,⟨inf,h5,h6⟩,h7,h8⟩:=Zlo h2 f p hf;obtain⟨vs,h9,h10,h11,h12⟩:=(z6 hx hR hF).agg_inv;have h13:fs[f]? =some fd:=by grind
  unfold Yg5 at hc;cases hb:p.2.2 with
  |true=>
   rw[hb] at hc;simp only[cond_true,Option.some.injEq] at hc;subst hc;refine⟨_,?_,VRel.sub h10 h11 h12 p.1 p.2.1⟩;simp only[execOp,ho,Instr.field,yp h1,Sem.run_bind,Result.andThen_ok,h13,h9,asAgg,Sem.run_pure,part,h8,hb,if_true,x8 h5,h4,h6];simp
  |false=>
   rw[hb] at hc;simp only[cond_false] at hc;have hlt:=(List.getElem?_eq_some_iff.1 hc).1;have h14:vs[p.1]? =some (vs[p.1]'(by omega)):=List.getElem?_eq_getElem _;refine⟨vs[p.1]'(by omega),?_,h12 _ _ c h14 hc⟩;have h15:vs.toArray[p.1]? =some (vs[p.1]'(by omega)):=by simp
   simp only[execOp,ho,Instr.field,yp h1,Sem.run_bind,Result.andThen_ok,h13,h9,asAgg,Sem.run_pure,part,h8,hb,Bool.false_eq_true,if_false,h4,h15]
theorem OS.extract{x:Operand}{ix:Nat}{cs:List V}{c:V}(ho:o.op= .extract x ix)(hx:ev E 0 a x=some (.tup cs))(hc:cs[ix]? =some c):OS E N o a [] c [] []:=
 .pure fun g D es w act hR _ hF=>by
  obtain⟨vs,h9,h10,h12⟩:=(z6 hx hR hF).tup_inv;have hlt:=(List.getElem?_eq_some_iff.1 hc).1;have h14:vs[ix]? =some (vs[ix]'(by omega)):=List.getElem?_eq_getElem _;refine⟨vs[ix]'(by omega),?_,h12 _ _ c h14 hc⟩;have h15:vs.toArray[ix]? =some (vs[ix]'(by omega)):=by simp
  simp only[execOp,ho,Instr.extract,h9,h15,Sem.run_bind,Result.andThen_ok,Sem.run_pure]
theorem OS.not{t:TypeId}{x:Operand}{b:Bool}(ho:o.op= .unOp .not t x)(hx:ev E 0 a x=some (.bool b)):OS E N o a [] (.bool (!b)) [] []:=
 .pure fun g D es w act hR _ hF=>⟨_,by simp[execOp,ho,(z6 hx hR hF).bool_inv,Op.unary],.data (.bool _)⟩
theorem OS.neg{t:TypeId}{x:Operand}{k:IntKind}{n:Int}(ho:o.op= .unOp .neg t x)(hx:ev E 0 a x=some (.int k n)):OS E N o a [] (.int k (k.wrap (0-n))) [] []:=
 .pure fun g D es w act hR _ hF=>⟨_,by simp[execOp,ho,(z6 hx hR hF).int_inv,Op.unary,Op.intArith],.data (.int _ _)⟩
def Yme(op:BinOp)(k:IntKind)(n m:Int):Option V:=
 match op with
 | .add=>some (.int k (k.wrap (n+m)))
 | .sub=>some (.int k (k.wrap (n-m)))
 | .mul=>some (.int k (k.wrap (n*m)))
 | .eql=>some (.bool (n==m))
 | .neq=>some (.bool (n !=m))
 | .lss=>some (.bool (decide (n<m)))
 | .leq=>some (.bool (decide (n<=m)))
 | .gtr=>some (.bool (decide (n>m)))
 | .geq=>some (.bool (decide (n>=m)))
 |_=>none
theorem OS.bin{op:BinOp}{t u:TypeId}{x y:Operand}{k:IntKind}{n m:Int}{c:V}(ho:o.op= .binOp op t x y u)(hx:ev E t a x=some (.int k n))(hy:ev E t a y=some (.int k m))
 (hc:Yme op k n m=some c):OS E N o a [] c [] []:=
 .pure fun g D es w act hR _ hF=>by
  have h1:=(z6 hx hR hF).int_inv;have h2:=(z6 hy hR hF).int_inv;have hg:(eqGuard op t x y (act.eval x) (act.eval y)).run E.P w= .ok () w:=by
   rw[h1,h2];unfold eqGuard;simp
  cases op<;>simp only[Yme,Option.some.injEq,reduceCtorEq] at hc<;>subst hc<;>
   (refine⟨_,by simp only[execOp,ho,hg,Sem.run_bind,Result.andThen_ok];simp only[h1,h2,binOp,ne_eq,not_true_eq_false,if_false,Op.intArith,Op.intCmp,Sem.run_pure,Result.andThen_ok];rfl,?_⟩;first|exact .data (.int _ _)|exact .data (.bool _))
theorem OS.quo{t u:TypeId}{x y:Operand}{k:IntKind}{n m:Int}(ho:o.op= .binOp .quo t x y u)(hx:ev E t a x=some (.int k n))(hy:ev E t a y=some (.int k m))(hm:m≠0):
 OS E N o a [] (.int k (k.wrap (n.tdiv m))) [] []:=
 .pure fun g D es w act hR _ hF=>by
  have h1:=(z6 hx hR hF).int_inv;have h2:=(z6 hy hR hF).int_inv;exact⟨_,by simp[execOp,ho,eqGuard,h1,h2,binOp,Op.intDiv,hm],.data (.int _ _)⟩
theorem OS.rem{t u:TypeId}{x y:Operand}{k:IntKind}{n m:Int}(ho:o.op= .binOp .rem t x y u)(hx:ev E t a x=some (.int k n))(hy:ev E t a y=some (.int k m))(hm:m≠0):
 OS E N o a [] (.int k (n.tmod m)) [] []:=
 .pure fun g D es w act hR _ hF=>by
  have h1:=(z6 hx hR hF).int_inv;have h2:=(z6 hy hR hF).int_inv;exact⟨_,by simp[execOp,ho,eqGuard,h1,h2,binOp,Op.intDiv,hm],.data (.int _ _)⟩
theorem OS.add{t u:TypeId}{x y:Operand}{n m:Int}(ho:o.op= .binOp .add t x y u)(hx:ev E t a x=some (.i n))(hy:ev E t a y=some (.i m))(h1: -9223372036854775808<=n+m)(h2:n+m<=9223372036854775807):
 OS E N o a [] (.i (n+m)) [] []:=by
 have:=OS.bin (N:=N) (c:= .int .i64 (IntKind.i64.wrap (n+m))) ho hx hy rfl
 rwa [IntWalk.i64_in _ (by omega)] at this
theorem OS.sub{t u:TypeId}{x y:Operand}{n m:Int}(ho:o.op= .binOp .sub t x y u)(hx:ev E t a x=some (.i n))(hy:ev E t a y=some (.i m))(h1: -9223372036854775808<=n-m)(h2:n-m<=9223372036854775807):
 OS E N o a [] (.i (n-m)) [] []:=by
 have:=OS.bin (N:=N) (c:= .int .i64 (IntKind.i64.wrap (n-m))) ho hx hy rfl
 rwa [IntWalk.i64_in _ (by omega)] at this
theorem OS.binBool{op:BinOp}{t u:TypeId}{x y:Operand}{b d:Bool}(ho:o.op= .binOp op t x y u)(hop:op= .eql\/op= .neq)(ht:E.P.underlying t=some .bool)(hx:ev E t a x=some (.bool b))(hy:ev E t a y=some (.bool d)):
 OS E N o a [] (.bool (if op= .eql then b==d else !(b==d))) [] []:=
 .pure fun g D es w act hR _ hF=>by
  have h1:=(z6 hx hR hF).bool_inv;have h2:=(z6 hy hR hF).bool_inv;have he:(Op.equal t (.bool b) (.bool d)).run E.P w= .ok (b==d) w:=run_equalIn_bool' w _ t b d ht;rcases hop with rfl|rfl
  ·exact ⟨.bool (b==d),by simp[execOp,ho,eqGuard,h1,h2,binOp,he],by simp;exact .data (.bool _)⟩
  ·exact ⟨.bool (!(b==d)),by simp[execOp,ho,eqGuard,h1,h2,binOp,he],by simp;exact .data (.bool _)⟩
theorem OS.lenS{t u:TypeId}{x:Operand}{sp:Sp}{l:SL V}(ho:o.op= .call {callee:= .builtin .len,args:= #[x],argTypes:= #[t]}){i:TI}(ht:E.ti t=some i){c:Option EC}{sz by_:Nat}(hd:i.desc= .slc c sz by_)
 (hx:ev E t a x=some (.slice sp l)):OS E N o a [] (.i l.len) [] []:=
 .pure fun g D es w act hR _ hF=>by
  obtain⟨b,cap,h1⟩:=(z6 hx hR hF).slice_inv.slice_inv;obtain⟨d,h2,h3⟩:=Zc8 ht;rw[hd] at h3;cases d with
  |slice e=>
   refine⟨_,?_,.data (.int .i64 l.len)⟩;simp[execOp,ho,resolve,invoke,builtin,Builtin.len_,h1,yp h2,goInt]
  |_=>cases h3
def Yje:V->Bool| .addr _=>true| .ptr _ _=>true|_=>false
theorem OS.nilCheck{x:Operand}{c:V}(ho:o.op= .nilCheck x)(hx:ev E 0 a x=some c)(hc:Yje c=true):OS E N o a [] c [] []:=
 .pure fun g D es w act hR _ hF=>by
  have h1:=z6 hx hR hF;refine⟨act.eval x,?_,h1⟩;generalize hv:act.eval x=v at h1;cases h1 with
  |addr=>simp[execOp,ho,hv]
  |ptr=>simp[execOp,ho,hv]
  |data h=>cases h<;>cases hc
  |_=>cases hc
def evs(E:Env)(T:TypeId)(a:AF):List Operand->Option (List V)
 |[]=>some []
 |x::xs=>(ev E T a x).bind fun v=>(evs E T a xs).map fun vs=>v::vs
theorem Zlx{T:TypeId}:∀{xs:List Operand} {vs:List V},evs E T a xs=some vs->∀{g:Gh} {D:Nat->Prop} {es:Es} {w:World} {act:Act},R E.G g D es w->FRel g D w N act a->
 (xs.map act.eval).length=vs.length/\∀(i:Nat) v c,(xs.map act.eval)[i]? =some v->vs[i]? =some c->VRel g D w v c:=by
 intro xs;induction xs with
 |nil=>intro vs h g D es w act hR hF;simp[evs] at h;grind
 |cons x l ih=>
  intro vs h g D es w act hR hF;simp only[evs,Option.bind_eq_some_iff,Option.map_eq_some_iff] at h;obtain⟨v,h1,vs',h2,rfl⟩:=h;obtain⟨h3,h4⟩:=ih h2 hR hF;refine⟨by grind,fun i u c hu hc=> ?_⟩;cases i with
  |zero=>simp at hu hc;subst hu;subst hc;exact z6 h1 hR hF
  |succ i=>grind
theorem OS.makeFunc{f:Fn}{fi caps:List Operand}{vs us:List V}(ho:o.op= .makeFunc f fi.toArray caps.toArray)(h1:evs E 0 a fi=some vs)(h2:evs E 0 a caps=some us):OS E N o a [] (.fn f vs us) [] []:=
 .pure fun g D es w act hR _ hF=>by
  obtain⟨h3,h4⟩:=Zlx h1 hR hF;obtain⟨h5,h6⟩:=Zlx h2 hR hF;refine⟨.func f (fi.map act.eval).toArray (caps.map act.eval).toArray,?_,.fn f _ _ vs us h3 h5 h4 h6⟩;simp[execOp,ho,Instr.makeFunc]
end
def Zjv:V->Bool
 | .int _ _=>true| .bool _=>true| .str _=>true| .slice _ _=>true| .ifc _ _=>true|_=>false
theorem Zo2{g:Gh}{D:Nat->Prop}{w:World}{v:Value}{c:V}(h:VRel g D w v c)(hd:Zjv c=true):DRel g.m w v c.weak:=by
 cases c with
 |int k n=>cases h with|data h=>exact h
 |bool b=>cases h with|data h=>exact h
 |str s=>cases h with|data h=>exact h
 |slice sp l=>exact h.slice_inv
 |ifc t cs=>cases h with|data h=>exact h
 |_=>cases hd
def Zkh{α β:Type}(f:α->Option β):List α->Option (List β)
 |[]=>some []
 |x::l=>(f x).bind fun y=>(Zkh f l).map fun ys=>y::ys
theorem Zfr{α β:Type}{f:α->Option β}:∀{l:List α} {ys:List β},Zkh f l=some ys->ys.length=l.length/\∀(i:Nat) x,l[i]? =some x->∃y,ys[i]? =some y/\f x=some y:=by
 intro l;induction l with
 |nil=>intro ys h;simp[Zkh] at h;grind
 |cons x l ih=>
  intro ys h;simp only[Zkh,Option.bind_eq_some_iff,Option.map_eq_some_iff] at h
  grind
def Zmt(c:Option EC)(sz:Nat)(vcs:List (List V)):Option (SL V):=
 match c with
 |some c=>(Zkh c.fold vcs).map (.t c)
 |none=>bif vcs.all fun vc=>vc.all Zjv then some (.u sz (vcs.map fun vc=>vc.map V.weak)) else none
theorem EC.fold_data(c:EC)(cs:List V)(x:c.sem)(h:c.fold cs=some x):∀v∈cs,Zjv v=true:=by
 unfold EC.fold at h;split at h<;>first|(cases h;intro v hv;simp only[List.mem_cons,List.not_mem_nil,or_false] at hv;rcases hv with rfl|rfl|rfl|rfl|rfl|rfl|rfl|rfl|rfl<;>rfl)|grind|grind|grind|grind|grind|grind|cases h
theorem Zk6{c:Option EC}{sz:Nat}{vcs:List (List V)}{l:SL V}(h:Zmt c sz vcs=some l)(hc:Yku c sz=true):
 l.len=vcs.length/\l.cells=sz/\(∀(i:Nat) vc,vcs[i]? =some vc->l.get i=some (vc.map V.weak)/\∀v∈vc,Zjv v=true):=by
 cases c with
 |some c=>
  simp only[Zmt,Option.map_eq_some_iff] at h;obtain⟨xs,h1,rfl⟩:=h;obtain⟨h2,h3⟩:=Zfr h1;refine⟨h2,Nat.eq_of_beq_eq_true hc,fun i vc hvc=> ?_⟩;obtain⟨x,h4,h5⟩:=h3 i vc hvc;refine⟨?_,EC.fold_data c vc x h5⟩;simp only[SL.get,h4,Option.map_some];rw[EC.fold_view c vc x h5]
 |none=>
  simp only[Zmt] at h;cases hb:vcs.all fun vc=>vc.all Zjv with
  |false=>grind
  |true=>
   rw[hb] at h;simp only[cond_true,Option.some.injEq] at h;subst h;refine⟨by simp[SL.len],rfl,fun i vc hvc=>⟨by simp[SL.get,hvc],?_⟩⟩;have:=List.all_eq_true.1 hb vc (List.mem_of_getElem? hvc)
   grind
theorem Zuf{sz k:Nat}(h:0<sz)(n:Nat)(hk:k<n*sz):k/sz<n/\k%sz<sz/\k/sz*sz+k%sz=k:=by
 refine⟨(Nat.div_lt_iff_lt_mul h).2 hk,Nat.mod_lt _ h,?_⟩;have:=Nat.div_add_mod k sz
 grind
theorem Ybu{α:Type}{sz:Nat}:∀{vcs:List (List α)},(∀vc∈vcs,vc.length=sz)->∀(i j:Nat) vc x,vcs[i]? =some vc->vc[j]? =some x->vcs.flatten[i*sz+j]? =some x:=by
 intro vcs;induction vcs with
 |nil=>simp
 |cons v l ih=>
  intro hl i j vc x h1 h2;have hv:=hl v (by simp);cases i<;>grind
theorem Zt1{α:Type}{sz:Nat}:∀{vcs:List (List α)},(∀vc∈vcs,vc.length=sz)->vcs.flatten.length=vcs.length*sz:=by
 intro vcs;induction vcs<;>grind
section
variable {E:Env} {N:Nat} {o:Oper} {a:AF}
theorem Zcf{t:TypeId}{i:TI}{c:Option EC}{sz bytes:Nat}(h:E.ti t=some i)(hd:i.desc= .slc c sz bytes):
 ∃e inf z,E.P.underlying t=some (.slice e)/\E.P.info? e=some inf/\inf.size=sz/\inf.bytes=bytes/\inf.zero=some z/\z.cells.size=sz/\0<sz/\Yku c sz=true:=by
 obtain⟨d,h1,h2⟩:=Zc8 h;rw[hd] at h2;cases d with
 |slice e=>
  simp only[Bool.and_eq_true] at h2;obtain⟨⟨h3,h4⟩,h5⟩:=h2;unfold Yhy at h3;split at h3
  ·rename_i inf hi;simp only[Bool.and_eq_true] at h3;obtain⟨⟨h6,h7⟩,h8⟩:=h3;split at h8;all_goals simp_all
  grind
 |_=>cases h2
theorem Ztj{sz:Nat}:∀(parts:List Value) (k:Nat) (cells:Array Value),(∀v∈parts,v.cells.size=sz)->(k+parts.length)*sz<=cells.size->
 Instr.fill (fun i=>some (i*sz,sz)) cells (parts.zipIdx k|>.map fun(v,i)=>(i,v))=
  some (cells.toList.take (k*sz)++(parts.map fun v=>v.cells.toList).flatten++cells.toList.drop ((k+parts.length)*sz)).toArray:=by
 intro parts;induction parts with
 |nil=>intro k cells _ _;simp[Instr.fill]
 |cons v l ih=>
  intro k cells hs hle;have hv:=hs v (by simp);simp only[List.length_cons] at hle;have hk:(k+1)*sz<=cells.size:=Nat.le_trans (Nat.mul_le_mul_right _ (by omega)) hle;have hk1:(k+1)*sz=k*sz+sz:=by grind
  have hfold:∀(us:List Value) (j:Nat) (cs:Array Value),k*sz+j+us.length<=cs.size->
   (us.zipIdx j).foldl (fun cs (x:Value×Nat)=>cs.setIfInBounds (k*sz+x.2) x.1) cs=(cs.toList.take (k*sz+j)++us++cs.toList.drop (k*sz+j+us.length)).toArray:=by
   intro us;induction us with
   |nil=>simp
   |cons u us ih2=>
    intro j cs hcs;simp only[List.length_cons] at hcs;simp only[List.zipIdx_cons,List.foldl_cons];rw[ih2 (j+1) _ (by grind)];congr 1;rw[Array.toList_setIfInBounds];have:=list_seg_step cs.toList (k*sz+j) u us (by omega);omega
  have h1:v.cells.zipIdx.foldl (fun cs (x:Value×Nat)=>cs.setIfInBounds (k*sz+x.2) x.1) cells=(cells.toList.take (k*sz)++v.cells.toList++cells.toList.drop (k*sz+sz)).toArray:=by
   rw[<-Array.foldl_toList,Array.toList_zipIdx]
   grind
  simp only[List.zipIdx_cons,List.map_cons,Instr.fill];rw[if_neg (by grind)];have h2:(cells.toList.take (k*sz)++v.cells.toList++cells.toList.drop (k*sz+sz)).length=cells.size:=by
   grind
  have:=ih (k+1) (cells.toList.take (k*sz)++v.cells.toList++cells.toList.drop (k*sz+sz)).toArray (fun x hx=>hs x (by grind)) (by grind);show Instr.fill _ (v.cells.zipIdx.foldl (fun cs (x:Value×Nat)=>cs.setIfInBounds (k*sz+x.2) x.1) cells) _=_;rw[h1,this];congr 2;rw[show k+1+l.length=k+(l.length+1) from by omega,List.length_cons];have h3:(cells.toList.take (k*sz)++v.cells.toList).length=(k+1)*sz:=by grind
  have h4:List.take ((k+1)*sz) (cells.toList.take (k*sz)++v.cells.toList++cells.toList.drop (k*sz+sz))=cells.toList.take (k*sz)++v.cells.toList:=by
   grind
  have h5:List.drop ((k+(l.length+1))*sz) (cells.toList.take (k*sz)++v.cells.toList++cells.toList.drop (k*sz+sz))=cells.toList.drop ((k+(l.length+1))*sz):=by
   have h6:(k+(l.length+1))*sz=(k+1)*sz+l.length*sz:=by grind
   rw[h6,<-h3,List.drop_append,List.drop_drop,h3,hk1];simp_all
  grind
theorem Zj4{sz:Nat}:∀{cs:List V} {vcs:List (List V)},Zkh cellsOf cs=some vcs->∀{g:Gh} {D:Nat->Prop} {w:World} {vs:List Value},vs.length=cs.length->
 (∀(i:Nat) v c,vs[i]? =some v->cs[i]? =some c->VRel g D w v c)->(∀vc∈vcs,vc.length=sz)->
 (∀v∈vs,v.cells.size=sz)/\(∀(i j:Nat) vc c,vcs[i]? =some vc->vc[j]? =some c->∃x,(vs.map fun v=>v.cells.toList).flatten[i*sz+j]? =some x/\VRel g D w x c):=by
 intro cs vcs hm g D w vs hl hr hsz;obtain⟨h1,h2⟩:=Zfr hm;have hv:∀v∈vs,v.cells.size=sz:=by
  intro v hv;obtain⟨i,hi,rfl⟩:=List.getElem_of_mem hv;have h3:cs[i]? =some (cs[i]'(by omega)):=List.getElem?_eq_getElem _;obtain⟨vc,h4,h5⟩:=h2 i _ h3;obtain⟨us,h6,h7,_⟩:=Zag h5 (hr i _ _ (List.getElem?_eq_getElem hi) h3)
  grind
 refine⟨hv,fun i j vc c h3 h4=> ?_⟩;have hi:=(List.getElem?_eq_some_iff.1 h3).1;have h5:cs[i]? =some (cs[i]'(by omega)):=List.getElem?_eq_getElem _;have h6:vs[i]? =some (vs[i]'(by omega)):=List.getElem?_eq_getElem _;obtain⟨vc',h7,h8⟩:=h2 i _ h5;rw[h3] at h7;cases h7;obtain⟨us,h9,h10,_,h11⟩:=Zag h8 (hr i _ _ h6 h5);obtain⟨x,hx⟩:=getElem?_of_len h10.symm h4;refine⟨x,Ybu (sz:=sz) ?_ i j us x ?_ hx,h11 j x c hx h4⟩;all_goals grind
theorem Zq6{G:Zfn}{g:Gh}{D:Nat->Prop}{es:Es}{w:World}(hR:R G g D es w){c:Option EC}{sz:Nat}{vcs:List (List V)}{l:SL V}(hf:Zmt c sz vcs=some l)
 (hc:Yku c sz=true) (hsz:∀vc∈vcs,vc.length=sz) (us:List Value) (hus:vcs.length*sz<=us.length)
 (hrel:∀(i j:Nat) vc c,vcs[i]? =some vc->vc[j]? =some c->∃x,us[i*sz+j]? =some x/\VRel g D w x c) (t:TypeId) (cap:Nat) (hcap:vcs.length<=cap):
 DRel (g.share w.heap.size (vcs.length*sz)).m (w.alloc (.cells us.toArray t)) (.slice (some ⟨w.heap.size,0,none⟩) l.len cap) (.slice .any l):=by
 obtain⟨h1,h2,h3⟩:=Zk6 hf hc;obtain⟨hR',hx⟩:=hR.share us.toArray t (vcs.length*sz) (by omega);have hget:∀i,i<l.len->∃vc,vcs[i]? =some vc:=fun i hi=>⟨vcs[i]'(by omega),List.getElem?_eq_getElem _⟩;refine .slice l w.heap.size 0 cap (fun i j=>us.getD (i*sz+j) undef) (by rw[h1,h2];simp[Gh.share]) (by omega) ?_ ?_ ?_
 ·grind
 ·intro i j hi hj;rw[h2] at hj ⊢;rw[Nat.zero_add,Zdd (heap_alloc_new w _)];have:=Zio (show i<vcs.length by omega) hj
  grind
 ·intro i j cs d hi hcs hd;obtain⟨vc,hvc⟩:=hget i hi;obtain⟨h4,h5⟩:=h3 i vc hvc;rw[h4] at hcs;cases hcs;rw[List.getElem?_map,Option.map_eq_some_iff] at hd;obtain⟨c0,h6,rfl⟩:=hd;obtain⟨x,h7,h8⟩:=hrel i j vc c0 hvc h6;rw[List.getD_eq_getElem?_getD,h7];exact(Zo2 h8 (h5 c0 (List.mem_of_getElem? h6))).mono hx.mark hx.cells
theorem OS.buildSlice{t:TypeId}{n:Nat}{xs:List Operand}{i:TI}{c:Option EC}{sz bytes:Nat}{et:TypeId}{cs:List V}{vcs:List (List V)}{l:SL V}
 (ho:o.op= .buildSlice t n (xs.zipIdx.map fun x=>(x.2,x.1)).toArray) (hn:xs.length=n) (ht:E.ti t=some i) (hd:i.desc= .slc c sz bytes) (hev:evs E et a xs=some cs) (hcs:Zkh cellsOf cs=some vcs)
 (hsz:(vcs.all fun vc=>Nat.beq vc.length sz)=true) (hf:Zmt c sz vcs=some l) (hb:Nat.ble (n*sz) 16777216=true):OS E N o a [] (.slice .full l) [] []:=
 .of_run fun g D es w act hR _ _ hF=>by
  obtain⟨e,inf,z,h1,h2,h3,h4,h5,h6,h7,h8⟩:=Zcf ht hd;obtain⟨h9,h10⟩:=Zlx hev hR hF;have hsz':∀vc∈vcs,vc.length=sz:=fun vc hvc=>Nat.eq_of_beq_eq_true (List.all_eq_true.1 hsz vc hvc);obtain⟨h11,h12⟩:=Zj4 hcs h9 h10 hsz';have hvl:=(Zfr hcs).1;have hlen:(xs.map act.eval).length=n:=by grind
  have hvn:vcs.length=n:=by omega
  have hflat:=Zt1 (sz:=sz) (vcs:=(xs.map act.eval).map fun v=>v.cells.toList) (fun vc hvc=>by
   grind)
  simp only[List.length_map,hn] at hflat;have hs:=Zq6 hR hf h8 hsz' ((xs.map act.eval).map fun v=>v.cells.toList).flatten (by grind) (fun i j vc c hvc hc=>h12 i j vc c hvc hc) e n (by omega);obtain⟨hR',hx⟩:=hR.share (((xs.map act.eval).map fun v=>v.cells.toList).flatten).toArray e (vcs.length*sz) (by grind);have hll:=(Zk6 hf h8).1;refine⟨_,.slice (some ⟨w.heap.size,0,none⟩) n n,_,?_,hR'.more (fun n h=> .inl h),?_,hx⟩
  ·have hb':¬(n*sz>16777216):=by simp_all
   have hparts:((xs.zipIdx.map fun x=>(x.2,x.1)).toArray.map fun x=>(x.1,act.eval x.2)).toList=((xs.map act.eval).zipIdx 0).map fun(v,i)=>(i,v):=by
    simp[List.zipIdx_map]
   have key:∀cells:Array Value,cells.size=n*sz->Instr.fill (fun i=>some (i*sz,sz)) cells ((xs.zipIdx.map fun x=>(x.2,x.1)).toArray.map fun x=>(x.1,act.eval x.2)).toList=
    some (((xs.map act.eval).map fun v=>v.cells.toList).flatten).toArray:=by
    intro cells hcells;rw[hparts,Ztj (xs.map act.eval) 0 cells h11 (by grind)]
    grind
   simp only[execOp,ho,Instr.buildSlice,yp h1,Sem.run_bind,Result.andThen_ok,x8 h2,h3,hb',if_false];by_cases hz:n*sz=0
   ·rw[if_pos hz];simp only[Sem.run_bind,Sem.run_pure,Result.andThen_ok];rw[key _ (by simp)]
    rfl
   ·rw[if_neg hz];simp only[Sem.run_bind,Zef h2 h5,Result.andThen_ok,Sem.run_pure];rw[key _ (by simp)]
    rfl
  ·have hln:l.len=n:=hll.trans hvn;rw[hln] at hs;have hfull:=VRel.full (g:=g.share w.heap.size (vcs.length*sz)) (D:=fun k=>D k\/k∈([]:List Nat)) ⟨w.heap.size,0,none⟩ n l hs;omega
end
section
variable {E:Env} {N:Nat} {o:Oper} {a:AF}
theorem DRel.cells_of{m:Nat->Nat}{w:World}{v:Value}{l:SL V}(h:DRel m w v (.slice .any l)):
 ∃news:List Value,news.length=l.len*l.cells/\(∀u∈news,u.oneCell'=true)/\(∀W:World,W.heap=w.heap->∀P:Program,(Builtin.firstCells l.cells l.len v).run P W= .ok news.toArray W)/\
  (∀i j cs c,l.get i=some cs->cs[j]? =some c->i<l.len->j<l.cells->∃u,news[i*l.cells+j]? =some u/\DRel m w u c)/\(∀i,i<l.len->∃cs,l.get i=some cs/\cs.length=l.cells):=by
 cases h with
 |nilS _ h=>exact⟨[],by simp[h],by simp,fun W _ P=>by rfl,fun i j cs c _ _ hi=>by omega,fun i hi=>by omega⟩
 |emp _ h a cap=>exact⟨[],by simp[h],by simp,fun W _ P=>by simp[h,Builtin.firstCells,loadCells,loadCellsFrom],fun i j cs c _ _ hi=>by omega,fun i hi=>by omega⟩
 |slice _ b off cap f hm hcap hl hc hr=>
  have hmod:∀k,k<l.len*l.cells->0<l.cells:=fun k hk=>by
   grind
  refine⟨(List.range (l.len*l.cells)).map fun k=>f (k/l.cells) (k%l.cells),by simp,?_,?_,?_,hl⟩
  ·intro u hu;obtain⟨k,hk,rfl⟩:=List.mem_map.1 hu;obtain⟨h1,h2,h3⟩:=Zuf (hmod k (List.mem_range.1 hk)) l.len (List.mem_range.1 hk);obtain⟨cs,h4,h5⟩:=hl _ h1;exact(hr _ _ cs _ h1 h4 (List.getElem?_eq_getElem (by omega))).one
  ·intro W hW P;have:=run_firstCells_some (P:=P) W l.cells l.len ⟨b,off,none⟩ l.len cap ((List.range (l.len*l.cells)).map fun k=>f (k/l.cells) (k%l.cells)) (by simp) (fun k v hv=>by
    rw[List.getElem?_map,Option.map_eq_some_iff] at hv;obtain⟨k',hk',rfl⟩:=hv;obtain⟨h6,h7⟩:=List.getElem?_eq_some_iff.1 hk';simp only[List.length_range] at h6;simp only[List.getElem_range] at h7;subst h7;obtain⟨h1,h2,h3⟩:=Zuf (hmod k h6) l.len h6;have:=hc _ _ h1 h2;rw[h3] at this;rw[Zv0];have hcell:W.cell? ⟨b,off+k,none⟩=w.cell? ⟨b,off+k,none⟩:=by simp[World.cell?,hW]
    grind)
   omega
  ·intro i j cs c h1 h2 hi hj;refine⟨f i j,?_,hr i j cs c hi h1 h2⟩;have hlt:=Zio hi hj;rw[List.getElem?_map,List.getElem?_eq_getElem (by grind)];simp only[List.getElem_range,Option.map_some];congr 2
   ·rw[Nat.mul_comm,Nat.mul_add_div (by omega),Nat.div_eq_of_lt hj,Nat.add_zero]
   ·rw[Nat.mul_comm,Nat.mul_add_mod,Nat.mod_eq_of_lt hj]
def SL.app:SL V->SL V->Option (SL V)
 | .t c xs,.t c' ys=>if h:c'=c then some (.t c (xs++(h▸ys))) else none
 | .u s xs,.u s' ys=>bif Nat.beq s s' then some (.u s (xs++ys)) else none
 |_,_=>none
theorem SL.app_spec{l l' l2:SL V}(h:l.app l'=some l2):l2.len=l.len+l'.len/\l2.cells=l.cells/\l'.cells=l.cells/\(∀i,i<l.len->l2.get i=l.get i)/\(∀i,l2.get (l.len+i)=l'.get i):=by
 cases l with
 |t c xs=>
  cases l' with
  |t c' ys=>
   simp only[SL.app] at h;split at h
   ·rename_i hc;subst hc;cases h;refine⟨by simp[SL.len],rfl,rfl,fun i hi=> ?_,fun i=> ?_⟩
    ·simp only[SL.len] at hi;simp[SL.get,List.getElem?_append_left hi]
    ·simp[SL.get,SL.len,List.getElem?_append_right]
   grind
  |u s ys=>cases h
 |u s xs=>
  cases l' with
  |t c' ys=>cases h
  |u s' ys=>
   simp only[SL.app] at h;cases hb:Nat.beq s s' with
   |false=>grind
   |true=>
    rw[hb] at h;simp only[cond_true,Option.some.injEq] at h;subst h;have:=Nat.eq_of_beq_eq_true hb;refine⟨by simp[SL.len],rfl,this.symm,fun i hi=> ?_,fun i=> ?_⟩
    ·simp only[SL.len] at hi;simp[SL.get,List.getElem?_append_left hi]
    ·simp[SL.get,SL.len,List.getElem?_append_right]
theorem Zlf{m:Nat->Nat}{w:World}{l l' l2:SL V}(h2:l.app l'=some l2){olds news rest:List Value}(ho:olds.length=l.len*l.cells)
 (hor:∀i j cs c,l.get i=some cs->cs[j]? =some c->i<l.len->j<l.cells->∃u,olds[i*l.cells+j]? =some u/\DRel m w u c)
 (hnr:∀i j cs c,l'.get i=some cs->cs[j]? =some c->i<l'.len->j<l'.cells->∃u,news[i*l'.cells+j]? =some u/\DRel m w u c):
 ∀i j cs c,l2.get i=some cs->cs[j]? =some c->i<l2.len->j<l2.cells->∃u,(olds++news++rest)[i*l2.cells+j]? =some u/\DRel m w u c:=by
 obtain⟨h3,h4,h5,h6,h7⟩:=SL.app_spec h2;intro i j cs c h8 h9 hi hj;rw[h4] at hj ⊢;by_cases hil:i<l.len
 ·grind
 ·have hi2:l.len+(i-l.len)=i:=by omega
  rw[<-hi2,h7] at h8;obtain⟨u,h10,h11⟩:=hnr (i-l.len) j cs c h8 h9 (by omega) (by omega);refine⟨u,?_,h11⟩;rw[h5] at h10;have h12:=(List.getElem?_eq_some_iff.1 h10).1;have h13:i*l.cells+j=olds.length+((i-l.len)*l.cells+j):=by
   grind
  grind
theorem DRel.of_rowO{m m':Nat->Nat}{w w':World}{l:SL V}{b off cap:Nat}{cells:List Value}{t:TypeId}{fr:Nat×Nat}(hh:w'.heap[b]? =some (.cells cells.toArray t fr))(hcap:l.len<=cap)
 (hm:off+l.len*l.cells<=m' b) (hl:∀i,i<l.len->∃cs,l.get i=some cs/\cs.length=l.cells)
 (hr:∀i j cs c,l.get i=some cs->cs[j]? =some c->i<l.len->j<l.cells->∃u,cells[off+(i*l.cells+j)]? =some u/\DRel m w u c)
 (hmm:∀b,m b<=m' b) (hw:∀b o,o<m b->w'.cell? ⟨b,o,none⟩=w.cell? ⟨b,o,none⟩):
 DRel m' w' (.slice (some ⟨b,off,none⟩) l.len cap) (.slice .any l):=by
 refine .slice l b off cap (fun i j=>cells.getD (off+(i*l.cells+j)) undef) (by omega) hcap hl (fun i j hi hj=> ?_) (fun i j cs c hi h1 h2=> ?_)
 ·obtain ⟨cs,h3,h4⟩:=hl i hi;obtain⟨u,h5,_⟩:=hr i j cs _ h3 (List.getElem?_eq_getElem (by omega)) hi hj;rw[Zdd hh]
  grind
 ·obtain ⟨cs',h3,h4⟩:=hl i hi;rw[h1] at h3;cases h3;have hj:=(List.getElem?_eq_some_iff.1 h2).1;obtain⟨u,h5,h6⟩:=hr i j cs c h1 h2 hi (by omega);rw[List.getD_eq_getElem?_getD,h5];exact h6.mono hmm hw
theorem DRel.of_row{m m':Nat->Nat}{w w':World}{l:SL V}{b cap:Nat}{cells:List Value}{t:TypeId}{fr:Nat×Nat}(hh:w'.heap[b]? =some (.cells cells.toArray t fr))(hcap:l.len<=cap)
 (hm:l.len*l.cells<=m' b) (hl:∀i,i<l.len->∃cs,l.get i=some cs/\cs.length=l.cells)
 (hr:∀i j cs c,l.get i=some cs->cs[j]? =some c->i<l.len->j<l.cells->∃u,cells[i*l.cells+j]? =some u/\DRel m w u c)
 (hmm:∀b,m b<=m' b) (hw:∀b o,o<m b->w'.cell? ⟨b,o,none⟩=w.cell? ⟨b,o,none⟩):
 DRel m' w' (.slice (some ⟨b,0,none⟩) l.len cap) (.slice .any l):=
 DRel.of_rowO (off:=0) hh hcap (by omega) hl (fun i j cs c h1 h2 h3 h4=>by grind) hmm hw
theorem Zhs{P:Program}{w:World}{t ty e:TypeId}{i:TypeInfo}(ht:P.underlying t=some (.slice e))(hi:P.info? e=some i){base:Option Addr}{sLen sCap:Nat}(hle:sLen<=sCap){xb:Option Addr}{xc:Nat}
 (hx:(Builtin.firstCells i.size 0 (.slice xb 0 xc)).run P w= .ok #[] w):
 (Builtin.append_ #[t,t] ty #[.slice base sLen sCap,.slice xb 0 xc]).run P w= .ok (.slice base sLen sCap) w:=by
 cases base with
 |none=>simp[Builtin.append_,run_underlying ht,sizeOf,typeInfo,hi,Builtin.lenOf,hle,hx]
 |some b=>simp[Builtin.append_,run_underlying ht,sizeOf,typeInfo,hi,Builtin.lenOf,hle,hx,storeCells]
theorem Zbs{P:Program}{w:World}{t ty e:TypeId}{i:TypeInfo}{z:Value}(ht:P.underlying t=some (.slice e))(hi:P.info? e=some i)(hz:i.zero=some z){base:Option Addr}{sLen sCap:Nat}{xb:Option Addr}{n xc:Nat}
 {olds news:List Value} (ho:∀W:World,W.heap=w.heap->(Builtin.firstCells i.size sLen (.slice base sLen sCap)).run P W= .ok olds.toArray W)
 (hx:∀W:World,W.heap=w.heap->(Builtin.firstCells i.size n (.slice xb n xc)).run P W= .ok news.toArray W) (hg:sCap<sLen+n) (hb:(sLen+n)*i.bytes<=140737488355328) (h63:sLen+n<=9223372036854775807):
 (Builtin.append_ #[t,t] ty #[.slice base sLen sCap,.slice xb n xc]).run P w=
  .ok (.slice (some ⟨w.heap.size,0,none⟩) (sLen+n) (grownCap w (sLen+n) sCap e))
   (w.drew.alloc (.cells (olds++news++(Builtin.zeroCells z.cells (grownCap w (sLen+n) sCap e-(sLen+n))).toList).toArray e)):=by
 have hn:¬(sLen+n<=sCap):=by omega
 have h63':¬(9223372036854775807<((sLen:Int)+(n:Int))):=by omega
 have h48':¬(281474976710656<Builtin.nextslicecap (sLen+n) sCap*i.bytes):=by have:=growslice_fits hg hb;omega
 have hf:=hx w.drew rfl;have hfo:=ho w.drew rfl;simp[Builtin.append_,run_underlying ht,sizeOf,typeInfo,zeroValue,hi,hz,Builtin.lenOf,hn,h63',h48',Question.forced,hf,hfo,newRow,grownCap];congr 2;simp
theorem Zfw{P:Program}{w:World}{t ty e:TypeId}{i:TypeInfo}(ht:P.underlying t=some (.slice e))(hi:P.info? e=some i){b off sLen sCap:Nat}{cur:Array Value}{e0:TypeId}(hh:w.heap[b]? =some (.cells cur e0 (0,0)))
 {xb:Option Addr} {n xc:Nat} {news:List Value} (hl:news.length=n*i.size) (h1:∀u∈news,u.oneCell'=true)
 (hx:(Builtin.firstCells i.size n (.slice xb n xc)).run P w= .ok news.toArray w) (hroom:sLen+n<=sCap) (hfit:off+sLen*i.size+news.length<=cur.size):
 (Builtin.append_ #[t,t] ty #[.slice (some ⟨b,off,none⟩) sLen sCap,.slice xb n xc]).run P w=
  .ok (.slice (some ⟨b,off,none⟩) (sLen+n) sCap) (w.setRow b (cur.toList.take (off+sLen*i.size)++news++cur.toList.drop (off+sLen*i.size+news.length)).toArray):=by
 have hst:=run_storeCells_at P b (off+sLen*i.size) e0 news 0 cur w hh (by omega) h1;simp only[Nat.add_zero] at hst;simp[Builtin.append_,run_underlying ht,sizeOf,typeInfo,hi,Builtin.lenOf,hroom,hx,Zv0,hst]
theorem Zo3{P:Program}{w:World}{t ty e:TypeId}{i:TypeInfo}(ht:P.underlying t=some (.slice e))(hi:P.info? e=some i){b sLen sCap:Nat}{cur:Array Value}{e0:TypeId}(hh:w.heap[b]? =some (.cells cur e0 (0,0)))
 {xb:Option Addr} {n xc:Nat} {news:List Value} (hl:news.length=n*i.size) (h1:∀u∈news,u.oneCell'=true)
 (hx:(Builtin.firstCells i.size n (.slice xb n xc)).run P w= .ok news.toArray w) (hroom:sLen+n<=sCap) (hfit:sLen*i.size+news.length<=cur.size):
 (Builtin.append_ #[t,t] ty #[.slice (some ⟨b,0,none⟩) sLen sCap,.slice xb n xc]).run P w=
  .ok (.slice (some ⟨b,0,none⟩) (sLen+n) sCap) (w.setRow b (cur.toList.take (sLen*i.size)++news++cur.toList.drop (sLen*i.size+news.length)).toArray):=by
 have:=Zfw (w:=w) (ty:=ty) ht hi hh (off:=0) (sLen:=sLen) (sCap:=sCap) hl h1 hx hroom (by omega)
 grind
def Zd9:Sp->Es
 | .own r=>[(r,.row)]
 |_=>[]
def Zcd(n:Nat):Sp->Es
 | .own r=>[(n,.row),(r,.gone)]
 |_=>[(n,.row)]
def Zn1:Sp->Bool| .nil=>true| .own _=>true|_=>false
theorem OS.appendG{t:TypeId}{s x:Operand}{i:TI}{c:Option EC}{sz bytes n:Nat}{sp sp':Sp}{l l' l2:SL V}(ho:o.op= .call {callee:= .builtin .append,args:= #[s,x],argTypes:= #[t,t]})
 (ht:E.ti t=some i) (hd:i.desc= .slc c sz bytes) (hs:ev E t a s=some (.slice sp l)) (hx:ev E t a x=some (.slice sp' l')) (hsp:Zn1 sp=true\/(sp= .full/\0<l'.len))
 (hl:l.app l'=some l2) (hsz:Nat.beq l.cells sz=true) (hb:(l.len+l'.len)*bytes<=140737488355328) (hb2:l.len+l'.len<=9223372036854775807):OS E N o a (Zd9 sp) (.slice (.own n) l2) [n] (Zcd n sp):=
 .of_run fun g D es w act hR hp hn hF=>by
  obtain⟨e,inf,z,h1,h2,h3,h4,h5,h6,h7,h8⟩:=Zcf ht hd;have hcs:l.cells=sz:=Nat.eq_of_beq_eq_true hsz;obtain⟨h9,h10,h11,h12,h13⟩:=SL.app_spec hl;have hn':¬D n:=hn n (by simp);have hvs:=z6 hs hR hF;have hdx:=(z6 hx hR hF).slice_inv;obtain⟨xb,xc,hxv⟩:=hdx.slice_inv;obtain⟨news,hnl,hn1,hnf,hnr,hnl2⟩:=hdx.cells_of;have hsz':l'.cells=inf.size:=by omega
  rw[hxv] at hnf;have hgl:∀i,i<l2.len->(∀i,i<l.len->∃cs,l.get i=some cs/\cs.length=l.cells)->∃cs,l2.get i=some cs/\cs.length=l2.cells:=fun i hi hol=>by
   by_cases h:i<l.len
   ·grind
   ·have:=h13 (i-l.len);rw[show l.len+(i-l.len)=i from by omega] at this;rw[this,h10,<-h11];exact hnl2 _ (by omega)
  have hDD:∀i,(D i\/i=n)->(D i\/i∈[n]):=fun i h=>h.imp id (fun h=>by simp[h]);have hnewrow:∀(es':Es) (olds:List Value) (cap0:Nat),R E.G g D es' w->Ext D g (Foot g es) w g (Foot g es') w->olds.length=l.len*l.cells->
   (∀i j cs c,l.get i=some cs->cs[j]? =some c->i<l.len->j<l.cells->∃u,olds[i*l.cells+j]? =some u/\DRel g.m w u c)->(∀i,i<l.len->∃cs,l.get i=some cs/\cs.length=l.cells)->cap0<l.len+l'.len->
   ∃g',R E.G g' (fun i=>D i\/i∈[n]) ((n,.row)::es') (w.drew.alloc (.cells (olds++news++(Builtin.zeroCells z.cells (grownCap w (l.len+l'.len) cap0 e-(l.len+l'.len))).toList).toArray e))/\
    VRel g' (fun i=>D i\/i∈[n]) (w.drew.alloc (.cells (olds++news++(Builtin.zeroCells z.cells (grownCap w (l.len+l'.len) cap0 e-(l.len+l'.len))).toList).toArray e)) (.slice (some ⟨w.heap.size,0,none⟩) (l.len+l'.len) (grownCap w (l.len+l'.len) cap0 e)) (.slice (.own n) l2)/\
    Ext D g (Foot g es) w g' (Foot g' ((n,.row)::es')) (w.drew.alloc (.cells (olds++news++(Builtin.zeroCells z.cells (grownCap w (l.len+l'.len) cap0 e-(l.len+l'.len))).toList).toArray e)):=by
   intro es' olds cap0 hR' hx' hol hor hol2 hc0;have hge:=grownCap_ge w (l.len+l'.len) cap0 e;have hsize:(olds++news++(Builtin.zeroCells z.cells (grownCap w (l.len+l'.len) cap0 e-(l.len+l'.len))).toList).toArray.size=grownCap w (l.len+l'.len) cap0 e*sz:=by
    simp only[List.size_toArray,List.length_append,Array.length_toList,size_zeroCells,hol,hnl,h6,hcs,h11];rw[<-Nat.add_mul,<-Nat.add_mul]
    grind
   obtain⟨h14,h15⟩:=hR'.drew.newrow (w:=w.drew) hn' (olds++news++(Builtin.zeroCells z.cells (grownCap w (l.len+l'.len) cap0 e-(l.len+l'.len))).toList).toArray e (l.len+l'.len) (grownCap w (l.len+l'.len) cap0 e) sz hsize hge;refine⟨_,h14.more hDD,?_,(hx'.trans Ext.drew).trans h15⟩;have hd2:DRel ((g.share w.drew.heap.size ((l.len+l'.len)*sz)).rowN n (some ⟨w.drew.heap.size,l.len+l'.len,grownCap w (l.len+l'.len) cap0 e,sz,0⟩)).m _ (.slice (some ⟨w.heap.size,0,none⟩) l2.len (grownCap w (l.len+l'.len) cap0 e)) (.slice .any l2):=
    DRel.of_row (m:=g.m) (w:=w) (heap_alloc_new w.drew _) (by omega) (by simp[Gh.rowN,Gh.share,h9,h10,hcs]) (fun i hi=>hgl i hi hol2)
     (fun i j cs c h16 h17 h18 h19=>Zlf hl hol hor hnr i j cs c h16 h17 h18 h19) h15.mark h15.cells
   refine VRel.own n (Or.inr (List.mem_singleton.2 rfl)) _ l2 ?_ (by grind);simp[Ydk,Gh.rowN,h9,h10,hcs]
  have hrun:∀v w',(Builtin.append_ #[t,t] o.type #[act.eval s,act.eval x]).run E.P w= .ok v w'->(execOp act.eval o).run E.P w= .ok (.value v) w':=fun v w' h=>by
   simp[execOp,ho,resolve,invoke,builtin,h]
  have hnil:∀es',R E.G g D es' w->Ext D g (Foot g es) w g (Foot g es') w->(∃base:Option Addr,act.eval s= .slice base 0 0)->l.len=0->
   ∃g' v' w',(execOp act.eval o).run E.P w= .ok (.value v') w'/\R E.G g' (fun i=>D i\/i∈[n]) ((n,.row)::es') w'/\VRel g' (fun i=>D i\/i∈[n]) w' v' (.slice (.own n) l2)/\Ext D g (Foot g es) w g' (Foot g' ((n,.row)::es')) w':=by
   rintro es' hR' hx' ⟨base,hsv⟩ hl0;by_cases hm:l'.len=0
   ·obtain ⟨h14,h15⟩:=hR'.nilrow hn';have hnews:news=[]:=List.eq_nil_of_length_eq_zero (by grind);have hf:=hnf w rfl E.P;rw[hnews,hm,hsz'] at hf;refine⟨_,.slice base 0 0,w,hrun _ _ ?_,h14.more hDD,?_,hx'.trans h15⟩
    ·rw[hsv,hxv,hm];exact Zhs h1 h2 (Nat.le_refl _) hf
    ·refine VRel.own n (Or.inr (List.mem_singleton.2 rfl)) _ l2 ?_ ?_
     ·have:l2.len=0:=by omega
      cases base<;>simp[Ydk,Gh.rowN,this]
     ·cases base with
      |none=>exact .nilS l2 (by omega)
      |some a=>exact .emp l2 (by omega) a 0
   ·obtain ⟨g',h14,h15,h16⟩:=hnewrow es' [] 0 hR' hx' (by grind) (fun i j cs c _ _ hi=>by omega) (fun i hi=>by omega) (by omega);refine⟨g',_,_,hrun _ _ ?_,h14,h15,h16⟩;rw[hsv,hxv];have:=Zbs (P:=E.P) (w:=w) (ty:=o.type) h1 h2 h5 (base:=base) (sLen:=0) (sCap:=0) (xb:=xb) (n:=l'.len) (xc:=xc) (olds:=[]) (news:=news) (fun W _=>by
     cases base with
     |none=>rfl
     |some ad=>exact run_firstCells_some (P:=E.P) W inf.size 0 ad 0 0 [] (by simp) (fun j v hv=>by grind)) (fun W hW=>by grind) (by omega) (by grind) (by omega)
    grind
  cases sp with
  |any=>rcases hsp with hsp|⟨hsp,_⟩<;>cases hsp
  |full=>
   have hpos:0<l'.len:=by rcases hsp with hsp|⟨_,h⟩;· cases hsp
                          omega
   generalize hv:act.eval s=v at hvs;cases hvs with
   |data h=>cases h
   |fullNil _ hl0=>exact hnil es hR (.refl ..) ⟨_,hv⟩ hl0
   |full a m _ hdr=>
    have hml:m=l.len:=by
     cases hdr<;>simp_all
    subst hml;obtain⟨olds,hol,ho1,hof,hor,hol2⟩:=hdr.cells_of;obtain⟨g',h18,h19,h20⟩:=hnewrow es olds l.len hR (.refl ..) hol hor hol2 (by omega);refine⟨g',_,_,hrun _ _ ?_,h18,h19,h20⟩;rw[hv,hxv];exact Zbs (P:=E.P) (w:=w) (ty:=o.type) h1 h2 h5 (base:=some a) (sLen:=l.len) (sCap:=l.len) (xb:=xb) (n:=l'.len) (xc:=xc) (olds:=olds) (news:=news)
     (fun W hW=>by grind) (fun W hW=>by grind) (by omega) (by grind) (by omega)
  |nil=>
   generalize hv:act.eval s=v at hvs;cases hvs with
   |data h=>cases h
   |nilS _ hl0=>exact hnil es hR (.refl ..) ⟨_,hv⟩ hl0
  |own r=>
   have hr:=hp (r,.row) (by simp[Zd9]);generalize hv:act.eval s=v at hvs;cases hvs with
   |data h=>cases h
   |own _ hDr _ _ hrow hdr=>
    obtain⟨hRg,hxg⟩:=hR.gone hr;cases hρ:g.row r with
    |none=>
     rw[hρ] at hrow;obtain⟨hsv,hl0⟩:=hrow;refine hnil ((r,.gone)::es) hRg hxg ?_ hl0
     grind
    |some ρ=>
     rw[hρ] at hrow;obtain⟨rfl,hl1,hl2⟩:=hrow;obtain⟨cur,te,h14,h15,h16,h17⟩:=hR.ents r _ hr ρ hρ;obtain⟨olds,hol,ho1,hof,hor,hol2⟩:=hdr.cells_of;by_cases hroom:ρ.len+l'.len<=ρ.cap
     ·have hszr:ρ.sz=sz:=by omega
      have hcur:ρ.off+(ρ.len+l'.len)*sz<=cur.size:=by rw[h15,hszr];exact Nat.add_le_add_left (Nat.mul_le_mul_right _ hroom) _
      have hnl3:news.length=l'.len*sz:=by grind
      have hfit:ρ.off+ρ.len*sz+news.length<=cur.size:=by grind
      have hoc:olds=(cur.toList.drop ρ.off).take (ρ.len*sz):=by
       have h20:=hof w rfl E.P;have h21:=run_firstCells_some (P:=E.P) w l.cells l.len ⟨ρ.b,ρ.off,none⟩ ρ.len ρ.cap ((cur.toList.drop ρ.off).take (ρ.len*sz)) (by grind) (fun j v hv=>by
        rw[List.getElem?_take] at hv;split at hv
        ·rw[Zv0,Zdd h14];grind
        grind)
       grind
      have hlen':(cur.toList.take (ρ.off+ρ.len*sz)++news++cur.toList.drop (ρ.off+ρ.len*sz+news.length)).toArray.size=cur.size:=by
       grind
      obtain⟨h18,h19⟩:=hR.grow hn' hr hρ h14 (cur.toList.take (ρ.off+ρ.len*sz)++news++cur.toList.drop (ρ.off+ρ.len*sz+news.length)).toArray hlen'
       (fun o ho=>by
        grind) (ρ.len+l'.len) (by omega) hroom
      refine⟨_,.slice (some ⟨ρ.b,ρ.off,none⟩) (ρ.len+l'.len) ρ.cap,w.setRow ρ.b (cur.toList.take (ρ.off+ρ.len*sz)++news++cur.toList.drop (ρ.off+ρ.len*sz+news.length)).toArray,hrun _ _ ?_,h18.more hDD,?_,h19⟩
      ·rw[hv,hxv];have:=Zfw (P:=E.P) (w:=w) (ty:=o.type) h1 h2 h14 (off:=ρ.off) (sLen:=ρ.len) (sCap:=ρ.cap) (xb:=xb) (n:=l'.len) (xc:=xc) (news:=news) (by grind) hn1 (by grind) hroom (by grind)
       grind
      ·have hcells:=Zlf (m:=g.m) (w:=w) hl (rest:=cur.toList.drop (ρ.off+ρ.len*sz+news.length)) hol hor hnr;have htk:cur.toList.take (ρ.off+ρ.len*sz)=cur.toList.take ρ.off++olds:=by grind
       have hd2:=DRel.of_rowO (m:=g.m) (m':=(({g with m:=fun i=>if i=ρ.b then ρ.off+(ρ.len+l'.len)*ρ.sz else g.m i}:Gh).rowN n (some ⟨ρ.b,ρ.len+l'.len,ρ.cap,ρ.sz,ρ.off⟩)).m) (w:=w)
        (w':=w.setRow ρ.b (cur.toList.take (ρ.off+ρ.len*sz)++news++cur.toList.drop (ρ.off+ρ.len*sz+news.length)).toArray) (l:=l2) (b:=ρ.b) (off:=ρ.off) (cap:=ρ.cap)
        (setRow_heap w _ _ _ te _ h14) (by omega) (by simp[Gh.rowN,h9,h10,hcs,hszr,hl1]) (fun i hi=>hgl i hi hol2) (fun i j cs c q1 q2 q3 q4=>by
         obtain⟨u,h20,h21⟩:=hcells i j cs c q1 q2 q3 q4;refine⟨u,?_,h21⟩;have hlo:(cur.toList.take ρ.off).length=ρ.off:=by grind
         rw[htk,List.append_assoc,List.append_assoc,List.getElem?_append_right (by omega),hlo,Nat.add_sub_cancel_left,<-List.append_assoc];omega) h19.mark h19.cells
       refine VRel.own n (Or.inr (List.mem_singleton.2 rfl)) _ l2 ?_ (by grind);simp[Ydk,Gh.rowN,h9,h10,hl1,hcs,hszr]
     ·obtain ⟨g',h18,h19,h20⟩:=hnewrow ((r,.gone)::es) olds ρ.cap hRg hxg hol hor hol2 (by omega);refine⟨g',_,_,hrun _ _ ?_,h18,h19,h20⟩;rw[hv,hxv];have:=Zbs (P:=E.P) (w:=w) (ty:=o.type) h1 h2 h5 (base:=some ⟨ρ.b,ρ.off,none⟩) (sLen:=ρ.len) (sCap:=ρ.cap) (xb:=xb) (n:=l'.len) (xc:=xc) (olds:=olds) (news:=news)
       (fun W hW=>by grind) (fun W hW=>by grind) (by omega) (by grind) (by omega)
      grind
theorem OS.append{t:TypeId}{s x:Operand}{i:TI}{c:Option EC}{sz bytes n:Nat}{sp sp':Sp}{l l' l2:SL V}(ho:o.op= .call {callee:= .builtin .append,args:= #[s,x],argTypes:= #[t,t]})
 (ht:E.ti t=some i) (hd:i.desc= .slc c sz bytes) (hs:ev E t a s=some (.slice sp l)) (hx:ev E t a x=some (.slice sp' l')) (hsp:Zn1 sp=true)
 (hl:l.app l'=some l2) (hsz:Nat.beq l.cells sz=true) (hb:(l.len+l'.len)*bytes<=140737488355328) (hb2:l.len+l'.len<=9223372036854775807):OS E N o a (Zd9 sp) (.slice (.own n) l2) [n] (Zcd n sp):=
 OS.appendG ho ht hd hs hx (.inl hsp) hl hsz hb hb2
end
section
variable {E:Env} {N:Nat} {o:Oper} {a:AF}
def Zb3(E:Env)(a:AF):List (Nat×Operand)->Option (List (Nat×List V))
 |[]=>some []
 |p::l=>((ev E 0 a p.2).bind cellsOf).bind fun vc=>(Zb3 E a l).map fun r=>(p.1,vc)::r
def Zkk(gs:List (Nat×Nat×Bool))(cs:List V):List (Nat×List V)->Option (List V)
 |[]=>some cs
 |p::rest=>match gs[p.1]? with
  |none=>none
  |some q=>bif Nat.beq p.2.length q.2.1&&Nat.ble (q.1+p.2.length) cs.length then Zkk gs (cs.take q.1++p.2++cs.drop (q.1+p.2.length)) rest else none
theorem Zrt(off:Nat):∀(us:List Value) (j:Nat) (cs:Array Value),off+j+us.length<=cs.size->
 (us.zipIdx j).foldl (fun cs (x:Value×Nat)=>cs.setIfInBounds (off+x.2) x.1) cs=(cs.toList.take (off+j)++us++cs.toList.drop (off+j+us.length)).toArray:=by
 intro us;induction us with
 |nil=>simp
 |cons u us ih2=>
  intro j cs hcs;simp only[List.length_cons] at hcs;simp only[List.zipIdx_cons,List.foldl_cons];rw[ih2 (j+1) _ (by grind)];congr 1;rw[Array.toList_setIfInBounds];have:=list_seg_step cs.toList (off+j) u us (by omega);omega
theorem Ztx{gs:List (Nat×Nat×Bool)}{g:Gh}{D:Nat->Prop}{es:Es}{w:World}{act:Act}(hR:R E.G g D es w)(hF:FRel g D w N act a):∀{ps:List (Nat×Operand)} {vps:List (Nat×List V)},Zb3 E a ps=some vps->
 ∀{cs cs':List V},Zkk gs cs vps=some cs'->∀{vs:List Value},vs.length=cs.length->(∀v∈vs,v.oneCell'=true)->(∀(i:Nat) v c,vs[i]? =some v->cs[i]? =some c->VRel g D w v c)->
 ∃us:List Value,Instr.fill (fun i=>(gs[i]?).map fun q=>(q.1,q.2.1)) vs.toArray (ps.map fun p=>(p.1,act.eval p.2))=some us.toArray/\us.length=cs'.length/\(∀v∈us,v.oneCell'=true)/\
  ∀(i:Nat) v c,us[i]? =some v->cs'[i]? =some c->VRel g D w v c:=by
 intro ps;induction ps with
 |nil=>
  intro vps h cs cs' hf vs h1 h2 h3;simp[Zb3] at h;subst h;simp[Zkk] at hf;subst hf;exact⟨vs,rfl,h1,h2,h3⟩
 |cons p l ih=>
  intro vps h cs cs' hf vs h1 h2 h3;simp only[Zb3,Option.bind_eq_some_iff,Option.map_eq_some_iff] at h;obtain⟨vc,⟨c0,h4,h5⟩,r,h6,rfl⟩:=h;simp only[Zkk] at hf;cases hq:gs[p.1]? with
  |none=>grind
  |some q=>
   rw[hq] at hf;cases hb:Nat.beq vc.length q.2.1&&Nat.ble (q.1+vc.length) cs.length with
   |false=>grind
   |true=>
    simp only[hb,cond_true] at hf;rw[Bool.and_eq_true] at hb;have hb1:=Nat.eq_of_beq_eq_true hb.1;have hb2:=Nat.le_of_ble_eq_true hb.2;obtain⟨us,h7,h8,h9,h10⟩:=Zag h5 (z6 h4 hR hF);obtain⟨us',h11,h12⟩:=ih h6 hf (vs:=vs.take q.1++us++vs.drop (q.1+us.length)) (by grind)
     (fun u hu=>by
      grind)
     (fun j u d hu hd=>by
      rw[Zk4 _ _ _ _ (by omega)] at hu;rw[Zk4 _ _ _ _ hb2,<-h8] at hd
      grind)
    refine⟨us',?_,h12⟩;simp only[List.map_cons,Instr.fill,hq,Option.map_some];rw[if_neg (by grind)];have h13:(act.eval p.2).cells.zipIdx.foldl (fun cs (x:Value×Nat)=>cs.setIfInBounds (q.1+x.2) x.1) vs.toArray=(vs.take q.1++us++vs.drop (q.1+us.length)).toArray:=by
     rw[h7,<-Array.foldl_toList,Array.toList_zipIdx];have:=Zrt q.1 us 0 vs.toArray (by grind);omega
    grind
theorem Zwz:∀{fs:List Field} {gs:List (Nat×Nat×Bool)},Zbt E.P fs gs=true->fs.mapM (fun f=>(E.P.info? f.type).map fun i=>(f.offset,i.size))=some (gs.map fun q=>(q.1,q.2.1)):=by
 intro fs;induction fs with
 |nil=>intro gs h;cases gs with|nil=>rfl|cons=>simp[Zbt] at h
 |cons fd l ih=>
  intro gs h;cases gs with
  |nil=>simp[Zbt] at h
  |cons q l'=>
   simp only[Zbt,Bool.and_eq_true] at h;obtain⟨⟨⟨⟨h1,h2⟩,h3⟩,h4⟩,h5⟩:=h;unfold Zuq at h2;split at h2
   ·rename_i inf hi;simp only[List.mapM_cons,hi,ih h5,Option.map_some,Option.bind_eq_bind,Option.bind_some,Option.pure_def,List.map_cons];simp_all
   grind
theorem OS.build{t:TypeId}{ps:List (Nat×Operand)}{i:TI}{gs:List (Nat×Nat×Bool)}{vps:List (Nat×List V)}{cs:List V}(ho:o.op= .build t ps.toArray)(ht:E.ti t=some i)(hd:i.desc= .strct gs)
 (hp:Zb3 E a ps=some vps) (hf:Zkk gs i.zero vps=some cs):OS E N o a [] (.agg cs) [] []:=
 .pure fun g D es w act hR _ hF=>by
  obtain⟨fs,h1,h2⟩:=Zbv ht hd;obtain⟨inf,h3,h4,z,h5,h6⟩:=Zce ht;obtain⟨h7,h8,h9⟩:=Zae h6;obtain⟨us,h10,h11,h12,h13⟩:=Ztx hR hF hp hf h7 h8 (fun i v c hv hc=>h9 g D w i v c hv hc);refine⟨.agg us.toArray,?_,.agg us cs h11 h12 h13⟩;have hb:E.P.built t ((ps.toArray.map fun x=>(x.1,act.eval x.2))).toList=some us.toArray:=by
   unfold Program.built;simp only[h3,h1,h5,Zwz h2];simp_all
  have hrun:=run_build (P:=E.P) w t (ps.toArray.map fun x=>(x.1,act.eval x.2)) us.toArray hb;simp only[execOp,ho,hrun,Sem.run_bind,Result.andThen_ok,Sem.run_pure]
theorem OS.indexS{t:TypeId}{x y:Operand}{i:TI}{c:Option EC}{sz bytes:Nat}{sp:Sp}{l:SL V}{n:Int}{k:Nat}{cs:List V}{kd:IntKind}(ho:o.op= .indexAddr t x y)(ht:E.ti t=some i)(hd:i.desc= .slc c sz bytes)
 (hx:ev E t a x=some (.slice sp l)) (hy:ev E 0 a y=some (.int kd n)) (hn:n=k) (hk:l.get k=some cs) (hlt:k<l.len) (hsz:Nat.beq l.cells sz=true):OS E N o a [] (.addr cs) [] []:=
 .pure fun g D es w act hR _ hF=>by
  obtain⟨e,inf,z,h1,h2,h3,h4,h5,h6,h7,h8⟩:=Zcf ht hd;have hv:=(z6 hx hR hF).slice_inv;have hi:=(z6 hy hR hF).int_inv;have hcs:=Nat.eq_of_beq_eq_true hsz;generalize hxv:act.eval x=v at hv;cases hv with
  |nilS _ h=>omega
  |emp _ h _ _=>omega
  |slice _ b off cap f hm hcap hl hc hr=>
   obtain⟨cs',h9,h10⟩:=hl k hlt;rw[hk] at h9;cases h9;refine⟨.pointer (some ⟨b,off+k*l.cells,none⟩),?_,?_⟩
   ·have h11:0<=n/\n<(l.len:Int):=by omega
    have h12:n.toNat=k:=by omega
    simp[execOp,ho,Instr.indexAt,hxv,hi,asIntOf,yp h1,h11,h12,x8 h2,h3,Zv0,hcs]
   ·refine .addr b _ cs (fun j=>f k j) ?_ (fun j hj=> ?_) (fun j c hj=>hr k j cs c hlt hk hj)
    ·rw[h10];have:k*l.cells+l.cells<=l.len*l.cells:=by
      have:=Nat.mul_le_mul_right l.cells (show k+1<=l.len by omega)
      grind
     omega
    grind
theorem Zrh{t:TypeId}{i:TI}{n esz:Nat}{ea:Bool}(h:E.ti t=some i)(hd:i.desc= .arr n esz ea):∃e inf,E.P.underlying t=some (.array n e)/\E.P.info? e=some inf/\inf.size=esz/\0<esz/\(∀w,(isAgg e).run E.P w= .ok ea w):=by
 obtain⟨d,h1,h2⟩:=Zc8 h;rw[hd] at h2;cases d with
 |array n' e=>
  simp only[Bool.and_eq_true] at h2;obtain⟨⟨⟨h3,h4⟩,h5⟩,h6⟩:=h2;have:=Nat.eq_of_beq_eq_true h3;subst this;unfold Zuq at h4;split at h4
  ·rename_i inf hi;refine⟨e,inf,h1,hi,Nat.eq_of_beq_eq_true h4,Nat.le_of_ble_eq_true h5,fun w=> ?_⟩;unfold Yk9 at h6;unfold isAgg;cases hu:E.P.underlying e with
   |none=>grind
   |some d=>
    rw[hu] at h6;simp only[Sem.run_bind,yp hu,Result.andThen_ok];cases d<;>simp at h6<;>simp[h6]
  grind
 |_=>cases h2
theorem OS.indexA{t:TypeId}{x y:Operand}{i:TI}{m esz:Nat}{ea:Bool}{cs:List V}{n:Int}{k:Nat}{kd:IntKind}(ho:o.op= .indexAddr t x y)(ht:E.ti t=some i)(hd:i.desc= .arr m esz ea)
 (hx:ev E 0 a x=some (.addr cs)) (hy:ev E 0 a y=some (.int kd n)) (hn:n=k) (hlt:k<m) (hb:k*esz<=cs.length):OS E N o a [] (.addr (cs.drop (k*esz))) [] []:=
 .pure fun g D es w act hR _ hF=>by
  obtain⟨e,inf,h1,h2,h3,h4,_⟩:=Zrh ht hd;have h8:=z6 hx hR hF;have hi:=(z6 hy hR hF).int_inv;generalize hxv:act.eval x=v at h8;cases h8 with
  |data h=>cases h
  |addr b off _ f hm hc hr=>
   refine⟨.pointer (some ⟨b,off+k*esz,none⟩),?_,?_⟩
   ·have h11:0<=n/\n<(m:Int):=by omega
    have h12:n.toNat=k:=by omega
    simp[execOp,ho,Instr.indexAt,hxv,hi,asIntOf,yp h1,Instr.sureAddr,h11,h12,x8 h2,h3,Zv0]
   ·refine .addr b _ _ (fun j=>f (k*esz+j)) (by grind) (fun j hj=> ?_) (fun j c hj=> ?_);all_goals grind
theorem OS.indexB{t:TypeId}{x y:Operand}{i:TI}{m esz:Nat}{ea:Bool}{p off:Nat}{n:Int}{k:Nat}{kd:IntKind}(ho:o.op= .indexAddr t x y)(ht:E.ti t=some i)(hd:i.desc= .arr m esz ea)
 (hx:ev E 0 a x=some (.ptr p off)) (hy:ev E 0 a y=some (.int kd n)) (hn:n=k) (hlt:k<m):OS E N o a [] (.ptr p (off+k*esz)) [] []:=
 .pure fun g D es w act hR _ hF=>by
  obtain⟨e,inf,h1,h2,h3,h4,_⟩:=Zrh ht hd;have h8:=z6 hx hR hF;have hi:=(z6 hy hR hF).int_inv;generalize hxv:act.eval x=v at h8;cases h8 with
  |data h=>cases h
  |ptr _ _ hD=>
   refine⟨.pointer (some ⟨g.blk p,off+k*esz,none⟩),?_,.ptr p _ hD⟩;have h11:0<=n/\n<(m:Int):=by omega
   have h12:n.toNat=k:=by omega
   simp[execOp,ho,Instr.indexAt,hxv,hi,asIntOf,yp h1,Instr.sureAddr,h11,h12,x8 h2,h3,Zv0]
theorem OS.slice3{t:TypeId}{x y z:Operand}{i:TI}{c:Option EC}{sz bytes:Nat}{sp:Sp}{l:SL V}{k k':IntKind}(ho:o.op= .slice t x none (some y) (some z))(ht:E.ti t=some i)(hd:i.desc= .slc c sz bytes)
 (hx:ev E t a x=some (.slice sp l)) (hy:ev E 0 a y=some (.int k l.len)) (hz:ev E 0 a z=some (.int k' l.len)):OS E N o a [] (.slice .full l) [] []:=
 .pure fun g D es w act hR _ hF=>by
  obtain⟨e,inf,zz,h1,h2,h3,h4,h5,h6,h7,h8⟩:=Zcf ht hd;have hv:=(z6 hx hR hF).slice_inv;have hi:=(z6 hy hR hF).int_inv;have hj:=(z6 hz hR hF).int_inv;have hv0:=hv;generalize hxv:act.eval x=v at hv;cases hv with
  |nilS _ h=>
   refine⟨.slice none 0 0,?_,.fullNil l h⟩;simp[execOp,ho,Instr.sliceAt,Instr.slice,yp h1,hxv,hi,hj,Instr.sliceBounds,Instr.sliceBound,asIntOf,h,x8 h2]
  |emp _ h a cap=>
   refine⟨.slice (some a) 0 0,?_,.full a 0 l (.emp l h a 0)⟩;simp[execOp,ho,Instr.sliceAt,Instr.slice,yp h1,hxv,hi,hj,Instr.sliceBounds,Instr.sliceBound,asIntOf,h,x8 h2]
  |slice _ b off cap f hm hcap hl hc hr=>
   refine⟨.slice (some ⟨b,off,none⟩) l.len l.len,?_,.full _ _ l (.slice l b off l.len f hm (Nat.le_refl _) hl hc hr)⟩;have h9:(0:Int)<=l.len:=by omega
   have h10:(l.len:Int)<=cap:=by omega
   by_cases h0:l.len=0
   ·simp[execOp,ho,Instr.sliceAt,Instr.slice,yp h1,hxv,hi,hj,Instr.sliceBounds,Instr.sliceBound,asIntOf,h9,h10,x8 h2,h0]
   ·simp[execOp,ho,Instr.sliceAt,Instr.slice,yp h1,hxv,hi,hj,Instr.sliceBounds,Instr.sliceBound,asIntOf,h9,h10,x8 h2,h0,Zv0];omega
def SL.sub(l:SL V)(lo n:Nat):SL V:=match l with| .t c xs=> .t c ((xs.drop lo).take n)| .u s xs=> .u s ((xs.drop lo).take n)
theorem SL.sub_spec(l:SL V)(lo n:Nat)(h:lo+n<=l.len):(l.sub lo n).len=n/\(l.sub lo n).cells=l.cells/\∀i,i<n->(l.sub lo n).get i=l.get (lo+i):=by
 cases l with
 |t c xs=>
  simp only[SL.len] at h;refine⟨by simp[SL.sub,SL.len];omega,rfl,fun i hi=> ?_⟩;simp[SL.sub,SL.get,List.getElem?_take,hi]
 |u s xs=>
  simp only[SL.len] at h;refine⟨by simp[SL.sub,SL.len];omega,rfl,fun i hi=> ?_⟩;simp[SL.sub,SL.get,List.getElem?_take,hi]
def Yaz(E:Env)(a:AF)(d:Nat):Option Operand->Option Nat
 |none=>some d
 |some x=>match ev E 0 a x with
  |some (.int _ (.ofNat n))=>some n
  |_=>none
theorem DRel.sub{m:Nat->Nat}{w:World}{b off cap:Nat}{l:SL V}{f:Nat->Nat->Value}(hm:off+l.len*l.cells<=m b)(hcap:l.len<=cap)
 (hl:∀i,i<l.len->∃cs,l.get i=some cs/\cs.length=l.cells) (hc:∀i j,i<l.len->j<l.cells->w.cell? ⟨b,off+(i*l.cells+j),none⟩=some (f i j))
 (hr:∀i j cs c,i<l.len->l.get i=some cs->cs[j]? =some c->DRel m w (f i j) c) (lo n:Nat) (hn:lo+n<=l.len):
 DRel m w (.slice (some ⟨b,off+lo*l.cells,none⟩) n (cap-lo)) (.slice .any (l.sub lo n)):=by
 obtain⟨h1,h2,h3⟩:=SL.sub_spec l lo n hn;have:=DRel.slice (m:=m) (w:=w) (l.sub lo n) b (off+lo*l.cells) (cap-lo) (fun i j=>f (lo+i) j) ?_ ?_ ?_ ?_ ?_
 ·grind
 ·rw[h1,h2];have:(lo+n)*l.cells<=l.len*l.cells:=Nat.mul_le_mul_right _ hn
  grind
 ·omega
 ·intro i hi;rw[h1] at hi;rw[h3 i hi,h2];exact hl _ (by omega)
 all_goals grind
theorem OS.slice2{t:TypeId}{x:Operand}{ylo yhi:Option Operand}{lo hi:Nat}{i:TI}{c:Option EC}{sz bytes:Nat}{sp:Sp}{l:SL V}(ho:o.op= .slice t x ylo yhi none)(ht:E.ti t=some i)(hd:i.desc= .slc c sz bytes)
 (hx:ev E t a x=some (.slice sp l)) (hlo:Yaz E a 0 ylo=some lo) (hhi:Yaz E a l.len yhi=some hi) (h1:lo<=hi) (h2:hi<=l.len) (hsz:Nat.beq l.cells sz=true):OS E N o a [] (.slice .any (l.sub lo (hi-lo))) [] []:=
 .pure fun g D es w act hR _ hF=>by
  obtain⟨e,inf,zz,hu,hi2,hs,_,_,_,h7,_⟩:=Zcf ht hd;have hcs:=Nat.eq_of_beq_eq_true hsz;have hv:=(z6 hx hR hF).slice_inv;have opt:∀{y:Option Operand} {d n:Nat},Yaz E a d y=some n->(y=none/\n=d)\/∃x k,y=some x/\act.eval x= .int k (n:Int):=by
   intro y d n h;cases y with
   |none=>simp[Yaz] at h;grind
   |some x=>
    simp only[Yaz] at h;split at h
    ·rename_i k n' hx;cases h;exact .inr ⟨x,k,rfl,(z6 hx hR hF).int_inv⟩
    grind
  generalize hxv:act.eval x=v at hv;cases hv with
  |nilS _ h=>
   have hlo0:lo=0:=by omega
   have hhi0:hi=0:=by omega
   subst hlo0;subst hhi0;refine⟨.slice none 0 0,?_,.data (.nilS _ (SL.sub_spec l 0 0 (by omega)).1)⟩;have hb:(Instr.sliceBounds true 0 0 (ylo.map act.eval) (yhi.map act.eval) none).run E.P w= .ok (0,0,0) w:=by
    rcases opt hlo with⟨rfl,hl0⟩|⟨xl,kl,rfl,hl0⟩<;>rcases opt hhi with⟨rfl,hh0⟩|⟨xh,kh,rfl,hh0⟩
    ·rfl
    ·simp[Instr.sliceBounds,Instr.sliceBound,hh0,asIntOf]
    ·simp[Instr.sliceBounds,Instr.sliceBound,hl0,asIntOf]
    ·simp[Instr.sliceBounds,Instr.sliceBound,hl0,hh0,asIntOf]
   have hrun:((Instr.sliceAt t (.slice none 0 0) (ylo.map act.eval) (yhi.map act.eval) none).run E.P w)= .ok (.slice none 0 0) w:=by
    simp only[Instr.sliceAt,Instr.slice,yp hu,Sem.run_bind,Result.andThen_ok,hb,x8 hi2,Sem.run_pure];simp
   simp only[execOp,ho,hxv,h,Sem.run_bind];simp_all
  |emp _ h a cap=>
   have hlo0:lo=0:=by omega
   have hhi0:hi=0:=by omega
   subst hlo0;subst hhi0;refine⟨.slice (some (if cap=0 then a else a.add 0)) 0 cap,?_,.data (.emp _ (SL.sub_spec l 0 0 (by omega)).1 _ _)⟩;have hb:(Instr.sliceBounds true 0 cap (ylo.map act.eval) (yhi.map act.eval) none).run E.P w= .ok (0,0,cap) w:=by
    rcases opt hlo with⟨rfl,hl0⟩|⟨xl,kl,rfl,hl0⟩<;>rcases opt hhi with⟨rfl,hh0⟩|⟨xh,kh,rfl,hh0⟩
    ·rfl
    ·simp[Instr.sliceBounds,Instr.sliceBound,hh0,asIntOf]
    ·simp[Instr.sliceBounds,Instr.sliceBound,hl0,asIntOf]
    ·simp[Instr.sliceBounds,Instr.sliceBound,hl0,hh0,asIntOf]
   have hrun:((Instr.sliceAt t (.slice (some a) 0 cap) (ylo.map act.eval) (yhi.map act.eval) none).run E.P w)= .ok (.slice (some (if cap=0 then a else a.add 0)) 0 cap) w:=by
    simp only[Instr.sliceAt,Instr.slice,yp hu,Sem.run_bind,Result.andThen_ok,hb,x8 hi2,Sem.run_pure]
    grind
   simp only[execOp,ho,hxv,h,Sem.run_bind];simp_all
  |slice _ b off cap f hm hcap hl hc hr=>
   have hd2:=DRel.sub hm hcap hl hc hr lo (hi-lo) (by omega);have e1:(0:Int)<=lo/\(lo:Int)<=hi:=by omega
   have e2:(0:Int)<=hi/\(hi:Int)<=cap:=by omega
   have hrun:((Instr.sliceAt t (.slice (some ⟨b,off,none⟩) l.len cap) (ylo.map act.eval) (yhi.map act.eval) none).run E.P w)= .ok (.slice (some (if cap=lo then⟨b,off,none⟩ else⟨b,off+lo*l.cells,none⟩)) (hi-lo) (cap-lo)) w:=by
    have hb:(Instr.sliceBounds true l.len cap (ylo.map act.eval) (yhi.map act.eval) none).run E.P w= .ok (lo,hi,cap) w:=by
     rcases opt hlo with⟨rfl,hl0⟩|⟨xl,kl,rfl,hl0⟩<;>rcases opt hhi with⟨rfl,hh0⟩|⟨xh,kh,rfl,hh0⟩
     ·subst hl0;subst hh0;rfl
     ·subst hl0;simp[Instr.sliceBounds,Instr.sliceBound,hh0,asIntOf,e2];omega
     ·subst hh0;simp[Instr.sliceBounds,Instr.sliceBound,hl0,asIntOf,e1];omega
     ·have e3:hi<=cap:=by omega
      simp[Instr.sliceBounds,Instr.sliceBound,hl0,hh0,asIntOf,e3,h1]
    simp only[Instr.sliceAt,Instr.slice,yp hu,Sem.run_bind,Result.andThen_ok,hb,x8 hi2,Sem.run_pure,hs,Option.map_some,Zv0,hcs]
    grind
   refine⟨.slice (some (if cap=lo then⟨b,off,none⟩ else⟨b,off+lo*l.cells,none⟩)) (hi-lo) (cap-lo),?_,?_⟩
   ·simp only[execOp,ho,hxv,Sem.run_bind];simp_all
   split
   ·rename_i hcl;have:hi-lo=0:=by omega
    rw[this] at hd2 ⊢;refine .data ?_;have h9:=SL.sub_spec l lo 0 (by omega);have:=DRel.slice (m:=g.m) (w:=w) (l.sub lo 0) b off (cap-lo) (fun i j=>f (lo+i) j) (by grind) (by omega) (fun i hi=>by omega) (fun i j hi=>by omega) (fun i j cs c hi=>by omega)
    grind
   ·exact .data hd2
end
section
variable {E:Env} {N:Nat} {o:Oper} {a:AF}
def AC(E:Env)(f:FuncId)(args:List V)(σ:Sto)(r:V)(σ':Sto):Prop:=
 (∀vs w,(callFunc f vs).run E.P w= .ok (.enter f vs) w)/\σ.nx<=σ'.nx/\
 ∀g w (vs:List Value),R E.G g (·<σ.nx) σ.es w->vs.length=args.length->(∀(i:Nat) v c,vs[i]? =some v->args[i]? =some c->VRel g (·<σ.nx) w v c)->
  Calls E.P f vs.toArray w fun e w'=>∃v g',e= .returned v/\R E.G g' (·<σ'.nx) σ'.es w'/\VRel g' (·<σ'.nx) w' v r/\Ext (·<σ.nx) g (Foot g σ.es) w g' (Foot g' σ'.es) w'
def PC(E:Env)(f:FuncId)(args:List V)(r:V):Prop:=AC E f args ⟨0,[]⟩ r ⟨0,[]⟩
def evT(E:Env)(a:AF):List Operand->List TypeId->Option (List V)
 |[],_=>some []
 |x::xs,[]=>(ev E 0 a x).bind fun v=>(evT E a xs []).map fun vs=>v::vs
 |x::xs,t::ts=>(ev E t a x).bind fun v=>(evT E a xs ts).map fun vs=>v::vs
theorem Zq4:∀{xs:List Operand} {ts:List TypeId} {vs:List V},evT E a xs ts=some vs->∀{g:Gh} {D:Nat->Prop} {es:Es} {w:World} {act:Act},R E.G g D es w->FRel g D w N act a->
 (xs.map act.eval).length=vs.length/\∀(i:Nat) v c,(xs.map act.eval)[i]? =some v->vs[i]? =some c->VRel g D w v c:=by
 intro xs;induction xs with
 |nil=>intro ts vs h g D es w act hR hF;simp[evT] at h;grind
 |cons x l ih=>
  intro ts vs h g D es w act hR hF;have key:∀t ts',(ev E t a x).bind (fun v=>(evT E a l ts').map fun vs=>v::vs)=some vs->((x::l).map act.eval).length=vs.length/\∀(i:Nat) v c,((x::l).map act.eval)[i]? =some v->vs[i]? =some c->VRel g D w v c:=by
   intro t ts' h;simp only[Option.bind_eq_some_iff,Option.map_eq_some_iff] at h;obtain⟨v,h1,vs',h2,rfl⟩:=h;obtain⟨h3,h4⟩:=ih h2 hR hF;refine⟨by grind,fun i u c hu hc=> ?_⟩;cases i with
   |zero=>simp at hu hc;subst hu;subst hc;exact z6 h1 hR hF
   |succ i=>grind
  cases ts with
  |nil=>exact key 0 [] h
  |cons t ts=>exact key t ts h
theorem Zye{f:FuncId}{xs:List Operand}{ts:Array TypeId}(ho:o.op= .call {callee:= .value (.func f),args:=xs.toArray,argTypes:=ts}){act:Act}{w:World}{K:Act->World->Prop}{Q:Exit->Act->World->Prop}
 (hc:∀vs w,(callFunc f vs).run E.P w= .ok (.enter f vs) w)
 (h:Calls E.P f (xs.map act.eval).toArray w fun e w'=>∃v,e= .returned v/\K (act.put o.dst v) w'):o.wp E.P act w K Q:=by
 have hrun:(execOp act.eval o).run E.P w= .ok (.enter f (xs.map act.eval).toArray) w:=by
  simp[execOp,ho,resolve,Deferred.ofValue,Act.eval,invoke,hc]
 unfold Oper.wp;rw[hrun];refine h.mono ?_
 grind
theorem Ydc{x:Operand}{f:FuncId}{fi caps:List Value}{xs:List Operand}{ts:Array TypeId}(ho:o.op= .call {callee:= .value x,args:=xs.toArray,argTypes:=ts}){act:Act}{w:World}{K:Act->World->Prop}{Q:Exit->Act->World->Prop}
 (hx:act.eval x= .func (.func f) fi.toArray caps.toArray) (hc:∀vs w,(callFunc f vs).run E.P w= .ok (.enter f vs) w)
 (h:Calls E.P f (fi++xs.map act.eval++caps).toArray w fun e w'=>∃v,e= .returned v/\K (act.put o.dst v) w'):o.wp E.P act w K Q:=by
 have hrun:(execOp act.eval o).run E.P w= .ok (.enter f (fi++xs.map act.eval++caps).toArray) w:=by
  simp[execOp,ho,resolve,hx,Deferred.ofValue,invoke,hc]
 unfold Oper.wp;rw[hrun];refine h.mono ?_
 grind
def Gh.marks(g g':Gh):Gh:={g with m:=g'.m}
theorem PC.use{f:FuncId}{args:List V}{r:V}(h:PC E f args r){g:Gh}{D:Nat->Prop}{es:Es}{w:World}(hR:R E.G g D es w){vs:List Value}{cs:List V}(hl:vs.length=cs.length)
 (hr:∀(i:Nat) v c,vs[i]? =some v->cs[i]? =some c->VRel g D w v c) (hle:∃cs1,w7 [] args=some cs1/\VsLe cs cs1) {P:Ending->World->Prop}
 (hP:∀v g' w',R E.G g' D es w'->VRel g' D w' v r->Ext D g (Foot g es) w g' (Foot g' es) w'->P (.returned v) w'):Calls E.P f vs.toArray w P:=by
 obtain⟨cs1,h1,h2⟩:=hle;obtain⟨_,_,h3⟩:=h;have hRs:R E.G g (·<0) [] w:=⟨fun n e h=>(by cases h),fun n n' e e' b h=>(by cases h),fun n e h=>(by cases h),hR.fresh,hR.glob⟩;have hnr:∀n m,Zbx [] n≠some m:=fun n m h=>by simp[Zbx,Zet] at h
 refine(h3 g w vs hRs (by rw[hl,h2.len,<-yv h1]) (fun i v c hv hc=> ?_)).mono ?_
 ·obtain ⟨c1,hc1⟩:=getElem?_of_len (yv h1) hc;obtain⟨c0,hc0,hle⟩:=h2.nth i c1 hc1;exact VRel.unren (ρ:=[]) (g2:=g) (hle _ _ _ _ (hr i v c0 hv hc0)) rfl (fun n m h=>absurd h (hnr n m)) (fun n m h=>absurd h (hnr n m)) (fun n h=>by simp[Zet] at h) c (vb h1 i c c1 hc hc1)
 ·rintro e w' ⟨v,g',rfl,hR',hv,hx⟩;have hnf:∀b,¬Foot g [] b:=fun b h=>by obtain⟨n,e,h,_⟩:=h;cases h
  have hsame:∀b,b<w.heap.size->w'.heap[b]? =w.heap[b]? /\g'.m b=g.m b:=fun b hb=>hx.frame b hb (hnf b);have hfoot:Foot (g.marks g') es=Foot g es:=by
   rfl
  refine hP v (g.marks g') w' ?_ ?_ ?_
  ·refine hR.step hx.mark hx.cells (fun _ h=>h) (fun _ _=>rfl) (fun _ _=>rfl) (fun n e he=> .inl ⟨he,fun b hb=>hsame b (hR.foot_lt he hb)⟩) ?_ hR'.fresh;intro n n' e e' b h4 h5 h6 h7;exact hR.foots n n' e e' b h4 h5 (by cases e<;>exact h6) (by cases e'<;>exact h7)
  ·exact hv.mono (fun _=>Nat.le_refl _) (fun _ _ _=>rfl) (fun n h=>absurd h (Nat.not_lt_zero n)) (fun n h=>absurd h (Nat.not_lt_zero n)) (fun n h=>absurd h (Nat.not_lt_zero n))
  ·refine ⟨hx.os,hx.tape,hx.output,hx.size,hx.cells,hx.mark,fun _ _=>rfl,fun _ _=>rfl,fun b hb _=>hsame b hb,fun b hb=> ?_⟩;simp_all
theorem OS.call0{f:FuncId}{xs:List Operand}{ts:Array TypeId}{cs args:List V}{r:V}(ho:o.op= .call {callee:= .value (.func f),args:=xs.toArray,argTypes:=ts})(hx:evT E a xs ts.toList=some cs)(h:PC E f args r)
 (hle:∃cs1,w7 [] args=some cs1/\VsLe cs cs1):OS E N o a [] r [] []:=by
 intro g D es w act hR hp hn hF K Q hK;obtain⟨h1,h2⟩:=Zq4 hx hR hF;refine Zye ho h.1 (h.use hR h1 h2 hle fun v g' w' h3 h4 h5=>⟨v,rfl,hK g' v w' (h3.more fun n h=> .inl h) (h4.more fun n h=> .inl h) h5⟩)
def AWL(E:Env)(N k:Nat)(ops rest:List Oper)(a:AF)(σ:Sto)(Q:Exit->AF->Sto->Prop):Prop:=
 k<=σ.nx->∀g w act,R E.G g (·<σ.nx) σ.es w->FRel g (·<σ.nx) w N act a->YOk E.Y g (Foot g σ.es) w->∀g0 F0 w0,Ext (·<k) g0 F0 w0 g (Foot g σ.es) w->
  wpList E.P ops.toArray (Post E N k g0 F0 w0 Q) rest act w
variable {k:Nat} {σ:Sto} {Q:Exit->AF->Sto->Prop} {ops rest:List Oper}
theorem AW.region{id:Nat}(h:AWL E N k ops ops a σ Q):AW E N k (.region id ops.toArray false) a σ Q:=
 ⟨fun hk g w act hR hF hY=>wp_region_lit (h hk g w act hR hF hY g (Foot g σ.es) w (.refl ..))⟩
theorem AWL.nil(h:Q .normal a σ):AWL E N k ops [] a σ Q:=
 fun hk g w act hR hF hY g0 F0 w0 hx=>wpList_nil ⟨g,a,σ,h,hk,hR,hF,hx⟩
def zw(N:Nat):Option Tmp->Bool
 |none=>true
 |some d=>Nat.blt d N
theorem Zh1{d:Option Tmp}(h:zw N d=true):∀t,d=some t->t<N:=by
 intro t ht;subst ht;exact Nat.le_of_ble_eq_true h
def Sto.upd(σ:Sto)(news:Nat)(post:Es):Sto:=⟨σ.nx+news,post++σ.es⟩
theorem AWL.op{pre:Es}{v:V}{news:Nat}{post:Es}(h:OSY E N o a pre v (List.range' σ.nx news) post)(hg:o.guard=none)(hp:∀p∈pre,zm σ.es p.1=some p.2)(hd:zw N o.dst=true)
 (h2:AWL E N k ops rest (a.put o.dst v) (σ.upd news post) Q):AWL E N k ops (o::rest) a σ Q:=by
 intro hk g w act hR hF hY g0 F0 w0 hx;refine wpList_plain hg fun K hK=>h g _ σ.es w act hR hY hp (fun n hn hlt=> ?_) hF K _ fun g' v' w' hR' hv' hx'=>hK _ _ ?_
 ·grind
 ·have hD:∀n,(n<σ.nx\/n∈List.range' σ.nx news)↔n<σ.nx+news:=fun n=>by
   grind
  have hle:∀n,(fun n=>n<σ.nx) n->(fun n=>n<σ.nx+news) n:=fun n h=>by omega
  refine h2 (by simp only[Sto.upd];omega) g' w' _ (hR'.more fun n h=>(hD n).1 h) ?_ (hY.ext hx') g0 F0 w0 (hx.trans (hx'.mono fun n hn=>by omega));exact(hF.ext hx' hle).put (Zh1 hd) (hv'.more fun n h=>(hD n).1 h)
theorem AWL.split{d:Tmp}{b:Bool}(hb:a.get d=some (.bool b))(ht:b=true->AWL E N k ops rest ((d,.bool true)::a) σ Q)(hf:b=false->AWL E N k ops rest ((d,.bool false)::a) σ Q):AWL E N k ops rest a σ Q:=by
 intro hk g w act hR hF hY g0 F0 w0 hx;have key:∀b',b=b'->FRel g (·<σ.nx) w N act ((d,.bool b')::a):=by
  rintro _ rfl;refine⟨hF.size,hF.defers,fun t c hc=> ?_⟩;rw[AF.get_cons] at hc;by_cases ht:d=t
  ·subst ht;simp only[if_true,Option.some.injEq] at hc;subst hc;exact hF.vals d _ hb
  ·simp only[ht,if_false] at hc;exact hF.vals t c hc
 cases hbb:b with
 |true=>exact ht hbb hk g w act hR (key _ hbb) hY g0 F0 w0 hx
 |false=>exact hf hbb hk g w act hR (key _ hbb) hY g0 F0 w0 hx
def Ymb(E:Env)(a:AF)(es:Es):ResultVar->Option V
 | .tmp t=>a.get t
 | .cell t T=>match a.get t,E.ti T with
   |some (.ptr n off),some i=>match zm es n with
    |some (.var cs)=>Zlv i (cs.drop off)
    |_=>none
   |_,_=>none
def Ze0(E:Env)(a:AF)(es:Es):List ResultVar->Option (List V)
 |[]=>some []
 |x::l=>(Ymb E a es x).bind fun v=>(Ze0 E a es l).map fun vs=>v::vs
def zn:List V->V
 |[v]=>v
 |vs=> .tup vs
def Yi4(act:Act):ResultVar->Sem Value
 | .tmp t=>pure (act.tmps.getD t undef)
 | .cell p t=>do loadVar t (<-asAddr (act.tmps.getD p undef))
theorem Ydw{x:ResultVar}{c:V}{es:Es}(h:Ymb E a es x=some c){g:Gh}{D:Nat->Prop}{w:World}{act:Act}(hR:R E.G g D es w)(hF:FRel g D w N act a):
 ∃v,(Yi4 act x).run E.P w= .ok v w/\VRel g D w v c:=by
 cases x with
 |tmp t=>
  obtain⟨v,h1,h2⟩:=hF.vals t c h;exact⟨v,by simp[Yi4,Array.getD_eq_getD_getElem?,h1],h2⟩
 |cell t T=>
  simp only[Ymb] at h;split at h
  ·rename_i n off i h1 h2;split at h
   ·rename_i cs h3;obtain⟨v,h4,h5⟩:=hF.vals t _ h1;obtain⟨_,vs,t',h6,h7,h8,h9,_⟩:=hR.ents n _ h3;cases h5 with
    |data h=>cases h
    |ptr _ _ hD=>
     obtain⟨v',h10,h11⟩:=Zi3 (E:=E) (g:=g) (D:=D) (w:=w) (b:=g.blk n) (off:=off) h2 h (fun j=>vs.getD (off+j) undef)
      (fun j hj=>by
       simp only[List.length_drop] at hj;rw[Zdd h6]
       grind)
      (fun j c hj=>by
       grind)
     exact⟨v',by simp[Yi4,Array.getD_eq_getD_getElem?,h4,asAddr,h10],h11⟩
   grind
  grind
theorem Zwh:∀{xs:List ResultVar} {cs:List V} {es:Es},Ze0 E a es xs=some cs->∀{g:Gh} {D:Nat->Prop} {w:World} {act:Act},R E.G g D es w->FRel g D w N act a->
 ∃vs:List Value,(xs.mapM (Yi4 act)).run E.P w= .ok vs w/\vs.length=cs.length/\
  ∀(i:Nat) v c,vs[i]? =some v->cs[i]? =some c->VRel g D w v c:=by
 intro xs;induction xs with
 |nil=>intro cs es h g D w act hR hF;simp[Ze0] at h;simp_all
 |cons x l ih=>
  intro cs es h g D w act hR hF;simp only[Ze0,Option.bind_eq_some_iff,Option.map_eq_some_iff] at h;obtain⟨c,h1,cs',h2,rfl⟩:=h;obtain⟨v,h3,h4⟩:=Ydw h1 hR hF;obtain⟨vs,h5,h6,h7⟩:=ih h2 hR hF;refine⟨v::vs,?_,by grind,fun i u d hu hd=> ?_⟩
  ·simp_all
  grind
def Ret(E:Env)(k:Nat)(rs:List ResultVar)(r:V)(σ':Sto)(a:AF)(σ:Sto):Prop:=
 ∃cs,Ze0 E a σ.es rs=some cs/\∃ρ:List (Option Nat),ρ.length=σ'.nx/\Zuw 0 k ρ=true/\yg ρ=true/\below σ.nx ρ=true/\ELe ρ σ.es σ'.es/\∃c1,vo ρ r=some c1/\VLe (zn cs) c1
def Zff(E:Env)(k:Nat)(rs:List ResultVar)(r:V)(σ':Sto):Exit->AF->Sto->Prop
 | .ret,a,σ=>Ret E k rs r σ' a σ
 | .normal,a,σ=>Ret E k rs r σ' a σ
 |_,_,_=>False
def Yit:Nat->List V->AF
 |_,[]=>[]
 |i,c::cs=>(i,c)::Yit (i+1) cs
theorem Ztb:∀{cs:List V} {i t:Nat} {c:V},AF.get (Yit i cs) t=some c->i<=t/\cs[t-i]? =some c:=by
 intro cs;induction cs with
 |nil=>intro i t c h;cases h
 |cons x l ih=>
  intro i t c h;simp only[Yit,AF.get_cons] at h;by_cases ht:i=t;all_goals grind
theorem Ret.done{rs:List ResultVar}{r:V}{σ':Sto}(h:Ret E k rs r σ' a σ){fn:Func}(hrs:fn.results=rs.toArray){g:Gh}{w:World}{act:Act}(hR:R E.G g (·<σ.nx) σ.es w)(hF:FRel g (·<σ.nx) w N act a):
 ∃v g',(results fn act.tmps).run E.P w= .ok v w/\R E.G g' (·<σ'.nx) σ'.es w/\VRel g' (·<σ'.nx) w v r/\Ext (·<k) g (Foot g σ.es) w g' (Foot g' σ'.es) w:=by
 obtain⟨cs,h1,ρ,h2,h3,h4,h5,h6,c1,h7,h8⟩:=h;obtain⟨vs,h9,h10,h11⟩:=Zwh h1 hR hF;have hv:∃v,(results fn act.tmps).run E.P w= .ok v w/\VRel g (·<σ.nx) w v (zn cs):=by
  have hm:(results fn act.tmps).run E.P w= .ok (if h:vs.toArray.size=1 then vs.toArray[0] else .tuple vs.toArray) w:=by
   have:results fn act.tmps=(do let vs <-fn.results.mapM (Yi4 act);pure (if h:vs.size=1 then vs[0] else .tuple vs):Sem Value):=rfl;simp_all
  refine⟨_,hm,?_⟩
  match vs,cs,h10,h11 with
  |[],[],_,h=>exact .tup [] [] rfl h
  |[v],[c],_,h=>exact h 0 v c rfl rfl
  |v::v'::l,c::c'::l',hl,h=>simpa[zn] using VRel.tup (v::v'::l) (c::c'::l') hl h
 obtain⟨v,h12,h13⟩:=hv;have hw:=Weak.mk (E:=E) (N:=1) (k:=k) (a:=[(0,zn cs)]) (σ:=σ) ρ [(0,r)] σ'.es σ'.nx h2.symm h3 h4 h5 ⟨⟨c1,h7,zn cs,rfl,h8⟩,trivial⟩ h6;by_cases hk:k<=σ.nx
 ·obtain ⟨_,hw⟩:=hw hk;obtain⟨g',h14,h15,h16⟩:=hw g w {tmps:= #[v],defers:=[]} hR ⟨rfl,rfl,fun t c hc=>by
   rw[AF.get_cons] at hc;by_cases ht:0=t
   ·grind
   ·simp only[ht,if_false] at hc;cases hc⟩
  obtain⟨v',h17,h18⟩:=h15.vals 0 r rfl
  grind
 ·exfalso;have h20:=Zac (Ziy k 0 ρ h3 (k-1) (by omega));have h21:=Zup h5 (Ziy k 0 ρ h3 (k-1) (by omega));omega
theorem AC.mk{f:FuncId}{fn:Func}{c:Code}{args:List V}{r:V}{σ':Sto}{rs:List ResultVar}(hf:E.P.funcs[f]? =some fn)(hb:fn.body=some c)(hname:(fn.name== "runtime.NumGoroutine")=false)(hN:fn.ntmps=N)
 (hrs:fn.results=rs.toArray) (hargs:Nat.ble args.length N=true) (hnx:σ.nx<=σ'.nx) (h:AW E N σ.nx c (Yit 0 args) σ (Zff E σ.nx rs r σ')) (hY:E.Y=[]:=by rfl):AC E f args σ r σ':=by
 refine⟨fun vs w=> ?_,hnx,fun g w vs hR hl hr=> ?_⟩
 ·have hname':¬fn.name= "runtime.NumGoroutine" :=by grind
  simp[callFunc,hf,hname',hb]
 ·have hle:=Nat.le_of_ble_eq_true hargs;refine calls_of_wp hf hb (wp_mono (h.run (Nat.le_refl _) g w _ hR ?_ (.none hY)) ?_)
  ·refine ⟨by grind,rfl,fun t c hc=> ?_⟩;obtain⟨_,h1⟩:=Ztb hc;simp only[Nat.sub_zero] at h1;obtain⟨v,hv⟩:=getElem?_of_len hl.symm h1
   grind
  ·rintro e act' w' ⟨g',a',σ1,hq,hk1,hR1,hF1,hx1⟩;cases e with
   |normal=>
    obtain⟨v,g2,h1,h2,h3,h4⟩:=Ret.done hq hrs hR1 hF1;exact⟨hF1.defers,v,h1,v,g2,rfl,h2,h3,hx1.trans h4⟩
   |ret=>
    obtain⟨v,g2,h1,h2,h3,h4⟩:=Ret.done hq hrs hR1 hF1;exact⟨hF1.defers,v,h1,v,g2,rfl,h2,h3,hx1.trans h4⟩
   |_=>exact hq.elim
end
def yb(ops:List Oper)(a:AF):Option (Nat×Bool)->Option Bool
 |none=>some true
 |some (j,b)=>match (ops[j]?).bind (·.dst) with
  |some d=>match a.get d with
   |some (.bool c)=>some (bif b then c else !c)
   |some (.tup [])=>some false
   |_=>none
  |none=>none
section
variable {E:Env} {N k:Nat} {a:AF} {σ:Sto} {Q:Exit->AF->Sto->Prop} {ops rest:List Oper}
theorem Zej{o:Oper}{c:Bool}(h:yb ops a o.guard=some c){g:Gh}{D:Nat->Prop}{w:World}{act:Act}(hF:FRel g D w N act a):Region.wanted o (yielded ops.toArray act.tmps)=c:=by
 cases hg:o.guard with
 |none=>
  rw[hg] at h;simp only[yb,Option.some.injEq] at h;simp[Region.wanted,hg,h]
 |some p=>
  obtain⟨j,b⟩:=p;rw[hg] at h;simp only[yb] at h;split at h
  ·rename_i d hj;split at h
   ·rename_i c' hb;simp only[Option.some.injEq] at h;obtain⟨v,h1,h3⟩:=hF.vals d _ hb;have:=h3.bool_inv;subst this;simp[Region.wanted,hg,yielded,hj,h1];cases b<;>cases c'<;>simp at h<;>simp[h]
   ·rename_i hb;simp only[Option.some.injEq] at h;obtain⟨v,h1,h3⟩:=hF.vals d _ hb;have hv:v= .tuple #[]:=by
     cases h3 with
     |data h=>cases h
     |tup vs _ hl _=>grind
    subst hv;simp[Region.wanted,hg,yielded,hj,h1,h]
   grind
  grind
def Zg0(es:Es):Es->Prop
 |[]=>True
 |p::l=>zm es p.1=some p.2/\Zg0 es l
theorem Zoa{es:Es}:∀{pre:Es},Zg0 es pre->∀p∈pre,zm es p.1=some p.2:=by
 intro pre;induction pre with
 |nil=>simp
 |cons q l ih=>
  intro h p hp;rcases List.mem_cons.1 hp with rfl|hp
  ·exact h.1
  ·exact ih h.2 p hp
theorem AWL.run{o:Oper}{pre:Es}{v:V}{news:Nat}{post:Es}(hw:yb ops a o.guard=some true)(h:OSY E N o a pre v (List.range' σ.nx news) post)(hp:Zg0 σ.es pre)(hd:zw N o.dst=true)
 (h2:AWL E N k ops rest (a.put o.dst v) (σ.upd news post) Q):AWL E N k ops (o::rest) a σ Q:=by
 intro hk g w act hR hF hY g0 F0 w0 hx;refine wpList_step fun K hK=> ?_;rw[if_pos (Zej hw hF)];refine h g _ σ.es w act hR hY (Zoa hp) (fun n hn hlt=> ?_) hF K _ fun g' v' w' hR' hv' hx'=>hK _ _ ?_
 ·grind
 ·have hD:∀n,(n<σ.nx\/n∈List.range' σ.nx news)↔n<σ.nx+news:=fun n=>by
   grind
  have hle:∀n,(fun n=>n<σ.nx) n->(fun n=>n<σ.nx+news) n:=fun n h=>by omega
  refine h2 (by simp only[Sto.upd];omega) g' w' _ (hR'.more fun n h=>(hD n).1 h) ?_ (hY.ext hx') g0 F0 w0 (hx.trans (hx'.mono fun n hn=>by omega));exact(hF.ext hx' hle).put (Zh1 hd) (hv'.more fun n h=>(hD n).1 h)
theorem AWL.sk{o:Oper}(hw:yb ops a o.guard=some false)(hd:zw N o.dst=true)(h2:AWL E N k ops rest (a.put o.dst (.tup [])) σ Q):AWL E N k ops (o::rest) a σ Q:=by
 intro hk g w act hR hF hY g0 F0 w0 hx;refine wpList_step fun K hK=> ?_;rw[if_neg (by rw[Zej hw hF];simp)];exact hK _ _ (h2 hk g w _ hR (hF.put (Zh1 hd) (.tup [] [] rfl (fun i v c h=>by simp))) hY g0 F0 w0 hx)
end
section
variable {E:Env} {N k:Nat} {a:AF} {σ:Sto} {Q:Exit->AF->Sto->Prop}
def Ylv(E:Env)(N k:Nat){ι:Type}(J:ι->AF×Sto)(Q:Exit->AF->Sto->Prop):Exit->AF->Sto->Prop
 | .normal,a,σ=>∃i,Weak E N k a σ (J i).1 (J i).2
 |e,a,σ=>Q e a σ
namespace K
theorem sq{x y:Code}(h:AW E N k x a σ (Zm2 E N k y Q)):AW E N k (.seq x y) a σ Q:= .seq h
theorem tN{y:Code}(h:AW E N k y a σ Q):Zm2 E N k y Q .normal a σ:=h
theorem tR{y:Code}(h:Q .ret a σ):Zm2 E N k y Q .ret a σ:=h
theorem tE{y:Code}{id:Nat}(h:Q (.exit id) a σ):Zm2 E N k y Q (.exit id) a σ:=h
theorem bN{id:Nat}(h:Q .normal a σ):vy id Q .normal a σ:=h
theorem bR{id:Nat}(h:Q .ret a σ):vy id Q .ret a σ:=h
theorem bO{id id':Nat}(hne:Nat.beq id' id=false)(h:Q (.exit id') a σ):vy id Q (.exit id') a σ:=by simp only[vy,hne,cond_false];exact h
theorem lR{ι:Type}{J:ι->AF×Sto}{μ:ι->Nat}{i:ι}(h:Q .ret a σ):Zxk E N k J μ i Q .ret a σ:=h
theorem lE{ι:Type}{J:ι->AF×Sto}{μ:ι->Nat}{i:ι}{id:Nat}(h:Q (.exit id) a σ):Zxk E N k J μ i Q (.exit id) a σ:=h
theorem cR{ι:Type}{J:ι->AF×Sto}(h:Q .ret a σ):Ylv E N k J Q .ret a σ:=h
theorem cE{ι:Type}{J:ι->AF×Sto}{id:Nat}(h:Q (.exit id) a σ):Ylv E N k J Q (.exit id) a σ:=h
theorem rt{rs:List ResultVar}{r:V}{σ':Sto}{cs:List V}{c1:V}(ρ:List (Option Nat))(h1:Ze0 E a σ.es rs=some cs)(h2:ρ.length=σ'.nx)(h3:Zuw 0 k ρ=true)(h4:yg ρ=true)(h5:below σ.nx ρ=true)
 (h6:ELe ρ σ.es σ'.es) (h7:vo ρ r=some c1) (h8:VLe (zn cs) c1):Zff E k rs r σ' .ret a σ:=⟨cs,h1,ρ,h2,h3,h4,h5,h6,c1,h7,h8⟩
theorem r0{rs:List ResultVar}{r:V}{cs:List V}{c1:V}(h1:Ze0 E a σ.es rs=some cs)(h7:vo [] r=some c1)(h8:VLe (zn cs) c1):Zff E 0 rs r ⟨0,[]⟩ .ret a σ:=
 ⟨cs,h1,[],rfl,rfl,rfl,rfl,trivial,c1,h7,h8⟩
end K
end
section
variable {β:Type}
def Zaw:List (Nat×β)->Nat->Option β
 |[],_=>none
 |p::l,n=>bif Nat.beq p.1 n then some p.2 else Zaw l n
theorem Zc0(m:Nat)(e:β)(es:List (Nat×β))(n:Nat):Zaw ((m,e)::es) n=if m=n then some e else Zaw es n:=by
 show(bif Nat.beq m n then some e else Zaw es n)=_;simp
theorem Zap(p es:List (Nat×β))(n:Nat):Zaw (p++es) n=(Zaw p n).or (Zaw es n):=by
 induction p with
 |nil=>rfl
 |cons x l ih=>
  obtain⟨m,e⟩:=x;rw[List.cons_append,Zc0,Zc0]
  grind
theorem findA_key{p:List (Nat×β)}{n:Nat}:(Zaw p n).isSome=true↔n∈p.map Prod.fst:=by
 induction p with
 |nil=>simp[Zaw]
 |cons x l ih=>
  obtain⟨m,e⟩:=x;rw[Zc0]
  grind
theorem Zfe{p:List (Nat×β)}{n:Nat}(h:n∉p.map Prod.fst):Zaw p n=none:=by
 cases hf:Zaw p n with
 |none=>rfl
 |some x=>exact absurd (findA_key.1 (by grind)) h
def un(fl:Nat->Bool):Nat->List (List (Nat×β))->List (Nat×β)->List (Nat×β)
 |_,[],es=>es
 |i,u::us,es=>un fl (i+1) us (bif fl i then u++es else es)
theorem Zbg{fl fl':Nat->Bool}{n:Nat}:∀{us:List (List (Nat×β))} {i:Nat} {es es':List (Nat×β)},Zaw es n=Zaw es' n->(∀j u,us[j]? =some u->n∈u.map Prod.fst->fl (i+j)=fl' (i+j))->
 Zaw (un fl i us es) n=Zaw (un fl' i us es') n:=by
 intro us;induction us with
 |nil=>intro i es es' h _;exact h
 |cons u us ih=>
  intro i es es' h hk;simp only[un];refine ih ?_ fun j u' hj hn=> ?_
  ·by_cases hn:n∈u.map Prod.fst
   ·have:=hk 0 u rfl hn;rw[Nat.add_zero] at this;rw[this];cases fl' i with
    |true=>simp only[cond_true,Zap,h]
    |false=>exact h
   ·have hu:=Zfe hn;have e1:∀(b:Bool) (es:List (Nat×β)),Zaw (bif b then u++es else es) n=Zaw es n:=fun b es=>by
     cases b<;>simp[Zap,hu]
    rw[e1,e1,h]
  ·have:=hk (j+1) u' (by grind) hn
   grind
theorem Znx{fl:Nat->Bool}{n:Nat}:∀{us:List (List (Nat×β))} {i k:Nat} {u:List (Nat×β)} {es:List (Nat×β)},us[k]? =some u->fl (i+k)=true->n∈u.map Prod.fst->
 (∀j u',k<j->us[j]? =some u'->n∈u'.map Prod.fst->fl (i+j)=false)->Zaw (un fl i us es) n=Zaw u n:=by
 intro us;induction us with
 |nil=>simp
 |cons x us ih=>
  intro i k u es hk hf hn hl;simp only[un];cases k with
  |zero=>
   simp at hk;subst hk;rw[Nat.add_zero] at hf;have h1:Zaw (un fl (i+1) us (bif fl i then x++es else es)) n=Zaw (un (fun _=>false) (i+1) us (x++es)) n:=by
    refine Zbg (by grind) fun j u' hj hn'=> ?_;have:=hl (j+1) u' (by omega) (by grind) hn'
    grind
   have h2:∀(us:List (List (Nat×β))) i es,un (fun _=>false) i us es=es:=by
    intro us;induction us with
    |nil=>intro i es;rfl
    |cons y us ih=>intro i es;simp only[un,cond_false];grind
   rw[h1,h2,Zap];obtain⟨v,hv⟩:=Option.isSome_iff_exists.1 (findA_key.2 hn)
   grind
  |succ k=>
   refine ih (by simpa using hk) (by grind) hn fun j u' hj hju hn'=> ?_;have:=hl (j+1) u' (by omega) (by grind) hn'
   grind
end
theorem Zkx(a:AF)(n:Nat):a.get n=(Zaw a n:Option V):=by
 induction a with
 |nil=>rfl
 |cons p l ih=>obtain⟨m,e⟩:=p;rw[AF.get_cons,Zc0,ih]
theorem Zeq(es:Es)(n:Nat):zm es n=(Zaw es n:Option Ent):=by
 induction es with
 |nil=>rfl
 |cons p l ih=>obtain⟨m,e⟩:=p;rw[zq,Zc0,ih]
def Zar(o:Oper):List Nat:=o.after.toList.filterMap fun e=>bif Region.binds .any e then some e.on else none
def Zw0(bs:List Nat)(o:Oper):Nat:=(Zar o).foldl (fun s e=>s|||2^e|||bs.getD e 0) 0
def Zn0:List Oper->List Nat->List Nat
 |[],bs=>bs
 |o::l,bs=>Zn0 l (bs++[Zw0 bs o])
inductive Path (ops:List Oper):Nat->Nat->Prop
 |base {i j:Nat} {o:Oper} (ho:ops[j]? =some o) (h:i∈Zar o):Path ops i j
 |step {i m j:Nat} {o:Oper} (ho:ops[j]? =some o) (h:m∈Zar o) (h2:Path ops i m):Path ops i j
theorem Zrn{ops:List Oper}{bs:List Nat}{o:Oper}{j:Nat}(ho:ops[j]? =some o)(hbs:∀m i,(bs.getD m 0).testBit i=true->Path ops i m):∀i,(Zw0 bs o).testBit i=true->Path ops i j:=by
 have key:∀(l:List Nat) (s:Nat),(∀e∈l,e∈Zar o)->(∀i,s.testBit i=true->Path ops i j)->∀i,(l.foldl (fun s e=>s|||2^e|||bs.getD e 0) s).testBit i=true->Path ops i j:=by
  intro l;induction l with
  |nil=>simp
  |cons e l ih=>
   intro s hl hs i h;refine ih _ (fun e' he'=>hl e' (by grind)) (fun i' h'=> ?_) i h;rw[Nat.testBit_or,Nat.testBit_or,Bool.or_eq_true,Bool.or_eq_true] at h';rcases h' with(h'|h')|h'
   ·grind
   ·rw[Nat.testBit_two_pow] at h';simp only[decide_eq_true_eq] at h';subst h';exact .base ho (hl e (by simp))
   ·exact .step ho (hl e (by simp)) (hbs e i' h')
 intro i h;exact key (Zar o) 0 (fun e h=>h) (fun i h=>by grind) i h
theorem Zu9{ops:List Oper}:∀(l:List Oper) (bs:List Nat),(∀j,l[j]? =ops[bs.length+j]?)->(∀m i,(bs.getD m 0).testBit i=true->Path ops i m)->∀m i,((Zn0 l bs).getD m 0).testBit i=true->Path ops i m:=by
 intro l;induction l with
 |nil=>intro bs _ h;exact h
 |cons o l ih=>
  intro bs hl h;refine ih (bs++[Zw0 bs o]) (fun j=>by have:=hl (j+1);grind) ?_;intro m i hm;by_cases h1:m<bs.length
  ·grind
  ·by_cases h2:m=bs.length
   ·subst h2;rw[List.getD_eq_getElem?_getD,List.getElem?_append_right (Nat.le_refl _)] at hm;simp only[Nat.sub_self,List.getElem?_cons_zero,Option.getD_some] at hm;have h0:ops[bs.length]? =some o:=by have:=hl 0;grind
    exact Zrn h0 h i hm
   grind
structure Rec where
 pre:Es
 v:V
 news:Nat
 post:Es
def Yet(xs:List Operand):List Nat:=xs.filterMap fun| .tmp t=>some t|_=>none
def Zdi(ops:List Oper)(o:Oper):List Nat:=
 Yet o.op.operands.toList++(match o.guard with|some (j,_)=>((ops[j]?).bind (·.dst)).toList|none=>[])
def Zhr(a:AF):List Nat->AF
 |[]=>[]
 |t::l=>match a.get t with
  |some v=>(t,v)::Zhr a l
  |none=>Zhr a l
theorem Zoh{a:AF}:∀{l:List Nat} {t:Nat} {c:V},(Zhr a l).get t=some c->t∈l/\a.get t=some c:=by
 intro l;induction l with
 |nil=>intro t c h;cases h
 |cons x l ih=>
  intro t c h;simp only[Zhr] at h;cases hx:a.get x with
  |none=>grind
  |some v=>
   rw[hx] at h;simp only[AF.get_cons] at h
   grind
def Zm6(l l':List Nat):Bool:=l.any fun x=>l'.any fun y=>Nat.beq x y
theorem Zfq{l l':List Nat}{x:Nat}(h:x∈l)(h':x∈l'):Zm6 l l'=true:=
 List.any_eq_true.2 ⟨x,h,List.any_eq_true.2 ⟨x,h',by simp⟩⟩
def Zhm(lo lo':List Nat)(d d':List Nat)(r r':Rec):Bool:=
 Zm6 d lo'||Zm6 d' lo||Zm6 d d'||Zm6 (r.post.map Prod.fst) (r'.pre.map Prod.fst)||Zm6 (r'.post.map Prod.fst) (r.pre.map Prod.fst)||Zm6 (r.post.map Prod.fst) (r'.post.map Prod.fst)
def Ztk(ops:List Oper)(lo d:List Nat)(r:Rec)(i:Nat):List Oper->List Rec->List Nat->Bool
 |o::os,r'::rs,m::ms=>(!Zhm lo (Zdi ops o) d o.dst.toList r r'||m.testBit i)&&Ztk ops lo d r i os rs ms
 |_,_,_=>true
def Zti(ops:List Oper):Nat->List Oper->List Rec->List Nat->Bool
 |i,o::os,r::rs,_::ms=>Ztk ops (Zdi ops o) o.dst.toList r i os rs ms&&Zti ops (i+1) os rs ms
 |_,_,_,_=>true
def Zpo(ops:List Oper)(rs:List Rec):Bool:=Zti ops 0 ops rs (Zn0 ops [])
theorem Zr4{ops:List Oper}{lo d:List Nat}{r:Rec}{i:Nat}:∀{os:List Oper} {rs:List Rec} {ms:List Nat},Ztk ops lo d r i os rs ms=true->∀(j:Nat) o' r' m,os[j]? =some o'->rs[j]? =some r'->ms[j]? =some m->
 Zhm lo (Zdi ops o') d o'.dst.toList r r'=true->m.testBit i=true:=by
 intro os;induction os with
 |nil=>simp
 |cons o os ih=>
  intro rs ms h j o' r' m h1 h2 h3 hc;cases rs with
  |nil=>grind
  |cons r0 rs=>
   cases ms with
   |nil=>grind
   |cons m0 ms=>
    simp only[Ztk,Bool.and_eq_true] at h
    grind
theorem Zr7{ops:List Oper}:∀{os:List Oper} {rs:List Rec} {ms:List Nat} {b:Nat},Zti ops b os rs ms=true->∀(i j:Nat) o r o' r' m,i<j->os[i]? =some o->rs[i]? =some r->os[j]? =some o'->rs[j]? =some r'->ms[j]? =some m->
 Zhm (Zdi ops o) (Zdi ops o') o.dst.toList o'.dst.toList r r'=true->m.testBit (b+i)=true:=by
 intro os;induction os with
 |nil=>simp
 |cons o0 os ih=>
  intro rs ms b h i j o r o' r' m hij h1 h2 h3 h4 h5 hc;cases rs with
  |nil=>grind
  |cons r0 rs=>
   cases ms with
   |nil=>grind
   |cons m0 ms=>
    simp only[Zti,Bool.and_eq_true] at h;cases j with
    |zero=>omega
    |succ j=>
     simp only[List.getElem?_cons_succ] at h3 h4 h5;cases i with
     |zero=>
      simp at h1 h2;subst h1;subst h2;rw[Nat.add_zero];exact Zr4 h.1 j o' r' m h3 h4 h5 hc
     |succ i=>
      grind
theorem Zv6:∀(l:List Oper) (bs:List Nat),(Zn0 l bs).length=bs.length+l.length:=by
 intro l;induction l with
 |nil=>intro bs;rfl
 |cons o l ih=>intro bs;simp only[Zn0];grind
theorem Zli{ops:List Oper}{rs:List Rec}(h:Zpo ops rs=true){i j:Nat}{o o':Oper}{r r':Rec}(hij:i<j)(h1:ops[i]? =some o)(h2:rs[i]? =some r)(h3:ops[j]? =some o')(h4:rs[j]? =some r')
 (hc:Zhm (Zdi ops o) (Zdi ops o') o.dst.toList o'.dst.toList r r'=true):Path ops i j:=by
 have hl:=Zv6 ops [];have hj:j<(Zn0 ops []).length:=by grind
 have h5:(Zn0 ops [])[j]? =some ((Zn0 ops [])[j]):=List.getElem?_eq_getElem hj;have h6:=Zr7 h i j o r o' r' _ hij h1 h2 h3 h4 h5 hc;rw[Nat.zero_add] at h6;exact Zu9 ops [] (fun j=>by simp) (fun m i h=>by grind) j i (by grind)
inductive Plan (E:Env) (N:Nat) (X:Oper->Prop) (ops:List Oper):List Oper->AF->Sto->List Rec->AF->Sto->Prop
 |nil (a:AF) (σ:Sto):Plan E N X ops [] a σ [] a σ
 |run {o:Oper} {rest:List Oper} {a:AF} {σ:Sto} (r:Rec) {rs:List Rec} {a':AF} {σ':Sto} (hw:yb ops a o.guard=some true) (h:X o\/OSY E N o (Zhr a (Zdi ops o)) r.pre r.v (List.range' σ.nx r.news) r.post)
  (hp:Zg0 σ.es r.pre) (hd:zw N o.dst=true) (h2:Plan E N X ops rest (a.put o.dst r.v) (σ.upd r.news r.post) rs a' σ'):Plan E N X ops (o::rest) a σ (r::rs) a' σ'
 |sk {o:Oper} {rest:List Oper} {a:AF} {σ:Sto} {rs:List Rec} {a':AF} {σ':Sto} (hw:yb ops a o.guard=some false) (hd:zw N o.dst=true) (h2:Plan E N X ops rest (a.put o.dst (.tup [])) σ rs a' σ'):
  Plan E N X ops (o::rest) a σ (⟨[],.tup [],0,[]⟩::rs) a' σ'
def AWD(E:Env)(N k:Nat)(ops rest:List Oper)(a:AF)(σ:Sto)(acc:List Rec)(Q:Exit->AF->Sto->Prop):Prop:=
 ∃rs a' σ',Plan E N (fun _=>False) ops rest a σ rs a' σ'/\Zpo ops (acc.reverse++rs)=true/\Q .normal a' σ'
def Yax(d:Option Nat)(v:V):AF:=match d with|some d=>[(d,v)]|none=>[]
theorem Zny(a:AF)(d:Option Nat)(v:V):a.put d v=Yax d v++a:=by cases d<;>rfl
def fus(os:List Oper)(rs:List Rec):List AF:=List.zipWith (fun o r=>Yax o.dst r.v) os rs
def pus(rs:List Rec):List Es:=rs.map Rec.post
def Zgp(nx:Nat)(rs:List Rec)(i:Nat):Nat:=nx+((rs.take i).map Rec.news).sum
theorem Zks{β:Type}{fl:Nat->Bool}:∀{us:List (List (Nat×β))} {i:Nat} {es:List (Nat×β)},un fl (i+1) us es=un (fun j=>fl (j+1)) i us es:=by
 intro us;induction us with
 |nil=>intro i es;rfl
 |cons u us ih=>intro i es;simp only[un];rw[ih]
theorem Zjq{β:Type}{fl:Nat->Bool}:∀{us:List (List (Nat×β))} {i:Nat} {es:List (Nat×β)},(∀j,i<=j->fl j=false)->un fl i us es=es:=by
 intro us;induction us with
 |nil=>intro i es _;rfl
 |cons u us ih=>intro i es h;simp only[un,h i (Nat.le_refl _),cond_false];grind
section
variable {E:Env} {N k:Nat} {ops:List Oper} {X:Oper->Prop}
theorem Plan.len{rest:List Oper}{a:AF}{σ:Sto}{rs:List Rec}{a':AF}{σ':Sto}(h:Plan E N X ops rest a σ rs a' σ'):rs.length=rest.length:=by
 induction h<;>simp_all
theorem Plan.fin{rest:List Oper}{a:AF}{σ:Sto}{rs:List Rec}{a':AF}{σ':Sto}(h:Plan E N X ops rest a σ rs a' σ'):
 a'=un (fun _=>true) 0 (fus rest rs) a/\σ'.es=un (fun _=>true) 0 (pus rs) σ.es/\σ'.nx=Zgp σ.nx rs rs.length:=by
 have hs:∀{β:Type} {us:List (List (Nat×β))} {es:List (Nat×β)},un (fun _=>true) 1 us es=un (fun _=>true) 0 us es:=fun {β us es}=>Zks;induction h with
 |nil=>exact⟨rfl,rfl,by rfl⟩
 |run r _ _ _ _ _ ih=>
  obtain⟨h1,h2,h3⟩:=ih;refine⟨?_,?_,?_⟩
  ·rw[h1,Zny];simp only[fus,List.zipWith_cons_cons,un,cond_true];grind
  ·rw[h2];simp only[pus,List.map_cons,un,cond_true,Sto.upd];grind
  ·rw[h3];simp[Zgp,Sto.upd];omega
 |sk _ _ _ ih=>
  obtain⟨h1,h2,h3⟩:=ih;refine⟨?_,?_,?_⟩
  ·rw[h1,Zny];simp only[fus,List.zipWith_cons_cons,un,cond_true];grind
  ·rw[h2];simp only[pus,List.map_cons,un,cond_true,List.nil_append];grind
  ·rw[h3];simp[Zgp]
def Yle(E:Env)(N:Nat)(X:Oper->Prop)(ops:List Oper)(a:AF)(nx:Nat)(es:Es)(o:Oper)(r:Rec):Prop:=
 zw N o.dst=true/\((yb ops a o.guard=some true/\(X o\/OSY E N o (Zhr a (Zdi ops o)) r.pre r.v (List.range' nx r.news) r.post)/\Zg0 es r.pre)\/(yb ops a o.guard=some false/\r=⟨[],.tup [],0,[]⟩))
theorem Plan.nth{rest:List Oper}{a:AF}{σ:Sto}{rs:List Rec}{a':AF}{σ':Sto}(h:Plan E N X ops rest a σ rs a' σ'):∀(i:Nat) o r,rest[i]? =some o->rs[i]? =some r->
 Yle E N X ops (un (fun j=>decide (j<i)) 0 (fus rest rs) a) (Zgp σ.nx rs i) (un (fun j=>decide (j<i)) 0 (pus rs) σ.es) o r:=by
 have h0:∀{β:Type} {us:List (List (Nat×β))} {es:List (Nat×β)},un (fun j=>decide (j<0)) 0 us es=es:=fun {β us es}=>Zjq fun j _=>by simp
 have hs:∀{β:Type} {i:Nat} {us:List (List (Nat×β))} {es:List (Nat×β)},un (fun j=>decide (j<i+1)) 1 us es=un (fun j=>decide (j<i)) 0 us es:=fun {β i us es}=>by
  rw[Zks];simp
 induction h with
 |nil=>simp
 |run r0 hw h hp hd _ ih=>
  intro i o r h1 h2;cases i with
  |zero=>
   simp at h1 h2;subst h1;subst h2;rw[h0,h0];exact⟨hd,.inl ⟨hw,by simpa[Zgp] using h,hp⟩⟩
  |succ i=>
   simp only[List.getElem?_cons_succ] at h1 h2;have:=ih i o r h1 h2;simp only[fus,pus,List.zipWith_cons_cons,List.map_cons,un,Nat.zero_lt_succ,decide_true,cond_true];rw[hs,hs];rw[Zny] at this;simp only[Sto.upd] at this;have hnx:∀nx rs,Zgp nx (r0::rs) (i+1)=Zgp (nx+r0.news) rs i:=fun nx rs=>by simp[Zgp];omega
   rw[hnx];exact this
 |sk hw hd _ ih=>
  intro i o r h1 h2;cases i with
  |zero=>
   simp at h1 h2;subst h1;subst h2;rw[h0,h0];exact⟨hd,.inr ⟨hw,rfl⟩⟩
  |succ i=>
   simp only[List.getElem?_cons_succ] at h1 h2;have:=ih i o r h1 h2;simp only[fus,pus,List.zipWith_cons_cons,List.map_cons,un,Nat.zero_lt_succ,decide_true,cond_true,List.nil_append];rw[hs,hs];rw[Zny] at this;have hnx:∀nx rs,Zgp nx ((⟨[],.tup [],0,[]⟩:Rec)::rs) (i+1)=Zgp nx rs i:=fun nx rs=>by simp[Zgp]
   rw[hnx];exact this
theorem Zgo{nx:Nat}{rs:List Rec}{i:Nat}{r:Rec}(h:rs[i]? =some r):Zgp nx rs (i+1)=Zgp nx rs i+r.news:=by
 obtain⟨hi,rfl⟩:=List.getElem?_eq_some_iff.1 h;simp only[Zgp];rw[List.take_succ_eq_append_getElem hi,List.map_append,List.sum_append,List.map_cons,List.map_nil,List.sum_cons,List.sum_nil];omega
theorem Zcz{nx:Nat}{rs:List Rec}{i j:Nat}(h:i<=j):Zgp nx rs i<=Zgp nx rs j:=by
 induction j with
 |zero=>grind
 |succ j ih=>
  by_cases hij:i=j+1
  ·grind
  ·have h1:=ih (by omega);cases hr:rs[j]? with
   |some r=>rw[Zgo hr];omega
   |none=>
    have hl:rs.length<=j:=by
     grind
    have:Zgp nx rs (j+1)=Zgp nx rs j:=by simp only[Zgp];rw[List.take_of_length_le (by omega),List.take_of_length_le hl]
    omega
def Dn(nx:Nat)(rs:List Rec)(fl:Nat->Bool)(n:Nat):Prop:=n<nx\/∃i r,rs[i]? =some r/\fl i=true/\n∈List.range' (Zgp nx rs i) r.news
theorem Ykd{nx:Nat}{rs:List Rec}{fl:Nat->Bool}{i:Nat}{r:Rec}(h:rs[i]? =some r)(hf:fl i=false):∀n∈List.range' (Zgp nx rs i) r.news,¬Dn nx rs fl n:=by
 intro n hn hD;obtain⟨a,ha,rfl⟩:=List.mem_range'.1 hn;have h0:Zgp nx rs 0=nx:=by rfl
 have h1:=Zcz (nx:=nx) (rs:=rs) (Nat.zero_le i);rcases hD with hD|⟨j,r',hj,hfj,hm⟩
 ·omega
 ·obtain ⟨b,hb,hbe⟩:=List.mem_range'.1 hm;have hij:i≠j:=fun e=>by grind
  rcases Nat.lt_or_gt_of_ne hij with hlt|hlt
  ·have:=Zcz (nx:=nx) (rs:=rs) (show i+1<=j by omega);rw[Zgo h] at this;omega
  ·have:=Zcz (nx:=nx) (rs:=rs) (show j+1<=i by omega);rw[Zgo hj] at this;omega
theorem R.congr{G:Zfn}{g:Gh}{D:Nat->Prop}{es es':Es}{w:World}(h:R G g D es w)(he:∀n,zm es' n=zm es n):R G g D es' w:=
 ⟨fun n e hn=>h.lt n e (by grind),fun n n' e e' b h1 h2=>h.foots n n' e e' b (by grind) (by grind),fun n e hn=>h.ents n e (by grind),h.fresh,h.glob⟩
theorem Foot.congr{g:Gh}{es es':Es}(he:∀n,zm es' n=zm es n):Foot g es'=Foot g es:=by
 funext b;simp only[Foot,he]
theorem FRel.congr{g:Gh}{D:Nat->Prop}{w:World}{act:Act}{a a':AF}(h:FRel g D w N act a)(he:∀t,a'.get t=a.get t):FRel g D w N act a':=
 ⟨h.size,h.defers,fun t c hc=>h.vals t c (by grind)⟩
theorem Ze8{a a':AF}{o:Oper}(h:∀t∈Zdi ops o,a'.get t=a.get t):yb ops a' o.guard=yb ops a o.guard:=by
 cases hg:o.guard with
 |none=>rfl
 |some p=>
  obtain⟨j,b⟩:=p;simp only[yb];cases hj:(ops[j]?).bind (·.dst) with
  |none=>rfl
  |some d=>
   have:d∈Zdi ops o:=by simp[Zdi,hg,hj]
   grind
theorem Yf8{p:Nat×Ent}{pre:Es}(h:p∈pre):p.1∈pre.map Prod.fst:=List.mem_map_of_mem h
theorem Zqa{a0:AF}{σ0:Sto}{rs:List Rec}{a':AF}{σ':Sto}(hpl:Plan E N X ops ops a0 σ0 rs a' σ')(hord:Zpo ops rs=true){Q:Exit->AF->Sto->Prop}{S:Array Bool->Prop}(hS:∀listed i (hin:i<ops.length),S listed->¬X ops[i]->S (listed.setIfInBounds i true))(hQ:∀listed,S listed->(∀j,j<ops.length->listed.getD j false=true)->Q .normal a' σ')(hk:k<=σ0.nx)
 {g0:Gh} {F0:Nat->Prop} {w0:World} (hY:YOk E.Y g0 F0 w0) (hedge:∀j o,ops[j]? =some o->∀e∈Zar o,e<j) (hnX2:∀i (hin:i<ops.length),X ops[i]->∀{a:AF},yb ops a ops[i].guard≠some false) {PP:Exit->Act->World->Prop} (hPP:∀act w,Post E N k g0 F0 w0 Q .normal act w->PP .normal act w)
 (hcb:∀(fuel:Nat) (listed:Array Bool) (act:Act) (w:World) (i:Nat) (hin:i<ops.length) (g:Gh),S listed->listed.size=ops.length->listed.toList.count false<=fuel+1->
  (∀j o,ops[j]? =some o->listed.getD j false=true->∀e∈Zar o,listed.getD e false=true)->
  R E.G g (Dn σ0.nx rs fun j=>listed.getD j false) (un (fun j=>listed.getD j false) 0 (pus rs) σ0.es) w->FRel g (Dn σ0.nx rs fun j=>listed.getD j false) w N act (un (fun j=>listed.getD j false) 0 (fus ops rs) a0)->
  Ext (·<k) g0 F0 w0 g (Foot g (un (fun j=>listed.getD j false) 0 (pus rs) σ0.es)) w->X ops[i]->listed.getD i false=false->(∀e∈Zar ops[i],listed.getD e false=true)->
  (∀t∈Zdi ops ops[i],AF.get (un (fun j=>listed.getD j false) 0 (fus ops rs) a0) t=AF.get (un (fun j=>decide (j<i)) 0 (fus ops rs) a0) t)->
  ops[i].wp E.P act w (wpAny E.P .any ops.toArray PP fuel (listed.setIfInBounds i true)) PP):
 ∀(fuel:Nat) (listed:Array Bool) (act:Act) (w:World),S listed->listed.size=ops.length->(listed.toList.count false<=fuel)->
  (∀j o,ops[j]? =some o->listed.getD j false=true->∀e∈Zar o,listed.getD e false=true)->
  (∃g,R E.G g (Dn σ0.nx rs fun j=>listed.getD j false) (un (fun j=>listed.getD j false) 0 (pus rs) σ0.es) w/\FRel g (Dn σ0.nx rs fun j=>listed.getD j false) w N act (un (fun j=>listed.getD j false) 0 (fus ops rs) a0)/\
   Ext (·<k) g0 F0 w0 g (Foot g (un (fun j=>listed.getD j false) 0 (pus rs) σ0.es)) w)->
  wpAny E.P .any ops.toArray PP fuel listed act w:=by
 have hlen:=hpl.len;obtain⟨hfa,hfe,hfn⟩:=hpl.fin;have hpath:∀(fl:Nat->Bool) (hc:∀j o,ops[j]? =some o->fl j=true->∀e∈Zar o,fl e=true) {i j:Nat},Path ops i j->(∀o,ops[j]? =some o->∀e∈Zar o,fl e=true)->fl i=true:=by
  intro fl hc i j hp;induction hp with
  |base ho h=>intro hj;exact hj _ ho _ h
  |step ho h _ ih=>intro hj;exact ih fun o' ho'=>hc _ o' ho' (hj _ ho _ h)
 have hend:∀(listed:Array Bool) (act:Act) (w:World),S listed->listed.size=ops.length->Region.ready .any ops.toArray listed=[]->
  (∃g,R E.G g (Dn σ0.nx rs fun j=>listed.getD j false) (un (fun j=>listed.getD j false) 0 (pus rs) σ0.es) w/\FRel g (Dn σ0.nx rs fun j=>listed.getD j false) w N act (un (fun j=>listed.getD j false) 0 (fus ops rs) a0)/\
   Ext (·<k) g0 F0 w0 g (Foot g (un (fun j=>listed.getD j false) 0 (pus rs) σ0.es)) w)->Post E N k g0 F0 w0 Q .normal act w:=by
  intro listed act w hs hsz hnil ⟨g,hR,hF,hx⟩;have hall:∀j,j<ops.length->listed.getD j false=true:=by
   intro j;induction j using Nat.strongRecOn with
   |_ j ih=>
    intro hj;cases hlj:listed.getD j false with
    |true=>rfl
    |false=>
     exfalso;have hmem:j∈Region.ready .any ops.toArray listed:=by
      unfold Region.ready;rw[List.mem_filter];refine⟨by simpa using hj,?_⟩;have hjs:j<listed.size:=by omega
      have h1:listed.getD j true=false:=by
       simp only[Array.getD_eq_getD_getElem?,Array.getElem?_eq_getElem hjs,Option.getD_some] at hlj ⊢;exact hlj
      have h2:ops.toArray[j]? =some (ops[j]):=by simp[hj]
      simp only[h1,Bool.not_false,Bool.true_and,h2,Option.map_some,Option.getD_some];rw[<-Array.all_toList,List.all_eq_true];intro e he;cases hb:Region.binds .any e with
      |false=>rfl
      |true=>
       have heh:e.on∈Zar ops[j]:=List.mem_filterMap.2 ⟨e,he,by simp[hb]⟩;have hlt:=hedge j ops[j] (List.getElem?_eq_getElem hj) e.on heh;simp only[Bool.not_true,Bool.false_or];exact ih e.on hlt (by omega)
     rw[hnil] at hmem;cases hmem
  have hfl:∀{β:Type} (us:List (List (Nat×β))) (es:List (Nat×β)),us.length=ops.length->∀n,Zaw (un (fun j=>listed.getD j false) 0 us es) n=Zaw (un (fun _=>true) 0 us es) n:=by
   intro β us es hus n;refine Zbg rfl fun j u hj _=> ?_;rw[Nat.zero_add];exact hall j (by rw[<-hus];exact(List.getElem?_eq_some_iff.1 hj).1)
  have hpl2:(pus rs).length=ops.length:=by simp[pus,hlen]
  have hfl2:(fus ops rs).length=ops.length:=by simp[fus,hlen]
  have he:∀n,zm σ'.es n=zm (un (fun j=>listed.getD j false) 0 (pus rs) σ0.es) n:=fun n=>by
   rw[Zeq,Zeq,hfe];exact(hfl _ _ hpl2 n).symm
  have ha:∀n,a'.get n=AF.get (un (fun j=>listed.getD j false) 0 (fus ops rs) a0) n:=fun n=>by
   rw[Zkx,Zkx,hfa];exact(hfl _ _ hfl2 n).symm
  have hD:∀n,Dn σ0.nx rs (fun j=>listed.getD j false) n->n<σ'.nx:=by
   intro n hn;rw[hfn];have h0:Zgp σ0.nx rs 0=σ0.nx:=by simp[Zgp]
   rcases hn with hn|⟨i,r,hr,_,hm⟩
   ·have:=Zcz (nx:=σ0.nx) (rs:=rs) (Nat.zero_le rs.length);omega
   ·obtain ⟨b,hb,hbe⟩:=List.mem_range'.1 hm;have hi:=(List.getElem?_eq_some_iff.1 hr).1;have:=Zcz (nx:=σ0.nx) (rs:=rs) (show i+1<=rs.length by omega);rw[Zgo hr] at this;omega
  refine⟨g,a',σ',hQ listed hs hall,?_,(hR.congr he).more hD,?_,?_⟩
  ·rw[hfn];have:=Zcz (nx:=σ0.nx) (rs:=rs) (Nat.zero_le rs.length);have h0:Zgp σ0.nx rs 0=σ0.nx:=by simp[Zgp]
   omega
  ·have:=hF.congr ha;exact⟨this.size,this.defers,fun t c hc=>let ⟨v,h1,h2⟩:=this.vals t c hc;⟨v,h1,h2.more hD⟩⟩
  ·rw[Foot.congr he];exact hx
 intro fuel;induction fuel with
 |zero=>
  intro listed act w hs hsz hcnt hcl hinv;have hready:Region.ready .any ops.toArray listed=[]:=by
   unfold Region.ready;rw[List.filter_eq_nil_iff];intro j hj;have hj':j<ops.length:=by simpa using hj
   have hjs:j<listed.size:=by omega
   have:listed.getD j true=true:=by
    simp only[Array.getD_eq_getD_getElem?,Array.getElem?_eq_getElem hjs,Option.getD_some];have h0:listed.toList.count false=0:=by omega
    rw[List.count_eq_zero] at h0;cases hb:listed[j] with
    |true=>rfl
    |false=>exact absurd (by rw[<-hb];exact Array.getElem_mem_toList hjs) h0
   simp[this]
  exact⟨hready,hPP _ _ (hend listed act w hs hsz hready hinv)⟩
 |succ fuel ih=>
  intro listed act w hs hsz hcnt hcl hinv;refine⟨fun hnil=>hPP _ _ (hend listed act w hs hsz hnil hinv),fun i hi=> ?_⟩;obtain⟨g,hR,hF,hx⟩:=hinv;unfold Region.ready at hi;rw[List.mem_filter] at hi;obtain⟨hi1,hi2⟩:=hi;have hin:i<ops.length:=by simpa using hi1
  have hios:ops[i]? =some ops[i]:=List.getElem?_eq_getElem hin;have hirs:rs[i]? =some (rs[i]'(by omega)):=List.getElem?_eq_getElem _;have h2:ops.toArray[i]? =some (ops[i]):=by simp[hin]
  simp only[h2,Option.map_some,Option.getD_some,Bool.and_eq_true] at hi2;have hil:i<listed.size:=by omega
  have hfi:listed.getD i false=false:=by
   have:=hi2.1;simp only[Array.getD_eq_getD_getElem?,Array.getElem?_eq_getElem hil,Option.getD_some] at this ⊢;simpa using this
  have hihard:∀o,ops[i]? =some o->∀e∈Zar o,listed.getD e false=true:=by
   intro o ho e he;rw[hios] at ho;cases ho;obtain⟨e',he',hee⟩:=List.mem_filterMap.1 he;have h3:=hi2.2;rw[<-Array.all_toList,List.all_eq_true] at h3;have:=h3 e' he';cases hb:Region.binds .any e' with
   |false=>rw[hb] at hee;cases hee
   |true=>
    rw[hb] at hee this;simp only[cond_true,Option.some.injEq] at hee;subst hee;simpa using this
  have hcl1:∀j o r,ops[j]? =some o->rs[j]? =some r->j≠i->Zhm (Zdi ops ops[i]) (Zdi ops o) ops[i].dst.toList o.dst.toList (rs[i]'(by omega)) r=true\/Zhm (Zdi ops o) (Zdi ops ops[i]) o.dst.toList ops[i].dst.toList r (rs[i]'(by omega))=true->
   listed.getD j false=decide (j<i):=by
   intro j o r hjo hjr hji hc;have hsym:∀{lo lo' d d' r r'},Zhm lo lo' d d' r r'=true->Zhm lo' lo d' d r' r=true:=by
    intro lo lo' d d' r r' h;have hany:∀x y:List Nat,Zm6 x y=true->Zm6 y x=true:=fun x y h=>by
     obtain⟨u,hu,h2⟩:=List.any_eq_true.1 h;obtain⟨v,hv,h3⟩:=List.any_eq_true.1 h2;have:=Nat.eq_of_beq_eq_true h3;subst this;exact Zfq hv hu
    simp only[Zhm,Bool.or_eq_true] at h ⊢;rcases h with((((h|h)|h)|h)|h)|h
    ·exact .inl (.inl (.inl (.inl (.inr h))))
    ·exact .inl (.inl (.inl (.inl (.inl h))))
    ·exact .inl (.inl (.inl (.inr (hany _ _ h))))
    ·exact .inl (.inr h)
    ·exact .inl (.inl (.inr h))
    ·exact .inr (hany _ _ h)
   rcases Nat.lt_or_gt_of_ne hji with hlt|hlt
   ·have hp:=Zli hord hlt hjo hjr hios hirs (by rcases hc with hc|hc;(exact hsym hc);(exact hc));rw[decide_eq_true hlt];exact hpath (fun j=>listed.getD j false) hcl hp hihard
   ·have hp:=Zli hord hlt hios hirs hjo hjr (by rcases hc with hc|hc;(exact hc);(exact hsym hc));have:¬j<i:=by omega
    rw[decide_eq_false this];cases hlj:listed.getD j false with
    |false=>rfl
    |true=>
     have:=hpath (fun j=>listed.getD j false) hcl hp (fun o' ho'=>hcl j o' ho' hlj);rw[hfi] at this;cases this
  have hfus:∀{j:Nat} {u:AF},(fus ops rs)[j]? =some u->∃o r,ops[j]? =some o/\rs[j]? =some r/\u=Yax o.dst r.v:=by
   intro j u hu;simp only[fus,List.getElem?_zipWith] at hu;split at hu
   ·rename_i o r ho hr;cases hu;exact⟨o,r,ho,hr,rfl⟩
   ·cases hu
  have hpus:∀{j:Nat} {u:Es},(pus rs)[j]? =some u->∃o r,ops[j]? =some o/\rs[j]? =some r/\u=r.post:=by
   intro j u hu;simp only[pus,List.getElem?_map,Option.map_eq_some_iff] at hu;obtain⟨r,hr,rfl⟩:=hu;have hj:=(List.getElem?_eq_some_iff.1 hr).1;exact⟨ops[j]'(by omega),r,List.getElem?_eq_getElem _,hr,rfl⟩
  have hputk:∀{d:Option Nat} {v:V} {t:Nat},t∈(Yax d v).map Prod.fst->t∈d.toList:=by
   intro d v t h;cases d with|none=>simp[Yax] at h|some d=>simpa[Yax] using h
  have hputk2:∀{d:Option Nat} {v:V} {t:Nat},t∈d.toList->t∈(Yax d v).map Prod.fst:=by
   intro d v t h;cases d with|none=>simp at h|some d=>simpa[Yax] using h
  have hlook:∀t∈Zdi ops ops[i],AF.get (un (fun j=>listed.getD j false) 0 (fus ops rs) a0) t=AF.get (un (fun j=>decide (j<i)) 0 (fus ops rs) a0) t:=by
   intro t ht;rw[Zkx,Zkx];refine Zbg rfl fun j u hj hn=> ?_;rw[Nat.zero_add];obtain⟨o,r,ho,hr,rfl⟩:=hfus hj;by_cases hji:j=i
   ·subst hji;rw[hfi];simp
   ·exact hcl1 j o r ho hr hji (.inr (by simp only[Zhm,Bool.or_eq_true];exact .inl (.inl (.inl (.inl (.inl (Zfq (hputk hn) ht)))))))
  have hpre:∀n∈((rs[i]'(by omega)).pre).map Prod.fst,zm (un (fun j=>listed.getD j false) 0 (pus rs) σ0.es) n=zm (un (fun j=>decide (j<i)) 0 (pus rs) σ0.es) n:=by
   intro n hn;rw[Zeq,Zeq];refine Zbg rfl fun j u hj hnu=> ?_;rw[Nat.zero_add];obtain⟨o,r,ho,hr,rfl⟩:=hpus hj;by_cases hji:j=i
   ·subst hji;rw[hfi];simp
   ·exact hcl1 j o r ho hr hji (.inr (by simp only[Zhm,Bool.or_eq_true];exact .inl (.inl (.inr (Zfq hnu hn)))))
  have hfl':∀j,(listed.setIfInBounds i true).getD j false=(if j=i then true else listed.getD j false):=by
   intro j;by_cases hji:j=i
   ·subst hji;simp[Array.getD_eq_getD_getElem?,Array.getElem?_setIfInBounds,hil]
   ·have:¬i=j:=fun e=>hji e.symm;simp[Array.getD_eq_getD_getElem?,Array.getElem?_setIfInBounds,hji,this]
  have hsame:∀j,j≠i->(listed.setIfInBounds i true).getD j false=listed.getD j false:=fun j hj=>by rw[hfl',if_neg hj]
  have hself:(listed.setIfInBounds i true).getD i false=true:=by rw[hfl',if_pos rfl]
  have hes:∀n,zm (un (fun j=>(listed.setIfInBounds i true).getD j false) 0 (pus rs) σ0.es) n=zm ((rs[i]'(by omega)).post++un (fun j=>listed.getD j false) 0 (pus rs) σ0.es) n:=by
   intro n;rw[Zeq,Zeq,Zap];have hpi:(pus rs)[i]? =some (rs[i]'(by omega)).post:=by simp only[pus,List.getElem?_map,hirs,Option.map_some]
   by_cases hn:n∈((rs[i]'(by omega)).post).map Prod.fst
   ·rw[Znx (k:=i) hpi (by rw[Nat.zero_add];exact hself) hn]
    ·obtain ⟨x,hx⟩:=Option.isSome_iff_exists.1 (findA_key.2 hn);rw[hx];rfl
    ·intro j u hij hj hnu;rw[Nat.zero_add,hsame j (by omega)];obtain⟨o,r,ho,hr,rfl⟩:=hpus hj;have:=hcl1 j o r ho hr (by omega) (.inl (by simp only[Zhm,Bool.or_eq_true];exact .inr (Zfq hn hnu)));rw[this];simp;omega
   ·rw[Zfe hn,Option.none_or];refine Zbg rfl fun j u hj hnu=> ?_;rw[Nat.zero_add];refine hsame j fun e=>hn ?_;subst e;rw[hpi] at hj;cases hj;exact hnu
  have hfr:∀t,AF.get (un (fun j=>(listed.setIfInBounds i true).getD j false) 0 (fus ops rs) a0) t=AF.get (AF.put (un (fun j=>listed.getD j false) 0 (fus ops rs) a0) ops[i].dst (rs[i]'(by omega)).v) t:=by
   intro t;rw[Zny,Zkx,Zkx,Zap];have hpi:(fus ops rs)[i]? =some (Yax ops[i].dst (rs[i]'(by omega)).v):=by simp only[fus,List.getElem?_zipWith,hios,hirs]
   by_cases hn:t∈(Yax ops[i].dst (rs[i]'(by omega)).v).map Prod.fst
   ·rw[Znx (k:=i) hpi (by rw[Nat.zero_add];exact hself) hn]
    ·obtain ⟨x,hx⟩:=Option.isSome_iff_exists.1 (findA_key.2 hn);rw[hx];rfl
    ·intro j u hij hj hnu;rw[Nat.zero_add,hsame j (by omega)];obtain⟨o,r,ho,hr,rfl⟩:=hfus hj;have:=hcl1 j o r ho hr (by omega) (.inl (by simp only[Zhm,Bool.or_eq_true];exact .inl (.inl (.inl (.inr (Zfq (hputk hn) (hputk hnu)))))));rw[this];simp;omega
   ·rw[Zfe hn,Option.none_or];refine Zbg rfl fun j u hj hnu=> ?_;rw[Nat.zero_add];refine hsame j fun e=>hn ?_;subst e;rw[hpi] at hj;cases hj;exact hnu
  have hDD:∀n,(Dn σ0.nx rs (fun j=>listed.getD j false) n\/n∈List.range' (Zgp σ0.nx rs i) (rs[i]'(by omega)).news)->Dn σ0.nx rs (fun j=>(listed.setIfInBounds i true).getD j false) n:=by
   intro n hn;rcases hn with(hn|⟨j,r,hj,hfj,hm⟩)|hn
   ·exact .inl hn
   ·refine .inr ⟨j,r,hj,?_,hm⟩;by_cases hji:j=i
    ·subst hji;exact hself
    ·show (listed.setIfInBounds i true).getD j false=true;rw[hsame j hji];exact hfj
   ·exact .inr ⟨i,_,hirs,hself,hn⟩
  have hrec:¬X ops[i]->∀g' v' w',R E.G g' (fun n=>Dn σ0.nx rs (fun j=>listed.getD j false) n\/n∈List.range' (Zgp σ0.nx rs i) (rs[i]'(by omega)).news) ((rs[i]'(by omega)).post++un (fun j=>listed.getD j false) 0 (pus rs) σ0.es) w'->
   VRel g' (fun n=>Dn σ0.nx rs (fun j=>listed.getD j false) n\/n∈List.range' (Zgp σ0.nx rs i) (rs[i]'(by omega)).news) w' v' (rs[i]'(by omega)).v->zw N ops[i].dst=true->
   Ext (Dn σ0.nx rs fun j=>listed.getD j false) g (Foot g (un (fun j=>listed.getD j false) 0 (pus rs) σ0.es)) w g' (Foot g' ((rs[i]'(by omega)).post++un (fun j=>listed.getD j false) 0 (pus rs) σ0.es)) w'->
   wpAny E.P .any ops.toArray PP fuel (listed.setIfInBounds i true) (act.put ops[i].dst v') w':=by
   intro hnX g' v' w' hR' hv' hd hx';refine ih _ _ _ (hS _ i hin hs hnX) (by simpa using hsz) ?_ ?_ ⟨g',?_,?_,?_⟩
   ·have hc0:listed.toList.count false=(listed.setIfInBounds i true).toList.count false+1:=by
     rw[Array.toList_setIfInBounds];have hil2:i<listed.toList.length:=by simpa using hil
     have hli:listed.toList[i]=false:=by
      have:=hfi;simp only[Array.getD_eq_getD_getElem?,Array.getElem?_eq_getElem hil,Option.getD_some] at this;simpa using this
     have h9:=List.count_set (a:=true) (b:=false) (l:=listed.toList) hil2;have h10:0<listed.toList.count false:=List.count_pos_iff.2 (by rw[<-hli];exact List.getElem_mem _);rw[h9,hli,if_pos (show(false==false)=true from rfl),if_neg (show ¬(true==false)=true by decide)];omega
    omega
   ·intro j o ho hj e he;by_cases hji:j=i
    ·subst hji;have:=hihard o ho e he;by_cases hei:e=j
     ·subst hei;exact hself
     ·rw[hsame e hei];exact this
    ·rw[hsame j hji] at hj;have:=hcl j o ho hj e he;by_cases hei:e=i
     ·subst hei;exact hself
     ·rw[hsame e hei];exact this
   ·exact (hR'.congr hes).more hDD
   ·have h1:FRel g' (Dn σ0.nx rs fun j=>(listed.setIfInBounds i true).getD j false) w' N act (un (fun j=>listed.getD j false) 0 (fus ops rs) a0):=hF.ext hx' fun n hn=>hDD n (.inl hn);exact(h1.put (Zh1 hd) (hv'.more hDD)).congr hfr
   ·rw[Foot.congr hes];exact hx.trans (hx'.mono fun n hn=> .inl (by omega))
  obtain⟨hd,hst⟩:=hpl.nth i _ _ hios hirs;have hwant:=Ze8 (ops:=ops) (o:=ops[i]) hlook;have hiarr:ops.toArray[i]? =some ops[i]:=h2;unfold wpOp;rw[hiarr];simp only;rcases hst with⟨hw,hOS,hpr⟩|⟨hw,hr⟩
  ·rw[if_pos (Zej (hwant.trans hw) hF)];by_cases hX:X ops[i]
   ·exact .inl (hcb fuel listed act w i hin g hs hsz hcnt hcl hR hF hx hX hfi (hihard _ hios) hlook)
   have hOS:=hOS.resolve_left hX;refine .inl (hOS g _ _ w act hR (hY.ext hx) (fun p hp=> ?_) (Ykd hirs hfi) ?_ _ _ fun g' v' w' h3 h4 h5=>hrec hX g' v' w' h3 h4 hd h5)
   ·rw[hpre p.1 (Yf8 hp)];exact Zoa hpr p hp
   ·refine ⟨hF.size,hF.defers,fun t c hc=> ?_⟩;obtain⟨h3,h4⟩:=Zoh hc;exact hF.vals t c (by rw[hlook t h3];exact h4)
  ·rw[if_neg (by rw[Zej (hwant.trans hw) hF];simp)];have hnil:(rs[i]'(by omega)).post=[]/\(rs[i]'(by omega)).news=0/\(rs[i]'(by omega)).v= .tup []:=by rw[hr];exact⟨rfl,rfl,rfl⟩
   by_cases hX:X ops[i]
   ·exact (hnX2 i hin hX (hwant.trans hw)).elim
   refine hrec hX g undef w ?_ ?_ hd ?_
   ·rw[hnil.1,List.nil_append];exact hR.more fun n hn=> .inl hn
   ·rw[hnil.2.2];exact .tup [] [] rfl (fun i v c h=>by simp at h)
   ·rw[hnil.1,List.nil_append];exact .refl ..
theorem Zvj{a0:AF}{σ0:Sto}{rs:List Rec}{a':AF}{σ':Sto}(hpl:Plan E N (fun _=>False) ops ops a0 σ0 rs a' σ')(hord:Zpo ops rs=true){Q:Exit->AF->Sto->Prop}(hQ:Q .normal a' σ')(hk:k<=σ0.nx)
 {g0:Gh} {F0:Nat->Prop} {w0:World} (hY:YOk E.Y g0 F0 w0) (hedge:∀j o,ops[j]? =some o->∀e∈Zar o,e<j):
 ∀(fuel:Nat) (listed:Array Bool) (act:Act) (w:World),listed.size=ops.length->(listed.toList.count false<=fuel)->
  (∀j o,ops[j]? =some o->listed.getD j false=true->∀e∈Zar o,listed.getD e false=true)->
  (∃g,R E.G g (Dn σ0.nx rs fun j=>listed.getD j false) (un (fun j=>listed.getD j false) 0 (pus rs) σ0.es) w/\FRel g (Dn σ0.nx rs fun j=>listed.getD j false) w N act (un (fun j=>listed.getD j false) 0 (fus ops rs) a0)/\
   Ext (·<k) g0 F0 w0 g (Foot g (un (fun j=>listed.getD j false) 0 (pus rs) σ0.es)) w)->
  wpAny E.P .any ops.toArray (Post E N k g0 F0 w0 Q) fuel listed act w:=
 fun fuel listed act w=>Zqa (S:=fun _=>True) hpl hord (fun _ _ _ _ _=>trivial) (fun _ _ _=>hQ) hk hY hedge (fun _ _ h=>h.elim) (fun _ _ h=>h) (fun _ _ _ _ _ _ _ _ _ _ _ _ _ _ h=>h.elim) fuel listed act w trivial
def Zin:Nat->List Oper->Bool
 |_,[]=>true
 |i,o::l=>(Zar o).all (fun e=>Nat.blt e i)&&Zin (i+1) l
theorem Zpp:∀{l:List Oper} {i:Nat},Zin i l=true->∀j o,l[j]? =some o->∀e∈Zar o,e<i+j:=by
 intro l;induction l with
 |nil=>intro i _ j o h;simp at h
 |cons x l ih=>
  intro i h j o hj e he;simp only[Zin,Bool.and_eq_true] at h;cases j with
  |zero=>simp at hj;subst hj;exact Nat.le_of_ble_eq_true (List.all_eq_true.1 h.1 e he)
  |succ j=>simp only[List.getElem?_cons_succ] at hj;have:=ih h.2 j o hj e he;omega
theorem AW.draw{a:AF}{σ:Sto}{Q:Exit->AF->Sto->Prop}{id:Nat}(hmix:E.P.follows .mixedOrders=true)(he:Zin 0 ops=true)(h:AWD E N k ops ops a σ [] Q):AW E N k (.region id ops.toArray true) a σ Q:=by
 obtain⟨rs,a',σ',hpl,hord,hq⟩:=h;constructor;intro hk g w act hR hF hY;refine wp_region_any hmix (Zvj hpl hord hq hk hY (fun j o ho e he'=>by have:=Zpp he j o ho e he';omega) _ _ _ _ (by simp) ?_ ?_ ⟨g,?_,?_,?_⟩)
 ·simp
 ·intro j o ho hj;exfalso;have:(Array.replicate ops.toArray.size false).getD j false=false:=by
   simp[Array.getD_eq_getD_getElem?,Array.getElem?_replicate];split<;>rfl
  rw[this] at hj;cases hj
 all_goals
  have hff:(fun j=>(Array.replicate ops.toArray.size false).getD j false)=fun _=>false:=by
   funext j;simp[Array.getD_eq_getD_getElem?,Array.getElem?_replicate];split<;>rfl
  have e1:un (fun _=>false) 0 (pus rs) σ.es=σ.es:=Zjq fun _ _=>rfl;have e2:un (fun _=>false) 0 (fus ops rs) a=a:=Zjq fun _ _=>rfl;rw[hff]
 ·rw[e1];exact hR.drew.more (fun n hn=>Or.inl hn)
 ·rw[e2];exact⟨hF.size,hF.defers,fun t c hc=>let ⟨v,h1,h2⟩:=hF.vals t c hc;⟨v,h1,h2.drew.more (fun n hn=>Or.inl hn)⟩⟩
 ·rw[e1];exact Ext.drew
end
theorem Zr5{a a':AF}(h:∀t,a'.get t=a.get t)(l:List Nat):Zhr a' l=Zhr a l:=by
 induction l with
 |nil=>rfl
 |cons t l ih=>simp only[Zhr,h t,ih]
theorem Znv{a a':AF}(h:∀t,a'.get t=a.get t)(d:Option Nat)(v:V):∀t,AF.get (a'.put d v) t=AF.get (a.put d v) t:=by
 intro t;cases d with
 |none=>exact h t
 |some d=>simp only[AF.put,AF.get_cons,h t]
section
variable {E:Env} {N k:Nat} {ops:List Oper}
theorem Plan.congr{X:Oper->Prop}{rest:List Oper}{a:AF}{σ:Sto}{rs:List Rec}{a':AF}{σ':Sto}(h:Plan E N X ops rest a σ rs a' σ'):∀{b:AF},(∀t,b.get t=a.get t)->∃b',(∀t,b'.get t=a'.get t)/\Plan E N X ops rest b σ rs b' σ':=by
 induction h with
 |nil a σ=>intro b hb;exact⟨b,hb,.nil b σ⟩
 |run r hw h hp hd _ ih=>
  intro b hb;obtain⟨b',h1,h2⟩:=ih (Znv hb _ _);exact⟨b',h1,.run r ((Ze8 fun t _=>hb t).trans hw) (h.imp id fun h=>by rw[Zr5 hb];exact h) hp hd h2⟩
 |sk hw hd _ ih=>
  intro b hb;obtain⟨b',h1,h2⟩:=ih (Znv hb _ _);exact⟨b',h1,.sk ((Ze8 fun t _=>hb t).trans hw) hd h2⟩
def AX0(E:Env)(N k:Nat)(dr:Bool)(ops rest:List Oper)(a:AF)(σ:Sto)(acc:List Rec)(Q:Exit->AF->Sto->Prop):Prop:=
 match dr with
 |false=>AWL E N k ops rest a σ Q
 |true=>∃rs a' σ' a2,Plan E N (fun _=>False) ops rest a σ rs a' σ'/\Zpo ops (acc.reverse++rs)=true/\(∀t,a2.get t=a'.get t)/\Q .normal a2 σ'
def frm(dr:Bool)(ops:List Oper)(a:AF)(o:Oper):AF:=match dr with|true=>Zhr a (Zdi ops o)|false=>a
variable {dr:Bool} {rest:List Oper} {a:AF} {σ:Sto} {acc:List Rec} {Q:Exit->AF->Sto->Prop}
theorem AX0.run{o:Oper}{pre:Es}{v:V}(news:Nat){post:Es}(hw:yb ops a o.guard=some true)(h:OSY E N o (frm dr ops a o) pre v (List.range' σ.nx news) post)(hp:Zg0 σ.es pre)(hd:zw N o.dst=true)
 (h2:AX0 E N k dr ops rest (a.put o.dst v) (σ.upd news post) (⟨pre,v,news,post⟩::acc) Q):AX0 E N k dr ops (o::rest) a σ acc Q:=by
 cases dr with
 |false=>exact AWL.run (news:=news) hw h hp hd h2
 |true=>
  obtain⟨rs,a',σ',a2,h3,h4,h5,h6⟩:=h2;refine⟨_,a',σ',a2,.run ⟨pre,v,news,post⟩ hw (.inr h) hp hd h3,?_,h5,h6⟩
  grind
theorem AX0.sk{o:Oper}(hw:yb ops a o.guard=some false)(hd:zw N o.dst=true)(h2:AX0 E N k dr ops rest (a.put o.dst (.tup [])) σ (⟨[],.tup [],0,[]⟩::acc) Q):AX0 E N k dr ops (o::rest) a σ acc Q:=by
 cases dr with
 |false=>exact AWL.sk hw hd h2
 |true=>
  obtain⟨rs,a',σ',a2,h3,h4,h5,h6⟩:=h2;refine⟨_,a',σ',a2,.sk hw hd h3,?_,h5,h6⟩
  grind
theorem AX0.nilL(h:Q .normal a σ):AX0 E N k false ops [] a σ acc Q:=AWL.nil h
theorem AX0.nilD(ho:Zpo ops acc.reverse=true)(h:Q .normal a σ):AX0 E N k true ops [] a σ acc Q:=
 ⟨[],a,σ,a,.nil a σ,by grind,fun _=>rfl,h⟩
theorem AX0.split(d:Tmp){b:Bool}(hb:a.get d=some (.bool b))(ht:b=true->AX0 E N k dr ops rest ((d,.bool true)::a) σ acc Q)(hf:b=false->AX0 E N k dr ops rest ((d,.bool false)::a) σ acc Q):AX0 E N k dr ops rest a σ acc Q:=by
 cases dr with
 |false=>exact AWL.split hb ht hf
 |true=>
  have key:∀b',b=b'->(∃rs a' σ' a2,Plan E N (fun _=>False) ops rest ((d,.bool b')::a) σ rs a' σ'/\Zpo ops (acc.reverse++rs)=true/\(∀t,AF.get a2 t=AF.get a' t)/\Q .normal a2 σ')->AX0 E N k true ops rest a σ acc Q:=by
   rintro _ rfl ⟨rs,a',σ',a2,h1,h2,h3,h4⟩;obtain⟨b',h5,h6⟩:=h1.congr (b:=a) fun t=>by
    rw[AF.get_cons]
    grind
   exact⟨rs,b',σ',a2,h6,h2,fun t=>(h3 t).trans (h5 t).symm,h4⟩
  cases hbb:b with
  |true=>exact key true hbb (ht hbb)
  |false=>exact key false hbb (hf hbb)
structure AX (E:Env) (N k:Nat) (dr:Bool) (ops rest:List Oper) (a:AF) (σ:Sto) (acc:List Rec) (Q:Exit->AF->Sto->Prop):Prop where
 out:AX0 E N k dr ops rest a σ acc Q
theorem AX.runY{o:Oper}{pre:Es}{v:V}(news:Nat){post:Es}(hw:yb ops a o.guard=some true)(h:OSY E N o (frm dr ops a o) pre v (List.range' σ.nx news) post)(hp:Zg0 σ.es pre)(hd:zw N o.dst=true)
 (h2:AX E N k dr ops rest (a.put o.dst v) (σ.upd news post) (⟨pre,v,news,post⟩::acc) Q):AX E N k dr ops (o::rest) a σ acc Q:=⟨AX0.run news hw h hp hd h2.out⟩
theorem AX.run{o:Oper}{pre:Es}{v:V}(news:Nat){post:Es}(hw:yb ops a o.guard=some true)(h:OS E N o (frm dr ops a o) pre v (List.range' σ.nx news) post)(hp:Zg0 σ.es pre)(hd:zw N o.dst=true)
 (h2:AX E N k dr ops rest (a.put o.dst v) (σ.upd news post) (⟨pre,v,news,post⟩::acc) Q):AX E N k dr ops (o::rest) a σ acc Q:=AX.runY news hw h.y hp hd h2
theorem AX.sk{o:Oper}(hw:yb ops a o.guard=some false)(hd:zw N o.dst=true)(h2:AX E N k dr ops rest (a.put o.dst (.tup [])) σ (⟨[],.tup [],0,[]⟩::acc) Q):AX E N k dr ops (o::rest) a σ acc Q:=⟨AX0.sk hw hd h2.out⟩
theorem AX.nilL(h:Q .normal a σ):AX E N k false ops [] a σ acc Q:=⟨AX0.nilL h⟩
theorem AX.nilD(ho:Zpo ops acc.reverse=true)(h:Q .normal a σ):AX E N k true ops [] a σ acc Q:=⟨AX0.nilD ho h⟩
theorem AX.split(d:Tmp){b:Bool}(hb:a.get d=some (.bool b))(ht:b=true->AX E N k dr ops rest ((d,.bool true)::a) σ acc Q)(hf:b=false->AX E N k dr ops rest ((d,.bool false)::a) σ acc Q):AX E N k dr ops rest a σ acc Q:=
 ⟨AX0.split d hb (fun h=>(ht h).out) (fun h=>(hf h).out)⟩
theorem AW.regL{id:Nat}{l:List Oper}(h:AX E N k false l l a σ [] Q):AW E N k (.region id l.toArray false) a σ Q:= .region h.out
theorem AW.regD{id:Nat}{l:List Oper}(hmix:E.P.follows .mixedOrders=true)(he:Zin 0 l=true)(h:AX E N k true l l a σ [] Q):AW E N k (.region id l.toArray true) a σ Q:=by
 obtain⟨rs,a',σ',a2,h1,h2,h3,h4⟩:=h.out;have:=AW.draw (E:=E) (N:=N) (k:=k) (Q:=fun e x τ=>e= .normal/\x=a'/\τ=σ') (a:=a) (σ:=σ) (id:=id) hmix he ⟨rs,a',σ',h1,by omega,rfl,rfl,rfl⟩;constructor;intro hk g w act hR hF hY;refine wp_mono (this.run hk g w act hR hF hY) ?_;rintro e act' w' ⟨g1,a1,σ1,⟨rfl,rfl,rfl⟩,h6,h7,h8,h9⟩;exact⟨g1,a2,σ1,h4,h6,h7,h8.congr h3,h9⟩
theorem Zuo{xs:List Operand}{t:Nat}(h:Operand.tmp t∈xs):t∈Yet xs:=List.mem_filterMap.2 ⟨_,h,rfl⟩
theorem Zvl{a:AF}:∀{l:List Nat} {t:Nat},t∈l->(Zhr a l).get t=a.get t:=by
 intro l;induction l with
 |nil=>simp
 |cons x l ih=>
  intro t h;simp only[Zhr];cases hx:a.get x with
  |none=>
   rcases List.mem_cons.1 h with rfl|h
   ·by_cases hl:t∈l
    ·grind
    ·cases hr:(Zhr a l).get t with
     |none=>rw[hx]
     |some c=>exact absurd (Zoh hr).1 hl
   grind
  |some v=>
   simp only[AF.get_cons]
   grind
theorem Zqe{T:TypeId}{o:Oper}{x:Operand}(hx:x∈o.op.operands.toList):ev E T (frm dr ops a o) x=ev E T a x:=by
 cases dr with
 |false=>rfl
 |true=>
  cases x with
  |tmp t=>exact Zvl (List.mem_append_left _ (Zuo hx))
  |_=>rfl
theorem fr{T:TypeId}{o:Oper}{x:Operand}{v:V}(hx:x∈o.op.operands.toList)(h:ev E T a x=some v):ev E T (frm dr ops a o) x=some v:=(Zqe hx).trans h
theorem frs{T:TypeId}{o:Oper}:∀{xs:List Operand} {vs:List V},(∀x∈xs,x∈o.op.operands.toList)->evs E T a xs=some vs->evs E T (frm dr ops a o) xs=some vs:=by
 intro xs;induction xs with
 |nil=>intro vs _ h;exact h
 |cons x l ih=>
  intro vs hx h;simp only[evs] at h ⊢;rw[Zqe (hx x (by simp))];simp only[Option.bind_eq_some_iff,Option.map_eq_some_iff] at h ⊢
  grind
theorem frT{o:Oper}:∀{xs:List Operand} {ts:List TypeId} {vs:List V},(∀x∈xs,x∈o.op.operands.toList)->evT E a xs ts=some vs->evT E (frm dr ops a o) xs ts=some vs:=by
 intro xs;induction xs with
 |nil=>intro ts vs _ h;exact h
 |cons x l ih=>
  intro ts vs hx h;cases ts with
  |nil=>
   simp only[evT] at h ⊢;rw[Zqe (hx x (by simp))];simp only[Option.bind_eq_some_iff,Option.map_eq_some_iff] at h ⊢
   grind
  |cons t ts=>
   simp only[evT] at h ⊢;rw[Zqe (hx x (by simp))];simp only[Option.bind_eq_some_iff,Option.map_eq_some_iff] at h ⊢
   grind
theorem frP{o:Oper}:∀{pp:List (Nat×Operand)} {vs:List (Nat×List V)},(∀p∈pp,p.2∈o.op.operands.toList)->Zb3 E a pp=some vs->Zb3 E (frm dr ops a o) pp=some vs:=by
 intro pp;induction pp with
 |nil=>intro vs _ h;exact h
 |cons x l ih=>
  intro vs hx h;simp only[Zb3] at h ⊢;rw[Zqe (hx x (by simp))];simp only[Option.bind_eq_some_iff,Option.map_eq_some_iff] at h ⊢
  grind
variable {d:Option Tmp} {ty:TypeId} {ps:String} {af:Array Edge} {gd:Option (Nat×Bool)}
namespace L
theorem mv{x:Operand}{v:V}(hw:yb ops a gd=some true)(h:ev E ty a x=some v)(hd:zw N d=true)(h2:AX E N k dr ops rest (a.put d v) σ (⟨[],v,0,[]⟩::acc) Q):AX E N k dr ops (⟨d,.move x,ty,ps,af,gd⟩::rest) a σ acc Q:=
 AX.run 0 hw (OS.move (.inl rfl) (fr (by simp[Op.operands,Call.operands]) h)) trivial hd h2
theorem asg{x:Operand}{v:V}(hw:yb ops a gd=some true)(h:ev E ty a x=some v)(hd:zw N d=true)(h2:AX E N k dr ops rest (a.put d v) σ (⟨[],v,0,[]⟩::acc) Q):AX E N k dr ops (⟨d,.assign x,ty,ps,af,gd⟩::rest) a σ acc Q:=
 AX.run 0 hw (OS.move (.inr rfl) (fr (by simp[Op.operands,Call.operands]) h)) trivial hd h2
theorem pk{c x y:Operand}{b:Bool}{v:V}(hw:yb ops a gd=some true)(hc:ev E 0 a c=some (.bool b))(h:ev E ty a (bif b then x else y)=some v)(hd:zw N d=true)(h2:AX E N k dr ops rest (a.put d v) σ (⟨[],v,0,[]⟩::acc) Q):
 AX E N k dr ops (⟨d,.pick c x y,ty,ps,af,gd⟩::rest) a σ acc Q:=
 AX.run 0 hw (OS.pick rfl (fr (by simp[Op.operands,Call.operands]) hc) (by cases b<;>exact fr (by simp[Op.operands]) h)) trivial hd h2
theorem bx{t:TypeId}{x:Operand}{c:V}{cs:List V}(hw:yb ops a gd=some true)(h:ev E t a x=some c)(hc:cellsOf c=some cs)(hd:zw N d=true)
 (h2:AX E N k dr ops rest (a.put d (.ptr σ.nx 0)) (σ.upd 1 [(σ.nx,.var cs)]) (⟨[],.ptr σ.nx 0,1,[(σ.nx,.var cs)]⟩::acc) Q):AX E N k dr ops (⟨d,.box t x,ty,ps,af,gd⟩::rest) a σ acc Q:=
 AX.run 1 hw (OS.box rfl (fr (by simp[Op.operands,Call.operands]) h) hc) trivial hd h2
theorem al{t:TypeId}{i:TI}(hw:yb ops a gd=some true)(h:E.ti t=some i)(hd:zw N d=true)
 (h2:AX E N k dr ops rest (a.put d (.ptr σ.nx 0)) (σ.upd 1 [(σ.nx,.var i.zero)]) (⟨[],.ptr σ.nx 0,1,[(σ.nx,.var i.zero)]⟩::acc) Q):AX E N k dr ops (⟨d,.alloc t,ty,ps,af,gd⟩::rest) a σ acc Q:=
 AX.run 1 hw (OS.alloc rfl h) trivial hd h2
theorem lda{t:TypeId}{x:Operand}{i:TI}{cs:List V}{c:V}(hw:yb ops a gd=some true)(hx:ev E 0 a x=some (.addr cs))(ht:E.ti t=some i)(hc:Zlv i cs=some c)(hd:zw N d=true)
 (h2:AX E N k dr ops rest (a.put d c) σ (⟨[],c,0,[]⟩::acc) Q):AX E N k dr ops (⟨d,.load t x,ty,ps,af,gd⟩::rest) a σ acc Q:=
 AX.run 0 hw (OS.loadA rfl ht (fr (by simp[Op.operands,Call.operands]) hx) hc) trivial hd h2
theorem ldb{t:TypeId}{x:Operand}{i:TI}{n off:Nat}{cs:List V}{c:V}(hw:yb ops a gd=some true)(hx:ev E 0 a x=some (.ptr n off))(ht:E.ti t=some i)(hn:zm σ.es n=some (.var cs))(hc:Zlv i (cs.drop off)=some c)(hd:zw N d=true)
 (h2:AX E N k dr ops rest (a.put d c) σ (⟨[(n,.var cs)],c,0,[]⟩::acc) Q):AX E N k dr ops (⟨d,.load t x,ty,ps,af,gd⟩::rest) a σ acc Q:=
 AX.run 0 hw (OS.loadB rfl ht (fr (by simp[Op.operands,Call.operands]) hx) hc) ⟨hn,trivial⟩ hd h2
theorem st{t:TypeId}{x y:Operand}{i:TI}{n off:Nat}{cs:List V}{c:V}{vc:List V}(hw:yb ops a gd=some true)(hx:ev E 0 a x=some (.ptr n off))(ht:E.ti t=some i)(hy:ev E t a y=some c)(hn:zm σ.es n=some (.var cs))
 (hc:cellsOf c=some vc) (hs:vc.length=i.size) (hb:Nat.ble (off+vc.length) cs.length=true) (hd:zw N d=true)
 (h2:AX E N k dr ops rest (a.put d (.tup [])) (σ.upd 0 [(n,.var (cs.take off++vc++cs.drop (off+vc.length)))]) (⟨[(n,.var cs)],.tup [],0,[(n,.var (cs.take off++vc++cs.drop (off+vc.length)))]⟩::acc) Q):AX E N k dr ops (⟨d,.store t x y,ty,ps,af,gd⟩::rest) a σ acc Q:=
 AX.run 0 hw (OS.store rfl ht (fr (by simp[Op.operands,Call.operands]) hx) (fr (by simp[Op.operands,Call.operands]) hy) hc hs hb) ⟨hn,trivial⟩ hd h2
theorem faa{t:TypeId}{x:Operand}{z:Nat}{zr:List V}{gs:List (Nat×Nat×Bool)}{f:Nat}{p:Nat×Nat×Bool}{cs:List V}(hw:yb ops a gd=some true)(hx:ev E 0 a x=some (.addr cs))(ht:E.ti t=some ⟨z,zr,.strct gs⟩)
 (hf:gs[f]? =some p) (hb:Nat.ble p.1 cs.length=true) (hd:zw N d=true) (h2:AX E N k dr ops rest (a.put d (.addr (cs.drop p.1))) σ (⟨[],.addr (cs.drop p.1),0,[]⟩::acc) Q):AX E N k dr ops (⟨d,.fieldAddr t x f,ty,ps,af,gd⟩::rest) a σ acc Q:=
 AX.run 0 hw (OS.fieldAddrA rfl ht rfl hf (fr (by simp[Op.operands,Call.operands]) hx) hb) trivial hd h2
theorem fab{t:TypeId}{x:Operand}{z:Nat}{zr:List V}{gs:List (Nat×Nat×Bool)}{f:Nat}{p:Nat×Nat×Bool}{n off:Nat}(hw:yb ops a gd=some true)(hx:ev E 0 a x=some (.ptr n off))(ht:E.ti t=some ⟨z,zr,.strct gs⟩)
 (hf:gs[f]? =some p) (hd:zw N d=true) (h2:AX E N k dr ops rest (a.put d (.ptr n (off+p.1))) σ (⟨[],.ptr n (off+p.1),0,[]⟩::acc) Q):AX E N k dr ops (⟨d,.fieldAddr t x f,ty,ps,af,gd⟩::rest) a σ acc Q:=
 AX.run 0 hw (OS.fieldAddrB rfl ht rfl hf (fr (by simp[Op.operands,Call.operands]) hx)) trivial hd h2
theorem fd{t:TypeId}{x:Operand}{z:Nat}{zr:List V}{gs:List (Nat×Nat×Bool)}{f:Nat}{p:Nat×Nat×Bool}{cs:List V}{c:V}(hw:yb ops a gd=some true)(hx:ev E 0 a x=some (.agg cs))(ht:E.ti t=some ⟨z,zr,.strct gs⟩)
 (hf:gs[f]? =some p) (hc:Yg5 p cs=some c) (hd:zw N d=true) (h2:AX E N k dr ops rest (a.put d c) σ (⟨[],c,0,[]⟩::acc) Q):AX E N k dr ops (⟨d,.field t x f,ty,ps,af,gd⟩::rest) a σ acc Q:=
 AX.run 0 hw (OS.field rfl ht rfl hf (fr (by simp[Op.operands,Call.operands]) hx) hc) trivial hd h2
theorem ex{x:Operand}{ix:Nat}{cs:List V}{c:V}(hw:yb ops a gd=some true)(hx:ev E 0 a x=some (.tup cs))(hc:cs[ix]? =some c)(hd:zw N d=true)(h2:AX E N k dr ops rest (a.put d c) σ (⟨[],c,0,[]⟩::acc) Q):
 AX E N k dr ops (⟨d,.extract x ix,ty,ps,af,gd⟩::rest) a σ acc Q:=
 AX.run 0 hw (OS.extract rfl (fr (by simp[Op.operands,Call.operands]) hx) hc) trivial hd h2
theorem nt{t:TypeId}{x:Operand}{b:Bool}(hw:yb ops a gd=some true)(hx:ev E 0 a x=some (.bool b))(hd:zw N d=true)(h2:AX E N k dr ops rest (a.put d (.bool (!b))) σ (⟨[],.bool (!b),0,[]⟩::acc) Q):AX E N k dr ops (⟨d,.unOp .not t x,ty,ps,af,gd⟩::rest) a σ acc Q:=
 AX.run 0 hw (OS.not rfl (fr (by simp[Op.operands,Call.operands]) hx)) trivial hd h2
theorem bn{op:BinOp}{t u:TypeId}{x y:Operand}{kd:IntKind}{n m:Int}{c:V}(hw:yb ops a gd=some true)(hx:ev E t a x=some (.int kd n))(hy:ev E t a y=some (.int kd m))(hc:Yme op kd n m=some c)(hd:zw N d=true)
 (h2:AX E N k dr ops rest (a.put d c) σ (⟨[],c,0,[]⟩::acc) Q):AX E N k dr ops (⟨d,.binOp op t x y u,ty,ps,af,gd⟩::rest) a σ acc Q:=
 AX.run 0 hw (OS.bin rfl (fr (by simp[Op.operands,Call.operands]) hx) (fr (by simp[Op.operands,Call.operands]) hy) hc) trivial hd h2
theorem ad{t u:TypeId}{x y:Operand}{n m:Int}(hw:yb ops a gd=some true)(hx:ev E t a x=some (.int .i64 n))(hy:ev E t a y=some (.int .i64 m))(hd:zw N d=true)(h1: -9223372036854775808<=n+m/\n+m<=9223372036854775807)
 (h2:AX E N k dr ops rest (a.put d (.int .i64 (n+m))) σ (⟨[],.int .i64 (n+m),0,[]⟩::acc) Q):AX E N k dr ops (⟨d,.binOp .add t x y u,ty,ps,af,gd⟩::rest) a σ acc Q:=
 AX.run 0 hw (OS.add rfl (fr (by simp[Op.operands,Call.operands]) hx) (fr (by simp[Op.operands,Call.operands]) hy) h1.1 h1.2) trivial hd h2
theorem sb{t u:TypeId}{x y:Operand}{n m:Int}(hw:yb ops a gd=some true)(hx:ev E t a x=some (.int .i64 n))(hy:ev E t a y=some (.int .i64 m))(hd:zw N d=true)(h1: -9223372036854775808<=n-m/\n-m<=9223372036854775807)
 (h2:AX E N k dr ops rest (a.put d (.int .i64 (n-m))) σ (⟨[],.int .i64 (n-m),0,[]⟩::acc) Q):AX E N k dr ops (⟨d,.binOp .sub t x y u,ty,ps,af,gd⟩::rest) a σ acc Q:=
 AX.run 0 hw (OS.sub rfl (fr (by simp[Op.operands,Call.operands]) hx) (fr (by simp[Op.operands,Call.operands]) hy) h1.1 h1.2) trivial hd h2
theorem ln{t:TypeId}{x:Operand}{sp:Sp}{l:SL V}{z:Nat}{zr:List V}{c:Option EC}{sz by_:Nat}(hw:yb ops a gd=some true)(hx:ev E t a x=some (.slice sp l))(ht:E.ti t=some ⟨z,zr,.slc c sz by_⟩)(hd:zw N d=true)
 (h2:AX E N k dr ops rest (a.put d (.int .i64 l.len)) σ (⟨[],.int .i64 l.len,0,[]⟩::acc) Q):AX E N k dr ops (⟨d,.call ⟨.builtin .len,#[x],#[t]⟩,ty,ps,af,gd⟩::rest) a σ acc Q:=
 AX.run 0 hw (OS.lenS (u:=0) rfl ht rfl (fr (by simp[Op.operands,Call.operands]) hx)) trivial hd h2
theorem nc{x:Operand}{c:V}(hw:yb ops a gd=some true)(hx:ev E 0 a x=some c)(hc:Yje c=true)(hd:zw N d=true)(h2:AX E N k dr ops rest (a.put d c) σ (⟨[],c,0,[]⟩::acc) Q):
 AX E N k dr ops (⟨d,.nilCheck x,ty,ps,af,gd⟩::rest) a σ acc Q:=
 AX.run 0 hw (OS.nilCheck rfl (fr (by simp[Op.operands,Call.operands]) hx) hc) trivial hd h2
theorem mf{f:Fn}{fi caps:List Operand}{vs us:List V}(hw:yb ops a gd=some true)(h1:evs E 0 a fi=some vs)(h3:evs E 0 a caps=some us)(hd:zw N d=true)(h2:AX E N k dr ops rest (a.put d (.fn f vs us)) σ (⟨[],.fn f vs us,0,[]⟩::acc) Q):
 AX E N k dr ops (⟨d,.makeFunc f fi.toArray caps.toArray,ty,ps,af,gd⟩::rest) a σ acc Q:=
 AX.run 0 hw (OS.makeFunc rfl (frs (by intro x hx;simp[Op.operands,hx]) h1) (frs (by intro x hx;simp[Op.operands,hx]) h3)) trivial hd h2
theorem bd{t:TypeId}{pp:List (Nat×Operand)}{z:Nat}{zr:List V}{gs:List (Nat×Nat×Bool)}{vps:List (Nat×List V)}{cs:List V}(hw:yb ops a gd=some true)(ht:E.ti t=some ⟨z,zr,.strct gs⟩)(hp:Zb3 E a pp=some vps)
 (hf:Zkk gs zr vps=some cs) (hd:zw N d=true) (h2:AX E N k dr ops rest (a.put d (.agg cs)) σ (⟨[],.agg cs,0,[]⟩::acc) Q):AX E N k dr ops (⟨d,.build t pp.toArray,ty,ps,af,gd⟩::rest) a σ acc Q:=
 AX.run 0 hw (OS.build rfl ht rfl (frP (by intro p hp;simp only[Op.operands,List.mem_map];grind) hp) hf) trivial hd h2
theorem bs{t:TypeId}{n:Nat}{pp:List (Nat×Operand)}{z:Nat}{zr:List V}{c:Option EC}{sz bytes:Nat}{cs:List V}{vcs:List (List V)}{l:SL V}(et:TypeId)(hw:yb ops a gd=some true)(ht:E.ti t=some ⟨z,zr,.slc c sz bytes⟩)
 (hpp:pp=(pp.map Prod.snd).zipIdx.map fun x=>(x.2,x.1)) (hn:(pp.map Prod.snd).length=n) (hev:evs E et a (pp.map Prod.snd)=some cs) (hcs:Zkh cellsOf cs=some vcs)
 (hsz:(vcs.all fun vc=>Nat.beq vc.length sz)=true) (hf:Zmt c sz vcs=some l) (hb:Nat.ble (n*sz) 16777216=true) (hd:zw N d=true) (h2:AX E N k dr ops rest (a.put d (.slice .full l)) σ (⟨[],.slice .full l,0,[]⟩::acc) Q):
 AX E N k dr ops (⟨d,.buildSlice t n pp.toArray,ty,ps,af,gd⟩::rest) a σ acc Q:=
 AX.run 0 hw (OS.buildSlice (et:=et) (by grind) hn ht rfl (frs (by intro x hx;simpa[Op.operands] using hx) hev) hcs hsz hf hb) trivial hd h2
theorem ix{t:TypeId}{x y:Operand}{z:Nat}{zr:List V}{c:Option EC}{sz bytes:Nat}{sp:Sp}{l:SL V}{n:Int}(kk:Nat){cs:List V}{kd:IntKind}(hw:yb ops a gd=some true)(hx:ev E t a x=some (.slice sp l))(ht:E.ti t=some ⟨z,zr,.slc c sz bytes⟩)
 (hy:ev E 0 a y=some (.int kd n)) (hn:n=kk) (hlt:kk<l.len) (hk:l.get kk=some cs) (hsz:Nat.beq l.cells sz=true) (hd:zw N d=true) (h2:AX E N k dr ops rest (a.put d (.addr cs)) σ (⟨[],.addr cs,0,[]⟩::acc) Q):AX E N k dr ops (⟨d,.indexAddr t x y,ty,ps,af,gd⟩::rest) a σ acc Q:=
 AX.run 0 hw (OS.indexS rfl ht rfl (fr (by simp[Op.operands,Call.operands]) hx) (fr (by simp[Op.operands,Call.operands]) hy) hn hk hlt hsz) trivial hd h2
theorem ixa{t:TypeId}{x y:Operand}{z:Nat}{zr:List V}{m esz:Nat}{ea:Bool}{cs:List V}{n:Int}(kk:Nat){kd:IntKind}(hw:yb ops a gd=some true)(hx:ev E 0 a x=some (.addr cs))(ht:E.ti t=some ⟨z,zr,.arr m esz ea⟩)
 (hy:ev E 0 a y=some (.int kd n)) (hn:n=kk) (hlt:kk<m) (hb:kk*esz<=cs.length) (hd:zw N d=true) (h2:AX E N k dr ops rest (a.put d (.addr (cs.drop (kk*esz)))) σ (⟨[],.addr (cs.drop (kk*esz)),0,[]⟩::acc) Q):AX E N k dr ops (⟨d,.indexAddr t x y,ty,ps,af,gd⟩::rest) a σ acc Q:=
 AX.run 0 hw (OS.indexA rfl ht rfl (fr (by simp[Op.operands,Call.operands]) hx) (fr (by simp[Op.operands,Call.operands]) hy) hn hlt hb) trivial hd h2
theorem ixb{t:TypeId}{x y:Operand}{z:Nat}{zr:List V}{m esz:Nat}{ea:Bool}{p off:Nat}{n:Int}(kk:Nat){kd:IntKind}(hw:yb ops a gd=some true)(hx:ev E 0 a x=some (.ptr p off))(ht:E.ti t=some ⟨z,zr,.arr m esz ea⟩)
 (hy:ev E 0 a y=some (.int kd n)) (hn:n=kk) (hlt:kk<m) (hd:zw N d=true) (h2:AX E N k dr ops rest (a.put d (.ptr p (off+kk*esz))) σ (⟨[],.ptr p (off+kk*esz),0,[]⟩::acc) Q):AX E N k dr ops (⟨d,.indexAddr t x y,ty,ps,af,gd⟩::rest) a σ acc Q:=
 AX.run 0 hw (OS.indexB rfl ht rfl (fr (by simp[Op.operands,Call.operands]) hx) (fr (by simp[Op.operands,Call.operands]) hy) hn hlt) trivial hd h2
theorem s3{t:TypeId}{x y zz:Operand}{z:Nat}{zr:List V}{c:Option EC}{sz bytes:Nat}{sp:Sp}{l:SL V}{k1 k2:IntKind}(hw:yb ops a gd=some true)(hx:ev E t a x=some (.slice sp l))(ht:E.ti t=some ⟨z,zr,.slc c sz bytes⟩)
 (hy:ev E 0 a y=some (.int k1 l.len)) (hz:ev E 0 a zz=some (.int k2 l.len)) (hd:zw N d=true) (h2:AX E N k dr ops rest (a.put d (.slice .full l)) σ (⟨[],.slice .full l,0,[]⟩::acc) Q):AX E N k dr ops (⟨d,.slice t x none (some y) (some zz),ty,ps,af,gd⟩::rest) a σ acc Q:=
 AX.run 0 hw (OS.slice3 rfl ht rfl (fr (by simp[Op.operands,Call.operands]) hx) (fr (by simp[Op.operands,Call.operands]) hy) (fr (by simp[Op.operands,Call.operands]) hz)) trivial hd h2
theorem ap{t:TypeId}{s x:Operand}{z:Nat}{zr:List V}{c:Option EC}{sz bytes:Nat}{sp sp':Sp}{l l' l2:SL V}(hw:yb ops a gd=some true)(hs:ev E t a s=some (.slice sp l))(hx:ev E t a x=some (.slice sp' l'))(ht:E.ti t=some ⟨z,zr,.slc c sz bytes⟩)
 (hsp:Zn1 sp=true) (hl:l.app l'=some l2) (hsz:Nat.beq l.cells sz=true) (hp:Zg0 σ.es (Zd9 sp)) (hd:zw N d=true)
 (hb:(l.len+l'.len)*bytes<=140737488355328/\l.len+l'.len<=9223372036854775807) (h2:AX E N k dr ops rest (a.put d (.slice (.own σ.nx) l2)) (σ.upd 1 (Zcd σ.nx sp)) (⟨Zd9 sp,.slice (.own σ.nx) l2,1,Zcd σ.nx sp⟩::acc) Q):
 AX E N k dr ops (⟨d,.call ⟨.builtin .append,#[s,x],#[t,t]⟩,ty,ps,af,gd⟩::rest) a σ acc Q:=
 AX.run 1 hw (OS.append rfl ht rfl (fr (by simp[Op.operands,Call.operands]) hs) (fr (by simp[Op.operands,Call.operands]) hx) hsp hl hsz hb.1 hb.2) hp hd h2
theorem apF{t:TypeId}{s x:Operand}{z:Nat}{zr:List V}{c:Option EC}{sz bytes:Nat}{sp sp':Sp}{l l' l2:SL V}(hw:yb ops a gd=some true)(hs:ev E t a s=some (.slice sp l))(hx:ev E t a x=some (.slice sp' l'))(ht:E.ti t=some ⟨z,zr,.slc c sz bytes⟩)
 (hsp:sp= .full/\0<l'.len) (hl:l.app l'=some l2) (hsz:Nat.beq l.cells sz=true) (hp:Zg0 σ.es (Zd9 sp)) (hd:zw N d=true)
 (hb:(l.len+l'.len)*bytes<=140737488355328/\l.len+l'.len<=9223372036854775807) (h2:AX E N k dr ops rest (a.put d (.slice (.own σ.nx) l2)) (σ.upd 1 (Zcd σ.nx sp)) (⟨Zd9 sp,.slice (.own σ.nx) l2,1,Zcd σ.nx sp⟩::acc) Q):
 AX E N k dr ops (⟨d,.call ⟨.builtin .append,#[s,x],#[t,t]⟩,ty,ps,af,gd⟩::rest) a σ acc Q:=
 AX.run 1 hw (OS.appendG rfl ht rfl (fr (by simp[Op.operands,Call.operands]) hs) (fr (by simp[Op.operands,Call.operands]) hx) (.inr hsp) hl hsz hb.1 hb.2) hp hd h2
theorem c0{f:FuncId}{xs:List Operand}{ts:List TypeId}{cs args cs1:List V}{r:V}(h:PC E f args r)(hw:yb ops a gd=some true)(hx:evT E a xs ts=some cs)(hr:w7 [] args=some cs1)(hle:VsLe cs cs1)(hd:zw N d=true)
 (h2:AX E N k dr ops rest (a.put d r) σ (⟨[],r,0,[]⟩::acc) Q):AX E N k dr ops (⟨d,.call ⟨.value (.func f),xs.toArray,ts.toArray⟩,ty,ps,af,gd⟩::rest) a σ acc Q:=
 AX.run 0 hw (OS.call0 rfl (frT (by intro x hx;simp[Op.operands,Call.operands,hx]) hx) h ⟨cs1,hr,hle⟩) trivial hd h2
end L
end
section
variable {E:Env} {N k:Nat} {a:AF} {σ:Sto} {Q:Exit->AF->Sto->Prop}
def Ydz(E:Env)(N k:Nat)(B:Nat)(i d:Tmp)(m:Nat)(P:Nat->Prop)(J:Nat->AF×Sto)(Q:Exit->AF->Sto->Prop):Exit->AF->Sto->Prop
 | .normal,a,σ=>a.get i=some (.int .i64 m)/\P (m+1)/\Weak E N k ((i,.int .i64 ((m+1:Nat):Int))::(d,.int .i64 ((m+1:Nat):Int))::a) σ (J (m+1)).1 (J (m+1)).2
 | .exit id,a,σ=>bif Nat.beq id B then Q .normal a σ else Q (.exit id) a σ
 |e,a,σ=>Q e a σ
theorem Weak.trans{a':AF}{σ':Sto}{a'':AF}{σ'':Sto}(h:Weak E N k a σ a' σ')(h':Weak E N k a' σ' a'' σ''):Weak E N k a σ a'' σ'':=by
 intro hk;obtain⟨hk1,h1⟩:=h hk;obtain⟨hk2,h2⟩:=h' hk1;refine⟨hk2,fun g w act hR hF=> ?_⟩;obtain⟨g1,hR1,hF1,hx1⟩:=h1 g w act hR hF;obtain⟨g2,hR2,hF2,hx2⟩:=h2 g1 w act hR1 hF1;exact⟨g2,hR2,hF2,hx1.trans hx2⟩
theorem Weak.slots{a':AF}(h:∀t c,a'.get t=some c->a.get t=some c):Weak E N k a σ a' σ:=
 fun hk=>⟨hk,fun g w act hR hF=>⟨g,hR,⟨hF.size,hF.defers,fun t c hc=>hF.vals t c (h t c hc)⟩,.refl ..⟩⟩
theorem AW.range{B C r1 r2:Nat}{c i n d:Tmp}{T T' T2 T3:TypeId}{ty1 ty2 ty3:TypeId}{p1 p2 p3:String}{af1 af2 af3:Array Edge}{body:Code}(len:Nat)(P:Nat->Prop)(J:Nat->AF×Sto)(hlen:len<4611686018427387904)
 (hi:∀m,(J m).1.get i=some (.int .i64 m)) (hn:∀m,(J m).1.get n=some (.int .i64 len)) (hd:zw N (some c)&&zw N (some d)&&zw N (some i)&& !Nat.beq d i=true) (hP:P 0) (h0:Weak E N k a σ (J 0).1 (J 0).2)
 (hb:∀m,m<len->P m->AW E N k body ((c,.bool true)::(J m).1) (J m).2 (vy C (Ydz E N k B i d m P J Q)))
 (he:P len->Q .normal ((c,.bool false)::(J len).1) (J len).2):
 AW E N k (.block B (.loop (.seq (.region r1 #[⟨some c,.binOp .lss T (.tmp i) (.tmp n) T',ty1,p1,af1,none⟩] false)
  (.seq (.cond (.tmp c) .skip (.exit B)) (.seq (.block C body)
   (.region r2 #[⟨some d,.binOp .add T2 (.tmp i) (.const (.int .i64 1)) T3,ty2,p2,af2,none⟩,⟨some i,.move (.tmp d),ty3,p3,af3,none⟩] false)))))) a σ Q:=by
 simp only[Bool.and_eq_true] at hd;obtain⟨⟨⟨hd1,hd2⟩,hd3⟩,hd4⟩:=hd;refine .block (.loop (ι:={m:Nat // m<=len/\P m}) (fun m=>J m.1) (fun m=>len-m.1) ⟨0,Nat.zero_le _,hP⟩ h0 fun⟨m,hm,hPm⟩=> ?_);refine .seq (.regL (L.bn rfl (hi m) (hn m) rfl hd1 (.nilL ?_)));show AW E N k _ ((c,.bool (decide ((m:Int)<(len:Int))))::(J m).1) (J m).2 _;by_cases hlt:m<len
 ·have hdec:decide ((m:Int)<(len:Int))=true:=by grind
  rw[hdec];refine .seq (.condT (by simp[ev,AF.get]) (.skip ?_));show AW E N k _ _ _ _;refine .seq (.block ((hb m hlt hPm).mono ?_));rintro e a1 σ1 hq;have hnorm:Ydz E N k B i d m P J Q .normal a1 σ1->Zm2 E N k (.region r2 #[⟨some d,.binOp .add T2 (.tmp i) (.const (.int .i64 1)) T3,ty2,p2,af2,none⟩,⟨some i,.move (.tmp d),ty3,p3,af3,none⟩] false)
   (Zxk E N k (fun m:{m:Nat // m<=len/\P m}=>J m.1) (fun m=>len-m.1) ⟨m,hm,hPm⟩ (vy B Q)) .normal a1 σ1:=by
   rintro⟨h1,h2,h3⟩;show AW E N k _ _ _ _;refine .regL (L.ad rfl h1 (show ev E T2 a1 (.const (.int .i64 1))=some (.int .i64 1) from rfl) hd2 (by omega) (L.mv rfl (v:= .int .i64 ((m:Int)+1)) (by simp[ev,AF.put,AF.get]) hd3 (.nilL ?_)));rw[show((m:Int)+1)=((m+1:Nat):Int) from by omega];refine⟨⟨m+1,hlt,h2⟩,by grind,?_⟩;exact h3
  cases e with
  |normal=>exact hnorm hq
  |exit id=>
   simp only[vy] at hq ⊢;cases hb:Nat.beq id C with
   |true=>grind
   |false=>rw[hb] at hq;exact hq
  |goto l=>exact hq
  |ret=>exact hq
  |panic ch=>exact hq
  |outgrown=>exact hq
 ·have hm':m=len:=by omega
  subst hm';have hdec:decide ((m:Int)<(m:Int))=false:=by simp
  rw[hdec];refine .seq (.condF (by simp[ev,AF.get]) (.exit ?_));show vy B Q (.exit B) _ _;simp only[vy,Nat.beq_refl,cond_true]
  grind
end
end Go.Ab
