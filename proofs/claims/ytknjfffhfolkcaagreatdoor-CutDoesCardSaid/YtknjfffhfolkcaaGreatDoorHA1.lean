/- A part of this seat's proofs. No conditions. -/
import Derived.Below
import Derived.Deep.LoopGhost
import Derived.IntWalk
import Derived.Laws.AppendOwn
import Derived.Laws.NewBlocks
import Derived.Laws.StructEq
import Derived.Orders
import Derived.Tactics
namespace Go.Ab
open Go
abbrev Wi:=@List.getElem_mem
abbrev Wj:=@Nat.le_refl
abbrev Wk:=@Bool.and_eq_true
abbrev Wl:=@List.getElem?_eq_getElem
abbrev Wm:=@List.all_eq_true
abbrev Wn:=@List.map_cons
abbrev Wo:=@Option.map_eq_some_iff
abbrev Wp:=@List.take_length
abbrev Wq:=@Option.some.injEq
abbrev Wr:=@List.append_assoc
abbrev Ws:=@Decidable.not_not
abbrev Wt:=@List.sum_cons
abbrev Wu:=@List.getElem_cons_zero
abbrev Wv:=@List.take_append_getElem
abbrev Ww:=@List.getElem?_eq_some_iff
abbrev Wx:=@Option.bind_eq_some_iff
abbrev Wy:=@List.length_cons
abbrev Wz:=@Nat.le_of_ble_eq_true
abbrev WA:=@List.mem_map
abbrev WB:=@List.eq_nil_of_length_eq_zero
abbrev WC:=@List.getElem?_append_left
abbrev WD:=@List.length_append
abbrev WE:=@List.mem_cons
abbrev WG:=@List.getElem?_append_right
abbrev WH:=@List.mem_append
abbrev WI:=@List.map_nil
abbrev WJ:=@List.getD_eq_getElem?_getD
abbrev WK:=@Nat.eq_of_beq_eq_true
abbrev WL:=@List.mem_flatMap
abbrev WM:=@List.getElem_cons_succ
abbrev WN:=@List.mem_singleton
abbrev WO:=@List.flatMap_cons
abbrev WQ:=@List.all_append
abbrev WR:=@List.append_nil
abbrev WS:=@List.not_mem_nil
abbrev WT:=@List.getElem_of_mem
abbrev WU:=@List.sum_nil
abbrev WV:=@Array.getD_eq_getD_getElem?
abbrev WW:=@List.nil_append
abbrev WX:=@List.take_zero
abbrev WY:=@List.getElem?_map
abbrev WZ:=@Bool.true_and
abbrev W3:=@List.length_nil
abbrev W4:=@Array.getElem?_eq_some_iff
abbrev W5:=@Int.natCast_add
abbrev W6:=@Option.some.inj
abbrev W7:=@List.mem_append_right
abbrev W8:=@Nat.le_trans
abbrev W9:=@Nat.add_mul
abbrev Xa:=@Decidable.byContradiction
abbrev Xb:=@List.getElem?_cons_succ
abbrev Xc:=@List.map_congr_left
abbrev Xd:=@List.flatten_cons
abbrev Xe:=@Option.map_some
abbrev Xf:=@Option.isSome_some
abbrev Xg:=@Nat.zero_add
abbrev Xh:=@List.all_cons
abbrev Xi:=@List.flatten_nil
abbrev Xj:=@List.take_succ_eq_append_getElem
abbrev Xk:=@Array.getElem?_setIfInBounds
abbrev Xl:=@Bool.or_eq_true
abbrev Xm:=@Bool.eq_iff_iff
abbrev Xn:=@List.take_of_length_le
abbrev Xo:=@Bool.false_and
abbrev Xp:=@List.take_append_drop
abbrev Xq:=@List.map_map
abbrev Xr:=@Array.getElem?_eq_getElem
abbrev Xt:=@List.length_map
abbrev Xu:=@List.cons_append
abbrev Xv:=@List.map_append
abbrev Xw:=@Nat.mul_le_mul_right
abbrev Xx:=@List.mem_of_getElem?
abbrev Xy:=@Int.add_assoc
abbrev Xz:=@Nat.add_right_cancel_iff
abbrev XA:=@Option.getD_some
abbrev XB:=@List.mem_append_left
abbrev XC:=@List.length_eq_zero_iff
abbrev XD:=@List.mem_flatten
abbrev XE:=@Nat.zero_le
abbrev XF:=@Bool.not_eq_false
abbrev XG:=@List.getElem?_eq_none
abbrev XH:=@List.length_singleton
abbrev XI:=@Function.comp_apply
abbrev XJ:=@List.getD_cons_zero
abbrev XK:=@List.getElem?_take
abbrev XL:=@List.getElem?_drop
abbrev XM:=@Nat.lt_or_ge
abbrev XN:=@Option.isSome_iff_exists
abbrev XO:=@Int.add_zero
abbrev XP:=@List.mem_filter
abbrev XQ:=@Int.natCast_mul
abbrev XR:=@Nat.add_zero
abbrev XS:=@Nat.pow_succ
abbrev XT:=@List.length_drop
abbrev XU:=@Nat.mul_le_mul
abbrev XV:=@List.set_cons_zero
abbrev XW:=@Classical.choose_spec
abbrev XX:=@List.mem_range'
abbrev XY:=@List.sum_append
abbrev XZ:=@List.mem_of_mem_take
abbrev X0:=@List.mem_range
abbrev X2:=@Nat.add_sub_cancel_left
abbrev X3:=@Option.bind_some
abbrev X4:=@Bool.not_eq_true
abbrev X5:=@Nat.lt_of_lt_of_le
abbrev X6:=@Nat.sub_self
abbrev X7:=@List.zipWith_cons_cons
abbrev X8:=@Nat.one_le_two_pow
abbrev X9:=@List.length_filter_le
abbrev Ya:=@List.size_toArray
abbrev Yb:=@List.mem_cons_of_mem
abbrev Yc:=@List.mem_of_mem_drop
abbrev Yd:=@Array.toList_setIfInBounds
abbrev Ye:=@List.mem_iff_getElem
abbrev Yf:=@Nat.pow_le_pow_right
abbrev Yg:=@List.length_take
abbrev Yh:=@Int.zero_add
abbrev Yi:=@List.all_map
abbrev Yj:=@List.drop_eq_getElem_cons
abbrev Yk:=@Array.length_toList
abbrev Yl:=@List.take_succ_cons
abbrev Ym:=@Nat.add_assoc
abbrev Yn:=@Option.map_none
abbrev Yo:=@List.mem_cons_self
abbrev Yp:=@Nat.eq_zero_or_pos
abbrev Yq:=@Bool.false_eq_true
abbrev Yr:=@List.mem_filterMap
abbrev Ys:=@List.getElem?_cons_zero
abbrev Yt:=@Prod.mk.inj
abbrev Yu:=@Nat.le_of_eq
abbrev Yv:=@Nat.mul_comm
abbrev Yw:=@List.all_nil
abbrev Yx:=@List.nodup_nil
abbrev Yy:=@Int.mul_nonneg
abbrev Yz:=@Int.mul_le_mul
abbrev YA:=@Nat.div_lt_iff_lt_mul
abbrev YB:=@List.mem_iff_getElem?
abbrev YC:=@Nat.ble_eq_true_of_le
abbrev YD:=@Array.size_range
abbrev YE:=@List.any_eq_true
abbrev YF:=@List.getElem?_modify
abbrev YG:=@Int.mul_le_mul_of_nonneg_left
abbrev YH:=@List.cons.injEq
abbrev YI:=@List.any_append
abbrev YJ:=@List.getD_cons_succ
abbrev YK:=@List.flatten_append
abbrev YL:=@List.getElem_range
abbrev YM:=@Array.size_map
abbrev YN:=@List.set_cons_succ
abbrev YO:=@Bool.and_assoc
abbrev YP:=@Bool.and_false
abbrev YQ:=@Option.isSome_none
abbrev YR:=@List.nodup_iff_pairwise_ne
abbrev YS:=@Bool.true_eq_false
abbrev YT:=@List.mem_or_eq_of_mem_set
abbrev YU:=@List.pairwise_iff_getElem
abbrev YV:=@List.nodup_append
abbrev YW:=@Option.map_eq_map
abbrev YX:=@Function.comp_def
abbrev YY:=@List.foldl_append
abbrev YZ:=@Bool.not_or
abbrev Y0:=@Bool.not_true
abbrev Y1:=@Array.getElem?_replicate
abbrev Y2:=@List.zipIdx_cons
abbrev Y3:=@List.drop_append
abbrev Y4:=@List.flatMap_nil
abbrev Y5:=@Option.getD_none
abbrev Y6:=@Nat.beq_refl
abbrev Y7:=@Nat.mod_lt
abbrev Y8:=@Nat.zero_mul
abbrev Y9:=@List.drop_of_length_le
abbrev Za:=@Array.getElem?_eq_none
abbrev Zb:=@List.length_pos_of_mem
abbrev Zc:=@Option.map_eq_none_iff
abbrev Zd:=@Array.getElem?_push_lt
abbrev Ze:=@Nat.div_add_mod
abbrev Zf:=@List.foldl_cons
abbrev Zg:=@Nat.not_lt_zero
abbrev Zh:=@List.getElem?_zipWith
abbrev Zi:=@List.set_append_right
abbrev Zj:=@List.mapM_cons
abbrev Zk:=@Int.le_refl
abbrev Zl:=@List.pairwise_append
abbrev Zm:=@Int.toNat_zero
abbrev Zu:=@Prod.mk.injEq
abbrev Zv:=@Bool.and_true
abbrev ZA:=@Nat.sub_zero
abbrev ZD:=@Int.add_comm
abbrev ZP:=@Nat.one_mul
abbrev ZR:=@Nat.mul_one
theorem U.{u}{α:Sort u}{a:α}:a=a:=rfl
inductive Ty where
 |mk (kind:Int) (args:List Ty)
def Ty.kind:Ty->Int| .mk k _=>k
def Ty.args:Ty->List Ty| .mk _ as=>as
inductive Tm where
 |mk (kind index:Int) (ty:Ty) (args:List Tm)
def Tm.kind:Tm->Int| .mk k _ _ _=>k
def Tm.index:Tm->Int| .mk _ i _ _=>i
def Tm.ty:Tm->Ty| .mk _ _ t _=>t
def Tm.args:Tm->List Tm| .mk _ _ _ as=>as
inductive Vl where
 |mk (kind num:Int) (list:List Int) (args:List Vl)
def Vl.kind:Vl->Int| .mk k _ _ _=>k
def Vl.num:Vl->Int| .mk _ n _ _=>n
def Vl.list:Vl->List Int| .mk _ _ l _=>l
def Vl.args:Vl->List Vl| .mk _ _ _ as=>as
inductive Fm where
 |mk (kind:Int) (ty:Ty) (terms:List Tm) (args:List Fm)
def Fm.kind:Fm->Int| .mk k _ _ _=>k
def Fm.ty:Fm->Ty| .mk _ t _ _=>t
def Fm.terms:Fm->List Tm| .mk _ _ ts _=>ts
def Fm.args:Fm->List Fm| .mk _ _ _ as=>as
inductive Pf where
 |mk (kind index:Int) (ty:Ty) (terms:List Tm) (Ac:List Fm) (args:List Pf)
def Pf.kind:Pf->Int| .mk k _ _ _ _ _=>k
def Pf.index:Pf->Int| .mk _ i _ _ _ _=>i
def Pf.ty:Pf->Ty| .mk _ _ t _ _ _=>t
def Pf.terms:Pf->List Tm| .mk _ _ _ ts _ _=>ts
def Pf.Ac:Pf->List Fm| .mk _ _ _ _ fs _=>fs
def Pf.args:Pf->List Pf| .mk _ _ _ _ _ as=>as
structure Sq where
 types:List Ty
 hyps:List Fm
structure Gl where
 sq:Sq
 fm:Fm
structure St where
 kind:Int
 index:Int
 terms:List Tm
 Ac:List Fm
structure Sz where
 ty:Ty
 nodes:Int
structure Tk where
 kind:Int
 num:Int
 pos:Int
 text:ByteArray
inductive EC where
 |int|u8|str|ty|tm|vl|fm|pf|gl|st|sz|tk|tys|AZ|bl
 deriving DecidableEq
abbrev EC.sem:EC->Type
 | .int=>Int| .u8=>Int| .str=>ByteArray| .ty=>Ty| .tm=>Tm| .vl=>Vl| .fm=>Fm| .pf=>Pf| .gl=>Gl| .st=>St| .sz=>Sz| .tk=>Tk
 | .tys=>List Ty| .AZ=>List Tm| .bl=>Bool
def EC.cells:EC->Nat
 | .int=>1| .u8=>1| .str=>1| .ty=>2| .tm=>5| .vl=>4| .fm=>5| .pf=>7| .gl=>7| .st=>4| .sz=>3| .tk=>4
 | .tys=>1| .AZ=>1| .bl=>1
inductive Sp where
 |any|full|nil|own (r:Nat)
inductive SL (V:Type) where
 |t (c:EC) (xs:List c.sem)
 |u (sz:Nat) (xs:List (List V))
inductive V where
 |int (k:IntKind) (n:Int)
 |bool (b:Bool)
 |str (s:ByteArray)
 |agg (cs:List V)
 |AD (vs:List V)
 |nil
 |slice (sp:Sp) (l:SL V)
 |addr (cs:List V)
 |ptr (n off:Nat)
 |arr (n len sz:Nat)
 |mp (n:Nat)
 |nilp
 |fn (f:Fn) (fi caps:List V)
 |nilf
 |raw (v:Value)
 |ifc (t:TypeId) (cs:List V)
instance:Inhabited V:=⟨.nilf⟩
abbrev V.i(n:Int):V:= .int .i64 n
abbrev V.s(c:EC)(xs:List c.sem):V:= .slice .any (.t c xs)
def Ty.view(t:Ty):List V:=[.i t.kind,.s .ty t.args]
def Tm.view(t:Tm):List V:=[.i t.kind,.i t.index,.i t.ty.kind,.s .ty t.ty.args,.s .tm t.args]
def Vl.view(v:Vl):List V:=[.i v.kind,.i v.num,.s .int v.list,.s .vl v.args]
def Fm.view(f:Fm):List V:=[.i f.kind,.i f.ty.kind,.s .ty f.ty.args,.s .tm f.terms,.s .fm f.args]
def Pf.view(p:Pf):List V:=[.i p.kind,.i p.index,.i p.ty.kind,.s .ty p.ty.args,.s .tm p.terms,.s .fm p.Ac,.s .pf p.args]
def Gl.view(g:Gl):List V:=[.s .ty g.sq.types,.s .fm g.sq.hyps,.i g.fm.kind,.i g.fm.ty.kind,.s .ty g.fm.ty.args,.s .tm g.fm.terms,.s .fm g.fm.args]
def St.view(s:St):List V:=[.i s.kind,.i s.index,.s .tm s.terms,.s .fm s.Ac]
def Sz.view(s:Sz):List V:=[.i s.ty.kind,.s .ty s.ty.args,.i s.nodes]
def Tk.view(t:Tk):List V:=[.i t.kind,.i t.num,.i t.pos,.str t.text]
def EC.view:(c:EC)->c.sem->List V
 | .int,n=>[.i n]| .u8,n=>[.int .u8 n]| .str,s=>[.str s]| .ty,t=>Ty.view t| .tm,t=>Tm.view t| .vl,v=>Vl.view v| .fm,f=>Fm.view f| .pf,p=>Pf.view p
 | .gl,g=>Gl.view g| .st,s=>St.view s| .sz,s=>Sz.view s| .tk,t=>Tk.view t
 | .tys,l=>[.s .ty l]| .AZ,l=>[.s .tm l]| .bl,b=>[.bool b]
theorem EC.Bo(c:EC)(x:c.sem):(c.view x).length=c.cells:=by cases c<;>rfl
def FC(c:EC)(x:c.sem):V:=match c.view x with|[v]=>v|cs=> .agg cs
def EC.fold:(c:EC)->List V->Option c.sem
 | .int,[.int .i64 n]=>some n
 | .u8,[.int .u8 n]=>some n
 | .str,[.str s]=>some s
 | .ty,[.int .i64 k,.slice _ (.t .ty as)]=>some (Ty.mk k as)
 | .tm,[.int .i64 k,.int .i64 i,.int .i64 hk,.slice _ (.t .ty hs),.slice _ (.t .tm as)]=>some (Tm.mk k i (.mk hk hs) as)
 | .vl,[.int .i64 k,.int .i64 n,.slice _ (.t .int l),.slice _ (.t .vl as)]=>some (Vl.mk k n l as)
 | .fm,[.int .i64 k,.int .i64 hk,.slice _ (.t .ty hs),.slice _ (.t .tm ts),.slice _ (.t .fm as)]=>some (Fm.mk k (.mk hk hs) ts as)
 | .pf,[.int .i64 k,.int .i64 i,.int .i64 hk,.slice _ (.t .ty hs),.slice _ (.t .tm ts),.slice _ (.t .fm fs),.slice _ (.t .pf as)]=>some (Pf.mk k i (.mk hk hs) ts fs as)
 | .gl,[.slice _ (.t .ty ts),.slice _ (.t .fm fs),.int .i64 k,.int .i64 hk,.slice _ (.t .ty hs),.slice _ (.t .tm us),.slice _ (.t .fm as)]=>some ⟨⟨ts,fs⟩,Fm.mk k (.mk hk hs) us as⟩
 | .st,[.int .i64 k,.int .i64 i,.slice _ (.t .tm ts),.slice _ (.t .fm fs)]=>some ⟨k,i,ts,fs⟩
 | .sz,[.int .i64 k,.slice _ (.t .ty as),.int .i64 n]=>some ⟨Ty.mk k as,n⟩
 | .tk,[.int .i64 k,.int .i64 n,.int .i64 p,.str s]=>some ⟨k,n,p,s⟩
 | .tys,[.slice _ (.t .ty l)]=>some l
 | .AZ,[.slice _ (.t .tm l)]=>some l
 | .bl,[.bool b]=>some b
 |_,_=>none
def V.weak:V->V
 | .slice _ l=> .slice .any l
 |v=>v
theorem EC.FY(c:EC)(cs:List V)(x:c.sem)(h:c.fold cs=some x):c.view x=cs.map V.weak:=by
 unfold EC.fold at h;split at h<;>first|(cases h;rfl)|cases h
def SL.len{V:Type}:SL V->Nat| .t _ xs=>xs.length| .u _ xs=>xs.length
def SL.cells{V:Type}:SL V->Nat| .t c _=>c.cells| .u s _=>s
def SL.get(l:SL V)(i:Nat):Option (List V):=match l with| .t c xs=>(xs[i]?).map c.view| .u _ xs=>xs[i]?
end Go.Ab
namespace Go.Ab
open Go
set_option linter.unusedSimpArgs false
set_option linter.unusedVariables false
structure El where
 b:Nat
 len:Nat
 cap:Nat
 sz:Nat
structure Gh where
 blk:Nat->Nat
 row:Nat->Option El
 m:Nat->Nat
inductive A6 (m:Nat->Nat) (w:World):Value->V->Prop
 |int (k n):A6 m w (.int k n) (.int k n)
 |bool (b):A6 m w (.bool b) (.bool b)
 |str (s):A6 m w (.string s) (.str s)
 |nilS (l:SL V) (h:l.len=0):A6 m w (.slice none 0 0) (.slice .any l)
 |emp (l:SL V) (h:l.len=0) (a:Addr) (cap:Nat):A6 m w (.slice (some a) 0 cap) (.slice .any l)
 |slice (l:SL V) (b off cap:Nat) (f:Nat->Nat->Value) (hm:off+l.len*l.cells<=m b) (hcap:l.len<=cap)
  (hl:∀i,i<l.len->∃cs,l.get i=some cs/\cs.length=l.cells)
  (hc:∀i j,i<l.len->j<l.cells->w.cell? ⟨b,off+(i*l.cells+j),none⟩=some (f i j))
  (hr:∀i j cs c,i<l.len->l.get i=some cs->cs[j]? =some c->A6 m w (f i j) c):
  A6 m w (.slice (some ⟨b,off,none⟩) l.len cap) (.slice .any l)
 |ifc (t:TypeId) (vs:List Value) (cs:List V) (hl:vs.length=cs.length) (h1:∀v∈vs,v.oneCell'=true)
  (h:∀(i:Nat) v c,vs[i]? =some v->cs[i]? =some c->A6 m w v c):A6 m w (.iface t (.agg vs.toArray)) (.ifc t cs)
def NL:Option El->Nat->Nat->Value->Prop
 |none,n,_,v=>v= .slice none 0 0/\n=0
 |some ρ,n,sz,v=>v= .slice (some ⟨ρ.b,0,none⟩) ρ.len ρ.cap/\n=ρ.len/\sz=ρ.sz
inductive Ar (g:Gh) (D:Nat->Prop) (w:World):Value->V->Prop
 |data {v c} (h:A6 g.m w v c):Ar g D w v c
 |agg (vs:List Value) (cs:List V) (hl:vs.length=cs.length) (h1:∀v∈vs,v.oneCell'=true)
  (h:∀(i:Nat) v c,vs[i]? =some v->cs[i]? =some c->Ar g D w v c):Ar g D w (.agg vs.toArray) (.agg cs)
 |AD (vs:List Value) (cs:List V) (hl:vs.length=cs.length)
  (h:∀(i:Nat) v c,vs[i]? =some v->cs[i]? =some c->Ar g D w v c):Ar g D w (.tuple vs.toArray) (.AD cs)
 |nil:Ar g D w (.slice none 0 0) .nil
 |fullNil (l:SL V) (h:l.len=0):Ar g D w (.slice none 0 0) (.slice .full l)
 |nilS (l:SL V) (h:l.len=0):Ar g D w (.slice none 0 0) (.slice .nil l)
 |full (a:Addr) (n:Nat) (l:SL V) (h:A6 g.m w (.slice (some a) n n) (.slice .any l)):Ar g D w (.slice (some a) n n) (.slice .full l)
 |own (r:Nat) (hr:D r) (v:Value) (l:SL V) (h:NL (g.row r) l.len l.cells v) (hd:A6 g.m w v (.slice .any l)):Ar g D w v (.slice (.own r) l)
 |addr (b off:Nat) (cs:List V) (f:Nat->Value) (hm:off+cs.length<=g.m b)
  (hc:∀j,j<cs.length->w.cell? ⟨b,off+j,none⟩=some (f j)) (hr:∀(j:Nat) c,cs[j]? =some c->A6 g.m w (f j) c):
  Ar g D w (.pointer (some ⟨b,off,none⟩)) (.addr cs)
 |ptr (n off:Nat) (hn:D n):Ar g D w (.pointer (some ⟨g.blk n,off,none⟩)) (.ptr n off)
 |arr (n len sz cap:Nat) (hn:D n) (hcap:len<=cap) (hrow:g.row n=some ⟨g.blk n,0,cap,sz⟩):Ar g D w (.slice (some ⟨g.blk n,0,none⟩) len cap) (.arr n len sz)
 |mp (n:Nat) (hn:D n):Ar g D w (.map (some (g.blk n))) (.mp n)
 |nilp:Ar g D w (.pointer none) .nilp
 |fn (f:Fn) (fi caps:List Value) (fi' caps':List V) (hl:fi.length=fi'.length) (hl':caps.length=caps'.length)
  (h:∀(i:Nat) v c,fi[i]? =some v->fi'[i]? =some c->Ar g D w v c)
  (h':∀(i:Nat) v c,caps[i]? =some v->caps'[i]? =some c->Ar g D w v c):Ar g D w (.func f fi.toArray caps.toArray) (.fn f fi' caps')
 |nilf:Ar g D w .nilFunc .nilf
 |raw (v:Value):Ar g D w v (.raw v)
inductive A2 where
 |var (cs:List V)
 |map (c:EC) (ks:List Int) (xs:List c.sem)
 |row
 |gone
abbrev Es:=List (Nat×A2)
def zl:Es->Nat->Option A2
 |[],_=>none
 |p::l,n=>bif Nat.beq p.1 n then some p.2 else zl l n
theorem Ky{n n':Nat}(h:¬n=n'):Nat.beq n n'=false:=by
 cases hb:Nat.beq n n' with
 |false=>rfl
 |true=>exact absurd (WK hb) h
theorem zp(m:Nat)(e:A2)(es:Es)(n:Nat):zl ((m,e)::es) n=if m=n then some e else zl es n:=by
 show(bif Nat.beq m n then some e else zl es n)=_;by_cases h:m=n
 .subst h;simp
 .simp[Ky h,h]
def A2.AB(g:Gh)(n:Nat):A2->Option Nat
 | .var _=>some (g.blk n)
 | .map _ _ _=>some (g.blk n)
 | .row=>(g.row n).map El.b
 | .gone=>none
def Az(g:Gh)(es:Es)(b:Nat):Prop:=∃n e,zl es n=some e/\e.AB g n=some b
def Dy(es:List MapEntry)(clock:Nat):Prop:=(∀x∈es,x.born<clock)/\(es.map (·.born)).Nodup
def GG(g:Gh)(D:Nat->Prop)(w:World)(n:Nat):A2->Prop
 | .var cs=>g.m (g.blk n)=0/\∃(vs:List Value) (t:TypeId),w.heap[g.blk n]? =some (.cells vs.toArray t (0,0))/\cs.length<=vs.length/\
  (∀v∈vs,v.oneCell'=true)/\(∀(i:Nat) v c,vs[i]? =some v->cs[i]? =some c->Ar g D w v c)/\∀ρ,g.row n=some ρ->vs.length=ρ.cap*ρ.sz
 | .map c ks xs=>g.m (g.blk n)=0/\∃(es:List MapEntry) (clock:Nat),w.heap[g.blk n]? =some (.map es.toArray clock)/\(es.length=xs.length/\Dy es clock)/\ks.length=xs.length/\
  (∀(i:Nat) e k,es[i]? =some e->ks[i]? =some k->e.key= .int .i64 k)/\∀(i:Nat) e x,es[i]? =some e->xs[i]? =some x->Ar g D w e.val (FC c x)
 | .row=>∀ρ,g.row n=some ρ->∃(cur:Array Value) (t:TypeId),w.heap[ρ.b]? =some (.cells cur t (0,0))/\cur.size=ρ.cap*ρ.sz/\g.m ρ.b=ρ.len*ρ.sz/\ρ.len<=ρ.cap
 | .gone=>True
abbrev Dm:=List (Nat×List V)
structure R (G:Dm) (g:Gh) (D:Nat->Prop) (es:Es) (w:World):Prop where
 lt:∀n e,zl es n=some e->D n
 Bb:∀n n' e e' b,zl es n=some e->zl es n'=some e'->e.AB g n=some b->e'.AB g n'=some b->n=n'
 BW:∀n e,zl es n=some e->GG g D w n e
 fresh:∀b,w.heap.size<=b->g.m b=0
 Et:∀p∈G,p.2.length<=g.m p.1/\∀(j:Nat) c,p.2[j]? =some c->∃v,w.cell? ⟨p.1,j,none⟩=some v/\A6 g.m w v c
structure Ext (D:Nat->Prop) (g:Gh) (F:Nat->Prop) (w:World) (g':Gh) (F':Nat->Prop) (w':World):Prop where
 os:w'.os=w.os
 tape:w'.tape=w.tape
 output:w'.output=w.output
 size:w.heap.size<=w'.heap.size
 cells:∀b o,o<g.m b->w'.cell? ⟨b,o,none⟩=w.cell? ⟨b,o,none⟩
 mark:∀b,g.m b<=g'.m b
 blk:∀n,D n->g'.blk n=g.blk n
 row:∀n,D n->g'.row n=g.row n
 frame:∀b,b<w.heap.size->¬F b->w'.heap[b]? =w.heap[b]? /\g'.m b=g.m b
 CK:∀b,F' b->F b\/w.heap.size<=b
theorem Ext.refl(D:Nat->Prop)(g:Gh)(F:Nat->Prop)(w:World):Ext D g F w g F w:=
 ⟨rfl,rfl,rfl,Wj _,fun _ _ _=>rfl,fun _=>Wj _,fun _ _=>rfl,fun _ _=>rfl,fun _ _ _=>⟨rfl,rfl⟩,fun _ h=> .inl h⟩
theorem Ext.trans{D:Nat->Prop}{g g' g'':Gh}{F F' F'':Nat->Prop}{w w' w'':World}(h:Ext D g F w g' F' w')(h':Ext D g' F' w' g'' F'' w''):Ext D g F w g'' F'' w'' where
 os:=h'.os.trans h.os
 tape:=h'.tape.trans h.tape
 output:=h'.output.trans h.output
 size:=W8 h.size h'.size
 cells b o ho:=(h'.cells b o (X5 ho (h.mark b))).trans (h.cells b o ho)
 mark b:=W8 (h.mark b) (h'.mark b)
 blk n hn:=(h'.blk n hn).trans (h.blk n hn)
 row n hn:=(h'.row n hn).trans (h.row n hn)
 frame b hb hF:=by
  have h1:=h.frame b hb hF;have h2:=h'.frame b (X5 hb h.size) (fun hm=>by
   rcases h.CK b hm with hf|hf
   .exact hF hf
   .omega)
  exact⟨h2.1.trans h1.1,h2.2.trans h1.2⟩
 CK b hb:=by
  rcases h'.CK b hb with hf|hf
  .exact h.CK b hf
  .exact .inr (W8 h.size hf)
theorem Ext.mono{D D':Nat->Prop}{g g':Gh}{F F':Nat->Prop}{w w':World}(h:Ext D g F w g' F' w')(hk:∀n,D' n->D n):Ext D' g F w g' F' w':=
 {h with blk:=fun n hn=>h.blk n (hk n hn),row:=fun n hn=>h.row n (hk n hn)}
theorem Nv{i n j c:Nat}(hi:i<n)(hj:j<c):i*c+j<n*c:=
 calc i*c+j<i*c+c:=by omega
  _=(i+1)*c:=by rw[W9,ZP]
  _<=n*c:=Xw _ hi
theorem A6.mono{m m':Nat->Nat}{w w':World}{v:Value}{c:V}(h:A6 m w v c)(hm:∀b,m b<=m' b)
 (hw:∀b o,o<m b->w'.cell? ⟨b,o,none⟩=w.cell? ⟨b,o,none⟩):A6 m' w' v c:=by
 induction h with
 |int k n=>exact .int k n
 |bool b=>exact .bool b
 |str s=>exact .str s
 |nilS l h=>exact .nilS l h
 |emp l h a cap=>exact .emp l h a cap
 |slice l b off cap f hm1 hcap hl hc _ ih=>
  exact .slice l b off cap f (W8 hm1 (hm b)) hcap hl
   (fun i j hi hj=>(hw b _ (by have:=Nv hi hj;omega)).trans (hc i j hi hj)) ih
 |ifc t vs cs hl h1 _ ih=>exact .ifc t vs cs hl h1 ih
theorem Ar.mono{g g':Gh}{D D':Nat->Prop}{w w':World}{v:Value}{c:V}(h:Ar g D w v c)(hm:∀b,g.m b<=g'.m b)
 (hw:∀b o,o<g.m b->w'.cell? ⟨b,o,none⟩=w.cell? ⟨b,o,none⟩) (hn:∀n,D n->D' n) (hb:∀n,D n->g'.blk n=g.blk n)
 (hr:∀n,D n->g'.row n=g.row n):Ar g' D' w' v c:=by
 induction h with
 |data h=>exact .data (h.mono hm hw)
 |agg vs cs hl h1 _ ih=>exact .agg vs cs hl h1 ih
 |AD vs cs hl _ ih=>exact .AD vs cs hl ih
 |nil=>exact .nil
 |fullNil l h=>exact .fullNil l h
 |nilS l h=>exact .nilS l h
 |full a n l h=>exact .full a n l (h.mono hm hw)
 |own r hr' v l h hd=>exact .own r (hn r hr') v l (by rw[hr r hr'];exact h) (hd.mono hm hw)
 |addr b off cs f h1 hc h2=>
  exact .addr b off cs f (W8 h1 (hm b)) (fun j hj=>(hw b _ (by omega)).trans (hc j hj)) (fun j c hj=>(h2 j c hj).mono hm hw)
 |ptr n off h=>rw[<-hb n h];exact .ptr n off (hn n h)
 |arr n len sz cap h hc hr'=>rw[<-hb n h];exact .arr n len sz cap (hn n h) hc (by rw[hr n h,hb n h];exact hr')
 |mp n h=>rw[<-hb n h];exact .mp n (hn n h)
 |nilp=>exact .nilp
 |fn f fi caps fi' caps' hl hl' _ _ ih ih'=>exact .fn f fi caps fi' caps' hl hl' ih ih'
 |nilf=>exact .nilf
 |raw v=>exact .raw v
theorem Ar.ext{D D':Nat->Prop}{g g':Gh}{F F':Nat->Prop}{w w':World}{v:Value}{c:V}(h:Ar g D w v c)(e:Ext D g F w g' F' w')(hn:∀n,D n->D' n):Ar g' D' w' v c:=
 h.mono e.mark e.cells hn e.blk e.row
def C1:List (Option Nat)->Nat->Option (Option Nat)
 |[],_=>none
 |x::_,0=>some x
 |_::l,n+1=>C1 l n
theorem vv{ρ:List (Option Nat)}:∀{n x},C1 ρ n=some x->n<ρ.length:=by
 induction ρ with
 |nil=>intro n x h;cases h
 |cons y l ih=>
  intro n x h;cases n with
  |zero=>simp
  |succ n=>have:=ih h;simp;omega
def Cf(ρ:List (Option Nat))(n:Nat):Option Nat:=match C1 ρ n with|some (some m)=>some m|_=>none
theorem w8{ρ:List (Option Nat)}{n m:Nat}(h:Cf ρ n=some m):C1 ρ n=some (some m):=by
 unfold Cf at h;split at h
 .rename_i h2;cases h;exact h2
 .cases h
mutual
def wl(ρ:List (Option Nat)):V->Option V
 | .int k n=>some (.int k n)
 | .bool b=>some (.bool b)
 | .str s=>some (.str s)
 | .agg cs=>(xz ρ cs).map .agg
 | .AD cs=>(xz ρ cs).map .AD
 | .nil=>some .nil
 | .slice sp l=>match sp with
   | .any=>some (.slice .any l)
   | .full=>some (.slice .full l)
   | .nil=>some (.slice .nil l)
   | .own r=>match C1 ρ r with
     |some (some r')=>some (.slice (.own r') l)
     |some none=>some (.slice .nil l)
     |none=>none
 | .addr cs=>some (.addr cs)
 | .ptr n off=>(Cf ρ n).map fun n'=> .ptr n' off
 | .arr n len sz=>(Cf ρ n).map fun n'=> .arr n' len sz
 | .mp n=>(Cf ρ n).map .mp
 | .nilp=>some .nilp
 | .fn f fi caps=>(xz ρ fi).bind fun fi'=>(xz ρ caps).map fun caps'=> .fn f fi' caps'
 | .nilf=>some .nilf
 | .raw v=>some (.raw v)
 | .ifc t cs=>some (.ifc t cs)
def xz(ρ:List (Option Nat)):List V->Option (List V)
 |[]=>some []
 |c::cs=>(wl ρ c).bind fun c'=>(xz ρ cs).map fun cs'=>c'::cs'
end
theorem HD{w:World}{b:Nat}{vs:Array Value}{t:TypeId}{fr:Nat×Nat}(h:w.heap[b]? =some (.cells vs t fr))(j:Nat):w.cell? ⟨b,j,none⟩=vs[j]? :=
 cell_of_row w b j vs t fr h
theorem yo{ρ:List (Option Nat)}:∀{cs' cs:List V},xz ρ cs'=some cs->cs'.length=cs.length:=by
 intro cs';induction cs' with
 |nil=>intro cs h;simp[xz] at h;subst h;rfl
 |cons c l ih=>
  intro cs h;simp only[xz,Wx,Wo] at h;obtain⟨c1,_,cs1,h2,rfl⟩:=h;simp[ih h2]
theorem x9{ρ:List (Option Nat)}:∀{cs' cs:List V},xz ρ cs'=some cs->∀(i:Nat) c' c,cs'[i]? =some c'->cs[i]? =some c->wl ρ c'=some c:=by
 intro cs';induction cs' with
 |nil=>intro cs h i c' c h1;simp at h1
 |cons x l ih=>
  intro cs h i c' c h1 h2;simp only[xz,Wx,Wo] at h;obtain⟨c1,h3,cs1,h4,rfl⟩:=h;cases i with
  |zero=>simp at h1 h2;subst h1;subst h2;exact h3
  |succ i=>simp at h1 h2;exact ih h4 i c' c h1 h2
theorem Ax{α β:Type}{l:List α}{l':List β}(h:l.length=l'.length){i:Nat}{x:α}(hx:l[i]? =some x):∃y,l'[i]? =some y:=by
 have:=(Ww.1 hx).1;exact⟨l'[i]'(by omega),Wl _⟩
theorem Ub{ρ:List (Option Nat)}{sp:Sp}{l:SL V}{c:V}(h:wl ρ (.slice sp l)=some c):
 (sp= .any/\c= .slice .any l)\/(sp= .full/\c= .slice .full l)\/(sp= .nil/\c= .slice .nil l)\/
 (∃r r',sp= .own r/\C1 ρ r=some (some r')/\c= .slice (.own r') l)\/(∃r,sp= .own r/\C1 ρ r=some none/\c= .slice .nil l):=by
 cases sp with
 |any=>simp only[wl,Wq] at h;exact .inl ⟨rfl,h.symm⟩
 |full=>simp only[wl,Wq] at h;exact .inr (.inl ⟨rfl,h.symm⟩)
 |nil=>simp only[wl,Wq] at h;exact .inr (.inr (.inl ⟨rfl,h.symm⟩))
 |own r=>
  simp only[wl] at h;split at h
  .rename_i r' hr;cases h;exact .inr (.inr (.inr (.inl ⟨r,r',rfl,hr,rfl⟩)))
  .rename_i hr;cases h;exact .inr (.inr (.inr (.inr ⟨r,rfl,hr,rfl⟩)))
  .cases h
theorem Ar.Fu{ρ:List (Option Nat)}{g g2:Gh}{D:Nat->Prop}{w:World}{v:Value}{c:V}(h:Ar g D w v c)(hm:g2.m=g.m)
 (hb:∀n n',Cf ρ n=some n'->g2.blk n=g.blk n') (hr:∀n n',Cf ρ n=some n'->g2.row n=g.row n') (hn:∀n,C1 ρ n=some none->g2.row n=none):
 ∀c',wl ρ c'=some c->Ar g2 (·<ρ.length) w v c':=by
 have hlt:∀{n n'},Cf ρ n=some n'->n<ρ.length:=fun {n n'} h=>vv (w8 h);have hs:∀{v c},Ar g D w v c->∀sp l,wl ρ (.slice sp l)=some c->Ar g2 (·<ρ.length) w v (.slice sp l):=by
  intro v c h sp l hc;rcases Ub hc with⟨rfl,rfl⟩|⟨rfl,rfl⟩|⟨rfl,rfl⟩|⟨r,r',rfl,h2,rfl⟩|⟨r,rfl,h2,rfl⟩
  .cases h with|data h=>exact .data (hm▸h)
  .cases h with
   |data h=>cases h
   |fullNil _ h=>exact .fullNil _ h
   |full a n _ h=>exact .full a n _ (hm▸h)
  .cases h with
   |data h=>cases h
   |nilS _ h=>exact .nilS _ h
  .cases h with
   |data h=>cases h
   |own _ hr' _ _ h hd=>
    refine Ar.own (D:=fun x=>x<ρ.length) r (vv h2) v _ ?_ (hm▸hd);rw[hr r r' (by simp[Cf,h2])];exact h
  .cases h with
   |data h=>cases h
   |nilS _ h=>
    refine Ar.own (D:=fun x=>x<ρ.length) r (vv h2) _ _ ?_ (.nilS _ h);rw[hn r h2];exact⟨rfl,h⟩
 induction h with
 |data h=>
  intro c' hc;have hd:=h;cases h<;>cases c';all_goals first
   |exact hs (.data hd) _ _ hc
   |(simp only[wl,Wo,Wx,Wq,reduceCtorEq,and_false,exists_false,exists_const,false_and] at hc;done)
   |(simp only[wl,Wo,Wx,Wq,reduceCtorEq,and_false,exists_false,exists_const,false_and] at hc;cases hc;exact .data (hm▸hd))
 |agg vs cs hl h1 h ih=>
  intro c' hc;cases c';case slice sp l'=>exact hs (.agg vs cs hl h1 h) sp l' hc
  all_goals simp only[wl,Wo,Wx,Wq,reduceCtorEq,and_false,exists_false,exists_const,false_and,V.agg.injEq,exists_eq_right] at hc
  case agg cs'=>
   have hll:=yo hc;refine .agg vs cs' (by omega) h1 fun i v c' hv hc'=> ?_;obtain⟨y,hy⟩:=Ax hll hc';exact ih i v y hv hy c' (x9 hc i c' y hc' hy)
 |AD vs cs hl h ih=>
  intro c' hc;cases c';case slice sp l'=>exact hs (.AD vs cs hl h) sp l' hc
  all_goals simp only[wl,Wo,Wx,Wq,reduceCtorEq,and_false,exists_false,exists_const,false_and,V.AD.injEq,exists_eq_right] at hc
  case AD cs'=>
   have hll:=yo hc;refine .AD vs cs' (by omega) fun i v c' hv hc'=> ?_;obtain⟨y,hy⟩:=Ax hll hc';exact ih i v y hv hy c' (x9 hc i c' y hc' hy)
 |nil=>
  intro c' hc;cases c';case slice sp l'=>exact hs (.nil) sp l' hc
  all_goals simp only[wl,Wo,Wx,Wq,reduceCtorEq,and_false,exists_false,exists_const,false_and] at hc
  case nil=>exact .nil
 |fullNil l h=>
  intro c' hc;cases c';case slice sp l'=>exact hs (.fullNil l h) sp l' hc
  all_goals simp only[wl,Wo,Wx,Wq,reduceCtorEq,and_false,exists_false,exists_const,false_and] at hc
 |nilS l h=>
  intro c' hc;cases c';case slice sp l'=>exact hs (.nilS l h) sp l' hc
  all_goals simp only[wl,Wo,Wx,Wq,reduceCtorEq,and_false,exists_false,exists_const,false_and] at hc
 |full a n l h=>
  intro c' hc;cases c';case slice sp l'=>exact hs (.full a n l h) sp l' hc
  all_goals simp only[wl,Wo,Wx,Wq,reduceCtorEq,and_false,exists_false,exists_const,false_and] at hc
 |own r hr' v l h hd=>
  intro c' hc;cases c';case slice sp l'=>exact hs (Ar.own r hr' v l h hd) sp l' hc
  all_goals simp only[wl,Wo,Wx,Wq,reduceCtorEq,and_false,exists_false,exists_const,false_and] at hc
 |addr b off cs f h1 hc1 h2=>
  intro c' hc;cases c';case slice sp l'=>exact hs (.addr b off cs f h1 hc1 h2) sp l' hc
  all_goals simp only[wl,Wo,Wx,Wq,reduceCtorEq,and_false,exists_false,exists_const,false_and,V.addr.injEq] at hc
  case addr cs'=>subst hc;exact .addr b off cs' f (by rw[hm];exact h1) hc1 (fun j c hj=>by rw[hm];exact h2 j c hj)
 |ptr n off hn=>
  intro c' hc;cases c';case slice sp l'=>exact hs (.ptr n off hn) sp l' hc
  all_goals simp only[wl,Wo,Wx,Wq,reduceCtorEq,and_false,exists_false,exists_const,false_and,V.ptr.injEq] at hc
  case ptr n' off'=>
   obtain⟨x,hx,rfl,rfl⟩:=hc;rw[<-hb _ _ hx];exact .ptr _ _ (hlt hx)
 |arr n len sz cap hn hcap hrw=>
  intro c' hc;cases c';case slice sp l'=>exact hs (.arr n len sz cap hn hcap hrw) sp l' hc
  all_goals simp only[wl,Wo,Wx,Wq,reduceCtorEq,and_false,exists_false,exists_const,false_and,V.arr.injEq] at hc
  case arr n' len' sz'=>
   obtain⟨x,hx,rfl,rfl,rfl⟩:=hc;rw[<-hb _ _ hx];exact .arr _ _ _ _ (hlt hx) hcap (by rw[hr _ _ hx,hb _ _ hx];exact hrw)
 |mp n hn=>
  intro c' hc;cases c';case slice sp l'=>exact hs (.mp n hn) sp l' hc
  all_goals simp only[wl,Wo,Wx,Wq,reduceCtorEq,and_false,exists_false,exists_const,false_and,V.mp.injEq] at hc
  case mp n'=>
   obtain⟨x,hx,rfl⟩:=hc;rw[<-hb _ _ hx];exact .mp _ (hlt hx)
 |nilp=>
  intro c' hc;cases c';case slice sp l'=>exact hs (.nilp) sp l' hc
  all_goals simp only[wl,Wo,Wx,Wq,reduceCtorEq,and_false,exists_false,exists_const,false_and] at hc
  case nilp=>exact .nilp
 |fn f fi caps fi' caps' hl hl' h h' ih ih'=>
  intro c' hc;cases c';case slice sp l'=>exact hs (Ar.fn f fi caps fi' caps' hl hl' h h') sp l' hc
  all_goals simp only[wl,Wo,Wx,Wq,reduceCtorEq,and_false,exists_false,exists_const,false_and,V.fn.injEq] at hc
  case fn f1 fi1 caps1=>
   obtain⟨x,hx,y,hy,rfl,rfl,rfl⟩:=hc;have l1:=yo hx;have l2:=yo hy;refine .fn f1 fi caps fi1 caps1 (by omega) (by omega) (fun i v c' hv hc'=> ?_) (fun i v c' hv hc'=> ?_)
   .obtain ⟨z,hz⟩:=Ax l1 hc';exact ih i v z hv hz c' (x9 hx i c' z hc' hz)
   .obtain ⟨z,hz⟩:=Ax l2 hc';exact ih' i v z hv hz c' (x9 hy i c' z hc' hz)
 |nilf=>
  intro c' hc;cases c';case slice sp l'=>exact hs (.nilf) sp l' hc
  all_goals simp only[wl,Wo,Wx,Wq,reduceCtorEq,and_false,exists_false,exists_const,false_and] at hc
  case nilf=>exact .nilf
 |raw v=>
  intro c' hc;cases c';case slice sp l'=>exact hs (.raw v) sp l' hc
  all_goals simp only[wl,Wo,Wx,Wq,reduceCtorEq,and_false,exists_false,exists_const,false_and,V.raw.injEq] at hc
  case raw v'=>subst hc;exact .raw _
theorem Ar.ren{ρ:List (Option Nat)}{g g2:Gh}{D D2:Nat->Prop}{w:World}{v:Value}{c':V}(h:Ar g2 D2 w v c')(hm:g2.m=g.m)
 (hb:∀n n',Cf ρ n=some n'->g2.blk n=g.blk n'/\D n') (hr:∀n n',Cf ρ n=some n'->g2.row n=g.row n') (hall:∀n,C1 ρ n≠some none):
 ∀c,wl ρ c'=some c->Ar g D w v c:=by
 induction h with
 |data h=>
  intro c hc;have hd:=h;cases h<;>simp only[wl,Wq] at hc<;>subst hc<;>exact .data (hm▸hd)
 |agg vs cs hl h1 _ ih=>
  intro c hc;simp only[wl,Wo] at hc;obtain⟨cs2,hc,rfl⟩:=hc;have hll:=yo hc;refine .agg vs cs2 (by omega) h1 fun i v c hv hc'=> ?_;obtain⟨y,hy⟩:=Ax hll.symm hc';exact ih i v y hv hy c (x9 hc i y c hy hc')
 |AD vs cs hl _ ih=>
  intro c hc;simp only[wl,Wo] at hc;obtain⟨cs2,hc,rfl⟩:=hc;have hll:=yo hc;refine .AD vs cs2 (by omega) fun i v c hv hc'=> ?_;obtain⟨y,hy⟩:=Ax hll.symm hc';exact ih i v y hv hy c (x9 hc i y c hy hc')
 |nil=>intro c hc;simp only[wl,Wq] at hc;subst hc;exact .nil
 |fullNil l h=>intro c hc;simp only[wl,Wq] at hc;subst hc;exact .fullNil l h
 |nilS l h=>intro c hc;simp only[wl,Wq] at hc;subst hc;exact .nilS l h
 |full a n l h=>intro c hc;simp only[wl,Wq] at hc;subst hc;exact .full a n l (hm▸h)
 |own r hr' v l h hd=>
  intro c hc;rcases Ub hc with⟨h1,_⟩|⟨h1,_⟩|⟨h1,_⟩|⟨r1,r',h1,h2,rfl⟩|⟨r1,h1,h2,rfl⟩
  .cases h1
  .cases h1
  .cases h1
  .cases h1;have hx:Cf ρ r=some r':=by simp[Cf,h2]
   exact .own _ (hb _ _ hx).2 v l (by rw[<-hr _ _ hx];exact h) (hm▸hd)
  .exact absurd h2 (hall _)
 |addr b off cs f h1 hc1 h2=>
  intro c hc;simp only[wl,Wq] at hc;subst hc;exact .addr b off cs f (by rw[<-hm];exact h1) hc1 (fun j c hj=>by rw[<-hm];exact h2 j c hj)
 |ptr n off hn=>
  intro c hc;simp only[wl,Wo] at hc;obtain⟨x,hx,rfl⟩:=hc;rw[(hb _ _ hx).1];exact .ptr _ _ (hb _ _ hx).2
 |arr n len sz cap hn hcap hrw=>
  intro c hc;simp only[wl,Wo] at hc;obtain⟨x,hx,rfl⟩:=hc;rw[(hb _ _ hx).1];exact .arr _ _ _ _ (hb _ _ hx).2 hcap (by rw[<-(hb _ _ hx).1,<-hr _ _ hx];exact hrw)
 |mp n hn=>
  intro c hc;simp only[wl,Wo] at hc;obtain⟨x,hx,rfl⟩:=hc;rw[(hb _ _ hx).1];exact .mp _ (hb _ _ hx).2
 |nilp=>intro c hc;simp only[wl,Wq] at hc;subst hc;exact .nilp
 |fn f fi caps fi' caps' hl hl' _ _ ih ih'=>
  intro c hc;simp only[wl,Wx,Wo] at hc;obtain⟨x,hx,y,hy,rfl⟩:=hc;have l1:=yo hx;have l2:=yo hy;refine .fn f fi caps x y (by omega) (by omega) (fun i v c hv hc'=> ?_) (fun i v c hv hc'=> ?_)
  .obtain ⟨z,hz⟩:=Ax l1.symm hc';exact ih i v z hv hz c (x9 hx i z c hz hc')
  .obtain ⟨z,hz⟩:=Ax l2.symm hc';exact ih' i v z hv hz c (x9 hy i z c hz hc')
 |nilf=>intro c hc;simp only[wl,Wq] at hc;subst hc;exact .nilf
 |raw v=>intro c hc;simp only[wl,Wq] at hc;subst hc;exact .raw _
abbrev AF:=List (Nat×V)
def AF.get:AF->Nat->Option V
 |[],_=>none
 |p::l,n=>bif Nat.beq p.1 n then some p.2 else AF.get l n
def AF.put(a:AF)(d:Option Nat)(v:V):AF:=match d with|some d=>(d,v)::a|none=>a
theorem AF.Be(m:Nat)(e:V)(es:AF)(n:Nat):AF.get ((m,e)::es) n=if m=n then some e else AF.get es n:=by
 show(bif Nat.beq m n then some e else AF.get es n)=_;by_cases h:m=n
 .subst h;simp
 .simp[Ky h,h]
inductive TD where
 |int (k:IntKind)|bool|str|other
 |strct (fs:List (Nat×Nat×Bool))
 |arr (n esz:Nat) (eagg:Bool)
 |slc (c:Option EC) (esz bytes:Nat)
structure TI where
 size:Nat
 zero:List V
 desc:TD
def I4:List Value->List V->Bool
 |[],[]=>true
 |v::vs,c::cs=>(match v,c with
  | .int k n,.int k' n'=>decide (k=k')&&decide (n=n')
  | .bool b,.bool b'=>decide (b=b')
  | .string s,.str s'=>decide (s=s')
  | .slice none 0 0,.slice .nil l=>Nat.beq l.len 0
  | .pointer none,.nilp=>true
  | .nilFunc,.nilf=>true
  | .map none,.raw (.map none)=>true
  | .nilIface,.raw .nilIface=>true
  |_,_=>false)&&I4 vs cs
 |_,_=>false
def KJ(P:Program)(t:TypeId):Option Bool:=
 match P.underlying t with
 |some (.struct _)|some (.array _ _)=>some true
 |some _=>some false
 |none=>none
def JE(P:Program)(t:TypeId)(n:Nat):Bool:=match P.info? t with|some i=>Nat.beq i.size n|none=>false
def uj(P:Program):List Field->List (Nat×Nat×Bool)->Bool
 |[],[]=>true
 |f::fs,g::gs=>Nat.beq f.offset g.1&&JE P f.type g.2.1&&Nat.blt 0 g.2.1&&(match KJ P f.type with|some b=>decide (b=g.2.2)|none=>false)&&uj P fs gs
 |_,_=>false
def N6(P:Program)(e:TypeId)(esz bytes:Nat):Bool:=
 match P.info? e with
 |some i=>Nat.beq i.size esz&&Nat.beq i.bytes bytes&&(match i.zero with|some z=>Nat.beq z.cells.size esz|none=>false)
 |none=>false
def LK(c:Option EC)(sz:Nat):Bool:=match c with|some c=>Nat.beq c.cells sz|none=>true
def Kl(P:Program)(t:TypeId)(i:TI):Bool:=
 (match P.info? t with
  |some inf=>Nat.beq inf.size i.size&&(match inf.zero with|some z=>I4 z.cells.toList i.zero|none=>false)
  |none=>false)&&
 (match P.underlying t,i.desc with
  |some (.int k),.int k'=>decide (k=k')
  |some .bool,.bool=>true
  |some .string,.str=>true
  |some (.struct fs),.strct gs=>uj P fs.toList gs
  |some (.array n e),.arr n' esz eagg=>Nat.beq n n'&&JE P e esz&&Nat.blt 0 esz&&(match KJ P e with|some b=>decide (b=eagg)|none=>false)
  |some (.slice e),.slc c esz bytes=>N6 P e esz bytes&&Nat.blt 0 esz&&LK c esz
  |some d,.other=>(match d with| .struct _| .array _ _| .slice _=>false|_=>true)
  |_,_=>false)
def M4:List (TypeId×TI)->TypeId->Option TI
 |[],_=>none
 |p::l,t=>bif Nat.beq p.1 t then some p.2 else M4 l t
structure Env where
 P:Program
 G:Dm
 Ku:List (TypeId×TI)
 ok:Ku.all (fun p=>Kl P p.1 p.2)=true
def Env.ti(E:Env)(t:TypeId):Option TI:=M4 E.Ku t
theorem Zv3{l:List (TypeId×TI)}{t:TypeId}{i:TI}(h:M4 l t=some i):(t,i)∈l:=by
 induction l with
 |nil=>cases h
 |cons p l ih=>
  simp only[M4] at h;cases hb:Nat.beq p.1 t with
  |true=>
   rw[hb] at h;simp only[cond_true,Wq] at h;have:=WK hb;subst h;subst this;exact Yo
  |false=>rw[hb] at h;exact Yb _ (ih h)
theorem Env.HC{E:Env}{t:TypeId}{i:TI}(h:E.ti t=some i):Kl E.P t i=true:=
 Wm.1 E.ok _ (Zv3 h)
def zc(E:Env)(T:TypeId):Value->V
 | .int k n=> .int k n
 | .bool b=> .bool b
 | .string s=> .str s
 | .slice none 0 0=>match E.ti T with
   |some ⟨_,_,.slc (some c) _ _⟩=> .slice .nil (.t c [])
   |some ⟨_,_,.slc none sz _⟩=> .slice .nil (.u sz [])
   |_=> .nil
 | .pointer none=> .nilp
 | .nilFunc=> .nilf
 |v=> .raw v
def NZ:Dm->Nat->Option (List V)
 |[],_=>none
 |p::l,n=>bif Nat.beq p.1 n then some p.2 else NZ l n
def ev(E:Env)(T:TypeId)(a:AF):Operand->Option V
 | .tmp t=>a.get t
 | .const v=>some (zc E T v)
 | .global n=>(NZ E.G n).map .addr
 | .func f=>some (.fn (.func f) [] [])
structure BA (g:Gh) (D:Nat->Prop) (w:World) (N:Nat) (act:Act) (a:AF):Prop where
 size:act.tmps.size=N
 defers:act.defers=[]
 vals:∀t c,a.get t=some c->∃v,act.tmps[t]? =some v/\Ar g D w v c
theorem BA.ext{D D':Nat->Prop}{g g':Gh}{F F':Nat->Prop}{w w':World}{N:Nat}{act:Act}{a:AF}(h:BA g D w N act a)(e:Ext D g F w g' F' w')(hn:∀n,D n->D' n):BA g' D' w' N act a:=
 ⟨h.size,h.defers,fun t c hc=>let ⟨v,h1,h2⟩:=h.vals t c hc;⟨v,h1,h2.ext e hn⟩⟩
theorem BA.put{g:Gh}{D:Nat->Prop}{w:World}{N:Nat}{act:Act}{a:AF}(h:BA g D w N act a){d:Option Nat}(hd:∀t,d=some t->t<N){v:Value}{c:V}(hv:Ar g D w v c):
 BA g D w N (act.put d v) (a.put d c):=by
 cases d with
 |none=>exact h
 |some d=>
  have hd:=hd d rfl;refine⟨by simp[Act.put,h.size],h.defers,fun t c' hc=> ?_⟩;simp only[AF.put,AF.Be] at hc;by_cases ht:d=t
  .subst ht;simp only[if_true,Wq] at hc;subst hc;refine⟨v,?_,hv⟩;simp[Act.put,Xk,h.size,hd]
  .simp only[ht,if_false] at hc;obtain⟨v',h1,h2⟩:=h.vals t c' hc;exact⟨v',by simp[Act.put,Xk,ht,h1],h2⟩
theorem Zs7(E:Env)(T:TypeId)(v:Value)(g:Gh)(D:Nat->Prop)(w:World):Ar g D w v (zc E T v):=by
 unfold zc;split
 .exact .data (.int _ _)
 .exact .data (.bool _)
 .exact .data (.str _)
 .split
  .exact .nilS _ rfl
  .exact .nilS _ rfl
  .exact .nil
 .exact .nilp
 .exact .nilf
 .exact .raw _
theorem Zv6{l:Dm}{t:Nat}{i:List V}(h:NZ l t=some i):(t,i)∈l:=by
 induction l with
 |nil=>cases h
 |cons p l ih=>
  simp only[NZ] at h;cases hb:Nat.beq p.1 t with
  |true=>
   rw[hb] at h;simp only[cond_true,Wq] at h;have:=WK hb;subst h;subst this;exact Yo
  |false=>rw[hb] at h;exact Yb _ (ih h)
theorem z8{E:Env}{T:TypeId}{a:AF}{x:Operand}{c:V}(h:ev E T a x=some c){g:Gh}{D:Nat->Prop}{es:Es}{w:World}{N:Nat}{act:Act}
 (hR:R E.G g D es w) (hF:BA g D w N act a):Ar g D w (act.eval x) c:=by
 cases x with
 |tmp t=>
  obtain⟨v,h1,h2⟩:=hF.vals t c h;have:act.eval (.tmp t)=v:=by simp[Act.eval,WV,h1]
  rw[this];exact h2
 |const v=>cases h;exact Zs7 ..
 |global n=>
  simp only[ev,Wo] at h;obtain⟨cs,h1,rfl⟩:=h;obtain⟨h2,h3⟩:=hR.Et _ (Zv6 h1);have h4:∀j,∃v,∀c,cs[j]? =some c->w.cell? ⟨n,j,none⟩=some v/\A6 g.m w v c:=by
   intro j;cases hj:cs[j]? with
   |none=>exact⟨undef,fun c hc=>by cases hc⟩
   |some c=>
    obtain⟨v,h5,h6⟩:=h3 j c hj;exact⟨v,fun c' hc=>by cases hc;exact⟨h5,h6⟩⟩
  obtain⟨f,hf⟩:=Classical.axiomOfChoice h4;refine .addr n 0 cs f (by simpa using h2) (fun j hj=> ?_) (fun j c hj=>(hf j c hj).2);rw[Xg];exact(hf j _ (Wl hj)).1
 |func f=>cases h;exact .fn (.func f) [] [] [] [] rfl rfl (fun i v c h=>by simp at h) (fun i v c h=>by simp at h)
structure Aq where
 nx:Nat
 es:Es
def Post(E:Env)(N k:Nat)(g:Gh)(F:Nat->Prop)(w:World)(Q:Exit->AF->Aq->Prop)(e:Exit)(act':Act)(w':World):Prop:=
 ∃g' a' σ',Q e a' σ'/\k<=σ'.nx/\R E.G g' (·<σ'.nx) σ'.es w'/\BA g' (·<σ'.nx) w' N act' a'/\Ext (·<k) g F w g' (Az g' σ'.es) w'
structure AW (E:Env) (N k:Nat) (c:Code) (a:AF) (σ:Aq) (Q:Exit->AF->Aq->Prop):Prop where
 run:k<=σ.nx->∀g w act,R E.G g (·<σ.nx) σ.es w->BA g (·<σ.nx) w N act a->c.wp E.P (Post E N k g (Az g σ.es) w Q) act w
def HR(E:Env)(N k:Nat)(y:Code)(Q:Exit->AF->Aq->Prop):Exit->AF->Aq->Prop
 | .normal,a,σ=>AW E N k y a σ Q
 |e,a,σ=>Q e a σ
def ub(id:Nat)(Q:Exit->AF->Aq->Prop):Exit->AF->Aq->Prop
 | .exit id',a,σ=>bif Nat.beq id' id then Q .normal a σ else Q (.exit id') a σ
 |e,a,σ=>Q e a σ
section
variable {E:Env} {N k:Nat} {a:AF} {σ:Aq} {Q:Exit->AF->Aq->Prop}
theorem Post.later{g g':Gh}{F F':Nat->Prop}{w w':World}{e:Exit}{act:Act}{w'':World}(h:Post E N k g' F' w' Q e act w'')(x:Ext (·<k) g F w g' F' w'):Post E N k g F w Q e act w'':=
 let ⟨g2,a2,σ2,h1,h2,h3,h4,h5⟩:=h;⟨g2,a2,σ2,h1,h2,h3,h4,x.trans h5⟩
theorem AW.seq{x y:Code}(h:AW E N k x a σ (HR E N k y Q)):AW E N k (.seq x y) a σ Q:=by
 constructor;intro hk g w act hR hF;refine wp_seq (wp_mono (h.run hk g w act hR hF) ?_);rintro e act1 w1 ⟨g1,a1,σ1,hq,hk1,hR1,hF1,hx⟩;cases e with
 |normal=>exact wp_mono (AW.run hq hk1 g1 w1 act1 hR1 hF1) (fun e act2 w2 hp=>hp.later hx)
 |exit id=>exact⟨g1,a1,σ1,hq,hk1,hR1,hF1,hx⟩
 |goto l=>exact⟨g1,a1,σ1,hq,hk1,hR1,hF1,hx⟩
 |ret=>exact⟨g1,a1,σ1,hq,hk1,hR1,hF1,hx⟩
 |panic ch=>exact⟨g1,a1,σ1,hq,hk1,hR1,hF1,hx⟩
 |outgrown=>exact⟨g1,a1,σ1,hq,hk1,hR1,hF1,hx⟩
theorem AW.mono{c:Code}{Q':Exit->AF->Aq->Prop}(h:AW E N k c a σ Q)(hq:∀e a σ,Q e a σ->Q' e a σ):AW E N k c a σ Q':=by
 constructor;intro hk g w act hR hF;refine wp_mono (h.run hk g w act hR hF) ?_;rintro e act1 w1 ⟨g1,a1,σ1,h1,h2⟩;exact⟨g1,a1,σ1,hq _ _ _ h1,h2⟩
theorem AW.skip(h:Q .normal a σ):AW E N k .skip a σ Q:=
 ⟨fun hk g w act hR hF=>wp_skip ⟨g,a,σ,h,hk,hR,hF,.refl ..⟩⟩
theorem AW.ret(h:Q .ret a σ):AW E N k .ret a σ Q:=
 ⟨fun hk g w act hR hF=>wp_ret ⟨g,a,σ,h,hk,hR,hF,.refl ..⟩⟩
theorem AW.exit{id:Nat}(h:Q (.exit id) a σ):AW E N k (.exit id) a σ Q:=
 ⟨fun hk g w act hR hF=>wp_exit ⟨g,a,σ,h,hk,hR,hF,.refl ..⟩⟩
theorem AW.block{id:Nat}{c:Code}(h:AW E N k c a σ (ub id Q)):AW E N k (.block id c) a σ Q:=by
 constructor;intro hk g w act hR hF;refine wp_block (wp_mono (h.run hk g w act hR hF) ?_);rintro e act1 w1 ⟨g1,a1,σ1,hq,h2⟩;cases e with
 |exit id'=>
  simp only[Exit.inBlock];by_cases hi:id'=id
  .subst hi;simp only[ub,Y6,cond_true] at hq;rw[if_pos rfl];exact⟨g1,a1,σ1,hq,h2⟩
  .simp only[ub,Ky hi,cond_false] at hq;rw[if_neg hi];exact⟨g1,a1,σ1,hq,h2⟩
 |normal=>exact⟨g1,a1,σ1,hq,h2⟩
 |goto l=>exact⟨g1,a1,σ1,hq,h2⟩
 |ret=>exact⟨g1,a1,σ1,hq,h2⟩
 |panic ch=>exact⟨g1,a1,σ1,hq,h2⟩
 |outgrown=>exact⟨g1,a1,σ1,hq,h2⟩
theorem AW.cond{c:Operand}{x y:Code}{b:Bool}(hc:ev E 0 a c=some (.bool b))(ht:b=true->AW E N k x a σ Q)(hf:b=false->AW E N k y a σ Q):AW E N k (.cond c x y) a σ Q:=by
 constructor;intro hk g w act hR hF;have hv:=z8 hc hR hF;have hb:act.eval c= .bool b:=by
  generalize act.eval c=v at hv;cases hv with
  |data h=>cases h;rfl
 exact wp_cond_split hb (fun h=>(ht h).run hk g w act hR hF) (fun h=>(hf h).run hk g w act hR hF)
theorem AW.B4{c:Operand}{x y:Code}(hc:ev E 0 a c=some (.bool true))(ht:AW E N k x a σ Q):AW E N k (.cond c x y) a σ Q:=
 .cond hc (fun _=>ht) (fun h=>by cases h)
theorem AW.B6{c:Operand}{x y:Code}(hc:ev E 0 a c=some (.bool false))(hf:AW E N k y a σ Q):AW E N k (.cond c x y) a σ Q:=
 .cond hc (fun h=>by cases h) (fun _=>hf)
def Bi(E:Env)(N k:Nat)(a:AF)(σ:Aq)(a2:AF)(σ2:Aq):Prop:=
 k<=σ.nx->k<=σ2.nx/\∀g w act,R E.G g (·<σ.nx) σ.es w->BA g (·<σ.nx) w N act a->
  ∃g2,R E.G g2 (·<σ2.nx) σ2.es w/\BA g2 (·<σ2.nx) w N act a2/\Ext (·<k) g (Az g σ.es) w g2 (Az g2 σ2.es) w
theorem Bi.refl:Bi E N k a σ a σ:=fun hk=>⟨hk,fun g w act hR hF=>⟨g,hR,hF,.refl ..⟩⟩
theorem AW.weak{a2:AF}{σ2:Aq}{c:Code}(h:Bi E N k a σ a2 σ2)(h2:AW E N k c a2 σ2 Q):AW E N k c a σ Q:=by
 constructor;intro hk g w act hR hF;obtain⟨hk2,hw⟩:=h hk;obtain⟨g2,hR2,hF2,hx⟩:=hw g w act hR hF;exact wp_mono (h2.run hk2 g2 w act hR2 hF2) (fun e act2 w2 hp=>hp.later hx)
def Ls(E:Env)(N k:Nat){ι:Type}(J:ι->AF×Aq)(μ:ι->Nat)(i:ι)(Q:Exit->AF->Aq->Prop):Exit->AF->Aq->Prop
 | .normal,a,σ=>∃j,μ j<μ i/\Bi E N k a σ (J j).1 (J j).2
 |e,a,σ=>Q e a σ
theorem AW.loop{ι:Type}{c:Code}(J:ι->AF×Aq)(μ:ι->Nat)(i₀:ι)(h₀:Bi E N k a σ (J i₀).1 (J i₀).2)
 (h:∀i,AW E N k c (J i).1 (J i).2 (Ls E N k J μ i Q)):AW E N k (.loop c) a σ Q:=by
 refine AW.weak h₀ ?_;constructor;intro hk g w act hR hF;refine wp_loop_ghost (fun n act' w'=>∃i g',μ i=n/\k<=(J i).2.nx/\R E.G g' (·<(J i).2.nx) (J i).2.es w'/\BA g' (·<(J i).2.nx) w' N act' (J i).1/\Ext (·<k) g (Az g (J i₀).2.es) w g' (Az g' (J i).2.es) w')
  (μ i₀) ⟨i₀,g,rfl,hk,hR,hF,.refl ..⟩ ?_
 rintro n act1 w1 ⟨i,g1,rfl,hk1,hR1,hF1,hx1⟩;refine wp_mono ((h i).run hk1 g1 w1 act1 hR1 hF1) ?_;rintro e act2 w2 ⟨g2,a2,σ2,hq,hk2,hR2,hF2,hx2⟩;cases e with
 |normal=>
  obtain⟨j,hj,hJ⟩:=hq;obtain⟨hk3,hJ⟩:=hJ hk2;obtain⟨g3,hR3,hF3,hx3⟩:=hJ g2 w2 act2 hR2 hF2;exact⟨μ j,hj,j,g3,rfl,hk3,hR3,hF3,(hx1.trans hx2).trans hx3⟩
 |exit id=>exact⟨g2,a2,σ2,hq,hk2,hR2,hF2,hx1.trans hx2⟩
 |goto l=>exact⟨g2,a2,σ2,hq,hk2,hR2,hF2,hx1.trans hx2⟩
 |ret=>exact⟨g2,a2,σ2,hq,hk2,hR2,hF2,hx1.trans hx2⟩
 |panic ch=>exact⟨g2,a2,σ2,hq,hk2,hR2,hF2,hx1.trans hx2⟩
 |outgrown=>exact⟨g2,a2,σ2,hq,hk2,hR2,hF2,hx1.trans hx2⟩
end
def Ao(c c':V):Prop:=∀g D w v,Ar g D w v c->Ar g D w v c'
theorem Ao.refl(c:V):Ao c c:=fun _ _ _ _ h=>h
theorem Ao.of_eq{c c':V}(h:c=c'):Ao c c':=h▸ .refl c
theorem Ao.any(sp:Sp)(l:SL V):Ao (.slice sp l) (.slice .any l):=by
 intro g D w v h;cases h with
 |data h=>cases h with
  |nilS _ h=>exact .data (.nilS _ h)
  |emp _ h a cap=>exact .data (.emp _ h a cap)
  |slice _ b off cap f h1 h2 h3 h4 h5=>exact .data (.slice _ b off cap f h1 h2 h3 h4 h5)
 |fullNil _ h=>exact .data (.nilS _ h)
 |nilS _ h=>exact .data (.nilS _ h)
 |full a n _ h=>exact .data h
 |own r hr _ _ h hd=>exact .data hd
def Bp:List V->List V->Prop
 |[],[]=>True
 |c::cs,c'::cs'=>Ao c c'/\Bp cs cs'
 |_,_=>False
theorem Bp.len:∀{cs cs':List V},Bp cs cs'->cs.length=cs'.length:=by
 intro cs;induction cs with
 |nil=>intro cs' h;cases cs' with|nil=>rfl|cons=>exact h.elim
 |cons c l ih=>intro cs' h;cases cs' with|nil=>exact h.elim|cons c' l'=>simp[ih h.2]
theorem Bp.nth:∀{cs cs':List V},Bp cs cs'->∀(i:Nat) c',cs'[i]? =some c'->∃c,cs[i]? =some c/\Ao c c':=by
 intro cs;induction cs with
 |nil=>intro cs' h i c' hc;cases cs' with|nil=>simp at hc|cons=>exact h.elim
 |cons c l ih=>
  intro cs' h i c' hc;cases cs' with
  |nil=>exact h.elim
  |cons d l'=>
   cases i with
   |zero=>simp at hc;subst hc;exact⟨c,rfl,h.1⟩
   |succ i=>simp at hc;exact ih h.2 i c' hc
theorem Bp.refl:∀cs:List V,Bp cs cs
 |[]=>trivial
 |c::cs=>⟨.refl c,Bp.refl cs⟩
theorem Ao.agg{cs cs':List V}(h:Bp cs cs'):Ao (.agg cs) (.agg cs'):=by
 intro g D w v hv;cases hv with
 |data h=>cases h
 |agg vs _ hl h1 hr=>
  refine .agg vs cs' (hl.trans h.len) h1 fun i v c' hv hc=> ?_;obtain⟨c,hc1,hc2⟩:=h.nth i c' hc;exact hc2 _ _ _ _ (hr i v c hv hc1)
theorem Ao.AD{cs cs':List V}(h:Bp cs cs'):Ao (.AD cs) (.AD cs'):=by
 intro g D w v hv;cases hv with
 |data h=>cases h
 |AD vs _ hl hr=>
  refine .AD vs cs' (hl.trans h.len) fun i v c' hv hc=> ?_;obtain⟨c,hc1,hc2⟩:=h.nth i c' hc;exact hc2 _ _ _ _ (hr i v c hv hc1)
theorem Q9(ρ:List (Option Nat))(c:EC)(x:c.sem):wl ρ (FC c x)=some (FC c x):=by cases c<;>rfl
def K5(ρ:List (Option Nat))(a:AF):AF->Prop
 |[]=>True
 |p::l=>(∃c,wl ρ p.2=some c/\∃c0,a.get p.1=some c0/\Ao c0 c)/\K5 ρ a l
def Dz(ρ:List (Option Nat))(es:Es):Es->Prop
 |[]=>True
 |p::l=>(match p.2 with
  | .var cs=>∃m,Cf ρ p.1=some m/\∃cs1,xz ρ cs=some cs1/\∃cs0,zl es m=some (.var cs0)/\Bp cs0 cs1
  | .map c ks xs=>∃m,Cf ρ p.1=some m/\∃ks0 xs0,zl es m=some (.map c ks0 xs0)/\ks0=ks/\xs0=xs
  | .row=>C1 ρ p.1=some none\/∃m,Cf ρ p.1=some m/\zl es m=some .row
  | .gone=>Nat.blt p.1 ρ.length=true)/\Dz ρ es l
def Ga:Nat->Nat->List (Option Nat)->Bool
 |_,0,_=>true
 |i,n+1,some m::l=>Nat.beq m i&&Ga (i+1) n l
 |_,_,_=>false
def yc:List (Option Nat)->Bool
 |[]=>true
 |none::l=>yc l
 |some m::l=>(l.all fun x=>match x with|some m'=> !Nat.beq m m'|none=>true)&&yc l
def below(nx:Nat)(ρ:List (Option Nat)):Bool:=ρ.all fun x=>match x with|some m=>Nat.blt m nx|none=>true
theorem PZ:∀(n i:Nat) (ρ:List (Option Nat)),Ga i n ρ=true->∀j,j<n->C1 ρ j=some (some (i+j)):=by
 intro n;induction n with
 |zero=>intro i ρ _ j hj;omega
 |succ n ih=>
  intro i ρ h j hj;cases ρ with
  |nil=>simp[Ga] at h
  |cons x l=>
   cases x with
   |none=>simp[Ga] at h
   |some m=>
    simp only[Ga,Wk] at h;have hm:=WK h.1;cases j with
    |zero=>simp[C1,hm]
    |succ j=>
     have:=ih (i+1) l h.2 j (by omega);simp only[C1];rw[this];congr 2;omega
theorem VT:∀{ρ:List (Option Nat)} {n x},C1 ρ n=some x->x∈ρ:=by
 intro ρ;induction ρ with
 |nil=>intro n x h;cases h
 |cons y l ih=>
  intro n x h;cases n with
  |zero=>simp[C1] at h;subst h;exact Yo
  |succ n=>exact Yb _ (ih h)
theorem Tu:∀{ρ:List (Option Nat)},yc ρ=true->∀n n' m,C1 ρ n=some (some m)->C1 ρ n'=some (some m)->n=n':=by
 intro ρ;induction ρ with
 |nil=>intro _ n n' m h;cases h
 |cons y l ih=>
  intro h n n' m h1 h2;have hd:yc l=true:=by
   cases y with
   |none=>simpa[yc] using h
   |some z=>simp only[yc,Wk] at h;exact h.2
  have hne:∀z,y=some z->∀j,C1 l j≠some (some z):=by
   intro z hz j hj;subst hz;simp only[yc,Wk,Wm] at h;have:=h.1 _ (VT hj);simp at this
  cases n with
  |zero=>
   simp only[C1,Wq] at h1;cases n' with
   |zero=>rfl
   |succ n'=>exact absurd h2 (hne m h1 n')
  |succ n=>
   cases n' with
   |zero=>
    simp only[C1,Wq] at h2;exact absurd h1 (hne m h2 n)
   |succ n'=>exact congrArg (·+1) (ih hd n n' m h1 h2)
theorem Zs4{nx:Nat}{ρ:List (Option Nat)}(h:below nx ρ=true){n m:Nat}(hn:C1 ρ n=some (some m)):m<nx:=by
 have:=Wm.1 h _ (VT hn);simp only[Nat.blt] at this;exact Wz this
theorem K5.get{ρ:List (Option Nat)}{a:AF}:∀{a2:AF},K5 ρ a a2->∀t c2,a2.get t=some c2->∃c,wl ρ c2=some c/\∃c0,a.get t=some c0/\Ao c0 c:=by
 intro a2;induction a2 with
 |nil=>intro _ t c2 h;cases h
 |cons p l ih=>
  intro h t c2 hc;obtain⟨m,e⟩:=p;rw[AF.Be] at hc;by_cases ht:m=t
  .subst ht;simp only[if_true,Wq] at hc;subst hc;exact h.1
  .simp only[ht,if_false] at hc;exact ih h.2 t c2 hc
theorem Dz.get{ρ:List (Option Nat)}{es:Es}:∀{es2:Es},Dz ρ es es2->∀n e2,zl es2 n=some e2->(match e2 with
 | .var cs=>∃m,Cf ρ n=some m/\∃cs1,xz ρ cs=some cs1/\∃cs0,zl es m=some (.var cs0)/\Bp cs0 cs1
 | .map c ks xs=>∃m,Cf ρ n=some m/\∃ks0 xs0,zl es m=some (.map c ks0 xs0)/\ks0=ks/\xs0=xs
 | .row=>C1 ρ n=some none\/∃m,Cf ρ n=some m/\zl es m=some .row
 | .gone=>Nat.blt n ρ.length=true):=by
 intro es2;induction es2 with
 |nil=>intro _ t c2 h;cases h
 |cons p l ih=>
  intro h n e2 hc;obtain⟨m,e⟩:=p;rw[zp] at hc;by_cases ht:m=n
  .subst ht;simp only[if_true,Wq] at hc;subst hc;exact h.1
  .simp only[ht,if_false] at hc;exact ih h.2 n e2 hc
theorem Bi.mk{E:Env}{N k:Nat}{a:AF}{σ:Aq}(ρ:List (Option Nat))(a2:AF)(es2:Es)(nx2:Nat)(hnx:nx2=ρ.length)(hid:Ga 0 k ρ=true)(hd:yc ρ=true)(hb:below σ.nx ρ=true)
 (hf:K5 ρ a a2) (he:Dz ρ σ.es es2):Bi E N k a σ a2 ⟨nx2,es2⟩:=by
 subst hnx;intro hk;have hidk:∀n,n<k->C1 ρ n=some (some n):=fun n hn=>by simpa using PZ k 0 ρ hid n hn
 refine⟨?_,fun g w act hR hF=> ?_⟩
 .show k<=ρ.length;rcases Yp k with h|h
  .omega
  .have:=vv (hidk (k-1) (by omega));omega
 let g2:Gh:={blk:=fun n=>g.blk ((Cf ρ n).getD n),row:=fun n=>match Cf ρ n with|some m=>g.row m|none=>none,m:=g.m}
 have hblk:∀n n',Cf ρ n=some n'->g2.blk n=g.blk n':=fun n n' h=>by simp[g2,h]
 have hrow:∀n n',Cf ρ n=some n'->g2.row n=g.row n':=fun n n' h=>by simp[g2,h]
 have hnone:∀n,C1 ρ n=some none->g2.row n=none:=fun n h=>by simp[g2,Cf,h]
 have hun:∀{v c c2},Ar g (·<σ.nx) w v c->wl ρ c2=some c->Ar g2 (·<ρ.length) w v c2:=fun {v c c2} h hc=>Ar.Fu (g2:=g2) h rfl hblk hrow hnone c2 hc;have hfoot:∀n e2 b,zl es2 n=some e2->e2.AB g2 n=some b->∃m e,Cf ρ n=some m/\zl σ.es m=some e/\e.AB g m=some b:=by
  intro n e2 b h1 h2;have h3:=he.get n e2 h1;cases e2 with
  |var cs=>
   obtain⟨m,hm,cs1,_,cs0,h4,_⟩:=h3;refine⟨m,_,hm,h4,?_⟩;simp only[A2.AB,hblk n m hm] at h2 ⊢;exact h2
  |map c ks xs=>
   obtain⟨m,hm,ks0,xs0,h4,_⟩:=h3;refine⟨m,_,hm,h4,?_⟩;simp only[A2.AB,hblk n m hm] at h2 ⊢;exact h2
  |row=>
   rcases h3 with h3|⟨m,hm,h4⟩
   .simp[A2.AB,hnone n h3] at h2
   .refine ⟨m,_,hm,h4,?_⟩;simp only[A2.AB,hrow n m hm] at h2 ⊢;exact h2
  |gone=>cases h2
 refine⟨g2,⟨?_,?_,?_,hR.fresh,hR.Et⟩,⟨hF.size,hF.defers,?_⟩,?_⟩
 .intro n e h;have h3:=he.get n e h;cases e with
  |var cs=>obtain⟨m,hm,_⟩:=h3;exact vv (w8 hm)
  |map c ks xs=>obtain⟨m,hm,_⟩:=h3;exact vv (w8 hm)
  |row=>
   rcases h3 with h3|⟨m,hm,_⟩
   .exact vv h3
   .exact vv (w8 hm)
  |gone=>exact Wz h3
 .intro n n' e e' b h1 h2 h3 h4;obtain⟨m,d,hm,h5,h6⟩:=hfoot n e b h1 h3;obtain⟨m',d',hm',h7,h8⟩:=hfoot n' e' b h2 h4;have:=hR.Bb m m' d d' b h5 h7 h6 h8;subst this;exact Tu hd n n' m (w8 hm) (w8 hm')
 .intro n e h;have h3:=he.get n e h;cases e with
  |var cs=>
   obtain⟨m,hm,cs1,hc1,cs0,h4,h5⟩:=h3;obtain⟨h6,vs,t,h7,h8,h9,h10,h11⟩:=hR.BW m _ h4;refine⟨by rw[hblk n m hm];exact h6,vs,t,by rw[hblk n m hm];exact h7,?_,h9,?_,by rw[hrow n m hm];exact h11⟩
   .have e1:=h5.len;have e2:=yo hc1;omega
   .intro i v c hv hc;obtain⟨c1,hc2⟩:=Ax (yo hc1) hc;obtain⟨c0,hc3,hc4⟩:=h5.nth i c1 hc2;exact hun (hc4 _ _ _ _ (h10 i v c0 hv hc3)) (x9 hc1 i c c1 hc hc2)
  |map c ks xs=>
   obtain⟨m,hm,ks0,xs0,h4,rfl,rfl⟩:=h3;obtain⟨h6,vs,t,h7,h8,h9,h9',h10⟩:=hR.BW m _ h4;refine⟨by rw[hblk n m hm];exact h6,vs,t,by rw[hblk n m hm];exact h7,h8,h9,h9',?_⟩;intro i v x hv hx;exact hun (h10 i v x hv hx) (Q9 ρ c x)
  |row=>
   intro ρ' hρ';rcases h3 with h3|⟨m,hm,h4⟩
   .rw[hnone n h3] at hρ';cases hρ'
   .rw[hrow n m hm] at hρ';exact hR.BW m _ h4 ρ' hρ'
  |gone=>trivial
 .intro t c2 hc;obtain⟨c,h1,c0,h2,h3⟩:=hf.get t c2 hc;obtain⟨v,hv,hv2⟩:=hF.vals t c0 h2;exact⟨v,hv,hun (h3 _ _ _ _ hv2) h1⟩
 .have hrk:∀n,n<k->Cf ρ n=some n:=fun n hn=>by simp[Cf,hidk n hn]
  refine⟨rfl,rfl,rfl,Wj _,fun _ _ _=>rfl,fun _=>Wj _,fun n hn=>hblk n n (hrk n hn),fun n hn=>hrow n n (hrk n hn),fun _ _ _=>⟨rfl,rfl⟩,?_⟩;rintro b ⟨n,e,h1,h2⟩;obtain⟨m,e',_,h3,h4⟩:=hfoot n e b h1 h2;exact .inl ⟨m,e',h3,h4⟩
theorem GG.mono{g g':Gh}{D D':Nat->Prop}{w w':World}{n:Nat}{e:A2}(h:GG g D w n e)(hn:D n)(hm:∀b,g.m b<=g'.m b)
 (hw:∀b o,o<g.m b->w'.cell? ⟨b,o,none⟩=w.cell? ⟨b,o,none⟩) (hD:∀n,D n->D' n) (hb:∀n,D n->g'.blk n=g.blk n)
 (hr:∀n,D n->g'.row n=g.row n) (hf:∀b,e.AB g n=some b->w'.heap[b]? =w.heap[b]? /\g'.m b=g.m b):GG g' D' w' n e:=by
 cases e with
 |var cs=>
  obtain⟨h1,vs,t,h2,h3,h4,h5,h7⟩:=h;have h6:=hf _ rfl;refine⟨by rw[hb n hn,h6.2];exact h1,vs,t,by rw[hb n hn,h6.1];exact h2,h3,h4,fun i v c hv hc=>(h5 i v c hv hc).mono hm hw hD hb hr,by rw[hr n hn];exact h7⟩
 |map c ks xs=>
  obtain⟨h1,vs,t,h2,h3,h4,h4',h5⟩:=h;have h6:=hf _ rfl;exact⟨by rw[hb n hn,h6.2];exact h1,vs,t,by rw[hb n hn,h6.1];exact h2,h3,h4,h4',fun i v c hv hc=>(h5 i v c hv hc).mono hm hw hD hb hr⟩
 |row=>
  intro ρ hρ;rw[hr n hn] at hρ;obtain⟨cur,t,h1,h2,h3,h4⟩:=h ρ hρ;have h6:=hf ρ.b (by simp[A2.AB,hρ]);exact⟨cur,t,by rw[h6.1];exact h1,h2,by rw[h6.2];exact h3,h4⟩
 |gone=>trivial
theorem R.step{G:Dm}{g g':Gh}{D D':Nat->Prop}{es es':Es}{w w':World}(hR:R G g D es w)(hm:∀b,g.m b<=g'.m b)
 (hw:∀b o,o<g.m b->w'.cell? ⟨b,o,none⟩=w.cell? ⟨b,o,none⟩) (hD:∀n,D n->D' n) (hb:∀n,D n->g'.blk n=g.blk n)
 (hr:∀n,D n->g'.row n=g.row n)
 (hents:∀n e,zl es' n=some e->(zl es n=some e/\∀b,e.AB g n=some b->w'.heap[b]? =w.heap[b]? /\g'.m b=g.m b)\/(D' n/\GG g' D' w' n e))
 (hfoots:∀n n' e e' b,zl es' n=some e->zl es' n'=some e'->e.AB g' n=some b->e'.AB g' n'=some b->n=n')
 (hfresh:∀b,w'.heap.size<=b->g'.m b=0):R G g' D' es' w' where
 lt n e h:=by
  rcases hents n e h with h1|h1
  .exact hD n (hR.lt n e h1.1)
  .exact h1.1
 Bb:=hfoots
 BW n e h:=by
  rcases hents n e h with h1|h1
  .exact (hR.BW n e h1.1).mono (hR.lt n e h1.1) hm hw hD hb hr h1.2
  .exact h1.2
 fresh:=hfresh
 Et p hp:=by
  obtain⟨h1,h2⟩:=hR.Et p hp;refine⟨W8 h1 (hm _),fun j c hc=> ?_⟩;obtain⟨v,h3,h4⟩:=h2 j c hc;exact⟨v,(hw _ _ (by have:=(Ww.1 hc).1;omega)).trans h3,h4.mono hm hw⟩
theorem R.BP{G:Dm}{g:Gh}{D:Nat->Prop}{es:Es}{w:World}(hR:R G g D es w){n:Nat}{e:A2}{b:Nat}(h:zl es n=some e)(hf:e.AB g n=some b):b<w.heap.size:=by
 have he:=hR.BW n e h;cases e with
 |var cs=>
  obtain⟨_,vs,t,h2,_⟩:=he;simp only[A2.AB,Wq] at hf;subst hf;exact(W4.1 h2).1
 |map c ks xs=>
  obtain⟨_,vs,t,h2,_⟩:=he;simp only[A2.AB,Wq] at hf;subst hf;exact(W4.1 h2).1
 |row=>
  simp only[A2.AB,Wo] at hf;obtain⟨ρ,hρ,rfl⟩:=hf;obtain⟨cur,t,h1,_⟩:=he ρ hρ;exact(W4.1 h1).1
 |gone=>cases hf
theorem A2.Ca{g g':Gh}{D:Nat->Prop}{n:Nat}{e:A2}(hn:D n)(hb:∀n,D n->g'.blk n=g.blk n)(hr:∀n,D n->g'.row n=g.row n):e.AB g' n=e.AB g n:=by
 cases e with
 |var cs=>simp[A2.AB,hb n hn]
 |map c ks xs=>simp[A2.AB,hb n hn]
 |row=>simp[A2.AB,hr n hn]
 |gone=>rfl
theorem Oe(w:World)(o:Obj)(b j:Nat)(h:b<w.heap.size):(w.alloc o).cell? ⟨b,j,none⟩=w.cell? ⟨b,j,none⟩:=World.cell?_alloc_lt (w:=w) (o:=o) (a:=⟨b,j,none⟩) h
def Gh.name(g:Gh)(n b:Nat):Gh:={g with blk:=fun i=>if i=n then b else g.blk i}
def Gh.AN(g:Gh)(n b:Nat)(ρ:Option El):Gh:={g with blk:=fun i=>if i=n then b else g.blk i,row:=fun i=>if i=n then ρ else g.row i}
theorem R.G2{G:Dm}{g:Gh}{D:Nat->Prop}{es:Es}{w:World}(hR:R G g D es w){n:Nat}(hn:¬D n)(ρ:Option El){vs:List Value}{cs:List V}(t:TypeId)(hl:cs.length<=vs.length)
 (h1:∀v∈vs,v.oneCell'=true) (h:∀(i:Nat) v c,vs[i]? =some v->cs[i]? =some c->Ar g D w v c) (hρ:∀r,ρ=some r->vs.length=r.cap*r.sz):
 R G (g.AN n w.heap.size ρ) (fun i=>D i\/i=n) ((n,.var cs)::es) (w.alloc (.cells vs.toArray t))/\
 Ext D g (Az g es) w (g.AN n w.heap.size ρ) (Az (g.AN n w.heap.size ρ) ((n,.var cs)::es)) (w.alloc (.cells vs.toArray t)):=by
 have hb:∀i,D i->(g.AN n w.heap.size ρ).blk i=g.blk i:=fun i hi=>by
  have:i≠n:=fun e=>hn (e▸hi);simp[Gh.AN,this]
 have hr:∀i,D i->(g.AN n w.heap.size ρ).row i=g.row i:=fun i hi=>by
  have:i≠n:=fun e=>hn (e▸hi);simp[Gh.AN,this]
 have hcell:∀b o,o<g.m b->(w.alloc (.cells vs.toArray t)).cell? ⟨b,o,none⟩=w.cell? ⟨b,o,none⟩:=fun b o ho=>by
  refine Oe w _ b o ?_;rcases XM b w.heap.size with h|h
  .exact h
  .rw[hR.fresh b h] at ho;omega
 have hm0:g.m w.heap.size=0:=hR.fresh _ (Wj _);have hold:∀i e,i≠n->zl ((n,A2.var cs)::es) i=some e->zl es i=some e:=fun i e hi h=>by
  rw[zp,if_neg (fun e=>hi e.symm)] at h;exact h
 have hfold:∀i e b,zl es i=some e->e.AB (g.AN n w.heap.size ρ) i=some b->e.AB g i=some b/\b<w.heap.size:=fun i e b h1 h2=>by
  rw[A2.Ca (hR.lt i e h1) hb hr] at h2;exact⟨h2,hR.BP h1 h2⟩
 have hnew:∀e,zl ((n,A2.var cs)::es) n=some e->e= .var cs:=fun e h=>by
  rw[zp,if_pos rfl] at h;exact(W6 h).symm
 refine⟨hR.step (fun _=>Wj _) hcell (fun i hi=> .inl hi) hb hr ?_ ?_ ?_,?_⟩
 .intro i e he;by_cases hi:i=n
  .subst hi;rw[hnew e he];refine .inr ⟨.inr rfl,by simp[Gh.AN,hm0],vs,t,by rw[show(g.AN i w.heap.size ρ).blk i=w.heap.size from by simp[Gh.AN]];exact heap_alloc_new w _,hl,h1,fun j v c hv hc=> ?_,fun r hr'=>hρ r (by simpa[Gh.AN] using hr')⟩;exact(h j v c hv hc).mono (fun _=>Wj _) hcell (fun i hi=> .inl hi) hb hr
  .have h2:=hold i e hi he;exact .inl ⟨h2,fun b hb'=>⟨heap_alloc_old w _ b (hR.BP h2 hb'),rfl⟩⟩
 .intro i j e e' b h1 h2 h3 h4;by_cases hi:i=n
  .by_cases hj:j=n
   .rw[hi,hj]
   .subst hi;rw[hnew e h1] at h3;simp[A2.AB,Gh.AN] at h3;have:=hfold j e' b (hold j e' hj h2) h4;omega
  .by_cases hj:j=n
   .subst hj;rw[hnew e' h2] at h4;simp[A2.AB,Gh.AN] at h4;have:=hfold i e b (hold i e hi h1) h3;omega
   .exact hR.Bb i j e e' b (hold i e hi h1) (hold j e' hj h2) (hfold i e b (hold i e hi h1) h3).1 (hfold j e' b (hold j e' hj h2) h4).1
 .intro b hb';simp at hb';exact hR.fresh b (by omega)
 .refine ⟨rfl,rfl,rfl,by simp,hcell,fun _=>Wj _,hb,hr,fun b hb' _=>⟨heap_alloc_old w _ b hb',rfl⟩,?_⟩;rintro b ⟨i,e,h2,h3⟩;by_cases hi:i=n
  .subst hi;rw[hnew e h2] at h3;simp[A2.AB,Gh.AN] at h3;exact .inr (by omega)
  .exact .inl ⟨i,e,hold i e hi h2,(hfold i e b (hold i e hi h2) h3).1⟩
theorem R.box{G:Dm}{g:Gh}{D:Nat->Prop}{es:Es}{w:World}(hR:R G g D es w){n:Nat}(hn:¬D n){vs:List Value}{cs:List V}(t:TypeId)(hl:cs.length<=vs.length)
 (h1:∀v∈vs,v.oneCell'=true) (h:∀(i:Nat) v c,vs[i]? =some v->cs[i]? =some c->Ar g D w v c):
 R G (g.AN n w.heap.size none) (fun i=>D i\/i=n) ((n,.var cs)::es) (w.alloc (.cells vs.toArray t))/\
 Ext D g (Az g es) w (g.AN n w.heap.size none) (Az (g.AN n w.heap.size none) ((n,.var cs)::es)) (w.alloc (.cells vs.toArray t)):=
 hR.G2 hn none t hl h1 h (fun r h=>by cases h)
def Gh.share(g:Gh)(b n:Nat):Gh:={g with m:=fun i=>if i=b then n else g.m i}
theorem R.share{G:Dm}{g:Gh}{D:Nat->Prop}{es:Es}{w:World}(hR:R G g D es w)(vs:Array Value)(t:TypeId)(n:Nat)(hn:n<=vs.size):
 R G (g.share w.heap.size n) D es (w.alloc (.cells vs t))/\
 Ext D g (Az g es) w (g.share w.heap.size n) (Az (g.share w.heap.size n) es) (w.alloc (.cells vs t)):=by
 have hm0:g.m w.heap.size=0:=hR.fresh _ (Wj _);have hm:∀b,g.m b<=(g.share w.heap.size n).m b:=fun b=>by
  by_cases h:b=w.heap.size
  .subst h;rw[hm0];omega
  .simp[Gh.share,h]
 have hcell:∀b o,o<g.m b->(w.alloc (.cells vs t)).cell? ⟨b,o,none⟩=w.cell? ⟨b,o,none⟩:=fun b o ho=>by
  refine Oe w _ b o ?_;rcases XM b w.heap.size with h|h
  .exact h
  .rw[hR.fresh b h] at ho;omega
 have hsame:∀b,b<w.heap.size->(w.alloc (.cells vs t)).heap[b]? =w.heap[b]? /\(g.share w.heap.size n).m b=g.m b:=fun b hb=>
  ⟨heap_alloc_old w _ b hb,by simp[Gh.share,Nat.ne_of_lt hb]⟩
 refine⟨hR.step hm hcell (fun i hi=>hi) (fun _ _=>rfl) (fun _ _=>rfl) (fun i e he=> .inl ⟨he,fun b hb=>hsame b (hR.BP he hb)⟩) hR.Bb ?_,?_⟩
 .intro b hb;simp at hb;have:b≠w.heap.size:=by omega
  simp[Gh.share,this];exact hR.fresh b (by omega)
 .exact ⟨rfl,rfl,rfl,by simp,hcell,hm,fun _ _=>rfl,fun _ _=>rfl,fun b hb _=>hsame b hb,fun b h=> .inl h⟩
theorem Ux(w:World)(b:Nat)(vs:Array Value)(b' o:Nat)(h:b'≠b):(w.setRow b vs).cell? ⟨b',o,none⟩=w.cell? ⟨b',o,none⟩:=
 World.cell?_of_block (a:=⟨b',o,none⟩) (setRow_other w b b' vs h)
theorem R.store{G:Dm}{g:Gh}{D:Nat->Prop}{es:Es}{w:World}(hR:R G g D es w){n:Nat}{cs cs':List V}(hn:zl es n=some (.var cs))
 {vs:List Value} {vs':List Value} {t:TypeId} (hh:w.heap[g.blk n]? =some (.cells vs.toArray t (0,0))) (hl:cs'.length<=vs'.length) (hlv:vs'.length=vs.length)
 (h1:∀v∈vs',v.oneCell'=true) (h:∀(i:Nat) v c,vs'[i]? =some v->cs'[i]? =some c->Ar g D w v c):
 R G g D ((n,.var cs')::es) (w.setRow (g.blk n) vs'.toArray)/\
 Ext D g (Az g es) w g (Az g ((n,.var cs')::es)) (w.setRow (g.blk n) vs'.toArray):=by
 have hm0:g.m (g.blk n)=0:=(hR.BW n _ hn).1;have hrw:∀r,g.row n=some r->vs.length=r.cap*r.sz:=fun r hr=>by
  obtain⟨_,us,t',q1,_,_,_,q2⟩:=hR.BW n _ hn;rw[hh] at q1;cases q1;exact q2 r hr
 have hne:∀b o,o<g.m b->b≠g.blk n:=fun b o ho e=>by rw[e,hm0] at ho;omega
 have hcell:∀b o,o<g.m b->(w.setRow (g.blk n) vs'.toArray).cell? ⟨b,o,none⟩=w.cell? ⟨b,o,none⟩:=fun b o ho=>
  Ux w _ _ b o (hne b o ho)
 have hold:∀i e,i≠n->zl ((n,A2.var cs')::es) i=some e->zl es i=some e:=fun i e hi h=>by
  rw[zp,if_neg (fun e=>hi e.symm)] at h;exact h
 have hnew:∀e,zl ((n,A2.var cs')::es) n=some e->e= .var cs':=fun e h=>by
  rw[zp,if_pos rfl] at h;exact(W6 h).symm
 have hfoot:∀i e b,zl ((n,A2.var cs')::es) i=some e->e.AB g i=some b->∃e',zl es i=some e'/\e'.AB g i=some b:=fun i e b h2 h3=>by
  by_cases hi:i=n
  .subst hi;rw[hnew e h2] at h3;exact⟨_,hn,h3⟩
  .exact ⟨e,hold i e hi h2,h3⟩
 have hother:∀b,b≠g.blk n->(w.setRow (g.blk n) vs'.toArray).heap[b]? =w.heap[b]? :=fun b hb=>setRow_other w _ b _ hb;refine⟨hR.step (fun _=>Wj _) hcell (fun i hi=>hi) (fun _ _=>rfl) (fun _ _=>rfl) ?_ ?_ ?_,?_⟩
 .intro i e he;by_cases hi:i=n
  .subst hi;rw[hnew e he];exact .inr ⟨hR.lt _ _ hn,hm0,vs',t,setRow_heap w _ _ _ t _ hh,hl,h1,fun j v c hv hc=>
    (h j v c hv hc).mono (fun _=>Wj _) hcell (fun i hi=>hi) (fun _ _=>rfl) (fun _ _=>rfl),fun r hr=>hlv.trans (hrw r hr)⟩
  .refine .inl ⟨hold i e hi he,fun b hb=>⟨hother b (fun e2=>hi ?_),rfl⟩⟩;exact hR.Bb i n e _ b (hold i e hi he) hn hb (by simp[A2.AB,e2])
 .intro i j e e' b h2 h3 h4 h5;obtain⟨d,h6,h7⟩:=hfoot i e b h2 h4;obtain⟨d',h8,h9⟩:=hfoot j e' b h3 h5;exact hR.Bb i j d d' b h6 h8 h7 h9
 .intro b hb;simp at hb;exact hR.fresh b hb
 .refine ⟨rfl,rfl,rfl,by simp,hcell,fun _=>Wj _,fun _ _=>rfl,fun _ _=>rfl,fun b hb hf=>⟨hother b (fun e=>hf ⟨n,_,hn,by simp[A2.AB,e]⟩),rfl⟩,?_⟩;rintro b ⟨i,e,h2,h3⟩;obtain⟨d,h6,h7⟩:=hfoot i e b h2 h3;exact .inl ⟨i,d,h6,h7⟩
theorem Ar.drew{g:Gh}{D:Nat->Prop}{w:World}{v:Value}{c:V}(h:Ar g D w v c):Ar g D w.drew v c:=
 h.mono (fun _=>Wj _) (fun _ _ _=>rfl) (fun _ h=>h) (fun _ _=>rfl) (fun _ _=>rfl)
theorem R.drew{G:Dm}{g:Gh}{D:Nat->Prop}{es:Es}{w:World}(hR:R G g D es w):R G g D es w.drew:=
 hR.step (fun _=>Wj _) (fun _ _ _=>rfl) (fun _ h=>h) (fun _ _=>rfl) (fun _ _=>rfl) (fun n e h=> .inl ⟨h,fun _ _=>⟨rfl,rfl⟩⟩) hR.Bb hR.fresh
theorem Ext.drew{D:Nat->Prop}{g:Gh}{F:Nat->Prop}{w:World}:Ext D g F w g F w.drew:=
 ⟨rfl,rfl,rfl,Wj _,fun _ _ _=>rfl,fun _=>Wj _,fun _ _=>rfl,fun _ _=>rfl,fun _ _ _=>⟨rfl,rfl⟩,fun _ h=> .inl h⟩
theorem R.more{G:Dm}{g:Gh}{D D':Nat->Prop}{es:Es}{w:World}(hR:R G g D es w)(hD:∀n,D n->D' n):R G g D' es w:=
 hR.step (fun _=>Wj _) (fun _ _ _=>rfl) hD (fun _ _=>rfl) (fun _ _=>rfl) (fun n e h=> .inl ⟨h,fun _ _=>⟨rfl,rfl⟩⟩) hR.Bb hR.fresh
theorem Ar.more{g:Gh}{D D':Nat->Prop}{w:World}{v:Value}{c:V}(h:Ar g D w v c)(hD:∀n,D n->D' n):Ar g D' w v c:=
 h.mono (fun _=>Wj _) (fun _ _ _=>rfl) hD (fun _ _=>rfl) (fun _ _=>rfl)
theorem Kp{es:Es}{r i:Nat}{e:A2}(h:zl ((r,A2.gone)::es) i=some e):(i=r/\e= .gone)\/(i≠r/\zl es i=some e):=by
 rw[zp] at h;by_cases hi:r=i
 .rw[if_pos hi] at h;exact .inl ⟨hi.symm,(W6 h).symm⟩
 .rw[if_neg hi] at h;exact .inr ⟨fun e=>hi e.symm,h⟩
theorem R.gone{G:Dm}{g:Gh}{D:Nat->Prop}{es:Es}{w:World}(hR:R G g D es w){r:Nat}{e:A2}(hr:zl es r=some e):
 R G g D ((r,.gone)::es) w/\Ext D g (Az g es) w g (Az g ((r,.gone)::es)) w:=by
 refine⟨hR.step (fun _=>Wj _) (fun _ _ _=>rfl) (fun _ h=>h) (fun _ _=>rfl) (fun _ _=>rfl) ?_ ?_ hR.fresh,?_⟩
 .intro n e h;rcases Kp h with⟨rfl,rfl⟩|⟨_,h2⟩
  .exact .inr ⟨hR.lt _ _ hr,trivial⟩
  .exact .inl ⟨h2,fun _ _=>⟨rfl,rfl⟩⟩
 .intro n n' e e' b h1 h2 h3 h4;rcases Kp h1 with⟨rfl,rfl⟩|⟨_,h1⟩
  .cases h3
  .rcases Kp h2 with⟨rfl,rfl⟩|⟨_,h2⟩
   .cases h4
   .exact hR.Bb n n' e e' b h1 h2 h3 h4
 .refine {Ext.refl D g (Az g es) w with CK:= ?_};rintro b ⟨n,e,h1,h2⟩;rcases Kp h1 with⟨rfl,rfl⟩|⟨_,h1⟩
  .cases h2
  .exact .inl ⟨n,e,h1,h2⟩
def Gh.BI(g:Gh)(n:Nat)(ρ:Option El):Gh:={g with row:=fun i=>if i=n then ρ else g.row i}
theorem yf{es:Es}{n i:Nat}{d e:A2}(hi:i≠n)(h:zl ((n,d)::es) i=some e):zl es i=some e:=by
 rw[zp,if_neg (fun e=>hi e.symm)] at h;exact h
theorem wa{es:Es}{n:Nat}{d e:A2}(h:zl ((n,d)::es) n=some e):e=d:=by
 rw[zp,if_pos rfl] at h;exact(W6 h).symm
theorem R.Ig{G:Dm}{g:Gh}{D:Nat->Prop}{es:Es}{w:World}(hR:R G g D es w){n:Nat}(hn:¬D n)(vs:Array Value)(t:TypeId)(len cap sz:Nat)(hs:vs.size=cap*sz)(hc:len<=cap):
 R G ((g.share w.heap.size (len*sz)).BI n (some ⟨w.heap.size,len,cap,sz⟩)) (fun i=>D i\/i=n) ((n,.row)::es) (w.alloc (.cells vs t))/\
 Ext D g (Az g es) w ((g.share w.heap.size (len*sz)).BI n (some ⟨w.heap.size,len,cap,sz⟩)) (Az ((g.share w.heap.size (len*sz)).BI n (some ⟨w.heap.size,len,cap,sz⟩)) ((n,.row)::es)) (w.alloc (.cells vs t)):=by
 obtain⟨h1,h2⟩:=hR.share vs t (len*sz) (by rw[hs];exact Xw _ hc);have hrow:∀i,D i->((g.share w.heap.size (len*sz)).BI n (some ⟨w.heap.size,len,cap,sz⟩)).row i=(g.share w.heap.size (len*sz)).row i:=fun i hi=>by
  have:i≠n:=fun e=>hn (e▸hi);simp[Gh.BI,this]
 have hnew:((g.share w.heap.size (len*sz)).BI n (some ⟨w.heap.size,len,cap,sz⟩)).row n=some ⟨w.heap.size,len,cap,sz⟩:=by simp[Gh.BI]
 have hfold:∀i e b,zl es i=some e->e.AB ((g.share w.heap.size (len*sz)).BI n (some ⟨w.heap.size,len,cap,sz⟩)) i=some b->e.AB g i=some b/\b<w.heap.size:=fun i e b h1 h2=>by
  have h2:=(A2.Ca (g:=g) (g':=(g.share w.heap.size (len*sz)).BI n (some ⟨w.heap.size,len,cap,sz⟩)) (e:=e) (hR.lt i e h1) (fun _ _=>rfl) hrow).symm.trans h2;exact⟨h2,hR.BP h1 h2⟩
 refine⟨h1.step (fun _=>Wj _) (fun _ _ _=>rfl) (fun i hi=> .inl hi) (fun _ _=>rfl) hrow ?_ ?_ h1.fresh,?_⟩
 .intro i e he;by_cases hi:i=n
  .subst hi;rw[wa he];refine .inr ⟨.inr rfl,fun ρ hρ=> ?_⟩;rw[hnew] at hρ;cases hρ;exact⟨vs,t,heap_alloc_new w _,hs,by simp[Gh.share,Gh.BI],hc⟩
  .exact .inl ⟨yf hi he,fun b hb=>⟨rfl,rfl⟩⟩
 .intro i j e e' b h3 h4 h5 h6;by_cases hi:i=n
  .by_cases hj:j=n
   .rw[hi,hj]
   .subst hi;rw[wa h3] at h5;simp[A2.AB,hnew] at h5;have:=hfold j e' b (yf hj h4) h6;omega
  .by_cases hj:j=n
   .subst hj;rw[wa h4] at h6;simp[A2.AB,hnew] at h6;have:=hfold i e b (yf hi h3) h5;omega
   .exact hR.Bb i j e e' b (yf hi h3) (yf hj h4) (hfold i e b (yf hi h3) h5).1 (hfold j e' b (yf hj h4) h6).1
 .refine ⟨rfl,rfl,rfl,h2.size,h2.cells,h2.mark,fun _ _=>rfl,hrow,h2.frame,?_⟩;rintro b ⟨i,e,h3,h4⟩;by_cases hi:i=n
  .subst hi;rw[wa h3] at h4;simp[A2.AB,hnew] at h4;exact .inr (by omega)
  .exact .inl ⟨i,e,yf hi h3,(hfold i e b (yf hi h3) h4).1⟩
theorem R.IY{G:Dm}{g:Gh}{D:Nat->Prop}{es:Es}{w:World}(hR:R G g D es w){n:Nat}(hn:¬D n):
 R G (g.BI n none) (fun i=>D i\/i=n) ((n,.row)::es) w/\Ext D g (Az g es) w (g.BI n none) (Az (g.BI n none) ((n,.row)::es)) w:=by
 have hrow:∀i,D i->(g.BI n none).row i=g.row i:=fun i hi=>by
  have:i≠n:=fun e=>hn (e▸hi);simp[Gh.BI,this]
 have hnew:(g.BI n none).row n=none:=by simp[Gh.BI]
 have hfold:∀i e b,zl es i=some e->e.AB (g.BI n none) i=some b->e.AB g i=some b:=fun i e b h1 h2=>by
  exact(A2.Ca (g:=g) (g':=g.BI n none) (e:=e) (hR.lt i e h1) (fun _ _=>rfl) hrow).symm.trans h2
 refine⟨hR.step (fun _=>Wj _) (fun _ _ _=>rfl) (fun i hi=> .inl hi) (fun _ _=>rfl) hrow ?_ ?_ hR.fresh,?_⟩
 .intro i e he;by_cases hi:i=n
  .subst hi;rw[wa he];exact .inr ⟨.inr rfl,fun ρ hρ=>by rw[hnew] at hρ;cases hρ⟩
  .exact .inl ⟨yf hi he,fun b hb=>⟨rfl,rfl⟩⟩
 .intro i j e e' b h3 h4 h5 h6;by_cases hi:i=n
  .subst hi;rw[wa h3] at h5;simp[A2.AB,hnew] at h5
  .by_cases hj:j=n
   .subst hj;rw[wa h4] at h6;simp[A2.AB,hnew] at h6
   .exact hR.Bb i j e e' b (yf hi h3) (yf hj h4) (hfold i e b (yf hi h3) h5) (hfold j e' b (yf hj h4) h6)
 .refine {Ext.refl D g (Az g es) w with row:=hrow,CK:= ?_};rintro b ⟨i,e,h3,h4⟩;by_cases hi:i=n
  .subst hi;rw[wa h3] at h4;simp[A2.AB,hnew] at h4
  .exact .inl ⟨i,e,yf hi h3,hfold i e b (yf hi h3) h4⟩
theorem R.grow{G:Dm}{g:Gh}{D:Nat->Prop}{es:Es}{w:World}(hR:R G g D es w){n r:Nat}(hn:¬D n)(hr:zl es r=some .row){ρ:El}(hρ:g.row r=some ρ)
 {cur:Array Value} {t:TypeId} (hh:w.heap[ρ.b]? =some (.cells cur t (0,0))) (cur':Array Value) (hsz:cur'.size=cur.size) (hsame:∀o,o<ρ.len*ρ.sz->cur'[o]? =cur[o]?) (len:Nat)
 (hlen:ρ.len<=len) (hcap:len<=ρ.cap):
 R G (({g with m:=fun i=>if i=ρ.b then len*ρ.sz else g.m i}:Gh).BI n (some ⟨ρ.b,len,ρ.cap,ρ.sz⟩)) (fun i=>D i\/i=n) ((n,.row)::(r,.gone)::es) (w.setRow ρ.b cur')/\
 Ext D g (Az g es) w (({g with m:=fun i=>if i=ρ.b then len*ρ.sz else g.m i}:Gh).BI n (some ⟨ρ.b,len,ρ.cap,ρ.sz⟩))
  (Az (({g with m:=fun i=>if i=ρ.b then len*ρ.sz else g.m i}:Gh).BI n (some ⟨ρ.b,len,ρ.cap,ρ.sz⟩)) ((n,.row)::(r,.gone)::es)) (w.setRow ρ.b cur'):=by
 obtain⟨cur0,t0,h1,h2,h3,h4⟩:=hR.BW r _ hr ρ hρ;rw[hh] at h1;cases h1;generalize hg':(({g with m:=fun i=>if i=ρ.b then len*ρ.sz else g.m i}:Gh).BI n (some ⟨ρ.b,len,ρ.cap,ρ.sz⟩))=g';have hblk:∀i,g'.blk i=g.blk i:=fun i=>by subst hg';rfl
 have hrow:∀i,D i->g'.row i=g.row i:=fun i hi=>by
  have:i≠n:=fun e=>hn (e▸hi);subst hg';simp[Gh.BI,this]
 have hnew:g'.row n=some ⟨ρ.b,len,ρ.cap,ρ.sz⟩:=by subst hg';simp[Gh.BI]
 have hmb:g'.m ρ.b=len*ρ.sz:=by subst hg';simp[Gh.BI]
 have hmo:∀b,b≠ρ.b->g'.m b=g.m b:=fun b hb=>by subst hg';simp[Gh.BI,hb]
 have hm:∀b,g.m b<=g'.m b:=fun b=>by
  by_cases hb:b=ρ.b
  .subst hb;rw[hmb,h3];exact Xw _ hlen
  .rw[hmo b hb];exact Wj _
 have hheap:(w.setRow ρ.b cur').heap[ρ.b]? =some (.cells cur' t (0,0)):=setRow_heap w _ _ _ t _ hh;have hother:∀b,b≠ρ.b->(w.setRow ρ.b cur').heap[b]? =w.heap[b]? :=fun b hb=>setRow_other w _ b _ hb;have hcell:∀b o,o<g.m b->(w.setRow ρ.b cur').cell? ⟨b,o,none⟩=w.cell? ⟨b,o,none⟩:=fun b o ho=>by
  by_cases hb:b=ρ.b
  .subst hb;rw[HD hheap,HD hh];exact hsame o (by omega)
  .exact Ux w _ _ b o hb
 have hDr:D r:=hR.lt r _ hr;have hnr:r≠n:=fun e=>hn (e▸hDr);have hent:∀i e,zl ((n,A2.row)::(r,A2.gone)::es) i=some e->(i=n/\e= .row)\/(i=r/\e= .gone)\/(i≠n/\i≠r/\zl es i=some e):=fun i e h=>by
  by_cases hi:i=n
  .subst hi;exact .inl ⟨rfl,wa h⟩
  .rcases Kp (yf hi h) with⟨h5,h6⟩|⟨h5,h6⟩
   .exact .inr (.inl ⟨h5,h6⟩)
   .exact .inr (.inr ⟨hi,h5,h6⟩)
 have hfold:∀i e b,zl es i=some e->e.AB g' i=some b->e.AB g i=some b:=fun i e b h1 h2=>by
  rw[A2.Ca (hR.lt i e h1) (g:=g) (fun i _=>hblk i) hrow] at h2;exact h2
 have hrb:(A2.row).AB g r=some ρ.b:=by simp[A2.AB,hρ]
 have hne:∀i e b,i≠r->zl es i=some e->e.AB g i=some b->b≠ρ.b:=fun i e b hi h5 h6 e2=>by
  subst e2;exact hi (hR.Bb i r e _ _ h5 hr h6 hrb)
 have hnf:∀b,(A2.row).AB g' n=some b->b=ρ.b:=fun b h=>by simp[A2.AB,hnew] at h;exact h.symm
 refine⟨hR.step hm hcell (fun i hi=> .inl hi) (fun i _=>hblk i) hrow ?_ ?_ ?_,?_⟩
 .intro i e he;rcases hent i e he with⟨rfl,rfl⟩|⟨rfl,rfl⟩|⟨h5,h6,h7⟩
  .refine .inr ⟨.inr rfl,fun ρ' hρ'=> ?_⟩;rw[hnew] at hρ';cases hρ';exact⟨cur',t,hheap,by rw[hsz];exact h2,hmb,hcap⟩
  .exact .inr ⟨.inl hDr,trivial⟩
  .refine .inl ⟨h7,fun b hb=> ?_⟩;have:=hne i e b h6 h7 hb;exact⟨hother b this,hmo b this⟩
 .intro i j e e' b h5 h6 h7 h8;rcases hent i e h5 with⟨rfl,rfl⟩|⟨rfl,rfl⟩|⟨h9,h10,h11⟩
  .rcases hent j e' h6 with⟨rfl,rfl⟩|⟨rfl,rfl⟩|⟨h12,h13,h14⟩
   .rfl
   .cases h8
   .exact absurd (hnf b h7) (hne j e' b h13 h14 (hfold j e' b h14 h8))
  .cases h7
  .rcases hent j e' h6 with⟨rfl,rfl⟩|⟨rfl,rfl⟩|⟨h12,h13,h14⟩
   .exact absurd (hnf b h8) (hne i e b h10 h11 (hfold i e b h11 h7))
   .cases h8
   .exact hR.Bb i j e e' b h11 h14 (hfold i e b h11 h7) (hfold j e' b h14 h8)
 .intro b hb;simp at hb;have h5:ρ.b<w.heap.size:=(W4.1 hh).1;rw[hmo b (by omega)];exact hR.fresh b hb
 .refine ⟨rfl,rfl,rfl,by simp,hcell,hm,fun i _=>hblk i,hrow,fun b hb hf=> ?_,?_⟩
  .have:b≠ρ.b:=fun e=>hf ⟨r,_,hr,by rw[e];exact hrb⟩;exact⟨hother b this,hmo b this⟩
  .rintro b ⟨i,e,h5,h6⟩;rcases hent i e h5 with⟨rfl,rfl⟩|⟨rfl,rfl⟩|⟨h9,h10,h11⟩
   .exact .inl ⟨r,_,hr,by rw[hnf b h6];exact hrb⟩
   .cases h6
   .exact .inl ⟨i,e,h11,hfold i e b h11 h6⟩
def OS(E:Env)(N:Nat)(o:Oper)(a:AF)(pre:Es)(v:V)(news:List Nat)(post:Es):Prop:=
 ∀g D es w act,R E.G g D es w->(∀p∈pre,zl es p.1=some p.2)->(∀n∈news,¬D n)->BA g D w N act a->∀(K:Act->World->Prop) (Q:Exit->Act->World->Prop),
  (∀g' v' w',R E.G g' (fun n=>D n\/n∈news) (post++es) w'->Ar g' (fun n=>D n\/n∈news) w' v' v->Ext D g (Az g es) w g' (Az g' (post++es)) w'->K (act.put o.dst v') w')->o.wp E.P act w K Q
section
variable {E:Env} {N:Nat} {o:Oper} {a:AF}
theorem OS.of_run{pre:Es}{v:V}{news:List Nat}{post:Es}
 (h:∀g D es w act,R E.G g D es w->(∀p∈pre,zl es p.1=some p.2)->(∀n∈news,¬D n)->BA g D w N act a->
  ∃g' v' w',(execOp act.eval o).run E.P w= .ok (.value v') w'/\R E.G g' (fun n=>D n\/n∈news) (post++es) w'/\Ar g' (fun n=>D n\/n∈news) w' v' v/\Ext D g (Az g es) w g' (Az g' (post++es)) w'):
 OS E N o a pre v news post:=by
 intro g D es w act hR hp hn hF K Q hK;obtain⟨g',v',w',h1,h2,h3,h4⟩:=h g D es w act hR hp hn hF;unfold Oper.wp;rw[h1];exact hK g' v' w' h2 h3 h4
theorem OS.Fv{pre:Es}{post:Es}
 (h:∀g D es w act,R E.G g D es w->(∀p∈pre,zl es p.1=some p.2)->BA g D w N act a->
  ∃w',(execOp act.eval o).run E.P w= .ok .skip w'/\R E.G g D (post++es) w'/\Ext D g (Az g es) w g (Az g (post++es)) w'):
 OS E N o a pre (.AD []) [] post:=by
 intro g D es w act hR hp hn hF K Q hK;obtain⟨w',h1,h2,h4⟩:=h g D es w act hR hp hF;unfold Oper.wp;rw[h1];exact hK g undef w' (h2.more fun n h=> .inl h) (.AD [] [] rfl (fun i v c h=>by simp at h)) h4
theorem OS.pure{pre:Es}{v:V}
 (h:∀g D es w act,R E.G g D es w->(∀p∈pre,zl es p.1=some p.2)->BA g D w N act a->∃v',(execOp act.eval o).run E.P w= .ok (.value v') w/\Ar g D w v' v):
 OS E N o a pre v [] []:=
 .of_run fun g D es w act hR hp _ hF=>
  let ⟨v',h1,h2⟩:=h g D es w act hR hp hF
  ⟨g,v',w,h1,hR.more fun n h=> .inl h,h2.more fun n h=> .inl h,.refl ..⟩
theorem Ar.Bl{g:Gh}{D:Nat->Prop}{w:World}{v:Value}{k:IntKind}{n:Int}(h:Ar g D w v (.int k n)):v= .int k n:=by
 cases h with|data h=>cases h;rfl
theorem Ar.Cd{g:Gh}{D:Nat->Prop}{w:World}{v:Value}{b:Bool}(h:Ar g D w v (.bool b)):v= .bool b:=by
 cases h with|data h=>cases h;rfl
theorem Ar.FG{g:Gh}{D:Nat->Prop}{w:World}{v:Value}{cs:List V}(h:Ar g D w v (.agg cs)):
 ∃vs:List Value,v= .agg vs.toArray/\vs.length=cs.length/\(∀v∈vs,v.oneCell'=true)/\∀(i:Nat) v c,vs[i]? =some v->cs[i]? =some c->Ar g D w v c:=by
 cases h with
 |data h=>cases h
 |agg vs _ hl h1 h=>exact⟨vs,rfl,hl,h1,h⟩
theorem Ar.G0{g:Gh}{D:Nat->Prop}{w:World}{v:Value}{cs:List V}(h:Ar g D w v (.AD cs)):
 ∃vs:List Value,v= .tuple vs.toArray/\vs.length=cs.length/\∀(i:Nat) v c,vs[i]? =some v->cs[i]? =some c->Ar g D w v c:=by
 cases h with
 |data h=>cases h
 |AD vs _ hl h=>exact⟨vs,rfl,hl,h⟩
theorem Ar.Bh{g:Gh}{D:Nat->Prop}{w:World}{v:Value}{sp:Sp}{l:SL V}(h:Ar g D w v (.slice sp l)):A6 g.m w v (.slice .any l):=by
 have:=Ao.any sp l g D w v h;cases this with|data h=>exact h
theorem Ar.Iq{g:Gh}{D:Nat->Prop}{w:World}{v:Value}{f:Fn}{fi caps:List V}(h:Ar g D w v (.fn f fi caps)):
 ∃vs vs':List Value,v= .func f vs.toArray vs'.toArray/\vs.length=fi.length/\vs'.length=caps.length/\(∀(i:Nat) v c,vs[i]? =some v->fi[i]? =some c->Ar g D w v c)/\
  ∀(i:Nat) v c,vs'[i]? =some v->caps[i]? =some c->Ar g D w v c:=by
 cases h with
 |data h=>cases h
 |fn _ vs vs' _ _ h1 h2 h3 h4=>exact⟨vs,vs',rfl,h1,h2,h3,h4⟩
theorem A6.Bh{m:Nat->Nat}{w:World}{v:Value}{l:SL V}(h:A6 m w v (.slice .any l)):∃b cap,v= .slice b l.len cap:=by
 cases h with
 |nilS _ h=>exact⟨none,0,by rw[h]⟩
 |emp _ h a cap=>exact⟨some a,cap,by rw[h]⟩
 |slice _ b off cap=>exact⟨_,cap,rfl⟩
theorem I1{t:TypeId}{i:TI}(h:E.ti t=some i):∃inf,E.P.info? t=some inf/\inf.size=i.size/\∃z,inf.zero=some z/\I4 z.cells.toList i.zero=true:=by
 have:=Env.HC h;unfold Kl at this;rw[Wk] at this;have h1:=this.1;split at h1
 .rename_i inf hi;rw[Wk] at h1;have h2:=h1.2;split at h2
  .rename_i z hz;exact⟨inf,hi,WK h1.1,z,hz,h2⟩
  .cases h2
 .cases h1
theorem IQ{t:TypeId}{i:TI}(h:E.ti t=some i):∃d,E.P.underlying t=some d/\(match d,i.desc with
 |(.int k),.int k'=>decide (k=k')
 | .bool,.bool=>true
 | .string,.str=>true
 |(.struct fs),.strct gs=>uj E.P fs.toList gs
 |(.array n e),.arr n' esz eagg=>Nat.beq n n'&&JE E.P e esz&&Nat.blt 0 esz&&(match KJ E.P e with|some b=>decide (b=eagg)|none=>false)
 |(.slice e),.slc c esz bytes=>N6 E.P e esz bytes&&Nat.blt 0 esz&&LK c esz
 |d,.other=>(match d with| .struct _| .array _ _| .slice _=>false|_=>true)
 |_,_=>false)=true:=by
 have:=Env.HC h;unfold Kl at this;rw[Wk] at this;have h1:=this.2;cases hu:E.P.underlying t with
 |none=>simp[hu] at h1
 |some d=>
  refine⟨d,rfl,?_⟩;rw[hu] at h1;revert h1;generalize i.desc=td;cases d<;>cases td<;>exact id
theorem NA{t:TypeId}{inf:TypeInfo}{z:Value}{w:World}(h:E.P.info? t=some inf)(hz:inf.zero=some z):(zeroValue t).run E.P w= .ok z w:=by
 simp[zeroValue,typeInfo,h,hz]
theorem wg{t:TypeId}{inf:TypeInfo}{w:World}(h:E.P.info? t=some inf):(sizeOf t).run E.P w= .ok inf.size w:=by
 simp[sizeOf,typeInfo,h]
theorem y0{t:TypeId}{d:TypeDesc}{w:World}(h:E.P.underlying t=some d):(underlying t).run E.P w= .ok d w:=by
 simp[underlying,h]
def TD.agg:TD->Bool| .strct _| .arr _ _ _=>true|_=>false
theorem Zxl{t:TypeId}{i:TI}{w:World}(h:E.ti t=some i):(isAgg t).run E.P w= .ok i.desc.agg w:=by
 obtain⟨d,h1,h2⟩:=IQ h;unfold isAgg;simp only[Sem.run_bind,y0 h1,Result.andThen_ok];revert h2;cases d<;>cases i.desc<;>simp[TD.agg]
theorem LA:∀{vs:List Value} {cs:List V},I4 vs cs=true->vs.length=cs.length/\(∀v∈vs,v.oneCell'=true)/\
 ∀(g:Gh) (D:Nat->Prop) (w:World) (i:Nat) v c,vs[i]? =some v->cs[i]? =some c->Ar g D w v c:=by
 intro vs;induction vs with
 |nil=>intro cs h;cases cs with|nil=>exact⟨rfl,by simp,by simp⟩|cons=>simp[I4] at h
 |cons v l ih=>
  intro cs h;cases cs with
  |nil=>simp[I4] at h
  |cons c l'=>
   simp only[I4,Wk] at h;obtain⟨h1,h2⟩:=h;obtain⟨h3,h4,h5⟩:=ih h2;have hv:v.oneCell'=true/\∀(g:Gh) (D:Nat->Prop) (w:World),Ar g D w v c:=by
    split at h1
    .simp only[Wk,decide_eq_true_eq] at h1;obtain⟨rfl,rfl⟩:=h1;exact⟨rfl,fun _ _ _=> .data (.int _ _)⟩
    .simp only[decide_eq_true_eq] at h1;subst h1;exact⟨rfl,fun _ _ _=> .data (.bool _)⟩
    .simp only[decide_eq_true_eq] at h1;subst h1;exact⟨rfl,fun _ _ _=> .data (.str _)⟩
    .exact ⟨rfl,fun _ _ _=> .nilS _ (WK h1)⟩
    .exact ⟨rfl,fun _ _ _=> .nilp⟩
    .exact ⟨rfl,fun _ _ _=> .nilf⟩
    .exact ⟨rfl,fun _ _ _=> .raw _⟩
    .exact ⟨rfl,fun _ _ _=> .raw _⟩
    .cases h1
   refine⟨by simp[h3],?_,?_⟩
   .intro x hx;rcases WE.1 hx with rfl|hx
    .exact hv.1
    .exact h4 x hx
   .intro g D w i x y hx hy;cases i with
    |zero=>simp at hx hy;subst hx;subst hy;exact hv.2 g D w
    |succ i=>simp at hx hy;exact h5 g D w i x y hx hy
theorem OS.move{x:Operand}{v:V}(ho:o.op= .move x\/o.op= .assign x)(h:ev E o.type a x=some v):OS E N o a [] v [] []:=
 .pure fun g D es w act hR _ hF=>⟨_,by rcases ho with ho|ho<;>simp[execOp,ho],z8 h hR hF⟩
theorem OS.pick{c x y:Operand}{b:Bool}{v:V}(ho:o.op= .pick c x y)(hc:ev E 0 a c=some (.bool b))(h:ev E o.type a (if b then x else y)=some v):OS E N o a [] v [] []:=
 .pure fun g D es w act hR _ hF=>by
  have h1:=(z8 hc hR hF).Cd;have h2:=z8 h hR hF;refine⟨_,?_,h2⟩;cases b<;>simp[execOp,ho,h1,asBool]
def cellsOf:V->Option (List V)
 | .agg cs=>some cs
 | .AD _=>none
 | .raw _=>none
 |v=>some [v]
theorem vt{c:V}{cs:List V}(h:cellsOf c=some cs){g:Gh}{D:Nat->Prop}{w:World}{v:Value}(hv:Ar g D w v c):
 ∃vs:List Value,v.cells=vs.toArray/\vs.length=cs.length/\(∀v∈vs,v.oneCell'=true)/\∀(i:Nat) v c,vs[i]? =some v->cs[i]? =some c->Ar g D w v c:=by
 have one:∀{v:Value} {c:V},Ar g D w v c->v.oneCell'=true->v.cells= #[v]->∃vs:List Value,v.cells=vs.toArray/\vs.length=[c].length/\(∀v∈vs,v.oneCell'=true)/\∀(i:Nat) v c',vs[i]? =some v->[c][i]? =some c'->Ar g D w v c':=by
  intro v c h1 h2 h3;refine⟨[v],h3,rfl,by simpa using h2,fun i v' c' h4 h5=> ?_⟩;cases i with
  |zero=>simp at h4 h5;subst h4;subst h5;exact h1
  |succ i=>simp at h4
 have hv0:=hv;cases hv with
 |data h1=>cases h1<;>(simp only[cellsOf,Wq] at h;subst h;exact one hv0 rfl rfl)
 |agg vs cs' hl h1 h2=>simp only[cellsOf,Wq] at h;subst h;exact⟨vs,rfl,hl,h1,h2⟩
 |AD=>cases h
 |raw=>cases h
 |own r hr v l h1 hd=>
  simp only[cellsOf,Wq] at h;subst h;cases hd<;>exact one hv0 rfl rfl
 |_=>simp only[cellsOf,Wq] at h;subst h;exact one hv0 rfl rfl
theorem Wf(D:Nat->Prop)(g:Gh)(n:Nat)(w:World){b:Nat}{ρ:Option El}:Ar (g.AN n b ρ) (fun i=>D i\/i∈[n]) w (.pointer (some ⟨b,0,none⟩)) (.ptr n 0):=by
 have h:=Ar.ptr (g:=g.AN n b ρ) (D:=fun i=>D i\/i∈[n]) (w:=w) n 0 (Or.inr (WN.2 rfl));have hb:(g.AN n b ρ).blk n=b:=by simp[Gh.AN]
 rw[hb] at h;exact h
theorem OS.box{t:TypeId}{x:Operand}{c:V}{cs:List V}{n:Nat}(ho:o.op= .box t x)(h:ev E t a x=some c)(hc:cellsOf c=some cs):OS E N o a [] (.ptr n 0) [n] [(n,.var cs)]:=
 .of_run fun g D es w act hR _ hn hF=>by
  obtain⟨vs,h1,h2,h3,h4⟩:=vt hc (z8 h hR hF);obtain⟨hR',hx⟩:=hR.box (hn n (by simp)) t (Yu h2.symm) h3 h4;refine⟨g.AN n w.heap.size none,.pointer (some ⟨w.heap.size,0,none⟩),w.alloc (.cells vs.toArray t),?_,hR'.more (fun i hi=>by simpa using hi),?_,hx⟩
  .simp only[execOp,ho,Instr.box,newVar,newRow,Sem.run_bind,Sem.run_pure,run_newObj,Result.andThen_ok,h1,World.alloc_eq]
  .exact Wf D g n _
theorem OS.alloc{t:TypeId}{i:TI}{n:Nat}(ho:o.op= .alloc t)(h:E.ti t=some i):OS E N o a [] (.ptr n 0) [n] [(n,.var i.zero)]:=
 .of_run fun g D es w act hR _ hn hF=>by
  obtain⟨inf,h1,h2,z,h3,h4⟩:=I1 h;obtain⟨h5,h6,h7⟩:=LA h4;obtain⟨hR',hx⟩:=hR.box (hn n (by simp)) t (Yu h5.symm) h6 (fun i v c hv hc=>h7 g D w i v c hv hc);refine⟨g.AN n w.heap.size none,.pointer (some ⟨w.heap.size,0,none⟩),w.alloc (.cells z.cells.toList.toArray t),?_,hR'.more (fun i hi=>by simpa using hi),?_,hx⟩
  .simp only[execOp,ho,Instr.alloc,newVar,newRow,Sem.run_bind,Sem.run_pure,run_newObj,Result.andThen_ok,NA h1 h3,World.alloc_eq,Array.toArray_toList]
  .exact Wf D g n _
def Hr(i:TI)(cs:List V):Option V:=
 bif i.desc.agg then(bif Nat.ble i.size cs.length then some (.agg (cs.take i.size)) else none) else cs.head?
theorem GN(b off n:Nat):(⟨b,off,none⟩:Addr).add n=⟨b,off+n,none⟩:=by
 unfold Addr.add;split
 .rename_i h;rw[h,XR]
 .rfl
theorem Qt{t:TypeId}{i:TI}{b off:Nat}{cs:List V}{c:V}{g:Gh}{D:Nat->Prop}{w:World}(h:E.ti t=some i)(hc:Hr i cs=some c)(f:Nat->Value)
 (h1:∀j,j<cs.length->w.cell? ⟨b,off+j,none⟩=some (f j)) (h2:∀(j:Nat) c,cs[j]? =some c->Ar g D w (f j) c/\(f j).oneCell'=true):
 ∃v,(loadVar t ⟨b,off,none⟩).run E.P w= .ok v w/\Ar g D w v c:=by
 obtain⟨inf,hi,hs,_⟩:=I1 h;unfold loadVar;simp only[Sem.run_bind,Zxl h,Result.andThen_ok];unfold Hr at hc;cases ha:i.desc.agg with
 |true=>
  rw[ha] at hc;simp only[cond_true] at hc;cases hb:Nat.ble i.size cs.length with
  |false=>rw[hb] at hc;cases hc
  |true=>
   rw[hb] at hc;simp only[cond_true,Wq] at hc;have hle:=Wz hb;have hload:=run_loadCells (P:=E.P) (w:=w) ⟨b,off,none⟩ i.size f (fun j hj=>by rw[GN];exact h1 j (by omega));subst hc;refine⟨.agg ((List.range i.size).map f).toArray,?_,?_⟩
   .simp only[if_true,Sem.run_bind,wg hi,Result.andThen_ok,hs,hload,Sem.run_pure]
   .refine .agg _ _ (by simp;omega) ?_ ?_
    .intro v hv;simp only[WA,X0] at hv;obtain⟨j,hj,rfl⟩:=hv;exact(h2 j _ (Wl (by omega))).2
    .intro j v c hv hc;simp only[WY,Wo] at hv;obtain⟨j',hj',rfl⟩:=hv;obtain⟨hj1,hj2⟩:=Ww.1 hj';simp only[YL] at hj2;subst hj2;rw[XK] at hc;split at hc
     .exact (h2 j c hc).1
     .cases hc
 |false=>
  rw[ha] at hc;simp only[cond_false] at hc;cases cs with
  |nil=>cases hc
  |cons c' l=>
   simp only[List.head?_cons,Wq] at hc;subst hc;have h3:=h1 0 (by simp);refine⟨f 0,?_,(h2 0 c' rfl).1⟩;simp only[Yq,if_false,run_load];rw[show(⟨b,off,none⟩:Addr)=⟨b,off+0,none⟩ from rfl,h3]
end
section
variable {E:Env} {N:Nat} {o:Oper} {a:AF}
theorem A6.one{m:Nat->Nat}{w:World}{v:Value}{c:V}(h:A6 m w v c):v.oneCell'=true:=by cases h<;>rfl
theorem OS.LS{t:TypeId}{x:Operand}{i:TI}{cs:List V}{c:V}(ho:o.op= .load t x)(ht:E.ti t=some i)(hx:ev E 0 a x=some (.addr cs))(hc:Hr i cs=some c):OS E N o a [] c [] []:=
 .pure fun g D es w act hR _ hF=>by
  have h1:=z8 hx hR hF;generalize hv:act.eval x=v at h1;cases h1 with
  |data h=>cases h
  |addr b off _ f hm hc1 hr=>
   obtain⟨v',h2,h3⟩:=Qt (E:=E) (g:=g) (D:=D) (w:=w) (b:=b) (off:=off) ht hc f hc1 (fun j c hj=>⟨.data (hr j c hj),(hr j c hj).one⟩);exact⟨v',by simp[execOp,ho,Instr.loadAt,Instr.sureAddr,hv,h2],h3⟩
theorem OS.K8{t:TypeId}{x:Operand}{i:TI}{n off:Nat}{cs:List V}{c:V}(ho:o.op= .load t x)(ht:E.ti t=some i)(hx:ev E 0 a x=some (.ptr n off))(hc:Hr i (cs.drop off)=some c):
 OS E N o a [(n,.var cs)] c [] []:=
 .pure fun g D es w act hR hp hF=>by
  have h1:=z8 hx hR hF;have hn:=hp (n,.var cs) (by simp);obtain⟨_,vs,t',h4,h5,h6,h7,_⟩:=hR.BW n _ hn;generalize hv:act.eval x=v at h1;cases h1 with
  |data h=>cases h
  |ptr _ _ hD=>
   obtain⟨v',h2,h3⟩:=Qt (E:=E) (g:=g) (D:=D) (w:=w) (b:=g.blk n) (off:=off) ht hc (fun j=>vs.getD (off+j) undef)
    (fun j hj=>by
     simp only[XT] at hj;rw[HD h4];have:off+j<vs.length:=by omega
     simp[Wl this,WJ])
    (fun j c hj=>by
     rw[XL] at hj;have hl:=(Ww.1 hj).1;have h8:vs[off+j]? =some (vs[off+j]'(by omega)):=Wl _;rw[WJ,h8];exact⟨h7 _ _ c h8 hj,h6 _ (Wi _)⟩)
   exact⟨v',by simp[execOp,ho,Instr.loadAt,Instr.sureAddr,hv,h2],h3⟩
theorem u7{α:Type}(l m:List α)(o i:Nat)(ho:o+m.length<=l.length):
 (l.take o++m++l.drop (o+m.length))[i]? =if i<o then l[i]? else if i<o+m.length then m[i-o]? else l[i]? :=by
 have hto:(l.take o).length=o:=by simp;omega
 by_cases h1:i<o
 .simp[h1,WC,hto,XK,Wr]
 .by_cases h2:i<o+m.length
  .rw[Wr,WG (by omega),hto,WC (by omega)];simp[h1,h2]
  .rw[WG (by simp;omega)];simp only[WD,hto,XL];simp only[h1,h2,if_false];congr 1;omega
theorem OS.store{t:TypeId}{x y:Operand}{i:TI}{n off:Nat}{cs:List V}{c:V}{vc:List V}(ho:o.op= .store t x y)(ht:E.ti t=some i)(hx:ev E 0 a x=some (.ptr n off))(hy:ev E t a y=some c)
 (hc:cellsOf c=some vc) (hs:vc.length=i.size) (hb:Nat.ble (off+vc.length) cs.length=true):
 OS E N o a [(n,.var cs)] (.AD []) [] [(n,.var (cs.take off++vc++cs.drop (off+vc.length)))]:=
 .Fv fun g D es w act hR hp hF=>by
  have h1:=z8 hx hR hF;have hn:=hp (n,.var cs) (by simp);have hle:=Wz hb;obtain⟨_,vs,t',h4,h5,h6,h7,_⟩:=hR.BW n _ hn;obtain⟨us,h8,h9,h10,h11⟩:=vt hc (z8 hy hR hF);obtain⟨inf,h12,h13,_⟩:=I1 ht;have hl:us.length=vc.length:=h9;generalize hv:act.eval x=v at h1;cases h1 with
  |data h=>cases h
  |ptr _ _ hD=>
   have hst:=run_storeCells_at E.P (g.blk n) off t' us 0 vs.toArray w h4 (by simp;omega) h10;obtain⟨hR',hx'⟩:=hR.store hn h4 (vs':=vs.take off++us++vs.drop (off+us.length)) (cs':=cs.take off++vc++cs.drop (off+vc.length)) (by simp;omega) (by simp;omega)
    (fun u hu=>by
     rcases WH.1 hu with hu|hu
     .rcases WH.1 hu with hu|hu
      .exact h6 u (XZ hu)
      .exact h10 u hu
     .exact h6 u (Yc hu))
    (fun j u d hu hd=>by
     rw[u7 _ _ _ _ (by omega)] at hu;rw[u7 _ _ _ _ hle,<-hl] at hd;split at hu
     .rename_i hj;rw[if_pos hj] at hd;exact h7 j u d hu hd
     .rename_i hj;rw[if_neg hj] at hd;split at hu
      .rename_i hj2;rw[if_pos hj2] at hd;exact h11 _ u d hu hd
      .rename_i hj2;rw[if_neg hj2] at hd;exact h7 j u d hu hd)
   refine⟨w.setRow (g.blk n) (vs.take off++us++vs.drop (off+us.length)).toArray,?_,hR',hx'⟩;have h14:((act.eval y).cells.size≠inf.size)=False:=by rw[h8];simp;omega
   have h15:(act.eval y).cells.toList=us:=by rw[h8]
   simp only[execOp,ho,Instr.storeAt,Instr.sureAddr,hv,storeVar,Sem.run_bind,Sem.run_pure,Result.andThen_ok,wg h12,h14,if_false,h15,hst,XR]
theorem OR:∀{fs:List Field} {gs:List (Nat×Nat×Bool)},uj E.P fs gs=true->∀(f:Nat) p,gs[f]? =some p->
 ∃fd,fs[f]? =some fd/\fd.offset=p.1/\(∃inf,E.P.info? fd.type=some inf/\inf.size=p.2.1)/\0<p.2.1/\(∀w,(isAgg fd.type).run E.P w= .ok p.2.2 w):=by
 intro fs;induction fs with
 |nil=>intro gs h f p hp;cases gs with|nil=>simp at hp|cons=>simp[uj] at h
 |cons fd l ih=>
  intro gs h f p hp;cases gs with
  |nil=>simp[uj] at h
  |cons q l'=>
   simp only[uj,Wk] at h;obtain⟨⟨⟨⟨h1,h2⟩,h3⟩,h4⟩,h5⟩:=h;cases f with
   |succ f=>simp at hp ⊢;exact ih h5 f p hp
   |zero=>
    simp at hp;subst hp;refine⟨fd,rfl,WK h1,?_,Wz h3,?_⟩
    .unfold JE at h2;split at h2
     .rename_i inf hi;exact⟨inf,hi,WK h2⟩
     .cases h2
    .intro w;unfold KJ at h4;unfold isAgg;cases hu:E.P.underlying fd.type with
     |none=>simp[hu] at h4
     |some d=>
      rw[hu] at h4;simp only[Sem.run_bind,y0 hu,Result.andThen_ok];cases d<;>simp at h4<;>simp[h4]
theorem Mf{t:TypeId}{i:TI}{gs:List (Nat×Nat×Bool)}(h:E.ti t=some i)(hd:i.desc= .strct gs):∃fs,E.P.underlying t=some (.struct fs)/\uj E.P fs.toList gs=true:=by
 obtain⟨d,h1,h2⟩:=IQ h;rw[hd] at h2;cases d with
 |struct fs=>exact⟨fs,h1,h2⟩
 |_=>cases h2
theorem Ta{fd:Field}{inf:TypeInfo}{b off:Nat}{w:World}(h:E.P.info? fd.type=some inf)(hs:0<inf.size):
 (fieldPlace ⟨b,off,none⟩ fd).run E.P w= .ok ⟨b,off+fd.offset,none⟩ w:=by
 have:¬inf.size=0:=by omega
 simp[fieldPlace,wg h,this,GN]
theorem OS.E9{t:TypeId}{x:Operand}{i:TI}{gs:List (Nat×Nat×Bool)}{f:Nat}{p:Nat×Nat×Bool}{cs:List V}(ho:o.op= .fieldAddr t x f)(ht:E.ti t=some i)(hd:i.desc= .strct gs)
 (hf:gs[f]? =some p) (hx:ev E 0 a x=some (.addr cs)) (hb:Nat.ble p.1 cs.length=true):OS E N o a [] (.addr (cs.drop p.1)) [] []:=
 .pure fun g D es w act hR _ hF=>by
  obtain⟨fs,h1,h2⟩:=Mf ht hd;obtain⟨fd,h3,h4,⟨inf,h5,h6⟩,h7,_⟩:=OR h2 f p hf;have h8:=z8 hx hR hF;have hle:=Wz hb;generalize hv:act.eval x=v at h8;cases h8 with
  |data h=>cases h
  |addr b off _ k hm hc hr=>
   have h9:fs[f]? =some fd:=by simpa using h3
   refine⟨.pointer (some ⟨b,off+p.1,none⟩),?_,?_⟩
   .simp only[execOp,ho,Instr.fieldAt,y0 h1,Sem.run_bind,Result.andThen_ok,h9,Instr.sureAddr,hv,Sem.run_pure,Ta (E:=E) h5 (by omega),h4]
   .refine .addr b (off+p.1) _ (fun j=>k (p.1+j)) (by simp;omega) (fun j hj=> ?_) (fun j c hj=> ?_)
    .simp only[XT] at hj;rw[Ym];exact hc _ (by omega)
    .rw[XL] at hj;exact hr _ c hj
theorem OS.E5{t:TypeId}{x:Operand}{i:TI}{gs:List (Nat×Nat×Bool)}{f:Nat}{p:Nat×Nat×Bool}{n off:Nat}(ho:o.op= .fieldAddr t x f)(ht:E.ti t=some i)(hd:i.desc= .strct gs)
 (hf:gs[f]? =some p) (hx:ev E 0 a x=some (.ptr n off)):OS E N o a [] (.ptr n (off+p.1)) [] []:=
 .pure fun g D es w act hR _ hF=>by
  obtain⟨fs,h1,h2⟩:=Mf ht hd;obtain⟨fd,h3,h4,⟨inf,h5,h6⟩,h7,_⟩:=OR h2 f p hf;have h8:=z8 hx hR hF;generalize hv:act.eval x=v at h8;cases h8 with
  |data h=>cases h
  |ptr _ _ hD=>
   have h9:fs[f]? =some fd:=by simpa using h3
   refine⟨.pointer (some ⟨g.blk n,off+p.1,none⟩),?_,.ptr n _ hD⟩;simp only[execOp,ho,Instr.fieldAt,y0 h1,Sem.run_bind,Result.andThen_ok,h9,Instr.sureAddr,hv,Sem.run_pure,Ta (E:=E) h5 (by omega),h4]
theorem Ar.sub{g:Gh}{D:Nat->Prop}{w:World}{vs:List Value}{cs:List V}(hl:vs.length=cs.length)(h1:∀v∈vs,v.oneCell'=true)(h:∀(i:Nat) v c,vs[i]? =some v->cs[i]? =some c->Ar g D w v c)
 (off n:Nat):Ar g D w (.agg ((vs.drop off).take n).toArray) (.agg ((cs.drop off).take n)):=by
 refine .agg _ _ (by simp[hl]) (fun v hv=>h1 v (Yc (XZ hv))) (fun i v c hv hc=> ?_);rw[XK] at hv hc;split at hv
 .rename_i hi;rw[if_pos hi] at hc;rw[XL] at hv hc;exact h _ v c hv hc
 .cases hv
def QK(p:Nat×Nat×Bool)(cs:List V):Option V:=bif p.2.2 then some (.agg ((cs.drop p.1).take p.2.1)) else cs[p.1]?
theorem OS.field{t:TypeId}{x:Operand}{i:TI}{gs:List (Nat×Nat×Bool)}{f:Nat}{p:Nat×Nat×Bool}{cs:List V}{c:V}(ho:o.op= .field t x f)(ht:E.ti t=some i)(hd:i.desc= .strct gs)
 (hf:gs[f]? =some p) (hx:ev E 0 a x=some (.agg cs)) (hc:QK p cs=some c):OS E N o a [] c [] []:=
 .pure fun g D es w act hR _ hF=>by
  obtain⟨fs,h1,h2⟩:=Mf ht hd;obtain⟨fd,h3,h4,⟨inf,h5,h6⟩,h7,h8⟩:=OR h2 f p hf;obtain⟨vs,h9,h10,h11,h12⟩:=(z8 hx hR hF).FG;have h13:fs[f]? =some fd:=by simpa using h3
  unfold QK at hc;cases hb:p.2.2 with
  |true=>
   rw[hb] at hc;simp only[cond_true,Wq] at hc;subst hc;refine⟨_,?_,Ar.sub h10 h11 h12 p.1 p.2.1⟩;simp only[execOp,ho,Instr.field,y0 h1,Sem.run_bind,Result.andThen_ok,h13,h9,asAgg,Sem.run_pure,part,h8,hb,if_true,wg h5,h4,h6];simp[List.extract_eq_take_drop]
  |false=>
   rw[hb] at hc;simp only[cond_false] at hc;have hlt:=(Ww.1 hc).1;have h14:vs[p.1]? =some (vs[p.1]'(by omega)):=Wl _;refine⟨vs[p.1]'(by omega),?_,h12 _ _ c h14 hc⟩;have h15:vs.toArray[p.1]? =some (vs[p.1]'(by omega)):=by simp
   simp only[execOp,ho,Instr.field,y0 h1,Sem.run_bind,Result.andThen_ok,h13,h9,asAgg,Sem.run_pure,part,h8,hb,Yq,if_false,h4,h15]
theorem OS.extract{x:Operand}{ix:Nat}{cs:List V}{c:V}(ho:o.op= .extract x ix)(hx:ev E 0 a x=some (.AD cs))(hc:cs[ix]? =some c):OS E N o a [] c [] []:=
 .pure fun g D es w act hR _ hF=>by
  obtain⟨vs,h9,h10,h12⟩:=(z8 hx hR hF).G0;have hlt:=(Ww.1 hc).1;have h14:vs[ix]? =some (vs[ix]'(by omega)):=Wl _;refine⟨vs[ix]'(by omega),?_,h12 _ _ c h14 hc⟩;have h15:vs.toArray[ix]? =some (vs[ix]'(by omega)):=by simp
  simp only[execOp,ho,Instr.extract,h9,h15,Sem.run_bind,Result.andThen_ok,Sem.run_pure]
theorem OS.not{t:TypeId}{x:Operand}{b:Bool}(ho:o.op= .unOp .not t x)(hx:ev E 0 a x=some (.bool b)):OS E N o a [] (.bool (!b)) [] []:=
 .pure fun g D es w act hR _ hF=>⟨_,by simp[execOp,ho,(z8 hx hR hF).Cd,Op.unary],.data (.bool _)⟩
def P6(op:BinOp)(k:IntKind)(n m:Int):Option V:=
 match op with
 | .add=>some (.int k (k.wrap (n+m)))
 | .sub=>some (.int k (k.wrap (n-m)))
 | .mul=>some (.int k (k.wrap (n*m)))
 | .eql=>some (.bool (n==m))
 | .neq=>some (.bool (n !=m))
 | .lss=>some (.bool (decide (n<m)))
 | .leq=>some (.bool (decide (n<=m)))
 | .gtr=>some (.bool (decide (n>m)))
 | .geq=>some (.bool (decide (n>=m)))
 |_=>none
theorem OS.bin{op:BinOp}{t u:TypeId}{x y:Operand}{k:IntKind}{n m:Int}{c:V}(ho:o.op= .binOp op t x y u)(hx:ev E t a x=some (.int k n))(hy:ev E t a y=some (.int k m))
 (hc:P6 op k n m=some c):OS E N o a [] c [] []:=
 .pure fun g D es w act hR _ hF=>by
  have h1:=(z8 hx hR hF).Bl;have h2:=(z8 hy hR hF).Bl;have hg:(eqGuard op t x y (act.eval x) (act.eval y)).run E.P w= .ok () w:=by
   rw[h1,h2];unfold eqGuard;cases op<;>simp
  cases op<;>simp only[P6,Wq,reduceCtorEq] at hc<;>subst hc<;>
   (refine⟨_,by simp only[execOp,ho,hg,Sem.run_bind,Result.andThen_ok];simp only[h1,h2,binOp,ne_eq,not_true_eq_false,if_false,Op.intArith,Op.intCmp,Sem.run_pure,Result.andThen_ok];rfl,?_⟩;first|exact .data (.int _ _)|exact .data (.bool _))
theorem OS.rem{t u:TypeId}{x y:Operand}{k:IntKind}{n m:Int}(ho:o.op= .binOp .rem t x y u)(hx:ev E t a x=some (.int k n))(hy:ev E t a y=some (.int k m))(hm:m≠0):
 OS E N o a [] (.int k (n.tmod m)) [] []:=
 .pure fun g D es w act hR _ hF=>by
  have h1:=(z8 hx hR hF).Bl;have h2:=(z8 hy hR hF).Bl;exact⟨_,by simp[execOp,ho,eqGuard,h1,h2,binOp,Op.intDiv,hm],.data (.int _ _)⟩
theorem OS.add{t u:TypeId}{x y:Operand}{n m:Int}(ho:o.op= .binOp .add t x y u)(hx:ev E t a x=some (.i n))(hy:ev E t a y=some (.i m))(h1: -9223372036854775808<=n+m)(h2:n+m<=9223372036854775807):
 OS E N o a [] (.i (n+m)) [] []:=by
 have:=OS.bin (N:=N) (c:= .int .i64 (IntKind.i64.wrap (n+m))) ho hx hy rfl
 rwa [IntWalk.i64_in _ (by omega)] at this
theorem OS.sub{t u:TypeId}{x y:Operand}{n m:Int}(ho:o.op= .binOp .sub t x y u)(hx:ev E t a x=some (.i n))(hy:ev E t a y=some (.i m))(h1: -9223372036854775808<=n-m)(h2:n-m<=9223372036854775807):
 OS E N o a [] (.i (n-m)) [] []:=by
 have:=OS.bin (N:=N) (c:= .int .i64 (IntKind.i64.wrap (n-m))) ho hx hy rfl
 rwa [IntWalk.i64_in _ (by omega)] at this
theorem OS.GY{op:BinOp}{t u:TypeId}{x y:Operand}{b d:Bool}(ho:o.op= .binOp op t x y u)(hop:op= .eql\/op= .neq)(ht:E.P.underlying t=some .bool)(hx:ev E t a x=some (.bool b))(hy:ev E t a y=some (.bool d)):
 OS E N o a [] (.bool (if op= .eql then b==d else !(b==d))) [] []:=
 .pure fun g D es w act hR _ hF=>by
  have h1:=(z8 hx hR hF).Cd;have h2:=(z8 hy hR hF).Cd;have he:(Op.equal t (.bool b) (.bool d)).run E.P w= .ok (b==d) w:=run_equalIn_bool' w _ t b d ht;rcases hop with rfl|rfl
  .exact ⟨.bool (b==d),by simp[execOp,ho,eqGuard,h1,h2,binOp,he],by simp;exact .data (.bool _)⟩
  .exact ⟨.bool (!(b==d)),by simp[execOp,ho,eqGuard,h1,h2,binOp,he],by simp;exact .data (.bool _)⟩
theorem OS.N3{t u:TypeId}{x:Operand}{sp:Sp}{l:SL V}(ho:o.op= .call {callee:= .builtin .len,args:= #[x],argTypes:= #[t]}){i:TI}(ht:E.ti t=some i){c:Option EC}{sz by_:Nat}(hd:i.desc= .slc c sz by_)
 (hx:ev E t a x=some (.slice sp l)):OS E N o a [] (.i l.len) [] []:=
 .pure fun g D es w act hR _ hF=>by
  obtain⟨b,cap,h1⟩:=(z8 hx hR hF).Bh.Bh;obtain⟨d,h2,h3⟩:=IQ ht;rw[hd] at h3;cases d with
  |slice e=>
   refine⟨_,?_,.data (.int .i64 l.len)⟩;simp[execOp,ho,resolve,invoke,builtin,Builtin.len_,h1,y0 h2,goInt]
  |_=>cases h3
def VW:V->Bool| .addr _=>true| .ptr _ _=>true|_=>false
theorem OS.nilCheck{x:Operand}{c:V}(ho:o.op= .nilCheck x)(hx:ev E 0 a x=some c)(hc:VW c=true):OS E N o a [] c [] []:=
 .pure fun g D es w act hR _ hF=>by
  have h1:=z8 hx hR hF;refine⟨act.eval x,?_,h1⟩;generalize hv:act.eval x=v at h1;cases h1 with
  |addr=>simp[execOp,ho,hv]
  |ptr=>simp[execOp,ho,hv]
  |data h=>cases h<;>cases hc
  |_=>cases hc
def Eg(E:Env)(T:TypeId)(a:AF):List Operand->Option (List V)
 |[]=>some []
 |x::xs=>(ev E T a x).bind fun v=>(Eg E T a xs).map fun vs=>v::vs
theorem MU{T:TypeId}:∀{xs:List Operand} {vs:List V},Eg E T a xs=some vs->∀{g:Gh} {D:Nat->Prop} {es:Es} {w:World} {act:Act},R E.G g D es w->BA g D w N act a->
 (xs.map act.eval).length=vs.length/\∀(i:Nat) v c,(xs.map act.eval)[i]? =some v->vs[i]? =some c->Ar g D w v c:=by
 intro xs;induction xs with
 |nil=>intro vs h g D es w act hR hF;simp[Eg] at h;subst h;simp
 |cons x l ih=>
  intro vs h g D es w act hR hF;simp only[Eg,Wx,Wo] at h;obtain⟨v,h1,vs',h2,rfl⟩:=h;obtain⟨h3,h4⟩:=ih h2 hR hF;refine⟨by simp at h3 ⊢;exact h3,fun i u c hu hc=> ?_⟩;cases i with
  |zero=>simp at hu hc;subst hu;subst hc;exact z8 h1 hR hF
  |succ i=>simp only[Wn,Xb] at hu hc;exact h4 i u c hu hc
theorem OS.makeFunc{f:Fn}{fi caps:List Operand}{vs us:List V}(ho:o.op= .makeFunc f fi.toArray caps.toArray)(h1:Eg E 0 a fi=some vs)(h2:Eg E 0 a caps=some us):OS E N o a [] (.fn f vs us) [] []:=
 .pure fun g D es w act hR _ hF=>by
  obtain⟨h3,h4⟩:=MU h1 hR hF;obtain⟨h5,h6⟩:=MU h2 hR hF;refine⟨.func f (fi.map act.eval).toArray (caps.map act.eval).toArray,?_,.fn f _ _ vs us h3 h5 h4 h6⟩;simp[execOp,ho,Instr.makeFunc]
end
def Kv:V->Bool
 | .int _ _=>true| .bool _=>true| .str _=>true| .slice _ _=>true| .ifc _ _=>true|_=>false
theorem Zyc{g:Gh}{D:Nat->Prop}{w:World}{v:Value}{c:V}(h:Ar g D w v c)(hd:Kv c=true):A6 g.m w v c.weak:=by
 cases c with
 |int k n=>cases h with|data h=>exact h
 |bool b=>cases h with|data h=>exact h
 |str s=>cases h with|data h=>exact h
 |slice sp l=>exact h.Bh
 |ifc t cs=>cases h with|data h=>exact h
 |_=>cases hd
def Ed{α β:Type}(f:α->Option β):List α->Option (List β)
 |[]=>some []
 |x::l=>(f x).bind fun y=>(Ed f l).map fun ys=>y::ys
theorem L4{α β:Type}{f:α->Option β}:∀{l:List α} {ys:List β},Ed f l=some ys->ys.length=l.length/\∀(i:Nat) x,l[i]? =some x->∃y,ys[i]? =some y/\f x=some y:=by
 intro l;induction l with
 |nil=>intro ys h;simp[Ed] at h;subst h;simp
 |cons x l ih=>
  intro ys h;simp only[Ed,Wx,Wo] at h;obtain⟨y,h1,ys',h2,rfl⟩:=h;obtain⟨h3,h4⟩:=ih h2;refine⟨by simp[h3],fun i z hz=> ?_⟩;cases i with
  |zero=>simp at hz;subst hz;exact⟨y,rfl,h1⟩
  |succ i=>simp only[Xb] at hz ⊢;exact h4 i z hz
def G4(c:Option EC)(sz:Nat)(vcs:List (List V)):Option (SL V):=
 match c with
 |some c=>(Ed c.fold vcs).map (.t c)
 |none=>bif vcs.all fun vc=>vc.all Kv then some (.u sz (vcs.map fun vc=>vc.map V.weak)) else none
theorem EC.FZ(c:EC)(cs:List V)(x:c.sem)(h:c.fold cs=some x):∀v∈cs,Kv v=true:=by
 unfold EC.fold at h;split at h<;>first|(cases h;intro v hv;simp only[WE,WS,or_false] at hv;rcases hv with rfl|rfl|rfl|rfl|rfl|rfl|rfl<;>rfl)|(cases h;intro v hv;simp only[WE,WS,or_false] at hv;rcases hv with rfl|rfl|rfl|rfl|rfl<;>rfl)|(cases h;intro v hv;simp only[WE,WS,or_false] at hv;rcases hv with rfl|rfl|rfl|rfl<;>rfl)|(cases h;intro v hv;simp only[WE,WS,or_false] at hv;rcases hv with rfl|rfl|rfl<;>rfl)|(cases h;intro v hv;simp only[WE,WS,or_false] at hv;rcases hv with rfl|rfl<;>rfl)|(cases h;intro v hv;simp only[WE,WS,or_false] at hv;rcases hv with rfl;rfl)|cases h
theorem Zip{c:Option EC}{sz:Nat}{vcs:List (List V)}{l:SL V}(h:G4 c sz vcs=some l)(hc:LK c sz=true):
 l.len=vcs.length/\l.cells=sz/\(∀(i:Nat) vc,vcs[i]? =some vc->l.get i=some (vc.map V.weak)/\∀v∈vc,Kv v=true):=by
 cases c with
 |some c=>
  simp only[G4,Wo] at h;obtain⟨xs,h1,rfl⟩:=h;obtain⟨h2,h3⟩:=L4 h1;refine⟨h2,WK hc,fun i vc hvc=> ?_⟩;obtain⟨x,h4,h5⟩:=h3 i vc hvc;refine⟨?_,EC.FZ c vc x h5⟩;simp only[SL.get,h4,Xe];rw[EC.FY c vc x h5]
 |none=>
  simp only[G4] at h;cases hb:vcs.all fun vc=>vc.all Kv with
  |false=>rw[hb] at h;cases h
  |true=>
   rw[hb] at h;simp only[cond_true,Wq] at h;subst h;refine⟨by simp[SL.len],rfl,fun i vc hvc=>⟨by simp[SL.get,hvc],?_⟩⟩;have:=Wm.1 hb vc (Xx hvc);exact fun v hv=>Wm.1 this v hv
theorem V2{sz k:Nat}(h:0<sz)(n:Nat)(hk:k<n*sz):k/sz<n/\k%sz<sz/\k/sz*sz+k%sz=k:=by
 refine⟨(YA h).2 hk,Y7 _ h,?_⟩;have:=Ze k sz;rw[Yv] at this;exact this
theorem Ybm{α:Type}{sz:Nat}:∀{vcs:List (List α)},(∀vc∈vcs,vc.length=sz)->∀(i j:Nat) vc x,vcs[i]? =some vc->vc[j]? =some x->vcs.flatten[i*sz+j]? =some x:=by
 intro vcs;induction vcs with
 |nil=>intro _ i j vc x h;simp at h
 |cons v l ih=>
  intro hl i j vc x h1 h2;have hv:=hl v (by simp);cases i with
  |zero=>
   simp at h1;subst h1;have:=(Ww.1 h2).1;simp[WC this,h2]
  |succ i=>
   simp only[Xb] at h1;have:=ih (fun vc h=>hl vc (by simp[h])) i j vc x h1 h2;rw[Xd,WG (by rw[hv,W9];omega),hv,W9];rw[show i*sz+1*sz+j-sz=i*sz+j from by omega];exact this
theorem Se{α:Type}{sz:Nat}:∀{vcs:List (List α)},(∀vc∈vcs,vc.length=sz)->vcs.flatten.length=vcs.length*sz:=by
 intro vcs;induction vcs with
 |nil=>intro _;simp
 |cons v l ih=>intro hl;rw[Xd,WD,hl v (by simp),ih (fun vc h=>hl vc (by simp[h])),Wy,W9];omega
section
variable {E:Env} {N:Nat} {o:Oper} {a:AF}
theorem Hx{t:TypeId}{i:TI}{c:Option EC}{sz bytes:Nat}(h:E.ti t=some i)(hd:i.desc= .slc c sz bytes):
 ∃e inf z,E.P.underlying t=some (.slice e)/\E.P.info? e=some inf/\inf.size=sz/\inf.bytes=bytes/\inf.zero=some z/\z.cells.size=sz/\0<sz/\LK c sz=true:=by
 obtain⟨d,h1,h2⟩:=IQ h;rw[hd] at h2;cases d with
 |slice e=>
  simp only[Wk] at h2;obtain⟨⟨h3,h4⟩,h5⟩:=h2;unfold N6 at h3;split at h3
  .rename_i inf hi;simp only[Wk] at h3;obtain⟨⟨h6,h7⟩,h8⟩:=h3;split at h8
   .rename_i z hz;exact⟨e,inf,z,h1,hi,WK h6,WK h7,hz,WK h8,Wz h4,h5⟩
   .cases h8
  .cases h3
 |_=>cases h2
theorem UE{sz:Nat}:∀(parts:List Value) (k:Nat) (cells:Array Value),(∀v∈parts,v.cells.size=sz)->(k+parts.length)*sz<=cells.size->
 Instr.fill (fun i=>some (i*sz,sz)) cells (parts.zipIdx k|>.map fun(v,i)=>(i,v))=
  some (cells.toList.take (k*sz)++(parts.map fun v=>v.cells.toList).flatten++cells.toList.drop ((k+parts.length)*sz)).toArray:=by
 intro parts;induction parts with
 |nil=>intro k cells _ _;simp[Instr.fill]
 |cons v l ih=>
  intro k cells hs hle;have hv:=hs v (by simp);simp only[Wy] at hle;have hk:(k+1)*sz<=cells.size:=W8 (Xw _ (by omega)) hle;have hk1:(k+1)*sz=k*sz+sz:=by rw[W9,ZP]
  have hfold:∀(us:List Value) (j:Nat) (cs:Array Value),k*sz+j+us.length<=cs.size->
   (us.zipIdx j).foldl (fun cs (x:Value×Nat)=>cs.setIfInBounds (k*sz+x.2) x.1) cs=(cs.toList.take (k*sz+j)++us++cs.toList.drop (k*sz+j+us.length)).toArray:=by
   intro us;induction us with
   |nil=>intro j cs _;simp
   |cons u us ih2=>
    intro j cs hcs;simp only[Wy] at hcs;simp only[Y2,Zf];rw[ih2 (j+1) _ (by simp;omega)];congr 1;rw[Yd];have:=list_seg_step cs.toList (k*sz+j) u us (by simp;omega);rw[show k*sz+(j+1)=k*sz+j+1 from by omega];exact this
  have h1:v.cells.zipIdx.foldl (fun cs (x:Value×Nat)=>cs.setIfInBounds (k*sz+x.2) x.1) cells=(cells.toList.take (k*sz)++v.cells.toList++cells.toList.drop (k*sz+sz)).toArray:=by
   rw[<-Array.foldl_toList,Array.toList_zipIdx];have:=hfold v.cells.toList 0 cells (by simp[hv];omega);simpa[hv] using this
  simp only[Y2,Wn,Instr.fill];rw[if_neg (by simp[hv];omega)];have h2:(cells.toList.take (k*sz)++v.cells.toList++cells.toList.drop (k*sz+sz)).length=cells.size:=by
   simp[hv];omega
  have:=ih (k+1) (cells.toList.take (k*sz)++v.cells.toList++cells.toList.drop (k*sz+sz)).toArray (fun x hx=>hs x (by simp[hx])) (by rw[Ya,h2];rw[show k+1+l.length=k+(l.length+1) from by omega];exact hle);show Instr.fill _ (v.cells.zipIdx.foldl (fun cs (x:Value×Nat)=>cs.setIfInBounds (k*sz+x.2) x.1) cells) _=_;rw[h1,this];congr 2;rw[show k+1+l.length=k+(l.length+1) from by omega,Wy];have h3:(cells.toList.take (k*sz)++v.cells.toList).length=(k+1)*sz:=by simp[hv];omega
  have h4:List.take ((k+1)*sz) (cells.toList.take (k*sz)++v.cells.toList++cells.toList.drop (k*sz+sz))=cells.toList.take (k*sz)++v.cells.toList:=by
   rw[<-h3,List.take_left]
  have h5:List.drop ((k+(l.length+1))*sz) (cells.toList.take (k*sz)++v.cells.toList++cells.toList.drop (k*sz+sz))=cells.toList.drop ((k+(l.length+1))*sz):=by
   have h6:(k+(l.length+1))*sz=(k+1)*sz+l.length*sz:=by rw[<-W9];congr 1;omega
   rw[h6,<-h3,Y3,List.drop_drop,h3,hk1];simp[hv];omega
  rw[h4,h5];simp[Wr]
theorem Sb{sz:Nat}:∀{cs:List V} {vcs:List (List V)},Ed cellsOf cs=some vcs->∀{g:Gh} {D:Nat->Prop} {w:World} {vs:List Value},vs.length=cs.length->
 (∀(i:Nat) v c,vs[i]? =some v->cs[i]? =some c->Ar g D w v c)->(∀vc∈vcs,vc.length=sz)->
 (∀v∈vs,v.cells.size=sz)/\(∀(i j:Nat) vc c,vcs[i]? =some vc->vc[j]? =some c->∃x,(vs.map fun v=>v.cells.toList).flatten[i*sz+j]? =some x/\Ar g D w x c):=by
 intro cs vcs hm g D w vs hl hr hsz;obtain⟨h1,h2⟩:=L4 hm;have hv:∀v∈vs,v.cells.size=sz:=by
  intro v hv;obtain⟨i,hi,rfl⟩:=WT hv;have h3:cs[i]? =some (cs[i]'(by omega)):=Wl _;obtain⟨vc,h4,h5⟩:=h2 i _ h3;obtain⟨us,h6,h7,_⟩:=vt h5 (hr i _ _ (Wl hi) h3);rw[h6,Ya,h7];exact hsz vc (Xx h4)
 refine⟨hv,fun i j vc c h3 h4=> ?_⟩;have hi:=(Ww.1 h3).1;have h5:cs[i]? =some (cs[i]'(by omega)):=Wl _;have h6:vs[i]? =some (vs[i]'(by omega)):=Wl _;obtain⟨vc',h7,h8⟩:=h2 i _ h5;rw[h3] at h7;cases h7;obtain⟨us,h9,h10,_,h11⟩:=vt h8 (hr i _ _ h6 h5);obtain⟨x,hx⟩:=Ax h10.symm h4;refine⟨x,Ybm (sz:=sz) ?_ i j us x ?_ hx,h11 j x c hx h4⟩
 .intro vc hvc;obtain⟨v,hv1,rfl⟩:=WA.1 hvc;simpa using hv v hv1
 .rw[WY,h6,Xe,h9]
theorem Znu{G:Dm}{g:Gh}{D:Nat->Prop}{es:Es}{w:World}(hR:R G g D es w){c:Option EC}{sz:Nat}{vcs:List (List V)}{l:SL V}(hf:G4 c sz vcs=some l)
 (hc:LK c sz=true) (hsz:∀vc∈vcs,vc.length=sz) (us:List Value) (hus:vcs.length*sz<=us.length)
 (hrel:∀(i j:Nat) vc c,vcs[i]? =some vc->vc[j]? =some c->∃x,us[i*sz+j]? =some x/\Ar g D w x c) (t:TypeId) (cap:Nat) (hcap:vcs.length<=cap):
 A6 (g.share w.heap.size (vcs.length*sz)).m (w.alloc (.cells us.toArray t)) (.slice (some ⟨w.heap.size,0,none⟩) l.len cap) (.slice .any l):=by
 obtain⟨h1,h2,h3⟩:=Zip hf hc;obtain⟨hR',hx⟩:=hR.share us.toArray t (vcs.length*sz) (by simpa using hus);have hget:∀i,i<l.len->∃vc,vcs[i]? =some vc:=fun i hi=>⟨vcs[i]'(by omega),Wl _⟩;refine .slice l w.heap.size 0 cap (fun i j=>us.getD (i*sz+j) undef) (by rw[h1,h2];simp[Gh.share]) (by omega) ?_ ?_ ?_
 .intro i hi;obtain⟨vc,hvc⟩:=hget i hi;refine⟨vc.map V.weak,(h3 i vc hvc).1,?_⟩;rw[Xt,h2];exact hsz vc (Xx hvc)
 .intro i j hi hj;rw[h2] at hj ⊢;rw[Xg,HD (heap_alloc_new w _)];have:=Nv (show i<vcs.length by omega) hj;have hlt:i*sz+j<us.length:=by omega
  simp[Wl hlt,WJ]
 .intro i j cs d hi hcs hd;obtain⟨vc,hvc⟩:=hget i hi;obtain⟨h4,h5⟩:=h3 i vc hvc;rw[h4] at hcs;cases hcs;rw[WY,Wo] at hd;obtain⟨c0,h6,rfl⟩:=hd;obtain⟨x,h7,h8⟩:=hrel i j vc c0 hvc h6;rw[WJ,h7];exact(Zyc h8 (h5 c0 (Xx h6))).mono hx.mark hx.cells
theorem OS.buildSlice{t:TypeId}{n:Nat}{xs:List Operand}{i:TI}{c:Option EC}{sz bytes:Nat}{et:TypeId}{cs:List V}{vcs:List (List V)}{l:SL V}
 (ho:o.op= .buildSlice t n (xs.zipIdx.map fun x=>(x.2,x.1)).toArray) (hn:xs.length=n) (ht:E.ti t=some i) (hd:i.desc= .slc c sz bytes) (hev:Eg E et a xs=some cs) (hcs:Ed cellsOf cs=some vcs)
 (hsz:(vcs.all fun vc=>Nat.beq vc.length sz)=true) (hf:G4 c sz vcs=some l) (hb:Nat.ble (n*sz) 16777216=true):OS E N o a [] (.slice .full l) [] []:=
 .of_run fun g D es w act hR _ _ hF=>by
  obtain⟨e,inf,z,h1,h2,h3,h4,h5,h6,h7,h8⟩:=Hx ht hd;obtain⟨h9,h10⟩:=MU hev hR hF;have hsz':∀vc∈vcs,vc.length=sz:=fun vc hvc=>WK (Wm.1 hsz vc hvc);obtain⟨h11,h12⟩:=Sb hcs h9 h10 hsz';have hvl:=(L4 hcs).1;have hlen:(xs.map act.eval).length=n:=by simpa using hn
  have hvn:vcs.length=n:=by rw[hvl,<-h9,hlen]
  have hflat:=Se (sz:=sz) (vcs:=(xs.map act.eval).map fun v=>v.cells.toList) (fun vc hvc=>by
   obtain⟨v,hv1,rfl⟩:=WA.1 hvc;simpa using h11 v hv1)
  simp only[Xt,hn] at hflat;have hs:=Znu hR hf h8 hsz' ((xs.map act.eval).map fun v=>v.cells.toList).flatten (by rw[hflat,hvn];exact Wj _) (fun i j vc c hvc hc=>h12 i j vc c hvc hc) e n (by omega);obtain⟨hR',hx⟩:=hR.share (((xs.map act.eval).map fun v=>v.cells.toList).flatten).toArray e (vcs.length*sz) (by rw[Ya,hflat,hvn];exact Wj _);have hll:=(Zip hf h8).1;refine⟨_,.slice (some ⟨w.heap.size,0,none⟩) n n,_,?_,hR'.more (fun n h=> .inl h),?_,hx⟩
  .have hb':¬(n*sz>16777216):=by have:=Wz hb;omega
   have hparts:((xs.zipIdx.map fun x=>(x.2,x.1)).toArray.map fun x=>(x.1,act.eval x.2)).toList=((xs.map act.eval).zipIdx 0).map fun(v,i)=>(i,v):=by
    simp[List.zipIdx_map]
   have key:∀cells:Array Value,cells.size=n*sz->Instr.fill (fun i=>some (i*sz,sz)) cells ((xs.zipIdx.map fun x=>(x.2,x.1)).toArray.map fun x=>(x.1,act.eval x.2)).toList=
    some (((xs.map act.eval).map fun v=>v.cells.toList).flatten).toArray:=by
    intro cells hcells;rw[hparts,UE (xs.map act.eval) 0 cells h11 (by rw[hlen,Xg,hcells];exact Wj _)];congr 2;rw[hlen];simp[hcells]
   simp only[execOp,ho,Instr.buildSlice,y0 h1,Sem.run_bind,Result.andThen_ok,wg h2,h3,hb',if_false];by_cases hz:n*sz=0
   .rw[if_pos hz];simp only[Sem.run_bind,Sem.run_pure,Result.andThen_ok];rw[key _ (by rw[YM,YD])];simp only[newRow,Sem.run_bind,run_newObj,Result.andThen_ok,Sem.run_pure,World.alloc_eq]
   .rw[if_neg hz];simp only[Sem.run_bind,NA h2 h5,Result.andThen_ok,Sem.run_pure];rw[key _ (by rw[YM,YD])];simp only[newRow,Sem.run_bind,run_newObj,Result.andThen_ok,Sem.run_pure,World.alloc_eq]
  .have hln:l.len=n:=hll.trans hvn;rw[hln] at hs;have hfull:=Ar.full (g:=g.share w.heap.size (vcs.length*sz)) (D:=fun k=>D k\/k∈([]:List Nat)) ⟨w.heap.size,0,none⟩ n l hs;exact hfull
end
section
variable {E:Env} {N:Nat} {o:Oper} {a:AF}
theorem A6.CL{m:Nat->Nat}{w:World}{v:Value}{l:SL V}(h:A6 m w v (.slice .any l)):
 ∃news:List Value,news.length=l.len*l.cells/\(∀u∈news,u.oneCell'=true)/\(∀W:World,W.heap=w.heap->∀P:Program,(Builtin.firstCells l.cells l.len v).run P W= .ok news.toArray W)/\
  (∀i j cs c,l.get i=some cs->cs[j]? =some c->i<l.len->j<l.cells->∃u,news[i*l.cells+j]? =some u/\A6 m w u c)/\(∀i,i<l.len->∃cs,l.get i=some cs/\cs.length=l.cells):=by
 cases h with
 |nilS _ h=>exact⟨[],by simp[h],by simp,fun W _ P=>by simp[Builtin.firstCells],fun i j cs c _ _ hi=>by omega,fun i hi=>by omega⟩
 |emp _ h a cap=>exact⟨[],by simp[h],by simp,fun W _ P=>by simp[h,Builtin.firstCells,loadCells,loadCellsFrom],fun i j cs c _ _ hi=>by omega,fun i hi=>by omega⟩
 |slice _ b off cap f hm hcap hl hc hr=>
  have hmod:∀k,k<l.len*l.cells->0<l.cells:=fun k hk=>by
   rcases Yp l.cells with h|h
   .rw[h] at hk;omega
   .exact h
  refine⟨(List.range (l.len*l.cells)).map fun k=>f (k/l.cells) (k%l.cells),by simp,?_,?_,?_,hl⟩
  .intro u hu;obtain⟨k,hk,rfl⟩:=WA.1 hu;obtain⟨h1,h2,h3⟩:=V2 (hmod k (X0.1 hk)) l.len (X0.1 hk);obtain⟨cs,h4,h5⟩:=hl _ h1;exact(hr _ _ cs _ h1 h4 (Wl (by rw[h5];exact h2))).one
  .intro W hW P;have:=run_firstCells_some (P:=P) W l.cells l.len ⟨b,off,none⟩ l.len cap ((List.range (l.len*l.cells)).map fun k=>f (k/l.cells) (k%l.cells)) (by simp) (fun k v hv=>by
    rw[WY,Wo] at hv;obtain⟨k',hk',rfl⟩:=hv;obtain⟨h6,h7⟩:=Ww.1 hk';simp only[List.length_range] at h6;simp only[YL] at h7;subst h7;obtain⟨h1,h2,h3⟩:=V2 (hmod k h6) l.len h6;have:=hc _ _ h1 h2;rw[h3] at this;rw[GN];have hcell:W.cell? ⟨b,off+k,none⟩=w.cell? ⟨b,off+k,none⟩:=by simp[World.cell?,hW]
    rw[hcell];exact this)
   exact this
  .intro i j cs c h1 h2 hi hj;refine⟨f i j,?_,hr i j cs c hi h1 h2⟩;have hlt:=Nv hi hj;rw[WY,Wl (by simpa using hlt)];simp only[YL,Xe];congr 2
   .rw[Yv,Nat.mul_add_div (by omega),Nat.div_eq_of_lt hj,XR]
   .rw[Yv,Nat.mul_add_mod,Nat.mod_eq_of_lt hj]
def SL.app:SL V->SL V->Option (SL V)
 | .t c xs,.t c' ys=>if h:c'=c then some (.t c (xs++(h▸ys))) else none
 | .u s xs,.u s' ys=>bif Nat.beq s s' then some (.u s (xs++ys)) else none
 |_,_=>none
theorem SL.EB{l l' l2:SL V}(h:l.app l'=some l2):l2.len=l.len+l'.len/\l2.cells=l.cells/\l'.cells=l.cells/\(∀i,i<l.len->l2.get i=l.get i)/\(∀i,l2.get (l.len+i)=l'.get i):=by
 cases l with
 |t c xs=>
  cases l' with
  |t c' ys=>
   simp only[SL.app] at h;split at h
   .rename_i hc;subst hc;cases h;refine⟨by simp[SL.len],rfl,rfl,fun i hi=> ?_,fun i=> ?_⟩
    .simp only[SL.len] at hi;simp[SL.get,WC hi]
    .simp[SL.get,SL.len,WG]
   .cases h
  |u s ys=>cases h
 |u s xs=>
  cases l' with
  |t c' ys=>cases h
  |u s' ys=>
   simp only[SL.app] at h;cases hb:Nat.beq s s' with
   |false=>rw[hb] at h;cases h
   |true=>
    rw[hb] at h;simp only[cond_true,Wq] at h;subst h;have:=WK hb;refine⟨by simp[SL.len],rfl,this.symm,fun i hi=> ?_,fun i=> ?_⟩
    .simp only[SL.len] at hi;simp[SL.get,WC hi]
    .simp[SL.get,SL.len,WG]
theorem TS{m:Nat->Nat}{w:World}{l l' l2:SL V}(h2:l.app l'=some l2){olds news rest:List Value}(ho:olds.length=l.len*l.cells)
 (hor:∀i j cs c,l.get i=some cs->cs[j]? =some c->i<l.len->j<l.cells->∃u,olds[i*l.cells+j]? =some u/\A6 m w u c)
 (hnr:∀i j cs c,l'.get i=some cs->cs[j]? =some c->i<l'.len->j<l'.cells->∃u,news[i*l'.cells+j]? =some u/\A6 m w u c):
 ∀i j cs c,l2.get i=some cs->cs[j]? =some c->i<l2.len->j<l2.cells->∃u,(olds++news++rest)[i*l2.cells+j]? =some u/\A6 m w u c:=by
 obtain⟨h3,h4,h5,h6,h7⟩:=SL.EB h2;intro i j cs c h8 h9 hi hj;rw[h4] at hj ⊢;by_cases hil:i<l.len
 .rw[h6 i hil] at h8;obtain⟨u,h10,h11⟩:=hor i j cs c h8 h9 hil hj;refine⟨u,?_,h11⟩;have:=(Ww.1 h10).1;rw[Wr,WC this];exact h10
 .have hi2:l.len+(i-l.len)=i:=by omega
  rw[<-hi2,h7] at h8;obtain⟨u,h10,h11⟩:=hnr (i-l.len) j cs c h8 h9 (by omega) (by omega);refine⟨u,?_,h11⟩;rw[h5] at h10;have h12:=(Ww.1 h10).1;have h13:i*l.cells+j=olds.length+((i-l.len)*l.cells+j):=by
   rw[ho,<-Ym,<-W9,hi2]
  rw[Wr,h13,WG (by omega),X2,WC h12];exact h10
theorem A6.Ff{m m':Nat->Nat}{w w':World}{l:SL V}{b cap:Nat}{cells:List Value}{t:TypeId}{fr:Nat×Nat}(hh:w'.heap[b]? =some (.cells cells.toArray t fr))(hcap:l.len<=cap)
 (hm:l.len*l.cells<=m' b) (hl:∀i,i<l.len->∃cs,l.get i=some cs/\cs.length=l.cells)
 (hr:∀i j cs c,l.get i=some cs->cs[j]? =some c->i<l.len->j<l.cells->∃u,cells[i*l.cells+j]? =some u/\A6 m w u c)
 (hmm:∀b,m b<=m' b) (hw:∀b o,o<m b->w'.cell? ⟨b,o,none⟩=w.cell? ⟨b,o,none⟩):
 A6 m' w' (.slice (some ⟨b,0,none⟩) l.len cap) (.slice .any l):=by
 refine .slice l b 0 cap (fun i j=>cells.getD (i*l.cells+j) undef) (by omega) hcap hl (fun i j hi hj=> ?_) (fun i j cs c hi h1 h2=> ?_)
 .obtain ⟨cs,h3,h4⟩:=hl i hi;obtain⟨u,h5,_⟩:=hr i j cs _ h3 (Wl (by omega)) hi hj;rw[Xg,HD hh];simp[h5,WJ]
 .obtain ⟨cs',h3,h4⟩:=hl i hi;rw[h1] at h3;cases h3;have hj:=(Ww.1 h2).1;obtain⟨u,h5,h6⟩:=hr i j cs c h1 h2 hi (by omega);rw[WJ,h5];exact h6.mono hmm hw
theorem Zm7{P:Program}{w:World}{t ty e:TypeId}{i:TypeInfo}(ht:P.underlying t=some (.slice e))(hi:P.info? e=some i){base:Option Addr}{sLen sCap:Nat}(hle:sLen<=sCap){xb:Option Addr}{xc:Nat}
 (hx:(Builtin.firstCells i.size 0 (.slice xb 0 xc)).run P w= .ok #[] w):
 (Builtin.append_ #[t,t] ty #[.slice base sLen sCap,.slice xb 0 xc]).run P w= .ok (.slice base sLen sCap) w:=by
 cases base with
 |none=>simp[Builtin.append_,run_underlying ht,sizeOf,typeInfo,hi,Builtin.lenOf,hle,hx]
 |some b=>simp[Builtin.append_,run_underlying ht,sizeOf,typeInfo,hi,Builtin.lenOf,hle,hx,storeCells]
theorem Lw{P:Program}{w:World}{t ty e:TypeId}{i:TypeInfo}{z:Value}(ht:P.underlying t=some (.slice e))(hi:P.info? e=some i)(hz:i.zero=some z){base:Option Addr}{sLen sCap:Nat}{xb:Option Addr}{n xc:Nat}
 {olds news:List Value} (ho:∀W:World,W.heap=w.heap->(Builtin.firstCells i.size sLen (.slice base sLen sCap)).run P W= .ok olds.toArray W)
 (hx:∀W:World,W.heap=w.heap->(Builtin.firstCells i.size n (.slice xb n xc)).run P W= .ok news.toArray W) (hg:sCap<sLen+n) (hb:(sLen+n)*i.bytes<=140737488355328) (h63:sLen+n<=9223372036854775807):
 (Builtin.append_ #[t,t] ty #[.slice base sLen sCap,.slice xb n xc]).run P w=
  .ok (.slice (some ⟨w.heap.size,0,none⟩) (sLen+n) (grownCap w (sLen+n) sCap e))
   (w.drew.alloc (.cells (olds++news++(Builtin.zeroCells z.cells (grownCap w (sLen+n) sCap e-(sLen+n))).toList).toArray e)):=by
 have hn:¬(sLen+n<=sCap):=by omega
 have h63':¬(9223372036854775807<((sLen:Int)+(n:Int))):=by omega
 have h48':¬(281474976710656<Builtin.nextslicecap (sLen+n) sCap*i.bytes):=by have:=growslice_fits hg hb;omega
 have hf:=hx w.drew rfl;have hfo:=ho w.drew rfl;simp[Builtin.append_,run_underlying ht,sizeOf,typeInfo,zeroValue,hi,hz,Builtin.lenOf,hn,h63',h48',Question.forced,hf,hfo,newRow,grownCap];congr 2;apply Array.ext';simp
theorem T9{P:Program}{w:World}{t ty e:TypeId}{i:TypeInfo}(ht:P.underlying t=some (.slice e))(hi:P.info? e=some i){b sLen sCap:Nat}{cur:Array Value}{e0:TypeId}(hh:w.heap[b]? =some (.cells cur e0 (0,0)))
 {xb:Option Addr} {n xc:Nat} {news:List Value} (hl:news.length=n*i.size) (h1:∀u∈news,u.oneCell'=true)
 (hx:(Builtin.firstCells i.size n (.slice xb n xc)).run P w= .ok news.toArray w) (hroom:sLen+n<=sCap) (hfit:sLen*i.size+news.length<=cur.size):
 (Builtin.append_ #[t,t] ty #[.slice (some ⟨b,0,none⟩) sLen sCap,.slice xb n xc]).run P w=
  .ok (.slice (some ⟨b,0,none⟩) (sLen+n) sCap) (w.setRow b (cur.toList.take (sLen*i.size)++news++cur.toList.drop (sLen*i.size+news.length)).toArray):=by
 have hst:=run_storeCells_at P b (sLen*i.size) e0 news 0 cur w hh (by simpa using hfit) h1;simp only[XR] at hst;simp[Builtin.append_,run_underlying ht,sizeOf,typeInfo,hi,Builtin.lenOf,hroom,hx,GN,hst]
def Hl:Sp->Es
 | .own r=>[(r,.row)]
 |_=>[]
def HV(n:Nat):Sp->Es
 | .own r=>[(n,.row),(r,.gone)]
 |_=>[(n,.row)]
def My:Sp->Bool| .nil=>true| .own _=>true|_=>false
theorem OS.Fo{t:TypeId}{s x:Operand}{i:TI}{c:Option EC}{sz bytes n:Nat}{sp sp':Sp}{l l' l2:SL V}(ho:o.op= .call {callee:= .builtin .append,args:= #[s,x],argTypes:= #[t,t]})
 (ht:E.ti t=some i) (hd:i.desc= .slc c sz bytes) (hs:ev E t a s=some (.slice sp l)) (hx:ev E t a x=some (.slice sp' l')) (hsp:My sp=true\/(sp= .full/\0<l'.len))
 (hl:l.app l'=some l2) (hsz:Nat.beq l.cells sz=true) (hb:(l.len+l'.len)*bytes<=140737488355328) (hb2:l.len+l'.len<=9223372036854775807):OS E N o a (Hl sp) (.slice (.own n) l2) [n] (HV n sp):=
 .of_run fun g D es w act hR hp hn hF=>by
  obtain⟨e,inf,z,h1,h2,h3,h4,h5,h6,h7,h8⟩:=Hx ht hd;have hcs:l.cells=sz:=WK hsz;obtain⟨h9,h10,h11,h12,h13⟩:=SL.EB hl;have hn':¬D n:=hn n (by simp);have hvs:=z8 hs hR hF;have hdx:=(z8 hx hR hF).Bh;obtain⟨xb,xc,hxv⟩:=hdx.Bh;obtain⟨news,hnl,hn1,hnf,hnr,hnl2⟩:=hdx.CL;have hsz':l'.cells=inf.size:=by rw[h11,hcs,h3]
  rw[hxv] at hnf;have hgl:∀i,i<l2.len->(∀i,i<l.len->∃cs,l.get i=some cs/\cs.length=l.cells)->∃cs,l2.get i=some cs/\cs.length=l2.cells:=fun i hi hol=>by
   by_cases h:i<l.len
   .rw[h12 i h,h10];exact hol i h
   .have:=h13 (i-l.len);rw[show l.len+(i-l.len)=i from by omega] at this;rw[this,h10,<-h11];exact hnl2 _ (by omega)
  have hDD:∀i,(D i\/i=n)->(D i\/i∈[n]):=fun i h=>h.imp id (fun h=>by simp[h]);have hnewrow:∀(es':Es) (olds:List Value) (cap0:Nat),R E.G g D es' w->Ext D g (Az g es) w g (Az g es') w->olds.length=l.len*l.cells->
   (∀i j cs c,l.get i=some cs->cs[j]? =some c->i<l.len->j<l.cells->∃u,olds[i*l.cells+j]? =some u/\A6 g.m w u c)->(∀i,i<l.len->∃cs,l.get i=some cs/\cs.length=l.cells)->cap0<l.len+l'.len->
   ∃g',R E.G g' (fun i=>D i\/i∈[n]) ((n,.row)::es') (w.drew.alloc (.cells (olds++news++(Builtin.zeroCells z.cells (grownCap w (l.len+l'.len) cap0 e-(l.len+l'.len))).toList).toArray e))/\
    Ar g' (fun i=>D i\/i∈[n]) (w.drew.alloc (.cells (olds++news++(Builtin.zeroCells z.cells (grownCap w (l.len+l'.len) cap0 e-(l.len+l'.len))).toList).toArray e)) (.slice (some ⟨w.heap.size,0,none⟩) (l.len+l'.len) (grownCap w (l.len+l'.len) cap0 e)) (.slice (.own n) l2)/\
    Ext D g (Az g es) w g' (Az g' ((n,.row)::es')) (w.drew.alloc (.cells (olds++news++(Builtin.zeroCells z.cells (grownCap w (l.len+l'.len) cap0 e-(l.len+l'.len))).toList).toArray e)):=by
   intro es' olds cap0 hR' hx' hol hor hol2 hc0;have hge:=grownCap_ge w (l.len+l'.len) cap0 e;have hsize:(olds++news++(Builtin.zeroCells z.cells (grownCap w (l.len+l'.len) cap0 e-(l.len+l'.len))).toList).toArray.size=grownCap w (l.len+l'.len) cap0 e*sz:=by
    simp only[Ya,WD,Yk,size_zeroCells,hol,hnl,h6,hcs,h11];rw[<-W9,<-W9];congr 1;omega
   obtain⟨h14,h15⟩:=hR'.drew.Ig (w:=w.drew) hn' (olds++news++(Builtin.zeroCells z.cells (grownCap w (l.len+l'.len) cap0 e-(l.len+l'.len))).toList).toArray e (l.len+l'.len) (grownCap w (l.len+l'.len) cap0 e) sz hsize hge;refine⟨_,h14.more hDD,?_,(hx'.trans Ext.drew).trans h15⟩;have hd2:A6 ((g.share w.drew.heap.size ((l.len+l'.len)*sz)).BI n (some ⟨w.drew.heap.size,l.len+l'.len,grownCap w (l.len+l'.len) cap0 e,sz⟩)).m _ (.slice (some ⟨w.heap.size,0,none⟩) l2.len (grownCap w (l.len+l'.len) cap0 e)) (.slice .any l2):=
    A6.Ff (m:=g.m) (w:=w) (heap_alloc_new w.drew _) (by omega) (by simp[Gh.BI,Gh.share,h9,h10,hcs]) (fun i hi=>hgl i hi hol2)
     (fun i j cs c h16 h17 h18 h19=>TS hl hol hor hnr i j cs c h16 h17 h18 h19) h15.mark h15.cells
   refine Ar.own n (Or.inr (WN.2 rfl)) _ l2 ?_ (by rw[h9] at hd2;exact hd2);simp[NL,Gh.BI,h9,h10,hcs]
  have hrun:∀v w',(Builtin.append_ #[t,t] o.type #[act.eval s,act.eval x]).run E.P w= .ok v w'->(execOp act.eval o).run E.P w= .ok (.value v) w':=fun v w' h=>by
   simp[execOp,ho,resolve,invoke,builtin,h]
  have hnil:∀es',R E.G g D es' w->Ext D g (Az g es) w g (Az g es') w->act.eval s= .slice none 0 0->l.len=0->
   ∃g' v' w',(execOp act.eval o).run E.P w= .ok (.value v') w'/\R E.G g' (fun i=>D i\/i∈[n]) ((n,.row)::es') w'/\Ar g' (fun i=>D i\/i∈[n]) w' v' (.slice (.own n) l2)/\Ext D g (Az g es) w g' (Az g' ((n,.row)::es')) w':=by
   intro es' hR' hx' hsv hl0;by_cases hm:l'.len=0
   .obtain ⟨h14,h15⟩:=hR'.IY hn';have hnews:news=[]:=WB (by rw[hnl,hm];simp);have hf:=hnf w rfl E.P;rw[hnews,hm,hsz'] at hf;refine⟨_,.slice none 0 0,w,hrun _ _ ?_,h14.more hDD,?_,hx'.trans h15⟩
    .rw[hsv,hxv,hm];exact Zm7 h1 h2 (Wj _) hf
    .refine Ar.own n (Or.inr (WN.2 rfl)) _ l2 ?_ (.nilS l2 (by omega));simp[NL,Gh.BI];omega
   .obtain ⟨g',h14,h15,h16⟩:=hnewrow es' [] 0 hR' hx' (by simp[hl0]) (fun i j cs c _ _ hi=>by omega) (fun i hi=>by omega) (by omega);refine⟨g',_,_,hrun _ _ ?_,h14,h15,h16⟩;rw[hsv,hxv];have:=Lw (P:=E.P) (w:=w) (ty:=o.type) h1 h2 h5 (base:=none) (sLen:=0) (sCap:=0) (xb:=xb) (n:=l'.len) (xc:=xc) (olds:=[]) (news:=news) (fun W _=>by simp[Builtin.firstCells]) (fun W hW=>by rw[<-hsz'];exact hnf W hW E.P) (by omega) (by rw[h4];rw[hl0] at hb;exact hb) (by omega);rw[hl0];exact this
  cases sp with
  |any=>rcases hsp with hsp|⟨hsp,_⟩<;>cases hsp
  |full=>
   have hpos:0<l'.len:=by rcases hsp with hsp|⟨_,h⟩;· cases hsp
                          .exact h
   generalize hv:act.eval s=v at hvs;cases hvs with
   |data h=>cases h
   |fullNil _ hl0=>exact hnil es hR (.refl ..) hv hl0
   |full a m _ hdr=>
    have hml:m=l.len:=by
     cases hdr with
     |emp _ h=>exact h.symm
     |slice=>rfl
    subst hml;obtain⟨olds,hol,ho1,hof,hor,hol2⟩:=hdr.CL;obtain⟨g',h18,h19,h20⟩:=hnewrow es olds l.len hR (.refl ..) hol hor hol2 (by omega);refine⟨g',_,_,hrun _ _ ?_,h18,h19,h20⟩;rw[hv,hxv];exact Lw (P:=E.P) (w:=w) (ty:=o.type) h1 h2 h5 (base:=some a) (sLen:=l.len) (sCap:=l.len) (xb:=xb) (n:=l'.len) (xc:=xc) (olds:=olds) (news:=news)
     (fun W hW=>by have:=hof W hW E.P;rw[hcs] at this;rw[h3];exact this) (fun W hW=>by rw[<-hsz'];exact hnf W hW E.P) (by omega) (by rw[h4];exact hb) (by omega)
  |nil=>
   generalize hv:act.eval s=v at hvs;cases hvs with
   |data h=>cases h
   |nilS _ hl0=>exact hnil es hR (.refl ..) hv hl0
  |own r=>
   have hr:=hp (r,.row) (by simp[Hl]);generalize hv:act.eval s=v at hvs;cases hvs with
   |data h=>cases h
   |own _ hDr _ _ hrow hdr=>
    obtain⟨hRg,hxg⟩:=hR.gone hr;cases hρ:g.row r with
    |none=>
     rw[hρ] at hrow;obtain⟨rfl,hl0⟩:=hrow;exact hnil ((r,.gone)::es) hRg hxg hv hl0
    |some ρ=>
     rw[hρ] at hrow;obtain⟨rfl,hl1,hl2⟩:=hrow;obtain⟨cur,te,h14,h15,h16,h17⟩:=hR.BW r _ hr ρ hρ;obtain⟨olds,hol,ho1,hof,hor,hol2⟩:=hdr.CL;by_cases hroom:ρ.len+l'.len<=ρ.cap
     .have hszr:ρ.sz=sz:=by rw[<-hl2,hcs]
      have hcur:(ρ.len+l'.len)*sz<=cur.size:=by rw[h15,hszr];exact Xw _ hroom
      have hnl3:news.length=l'.len*sz:=by rw[hnl,h11,hcs]
      have hfit:ρ.len*sz+news.length<=cur.size:=by rw[hnl3,<-W9];exact hcur
      have hoc:olds=cur.toList.take (ρ.len*sz):=by
       have h20:=hof w rfl E.P;have h21:=run_firstCells_some (P:=E.P) w l.cells l.len ⟨ρ.b,0,none⟩ ρ.len ρ.cap (cur.toList.take (ρ.len*sz)) (by simp[hcs,hl1];rw[W9] at hcur;omega) (fun j v hv=>by
        rw[XK] at hv;split at hv
        .rw[GN,Xg,HD h14];simpa using hv
        .cases hv)
       rw[h21] at h20;have:=(Result.ok.inj h20).1;exact(List.toArray_inj this).symm
      have hlen':(cur.toList.take (ρ.len*sz)++news++cur.toList.drop (ρ.len*sz+news.length)).toArray.size=cur.size:=by
       simp only[Ya,WD,Yg,XT,Yk];omega
      obtain⟨h18,h19⟩:=hR.grow hn' hr hρ h14 (cur.toList.take (ρ.len*sz)++news++cur.toList.drop (ρ.len*sz+news.length)).toArray hlen'
       (fun o ho=>by
        rw[hszr] at ho;have:(cur.toList.take (ρ.len*sz)++news++cur.toList.drop (ρ.len*sz+news.length))[o]? =cur.toList[o]? :=by
         rw[u7 _ _ _ _ (by simpa using hfit),if_pos ho]
        simpa using this) (ρ.len+l'.len) (by omega) hroom
      refine⟨_,.slice (some ⟨ρ.b,0,none⟩) (ρ.len+l'.len) ρ.cap,w.setRow ρ.b (cur.toList.take (ρ.len*sz)++news++cur.toList.drop (ρ.len*sz+news.length)).toArray,hrun _ _ ?_,h18.more hDD,?_,h19⟩
      .rw[hv,hxv];have:=T9 (P:=E.P) (w:=w) (ty:=o.type) h1 h2 h14 (sLen:=ρ.len) (sCap:=ρ.cap) (xb:=xb) (n:=l'.len) (xc:=xc) (news:=news) (by rw[hnl3,h3]) hn1 (by rw[<-hsz'];exact hnf w rfl E.P) hroom (by rw[h3];exact hfit);rw[h3] at this;exact this
      .have hcells:=TS (m:=g.m) (w:=w) hl (rest:=cur.toList.drop (ρ.len*sz+news.length)) hol hor hnr;rw[hoc] at hcells;have hd2:=A6.Ff (m:=g.m) (m':=(({g with m:=fun i=>if i=ρ.b then(ρ.len+l'.len)*ρ.sz else g.m i}:Gh).BI n (some ⟨ρ.b,ρ.len+l'.len,ρ.cap,ρ.sz⟩)).m) (w:=w)
        (w':=w.setRow ρ.b (cur.toList.take (ρ.len*sz)++news++cur.toList.drop (ρ.len*sz+news.length)).toArray) (l:=l2) (b:=ρ.b) (cap:=ρ.cap)
        (setRow_heap w _ _ _ te _ h14) (by omega) (by simp[Gh.BI,h9,h10,hcs,hszr,hl1]) (fun i hi=>hgl i hi hol2) hcells h19.mark h19.cells
       refine Ar.own n (Or.inr (WN.2 rfl)) _ l2 ?_ (by rw[h9,hl1] at hd2;exact hd2);simp[NL,Gh.BI,h9,h10,hl1,hcs,hszr]
     .obtain ⟨g',h18,h19,h20⟩:=hnewrow ((r,.gone)::es) olds ρ.cap hRg hxg hol hor hol2 (by omega);refine⟨g',_,_,hrun _ _ ?_,h18,h19,h20⟩;rw[hv,hxv];have:=Lw (P:=E.P) (w:=w) (ty:=o.type) h1 h2 h5 (base:=some ⟨ρ.b,0,none⟩) (sLen:=ρ.len) (sCap:=ρ.cap) (xb:=xb) (n:=l'.len) (xc:=xc) (olds:=olds) (news:=news)
       (fun W hW=>by have:=hof W hW E.P;rw[hl1,hcs] at this;rw[h3];exact this) (fun W hW=>by rw[<-hsz'];exact hnf W hW E.P) (by omega) (by rw[h4,<-hl1];exact hb) (by omega)
      rw[hl1];exact this
theorem OS.append{t:TypeId}{s x:Operand}{i:TI}{c:Option EC}{sz bytes n:Nat}{sp sp':Sp}{l l' l2:SL V}(ho:o.op= .call {callee:= .builtin .append,args:= #[s,x],argTypes:= #[t,t]})
 (ht:E.ti t=some i) (hd:i.desc= .slc c sz bytes) (hs:ev E t a s=some (.slice sp l)) (hx:ev E t a x=some (.slice sp' l')) (hsp:My sp=true)
 (hl:l.app l'=some l2) (hsz:Nat.beq l.cells sz=true) (hb:(l.len+l'.len)*bytes<=140737488355328) (hb2:l.len+l'.len<=9223372036854775807):OS E N o a (Hl sp) (.slice (.own n) l2) [n] (HV n sp):=
 OS.Fo ho ht hd hs hx (.inl hsp) hl hsz hb hb2
end
section
variable {E:Env} {N:Nat} {o:Oper} {a:AF}
def Hi(E:Env)(a:AF):List (Nat×Operand)->Option (List (Nat×List V))
 |[]=>some []
 |p::l=>((ev E 0 a p.2).bind cellsOf).bind fun vc=>(Hi E a l).map fun r=>(p.1,vc)::r
def Jo(gs:List (Nat×Nat×Bool))(cs:List V):List (Nat×List V)->Option (List V)
 |[]=>some cs
 |p::rest=>match gs[p.1]? with
  |none=>none
  |some q=>bif Nat.beq p.2.length q.2.1&&Nat.ble (q.1+p.2.length) cs.length then Jo gs (cs.take q.1++p.2++cs.drop (q.1+p.2.length)) rest else none
theorem Zoj(off:Nat):∀(us:List Value) (j:Nat) (cs:Array Value),off+j+us.length<=cs.size->
 (us.zipIdx j).foldl (fun cs (x:Value×Nat)=>cs.setIfInBounds (off+x.2) x.1) cs=(cs.toList.take (off+j)++us++cs.toList.drop (off+j+us.length)).toArray:=by
 intro us;induction us with
 |nil=>intro j cs _;simp
 |cons u us ih2=>
  intro j cs hcs;simp only[Wy] at hcs;simp only[Y2,Zf];rw[ih2 (j+1) _ (by simp;omega)];congr 1;rw[Yd];have:=list_seg_step cs.toList (off+j) u us (by simp;omega);rw[show off+(j+1)=off+j+1 from by omega];exact this
theorem Yau{gs:List (Nat×Nat×Bool)}{g:Gh}{D:Nat->Prop}{es:Es}{w:World}{act:Act}(hR:R E.G g D es w)(hF:BA g D w N act a):∀{ps:List (Nat×Operand)} {vps:List (Nat×List V)},Hi E a ps=some vps->
 ∀{cs cs':List V},Jo gs cs vps=some cs'->∀{vs:List Value},vs.length=cs.length->(∀v∈vs,v.oneCell'=true)->(∀(i:Nat) v c,vs[i]? =some v->cs[i]? =some c->Ar g D w v c)->
 ∃us:List Value,Instr.fill (fun i=>(gs[i]?).map fun q=>(q.1,q.2.1)) vs.toArray (ps.map fun p=>(p.1,act.eval p.2))=some us.toArray/\us.length=cs'.length/\(∀v∈us,v.oneCell'=true)/\
  ∀(i:Nat) v c,us[i]? =some v->cs'[i]? =some c->Ar g D w v c:=by
 intro ps;induction ps with
 |nil=>
  intro vps h cs cs' hf vs h1 h2 h3;simp[Hi] at h;subst h;simp[Jo] at hf;subst hf;exact⟨vs,rfl,h1,h2,h3⟩
 |cons p l ih=>
  intro vps h cs cs' hf vs h1 h2 h3;simp only[Hi,Wx,Wo] at h;obtain⟨vc,⟨c0,h4,h5⟩,r,h6,rfl⟩:=h;simp only[Jo] at hf;cases hq:gs[p.1]? with
  |none=>simp[hq] at hf
  |some q=>
   rw[hq] at hf;cases hb:Nat.beq vc.length q.2.1&&Nat.ble (q.1+vc.length) cs.length with
   |false=>simp[hb] at hf
   |true=>
    simp only[hb,cond_true] at hf;rw[Wk] at hb;have hb1:=WK hb.1;have hb2:=Wz hb.2;obtain⟨us,h7,h8,h9,h10⟩:=vt h5 (z8 h4 hR hF);obtain⟨us',h11,h12⟩:=ih h6 hf (vs:=vs.take q.1++us++vs.drop (q.1+us.length)) (by simp;omega)
     (fun u hu=>by
      rcases WH.1 hu with hu|hu
      .rcases WH.1 hu with hu|hu
       .exact h2 u (XZ hu)
       .exact h9 u hu
      .exact h2 u (Yc hu))
     (fun j u d hu hd=>by
      rw[u7 _ _ _ _ (by omega)] at hu;rw[u7 _ _ _ _ hb2,<-h8] at hd;split at hu
      .rename_i hj;rw[if_pos hj] at hd;exact h3 j u d hu hd
      .rename_i hj;rw[if_neg hj] at hd;split at hu
       .rename_i hj2;rw[if_pos hj2] at hd;exact h10 _ u d hu hd
       .rename_i hj2;rw[if_neg hj2] at hd;exact h3 j u d hu hd)
    refine⟨us',?_,h12⟩;simp only[Wn,Instr.fill,hq,Xe];rw[if_neg (by rw[h7];simp;omega)];have h13:(act.eval p.2).cells.zipIdx.foldl (fun cs (x:Value×Nat)=>cs.setIfInBounds (q.1+x.2) x.1) vs.toArray=(vs.take q.1++us++vs.drop (q.1+us.length)).toArray:=by
     rw[h7,<-Array.foldl_toList,Array.toList_zipIdx];have:=Zoj q.1 us 0 vs.toArray (by simp;omega);simpa using this
    show Instr.fill _ ((act.eval p.2).cells.zipIdx.foldl (fun cs (x:Value×Nat)=>cs.setIfInBounds (q.1+x.2) x.1) vs.toArray) _=_;rw[h13];exact h11
theorem Zxx:∀{fs:List Field} {gs:List (Nat×Nat×Bool)},uj E.P fs gs=true->fs.mapM (fun f=>(E.P.info? f.type).map fun i=>(f.offset,i.size))=some (gs.map fun q=>(q.1,q.2.1)):=by
 intro fs;induction fs with
 |nil=>intro gs h;cases gs with|nil=>rfl|cons=>simp[uj] at h
 |cons fd l ih=>
  intro gs h;cases gs with
  |nil=>simp[uj] at h
  |cons q l'=>
   simp only[uj,Wk] at h;obtain⟨⟨⟨⟨h1,h2⟩,h3⟩,h4⟩,h5⟩:=h;unfold JE at h2;split at h2
   .rename_i inf hi;simp only[Zj,hi,ih h5,Xe,Option.bind_eq_bind,X3,Option.pure_def,Wn];rw[WK h1,WK h2]
   .cases h2
theorem OS.build{t:TypeId}{ps:List (Nat×Operand)}{i:TI}{gs:List (Nat×Nat×Bool)}{vps:List (Nat×List V)}{cs:List V}(ho:o.op= .build t ps.toArray)(ht:E.ti t=some i)(hd:i.desc= .strct gs)
 (hp:Hi E a ps=some vps) (hf:Jo gs i.zero vps=some cs):OS E N o a [] (.agg cs) [] []:=
 .pure fun g D es w act hR _ hF=>by
  obtain⟨fs,h1,h2⟩:=Mf ht hd;obtain⟨inf,h3,h4,z,h5,h6⟩:=I1 ht;obtain⟨h7,h8,h9⟩:=LA h6;obtain⟨us,h10,h11,h12,h13⟩:=Yau hR hF hp hf h7 h8 (fun i v c hv hc=>h9 g D w i v c hv hc);refine⟨.agg us.toArray,?_,.agg us cs h11 h12 h13⟩;have hb:E.P.built t ((ps.toArray.map fun x=>(x.1,act.eval x.2))).toList=some us.toArray:=by
   unfold Program.built;simp only[h3,h1,h5,Zxx h2];have:((gs.map fun q=>(q.1,q.2.1)).toArray[·]?)=(fun i:Nat=>(gs[i]?).map fun q:Nat×Nat×Bool=>(q.1,q.2.1)):=by
    funext i;simp
   rw[this];simpa using h10
  have hrun:=run_build (P:=E.P) w t (ps.toArray.map fun x=>(x.1,act.eval x.2)) us.toArray hb;simp only[execOp,ho,hrun,Sem.run_bind,Result.andThen_ok,Sem.run_pure]
theorem OS.Il{t:TypeId}{x y:Operand}{i:TI}{c:Option EC}{sz bytes:Nat}{sp:Sp}{l:SL V}{n:Int}{k:Nat}{cs:List V}{kd:IntKind}(ho:o.op= .indexAddr t x y)(ht:E.ti t=some i)(hd:i.desc= .slc c sz bytes)
 (hx:ev E t a x=some (.slice sp l)) (hy:ev E 0 a y=some (.int kd n)) (hn:n=k) (hk:l.get k=some cs) (hlt:k<l.len) (hsz:Nat.beq l.cells sz=true):OS E N o a [] (.addr cs) [] []:=
 .pure fun g D es w act hR _ hF=>by
  obtain⟨e,inf,z,h1,h2,h3,h4,h5,h6,h7,h8⟩:=Hx ht hd;have hv:=(z8 hx hR hF).Bh;have hi:=(z8 hy hR hF).Bl;have hcs:=WK hsz;generalize hxv:act.eval x=v at hv;cases hv with
  |nilS _ h=>omega
  |emp _ h _ _=>omega
  |slice _ b off cap f hm hcap hl hc hr=>
   obtain⟨cs',h9,h10⟩:=hl k hlt;rw[hk] at h9;cases h9;refine⟨.pointer (some ⟨b,off+k*l.cells,none⟩),?_,?_⟩
   .have h11:0<=n/\n<(l.len:Int):=by omega
    have h12:n.toNat=k:=by omega
    simp[execOp,ho,Instr.indexAt,hxv,hi,asIntOf,y0 h1,h11,h12,wg h2,h3,GN,hcs]
   .refine .addr b _ cs (fun j=>f k j) ?_ (fun j hj=> ?_) (fun j c hj=>hr k j cs c hlt hk hj)
    .rw[h10];have:k*l.cells+l.cells<=l.len*l.cells:=by
      have:=Xw l.cells (show k+1<=l.len by omega);rw[W9,ZP] at this;exact this
     omega
    .rw[Ym];exact hc k j hlt (by omega)
theorem Yc4{t:TypeId}{i:TI}{n esz:Nat}{ea:Bool}(h:E.ti t=some i)(hd:i.desc= .arr n esz ea):∃e inf,E.P.underlying t=some (.array n e)/\E.P.info? e=some inf/\inf.size=esz/\0<esz/\(∀w,(isAgg e).run E.P w= .ok ea w):=by
 obtain⟨d,h1,h2⟩:=IQ h;rw[hd] at h2;cases d with
 |array n' e=>
  simp only[Wk] at h2;obtain⟨⟨⟨h3,h4⟩,h5⟩,h6⟩:=h2;have:=WK h3;subst this;unfold JE at h4;split at h4
  .rename_i inf hi;refine⟨e,inf,h1,hi,WK h4,Wz h5,fun w=> ?_⟩;unfold KJ at h6;unfold isAgg;cases hu:E.P.underlying e with
   |none=>simp[hu] at h6
   |some d=>
    rw[hu] at h6;simp only[Sem.run_bind,y0 hu,Result.andThen_ok];cases d<;>simp at h6<;>simp[h6]
  .cases h4
 |_=>cases h2
theorem OS.Je{t:TypeId}{x y:Operand}{i:TI}{m esz:Nat}{ea:Bool}{cs:List V}{n:Int}{k:Nat}{kd:IntKind}(ho:o.op= .indexAddr t x y)(ht:E.ti t=some i)(hd:i.desc= .arr m esz ea)
 (hx:ev E 0 a x=some (.addr cs)) (hy:ev E 0 a y=some (.int kd n)) (hn:n=k) (hlt:k<m) (hb:k*esz<=cs.length):OS E N o a [] (.addr (cs.drop (k*esz))) [] []:=
 .pure fun g D es w act hR _ hF=>by
  obtain⟨e,inf,h1,h2,h3,h4,_⟩:=Yc4 ht hd;have h8:=z8 hx hR hF;have hi:=(z8 hy hR hF).Bl;generalize hxv:act.eval x=v at h8;cases h8 with
  |data h=>cases h
  |addr b off _ f hm hc hr=>
   refine⟨.pointer (some ⟨b,off+k*esz,none⟩),?_,?_⟩
   .have h11:0<=n/\n<(m:Int):=by omega
    have h12:n.toNat=k:=by omega
    simp[execOp,ho,Instr.indexAt,hxv,hi,asIntOf,y0 h1,Instr.sureAddr,h11,h12,wg h2,h3,GN]
   .refine .addr b _ _ (fun j=>f (k*esz+j)) (by simp;omega) (fun j hj=> ?_) (fun j c hj=> ?_)
    .simp only[XT] at hj;rw[Ym];exact hc _ (by omega)
    .rw[XL] at hj;exact hr _ c hj
theorem OS.slice3{t:TypeId}{x y z:Operand}{i:TI}{c:Option EC}{sz bytes:Nat}{sp:Sp}{l:SL V}{k k':IntKind}(ho:o.op= .slice t x none (some y) (some z))(ht:E.ti t=some i)(hd:i.desc= .slc c sz bytes)
 (hx:ev E t a x=some (.slice sp l)) (hy:ev E 0 a y=some (.int k l.len)) (hz:ev E 0 a z=some (.int k' l.len)):OS E N o a [] (.slice .full l) [] []:=
 .pure fun g D es w act hR _ hF=>by
  obtain⟨e,inf,zz,h1,h2,h3,h4,h5,h6,h7,h8⟩:=Hx ht hd;have hv:=(z8 hx hR hF).Bh;have hi:=(z8 hy hR hF).Bl;have hj:=(z8 hz hR hF).Bl;have hv0:=hv;generalize hxv:act.eval x=v at hv;cases hv with
  |nilS _ h=>
   refine⟨.slice none 0 0,?_,.fullNil l h⟩;simp[execOp,ho,Instr.sliceAt,Instr.slice,y0 h1,hxv,hi,hj,Instr.sliceBounds,Instr.sliceBound,asIntOf,h,wg h2]
  |emp _ h a cap=>
   refine⟨.slice (some a) 0 0,?_,.full a 0 l (.emp l h a 0)⟩;simp[execOp,ho,Instr.sliceAt,Instr.slice,y0 h1,hxv,hi,hj,Instr.sliceBounds,Instr.sliceBound,asIntOf,h,wg h2]
  |slice _ b off cap f hm hcap hl hc hr=>
   refine⟨.slice (some ⟨b,off,none⟩) l.len l.len,?_,.full _ _ l (.slice l b off l.len f hm (Wj _) hl hc hr)⟩;have h9:(0:Int)<=l.len:=by omega
   have h10:(l.len:Int)<=cap:=by omega
   by_cases h0:l.len=0
   .simp[execOp,ho,Instr.sliceAt,Instr.slice,y0 h1,hxv,hi,hj,Instr.sliceBounds,Instr.sliceBound,asIntOf,h9,h10,wg h2,h0]
   .simp[execOp,ho,Instr.sliceAt,Instr.slice,y0 h1,hxv,hi,hj,Instr.sliceBounds,Instr.sliceBound,asIntOf,h9,h10,wg h2,h0,GN];intro h11;omega
end
section
variable {E:Env} {N:Nat} {o:Oper} {a:AF}
def AC(E:Env)(f:FuncId)(args:List V)(σ:Aq)(r:V)(σ':Aq):Prop:=
 (∀vs w,(callFunc f vs).run E.P w= .ok (.enter f vs) w)/\σ.nx<=σ'.nx/\
 ∀g w (vs:List Value),R E.G g (·<σ.nx) σ.es w->vs.length=args.length->(∀(i:Nat) v c,vs[i]? =some v->args[i]? =some c->Ar g (·<σ.nx) w v c)->
  Calls E.P f vs.toArray w fun e w'=>∃v g',e= .returned v/\R E.G g' (·<σ'.nx) σ'.es w'/\Ar g' (·<σ'.nx) w' v r/\Ext (·<σ.nx) g (Az g σ.es) w g' (Az g' σ'.es) w'
def PC(E:Env)(f:FuncId)(args:List V)(r:V):Prop:=AC E f args ⟨0,[]⟩ r ⟨0,[]⟩
def D6(E:Env)(a:AF):List Operand->List TypeId->Option (List V)
 |[],_=>some []
 |x::xs,[]=>(ev E 0 a x).bind fun v=>(D6 E a xs []).map fun vs=>v::vs
 |x::xs,t::ts=>(ev E t a x).bind fun v=>(D6 E a xs ts).map fun vs=>v::vs
theorem Rg:∀{xs:List Operand} {ts:List TypeId} {vs:List V},D6 E a xs ts=some vs->∀{g:Gh} {D:Nat->Prop} {es:Es} {w:World} {act:Act},R E.G g D es w->BA g D w N act a->
 (xs.map act.eval).length=vs.length/\∀(i:Nat) v c,(xs.map act.eval)[i]? =some v->vs[i]? =some c->Ar g D w v c:=by
 intro xs;induction xs with
 |nil=>intro ts vs h g D es w act hR hF;simp[D6] at h;subst h;simp
 |cons x l ih=>
  intro ts vs h g D es w act hR hF;have key:∀t ts',(ev E t a x).bind (fun v=>(D6 E a l ts').map fun vs=>v::vs)=some vs->((x::l).map act.eval).length=vs.length/\∀(i:Nat) v c,((x::l).map act.eval)[i]? =some v->vs[i]? =some c->Ar g D w v c:=by
   intro t ts' h;simp only[Wx,Wo] at h;obtain⟨v,h1,vs',h2,rfl⟩:=h;obtain⟨h3,h4⟩:=ih h2 hR hF;refine⟨by simp at h3 ⊢;exact h3,fun i u c hu hc=> ?_⟩;cases i with
   |zero=>simp at hu hc;subst hu;subst hc;exact z8 h1 hR hF
   |succ i=>simp only[Wn,Xb] at hu hc;exact h4 i u c hu hc
  cases ts with
  |nil=>exact key 0 [] h
  |cons t ts=>exact key t ts h
theorem UC{f:FuncId}{xs:List Operand}{ts:Array TypeId}(ho:o.op= .call {callee:= .value (.func f),args:=xs.toArray,argTypes:=ts}){act:Act}{w:World}{K:Act->World->Prop}{Q:Exit->Act->World->Prop}
 (hc:∀vs w,(callFunc f vs).run E.P w= .ok (.enter f vs) w)
 (h:Calls E.P f (xs.map act.eval).toArray w fun e w'=>∃v,e= .returned v/\K (act.put o.dst v) w'):o.wp E.P act w K Q:=by
 have hrun:(execOp act.eval o).run E.P w= .ok (.enter f (xs.map act.eval).toArray) w:=by
  simp[execOp,ho,resolve,Deferred.ofValue,Act.eval,invoke,hc]
 unfold Oper.wp;rw[hrun];refine h.mono ?_;rintro e w' ⟨v,rfl,hk⟩;exact hk
theorem Zzd{x:Operand}{f:FuncId}{fi caps:List Value}{xs:List Operand}{ts:Array TypeId}(ho:o.op= .call {callee:= .value x,args:=xs.toArray,argTypes:=ts}){act:Act}{w:World}{K:Act->World->Prop}{Q:Exit->Act->World->Prop}
 (hx:act.eval x= .func (.func f) fi.toArray caps.toArray) (hc:∀vs w,(callFunc f vs).run E.P w= .ok (.enter f vs) w)
 (h:Calls E.P f (fi++xs.map act.eval++caps).toArray w fun e w'=>∃v,e= .returned v/\K (act.put o.dst v) w'):o.wp E.P act w K Q:=by
 have hrun:(execOp act.eval o).run E.P w= .ok (.enter f (fi++xs.map act.eval++caps).toArray) w:=by
  simp[execOp,ho,resolve,hx,Deferred.ofValue,invoke,hc]
 unfold Oper.wp;rw[hrun];refine h.mono ?_;rintro e w' ⟨v,rfl,hk⟩;exact hk
def Gh.marks(g g':Gh):Gh:={g with m:=g'.m}
theorem PC.use{f:FuncId}{args:List V}{r:V}(h:PC E f args r){g:Gh}{D:Nat->Prop}{es:Es}{w:World}(hR:R E.G g D es w){vs:List Value}{cs:List V}(hl:vs.length=cs.length)
 (hr:∀(i:Nat) v c,vs[i]? =some v->cs[i]? =some c->Ar g D w v c) (hle:∃cs1,xz [] args=some cs1/\Bp cs cs1) {P:Ending->World->Prop}
 (hP:∀v g' w',R E.G g' D es w'->Ar g' D w' v r->Ext D g (Az g es) w g' (Az g' es) w'->P (.returned v) w'):Calls E.P f vs.toArray w P:=by
 obtain⟨cs1,h1,h2⟩:=hle;obtain⟨_,_,h3⟩:=h;have hRs:R E.G g (·<0) [] w:=⟨fun n e h=>(by cases h),fun n n' e e' b h=>(by cases h),fun n e h=>(by cases h),hR.fresh,hR.Et⟩;have hnr:∀n m,Cf [] n≠some m:=fun n m h=>by simp[Cf,C1] at h
 refine(h3 g w vs hRs (by rw[hl,h2.len,<-yo h1]) (fun i v c hv hc=> ?_)).mono ?_
 .obtain ⟨c1,hc1⟩:=Ax (yo h1) hc;obtain⟨c0,hc0,hle⟩:=h2.nth i c1 hc1;exact Ar.Fu (ρ:=[]) (g2:=g) (hle _ _ _ _ (hr i v c0 hv hc0)) rfl (fun n m h=>absurd h (hnr n m)) (fun n m h=>absurd h (hnr n m)) (fun n h=>by simp[C1] at h) c (x9 h1 i c c1 hc hc1)
 .rintro e w' ⟨v,g',rfl,hR',hv,hx⟩;have hnf:∀b,¬Az g [] b:=fun b h=>by obtain⟨n,e,h,_⟩:=h;cases h
  have hsame:∀b,b<w.heap.size->w'.heap[b]? =w.heap[b]? /\g'.m b=g.m b:=fun b hb=>hx.frame b hb (hnf b);have hfoot:Az (g.marks g') es=Az g es:=by
   funext b;simp only[Az,Gh.marks];apply propext;constructor
   .rintro ⟨n,e,h4,h5⟩;exact⟨n,e,h4,by cases e<;>exact h5⟩
   .rintro ⟨n,e,h4,h5⟩;exact⟨n,e,h4,by cases e<;>exact h5⟩
  refine hP v (g.marks g') w' ?_ ?_ ?_
  .refine hR.step hx.mark hx.cells (fun _ h=>h) (fun _ _=>rfl) (fun _ _=>rfl) (fun n e he=> .inl ⟨he,fun b hb=>hsame b (hR.BP he hb)⟩) ?_ hR'.fresh;intro n n' e e' b h4 h5 h6 h7;exact hR.Bb n n' e e' b h4 h5 (by cases e<;>exact h6) (by cases e'<;>exact h7)
  .exact hv.mono (fun _=>Wj _) (fun _ _ _=>rfl) (fun n h=>absurd h (Zg n)) (fun n h=>absurd h (Zg n)) (fun n h=>absurd h (Zg n))
  .refine ⟨hx.os,hx.tape,hx.output,hx.size,hx.cells,hx.mark,fun _ _=>rfl,fun _ _=>rfl,fun b hb _=>hsame b hb,fun b hb=> ?_⟩;rw[hfoot] at hb;exact .inl hb
theorem OS.KT{f:FuncId}{xs:List Operand}{ts:Array TypeId}{cs args:List V}{r:V}(ho:o.op= .call {callee:= .value (.func f),args:=xs.toArray,argTypes:=ts})(hx:D6 E a xs ts.toList=some cs)(h:PC E f args r)
 (hle:∃cs1,xz [] args=some cs1/\Bp cs cs1):OS E N o a [] r [] []:=by
 intro g D es w act hR hp hn hF K Q hK;obtain⟨h1,h2⟩:=Rg hx hR hF;refine UC ho h.1 (h.use hR h1 h2 hle fun v g' w' h3 h4 h5=>⟨v,rfl,hK g' v w' (h3.more fun n h=> .inl h) (h4.more fun n h=> .inl h) h5⟩)
def DW(E:Env)(N k:Nat)(ops rest:List Oper)(a:AF)(σ:Aq)(Q:Exit->AF->Aq->Prop):Prop:=
 k<=σ.nx->∀g w act,R E.G g (·<σ.nx) σ.es w->BA g (·<σ.nx) w N act a->∀g0 F0 w0,Ext (·<k) g0 F0 w0 g (Az g σ.es) w->
  wpList E.P ops.toArray (Post E N k g0 F0 w0 Q) rest act w
variable {k:Nat} {σ:Aq} {Q:Exit->AF->Aq->Prop} {ops rest:List Oper}
theorem AW.region{id:Nat}(h:DW E N k ops ops a σ Q):AW E N k (.region id ops.toArray false) a σ Q:=
 ⟨fun hk g w act hR hF=>wp_region_lit (h hk g w act hR hF g (Az g σ.es) w (.refl ..))⟩
theorem DW.nil(h:Q .normal a σ):DW E N k ops [] a σ Q:=
 fun hk g w act hR hF g0 F0 w0 hx=>wpList_nil ⟨g,a,σ,h,hk,hR,hF,hx⟩
def z9(N:Nat):Option Tmp->Bool
 |none=>true
 |some d=>Nat.blt d N
theorem Nm{d:Option Tmp}(h:z9 N d=true):∀t,d=some t->t<N:=by
 intro t ht;subst ht;exact Wz h
def Aq.Ay(σ:Aq)(news:Nat)(post:Es):Aq:=⟨σ.nx+news,post++σ.es⟩
theorem DW.op{pre:Es}{v:V}{news:Nat}{post:Es}(h:OS E N o a pre v (List.range' σ.nx news) post)(hg:o.guard=none)(hp:∀p∈pre,zl σ.es p.1=some p.2)(hd:z9 N o.dst=true)
 (h2:DW E N k ops rest (a.put o.dst v) (σ.Ay news post) Q):DW E N k ops (o::rest) a σ Q:=by
 intro hk g w act hR hF g0 F0 w0 hx;refine wpList_plain hg fun K hK=>h g _ σ.es w act hR hp (fun n hn hlt=> ?_) hF K _ fun g' v' w' hR' hv' hx'=>hK _ _ ?_
 .have:=XX.1 hn;obtain⟨i,_,hi⟩:=this;omega
 .have hD:∀n,(n<σ.nx\/n∈List.range' σ.nx news)↔n<σ.nx+news:=fun n=>by
   rw[XX];constructor
   .rintro (h|⟨i,h1,h2⟩)<;>omega
   .intro h;by_cases h1:n<σ.nx
    .exact .inl h1
    .exact .inr ⟨n-σ.nx,by omega,by omega⟩
  have hle:∀n,(fun n=>n<σ.nx) n->(fun n=>n<σ.nx+news) n:=fun n h=>by simp only at h ⊢;omega
  refine h2 (by simp only[Aq.Ay];omega) g' w' _ (hR'.more fun n h=>(hD n).1 h) ?_ g0 F0 w0 (hx.trans (hx'.mono fun n hn=>by omega));exact(hF.ext hx' hle).put (Nm hd) (hv'.more fun n h=>(hD n).1 h)
theorem DW.split{d:Tmp}{b:Bool}(hb:a.get d=some (.bool b))(ht:b=true->DW E N k ops rest ((d,.bool true)::a) σ Q)(hf:b=false->DW E N k ops rest ((d,.bool false)::a) σ Q):DW E N k ops rest a σ Q:=by
 intro hk g w act hR hF g0 F0 w0 hx;have key:∀b',b=b'->BA g (·<σ.nx) w N act ((d,.bool b')::a):=by
  rintro _ rfl;refine⟨hF.size,hF.defers,fun t c hc=> ?_⟩;rw[AF.Be] at hc;by_cases ht:d=t
  .subst ht;simp only[if_true,Wq] at hc;subst hc;exact hF.vals d _ hb
  .simp only[ht,if_false] at hc;exact hF.vals t c hc
 cases hbb:b with
 |true=>exact ht hbb hk g w act hR (key _ hbb) g0 F0 w0 hx
 |false=>exact hf hbb hk g w act hR (key _ hbb) g0 F0 w0 hx
def Ox(E:Env)(a:AF)(es:Es):ResultVar->Option V
 | .tmp t=>a.get t
 | .cell t T=>match a.get t,E.ti T with
   |some (.ptr n off),some i=>match zl es n with
    |some (.var cs)=>Hr i (cs.drop off)
    |_=>none
   |_,_=>none
def FN(E:Env)(a:AF)(es:Es):List ResultVar->Option (List V)
 |[]=>some []
 |x::l=>(Ox E a es x).bind fun v=>(FN E a es l).map fun vs=>v::vs
def zk:List V->V
 |[v]=>v
 |vs=> .AD vs
def KH(act:Act):ResultVar->Sem Value
 | .tmp t=>pure (act.tmps.getD t undef)
 | .cell p t=>do loadVar t (<-asAddr (act.tmps.getD p undef))
theorem Zzp{x:ResultVar}{c:V}{es:Es}(h:Ox E a es x=some c){g:Gh}{D:Nat->Prop}{w:World}{act:Act}(hR:R E.G g D es w)(hF:BA g D w N act a):
 ∃v,(KH act x).run E.P w= .ok v w/\Ar g D w v c:=by
 cases x with
 |tmp t=>
  obtain⟨v,h1,h2⟩:=hF.vals t c h;exact⟨v,by simp[KH,WV,h1],h2⟩
 |cell t T=>
  simp only[Ox] at h;split at h
  .rename_i n off i h1 h2;split at h
   .rename_i cs h3;obtain⟨v,h4,h5⟩:=hF.vals t _ h1;obtain⟨_,vs,t',h6,h7,h8,h9,_⟩:=hR.BW n _ h3;cases h5 with
    |data h=>cases h
    |ptr _ _ hD=>
     obtain⟨v',h10,h11⟩:=Qt (E:=E) (g:=g) (D:=D) (w:=w) (b:=g.blk n) (off:=off) h2 h (fun j=>vs.getD (off+j) undef)
      (fun j hj=>by
       simp only[XT] at hj;rw[HD h6];have:off+j<vs.length:=by omega
       simp[Wl this,WJ])
      (fun j c hj=>by
       rw[XL] at hj;have hl:=(Ww.1 hj).1;have h8':vs[off+j]? =some (vs[off+j]'(by omega)):=Wl _;rw[WJ,h8'];exact⟨h9 _ _ c h8' hj,h8 _ (Wi _)⟩)
     exact⟨v',by simp[KH,WV,h4,asAddr,h10],h11⟩
   .cases h
  .cases h
theorem Ztu:∀{xs:List ResultVar} {cs:List V} {es:Es},FN E a es xs=some cs->∀{g:Gh} {D:Nat->Prop} {w:World} {act:Act},R E.G g D es w->BA g D w N act a->
 ∃vs:List Value,(xs.mapM (KH act)).run E.P w= .ok vs w/\vs.length=cs.length/\
  ∀(i:Nat) v c,vs[i]? =some v->cs[i]? =some c->Ar g D w v c:=by
 intro xs;induction xs with
 |nil=>intro cs es h g D w act hR hF;simp[FN] at h;subst h;exact⟨[],by simp,rfl,by simp⟩
 |cons x l ih=>
  intro cs es h g D w act hR hF;simp only[FN,Wx,Wo] at h;obtain⟨c,h1,cs',h2,rfl⟩:=h;obtain⟨v,h3,h4⟩:=Zzp h1 hR hF;obtain⟨vs,h5,h6,h7⟩:=ih h2 hR hF;refine⟨v::vs,?_,by simp[h6],fun i u d hu hd=> ?_⟩
  .rw[Zj];simp only[Sem.run_bind,h3,Result.andThen_ok,h5,Sem.run_pure]
  .cases i with
   |zero=>simp at hu hd;subst hu;subst hd;exact h4
   |succ i=>simp only[Xb] at hu hd;exact h7 i u d hu hd
def Jq(E:Env)(k:Nat)(rs:List ResultVar)(r:V)(σ':Aq)(a:AF)(σ:Aq):Prop:=
 ∃cs,FN E a σ.es rs=some cs/\∃ρ:List (Option Nat),ρ.length=σ'.nx/\Ga 0 k ρ=true/\yc ρ=true/\below σ.nx ρ=true/\Dz ρ σ.es σ'.es/\∃c1,wl ρ r=some c1/\Ao (zk cs) c1
def Fk(E:Env)(k:Nat)(rs:List ResultVar)(r:V)(σ':Aq):Exit->AF->Aq->Prop
 | .ret,a,σ=>Jq E k rs r σ' a σ
 | .normal,a,σ=>Jq E k rs r σ' a σ
 |_,_,_=>False
def KQ:Nat->List V->AF
 |_,[]=>[]
 |i,c::cs=>(i,c)::KQ (i+1) cs
theorem Zz6:∀{cs:List V} {i t:Nat} {c:V},AF.get (KQ i cs) t=some c->i<=t/\cs[t-i]? =some c:=by
 intro cs;induction cs with
 |nil=>intro i t c h;cases h
 |cons x l ih=>
  intro i t c h;simp only[KQ,AF.Be] at h;by_cases ht:i=t
  .subst ht;simp only[if_true] at h;exact⟨Wj _,by simpa using h⟩
  .simp only[ht,if_false] at h;obtain⟨h1,h2⟩:=ih h;refine⟨by omega,?_⟩;rw[show t-i=(t-(i+1))+1 from by omega,Xb];exact h2
theorem Jq.done{rs:List ResultVar}{r:V}{σ':Aq}(h:Jq E k rs r σ' a σ){fn:Func}(hrs:fn.results=rs.toArray){g:Gh}{w:World}{act:Act}(hR:R E.G g (·<σ.nx) σ.es w)(hF:BA g (·<σ.nx) w N act a):
 ∃v g',(results fn act.tmps).run E.P w= .ok v w/\R E.G g' (·<σ'.nx) σ'.es w/\Ar g' (·<σ'.nx) w v r/\Ext (·<k) g (Az g σ.es) w g' (Az g' σ'.es) w:=by
 obtain⟨cs,h1,ρ,h2,h3,h4,h5,h6,c1,h7,h8⟩:=h;obtain⟨vs,h9,h10,h11⟩:=Ztu h1 hR hF;have hv:∃v,(results fn act.tmps).run E.P w= .ok v w/\Ar g (·<σ.nx) w v (zk cs):=by
  have hm:(results fn act.tmps).run E.P w= .ok (if h:vs.toArray.size=1 then vs.toArray[0] else .tuple vs.toArray) w:=by
   have:results fn act.tmps=(do let vs <-fn.results.mapM (KH act);pure (if h:vs.size=1 then vs[0] else .tuple vs):Sem Value):=rfl;rw[this,hrs,Array.mapM_eq_mapM_toList];simp only[Sem.run_bind,Sem.run_map,h9,Result.andThen_ok,Sem.run_pure]
  refine⟨_,hm,?_⟩
  match vs,cs,h10,h11 with
  |[],[],_,h=>exact .AD [] [] rfl h
  |[v],[c],_,h=>exact h 0 v c rfl rfl
  |v::v'::l,c::c'::l',hl,h=>simpa[zk] using Ar.AD (v::v'::l) (c::c'::l') hl h
 obtain⟨v,h12,h13⟩:=hv;have hw:=Bi.mk (E:=E) (N:=1) (k:=k) (a:=[(0,zk cs)]) (σ:=σ) ρ [(0,r)] σ'.es σ'.nx h2.symm h3 h4 h5 ⟨⟨c1,h7,zk cs,rfl,h8⟩,trivial⟩ h6;by_cases hk:k<=σ.nx
 .obtain ⟨_,hw⟩:=hw hk;obtain⟨g',h14,h15,h16⟩:=hw g w {tmps:= #[v],defers:=[]} hR ⟨rfl,rfl,fun t c hc=>by
   rw[AF.Be] at hc;by_cases ht:0=t
   .subst ht;simp only[if_true,Wq] at hc;subst hc;exact⟨v,rfl,h13⟩
   .simp only[ht,if_false] at hc;cases hc⟩
  obtain⟨v',h17,h18⟩:=h15.vals 0 r rfl;simp at h17;subst h17;exact⟨v,g',h12,h14,h18,h16⟩
 .exfalso;have h20:=vv (PZ k 0 ρ h3 (k-1) (by omega));have h21:=Zs4 h5 (PZ k 0 ρ h3 (k-1) (by omega));omega
theorem AC.mk{f:FuncId}{fn:Func}{c:Code}{args:List V}{r:V}{σ':Aq}{rs:List ResultVar}(hf:E.P.funcs[f]? =some fn)(hb:fn.body=some c)(hname:(fn.name== "runtime.NumGoroutine")=false)(hN:fn.ntmps=N)
 (hrs:fn.results=rs.toArray) (hargs:Nat.ble args.length N=true) (hnx:σ.nx<=σ'.nx) (h:AW E N σ.nx c (KQ 0 args) σ (Fk E σ.nx rs r σ')):AC E f args σ r σ':=by
 refine⟨fun vs w=> ?_,hnx,fun g w vs hR hl hr=> ?_⟩
 .have hname':¬fn.name= "runtime.NumGoroutine" :=by simpa using hname
  simp[callFunc,hf,hname',hb]
 .have hle:=Wz hargs;refine calls_of_wp hf hb (wp_mono (h.run (Wj _) g w _ hR ?_) ?_)
  .refine ⟨by simp[hN];omega,rfl,fun t c hc=> ?_⟩;obtain⟨_,h1⟩:=Zz6 hc;simp only[ZA] at h1;obtain⟨v,hv⟩:=Ax hl.symm h1;have hlt:=(Ww.1 hv).1;exact⟨v,by simp[Array.getElem?_append,hlt];exact(Ww.1 hv).2,hr t v c hv h1⟩
  .rintro e act' w' ⟨g',a',σ1,hq,hk1,hR1,hF1,hx1⟩;cases e with
   |normal=>
    obtain⟨v,g2,h1,h2,h3,h4⟩:=Jq.done hq hrs hR1 hF1;exact⟨hF1.defers,v,h1,v,g2,rfl,h2,h3,hx1.trans h4⟩
   |ret=>
    obtain⟨v,g2,h1,h2,h3,h4⟩:=Jq.done hq hrs hR1 hF1;exact⟨hF1.defers,v,h1,v,g2,rfl,h2,h3,hx1.trans h4⟩
   |_=>exact hq.elim
end
def yb(ops:List Oper)(a:AF):Option (Nat×Bool)->Option Bool
 |none=>some true
 |some (j,b)=>match (ops[j]?).bind (·.dst) with
  |some d=>match a.get d with
   |some (.bool c)=>some (bif b then c else !c)
   |some (.AD [])=>some false
   |_=>none
  |none=>none
section
variable {E:Env} {N k:Nat} {a:AF} {σ:Aq} {Q:Exit->AF->Aq->Prop} {ops rest:List Oper}
theorem Nf{o:Oper}{c:Bool}(h:yb ops a o.guard=some c){g:Gh}{D:Nat->Prop}{w:World}{act:Act}(hF:BA g D w N act a):Region.wanted o (yielded ops.toArray act.tmps)=c:=by
 cases hg:o.guard with
 |none=>
  rw[hg] at h;simp only[yb,Wq] at h;simp[Region.wanted,hg,h]
 |some p=>
  obtain⟨j,b⟩:=p;rw[hg] at h;simp only[yb] at h;split at h
  .rename_i d hj;split at h
   .rename_i c' hb;simp only[Wq] at h;obtain⟨v,h1,h3⟩:=hF.vals d _ hb;have:=h3.Cd;subst this;simp[Region.wanted,hg,yielded,hj,h1];cases b<;>cases c'<;>simp at h<;>simp[h]
   .rename_i hb;simp only[Wq] at h;obtain⟨v,h1,h3⟩:=hF.vals d _ hb;have hv:v= .tuple #[]:=by
     cases h3 with
     |data h=>cases h
     |AD vs _ hl _=>cases vs with|nil=>rfl|cons=>simp at hl
    subst hv;simp[Region.wanted,hg,yielded,hj,h1,h]
   .cases h
  .cases h
def GF(es:Es):Es->Prop
 |[]=>True
 |p::l=>zl es p.1=some p.2/\GF es l
theorem U0{es:Es}:∀{pre:Es},GF es pre->∀p∈pre,zl es p.1=some p.2:=by
 intro pre;induction pre with
 |nil=>intro _ p hp;cases hp
 |cons q l ih=>
  intro h p hp;rcases WE.1 hp with rfl|hp
  .exact h.1
  .exact ih h.2 p hp
theorem DW.run{o:Oper}{pre:Es}{v:V}{news:Nat}{post:Es}(hw:yb ops a o.guard=some true)(h:OS E N o a pre v (List.range' σ.nx news) post)(hp:GF σ.es pre)(hd:z9 N o.dst=true)
 (h2:DW E N k ops rest (a.put o.dst v) (σ.Ay news post) Q):DW E N k ops (o::rest) a σ Q:=by
 intro hk g w act hR hF g0 F0 w0 hx;refine wpList_step fun K hK=> ?_;rw[if_pos (Nf hw hF)];refine h g _ σ.es w act hR (U0 hp) (fun n hn hlt=> ?_) hF K _ fun g' v' w' hR' hv' hx'=>hK _ _ ?_
 .obtain ⟨i,_,hi⟩:=XX.1 hn;omega
 .have hD:∀n,(n<σ.nx\/n∈List.range' σ.nx news)↔n<σ.nx+news:=fun n=>by
   rw[XX];constructor
   .rintro (h|⟨i,h1,h2⟩)<;>omega
   .intro h;by_cases h1:n<σ.nx
    .exact .inl h1
    .exact .inr ⟨n-σ.nx,by omega,by omega⟩
  have hle:∀n,(fun n=>n<σ.nx) n->(fun n=>n<σ.nx+news) n:=fun n h=>by simp only at h ⊢;omega
  refine h2 (by simp only[Aq.Ay];omega) g' w' _ (hR'.more fun n h=>(hD n).1 h) ?_ g0 F0 w0 (hx.trans (hx'.mono fun n hn=>by omega));exact(hF.ext hx' hle).put (Nm hd) (hv'.more fun n h=>(hD n).1 h)
theorem DW.sk{o:Oper}(hw:yb ops a o.guard=some false)(hd:z9 N o.dst=true)(h2:DW E N k ops rest (a.put o.dst (.AD [])) σ Q):DW E N k ops (o::rest) a σ Q:=by
 intro hk g w act hR hF g0 F0 w0 hx;refine wpList_step fun K hK=> ?_;rw[if_neg (by rw[Nf hw hF];simp)];exact hK _ _ (h2 hk g w _ hR (hF.put (Nm hd) (.AD [] [] rfl (fun i v c h=>by simp at h))) g0 F0 w0 hx)
end
section
variable {E:Env} {N k:Nat} {a:AF} {σ:Aq} {Q:Exit->AF->Aq->Prop}
def K9(E:Env)(N k:Nat){ι:Type}(J:ι->AF×Aq)(Q:Exit->AF->Aq->Prop):Exit->AF->Aq->Prop
 | .normal,a,σ=>∃i,Bi E N k a σ (J i).1 (J i).2
 |e,a,σ=>Q e a σ
namespace K
theorem sq{x y:Code}(h:AW E N k x a σ (HR E N k y Q)):AW E N k (.seq x y) a σ Q:= .seq h
theorem tN{y:Code}(h:AW E N k y a σ Q):HR E N k y Q .normal a σ:=h
theorem tR{y:Code}(h:Q .ret a σ):HR E N k y Q .ret a σ:=h
theorem tE{y:Code}{id:Nat}(h:Q (.exit id) a σ):HR E N k y Q (.exit id) a σ:=h
theorem bN{id:Nat}(h:Q .normal a σ):ub id Q .normal a σ:=h
theorem bR{id:Nat}(h:Q .ret a σ):ub id Q .ret a σ:=h
theorem lR{ι:Type}{J:ι->AF×Aq}{μ:ι->Nat}{i:ι}(h:Q .ret a σ):Ls E N k J μ i Q .ret a σ:=h
theorem lE{ι:Type}{J:ι->AF×Aq}{μ:ι->Nat}{i:ι}{id:Nat}(h:Q (.exit id) a σ):Ls E N k J μ i Q (.exit id) a σ:=h
theorem cR{ι:Type}{J:ι->AF×Aq}(h:Q .ret a σ):K9 E N k J Q .ret a σ:=h
theorem rt{rs:List ResultVar}{r:V}{σ':Aq}{cs:List V}{c1:V}(ρ:List (Option Nat))(h1:FN E a σ.es rs=some cs)(h2:ρ.length=σ'.nx)(h3:Ga 0 k ρ=true)(h4:yc ρ=true)(h5:below σ.nx ρ=true)
 (h6:Dz ρ σ.es σ'.es) (h7:wl ρ r=some c1) (h8:Ao (zk cs) c1):Fk E k rs r σ' .ret a σ:=⟨cs,h1,ρ,h2,h3,h4,h5,h6,c1,h7,h8⟩
theorem r0{rs:List ResultVar}{r:V}{cs:List V}{c1:V}(h1:FN E a σ.es rs=some cs)(h7:wl [] r=some c1)(h8:Ao (zk cs) c1):Fk E 0 rs r ⟨0,[]⟩ .ret a σ:=
 ⟨cs,h1,[],rfl,rfl,rfl,rfl,trivial,c1,h7,h8⟩
end K
end
section
variable {β:Type}
def ud:List (Nat×β)->Nat->Option β
 |[],_=>none
 |p::l,n=>bif Nat.beq p.1 n then some p.2 else ud l n
theorem Lu(m:Nat)(e:β)(es:List (Nat×β))(n:Nat):ud ((m,e)::es) n=if m=n then some e else ud es n:=by
 show(bif Nat.beq m n then some e else ud es n)=_;by_cases h:m=n
 .subst h;simp
 .simp[Ky h,h]
theorem uf(p es:List (Nat×β))(n:Nat):ud (p++es) n=(ud p n).or (ud es n):=by
 induction p with
 |nil=>simp[ud]
 |cons x l ih=>
  obtain⟨m,e⟩:=x;rw[Xu,Lu,Lu];by_cases h:m=n
  .simp[h]
  .simp[h,ih]
theorem CS{p:List (Nat×β)}{n:Nat}:(ud p n).isSome=true↔n∈p.map Prod.fst:=by
 induction p with
 |nil=>simp[ud]
 |cons x l ih=>
  obtain⟨m,e⟩:=x;rw[Lu];by_cases h:m=n
  .simp[h]
  .simp[h,ih];intro h2;exact absurd h2.symm h
theorem O1{p:List (Nat×β)}{n:Nat}(h:n∉p.map Prod.fst):ud p n=none:=by
 cases hf:ud p n with
 |none=>rfl
 |some x=>exact absurd (CS.1 (by rw[hf];rfl)) h
def v5(fl:Nat->Bool):Nat->List (List (Nat×β))->List (Nat×β)->List (Nat×β)
 |_,[],es=>es
 |i,u::us,es=>v5 fl (i+1) us (bif fl i then u++es else es)
theorem u5{fl fl':Nat->Bool}{n:Nat}:∀{us:List (List (Nat×β))} {i:Nat} {es es':List (Nat×β)},ud es n=ud es' n->(∀j u,us[j]? =some u->n∈u.map Prod.fst->fl (i+j)=fl' (i+j))->
 ud (v5 fl i us es) n=ud (v5 fl' i us es') n:=by
 intro us;induction us with
 |nil=>intro i es es' h _;exact h
 |cons u us ih=>
  intro i es es' h hk;simp only[v5];refine ih ?_ fun j u' hj hn=> ?_
  .by_cases hn:n∈u.map Prod.fst
   .have:=hk 0 u rfl hn;rw[XR] at this;rw[this];cases fl' i with
    |true=>simp only[cond_true,uf,h]
    |false=>exact h
   .have hu:=O1 hn;have e1:∀(b:Bool) (es:List (Nat×β)),ud (bif b then u++es else es) n=ud es n:=fun b es=>by
     cases b<;>simp[uf,hu]
    rw[e1,e1,h]
  .have:=hk (j+1) u' (by simpa using hj) hn;rw[show i+1+j=i+(j+1) from by omega];exact this
theorem Tf{fl:Nat->Bool}{n:Nat}:∀{us:List (List (Nat×β))} {i k:Nat} {u:List (Nat×β)} {es:List (Nat×β)},us[k]? =some u->fl (i+k)=true->n∈u.map Prod.fst->
 (∀j u',k<j->us[j]? =some u'->n∈u'.map Prod.fst->fl (i+j)=false)->ud (v5 fl i us es) n=ud u n:=by
 intro us;induction us with
 |nil=>intro i k u es h;simp at h
 |cons x us ih=>
  intro i k u es hk hf hn hl;simp only[v5];cases k with
  |zero=>
   simp at hk;subst hk;rw[XR] at hf;have h1:ud (v5 fl (i+1) us (bif fl i then x++es else es)) n=ud (v5 (fun _=>false) (i+1) us (x++es)) n:=by
    refine u5 (by rw[hf];rfl) fun j u' hj hn'=> ?_;have:=hl (j+1) u' (by omega) (by simpa using hj) hn';rw[show i+1+j=i+(j+1) from by omega];exact this
   have h2:∀(us:List (List (Nat×β))) i es,v5 (fun _=>false) i us es=es:=by
    intro us;induction us with
    |nil=>intro i es;rfl
    |cons y us ih=>intro i es;simp only[v5,cond_false];exact ih _ _
   rw[h1,h2,uf];obtain⟨v,hv⟩:=XN.1 (CS.2 hn);rw[hv];rfl
  |succ k=>
   refine ih (by simpa using hk) (by rw[show i+1+k=i+(k+1) from by omega];exact hf) hn fun j u' hj hju hn'=> ?_;have:=hl (j+1) u' (by omega) (by simpa using hju) hn';rw[show i+1+j=i+(j+1) from by omega];exact this
end
theorem JM(a:AF)(n:Nat):a.get n=(ud a n:Option V):=by
 induction a with
 |nil=>rfl
 |cons p l ih=>obtain⟨m,e⟩:=p;rw[AF.Be,Lu,ih]
theorem Jn(es:Es)(n:Nat):zl es n=(ud es n:Option A2):=by
 induction es with
 |nil=>rfl
 |cons p l ih=>obtain⟨m,e⟩:=p;rw[zp,Lu,ih]
def FQ(o:Oper):List Nat:=o.after.toList.filterMap fun e=>bif Region.binds .any e then some e.on else none
def NB(bs:List Nat)(o:Oper):Nat:=(FQ o).foldl (fun s e=>s|||2^e|||bs.getD e 0) 0
def Hu:List Oper->List Nat->List Nat
 |[],bs=>bs
 |o::l,bs=>Hu l (bs++[NB bs o])
inductive Path (ops:List Oper):Nat->Nat->Prop
 |base {i j:Nat} {o:Oper} (ho:ops[j]? =some o) (h:i∈FQ o):Path ops i j
 |step {i m j:Nat} {o:Oper} (ho:ops[j]? =some o) (h:m∈FQ o) (h2:Path ops i m):Path ops i j
theorem Zob{ops:List Oper}{bs:List Nat}{o:Oper}{j:Nat}(ho:ops[j]? =some o)(hbs:∀m i,(bs.getD m 0).testBit i=true->Path ops i m):∀i,(NB bs o).testBit i=true->Path ops i j:=by
 have key:∀(l:List Nat) (s:Nat),(∀e∈l,e∈FQ o)->(∀i,s.testBit i=true->Path ops i j)->∀i,(l.foldl (fun s e=>s|||2^e|||bs.getD e 0) s).testBit i=true->Path ops i j:=by
  intro l;induction l with
  |nil=>intro s _ hs i h;exact hs i h
  |cons e l ih=>
   intro s hl hs i h;refine ih _ (fun e' he'=>hl e' (by simp[he'])) (fun i' h'=> ?_) i h;rw[Nat.testBit_or,Nat.testBit_or,Xl,Xl] at h';rcases h' with(h'|h')|h'
   .exact hs i' h'
   .rw[Nat.testBit_two_pow] at h';simp only[decide_eq_true_eq] at h';subst h';exact .base ho (hl e (by simp))
   .exact .step ho (hl e (by simp)) (hbs e i' h')
 intro i h;exact key (FQ o) 0 (fun e h=>h) (fun i h=>by simp at h) i h
theorem Zsp{ops:List Oper}:∀(l:List Oper) (bs:List Nat),(∀j,l[j]? =ops[bs.length+j]?)->(∀m i,(bs.getD m 0).testBit i=true->Path ops i m)->∀m i,((Hu l bs).getD m 0).testBit i=true->Path ops i m:=by
 intro l;induction l with
 |nil=>intro bs _ h;exact h
 |cons o l ih=>
  intro bs hl h;refine ih (bs++[NB bs o]) (fun j=>by have:=hl (j+1);simp only[Xb] at this;rw[this];simp only[WD,Wy,W3];congr 1;omega) ?_;intro m i hm;by_cases h1:m<bs.length
  .rw[WJ,WC h1,<-WJ] at hm;exact h m i hm
  .by_cases h2:m=bs.length
   .subst h2;rw[WJ,WG (Wj _)] at hm;simp only[X6,Ys,XA] at hm;have h0:ops[bs.length]? =some o:=by have:=hl 0;simpa using this.symm
    exact Zob h0 h i hm
   .rw[WJ,WG (by omega)] at hm;have:([NB bs o])[m-bs.length]? =none:=XG (by simp;omega);rw[this] at hm;simp at hm
structure Rec where
 pre:Es
 v:V
 news:Nat
 post:Es
def Sa(xs:List Operand):List Nat:=xs.filterMap fun| .tmp t=>some t|_=>none
def EA(ops:List Oper)(o:Oper):List Nat:=
 Sa o.op.operands.toList++(match o.guard with|some (j,_)=>((ops[j]?).bind (·.dst)).toList|none=>[])
def FU(a:AF):List Nat->AF
 |[]=>[]
 |t::l=>match a.get t with
  |some v=>(t,v)::FU a l
  |none=>FU a l
theorem SW{a:AF}:∀{l:List Nat} {t:Nat} {c:V},(FU a l).get t=some c->t∈l/\a.get t=some c:=by
 intro l;induction l with
 |nil=>intro t c h;cases h
 |cons x l ih=>
  intro t c h;simp only[FU] at h;cases hx:a.get x with
  |none=>rw[hx] at h;obtain⟨h1,h2⟩:=ih h;exact⟨by simp[h1],h2⟩
  |some v=>
   rw[hx] at h;simp only[AF.Be] at h;by_cases hxt:x=t
   .subst hxt;simp only[if_true,Wq] at h;subst h;exact⟨by simp,hx⟩
   .simp only[hxt,if_false] at h;obtain⟨h1,h2⟩:=ih h;exact⟨by simp[h1],h2⟩
def He(l l':List Nat):Bool:=l.any fun x=>l'.any fun y=>Nat.beq x y
theorem La{l l':List Nat}{x:Nat}(h:x∈l)(h':x∈l'):He l l'=true:=
 YE.2 ⟨x,h,YE.2 ⟨x,h',by simp⟩⟩
def FV(lo lo':List Nat)(d d':List Nat)(r r':Rec):Bool:=
 He d lo'||He d' lo||He d d'||He (r.post.map Prod.fst) (r'.pre.map Prod.fst)||He (r'.post.map Prod.fst) (r.pre.map Prod.fst)||He (r.post.map Prod.fst) (r'.post.map Prod.fst)
def Ni(ops:List Oper)(lo d:List Nat)(r:Rec)(i:Nat):List Oper->List Rec->List Nat->Bool
 |o::os,r'::rs,m::ms=>(!FV lo (EA ops o) d o.dst.toList r r'||m.testBit i)&&Ni ops lo d r i os rs ms
 |_,_,_=>true
def Nx(ops:List Oper):Nat->List Oper->List Rec->List Nat->Bool
 |i,o::os,r::rs,_::ms=>Ni ops (EA ops o) o.dst.toList r i os rs ms&&Nx ops (i+1) os rs ms
 |_,_,_,_=>true
def Iw(ops:List Oper)(rs:List Rec):Bool:=Nx ops 0 ops rs (Hu ops [])
theorem Zpc{ops:List Oper}{lo d:List Nat}{r:Rec}{i:Nat}:∀{os:List Oper} {rs:List Rec} {ms:List Nat},Ni ops lo d r i os rs ms=true->∀(j:Nat) o' r' m,os[j]? =some o'->rs[j]? =some r'->ms[j]? =some m->
 FV lo (EA ops o') d o'.dst.toList r r'=true->m.testBit i=true:=by
 intro os;induction os with
 |nil=>intro rs ms _ j o' r' m h;simp at h
 |cons o os ih=>
  intro rs ms h j o' r' m h1 h2 h3 hc;cases rs with
  |nil=>simp at h2
  |cons r0 rs=>
   cases ms with
   |nil=>simp at h3
   |cons m0 ms=>
    simp only[Ni,Wk] at h;cases j with
    |zero=>
     simp at h1 h2 h3;subst h1;subst h2;subst h3;have:=h.1;rw[hc] at this;simpa using this
    |succ j=>simp only[Xb] at h1 h2 h3;exact ih h.2 j o' r' m h1 h2 h3 hc
theorem Zo8{ops:List Oper}:∀{os:List Oper} {rs:List Rec} {ms:List Nat} {b:Nat},Nx ops b os rs ms=true->∀(i j:Nat) o r o' r' m,i<j->os[i]? =some o->rs[i]? =some r->os[j]? =some o'->rs[j]? =some r'->ms[j]? =some m->
 FV (EA ops o) (EA ops o') o.dst.toList o'.dst.toList r r'=true->m.testBit (b+i)=true:=by
 intro os;induction os with
 |nil=>intro rs ms b _ i j o r o' r' m _ h;simp at h
 |cons o0 os ih=>
  intro rs ms b h i j o r o' r' m hij h1 h2 h3 h4 h5 hc;cases rs with
  |nil=>simp at h2
  |cons r0 rs=>
   cases ms with
   |nil=>simp at h5
   |cons m0 ms=>
    simp only[Nx,Wk] at h;cases j with
    |zero=>omega
    |succ j=>
     simp only[Xb] at h3 h4 h5;cases i with
     |zero=>
      simp at h1 h2;subst h1;subst h2;rw[XR];exact Zpc h.1 j o' r' m h3 h4 h5 hc
     |succ i=>
      simp only[Xb] at h1 h2;have:=ih h.2 i j o r o' r' m (by omega) h1 h2 h3 h4 h5 hc;rw[show b+(i+1)=b+1+i from by omega];exact this
theorem Ztt:∀(l:List Oper) (bs:List Nat),(Hu l bs).length=bs.length+l.length:=by
 intro l;induction l with
 |nil=>intro bs;rfl
 |cons o l ih=>intro bs;simp only[Hu];rw[ih];simp;omega
theorem SN{ops:List Oper}{rs:List Rec}(h:Iw ops rs=true){i j:Nat}{o o':Oper}{r r':Rec}(hij:i<j)(h1:ops[i]? =some o)(h2:rs[i]? =some r)(h3:ops[j]? =some o')(h4:rs[j]? =some r')
 (hc:FV (EA ops o) (EA ops o') o.dst.toList o'.dst.toList r r'=true):Path ops i j:=by
 have hl:=Ztt ops [];have hj:j<(Hu ops []).length:=by rw[hl];have:=(Ww.1 h3).1;simpa using this
 have h5:(Hu ops [])[j]? =some ((Hu ops [])[j]):=Wl hj;have h6:=Zo8 h i j o r o' r' _ hij h1 h2 h3 h4 h5 hc;rw[Xg] at h6;exact Zsp ops [] (fun j=>by simp) (fun m i h=>by simp at h) j i (by rw[WJ,h5];exact h6)
inductive CB (E:Env) (N:Nat) (ops:List Oper):List Oper->AF->Aq->List Rec->AF->Aq->Prop
 |nil (a:AF) (σ:Aq):CB E N ops [] a σ [] a σ
 |run {o:Oper} {rest:List Oper} {a:AF} {σ:Aq} (r:Rec) {rs:List Rec} {a':AF} {σ':Aq} (hw:yb ops a o.guard=some true) (h:OS E N o (FU a (EA ops o)) r.pre r.v (List.range' σ.nx r.news) r.post)
  (hp:GF σ.es r.pre) (hd:z9 N o.dst=true) (h2:CB E N ops rest (a.put o.dst r.v) (σ.Ay r.news r.post) rs a' σ'):CB E N ops (o::rest) a σ (r::rs) a' σ'
 |sk {o:Oper} {rest:List Oper} {a:AF} {σ:Aq} {rs:List Rec} {a':AF} {σ':Aq} (hw:yb ops a o.guard=some false) (hd:z9 N o.dst=true) (h2:CB E N ops rest (a.put o.dst (.AD [])) σ rs a' σ'):
  CB E N ops (o::rest) a σ (⟨[],.AD [],0,[]⟩::rs) a' σ'
def AWD(E:Env)(N k:Nat)(ops rest:List Oper)(a:AF)(σ:Aq)(acc:List Rec)(Q:Exit->AF->Aq->Prop):Prop:=
 ∃rs a' σ',CB E N ops rest a σ rs a' σ'/\Iw ops (acc.reverse++rs)=true/\Q .normal a' σ'
def GL(d:Option Nat)(v:V):AF:=match d with|some d=>[(d,v)]|none=>[]
theorem KY(a:AF)(d:Option Nat)(v:V):a.put d v=GL d v++a:=by cases d<;>rfl
def DX(os:List Oper)(rs:List Rec):List AF:=List.zipWith (fun o r=>GL o.dst r.v) os rs
def Dw(rs:List Rec):List Es:=rs.map Rec.post
def C4(nx:Nat)(rs:List Rec)(i:Nat):Nat:=nx+((rs.take i).map Rec.news).sum
theorem Rt{β:Type}{fl:Nat->Bool}:∀{us:List (List (Nat×β))} {i:Nat} {es:List (Nat×β)},v5 fl (i+1) us es=v5 (fun j=>fl (j+1)) i us es:=by
 intro us;induction us with
 |nil=>intro i es;rfl
 |cons u us ih=>intro i es;simp only[v5];rw[ih]
theorem Qg{β:Type}{fl:Nat->Bool}:∀{us:List (List (Nat×β))} {i:Nat} {es:List (Nat×β)},(∀j,i<=j->fl j=false)->v5 fl i us es=es:=by
 intro us;induction us with
 |nil=>intro i es _;rfl
 |cons u us ih=>intro i es h;simp only[v5,h i (Wj _),cond_false];exact ih fun j hj=>h j (by omega)
section
variable {E:Env} {N k:Nat} {ops:List Oper}
theorem CB.len{rest:List Oper}{a:AF}{σ:Aq}{rs:List Rec}{a':AF}{σ':Aq}(h:CB E N ops rest a σ rs a' σ'):rs.length=rest.length:=by
 induction h with
 |nil=>rfl
 |run _ _ _ _ _ _ ih=>simp[ih]
 |sk _ _ _ ih=>simp[ih]
theorem CB.fin{rest:List Oper}{a:AF}{σ:Aq}{rs:List Rec}{a':AF}{σ':Aq}(h:CB E N ops rest a σ rs a' σ'):
 a'=v5 (fun _=>true) 0 (DX rest rs) a/\σ'.es=v5 (fun _=>true) 0 (Dw rs) σ.es/\σ'.nx=C4 σ.nx rs rs.length:=by
 have hs:∀{β:Type} {us:List (List (Nat×β))} {es:List (Nat×β)},v5 (fun _=>true) 1 us es=v5 (fun _=>true) 0 us es:=fun {β us es}=>Rt;induction h with
 |nil=>exact⟨rfl,rfl,by simp[C4]⟩
 |run r _ _ _ _ _ ih=>
  obtain⟨h1,h2,h3⟩:=ih;refine⟨?_,?_,?_⟩
  .rw[h1,KY];simp only[DX,X7,v5,cond_true];exact hs.symm
  .rw[h2];simp only[Dw,Wn,v5,cond_true,Aq.Ay];exact hs.symm
  .rw[h3];simp[C4,Aq.Ay];omega
 |sk _ _ _ ih=>
  obtain⟨h1,h2,h3⟩:=ih;refine⟨?_,?_,?_⟩
  .rw[h1,KY];simp only[DX,X7,v5,cond_true];exact hs.symm
  .rw[h2];simp only[Dw,Wn,v5,cond_true,WW];exact hs.symm
  .rw[h3];simp[C4]
def Yh8(E:Env)(N:Nat)(ops:List Oper)(a:AF)(nx:Nat)(es:Es)(o:Oper)(r:Rec):Prop:=
 z9 N o.dst=true/\((yb ops a o.guard=some true/\OS E N o (FU a (EA ops o)) r.pre r.v (List.range' nx r.news) r.post/\GF es r.pre)\/(yb ops a o.guard=some false/\r=⟨[],.AD [],0,[]⟩))
theorem CB.nth{rest:List Oper}{a:AF}{σ:Aq}{rs:List Rec}{a':AF}{σ':Aq}(h:CB E N ops rest a σ rs a' σ'):∀(i:Nat) o r,rest[i]? =some o->rs[i]? =some r->
 Yh8 E N ops (v5 (fun j=>decide (j<i)) 0 (DX rest rs) a) (C4 σ.nx rs i) (v5 (fun j=>decide (j<i)) 0 (Dw rs) σ.es) o r:=by
 have h0:∀{β:Type} {us:List (List (Nat×β))} {es:List (Nat×β)},v5 (fun j=>decide (j<0)) 0 us es=es:=fun {β us es}=>Qg fun j _=>by simp
 have hs:∀{β:Type} {i:Nat} {us:List (List (Nat×β))} {es:List (Nat×β)},v5 (fun j=>decide (j<i+1)) 1 us es=v5 (fun j=>decide (j<i)) 0 us es:=fun {β i us es}=>by
  rw[Rt];congr 1;funext j;simp
 induction h with
 |nil=>intro i o r h;simp at h
 |run r0 hw h hp hd _ ih=>
  intro i o r h1 h2;cases i with
  |zero=>
   simp at h1 h2;subst h1;subst h2;rw[h0,h0];exact⟨hd,.inl ⟨hw,by simpa[C4] using h,hp⟩⟩
  |succ i=>
   simp only[Xb] at h1 h2;have:=ih i o r h1 h2;simp only[DX,Dw,X7,Wn,v5,Nat.zero_lt_succ,decide_true,cond_true];rw[hs,hs];rw[KY] at this;simp only[Aq.Ay] at this;have hnx:∀nx rs,C4 nx (r0::rs) (i+1)=C4 (nx+r0.news) rs i:=fun nx rs=>by simp[C4];omega
   rw[hnx];exact this
 |sk hw hd _ ih=>
  intro i o r h1 h2;cases i with
  |zero=>
   simp at h1 h2;subst h1;subst h2;rw[h0,h0];exact⟨hd,.inr ⟨hw,rfl⟩⟩
  |succ i=>
   simp only[Xb] at h1 h2;have:=ih i o r h1 h2;simp only[DX,Dw,X7,Wn,v5,Nat.zero_lt_succ,decide_true,cond_true,WW];rw[hs,hs];rw[KY] at this;have hnx:∀nx rs,C4 nx ((⟨[],.AD [],0,[]⟩:Rec)::rs) (i+1)=C4 nx rs i:=fun nx rs=>by simp[C4]
   rw[hnx];exact this
theorem Md{nx:Nat}{rs:List Rec}{i:Nat}{r:Rec}(h:rs[i]? =some r):C4 nx rs (i+1)=C4 nx rs i+r.news:=by
 obtain⟨hi,rfl⟩:=Ww.1 h;simp only[C4];rw[Xj hi,Xv,XY,Wn,WI,Wt,WU];omega
theorem JS{nx:Nat}{rs:List Rec}{i j:Nat}(h:i<=j):C4 nx rs i<=C4 nx rs j:=by
 induction j with
 |zero=>have:i=0:=by omega
        subst this;exact Wj _
 |succ j ih=>
  by_cases hij:i=j+1
  .subst hij;exact Wj _
  .have h1:=ih (by omega);cases hr:rs[j]? with
   |some r=>rw[Md hr];omega
   |none=>
    have hl:rs.length<=j:=by
     rcases XM j rs.length with h|h
     .rw[Wl h] at hr;cases hr
     .exact h
    have:C4 nx rs (j+1)=C4 nx rs j:=by simp only[C4];rw[Xn (by omega),Xn hl]
    omega
def Dn(nx:Nat)(rs:List Rec)(fl:Nat->Bool)(n:Nat):Prop:=n<nx\/∃i r,rs[i]? =some r/\fl i=true/\n∈List.range' (C4 nx rs i) r.news
theorem Yhh{nx:Nat}{rs:List Rec}{fl:Nat->Bool}{i:Nat}{r:Rec}(h:rs[i]? =some r)(hf:fl i=false):∀n∈List.range' (C4 nx rs i) r.news,¬Dn nx rs fl n:=by
 intro n hn hD;obtain⟨a,ha,rfl⟩:=XX.1 hn;have h0:C4 nx rs 0=nx:=by simp[C4]
 have h1:=JS (nx:=nx) (rs:=rs) (XE i);rcases hD with hD|⟨j,r',hj,hfj,hm⟩
 .omega
 .obtain ⟨b,hb,hbe⟩:=XX.1 hm;have hij:i≠j:=fun e=>by subst e;rw[hf] at hfj;cases hfj
  rcases Nat.lt_or_gt_of_ne hij with hlt|hlt
  .have:=JS (nx:=nx) (rs:=rs) (show i+1<=j by omega);rw[Md h] at this;omega
  .have:=JS (nx:=nx) (rs:=rs) (show j+1<=i by omega);rw[Md hj] at this;omega
theorem R.congr{G:Dm}{g:Gh}{D:Nat->Prop}{es es':Es}{w:World}(h:R G g D es w)(he:∀n,zl es' n=zl es n):R G g D es' w:=
 ⟨fun n e hn=>h.lt n e (by rw[<-he];exact hn),fun n n' e e' b h1 h2=>h.Bb n n' e e' b (by rw[<-he];exact h1) (by rw[<-he];exact h2),fun n e hn=>h.BW n e (by rw[<-he];exact hn),h.fresh,h.Et⟩
theorem Az.congr{g:Gh}{es es':Es}(he:∀n,zl es' n=zl es n):Az g es'=Az g es:=by
 funext b;simp only[Az,he]
theorem BA.congr{g:Gh}{D:Nat->Prop}{w:World}{act:Act}{a a':AF}(h:BA g D w N act a)(he:∀t,a'.get t=a.get t):BA g D w N act a':=
 ⟨h.size,h.defers,fun t c hc=>h.vals t c (by rw[<-he];exact hc)⟩
theorem Pm{a a':AF}{o:Oper}(h:∀t∈EA ops o,a'.get t=a.get t):yb ops a' o.guard=yb ops a o.guard:=by
 cases hg:o.guard with
 |none=>rfl
 |some p=>
  obtain⟨j,b⟩:=p;simp only[yb];cases hj:(ops[j]?).bind (·.dst) with
  |none=>rfl
  |some d=>
   have:d∈EA ops o:=by simp[EA,hg,hj]
   simp only[h d this]
theorem Ycp{p:Nat×A2}{pre:Es}(h:p∈pre):p.1∈pre.map Prod.fst:=List.mem_map_of_mem h
theorem Zs6{a0:AF}{σ0:Aq}{rs:List Rec}{a':AF}{σ':Aq}(hpl:CB E N ops ops a0 σ0 rs a' σ')(hord:Iw ops rs=true){Q:Exit->AF->Aq->Prop}(hQ:Q .normal a' σ')(hk:k<=σ0.nx)
 {g0:Gh} {F0:Nat->Prop} {w0:World} (hedge:∀j o,ops[j]? =some o->∀e∈FQ o,e<j):
 ∀(fuel:Nat) (listed:Array Bool) (act:Act) (w:World),listed.size=ops.length->(listed.toList.count false<=fuel)->
  (∀j o,ops[j]? =some o->listed.getD j false=true->∀e∈FQ o,listed.getD e false=true)->
  (∃g,R E.G g (Dn σ0.nx rs fun j=>listed.getD j false) (v5 (fun j=>listed.getD j false) 0 (Dw rs) σ0.es) w/\BA g (Dn σ0.nx rs fun j=>listed.getD j false) w N act (v5 (fun j=>listed.getD j false) 0 (DX ops rs) a0)/\
   Ext (·<k) g0 F0 w0 g (Az g (v5 (fun j=>listed.getD j false) 0 (Dw rs) σ0.es)) w)->
  wpAny E.P .any ops.toArray (Post E N k g0 F0 w0 Q) fuel listed act w:=by
 have hlen:=hpl.len;obtain⟨hfa,hfe,hfn⟩:=hpl.fin;have hpath:∀(fl:Nat->Bool) (hc:∀j o,ops[j]? =some o->fl j=true->∀e∈FQ o,fl e=true) {i j:Nat},Path ops i j->(∀o,ops[j]? =some o->∀e∈FQ o,fl e=true)->fl i=true:=by
  intro fl hc i j hp;induction hp with
  |base ho h=>intro hj;exact hj _ ho _ h
  |step ho h _ ih=>intro hj;exact ih fun o' ho'=>hc _ o' ho' (hj _ ho _ h)
 have hend:∀(listed:Array Bool) (act:Act) (w:World),listed.size=ops.length->Region.ready .any ops.toArray listed=[]->
  (∃g,R E.G g (Dn σ0.nx rs fun j=>listed.getD j false) (v5 (fun j=>listed.getD j false) 0 (Dw rs) σ0.es) w/\BA g (Dn σ0.nx rs fun j=>listed.getD j false) w N act (v5 (fun j=>listed.getD j false) 0 (DX ops rs) a0)/\
   Ext (·<k) g0 F0 w0 g (Az g (v5 (fun j=>listed.getD j false) 0 (Dw rs) σ0.es)) w)->Post E N k g0 F0 w0 Q .normal act w:=by
  intro listed act w hsz hnil ⟨g,hR,hF,hx⟩;have hall:∀j,j<ops.length->listed.getD j false=true:=by
   intro j;induction j using Nat.strongRecOn with
   |_ j ih=>
    intro hj;cases hlj:listed.getD j false with
    |true=>rfl
    |false=>
     exfalso;have hmem:j∈Region.ready .any ops.toArray listed:=by
      unfold Region.ready;rw[XP];refine⟨by simpa using hj,?_⟩;have hjs:j<listed.size:=by omega
      have h1:listed.getD j true=false:=by
       simp only[WV,Xr hjs,XA] at hlj ⊢;exact hlj
      have h2:ops.toArray[j]? =some (ops[j]):=by simp[hj]
      simp only[h1,Bool.not_false,WZ,h2,Xe,XA];rw[<-Array.all_toList,Wm];intro e he;cases hb:Region.binds .any e with
      |false=>rfl
      |true=>
       have heh:e.on∈FQ ops[j]:=Yr.2 ⟨e,he,by simp[hb]⟩;have hlt:=hedge j ops[j] (Wl hj) e.on heh;simp only[Y0,Bool.false_or];exact ih e.on hlt (by omega)
     rw[hnil] at hmem;cases hmem
  have hfl:∀{β:Type} (us:List (List (Nat×β))) (es:List (Nat×β)),us.length=ops.length->∀n,ud (v5 (fun j=>listed.getD j false) 0 us es) n=ud (v5 (fun _=>true) 0 us es) n:=by
   intro β us es hus n;refine u5 rfl fun j u hj _=> ?_;rw[Xg];exact hall j (by rw[<-hus];exact(Ww.1 hj).1)
  have hpl2:(Dw rs).length=ops.length:=by simp[Dw,hlen]
  have hfl2:(DX ops rs).length=ops.length:=by simp[DX,hlen]
  have he:∀n,zl σ'.es n=zl (v5 (fun j=>listed.getD j false) 0 (Dw rs) σ0.es) n:=fun n=>by
   rw[Jn,Jn,hfe];exact(hfl _ _ hpl2 n).symm
  have ha:∀n,a'.get n=AF.get (v5 (fun j=>listed.getD j false) 0 (DX ops rs) a0) n:=fun n=>by
   rw[JM,JM,hfa];exact(hfl _ _ hfl2 n).symm
  have hD:∀n,Dn σ0.nx rs (fun j=>listed.getD j false) n->n<σ'.nx:=by
   intro n hn;rw[hfn];have h0:C4 σ0.nx rs 0=σ0.nx:=by simp[C4]
   rcases hn with hn|⟨i,r,hr,_,hm⟩
   .have:=JS (nx:=σ0.nx) (rs:=rs) (XE rs.length);omega
   .obtain ⟨b,hb,hbe⟩:=XX.1 hm;have hi:=(Ww.1 hr).1;have:=JS (nx:=σ0.nx) (rs:=rs) (show i+1<=rs.length by omega);rw[Md hr] at this;omega
  refine⟨g,a',σ',hQ,?_,(hR.congr he).more hD,?_,?_⟩
  .rw[hfn];have:=JS (nx:=σ0.nx) (rs:=rs) (XE rs.length);have h0:C4 σ0.nx rs 0=σ0.nx:=by simp[C4]
   omega
  .have:=hF.congr ha;exact⟨this.size,this.defers,fun t c hc=>let ⟨v,h1,h2⟩:=this.vals t c hc;⟨v,h1,h2.more hD⟩⟩
  .rw[Az.congr he];exact hx
 intro fuel;induction fuel with
 |zero=>
  intro listed act w hsz hcnt hcl hinv;have hready:Region.ready .any ops.toArray listed=[]:=by
   unfold Region.ready;rw[List.filter_eq_nil_iff];intro j hj;have hj':j<ops.length:=by simpa using hj
   have hjs:j<listed.size:=by omega
   have:listed.getD j true=true:=by
    simp only[WV,Xr hjs,XA];have h0:listed.toList.count false=0:=by omega
    rw[List.count_eq_zero] at h0;cases hb:listed[j] with
    |true=>rfl
    |false=>exact absurd (by rw[<-hb];exact Array.getElem_mem_toList hjs) h0
   simp[this]
  exact⟨hready,hend listed act w hsz hready hinv⟩
 |succ fuel ih=>
  intro listed act w hsz hcnt hcl hinv;refine⟨fun hnil=>hend listed act w hsz hnil hinv,fun i hi=> ?_⟩;obtain⟨g,hR,hF,hx⟩:=hinv;unfold Region.ready at hi;rw[XP] at hi;obtain⟨hi1,hi2⟩:=hi;have hin:i<ops.length:=by simpa using hi1
  have hios:ops[i]? =some ops[i]:=Wl hin;have hirs:rs[i]? =some (rs[i]'(by omega)):=Wl _;have h2:ops.toArray[i]? =some (ops[i]):=by simp[hin]
  simp only[h2,Xe,XA,Wk] at hi2;have hil:i<listed.size:=by omega
  have hfi:listed.getD i false=false:=by
   have:=hi2.1;simp only[WV,Xr hil,XA] at this ⊢;simpa using this
  have hihard:∀o,ops[i]? =some o->∀e∈FQ o,listed.getD e false=true:=by
   intro o ho e he;rw[hios] at ho;cases ho;obtain⟨e',he',hee⟩:=Yr.1 he;have h3:=hi2.2;rw[<-Array.all_toList,Wm] at h3;have:=h3 e' he';cases hb:Region.binds .any e' with
   |false=>rw[hb] at hee;cases hee
   |true=>
    rw[hb] at hee this;simp only[cond_true,Wq] at hee;subst hee;simpa using this
  have hcl1:∀j o r,ops[j]? =some o->rs[j]? =some r->j≠i->FV (EA ops ops[i]) (EA ops o) ops[i].dst.toList o.dst.toList (rs[i]'(by omega)) r=true\/FV (EA ops o) (EA ops ops[i]) o.dst.toList ops[i].dst.toList r (rs[i]'(by omega))=true->
   listed.getD j false=decide (j<i):=by
   intro j o r hjo hjr hji hc;have hsym:∀{lo lo' d d' r r'},FV lo lo' d d' r r'=true->FV lo' lo d' d r' r=true:=by
    intro lo lo' d d' r r' h;have hany:∀x y:List Nat,He x y=true->He y x=true:=fun x y h=>by
     obtain⟨u,hu,h2⟩:=YE.1 h;obtain⟨v,hv,h3⟩:=YE.1 h2;have:=WK h3;subst this;exact La hv hu
    simp only[FV,Xl] at h ⊢;rcases h with((((h|h)|h)|h)|h)|h
    .exact .inl (.inl (.inl (.inl (.inr h))))
    .exact .inl (.inl (.inl (.inl (.inl h))))
    .exact .inl (.inl (.inl (.inr (hany _ _ h))))
    .exact .inl (.inr h)
    .exact .inl (.inl (.inr h))
    .exact .inr (hany _ _ h)
   rcases Nat.lt_or_gt_of_ne hji with hlt|hlt
   .have hp:=SN hord hlt hjo hjr hios hirs (by rcases hc with hc|hc;(exact hsym hc);(exact hc));rw[decide_eq_true hlt];exact hpath (fun j=>listed.getD j false) hcl hp hihard
   .have hp:=SN hord hlt hios hirs hjo hjr (by rcases hc with hc|hc;(exact hc);(exact hsym hc));have:¬j<i:=by omega
    rw[decide_eq_false this];cases hlj:listed.getD j false with
    |false=>rfl
    |true=>
     have:=hpath (fun j=>listed.getD j false) hcl hp (fun o' ho'=>hcl j o' ho' hlj);rw[hfi] at this;cases this
  have hfus:∀{j:Nat} {u:AF},(DX ops rs)[j]? =some u->∃o r,ops[j]? =some o/\rs[j]? =some r/\u=GL o.dst r.v:=by
   intro j u hu;simp only[DX,Zh] at hu;split at hu
   .rename_i o r ho hr;cases hu;exact⟨o,r,ho,hr,rfl⟩
   .cases hu
  have hpus:∀{j:Nat} {u:Es},(Dw rs)[j]? =some u->∃o r,ops[j]? =some o/\rs[j]? =some r/\u=r.post:=by
   intro j u hu;simp only[Dw,WY,Wo] at hu;obtain⟨r,hr,rfl⟩:=hu;have hj:=(Ww.1 hr).1;exact⟨ops[j]'(by omega),r,Wl _,hr,rfl⟩
  have hputk:∀{d:Option Nat} {v:V} {t:Nat},t∈(GL d v).map Prod.fst->t∈d.toList:=by
   intro d v t h;cases d with|none=>simp[GL] at h|some d=>simpa[GL] using h
  have hputk2:∀{d:Option Nat} {v:V} {t:Nat},t∈d.toList->t∈(GL d v).map Prod.fst:=by
   intro d v t h;cases d with|none=>simp at h|some d=>simpa[GL] using h
  have hlook:∀t∈EA ops ops[i],AF.get (v5 (fun j=>listed.getD j false) 0 (DX ops rs) a0) t=AF.get (v5 (fun j=>decide (j<i)) 0 (DX ops rs) a0) t:=by
   intro t ht;rw[JM,JM];refine u5 rfl fun j u hj hn=> ?_;rw[Xg];obtain⟨o,r,ho,hr,rfl⟩:=hfus hj;by_cases hji:j=i
   .subst hji;rw[hfi];simp
   .exact hcl1 j o r ho hr hji (.inr (by simp only[FV,Xl];exact .inl (.inl (.inl (.inl (.inl (La (hputk hn) ht)))))))
  have hpre:∀n∈((rs[i]'(by omega)).pre).map Prod.fst,zl (v5 (fun j=>listed.getD j false) 0 (Dw rs) σ0.es) n=zl (v5 (fun j=>decide (j<i)) 0 (Dw rs) σ0.es) n:=by
   intro n hn;rw[Jn,Jn];refine u5 rfl fun j u hj hnu=> ?_;rw[Xg];obtain⟨o,r,ho,hr,rfl⟩:=hpus hj;by_cases hji:j=i
   .subst hji;rw[hfi];simp
   .exact hcl1 j o r ho hr hji (.inr (by simp only[FV,Xl];exact .inl (.inl (.inr (La hnu hn)))))
  have hfl':∀j,(listed.setIfInBounds i true).getD j false=(if j=i then true else listed.getD j false):=by
   intro j;by_cases hji:j=i
   .subst hji;simp[WV,Xk,hil]
   .have:¬i=j:=fun e=>hji e.symm;simp[WV,Xk,hji,this]
  have hsame:∀j,j≠i->(listed.setIfInBounds i true).getD j false=listed.getD j false:=fun j hj=>by rw[hfl',if_neg hj]
  have hself:(listed.setIfInBounds i true).getD i false=true:=by rw[hfl',if_pos rfl]
  have hes:∀n,zl (v5 (fun j=>(listed.setIfInBounds i true).getD j false) 0 (Dw rs) σ0.es) n=zl ((rs[i]'(by omega)).post++v5 (fun j=>listed.getD j false) 0 (Dw rs) σ0.es) n:=by
   intro n;rw[Jn,Jn,uf];have hpi:(Dw rs)[i]? =some (rs[i]'(by omega)).post:=by simp only[Dw,WY,hirs,Xe]
   by_cases hn:n∈((rs[i]'(by omega)).post).map Prod.fst
   .rw[Tf (k:=i) hpi (by rw[Xg];exact hself) hn]
    .obtain ⟨x,hx⟩:=XN.1 (CS.2 hn);rw[hx];rfl
    .intro j u hij hj hnu;rw[Xg,hsame j (by omega)];obtain⟨o,r,ho,hr,rfl⟩:=hpus hj;have:=hcl1 j o r ho hr (by omega) (.inl (by simp only[FV,Xl];exact .inr (La hn hnu)));rw[this];simp;omega
   .rw[O1 hn,Option.none_or];refine u5 rfl fun j u hj hnu=> ?_;rw[Xg];refine hsame j fun e=>hn ?_;subst e;rw[hpi] at hj;cases hj;exact hnu
  have hfr:∀t,AF.get (v5 (fun j=>(listed.setIfInBounds i true).getD j false) 0 (DX ops rs) a0) t=AF.get (AF.put (v5 (fun j=>listed.getD j false) 0 (DX ops rs) a0) ops[i].dst (rs[i]'(by omega)).v) t:=by
   intro t;rw[KY,JM,JM,uf];have hpi:(DX ops rs)[i]? =some (GL ops[i].dst (rs[i]'(by omega)).v):=by simp only[DX,Zh,hios,hirs]
   by_cases hn:t∈(GL ops[i].dst (rs[i]'(by omega)).v).map Prod.fst
   .rw[Tf (k:=i) hpi (by rw[Xg];exact hself) hn]
    .obtain ⟨x,hx⟩:=XN.1 (CS.2 hn);rw[hx];rfl
    .intro j u hij hj hnu;rw[Xg,hsame j (by omega)];obtain⟨o,r,ho,hr,rfl⟩:=hfus hj;have:=hcl1 j o r ho hr (by omega) (.inl (by simp only[FV,Xl];exact .inl (.inl (.inl (.inr (La (hputk hn) (hputk hnu)))))));rw[this];simp;omega
   .rw[O1 hn,Option.none_or];refine u5 rfl fun j u hj hnu=> ?_;rw[Xg];refine hsame j fun e=>hn ?_;subst e;rw[hpi] at hj;cases hj;exact hnu
  have hDD:∀n,(Dn σ0.nx rs (fun j=>listed.getD j false) n\/n∈List.range' (C4 σ0.nx rs i) (rs[i]'(by omega)).news)->Dn σ0.nx rs (fun j=>(listed.setIfInBounds i true).getD j false) n:=by
   intro n hn;rcases hn with(hn|⟨j,r,hj,hfj,hm⟩)|hn
   .exact .inl hn
   .refine .inr ⟨j,r,hj,?_,hm⟩;by_cases hji:j=i
    .subst hji;exact hself
    .show (listed.setIfInBounds i true).getD j false=true;rw[hsame j hji];exact hfj
   .exact .inr ⟨i,_,hirs,hself,hn⟩
  have hrec:∀g' v' w',R E.G g' (fun n=>Dn σ0.nx rs (fun j=>listed.getD j false) n\/n∈List.range' (C4 σ0.nx rs i) (rs[i]'(by omega)).news) ((rs[i]'(by omega)).post++v5 (fun j=>listed.getD j false) 0 (Dw rs) σ0.es) w'->
   Ar g' (fun n=>Dn σ0.nx rs (fun j=>listed.getD j false) n\/n∈List.range' (C4 σ0.nx rs i) (rs[i]'(by omega)).news) w' v' (rs[i]'(by omega)).v->z9 N ops[i].dst=true->
   Ext (Dn σ0.nx rs fun j=>listed.getD j false) g (Az g (v5 (fun j=>listed.getD j false) 0 (Dw rs) σ0.es)) w g' (Az g' ((rs[i]'(by omega)).post++v5 (fun j=>listed.getD j false) 0 (Dw rs) σ0.es)) w'->
   wpAny E.P .any ops.toArray (Post E N k g0 F0 w0 Q) fuel (listed.setIfInBounds i true) (act.put ops[i].dst v') w':=by
   intro g' v' w' hR' hv' hd hx';refine ih _ _ _ (by simpa using hsz) ?_ ?_ ⟨g',?_,?_,?_⟩
   .have hc0:listed.toList.count false=(listed.setIfInBounds i true).toList.count false+1:=by
     rw[Yd];have hil2:i<listed.toList.length:=by simpa using hil
     have hli:listed.toList[i]=false:=by
      have:=hfi;simp only[WV,Xr hil,XA] at this;simpa using this
     have h9:=List.count_set (a:=true) (b:=false) (l:=listed.toList) hil2;have h10:0<listed.toList.count false:=List.count_pos_iff.2 (by rw[<-hli];exact Wi _);rw[h9,hli,if_pos (show(false==false)=true from rfl),if_neg (show ¬(true==false)=true by decide)];omega
    omega
   .intro j o ho hj e he;by_cases hji:j=i
    .subst hji;have:=hihard o ho e he;by_cases hei:e=j
     .subst hei;exact hself
     .rw[hsame e hei];exact this
    .rw[hsame j hji] at hj;have:=hcl j o ho hj e he;by_cases hei:e=i
     .subst hei;exact hself
     .rw[hsame e hei];exact this
   .exact (hR'.congr hes).more hDD
   .have h1:BA g' (Dn σ0.nx rs fun j=>(listed.setIfInBounds i true).getD j false) w' N act (v5 (fun j=>listed.getD j false) 0 (DX ops rs) a0):=hF.ext hx' fun n hn=>hDD n (.inl hn);exact(h1.put (Nm hd) (hv'.more hDD)).congr hfr
   .rw[Az.congr hes];exact hx.trans (hx'.mono fun n hn=> .inl (by omega))
  obtain⟨hd,hst⟩:=hpl.nth i _ _ hios hirs;have hwant:=Pm (ops:=ops) (o:=ops[i]) hlook;have hiarr:ops.toArray[i]? =some ops[i]:=h2;unfold wpOp;rw[hiarr];simp only;rcases hst with⟨hw,hOS,hpr⟩|⟨hw,hr⟩
  .rw[if_pos (Nf (hwant.trans hw) hF)];refine .inl (hOS g _ _ w act hR (fun p hp=> ?_) (Yhh hirs hfi) ?_ _ _ fun g' v' w' h3 h4 h5=>hrec g' v' w' h3 h4 hd h5)
   .rw[hpre p.1 (Ycp hp)];exact U0 hpr p hp
   .refine ⟨hF.size,hF.defers,fun t c hc=> ?_⟩;obtain⟨h3,h4⟩:=SW hc;exact hF.vals t c (by rw[hlook t h3];exact h4)
  .rw[if_neg (by rw[Nf (hwant.trans hw) hF];simp)];have hnil:(rs[i]'(by omega)).post=[]/\(rs[i]'(by omega)).news=0/\(rs[i]'(by omega)).v= .AD []:=by rw[hr];exact⟨rfl,rfl,rfl⟩
   refine hrec g undef w ?_ ?_ hd ?_
   .rw[hnil.1,WW];exact hR.more fun n hn=> .inl hn
   .rw[hnil.2.2];exact .AD [] [] rfl (fun i v c h=>by simp at h)
   .rw[hnil.1,WW];exact .refl ..
def KK:Nat->List Oper->Bool
 |_,[]=>true
 |i,o::l=>(FQ o).all (fun e=>Nat.blt e i)&&KK (i+1) l
theorem Znh:∀{l:List Oper} {i:Nat},KK i l=true->∀j o,l[j]? =some o->∀e∈FQ o,e<i+j:=by
 intro l;induction l with
 |nil=>intro i _ j o h;simp at h
 |cons x l ih=>
  intro i h j o hj e he;simp only[KK,Wk] at h;cases j with
  |zero=>simp at hj;subst hj;exact Wz (Wm.1 h.1 e he)
  |succ j=>simp only[Xb] at hj;have:=ih h.2 j o hj e he;omega
theorem AW.draw{a:AF}{σ:Aq}{Q:Exit->AF->Aq->Prop}{id:Nat}(hmix:E.P.follows .mixedOrders=true)(he:KK 0 ops=true)(h:AWD E N k ops ops a σ [] Q):AW E N k (.region id ops.toArray true) a σ Q:=by
 obtain⟨rs,a',σ',hpl,hord,hq⟩:=h;constructor;intro hk g w act hR hF;refine wp_region_any hmix (Zs6 hpl hord hq hk (fun j o ho e he'=>by have:=Znh he j o ho e he';omega) _ _ _ _ (by simp) ?_ ?_ ⟨g,?_,?_,?_⟩)
 .simp
 .intro j o ho hj;exfalso;have:(Array.replicate ops.toArray.size false).getD j false=false:=by
   simp[WV,Y1];split<;>rfl
  rw[this] at hj;cases hj
 all_goals
  have hff:(fun j=>(Array.replicate ops.toArray.size false).getD j false)=fun _=>false:=by
   funext j;simp[WV,Y1];split<;>rfl
  have e1:v5 (fun _=>false) 0 (Dw rs) σ.es=σ.es:=Qg fun _ _=>rfl;have e2:v5 (fun _=>false) 0 (DX ops rs) a=a:=Qg fun _ _=>rfl;rw[hff]
 .rw[e1];exact hR.drew.more (fun n hn=>Or.inl hn)
 .rw[e2];exact⟨hF.size,hF.defers,fun t c hc=>let ⟨v,h1,h2⟩:=hF.vals t c hc;⟨v,h1,h2.drew.more (fun n hn=>Or.inl hn)⟩⟩
 .rw[e1];exact Ext.drew
end
theorem Zod{a a':AF}(h:∀t,a'.get t=a.get t)(l:List Nat):FU a' l=FU a l:=by
 induction l with
 |nil=>rfl
 |cons t l ih=>simp only[FU,h t,ih]
theorem Tp{a a':AF}(h:∀t,a'.get t=a.get t)(d:Option Nat)(v:V):∀t,AF.get (a'.put d v) t=AF.get (a.put d v) t:=by
 intro t;cases d with
 |none=>exact h t
 |some d=>simp only[AF.put,AF.Be,h t]
section
variable {E:Env} {N k:Nat} {ops:List Oper}
theorem CB.congr{rest:List Oper}{a:AF}{σ:Aq}{rs:List Rec}{a':AF}{σ':Aq}(h:CB E N ops rest a σ rs a' σ'):∀{b:AF},(∀t,b.get t=a.get t)->∃b',(∀t,b'.get t=a'.get t)/\CB E N ops rest b σ rs b' σ':=by
 induction h with
 |nil a σ=>intro b hb;exact⟨b,hb,.nil b σ⟩
 |run r hw h hp hd _ ih=>
  intro b hb;obtain⟨b',h1,h2⟩:=ih (Tp hb _ _);exact⟨b',h1,.run r ((Pm fun t _=>hb t).trans hw) (by rw[Zod hb];exact h) hp hd h2⟩
 |sk hw hd _ ih=>
  intro b hb;obtain⟨b',h1,h2⟩:=ih (Tp hb _ _);exact⟨b',h1,.sk ((Pm fun t _=>hb t).trans hw) hd h2⟩
def D5(E:Env)(N k:Nat)(dr:Bool)(ops rest:List Oper)(a:AF)(σ:Aq)(acc:List Rec)(Q:Exit->AF->Aq->Prop):Prop:=
 match dr with
 |false=>DW E N k ops rest a σ Q
 |true=>∃rs a' σ' a2,CB E N ops rest a σ rs a' σ'/\Iw ops (acc.reverse++rs)=true/\(∀t,a2.get t=a'.get t)/\Q .normal a2 σ'
def Ik(dr:Bool)(ops:List Oper)(a:AF)(o:Oper):AF:=match dr with|true=>FU a (EA ops o)|false=>a
variable {dr:Bool} {rest:List Oper} {a:AF} {σ:Aq} {acc:List Rec} {Q:Exit->AF->Aq->Prop}
theorem D5.run{o:Oper}{pre:Es}{v:V}(news:Nat){post:Es}(hw:yb ops a o.guard=some true)(h:OS E N o (Ik dr ops a o) pre v (List.range' σ.nx news) post)(hp:GF σ.es pre)(hd:z9 N o.dst=true)
 (h2:D5 E N k dr ops rest (a.put o.dst v) (σ.Ay news post) (⟨pre,v,news,post⟩::acc) Q):D5 E N k dr ops (o::rest) a σ acc Q:=by
 cases dr with
 |false=>exact DW.run (news:=news) hw h hp hd h2
 |true=>
  obtain⟨rs,a',σ',a2,h3,h4,h5,h6⟩:=h2;refine⟨_,a',σ',a2,.run ⟨pre,v,news,post⟩ hw h hp hd h3,?_,h5,h6⟩;simpa[Wr] using h4
theorem D5.sk{o:Oper}(hw:yb ops a o.guard=some false)(hd:z9 N o.dst=true)(h2:D5 E N k dr ops rest (a.put o.dst (.AD [])) σ (⟨[],.AD [],0,[]⟩::acc) Q):D5 E N k dr ops (o::rest) a σ acc Q:=by
 cases dr with
 |false=>exact DW.sk hw hd h2
 |true=>
  obtain⟨rs,a',σ',a2,h3,h4,h5,h6⟩:=h2;refine⟨_,a',σ',a2,.sk hw hd h3,?_,h5,h6⟩;simpa[Wr] using h4
theorem D5.Bd(h:Q .normal a σ):D5 E N k false ops [] a σ acc Q:=DW.nil h
theorem D5.G9(ho:Iw ops acc.reverse=true)(h:Q .normal a σ):D5 E N k true ops [] a σ acc Q:=
 ⟨[],a,σ,a,.nil a σ,by simpa using ho,fun _=>rfl,h⟩
theorem D5.split(d:Tmp){b:Bool}(hb:a.get d=some (.bool b))(ht:b=true->D5 E N k dr ops rest ((d,.bool true)::a) σ acc Q)(hf:b=false->D5 E N k dr ops rest ((d,.bool false)::a) σ acc Q):D5 E N k dr ops rest a σ acc Q:=by
 cases dr with
 |false=>exact DW.split hb ht hf
 |true=>
  have key:∀b',b=b'->(∃rs a' σ' a2,CB E N ops rest ((d,.bool b')::a) σ rs a' σ'/\Iw ops (acc.reverse++rs)=true/\(∀t,AF.get a2 t=AF.get a' t)/\Q .normal a2 σ')->D5 E N k true ops rest a σ acc Q:=by
   rintro _ rfl ⟨rs,a',σ',a2,h1,h2,h3,h4⟩;obtain⟨b',h5,h6⟩:=h1.congr (b:=a) fun t=>by
    rw[AF.Be];by_cases ht:d=t
    .subst ht;rw[if_pos rfl];exact hb
    .rw[if_neg ht]
   exact⟨rs,b',σ',a2,h6,h2,fun t=>(h3 t).trans (h5 t).symm,h4⟩
  cases hbb:b with
  |true=>exact key true hbb (ht hbb)
  |false=>exact key false hbb (hf hbb)
structure AX (E:Env) (N k:Nat) (dr:Bool) (ops rest:List Oper) (a:AF) (σ:Aq) (acc:List Rec) (Q:Exit->AF->Aq->Prop):Prop where
 out:D5 E N k dr ops rest a σ acc Q
theorem AX.run{o:Oper}{pre:Es}{v:V}(news:Nat){post:Es}(hw:yb ops a o.guard=some true)(h:OS E N o (Ik dr ops a o) pre v (List.range' σ.nx news) post)(hp:GF σ.es pre)(hd:z9 N o.dst=true)
 (h2:AX E N k dr ops rest (a.put o.dst v) (σ.Ay news post) (⟨pre,v,news,post⟩::acc) Q):AX E N k dr ops (o::rest) a σ acc Q:=⟨D5.run news hw h hp hd h2.out⟩
theorem AX.sk{o:Oper}(hw:yb ops a o.guard=some false)(hd:z9 N o.dst=true)(h2:AX E N k dr ops rest (a.put o.dst (.AD [])) σ (⟨[],.AD [],0,[]⟩::acc) Q):AX E N k dr ops (o::rest) a σ acc Q:=⟨D5.sk hw hd h2.out⟩
theorem AX.Bd(h:Q .normal a σ):AX E N k false ops [] a σ acc Q:=⟨D5.Bd h⟩
theorem AX.G9(ho:Iw ops acc.reverse=true)(h:Q .normal a σ):AX E N k true ops [] a σ acc Q:=⟨D5.G9 ho h⟩
theorem AX.split(d:Tmp){b:Bool}(hb:a.get d=some (.bool b))(ht:b=true->AX E N k dr ops rest ((d,.bool true)::a) σ acc Q)(hf:b=false->AX E N k dr ops rest ((d,.bool false)::a) σ acc Q):AX E N k dr ops rest a σ acc Q:=
 ⟨D5.split d hb (fun h=>(ht h).out) (fun h=>(hf h).out)⟩
theorem AW.AV{id:Nat}{l:List Oper}(h:AX E N k false l l a σ [] Q):AW E N k (.region id l.toArray false) a σ Q:= .region h.out
theorem AW.EP{id:Nat}{l:List Oper}(hmix:E.P.follows .mixedOrders=true)(he:KK 0 l=true)(h:AX E N k true l l a σ [] Q):AW E N k (.region id l.toArray true) a σ Q:=by
 obtain⟨rs,a',σ',a2,h1,h2,h3,h4⟩:=h.out;have:=AW.draw (E:=E) (N:=N) (k:=k) (Q:=fun e x τ=>e= .normal/\x=a'/\τ=σ') (a:=a) (σ:=σ) (id:=id) hmix he ⟨rs,a',σ',h1,by simpa using h2,rfl,rfl,rfl⟩;constructor;intro hk g w act hR hF;refine wp_mono (this.run hk g w act hR hF) ?_;rintro e act' w' ⟨g1,a1,σ1,⟨rfl,rfl,rfl⟩,h6,h7,h8,h9⟩;exact⟨g1,a2,σ1,h4,h6,h7,h8.congr h3,h9⟩
theorem Zst{xs:List Operand}{t:Nat}(h:Operand.tmp t∈xs):t∈Sa xs:=Yr.2 ⟨_,h,rfl⟩
theorem Zsj{a:AF}:∀{l:List Nat} {t:Nat},t∈l->(FU a l).get t=a.get t:=by
 intro l;induction l with
 |nil=>intro t h;cases h
 |cons x l ih=>
  intro t h;simp only[FU];cases hx:a.get x with
  |none=>
   rcases WE.1 h with rfl|h
   .by_cases hl:t∈l
    .exact ih hl
    .cases hr:(FU a l).get t with
     |none=>rw[hx]
     |some c=>exact absurd (SW hr).1 hl
   .exact ih h
  |some v=>
   simp only[AF.Be];by_cases hxt:x=t
   .subst hxt;simp[hx]
   .simp only[hxt,if_false];rcases WE.1 h with rfl|h
    .exact absurd rfl hxt
    .exact ih h
theorem Lc{T:TypeId}{o:Oper}{x:Operand}(hx:x∈o.op.operands.toList):ev E T (Ik dr ops a o) x=ev E T a x:=by
 cases dr with
 |false=>rfl
 |true=>
  cases x with
  |tmp t=>exact Zsj (XB _ (Zst hx))
  |_=>rfl
theorem fr{T:TypeId}{o:Oper}{x:Operand}{v:V}(hx:x∈o.op.operands.toList)(h:ev E T a x=some v):ev E T (Ik dr ops a o) x=some v:=(Lc hx).trans h
theorem Mt{T:TypeId}{o:Oper}:∀{xs:List Operand} {vs:List V},(∀x∈xs,x∈o.op.operands.toList)->Eg E T a xs=some vs->Eg E T (Ik dr ops a o) xs=some vs:=by
 intro xs;induction xs with
 |nil=>intro vs _ h;exact h
 |cons x l ih=>
  intro vs hx h;simp only[Eg] at h ⊢;rw[Lc (hx x (by simp))];simp only[Wx,Wo] at h ⊢;obtain⟨v,h1,vs',h2,h3⟩:=h;exact⟨v,h1,vs',ih (fun y hy=>hx y (by simp[hy])) h2,h3⟩
theorem Q5{o:Oper}:∀{xs:List Operand} {ts:List TypeId} {vs:List V},(∀x∈xs,x∈o.op.operands.toList)->D6 E a xs ts=some vs->D6 E (Ik dr ops a o) xs ts=some vs:=by
 intro xs;induction xs with
 |nil=>intro ts vs _ h;exact h
 |cons x l ih=>
  intro ts vs hx h;cases ts with
  |nil=>
   simp only[D6] at h ⊢;rw[Lc (hx x (by simp))];simp only[Wx,Wo] at h ⊢;obtain⟨v,h1,vs',h2,h3⟩:=h;exact⟨v,h1,vs',ih (fun y hy=>hx y (by simp[hy])) h2,h3⟩
  |cons t ts=>
   simp only[D6] at h ⊢;rw[Lc (hx x (by simp))];simp only[Wx,Wo] at h ⊢;obtain⟨v,h1,vs',h2,h3⟩:=h;exact⟨v,h1,vs',ih (fun y hy=>hx y (by simp[hy])) h2,h3⟩
theorem frP{o:Oper}:∀{pp:List (Nat×Operand)} {vs:List (Nat×List V)},(∀p∈pp,p.2∈o.op.operands.toList)->Hi E a pp=some vs->Hi E (Ik dr ops a o) pp=some vs:=by
 intro pp;induction pp with
 |nil=>intro vs _ h;exact h
 |cons x l ih=>
  intro vs hx h;simp only[Hi] at h ⊢;rw[Lc (hx x (by simp))];simp only[Wx,Wo] at h ⊢;obtain⟨v,h1,vs',h2,h3⟩:=h;exact⟨v,h1,vs',ih (fun y hy=>hx y (by simp[hy])) h2,h3⟩
variable {d:Option Tmp} {ty:TypeId} {ps:String} {af:Array Edge} {gd:Option (Nat×Bool)}
namespace L
theorem mv{x:Operand}{v:V}(hw:yb ops a gd=some true)(h:ev E ty a x=some v)(hd:z9 N d=true)(h2:AX E N k dr ops rest (a.put d v) σ (⟨[],v,0,[]⟩::acc) Q):AX E N k dr ops (⟨d,.move x,ty,ps,af,gd⟩::rest) a σ acc Q:=
 AX.run 0 hw (OS.move (.inl rfl) (fr (by simp[Op.operands,Call.operands]) h)) trivial hd h2
theorem C6{x:Operand}{v:V}(hw:yb ops a gd=some true)(h:ev E ty a x=some v)(hd:z9 N d=true)(h2:AX E N k dr ops rest (a.put d v) σ (⟨[],v,0,[]⟩::acc) Q):AX E N k dr ops (⟨d,.assign x,ty,ps,af,gd⟩::rest) a σ acc Q:=
 AX.run 0 hw (OS.move (.inr rfl) (fr (by simp[Op.operands,Call.operands]) h)) trivial hd h2
theorem pk{c x y:Operand}{b:Bool}{v:V}(hw:yb ops a gd=some true)(hc:ev E 0 a c=some (.bool b))(h:ev E ty a (bif b then x else y)=some v)(hd:z9 N d=true)(h2:AX E N k dr ops rest (a.put d v) σ (⟨[],v,0,[]⟩::acc) Q):
 AX E N k dr ops (⟨d,.pick c x y,ty,ps,af,gd⟩::rest) a σ acc Q:=
 AX.run 0 hw (OS.pick rfl (fr (by simp[Op.operands,Call.operands]) hc) (by cases b<;>exact fr (by simp[Op.operands]) h)) trivial hd h2
theorem bx{t:TypeId}{x:Operand}{c:V}{cs:List V}(hw:yb ops a gd=some true)(h:ev E t a x=some c)(hc:cellsOf c=some cs)(hd:z9 N d=true)
 (h2:AX E N k dr ops rest (a.put d (.ptr σ.nx 0)) (σ.Ay 1 [(σ.nx,.var cs)]) (⟨[],.ptr σ.nx 0,1,[(σ.nx,.var cs)]⟩::acc) Q):AX E N k dr ops (⟨d,.box t x,ty,ps,af,gd⟩::rest) a σ acc Q:=
 AX.run 1 hw (OS.box rfl (fr (by simp[Op.operands,Call.operands]) h) hc) trivial hd h2
theorem al{t:TypeId}{i:TI}(hw:yb ops a gd=some true)(h:E.ti t=some i)(hd:z9 N d=true)
 (h2:AX E N k dr ops rest (a.put d (.ptr σ.nx 0)) (σ.Ay 1 [(σ.nx,.var i.zero)]) (⟨[],.ptr σ.nx 0,1,[(σ.nx,.var i.zero)]⟩::acc) Q):AX E N k dr ops (⟨d,.alloc t,ty,ps,af,gd⟩::rest) a σ acc Q:=
 AX.run 1 hw (OS.alloc rfl h) trivial hd h2
theorem IV{t:TypeId}{x:Operand}{i:TI}{cs:List V}{c:V}(hw:yb ops a gd=some true)(hx:ev E 0 a x=some (.addr cs))(ht:E.ti t=some i)(hc:Hr i cs=some c)(hd:z9 N d=true)
 (h2:AX E N k dr ops rest (a.put d c) σ (⟨[],c,0,[]⟩::acc) Q):AX E N k dr ops (⟨d,.load t x,ty,ps,af,gd⟩::rest) a σ acc Q:=
 AX.run 0 hw (OS.LS rfl ht (fr (by simp[Op.operands,Call.operands]) hx) hc) trivial hd h2
theorem Dr{t:TypeId}{x:Operand}{i:TI}{n off:Nat}{cs:List V}{c:V}(hw:yb ops a gd=some true)(hx:ev E 0 a x=some (.ptr n off))(ht:E.ti t=some i)(hn:zl σ.es n=some (.var cs))(hc:Hr i (cs.drop off)=some c)(hd:z9 N d=true)
 (h2:AX E N k dr ops rest (a.put d c) σ (⟨[(n,.var cs)],c,0,[]⟩::acc) Q):AX E N k dr ops (⟨d,.load t x,ty,ps,af,gd⟩::rest) a σ acc Q:=
 AX.run 0 hw (OS.K8 rfl ht (fr (by simp[Op.operands,Call.operands]) hx) hc) ⟨hn,trivial⟩ hd h2
theorem st{t:TypeId}{x y:Operand}{i:TI}{n off:Nat}{cs:List V}{c:V}{vc:List V}(hw:yb ops a gd=some true)(hx:ev E 0 a x=some (.ptr n off))(ht:E.ti t=some i)(hy:ev E t a y=some c)(hn:zl σ.es n=some (.var cs))
 (hc:cellsOf c=some vc) (hs:vc.length=i.size) (hb:Nat.ble (off+vc.length) cs.length=true) (hd:z9 N d=true)
 (h2:AX E N k dr ops rest (a.put d (.AD [])) (σ.Ay 0 [(n,.var (cs.take off++vc++cs.drop (off+vc.length)))]) (⟨[(n,.var cs)],.AD [],0,[(n,.var (cs.take off++vc++cs.drop (off+vc.length)))]⟩::acc) Q):AX E N k dr ops (⟨d,.store t x y,ty,ps,af,gd⟩::rest) a σ acc Q:=
 AX.run 0 hw (OS.store rfl ht (fr (by simp[Op.operands,Call.operands]) hx) (fr (by simp[Op.operands,Call.operands]) hy) hc hs hb) ⟨hn,trivial⟩ hd h2
theorem Sy{t:TypeId}{x:Operand}{z:Nat}{zr:List V}{gs:List (Nat×Nat×Bool)}{f:Nat}{p:Nat×Nat×Bool}{cs:List V}(hw:yb ops a gd=some true)(hx:ev E 0 a x=some (.addr cs))(ht:E.ti t=some ⟨z,zr,.strct gs⟩)
 (hf:gs[f]? =some p) (hb:Nat.ble p.1 cs.length=true) (hd:z9 N d=true) (h2:AX E N k dr ops rest (a.put d (.addr (cs.drop p.1))) σ (⟨[],.addr (cs.drop p.1),0,[]⟩::acc) Q):AX E N k dr ops (⟨d,.fieldAddr t x f,ty,ps,af,gd⟩::rest) a σ acc Q:=
 AX.run 0 hw (OS.E9 rfl ht rfl hf (fr (by simp[Op.operands,Call.operands]) hx) hb) trivial hd h2
theorem Gp{t:TypeId}{x:Operand}{z:Nat}{zr:List V}{gs:List (Nat×Nat×Bool)}{f:Nat}{p:Nat×Nat×Bool}{n off:Nat}(hw:yb ops a gd=some true)(hx:ev E 0 a x=some (.ptr n off))(ht:E.ti t=some ⟨z,zr,.strct gs⟩)
 (hf:gs[f]? =some p) (hd:z9 N d=true) (h2:AX E N k dr ops rest (a.put d (.ptr n (off+p.1))) σ (⟨[],.ptr n (off+p.1),0,[]⟩::acc) Q):AX E N k dr ops (⟨d,.fieldAddr t x f,ty,ps,af,gd⟩::rest) a σ acc Q:=
 AX.run 0 hw (OS.E5 rfl ht rfl hf (fr (by simp[Op.operands,Call.operands]) hx)) trivial hd h2
theorem fd{t:TypeId}{x:Operand}{z:Nat}{zr:List V}{gs:List (Nat×Nat×Bool)}{f:Nat}{p:Nat×Nat×Bool}{cs:List V}{c:V}(hw:yb ops a gd=some true)(hx:ev E 0 a x=some (.agg cs))(ht:E.ti t=some ⟨z,zr,.strct gs⟩)
 (hf:gs[f]? =some p) (hc:QK p cs=some c) (hd:z9 N d=true) (h2:AX E N k dr ops rest (a.put d c) σ (⟨[],c,0,[]⟩::acc) Q):AX E N k dr ops (⟨d,.field t x f,ty,ps,af,gd⟩::rest) a σ acc Q:=
 AX.run 0 hw (OS.field rfl ht rfl hf (fr (by simp[Op.operands,Call.operands]) hx) hc) trivial hd h2
theorem ex{x:Operand}{ix:Nat}{cs:List V}{c:V}(hw:yb ops a gd=some true)(hx:ev E 0 a x=some (.AD cs))(hc:cs[ix]? =some c)(hd:z9 N d=true)(h2:AX E N k dr ops rest (a.put d c) σ (⟨[],c,0,[]⟩::acc) Q):
 AX E N k dr ops (⟨d,.extract x ix,ty,ps,af,gd⟩::rest) a σ acc Q:=
 AX.run 0 hw (OS.extract rfl (fr (by simp[Op.operands,Call.operands]) hx) hc) trivial hd h2
theorem nt{t:TypeId}{x:Operand}{b:Bool}(hw:yb ops a gd=some true)(hx:ev E 0 a x=some (.bool b))(hd:z9 N d=true)(h2:AX E N k dr ops rest (a.put d (.bool (!b))) σ (⟨[],.bool (!b),0,[]⟩::acc) Q):AX E N k dr ops (⟨d,.unOp .not t x,ty,ps,af,gd⟩::rest) a σ acc Q:=
 AX.run 0 hw (OS.not rfl (fr (by simp[Op.operands,Call.operands]) hx)) trivial hd h2
theorem bn{op:BinOp}{t u:TypeId}{x y:Operand}{kd:IntKind}{n m:Int}{c:V}(hw:yb ops a gd=some true)(hx:ev E t a x=some (.int kd n))(hy:ev E t a y=some (.int kd m))(hc:P6 op kd n m=some c)(hd:z9 N d=true)
 (h2:AX E N k dr ops rest (a.put d c) σ (⟨[],c,0,[]⟩::acc) Q):AX E N k dr ops (⟨d,.binOp op t x y u,ty,ps,af,gd⟩::rest) a σ acc Q:=
 AX.run 0 hw (OS.bin rfl (fr (by simp[Op.operands,Call.operands]) hx) (fr (by simp[Op.operands,Call.operands]) hy) hc) trivial hd h2
theorem ad{t u:TypeId}{x y:Operand}{n m:Int}(hw:yb ops a gd=some true)(hx:ev E t a x=some (.int .i64 n))(hy:ev E t a y=some (.int .i64 m))(hd:z9 N d=true)(h1: -9223372036854775808<=n+m/\n+m<=9223372036854775807)
 (h2:AX E N k dr ops rest (a.put d (.int .i64 (n+m))) σ (⟨[],.int .i64 (n+m),0,[]⟩::acc) Q):AX E N k dr ops (⟨d,.binOp .add t x y u,ty,ps,af,gd⟩::rest) a σ acc Q:=
 AX.run 0 hw (OS.add rfl (fr (by simp[Op.operands,Call.operands]) hx) (fr (by simp[Op.operands,Call.operands]) hy) h1.1 h1.2) trivial hd h2
theorem sb{t u:TypeId}{x y:Operand}{n m:Int}(hw:yb ops a gd=some true)(hx:ev E t a x=some (.int .i64 n))(hy:ev E t a y=some (.int .i64 m))(hd:z9 N d=true)(h1: -9223372036854775808<=n-m/\n-m<=9223372036854775807)
 (h2:AX E N k dr ops rest (a.put d (.int .i64 (n-m))) σ (⟨[],.int .i64 (n-m),0,[]⟩::acc) Q):AX E N k dr ops (⟨d,.binOp .sub t x y u,ty,ps,af,gd⟩::rest) a σ acc Q:=
 AX.run 0 hw (OS.sub rfl (fr (by simp[Op.operands,Call.operands]) hx) (fr (by simp[Op.operands,Call.operands]) hy) h1.1 h1.2) trivial hd h2
theorem ln{t:TypeId}{x:Operand}{sp:Sp}{l:SL V}{z:Nat}{zr:List V}{c:Option EC}{sz by_:Nat}(hw:yb ops a gd=some true)(hx:ev E t a x=some (.slice sp l))(ht:E.ti t=some ⟨z,zr,.slc c sz by_⟩)(hd:z9 N d=true)
 (h2:AX E N k dr ops rest (a.put d (.int .i64 l.len)) σ (⟨[],.int .i64 l.len,0,[]⟩::acc) Q):AX E N k dr ops (⟨d,.call ⟨.builtin .len,#[x],#[t]⟩,ty,ps,af,gd⟩::rest) a σ acc Q:=
 AX.run 0 hw (OS.N3 (u:=0) rfl ht rfl (fr (by simp[Op.operands,Call.operands]) hx)) trivial hd h2
theorem nc{x:Operand}{c:V}(hw:yb ops a gd=some true)(hx:ev E 0 a x=some c)(hc:VW c=true)(hd:z9 N d=true)(h2:AX E N k dr ops rest (a.put d c) σ (⟨[],c,0,[]⟩::acc) Q):
 AX E N k dr ops (⟨d,.nilCheck x,ty,ps,af,gd⟩::rest) a σ acc Q:=
 AX.run 0 hw (OS.nilCheck rfl (fr (by simp[Op.operands,Call.operands]) hx) hc) trivial hd h2
theorem mf{f:Fn}{fi caps:List Operand}{vs us:List V}(hw:yb ops a gd=some true)(h1:Eg E 0 a fi=some vs)(h3:Eg E 0 a caps=some us)(hd:z9 N d=true)(h2:AX E N k dr ops rest (a.put d (.fn f vs us)) σ (⟨[],.fn f vs us,0,[]⟩::acc) Q):
 AX E N k dr ops (⟨d,.makeFunc f fi.toArray caps.toArray,ty,ps,af,gd⟩::rest) a σ acc Q:=
 AX.run 0 hw (OS.makeFunc rfl (Mt (by intro x hx;simp[Op.operands,hx]) h1) (Mt (by intro x hx;simp[Op.operands,hx]) h3)) trivial hd h2
theorem bd{t:TypeId}{pp:List (Nat×Operand)}{z:Nat}{zr:List V}{gs:List (Nat×Nat×Bool)}{vps:List (Nat×List V)}{cs:List V}(hw:yb ops a gd=some true)(ht:E.ti t=some ⟨z,zr,.strct gs⟩)(hp:Hi E a pp=some vps)
 (hf:Jo gs zr vps=some cs) (hd:z9 N d=true) (h2:AX E N k dr ops rest (a.put d (.agg cs)) σ (⟨[],.agg cs,0,[]⟩::acc) Q):AX E N k dr ops (⟨d,.build t pp.toArray,ty,ps,af,gd⟩::rest) a σ acc Q:=
 AX.run 0 hw (OS.build rfl ht rfl (frP (by intro p hp;simp only[Op.operands,WA];exact⟨p,hp,rfl⟩) hp) hf) trivial hd h2
theorem bs{t:TypeId}{n:Nat}{pp:List (Nat×Operand)}{z:Nat}{zr:List V}{c:Option EC}{sz bytes:Nat}{cs:List V}{vcs:List (List V)}{l:SL V}(et:TypeId)(hw:yb ops a gd=some true)(ht:E.ti t=some ⟨z,zr,.slc c sz bytes⟩)
 (hpp:pp=(pp.map Prod.snd).zipIdx.map fun x=>(x.2,x.1)) (hn:(pp.map Prod.snd).length=n) (hev:Eg E et a (pp.map Prod.snd)=some cs) (hcs:Ed cellsOf cs=some vcs)
 (hsz:(vcs.all fun vc=>Nat.beq vc.length sz)=true) (hf:G4 c sz vcs=some l) (hb:Nat.ble (n*sz) 16777216=true) (hd:z9 N d=true) (h2:AX E N k dr ops rest (a.put d (.slice .full l)) σ (⟨[],.slice .full l,0,[]⟩::acc) Q):
 AX E N k dr ops (⟨d,.buildSlice t n pp.toArray,ty,ps,af,gd⟩::rest) a σ acc Q:=
 AX.run 0 hw (OS.buildSlice (et:=et) (by rw[<-hpp]) hn ht rfl (Mt (by intro x hx;simpa[Op.operands] using hx) hev) hcs hsz hf hb) trivial hd h2
theorem ix{t:TypeId}{x y:Operand}{z:Nat}{zr:List V}{c:Option EC}{sz bytes:Nat}{sp:Sp}{l:SL V}{n:Int}(kk:Nat){cs:List V}{kd:IntKind}(hw:yb ops a gd=some true)(hx:ev E t a x=some (.slice sp l))(ht:E.ti t=some ⟨z,zr,.slc c sz bytes⟩)
 (hy:ev E 0 a y=some (.int kd n)) (hn:n=kk) (hlt:kk<l.len) (hk:l.get kk=some cs) (hsz:Nat.beq l.cells sz=true) (hd:z9 N d=true) (h2:AX E N k dr ops rest (a.put d (.addr cs)) σ (⟨[],.addr cs,0,[]⟩::acc) Q):AX E N k dr ops (⟨d,.indexAddr t x y,ty,ps,af,gd⟩::rest) a σ acc Q:=
 AX.run 0 hw (OS.Il rfl ht rfl (fr (by simp[Op.operands,Call.operands]) hx) (fr (by simp[Op.operands,Call.operands]) hy) hn hk hlt hsz) trivial hd h2
theorem CT{t:TypeId}{x y:Operand}{z:Nat}{zr:List V}{m esz:Nat}{ea:Bool}{cs:List V}{n:Int}(kk:Nat){kd:IntKind}(hw:yb ops a gd=some true)(hx:ev E 0 a x=some (.addr cs))(ht:E.ti t=some ⟨z,zr,.arr m esz ea⟩)
 (hy:ev E 0 a y=some (.int kd n)) (hn:n=kk) (hlt:kk<m) (hb:kk*esz<=cs.length) (hd:z9 N d=true) (h2:AX E N k dr ops rest (a.put d (.addr (cs.drop (kk*esz)))) σ (⟨[],.addr (cs.drop (kk*esz)),0,[]⟩::acc) Q):AX E N k dr ops (⟨d,.indexAddr t x y,ty,ps,af,gd⟩::rest) a σ acc Q:=
 AX.run 0 hw (OS.Je rfl ht rfl (fr (by simp[Op.operands,Call.operands]) hx) (fr (by simp[Op.operands,Call.operands]) hy) hn hlt hb) trivial hd h2
theorem s3{t:TypeId}{x y zz:Operand}{z:Nat}{zr:List V}{c:Option EC}{sz bytes:Nat}{sp:Sp}{l:SL V}{k1 k2:IntKind}(hw:yb ops a gd=some true)(hx:ev E t a x=some (.slice sp l))(ht:E.ti t=some ⟨z,zr,.slc c sz bytes⟩)
 (hy:ev E 0 a y=some (.int k1 l.len)) (hz:ev E 0 a zz=some (.int k2 l.len)) (hd:z9 N d=true) (h2:AX E N k dr ops rest (a.put d (.slice .full l)) σ (⟨[],.slice .full l,0,[]⟩::acc) Q):AX E N k dr ops (⟨d,.slice t x none (some y) (some zz),ty,ps,af,gd⟩::rest) a σ acc Q:=
 AX.run 0 hw (OS.slice3 rfl ht rfl (fr (by simp[Op.operands,Call.operands]) hx) (fr (by simp[Op.operands,Call.operands]) hy) (fr (by simp[Op.operands,Call.operands]) hz)) trivial hd h2
theorem ap{t:TypeId}{s x:Operand}{z:Nat}{zr:List V}{c:Option EC}{sz bytes:Nat}{sp sp':Sp}{l l' l2:SL V}(hw:yb ops a gd=some true)(hs:ev E t a s=some (.slice sp l))(hx:ev E t a x=some (.slice sp' l'))(ht:E.ti t=some ⟨z,zr,.slc c sz bytes⟩)
 (hsp:My sp=true) (hl:l.app l'=some l2) (hsz:Nat.beq l.cells sz=true) (hp:GF σ.es (Hl sp)) (hd:z9 N d=true)
 (hb:(l.len+l'.len)*bytes<=140737488355328/\l.len+l'.len<=9223372036854775807) (h2:AX E N k dr ops rest (a.put d (.slice (.own σ.nx) l2)) (σ.Ay 1 (HV σ.nx sp)) (⟨Hl sp,.slice (.own σ.nx) l2,1,HV σ.nx sp⟩::acc) Q):
 AX E N k dr ops (⟨d,.call ⟨.builtin .append,#[s,x],#[t,t]⟩,ty,ps,af,gd⟩::rest) a σ acc Q:=
 AX.run 1 hw (OS.append rfl ht rfl (fr (by simp[Op.operands,Call.operands]) hs) (fr (by simp[Op.operands,Call.operands]) hx) hsp hl hsz hb.1 hb.2) hp hd h2
theorem apF{t:TypeId}{s x:Operand}{z:Nat}{zr:List V}{c:Option EC}{sz bytes:Nat}{sp sp':Sp}{l l' l2:SL V}(hw:yb ops a gd=some true)(hs:ev E t a s=some (.slice sp l))(hx:ev E t a x=some (.slice sp' l'))(ht:E.ti t=some ⟨z,zr,.slc c sz bytes⟩)
 (hsp:sp= .full/\0<l'.len) (hl:l.app l'=some l2) (hsz:Nat.beq l.cells sz=true) (hp:GF σ.es (Hl sp)) (hd:z9 N d=true)
 (hb:(l.len+l'.len)*bytes<=140737488355328/\l.len+l'.len<=9223372036854775807) (h2:AX E N k dr ops rest (a.put d (.slice (.own σ.nx) l2)) (σ.Ay 1 (HV σ.nx sp)) (⟨Hl sp,.slice (.own σ.nx) l2,1,HV σ.nx sp⟩::acc) Q):
 AX E N k dr ops (⟨d,.call ⟨.builtin .append,#[s,x],#[t,t]⟩,ty,ps,af,gd⟩::rest) a σ acc Q:=
 AX.run 1 hw (OS.Fo rfl ht rfl (fr (by simp[Op.operands,Call.operands]) hs) (fr (by simp[Op.operands,Call.operands]) hx) (.inr hsp) hl hsz hb.1 hb.2) hp hd h2
theorem c0{f:FuncId}{xs:List Operand}{ts:List TypeId}{cs args cs1:List V}{r:V}(h:PC E f args r)(hw:yb ops a gd=some true)(hx:D6 E a xs ts=some cs)(hr:xz [] args=some cs1)(hle:Bp cs cs1)(hd:z9 N d=true)
 (h2:AX E N k dr ops rest (a.put d r) σ (⟨[],r,0,[]⟩::acc) Q):AX E N k dr ops (⟨d,.call ⟨.value (.func f),xs.toArray,ts.toArray⟩,ty,ps,af,gd⟩::rest) a σ acc Q:=
 AX.run 0 hw (OS.KT rfl (Q5 (by intro x hx;simp[Op.operands,Call.operands,hx]) hx) h ⟨cs1,hr,hle⟩) trivial hd h2
end L
end
section
variable {E:Env} {N k:Nat} {a:AF} {σ:Aq} {Q:Exit->AF->Aq->Prop}
def OZ(E:Env)(N k:Nat)(B:Nat)(i d:Tmp)(m:Nat)(P:Nat->Prop)(J:Nat->AF×Aq)(Q:Exit->AF->Aq->Prop):Exit->AF->Aq->Prop
 | .normal,a,σ=>a.get i=some (.int .i64 m)/\P (m+1)/\Bi E N k ((i,.int .i64 ((m+1:Nat):Int))::(d,.int .i64 ((m+1:Nat):Int))::a) σ (J (m+1)).1 (J (m+1)).2
 | .exit id,a,σ=>bif Nat.beq id B then Q .normal a σ else Q (.exit id) a σ
 |e,a,σ=>Q e a σ
theorem Bi.trans{a':AF}{σ':Aq}{a'':AF}{σ'':Aq}(h:Bi E N k a σ a' σ')(h':Bi E N k a' σ' a'' σ''):Bi E N k a σ a'' σ'':=by
 intro hk;obtain⟨hk1,h1⟩:=h hk;obtain⟨hk2,h2⟩:=h' hk1;refine⟨hk2,fun g w act hR hF=> ?_⟩;obtain⟨g1,hR1,hF1,hx1⟩:=h1 g w act hR hF;obtain⟨g2,hR2,hF2,hx2⟩:=h2 g1 w act hR1 hF1;exact⟨g2,hR2,hF2,hx1.trans hx2⟩
theorem Bi.slots{a':AF}(h:∀t c,a'.get t=some c->a.get t=some c):Bi E N k a σ a' σ:=
 fun hk=>⟨hk,fun g w act hR hF=>⟨g,hR,⟨hF.size,hF.defers,fun t c hc=>hF.vals t c (h t c hc)⟩,.refl ..⟩⟩
theorem AW.range{B C r1 r2:Nat}{c i n d:Tmp}{T T' T2 T3:TypeId}{ty1 ty2 ty3:TypeId}{p1 p2 p3:String}{af1 af2 af3:Array Edge}{body:Code}(len:Nat)(P:Nat->Prop)(J:Nat->AF×Aq)(hlen:len<4611686018427387904)
 (hi:∀m,(J m).1.get i=some (.int .i64 m)) (hn:∀m,(J m).1.get n=some (.int .i64 len)) (hd:z9 N (some c)&&z9 N (some d)&&z9 N (some i)&& !Nat.beq d i=true) (hP:P 0) (h0:Bi E N k a σ (J 0).1 (J 0).2)
 (hb:∀m,m<len->P m->AW E N k body ((c,.bool true)::(J m).1) (J m).2 (ub C (OZ E N k B i d m P J Q)))
 (he:P len->Q .normal ((c,.bool false)::(J len).1) (J len).2):
 AW E N k (.block B (.loop (.seq (.region r1 #[⟨some c,.binOp .lss T (.tmp i) (.tmp n) T',ty1,p1,af1,none⟩] false)
  (.seq (.cond (.tmp c) .skip (.exit B)) (.seq (.block C body)
   (.region r2 #[⟨some d,.binOp .add T2 (.tmp i) (.const (.int .i64 1)) T3,ty2,p2,af2,none⟩,⟨some i,.move (.tmp d),ty3,p3,af3,none⟩] false)))))) a σ Q:=by
 simp only[Wk] at hd;obtain⟨⟨⟨hd1,hd2⟩,hd3⟩,hd4⟩:=hd;refine .block (.loop (ι:={m:Nat // m<=len/\P m}) (fun m=>J m.1) (fun m=>len-m.1) ⟨0,XE _,hP⟩ h0 fun⟨m,hm,hPm⟩=> ?_);refine .seq (.AV (L.bn rfl (hi m) (hn m) rfl hd1 (.Bd ?_)));show AW E N k _ ((c,.bool (decide ((m:Int)<(len:Int))))::(J m).1) (J m).2 _;by_cases hlt:m<len
 .have hdec:decide ((m:Int)<(len:Int))=true:=by simp;omega
  rw[hdec];refine .seq (.B4 (by simp[ev,AF.get]) (.skip ?_));show AW E N k _ _ _ _;refine .seq (.block ((hb m hlt hPm).mono ?_));rintro e a1 σ1 hq;have hnorm:OZ E N k B i d m P J Q .normal a1 σ1->HR E N k (.region r2 #[⟨some d,.binOp .add T2 (.tmp i) (.const (.int .i64 1)) T3,ty2,p2,af2,none⟩,⟨some i,.move (.tmp d),ty3,p3,af3,none⟩] false)
   (Ls E N k (fun m:{m:Nat // m<=len/\P m}=>J m.1) (fun m=>len-m.1) ⟨m,hm,hPm⟩ (ub B Q)) .normal a1 σ1:=by
   rintro⟨h1,h2,h3⟩;show AW E N k _ _ _ _;refine .AV (L.ad rfl h1 (show ev E T2 a1 (.const (.int .i64 1))=some (.int .i64 1) from rfl) hd2 (by omega) (L.mv rfl (v:= .int .i64 ((m:Int)+1)) (by simp[ev,AF.put,AF.get]) hd3 (.Bd ?_)));rw[show((m:Int)+1)=((m+1:Nat):Int) from by omega];refine⟨⟨m+1,hlt,h2⟩,by show len-(m+1)<len-m;omega,?_⟩;exact h3
  cases e with
  |normal=>exact hnorm hq
  |exit id=>
   simp only[ub] at hq ⊢;cases hb:Nat.beq id C with
   |true=>rw[hb] at hq;exact hnorm hq
   |false=>rw[hb] at hq;exact hq
  |goto l=>exact hq
  |ret=>exact hq
  |panic ch=>exact hq
  |outgrown=>exact hq
 .have hm':m=len:=by omega
  subst hm';have hdec:decide ((m:Int)<(m:Int))=false:=by simp
  rw[hdec];refine .seq (.B6 (by simp[ev,AF.get]) (.exit ?_));show ub B Q (.exit B) _ _;simp only[ub,Y6,cond_true];exact he hPm
end
end Go.Ab
