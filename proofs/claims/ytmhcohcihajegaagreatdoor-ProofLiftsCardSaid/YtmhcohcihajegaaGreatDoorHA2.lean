/- A part of this seat's proofs. No conditions. -/
import Derived.ChangeArms
import Derived.ChangeFn
import Derived.ChangeKeysEq
import Derived.ChangeReads
import Derived.ChangeSame
import Derived.ChangeShapes
import Derived.DataReads
import Derived.DataShut
import Derived.Laws.Entries
import Derived.MapKept
import Derived.ScopeJumps
import Derived.Test.YtmhcohcihajegaaGreatDoorHA1
namespace Go.Ab
open Go
set_option linter.unusedSimpArgs false
set_option linter.unusedVariables false
section
variable {E:Env} {N k:Nat} {a:AF} {σ:Sto} {Q:Exit->AF->Sto->Prop} {ops:List Oper} {dr:Bool} {rest:List Oper} {acc:List Rec}
def Ymd(ops:List Oper):Option (Nat×Bool)->Option Tmp
 |some (j,_)=>(ops[j]?).bind (·.dst)
 |none=>none
theorem AX.gs{o:Oper}{d:Tmp}{b:Bool}(h1:Ymd ops o.guard=some d)(hb:a.get d=some (.bool b))(hn:yb ops a o.guard=none->True)(ht:b=true->AX E N k dr ops (o::rest) ((d,.bool true)::a) σ acc Q)(hf:b=false->AX E N k dr ops (o::rest) ((d,.bool false)::a) σ acc Q):AX E N k dr ops (o::rest) a σ acc Q:=
 AX.split d hb ht hf
theorem AX.wt{o:Oper}(h:yb ops a o.guard=some true)(h2:AX E N k dr ops (o::rest) a σ acc Q):AX E N k dr ops (o::rest) a σ acc Q:=h2
@[simp] theorem Ty.eta(t:Ty):Ty.mk t.kind t.args=t:=by cases t;rfl
@[simp] theorem Ty.kind_mk(k:Int)(xs:List Ty):(Ty.mk k xs).kind=k:=rfl
@[simp] theorem Ty.args_mk(k:Int)(xs:List Ty):(Ty.mk k xs).args=xs:=rfl
@[simp] theorem Tm.eta(t:Tm):Tm.mk t.kind t.index t.ty t.args=t:=by cases t;rfl
@[simp] theorem Tm.kind_mk(k i:Int)(h:Ty)(xs:List Tm):(Tm.mk k i h xs).kind=k:=rfl
@[simp] theorem Tm.index_mk(k i:Int)(h:Ty)(xs:List Tm):(Tm.mk k i h xs).index=i:=rfl
@[simp] theorem Tm.ty_mk(k i:Int)(h:Ty)(xs:List Tm):(Tm.mk k i h xs).ty=h:=rfl
@[simp] theorem Tm.args_mk(k i:Int)(h:Ty)(xs:List Tm):(Tm.mk k i h xs).args=xs:=rfl
theorem AW.condS{t:Tmp}{x y:Code}{b:Bool}(hc:a.get t=some (.bool b))(ht:b=true->AW E N k x ((t,.bool true)::a) σ Q)(hf:b=false->AW E N k y ((t,.bool false)::a) σ Q):AW E N k (.cond (.tmp t) x y) a σ Q:=
 have key:∀b',b=b'->Weak E N k a σ ((t,.bool b')::a) σ:=fun b' hb=>Weak.slots fun u c hu=>by
  rw[AF.get_cons] at hu;by_cases h:t=u
  ·subst h;rw[if_pos rfl] at hu;rw[hc,hb];exact hu
  ·rw[if_neg h] at hu;exact hu
 .cond hc (fun h=> .weak (key _ h) (ht h)) (fun h=> .weak (key _ h) (hf h))
theorem AW.cutT{ι:Type}{x y:Code}(J:ι->AF×Sto)(h:AW E N k x a σ (Ylv E N k J Q))(h2:∀i,AW E N k y (J i).1 (J i).2 Q):AW E N k x a σ (Zm2 E N k y Q):=
 h.mono fun e a σ hq=>by
  cases e with
  |normal=>obtain⟨i,hi⟩:=hq;exact(AW.weak hi (h2 i):AW E N k y a σ Q)
  |_=>exact hq
namespace K
theorem gR{B:Nat}{i d:Tmp}{m:Nat}{P:Nat->Prop}{J:Nat->AF×Sto}(h:Q .ret a σ):Ydz E N k B i d m P J Q .ret a σ:=h
theorem gE{B:Nat}{i d:Tmp}{m:Nat}{P:Nat->Prop}{J:Nat->AF×Sto}{id:Nat}(hb:Nat.beq id B=true)(h:Q .normal a σ):Ydz E N k B i d m P J Q (.exit id) a σ:=by simp only[Ydz,hb,cond_true];exact h
theorem gO{B:Nat}{i d:Tmp}{m:Nat}{P:Nat->Prop}{J:Nat->AF×Sto}{id:Nat}(hb:Nat.beq id B=false)(h:Q (.exit id) a σ):Ydz E N k B i d m P J Q (.exit id) a σ:=by simp only[Ydz,hb,cond_false];exact h
theorem bX{id id':Nat}(hb:Nat.beq id' id=true)(h:Q .normal a σ):vy id Q (.exit id') a σ:=by simp only[vy,hb,cond_true];exact h
end K
variable {d:Option Tmp} {ty:TypeId} {ps:String} {af:Array Edge} {gd:Option (Nat×Bool)}
namespace L
theorem lnt{t:TypeId}{x:Operand}{sp:Sp}{e:EC}{l:List e.sem}{z:Nat}{zr:List V}{c:Option EC}{sz by_:Nat}(hw:yb ops a gd=some true)(hx:ev E t a x=some (.slice sp (.t e l)))(ht:E.ti t=some ⟨z,zr,.slc c sz by_⟩)(hd:zw N d=true)
 (h2:AX E N k dr ops rest (a.put d (.int .i64 l.length)) σ (⟨[],.int .i64 l.length,0,[]⟩::acc) Q):AX E N k dr ops (⟨d,.call ⟨.builtin .len,#[x],#[t]⟩,ty,ps,af,gd⟩::rest) a σ acc Q:=
 L.ln hw hx ht hd h2
theorem ixt(kk:Nat){t:TypeId}{x y:Operand}{z:Nat}{zr:List V}{c:EC}{co:Option EC}{sz bytes:Nat}{sp:Sp}{xs:List c.sem}{n:Int}{kd:IntKind}(hw:yb ops a gd=some true)(hx:ev E t a x=some (.slice sp (.t c xs)))(ht:E.ti t=some ⟨z,zr,.slc co sz bytes⟩)
 (hy:ev E 0 a y=some (.int kd n)) (hn:n=kk) (hsz:Nat.beq c.cells sz=true) (hd:zw N d=true) (hlt:kk<xs.length) (h2:AX E N k dr ops rest (a.put d (.addr (c.view xs[kk]))) σ (⟨[],.addr (c.view xs[kk]),0,[]⟩::acc) Q):AX E N k dr ops (⟨d,.indexAddr t x y,ty,ps,af,gd⟩::rest) a σ acc Q:=
 L.ix kk hw hx ht hy hn hlt (by simp[SL.get,hlt]) hsz hd h2
end L
end
end Go.Ab
namespace Go.Ab
open Go
section
variable {E:Env} {N k:Nat} {a:AF} {σ:Sto} {Q:Exit->AF->Sto->Prop} {ops:List Oper} {dr:Bool} {rest:List Oper} {acc:List Rec}
variable {d:Option Tmp} {ty:TypeId} {ps:String} {af:Array Edge} {gd:Option (Nat×Bool)}
namespace D
theorem nil(h:AX E N k dr ops [] a σ acc Q):AX E N k dr ops [] a σ acc Q:=h
theorem ax{o:Oper}(h:AX E N k dr ops (o::rest) a σ acc Q):AX E N k dr ops (o::rest) a σ acc Q:=h
theorem aw{c:Code}(h:AW E N k c a σ Q):AW E N k c a σ Q:=h
theorem blk{id:Nat}{x y:Code}(h:AW E N k (.block id (.seq x y)) a σ Q):AW E N k (.block id (.seq x y)) a σ Q:=h
theorem sblk{id:Nat}{x y z:Code}(h:AW E N k (.seq (.block id (.seq x y)) z) a σ Q):AW E N k (.seq (.block id (.seq x y)) z) a σ Q:=h
theorem load{t:TypeId}{x:Operand}(h:AX E N k dr ops (⟨d,.load t x,ty,ps,af,gd⟩::rest) a σ acc Q):AX E N k dr ops (⟨d,.load t x,ty,ps,af,gd⟩::rest) a σ acc Q:=h
theorem store{t:TypeId}{x y:Operand}(h:AX E N k dr ops (⟨d,.store t x y,ty,ps,af,gd⟩::rest) a σ acc Q):AX E N k dr ops (⟨d,.store t x y,ty,ps,af,gd⟩::rest) a σ acc Q:=h
theorem fieldAddr{t:TypeId}{x:Operand}{f:Nat}(h:AX E N k dr ops (⟨d,.fieldAddr t x f,ty,ps,af,gd⟩::rest) a σ acc Q):AX E N k dr ops (⟨d,.fieldAddr t x f,ty,ps,af,gd⟩::rest) a σ acc Q:=h
theorem field{t:TypeId}{x:Operand}{f:Nat}(h:AX E N k dr ops (⟨d,.field t x f,ty,ps,af,gd⟩::rest) a σ acc Q):AX E N k dr ops (⟨d,.field t x f,ty,ps,af,gd⟩::rest) a σ acc Q:=h
theorem move{x:Operand}(h:AX E N k dr ops (⟨d,.move x,ty,ps,af,gd⟩::rest) a σ acc Q):AX E N k dr ops (⟨d,.move x,ty,ps,af,gd⟩::rest) a σ acc Q:=h
theorem assign{x:Operand}(h:AX E N k dr ops (⟨d,.assign x,ty,ps,af,gd⟩::rest) a σ acc Q):AX E N k dr ops (⟨d,.assign x,ty,ps,af,gd⟩::rest) a σ acc Q:=h
theorem pick{c x y:Operand}(h:AX E N k dr ops (⟨d,.pick c x y,ty,ps,af,gd⟩::rest) a σ acc Q):AX E N k dr ops (⟨d,.pick c x y,ty,ps,af,gd⟩::rest) a σ acc Q:=h
theorem box{t:TypeId}{x:Operand}(h:AX E N k dr ops (⟨d,.box t x,ty,ps,af,gd⟩::rest) a σ acc Q):AX E N k dr ops (⟨d,.box t x,ty,ps,af,gd⟩::rest) a σ acc Q:=h
theorem alloc{t:TypeId}(h:AX E N k dr ops (⟨d,.alloc t,ty,ps,af,gd⟩::rest) a σ acc Q):AX E N k dr ops (⟨d,.alloc t,ty,ps,af,gd⟩::rest) a σ acc Q:=h
theorem bin{o:BinOp}{t u:TypeId}{x y:Operand}(h:AX E N k dr ops (⟨d,.binOp o t x y u,ty,ps,af,gd⟩::rest) a σ acc Q):AX E N k dr ops (⟨d,.binOp o t x y u,ty,ps,af,gd⟩::rest) a σ acc Q:=h
theorem call{c:Call}(h:AX E N k dr ops (⟨d,.call c,ty,ps,af,gd⟩::rest) a σ acc Q):AX E N k dr ops (⟨d,.call c,ty,ps,af,gd⟩::rest) a σ acc Q:=h
theorem extract{x:Operand}{n:Nat}(h:AX E N k dr ops (⟨d,.extract x n,ty,ps,af,gd⟩::rest) a σ acc Q):AX E N k dr ops (⟨d,.extract x n,ty,ps,af,gd⟩::rest) a σ acc Q:=h
theorem indexAddr{t:TypeId}{x y:Operand}(h:AX E N k dr ops (⟨d,.indexAddr t x y,ty,ps,af,gd⟩::rest) a σ acc Q):AX E N k dr ops (⟨d,.indexAddr t x y,ty,ps,af,gd⟩::rest) a σ acc Q:=h
theorem not{o:UnOp}{t:TypeId}{x:Operand}(h:AX E N k dr ops (⟨d,.unOp o t x,ty,ps,af,gd⟩::rest) a σ acc Q):AX E N k dr ops (⟨d,.unOp o t x,ty,ps,af,gd⟩::rest) a σ acc Q:=h
theorem stopR{id:Nat}{o:Array Oper}{b:Bool}{z:Code}(h:AW E N k (.seq (.region id o b) z) a σ Q):AW E N k (.seq (.region id o b) z) a σ Q:=h
theorem stopS{id:Nat}{o:Array Oper}{b:Bool}{y z:Code}(h:AW E N k (.seq (.seq (.region id o b) y) z) a σ Q):AW E N k (.seq (.seq (.region id o b) y) z) a σ Q:=h
end D
def wr:List Nat->Code->Code
 |[],c=>c
 |0::l,.seq c _=>wr l c
 |_::l,.seq _ c=>wr l c
 |0::l,.cond _ c _=>wr l c
 |_::l,.cond _ _ c=>wr l c
 |_::l,.block _ c=>wr l c
 |_::l,.loop c=>wr l c
 |_::l,.scope c=>wr l c
 |_,c=>c
def uo(f:Func):Code:=f.body.getD .skip
end
end Go.Ab
namespace Go.Ab
open Go
set_option linter.unusedSimpArgs false
set_option linter.unusedVariables false
def Gh.sub(ρ:List (Option Nat))(g:Gh):Gh:={blk:=fun n=>g.blk ((Zbx ρ n).getD n),row:=fun n=>match Zbx ρ n with|some m=>g.row m|none=>none,m:=g.m}
theorem Gh.sub_blk{ρ:List (Option Nat)}{g:Gh}{n n':Nat}(h:Zbx ρ n=some n'):(g.sub ρ).blk n=g.blk n':=by simp[Gh.sub,h]
theorem Gh.sub_row{ρ:List (Option Nat)}{g:Gh}{n n':Nat}(h:Zbx ρ n=some n'):(g.sub ρ).row n=g.row n':=by simp[Gh.sub,h]
theorem Gh.sub_none{ρ:List (Option Nat)}{g:Gh}{n:Nat}(h:Zet ρ n=some none):(g.sub ρ).row n=none:=by simp[Gh.sub,Zbx,h]
theorem Zmm{ρ:List (Option Nat)}{g:Gh}{es es2:Es}(he:ELe ρ es es2){n:Nat}{e2:Ent}{b:Nat}(h1:zm es2 n=some e2)(h2:e2.foot (g.sub ρ) n=some b):∃m e,Zbx ρ n=some m/\zm es m=some e/\e.foot g m=some b:=by
 have h3:=he.get n e2 h1;cases e2 with
 |var cs=>
  obtain⟨m,hm,cs1,_,cs0,h4,_⟩:=h3;refine⟨m,_,hm,h4,?_⟩;simp only[Ent.foot,Gh.sub_blk hm] at h2 ⊢;exact h2
 |map c ks xs=>
  obtain⟨m,hm,ks0,xs0,h4,_⟩:=h3;refine⟨m,_,hm,h4,?_⟩;simp only[Ent.foot,Gh.sub_blk hm] at h2 ⊢;exact h2
 |row=>
  rcases h3 with h3|⟨m,hm,h4⟩
  ·simp[Ent.foot,Gh.sub_none h3] at h2
  ·refine ⟨m,_,hm,h4,?_⟩;simp only[Ent.foot,Gh.sub_row hm] at h2 ⊢;exact h2
 |gone=>cases h2
theorem R.sub{G:Zfn}{g:Gh}{D:Nat->Prop}{es:Es}{w:World}(hR:R G g D es w){ρ:List (Option Nat)}{es2:Es}(hd:yg ρ=true)(he:ELe ρ es es2):R G (g.sub ρ) (·<ρ.length) es2 w:=by
 have hun:∀{v c c2},VRel g D w v c->vo ρ c2=some c->VRel (g.sub ρ) (·<ρ.length) w v c2:=fun {v c c2} h hc=>VRel.unren (g2:=g.sub ρ) h rfl (fun _ _ h=>Gh.sub_blk h) (fun _ _ h=>Gh.sub_row h) (fun _ h=>Gh.sub_none h) c2 hc;refine⟨?_,?_,?_,hR.fresh,hR.glob⟩
 ·intro n e h;have h3:=he.get n e h;cases e with
  |var cs=>obtain⟨m,hm,_⟩:=h3;exact Zac (ur hm)
  |map c ks xs=>obtain⟨m,hm,_⟩:=h3;exact Zac (ur hm)
  |row=>
   rcases h3 with h3|⟨m,hm,_⟩
   ·exact Zac h3
   ·exact Zac (ur hm)
  |gone=>simp_all
 ·intro n n' e e' b h1 h2 h3 h4;obtain⟨m,d,hm,h5,h6⟩:=Zmm he h1 h3;obtain⟨m',d',hm',h7,h8⟩:=Zmm he h2 h4;have:=hR.foots m m' d d' b h5 h7 h6 h8;subst this;exact Zfu hd n n' m (ur hm) (ur hm')
 ·intro n e h;have h3:=he.get n e h;cases e with
  |var cs=>
   obtain⟨m,hm,cs1,hc1,cs0,h4,h5⟩:=h3;obtain⟨h6,vs,t,h7,h8,h9,h10,h11⟩:=hR.ents m _ h4;refine⟨by rw[Gh.sub_blk hm];exact h6,vs,t,by rw[Gh.sub_blk hm];exact h7,?_,h9,?_,by rw[Gh.sub_row hm];omega⟩
   ·have e1:=h5.len;have e2:=yv hc1;omega
   ·intro i v c hv hc;obtain⟨c1,hc2⟩:=getElem?_of_len (yv hc1) hc;obtain⟨c0,hc3,hc4⟩:=h5.nth i c1 hc2;exact hun (hc4 _ _ _ _ (h10 i v c0 hv hc3)) (vb hc1 i c c1 hc hc2)
  |map c ks xs=>
   obtain⟨m,hm,ks0,xs0,h4,rfl,rfl⟩:=h3;obtain⟨h6,vs,t,h7,h8,h9,h9',h10⟩:=hR.ents m _ h4;refine⟨by rw[Gh.sub_blk hm];exact h6,vs,t,by rw[Gh.sub_blk hm];exact h7,h8,h9,h9',?_⟩;intro i v x hv hx;exact hun (h10 i v x hv hx) (Zjr ρ c x)
  |row=>
   intro ρ' hρ';rcases h3 with h3|⟨m,hm,h4⟩
   ·rw[Gh.sub_none h3] at hρ';grind
   ·rw[Gh.sub_row hm] at hρ';exact hR.ents m _ h4 ρ' hρ'
  |gone=>trivial
def yf(L:List Nat)(nx news:Nat):List Nat:=L++List.range' nx news
def yl(L:List Nat):List (Option Nat):=L.map some
def Yiv(ρ:List (Option Nat)):Ent->Option Ent
 | .var cs=>(w7 ρ cs).map .var
 | .map c ks xs=>some (.map c ks xs)
 | .row=>some .row
 | .gone=>some .gone
def Zfc(ρ:List (Option Nat)):Es->Option Es
 |[]=>some []
 |p::l=>(Zbx ρ p.1).bind fun n=>(Yiv ρ p.2).bind fun e=>(Zfc ρ l).map fun l'=>(n,e)::l'
def Zdj(es:Es):Nat->Bool
 |0=>true
 |n+1=>(zm es n).isSome&&Zdj es n
theorem Zqu{es:Es}:∀{n:Nat},Zdj es n=true->∀j,j<n->∃e,zm es j=some e:=by
 intro n;induction n with
 |zero=>omega
 |succ n ih=>
  intro h j hj;simp only[Zdj,Bool.and_eq_true] at h;by_cases hjn:j=n
  ·subst hjn;exact Option.isSome_iff_exists.1 h.1
  ·exact ih h.2 j (by omega)
theorem Zhh{L:List Nat}:∀{n:Nat},Zet (yl L) n=(L[n]?).map some:=by
 induction L with
 |nil=>intro n;rfl
 |cons x l ih=>
  intro n;cases n with
  |zero=>rfl
  |succ n=>simp[yl,Zet];exact ih
theorem Zek{L:List Nat}{n:Nat}:Zbx (yl L) n=L[n]? :=by
 simp only[Zbx,Zhh]
 grind
theorem Zvk{ρ:List (Option Nat)}(hd:yg ρ=true):∀{es post:Es},Zfc ρ es=some post->∀n e,zm post n=some e->∃j e0,Zbx ρ j=some n/\zm es j=some e0/\Yiv ρ e0=some e:=by
 intro es;induction es with
 |nil=>intro post h n e hf;simp[Zfc] at h;subst h;cases hf
 |cons p l ih=>
  intro post h n e hf;simp only[Zfc,Option.bind_eq_some_iff,Option.map_eq_some_iff] at h;obtain⟨m,h1,e1,h2,l',h3,rfl⟩:=h;obtain⟨pn,pe⟩:=p;rw[zq] at hf;by_cases hm:m=n
  ·subst hm;rw[if_pos rfl] at hf;cases hf;exact⟨pn,pe,h1,by rw[zq,if_pos rfl],h2⟩
  ·rw[if_neg hm] at hf;obtain⟨j,e0,h4,h5,h6⟩:=ih h3 n e hf;refine⟨j,e0,h4,?_,h6⟩;rw[zq,if_neg];all_goals grind
theorem Zq0{ρ:List (Option Nat)}(hd:yg ρ=true):∀{es post:Es},Zfc ρ es=some post->∀j e0 n,zm es j=some e0->Zbx ρ j=some n->∃e,zm post n=some e:=by
 intro es;induction es with
 |nil=>intro post h j e0 n hf;cases hf
 |cons p l ih=>
  intro post h j e0 n hf hn;simp only[Zfc,Option.bind_eq_some_iff,Option.map_eq_some_iff] at h;obtain⟨m,h1,e1,h2,l',h3,rfl⟩:=h;obtain⟨pn,pe⟩:=p;rw[zq] at hf;rw[zq]
  grind
theorem Zpg{l l':Es}{n:Nat}:zm (l++l') n=match zm l n with|some e=>some e|none=>zm l' n:=by
 induction l with
 |nil=>rfl
 |cons p l ih=>
  obtain⟨m,e⟩:=p;rw[List.cons_append,zq,zq]
  grind
theorem Znl{es:Es}{n:Nat}{e:Ent}(h:zm es n=some e):(n,e)∈es:=by
 induction es with
 |nil=>cases h
 |cons p l ih=>
  obtain⟨m,x⟩:=p;rw[zq] at h
  grind
theorem ELe.more{ρ:List (Option Nat)}{pre es:Es}(hp:∀p∈pre,zm es p.1=some p.2):∀{es2:Es},ELe ρ pre es2->ELe ρ es es2:=by
 have key:∀{n e},zm pre n=some e->zm es n=some e:=fun h=>hp _ (Znl h);intro es2;induction es2 with
 |nil=>intro _;trivial
 |cons p l ih=>
  intro h;refine⟨?_,ih h.2⟩;have h1:=h.1
  grind
section
variable {E:Env} {N:Nat} {o:Oper} {a:AF}
theorem AC.use{f:FuncId}{args:List V}{σ σ':Sto}{r r':V}(h:AC E f args σ r σ')(L:List Nat)(nx news:Nat){pre post:Es}(hL:L.length=σ.nx)(hn':σ'.nx=σ.nx+news)(hd:yg (yl (yf L nx news))=true)
 (hin:ELe (yl L) pre σ.es) (hout:Zfc (yl (yf L nx news)) σ'.es=some post) (hcov:Zdj σ'.es σ'.nx=true) (hr':vo (yl (yf L nx news)) r=some r')
 {g:Gh} {D:Nat->Prop} {es:Es} {w:World} (hR:R E.G g D es w) (hp:∀p∈pre,zm es p.1=some p.2) (hnew:∀n∈List.range' nx news,¬D n) (hLD:∀n∈L,D n) {vs:List Value} {cs:List V} (hl:vs.length=cs.length)
 (hr:∀(i:Nat) v c,vs[i]? =some v->cs[i]? =some c->VRel g D w v c) (hle:∃cs1,w7 (yl L) args=some cs1/\VsLe cs cs1) {P:Ending->World->Prop}
 (hP:∀v g' w',R E.G g' (fun n=>D n\/n∈List.range' nx news) (post++es) w'->VRel g' (fun n=>D n\/n∈List.range' nx news) w' v r'->Ext D g (Foot g es) w g' (Foot g' (post++es)) w'->P (.returned v) w'):Calls E.P f vs.toArray w P:=by
 obtain⟨cs1,h1,h2⟩:=hle;obtain⟨_,_,h3⟩:=h;have hin':=hin.more hp;have hlen:(yl L).length=σ.nx:=by simp[yl,hL]
 have hdL:yg (yl L)=true:=by
  have:∀(l:List (Option Nat)) l',yg (l++l')=true->yg l=true:=by
   intro l;induction l with
   |nil=>intro l' _;rfl
   |cons x l ih=>
    intro l' hh;cases x with
    |none=>exact ih l' hh
    |some m=>
     simp only[List.cons_append,yg,List.all_append,Bool.and_eq_true] at hh ⊢
     grind
  refine this (yl L) (yl (List.range' nx news)) ?_;rw[<-hd];simp[yl,yf]
 have hRs:R E.G (g.sub (yl L)) (·<σ.nx) σ.es w:=by rw[<-hlen];exact hR.sub hdL hin'
 have hnoneL:∀n,Zet (yl L) n≠some none:=fun n hc=>by rw[Zhh] at hc;grind
 refine(h3 (g.sub (yl L)) w vs hRs (by rw[hl,h2.len,<-yv h1]) (fun i v c hv hc=> ?_)).mono ?_
 ·obtain ⟨c1,hc1⟩:=getElem?_of_len (yv h1) hc;obtain⟨c0,hc0,hle⟩:=h2.nth i c1 hc1;have:=VRel.unren (g2:=g.sub (yl L)) (hle _ _ _ _ (hr i v c0 hv hc0)) rfl (fun _ _ h=>Gh.sub_blk h) (fun _ _ h=>Gh.sub_row h) (fun _ h=>Gh.sub_none h) c (vb h1 i c c1 hc hc1);simp_all
 ·rintro e w' ⟨v,g',rfl,hR',hv,hx⟩
  let M:=yf L nx news
  let g3:Gh:={blk:=fun n=>if n∈List.range' nx news then g'.blk (σ.nx+(n-nx)) else g.blk n,row:=fun n=>if n∈List.range' nx news then g'.row (σ.nx+(n-nx)) else g.row n,m:=g'.m}
  have hMlen:M.length=σ'.nx:=by simp[M,yf,hL,hn']
  have hg3D:∀n,D n->g3.blk n=g.blk n/\g3.row n=g.row n:=fun n hn=>by
   grind
  have hM:∀j n,M[j]? =some n->(j<σ.nx/\L[j]? =some n/\D n)\/(σ.nx<=j/\n=nx+(j-σ.nx)/\n∈List.range' nx news):=by
   intro j n hj;by_cases hjL:j<L.length
   ·rw[show M=L++List.range' nx news from rfl,List.getElem?_append_left hjL] at hj
    grind
   ·rw[show M=L++List.range' nx news from rfl,List.getElem?_append_right (by omega)] at hj
    grind
  have hg3:∀j n,Zbx (yl M) j=some n->g'.blk j=g3.blk n/\g'.row j=g3.row n/\(D n\/n∈List.range' nx news):=by
   intro j n hj;rw[Zek] at hj;rcases hM j n hj with⟨h4,h5,h6⟩|⟨h4,h5,h6⟩
   ·have hs:Zbx (yl L) j=some n:=by rw[Zek];exact h5
    refine⟨?_,?_,.inl h6⟩
    ·rw[hx.blk j h4,Gh.sub_blk hs,(hg3D n h6).1]
    ·rw[hx.row j h4,Gh.sub_row hs,(hg3D n h6).2]
   grind
  have hallM:∀n,Zet (yl M) n≠some none:=fun n hc=>by rw[Zhh] at hc;grind
  have hren:∀{v c c'},VRel g' (·<σ'.nx) w' v c'->vo (yl M) c'=some c->VRel g3 (fun n=>D n\/n∈List.range' nx news) w' v c:=fun {v c c'} hv hc=>
   VRel.ren (g2:=g') (g:=g3) hv rfl (fun j n hj=>⟨(hg3 j n hj).1,(hg3 j n hj).2.2⟩) (fun j n hj=>(hg3 j n hj).2.1) hallM c hc
  have hfootin:∀b,Foot (g.sub (yl L)) σ.es b->∃m e,m∈L/\zm es m=some e/\e.foot g m=some b:=by
   rintro b ⟨n,e2,h4,h5⟩;obtain⟨m,e,h6,h7,h8⟩:=Zmm hin' h4 h5;rw[Zek] at h6
   grind
  have hentfoot:∀{j n e0 e b},Zbx (yl M) j=some n->Yiv (yl M) e0=some e->e.foot g3 n=some b->e0.foot g' j=some b:=by
   intro j n e0 e b hj he hb;cases e0 with
   |var cs=>
    simp only[Yiv,Option.map_eq_some_iff] at he;obtain⟨cs',_,rfl⟩:=he;simp only[Ent.foot] at hb ⊢
    grind
   |map c ks xs=>
    cases he;simp only[Ent.foot] at hb ⊢
    grind
   |row=>cases he;simp only[Ent.foot] at hb ⊢;grind
   |gone=>cases he;cases hb
  have hcase:∀n e,zm (post++es) n=some e->(∃j e0,Zbx (yl M) j=some n/\zm σ'.es j=some e0/\Yiv (yl M) e0=some e)\/(n∉M/\zm es n=some e):=by
   intro n e hf;rw[Zpg] at hf;cases hpn:zm post n with
   |some e1=>
    rw[hpn] at hf;simp only[Option.some.injEq] at hf;subst hf;exact .inl (Zvk hd hout n e1 hpn)
   |none=>
    rw[hpn] at hf;refine .inr ⟨fun hm=> ?_,hf⟩;obtain⟨j,hj⟩:=List.mem_iff_getElem?.1 hm;have hjlt:j<σ'.nx:=by grind
    obtain⟨e0,he0⟩:=Zqu hcov j hjlt;obtain⟨e1,he1⟩:=Zq0 hd hout j e0 n he0 (by rw[Zek];exact hj)
    grind
  have hsub:∀b,Foot (g.sub (yl L)) σ.es b->Foot g es b:=fun b hb=>by
   obtain⟨m,e,_,h5,h6⟩:=hfootin b hb;exact⟨m,e,h5,h6⟩
  have hold:∀n e b,n∉M->zm es n=some e->e.foot g n=some b->¬Foot (g.sub (yl L)) σ.es b:=by
   intro n e b hn hf hb hc;obtain⟨m,e',h4,h5,h6⟩:=hfootin b hc;have:=hR.foots n m e e' b hf h5 hb h6;subst this;exact hn (List.mem_append_left _ h4)
  have holdfoot:∀n e b,n∉M->zm es n=some e->e.foot g3 n=some b->e.foot g n=some b:=by
   intro n e b hn hf hb;have h4:=hg3D n (hR.lt n e hf);cases e with
   |var cs=>simp only[Ent.foot] at hb ⊢;grind
   |map c ks xs=>simp only[Ent.foot] at hb ⊢;grind
   |row=>simp only[Ent.foot] at hb ⊢;grind
   |gone=>cases hb
  have hext:Ext D g (Foot g es) w g3 (Foot g3 (post++es)) w':=by
   refine⟨hx.os,hx.tape,hx.output,hx.size,hx.cells,hx.mark,fun n hn=>(hg3D n hn).1,fun n hn=>(hg3D n hn).2,fun b hb hF=>hx.frame b hb fun hc=>hF (hsub b hc),?_⟩;rintro b ⟨n,e,h4,h5⟩;rcases hcase n e h4 with⟨j,e0,h6,h7,h8⟩|⟨h6,h7⟩
   ·exact (hx.newf b ⟨j,e0,h7,hentfoot h6 h8 h5⟩).imp (hsub b) id
   ·exact .inl ⟨n,e,h7,holdfoot n e b h6 h7 h5⟩
  refine hP v g3 w' ?_ (hren hv hr') hext;refine hR.step hx.mark hx.cells (fun n hn=> .inl hn) (fun n hn=>(hg3D n hn).1) (fun n hn=>(hg3D n hn).2) (fun n e hf=> ?_) ?_ hR'.fresh
  ·rcases hcase n e hf with⟨j,e0,h6,h7,h8⟩|⟨h6,h7⟩
   ·refine .inr ⟨(hg3 j n h6).2.2,?_⟩;have he:=hR'.ents j e0 h7;cases e0 with
    |var cs0=>
     simp only[Yiv,Option.map_eq_some_iff] at h8;obtain⟨cs',hcs,rfl⟩:=h8;obtain⟨h9,vs',t,h10,h11,h12,h13,h14⟩:=he;refine⟨by grind,vs',t,by grind,by have e1:=yv hcs;omega,h12,fun i v c hv hc=> ?_,by grind⟩;obtain⟨c0,hc0⟩:=getElem?_of_len (yv hcs).symm hc;exact hren (h13 i v c0 hv hc0) (vb hcs i c0 c hc0 hc)
    |map c ks xs=>
     cases h8;obtain⟨h9,vs',t,h10,h11,h12,h12',h13⟩:=he;refine⟨by grind,vs',t,by grind,h11,h12,h12',fun i v x hv hx=> ?_⟩;exact hren (h13 i v x hv hx) (Zjr _ c x)
    |row=>cases h8;intro ρ' hρ';exact he ρ' (by grind)
    |gone=>cases h8;trivial
   ·refine .inl ⟨h7,fun b hb=> ?_⟩;exact hx.frame b (hR.foot_lt h7 hb) (hold n e b h6 h7 hb)
  ·intro n n' e e' b h4 h5 h6 h7;rcases hcase n e h4 with⟨j,e0,h8,h9,h10⟩|⟨h8,h9⟩<;>rcases hcase n' e' h5 with⟨j',e0',h8',h9',h10'⟩|⟨h8',h9'⟩
   ·have:=hR'.foots j j' e0 e0' b h9 h9' (hentfoot h8 h10 h6) (hentfoot h8' h10' h7)
    grind
   ·exfalso;have hb:=holdfoot n' e' b h8' h9' h7;rcases hx.newf b ⟨j,e0,h9,hentfoot h8 h10 h6⟩ with hf|hf
    ·grind
    ·have:=hR.foot_lt h9' hb;omega
   ·exfalso;have hb:=holdfoot n e b h8 h9 h6;rcases hx.newf b ⟨j',e0',h9',hentfoot h8' h10' h7⟩ with hf|hf
    ·grind
    ·have:=hR.foot_lt h9 hb;omega
   ·exact hR.foots n n' e e' b h9 h9' (holdfoot n e b h8 h9 h6) (holdfoot n' e' b h8' h9' h7)
theorem Yj6{G:Zfn}{L:List Nat}{pre:Es}(h:(L.all fun n=>(zm pre n).isSome)=true){g:Gh}{D:Nat->Prop}{es:Es}{w:World}(hR:R G g D es w)(hp:∀p∈pre,zm es p.1=some p.2):∀n∈L,D n:=fun n hn=>by
 obtain⟨e,he⟩:=Option.isSome_iff_exists.1 (List.all_eq_true.1 h n hn);exact hR.lt n e (hp _ (Znl he))
theorem OS.callB{f:FuncId}{xs:List Operand}{ts:Array TypeId}{cs args:List V}{σ σ':Sto}{r r':V}{L:List Nat}{nx news:Nat}{pre post:Es}(ho:o.op= .call {callee:= .value (.func f),args:=xs.toArray,argTypes:=ts})(hx:evT E a xs ts.toList=some cs)(h:AC E f args σ r σ')
 (hL:L.length=σ.nx) (hn':σ'.nx=σ.nx+news) (hd:yg (yl (yf L nx news))=true) (hin:ELe (yl L) pre σ.es) (hout:Zfc (yl (yf L nx news)) σ'.es=some post) (hcov:Zdj σ'.es σ'.nx=true)
 (hr':vo (yl (yf L nx news)) r=some r') (hLp:(L.all fun n=>(zm pre n).isSome)=true) (hle:∃cs1,w7 (yl L) args=some cs1/\VsLe cs cs1):OS E N o a pre r' (List.range' nx news) post:=by
 intro g D es w act hR hp hn hF K Q hK;obtain⟨h1,h2⟩:=Zq4 hx hR hF;exact Zye ho h.1 (h.use L nx news hL hn' hd hin hout hcov hr' hR hp hn (Yj6 hLp hR hp) h1 h2 hle fun v g' w' h3 h4 h5=>⟨v,rfl,hK g' v w' h3 h4 h5⟩)
theorem OS.callVB{x:Operand}{f:FuncId}{fi caps:List V}{xs:List Operand}{ts:Array TypeId}{cs args:List V}{σ σ':Sto}{r r':V}{L:List Nat}{nx news:Nat}{pre post:Es}(ho:o.op= .call {callee:= .value x,args:=xs.toArray,argTypes:=ts})(hf:ev E 0 a x=some (.fn (.func f) fi caps))
 (hx:evT E a xs ts.toList=some cs) (h:AC E f args σ r σ')
 (hL:L.length=σ.nx) (hn':σ'.nx=σ.nx+news) (hd:yg (yl (yf L nx news))=true) (hin:ELe (yl L) pre σ.es) (hout:Zfc (yl (yf L nx news)) σ'.es=some post) (hcov:Zdj σ'.es σ'.nx=true)
 (hr':vo (yl (yf L nx news)) r=some r') (hLp:(L.all fun n=>(zm pre n).isSome)=true) (hle:∃cs1,w7 (yl L) args=some cs1/\VsLe (fi++cs++caps) cs1):OS E N o a pre r' (List.range' nx news) post:=by
 intro g D es w act hR hp hn hF K Q hK;obtain⟨h1,h2⟩:=Zq4 hx hR hF;obtain⟨vs,us,h6,h7,h8,h9,h10⟩:=(z6 hf hR hF).fn_inv;refine Ydc ho h6 h.1 (h.use L nx news hL hn' hd hin hout hcov hr' hR hp hn (Yj6 hLp hR hp) (cs:=fi++cs++caps) (by grind) (fun i v c hv hc=> ?_) hle fun v g' w' h3 h4 h5=>⟨v,rfl,hK g' v w' h3 h4 h5⟩)
 grind
end
def Zhb(es:Es):List Nat->Option Es
 |[]=>some []
 |n::l=>(zm es n).bind fun e=>(Zhb es l).map fun l'=>(n,e)::l'
theorem Ztq{es:Es}:∀{L:List Nat} {pre:Es},Zhb es L=some pre->Zg0 es pre:=by
 intro L;induction L with
 |nil=>intro pre h;simp[Zhb] at h;subst h;trivial
 |cons n l ih=>
  intro pre h;simp only[Zhb,Option.bind_eq_some_iff,Option.map_eq_some_iff] at h;obtain⟨e,h1,l',h2,rfl⟩:=h;exact⟨h1,ih h2⟩
theorem Zpk{es:Es}:∀{L:List Nat} {pre:Es},Zhb es L=some pre->(L.all fun n=>(zm pre n).isSome)=true:=by
 have key:∀{L:List Nat} {pre:Es},Zhb es L=some pre->∀n∈L,(zm pre n).isSome=true:=by
  intro L;induction L with
  |nil=>simp
  |cons n l ih=>
   intro pre h m hm;simp only[Zhb,Option.bind_eq_some_iff,Option.map_eq_some_iff] at h;obtain⟨e,h1,l',h2,rfl⟩:=h;rw[zq]
   grind
 grind
section
variable {E:Env} {N k:Nat} {a:AF} {σ:Sto} {Q:Exit->AF->Sto->Prop} {ops:List Oper} {dr:Bool} {rest:List Oper} {acc:List Rec}
variable {d:Option Tmp} {ty:TypeId} {ps:String} {af:Array Edge} {gd:Option (Nat×Bool)}
namespace L
theorem cb{f:FuncId}{xs:List Operand}{ts:List TypeId}{cs args cs1:List V}{σ1 σ2:Sto}{r r':V}{pre post:Es}(h:AC E f args σ1 r σ2)(L:List Nat)(news:Nat)(hw:yb ops a gd=some true)(hx:evT E a xs ts=some cs)(hpre:Zhb σ.es L=some pre)
 (hL:L.length=σ1.nx) (hn':σ2.nx=σ1.nx+news) (hd:yg (yl (yf L σ.nx news))=true) (hin:ELe (yl L) pre σ1.es) (hout:Zfc (yl (yf L σ.nx news)) σ2.es=some post) (hcov:Zdj σ2.es σ2.nx=true)
 (hr':vo (yl (yf L σ.nx news)) r=some r') (hle:VsLe cs cs1) (hr:w7 (yl L) args=some cs1) (hdst:zw N d=true)
 (h2:AX E N k dr ops rest (a.put d r') (σ.upd news post) (⟨pre,r',news,post⟩::acc) Q):AX E N k dr ops (⟨d,.call ⟨.value (.func f),xs.toArray,ts.toArray⟩,ty,ps,af,gd⟩::rest) a σ acc Q:=
 AX.run news hw (OS.callB rfl (frT (by intro x hx;simp[Op.operands,Call.operands,hx]) hx) h hL hn' hd hin hout hcov hr' (Zpk hpre) ⟨cs1,hr,hle⟩) (Ztq hpre) hdst h2
theorem cv{x:Operand}{f:FuncId}{fi caps:List V}{xs:List Operand}{ts:List TypeId}{cs args cs1:List V}{σ1 σ2:Sto}{r r':V}{pre post:Es}(h:AC E f args σ1 r σ2)(L:List Nat)(news:Nat)(hw:yb ops a gd=some true)(hf:ev E 0 a x=some (.fn (.func f) fi caps))(hx:evT E a xs ts=some cs)
 (hpre:Zhb σ.es L=some pre) (hL:L.length=σ1.nx) (hn':σ2.nx=σ1.nx+news) (hd:yg (yl (yf L σ.nx news))=true) (hin:ELe (yl L) pre σ1.es) (hout:Zfc (yl (yf L σ.nx news)) σ2.es=some post) (hcov:Zdj σ2.es σ2.nx=true)
 (hr':vo (yl (yf L σ.nx news)) r=some r') (hle:VsLe (fi++cs++caps) cs1) (hr:w7 (yl L) args=some cs1) (hdst:zw N d=true)
 (h2:AX E N k dr ops rest (a.put d r') (σ.upd news post) (⟨pre,r',news,post⟩::acc) Q):AX E N k dr ops (⟨d,.call ⟨.value x,xs.toArray,ts.toArray⟩,ty,ps,af,gd⟩::rest) a σ acc Q:=
 AX.run news hw (OS.callVB rfl (fr (by simp[Op.operands,Call.operands]) hf) (frT (by intro y hy;simp[Op.operands,Call.operands,hy]) hx) h hL hn' hd hin hout hcov hr' (Zpk hpre) ⟨cs1,hr,hle⟩) (Ztq hpre) hdst h2
end L
end
mutual
def V.wk:V->V
 | .slice _ l=> .slice .any l
 | .agg cs=> .agg (V.wks cs)
 | .tup cs=> .tup (V.wks cs)
 |v=>v
def V.wks:List V->List V
 |[]=>[]
 |c::cs=>c.wk::V.wks cs
end
mutual
theorem VLe.wk:∀c:V,VLe c c.wk
 | .slice sp l=> .any sp l
 | .agg cs=> .agg (VsLe.wks cs)
 | .tup cs=> .tup (VsLe.wks cs)
 | .int _ _| .bool _| .str _| .nil| .addr _| .ptr _ _| .arr _ _ _| .mp _| .nilp| .fn _ _ _| .nilf| .raw _| .ifc _ _=> .refl _
theorem VsLe.wks:∀cs:List V,VsLe cs (V.wks cs)
 |[]=>trivial
 |c::cs=>⟨VLe.wk c,VsLe.wks cs⟩
end
theorem OS.mul{E:Env}{N:Nat}{o:Oper}{a:AF}{t u:TypeId}{x y:Operand}{n m:Int}(ho:o.op= .binOp .mul t x y u)(hx:ev E t a x=some (.i n))(hy:ev E t a y=some (.i m))(h1: -9223372036854775808<=n*m)(h2:n*m<=9223372036854775807):
 OS E N o a [] (.i (n*m)) [] []:=by
 have:=OS.bin (N:=N) (c:= .int .i64 (IntKind.i64.wrap (n*m))) ho hx hy rfl
 rwa [IntWalk.i64_in _ (by omega)] at this
section
variable {E:Env} {N k:Nat} {a:AF} {σ:Sto}
theorem K.r1{rs:List ResultVar}{r:V}{cs:List V}{c1:V}(h1:Ze0 E a σ.es rs=some cs)(h7:vo [] r=some c1)(h8:(zn cs).wk=c1):Zff E 0 rs r ⟨0,[]⟩ .ret a σ:=
 K.r0 h1 h7 (h8▸VLe.wk _)
theorem K.n1{rs:List ResultVar}{r:V}{cs:List V}{c1:V}(h1:Ze0 E a σ.es rs=some cs)(h7:vo [] r=some c1)(h8:(zn cs).wk=c1):Zff E 0 rs r ⟨0,[]⟩ .normal a σ:=
 K.r1 (rs:=rs) h1 h7 h8
theorem K.r2{rs:List ResultVar}{r:V}{σ':Sto}{cs:List V}{c1:V}(ρ:List (Option Nat))(h1:Ze0 E a σ.es rs=some cs)(h2:ρ.length=σ'.nx)(h3:Zuw 0 k ρ=true)(h4:yg ρ=true)(h5:below σ.nx ρ=true)
 (h6:ELe ρ σ.es σ'.es) (h7:vo ρ r=some c1) (h8:(zn cs).wk=c1):Zff E k rs r σ' .ret a σ:=K.rt ρ h1 h2 h3 h4 h5 h6 h7 (h8▸VLe.wk _)
theorem K.n2{rs:List ResultVar}{r:V}{σ':Sto}{cs:List V}{c1:V}(ρ:List (Option Nat))(h1:Ze0 E a σ.es rs=some cs)(h2:ρ.length=σ'.nx)(h3:Zuw 0 k ρ=true)(h4:yg ρ=true)(h5:below σ.nx ρ=true)
 (h6:ELe ρ σ.es σ'.es) (h7:vo ρ r=some c1) (h8:(zn cs).wk=c1):Zff E k rs r σ' .normal a σ:=K.r2 (rs:=rs) ρ h1 h2 h3 h4 h5 h6 h7 h8
variable {Q:Exit->AF->Sto->Prop} {ops:List Oper} {dr:Bool} {rest:List Oper} {acc:List Rec}
variable {d:Option Tmp} {ty:TypeId} {ps:String} {af:Array Edge} {gd:Option (Nat×Bool)}
namespace L
theorem apt{t:TypeId}{s x:Operand}{z:Nat}{zr:List V}{e:EC}{co:Option EC}{sz bytes:Nat}{sp sp':Sp}{l l':List e.sem}(hw:yb ops a gd=some true)(hs:ev E t a s=some (.slice sp (.t e l)))(hx:ev E t a x=some (.slice sp' (.t e l')))(ht:E.ti t=some ⟨z,zr,.slc co sz bytes⟩)
 (hsp:Zn1 sp=true) (hsz:Nat.beq e.cells sz=true) (hp:Zg0 σ.es (Zd9 sp)) (hd:zw N d=true) (hby:Nat.ble bytes 128=true)
 (hb:l.length+l'.length<=1099511627776) (h2:AX E N k dr ops rest (a.put d (.slice (.own σ.nx) (.t e (l++l')))) (σ.upd 1 (Zcd σ.nx sp)) (⟨Zd9 sp,.slice (.own σ.nx) (.t e (l++l')),1,Zcd σ.nx sp⟩::acc) Q):
 AX E N k dr ops (⟨d,.call ⟨.builtin .append,#[s,x],#[t,t]⟩,ty,ps,af,gd⟩::rest) a σ acc Q:=
 L.ap hw hs hx ht hsp (l2:= .t e (l++l')) (by simp[SL.app]) hsz hp hd
  (by
   have h3:bytes<=128:=Nat.le_of_ble_eq_true hby;have h4:(l.length+l'.length)*bytes<=1099511627776*128:=Nat.mul_le_mul hb h3;exact⟨by simp only[SL.len];omega,by simp only[SL.len];omega⟩) h2
theorem aptF{t:TypeId}{s x:Operand}{z:Nat}{zr:List V}{e:EC}{co:Option EC}{sz bytes:Nat}{sp':Sp}{l l':List e.sem}(hw:yb ops a gd=some true)(hs:ev E t a s=some (.slice .full (.t e l)))(hx:ev E t a x=some (.slice sp' (.t e l')))(ht:E.ti t=some ⟨z,zr,.slc co sz bytes⟩)
 (hsp:0<l'.length) (hsz:Nat.beq e.cells sz=true) (hd:zw N d=true) (hby:Nat.ble bytes 128=true)
 (hb:l.length+l'.length<=1099511627776) (h2:AX E N k dr ops rest (a.put d (.slice (.own σ.nx) (.t e (l++l')))) (σ.upd 1 [(σ.nx,.row)]) (⟨[],.slice (.own σ.nx) (.t e (l++l')),1,[(σ.nx,.row)]⟩::acc) Q):
 AX E N k dr ops (⟨d,.call ⟨.builtin .append,#[s,x],#[t,t]⟩,ty,ps,af,gd⟩::rest) a σ acc Q:=
 L.apF hw hs hx ht ⟨rfl,hsp⟩ (l2:= .t e (l++l')) (by simp[SL.app]) hsz trivial hd
  (by
   have h3:bytes<=128:=Nat.le_of_ble_eq_true hby;have h4:(l.length+l'.length)*bytes<=1099511627776*128:=Nat.mul_le_mul hb h3;exact⟨by simp only[SL.len];omega,by simp only[SL.len];omega⟩) h2
theorem ml{t u:TypeId}{x y:Operand}{n m:Int}(hw:yb ops a gd=some true)(hx:ev E t a x=some (.int .i64 n))(hy:ev E t a y=some (.int .i64 m))(hd:zw N d=true)(h1: -9223372036854775808<=n*m/\n*m<=9223372036854775807)
 (h2:AX E N k dr ops rest (a.put d (.int .i64 (n*m))) σ (⟨[],.int .i64 (n*m),0,[]⟩::acc) Q):AX E N k dr ops (⟨d,.binOp .mul t x y u,ty,ps,af,gd⟩::rest) a σ acc Q:=
 AX.run 0 hw (OS.mul rfl (fr (by simp[Op.operands,Call.operands]) hx) (fr (by simp[Op.operands,Call.operands]) hy) h1.1 h1.2) trivial hd h2
theorem rm{t u:TypeId}{x y:Operand}{kd:IntKind}{n m:Int}(hw:yb ops a gd=some true)(hx:ev E t a x=some (.int kd n))(hy:ev E t a y=some (.int kd m))(hd:zw N d=true)(h1:m≠0)
 (h2:AX E N k dr ops rest (a.put d (.int kd (n.tmod m))) σ (⟨[],.int kd (n.tmod m),0,[]⟩::acc) Q):AX E N k dr ops (⟨d,.binOp .rem t x y u,ty,ps,af,gd⟩::rest) a σ acc Q:=
 AX.run 0 hw (OS.rem rfl (fr (by simp[Op.operands,Call.operands]) hx) (fr (by simp[Op.operands,Call.operands]) hy) h1) trivial hd h2
theorem c2{f:FuncId}{xs:List Operand}{ts:List TypeId}{cs args:List V}{r:V}(h:PC E f args r)(hw:yb ops a gd=some true)(hx:evT E a xs ts=some cs)(hr:w7 [] args=some (V.wks cs))(hd:zw N d=true)
 (h2:AX E N k dr ops rest (a.put d r) σ (⟨[],r,0,[]⟩::acc) Q):AX E N k dr ops (⟨d,.call ⟨.value (.func f),xs.toArray,ts.toArray⟩,ty,ps,af,gd⟩::rest) a σ acc Q:=
 L.c0 h hw hx hr (VsLe.wks cs) hd h2
theorem cb2{f:FuncId}{xs:List Operand}{ts:List TypeId}{cs args:List V}{σ1 σ2:Sto}{r r':V}{pre post:Es}(h:AC E f args σ1 r σ2)(L:List Nat)(news:Nat)(hw:yb ops a gd=some true)(hx:evT E a xs ts=some cs)(hpre:Zhb σ.es L=some pre)
 (hL:L.length=σ1.nx) (hn':σ2.nx=σ1.nx+news) (hd:yg (yl (yf L σ.nx news))=true) (hr:w7 (yl L) args=some (V.wks cs)) (hin:ELe (yl L) pre σ1.es) (hout:Zfc (yl (yf L σ.nx news)) σ2.es=some post) (hcov:Zdj σ2.es σ2.nx=true)
 (hr':vo (yl (yf L σ.nx news)) r=some r') (hdst:zw N d=true)
 (h2:AX E N k dr ops rest (a.put d r') (σ.upd news post) (⟨pre,r',news,post⟩::acc) Q):AX E N k dr ops (⟨d,.call ⟨.value (.func f),xs.toArray,ts.toArray⟩,ty,ps,af,gd⟩::rest) a σ acc Q:=
 Go.Ab.L.cb h L news hw hx hpre hL hn' hd hin hout hcov hr' (VsLe.wks cs) hr hdst h2
theorem cv2{x:Operand}{f:FuncId}{fi caps:List V}{xs:List Operand}{ts:List TypeId}{cs args:List V}{σ1 σ2:Sto}{r r':V}{pre post:Es}(h:AC E f args σ1 r σ2)(L:List Nat)(news:Nat)(hw:yb ops a gd=some true)(hf:ev E 0 a x=some (.fn (.func f) fi caps))(hx:evT E a xs ts=some cs)
 (hpre:Zhb σ.es L=some pre) (hL:L.length=σ1.nx) (hn':σ2.nx=σ1.nx+news) (hd:yg (yl (yf L σ.nx news))=true) (hr:w7 (yl L) args=some (V.wks (fi++cs++caps))) (hin:ELe (yl L) pre σ1.es) (hout:Zfc (yl (yf L σ.nx news)) σ2.es=some post) (hcov:Zdj σ2.es σ2.nx=true)
 (hr':vo (yl (yf L σ.nx news)) r=some r') (hdst:zw N d=true)
 (h2:AX E N k dr ops rest (a.put d r') (σ.upd news post) (⟨pre,r',news,post⟩::acc) Q):AX E N k dr ops (⟨d,.call ⟨.value x,xs.toArray,ts.toArray⟩,ty,ps,af,gd⟩::rest) a σ acc Q:=
 Go.Ab.L.cv h L news hw hf hx hpre hL hn' hd hin hout hcov hr' (VsLe.wks _) hr hdst h2
theorem bs1{t:TypeId}{x:Operand}{z:Nat}{zr:List V}{e:EC}{sz bytes:Nat}{c:V}{vc:List V}{y:e.sem}(hw:yb ops a gd=some true)(ht:E.ti t=some ⟨z,zr,.slc (some e) sz bytes⟩)(hev:ev E 0 a x=some c)(hcs:cellsOf c=some vc)(hsz:Nat.beq vc.length sz=true)(hf:e.fold vc=some y)
 (hb:Nat.ble (1*sz) 16777216=true) (hd:zw N d=true) (h2:AX E N k dr ops rest (a.put d (.slice .full (.t e [y]))) σ (⟨[],.slice .full (.t e [y]),0,[]⟩::acc) Q):
 AX E N k dr ops (⟨d,.buildSlice t 1 #[(0,x)],ty,ps,af,gd⟩::rest) a σ acc Q:=
 L.bs (pp:=[(0,x)]) (cs:=[c]) (vcs:=[vc]) 0 hw ht rfl rfl (by simp[evs,hev]) (by simp[Zkh,hcs]) (by grind) (by simp[Zmt,Zkh,hf]) hb hd h2
theorem bs2{t:TypeId}{x x':Operand}{z:Nat}{zr:List V}{e:EC}{sz bytes:Nat}{c c':V}{vc vc':List V}{y y':e.sem}(hw:yb ops a gd=some true)(ht:E.ti t=some ⟨z,zr,.slc (some e) sz bytes⟩)(hev:ev E 0 a x=some c)(hcs:cellsOf c=some vc)(hsz:Nat.beq vc.length sz=true)(hf:e.fold vc=some y)
 (hev':ev E 0 a x'=some c') (hcs':cellsOf c'=some vc') (hsz':Nat.beq vc'.length sz=true) (hf':e.fold vc'=some y')
 (hb:Nat.ble (2*sz) 16777216=true) (hd:zw N d=true) (h2:AX E N k dr ops rest (a.put d (.slice .full (.t e [y,y']))) σ (⟨[],.slice .full (.t e [y,y']),0,[]⟩::acc) Q):
 AX E N k dr ops (⟨d,.buildSlice t 2 #[(0,x),(1,x')],ty,ps,af,gd⟩::rest) a σ acc Q:=
 L.bs (pp:=[(0,x),(1,x')]) (cs:=[c,c']) (vcs:=[vc,vc']) 0 hw ht rfl rfl (by simp[evs,hev,hev']) (by simp[Zkh,hcs,hcs']) (by grind) (by simp[Zmt,Zkh,hf,hf']) hb hd h2
theorem bs3{t:TypeId}{x x' x2:Operand}{z:Nat}{zr:List V}{e:EC}{sz bytes:Nat}{c c' c2:V}{vc vc' vc2:List V}{y y' y2:e.sem}(hw:yb ops a gd=some true)(ht:E.ti t=some ⟨z,zr,.slc (some e) sz bytes⟩)(hev:ev E 0 a x=some c)(hcs:cellsOf c=some vc)(hsz:Nat.beq vc.length sz=true)(hf:e.fold vc=some y)
 (hev':ev E 0 a x'=some c') (hcs':cellsOf c'=some vc') (hsz':Nat.beq vc'.length sz=true) (hf':e.fold vc'=some y') (hev2:ev E 0 a x2=some c2) (hcs2:cellsOf c2=some vc2) (hsz2:Nat.beq vc2.length sz=true) (hf2:e.fold vc2=some y2)
 (hb:Nat.ble (3*sz) 16777216=true) (hd:zw N d=true) (h2:AX E N k dr ops rest (a.put d (.slice .full (.t e [y,y',y2]))) σ (⟨[],.slice .full (.t e [y,y',y2]),0,[]⟩::acc) Q):
 AX E N k dr ops (⟨d,.buildSlice t 3 #[(0,x),(1,x'),(2,x2)],ty,ps,af,gd⟩::rest) a σ acc Q:=
 L.bs (pp:=[(0,x),(1,x'),(2,x2)]) (cs:=[c,c',c2]) (vcs:=[vc,vc',vc2]) 0 hw ht rfl rfl (by simp[evs,hev,hev',hev2]) (by simp[Zkh,hcs,hcs',hcs2]) (by grind) (by simp[Zmt,Zkh,hf,hf',hf2]) hb hd h2
end L
end
theorem EC.fold_of{e:EC}{y:e.sem}{vc:List V}(h:vc=e.view y):e.fold vc=some y:=by
 subst h;cases e with
 |ty=>cases y;rfl
 |tm=>rcases y with⟨_,_,⟨_,_⟩,_⟩;rfl
 |vl=>cases y;rfl
 |fm=>rcases y with⟨_,⟨_,_⟩,_,_⟩;rfl
 |pf=>rcases y with⟨_,_,⟨_,_⟩,_,_,_⟩;rfl
 |gl=>rcases y with⟨⟨_,_⟩,⟨_,⟨_,_⟩,_,_⟩⟩;rfl
 |st=>rfl
 |sz=>rcases y with⟨⟨_,_⟩,_⟩;rfl
 |tk=>rfl
 |int=>rfl
 |u8=>rfl
 |str=>rfl
 |tys=>rfl
 |tms=>rfl
 |bl=>rfl
 |rs=>rcases y with⟨_,_,_,⟨_,_,⟨_,_⟩,_⟩,_⟩;rfl
section
variable {E:Env} {N k:Nat} {a:AF} {σ:Sto} {Q:Exit->AF->Sto->Prop}
def Yl9(E:Env)(N k:Nat)(B:Nat)(v p q:Tmp)(m:Nat)(P:Nat->Prop)(J:Nat->AF×Sto)(Q:Exit->AF->Sto->Prop):Exit->AF->Sto->Prop
 | .normal,a,σ=>a.get v=some (.int .i64 ((m+1:Nat):Int))/\P m/\Weak E N k ((v,.int .i64 (m:Int))::(q,.int .i64 (m:Int))::(p,.int .i64 ((m+1:Nat):Int))::a) σ (J m).1 (J m).2
 | .exit id,a,σ=>bif Nat.beq id B then Q .normal a σ else Q (.exit id) a σ
 |e,a,σ=>Q e a σ
theorem AW.down{B C r1 r2:Nat}{c v p p2 q:Tmp}{T T' T2 T3:TypeId}{ty0 ty1 ty2 ty3 ty4:TypeId}{s0 s1 s2 s3 s4:String}{af0 af1 af2 af3 af4:Array Edge}{body:Code}(len:Nat)(P:Nat->Prop)(J:Nat->AF×Sto)(hlen:len<4611686018427387904)
 (hv:∀m,(J m).1.get v=some (.int .i64 m)) (hd:(zw N (some c)&&zw N (some p)&&zw N (some p2)&&zw N (some q)&&zw N (some v)&&(!Nat.beq q p2)&&(!Nat.beq p2 v))=true) (hP:P len) (h0:Weak E N k a σ (J len).1 (J len).2)
 (hb:∀m,m<len->P (m+1)->AW E N k body ((c,.bool true)::(p,.int .i64 ((m+1:Nat):Int))::(J (m+1)).1) (J (m+1)).2 (vy C (Yl9 E N k B v p2 q m P J Q)))
 (he:P 0->Q .normal ((c,.bool false)::(p,.int .i64 ((0:Nat):Int))::(J 0).1) (J 0).2):
 AW E N k (.block B (.loop (.seq (.seq (.region r1 #[⟨some p,.move (.tmp v),ty0,s0,af0,none⟩,⟨some c,.binOp .gtr T (.tmp p) (.const (.int .i64 0)) T',ty1,s1,af1,none⟩] false)
  (.cond (.tmp c) .skip (.exit B))) (.seq (.block C body)
   (.region r2 #[⟨some p2,.move (.tmp v),ty2,s2,af2,none⟩,⟨some q,.binOp .sub T2 (.tmp p2) (.const (.int .i64 1)) T3,ty3,s3,af3,none⟩,⟨some v,.assign (.tmp q),ty4,s4,af4,none⟩] false))))) a σ Q:=by
 simp only[Bool.and_eq_true] at hd;obtain⟨⟨⟨⟨⟨⟨hd1,hd2⟩,hd3⟩,hd4⟩,hd5⟩,hd6⟩,hd7⟩:=hd;refine .block (.loop (ι:={m:Nat // m<=len/\P m}) (fun m=>J m.1) (fun m=>m.1) ⟨len,Nat.le_refl _,hP⟩ h0 fun⟨m,hm,hPm⟩=> ?_);refine .seq (.seq (.regL (L.mv rfl (hv m) hd2 (L.bn rfl (show ev E T _ (.tmp p)=some (.int .i64 (m:Int)) by simp[ev,AF.put,AF.get]) (show ev E T _ (.const (.int .i64 0))=some (.int .i64 0) from rfl) rfl hd1 (.nilL ?_)))));show AW E N k _ ((c,.bool (decide ((m:Int)>0)))::(p,.int .i64 (m:Int))::(J m).1) (J m).2 _;cases m with
 |succ m=>
  have hdec:decide (((m+1:Nat):Int)>0)=true:=by simp
  rw[hdec];refine .condT (by simp[ev,AF.get]) (.skip ?_);show AW E N k _ _ _ _;refine .seq (.block ((hb m (by omega) hPm).mono ?_));rintro e a1 σ1 hq;have hnorm:Yl9 E N k B v p2 q m P J Q .normal a1 σ1->Zm2 E N k (.region r2 #[⟨some p2,.move (.tmp v),ty2,s2,af2,none⟩,⟨some q,.binOp .sub T2 (.tmp p2) (.const (.int .i64 1)) T3,ty3,s3,af3,none⟩,⟨some v,.assign (.tmp q),ty4,s4,af4,none⟩] false)
   (Zxk E N k (fun m:{m:Nat // m<=len/\P m}=>J m.1) (fun m=>m.1) ⟨m+1,hm,hPm⟩ (vy B Q)) .normal a1 σ1:=by
   rintro⟨h1,h2,h3⟩;show AW E N k _ _ _ _;refine .regL (L.mv rfl h1 hd3 (L.sb rfl (show ev E T2 _ (.tmp p2)=some (.int .i64 ((m+1:Nat):Int)) by simp[ev,AF.put,AF.get]) (show ev E T2 _ (.const (.int .i64 1))=some (.int .i64 1) from rfl) hd4 (by omega)
    (L.asg rfl (show ev E ty4 _ (.tmp q)=some (.int .i64 (((m+1:Nat):Int)-1)) by simp[ev,AF.put,AF.get]) hd5 (.nilL ?_))))
   rw[show(((m+1:Nat):Int)-1)=(m:Int) from by omega];exact⟨⟨m,by omega,h2⟩,by simp,h3⟩
  cases e with
  |normal=>exact hnorm hq
  |exit id=>
   simp only[vy] at hq ⊢;cases hb:Nat.beq id C with
   |true=>grind
   |false=>rw[hb] at hq;exact hq
  |goto l=>exact hq
  |ret=>exact hq
  |panic ch=>exact hq
  |outgrown=>exact hq
 |zero=>
  have hdec:decide (((0:Nat):Int)>0)=false:=by simp
  rw[hdec];refine .condF (by simp[ev,AF.get]) (.exit ?_);show vy B Q (.exit B) _ _;simp only[vy,Nat.beq_refl,cond_true]
  grind
namespace K
theorem dR{B:Nat}{i d q:Tmp}{m:Nat}{P:Nat->Prop}{J:Nat->AF×Sto}(h:Q .ret a σ):Yl9 E N k B i d q m P J Q .ret a σ:=h
end K
end
section
variable {E:Env} {N k:Nat} {a:AF} {σ:Sto} {Q:Exit->AF->Sto->Prop}
def dwgQ(E:Env)(N k:Nat)(B:Nat)(v p q:Tmp)(m:Nat)(P:Nat->Prop)(J:Nat->AF×Sto)(Q:Exit->AF->Sto->Prop):Exit->AF->Sto->Prop
 | .normal,a,σ=>a.get v=some (.int .i64 (((m+1:Nat):Int)-1))/\P m/\Weak E N k ((v,.int .i64 ((m:Int)-1))::(q,.int .i64 ((m:Int)-1))::(p,.int .i64 (((m+1:Nat):Int)-1))::a) σ (J m).1 (J m).2
 | .exit id,a,σ=>bif Nat.beq id B then Q .normal a σ else Q (.exit id) a σ
 |e,a,σ=>Q e a σ
namespace K
theorem hR{B:Nat}{i d q:Tmp}{m:Nat}{P:Nat->Prop}{J:Nat->AF×Sto}(h:Q .ret a σ):dwgQ E N k B i d q m P J Q .ret a σ:=h
end K
variable {ops:List Oper} {dr:Bool} {rest:List Oper} {acc:List Rec} {d:Option Tmp} {ty:TypeId} {ps:String} {af:Array Edge} {gd:Option (Nat×Bool)}
namespace L
theorem sl{t:TypeId}{x:Operand}{ylo yhi:Option Operand}{lo hi:Nat}{z:Nat}{zr:List V}{c:EC}{co:Option EC}{sz bytes:Nat}{sp:Sp}{xs:List c.sem}(hw:yb ops a gd=some true)(hx:ev E t a x=some (.slice sp (.t c xs)))(ht:E.ti t=some ⟨z,zr,.slc co sz bytes⟩)
 (hlo:Yaz E a 0 ylo=some lo) (hhi:Yaz E a xs.length yhi=some hi) (hsz:Nat.beq c.cells sz=true) (hd:zw N d=true) (hb:lo<=hi/\hi<=xs.length)
 (h2:AX E N k dr ops rest (a.put d (.slice .any (.t c ((xs.drop lo).take (hi-lo))))) σ (⟨[],.slice .any (.t c ((xs.drop lo).take (hi-lo))),0,[]⟩::acc) Q):AX E N k dr ops (⟨d,.slice t x ylo yhi none,ty,ps,af,gd⟩::rest) a σ acc Q:=by
 have key:∀{a':AF} {d' n:Nat} {y:Option Operand},Yaz E a d' y=some n->(∀x,y=some x->ev E 0 a' x=ev E 0 a x)->Yaz E a' d' y=some n:=by
  intro a' d' n y h1 h2;cases y with
  |none=>exact h1
  |some x=>simp only[Yaz] at h1 ⊢;rw[h2 x rfl];exact h1
 refine AX.run 0 hw (OS.slice2 (l:= .t c xs) rfl ht rfl (fr (by simp[Op.operands,Call.operands]) hx) ?_ ?_ hb.1 hb.2 hsz) trivial hd h2
 ·exact key hlo fun y hy=>Zqe (by subst hy;simp[Op.operands])
 ·exact key hhi fun y hy=>Zqe (by subst hy;simp[Op.operands])
end L
end
theorem Zxp{E:Env}{t:TypeId}{i:TI}(h:E.ti t=some i)(hd:i.desc= .bool):E.P.underlying t=some .bool:=by
 obtain⟨d,h1,h2⟩:=Zc8 h
 grind
theorem Yks{E:Env}{t:TypeId}{i:TI}{kd:IntKind}(h:E.ti t=some i)(hd:i.desc= .int kd):E.P.underlying t=some (.int kd):=by
 obtain⟨d,h1,h2⟩:=Zc8 h
 grind
section
variable {E:Env} {N k:Nat} {o:Oper} {a:AF}
theorem OS.convert{s t:TypeId}{x:Operand}{is it:TI}{k1 k2:IntKind}{n:Int}(ho:o.op= .convert s t x)(hs:E.ti s=some is)(ht:E.ti t=some it)(hd:it.desc= .int k2)(hx:ev E s a x=some (.int k1 n)):
 OS E N o a [] (.int k2 (k2.wrap n)) [] []:=
 .pure fun g D es w act hR _ hF=>by
  have h1:=(z6 hx hR hF).int_inv;obtain⟨d,h2,_⟩:=Zc8 hs;have h3:=Yks ht hd;have h4:E.P.intKind t=k2:=by simp[Program.intKind,h3]
  have h5:=run_convert_int (P:=E.P) w s t k1 n (by grind) (by grind);rw[h4] at h5;exact⟨.int k2 (k2.wrap n),by simp[execOp,ho,h1,h5],.data (.int _ _)⟩
theorem OS.appendE{t:TypeId}{s x:Operand}{i:TI}{c:Option EC}{sz bytes:Nat}{sp':Sp}{l l':SL V}(ho:o.op= .call {callee:= .builtin .append,args:= #[s,x],argTypes:= #[t,t]})
 (ht:E.ti t=some i) (hd:i.desc= .slc c sz bytes) (hs:ev E t a s=some (.slice .full l)) (hx:ev E t a x=some (.slice sp' l')) (hm:l'.len=0) (hsz:Nat.beq l'.cells sz=true):OS E N o a [] (.slice .full l) [] []:=
 .pure fun g D es w act hR _ hF=>by
  obtain⟨e,inf,z,h1,h2,h3,h4,h5,h6,h7,h8⟩:=Zcf ht hd;have hvs:=z6 hs hR hF;have hdx:=(z6 hx hR hF).slice_inv;obtain⟨xb,xc,hxv⟩:=hdx.slice_inv;obtain⟨news,hnl,hn1,hnf,hnr,hnl2⟩:=hdx.cells_of;rw[hxv] at hnf;have hcs:l'.cells=sz:=Nat.eq_of_beq_eq_true hsz;have hnews:news=[]:=List.eq_nil_of_length_eq_zero (by grind);have hf:=hnf w rfl E.P;rw[hnews,hm,hcs,<-h3] at hf;have hrun:∀b m,(Builtin.append_ #[t,t] o.type #[.slice b m m,act.eval x]).run E.P w= .ok (.slice b m m) w:=fun b m=>by
   rw[hxv,hm];exact Zhs h1 h2 (Nat.le_refl _) hf
  refine⟨act.eval s,?_,hvs⟩;have key:∃b m,act.eval s= .slice b m m:=by
   generalize hv:act.eval s=v at hvs;cases hvs with
   |data h=>cases h
   |fullNil _ hl0=>simp
   |full a m _ hdr=>simp
  obtain⟨b,m,hb⟩:=key;simp[execOp,ho,resolve,invoke,builtin,hb,hrun]
end
section
variable {E:Env} {N k:Nat} {a:AF} {σ:Sto} {Q:Exit->AF->Sto->Prop} {ops:List Oper} {dr:Bool} {rest:List Oper} {acc:List Rec}
variable {d:Option Tmp} {ty:TypeId} {ps:String} {af:Array Edge} {gd:Option (Nat×Bool)}
namespace L
theorem be{t u:TypeId}{x y:Operand}{z:Nat}{zr:List V}{b c:Bool}(hw:yb ops a gd=some true)(hx:ev E t a x=some (.bool b))(hy:ev E t a y=some (.bool c))(ht:E.ti t=some ⟨z,zr,.bool⟩)(hd:zw N d=true)
 (h2:AX E N k dr ops rest (a.put d (.bool (b==c))) σ (⟨[],.bool (b==c),0,[]⟩::acc) Q):AX E N k dr ops (⟨d,.binOp .eql t x y u,ty,ps,af,gd⟩::rest) a σ acc Q:=
 AX.run 0 hw (OS.binBool rfl (.inl rfl) (Zxp ht rfl) (fr (by simp[Op.operands,Call.operands]) hx) (fr (by simp[Op.operands,Call.operands]) hy)) trivial hd h2
theorem bnq{t u:TypeId}{x y:Operand}{z:Nat}{zr:List V}{b c:Bool}(hw:yb ops a gd=some true)(hx:ev E t a x=some (.bool b))(hy:ev E t a y=some (.bool c))(ht:E.ti t=some ⟨z,zr,.bool⟩)(hd:zw N d=true)
 (h2:AX E N k dr ops rest (a.put d (.bool (!(b==c)))) σ (⟨[],.bool (!(b==c)),0,[]⟩::acc) Q):AX E N k dr ops (⟨d,.binOp .neq t x y u,ty,ps,af,gd⟩::rest) a σ acc Q:=
 AX.run 0 hw (OS.binBool rfl (.inr rfl) (Zxp ht rfl) (fr (by simp[Op.operands,Call.operands]) hx) (fr (by simp[Op.operands,Call.operands]) hy)) trivial hd h2
theorem cvt{s t:TypeId}{x:Operand}{is:TI}{z:Nat}{zr:List V}{k1 k2:IntKind}{n:Int}(hw:yb ops a gd=some true)(hx:ev E s a x=some (.int k1 n))(hs:E.ti s=some is)(ht:E.ti t=some ⟨z,zr,.int k2⟩)(hd:zw N d=true)
 (h2:AX E N k dr ops rest (a.put d (.int k2 (k2.wrap n))) σ (⟨[],.int k2 (k2.wrap n),0,[]⟩::acc) Q):AX E N k dr ops (⟨d,.convert s t x,ty,ps,af,gd⟩::rest) a σ acc Q:=
 AX.run 0 hw (OS.convert rfl hs ht rfl (fr (by simp[Op.operands,Call.operands]) hx)) trivial hd h2
theorem cvi{s t:TypeId}{x:Operand}{is:TI}{z:Nat}{zr:List V}{k1:IntKind}{n:Int}(hw:yb ops a gd=some true)(hx:ev E s a x=some (.int k1 n))(hs:E.ti s=some is)(ht:E.ti t=some ⟨z,zr,.int .i64⟩)(hd:zw N d=true)(hb: -9223372036854775808<=n/\n<=9223372036854775807)
 (h2:AX E N k dr ops rest (a.put d (.int .i64 n)) σ (⟨[],.int .i64 n,0,[]⟩::acc) Q):AX E N k dr ops (⟨d,.convert s t x,ty,ps,af,gd⟩::rest) a σ acc Q:=by
 refine L.cvt hw hx hs ht hd ?_;rw[IntWalk.i64_in _ (by omega)];exact h2
theorem apE{t:TypeId}{s x:Operand}{z:Nat}{zr:List V}{e:EC}{co:Option EC}{sz bytes:Nat}{sp':Sp}{l l':List e.sem}(hw:yb ops a gd=some true)(hs:ev E t a s=some (.slice .full (.t e l)))(hx:ev E t a x=some (.slice sp' (.t e l')))(ht:E.ti t=some ⟨z,zr,.slc co sz bytes⟩)
 (hm:l'=[]) (hsz:Nat.beq e.cells sz=true) (hd:zw N d=true)
 (h2:AX E N k dr ops rest (a.put d (.slice .full (.t e l))) σ (⟨[],.slice .full (.t e l),0,[]⟩::acc) Q):
 AX E N k dr ops (⟨d,.call ⟨.builtin .append,#[s,x],#[t,t]⟩,ty,ps,af,gd⟩::rest) a σ acc Q:=
 AX.run 0 hw (OS.appendE rfl ht rfl (fr (by simp[Op.operands,Call.operands]) hs) (fr (by simp[Op.operands,Call.operands]) hx) (by simp[SL.len,hm]) hsz) trivial hd h2
end L
end
theorem Zat(c:EC)(xs:List c.sem):(xs.flatMap c.view).length=xs.length*c.cells:=by
 induction xs with
 |nil=>simp
 |cons x xs ih=>rw[List.flatMap_cons,List.length_append,ih,EC.view_len,List.length_cons,Nat.add_mul];omega
theorem Zd3(c:EC):∀(xs:List c.sem) (i j:Nat),j<c.cells->(xs.flatMap c.view)[i*c.cells+j]? =(xs[i]?).bind fun x=>(c.view x)[j]?
 |[],i,j,hj=>by simp
 |x::xs,0,j,hj=>by
  rw[List.flatMap_cons,Nat.zero_mul,Nat.zero_add,List.getElem?_append_left (by rw[EC.view_len];exact hj)]
  rfl
 |x::xs,i+1,j,hj=>by
  have h1:(i+1)*c.cells+j=(c.view x).length+(i*c.cells+j):=by rw[EC.view_len,Nat.add_mul];omega
  rw[List.flatMap_cons,h1,List.getElem?_append_right (by omega),Nat.add_sub_cancel_left,Zd3 c xs i j hj]
  rfl
theorem Zpt(c:EC):∀(xs:List c.sem) (i:Nat) (y:c.sem),i<xs.length->(xs.flatMap c.view).take (i*c.cells)++c.view y++(xs.flatMap c.view).drop (i*c.cells+c.cells)=(xs.set i y).flatMap c.view
 |[],i,y,hi=>by grind
 |x::xs,0,y,_=>by
  rw[List.flatMap_cons,List.set_cons_zero,List.flatMap_cons,Nat.zero_mul,Nat.zero_add,List.take_zero,List.nil_append];congr 1;have:=EC.view_len c x
  grind
 |x::xs,i+1,y,hi=>by
  have h0:=EC.view_len c x;have h1:(i+1)*c.cells=(c.view x).length+i*c.cells:=by grind
  have h2:(i+1)*c.cells+c.cells=(c.view x).length+(i*c.cells+c.cells):=by omega
  rw[List.flatMap_cons,List.set_cons_succ,List.flatMap_cons,h2,h1,List.drop_append,List.take_append];rw[List.take_of_length_le (by omega),List.drop_of_length_le (by omega),Nat.add_sub_cancel_left,Nat.add_sub_cancel_left,List.nil_append,List.append_assoc,List.append_assoc];rw[<-Zpt c xs i y (by grind),List.append_assoc]
theorem Zf8{z:Array Value}(h:∀v∈z.toList,v.oneCell'=true)(n:Nat):∀v∈(Builtin.zeroCells z n).toList,v.oneCell'=true:=by
 intro v hv;simp only[Builtin.zeroCells,Array.toList_map,List.mem_map] at hv;obtain⟨i,hi,rfl⟩:=hv;have hi':i<n*z.size:=by grind
 have hpos:0<z.size:=by
  grind
 have hlt:i%z.size<z.size:=Nat.mod_lt _ hpos
 grind
section
variable {E:Env} {N k:Nat} {o:Oper} {a:AF}
theorem Zrk(D:Nat->Prop)(g:Gh)(n:Nat)(w:World){b len cap sz:Nat}(h:len<=cap):VRel (g.nameR n b (some ⟨b,0,cap,sz,0⟩)) (fun i=>D i\/i∈[n]) w (.slice (some ⟨b,0,none⟩) len cap) (.arr n len sz):=by
 have h:=VRel.arr (g:=g.nameR n b (some ⟨b,0,cap,sz,0⟩)) (D:=fun i=>D i\/i∈[n]) (w:=w) n len sz cap (Or.inr (List.mem_singleton.2 rfl)) h (by simp[Gh.nameR]);have hb:(g.nameR n b (some ⟨b,0,cap,sz,0⟩)).blk n=b:=by simp[Gh.nameR]
 grind
theorem OS.appendA{t te:TypeId}{s x:Operand}{i ie:TI}{co:Option EC}{c:EC}{sz bytes n:Nat}{sp':Sp}{l0:SL V}{l:List c.sem}(ho:o.op= .call {callee:= .builtin .append,args:= #[s,x],argTypes:= #[t,t]})
 (ht:E.ti t=some i) (hd:i.desc= .slc co sz bytes) (hte:E.P.underlying t=some (.slice te)) (hti:E.ti te=some ie) (hs:ev E t a s=some (.slice .nil l0)) (hx:ev E t a x=some (.slice sp' (.t c l))) (hpos:0<l.length)
 (hsz:Nat.beq c.cells sz=true) (hb:l.length*bytes<=140737488355328) (hb2:l.length<=9223372036854775807):OS E N o a [] (.arr n l.length sz) [n] [(n,.var (l.flatMap c.view))]:=
 .of_run fun g D es w act hR hp hn hF=>by
  obtain⟨e,inf,z,h1,h2,h3,h4,h5,h6,h7,h8⟩:=Zcf ht hd;obtain rfl:e=te:=by grind
  have hcs:c.cells=sz:=Nat.eq_of_beq_eq_true hsz;have hn':¬D n:=hn n (by simp);have hvs:=z6 hs hR hF;have hdx:=(z6 hx hR hF).slice_inv;obtain⟨xb,xc,hxv⟩:=hdx.slice_inv;obtain⟨news,hnl,hn1,hnf,hnr,hnl2⟩:=hdx.cells_of;rw[hxv] at hnf;have hsv:act.eval s= .slice none 0 0:=by
   generalize hv:act.eval s=v at hvs;cases hvs with
   |data h=>cases h
   |nilS _ h=>rfl
  have hsz':c.cells=inf.size:=by omega
  have hrun:=Zbs (P:=E.P) (w:=w) (ty:=o.type) h1 h2 h5 (base:=none) (sLen:=0) (sCap:=0) (xb:=xb) (n:=l.length) (xc:=xc) (olds:=[]) (news:=news) (fun W _=>by rfl)
   (fun W hW=>by rw[<-hsz'];exact hnf W hW E.P) (by omega) (by grind) (by omega)
  have hge:=grownCap_ge w (0+l.length) 0 e;obtain⟨inf2,hi1,hi2,z2,hi3,hi4⟩:=Zce hti;have hz1:∀v∈z.cells.toList,v.oneCell'=true:=by
   rw[h2] at hi1;cases hi1;rw[h5] at hi3;cases hi3;exact(Zae hi4).2.1
  obtain⟨hR',hx'⟩:=hR.drew.boxR hn' (some ⟨w.heap.size,0,grownCap w (0+l.length) 0 e,sz,0⟩) (vs:=[]++news++(Builtin.zeroCells z.cells (grownCap w (0+l.length) 0 e-(0+l.length))).toList) (cs:=l.flatMap c.view) e
   (by
    rw[Zat,List.nil_append,List.length_append,hnl];show l.length*c.cells<=_;simp only[SL.len,SL.cells];omega)
   (fun v hv=>by
    rw[List.nil_append] at hv;rcases List.mem_append.1 hv with hv|hv
    ·grind
    ·exact Zf8 hz1 _ v hv)
   (fun q v d hv hd=>by
    have hc0:0<c.cells:=by omega
    have hq:=(List.getElem?_eq_some_iff.1 hd).1;rw[Zat] at hq;have hqi:q/c.cells<l.length:=(Nat.div_lt_iff_lt_mul hc0).2 hq;have hqj:q%c.cells<c.cells:=Nat.mod_lt _ hc0;have hqe:q/c.cells*c.cells+q%c.cells=q:=by rw[Nat.mul_comm];exact Nat.div_add_mod q c.cells
    have hd':=hd;rw[<-hqe,Zd3 c l _ _ hqj,List.getElem?_eq_getElem hqi] at hd';have hd2:(c.view l[q/c.cells])[q%c.cells]? =some d:=hd';obtain⟨u,hu,hdr⟩:=hnr (q/c.cells) (q%c.cells) (c.view l[q/c.cells]) d (by show(l[q/c.cells]?).map c.view=_;grind) hd2 hqi hqj;have hu':news[q]? =some u:=by rw[<-hqe];exact hu
    have hqn:=(List.getElem?_eq_some_iff.1 hu').1;rw[List.nil_append,List.getElem?_append_left hqn,hu'] at hv;cases hv;exact .data (hdr.mono (fun _=>Nat.le_refl _) (fun _ _ _=>rfl)))
   (fun r hr=>by
    cases hr;simp only[List.length_append,List.nil_append,Array.length_toList,size_zeroCells,hnl,h6];show l.length*c.cells+(grownCap w (0+l.length) 0 e-(0+l.length))*sz=grownCap w (0+l.length) 0 e*sz;rw[hcs,<-Nat.add_mul]
    grind)
  refine⟨_,.slice (some ⟨w.heap.size,0,none⟩) (0+l.length) (grownCap w (0+l.length) 0 e),_,?_,hR'.more (fun i hi=>by grind),?_,Ext.drew.trans hx'⟩
  ·have hxv':act.eval x= .slice xb l.length xc:=hxv;simp only[List.nil_append] at hrun;simp[execOp,ho,resolve,invoke,builtin,hsv,hxv',hrun]
  ·have h9:=Zrk D g n (w.drew.alloc (.cells ([]++news++(Builtin.zeroCells z.cells (grownCap w (0+l.length) 0 e-(0+l.length))).toList).toArray e)) (b:=w.drew.heap.size) (len:=l.length) (cap:=grownCap w (0+l.length) 0 e) (sz:=sz) (by omega);simp_all
theorem OS.indexR{t:TypeId}{x y:Operand}{i:TI}{co:Option EC}{sz bytes p len:Nat}{n:Int}{kk:Nat}{kd:IntKind}(ho:o.op= .indexAddr t x y)(ht:E.ti t=some i)(hd:i.desc= .slc co sz bytes)
 (hx:ev E t a x=some (.arr p len sz)) (hy:ev E 0 a y=some (.int kd n)) (hn:n=kk) (hlt:kk<len):OS E N o a [] (.ptr p (kk*sz)) [] []:=
 .pure fun g D es w act hR _ hF=>by
  obtain⟨e,inf,z,h1,h2,h3,h4,h5,h6,h7,h8⟩:=Zcf ht hd;have h8':=z6 hx hR hF;have hi:=(z6 hy hR hF).int_inv;generalize hxv:act.eval x=v at h8';cases h8' with
  |data h=>cases h
  |arr _ _ _ cap hD hcap _=>
   refine⟨.pointer (some ⟨g.blk p,0+kk*sz,none⟩),?_,by rw[Nat.zero_add];exact .ptr p _ hD⟩;have h11:0<=n/\n<(len:Int):=by omega
   have h12:n.toNat=kk:=by omega
   have hpi:=run_indexAt_slice (P:=E.P) w t ⟨g.blk p,0,none⟩ len cap kd n (by simp[Program.elem,h1]);rw[if_pos h11,show E.P.elem t=e by simp[Program.elem,h1],x8 h2] at hpi;simp only[Result.andThen_ok,h12,h3,Zv0] at hpi;simp[execOp,ho,hxv,hi,hpi]
end
mutual
def V.frz(n:Nat)(s:V):V->V
 | .arr m k z=>bif Nat.beq m n then s else .arr m k z
 | .agg cs=> .agg (V.frzs n s cs)
 | .tup cs=> .tup (V.frzs n s cs)
 | .fn f fi caps=> .fn f (V.frzs n s fi) (V.frzs n s caps)
 |v=>v
def V.frzs(n:Nat)(s:V):List V->List V
 |[]=>[]
 |c::cs=>V.frz n s c::V.frzs n s cs
end
mutual
def V.arrOk(n len:Nat):V->Prop
 | .arr m k _=>m=n->k=len
 | .agg cs=>V.arrOks n len cs
 | .tup cs=>V.arrOks n len cs
 | .fn _ fi caps=>V.arrOks n len fi/\V.arrOks n len caps
 |_=>True
def V.arrOks(n len:Nat):List V->Prop
 |[]=>True
 |c::cs=>V.arrOk n len c/\V.arrOks n len cs
end
theorem V.frzs_map(n:Nat)(s:V):∀cs,V.frzs n s cs=cs.map (V.frz n s)
 |[]=>rfl
 |c::cs=>by rw[V.frzs,V.frzs_map n s cs];rfl
theorem V.arrOks_at{n len:Nat}:∀{cs:List V},V.arrOks n len cs->∀(i:Nat) c,cs[i]? =some c->V.arrOk n len c
 |[],_,i,c,h=>by grind
 |x::l,hh,i,c,h=>by
  cases i with
  |zero=>simp at h;subst h;exact hh.1
  |succ i=>exact V.arrOks_at hh.2 i c (by grind)
theorem Zui(n len:Nat)(c:EC)(x:c.sem):V.arrOk n len (Zgm c x):=by cases c<;>simp[Zgm,EC.view,V.arrOk,V.arrOks,Ty.view,Tm.view,Vl.view,Fm.view,Pf.view,Gl.view,St.view,Sz.view,Tk.view,Rsl.view]
theorem Ydy(n:Nat)(s:V)(c:EC)(x:c.sem):V.frz n s (Zgm c x)=Zgm c x:=by cases c<;>rfl
def Ent.frz(n:Nat)(s:V):Ent->Ent
 | .var cs=> .var (V.frzs n s cs)
 |e=>e
def Ent.arrOk(n len:Nat):Ent->Prop
 | .var cs=>V.arrOks n len cs
 |_=>True
def Es.frz(n:Nat)(s:V):Es->Es
 |[]=>[]
 |p::l=>(p.1,Ent.frz n s p.2)::Es.frz n s l
def Es.arrOk(n len:Nat):Es->Prop
 |[]=>True
 |p::l=>(p.1≠n->Ent.arrOk n len p.2)/\Es.arrOk n len l
def AF.frz(n:Nat)(s:V):AF->AF
 |[]=>[]
 |p::l=>(p.1,V.frz n s p.2)::AF.frz n s l
def AF.arrOk(n len:Nat):AF->Prop
 |[]=>True
 |p::l=>V.arrOk n len p.2/\AF.arrOk n len l
theorem AF.arrOk_get{n len:Nat}:∀{a:AF},AF.arrOk n len a->∀t c,a.get t=some c->V.arrOk n len c
 |[],_,t,c,h=>by cases h
 |p::l,hh,t,c,h=>by
  obtain⟨m,d⟩:=p;rw[AF.get_cons] at h;by_cases hm:m=t
  ·rw[if_pos hm] at h;cases h;exact hh.1
  ·rw[if_neg hm] at h;exact AF.arrOk_get hh.2 t c h
theorem Es.arrOk_find{n len:Nat}:∀{es:Es},Es.arrOk n len es->∀t e,t≠n->zm es t=some e->Ent.arrOk n len e
 |[],_,t,c,_,h=>by cases h
 |p::l,hh,t,c,hn,h=>by
  obtain⟨m,d⟩:=p;rw[zq] at h;by_cases hm:m=t
  ·rw[if_pos hm] at h;cases h;exact hh.1 (by omega)
  ·rw[if_neg hm] at h;exact Es.arrOk_find hh.2 t c hn h
theorem AF.frz_get(n:Nat)(s:V):∀(a:AF) (t:Nat),(AF.frz n s a).get t=(a.get t).map (V.frz n s)
 |[],t=>rfl
 |p::l,t=>by
  obtain⟨m,c⟩:=p;simp only[AF.frz,AF.get_cons];by_cases h:m=t
  ·simp[h]
  ·simp only[h,if_false];exact AF.frz_get n s l t
theorem Es.frz_find(n:Nat)(s:V):∀(es:Es) (t:Nat),zm (Es.frz n s es) t=(zm es t).map (Ent.frz n s)
 |[],t=>rfl
 |p::l,t=>by
  obtain⟨m,c⟩:=p;simp only[Es.frz,zq];by_cases h:m=t
  ·simp[h]
  ·simp only[h,if_false];exact Es.frz_find n s l t
theorem VRel.frz{g g':Gh}{D:Nat->Prop}{w:World}{n:Nat}{l:SL V}(hm:∀b,g.m b<=g'.m b)(hb:g'.blk=g.blk)(hr:g'.row=g.row)
 (hd:∀cap,l.len<=cap->DRel g'.m w (.slice (some ⟨g.blk n,0,none⟩) l.len cap) (.slice .any l)) {v:Value} {c:V} (h:VRel g D w v c):V.arrOk n l.len c->VRel g' D w v (V.frz n (.slice .any l) c):=by
 have self:∀{v c},VRel g D w v c->VRel g' D w v c:=fun {v c} h=>h.mono hm (fun _ _ _=>rfl) (fun _ h=>h) (fun _ _=>by rw[hb]) (fun _ _=>by rw[hr]);induction h with
 |data h=>
  have h0:=h;intro _;cases h<;>exact self (.data h0)
 |agg vs cs hl h1 _ ih=>
  intro hok;simp only[V.frz,V.frzs_map];refine .agg vs _ (by grind) h1 fun i v c hv hc=> ?_;rw[List.getElem?_map,Option.map_eq_some_iff] at hc;obtain⟨c0,hc0,rfl⟩:=hc;exact ih i v c0 hv hc0 (V.arrOks_at hok i c0 hc0)
 |tup vs cs hl _ ih=>
  intro hok;simp only[V.frz,V.frzs_map];refine .tup vs _ (by grind) fun i v c hv hc=> ?_;rw[List.getElem?_map,Option.map_eq_some_iff] at hc;obtain⟨c0,hc0,rfl⟩:=hc;exact ih i v c0 hv hc0 (V.arrOks_at hok i c0 hc0)
 |nil=>exact fun _=> .nil
 |fullNil l h=>exact fun _=> .fullNil l h
 |nilS l h=>exact fun _=> .nilS l h
 |full a n l h=>exact fun _=>self (.full a n l h)
 |own r hr' v l h hd=>exact fun _=>self (.own r hr' v l h hd)
 |addr b off cs f h1 hc h2=>exact fun _=>self (.addr b off cs f h1 hc h2)
 |ptr n off h=>exact fun _=>self (.ptr n off h)
 |arr m k z cap h hcap hrw=>
  intro hok;simp only[V.frz];by_cases he:m=n
  ·subst he;obtain rfl:k=l.len:=hok rfl;simp only[Nat.beq_refl,cond_true];exact .data (hd cap hcap)
  ·rw[Zru he];exact self (.arr m k z cap h hcap hrw)
 |mp m h=>exact fun _=>self (.mp m h)
 |nilp=>exact fun _=> .nilp
 |fn f fi caps fi' caps' hl hl' _ _ ih ih'=>
  intro hok;simp only[V.frz,V.frzs_map];refine .fn f fi caps _ _ (by grind) (by grind) (fun i v c hv hc=> ?_) (fun i v c hv hc=> ?_)
  ·rw[List.getElem?_map,Option.map_eq_some_iff] at hc;obtain⟨c0,hc0,rfl⟩:=hc;exact ih i v c0 hv hc0 (V.arrOks_at hok.1 i c0 hc0)
  ·rw[List.getElem?_map,Option.map_eq_some_iff] at hc;obtain⟨c0,hc0,rfl⟩:=hc;exact ih' i v c0 hv hc0 (V.arrOks_at hok.2 i c0 hc0)
 |nilf=>exact fun _=> .nilf
 |raw v=>exact fun _=> .raw v
section
variable {E:Env} {N k:Nat} {a:AF} {σ:Sto}
def V.isD:V->Bool
 | .int _ _=>true
 | .bool _=>true
 | .str _=>true
 | .slice .any _=>true
 |_=>false
theorem VRel.isD{g:Gh}{D:Nat->Prop}{w:World}{v:Value}{c:V}(h:VRel g D w v c)(hc:V.isD c=true):DRel g.m w v c:=by
 cases h with
 |data h=>exact h
 |_=>simp[V.isD] at hc
theorem Zm8(c:EC)(x:c.sem):(c.view x).all V.isD=true:=by cases c<;>rfl
theorem Weak.frz(n len:Nat){c:EC}(l:List c.sem)(hn:zm σ.es n=some (.var (l.flatMap c.view)))(hlen:l.length=len)(hoa:AF.arrOk n len a)(hoe:Es.arrOk n len σ.es):
 Weak E N k a σ (AF.frz n (.s c l) a) ⟨σ.nx,(n,.gone)::Es.frz n (.s c l) σ.es⟩:=by
 subst hlen;intro hk;refine⟨hk,fun g w act hR hF=> ?_⟩;obtain⟨h1,vs,t,h2,h3,h4,h5,_⟩:=hR.ents n _ hn;rw[Zat] at h3
 let g':Gh:={g with m:=fun b=>if b=g.blk n then l.length*c.cells else g.m b}
 have hlt:g.blk n<w.heap.size:=by
  grind
 have hm:∀b,g.m b<=g'.m b:=fun b=>by
  grind
 have hm':∀b,b≠g.blk n->g'.m b=g.m b:=fun b hb=>if_neg hb;have hd:∀cap,(SL.t c l:SL V).len<=cap->DRel g'.m w (.slice (some ⟨g.blk n,0,none⟩) (SL.t c l:SL V).len cap) (.slice .any (.t c l)):=fun cap hcap=>by
  refine DRel.of_row (m:=g.m) (w:=w) h2 hcap (by show _<=if g.blk n=g.blk n then _ else _;rw[if_pos rfl];exact Nat.le_refl _) ?_ ?_ hm (fun _ _ _=>rfl)
  ·intro i hi;exact⟨c.view (l[i]'hi),by show(l[i]?).map c.view=_;rw[List.getElem?_eq_getElem (show i<l.length from hi)];rfl,EC.view_len _ _⟩
  ·intro i j cs d hg hcs hi hj;have hi':i<l.length:=hi;have hg':cs=c.view l[i]:=by
    have:(l[i]?).map c.view=some cs:=hg
    grind
   subst hg';have hj':j<c.cells:=hj;have h6:(l.flatMap c.view)[i*c.cells+j]? =some d:=by rw[Zd3 c l i j hj',List.getElem?_eq_getElem hi'];grind
   have h7:i*c.cells+j<vs.length:=by have:=Zio hi' hj';omega
   refine⟨vs[i*c.cells+j],List.getElem?_eq_getElem h7,?_⟩;refine(h5 _ _ d (List.getElem?_eq_getElem h7) h6).isD ?_;exact List.all_eq_true.1 (Zm8 c l[i]) d (List.mem_of_getElem? hcs)
 have hv:∀{v d},VRel g (·<σ.nx) w v d->V.arrOk n l.length d->VRel g' (·<σ.nx) w v (V.frz n (.s c l) d):=fun h hok=>VRel.frz (g':=g') (l:= .t c l) hm rfl rfl hd h hok;have hfind:∀i e,zm ((n,Ent.gone)::Es.frz n (.s c l) σ.es) i=some e->(i=n/\e= .gone)\/(i≠n/\∃e0,zm σ.es i=some e0/\e=Ent.frz n (.s c l) e0):=fun i e he=>by
  rw[zq] at he;by_cases hi:n=i
  ·grind
  ·rw[if_neg hi,Es.frz_find,Option.map_eq_some_iff] at he
   grind
 have hfoot:∀i e b,zm ((n,Ent.gone)::Es.frz n (.s c l) σ.es) i=some e->e.foot g' i=some b->∃e0,zm σ.es i=some e0/\e0.foot g i=some b/\i≠n:=fun i e b he hb=>by
  rcases hfind i e he with⟨rfl,rfl⟩|⟨hi,e0,h6,rfl⟩
  ·cases hb
  ·refine ⟨e0,h6,?_,hi⟩;cases e0<;>exact hb
 refine⟨g',⟨?_,?_,?_,?_,?_⟩,⟨hF.size,hF.defers,?_⟩,?_⟩
 ·intro i e he;rcases hfind i e he with⟨rfl,_⟩|⟨_,e0,h6,_⟩
  ·exact hR.lt _ _ hn
  ·exact hR.lt _ _ h6
 ·intro i i' e e' b h6 h7 h8 h9;obtain⟨e0,h10,h11,_⟩:=hfoot i e b h6 h8;obtain⟨e1,h12,h13,_⟩:=hfoot i' e' b h7 h9;exact hR.foots i i' e0 e1 b h10 h12 h11 h13
 ·intro i e he;rcases hfind i e he with⟨rfl,rfl⟩|⟨hi,e0,h6,rfl⟩
  ·trivial
  ·have hent:=hR.ents i e0 h6;have hok:=Es.arrOk_find hoe i e0 hi h6;cases e0 with
   |var cs=>
    obtain⟨q1,us,t',q2,q3,q4,q5,q6⟩:=hent;have hne:g.blk i≠g.blk n:=fun hh=>hi (hR.foots i n _ _ (g.blk n) h6 hn (by simp[Ent.foot,hh]) rfl);refine⟨by grind,us,t',q2,by simp only[V.frzs_map,List.length_map];exact q3,q4,fun j v d hj hd'=> ?_,q6⟩;rw[V.frzs_map,List.getElem?_map,Option.map_eq_some_iff] at hd';obtain⟨d0,hd0,rfl⟩:=hd';exact hv (q5 j v d0 hj hd0) (V.arrOks_at hok j d0 hd0)
   |map c ks xs=>
    obtain⟨q1,us,t',q2,q3,q4,q4',q5⟩:=hent;have hne:g.blk i≠g.blk n:=fun hh=>hi (hR.foots i n _ _ (g.blk n) h6 hn (by grind) rfl);refine⟨by grind,us,t',q2,q3,q4,q4',fun j v d hj hd'=> ?_⟩;have h8:=hv (q5 j v d hj hd') (Zui n _ c d)
    rwa [Ydy] at h8
   |row=>
    intro ρ hρ;obtain⟨cur,t',q1,q2,q3,q4⟩:=hent ρ hρ;have hne:ρ.b≠g.blk n:=fun hh=>hi (hR.foots i n _ _ (g.blk n) h6 hn (by show(g.row i).map RowG.b=_;grind) rfl)
    grind
   |gone=>trivial
 ·intro b hb;rw[hm' b (by omega)];exact hR.fresh b hb
 ·intro p hp;obtain⟨q1,q2⟩:=hR.glob p hp;refine⟨Nat.le_trans q1 (hm _),fun j d hj=> ?_⟩;obtain⟨v,q3,q4⟩:=q2 j d hj;exact⟨v,q3,q4.mono hm (fun _ _ _=>rfl)⟩
 ·intro t' d ht';rw[AF.frz_get,Option.map_eq_some_iff] at ht';obtain⟨d0,hd0,rfl⟩:=ht';obtain⟨v,q1,q2⟩:=hF.vals t' d0 hd0;exact⟨v,q1,hv q2 (AF.arrOk_get hoa t' d0 hd0)⟩
 ·refine ⟨rfl,rfl,rfl,Nat.le_refl _,fun _ _ _=>rfl,hm,fun _ _=>rfl,fun _ _=>rfl,fun b hb hnf=>⟨rfl,hm' b fun hh=>hnf ⟨n,_,hn,by simp[Ent.foot,hh]⟩⟩,fun b hb=> .inl ?_⟩;obtain⟨i,e,q1,q2⟩:=hb;obtain⟨e0,q3,q4,_⟩:=hfoot i e b q1 q2;exact⟨i,e0,q3,q4⟩
theorem AW.frz{Q:Exit->AF->Sto->Prop}{code:Code}(n len:Nat){c:EC}(l:List c.sem)(hn:zm σ.es n=some (.var (l.flatMap c.view)))(hlen:l.length=len)(hoa:AF.arrOk n len a)(hoe:Es.arrOk n len σ.es)
 (h:AW E N k code (AF.frz n (.s c l) a) ⟨σ.nx,(n,.gone)::Es.frz n (.s c l) σ.es⟩ Q):AW E N k code a σ Q:=AW.weak (Weak.frz n len l hn hlen hoa hoe) h
variable {Q:Exit->AF->Sto->Prop} {ops:List Oper} {dr:Bool} {rest:List Oper} {acc:List Rec}
variable {d:Option Tmp} {ty:TypeId} {ps:String} {af:Array Edge} {gd:Option (Nat×Bool)}
namespace L
theorem apA{t te:TypeId}{s x:Operand}{z:Nat}{zr:List V}{ie:TI}{e:EC}{co:Option EC}{sz bytes:Nat}{sp':Sp}{l0:SL V}{l:List e.sem}(hw:yb ops a gd=some true)(hs:ev E t a s=some (.slice .nil l0))(hx:ev E t a x=some (.slice sp' (.t e l)))(ht:E.ti t=some ⟨z,zr,.slc co sz bytes⟩)
 (hte:E.P.underlying t=some (.slice te)) (hti:E.ti te=some ie) (hsz:Nat.beq e.cells sz=true) (hd:zw N d=true) (hby:Nat.ble bytes 128=true) (hpos:0<l.length) (hb:l.length<=1099511627776)
 (h2:AX E N k dr ops rest (a.put d (.arr σ.nx l.length sz)) (σ.upd 1 [(σ.nx,.var (l.flatMap e.view))]) (⟨[],.arr σ.nx l.length sz,1,[(σ.nx,.var (l.flatMap e.view))]⟩::acc) Q):
 AX E N k dr ops (⟨d,.call ⟨.builtin .append,#[s,x],#[t,t]⟩,ty,ps,af,gd⟩::rest) a σ acc Q:=
 AX.run 1 hw (OS.appendA rfl ht rfl hte hti (fr (by simp[Op.operands,Call.operands]) hs) (fr (by simp[Op.operands,Call.operands]) hx) hpos hsz
  (by
   have h3:bytes<=128:=Nat.le_of_ble_eq_true hby;have h4:l.length*bytes<=1099511627776*128:=Nat.mul_le_mul hb h3;omega) (by omega)) trivial hd h2
theorem ixr{t:TypeId}{x y:Operand}{z:Nat}{zr:List V}{co:Option EC}{sz bytes p len:Nat}{n:Int}(kk:Nat){kd:IntKind}(hw:yb ops a gd=some true)(hx:ev E t a x=some (.arr p len sz))(ht:E.ti t=some ⟨z,zr,.slc co sz bytes⟩)
 (hy:ev E 0 a y=some (.int kd n)) (hn:n=kk) (hlt:kk<len) (hd:zw N d=true) (h2:AX E N k dr ops rest (a.put d (.ptr p (kk*sz))) σ (⟨[],.ptr p (kk*sz),0,[]⟩::acc) Q):AX E N k dr ops (⟨d,.indexAddr t x y,ty,ps,af,gd⟩::rest) a σ acc Q:=
 AX.run 0 hw (OS.indexR rfl ht rfl (fr (by simp[Op.operands,Call.operands]) hx) (fr (by simp[Op.operands,Call.operands]) hy) hn hlt) trivial hd h2
theorem sta{t:TypeId}{x y:Operand}{i:TI}{n off:Nat}(kk:Nat){c:EC}{l:List c.sem}{u:c.sem}{v:V}(hw:yb ops a gd=some true)(hx:ev E 0 a x=some (.ptr n off))(ht:E.ti t=some i)(hy:ev E t a y=some v)
 (hn:zm σ.es n=some (.var (l.flatMap c.view))) (hc:cellsOf v=some (c.view u)) (hs:Nat.beq c.cells i.size=true) (hoff:off=kk*c.cells) (hlt:kk<l.length) (hd:zw N d=true)
 (h2:AX E N k dr ops rest (a.put d (.tup [])) (σ.upd 0 [(n,.var ((l.set kk u).flatMap c.view))]) (⟨[(n,.var (l.flatMap c.view))],.tup [],0,[(n,.var ((l.set kk u).flatMap c.view))]⟩::acc) Q):AX E N k dr ops (⟨d,.store t x y,ty,ps,af,gd⟩::rest) a σ acc Q:=by
 have e:(l.set kk u).flatMap c.view=(l.flatMap c.view).take off++c.view u++(l.flatMap c.view).drop (off+(c.view u).length):=by
  rw[EC.view_len,hoff];exact(Zpt c l kk u hlt).symm
 rw[e] at h2;refine L.st hw hx ht hy hn hc (by rw[EC.view_len];simp_all) (Nat.ble_eq_true_of_le ?_) hd h2;rw[EC.view_len,hoff,Zat,<-Nat.succ_mul];exact Nat.mul_le_mul_right _ hlt
end L
end
def Zcg(k:Int):List Int->Option Nat
 |[]=>none
 |x::l=>if x=k then some 0 else(Zcg k l).map (·+1)
theorem Zcn{k:Int}:∀{l:List Int} {i:Nat},Zcg k l=some i->l[i]? =some k/\i<l.length
 |[],i,h=>by cases h
 |x::l,i,h=>by
  simp only[Zcg] at h;by_cases hx:x=k
  ·grind
  ·rw[if_neg hx,Option.map_eq_some_iff] at h;obtain⟨j,h1,rfl⟩:=h;have:=Zcn h1
   grind
theorem Zct(k:Int):∀(es:List MapEntry) (ks:List Int) (i0:Nat),es.length=ks.length->(∀(i:Nat) e x,es[i]? =some e->ks[i]? =some x->e.key= .int .i64 x)->
 Instr.findNow (.int .i64) (.int .i64 k) es i0=some ((Zcg k ks).bind fun i=>(es[i]?).map fun e=>(i0+i,e.val))
 |[],[],i0,_,_=>rfl
 |[],x::ks,i0,h,_=>by grind
 |e::es,[],i0,h,_=>by grind
 |e::es,x::ks,i0,h,hk=>by
  have h0:=hk 0 e x rfl rfl;have ih:=Zct k es ks (i0+1) (by grind) fun i e x h1 h2=>hk (i+1) e x (by grind) (by grind);simp only[Instr.findNow,h0,Instr.sameNow,if_true,Zcg];by_cases hx:x=k
  ·grind
  ·have hkx:(k==x)=false:=by grind
   simp only[hkx,if_neg hx];rw[ih];cases Zcg k ks<;>grind
theorem R.newmap(c:EC){G:Zfn}{g:Gh}{D:Nat->Prop}{es:Es}{w:World}(hR:R G g D es w){n:Nat}(hn:¬D n):
 R G (g.name n w.heap.size) (fun i=>D i\/i=n) ((n,.map c [] [])::es) (w.alloc (.map #[] 0))/\
 Ext D g (Foot g es) w (g.name n w.heap.size) (Foot (g.name n w.heap.size) ((n,.map c [] [])::es)) (w.alloc (.map #[] 0)):=by
 have hb:∀i,D i->(g.name n w.heap.size).blk i=g.blk i:=fun i hi=>by
  have:i≠n:=fun e=>hn (e▸hi);simp[Gh.name,this]
 have hcell:∀b o,o<g.m b->(w.alloc (.map #[] 0)).cell? ⟨b,o,none⟩=w.cell? ⟨b,o,none⟩:=fun b o ho=>by
  refine Zg3 w _ b o ?_;rcases Nat.lt_or_ge b w.heap.size with h|h
  ·exact h
  ·rw[hR.fresh b h] at ho;omega
 have hm0:g.m w.heap.size=0:=hR.fresh _ (Nat.le_refl _);have hold:∀i e,i≠n->zm ((n,Ent.map c [] [])::es) i=some e->zm es i=some e:=fun i e hi h=>by
  rw[zq,if_neg (fun e=>hi e.symm)] at h;exact h
 have hfold:∀i e b,zm es i=some e->e.foot (g.name n w.heap.size) i=some b->e.foot g i=some b/\b<w.heap.size:=fun i e b h1 h2=>by
  rw[Ent.foot_same (hR.lt i e h1) hb (fun _ _=>rfl)] at h2;exact⟨h2,hR.foot_lt h1 h2⟩
 have hnew:∀e,zm ((n,Ent.map c [] [])::es) n=some e->e= .map c [] []:=fun e h=>by
  rw[zq,if_pos rfl] at h;grind
 refine⟨hR.step (fun _=>Nat.le_refl _) hcell (fun i hi=> .inl hi) hb (fun _ _=>rfl) ?_ ?_ ?_,?_⟩
 ·intro i e he;by_cases hi:i=n
  ·subst hi;rw[hnew e he];refine .inr ⟨.inr rfl,by simp[Gh.name,hm0],[],0,by rw[show(g.name i w.heap.size).blk i=w.heap.size from by simp[Gh.name]];exact heap_alloc_new w _,⟨rfl,by simp[Born]⟩,rfl,fun j v q hv hc=>by grind,fun j v q hv hc=>by grind⟩
  ·have h2:=hold i e hi he;exact .inl ⟨h2,fun b hb'=>⟨heap_alloc_old w _ b (hR.foot_lt h2 hb'),rfl⟩⟩
 ·intro i j e e' b h1 h2 h3 h4;by_cases hi:i=n
  ·by_cases hj:j=n
   ·omega
   ·subst hi;rw[hnew e h1] at h3;simp[Ent.foot,Gh.name] at h3
    grind
  ·by_cases hj:j=n
   ·subst hj;rw[hnew e' h2] at h4;simp[Ent.foot,Gh.name] at h4
    grind
   ·exact hR.foots i j e e' b (hold i e hi h1) (hold j e' hj h2) (hfold i e b (hold i e hi h1) h3).1 (hfold j e' b (hold j e' hj h2) h4).1
 ·intro b hb';simp at hb';exact hR.fresh b (by omega)
 ·refine ⟨rfl,rfl,rfl,by simp,hcell,fun _=>Nat.le_refl _,hb,fun _ _=>rfl,fun b hb' _=>⟨heap_alloc_old w _ b hb',rfl⟩,?_⟩;rintro b ⟨i,e,h2,h3⟩;by_cases hi:i=n
  ·subst hi;rw[hnew e h2] at h3;simp[Ent.foot,Gh.name] at h3;omega
  ·have:=hfold i e b (hold i e hi h2) h3;exact .inl ⟨i,e,hold i e hi h2,this.1⟩
def Zbj(w:World)(b:Nat)(o:Obj):World:={w with heap:=w.heap.setIfInBounds b o}
theorem R.setmap{G:Zfn}{g:Gh}{D:Nat->Prop}{es:Es}{w:World}(hR:R G g D es w){n:Nat}{c:EC}{ks ks':List Int}{cs cs':List c.sem}(hn:zm es n=some (.map c ks cs)){ms ms':List MapEntry}{clock clock':Nat}
 (hh:w.heap[g.blk n]? =some (.map ms.toArray clock)) (hl:ms'.length=cs'.length/\Born ms' clock') (hl2:ks'.length=cs'.length) (h1:∀(i:Nat) e k,ms'[i]? =some e->ks'[i]? =some k->e.key= .int .i64 k)
 (h:∀(i:Nat) e x,ms'[i]? =some e->cs'[i]? =some x->VRel g D w e.val (Zgm c x)):
 R G g D ((n,.map c ks' cs')::es) (Zbj w (g.blk n) (.map ms'.toArray clock'))/\
 Ext D g (Foot g es) w g (Foot g ((n,.map c ks' cs')::es)) (Zbj w (g.blk n) (.map ms'.toArray clock')):=by
 have hm0:g.m (g.blk n)=0:=(hR.ents n _ hn).1;have hlt:g.blk n<w.heap.size:=(Array.getElem?_eq_some_iff.1 hh).1;have hne:∀b o,o<g.m b->b≠g.blk n:=fun b o ho e=>by grind
 have hother:∀b,b≠g.blk n->(Zbj w (g.blk n) (.map ms'.toArray clock')).heap[b]? =w.heap[b]? :=fun b hb=>by simp[Zbj,Ne.symm hb]
 have hself:(Zbj w (g.blk n) (.map ms'.toArray clock')).heap[g.blk n]? =some (.map ms'.toArray clock'):=by simp[Zbj,hlt]
 have hcell:∀b o,o<g.m b->(Zbj w (g.blk n) (.map ms'.toArray clock')).cell? ⟨b,o,none⟩=w.cell? ⟨b,o,none⟩:=fun b o ho=>
  World.cell?_of_block (a:=⟨b,o,none⟩) (hother b (hne b o ho))
 have hold:∀i e,i≠n->zm ((n,Ent.map c ks' cs')::es) i=some e->zm es i=some e:=fun i e hi h=>by
  rw[zq,if_neg (fun e=>hi e.symm)] at h;exact h
 have hnew:∀e,zm ((n,Ent.map c ks' cs')::es) n=some e->e= .map c ks' cs':=fun e h=>by
  rw[zq,if_pos rfl] at h;grind
 have hfoot:∀i e b,zm ((n,Ent.map c ks' cs')::es) i=some e->e.foot g i=some b->∃e',zm es i=some e'/\e'.foot g i=some b:=fun i e b h2 h3=>by
  by_cases hi:i=n
  ·subst hi;rw[hnew e h2] at h3;exact⟨_,hn,h3⟩
  grind
 refine⟨hR.step (fun _=>Nat.le_refl _) hcell (fun i hi=>hi) (fun _ _=>rfl) (fun _ _=>rfl) ?_ ?_ ?_,?_⟩
 ·intro i e he;by_cases hi:i=n
  ·subst hi;rw[hnew e he];exact .inr ⟨hR.lt _ _ hn,hm0,ms',clock',hself,hl,hl2,h1,fun j v c hv hc=>
    (h j v c hv hc).mono (fun _=>Nat.le_refl _) hcell (fun i hi=>hi) (fun _ _=>rfl) (fun _ _=>rfl)⟩
  ·refine .inl ⟨hold i e hi he,fun b hb=>⟨hother b (fun e2=>hi ?_),rfl⟩⟩;exact hR.foots i n e _ b (hold i e hi he) hn hb (by simp[Ent.foot,e2])
 ·intro i j e e' b h2 h3 h4 h5;obtain⟨d,h6,h7⟩:=hfoot i e b h2 h4;obtain⟨d',h8,h9⟩:=hfoot j e' b h3 h5;exact hR.foots i j d d' b h6 h8 h7 h9
 ·intro b hb;simp[Zbj] at hb;exact hR.fresh b hb
 ·refine ⟨rfl,rfl,rfl,by simp[Zbj],hcell,fun _=>Nat.le_refl _,fun _ _=>rfl,fun _ _=>rfl,fun b hb hf=>⟨hother b (fun e=>hf ⟨n,_,hn,by simp[Ent.foot,e]⟩),rfl⟩,?_⟩;rintro b ⟨i,e,h2,h3⟩;obtain⟨d,h6,h7⟩:=hfoot i e b h2 h3;exact .inl ⟨i,d,h6,h7⟩
theorem Zkg{P:Program}{a:Act}{w:World}{Q:Exit->Act->World->Prop}{c rest:Code}(l:Nat)(J:Nat->Act->World->Prop)(hf:findLabel c l=some rest)
 (first:c.wp P (Exit.jump l (fun a w=>∃n,J n a w) Q) a w)
 (pass:∀n a w,J n a w->rest.wp P (Exit.jump l (fun a' w'=>∃m,m<n/\J m a' w') Q) a w):(Code.scope c).wp P Q a w:=by
 intro b k cs;have hg:gotoIn l (.inScope c::k)=some (.code rest:: .inScope c::k):=by simp[gotoIn,hf]
 have key:∀n a w,J n a w->∃e a' w',Q e a' w'/\Arrives P (lone (b.at a (.code rest:: .inScope c::k)) cs w) b k cs e a' w':=by
  intro n;induction n using Nat.strongRecOn with
  |_ n ih=>
   intro a w hJ;obtain⟨e,a₁,w₁,hq,harr⟩:=pass n a w hJ b (.inScope c::k) cs;cases e with
   |normal=>exact⟨.normal,a₁,w₁,hq,Steps.trans harr (.one step_inScope)⟩
   |exit id=>exact⟨.exit id,a₁,w₁,hq,fun k' hk=>harr k' (by simp[exitTo,hk])⟩
   |goto l'=>
    obtain⟨rfl,m,hlt,hJ'⟩:=hq;obtain⟨e₂,a₂,w₂,hq₂,harr₂⟩:=ih m hlt a₁ w₁ hJ';exact⟨e₂,a₂,w₂,hq₂,.of_steps (harr _ hg) harr₂⟩
   |ret=>exact⟨_,a₁,w₁,hq,harr⟩
   |panic ch=>exact⟨_,a₁,w₁,hq,harr⟩
   |outgrown=>exact⟨_,a₁,w₁,hq,harr⟩
 obtain⟨e,a₁,w₁,hq,harr⟩:=first b (.inScope c::k) cs
 cases e with
 |normal=>exact⟨.normal,a₁,w₁,hq,.head step_scope (Steps.trans harr (.one step_inScope))⟩
 |exit id=>exact⟨.exit id,a₁,w₁,hq,fun k' hk=> .head step_scope (harr k' (by simp[exitTo,hk]))⟩
 |goto l'=>
  obtain⟨rfl,n,hJ'⟩:=hq;obtain⟨e₂,a₂,w₂,hq₂,harr₂⟩:=key n a₁ w₁ hJ';exact⟨e₂,a₂,w₂,hq₂,.of_steps (.head step_scope (harr _ hg)) harr₂⟩
 |ret=>exact⟨_,a₁,w₁,hq,.of_steps (.one step_scope) harr⟩
 |panic ch=>exact⟨_,a₁,w₁,hq,.of_steps (.one step_scope) harr⟩
 |outgrown=>exact⟨_,a₁,w₁,hq,.of_steps (.one step_scope) harr⟩
section
variable {E:Env} {N k:Nat} {a:AF} {σ:Sto} {Q:Exit->AF->Sto->Prop}
theorem AW.label{l:Nat}(h:Q .normal a σ):AW E N k (.label l) a σ Q:=by
 constructor;intro hk g w act hR hF hY;exact wp_label ⟨g,a,σ,h,hk,hR,hF,.refl ..⟩
theorem AW.goto{l:Nat}(h:Q (.goto l) a σ):AW E N k (.goto l) a σ Q:=by
 constructor;intro hk g w act hR hF hY;exact wp_goto ⟨g,a,σ,h,hk,hR,hF,.refl ..⟩
def Yfi(E:Env)(N k:Nat){ι:Type}(l:Nat)(J:ι->AF×Sto)(Q:Exit->AF->Sto->Prop):Exit->AF->Sto->Prop
 | .goto l',a,σ=>l'=l/\∃j,Weak E N k a σ (J j).1 (J j).2
 |e,a,σ=>Q e a σ
def Ykw(E:Env)(N k:Nat){ι:Type}(l:Nat)(J:ι->AF×Sto)(μ:ι->Nat)(i:ι)(Q:Exit->AF->Sto->Prop):Exit->AF->Sto->Prop
 | .goto l',a,σ=>l'=l/\∃j,μ j<μ i/\Weak E N k a σ (J j).1 (J j).2
 |e,a,σ=>Q e a σ
theorem AW.scope{ι:Type}{c rest:Code}(l:Nat)(J:ι->AF×Sto)(μ:ι->Nat)(hf:findLabel c l=some rest)
 (h0:AW E N k c a σ (Yfi E N k l J Q)) (hp:∀i,AW E N k rest (J i).1 (J i).2 (Ykw E N k l J μ i Q)):AW E N k (.scope c) a σ Q:=by
 constructor;intro hk g w act hR hF hY;refine Zkg l (fun n act' w'=>∃i g',μ i=n/\k<=(J i).2.nx/\R E.G g' (·<(J i).2.nx) (J i).2.es w'/\FRel g' (·<(J i).2.nx) w' N act' (J i).1/\Ext (·<k) g (Foot g σ.es) w g' (Foot g' (J i).2.es) w') hf ?_ ?_
 ·refine wp_mono (h0.run hk g w act hR hF hY) ?_;rintro e act2 w2 ⟨g2,a2,σ2,hq,hk2,hR2,hF2,hx2⟩;cases e with
  |goto l'=>
   obtain⟨rfl,j,hJ⟩:=hq;obtain⟨hk3,hw⟩:=hJ hk2;obtain⟨g3,hR3,hF3,hx3⟩:=hw g2 w2 act2 hR2 hF2;exact⟨rfl,_,j,g3,rfl,hk3,hR3,hF3,hx2.trans hx3⟩
  |normal=>exact⟨g2,a2,σ2,hq,hk2,hR2,hF2,hx2⟩
  |exit id=>exact⟨g2,a2,σ2,hq,hk2,hR2,hF2,hx2⟩
  |ret=>exact⟨g2,a2,σ2,hq,hk2,hR2,hF2,hx2⟩
  |panic ch=>exact⟨g2,a2,σ2,hq,hk2,hR2,hF2,hx2⟩
  |outgrown=>exact⟨g2,a2,σ2,hq,hk2,hR2,hF2,hx2⟩
 ·rintro n act1 w1 ⟨i,g1,rfl,hk1,hR1,hF1,hx1⟩;refine wp_mono ((hp i).run hk1 g1 w1 act1 hR1 hF1 (hY.ext hx1)) ?_;rintro e act2 w2 ⟨g2,a2,σ2,hq,hk2,hR2,hF2,hx2⟩;cases e with
  |goto l'=>
   obtain⟨rfl,j,hlt,hJ⟩:=hq;obtain⟨hk3,hw⟩:=hJ hk2;obtain⟨g3,hR3,hF3,hx3⟩:=hw g2 w2 act2 hR2 hF2;exact⟨rfl,_,hlt,j,g3,rfl,hk3,hR3,hF3,(hx1.trans hx2).trans hx3⟩
  |normal=>exact⟨g2,a2,σ2,hq,hk2,hR2,hF2,hx1.trans hx2⟩
  |exit id=>exact⟨g2,a2,σ2,hq,hk2,hR2,hF2,hx1.trans hx2⟩
  |ret=>exact⟨g2,a2,σ2,hq,hk2,hR2,hF2,hx1.trans hx2⟩
  |panic ch=>exact⟨g2,a2,σ2,hq,hk2,hR2,hF2,hx1.trans hx2⟩
  |outgrown=>exact⟨g2,a2,σ2,hq,hk2,hR2,hF2,hx1.trans hx2⟩
namespace K
theorem tG{y:Code}{l:Nat}(h:Q (.goto l) a σ):Zm2 E N k y Q (.goto l) a σ:=h
theorem bG{id l:Nat}(h:Q (.goto l) a σ):vy id Q (.goto l) a σ:=h
theorem fR{ι:Type}{l:Nat}{J:ι->AF×Sto}(h:Q .ret a σ):Yfi E N k l J Q .ret a σ:=h
theorem pR{ι:Type}{l:Nat}{J:ι->AF×Sto}{μ:ι->Nat}{i:ι}(h:Q .ret a σ):Ykw E N k l J μ i Q .ret a σ:=h
end K
end
def uh(k:Int)(ks:List Int):List Int:=match Zcg k ks with|some _=>ks|none=>ks++[k]
def Ze9{α:Type}(k:Int)(ks:List Int)(cs:List α)(c:α):List α:=match Zcg k ks with|some i=>cs.set i c|none=>cs++[c]
def Zg4(P:Program)(t:TypeId):Bool:=match P.info? t with|some inf=>(match inf.zero with|some (.agg _)=>true|_=>false)|none=>false
theorem Born.push{es:List MapEntry}{clock:Nat}(h:Born es clock)(key val:Value):Born (es++[⟨key,val,clock⟩]) (clock+1):=by
 refine⟨fun x hx=> ?_,?_⟩
 ·rcases List.mem_append.1 hx with h1|h1
  ·have:=h.1 x h1;omega
  grind
 ·rw[List.map_append,List.nodup_append];refine⟨h.2,by simp,?_⟩;intro a ha b hb e;obtain⟨x,hx,rfl⟩:=List.mem_map.1 ha;simp at hb;have:=h.1 x hx;omega
theorem Born.modify{es:List MapEntry}{clock:Nat}(h:Born es clock)(i:Nat)(key val:Value):Born (es.modify i fun e=>{e with key:=key,val:=val}) clock:=by
 have hm:(es.modify i fun e=>{e with key:=key,val:=val}).map (·.born)=es.map (·.born):=by
  apply List.ext_getElem?
  grind
 refine⟨fun x hx=> ?_,by rw[hm];exact h.2⟩;have h1:x.born∈(es.modify i fun e=>{e with key:=key,val:=val}).map (·.born):=List.mem_map_of_mem hx;rw[hm] at h1;obtain⟨y,hy,e⟩:=List.mem_map.1 h1;have:=h.1 y hy;omega
section
variable {E:Env} {N:Nat} {o:Oper} {a:AF}
theorem Ylg(D:Nat->Prop)(g:Gh)(n:Nat)(w:World){b:Nat}:VRel (g.name n b) (fun i=>D i\/i∈[n]) w (.map (some b)) (.mp n):=by
 have h:=VRel.mp (g:=g.name n b) (D:=fun i=>D i\/i∈[n]) (w:=w) n (Or.inr (List.mem_singleton.2 rfl));have hb:(g.name n b).blk n=b:=by simp[Gh.name]
 grind
theorem OS.makeMap(q:EC){t:TypeId}{n:Nat}(ho:o.op= .makeMap t none):OS E N o a [] (.mp n) [n] [(n,.map q [] [])]:=
 .of_run fun g D es w act hR _ hn hF=>by
  obtain⟨hR',hx⟩:=hR.newmap q (hn n (by simp));refine⟨g.name n w.heap.size,.map (some w.heap.size),w.alloc (.map #[] 0),?_,hR'.more (fun i hi=>by grind),Ylg D g n _,hx⟩;simp only[execOp,ho,Option.map_none,Instr.makeMap,Sem.run_bind,Sem.run_pure,run_newObj,Result.andThen_ok,World.alloc_eq]
theorem OS.lenM{t kt et:TypeId}{x:Operand}{n:Nat}{ks:List Int}{q:EC}{cs:List q.sem}(ho:o.op= .call {callee:= .builtin .len,args:= #[x],argTypes:= #[t]})(hm:E.P.underlying t=some (.map kt et))
 (hx:ev E t a x=some (.mp n)):OS E N o a [(n,.map q ks cs)] (.i cs.length) [] []:=
 .pure fun g D es w act hR hp hF=>by
  have h1:=z6 hx hR hF;have hn:=hp (n,.map q ks cs) (by simp);obtain⟨_,ms,clock,h4,⟨h5,hbn⟩,h6,h7,h8⟩:=hR.ents n _ hn;generalize hv:act.eval x=v at h1;cases h1 with
  |data h=>cases h
  |mp _ hD=>
   refine⟨.int .i64 cs.length,?_,.data (.int .i64 _)⟩;simp[execOp,ho,resolve,invoke,builtin,Builtin.len_,hv,yp hm,MapKept.run_getObj_map h4,goInt,h5]
theorem OS.lookup{t kt et:TypeId}{x y:Operand}{n:Nat}{k:Int}{ks:List Int}{q:EC}{cs:List q.sem}{i:Nat}{c:q.sem}(ho:o.op= .lookup t x y true)(hm:E.P.underlying t=some (.map kt et))(hk:E.P.underlying kt=some (.int .i64))
 (hx:ev E 0 a x=some (.mp n)) (hy:ev E 0 a y=some (.i k)) (hi:Zcg k ks=some i) (hc:cs[i]? =some c):OS E N o a [(n,.map q ks cs)] (.tup [Zgm q c,.bool true]) [] []:=
 .pure fun g D es w act hR hp hF=>by
  have h1:=z6 hx hR hF;have h2:=(z6 hy hR hF).int_inv;have hn:=hp (n,.map q ks cs) (by simp);obtain⟨_,ms,clock,h4,⟨h5,hbn⟩,h6,h7,h8⟩:=hR.ents n _ hn;generalize hv:act.eval x=v at h1;cases h1 with
  |data h=>cases h
  |mp _ hD=>
   have h9:=Zct k ms ks 0 (h5.trans h6.symm) h7;have hil:i<ms.length:=by grind
   rw[hi,Option.bind_some,List.getElem?_eq_getElem hil,Option.map_some] at h9;refine⟨.tuple #[(ms[i]'hil).val,.bool true],?_,?_⟩
   ·simp[execOp,ho,Instr.lookup,hv,h2,yp hm,MapKept.run_getObj_map h4,MapKept.run_checkKey hk (k:= .int .i64 k) rfl,MapKept.run_findKey hk h9,Result.andThen]
   ·refine VRel.tup [(ms[i]'hil).val,.bool true] _ rfl fun j v d hv' hd=> ?_;rcases j with _|_|j
    ·grind
    ·simp at hv' hd;subst hv' hd;exact .data (.bool _)
    grind
theorem OS.lookupN{t kt et:TypeId}{x y:Operand}{n:Nat}{k:Int}{ks:List Int}{q:EC}{cs:List q.sem}{i:TI}(ho:o.op= .lookup t x y true)(hm:E.P.underlying t=some (.map kt et))(hk:E.P.underlying kt=some (.int .i64))
 (hx:ev E 0 a x=some (.mp n)) (hy:ev E 0 a y=some (.i k)) (hi:Zcg k ks=none) (ht:E.ti et=some i) (hz:Zg4 E.P et=true):OS E N o a [(n,.map q ks cs)] (.tup [.agg i.zero,.bool false]) [] []:=
 .pure fun g D es w act hR hp hF=>by
  have h1:=z6 hx hR hF;have h2:=(z6 hy hR hF).int_inv;have hn:=hp (n,.map q ks cs) (by simp);obtain⟨_,ms,clock,h4,⟨h5,hbn⟩,h6,h7,h8⟩:=hR.ents n _ hn;obtain⟨inf,q1,q2,z,q3,q4⟩:=Zce ht;obtain⟨q5,q6,q7⟩:=Zae q4;have hzv:∃zs,z= .agg zs:=by
   unfold Zg4 at hz
   grind
  obtain⟨zs,rfl⟩:=hzv;generalize hv:act.eval x=v at h1;cases h1 with
  |data h=>cases h
  |mp _ hD=>
   have h9:=Zct k ms ks 0 (h5.trans h6.symm) h7;rw[hi,Option.bind_none] at h9;refine⟨.tuple #[.agg zs,.bool false],?_,?_⟩
   ·simp[execOp,ho,Instr.lookup,hv,h2,yp hm,MapKept.run_getObj_map h4,MapKept.run_checkKey hk (k:= .int .i64 k) rfl,MapKept.run_findKey hk h9,Result.andThen,Zef q1 q3]
   ·refine VRel.tup [.agg zs,.bool false] _ rfl fun j v d hv' hd=> ?_;rcases j with _|_|j
    ·simp at hv' hd;subst hv' hd;have:VRel g D w (.agg zs.toList.toArray) (.agg i.zero):= .agg zs.toList i.zero q5 q6 fun j v c h h'=>q7 g D w j v c h h';omega
    ·simp at hv' hd;subst hv' hd;exact .data (.bool _)
    grind
theorem VLe.weak(c:V):VLe c (V.weak c):=by
 cases c with
 |slice sp l=>exact VLe.any sp l
 |_=>exact VLe.refl _
theorem VsLe.weak:∀cs:List V,VsLe cs (cs.map V.weak)
 |[]=>trivial
 |c::cs=>⟨VLe.weak c,VsLe.weak cs⟩
theorem OS.mapUpdate{t kt et:TypeId}{x y z:Operand}{n:Nat}{k:Int}{ks:List Int}{q:EC}{cs:List q.sem}{c:q.sem}{v:V}(ho:o.op= .mapUpdate t x y z)(hm:E.P.underlying t=some (.map kt et))(hk:E.P.underlying kt=some (.int .i64))
 (hx:ev E 0 a x=some (.mp n)) (hy:ev E 0 a y=some (.i k)) (hz:ev E et a z=some v) (hle:VLe v (Zgm q c)):OS E N o a [(n,.map q ks cs)] (.tup []) [] [(n,.map q (uh k ks) (Ze9 k ks cs c))]:=
 .of_skip fun g D es w act hR hp hF=>by
  have h1:=z6 hx hR hF;have h2:=(z6 hy hR hF).int_inv;have h3:VRel g D w (act.eval z) (Zgm q c):=hle _ _ _ _ (z6 hz hR hF);have hn:=hp (n,.map q ks cs) (by simp);obtain⟨_,ms,clock,h4,⟨h5,hbn⟩,h6,h7,h8⟩:=hR.ents n _ hn;generalize hv:act.eval x=v at h1;cases h1 with
  |data h=>cases h
  |mp _ hD=>
   have h9:=Zct k ms ks 0 (h5.trans h6.symm) h7;cases hi:Zcg k ks with
   |none=>
    rw[hi,Option.bind_none] at h9;have key:=hR.setmap (ks':=uh k ks) (cs':=Ze9 k ks cs c) (ms:=ms) (ms':=ms++[⟨.int .i64 k,act.eval z,clock⟩]) (clock':=clock+1) hn h4
     ⟨by simp[Ze9,hi,h5],hbn.push _ _⟩ (by simp[Ze9,uh,hi,h6])
     (fun j e x he hx=>by
      simp only[uh,hi] at hx
      grind)
     (fun j e d he hd=>by
      simp only[Ze9,hi] at hd;rcases Nat.lt_or_ge j ms.length with hj|hj;all_goals grind)
    refine⟨_,?_,key.1,key.2⟩;simp[execOp,ho,Instr.mapUpdate,hv,h2,yp hm,MapKept.run_getObj_map h4,MapKept.run_checkKey hk (k:= .int .i64 k) rfl,MapKept.run_findKey hk h9,Result.andThen,MapKept.run_setObj_map _ h4,Zbj]
   |some i=>
    have hil:i<ms.length:=by rw[h5,<-h6];exact(Zcn hi).2
    rw[hi,Option.bind_some,List.getElem?_eq_getElem hil,Option.map_some] at h9;have hkey:(ms[i]'hil).key= .int .i64 k:=h7 i _ k (List.getElem?_eq_getElem hil) (Zcn hi).1;have key:=hR.setmap (ks':=uh k ks) (cs':=Ze9 k ks cs c) (ms:=ms) (ms':=ms.modify i fun e=>{e with key:= .int .i64 k,val:=act.eval z}) (clock':=clock) hn h4
     ⟨by simp[Ze9,hi,h5],hbn.modify _ _ _⟩ (by simp[Ze9,uh,hi,h6])
     (fun j e x he hx=>by
      simp only[uh,hi] at hx
      grind)
     (fun j e d he hd=>by
      simp only[Ze9,hi] at hd
      grind)
    refine⟨_,?_,key.1,key.2⟩;simp[execOp,ho,Instr.mapUpdate,hv,h2,yp hm,MapKept.run_getObj_map h4,MapKept.run_checkKey hk (k:= .int .i64 k) rfl,MapKept.run_findKey hk h9,Result.andThen,MapKept.run_setObj_map _ h4,Zbj,List.getElem?_eq_getElem hil,hkey,MapKept.run_keyThatStays (d:= .int .i64) (k:= .int .i64 k) rfl]
end
section
variable {E:Env} {N k:Nat} {a:AF} {σ:Sto}
variable {Q:Exit->AF->Sto->Prop} {ops:List Oper} {dr:Bool} {rest:List Oper} {acc:List Rec}
variable {d:Option Tmp} {ty:TypeId} {ps:String} {af:Array Edge} {gd:Option (Nat×Bool)}
namespace L
theorem mmT{t kt et:TypeId}{i:TI}(hw:yb ops a gd=some true)(hm:E.P.underlying t=some (.map kt et))(ht:E.ti et=some i)(hs:Nat.beq i.size 5=true)(hd:zw N d=true)
 (h2:AX E N k dr ops rest (a.put d (.mp σ.nx)) (σ.upd 1 [(σ.nx,.map .tm [] [])]) (⟨[],.mp σ.nx,1,[(σ.nx,.map .tm [] [])]⟩::acc) Q):AX E N k dr ops (⟨d,.makeMap t none,ty,ps,af,gd⟩::rest) a σ acc Q:=
 AX.run 1 hw (OS.makeMap .tm rfl) trivial hd h2
theorem mmB{t kt et:TypeId}{i:TI}(hw:yb ops a gd=some true)(hm:E.P.underlying t=some (.map kt et))(ht:E.ti et=some i)(hs:i.desc= .bool)(hd:zw N d=true)
 (h2:AX E N k dr ops rest (a.put d (.mp σ.nx)) (σ.upd 1 [(σ.nx,.map .bl [] [])]) (⟨[],.mp σ.nx,1,[(σ.nx,.map .bl [] [])]⟩::acc) Q):AX E N k dr ops (⟨d,.makeMap t none,ty,ps,af,gd⟩::rest) a σ acc Q:=
 AX.run 1 hw (OS.makeMap .bl rfl) trivial hd h2
theorem lnm{t kt et:TypeId}{x:Operand}{n:Nat}{ks:List Int}{q:EC}{cs:List q.sem}(hw:yb ops a gd=some true)(hx:ev E t a x=some (.mp n))(hm:E.P.underlying t=some (.map kt et))(hn:zm σ.es n=some (.map q ks cs))(hd:zw N d=true)
 (h2:AX E N k dr ops rest (a.put d (.int .i64 cs.length)) σ (⟨[(n,.map q ks cs)],.int .i64 cs.length,0,[]⟩::acc) Q):AX E N k dr ops (⟨d,.call ⟨.builtin .len,#[x],#[t]⟩,ty,ps,af,gd⟩::rest) a σ acc Q:=
 AX.run 0 hw (OS.lenM rfl hm (fr (by simp[Op.operands,Call.operands]) hx)) ⟨hn,trivial⟩ hd h2
theorem lkuT{t kt et:TypeId}{x y:Operand}{n:Nat}{q:Int}{ks:List Int}{cs:List Tm}{i:Nat}{c:Tm}(hw:yb ops a gd=some true)(hx:ev E 0 a x=some (.mp n))(hy:ev E 0 a y=some (.i q))(hm:E.P.underlying t=some (.map kt et))(hk:E.P.underlying kt=some (.int .i64))
 (hn:zm σ.es n=some (.map .tm ks cs)) (hi:Zcg q ks=some i) (hc:cs[i]? =some c) (hd:zw N d=true)
 (h2:AX E N k dr ops rest (a.put d (.tup [.agg c.view,.bool true])) σ (⟨[(n,.map .tm ks cs)],.tup [.agg c.view,.bool true],0,[]⟩::acc) Q):AX E N k dr ops (⟨d,.lookup t x y true,ty,ps,af,gd⟩::rest) a σ acc Q:=
 AX.run 0 hw (OS.lookup (q:= .tm) (c:=c) rfl hm hk (fr (by simp[Op.operands]) hx) (fr (by simp[Op.operands]) hy) hi hc) ⟨hn,trivial⟩ hd h2
theorem lkn{t kt et:TypeId}{x y:Operand}{n:Nat}{q:Int}{ks:List Int}{e:EC}{cs:List e.sem}{i:TI}(hw:yb ops a gd=some true)(hx:ev E 0 a x=some (.mp n))(hy:ev E 0 a y=some (.i q))(hm:E.P.underlying t=some (.map kt et))(hk:E.P.underlying kt=some (.int .i64))
 (hn:zm σ.es n=some (.map e ks cs)) (hi:Zcg q ks=none) (ht:E.ti et=some i) (hz:Zg4 E.P et=true) (hd:zw N d=true)
 (h2:AX E N k dr ops rest (a.put d (.tup [.agg i.zero,.bool false])) σ (⟨[(n,.map e ks cs)],.tup [.agg i.zero,.bool false],0,[]⟩::acc) Q):AX E N k dr ops (⟨d,.lookup t x y true,ty,ps,af,gd⟩::rest) a σ acc Q:=
 AX.run 0 hw (OS.lookupN rfl hm hk (fr (by simp[Op.operands]) hx) (fr (by simp[Op.operands]) hy) hi ht hz) ⟨hn,trivial⟩ hd h2
theorem muT{t kt et:TypeId}{x y z:Operand}{n:Nat}{q:Int}{ks:List Int}{cs:List Tm}{vc:List V}{u:Tm}(hw:yb ops a gd=some true)(hx:ev E 0 a x=some (.mp n))(hy:ev E 0 a y=some (.i q))(hm:E.P.underlying t=some (.map kt et))(hk:E.P.underlying kt=some (.int .i64))
 (hz:ev E et a z=some (.agg vc)) (hf:EC.fold .tm vc=some u) (hn:zm σ.es n=some (.map .tm ks cs)) (hd:zw N d=true)
 (h2:AX E N k dr ops rest (a.put d (.tup [])) (σ.upd 0 [(n,.map .tm (uh q ks) (Ze9 q ks cs u))]) (⟨[(n,.map .tm ks cs)],.tup [],0,[(n,.map .tm (uh q ks) (Ze9 q ks cs u))]⟩::acc) Q):AX E N k dr ops (⟨d,.mapUpdate t x y z,ty,ps,af,gd⟩::rest) a σ acc Q:=
 AX.run 0 hw (OS.mapUpdate (q:= .tm) (c:=u) (v:= .agg vc) rfl hm hk (fr (by simp[Op.operands]) hx) (fr (by simp[Op.operands]) hy) (fr (by simp[Op.operands]) hz) (by
  have h3:=EC.fold_view .tm vc u hf;show VLe (.agg vc) (.agg (Tm.view u));rw[show Tm.view u=vc.map V.weak from h3];exact VLe.agg (VsLe.weak vc))) ⟨hn,trivial⟩ hd h2
theorem muB{t kt et:TypeId}{x y z:Operand}{n:Nat}{q:Int}{ks:List Int}{cs:List Bool}{b:Bool}(hw:yb ops a gd=some true)(hx:ev E 0 a x=some (.mp n))(hy:ev E 0 a y=some (.i q))(hm:E.P.underlying t=some (.map kt et))(hk:E.P.underlying kt=some (.int .i64))
 (hz:ev E et a z=some (.bool b)) (hn:zm σ.es n=some (.map .bl ks cs)) (hd:zw N d=true)
 (h2:AX E N k dr ops rest (a.put d (.tup [])) (σ.upd 0 [(n,.map .bl (uh q ks) (Ze9 q ks cs b))]) (⟨[(n,.map .bl ks cs)],.tup [],0,[(n,.map .bl (uh q ks) (Ze9 q ks cs b))]⟩::acc) Q):AX E N k dr ops (⟨d,.mapUpdate t x y z,ty,ps,af,gd⟩::rest) a σ acc Q:=
 AX.run 0 hw (OS.mapUpdate (q:= .bl) (c:=b) (v:= .bool b) rfl hm hk (fr (by simp[Op.operands]) hx) (fr (by simp[Op.operands]) hy) (fr (by simp[Op.operands]) hz) (VLe.refl _)) ⟨hn,trivial⟩ hd h2
end L
end
section
variable {E:Env} {N k:Nat} {a:AF} {σ:Sto} {Q:Exit->AF->Sto->Prop}
def upQ(E:Env)(N k:Nat)(len n:Nat)(P:Nat->Prop)(J:Nat->AF×Sto)(Q:Exit->AF->Sto->Prop):Exit->AF->Sto->Prop
 | .normal,a,σ=>n<len/\P (n+1)/\Weak E N k a σ (J (n+1)).1 (J (n+1)).2
 |e,a,σ=>Q e a σ
end
namespace K
variable {E:Env} {N k:Nat} {a:AF} {σ:Sto} {Q:Exit->AF->Sto->Prop}
theorem uR{len n:Nat}{P:Nat->Prop}{J:Nat->AF×Sto}(h:Q .ret a σ):upQ E N k len n P J Q .ret a σ:=h
theorem uE{len n:Nat}{P:Nat->Prop}{J:Nat->AF×Sto}{id:Nat}(h:Q (.exit id) a σ):upQ E N k len n P J Q (.exit id) a σ:=h
end K
section
variable {E:Env} {N k:Nat} {a:AF} {σ:Sto} {Q:Exit->AF->Sto->Prop} {ops:List Oper} {dr:Bool} {rest:List Oper} {acc:List Rec}
variable {d:Option Tmp} {ty:TypeId} {ps:String} {af:Array Edge} {gd:Option (Nat×Bool)}
theorem OS.ng{o:Oper}{t:TypeId}{x:Operand}{n:Int}(ho:o.op= .unOp .neg t x)(hx:ev E 0 a x=some (.i n))(hb: -9223372036854775807<=n/\n<=9223372036854775807):OS E N o a [] (.i (-n)) [] []:=by
 have h:=OS.neg (N:=N) ho hx
 rwa [IntWalk.i64_in _ (by omega),Int.zero_sub] at h
namespace L
theorem ng{t:TypeId}{x:Operand}{n:Int}(hw:yb ops a gd=some true)(hx:ev E 0 a x=some (.int .i64 n))(hd:zw N d=true)(hb: -9223372036854775807<=n/\n<=9223372036854775807)
 (h2:AX E N k dr ops rest (a.put d (.int .i64 (-n))) σ (⟨[],.int .i64 (-n),0,[]⟩::acc) Q):AX E N k dr ops (⟨d,.unOp .neg t x,ty,ps,af,gd⟩::rest) a σ acc Q:=by
 exact AX.run 0 hw (OS.ng rfl (fr (by simp[Op.operands,Call.operands]) hx) hb) trivial hd h2
end L
end
theorem Zoz{ρ:List (Option Nat)}:∀{a a' b b':List V},w7 ρ a=some a'->w7 ρ b=some b'->w7 ρ (a++b)=some (a'++b')
 |[],_,b,b',h,h'=>by simp[w7] at h;grind
 |c::a,_,b,b',h,h'=>by
  simp only[w7,Option.bind_eq_some_iff,Option.map_eq_some_iff] at h;obtain⟨c',h1,a',h2,rfl⟩:=h;simp only[List.cons_append,w7,h1,Zoz h2 h',Option.bind_some,Option.map_some]
theorem Zvn(ρ:List (Option Nat))(c:EC)(x:c.sem):w7 ρ (c.view x)=some (c.view x):=by cases c<;>rfl
theorem wm(ρ:List (Option Nat))(c:EC)(l:List c.sem):w7 ρ (l.flatMap c.view)=some (l.flatMap c.view):=by
 induction l with
 |nil=>rfl
 |cons x l ih=>rw[List.flatMap_cons];exact Zoz (Zvn ρ c x) ih
theorem R.moved{G:Zfn}{g:Gh}{D:Nat->Prop}{es:Es}{w:World}(hR:R G g D es w){r n:Nat}(hn:¬D n){cs:List V}(hr:zm es r=some (.var cs)):
 R G (g.nameR n (g.blk r) (g.row r)) (fun i=>D i\/i=n) ((n,.var cs)::(r,.gone)::es) w/\
 Ext D g (Foot g es) w (g.nameR n (g.blk r) (g.row r)) (Foot (g.nameR n (g.blk r) (g.row r)) ((n,.var cs)::(r,.gone)::es)) w:=by
 have hDr:=hR.lt r _ hr;have hne:∀i,D i->i≠n:=fun i hi e=>hn (e▸hi);have hb:∀i,D i->(g.nameR n (g.blk r) (g.row r)).blk i=g.blk i:=fun i hi=>by simp[Gh.nameR,hne i hi]
 have hrw:∀i,D i->(g.nameR n (g.blk r) (g.row r)).row i=g.row i:=fun i hi=>by simp[Gh.nameR,hne i hi]
 have hbn:(g.nameR n (g.blk r) (g.row r)).blk n=g.blk r:=by simp[Gh.nameR]
 have hrn:(g.nameR n (g.blk r) (g.row r)).row n=g.row r:=by simp[Gh.nameR]
 have hfind:∀i e,zm ((n,Ent.var cs)::(r,.gone)::es) i=some e->(i=n/\e= .var cs)\/(i=r/\e= .gone)\/(i≠n/\i≠r/\zm es i=some e):=fun i e h=>by
  rw[zq] at h;by_cases h1:n=i
  ·grind
  ·rw[if_neg h1,zq] at h
   grind
 have hold:∀i e b,zm es i=some e->e.foot (g.nameR n (g.blk r) (g.row r)) i=some b->e.foot g i=some b:=fun i e b h1 h2=>by
  rw[Ent.foot_same (hR.lt i e h1) hb hrw] at h2;exact h2
 have hfoot:∀i e b,zm ((n,Ent.var cs)::(r,.gone)::es) i=some e->e.foot (g.nameR n (g.blk r) (g.row r)) i=some b->(i=n/\b=g.blk r)\/(i≠n/\i≠r/\zm es i=some e/\e.foot g i=some b):=fun i e b h1 h2=>by
  rcases hfind i e h1 with⟨rfl,rfl⟩|⟨rfl,rfl⟩|⟨h3,h4,h5⟩
  ·refine .inl ⟨rfl,?_⟩;simp only[Ent.foot,Option.some.injEq] at h2;omega
  ·cases h2
  grind
 refine⟨hR.step (fun _=>Nat.le_refl _) (fun _ _ _=>rfl) (fun _ h=> .inl h) hb hrw ?_ ?_ hR.fresh,?_⟩
 ·intro i e he;rcases hfind i e he with⟨rfl,rfl⟩|⟨rfl,rfl⟩|⟨_,_,h5⟩
  ·refine .inr ⟨.inr rfl,?_⟩;obtain⟨h1,vs,t,h2,h3,h4,h5,h6⟩:=hR.ents r _ hr;exact⟨by rw[hbn];exact h1,vs,t,by grind,h3,h4,fun j v c hv hc=>(h5 j v c hv hc).mono (fun _=>Nat.le_refl _) (fun _ _ _=>rfl) (fun _ h=> .inl h) hb hrw,by grind⟩
  ·exact .inr ⟨.inl hDr,trivial⟩
  ·exact .inl ⟨h5,fun _ _=>⟨rfl,rfl⟩⟩
 ·intro i j e e' b h1 h2 h3 h4;rcases hfoot i e b h1 h3 with⟨rfl,h5⟩|⟨h5,h6,h7,h8⟩
  ·rcases hfoot j e' b h2 h4 with⟨rfl,_⟩|⟨h9,h10,h11,h12⟩
   ·rfl
   ·exact absurd (hR.foots j r e' _ b h11 hr h12 (by simp[Ent.foot,h5])) h10
  ·rcases hfoot j e' b h2 h4 with⟨rfl,h13⟩|⟨h9,h10,h11,h12⟩
   ·exact absurd (hR.foots i r e _ b h7 hr h8 (by simp[Ent.foot,h13])) h6
   ·exact hR.foots i j e e' b h7 h11 h8 h12
 ·refine ⟨rfl,rfl,rfl,Nat.le_refl _,fun _ _ _=>rfl,fun _=>Nat.le_refl _,hb,hrw,fun _ _ _=>⟨rfl,rfl⟩,?_⟩;rintro b ⟨i,e,h1,h2⟩;rcases hfoot i e b h1 h2 with⟨_,h5⟩|⟨_,_,h7,h8⟩
  ·exact .inl ⟨r,_,hr,by simp[Ent.foot,h5]⟩
  ·exact .inl ⟨i,e,h7,h8⟩
section
variable {E:Env} {N k:Nat} {o:Oper} {a:AF}
theorem Zsy(D:Nat->Prop)(g:Gh)(n b:Nat)(w:World){len cap sz:Nat}(h:len<=cap):VRel (g.nameR n b (some ⟨b,0,cap,sz,0⟩)) (fun i=>D i\/i∈[n]) w (.slice (some ⟨b,0,none⟩) len cap) (.arr n len sz):=Zrk D g n w h
theorem OS.appendR{t te:TypeId}{s x:Operand}{i ie:TI}{co:Option EC}{c:EC}{sz bytes n r len:Nat}{sp':Sp}{l:List c.sem}{cs:List V}(ho:o.op= .call {callee:= .builtin .append,args:= #[s,x],argTypes:= #[t,t]})
 (ht:E.ti t=some i) (hd:i.desc= .slc co sz bytes) (hte:E.P.underlying t=some (.slice te)) (hti:E.ti te=some ie) (hs:ev E t a s=some (.arr r len sz)) (hx:ev E t a x=some (.slice sp' (.t c l))) (hpos:0<l.length) (hcl:cs.length=len*sz)
 (hsz:Nat.beq c.cells sz=true) (hb:(len+l.length)*bytes<=140737488355328) (hb2:len+l.length<=9223372036854775807):
 OS E N o a [(r,.var cs)] (.arr n (len+l.length) sz) [n] [(n,.var (cs++l.flatMap c.view)),(r,.gone)]:=
 .of_run fun g D es w act hR hp hn hF=>by
  obtain⟨e,inf,z,h1,h2,h3,h4,h5,h6,h7,h8⟩:=Zcf ht hd;obtain rfl:e=te:=by grind
  obtain⟨inf2,hi1,hi2,z2,hi3,hi4⟩:=Zce hti;have hz1:∀v∈z.cells.toList,v.oneCell'=true:=by
   rw[h2] at hi1;cases hi1;rw[h5] at hi3;cases hi3;exact(Zae hi4).2.1
  have hcs:c.cells=sz:=Nat.eq_of_beq_eq_true hsz;have hn':¬D n:=hn n (by simp);have hr:=hp (r,.var cs) (by simp);have hvs:=z6 hs hR hF;have hdx:=(z6 hx hR hF).slice_inv;obtain⟨xb,xc,hxv⟩:=hdx.slice_inv;obtain⟨news,hnl,hn1,hnf,hnr,hnl2⟩:=hdx.cells_of;rw[hxv] at hnf;have hsz':c.cells=inf.size:=by omega
  have hDD:∀i,(D i\/i=n)->(D i\/i∈[n]):=fun i h=>h.imp id (fun h=>by simp[h]);have hrun:∀v w',(Builtin.append_ #[t,t] o.type #[act.eval s,act.eval x]).run E.P w= .ok v w'->(execOp act.eval o).run E.P w= .ok (.value v) w':=fun v w' h=>by
   simp[execOp,ho,resolve,invoke,builtin,h]
  have hnews:news.length=l.length*sz:=by rw[hnl];show l.length*c.cells=_;rw[hcs]
  have hfl:(l.flatMap c.view).length=l.length*sz:=by rw[Zat,hcs]
  have hnv:∀(q:Nat) u d,news[q]? =some u->(l.flatMap c.view)[q]? =some d->VRel g D w u d:=fun q u d hu hd=>by
   have hq:=(List.getElem?_eq_some_iff.1 hd).1;rw[Zat] at hq;have hc0:0<c.cells:=by
    omega
   have hqi:q/c.cells<l.length:=(Nat.div_lt_iff_lt_mul hc0).2 hq;have hqj:q%c.cells<c.cells:=Nat.mod_lt _ hc0;have hqe:q/c.cells*c.cells+q%c.cells=q:=by rw[Nat.mul_comm];exact Nat.div_add_mod q c.cells
   have hd':=hd;rw[<-hqe,Zd3 c l _ _ hqj,List.getElem?_eq_getElem hqi] at hd';have hd2:(c.view l[q/c.cells])[q%c.cells]? =some d:=hd';obtain⟨u',hu',hdr⟩:=hnr (q/c.cells) (q%c.cells) (c.view l[q/c.cells]) d (by show(l[q/c.cells]?).map c.view=_;grind) hd2 hqi hqj;have hu2:news[q]? =some u':=by rw[<-hqe];exact hu'
   rw[hu] at hu2;cases hu2;exact .data hdr
  generalize hv:act.eval s=v at hvs;cases hvs with
  |data h=>cases h
  |arr _ _ _ cap hDr hcap hrow=>
   obtain⟨h9,vs,te,h10,h11,h12,h13,h14⟩:=hR.ents r _ hr;have hlen:=h14 _ hrow;simp only at hlen;have hxv':act.eval x= .slice xb l.length xc:=hxv;by_cases hroom:len+l.length<=cap
   ·have hfit:len*sz+news.length<=vs.length:=by rw[hnews,<-Nat.add_mul,hlen];exact Nat.mul_le_mul_right _ hroom
    obtain⟨hR1,hx1⟩:=hR.store hr h10 (vs':=vs.take (len*sz)++news++vs.drop (len*sz+news.length)) (cs':=cs++l.flatMap c.view)
     (by grind) (by grind)
     (fun u hu=>by
      grind)
     (fun j u d hu hd=>by
      grind)
    obtain⟨hR2,hx2⟩:=hR1.moved (n:=n) hn' (r:=r) (cs:=cs++l.flatMap c.view) (by rw[zq,if_pos rfl]);rw[hrow] at hR2 hx2;have he:∀i,zm ((n,Ent.var (cs++l.flatMap c.view))::(r,.gone)::es) i=zm ((n,Ent.var (cs++l.flatMap c.view))::(r,.gone)::(r,.var (cs++l.flatMap c.view))::es) i:=fun i=>by
     simp only[zq]
     grind
    refine⟨_,.slice (some ⟨g.blk r,0,none⟩) (len+l.length) cap,_,hrun _ _ ?_,(hR2.congr he).more hDD,?_,?_⟩
    ·rw[hv,hxv'];have:=Zo3 (P:=E.P) (w:=w) (ty:=o.type) h1 h2 h10 (sLen:=len) (sCap:=cap) (xb:=xb) (n:=l.length) (xc:=xc) (news:=news) (by grind) hn1 (by rw[<-hsz'];exact hnf w rfl E.P) hroom (by grind)
     grind
    ·exact Zsy D g n (g.blk r) _ hroom
    ·have h15:=hx1.trans hx2;have hf:Foot (g.nameR n (g.blk r) (some ⟨g.blk r,0,cap,sz,0⟩)) ([(n,.var (cs++l.flatMap c.view)),(r,.gone)]++es)=Foot (g.nameR n (g.blk r) (some ⟨g.blk r,0,cap,sz,0⟩)) ((n,Ent.var (cs++l.flatMap c.view))::(r,.gone)::(r,.var (cs++l.flatMap c.view))::es):=Foot.congr he
     grind
   ·obtain ⟨hRg,hxg⟩:=hR.gone hr;have hge:=grownCap_ge w (len+l.length) cap e;obtain⟨olds,holds⟩:∃olds,olds=vs.take (len*sz):=⟨_,rfl⟩;have hol:olds.length=len*sz:=by grind
    obtain⟨hR',hx'⟩:=hRg.drew.boxR hn' (some ⟨w.heap.size,0,grownCap w (len+l.length) cap e,sz,0⟩) (vs:=olds++news++(Builtin.zeroCells z.cells (grownCap w (len+l.length) cap e-(len+l.length))).toList) (cs:=cs++l.flatMap c.view) e
     (by grind)
     (fun v hv=>by
      rcases List.mem_append.1 hv with hv|hv
      ·grind
      ·exact Zf8 hz1 _ v hv)
     (fun q v d hv hd=>by
      by_cases hq:q<len*sz
      ·rw[List.append_assoc,List.getElem?_append_left (by omega),holds,List.getElem?_take,if_pos hq] at hv;rw[List.getElem?_append_left (by omega)] at hd;exact(h13 q v d hv hd).mono (fun _=>Nat.le_refl _) (fun _ _ _=>rfl) (fun _ h=>h) (fun _ _=>rfl) (fun _ _=>rfl)
      ·rw[List.getElem?_append_right (by omega),hcl] at hd;have hq2:=(List.getElem?_eq_some_iff.1 hd).1;rw[List.append_assoc,List.getElem?_append_right (by omega),hol,List.getElem?_append_left (by omega)] at hv;exact(hnv _ v d hv hd).mono (fun _=>Nat.le_refl _) (fun _ _ _=>rfl) (fun _ h=>h) (fun _ _=>rfl) (fun _ _=>rfl))
     (fun r hr=>by
      cases hr;simp only[List.length_append,Array.length_toList,size_zeroCells,hnews,hol,h6];rw[<-Nat.add_mul,<-Nat.add_mul]
      grind)
    refine⟨_,.slice (some ⟨w.heap.size,0,none⟩) (len+l.length) (grownCap w (len+l.length) cap e),_,hrun _ _ ?_,hR'.more hDD,?_,(hxg.trans Ext.drew).trans hx'⟩
    ·rw[hv,hxv'];have hof:∀W:World,W.heap=w.heap->(Builtin.firstCells inf.size len (.slice (some ⟨g.blk r,0,none⟩) len cap)).run E.P W= .ok olds.toArray W:=fun W hW=>by
      rw[h3];exact run_firstCells_some (P:=E.P) W sz len ⟨g.blk r,0,none⟩ len cap olds hol (fun j v hv=>by
       rw[holds,List.getElem?_take] at hv;split at hv
       ·rw[Zv0,Nat.zero_add,Zdd (by rw[hW];exact h10)];grind
       grind)
     exact Zbs (P:=E.P) (w:=w) (ty:=o.type) h1 h2 h5 (base:=some ⟨g.blk r,0,none⟩) (sLen:=len) (sCap:=cap) (xb:=xb) (n:=l.length) (xc:=xc) (olds:=olds) (news:=news)
      hof (fun W hW=>by rw[<-hsz'];exact hnf W hW E.P) (by omega) (by grind) (by omega)
    ·exact Zsy D g n _ _ hge
theorem OS.lenR{t:TypeId}{x:Operand}{n len sz:Nat}(ho:o.op= .call {callee:= .builtin .len,args:= #[x],argTypes:= #[t]}){i:TI}(ht:E.ti t=some i){c:Option EC}{z by_:Nat}(hd:i.desc= .slc c z by_)
 (hx:ev E t a x=some (.arr n len sz)):OS E N o a [] (.i len) [] []:=
 .pure fun g D es w act hR _ hF=>by
  have h1:=z6 hx hR hF;obtain⟨d,h2,h3⟩:=Zc8 ht;rw[hd] at h3;generalize hv:act.eval x=v at h1;cases h1 with
  |data h=>cases h
  |arr _ _ _ cap _ _ _=>
   cases d with
   |slice e=>
    refine⟨_,?_,.data (.int .i64 len)⟩;simp[execOp,ho,resolve,invoke,builtin,Builtin.len_,hv,yp h2,goInt]
   |_=>cases h3
end
theorem Zkp(c:EC):∀(l:List c.sem) (kk:Nat) (h:kk<l.length),(l.flatMap c.view).drop (kk*c.cells)=c.view l[kk]++(l.drop (kk+1)).flatMap c.view
 |[],kk,h=>by grind
 |x::l,0,h=>by simp
 |x::l,q+1,h=>by
  have hx:=EC.view_len c x;rw[List.flatMap_cons,List.drop_append,List.drop_of_length_le (by grind),List.nil_append,hx,show(q+1)*c.cells-c.cells=q*c.cells by grind,Zkp c l q (by grind)]
  rfl
section
variable {E:Env} {N k:Nat} {a:AF} {σ:Sto} {Q:Exit->AF->Sto->Prop} {ops:List Oper} {dr:Bool} {rest:List Oper} {acc:List Rec}
variable {d:Option Tmp} {ty:TypeId} {ps:String} {af:Array Edge} {gd:Option (Nat×Bool)}
namespace L
theorem apR{t te:TypeId}{s x:Operand}{z:Nat}{zr:List V}{ie:TI}{e:EC}{co:Option EC}{sz bytes r len:Nat}{sp':Sp}{l:List e.sem}{cs:List V}(hw:yb ops a gd=some true)(hs:ev E t a s=some (.arr r len sz))(hx:ev E t a x=some (.slice sp' (.t e l)))(ht:E.ti t=some ⟨z,zr,.slc co sz bytes⟩)(hte:E.P.underlying t=some (.slice te))(hti:E.ti te=some ie)
 (hn:zm σ.es r=some (.var cs)) (hcl:cs.length=len*sz) (hsz:Nat.beq e.cells sz=true) (hd:zw N d=true) (hby:Nat.ble bytes 128=true) (hpos:0<l.length) (hb:len+l.length<=1099511627776)
 (h2:AX E N k dr ops rest (a.put d (.arr σ.nx (len+l.length) sz)) (σ.upd 1 [(σ.nx,.var (cs++l.flatMap e.view)),(r,.gone)]) (⟨[(r,.var cs)],.arr σ.nx (len+l.length) sz,1,[(σ.nx,.var (cs++l.flatMap e.view)),(r,.gone)]⟩::acc) Q):
 AX E N k dr ops (⟨d,.call ⟨.builtin .append,#[s,x],#[t,t]⟩,ty,ps,af,gd⟩::rest) a σ acc Q:=
 AX.run 1 hw (OS.appendR rfl ht rfl hte hti (fr (by simp[Op.operands,Call.operands]) hs) (fr (by simp[Op.operands,Call.operands]) hx) hpos hcl hsz
  (by
   have h3:bytes<=128:=Nat.le_of_ble_eq_true hby;have h4:(len+l.length)*bytes<=1099511627776*128:=Nat.mul_le_mul hb h3;omega) (by omega)) ⟨hn,trivial⟩ hd h2
theorem lnR{t:TypeId}{x:Operand}{n len sz:Nat}{z:Nat}{zr:List V}{c:Option EC}{sz' by_:Nat}(hw:yb ops a gd=some true)(hx:ev E t a x=some (.arr n len sz))(ht:E.ti t=some ⟨z,zr,.slc c sz' by_⟩)(hd:zw N d=true)
 (h2:AX E N k dr ops rest (a.put d (.i len)) σ (⟨[],.i len,0,[]⟩::acc) Q):AX E N k dr ops (⟨d,.call ⟨.builtin .len,#[x],#[t]⟩,ty,ps,af,gd⟩::rest) a σ acc Q:=
 AX.run 0 hw (OS.lenR rfl ht rfl (fr (by simp[Op.operands,Call.operands]) hx)) trivial hd h2
theorem ldr{t:TypeId}{x:Operand}{i:TI}{n off:Nat}(kk:Nat){c:EC}{l:List c.sem}(hw:yb ops a gd=some true)(hx:ev E 0 a x=some (.ptr n off))(ht:E.ti t=some i)(hn:zm σ.es n=some (.var (l.flatMap c.view)))
 (hoff:off=kk*c.cells) (hlt:kk<l.length) {v:V} (hv:Zlv i (c.view l[kk])=some v) (hsz:Nat.beq i.size c.cells=true) (hd:zw N d=true)
 (h2:AX E N k dr ops rest (a.put d v) σ (⟨[(n,.var (l.flatMap c.view))],v,0,[]⟩::acc) Q):AX E N k dr ops (⟨d,.load t x,ty,ps,af,gd⟩::rest) a σ acc Q:=by
 refine L.ldb hw hx ht hn ?_ hd h2;have h0:=EC.view_len c l[kk];have h1:(l.flatMap c.view).drop off=c.view l[kk]++(l.drop (kk+1)).flatMap c.view:=by subst hoff;exact Zkp c l kk hlt
 have h3:i.size=c.cells:=Nat.eq_of_beq_eq_true hsz;rw[h1];unfold Zlv at hv ⊢;cases hb:i.desc.agg with
 |true=>
  rw[hb] at hv;simp only[cond_true,h0,h3,List.length_append,Nat.ble_eq_true_of_le (Nat.le_refl _),Option.some.injEq] at hv ⊢;rw[show Nat.ble c.cells (c.cells+((l.drop (kk+1)).flatMap c.view).length)=true from Nat.ble_eq_true_of_le (by omega)]
  grind
 |false=>
  grind
end L
end
theorem Zkm{f g:Nat->Option (Nat×Nat)}:∀(parts:List (Nat×Value)) (z:Array Value),(∀p∈parts,f p.1=g p.1)->Instr.fill f z parts=Instr.fill g z parts
 |[],z,_=>rfl
 |p::l,z,h=>by
  have h1:=h p (by simp);simp only[Instr.fill,h1];cases g p.1 with
  |none=>rfl
  |some q=>
   simp only;split
   ·rfl
   ·exact Zkm l _ fun x hx=>h x (by grind)
theorem Zo8{gs:List (Nat×Nat×Bool)}:∀{vps:List (Nat×List V)} {z cs:List V},Zkk gs z vps=some cs->∀p∈vps,p.1<gs.length
 |[],z,cs,h,p,hp=>by cases hp
 |q::l,z,cs,h,p,hp=>by
  simp only[Zkk] at h;cases hq:gs[q.1]? with
  |none=>grind
  |some r=>
   rw[hq] at h;cases hb:Nat.beq q.2.length r.2.1&&Nat.ble (r.1+q.2.length) z.length with
   |false=>grind
   |true=>
    simp only[hb,cond_true] at h;rcases List.mem_cons.1 hp with rfl|hp
    ·grind
    ·exact Zo8 h p hp
theorem Zk3{E:Env}{a:AF}:∀{ps:List (Nat×Operand)} {vps:List (Nat×List V)},Zb3 E a ps=some vps->vps.map (·.1)=ps.map (·.1)
 |[],vps,h=>by simp[Zb3] at h;grind
 |p::l,vps,h=>by
  simp only[Zb3,Option.bind_eq_some_iff,Option.map_eq_some_iff] at h;obtain⟨vc,_,r,h6,rfl⟩:=h;simp[Zk3 h6]
def Zd6(n esz:Nat)(ea:Bool):List (Nat×Nat×Bool):=(List.range n).map fun i=>(i*esz,esz,ea)
section
variable {E:Env} {N k:Nat} {o:Oper} {a:AF}
theorem OS.buildA{t:TypeId}{ps:List (Nat×Operand)}{i:TI}{n esz:Nat}{ea:Bool}{vps:List (Nat×List V)}{cs:List V}(ho:o.op= .build t ps.toArray)(ht:E.ti t=some i)(hd:i.desc= .arr n esz ea)
 (hp:Zb3 E a ps=some vps) (hf:Zkk (Zd6 n esz ea) i.zero vps=some cs):OS E N o a [] (.agg cs) [] []:=
 .pure fun g D es w act hR _ hF=>by
  obtain⟨e,ie,h1,h2,h2',_,_⟩:=Zrh ht hd;obtain⟨inf,h3,h4,z,h5,h6⟩:=Zce ht;obtain⟨h7,h8,h9⟩:=Zae h6;obtain⟨us,h10,h11,h12,h13⟩:=Ztx hR hF hp hf h7 h8 (fun i v c hv hc=>h9 g D w i v c hv hc);refine⟨.agg us.toArray,?_,.agg us cs h11 h12 h13⟩;have hb:E.P.built t ((ps.toArray.map fun x=>(x.1,act.eval x.2))).toList=some us.toArray:=by
   unfold Program.built;simp only[h3,h1,h5,h2];rw[<-h10];have e1:(ps.toArray.map fun x=>(x.1,act.eval x.2)).toList=ps.map fun x=>(x.1,act.eval x.2):=by simp
   rw[e1];have e2:z.cells.toList.toArray=z.cells:=by simp
   rw[<-e2];refine Zkm _ _ fun p hp'=> ?_;obtain⟨x,hx,rfl⟩:=List.mem_map.1 hp';have hlt:x.1<n:=by
    have hm:x.1∈vps.map (·.1):=by rw[Zk3 hp];grind
    obtain⟨y,hy,hyx⟩:=List.mem_map.1 hm;have:=Zo8 hf y hy;simp only[Zd6,List.length_map,List.length_range] at this;omega
   simp only;have:(Zd6 n esz ea)[x.1]? =some (x.1*esz,esz,ea):=by simp[Zd6,hlt]
   grind
  have hrun:=run_build (P:=E.P) w t (ps.toArray.map fun x=>(x.1,act.eval x.2)) us.toArray hb;simp only[execOp,ho,hrun,Sem.run_bind,Result.andThen_ok,Sem.run_pure]
end
section
variable {E:Env} {N k:Nat} {a:AF} {σ:Sto} {Q:Exit->AF->Sto->Prop} {ops:List Oper} {dr:Bool} {rest:List Oper} {acc:List Rec}
variable {d:Option Tmp} {ty:TypeId} {ps:String} {af:Array Edge} {gd:Option (Nat×Bool)}
theorem L.bda{t:TypeId}{pp:List (Nat×Operand)}{z:Nat}{zr:List V}{n esz:Nat}{ea:Bool}{vps:List (Nat×List V)}{cs:List V}(hw:yb ops a gd=some true)(ht:E.ti t=some ⟨z,zr,.arr n esz ea⟩)(hp:Zb3 E a pp=some vps)
 (hf:Zkk (Zd6 n esz ea) zr vps=some cs) (hd:zw N d=true) (h2:AX E N k dr ops rest (a.put d (.agg cs)) σ (⟨[],.agg cs,0,[]⟩::acc) Q):AX E N k dr ops (⟨d,.build t pp.toArray,ty,ps,af,gd⟩::rest) a σ acc Q:=
 AX.run 0 hw (OS.buildA rfl ht rfl (frP (by intro p hp;simp only[Op.operands,List.mem_map];grind) hp) hf) trivial hd h2
end
def zv(E:Env)(t:TypeId):Value:=((E.P.info? t).bind fun i=>i.zero).getD undef
section
variable {E:Env} {N k:Nat} {o:Oper} {a:AF}
theorem OS.mkI{t:TypeId}{x:Operand}{i:TI}{gs:List (Nat×Nat×Bool)}{cs:List V}(ho:o.op= .makeInterface t x)(ht:E.ti t=some i)(hd:i.desc= .strct gs)(hx:ev E 0 a x=some (.agg cs))
 (hc:(cs.all Zjv)=true):OS E N o a [] (.ifc t (cs.map V.weak)) [] []:=
 .pure fun g D es w act hR _ hF=>by
  obtain⟨fs,h1,h2⟩:=Zbv ht hd;obtain⟨vs,h9,h10,h11,h12⟩:=(z6 hx hR hF).agg_inv;refine⟨.iface t (.agg vs.toArray),?_,.data (.ifc t vs (cs.map V.weak) (by simpa using h10) h11 fun j v c hv hc'=> ?_)⟩
  ·simp only[execOp,ho,Instr.makeInterface,yp h1,Sem.run_bind,Result.andThen_ok,h9,Sem.run_pure]
  ·rw[List.getElem?_map,Option.map_eq_some_iff] at hc';obtain⟨c0,h3,rfl⟩:=hc';exact Zo2 (h12 j v c0 hv h3) (List.all_eq_true.1 hc c0 (List.mem_of_getElem? h3))
theorem OS.asY{t xt:TypeId}{x:Operand}{i:TI}{gs:List (Nat×Nat×Bool)}{cs:List V}(ho:o.op= .typeAssert x xt t true)(ht:E.ti t=some i)(hd:i.desc= .strct gs)(hx:ev E 0 a x=some (.ifc t cs)):
 OS E N o a [] (.tup [.agg cs,.bool true]) [] []:=
 .pure fun g D es w act hR _ hF=>by
  obtain⟨fs,h1,h2⟩:=Zbv ht hd;have h3:=z6 hx hR hF;generalize hv:act.eval x=v at h3;cases h3 with
  |data h3=>
   cases h3 with
   |ifc _ vs _ hl h4 h5=>
    refine⟨.tuple #[.agg vs.toArray,.bool true],?_,.tup [.agg vs.toArray,.bool true] _ rfl fun j v c hv hc=> ?_⟩
    ·simp only[execOp,ho,Instr.typeAssert,yp h1,Sem.run_bind,Result.andThen_ok,hv,Sem.run_pure,if_true]
    ·rcases j with _|_|j
     ·simp at hv hc;subst hv;subst hc;exact .agg vs cs hl h4 fun i v c h6 h7=> .data (h5 i v c h6 h7)
     ·simp at hv hc;subst hv;subst hc;exact .data (.bool true)
     ·simp at hv
theorem OS.asN{t u xt:TypeId}{x:Operand}{i:TI}{gs:List (Nat×Nat×Bool)}{cs:List V}(ho:o.op= .typeAssert x xt t true)(ht:E.ti t=some i)(hd:i.desc= .strct gs)(hx:ev E 0 a x=some (.ifc u cs))(hne:Nat.beq u t=false):
 OS E N o a [] (.tup [.raw (zv E t),.bool false]) [] []:=
 .pure fun g D es w act hR _ hF=>by
  obtain⟨fs,h1,h2⟩:=Zbv ht hd;obtain⟨inf,h6,h7,z,h8,h9⟩:=Zce ht;have hz:zv E t=z:=by simp[zv,h6,h8]
  have hut:¬u=t:=fun e=>by subst e;simp at hne
  have h3:=z6 hx hR hF;generalize hv:act.eval x=v at h3;cases h3 with
  |data h3=>
   cases h3 with
   |ifc _ vs _ hl h4 h5=>
    refine⟨.tuple #[z,.bool false],?_,.tup [z,.bool false] _ rfl fun j v c hv hc=> ?_⟩
    ·simp only[execOp,ho,Instr.typeAssert,yp h1,Sem.run_bind,Result.andThen_ok,hv,Sem.run_pure,if_true,hut,if_false,Zef h6 h8]
    ·rcases j with _|_|j
     ·simp at hv hc;subst hv;subst hc;rw[hz];exact .raw _
     ·simp at hv hc;subst hv;subst hc;exact .data (.bool false)
     ·simp at hv
end
section
variable {E:Env} {N k:Nat} {a:AF} {σ:Sto} {Q:Exit->AF->Sto->Prop} {ops:List Oper} {dr:Bool} {rest:List Oper} {acc:List Rec}
variable {d:Option Tmp} {ty:TypeId} {ps:String} {af:Array Edge} {gd:Option (Nat×Bool)}
theorem L.mki{t:TypeId}{x:Operand}{z:Nat}{zr:List V}{gs:List (Nat×Nat×Bool)}{cs:List V}(hw:yb ops a gd=some true)(ht:E.ti t=some ⟨z,zr,.strct gs⟩)(hx:ev E 0 a x=some (.agg cs))(hc:(cs.all Zjv)=true)(hd:zw N d=true)
 (h2:AX E N k dr ops rest (a.put d (.ifc t (cs.map V.weak))) σ (⟨[],.ifc t (cs.map V.weak),0,[]⟩::acc) Q):AX E N k dr ops (⟨d,.makeInterface t x,ty,ps,af,gd⟩::rest) a σ acc Q:=
 AX.run 0 hw (OS.mkI rfl ht rfl (fr (by simp[Op.operands,Call.operands]) hx) hc) trivial hd h2
theorem L.asy{t xt:TypeId}{x:Operand}{z:Nat}{zr:List V}{gs:List (Nat×Nat×Bool)}{cs:List V}(hw:yb ops a gd=some true)(ht:E.ti t=some ⟨z,zr,.strct gs⟩)(hx:ev E 0 a x=some (.ifc t cs))(hd:zw N d=true)
 (h2:AX E N k dr ops rest (a.put d (.tup [.agg cs,.bool true])) σ (⟨[],.tup [.agg cs,.bool true],0,[]⟩::acc) Q):AX E N k dr ops (⟨d,.typeAssert x xt t true,ty,ps,af,gd⟩::rest) a σ acc Q:=
 AX.run 0 hw (OS.asY rfl ht rfl (fr (by simp[Op.operands,Call.operands]) hx)) trivial hd h2
theorem L.asn{t u xt:TypeId}{x:Operand}{z:Nat}{zr:List V}{gs:List (Nat×Nat×Bool)}{cs:List V}(hw:yb ops a gd=some true)(ht:E.ti t=some ⟨z,zr,.strct gs⟩)(hx:ev E 0 a x=some (.ifc u cs))(hne:Nat.beq u t=false)(hd:zw N d=true)
 (h2:AX E N k dr ops rest (a.put d (.tup [.raw (zv E t),.bool false])) σ (⟨[],.tup [.raw (zv E t),.bool false],0,[]⟩::acc) Q):AX E N k dr ops (⟨d,.typeAssert x xt t true,ty,ps,af,gd⟩::rest) a σ acc Q:=
 AX.run 0 hw (OS.asN rfl ht rfl (fr (by simp[Op.operands,Call.operands]) hx) hne) trivial hd h2
end
def Zmz(P:Program)(t:TypeId):Bool:=match P.underlying t with|some (.func _ _ _)=>true|_=>false
theorem Zve{P:Program}{t:TypeId}(h:Zmz P t=true):∃a b c,P.underlying t=some (.func a b c):=by
 unfold Zmz at h
 grind
def Ya9:V->Option Bool
 | .nilf=>some false
 | .fn _ _ _=>some true
 |_=>none
section
variable {E:Env} {N k:Nat} {o:Oper} {a:AF}
theorem OS.fnn{t u:TypeId}{x y:Operand}{c:V}{b:Bool}(ho:o.op= .binOp .neq t x y u)(ht:Zmz E.P t=true)(hx:ev E t a x=some c)(hc:Ya9 c=some b)(hy:ev E t a y=some .nilf):OS E N o a [] (.bool b) [] []:=
 .pure fun g D es w act hR _ hF=>by
  obtain⟨p,q,r,hu⟩:=Zve ht;have h1:=z6 hx hR hF;have h2:=z6 hy hR hF;generalize hvx:act.eval x=v at h1;generalize hvy:act.eval y=v' at h2;have e2:v'= .nilFunc:=by
   cases h2 with
   |data h=>cases h
   |nilf=>rfl
  subst e2;cases c with
  |nilf=>
   simp only[Ya9,Option.some.injEq] at hc;subst hc;have e1:v= .nilFunc:=by
    cases h1 with
    |data h=>cases h
    |nilf=>rfl
   subst e1;have he:(Op.equal t .nilFunc .nilFunc).run E.P w= .ok true w:=by
    unfold Op.equal Op.maxDepth Op.equalIn;simp[yp hu]
   exact⟨.bool false,by simp[execOp,ho,eqGuard,hvx,hvy,binOp,he],.data (.bool _)⟩
  |fn f fi caps=>
   simp only[Ya9,Option.some.injEq] at hc;subst hc;obtain⟨fi',caps',e1⟩:∃fi' caps',v= .func f fi' caps':=by
    cases h1 with
    |data h=>cases h
    |fn=>simp
   subst e1;have he:(Op.equal t (.func f fi' caps') .nilFunc).run E.P w= .ok false w:=by
    unfold Op.equal Op.maxDepth Op.equalIn;simp[yp hu]
   exact⟨.bool true,by simp[execOp,ho,eqGuard,hvx,hvy,binOp,he],.data (.bool _)⟩
  |_=>cases hc
end
section
variable {E:Env} {N k:Nat} {a:AF} {σ:Sto} {Q:Exit->AF->Sto->Prop} {ops:List Oper} {dr:Bool} {rest:List Oper} {acc:List Rec}
variable {d:Option Tmp} {ty:TypeId} {ps:String} {af:Array Edge} {gd:Option (Nat×Bool)}
theorem L.fnn{t u:TypeId}{x y:Operand}{c:V}{b:Bool}(hw:yb ops a gd=some true)(ht:Zmz E.P t=true)(hx:ev E t a x=some c)(hc:Ya9 c=some b)(hy:ev E t a y=some .nilf)(hd:zw N d=true)
 (h2:AX E N k dr ops rest (a.put d (.bool b)) σ (⟨[],.bool b,0,[]⟩::acc) Q):AX E N k dr ops (⟨d,.binOp .neq t x y u,ty,ps,af,gd⟩::rest) a σ acc Q:=
 AX.run 0 hw (OS.fnn rfl ht (fr (by simp[Op.operands,Call.operands]) hx) hc (fr (by simp[Op.operands,Call.operands]) hy)) trivial hd h2
end
theorem R.same{G:Zfn}{g:Gh}{D:Nat->Prop}{es es':Es}{w:World}(h:∀n,zm es n=zm es' n)(hR:R G g D es w):R G g D es' w:=
 ⟨fun n e he=>hR.lt n e (by rw[h];exact he),fun n n' e e' b h1 h2=>hR.foots n n' e e' b (by rw[h];exact h1) (by rw[h];exact h2),fun n e he=>hR.ents n e (by rw[h];exact he),hR.fresh,hR.glob⟩
theorem Foot.same{g:Gh}{es es':Es}(h:∀n,zm es n=zm es' n):Foot g es=Foot g es':=by
 funext b;unfold Foot;simp only[h]
end Go.Ab
namespace Go.Ab
open Go
set_option linter.all false
section
variable {E:Env} {N k:Nat} {a:AF} {σ:Sto} {Q:Exit->AF->Sto->Prop} {ops:List Oper} {dr:Bool} {rest:List Oper} {acc:List Rec}
variable {d:Option Tmp} {ty:TypeId} {ps:String} {af:Array Edge} {gd:Option (Nat×Bool)}
theorem M.sb{t u:TypeId}{x y:Operand}{n m:Int}(h2:AX E N k dr ops rest (a.put d (.int .i64 (n-m))) σ (⟨[],.int .i64 (n-m),0,[]⟩::acc) Q)(hw:yb ops a gd=some true:=by rfl)(hx:ev E t a x=some (.int .i64 n):=by rfl)(hy:ev E t a y=some (.int .i64 m):=by rfl)(hd:zw N d=true:=by rfl)(h1: -9223372036854775808<=n-m/\n-m<=9223372036854775807:=by omega):
 AX E N k dr ops (⟨d,.binOp .sub t x y u,ty,ps,af,gd⟩::rest) a σ acc Q:=L.sb hw hx hy hd h1 h2
theorem M.ex{x:Operand}{ix:Nat}{cs:List V}{c:V}(h2:AX E N k dr ops rest (a.put d c) σ (⟨[],c,0,[]⟩::acc) Q)(hw:yb ops a gd=some true:=by rfl)(hx:ev E 0 a x=some (.tup cs):=by rfl)(hc:cs[ix]? =some c:=by rfl)(hd:zw N d=true:=by rfl):
 AX E N k dr ops (⟨d,.extract x ix,ty,ps,af,gd⟩::rest) a σ acc Q:=L.ex hw hx hc hd h2
theorem M.st{t:TypeId}{x y:Operand}{i:TI}{n off:Nat}{cs:List V}{c:V}{vc:List V}(h2:AX E N k dr ops rest (a.put d (.tup [])) (σ.upd 0 [(n,.var (cs.take off++vc++cs.drop (off+vc.length)))]) (⟨[(n,.var cs)],.tup [],0,[(n,.var (cs.take off++vc++cs.drop (off+vc.length)))]⟩::acc) Q)(hw:yb ops a gd=some true:=by rfl)(hx:ev E 0 a x=some (.ptr n off):=by rfl)(ht:E.ti t=some i:=by rfl)(hy:ev E t a y=some c:=by rfl)(hn:zm σ.es n=some (.var cs):=by rfl)(hc:cellsOf c=some vc:=by rfl)(hs:vc.length=i.size:=by rfl)(hb:Nat.ble (off+vc.length) cs.length=true:=by rfl)(hd:zw N d=true:=by rfl):
 AX E N k dr ops (⟨d,.store t x y,ty,ps,af,gd⟩::rest) a σ acc Q:=L.st hw hx ht hy hn hc hs hb hd h2
theorem M.s3{t:TypeId}{x y zz:Operand}{z:Nat}{zr:List V}{c:Option EC}{sz bytes:Nat}{sp:Sp}{l:SL V}{k1 k2:IntKind}(h2:AX E N k dr ops rest (a.put d (.slice .full l)) σ (⟨[],.slice .full l,0,[]⟩::acc) Q)(hw:yb ops a gd=some true:=by rfl)(hx:ev E t a x=some (.slice sp l):=by rfl)(ht:E.ti t=some ⟨z,zr,.slc c sz bytes⟩:=by rfl)(hy:ev E 0 a y=some (.int k1 l.len):=by rfl)(hz:ev E 0 a zz=some (.int k2 l.len):=by rfl)(hd:zw N d=true:=by rfl):
 AX E N k dr ops (⟨d,.slice t x none (some y) (some zz),ty,ps,af,gd⟩::rest) a σ acc Q:=L.s3 hw hx ht hy hz hd h2
theorem M.r1{rs:List ResultVar}{r:V}{cs:List V}{c1:V}(h8:(zn cs).wk=c1)(h1:Ze0 E a σ.es rs=some cs:=by with_unfolding_all rfl)(h7:vo [] r=some c1:=by with_unfolding_all rfl):
 Zff E 0 rs r ⟨0,[]⟩ .ret a σ:=K.r1 h1 h7 h8
theorem M.n1{rs:List ResultVar}{r:V}{cs:List V}{c1:V}(h8:(zn cs).wk=c1)(h1:Ze0 E a σ.es rs=some cs:=by with_unfolding_all rfl)(h7:vo [] r=some c1:=by with_unfolding_all rfl):
 Zff E 0 rs r ⟨0,[]⟩ .normal a σ:=K.n1 h1 h7 h8
theorem M.ix{t:TypeId}{x y:Operand}{z:Nat}{zr:List V}{c:Option EC}{sz bytes:Nat}{sp:Sp}{l:SL V}{n:Int}{cs:List V}{kd:IntKind}(h2:AX E N k dr ops rest (a.put d (.addr cs)) σ (⟨[],.addr cs,0,[]⟩::acc) Q)(hw:yb ops a gd=some true:=by rfl)(hx:ev E t a x=some (.slice sp l):=by rfl)(ht:E.ti t=some ⟨z,zr,.slc c sz bytes⟩:=by rfl)(hy:ev E 0 a y=some (.int kd n):=by rfl)(hn:n=0:=by rfl)(hlt:0<l.len:=by exact Nat.le_of_ble_eq_true rfl)(hk:l.get 0=some cs:=by rfl)(hsz:Nat.beq l.cells sz=true:=by rfl)(hd:zw N d=true:=by rfl):
 AX E N k dr ops (⟨d,.indexAddr t x y,ty,ps,af,gd⟩::rest) a σ acc Q:=L.ix 0 hw hx ht hy hn hlt hk hsz hd h2
theorem M.ixb{t:TypeId}{x y:Operand}{z:Nat}{zr:List V}{m esz:Nat}{ea:Bool}{p off:Nat}{n:Int}{kd:IntKind}(h2:AX E N k dr ops rest (a.put d (.ptr p (off+0*esz))) σ (⟨[],.ptr p (off+0*esz),0,[]⟩::acc) Q)(hw:yb ops a gd=some true:=by rfl)(hx:ev E 0 a x=some (.ptr p off):=by rfl)(ht:E.ti t=some ⟨z,zr,.arr m esz ea⟩:=by rfl)(hy:ev E 0 a y=some (.int kd n):=by rfl)(hn:n=0:=by rfl)(hlt:0<m:=by decide)(hd:zw N d=true:=by rfl):
 AX E N k dr ops (⟨d,.indexAddr t x y,ty,ps,af,gd⟩::rest) a σ acc Q:=L.ixb 0 hw hx ht hy hn hlt hd h2
theorem M.c2{f:FuncId}{xs:List Operand}{ts:List TypeId}{cs args:List V}{r:V}(h:PC E f args r)(h2:AX E N k dr ops rest (a.put d r) σ (⟨[],r,0,[]⟩::acc) Q)(hw:yb ops a gd=some true:=by rfl)(hx:evT E a xs ts=some cs:=by rfl)(hr:w7 [] args=some (V.wks cs):=by rfl)(hd:zw N d=true:=by rfl):
 AX E N k dr ops (⟨d,.call ⟨.value (.func f),xs.toArray,ts.toArray⟩,ty,ps,af,gd⟩::rest) a σ acc Q:=L.c2 h hw hx hr hd h2
theorem M.cb{f:FuncId}{xs:List Operand}{ts:List TypeId}{cs args:List V}{σ1 σ2:Sto}{r r':V}{pre post:Es}(h:AC E f args σ1 r σ2)(L:List Nat)(news:Nat)(h2:AX E N k dr ops rest (a.put d r') (σ.upd news post) (⟨pre,r',news,post⟩::acc) Q)(hw:yb ops a gd=some true:=by rfl)(hx:evT E a xs ts=some cs:=by rfl)(hpre:Zhb σ.es L=some pre:=by rfl)(hL:L.length=σ1.nx:=by rfl)(hn':σ2.nx=σ1.nx+news:=by rfl)(hd:yg (yl (yf L σ.nx news))=true:=by rfl)(hr:w7 (yl L) args=some (V.wks cs):=by rfl)(hin:ELe (yl L) pre σ1.es:=by((repeat'(first|exact trivial|exact Or.inl rfl|exact Or.inr ⟨_,rfl,rfl⟩|refine And.intro ?_ ?_|refine⟨_,rfl,_,rfl,_,rfl,?_⟩|refine⟨_,rfl,_,rfl,?_⟩|exact VLe.refl _|exact VLe.any _ _|exact VsLe.refl _|refine VLe.agg ?_|refine⟨_,rfl,_,_,rfl,?_,?_⟩|with_reducible exact rfl|exact Eq.refl true|refine⟨_,rfl,_,wm _ _ _,_,rfl,?_⟩|fail));all_goals fail))(hout:Zfc (yl (yf L σ.nx news)) σ2.es=some post:=by rfl)(hcov:Zdj σ2.es σ2.nx=true:=by rfl)(hr':vo (yl (yf L σ.nx news)) r=some r':=by rfl)(hdst:zw N d=true:=by rfl):
 AX E N k dr ops (⟨d,.call ⟨.value (.func f),xs.toArray,ts.toArray⟩,ty,ps,af,gd⟩::rest) a σ acc Q:=Go.Ab.L.cb2 h L news hw hx hpre hL hn' hd hr hin hout hcov hr' hdst h2
theorem M.cv{x:Operand}{f:FuncId}{fi caps:List V}{xs:List Operand}{ts:List TypeId}{cs args:List V}{σ1 σ2:Sto}{r r':V}{pre post:Es}(h:AC E f args σ1 r σ2)(L:List Nat)(news:Nat)(h2:AX E N k dr ops rest (a.put d r') (σ.upd news post) (⟨pre,r',news,post⟩::acc) Q)(hw:yb ops a gd=some true:=by rfl)(hf:ev E 0 a x=some (.fn (.func f) fi caps):=by rfl)(hx:evT E a xs ts=some cs:=by rfl)(hpre:Zhb σ.es L=some pre:=by rfl)(hL:L.length=σ1.nx:=by rfl)(hn':σ2.nx=σ1.nx+news:=by rfl)(hd:yg (yl (yf L σ.nx news))=true:=by rfl)(hr:w7 (yl L) args=some (V.wks (fi++cs++caps)):=by rfl)(hin:ELe (yl L) pre σ1.es:=by((repeat'(first|exact trivial|exact Or.inl rfl|exact Or.inr ⟨_,rfl,rfl⟩|refine And.intro ?_ ?_|refine⟨_,rfl,_,rfl,_,rfl,?_⟩|refine⟨_,rfl,_,rfl,?_⟩|exact VLe.refl _|exact VLe.any _ _|exact VsLe.refl _|refine VLe.agg ?_|refine⟨_,rfl,_,_,rfl,?_,?_⟩|with_reducible exact rfl|exact Eq.refl true|refine⟨_,rfl,_,wm _ _ _,_,rfl,?_⟩|fail));all_goals fail))(hout:Zfc (yl (yf L σ.nx news)) σ2.es=some post:=by rfl)(hcov:Zdj σ2.es σ2.nx=true:=by rfl)(hr':vo (yl (yf L σ.nx news)) r=some r':=by rfl)(hdst:zw N d=true:=by rfl):
 AX E N k dr ops (⟨d,.call ⟨.value x,xs.toArray,ts.toArray⟩,ty,ps,af,gd⟩::rest) a σ acc Q:=Go.Ab.L.cv2 h L news hw hf hx hpre hL hn' hd hr hin hout hcov hr' hdst h2
abbrev rh1:List (Option Nat):=[some 0]
abbrev rh2:List (Option Nat):=[some 0,some 1]
abbrev rh3:List (Option Nat):=[some 0,some 1,some 2]
abbrev rh4:List (Option Nat):=[some 0,some 1,some 2,some 3]
abbrev rh5:List (Option Nat):=[some 0,some 1,some 2,some 3,some 4]
abbrev rh6:List (Option Nat):=[some 0,some 1,some 2,some 3,some 4,some 5]
abbrev rn1:List (Option Nat):=[some 0,none]
abbrev rn2:List (Option Nat):=[some 0,some 1,none]
abbrev rn3:List (Option Nat):=[some 0,some 1,some 2,none]
abbrev rn4:List (Option Nat):=[some 0,some 1,some 2,some 3,none]
abbrev rn5:List (Option Nat):=[some 0,some 1,some 2,some 3,some 4,none]
abbrev rn6:List (Option Nat):=[some 0,some 1,some 2,some 3,some 4,some 5,none]
abbrev rn7:List (Option Nat):=[some 0,some 1,some 2,some 3,some 4,some 5,some 6,none]
abbrev rn8:List (Option Nat):=[some 0,some 1,some 2,some 3,some 4,some 5,some 6,some 7,none]
abbrev rn9:List (Option Nat):=[some 0,some 1,some 2,some 3,some 4,some 5,some 6,some 7,some 8,none]
abbrev Ylx:List (Option Nat):=[some 0,some 1,some 2,some 3,some 4,some 5,some 6,some 7,some 8,some 9,none]
theorem M.W(ρ:List (Option Nat)){a2:AF}{es2:Es}{nx2:Nat}(hf:FLe ρ a a2:=by((repeat'(first|exact trivial|exact Or.inl rfl|exact Or.inr ⟨_,rfl,rfl⟩|refine And.intro ?_ ?_|refine⟨_,rfl,_,rfl,_,rfl,?_⟩|refine⟨_,rfl,_,rfl,?_⟩|exact VLe.refl _|exact VLe.any _ _|exact VsLe.refl _|refine VLe.agg ?_|refine⟨_,rfl,_,_,rfl,?_,?_⟩|with_reducible exact rfl|exact Eq.refl true|refine⟨_,rfl,_,wm _ _ _,_,rfl,?_⟩|fail));all_goals fail))(he:ELe ρ σ.es es2:=by((repeat'(first|exact trivial|exact Or.inl rfl|exact Or.inr ⟨_,rfl,rfl⟩|refine And.intro ?_ ?_|refine⟨_,rfl,_,rfl,_,rfl,?_⟩|refine⟨_,rfl,_,rfl,?_⟩|exact VLe.refl _|exact VLe.any _ _|exact VsLe.refl _|refine VLe.agg ?_|refine⟨_,rfl,_,_,rfl,?_,?_⟩|with_reducible exact rfl|exact Eq.refl true|refine⟨_,rfl,_,wm _ _ _,_,rfl,?_⟩|fail));all_goals fail))(hnx:nx2=ρ.length:=by rfl)(hid:Zuw 0 k ρ=true:=by rfl)(hd:yg ρ=true:=by rfl)(hb:below σ.nx ρ=true:=by rfl):Weak E N k a σ a2 ⟨nx2,es2⟩:=Weak.mk ρ a2 es2 nx2 hnx hid hd hb hf he
theorem M.r2{rs:List ResultVar}{r:V}{σ':Sto}{cs:List V}{c1:V}(ρ:List (Option Nat))(h1:Ze0 E a σ.es rs=some cs:=by rfl)(h2:ρ.length=σ'.nx:=by rfl)(h3:Zuw 0 k ρ=true:=by rfl)(h4:yg ρ=true:=by rfl)(h5:below σ.nx ρ=true:=by rfl)(h6:ELe ρ σ.es σ'.es:=by((repeat'(first|exact trivial|exact Or.inl rfl|exact Or.inr ⟨_,rfl,rfl⟩|refine And.intro ?_ ?_|refine⟨_,rfl,_,rfl,_,rfl,?_⟩|refine⟨_,rfl,_,rfl,?_⟩|exact VLe.refl _|exact VLe.any _ _|exact VsLe.refl _|refine VLe.agg ?_|refine⟨_,rfl,_,_,rfl,?_,?_⟩|with_reducible exact rfl|exact Eq.refl true|refine⟨_,rfl,_,wm _ _ _,_,rfl,?_⟩|fail));all_goals fail))(h7:vo ρ r=some c1:=by rfl)(h8:(zn cs).wk=c1):
 Zff E k rs r σ' .ret a σ:=Go.Ab.K.r2 ρ h1 h2 h3 h4 h5 h6 h7 h8
theorem M.n2{rs:List ResultVar}{r:V}{σ':Sto}{cs:List V}{c1:V}(ρ:List (Option Nat))(h1:Ze0 E a σ.es rs=some cs:=by rfl)(h2:ρ.length=σ'.nx:=by rfl)(h3:Zuw 0 k ρ=true:=by rfl)(h4:yg ρ=true:=by rfl)(h5:below σ.nx ρ=true:=by rfl)(h6:ELe ρ σ.es σ'.es:=by((repeat'(first|exact trivial|exact Or.inl rfl|exact Or.inr ⟨_,rfl,rfl⟩|refine And.intro ?_ ?_|refine⟨_,rfl,_,rfl,_,rfl,?_⟩|refine⟨_,rfl,_,rfl,?_⟩|exact VLe.refl _|exact VLe.any _ _|exact VsLe.refl _|refine VLe.agg ?_|refine⟨_,rfl,_,_,rfl,?_,?_⟩|with_reducible exact rfl|exact Eq.refl true|refine⟨_,rfl,_,wm _ _ _,_,rfl,?_⟩|fail));all_goals fail))(h7:vo ρ r=some c1:=by rfl)(h8:(zn cs).wk=c1):
 Zff E k rs r σ' .normal a σ:=Go.Ab.K.n2 ρ h1 h2 h3 h4 h5 h6 h7 h8
structure M.Hid (R:Prop):Prop where
 out:R
theorem M.gk{P R:Prop}(k:R)(h:M.Hid R->P:=by(intro k;(first|with_reducible refine K.tN ?_|with_reducible refine K.bN ?_|with_reducible refine K.tR ?_|with_reducible refine K.bR ?_|with_reducible refine K.gR ?_|with_reducible refine K.dR ?_|with_reducible refine K.cR ?_|with_reducible refine K.lR ?_|with_reducible refine K.tE ?_|with_reducible refine K.bX (by with_unfolding_all rfl) ?_|with_reducible refine K.bO (by with_unfolding_all rfl) ?_|with_reducible refine K.gE (by with_unfolding_all rfl) ?_|with_reducible refine K.gO (by with_unfolding_all rfl) ?_|with_reducible refine K.cE ?_|with_reducible refine K.lE ?_|with_reducible refine K.r1 (by with_unfolding_all rfl) (by with_unfolding_all rfl) ?_|with_reducible refine K.n1 (by with_unfolding_all rfl) (by with_unfolding_all rfl) ?_|with_reducible refine K.hR ?_|with_reducible refine K.tG ?_|with_reducible refine K.bG ?_|with_reducible refine K.fR ?_|with_reducible refine K.pR ?_|with_reducible refine K.uR ?_|with_reducible refine K.uE ?_|fail);exact M.Hid.out k)):P:=h ⟨k⟩
theorem M.go{P R:Prop}(k:R)(h:M.Hid R->P:=by(intro k;repeat1' (first|((with_reducible refine D.ax ?_);first|((with_reducible refine D.load ?_);first|refine L.ldb rfl rfl rfl rfl rfl rfl ?_|refine L.lda rfl rfl rfl rfl rfl ?_|refine AX.sk rfl rfl ?_|fail)|((with_reducible refine D.move ?_);first|refine L.mv rfl rfl rfl ?_|refine AX.sk rfl rfl ?_|fail)|((with_reducible refine D.fieldAddr ?_);first|refine L.fab rfl rfl rfl rfl rfl ?_|refine L.faa rfl rfl rfl rfl rfl rfl ?_|refine AX.sk rfl rfl ?_|fail)|((with_reducible refine D.assign ?_);first|refine L.asg rfl rfl rfl ?_|refine AX.sk rfl rfl ?_|fail)|((with_reducible refine D.bin ?_);first|refine L.ad rfl rfl rfl rfl (by omega) ?_|refine L.sb rfl rfl rfl rfl (by omega) ?_|refine L.ml rfl rfl rfl rfl (by first|omega|assumption) ?_|refine L.rm rfl rfl rfl rfl (by omega) ?_|refine L.bn rfl rfl rfl rfl rfl ?_|refine AX.sk rfl rfl ?_|refine L.be rfl rfl rfl rfl rfl ?_|refine L.bnq rfl rfl rfl rfl rfl ?_|refine L.fnn rfl (by kernel_rfl) rfl rfl rfl rfl ?_|refine L.qu8 rfl rfl rfl rfl (by first|assumption|omega) (by omega) ?_|refine L.bpr 3 rfl rfl rfl (by kernel_rfl) (by kernel_rfl) (by kernel_rfl) (by kernel_rfl) (by kernel_rfl) rfl ?_|fail)|((with_reducible refine D.call ?_);first|refine L.lnt rfl rfl rfl rfl ?_|refine L.ln rfl rfl rfl rfl ?_|refine L.apt rfl rfl rfl rfl rfl rfl (by first|exact trivial|exact⟨rfl,trivial⟩) rfl rfl (by first|omega|(simp;omega)) ?_|refine L.aptF rfl rfl rfl rfl (by first|assumption|simp) rfl rfl rfl (by first|omega|(simp;omega)) ?_|refine AX.sk rfl rfl ?_|refine L.apE rfl rfl rfl rfl rfl rfl rfl ?_|refine L.lnm rfl rfl rfl rfl rfl ?_|refine L.mn rfl rfl rfl rfl ?_|refine L.mx rfl rfl rfl rfl ?_|refine L.apt9 rfl rfl rfl rfl rfl rfl (by first|exact trivial|exact⟨rfl,trivial⟩) rfl rfl (by first|omega|(simp;omega)) ?_|refine L.aptF9 rfl rfl rfl rfl (by first|assumption|simp) rfl rfl rfl (by first|omega|(simp;omega)) ?_|fail)|((with_reducible refine D.extract ?_);first|refine L.ex rfl rfl rfl rfl ?_|refine AX.sk rfl rfl ?_|fail)|((with_reducible refine D.box ?_);first|refine L.bx rfl rfl rfl rfl ?_|refine AX.sk rfl rfl ?_|fail)|((with_reducible refine D.alloc ?_);first|refine L.al rfl rfl rfl ?_|refine AX.sk rfl rfl ?_|fail)|((with_reducible refine D.store ?_);first|refine L.st rfl rfl rfl rfl rfl rfl rfl rfl rfl ?_|refine AX.sk rfl rfl ?_|fail)|((with_reducible refine D.indexAddr ?_);first|refine L.ixt _ rfl rfl rfl rfl rfl rfl rfl (by first|assumption|omega|(simp only[Ty.args_mk,Tm.args_mk,List.length_cons,List.length_nil,List.getElem_cons_zero,List.getElem_cons_succ];omega)|(simp at*;omega)|(simp;done)|contradiction) ?_|refine L.ixt 0 rfl rfl rfl rfl rfl rfl rfl (by first|assumption|omega|(simp only[Ty.args_mk,Tm.args_mk,List.length_cons,List.length_nil,List.getElem_cons_zero,List.getElem_cons_succ];omega)|(simp at*;omega)|(simp;done)|contradiction) ?_|refine L.ixt 1 rfl rfl rfl rfl rfl rfl rfl (by first|assumption|omega|(simp only[Ty.args_mk,Tm.args_mk,List.length_cons,List.length_nil,List.getElem_cons_zero,List.getElem_cons_succ];omega)|(simp at*;omega)|(simp;done)|contradiction) ?_|refine L.ixt 2 rfl rfl rfl rfl rfl rfl rfl (by first|assumption|omega|(simp only[Ty.args_mk,Tm.args_mk,List.length_cons,List.length_nil,List.getElem_cons_zero,List.getElem_cons_succ];omega)|(simp at*;omega)|(simp;done)|contradiction) ?_|refine AX.sk rfl rfl ?_|refine L.ixb 0 rfl rfl rfl rfl rfl (by decide) rfl ?_|refine L.ixb 1 rfl rfl rfl rfl rfl (by decide) rfl ?_|refine L.ixb 2 rfl rfl rfl rfl rfl (by decide) rfl ?_|refine L.ix 0 rfl rfl rfl rfl rfl (Nat.le_of_ble_eq_true rfl) rfl rfl rfl ?_|refine L.ix 1 rfl rfl rfl rfl rfl (Nat.le_of_ble_eq_true rfl) rfl rfl rfl ?_|refine L.ix 2 rfl rfl rfl rfl rfl (Nat.le_of_ble_eq_true rfl) rfl rfl rfl ?_|fail)|((with_reducible refine D.not ?_);first|refine L.nt rfl rfl rfl ?_|refine AX.sk rfl rfl ?_|refine L.ng rfl rfl rfl (by omega) ?_|fail)|((with_reducible refine D.field ?_);first|refine L.fd rfl rfl rfl rfl rfl rfl ?_|refine AX.sk rfl rfl ?_|fail)|((with_reducible refine D.pick ?_);first|refine L.pk rfl rfl rfl rfl ?_|refine AX.sk rfl rfl ?_|fail)|((fail_if_success (first|with_reducible refine D.assign ?_|with_reducible refine D.load ?_|with_reducible refine D.move ?_|with_reducible refine D.call ?_|with_reducible refine D.fieldAddr ?_|with_reducible refine D.bin ?_|with_reducible refine D.store ?_|with_reducible refine D.extract ?_|with_reducible refine D.pick ?_|with_reducible refine D.indexAddr ?_|with_reducible refine D.not ?_|with_reducible refine D.field ?_|with_reducible refine D.box ?_|with_reducible refine D.alloc ?_));first|refine L.nc rfl rfl rfl rfl ?_|refine L.bd rfl rfl rfl rfl rfl ?_|refine L.bs1 rfl rfl rfl rfl rfl (EC.fold_of rfl) rfl rfl ?_|refine L.bs1 rfl rfl rfl rfl rfl rfl rfl rfl ?_|refine L.bs2 rfl rfl rfl rfl rfl (EC.fold_of rfl) rfl rfl rfl (EC.fold_of rfl) rfl rfl ?_|refine L.bs2 rfl rfl rfl rfl rfl rfl rfl rfl rfl rfl rfl rfl ?_|refine L.bs3 rfl rfl rfl rfl rfl (EC.fold_of rfl) rfl rfl rfl (EC.fold_of rfl) rfl rfl rfl (EC.fold_of rfl) rfl rfl ?_|refine L.bs3 rfl rfl rfl rfl rfl rfl rfl rfl rfl rfl rfl rfl rfl rfl rfl rfl ?_|refine L.bs 0 rfl rfl rfl rfl rfl rfl rfl rfl rfl rfl ?_|refine L.mf rfl rfl rfl rfl ?_|refine L.s3 rfl rfl rfl rfl rfl rfl ?_|refine AX.sk rfl rfl ?_|refine L.sl rfl rfl rfl rfl rfl rfl rfl (by first|omega|(simp only[List.length_cons,List.length_nil];omega)|(simp;omega)|simp) ?_|refine L.cvi rfl rfl rfl rfl rfl (by omega) ?_|refine L.mmT rfl rfl rfl rfl rfl ?_|refine L.mmB rfl rfl rfl rfl rfl ?_|refine L.lkuT rfl rfl rfl rfl rfl rfl (by first|assumption|rfl) (by first|assumption|rfl) rfl ?_|refine L.lkn rfl rfl rfl rfl rfl rfl (by first|assumption|rfl) rfl rfl rfl ?_|refine L.muT rfl rfl rfl rfl rfl rfl (EC.fold_of rfl) rfl rfl ?_|refine L.muT rfl rfl rfl rfl rfl rfl rfl rfl rfl ?_|refine L.muB rfl rfl rfl rfl rfl rfl rfl rfl ?_|refine L.bda rfl rfl rfl rfl rfl ?_|refine L.mki rfl rfl rfl rfl rfl ?_|refine L.asy rfl rfl rfl rfl ?_|refine L.asn rfl rfl rfl rfl rfl ?_|fail)|fail)|((with_reducible refine D.nil ?_);first|refine AX.nilL ?_|refine AX.nilD (by kernel_rfl) ?_|fail)|fail);exact M.Hid.out k)):P:=h ⟨k⟩
theorem M.gw{P R:Prop}(k:R)(h:M.Hid R->P:=by(intro k;repeat1' (first|((with_reducible refine D.ax ?_);first|((with_reducible refine D.load ?_);first|refine L.ldb rfl rfl rfl rfl rfl rfl ?_|refine L.lda rfl rfl rfl rfl rfl ?_|refine AX.sk rfl rfl ?_|fail)|((with_reducible refine D.move ?_);first|refine L.mv rfl rfl rfl ?_|refine AX.sk rfl rfl ?_|fail)|((with_reducible refine D.fieldAddr ?_);first|refine L.fab rfl rfl rfl rfl rfl ?_|refine L.faa rfl rfl rfl rfl rfl rfl ?_|refine AX.sk rfl rfl ?_|fail)|((with_reducible refine D.assign ?_);first|refine L.asg rfl rfl rfl ?_|refine AX.sk rfl rfl ?_|fail)|((with_reducible refine D.bin ?_);first|refine L.ad rfl rfl rfl rfl (by omega) ?_|refine L.sb rfl rfl rfl rfl (by omega) ?_|refine L.ml rfl rfl rfl rfl (by first|omega|assumption) ?_|refine L.rm rfl rfl rfl rfl (by omega) ?_|refine L.bn rfl rfl rfl rfl rfl ?_|refine AX.sk rfl rfl ?_|refine L.be rfl rfl rfl rfl rfl ?_|refine L.bnq rfl rfl rfl rfl rfl ?_|refine L.fnn rfl (by kernel_rfl) rfl rfl rfl rfl ?_|refine L.qu8 rfl rfl rfl rfl (by first|assumption|omega) (by omega) ?_|refine L.bpr 3 rfl rfl rfl (by kernel_rfl) (by kernel_rfl) (by kernel_rfl) (by kernel_rfl) (by kernel_rfl) rfl ?_|fail)|((with_reducible refine D.call ?_);first|refine L.lnt rfl rfl rfl rfl ?_|refine L.ln rfl rfl rfl rfl ?_|refine L.apt rfl rfl rfl rfl rfl rfl (by first|exact trivial|exact⟨rfl,trivial⟩) rfl rfl (by first|omega|(simp;omega)) ?_|refine L.aptF rfl rfl rfl rfl (by first|assumption|simp) rfl rfl rfl (by first|omega|(simp;omega)) ?_|refine AX.sk rfl rfl ?_|refine L.apE rfl rfl rfl rfl rfl rfl rfl ?_|refine L.lnm rfl rfl rfl rfl rfl ?_|refine L.mn rfl rfl rfl rfl ?_|refine L.mx rfl rfl rfl rfl ?_|refine L.apt9 rfl rfl rfl rfl rfl rfl (by first|exact trivial|exact⟨rfl,trivial⟩) rfl rfl (by first|omega|(simp;omega)) ?_|refine L.aptF9 rfl rfl rfl rfl (by first|assumption|simp) rfl rfl rfl (by first|omega|(simp;omega)) ?_|fail)|((with_reducible refine D.extract ?_);first|refine L.ex rfl rfl rfl rfl ?_|refine AX.sk rfl rfl ?_|fail)|((with_reducible refine D.box ?_);first|refine L.bx rfl rfl rfl rfl ?_|refine AX.sk rfl rfl ?_|fail)|((with_reducible refine D.alloc ?_);first|refine L.al rfl rfl rfl ?_|refine AX.sk rfl rfl ?_|fail)|((with_reducible refine D.store ?_);first|refine L.st rfl rfl rfl rfl rfl rfl rfl rfl rfl ?_|refine AX.sk rfl rfl ?_|fail)|((with_reducible refine D.indexAddr ?_);first|refine L.ixt _ rfl rfl rfl rfl rfl rfl rfl (by first|assumption|omega|(simp only[Ty.args_mk,Tm.args_mk,List.length_cons,List.length_nil,List.getElem_cons_zero,List.getElem_cons_succ];omega)|(simp at*;omega)|(simp;done)|contradiction) ?_|refine L.ixt 0 rfl rfl rfl rfl rfl rfl rfl (by first|assumption|omega|(simp only[Ty.args_mk,Tm.args_mk,List.length_cons,List.length_nil,List.getElem_cons_zero,List.getElem_cons_succ];omega)|(simp at*;omega)|(simp;done)|contradiction) ?_|refine L.ixt 1 rfl rfl rfl rfl rfl rfl rfl (by first|assumption|omega|(simp only[Ty.args_mk,Tm.args_mk,List.length_cons,List.length_nil,List.getElem_cons_zero,List.getElem_cons_succ];omega)|(simp at*;omega)|(simp;done)|contradiction) ?_|refine L.ixt 2 rfl rfl rfl rfl rfl rfl rfl (by first|assumption|omega|(simp only[Ty.args_mk,Tm.args_mk,List.length_cons,List.length_nil,List.getElem_cons_zero,List.getElem_cons_succ];omega)|(simp at*;omega)|(simp;done)|contradiction) ?_|refine AX.sk rfl rfl ?_|refine L.ixb 0 rfl rfl rfl rfl rfl (by decide) rfl ?_|refine L.ixb 1 rfl rfl rfl rfl rfl (by decide) rfl ?_|refine L.ixb 2 rfl rfl rfl rfl rfl (by decide) rfl ?_|refine L.ix 0 rfl rfl rfl rfl rfl (Nat.le_of_ble_eq_true rfl) rfl rfl rfl ?_|refine L.ix 1 rfl rfl rfl rfl rfl (Nat.le_of_ble_eq_true rfl) rfl rfl rfl ?_|refine L.ix 2 rfl rfl rfl rfl rfl (Nat.le_of_ble_eq_true rfl) rfl rfl rfl ?_|fail)|((with_reducible refine D.not ?_);first|refine L.nt rfl rfl rfl ?_|refine AX.sk rfl rfl ?_|refine L.ng rfl rfl rfl (by omega) ?_|fail)|((with_reducible refine D.field ?_);first|refine L.fd rfl rfl rfl rfl rfl rfl ?_|refine AX.sk rfl rfl ?_|fail)|((with_reducible refine D.pick ?_);first|refine L.pk rfl rfl rfl rfl ?_|refine AX.sk rfl rfl ?_|fail)|((fail_if_success (first|with_reducible refine D.assign ?_|with_reducible refine D.load ?_|with_reducible refine D.move ?_|with_reducible refine D.call ?_|with_reducible refine D.fieldAddr ?_|with_reducible refine D.bin ?_|with_reducible refine D.store ?_|with_reducible refine D.extract ?_|with_reducible refine D.pick ?_|with_reducible refine D.indexAddr ?_|with_reducible refine D.not ?_|with_reducible refine D.field ?_|with_reducible refine D.box ?_|with_reducible refine D.alloc ?_));first|refine L.nc rfl rfl rfl rfl ?_|refine L.bd rfl rfl rfl rfl rfl ?_|refine L.bs1 rfl rfl rfl rfl rfl (EC.fold_of rfl) rfl rfl ?_|refine L.bs1 rfl rfl rfl rfl rfl rfl rfl rfl ?_|refine L.bs2 rfl rfl rfl rfl rfl (EC.fold_of rfl) rfl rfl rfl (EC.fold_of rfl) rfl rfl ?_|refine L.bs2 rfl rfl rfl rfl rfl rfl rfl rfl rfl rfl rfl rfl ?_|refine L.bs3 rfl rfl rfl rfl rfl (EC.fold_of rfl) rfl rfl rfl (EC.fold_of rfl) rfl rfl rfl (EC.fold_of rfl) rfl rfl ?_|refine L.bs3 rfl rfl rfl rfl rfl rfl rfl rfl rfl rfl rfl rfl rfl rfl rfl rfl ?_|refine L.bs 0 rfl rfl rfl rfl rfl rfl rfl rfl rfl rfl ?_|refine L.mf rfl rfl rfl rfl ?_|refine L.s3 rfl rfl rfl rfl rfl rfl ?_|refine AX.sk rfl rfl ?_|refine L.sl rfl rfl rfl rfl rfl rfl rfl (by first|omega|(simp only[List.length_cons,List.length_nil];omega)|(simp;omega)|simp) ?_|refine L.cvi rfl rfl rfl rfl rfl (by omega) ?_|refine L.mmT rfl rfl rfl rfl rfl ?_|refine L.mmB rfl rfl rfl rfl rfl ?_|refine L.lkuT rfl rfl rfl rfl rfl rfl (by first|assumption|rfl) (by first|assumption|rfl) rfl ?_|refine L.lkn rfl rfl rfl rfl rfl rfl (by first|assumption|rfl) rfl rfl rfl ?_|refine L.muT rfl rfl rfl rfl rfl rfl (EC.fold_of rfl) rfl rfl ?_|refine L.muT rfl rfl rfl rfl rfl rfl rfl rfl rfl ?_|refine L.muB rfl rfl rfl rfl rfl rfl rfl rfl ?_|refine L.bda rfl rfl rfl rfl rfl ?_|refine L.mki rfl rfl rfl rfl rfl ?_|refine L.asy rfl rfl rfl rfl ?_|refine L.asn rfl rfl rfl rfl rfl ?_|fail)|fail)|((with_reducible refine D.nil ?_);first|refine AX.nilL ?_|refine AX.nilD (by kernel_rfl) ?_|fail)|((with_reducible refine D.aw ?_);first|refine K.sq (AW.regL ?_)|refine K.sq (AW.regD mixed (by kernel_rfl) ?_)|refine K.sq (K.sq ?_)|refine AW.regL ?_|refine AW.regD mixed (by kernel_rfl) ?_|refine K.sq (AW.condT rfl ?_)|refine K.sq (AW.condF rfl ?_)|refine AW.condT rfl ?_|refine AW.condF rfl ?_|refine AW.skip ?_|refine AW.ret ?_|refine AW.exit ?_|refine K.sq (AW.label ?_)|refine AW.label ?_|refine AW.goto ?_|fail)|with_reducible refine K.tN ?_|with_reducible refine K.bN ?_|with_reducible refine K.tR ?_|with_reducible refine K.bR ?_|with_reducible refine K.gR ?_|with_reducible refine K.dR ?_|with_reducible refine K.cR ?_|with_reducible refine K.lR ?_|with_reducible refine K.tE ?_|with_reducible refine K.bX (by with_unfolding_all rfl) ?_|with_reducible refine K.bO (by with_unfolding_all rfl) ?_|with_reducible refine K.gE (by with_unfolding_all rfl) ?_|with_reducible refine K.gO (by with_unfolding_all rfl) ?_|with_reducible refine K.cE ?_|with_reducible refine K.lE ?_|with_reducible refine K.r1 (by with_unfolding_all rfl) (by with_unfolding_all rfl) ?_|with_reducible refine K.n1 (by with_unfolding_all rfl) (by with_unfolding_all rfl) ?_|with_reducible refine K.hR ?_|with_reducible refine K.tG ?_|with_reducible refine K.bG ?_|with_reducible refine K.fR ?_|with_reducible refine K.pR ?_|with_reducible refine K.uR ?_|with_reducible refine K.uE ?_|fail);exact M.Hid.out k)):P:=h ⟨k⟩
theorem M.F{f:FuncId}{fn:Func}{c:Code}{args:List V}{r:V}{σ':Sto}{rs:List ResultVar}(hf:E.P.funcs[f]? =some fn)(h:AW E N σ.nx c (Yit 0 args) σ (Zff E σ.nx rs r σ'))(hb:fn.body=some c:=by rfl)(hname:(fn.name== "runtime.NumGoroutine")=false:=by rfl)(hN:fn.ntmps=N:=by rfl)(hrs:fn.results=rs.toArray:=by rfl)(hargs:Nat.ble args.length N=true:=by rfl)(hnx:σ.nx<=σ'.nx:=by exact Nat.le_of_ble_eq_true rfl)(hY:E.Y=[]:=by rfl):
 AC E f args σ r σ':=Go.Ab.AC.mk hf hb hname hN hrs hargs hnx h hY
end
variable {E:Env} {N:Nat} {k:Nat}
theorem Zu7{g:Gh}{D:Nat->Prop}{w:World}:∀{cs:List V} {vcs:List (List V)},Zkh cellsOf cs=some vcs->∀{vs:List Value},vs.length=cs.length->
 (∀(i:Nat) v c,vs[i]? =some v->cs[i]? =some c->VRel g D w v c)->
 (∀v∈(vs.map fun v=>v.cells.toList).flatten,v.oneCell'=true)/\(vs.map fun v=>v.cells.toList).flatten.length=vcs.flatten.length/\
 ∀(i:Nat) v c,(vs.map fun v=>v.cells.toList).flatten[i]? =some v->vcs.flatten[i]? =some c->VRel g D w v c:=by
 intro cs;induction cs with
 |nil=>
  intro vcs hm vs hl h;simp[Zkh] at hm
  grind
 |cons c cs ih=>
  intro vcs hm vs hl h;cases vs with
  |nil=>grind
  |cons v vs=>
   simp only[Zkh,Option.bind_eq_some_iff,Option.map_eq_some_iff] at hm;obtain⟨vc,h1,ys,h2,rfl⟩:=hm;obtain⟨us,e1,e2,e3,e4⟩:=Zag h1 (h 0 v c rfl rfl);obtain⟨i1,i2,i3⟩:=ih h2 (vs:=vs) (by grind) (fun i v c hv hc=>h (i+1) v c (by grind) (by grind));have e5:v.cells.toList=us:=by rw[e1]
   simp only[List.map_cons,List.flatten_cons,e5];refine⟨fun x hx=> ?_,by grind,fun i x y hx hy=> ?_⟩;all_goals grind
section
variable {o:Oper} {a:AF}
theorem OS.bslG{t:TypeId}{n m:Nat}{xs:List Operand}{i:TI}{c:Option EC}{sz bytes:Nat}{cs:List V}{vcs:List (List V)}
 (ho:o.op= .buildSlice t n (xs.zipIdx.map fun x=>(x.2,x.1)).toArray) (hn:xs.length=n) (ht:E.ti t=some i) (hd:i.desc= .slc c sz bytes)
 (hrel:∀{g:Gh} {D:Nat->Prop} {es:Es} {w:World} {act:Act},R E.G g D es w->FRel g D w N act a->(xs.map act.eval).length=cs.length/\∀(i:Nat) v c,(xs.map act.eval)[i]? =some v->cs[i]? =some c->VRel g D w v c) (hcs:Zkh cellsOf cs=some vcs)
 (hsz:(vcs.all fun vc=>Nat.beq vc.length sz)=true) (hb:Nat.ble (n*sz) 16777216=true):OS E N o a [] (.arr m n sz) [m] [(m,.var vcs.flatten)]:=
 .of_run fun g D es w act hR _ hnm hF=>by
  obtain⟨e,inf,z,h1,h2,h3,h4,h5,h6,h7,h8⟩:=Zcf ht hd;obtain⟨h9,h10⟩:=hrel hR hF;have hsz':∀vc∈vcs,vc.length=sz:=fun vc hvc=>Nat.eq_of_beq_eq_true (List.all_eq_true.1 hsz vc hvc);obtain⟨h11,h12⟩:=Zj4 hcs h9 h10 hsz';obtain⟨f1,f2,f3⟩:=Zu7 hcs h9 h10;have hvl:=(Zfr hcs).1;have hlen:(xs.map act.eval).length=n:=by grind
  have hvn:vcs.length=n:=by omega
  have hflat:=Zt1 (sz:=sz) (vcs:=(xs.map act.eval).map fun v=>v.cells.toList) (fun vc hvc=>by
   grind)
  simp only[List.length_map,hn] at hflat;obtain⟨hR',hx⟩:=hR.boxR (hnm m (by simp)) (some ⟨w.heap.size,0,n,sz,0⟩) (vs:=((xs.map act.eval).map fun v=>v.cells.toList).flatten) (cs:=vcs.flatten) e (by omega) f1 f3
   (fun r hr=>by grind)
  refine⟨_,.slice (some ⟨w.heap.size,0,none⟩) n n,_,?_,hR'.more (fun i hi=>by grind),?_,hx⟩
  ·have hb':¬(n*sz>16777216):=by simp_all
   have hparts:((xs.zipIdx.map fun x=>(x.2,x.1)).toArray.map fun x=>(x.1,act.eval x.2)).toList=((xs.map act.eval).zipIdx 0).map fun(v,i)=>(i,v):=by
    simp[List.zipIdx_map]
   have key:∀cells:Array Value,cells.size=n*sz->Instr.fill (fun i=>some (i*sz,sz)) cells ((xs.zipIdx.map fun x=>(x.2,x.1)).toArray.map fun x=>(x.1,act.eval x.2)).toList=
    some (((xs.map act.eval).map fun v=>v.cells.toList).flatten).toArray:=by
    intro cells hcells;rw[hparts,Ztj (xs.map act.eval) 0 cells h11 (by grind)]
    grind
   simp only[execOp,ho,Instr.buildSlice,yp h1,Sem.run_bind,Result.andThen_ok,x8 h2,h3,hb',if_false];by_cases hz:n*sz=0
   ·rw[if_pos hz];simp only[Sem.run_bind,Sem.run_pure,Result.andThen_ok];rw[key _ (by simp)]
    rfl
   ·rw[if_neg hz];simp only[Sem.run_bind,Zef h2 h5,Result.andThen_ok,Sem.run_pure];rw[key _ (by simp)]
    rfl
  ·exact Zrk D g m _ (Nat.le_refl _)
theorem OS.bslA{t:TypeId}{n m:Nat}{xs:List Operand}{i:TI}{c:Option EC}{sz bytes:Nat}{et:TypeId}{cs:List V}{vcs:List (List V)}
 (ho:o.op= .buildSlice t n (xs.zipIdx.map fun x=>(x.2,x.1)).toArray) (hn:xs.length=n) (ht:E.ti t=some i) (hd:i.desc= .slc c sz bytes) (hev:evs E et a xs=some cs) (hcs:Zkh cellsOf cs=some vcs)
 (hsz:(vcs.all fun vc=>Nat.beq vc.length sz)=true) (hb:Nat.ble (n*sz) 16777216=true):OS E N o a [] (.arr m n sz) [m] [(m,.var vcs.flatten)]:=
 OS.bslG ho hn ht hd (fun hR hF=>Zlx hev hR hF) hcs hsz hb
end
section
variable {dr:Bool} {ops rest:List Oper} {a:AF} {σ:Sto} {acc:List Rec} {Q:Exit->AF->Sto->Prop}
variable {d:Option Tmp} {ty:TypeId} {ps:String} {af:Array Edge} {gd:Option (Nat×Bool)}
theorem L.bsA{t:TypeId}{n:Nat}{pp:List (Nat×Operand)}{z:Nat}{zr:List V}{c:Option EC}{sz bytes:Nat}{cs:List V}{vcs:List (List V)}(et:TypeId)(hw:yb ops a gd=some true)(ht:E.ti t=some ⟨z,zr,.slc c sz bytes⟩)
 (hpp:pp=(pp.map Prod.snd).zipIdx.map fun x=>(x.2,x.1)) (hn:(pp.map Prod.snd).length=n) (hev:evs E et a (pp.map Prod.snd)=some cs) (hcs:Zkh cellsOf cs=some vcs)
 (hsz:(vcs.all fun vc=>Nat.beq vc.length sz)=true) (hb:Nat.ble (n*sz) 16777216=true) (hd:zw N d=true)
 (h2:AX E N k dr ops rest (a.put d (.arr σ.nx n sz)) (σ.upd 1 [(σ.nx,.var vcs.flatten)]) (⟨[],.arr σ.nx n sz,1,[(σ.nx,.var vcs.flatten)]⟩::acc) Q):
 AX E N k dr ops (⟨d,.buildSlice t n pp.toArray,ty,ps,af,gd⟩::rest) a σ acc Q:=
 AX.run 1 hw (OS.bslA (et:=et) (by grind) hn ht rfl (frs (by intro x hx;simpa[Op.operands] using hx) hev) hcs hsz hb) trivial hd h2
theorem L.bsA1{t:TypeId}{x:Operand}{z:Nat}{zr:List V}{c:Option EC}{sz bytes:Nat}{v:V}{vc:List V}(et:TypeId)(hw:yb ops a gd=some true)(ht:E.ti t=some ⟨z,zr,.slc c sz bytes⟩)
 (hev:ev E et a x=some v) (hcs:cellsOf v=some vc) (hsz:Nat.beq vc.length sz=true) (hb:Nat.ble (1*sz) 16777216=true) (hd:zw N d=true)
 (h2:AX E N k dr ops rest (a.put d (.arr σ.nx 1 sz)) (σ.upd 1 [(σ.nx,.var vc)]) (⟨[],.arr σ.nx 1 sz,1,[(σ.nx,.var vc)]⟩::acc) Q):
 AX E N k dr ops (⟨d,.buildSlice t 1 #[(0,x)],ty,ps,af,gd⟩::rest) a σ acc Q:=by
 have e:[vc].flatten=vc:=by simp
 exact L.bsA (pp:=[(0,x)]) (cs:=[v]) (vcs:=[vc]) et hw ht rfl rfl (by simp[evs,hev]) (by simp[Zkh,hcs]) (by grind) hb hd (by rw[e];exact h2)
end
theorem Zoy{P:Program}(w:World){t ti:TypeId}{k:IntKind}{a1 a2 b1 b2:Int}(h1:P.underlying t=some (.struct (P.fieldsOf t)))(h2:P.stoodInHeld t=false)(hi:P.underlying ti=some (.int k))
 (h4:(P.fieldsOf t).toList.map (fun f=>(f.name== "_",f.offset,f.type))=[(false,0,ti),(false,1,ti)]):
 (binOp .eql t (.agg #[.int k a1,.int k a2]) (.agg #[.int k b1,.int k b2])).run P w= .ok (.bool (decide (a1=b1)&&decide (a2=b2))) w:=by
 rw[run_eql_struct,run_equalIn_agg w 9999 t _ _ h1 h2];generalize (P.fieldsOf t).toList=fs at h4
 match fs,h4 with
 |[],h4=>simp at h4
 |[_],h4=>simp at h4
 |_::_::_::_,h4=>simp at h4
 |[f,g],h4=>
  simp only[List.map_cons,List.map_nil,List.cons.injEq,Prod.mk.injEq,and_true] at h4;obtain⟨⟨n1,o1,t1⟩,n2,o2,t2⟩:=h4;have m1:f.name≠ "_" :=by intro h;rw[h] at n1;simp at n1
  have m2:g.name≠ "_" :=by intro h;rw[h] at n2;simp at n2
  have hp:P.plainKey ti=true:=by unfold Program.plainKey;rw[hi]
  simp only[Op.eqFields,m1,m2,ne_eq,not_false_eq_true,if_true,Sem.run_bind,o1,o2,t1,t2];rw[run_part_plain w hp (v:= .int k a1) rfl,Result.andThen_ok,run_part_plain w hp (v:= .int k b1) rfl,Result.andThen_ok,run_equalIn_int w 9998 ti k k a1 b1 hi,Result.andThen_ok];by_cases e1:a1=b1
  ·simp only[e1,beq_self_eq_true,Bool.not_true,Bool.false_eq_true,if_false,Sem.run_bind];rw[run_part_plain w hp (v:= .int k a2) rfl,Result.andThen_ok,run_part_plain w hp (v:= .int k b2) rfl,Result.andThen_ok,run_equalIn_int w 9998 ti k k a2 b2 hi,Result.andThen_ok];by_cases e2:a2=b2<;>simp[e2]
  ·simp[e1]
theorem OS.binPair{E:Env}{N:Nat}{o:Oper}{a:AF}{t ti u:TypeId}{x y:Operand}{k:IntKind}{a1 a2 b1 b2:Int}(ho:o.op= .binOp .eql t x y u)(h1:E.P.underlying t=some (.struct (E.P.fieldsOf t)))(h2:E.P.stoodInHeld t=false)
 (h3:E.P.eqGuardType E.P.depth t=false) (hi:E.P.underlying ti=some (.int k)) (h4:(E.P.fieldsOf t).toList.map (fun f=>(f.name== "_",f.offset,f.type))=[(false,0,ti),(false,1,ti)])
 (hx:ev E t a x=some (.agg [.int k a1,.int k a2])) (hy:ev E t a y=some (.agg [.int k b1,.int k b2])):OS E N o a [] (.bool (decide (a1=b1)&&decide (a2=b2))) [] []:=
 .pure fun g D es w act hR _ hF=>by
  have key:∀{z:Operand} {c1 c2:Int},ev E t a z=some (.agg [.int k c1,.int k c2])->act.eval z= .agg #[.int k c1,.int k c2]:=fun {z c1 c2} hz=>by
   obtain⟨vs,e,hl,_,hv⟩:=(z6 hz hR hF).agg_inv
   match vs,hl with
   |[v1,v2],_=>
    have r1:=(hv 0 v1 _ rfl rfl).int_inv;have r2:=(hv 1 v2 _ rfl rfl).int_inv;rw[e,r1,r2]
  have e1:=key hx;have e2:=key hy;exact⟨.bool (decide (a1=b1)&&decide (a2=b2)),by simp[execOp,ho,e1,e2,run_eqGuard_agg w _ _ _ _ _ _ h3,Zoy w h1 h2 hi h4],.data (.bool _)⟩
section
variable {E:Env} {N k:Nat} {dr:Bool} {ops rest:List Oper} {a:AF} {σ:Sto} {acc:List Rec} {Q:Exit->AF->Sto->Prop}
variable {d:Option Tmp} {ty:TypeId} {ps:String} {af:Array Edge} {gd:Option (Nat×Bool)}
theorem L.bpr(ti:TypeId){t u:TypeId}{x y:Operand}{kd:IntKind}{a1 a2 b1 b2:Int}(hw:yb ops a gd=some true)(hx:ev E t a x=some (.agg [.int kd a1,.int kd a2]))(hy:ev E t a y=some (.agg [.int kd b1,.int kd b2]))
 (h1:E.P.underlying t=some (.struct (E.P.fieldsOf t))) (h2:E.P.stoodInHeld t=false) (h3:E.P.eqGuardType E.P.depth t=false) (hi:E.P.underlying ti=some (.int kd))
 (h4:(E.P.fieldsOf t).toList.map (fun f=>(f.name== "_",f.offset,f.type))=[(false,0,ti),(false,1,ti)]) (hd:zw N d=true)
 (h5:AX E N k dr ops rest (a.put d (.bool (decide (a1=b1)&&decide (a2=b2)))) σ (⟨[],.bool (decide (a1=b1)&&decide (a2=b2)),0,[]⟩::acc) Q):AX E N k dr ops (⟨d,.binOp .eql t x y u,ty,ps,af,gd⟩::rest) a σ acc Q:=
 AX.run 0 hw (OS.binPair rfl h1 h2 h3 hi h4 (fr (by simp[Op.operands,Call.operands]) hx) (fr (by simp[Op.operands,Call.operands]) hy)) trivial hd h5
end
section
variable {E:Env} {N k:Nat} {a:AF} {σ:Sto} {Q:Exit->AF->Sto->Prop} {ops:List Oper} {dr:Bool} {rest:List Oper} {acc:List Rec}
variable {d:Option Tmp} {ty:TypeId} {ps:String} {af:Array Edge} {gd:Option (Nat×Bool)}
structure M.St (n:Nat):Prop where
theorem M.qR{id:Nat}{o:Array Oper}{b:Bool}{z:Code}(s:M.St id)(h:AW E N k (.seq (.region id o b) z) a σ Q):AW E N k (.seq (.region id o b) z) a σ Q:=h
theorem M.qS{id:Nat}{o:Array Oper}{b:Bool}{y z:Code}(s:M.St id)(h:AW E N k (.seq (.seq (.region id o b) y) z) a σ Q):AW E N k (.seq (.seq (.region id o b) y) z) a σ Q:=h
theorem M.gs{P R S:Prop}(k:R)(l:S)(h:M.Hid R->M.Hid S->P:=by(intro k l;(fail_if_success refine AX.wt rfl ?_);(refine AX.gs rfl rfl (fun _=>trivial) ?_ ?_);exact M.Hid.out k;exact M.Hid.out l)):P:=h ⟨k⟩ ⟨l⟩
theorem M.cs{P R S:Prop}(k:R)(l:S)(h:M.Hid R->M.Hid S->P:=by(intro k l;(with_reducible refine D.aw ?_);(refine AW.condS rfl ?_ ?_);exact M.Hid.out k;exact M.Hid.out l)):P:=h ⟨k⟩ ⟨l⟩
theorem M.bl{P R:Prop}(k:R)(h:M.Hid R->P:=by(intro k;(with_reducible refine D.blk ?_);(refine AW.block ?_);exact M.Hid.out k)):P:=h ⟨k⟩
theorem M.zb{P R:Prop}(k:R)(h:M.Hid R->P:=by(intro k;(with_reducible refine D.sblk ?_);(refine K.sq (AW.block ?_));exact M.Hid.out k)):P:=h ⟨k⟩
theorem M.nl{P R:Prop}(k:R)(h:M.Hid R->P:=by(intro k;(with_reducible refine D.nil ?_);(refine AX.nilL ?_);exact M.Hid.out k)):P:=h ⟨k⟩
theorem M.lt{P:Prop}(h:P:=by((with_reducible show @LT.lt Nat _ _ _);omega)):P:=h
theorem M.le{P:Prop}(h:P:=by((with_reducible show @LE.le Nat _ _ _);omega)):P:=h
theorem M.z1(n1:Nat){P R:Prop}(k:R)(h:M.St n1->M.Hid R->P:=by(intro s1 k;(with_reducible refine D.aw ?_);(fail_if_success with_reducible refine M.qR s1 ?_);(fail_if_success with_reducible refine M.qS s1 ?_);(first|refine K.sq (AW.regL ?_)|refine K.sq (AW.regD mixed (by kernel_rfl) ?_)|refine K.sq (K.sq ?_)|refine AW.regL ?_|refine AW.regD mixed (by kernel_rfl) ?_|refine K.sq (AW.condT rfl ?_)|refine K.sq (AW.condF rfl ?_)|refine AW.condT rfl ?_|refine AW.condF rfl ?_|refine AW.skip ?_|refine AW.ret ?_|refine AW.exit ?_|refine K.sq (AW.label ?_)|refine AW.label ?_|refine AW.goto ?_|fail);exact M.Hid.out k)):P:=h ⟨⟩ ⟨k⟩
theorem M.z2(n1 n2:Nat){P R:Prop}(k:R)(h:M.St n1->M.St n2->M.Hid R->P:=by(intro s1 s2 k;(with_reducible refine D.aw ?_);(fail_if_success with_reducible refine M.qR s1 ?_);(fail_if_success with_reducible refine M.qS s1 ?_);(fail_if_success with_reducible refine M.qR s2 ?_);(fail_if_success with_reducible refine M.qS s2 ?_);(first|refine K.sq (AW.regL ?_)|refine K.sq (AW.regD mixed (by kernel_rfl) ?_)|refine K.sq (K.sq ?_)|refine AW.regL ?_|refine AW.regD mixed (by kernel_rfl) ?_|refine K.sq (AW.condT rfl ?_)|refine K.sq (AW.condF rfl ?_)|refine AW.condT rfl ?_|refine AW.condF rfl ?_|refine AW.skip ?_|refine AW.ret ?_|refine AW.exit ?_|refine K.sq (AW.label ?_)|refine AW.label ?_|refine AW.goto ?_|fail);exact M.Hid.out k)):P:=h ⟨⟩ ⟨⟩ ⟨k⟩
theorem M.z3(n1 n2 n3:Nat){P R:Prop}(k:R)(h:M.St n1->M.St n2->M.St n3->M.Hid R->P:=by(intro s1 s2 s3 k;(with_reducible refine D.aw ?_);(fail_if_success with_reducible refine M.qR s1 ?_);(fail_if_success with_reducible refine M.qS s1 ?_);(fail_if_success with_reducible refine M.qR s2 ?_);(fail_if_success with_reducible refine M.qS s2 ?_);(fail_if_success with_reducible refine M.qR s3 ?_);(fail_if_success with_reducible refine M.qS s3 ?_);(first|refine K.sq (AW.regL ?_)|refine K.sq (AW.regD mixed (by kernel_rfl) ?_)|refine K.sq (K.sq ?_)|refine AW.regL ?_|refine AW.regD mixed (by kernel_rfl) ?_|refine K.sq (AW.condT rfl ?_)|refine K.sq (AW.condF rfl ?_)|refine AW.condT rfl ?_|refine AW.condF rfl ?_|refine AW.skip ?_|refine AW.ret ?_|refine AW.exit ?_|refine K.sq (AW.label ?_)|refine AW.label ?_|refine AW.goto ?_|fail);exact M.Hid.out k)):P:=h ⟨⟩ ⟨⟩ ⟨⟩ ⟨k⟩
theorem M.rp{B C r1 r2:Nat}{c i n d:Tmp}{T T' T2 T3:TypeId}{ty1 ty2 ty3:TypeId}{p1 p2 p3:String}{af1 af2 af3:Array Edge}{body:Code}(len:Nat)(P:Nat->Prop)(J:Nat->AF×Sto)(hP:P 0)(h0:Weak E N k a σ (J 0).1 (J 0).2)
 (hb:∀m,m<len->P m->AW E N k body ((c,.bool true)::(J m).1) (J m).2 (vy C (Ydz E N k B i d m P J Q)))
 (he:P len->Q .normal ((c,.bool false)::(J len).1) (J len).2) (hlen:len<4611686018427387904:=by omega) (hi:∀m,(J m).1.get i=some (.int .i64 m):=by exact fun m=>rfl) (hn:∀m,(J m).1.get n=some (.int .i64 len):=by exact fun m=>rfl) (hd:zw N (some c)&&zw N (some d)&&zw N (some i)&& !Nat.beq d i=true:=by exact rfl):
 AW E N k (.block B (.loop (.seq (.region r1 #[⟨some c,.binOp .lss T (.tmp i) (.tmp n) T',ty1,p1,af1,none⟩] false)
  (.seq (.cond (.tmp c) .skip (.exit B)) (.seq (.block C body)
   (.region r2 #[⟨some d,.binOp .add T2 (.tmp i) (.const (.int .i64 1)) T3,ty2,p2,af2,none⟩,⟨some i,.move (.tmp d),ty3,p3,af3,none⟩] false)))))) a σ Q:=AW.range len P J hlen hi hn hd hP h0 hb he
theorem M.rt{B C r1 r2:Nat}{c i n d:Tmp}{T T' T2 T3:TypeId}{ty1 ty2 ty3:TypeId}{p1 p2 p3:String}{af1 af2 af3:Array Edge}{body:Code}(len:Nat)(J:Nat->AF×Sto)(h0:Weak E N k a σ (J 0).1 (J 0).2)
 (hb:∀m,m<len->True->AW E N k body ((c,.bool true)::(J m).1) (J m).2 (vy C (Ydz E N k B i d m (fun _=>True) J Q)))
 (he:True->Q .normal ((c,.bool false)::(J len).1) (J len).2) (hlen:len<4611686018427387904:=by omega) (hi:∀m,(J m).1.get i=some (.int .i64 m):=by exact fun m=>rfl) (hn:∀m,(J m).1.get n=some (.int .i64 len):=by exact fun m=>rfl) (hd:zw N (some c)&&zw N (some d)&&zw N (some i)&& !Nat.beq d i=true:=by exact rfl):
 AW E N k (.block B (.loop (.seq (.region r1 #[⟨some c,.binOp .lss T (.tmp i) (.tmp n) T',ty1,p1,af1,none⟩] false)
  (.seq (.cond (.tmp c) .skip (.exit B)) (.seq (.block C body)
   (.region r2 #[⟨some d,.binOp .add T2 (.tmp i) (.const (.int .i64 1)) T3,ty2,p2,af2,none⟩,⟨some i,.move (.tmp d),ty3,p3,af3,none⟩] false)))))) a σ Q:=AW.range len (fun _=>True) J hlen hi hn hd trivial h0 hb he
theorem M.cx{P R S:Prop}(h:S)(k:R)(q:S->M.Hid R->P:=by(intro h k;(first|refine M.c2 h ?_|refine M.cb h [0] 0 ?_|refine M.cv h [0,1] 0 ?_);exact M.Hid.out k)):P:=q h ⟨k⟩
theorem M.w0{P R:Prop}(k:R)(h:M.Hid R->P:=by(intro k;(repeat1' (first|refine M.gw ?_|fail));exact M.Hid.out k)):P:=h ⟨k⟩
theorem M.w1{P R S1:Prop}(h1:S1)(k:R)(h:S1->M.Hid R->P:=by(intro h1 k;(repeat1' (first|refine M.gw ?_|refine M.cx h1 ?_|fail));exact M.Hid.out k)):P:=h h1 ⟨k⟩
theorem M.w2{P R S1 S2:Prop}(h1:S1)(h2:S2)(k:R)(h:S1->S2->M.Hid R->P:=by(intro h1 h2 k;(repeat1' (first|refine M.gw ?_|refine M.cx h1 ?_|refine M.cx h2 ?_|fail));exact M.Hid.out k)):P:=h h1 h2 ⟨k⟩
theorem M.w3{P R S1 S2 S3:Prop}(h1:S1)(h2:S2)(h3:S3)(k:R)(h:S1->S2->S3->M.Hid R->P:=by(intro h1 h2 h3 k;(repeat1' (first|refine M.gw ?_|refine M.cx h1 ?_|refine M.cx h2 ?_|refine M.cx h3 ?_|fail));exact M.Hid.out k)):P:=h h1 h2 h3 ⟨k⟩
theorem M.w4{P R S1 S2 S3 S4:Prop}(h1:S1)(h2:S2)(h3:S3)(h4:S4)(k:R)(h:S1->S2->S3->S4->M.Hid R->P:=by(intro h1 h2 h3 h4 k;(repeat1' (first|refine M.gw ?_|refine M.cx h1 ?_|refine M.cx h2 ?_|refine M.cx h3 ?_|refine M.cx h4 ?_|fail));exact M.Hid.out k)):P:=h h1 h2 h3 h4 ⟨k⟩
theorem M.w5{P R S1 S2 S3 S4 S5:Prop}(h1:S1)(h2:S2)(h3:S3)(h4:S4)(h5:S5)(k:R)(h:S1->S2->S3->S4->S5->M.Hid R->P:=by(intro h1 h2 h3 h4 h5 k;(repeat1' (first|refine M.gw ?_|refine M.cx h1 ?_|refine M.cx h2 ?_|refine M.cx h3 ?_|refine M.cx h4 ?_|refine M.cx h5 ?_|fail));exact M.Hid.out k)):P:=h h1 h2 h3 h4 h5 ⟨k⟩
theorem M.w6{P R S1 S2 S3 S4 S5 S6:Prop}(h1:S1)(h2:S2)(h3:S3)(h4:S4)(h5:S5)(h6:S6)(k:R)(h:S1->S2->S3->S4->S5->S6->M.Hid R->P:=by(intro h1 h2 h3 h4 h5 h6 k;(repeat1' (first|refine M.gw ?_|refine M.cx h1 ?_|refine M.cx h2 ?_|refine M.cx h3 ?_|refine M.cx h4 ?_|refine M.cx h5 ?_|refine M.cx h6 ?_|fail));exact M.Hid.out k)):P:=h h1 h2 h3 h4 h5 h6 ⟨k⟩
theorem M.o0{P R:Prop}(k:R)(h:M.Hid R->P:=by(intro k;(repeat1' (first|refine M.go ?_|fail));exact M.Hid.out k)):P:=h ⟨k⟩
theorem M.o1{P R S1:Prop}(h1:S1)(k:R)(h:S1->M.Hid R->P:=by(intro h1 k;(repeat1' (first|refine M.go ?_|refine M.cx h1 ?_|fail));exact M.Hid.out k)):P:=h h1 ⟨k⟩
theorem M.o2{P R S1 S2:Prop}(h1:S1)(h2:S2)(k:R)(h:S1->S2->M.Hid R->P:=by(intro h1 h2 k;(repeat1' (first|refine M.go ?_|refine M.cx h1 ?_|refine M.cx h2 ?_|fail));exact M.Hid.out k)):P:=h h1 h2 ⟨k⟩
theorem M.o3{P R S1 S2 S3:Prop}(h1:S1)(h2:S2)(h3:S3)(k:R)(h:S1->S2->S3->M.Hid R->P:=by(intro h1 h2 h3 k;(repeat1' (first|refine M.go ?_|refine M.cx h1 ?_|refine M.cx h2 ?_|refine M.cx h3 ?_|fail));exact M.Hid.out k)):P:=h h1 h2 h3 ⟨k⟩
theorem M.o4{P R S1 S2 S3 S4:Prop}(h1:S1)(h2:S2)(h3:S3)(h4:S4)(k:R)(h:S1->S2->S3->S4->M.Hid R->P:=by(intro h1 h2 h3 h4 k;(repeat1' (first|refine M.go ?_|refine M.cx h1 ?_|refine M.cx h2 ?_|refine M.cx h3 ?_|refine M.cx h4 ?_|fail));exact M.Hid.out k)):P:=h h1 h2 h3 h4 ⟨k⟩
theorem M.o5{P R S1 S2 S3 S4 S5:Prop}(h1:S1)(h2:S2)(h3:S3)(h4:S4)(h5:S5)(k:R)(h:S1->S2->S3->S4->S5->M.Hid R->P:=by(intro h1 h2 h3 h4 h5 k;(repeat1' (first|refine M.go ?_|refine M.cx h1 ?_|refine M.cx h2 ?_|refine M.cx h3 ?_|refine M.cx h4 ?_|refine M.cx h5 ?_|fail));exact M.Hid.out k)):P:=h h1 h2 h3 h4 h5 ⟨k⟩
theorem M.o6{P R S1 S2 S3 S4 S5 S6:Prop}(h1:S1)(h2:S2)(h3:S3)(h4:S4)(h5:S5)(h6:S6)(k:R)(h:S1->S2->S3->S4->S5->S6->M.Hid R->P:=by(intro h1 h2 h3 h4 h5 h6 k;(repeat1' (first|refine M.go ?_|refine M.cx h1 ?_|refine M.cx h2 ?_|refine M.cx h3 ?_|refine M.cx h4 ?_|refine M.cx h5 ?_|refine M.cx h6 ?_|fail));exact M.Hid.out k)):P:=h h1 h2 h3 h4 h5 h6 ⟨k⟩
theorem M.v0{P R:Prop}(k:R)(h:M.Hid R->P:=by(intro k;(repeat1' (first|refine M.gw ?_|refine M.bl ?_|fail));exact M.Hid.out k)):P:=h ⟨k⟩
theorem M.v1{P R S1:Prop}(h1:S1)(k:R)(h:S1->M.Hid R->P:=by(intro h1 k;(repeat1' (first|refine M.gw ?_|refine M.cx h1 ?_|refine M.bl ?_|fail));exact M.Hid.out k)):P:=h h1 ⟨k⟩
theorem M.v2{P R S1 S2:Prop}(h1:S1)(h2:S2)(k:R)(h:S1->S2->M.Hid R->P:=by(intro h1 h2 k;(repeat1' (first|refine M.gw ?_|refine M.cx h1 ?_|refine M.cx h2 ?_|refine M.bl ?_|fail));exact M.Hid.out k)):P:=h h1 h2 ⟨k⟩
theorem M.v3{P R S1 S2 S3:Prop}(h1:S1)(h2:S2)(h3:S3)(k:R)(h:S1->S2->S3->M.Hid R->P:=by(intro h1 h2 h3 k;(repeat1' (first|refine M.gw ?_|refine M.cx h1 ?_|refine M.cx h2 ?_|refine M.cx h3 ?_|refine M.bl ?_|fail));exact M.Hid.out k)):P:=h h1 h2 h3 ⟨k⟩
theorem M.v4{P R S1 S2 S3 S4:Prop}(h1:S1)(h2:S2)(h3:S3)(h4:S4)(k:R)(h:S1->S2->S3->S4->M.Hid R->P:=by(intro h1 h2 h3 h4 k;(repeat1' (first|refine M.gw ?_|refine M.cx h1 ?_|refine M.cx h2 ?_|refine M.cx h3 ?_|refine M.cx h4 ?_|refine M.bl ?_|fail));exact M.Hid.out k)):P:=h h1 h2 h3 h4 ⟨k⟩
theorem M.v5{P R S1 S2 S3 S4 S5:Prop}(h1:S1)(h2:S2)(h3:S3)(h4:S4)(h5:S5)(k:R)(h:S1->S2->S3->S4->S5->M.Hid R->P:=by(intro h1 h2 h3 h4 h5 k;(repeat1' (first|refine M.gw ?_|refine M.cx h1 ?_|refine M.cx h2 ?_|refine M.cx h3 ?_|refine M.cx h4 ?_|refine M.cx h5 ?_|refine M.bl ?_|fail));exact M.Hid.out k)):P:=h h1 h2 h3 h4 h5 ⟨k⟩
theorem M.v6{P R S1 S2 S3 S4 S5 S6:Prop}(h1:S1)(h2:S2)(h3:S3)(h4:S4)(h5:S5)(h6:S6)(k:R)(h:S1->S2->S3->S4->S5->S6->M.Hid R->P:=by(intro h1 h2 h3 h4 h5 h6 k;(repeat1' (first|refine M.gw ?_|refine M.cx h1 ?_|refine M.cx h2 ?_|refine M.cx h3 ?_|refine M.cx h4 ?_|refine M.cx h5 ?_|refine M.cx h6 ?_|refine M.bl ?_|fail));exact M.Hid.out k)):P:=h h1 h2 h3 h4 h5 h6 ⟨k⟩
end
end Go.Ab
namespace Go.Ab
open Go
set_option linter.unusedSimpArgs false
set_option linter.unusedVariables false
section
variable {E:Env} {N k:Nat} {a:AF} {σ:Sto}
variable {Q:Exit->AF->Sto->Prop} {ops:List Oper} {dr:Bool} {rest:List Oper} {acc:List Rec}
variable {d:Option Tmp} {ty:TypeId} {ps:String} {af:Array Edge} {gd:Option (Nat×Bool)}
theorem Yj0{n m:Int}(h:0<=n/\n<256)(hm:0<m):IntKind.u8.wrap (n.tdiv m)=n.tdiv m:=by
 have h1:0<=n.tdiv m:=Int.tdiv_nonneg h.1 (by omega);have h2:n.tdiv m<=n:=Int.tdiv_le_self m h.1;have h3:(n.tdiv m)%(2^IntKind.u8.bits:Int)=n.tdiv m:=Int.emod_eq_of_lt h1 (by have:(2^IntKind.u8.bits:Int)=256:=(by decide);omega);unfold IntKind.wrap;simp only[h3]
 rfl
theorem L.qu8{t u:TypeId}{x y:Operand}{n m:Int}(hw:yb ops a gd=some true)(hx:ev E t a x=some (.int .u8 n))(hy:ev E t a y=some (.int .u8 m))(hd:zw N d=true)(h1:0<=n/\n<256)(h3:0<m)
 (h2:AX E N k dr ops rest (a.put d (.int .u8 (n.tdiv m))) σ (⟨[],.int .u8 (n.tdiv m),0,[]⟩::acc) Q):AX E N k dr ops (⟨d,.binOp .quo t x y u,ty,ps,af,gd⟩::rest) a σ acc Q:=
 by
 have h4:=Yj0 h1 h3;rw[<-h4] at h2;exact AX.run 0 hw (OS.quo (m:=m) rfl (fr (by simp[Op.operands,Call.operands]) hx) (fr (by simp[Op.operands,Call.operands]) hy) (by omega)) trivial hd h2
end
section
variable {E:Env} {N k:Nat} {a:AF} {σ:Sto} {o:Oper}
variable {Q:Exit->AF->Sto->Prop} {ops:List Oper} {dr:Bool} {rest:List Oper} {acc:List Rec}
variable {d:Option Tmp} {ty:TypeId} {ps:String} {af:Array Edge} {gd:Option (Nat×Bool)}
theorem OS.min{t u:TypeId}{x y:Operand}{n m:Int}(ho:o.op= .call {callee:= .builtin .min,args:= #[x,y],argTypes:= #[t,u]})(hx:ev E t a x=some (.int .i64 n))(hy:ev E u a y=some (.int .i64 m)):
 OS E N o a [] (.int .i64 (if m<n then m else n)) [] []:=
 .pure fun g D es w act hR _ hF=>by
  have h1:=(z6 hx hR hF).int_inv;have h2:=(z6 hy hR hF).int_inv;exact⟨_,by simp[execOp,ho,resolve,invoke,builtin,Builtin.min_,Builtin.min2,h1,h2],.data (.int _ _)⟩
theorem L.mn{t u:TypeId}{x y:Operand}{n m:Int}(hw:yb ops a gd=some true)(hx:ev E t a x=some (.int .i64 n))(hy:ev E u a y=some (.int .i64 m))(hd:zw N d=true)
 (h2:AX E N k dr ops rest (a.put d (.int .i64 (if m<n then m else n))) σ (⟨[],.int .i64 (if m<n then m else n),0,[]⟩::acc) Q):AX E N k dr ops (⟨d,.call ⟨.builtin .min,#[x,y],#[t,u]⟩,ty,ps,af,gd⟩::rest) a σ acc Q:=
 AX.run 0 hw (OS.min rfl (fr (by simp[Op.operands,Call.operands]) hx) (fr (by simp[Op.operands,Call.operands]) hy)) trivial hd h2
end
section
variable {E:Env} {N k:Nat} {a:AF} {σ:Sto} {o:Oper}
variable {Q:Exit->AF->Sto->Prop} {ops:List Oper} {dr:Bool} {rest:List Oper} {acc:List Rec}
variable {d:Option Tmp} {ty:TypeId} {ps:String} {af:Array Edge} {gd:Option (Nat×Bool)}
theorem OS.max{t u:TypeId}{x y:Operand}{n m:Int}(ho:o.op= .call {callee:= .builtin .max,args:= #[x,y],argTypes:= #[t,u]})(hx:ev E t a x=some (.int .i64 n))(hy:ev E u a y=some (.int .i64 m)):
 OS E N o a [] (.int .i64 (if n<m then m else n)) [] []:=
 .pure fun g D es w act hR _ hF=>by
  have h1:=(z6 hx hR hF).int_inv;have h2:=(z6 hy hR hF).int_inv;exact⟨_,by simp[execOp,ho,resolve,invoke,builtin,Builtin.max_,Builtin.max2,h1,h2],.data (.int _ _)⟩
theorem L.mx{t u:TypeId}{x y:Operand}{n m:Int}(hw:yb ops a gd=some true)(hx:ev E t a x=some (.int .i64 n))(hy:ev E u a y=some (.int .i64 m))(hd:zw N d=true)
 (h2:AX E N k dr ops rest (a.put d (.int .i64 (if n<m then m else n))) σ (⟨[],.int .i64 (if n<m then m else n),0,[]⟩::acc) Q):AX E N k dr ops (⟨d,.call ⟨.builtin .max,#[x,y],#[t,u]⟩,ty,ps,af,gd⟩::rest) a σ acc Q:=
 AX.run 0 hw (OS.max rfl (fr (by simp[Op.operands,Call.operands]) hx) (fr (by simp[Op.operands,Call.operands]) hy)) trivial hd h2
namespace L
theorem apt9{t:TypeId}{s x:Operand}{z:Nat}{zr:List V}{e:EC}{co:Option EC}{sz bytes:Nat}{sp sp':Sp}{l l':List e.sem}(hw:yb ops a gd=some true)(hs:ev E t a s=some (.slice sp (.t e l)))(hx:ev E t a x=some (.slice sp' (.t e l')))(ht:E.ti t=some ⟨z,zr,.slc co sz bytes⟩)
 (hsp:Zn1 sp=true) (hsz:Nat.beq e.cells sz=true) (hp:Zg0 σ.es (Zd9 sp)) (hd:zw N d=true) (hby:Nat.ble bytes 256=true)
 (hb:l.length+l'.length<=274877906944) (h2:AX E N k dr ops rest (a.put d (.slice (.own σ.nx) (.t e (l++l')))) (σ.upd 1 (Zcd σ.nx sp)) (⟨Zd9 sp,.slice (.own σ.nx) (.t e (l++l')),1,Zcd σ.nx sp⟩::acc) Q):
 AX E N k dr ops (⟨d,.call ⟨.builtin .append,#[s,x],#[t,t]⟩,ty,ps,af,gd⟩::rest) a σ acc Q:=
 L.ap hw hs hx ht hsp (l2:= .t e (l++l')) (by simp[SL.app]) hsz hp hd
  (by
   have h3:bytes<=256:=Nat.le_of_ble_eq_true hby;have h4:(l.length+l'.length)*bytes<=274877906944*256:=Nat.mul_le_mul hb h3;exact⟨by simp only[SL.len];omega,by simp only[SL.len];omega⟩) h2
theorem aptF9{t:TypeId}{s x:Operand}{z:Nat}{zr:List V}{e:EC}{co:Option EC}{sz bytes:Nat}{sp':Sp}{l l':List e.sem}(hw:yb ops a gd=some true)(hs:ev E t a s=some (.slice .full (.t e l)))(hx:ev E t a x=some (.slice sp' (.t e l')))(ht:E.ti t=some ⟨z,zr,.slc co sz bytes⟩)
 (hsp:0<l'.length) (hsz:Nat.beq e.cells sz=true) (hd:zw N d=true) (hby:Nat.ble bytes 256=true)
 (hb:l.length+l'.length<=274877906944) (h2:AX E N k dr ops rest (a.put d (.slice (.own σ.nx) (.t e (l++l')))) (σ.upd 1 [(σ.nx,.row)]) (⟨[],.slice (.own σ.nx) (.t e (l++l')),1,[(σ.nx,.row)]⟩::acc) Q):
 AX E N k dr ops (⟨d,.call ⟨.builtin .append,#[s,x],#[t,t]⟩,ty,ps,af,gd⟩::rest) a σ acc Q:=
 L.apF hw hs hx ht ⟨rfl,hsp⟩ (l2:= .t e (l++l')) (by simp[SL.app]) hsz trivial hd
  (by
   have h3:bytes<=256:=Nat.le_of_ble_eq_true hby;have h4:(l.length+l'.length)*bytes<=274877906944*256:=Nat.mul_le_mul hb h3;exact⟨by simp only[SL.len];omega,by simp only[SL.len];omega⟩) h2
end L
end
theorem VRel.raw_inv{g:Gh}{D:Nat->Prop}{w:World}{v u:Value}(h:VRel g D w v (.raw u)):v=u:=by
 cases h with
 |data h=>cases h
 |raw=>rfl
abbrev V.rp(b off:Nat):V:= .raw (.pointer (some ⟨b,off,none⟩))
abbrev V.rs(b n cap:Nat):V:= .raw (.slice (some ⟨b,0,none⟩) n cap)
section
variable {E:Env} {N:Nat} {o:Oper} {a:AF}
theorem OSY.pure{v:V}(h:∀g D es w act,R E.G g D es w->YOk E.Y g (Foot g es) w->FRel g D w N act a->∃v',(execOp act.eval o).run E.P w= .ok (.value v') w/\VRel g D w v' v):
 OSY E N o a [] v [] []:=by
 intro g D es w act hR hY hp hn hF K Q hK;obtain⟨v',h1,h2⟩:=h g D es w act hR hY hF;unfold Oper.wp;rw[h1];exact hK g v' w (hR.more fun n h=> .inl h) (h2.more fun n h=> .inl h) (.refl ..)
theorem OS.ncR{x:Operand}{b off:Nat}(ho:o.op= .nilCheck x)(hx:ev E 0 a x=some (.rp b off)):OS E N o a [] (.rp b off) [] []:=
 .pure fun g D es w act hR _ hF=>by
  have h1:=(z6 hx hR hF).raw_inv;exact⟨_,by simp[execOp,ho,h1],.raw _⟩
end
section
variable {E:Env} {N k:Nat} {ops:List Oper} {dr:Bool} {rest:List Oper} {a:AF} {σ:Sto} {acc:List Rec} {Q:Exit->AF->Sto->Prop}
variable {d:Option Tmp} {ty:TypeId} {ps:String} {af:Array Edge} {gd:Option (Nat×Bool)}
namespace L
theorem yn{x:Operand}{b off:Nat}(hw:yb ops a gd=some true)(hx:ev E 0 a x=some (.rp b off))(hd:zw N d=true)(h2:AX E N k dr ops rest (a.put d (.rp b off)) σ (⟨[],.rp b off,0,[]⟩::acc) Q):
 AX E N k dr ops (⟨d,.nilCheck x,ty,ps,af,gd⟩::rest) a σ acc Q:=
 AX.run 0 hw (OS.ncR rfl (fr (by simp[Op.operands,Call.operands]) hx)) trivial hd h2
end L
end
abbrev Env.y(E:Env)(y:Ys):Env:={E with Y:=y}
def Keys(y:Ys)(b:Nat):Prop:=∃p∈y,p.1=b
def FY(g:Gh)(es:Es)(y:Ys)(b:Nat):Prop:=Foot g es b\/Keys y b
theorem FY.nil{g:Gh}{es:Es}:FY g es []=Foot g es:=by
 funext b;simp[FY,Keys]
theorem Ext.keys{D:Nat->Prop}{g g':Gh}{F F':Nat->Prop}{w w':World}(h:Ext D g F w g' F' w')(y:Ys):Ext D g (fun b=>F b\/Keys y b) w g' (fun b=>F' b\/Keys y b) w':=
 h.wider (fun b h=> .inl h) (fun b h=>h.imp id fun h=> .inr h)
def BPost(E:Env)(N k:Nat)(g:Gh)(F:Nat->Prop)(w:World)(Q:Exit->AF->Sto->Ys->Prop)(e:Exit)(act':Act)(w':World):Prop:=
 ∃g' a' σ' y',Q e a' σ' y'/\k<=σ'.nx/\R E.G g' (·<σ'.nx) σ'.es w'/\FRel g' (·<σ'.nx) w' N act' a'/\YOk y' g' (Foot g' σ'.es) w'/\Ext (·<k) g F w g' (FY g' σ'.es y') w'
structure BW (E:Env) (N k:Nat) (c:Code) (a:AF) (σ:Sto) (y:Ys) (Q:Exit->AF->Sto->Ys->Prop):Prop where
 run:k<=σ.nx->∀g w act,R E.G g (·<σ.nx) σ.es w->FRel g (·<σ.nx) w N act a->YOk y g (Foot g σ.es) w->c.wp E.P (BPost E N k g (FY g σ.es y) w Q) act w
def Yjn(E:Env)(N k:Nat)(x:Code)(Q:Exit->AF->Sto->Ys->Prop):Exit->AF->Sto->Ys->Prop
 | .normal,a,σ,y=>BW E N k x a σ y Q
 |e,a,σ,y=>Q e a σ y
def Zfp(id:Nat)(Q:Exit->AF->Sto->Ys->Prop):Exit->AF->Sto->Ys->Prop
 | .exit id',a,σ,y=>bif Nat.beq id' id then Q .normal a σ y else Q (.exit id') a σ y
 |e,a,σ,y=>Q e a σ y
section
variable {E:Env} {N k:Nat} {a:AF} {σ:Sto} {y:Ys} {Q:Exit->AF->Sto->Ys->Prop}
theorem BPost.later{g g':Gh}{F F':Nat->Prop}{w w':World}{e:Exit}{act:Act}{w'':World}(h:BPost E N k g' F' w' Q e act w'')(x:Ext (·<k) g F w g' F' w'):BPost E N k g F w Q e act w'':=
 let ⟨g2,a2,σ2,y2,h1,h2,h3,h4,h5,h6⟩:=h;⟨g2,a2,σ2,y2,h1,h2,h3,h4,h5,x.trans h6⟩
theorem BW.of{c:Code}(h:AW (E.y y) N k c a σ (fun e a σ=>Q e a σ y)):BW E N k c a σ y Q:=
 ⟨fun hk g w act hR hF hY=>wp_mono (h.run hk g w act hR hF hY) (by
  rintro e act1 w1 ⟨g1,a1,σ1,hq,hk1,hR1,hF1,hx⟩;exact⟨g1,a1,σ1,y,hq,hk1,hR1,hF1,hY.ext hx,hx.keys y⟩)⟩
theorem BW.seq{x z:Code}(h:BW E N k x a σ y (Yjn E N k z Q)):BW E N k (.seq x z) a σ y Q:=by
 constructor;intro hk g w act hR hF hY;refine wp_seq (wp_mono (h.run hk g w act hR hF hY) ?_);rintro e act1 w1 ⟨g1,a1,σ1,y1,hq,hk1,hR1,hF1,hY1,hx⟩;cases e with
 |normal=>exact wp_mono (BW.run hq hk1 g1 w1 act1 hR1 hF1 hY1) (fun e act2 w2 hp=>hp.later hx)
 |exit id=>exact⟨g1,a1,σ1,y1,hq,hk1,hR1,hF1,hY1,hx⟩
 |goto l=>exact⟨g1,a1,σ1,y1,hq,hk1,hR1,hF1,hY1,hx⟩
 |ret=>exact⟨g1,a1,σ1,y1,hq,hk1,hR1,hF1,hY1,hx⟩
 |panic ch=>exact⟨g1,a1,σ1,y1,hq,hk1,hR1,hF1,hY1,hx⟩
 |outgrown=>exact⟨g1,a1,σ1,y1,hq,hk1,hR1,hF1,hY1,hx⟩
theorem BW.mono{c:Code}{Q':Exit->AF->Sto->Ys->Prop}(h:BW E N k c a σ y Q)(hq:∀e a σ y,Q e a σ y->Q' e a σ y):BW E N k c a σ y Q':=by
 constructor;intro hk g w act hR hF hY;refine wp_mono (h.run hk g w act hR hF hY) ?_;rintro e act1 w1 ⟨g1,a1,σ1,y1,h1,h2⟩;exact⟨g1,a1,σ1,y1,hq _ _ _ _ h1,h2⟩
theorem BW.block{id:Nat}{c:Code}(h:BW E N k c a σ y (Zfp id Q)):BW E N k (.block id c) a σ y Q:=by
 constructor;intro hk g w act hR hF hY;refine wp_block (wp_mono (h.run hk g w act hR hF hY) ?_);rintro e act1 w1 ⟨g1,a1,σ1,y1,hq,h2⟩;cases e with
 |exit id'=>
  simp only[Exit.inBlock];by_cases hi:id'=id
  ·subst hi;simp only[Zfp,Nat.beq_refl,cond_true] at hq;rw[if_pos rfl];exact⟨g1,a1,σ1,y1,hq,h2⟩
  ·simp only[Zfp,Zru hi,cond_false] at hq;rw[if_neg hi];exact⟨g1,a1,σ1,y1,hq,h2⟩
 |normal=>exact⟨g1,a1,σ1,y1,hq,h2⟩
 |goto l=>exact⟨g1,a1,σ1,y1,hq,h2⟩
 |ret=>exact⟨g1,a1,σ1,y1,hq,h2⟩
 |panic ch=>exact⟨g1,a1,σ1,y1,hq,h2⟩
 |outgrown=>exact⟨g1,a1,σ1,y1,hq,h2⟩
def WeakB(E:Env)(N k:Nat)(a:AF)(σ:Sto)(y:Ys)(S:AF->Sto->Ys->Prop):Prop:=
 k<=σ.nx->∀g w act,R E.G g (·<σ.nx) σ.es w->FRel g (·<σ.nx) w N act a->YOk y g (Foot g σ.es) w->
  ∃a2 σ2 y2 g2,S a2 σ2 y2/\k<=σ2.nx/\R E.G g2 (·<σ2.nx) σ2.es w/\FRel g2 (·<σ2.nx) w N act a2/\YOk y2 g2 (Foot g2 σ2.es) w/\Ext (·<k) g (FY g σ.es y) w g2 (FY g2 σ2.es y2) w
theorem WeakB.of{a2:AF}{σ2:Sto}(h:Weak E N k a σ a2 σ2):WeakB E N k a σ y (fun a3 σ3 y3=>a3=a2/\σ3=σ2/\y3=y):=by
 intro hk g w act hR hF hY;obtain⟨hk2,hw⟩:=h hk;obtain⟨g2,hR2,hF2,hx⟩:=hw g w act hR hF;exact⟨a2,σ2,y,g2,⟨rfl,rfl,rfl⟩,hk2,hR2,hF2,hY.ext hx,hx.keys y⟩
theorem WeakB.trans{S S':AF->Sto->Ys->Prop}(h:WeakB E N k a σ y S)(h2:∀a σ y,S a σ y->WeakB E N k a σ y S'):WeakB E N k a σ y S':=by
 intro hk g w act hR hF hY;obtain⟨a2,σ2,y2,g2,hs,hk2,hR2,hF2,hY2,hx⟩:=h hk g w act hR hF hY;obtain⟨a3,σ3,y3,g3,hs3,hk3,hR3,hF3,hY3,hx3⟩:=h2 _ _ _ hs hk2 g2 w act hR2 hF2 hY2;exact⟨a3,σ3,y3,g3,hs3,hk3,hR3,hF3,hY3,hx.trans hx3⟩
theorem BW.weak{c:Code}{S:AF->Sto->Ys->Prop}(h:WeakB E N k a σ y S)(h2:∀a σ y,S a σ y->BW E N k c a σ y Q):BW E N k c a σ y Q:=by
 constructor;intro hk g w act hR hF hY;obtain⟨a2,σ2,y2,g2,hs,hk2,hR2,hF2,hY2,hx⟩:=h hk g w act hR hF hY;exact wp_mono ((h2 _ _ _ hs).run hk2 g2 w act hR2 hF2 hY2) (fun e act2 w2 hp=>hp.later hx)
theorem BW.skip(h:Q .normal a σ y):BW E N k .skip a σ y Q:= .of (.skip h)
theorem BW.exit{id:Nat}(h:Q (.exit id) a σ y):BW E N k (.exit id) a σ y Q:= .of (.exit h)
theorem BW.ret(h:Q .ret a σ y):BW E N k .ret a σ y Q:= .of (.ret h)
def rngB(E:Env)(N k:Nat)(B:Nat)(i d:Tmp)(m:Nat)(J:Nat->AF->Sto->Ys->Prop)(Q:Exit->AF->Sto->Ys->Prop):Exit->AF->Sto->Ys->Prop
 | .normal,a,σ,y=>a.get i=some (.int .i64 m)/\WeakB E N k ((i,.int .i64 ((m+1:Nat):Int))::(d,.int .i64 ((m+1:Nat):Int))::a) σ y (J (m+1))
 | .exit id,a,σ,y=>bif Nat.beq id B then Q .normal a σ y else Q (.exit id) a σ y
 |e,a,σ,y=>Q e a σ y
theorem BW.range{B C r1 r2:Nat}{c i n d:Tmp}{T T' T2 T3:TypeId}{ty1 ty2 ty3:TypeId}{p1 p2 p3:String}{af1 af2 af3:Array Edge}{body:Code}(len:Nat)(J:Nat->AF->Sto->Ys->Prop)(hlen:len<4611686018427387904)
 (hi:∀m a σ y,J m a σ y->a.get i=some (.int .i64 m)) (hn:∀m a σ y,J m a σ y->a.get n=some (.int .i64 len)) (hd:zw N (some c)&&zw N (some d)&&zw N (some i)&& !Nat.beq d i=true) (h0:WeakB E N k a σ y (J 0))
 (hb:∀m a σ y,m<len->J m a σ y->BW E N k body ((c,.bool true)::a) σ y (Zfp C (rngB E N k B i d m J Q)))
 (he:∀a σ y,J len a σ y->Q .normal ((c,.bool false)::a) σ y):
 BW E N k (.block B (.loop (.seq (.region r1 #[⟨some c,.binOp .lss T (.tmp i) (.tmp n) T',ty1,p1,af1,none⟩] false)
  (.seq (.cond (.tmp c) .skip (.exit B)) (.seq (.block C body)
   (.region r2 #[⟨some d,.binOp .add T2 (.tmp i) (.const (.int .i64 1)) T3,ty2,p2,af2,none⟩,⟨some i,.move (.tmp d),ty3,p3,af3,none⟩] false)))))) a σ y Q:=by
 simp only[Bool.and_eq_true] at hd;obtain⟨⟨⟨hd1,hd2⟩,hd3⟩,hd4⟩:=hd;have round:∀m a σ y,m<=len->J m a σ y->BW E N k (.seq (.region r1 #[⟨some c,.binOp .lss T (.tmp i) (.tmp n) T',ty1,p1,af1,none⟩] false)
  (.seq (.cond (.tmp c) .skip (.exit B)) (.seq (.block C body)
   (.region r2 #[⟨some d,.binOp .add T2 (.tmp i) (.const (.int .i64 1)) T3,ty2,p2,af2,none⟩,⟨some i,.move (.tmp d),ty3,p3,af3,none⟩] false)))) a σ y
  (fun e a σ y=>match e with
   | .normal=>m<len/\WeakB E N k a σ y (J (m+1))
   |e=>Zfp B Q e a σ y):=by
  intro m a σ y hm hJ;refine .seq (.of (.regL (L.bn rfl (hi _ _ _ _ hJ) (hn _ _ _ _ hJ) rfl hd1 (.nilL ?_))));show BW E N k _ ((c,.bool (decide ((m:Int)<(len:Int))))::a) σ y _;by_cases hlt:m<len
  ·have hdec:decide ((m:Int)<(len:Int))=true:=by grind
   rw[hdec];refine .seq (.of (.condT (by simp[ev,AF.get]) (.skip ?_)));show BW E N k _ _ _ _ _;refine .seq (.block ((hb m a σ y hlt hJ).mono ?_));rintro e a1 σ1 y1 hq;have hnorm:rngB E N k B i d m J Q .normal a1 σ1 y1->BW E N k (.region r2 #[⟨some d,.binOp .add T2 (.tmp i) (.const (.int .i64 1)) T3,ty2,p2,af2,none⟩,⟨some i,.move (.tmp d),ty3,p3,af3,none⟩] false) a1 σ1 y1
    (fun e a σ y=>match e with
     | .normal=>m<len/\WeakB E N k a σ y (J (m+1))
     |e=>Zfp B Q e a σ y):=by
    rintro⟨h1,h3⟩;refine .of (.regL (L.ad rfl h1 (show ev E T2 a1 (.const (.int .i64 1))=some (.int .i64 1) from rfl) hd2 (by omega) (L.mv rfl (v:= .int .i64 ((m:Int)+1)) (by simp[ev,AF.put,AF.get]) hd3 (.nilL ?_))));rw[show((m:Int)+1)=((m+1:Nat):Int) from by omega];exact⟨hlt,h3⟩
   cases e with
   |normal=>exact hnorm hq
   |exit id=>
    simp only[Zfp,Yjn] at hq ⊢;cases hb:Nat.beq id C with
    |true=>rw[hb] at hq;exact hnorm hq
    |false=>rw[hb] at hq;exact hq
   |goto l=>exact hq
   |ret=>exact hq
   |panic ch=>exact hq
   |outgrown=>exact hq
  ·have hm':m=len:=by omega
   subst hm';have hdec:decide ((m:Int)<(m:Int))=false:=by simp
   rw[hdec];refine .seq (.of (.condF (by simp[ev,AF.get]) (.exit ?_)));show Zfp B Q (.exit B) _ _ _;simp only[Zfp,Nat.beq_refl,cond_true]
   grind
 refine .block ?_;refine .weak h0 fun a σ y hJ=> ?_;constructor;intro hk g w act hR hF hY;refine wp_loop_ghost (fun n act' w'=>∃m g' a' σ' y',len-m=n/\m<=len/\J m a' σ' y'/\k<=σ'.nx/\R E.G g' (·<σ'.nx) σ'.es w'/\FRel g' (·<σ'.nx) w' N act' a'/\YOk y' g' (Foot g' σ'.es) w'/\Ext (·<k) g (FY g σ.es y) w g' (FY g' σ'.es y') w')
  len ⟨0,g,a,σ,y,by omega,by omega,hJ,hk,hR,hF,hY,.refl ..⟩ ?_
 rintro n1 act1 w1 ⟨m,g1,a1,σ1,y1,hn1,hm,hJ1,hk1,hR1,hF1,hY1,hx1⟩;refine wp_mono ((round m a1 σ1 y1 hm hJ1).run hk1 g1 w1 act1 hR1 hF1 hY1) ?_;rintro e act2 w2 ⟨g2,a2,σ2,y2,hq,hk2,hR2,hF2,hY2,hx2⟩;cases e with
 |normal=>
  obtain⟨hlt,hJ⟩:=hq;obtain⟨a3,σ3,y3,g3,hs,hk3,hR3,hF3,hY3,hx3⟩:=hJ hk2 g2 w2 act2 hR2 hF2 hY2;exact⟨len-(m+1),by omega,m+1,g3,a3,σ3,y3,rfl,hlt,hs,hk3,hR3,hF3,hY3,(hx1.trans hx2).trans hx3⟩
 |exit id=>exact⟨g2,a2,σ2,y2,hq,hk2,hR2,hF2,hY2,hx1.trans hx2⟩
 |goto l=>exact⟨g2,a2,σ2,y2,hq,hk2,hR2,hF2,hY2,hx1.trans hx2⟩
 |ret=>exact⟨g2,a2,σ2,y2,hq,hk2,hR2,hF2,hY2,hx1.trans hx2⟩
 |panic ch=>exact⟨g2,a2,σ2,y2,hq,hk2,hR2,hF2,hY2,hx1.trans hx2⟩
 |outgrown=>exact⟨g2,a2,σ2,y2,hq,hk2,hR2,hF2,hY2,hx1.trans hx2⟩
end
def YC(E:Env)(f:FuncId)(args:List V)(T:V->Ys->Prop):Prop:=
 (∀vs w,(callFunc f vs).run E.P w= .ok (.enter f vs) w)/\
 ∀g w (vs:List Value),R E.G g (·<0) [] w->vs.length=args.length->(∀(i:Nat) v c,vs[i]? =some v->args[i]? =some c->VRel g (·<0) w v c)->
  Calls E.P f vs.toArray w fun e w'=>∃v g' r y,e= .returned v/\T r y/\R E.G g' (·<0) [] w'/\VRel g' (·<0) w' v r/\YOk y g' (Foot g' []) w'/\Ext (·<0) g (Foot g []) w g' (FY g' [] y) w'
def retY(E:Env)(rs:List ResultVar)(T:V->Ys->Prop):Exit->AF->Sto->Ys->Prop
 | .ret,a,σ,y=>∃r,T r y/\Ret E 0 rs r ⟨0,[]⟩ a σ
 | .normal,a,σ,y=>∃r,T r y/\Ret E 0 rs r ⟨0,[]⟩ a σ
 |_,_,_,_=>False
section
variable {E:Env} {N k:Nat} {a:AF} {σ:Sto} {y:Ys} {Q:Exit->AF->Sto->Ys->Prop}
theorem YC.mk{f:FuncId}{fn:Func}{c:Code}{args:List V}{T:V->Ys->Prop}{rs:List ResultVar}(hf:E.P.funcs[f]? =some fn)(hb:fn.body=some c)(hname:(fn.name== "runtime.NumGoroutine")=false)(hN:fn.ntmps=N)
 (hrs:fn.results=rs.toArray) (hargs:Nat.ble args.length N=true) (h:BW E N 0 c (Yit 0 args) ⟨0,[]⟩ [] (retY E rs T)):YC E f args T:=by
 refine⟨fun vs w=> ?_,fun g w vs hR hl hr=> ?_⟩
 ·have hname':¬fn.name= "runtime.NumGoroutine" :=by grind
  simp[callFunc,hf,hname',hb]
 ·have hle:=Nat.le_of_ble_eq_true hargs;refine calls_of_wp hf hb (wp_mono (h.run (Nat.le_refl _) g w _ hR ?_ .nil) ?_)
  ·refine ⟨by grind,rfl,fun t c hc=> ?_⟩;obtain⟨_,h1⟩:=Ztb hc;simp only[Nat.sub_zero] at h1;obtain⟨v,hv⟩:=getElem?_of_len hl.symm h1
   grind
  ·rintro e act' w' ⟨g',a',σ1,y1,hq,hk1,hR1,hF1,hY1,hx1⟩;rw[FY.nil] at hx1;have key:(∃r,T r y1/\Ret E 0 rs r ⟨0,[]⟩ a' σ1)->act'.defers=[]/\∃v,(results fn act'.tmps).run E.P w'= .ok v w'/\∃v' g'' r y,Ending.returned v= .returned v'/\T r y/\R E.G g'' (·<0) [] w'/\VRel g'' (·<0) w' v' r/\YOk y g'' (Foot g'' []) w'/\
    Ext (·<0) g (Foot g []) w g'' (FY g'' [] y) w':=by
    rintro⟨r,hT,hret⟩;obtain⟨v,g2,h1,h2,h3,h4⟩:=Ret.done hret hrs hR1 hF1;exact⟨hF1.defers,v,h1,v,g2,r,y1,rfl,hT,h2,h3,hY1.ext h4,hx1.trans (h4.keys y1)⟩
   cases e with
   |normal=>exact key hq
   |ret=>exact key hq
   |_=>exact hq.elim
theorem YC.use{f:FuncId}{args:List V}{T:V->Ys->Prop}(h:YC E f args T){g:Gh}{D:Nat->Prop}{es:Es}{w:World}(hR:R E.G g D es w)(hY:YOk y g (Foot g es) w){vs:List Value}{cs:List V}(hl:vs.length=cs.length)
 (hr:∀(i:Nat) v c,vs[i]? =some v->cs[i]? =some c->VRel g D w v c) (hle:∃cs1,w7 [] args=some cs1/\VsLe cs cs1) {P:Ending->World->Prop}
 (hP:∀v g' w' r y',T r y'->R E.G g' D es w'->VRel g' D w' v r->YOk (y'++y) g' (Foot g' es) w'->(∀p∈y',∀q∈y,p.1≠q.1)->Ext D g (FY g es y) w g' (FY g' es (y'++y)) w'->P (.returned v) w'):Calls E.P f vs.toArray w P:=by
 obtain⟨cs1,h1,h2⟩:=hle;obtain⟨_,h3⟩:=h;have hRs:R E.G g (·<0) [] w:=⟨fun n e h=>(by cases h),fun n n' e e' b h=>(by cases h),fun n e h=>(by cases h),hR.fresh,hR.glob⟩;have hnr:∀n m,Zbx [] n≠some m:=fun n m h=>by simp[Zbx,Zet] at h
 refine(h3 g w vs hRs (by rw[hl,h2.len,<-yv h1]) (fun i v c hv hc=> ?_)).mono ?_
 ·obtain ⟨c1,hc1⟩:=getElem?_of_len (yv h1) hc;obtain⟨c0,hc0,hle⟩:=h2.nth i c1 hc1;exact VRel.unren (ρ:=[]) (g2:=g) (hle _ _ _ _ (hr i v c0 hv hc0)) rfl (fun n m h=>absurd h (hnr n m)) (fun n m h=>absurd h (hnr n m)) (fun n h=>by simp[Zet] at h) c (vb h1 i c c1 hc hc1)
 ·rintro e w' ⟨v,g',r,y',rfl,hT,hR',hv,hY',hx⟩;have hnf:∀b,¬Foot g [] b:=fun b h=>by obtain⟨n,e,h,_⟩:=h;cases h
  have hsame:∀b,b<w.heap.size->w'.heap[b]? =w.heap[b]? /\g'.m b=g.m b:=fun b hb=>hx.frame b hb (hnf b);have hnew:∀p∈y',w.heap.size<=p.1:=fun p hp=>by
   rcases hx.newf p.1 (.inr ⟨p,hp,rfl⟩) with h|h;all_goals grind
  have hfoot:Foot (g.marks g') es=Foot g es:=by
   rfl
  have hx0:Ext D g (Foot g es) w (g.marks g') (Foot g es) w':=
   ⟨hx.os,hx.tape,hx.output,hx.size,hx.cells,hx.mark,fun _ _=>rfl,fun _ _=>rfl,fun b hb _=>hsame b hb,fun b hb=> .inl hb⟩
  refine hP v (g.marks g') w' r y' hT ?_ ?_ ?_ ?_ ?_
  ·refine hR.step hx.mark hx.cells (fun _ h=>h) (fun _ _=>rfl) (fun _ _=>rfl) (fun n e he=> .inl ⟨he,fun b hb=>hsame b (hR.foot_lt he hb)⟩) ?_ hR'.fresh;intro n n' e e' b h4 h5 h6 h7;exact hR.foots n n' e e' b h4 h5 (by cases e<;>exact h6) (by cases e'<;>exact h7)
  ·exact hv.mono (fun _=>Nat.le_refl _) (fun _ _ _=>rfl) (fun n h=>absurd h (Nat.not_lt_zero n)) (fun n h=>absurd h (Nat.not_lt_zero n)) (fun n h=>absurd h (Nat.not_lt_zero n))
  ·rw[hfoot];intro p hp;rcases List.mem_append.1 hp with hp|hp
   ·obtain ⟨q1,q2,us,t,q3,q4,q5,q6,q7⟩:=hY' p hp;refine⟨q1,fun hf=> ?_,us,t,q3,q4,q5,q6,fun i v c hv hc=>(q7 i v c hv hc).mono (fun _=>Nat.le_refl _) (fun _ _ _=>rfl) (fun _ h=>h) (fun _ h=>h.elim) (fun _ h=>h.elim)⟩;obtain⟨n,e,h4,h5⟩:=hf;have:=hR.foot_lt h4 h5
    grind
   ·exact hY.ext hx0 p hp
  ·intro p hp q hq e;obtain⟨_,_,us,t,q3,_⟩:=hY q hq
   grind
  ·refine ⟨hx.os,hx.tape,hx.output,hx.size,hx.cells,hx.mark,fun _ _=>rfl,fun _ _=>rfl,fun b hb _=>hsame b hb,fun b hb=> ?_⟩;rcases hb with hb|⟨p,hp,rfl⟩
   ·rw[hfoot] at hb;exact .inl (.inl hb)
   ·rcases List.mem_append.1 hp with hp|hp
    ·grind
    ·exact .inl (.inr ⟨p,hp,rfl⟩)
end
def ECv(Cv:V->V->Prop):Ent->Ent->Prop
 |_,.gone=>True
 | .var cs,.var cs2=>cs2.length=cs.length/\∀(i:Nat) c c2,cs[i]? =some c->cs2[i]? =some c2->Cv c c2
 |e,e2=>e2=e
theorem ECv.foot{Cv:V->V->Prop}{e e2:Ent}(h:ECv Cv e e2){g g2:Gh}{D:Nat->Prop}{n:Nat}(hn:D n)(hb:∀n,D n->g2.blk n=g.blk n)(hr:∀n,D n->g2.row n=g.row n){b:Nat}(hf:e2.foot g2 n=some b):e.foot g n=some b:=by
 rw[<-Ent.foot_same hn hb hr];cases e2 with
 |gone=>cases hf
 |var cs2=>cases e<;>first|exact hf|exact(by cases h)
 |map c ks xs=>cases e<;>first|exact(by cases h;exact hf)|exact(by cases h)
 |row=>cases e<;>first|exact hf|exact(by cases h)
theorem R.conv{G:Zfn}{g g2:Gh}{D D2:Nat->Prop}{es es2:Es}{w:World}(hR:R G g D es w)(hD:∀n,D n->D2 n)(hm:∀b,g.m b<=g2.m b)(hb:∀n,D n->g2.blk n=g.blk n)(hr:∀n,D n->g2.row n=g.row n)
 (hfoot:∀b,Foot g es b->g2.m b=g.m b) (hfresh:∀b,w.heap.size<=b->g2.m b=0) (Cv:V->V->Prop) (hv:∀v c c2,Cv c c2->VRel g D w v c->VRel g2 D2 w v c2) (n0:Nat)
 (he:∀n e2,zm es2 n=some e2->(n=n0/\D2 n/\ERel g2 D2 w n e2/\∀b,e2.foot g2 n=some b->¬Foot g es b)\/∃e,zm es n=some e/\ECv Cv e e2):R G g2 D2 es2 w:=by
 refine hR.step hm (fun _ _ _=>rfl) hD hb hr (fun n e2 h=> .inr ?_) ?_ hfresh
 ·rcases he n e2 h with⟨_,h1,h2,_⟩|⟨e,h1,h2⟩
  ·grind
  ·refine ⟨hD n (hR.lt n e h1),?_⟩;have h3:=(hR.ents n e h1).mono (g':=g2) (D':=D2) (w':=w) (hR.lt n e h1) hm (fun _ _ _=>rfl) hD hb hr (fun b hb=>⟨rfl,hfoot b ⟨n,e,h1,hb⟩⟩);cases e2 with
   |gone=>trivial
   |var cs2=>
    cases e with
    |var cs=>
     obtain⟨h4,h5⟩:=h2;obtain⟨q1,us,t,q2,q3,q4,q5,q6⟩:=h3;obtain⟨p1,us',t',p2,_,_,p5,_⟩:=hR.ents n _ h1;rw[hb n (hR.lt n _ h1)] at q2;rw[q2] at p2;simp only[Option.some.injEq,Obj.cells.injEq] at p2;obtain⟨p3,_,_⟩:=p2;have p3:us=us':=by grind
     subst p3;refine⟨q1,us,t,by rw[hb n (hR.lt n _ h1)];exact q2,by omega,q4,fun i v c2 hvi hci=> ?_,q6⟩
     grind
    |map _ _ _=>cases h2
    |row=>cases h2
    |gone=>cases h2
   |map c ks xs=>cases e<;>first|exact(by cases h2;exact h3)|exact(by cases h2)
   |row=>cases e<;>first|exact h3|exact(by cases h2)
 ·intro n n' e e' b h1 h2 h3 h4;rcases he n e h1 with⟨rfl,_,_,q⟩|⟨d,h5,h6⟩
  ·rcases he n' e' h2 with⟨rfl,_⟩|⟨d',h7,h8⟩
   ·rfl
   ·exact absurd ⟨n',d',h7,h8.foot (hR.lt _ _ h7) hb hr h4⟩ (q b h3)
  ·rcases he n' e' h2 with⟨rfl,_,_,q⟩|⟨d',h7,h8⟩
   ·exact absurd ⟨n,d,h5,h6.foot (hR.lt _ _ h5) hb hr h3⟩ (q b h4)
   ·exact hR.foots n n' d d' b h5 h7 (h6.foot (hR.lt _ _ h5) hb hr h3) (h8.foot (hR.lt _ _ h7) hb hr h4)
def TCv(b n cap sz:Nat)(c c2:V):Prop:=c2=c\/(∃off,c= .rp b off/\c2= .ptr n off)\/(∃len,len<=cap/\c= .rs b len cap/\c2= .arr n len sz)
section
variable {E:Env} {N k:Nat} {a:AF} {σ:Sto} {y:Ys} {Q:Exit->AF->Sto->Ys->Prop}
theorem Yc2{b cap sz:Nat}{cs:List V}{y1:Ys}(hy:y.Perm ((b,cap*sz,cs)::y1))(hnd:(y.map Prod.fst).Nodup)(a2:AF)(es2:Es)
 (hf:∀t c2,a2.get t=some c2->∃c,a.get t=some c/\TCv b σ.nx cap sz c c2)
 (he:∀n e2,zm es2 n=some e2->(n=σ.nx/\e2= .var cs)\/∃e,zm σ.es n=some e/\ECv (TCv b σ.nx cap sz) e e2):
 k<=σ.nx->∀g w act,R E.G g (·<σ.nx) σ.es w->FRel g (·<σ.nx) w N act a->YOk y g (Foot g σ.es) w->
 ∃g2,g2.blk σ.nx=b/\g2.row σ.nx=some ⟨b,0,cap,sz,0⟩/\R E.G g2 (·<σ.nx+1) es2 w/\FRel g2 (·<σ.nx+1) w N act a2/\YOk y1 g2 (Foot g2 es2) w/\Ext (·<k) g (FY g σ.es y) w g2 (FY g2 es2 y1) w:=by
 intro hk g w act hR hF hY
 let g2:=g.nameR σ.nx b (some ⟨b,0,cap,sz,0⟩)
 have hne:∀i,i<σ.nx->i≠σ.nx:=fun i h=>by omega
 have hb:∀i,i<σ.nx->g2.blk i=g.blk i:=fun i hi=>by simp[g2,Gh.nameR,hne i hi]
 have hrw:∀i,i<σ.nx->g2.row i=g.row i:=fun i hi=>by simp[g2,Gh.nameR,hne i hi]
 have hbn:g2.blk σ.nx=b:=by simp[g2,Gh.nameR]
 have hrn:g2.row σ.nx=some ⟨b,0,cap,sz,0⟩:=by simp[g2,Gh.nameR]
 have hD:∀n,n<σ.nx->n<σ.nx+1:=fun n h=>by omega
 obtain⟨h1,h2,vs,t,h3,h4,h5,h6,h7⟩:=hY (b,cap*sz,cs) (hy.mem_iff.2 (by simp));simp only at h1 h2 h3 h4 h5 h7;have hmono:∀v c,VRel g (·<σ.nx) w v c->VRel g2 (·<σ.nx+1) w v c:=fun v c h=>h.mono (fun _=>Nat.le_refl _) (fun _ _ _=>rfl) hD hb hrw;have hv:∀v c c2,TCv b σ.nx cap sz c c2->VRel g (·<σ.nx) w v c->VRel g2 (·<σ.nx+1) w v c2:=by
  rintro v c c2 (rfl|⟨off,rfl,rfl⟩|⟨len,hl,rfl,rfl⟩) h
  ·grind
  ·rw[h.raw_inv];have:=VRel.ptr (g:=g2) (D:=(·<σ.nx+1)) (w:=w) σ.nx off (by omega)
   grind
  ·rw[h.raw_inv];have:=VRel.arr (g:=g2) (D:=(·<σ.nx+1)) (w:=w) σ.nx len sz cap (by omega) hl (by grind)
   grind
 have hent:ERel g2 (·<σ.nx+1) w σ.nx (.var cs):=by
  refine⟨by rw[hbn];exact h1,vs,t,by grind,by omega,h6,fun i v c hv hc=>(h7 i v c hv hc).mono (fun _=>Nat.le_refl _) (fun _ _ _=>rfl) (fun _ h=>h.elim) (fun _ h=>h.elim) (fun _ h=>h.elim),fun ρ hρ=> ?_⟩
  grind
 have hfootin:∀x,Foot g2 es2 x->Foot g σ.es x\/x=b:=by
  rintro x ⟨n,e2,q1,q2⟩;rcases he n e2 q1 with⟨rfl,rfl⟩|⟨e,q3,q4⟩
  ·simp only[Ent.foot,Option.some.injEq,hbn] at q2;omega
  ·exact .inl ⟨n,e,q3,q4.foot (D:=(·<σ.nx)) (hR.lt _ _ q3) hb hrw q2⟩
 have hnd2:∀p∈y1,p.1≠b:=by
  grind
 refine⟨g2,hbn,hrn,?_,⟨hF.size,hF.defers,fun t c2 hc=> ?_⟩,?_,?_⟩
 ·refine hR.conv hD (fun _=>Nat.le_refl _) hb hrw (fun _ _=>rfl) hR.fresh _ hv σ.nx fun n e2 hn=> ?_;rcases he n e2 hn with⟨rfl,rfl⟩|h
  ·refine .inl ⟨rfl,by omega,hent,fun x hx=> ?_⟩;simp only[Ent.foot,Option.some.injEq,hbn] at hx
   grind
  grind
 ·obtain ⟨c,q1,q2⟩:=hf t c2 hc;obtain⟨v,q3,q4⟩:=hF.vals t c q1
  grind
 ·intro p hp;obtain⟨q1,q2,us,t',q3,q4,q5,q6,q7⟩:=hY p (hy.mem_iff.2 (by grind));refine⟨q1,fun hfo=> ?_,us,t',q3,q4,q5,q6,fun i v c hv hc=>(q7 i v c hv hc).mono (fun _=>Nat.le_refl _) (fun _ _ _=>rfl) (fun _ h=>h) (fun _ h=>h.elim) (fun _ h=>h.elim)⟩
  grind
 ·refine ⟨rfl,rfl,rfl,Nat.le_refl _,fun _ _ _=>rfl,fun _=>Nat.le_refl _,fun n hn=>hb n (by omega),fun n hn=>hrw n (by omega),fun _ _ _=>⟨rfl,rfl⟩,fun x hx=> .inl ?_⟩;rcases hx with hx|⟨p,hp,rfl⟩
  ·rcases hfootin x hx with h|rfl
   ·exact .inl h
   ·exact .inr ⟨(x,cap*sz,cs),hy.mem_iff.2 (by simp),rfl⟩
  ·exact .inr ⟨p,hy.mem_iff.2 (by grind),rfl⟩
theorem WeakB.take{b cap sz:Nat}{cs:List V}{y1:Ys}(hy:y.Perm ((b,cap*sz,cs)::y1))(hnd:(y.map Prod.fst).Nodup)(a2:AF)(es2:Es)
 (hf:∀t c2,a2.get t=some c2->∃c,a.get t=some c/\TCv b σ.nx cap sz c c2)
 (he:∀n e2,zm es2 n=some e2->(n=σ.nx/\e2= .var cs)\/∃e,zm σ.es n=some e/\ECv (TCv b σ.nx cap sz) e e2):
 WeakB E N k a σ y (fun a3 σ3 y3=>a3=a2/\σ3=⟨σ.nx+1,es2⟩/\y3=y1):=by
 intro hk g w act hR hF hY;obtain⟨g2,_,_,h1,h2,h3,h4⟩:=Yc2 hy hnd a2 es2 hf he hk g w act hR hF hY
 grind
def V.free(c:V):Prop:=∀g D w v,VRel g D w v c->VRel g (fun _=>False) w v c
theorem V.free_raw(u:Value):V.free (.raw u):=fun g D w v h=>by rw[h.raw_inv];exact .raw u
theorem BW.after{c:Code}(h:BW E N k c a σ y (fun e a σ y=>WeakB E N k a σ y (Q e))):BW E N k c a σ y Q:=by
 constructor;intro hk g w act hR hF hY;refine wp_mono (h.run hk g w act hR hF hY) ?_;rintro e act1 w1 ⟨g1,a1,σ1,y1,hq,hk1,hR1,hF1,hY1,hx⟩;obtain⟨a2,σ2,y2,g2,hs,hk2,hR2,hF2,hY2,hx2⟩:=hq hk1 g1 w1 act1 hR1 hF1 hY1;exact⟨g2,a2,σ2,y2,hs,hk2,hR2,hF2,hY2,hx.trans hx2⟩
def Frz(y:Ys)(u:Value)(l:SL V):Prop:=∀g w,(∀p∈y,p.2.2.length<=g.m p.1/\∃(vs:List Value) (t:TypeId),w.heap[p.1]? =some (.cells vs.toArray t (0,0))/\p.2.2.length<=vs.length/\
 ∀(i:Nat) v c,vs[i]? =some v->p.2.2[i]? =some c->VRel g (fun _=>False) w v c)->DRel g.m w u (.slice .any l)
end
end Go.Ab
namespace Go.Ab
open Go
set_option linter.all false
inductive Yn where
 |dat (c:V)
 |row (c:EC) (n:Nat) (cells:List Yn)
mutual
inductive YM (s:Prop):Yn->V->Ys->Prop
 |dat (c:V) (h:V.isD c=true):YM s (.dat c) c []
 |nil (c:EC):YM s (.row c 0 []) (.raw (.slice none 0 0)) []
 |row (c:EC) (n:Nat) (cells:List Yn) (b room cap:Nat) (cs:List V) (y:Ys) (hroom:s->room=cap*c.cells) (hcap:n<=cap) (hn:0<n) (hl:cells.length=n*c.cells) (h:YMs s cells cs y):
  YM s (.row c n cells) (.rs b n cap) ((b,room,cs)::y)
inductive YMs (s:Prop):List Yn->List V->Ys->Prop
 |nil:YMs s [] [] []
 |cons {x:Yn} {v:V} {y:Ys} {l:List Yn} {vs:List V} {y2:Ys} (h:YM s x v y) (h2:YMs s l vs y2):YMs s (x::l) (v::vs) (y++y2)
end
mutual
inductive Er:Yn->V->Prop
 |dat (c:V) (h:V.isD c=true):Er (.dat c) c
 |row (c:EC) (n:Nat) (cells:List Yn) (xs:List c.sem) (hl:xs.length=n) (h:Ers cells (xs.flatMap c.view)):Er (.row c n cells) (.slice .any (.t c xs))
inductive Ers:List Yn->List V->Prop
 |nil:Ers [] []
 |cons {x:Yn} {v:V} {l:List Yn} {vs:List V} (h:Er x v) (h2:Ers l vs):Ers (x::l) (v::vs)
end
theorem YMs.len{s:Prop}:∀{l:List Yn} {cs:List V} {y:Ys},YMs s l cs y->cs.length=l.length
 |[],_,_,h=>by cases h;rfl
 |x::l,_,_,h=>by cases h with|cons h h2=>simp[h2.len]
theorem Ers.len:∀{l:List Yn} {cs:List V},Ers l cs->cs.length=l.length
 |[],_,h=>by cases h;rfl
 |x::l,_,h=>by cases h with|cons h h2=>simp[h2.len]
theorem YMs.app{s:Prop}:∀{l:List Yn} {cs:List V} {y:Ys} {l2:List Yn} {cs2:List V} {y2:Ys},YMs s l cs y->YMs s l2 cs2 y2->YMs s (l++l2) (cs++cs2) (y++y2)
 |[],_,_,l2,cs2,y2,h,h2=>by cases h;exact h2
 |x::l,_,_,l2,cs2,y2,h,h2=>by
  cases h with
  |cons h h3=>rw[List.append_assoc];exact .cons h (h3.app h2)
theorem YMs.split{s:Prop}:∀{l l2:List Yn} {cs:List V} {y:Ys},YMs s (l++l2) cs y->∃cs1 cs2 y1 y2,cs=cs1++cs2/\y=y1++y2/\YMs s l cs1 y1/\YMs s l2 cs2 y2
 |[],l2,cs,y,h=>⟨[],cs,[],y,rfl,rfl,.nil,h⟩
 |x::l,l2,_,_,h=>by
  cases h with
  | @cons _ v y0 _ vs y2 h h3=>
    obtain⟨cs1,cs2,y1,y2,rfl,rfl,h4,h5⟩:=h3.split;exact⟨v::cs1,cs2,y0++y1,y2,rfl,by simp,.cons h h4,h5⟩
theorem Ers.app:∀{l:List Yn} {cs:List V} {l2:List Yn} {cs2:List V},Ers l cs->Ers l2 cs2->Ers (l++l2) (cs++cs2)
 |[],_,l2,cs2,h,h2=>by cases h;exact h2
 |x::l,_,l2,cs2,h,h2=>by cases h with|cons h h3=>exact .cons h (h3.app h2)
theorem Ers.split:∀{l l2:List Yn} {cs:List V},Ers (l++l2) cs->∃cs1 cs2,cs=cs1++cs2/\Ers l cs1/\Ers l2 cs2
 |[],l2,cs,h=>⟨[],cs,rfl,.nil,h⟩
 |x::l,l2,_,h=>by
  cases h with
  |cons h h3=>
   obtain⟨cs1,cs2,rfl,h4,h5⟩:=h3.split;exact⟨_::cs1,cs2,rfl,.cons h h4,h5⟩
mutual
theorem YM.weak{s s':Prop}(hs:s'->s):∀{x:Yn} {v:V} {y:Ys},YM s x v y->YM s' x v y
 |_,_,_,.dat c h=> .dat c h
 |_,_,_,.nil c=> .nil c
 |_,_,_,.row c n cells b room cap cs y hroom hcap hn hl h=> .row c n cells b room cap cs y (fun h=>hroom (hs h)) hcap hn hl (h.weak hs)
theorem YMs.weak{s s':Prop}(hs:s'->s):∀{l:List Yn} {cs:List V} {y:Ys},YMs s l cs y->YMs s' l cs y
 |_,_,_,.nil=> .nil
 |_,_,_,.cons h h2=> .cons (h.weak hs) (h2.weak hs)
end
theorem V.isD_ren{c:V}(h:V.isD c=true)(ρ:List (Option Nat)):vo ρ c=some c:=by
 cases c with
 |slice sp l=>cases sp<;>first|rfl|cases h
 |_=>first|rfl|cases h
theorem V.isD_free{c:V}(h:V.isD c=true):V.free c:=fun g D w v hv=> .data (hv.isD h)
theorem YM.ren{s:Prop}{x:Yn}{v:V}{y:Ys}(h:YM s x v y)(ρ:List (Option Nat)):vo ρ v=some v/\V.free v:=by
 cases h with
 |dat _ h=>exact⟨V.isD_ren h ρ,V.isD_free h⟩
 |nil=>exact⟨rfl,V.free_raw _⟩
 |row=>exact⟨rfl,V.free_raw _⟩
theorem YMs.ren{s:Prop}:∀{l:List Yn} {cs:List V} {y:Ys},YMs s l cs y->∀ρ:List (Option Nat),w7 ρ cs=some cs
 |_,_,_,.nil,ρ=>rfl
 |_,_,_,.cons h h2,ρ=>by simp[w7,(h.ren ρ).1,h2.ren ρ]
theorem YMs.free{s:Prop}:∀{l:List Yn} {cs:List V} {y:Ys},YMs s l cs y->∀c∈cs,V.free c
 |_,_,_,.nil,c,hc=>by cases hc
 |_,_,_,.cons h h2,c,hc=>by
  rcases List.mem_cons.1 hc with rfl|hc
  ·exact (h.ren []).2
  ·exact h2.free c hc
def YD(y:Ys)(g:Gh)(w:World):Prop:=∀p∈y,p.2.2.length<=g.m p.1/\∃(vs:List Value) (t:TypeId),w.heap[p.1]? =some (.cells vs.toArray t (0,0))/\p.2.2.length<=vs.length/\
 ∀(i:Nat) v c,vs[i]? =some v->p.2.2[i]? =some c->VRel g (fun _=>False) w v c
mutual
theorem YM.data{s:Prop}{g:Gh}{w:World}:∀{x:Yn} {v:V} {y:Ys},YM s x v y->∀{c:V},Er x c->YD y g w->∀{u:Value},VRel g (fun _=>False) w u v->DRel g.m w u c
 |_,_,_,.dat c _,_,he,_,u,hu=>by cases he with|dat _ h=>exact hu.isD h
 |_,_,_,.nil c,_,he,_,u,hu=>by
  cases he with
  |row _ _ _ xs hl h=>
   rw[hu.raw_inv];exact .nilS _ (by simpa[SL.len] using hl)
 |_,_,_,.row c n cells b room cap cs y _ hcap hn hlc h,_,he,hy,u,hu=>by
  cases he with
  |row _ _ _ xs hxl hx=>
   rw[hu.raw_inv];obtain⟨hm,vs,t,hh,hvl,hv⟩:=hy (b,room,cs) (by simp);simp only at hm hh hvl hv;have hcl:=h.len;have key:=h.data hx (fun p hp=>hy p (by grind)) (vs:=vs.take cs.length) (by grind) (fun i v c hi hc=>by
    grind)
   subst hxl;have hfl:=Zat c xs;refine .slice (.t c xs) b 0 cap (fun i j=>vs.getD (i*c.cells+j) undef) (by show 0+xs.length*c.cells<=g.m b;omega) hcap (fun i hi=> ?_) (fun i j hi hj=> ?_) (fun i j ds d hi hds hd=> ?_)
   ·exact ⟨c.view xs[i],by show(xs[i]?).map c.view=_;rw[List.getElem?_eq_getElem hi];rfl,EC.view_len c _⟩
   ·rw[Nat.zero_add,Zdd hh];have:=Zio hi hj;have hlt:i*c.cells+j<vs.length:=by
     have:i*c.cells+j<xs.length*c.cells:=this;omega
    show vs.toArray[i*c.cells+j]? =some (vs.getD (i*c.cells+j) undef)
    grind
   ·have hds':(xs[i]?).map c.view=some ds:=hds;rw[List.getElem?_eq_getElem hi] at hds';simp only[Option.map_some,Option.some.injEq] at hds';subst hds';have hj:j<c.cells:=by have:=(List.getElem?_eq_some_iff.1 hd).1;rwa [EC.view_len] at this
    have h1:(xs.flatMap c.view)[i*c.cells+j]? =some d:=by rw[Zd3 c xs i j hj,List.getElem?_eq_getElem hi];exact hd
    grind
theorem YMs.data{s:Prop}{g:Gh}{w:World}:∀{l:List Yn} {cs:List V} {y:Ys},YMs s l cs y->∀{ds:List V},Ers l ds->YD y g w->∀{vs:List Value},vs.length=cs.length->(∀(i:Nat) v c,vs[i]? =some v->cs[i]? =some c->VRel g (fun _=>False) w v c)->
 ∀(i:Nat) v d,vs[i]? =some v->ds[i]? =some d->DRel g.m w v d
 |_,_,_,.nil,_,he,_,vs,hl,hv=>fun i v d hi hd=>by grind
 |_,_,_,.cons h h2,_,he,hy,vs,hl,hv=>fun i v d hi hd=>by
  cases he with
  |cons he he2=>
   cases vs with
   |nil=>grind
   |cons u us=>
    cases i with
    |zero=>
     simp at hi hd;subst hi;subst hd;exact h.data he (fun p hp=>hy p (by grind)) (hv 0 _ _ rfl rfl)
    |succ i=>
     exact h2.data he2 (fun p hp=>hy p (by grind)) (vs:=us) (by grind) (fun i v c hi hc=>hv (i+1) v c (by grind) (by grind)) i v d (by grind) (by grind)
end
theorem Frz.of{s:Prop}{x:Yn}{u:Value}{y y2:Ys}{l:SL V}(h:YM s x (.raw u) y)(he:Er x (.slice .any l))(hy:∀p∈y,p∈y2):Frz y2 u l:=
 fun g w hd=>h.data he (fun p hp=>hd p (hy p hp)) (.raw u)
mutual
def Tm.yn:Tm->List Yn| .mk k i t as=>[.dat (.i k),.dat (.i i),.dat (.i t.kind),.dat (.s .ty t.args),.row .tm as.length (Tm.yns as)]
def Tm.yns:List Tm->List Yn|[]=>[]|a::l=>a.yn++Tm.yns l
end
theorem Tm.yn_len:∀t:Tm,t.yn.length=5| .mk _ _ _ _=>rfl
theorem Tm.yns_len:∀l:List Tm,(Tm.yns l).length=l.length*5
 |[]=>rfl
 |a::l=>by rw[Tm.yns,List.length_append,Tm.yn_len,Tm.yns_len l,List.length_cons];omega
mutual
theorem Tm.er:∀t:Tm,Ers t.yn t.view
 | .mk k i t as=> .cons (.dat _ rfl) (.cons (.dat _ rfl) (.cons (.dat _ rfl) (.cons (.dat _ rfl) (.cons (.row .tm _ _ as rfl (Tm.ers as)) .nil))))
theorem Tm.ers:∀l:List Tm,Ers (Tm.yns l) (l.flatMap (EC.view .tm))
 |[]=> .nil
 |a::l=>by rw[Tm.yns,List.flatMap_cons];exact(Tm.er a).app (Tm.ers l)
end
section
variable {E:Env} {N k:Nat} {a:AF} {σ:Sto} {y:Ys} {Q:Exit->AF->Sto->Ys->Prop}
theorem WeakB.mono{S S':AF->Sto->Ys->Prop}(h:WeakB E N k a σ y S)(hS:∀a σ y,S a σ y->S' a σ y):WeakB E N k a σ y S':=by
 intro hk g w act hR hF hY;obtain⟨a2,σ2,y2,g2,hs,h2⟩:=h hk g w act hR hF hY
 grind
def AF.Cnv(Cv:V->V->Prop)(a:AF):AF->Prop
 |[]=>True
 |p::l=>(∃c,a.get p.1=some c/\Cv c p.2)/\AF.Cnv Cv a l
theorem AF.Cnv.get{Cv:V->V->Prop}{a:AF}:∀{a2:AF},AF.Cnv Cv a a2->∀t c2,a2.get t=some c2->∃c,a.get t=some c/\Cv c c2
 |[],_,t,c2,h=>by cases h
 |p::l,h,t,c2,hc=>by
  obtain⟨m,e⟩:=p;rw[AF.get_cons] at hc;by_cases ht:m=t
  ·subst ht;rw[if_pos rfl] at hc;cases hc;exact h.1
  ·rw[if_neg ht] at hc;exact AF.Cnv.get h.2 t c2 hc
def Es.Cnv(Cv:V->V->Prop)(es:Es):Es->Prop
 |[]=>True
 |p::l=>(∃e,zm es p.1=some e/\ECv Cv e p.2)/\Es.Cnv Cv es l
theorem Es.Cnv.get{Cv:V->V->Prop}{es:Es}:∀{es2:Es},Es.Cnv Cv es es2->∀n e2,zm es2 n=some e2->∃e,zm es n=some e/\ECv Cv e e2
 |[],_,t,c2,h=>by cases h
 |p::l,h,t,c2,hc=>by
  obtain⟨m,e⟩:=p;rw[zq] at hc;by_cases ht:m=t
  ·subst ht;rw[if_pos rfl] at hc;cases hc;exact h.1
  ·rw[if_neg ht] at hc;exact Es.Cnv.get h.2 t c2 hc
theorem ECv.same{Cv:V->V->Prop}(hr:∀c,Cv c c)(e:Ent):ECv Cv e e:=by
 cases e with
 |var cs=>exact⟨rfl,fun i c c2 h h2=>by grind⟩
 |_=>first|trivial|rfl
def CvL(Cv:V->V->Prop):List V->List V->Prop
 |[],[]=>True
 |c::cs,c2::cs2=>Cv c c2/\CvL Cv cs cs2
 |_,_=>False
theorem CvL.get{Cv:V->V->Prop}:∀{cs cs2:List V},CvL Cv cs cs2->cs2.length=cs.length/\∀(i:Nat) c c2,cs[i]? =some c->cs2[i]? =some c2->Cv c c2
 |[],[],_=>⟨rfl,fun i c c2 h=>by simp⟩
 |c::cs,c2::cs2,h=>by
  obtain⟨h1,h2⟩:=CvL.get h.2;refine⟨by grind,fun i d d2 q q2=> ?_⟩;cases i with
  |zero=>simp at q q2;subst q;subst q2;exact h.1
  |succ i=>grind
 |[],_::_,h=>h.elim
 |_::_,[],h=>h.elim
theorem ECv.var{Cv:V->V->Prop}{cs cs2:List V}(h:CvL Cv cs cs2):ECv Cv (.var cs) (.var cs2):=h.get
end
theorem YMs.inv{s:Prop}{x:Yn}{l:List Yn}{cs:List V}{y:Ys}(h:YMs s (x::l) cs y):∃v vs y1 y2,cs=v::vs/\y=y1++y2/\YM s x v y1/\YMs s l vs y2:=by
 cases h<;>grind
theorem YMs.tm{s:Prop}{t:Tm}{vs:List V}{y:Ys}(h:YMs s t.yn vs y):∃sv,vs=[.i t.kind,.i t.index,.i t.ty.kind,.s .ty t.ty.args,.raw sv]/\YM s (.row .tm t.args.length (Tm.yns t.args)) (.raw sv) y:=by
 obtain⟨k,i,ty,as⟩:=t;have h:YMs s [.dat (.i k),.dat (.i i),.dat (.i ty.kind),.dat (.s .ty ty.args),.row .tm as.length (Tm.yns as)] vs y:=by unfold Tm.yn at h;exact h
 show ∃sv,vs=[.i k,.i i,.i ty.kind,.s .ty ty.args,.raw sv]/\YM s (.row .tm as.length (Tm.yns as)) (.raw sv) y;generalize as.length=n at h ⊢;generalize Tm.yns as=cells at h ⊢;obtain⟨_,_,_,_,rfl,rfl,k1,h1⟩:=h.inv;cases k1;obtain⟨_,_,_,_,rfl,rfl,k2,h2⟩:=h1.inv;cases k2;obtain⟨_,_,_,_,rfl,rfl,k3,h3⟩:=h2.inv;cases k3;obtain⟨_,_,_,_,rfl,rfl,k4,h4⟩:=h3.inv;cases k4;obtain⟨_,_,_,_,rfl,rfl,k5,h5⟩:=h4.inv;cases h5;cases k5 with
 |nil c=>exact⟨_,rfl,by simpa using YM.nil .tm⟩
 |row c n cells b room cap cs y hroom hcap hn hl hz=>exact⟨_,rfl,by simpa using YM.row .tm _ _ b room cap cs y hroom hcap hn hl hz⟩
section
variable {E:Env} {N k:Nat} {ops:List Oper} {dr:Bool} {rest:List Oper} {a:AF} {σ:Sto} {acc:List Rec} {Q:Exit->AF->Sto->Prop}
variable {d:Option Tmp} {ty:TypeId} {ps:String} {af:Array Edge} {gd:Option (Nat×Bool)}
theorem CvL.refl{Cv:V->V->Prop}(hr:∀c,Cv c c):∀cs:List V,CvL Cv cs cs
 |[]=>trivial
 |c::cs=>⟨hr c,CvL.refl hr cs⟩
theorem CvL.app{Cv:V->V->Prop}:∀{a a' b b':List V},CvL Cv a a'->CvL Cv b b'->CvL Cv (a++b) (a'++b')
 |[],[],_,_,_,h2=>h2
 |c::a,c'::a',_,_,h,h2=>⟨h.1,CvL.app h.2 h2⟩
 |[],_::_,_,_,h,_=>h.elim
 |_::_,[],_,_,h,_=>h.elim
theorem Zwa:∀cs:List V,cs.all V.isD=true->Ers (cs.map Yn.dat) cs
 |[],_=> .nil
 |c::cs,h=>by
  simp only[List.all_cons,Bool.and_eq_true] at h;exact .cons (.dat c h.1) (Zwa cs h.2)
def Es.CnvN(Cv:V->V->Prop)(es:Es)(n0:Nat)(cs0:List V):Es->Prop
 |[]=>True
 |p::l=>((p.1=n0/\p.2= .var cs0)\/∃e,zm es p.1=some e/\ECv Cv e p.2)/\Es.CnvN Cv es n0 cs0 l
theorem Es.CnvN.get{Cv:V->V->Prop}{es:Es}{n0:Nat}{cs0:List V}:∀{es2:Es},Es.CnvN Cv es n0 cs0 es2->∀n e2,zm es2 n=some e2->(n=n0/\e2= .var cs0)\/∃e,zm es n=some e/\ECv Cv e e2
 |[],_,t,c2,h=>by cases h
 |p::l,h,t,c2,hc=>by
  obtain⟨m,e⟩:=p;rw[zq] at hc;by_cases ht:m=t
  ·subst ht;rw[if_pos rfl] at hc;cases hc;exact h.1
  ·rw[if_neg ht] at hc;exact Es.CnvN.get h.2 t c2 hc
end
def Zq8(W:World)(b:Nat):Nat:=match W.heap[b]? with
 |some (.cells cs _ _)=>cs.size
 |_=>0
theorem Zp0{W:World}{b o:Nat}{v:Value}(h:W.cell? ⟨b,o,none⟩=some v):o<Zq8 W b:=by
 unfold Zq8;simp only[World.cell?] at h
 grind
def gh0(W:World):Gh:=⟨fun _=>0,fun _=>none,Zq8 W⟩
def Old(W W':World):Prop:=∀b,b<W.heap.size->W'.heap[b]? =W.heap[b]?
theorem Old.cell{W W':World}(h:Old W W'){a:Addr}{v:Value}(hc:W.cell? a=some v):W'.cell? a=some v:=by
 have hb:a.block<W.heap.size:=by
  simp only[World.cell?] at hc
  grind
 rw[<-hc];simp only[World.cell?,h a.block hb]
theorem Zwu{W:World}{a:Addr}{i:Nat}{v:Value}(hv:W.cell? (a.add i)=some v):a.add i=⟨a.block,a.off+i,none⟩:=by
 have hspot:(a.add i).spot=none:=by
  cases hsp:(a.add i).spot with
  |none=>rfl
  |some s=>
   simp only[World.cell?] at hv
   grind
 unfold Addr.add at hspot ⊢;split
 ·rename_i h0;subst h0;rw[if_pos rfl] at hspot;cases a;simp_all
 ·rfl
section
variable {H:Type} {enc:TypeId×Value->H} {P:Program} {W:World}
def Rel(W:World)(cs:List Value)(vs:List V):Prop:=cs.length=vs.length/\∀(i:Nat) v c,cs[i]? =some v->vs[i]? =some c->DRel (Zq8 W) W v c
def Yhk(enc:TypeId×Value->H)(P:Program)(W:World)(n:Nat)(t:TypeId)(cs:List Value)(x:DataW H×List MemPlace):Prop:=
 ∀W' sp,Old W W'->(∀b,b<W.heap.size->sp b=true)->DataW.trod enc P W' 0 sp true n t cs=some x
def Ye5(enc:TypeId×Value->H)(P:Program)(W:World)(n:Nat)(t:TypeId)(F:List V->Prop):Prop:=
 ∀cs x,DataW.trod enc P W 0 (fun _=>true) true n t cs=some x->Yhk enc P W n t cs x/\∃vs,F vs/\Rel W cs vs
theorem Old.cells{W':World}(h:Old W W'){a:Addr}{n:Nat}{cs:List Value}(hc:W.cells? 0 a n=some cs):W'.cells? 0 a n=some cs:=by
 obtain⟨h1,h2,h3⟩:=World.cells?_some hc;exact World.cells?_of_each h1 h2 fun i hi=>by
  have h4:=h3 i hi;rw[List.getElem?_eq_getElem (by omega)] at h4 ⊢;exact h.cell h4
theorem Zth{t:TypeId}{k:IntKind}(ht:P.underlying t=some (.int k))(n:Nat):Ye5 enc P W n t (fun vs=>∃i,vs=[.int k i]/\(Lit.int k i).wf=true):=by
 intro cs x h;obtain⟨i,rfl,rfl,hw⟩:=DataW.trod_int ht h;refine⟨fun W' sp _ _=> ?_,[.int k i],⟨i,rfl,hw⟩,rfl,?_⟩
 ·cases n with
  |zero=>simp[DataW.trod] at h
  |succ n=>simp[DataW.trod,ht,hw]
 ·intro j v c hv hc;cases j with
  |zero=>simp at hv hc;subst hv;subst hc;exact .int k i
  |succ j=>grind
theorem Zku{α β:Type}{f g:α->Option β}:∀{l:List α} {r:List β},l.mapM f=some r->(∀x∈l,∀y,f x=some y->g x=some y)->l.mapM g=some r:=by
 intro l;induction l with
 |nil=>simp
 |cons x l ih=>
  intro r h hg;simp only[List.mapM_cons,Option.bind_eq_bind,Option.bind_eq_some_iff,Option.pure_def,Option.some.injEq] at h ⊢
  grind
theorem Zul{t e:TypeId}{c:EC}{n:Nat}(p:c.sem->Prop)(ht:P.underlying t=some (.slice e))(hc:P.cellsOf e=c.cells)(hpos:0<c.cells)(he:Ye5 enc P W n e (fun vs=>∃y:c.sem,vs=c.view y/\p y))
 {cs:List Value} {x:DataW H×List MemPlace} (h:DataW.trod enc P W 0 (fun _=>true) true (n+1) t cs=some x):
 Yhk enc P W (n+1) t cs x/\∃vs,(∃ys:List c.sem,vs=[.slice .any (.t c ys)]/\ys.length<=maxLen/\∀y∈ys,p y)/\Rel W cs vs:=by
 have h':=h;rcases DataW.trod_slice ht h with⟨rfl,rfl⟩|⟨a,len,cap,elems,rest,n',hn,rfl,hx,hb,hlc,hcm,hel,hi,hr,_⟩
 ·refine ⟨fun W' sp _ _=>by simp[DataW.trod,ht],[.slice .any (.t c [])],⟨[],rfl,Nat.zero_le _,fun y hy=>by cases hy⟩,rfl,?_⟩;intro j v d hv hd;cases j with
  |zero=>simp at hv hd;subst hv;subst hd;exact .nilS _ rfl
  |succ j=>grind
 ·cases hn;have key:∀i,i<len->∃us y,W.cells? 0 (a.add (i*P.cellsOf e)) (P.cellsOf e)=some us/\DataW.trod enc P W 0 (fun _=>true) true n e us=some y/\elems[i]? =some y:=by
   intro i hlt;have h1:=hi i hlt;rw[List.getElem?_eq_getElem (by omega)] at h1 ⊢;obtain⟨us,h2,h3⟩:=Option.bind_eq_some_iff.1 h1
   grind
  have hex:∀k,k<=len->∃ys:List c.sem,ys.length=k/\(∀y∈ys,p y)/\∀i,i<k->∃us y,W.cells? 0 (a.add (i*P.cellsOf e)) (P.cellsOf e)=some us/\ys[i]? =some y/\Rel W us (c.view y):=by
   intro k;induction k with
   |zero=>simp
   |succ k ih=>
    intro hk;obtain⟨ys,h1,h0,h2⟩:=ih (by omega);obtain⟨us,y,h3,h4,_⟩:=key k (by omega);obtain⟨_,vs,⟨z,rfl,hz⟩,hrel⟩:=he us y h4;refine⟨ys++[z],by grind,(fun y hy=>by
     grind),fun i hlt=> ?_⟩
    grind
  obtain⟨ys,hyl,hyp,hys⟩:=hex len (Nat.le_refl _);refine⟨fun W' sp hold hsp=> ?_,[.slice .any (.t c ys)],⟨ys,rfl,by omega,hyp⟩,rfl,?_⟩
  ·
   have hcarry:∀i,(W.cells? 0 (a.add (i*P.cellsOf e)) (P.cellsOf e)).bind (DataW.trod enc P W 0 (fun _=>true) true n e)=none\/
    (W'.cells? 0 (a.add (i*P.cellsOf e)) (P.cellsOf e)).bind (DataW.trod enc P W' 0 sp true n e)=(W.cells? 0 (a.add (i*P.cellsOf e)) (P.cellsOf e)).bind (DataW.trod enc P W 0 (fun _=>true) true n e):=by
    intro i;cases hc1:W.cells? 0 (a.add (i*P.cellsOf e)) (P.cellsOf e) with
    |none=>simp
    |some us=>
     cases ht1:DataW.trod enc P W 0 (fun _=>true) true n e us with
     |none=>grind
     |some y=>
      right;rw[hold.cells hc1];simp only[Option.bind_some];rw[ht1,(he us y ht1).1 W' sp hold hsp]
   have hblk:0<cap->a.block<W.heap.size:=by
    intro hcap;by_cases hl:0<len
    ·obtain ⟨us,y,h3,_⟩:=key 0 hl;have:=World.cells?_block h3 (by omega);simpa[Addr.add] using this
    ·obtain ⟨h5,h6⟩:=hr rfl;have h7:=h6 0 (by omega);rw[List.getElem?_eq_getElem (by omega)] at h7;obtain⟨us,h8,_⟩:=Option.bind_eq_some_iff.1 h7;have:=World.cells?_block h8 (by omega);have e1:(a.add ((len+0)*P.cellsOf e)).block=a.block:=by unfold Addr.add;grind
     omega
   have hspb:cap-len=0\/sp a.block=true:=by
    grind
   unfold DataW.trod at h' ⊢;rw[ht] at h' ⊢;simp only at h' ⊢;have hcond:0<=a.block/\len<=cap/\cap<=maxLen:=⟨hb,hlc,hcm⟩;rw[if_pos hcond] at h' ⊢;obtain⟨el,h1,h2⟩:=Option.bind_eq_some_iff.1 h';obtain⟨re,h3,h4⟩:=Option.map_eq_some_iff.1 h2;simp only[if_true] at h3;refine Option.bind_eq_some_iff.2 ⟨el,Zku h1 fun i _ y hy=> ?_,Option.map_eq_some_iff.2 ⟨re,?_,h4⟩⟩
   ·grind
   ·rcases hspb with h0|h0
    ·grind
    ·rw[if_pos h0];exact Zku h3 fun j _ y hy=>by
      grind
  ·intro j v d hv hd;cases j with
   |succ j=>grind
   |zero=>
    simp only[List.getElem?_cons_zero,Option.some.injEq] at hv hd;subst hv;subst hd;by_cases hlen:len=0
    ·subst hlen;exact .emp (.t c ys) hyl a cap
    have hsp0:a=⟨a.block,a.off,none⟩:=by
     obtain⟨us,y,h3,_⟩:=key 0 (by omega);obtain⟨_,h4,h5⟩:=World.cells?_some h3;have h6:=h5 0 (by omega);rw[List.getElem?_eq_getElem (by omega)] at h6;have:=Zwu h6;simpa[Addr.add] using this
    obtain⟨ab,ao,as⟩:=a;have:as=none:=by grind
    subst this;have hadd:∀o k,Addr.add (⟨ab,o,none⟩:Addr) k=⟨ab,o+k,none⟩:=fun o k=>by
     unfold Addr.add;simp
    have hget:∀i j,i<ys.length->j<c.cells->∃v,W.cell? ⟨ab,ao+(i*c.cells+j),none⟩=some v/\∀cs d,(SL.t c ys:SL V).get i=some cs->cs[j]? =some d->DRel (Zq8 W) W v d:=by
     intro i j hi2 hj;obtain⟨us,y,h5,h6,h7,h8⟩:=hys i (by omega);obtain⟨_,h9,h10⟩:=World.cells?_some h5;have h11:=h10 j (by omega);rw[hadd,hadd,List.getElem?_eq_getElem (by omega),hc] at h11;refine⟨us[j]'(by omega),by grind,fun cs d h12 h13=> ?_⟩;have:cs=c.view y:=by
      simp only[SL.get,h6,Option.map_some,Option.some.injEq] at h12
      grind
     grind
    refine DRel.slice (SL.t c ys) ab ao cap (fun i j=>(W.cell? ⟨ab,ao+(i*c.cells+j),none⟩).getD undef) ?_ (by show ys.length<=cap;omega) ?_ ?_ ?_|>fun h=>by rw[show len=(SL.t c ys:SL V).len from hyl.symm];exact h
    ·show ao+ys.length*c.cells<=Zq8 W ab;obtain⟨v,hv,_⟩:=hget (ys.length-1) (c.cells-1) (by omega) (by omega);have:=Zp0 hv;have e1:(ys.length-1)*c.cells+c.cells=ys.length*c.cells:=by
      grind
     omega
    ·intro i hi2;exact⟨c.view (ys[i]'hi2),by show(ys[i]?).map c.view=_;rw[List.getElem?_eq_getElem (show i<ys.length from hi2)];rfl,EC.view_len _ _⟩
    ·intro i j hi2 hj;obtain⟨v,hv,_⟩:=hget i j hi2 hj;show W.cell? ⟨ab,ao+(i*c.cells+j),none⟩=_
     grind
    ·intro i j cs d hi2 h12 h13;have hj:j<c.cells:=by
      have:cs=c.view (ys[i]'hi2):=by
       simp only[SL.get,List.getElem?_eq_getElem (show i<ys.length from hi2),Option.map_some,Option.some.injEq] at h12
       grind
      subst this;have:=(List.getElem?_eq_some_iff.1 h13).1;rw[EC.view_len] at this;omega
     obtain⟨v,hv,hd⟩:=hget i j hi2 hj
     grind
theorem Zzm{t e:TypeId}{c:EC}{n:Nat}(ht:P.underlying t=some (.slice e))(hc:P.cellsOf e=c.cells)(hpos:0<c.cells)(he:Ye5 enc P W n e (fun vs=>∃y:c.sem,vs=c.view y))
 {cs:List Value} {x:DataW H×List MemPlace} (h:DataW.trod enc P W 0 (fun _=>true) true (n+1) t cs=some x):
 Yhk enc P W (n+1) t cs x/\∃vs,(∃ys:List c.sem,vs=[.slice .any (.t c ys)]/\ys.length<=maxLen)/\Rel W cs vs:=by
 obtain⟨h1,vs,⟨ys,h2,h3,_⟩,h4⟩:=Zul (p:=fun _=>True) ht hc hpos (fun cs x hx=>by
  obtain⟨q1,vs,⟨y,q2⟩,q3⟩:=he cs x hx
  grind) h
 grind
theorem Zu5{t e:TypeId}{c:EC}{n:Nat}(ht:P.underlying t=some (.slice e))(hc:P.cellsOf e=c.cells)(hpos:0<c.cells)(he:Ye5 enc P W n e (fun vs=>∃y:c.sem,vs=c.view y)):
 Ye5 enc P W (n+1) t (fun vs=>∃ys:List c.sem,vs=[.slice .any (.t c ys)]/\ys.length<=maxLen):=fun cs x h=>Zzm ht hc hpos he h
theorem Zz1{t:TypeId}{F:List V->Prop}:Ye5 enc P W 0 t F:=fun cs x h=>by simp[DataW.trod] at h
theorem Yau{t e:TypeId}(ht:P.underlying t=some (.slice e))(he:P.underlying e=some (.int .i64))(hc:P.cellsOf e=1)(n:Nat):Ye5 enc P W n t (fun vs=>∃ys:List Int,vs=[.slice .any (.t .int ys)]/\ys.length<=maxLen):=by
 cases n with
 |zero=>exact Zz1
 |succ n=>
  refine Zu5 (c:= .int) ht hc (by decide) ?_;intro cs x h;obtain⟨h1,vs,⟨i,rfl,_⟩,h2⟩:=Zth he n cs x h;exact⟨h1,_,⟨i,rfl⟩,h2⟩
theorem Yew{t:TypeId}{v:Value}{d:DataW H}{ps:List MemPlace}{F:List V->Prop}(h:DataW.Trod enc P W 0 (fun _=>true) true t v d ps)(hg:∀n,Ye5 enc P W n t F):
 (∀W' sp,Old W W'->(∀b,b<W.heap.size->sp b=true)->DataW.Trod enc P W' 0 sp true t v d ps)/\∃vs,F vs/\Rel W v.cells.toList vs:=by
 obtain⟨n,hn⟩:=h;obtain⟨h1,h2⟩:=hg n _ _ hn;exact⟨fun W' sp ho hs=>⟨n,h1 W' sp ho hs⟩,h2⟩
theorem Zzr{t e:TypeId}{r:Reach}{base:Nat}{v:Value}(ht:P.underlying t=some (.slice e))(h:Value.okWide P W r base t v):v.cells.toList=[v]:=by
 cases v<;>simp[Value.okWide,ht,Cell.okWide,Cell.ok] at h<;>rfl
theorem Zz5{v:Value}{c:V}(hv:v.cells.toList=[v])(h:Rel W v.cells.toList [c]):DRel (Zq8 W) W v c:=by
 obtain⟨_,h2⟩:=h;exact h2 0 v c (by grind) rfl
theorem Ygr{G:Zfn}(hG:∀p∈G,∀(j:Nat) c,p.2[j]? =some c->∃v,W.cell? ⟨p.1,j,none⟩=some v/\DRel (Zq8 W) W v c):R G (gh0 W) (·<0) [] W:=by
 refine⟨fun n e h=>(by cases h),fun n n' e e' b h=>(by cases h),fun n e h=>(by cases h),fun b hb=> ?_,fun p hp=>⟨?_,hG p hp⟩⟩
 ·show Zq8 W b=0;unfold Zq8
  grind
 ·show p.2.length<=Zq8 W p.1;cases hl:p.2 with
  |nil=>simp
  |cons x l=>
   have hlt:p.2.length-1<p.2.length:=by grind
   obtain⟨v,hv,_⟩:=hG p hp (p.2.length-1) _ (List.getElem?_eq_getElem hlt);have:=Zp0 hv
   grind
theorem Zum{g':Gh}{W':World}{F':Nat->Prop}(h:Ext (·<0) (gh0 W) (Foot (gh0 W) []) W g' F' W'):Old W W':=fun b hb=>
 (h.frame b hb fun hf=>by obtain⟨n,e,h1,_⟩:=hf;cases h1).1
theorem Zjo{W':World}(h:Old W W')(ho:W'.os=W.os)(hp:W'.output=W.output)(may:MemPlace->Prop):W.keptBut W' may:=by
 refine⟨ho,hp,fun i hi=> ?_⟩;rw[h i hi]
 grind
theorem Zno{E:Env}{f:FuncId}{args:List V}{vs:List Value}(h:PC E f args (.bool true))(hG:∀p∈E.G,∀(j:Nat) c,p.2[j]? =some c->∃v,W.cell? ⟨p.1,j,none⟩=some v/\DRel (Zq8 W) W v c)
 (hl:vs.length=args.length) (hr:∀(i:Nat) v c,vs[i]? =some v->args[i]? =some c->VRel (gh0 W) (·<0) W v c):
 Calls E.P f vs.toArray W fun e W'=>e= .returned (.bool true)/\Old W W'/\W'.os=W.os/\W'.output=W.output:=by
 obtain⟨_,_,h3⟩:=h;refine(h3 (gh0 W) W vs (Ygr hG) hl hr).mono ?_;rintro e W' ⟨v,g',rfl,_,hv,hx⟩;have:=hv.bool_inv;subst this;exact⟨rfl,Zum hx,hx.os,hx.output⟩
end
mutual
def Tm.wf:Tm->Prop
 | .mk _ i _ xs=>(-9223372036854775808<=i/\i<=9223372036854775807)/\Tm.wfs xs
def Tm.wfs:List Tm->Prop
 |[]=>True
 |t::l=>t.wf/\Tm.wfs l
end
mutual
def Fm.wf:Fm->Prop
 | .mk _ _ ts xs=>(∀t∈ts,t.wf)/\Fm.wfs xs
def Fm.wfs:List Fm->Prop
 |[]=>True
 |t::l=>t.wf/\Fm.wfs l
end
def Zrv(P:Program)(t:TypeId)(l:List (TypeId×Nat)):Bool:=match P.underlying t with
 |some (.struct fs)=>decide (fs.toList.map (fun f=>(f.type,f.offset))=l)
 |_=>false
def Ybl(P:Program):Nat->List (TypeId×Nat)->Nat->Bool
 |o,[],n=>o==n
 |o,p::l,n=>p.2==o&&Ybl P (o+P.cellsOf p.1) l n
inductive Cat:List (List V->Prop)->List V->Prop
 |nil:Cat [] []
 |cons {F:List V->Prop} {Fs:List (List V->Prop)} {a b:List V} (h:F a) (hb:Cat Fs b):Cat (F::Fs) (a++b)
section
variable {H:Type} {enc:TypeId×Value->H} {P:Program} {W:World}
theorem Rel.app{c1 c2:List Value}{v1 v2:List V}(h1:Rel W c1 v1)(h2:Rel W c2 v2):Rel W (c1++c2) (v1++v2):=by
 obtain⟨l1,r1⟩:=h1;obtain⟨l2,r2⟩:=h2;refine⟨by grind,fun i v c hv hc=> ?_⟩
 grind
structure DataT (P:Program) where
 ti:TypeId
 ty:TypeId
 tys:TypeId
 tm:TypeId
 tms:TypeId
 h0:P.underlying ti=some (.int .i64)
 h1:Zrv P ty [(ti,0),(tys,1)]=true
 h2:Ybl P 0 [(ti,0),(tys,1)] (P.cellsOf ty)=true
 h3:P.underlying tys=some (.slice ty)
 h4:P.cellsOf ty=2
 h5:Zrv P tm [(ti,0),(ti,1),(ty,2),(tms,4)]=true
 h6:Ybl P 0 [(ti,0),(ti,1),(ty,2),(tms,4)] (P.cellsOf tm)=true
 h7:P.underlying tms=some (.slice tm)
 h8:P.cellsOf tm=5
structure FormT (P:Program) extends DataT P where
 fm:TypeId
 fms:TypeId
 k1:Zrv P fm [(ti,0),(ty,1),(tms,3),(fms,4)]=true
 k2:Ybl P 0 [(ti,0),(ty,1),(tms,3),(fms,4)] (P.cellsOf fm)=true
 k3:P.underlying fms=some (.slice fm)
 k4:P.cellsOf fm=5
def Zsr(enc:TypeId×Value->H)(P:Program)(W:World)(t:TypeId)(v:Value)(d:DataW H)(ps:List MemPlace):Prop:=
 ∀W' sp,Old W W'->(∀b,b<W.heap.size->sp b=true)->DataW.Trod enc P W' 0 sp true t v d ps
abbrev Is(W:World)(v:Value)(c:V):Prop:=VRel (gh0 W) (·<0) W v c
theorem Zsc{t e:TypeId}{v:Value}{d:DataW H}{ps:List MemPlace}{r:Reach}{base:Nat}(ht:P.underlying t=some (.slice e))(he:P.underlying e=some (.int .i64))(hc:P.cellsOf e=1)
 (h:DataW.Trod enc P W 0 (fun _=>true) true t v d ps) (hv:Value.okWide P W r base t v):Zsr enc P W t v d ps/\∃l:List Int,Is W v (.s .int l)/\l.length<=maxLen:=by
 obtain⟨keep,vs,⟨l,rfl,hl⟩,hr⟩:=Yew h (Yau ht he hc);exact⟨keep,l,.data (Zz5 (Zzr ht hv) hr),hl⟩
end
end Go.Ab
