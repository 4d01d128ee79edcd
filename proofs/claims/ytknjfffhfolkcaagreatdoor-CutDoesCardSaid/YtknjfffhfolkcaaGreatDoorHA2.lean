/- A part of this seat's proofs. No conditions. -/
import Derived.ChangeArms
import Derived.ChangeFn
import Derived.ChangeKeysEq
import Derived.ChangeReads
import Derived.ChangeSame
import Derived.ChangeShapes
import Derived.DataReads
import Derived.DataShut
import Derived.Laws.Entries
import Derived.MapKept
import Derived.ScopeJumps
import Derived.Test.YtknjfffhfolkcaaGreatDoorHA1
namespace Go.Ab
open Go
set_option linter.unusedSimpArgs false
set_option linter.unusedVariables false
section
variable {E:Env} {N k:Nat} {a:AF} {σ:Aq} {Q:Exit->AF->Aq->Prop} {ops:List Oper} {dr:Bool} {rest:List Oper} {acc:List Rec}
def Yjm(ops:List Oper):Option (Nat×Bool)->Option Tmp
 |some (j,_)=>(ops[j]?).bind (·.dst)
 |none=>none
theorem AX.gs{o:Oper}{d:Tmp}{b:Bool}(h1:Yjm ops o.guard=some d)(hb:a.get d=some (.bool b))(hn:yb ops a o.guard=none->True)(ht:b=true->AX E N k dr ops (o::rest) ((d,.bool true)::a) σ acc Q)(hf:b=false->AX E N k dr ops (o::rest) ((d,.bool false)::a) σ acc Q):AX E N k dr ops (o::rest) a σ acc Q:=
 AX.split d hb ht hf
theorem AX.wt{o:Oper}(h:yb ops a o.guard=some true)(h2:AX E N k dr ops (o::rest) a σ acc Q):AX E N k dr ops (o::rest) a σ acc Q:=h2
@[simp] theorem Ty.eta(t:Ty):Ty.mk t.kind t.args=t:=by cases t;rfl
@[simp] theorem Ty.Ai(k:Int)(xs:List Ty):(Ty.mk k xs).kind=k:=rfl
@[simp] theorem Ty.Ae(k:Int)(xs:List Ty):(Ty.mk k xs).args=xs:=rfl
@[simp] theorem Tm.eta(t:Tm):Tm.mk t.kind t.index t.ty t.args=t:=by cases t;rfl
@[simp] theorem Tm.Ai(k i:Int)(h:Ty)(xs:List Tm):(Tm.mk k i h xs).kind=k:=rfl
@[simp] theorem Tm.AJ(k i:Int)(h:Ty)(xs:List Tm):(Tm.mk k i h xs).index=i:=rfl
@[simp] theorem Tm.AQ(k i:Int)(h:Ty)(xs:List Tm):(Tm.mk k i h xs).ty=h:=rfl
@[simp] theorem Tm.Ae(k i:Int)(h:Ty)(xs:List Tm):(Tm.mk k i h xs).args=xs:=rfl
theorem AW.Dq{t:Tmp}{x y:Code}{b:Bool}(hc:a.get t=some (.bool b))(ht:b=true->AW E N k x ((t,.bool true)::a) σ Q)(hf:b=false->AW E N k y ((t,.bool false)::a) σ Q):AW E N k (.cond (.tmp t) x y) a σ Q:=
 have key:∀b',b=b'->Bi E N k a σ ((t,.bool b')::a) σ:=fun b' hb=>Bi.slots fun u c hu=>by
  rw[AF.Be] at hu;by_cases h:t=u
  .subst h;rw[if_pos rfl] at hu;rw[hc,hb];exact hu
  .rw[if_neg h] at hu;exact hu
 .cond hc (fun h=> .weak (key _ h) (ht h)) (fun h=> .weak (key _ h) (hf h))
theorem AW.Gz{ι:Type}{x y:Code}(J:ι->AF×Aq)(h:AW E N k x a σ (K9 E N k J Q))(h2:∀i,AW E N k y (J i).1 (J i).2 Q):AW E N k x a σ (HR E N k y Q):=
 h.mono fun e a σ hq=>by
  cases e with
  |normal=>obtain⟨i,hi⟩:=hq;exact(AW.weak hi (h2 i):AW E N k y a σ Q)
  |_=>exact hq
namespace K
theorem gR{B:Nat}{i d:Tmp}{m:Nat}{P:Nat->Prop}{J:Nat->AF×Aq}(h:Q .ret a σ):OZ E N k B i d m P J Q .ret a σ:=h
theorem bX{id id':Nat}(hb:Nat.beq id' id=true)(h:Q .normal a σ):ub id Q (.exit id') a σ:=by simp only[ub,hb,cond_true];exact h
end K
variable {d:Option Tmp} {ty:TypeId} {ps:String} {af:Array Edge} {gd:Option (Nat×Bool)}
namespace L
theorem LJ{t:TypeId}{x:Operand}{sp:Sp}{e:EC}{l:List e.sem}{z:Nat}{zr:List V}{c:Option EC}{sz by_:Nat}(hw:yb ops a gd=some true)(hx:ev E t a x=some (.slice sp (.t e l)))(ht:E.ti t=some ⟨z,zr,.slc c sz by_⟩)(hd:z9 N d=true)
 (h2:AX E N k dr ops rest (a.put d (.int .i64 l.length)) σ (⟨[],.int .i64 l.length,0,[]⟩::acc) Q):AX E N k dr ops (⟨d,.call ⟨.builtin .len,#[x],#[t]⟩,ty,ps,af,gd⟩::rest) a σ acc Q:=
 L.ln hw hx ht hd h2
theorem D9(kk:Nat){t:TypeId}{x y:Operand}{z:Nat}{zr:List V}{c:EC}{co:Option EC}{sz bytes:Nat}{sp:Sp}{xs:List c.sem}{n:Int}{kd:IntKind}(hw:yb ops a gd=some true)(hx:ev E t a x=some (.slice sp (.t c xs)))(ht:E.ti t=some ⟨z,zr,.slc co sz bytes⟩)
 (hy:ev E 0 a y=some (.int kd n)) (hn:n=kk) (hsz:Nat.beq c.cells sz=true) (hd:z9 N d=true) (hlt:kk<xs.length) (h2:AX E N k dr ops rest (a.put d (.addr (c.view xs[kk]))) σ (⟨[],.addr (c.view xs[kk]),0,[]⟩::acc) Q):AX E N k dr ops (⟨d,.indexAddr t x y,ty,ps,af,gd⟩::rest) a σ acc Q:=
 L.ix kk hw hx ht hy hn hlt (by simp[SL.get,hlt]) hsz hd h2
end L
end
end Go.Ab
namespace Go.Ab
open Go
section
variable {E:Env} {N k:Nat} {a:AF} {σ:Aq} {Q:Exit->AF->Aq->Prop} {ops:List Oper} {dr:Bool} {rest:List Oper} {acc:List Rec}
variable {d:Option Tmp} {ty:TypeId} {ps:String} {af:Array Edge} {gd:Option (Nat×Bool)}
namespace D
theorem nil(h:AX E N k dr ops [] a σ acc Q):AX E N k dr ops [] a σ acc Q:=h
theorem ax{o:Oper}(h:AX E N k dr ops (o::rest) a σ acc Q):AX E N k dr ops (o::rest) a σ acc Q:=h
theorem aw{c:Code}(h:AW E N k c a σ Q):AW E N k c a σ Q:=h
theorem blk{id:Nat}{x y:Code}(h:AW E N k (.block id (.seq x y)) a σ Q):AW E N k (.block id (.seq x y)) a σ Q:=h
theorem QX{id:Nat}{x y z:Code}(h:AW E N k (.seq (.block id (.seq x y)) z) a σ Q):AW E N k (.seq (.block id (.seq x y)) z) a σ Q:=h
theorem load{t:TypeId}{x:Operand}(h:AX E N k dr ops (⟨d,.load t x,ty,ps,af,gd⟩::rest) a σ acc Q):AX E N k dr ops (⟨d,.load t x,ty,ps,af,gd⟩::rest) a σ acc Q:=h
theorem store{t:TypeId}{x y:Operand}(h:AX E N k dr ops (⟨d,.store t x y,ty,ps,af,gd⟩::rest) a σ acc Q):AX E N k dr ops (⟨d,.store t x y,ty,ps,af,gd⟩::rest) a σ acc Q:=h
theorem fieldAddr{t:TypeId}{x:Operand}{f:Nat}(h:AX E N k dr ops (⟨d,.fieldAddr t x f,ty,ps,af,gd⟩::rest) a σ acc Q):AX E N k dr ops (⟨d,.fieldAddr t x f,ty,ps,af,gd⟩::rest) a σ acc Q:=h
theorem field{t:TypeId}{x:Operand}{f:Nat}(h:AX E N k dr ops (⟨d,.field t x f,ty,ps,af,gd⟩::rest) a σ acc Q):AX E N k dr ops (⟨d,.field t x f,ty,ps,af,gd⟩::rest) a σ acc Q:=h
theorem move{x:Operand}(h:AX E N k dr ops (⟨d,.move x,ty,ps,af,gd⟩::rest) a σ acc Q):AX E N k dr ops (⟨d,.move x,ty,ps,af,gd⟩::rest) a σ acc Q:=h
theorem assign{x:Operand}(h:AX E N k dr ops (⟨d,.assign x,ty,ps,af,gd⟩::rest) a σ acc Q):AX E N k dr ops (⟨d,.assign x,ty,ps,af,gd⟩::rest) a σ acc Q:=h
theorem pick{c x y:Operand}(h:AX E N k dr ops (⟨d,.pick c x y,ty,ps,af,gd⟩::rest) a σ acc Q):AX E N k dr ops (⟨d,.pick c x y,ty,ps,af,gd⟩::rest) a σ acc Q:=h
theorem box{t:TypeId}{x:Operand}(h:AX E N k dr ops (⟨d,.box t x,ty,ps,af,gd⟩::rest) a σ acc Q):AX E N k dr ops (⟨d,.box t x,ty,ps,af,gd⟩::rest) a σ acc Q:=h
theorem alloc{t:TypeId}(h:AX E N k dr ops (⟨d,.alloc t,ty,ps,af,gd⟩::rest) a σ acc Q):AX E N k dr ops (⟨d,.alloc t,ty,ps,af,gd⟩::rest) a σ acc Q:=h
theorem bin{o:BinOp}{t u:TypeId}{x y:Operand}(h:AX E N k dr ops (⟨d,.binOp o t x y u,ty,ps,af,gd⟩::rest) a σ acc Q):AX E N k dr ops (⟨d,.binOp o t x y u,ty,ps,af,gd⟩::rest) a σ acc Q:=h
theorem call{c:Call}(h:AX E N k dr ops (⟨d,.call c,ty,ps,af,gd⟩::rest) a σ acc Q):AX E N k dr ops (⟨d,.call c,ty,ps,af,gd⟩::rest) a σ acc Q:=h
theorem extract{x:Operand}{n:Nat}(h:AX E N k dr ops (⟨d,.extract x n,ty,ps,af,gd⟩::rest) a σ acc Q):AX E N k dr ops (⟨d,.extract x n,ty,ps,af,gd⟩::rest) a σ acc Q:=h
theorem indexAddr{t:TypeId}{x y:Operand}(h:AX E N k dr ops (⟨d,.indexAddr t x y,ty,ps,af,gd⟩::rest) a σ acc Q):AX E N k dr ops (⟨d,.indexAddr t x y,ty,ps,af,gd⟩::rest) a σ acc Q:=h
theorem not{o:UnOp}{t:TypeId}{x:Operand}(h:AX E N k dr ops (⟨d,.unOp o t x,ty,ps,af,gd⟩::rest) a σ acc Q):AX E N k dr ops (⟨d,.unOp o t x,ty,ps,af,gd⟩::rest) a σ acc Q:=h
theorem EM{id:Nat}{o:Array Oper}{b:Bool}{z:Code}(h:AW E N k (.seq (.region id o b) z) a σ Q):AW E N k (.seq (.region id o b) z) a σ Q:=h
theorem EN{id:Nat}{o:Array Oper}{b:Bool}{y z:Code}(h:AW E N k (.seq (.seq (.region id o b) y) z) a σ Q):AW E N k (.seq (.seq (.region id o b) y) z) a σ Q:=h
end D
def F8:List Nat->Code->Code
 |[],c=>c
 |0::l,.seq c _=>F8 l c
 |_::l,.seq _ c=>F8 l c
 |0::l,.cond _ c _=>F8 l c
 |_::l,.cond _ _ c=>F8 l c
 |_::l,.block _ c=>F8 l c
 |_::l,.loop c=>F8 l c
 |_::l,.scope c=>F8 l c
 |_,c=>c
def J9(f:Func):Code:=f.body.getD .skip
end
end Go.Ab
namespace Go.Ab
open Go
set_option linter.unusedSimpArgs false
set_option linter.unusedVariables false
def Gh.sub(ρ:List (Option Nat))(g:Gh):Gh:={blk:=fun n=>g.blk ((Cf ρ n).getD n),row:=fun n=>match Cf ρ n with|some m=>g.row m|none=>none,m:=g.m}
theorem Gh.B9{ρ:List (Option Nat)}{g:Gh}{n n':Nat}(h:Cf ρ n=some n'):(g.sub ρ).blk n=g.blk n':=by simp[Gh.sub,h]
theorem Gh.CP{ρ:List (Option Nat)}{g:Gh}{n n':Nat}(h:Cf ρ n=some n'):(g.sub ρ).row n=g.row n':=by simp[Gh.sub,h]
theorem Gh.Dd{ρ:List (Option Nat)}{g:Gh}{n:Nat}(h:C1 ρ n=some none):(g.sub ρ).row n=none:=by simp[Gh.sub,Cf,h]
theorem Qr{ρ:List (Option Nat)}{g:Gh}{es es2:Es}(he:Dz ρ es es2){n:Nat}{e2:A2}{b:Nat}(h1:zl es2 n=some e2)(h2:e2.AB (g.sub ρ) n=some b):∃m e,Cf ρ n=some m/\zl es m=some e/\e.AB g m=some b:=by
 have h3:=he.get n e2 h1;cases e2 with
 |var cs=>
  obtain⟨m,hm,cs1,_,cs0,h4,_⟩:=h3;refine⟨m,_,hm,h4,?_⟩;simp only[A2.AB,Gh.B9 hm] at h2 ⊢;exact h2
 |map c ks xs=>
  obtain⟨m,hm,ks0,xs0,h4,_⟩:=h3;refine⟨m,_,hm,h4,?_⟩;simp only[A2.AB,Gh.B9 hm] at h2 ⊢;exact h2
 |row=>
  rcases h3 with h3|⟨m,hm,h4⟩
  .simp[A2.AB,Gh.Dd h3] at h2
  .refine ⟨m,_,hm,h4,?_⟩;simp only[A2.AB,Gh.CP hm] at h2 ⊢;exact h2
 |gone=>cases h2
theorem R.sub{G:Dm}{g:Gh}{D:Nat->Prop}{es:Es}{w:World}(hR:R G g D es w){ρ:List (Option Nat)}{es2:Es}(hd:yc ρ=true)(he:Dz ρ es es2):R G (g.sub ρ) (·<ρ.length) es2 w:=by
 have hun:∀{v c c2},Ar g D w v c->wl ρ c2=some c->Ar (g.sub ρ) (·<ρ.length) w v c2:=fun {v c c2} h hc=>Ar.Fu (g2:=g.sub ρ) h rfl (fun _ _ h=>Gh.B9 h) (fun _ _ h=>Gh.CP h) (fun _ h=>Gh.Dd h) c2 hc;refine⟨?_,?_,?_,hR.fresh,hR.Et⟩
 .intro n e h;have h3:=he.get n e h;cases e with
  |var cs=>obtain⟨m,hm,_⟩:=h3;exact vv (w8 hm)
  |map c ks xs=>obtain⟨m,hm,_⟩:=h3;exact vv (w8 hm)
  |row=>
   rcases h3 with h3|⟨m,hm,_⟩
   .exact vv h3
   .exact vv (w8 hm)
  |gone=>exact Wz h3
 .intro n n' e e' b h1 h2 h3 h4;obtain⟨m,d,hm,h5,h6⟩:=Qr he h1 h3;obtain⟨m',d',hm',h7,h8⟩:=Qr he h2 h4;have:=hR.Bb m m' d d' b h5 h7 h6 h8;subst this;exact Tu hd n n' m (w8 hm) (w8 hm')
 .intro n e h;have h3:=he.get n e h;cases e with
  |var cs=>
   obtain⟨m,hm,cs1,hc1,cs0,h4,h5⟩:=h3;obtain⟨h6,vs,t,h7,h8,h9,h10,h11⟩:=hR.BW m _ h4;refine⟨by rw[Gh.B9 hm];exact h6,vs,t,by rw[Gh.B9 hm];exact h7,?_,h9,?_,by rw[Gh.CP hm];exact h11⟩
   .have e1:=h5.len;have e2:=yo hc1;omega
   .intro i v c hv hc;obtain⟨c1,hc2⟩:=Ax (yo hc1) hc;obtain⟨c0,hc3,hc4⟩:=h5.nth i c1 hc2;exact hun (hc4 _ _ _ _ (h10 i v c0 hv hc3)) (x9 hc1 i c c1 hc hc2)
  |map c ks xs=>
   obtain⟨m,hm,ks0,xs0,h4,rfl,rfl⟩:=h3;obtain⟨h6,vs,t,h7,h8,h9,h9',h10⟩:=hR.BW m _ h4;refine⟨by rw[Gh.B9 hm];exact h6,vs,t,by rw[Gh.B9 hm];exact h7,h8,h9,h9',?_⟩;intro i v x hv hx;exact hun (h10 i v x hv hx) (Q9 ρ c x)
  |row=>
   intro ρ' hρ';rcases h3 with h3|⟨m,hm,h4⟩
   .rw[Gh.Dd h3] at hρ';cases hρ'
   .rw[Gh.CP hm] at hρ';exact hR.BW m _ h4 ρ' hρ'
  |gone=>trivial
def z4(L:List Nat)(nx news:Nat):List Nat:=L++List.range' nx news
def yh(L:List Nat):List (Option Nat):=L.map some
def JH(ρ:List (Option Nat)):A2->Option A2
 | .var cs=>(xz ρ cs).map .var
 | .map c ks xs=>some (.map c ks xs)
 | .row=>some .row
 | .gone=>some .gone
def E6(ρ:List (Option Nat)):Es->Option Es
 |[]=>some []
 |p::l=>(Cf ρ p.1).bind fun n=>(JH ρ p.2).bind fun e=>(E6 ρ l).map fun l'=>(n,e)::l'
def F6(es:Es):Nat->Bool
 |0=>true
 |n+1=>(zl es n).isSome&&F6 es n
theorem Zoe{es:Es}:∀{n:Nat},F6 es n=true->∀j,j<n->∃e,zl es j=some e:=by
 intro n;induction n with
 |zero=>intro _ j hj;omega
 |succ n ih=>
  intro h j hj;simp only[F6,Wk] at h;by_cases hjn:j=n
  .subst hjn;exact XN.1 h.1
  .exact ih h.2 j (by omega)
theorem QV{L:List Nat}:∀{n:Nat},C1 (yh L) n=(L[n]?).map some:=by
 induction L with
 |nil=>intro n;rfl
 |cons x l ih=>
  intro n;cases n with
  |zero=>rfl
  |succ n=>simp[yh,C1];exact ih
theorem L6{L:List Nat}{n:Nat}:Cf (yh L) n=L[n]? :=by
 simp only[Cf,QV];cases L[n]? <;>rfl
theorem Zsf{ρ:List (Option Nat)}(hd:yc ρ=true):∀{es post:Es},E6 ρ es=some post->∀n e,zl post n=some e->∃j e0,Cf ρ j=some n/\zl es j=some e0/\JH ρ e0=some e:=by
 intro es;induction es with
 |nil=>intro post h n e hf;simp[E6] at h;subst h;cases hf
 |cons p l ih=>
  intro post h n e hf;simp only[E6,Wx,Wo] at h;obtain⟨m,h1,e1,h2,l',h3,rfl⟩:=h;obtain⟨pn,pe⟩:=p;rw[zp] at hf;by_cases hm:m=n
  .subst hm;rw[if_pos rfl] at hf;cases hf;exact⟨pn,pe,h1,by rw[zp,if_pos rfl],h2⟩
  .rw[if_neg hm] at hf;obtain⟨j,e0,h4,h5,h6⟩:=ih h3 n e hf;refine⟨j,e0,h4,?_,h6⟩;rw[zp,if_neg]
   .exact h5
   .intro hj;subst hj;simp only at h1;rw[h1] at h4;cases h4;exact hm rfl
theorem Zpd{ρ:List (Option Nat)}(hd:yc ρ=true):∀{es post:Es},E6 ρ es=some post->∀j e0 n,zl es j=some e0->Cf ρ j=some n->∃e,zl post n=some e:=by
 intro es;induction es with
 |nil=>intro post h j e0 n hf;cases hf
 |cons p l ih=>
  intro post h j e0 n hf hn;simp only[E6,Wx,Wo] at h;obtain⟨m,h1,e1,h2,l',h3,rfl⟩:=h;obtain⟨pn,pe⟩:=p;rw[zp] at hf;rw[zp];by_cases hm:m=n
  .exact ⟨e1,if_pos hm⟩
  .rw[if_neg hm];by_cases hj:pn=j
   .subst hj;simp only at h1;rw[h1] at hn;cases hn;exact absurd rfl hm
   .rw[if_neg hj] at hf;exact ih h3 j e0 n hf hn
theorem Zmu{l l':Es}{n:Nat}:zl (l++l') n=match zl l n with|some e=>some e|none=>zl l' n:=by
 induction l with
 |nil=>rfl
 |cons p l ih=>
  obtain⟨m,e⟩:=p;rw[Xu,zp,zp];by_cases h:m=n
  .simp[h]
  .simp[h,ih]
theorem SR{es:Es}{n:Nat}{e:A2}(h:zl es n=some e):(n,e)∈es:=by
 induction es with
 |nil=>cases h
 |cons p l ih=>
  obtain⟨m,x⟩:=p;rw[zp] at h;by_cases hm:m=n
  .rw[if_pos hm] at h;cases h;subst hm;exact Yo
  .rw[if_neg hm] at h;exact Yb _ (ih h)
theorem Dz.more{ρ:List (Option Nat)}{pre es:Es}(hp:∀p∈pre,zl es p.1=some p.2):∀{es2:Es},Dz ρ pre es2->Dz ρ es es2:=by
 have key:∀{n e},zl pre n=some e->zl es n=some e:=fun h=>hp _ (SR h);intro es2;induction es2 with
 |nil=>intro _;trivial
 |cons p l ih=>
  intro h;refine⟨?_,ih h.2⟩;have h1:=h.1;cases hp2:p.2 with
  |var cs=>
   rw[hp2] at h1;obtain⟨m,hm,cs1,h3,cs0,h4,h5⟩:=h1;exact⟨m,hm,cs1,h3,cs0,key h4,h5⟩
  |map c ks xs=>
   rw[hp2] at h1;obtain⟨m,hm,ks0,xs0,h4,h5⟩:=h1;exact⟨m,hm,ks0,xs0,key h4,h5⟩
  |row=>
   rw[hp2] at h1;rcases h1 with h1|⟨m,hm,h4⟩
   .exact .inl h1
   .exact .inr ⟨m,hm,key h4⟩
  |gone=>rw[hp2] at h1;exact h1
section
variable {E:Env} {N:Nat} {o:Oper} {a:AF}
theorem AC.use{f:FuncId}{args:List V}{σ σ':Aq}{r r':V}(h:AC E f args σ r σ')(L:List Nat)(nx news:Nat){pre post:Es}(hL:L.length=σ.nx)(hn':σ'.nx=σ.nx+news)(hd:yc (yh (z4 L nx news))=true)
 (hin:Dz (yh L) pre σ.es) (hout:E6 (yh (z4 L nx news)) σ'.es=some post) (hcov:F6 σ'.es σ'.nx=true) (hr':wl (yh (z4 L nx news)) r=some r')
 {g:Gh} {D:Nat->Prop} {es:Es} {w:World} (hR:R E.G g D es w) (hp:∀p∈pre,zl es p.1=some p.2) (hnew:∀n∈List.range' nx news,¬D n) (hLD:∀n∈L,D n) {vs:List Value} {cs:List V} (hl:vs.length=cs.length)
 (hr:∀(i:Nat) v c,vs[i]? =some v->cs[i]? =some c->Ar g D w v c) (hle:∃cs1,xz (yh L) args=some cs1/\Bp cs cs1) {P:Ending->World->Prop}
 (hP:∀v g' w',R E.G g' (fun n=>D n\/n∈List.range' nx news) (post++es) w'->Ar g' (fun n=>D n\/n∈List.range' nx news) w' v r'->Ext D g (Az g es) w g' (Az g' (post++es)) w'->P (.returned v) w'):Calls E.P f vs.toArray w P:=by
 obtain⟨cs1,h1,h2⟩:=hle;obtain⟨_,_,h3⟩:=h;have hin':=hin.more hp;have hlen:(yh L).length=σ.nx:=by simp[yh,hL]
 have hdL:yc (yh L)=true:=by
  have:∀(l:List (Option Nat)) l',yc (l++l')=true->yc l=true:=by
   intro l;induction l with
   |nil=>intro l' _;rfl
   |cons x l ih=>
    intro l' hh;cases x with
    |none=>exact ih l' hh
    |some m=>
     simp only[Xu,yc,WQ,Wk] at hh ⊢;exact⟨hh.1.1,ih l' hh.2⟩
  refine this (yh L) (yh (List.range' nx news)) ?_;rw[<-hd];simp[yh,z4]
 have hRs:R E.G (g.sub (yh L)) (·<σ.nx) σ.es w:=by rw[<-hlen];exact hR.sub hdL hin'
 have hnoneL:∀n,C1 (yh L) n≠some none:=fun n hc=>by rw[QV] at hc;cases hL2:L[n]? <;>rw[hL2] at hc<;>cases hc
 refine(h3 (g.sub (yh L)) w vs hRs (by rw[hl,h2.len,<-yo h1]) (fun i v c hv hc=> ?_)).mono ?_
 .obtain ⟨c1,hc1⟩:=Ax (yo h1) hc;obtain⟨c0,hc0,hle⟩:=h2.nth i c1 hc1;have:=Ar.Fu (g2:=g.sub (yh L)) (hle _ _ _ _ (hr i v c0 hv hc0)) rfl (fun _ _ h=>Gh.B9 h) (fun _ _ h=>Gh.CP h) (fun _ h=>Gh.Dd h) c (x9 h1 i c c1 hc hc1);rw[hlen] at this;exact this
 .rintro e w' ⟨v,g',rfl,hR',hv,hx⟩
  let M:=z4 L nx news
  let g3:Gh:={blk:=fun n=>if n∈List.range' nx news then g'.blk (σ.nx+(n-nx)) else g.blk n,row:=fun n=>if n∈List.range' nx news then g'.row (σ.nx+(n-nx)) else g.row n,m:=g'.m}
  have hMlen:M.length=σ'.nx:=by simp[M,z4,hL,hn']
  have hg3D:∀n,D n->g3.blk n=g.blk n/\g3.row n=g.row n:=fun n hn=>by
   have:n∉List.range' nx news:=fun hc=>hnew n hc hn;simp only[g3,if_neg this,and_self]
  have hM:∀j n,M[j]? =some n->(j<σ.nx/\L[j]? =some n/\D n)\/(σ.nx<=j/\n=nx+(j-σ.nx)/\n∈List.range' nx news):=by
   intro j n hj;by_cases hjL:j<L.length
   .rw[show M=L++List.range' nx news from rfl,WC hjL] at hj;exact .inl ⟨by omega,hj,hLD n (Xx hj)⟩
   .rw[show M=L++List.range' nx news from rfl,WG (by omega)] at hj;have hmem:=Xx hj;have hlt:=(Ww.1 hj).1;rw[List.getElem?_range' (by simpa using hlt)] at hj;simp only[Wq] at hj;exact .inr ⟨by omega,by omega,hmem⟩
  have hg3:∀j n,Cf (yh M) j=some n->g'.blk j=g3.blk n/\g'.row j=g3.row n/\(D n\/n∈List.range' nx news):=by
   intro j n hj;rw[L6] at hj;rcases hM j n hj with⟨h4,h5,h6⟩|⟨h4,h5,h6⟩
   .have hs:Cf (yh L) j=some n:=by rw[L6];exact h5
    refine⟨?_,?_,.inl h6⟩
    .rw[hx.blk j h4,Gh.B9 hs,(hg3D n h6).1]
    .rw[hx.row j h4,Gh.CP hs,(hg3D n h6).2]
   .have he:σ.nx+(n-nx)=j:=by omega
    simp only[g3,if_pos h6,he,true_and];exact .inr h6
  have hallM:∀n,C1 (yh M) n≠some none:=fun n hc=>by rw[QV] at hc;cases hL2:M[n]? <;>rw[hL2] at hc<;>cases hc
  have hren:∀{v c c'},Ar g' (·<σ'.nx) w' v c'->wl (yh M) c'=some c->Ar g3 (fun n=>D n\/n∈List.range' nx news) w' v c:=fun {v c c'} hv hc=>
   Ar.ren (g2:=g') (g:=g3) hv rfl (fun j n hj=>⟨(hg3 j n hj).1,(hg3 j n hj).2.2⟩) (fun j n hj=>(hg3 j n hj).2.1) hallM c hc
  have hfootin:∀b,Az (g.sub (yh L)) σ.es b->∃m e,m∈L/\zl es m=some e/\e.AB g m=some b:=by
   rintro b ⟨n,e2,h4,h5⟩;obtain⟨m,e,h6,h7,h8⟩:=Qr hin' h4 h5;rw[L6] at h6;exact⟨m,e,Xx h6,h7,h8⟩
  have hentfoot:∀{j n e0 e b},Cf (yh M) j=some n->JH (yh M) e0=some e->e.AB g3 n=some b->e0.AB g' j=some b:=by
   intro j n e0 e b hj he hb;cases e0 with
   |var cs=>
    simp only[JH,Wo] at he;obtain⟨cs',_,rfl⟩:=he;simp only[A2.AB] at hb ⊢;rw[(hg3 j n hj).1];exact hb
   |map c ks xs=>
    cases he;simp only[A2.AB] at hb ⊢;rw[(hg3 j n hj).1];exact hb
   |row=>cases he;simp only[A2.AB] at hb ⊢;rw[(hg3 j n hj).2.1];exact hb
   |gone=>cases he;cases hb
  have hcase:∀n e,zl (post++es) n=some e->(∃j e0,Cf (yh M) j=some n/\zl σ'.es j=some e0/\JH (yh M) e0=some e)\/(n∉M/\zl es n=some e):=by
   intro n e hf;rw[Zmu] at hf;cases hpn:zl post n with
   |some e1=>
    rw[hpn] at hf;simp only[Wq] at hf;subst hf;exact .inl (Zsf hd hout n e1 hpn)
   |none=>
    rw[hpn] at hf;refine .inr ⟨fun hm=> ?_,hf⟩;obtain⟨j,hj⟩:=YB.1 hm;have hjlt:j<σ'.nx:=by rw[<-hMlen];exact(Ww.1 hj).1
    obtain⟨e0,he0⟩:=Zoe hcov j hjlt;obtain⟨e1,he1⟩:=Zpd hd hout j e0 n he0 (by rw[L6];exact hj);rw[hpn] at he1;cases he1
  have hsub:∀b,Az (g.sub (yh L)) σ.es b->Az g es b:=fun b hb=>by
   obtain⟨m,e,_,h5,h6⟩:=hfootin b hb;exact⟨m,e,h5,h6⟩
  have hold:∀n e b,n∉M->zl es n=some e->e.AB g n=some b->¬Az (g.sub (yh L)) σ.es b:=by
   intro n e b hn hf hb hc;obtain⟨m,e',h4,h5,h6⟩:=hfootin b hc;have:=hR.Bb n m e e' b hf h5 hb h6;subst this;exact hn (XB _ h4)
  have holdfoot:∀n e b,n∉M->zl es n=some e->e.AB g3 n=some b->e.AB g n=some b:=by
   intro n e b hn hf hb;have h4:=hg3D n (hR.lt n e hf);cases e with
   |var cs=>simp only[A2.AB] at hb ⊢;rw[<-h4.1];exact hb
   |map c ks xs=>simp only[A2.AB] at hb ⊢;rw[<-h4.1];exact hb
   |row=>simp only[A2.AB] at hb ⊢;rw[<-h4.2];exact hb
   |gone=>cases hb
  have hext:Ext D g (Az g es) w g3 (Az g3 (post++es)) w':=by
   refine⟨hx.os,hx.tape,hx.output,hx.size,hx.cells,hx.mark,fun n hn=>(hg3D n hn).1,fun n hn=>(hg3D n hn).2,fun b hb hF=>hx.frame b hb fun hc=>hF (hsub b hc),?_⟩;rintro b ⟨n,e,h4,h5⟩;rcases hcase n e h4 with⟨j,e0,h6,h7,h8⟩|⟨h6,h7⟩
   .exact (hx.CK b ⟨j,e0,h7,hentfoot h6 h8 h5⟩).imp (hsub b) id
   .exact .inl ⟨n,e,h7,holdfoot n e b h6 h7 h5⟩
  refine hP v g3 w' ?_ (hren hv hr') hext;refine hR.step hx.mark hx.cells (fun n hn=> .inl hn) (fun n hn=>(hg3D n hn).1) (fun n hn=>(hg3D n hn).2) (fun n e hf=> ?_) ?_ hR'.fresh
  .rcases hcase n e hf with⟨j,e0,h6,h7,h8⟩|⟨h6,h7⟩
   .refine .inr ⟨(hg3 j n h6).2.2,?_⟩;have he:=hR'.BW j e0 h7;cases e0 with
    |var cs0=>
     simp only[JH,Wo] at h8;obtain⟨cs',hcs,rfl⟩:=h8;obtain⟨h9,vs',t,h10,h11,h12,h13,h14⟩:=he;refine⟨by rw[<-(hg3 j n h6).1];exact h9,vs',t,by rw[<-(hg3 j n h6).1];exact h10,by have e1:=yo hcs;omega,h12,fun i v c hv hc=> ?_,by rw[<-(hg3 j n h6).2.1];exact h14⟩;obtain⟨c0,hc0⟩:=Ax (yo hcs).symm hc;exact hren (h13 i v c0 hv hc0) (x9 hcs i c0 c hc0 hc)
    |map c ks xs=>
     cases h8;obtain⟨h9,vs',t,h10,h11,h12,h12',h13⟩:=he;refine⟨by rw[<-(hg3 j n h6).1];exact h9,vs',t,by rw[<-(hg3 j n h6).1];exact h10,h11,h12,h12',fun i v x hv hx=> ?_⟩;exact hren (h13 i v x hv hx) (Q9 _ c x)
    |row=>cases h8;intro ρ' hρ';exact he ρ' (by rw[(hg3 j n h6).2.1];exact hρ')
    |gone=>cases h8;trivial
   .refine .inl ⟨h7,fun b hb=> ?_⟩;exact hx.frame b (hR.BP h7 hb) (hold n e b h6 h7 hb)
  .intro n n' e e' b h4 h5 h6 h7;rcases hcase n e h4 with⟨j,e0,h8,h9,h10⟩|⟨h8,h9⟩<;>rcases hcase n' e' h5 with⟨j',e0',h8',h9',h10'⟩|⟨h8',h9'⟩
   .have:=hR'.Bb j j' e0 e0' b h9 h9' (hentfoot h8 h10 h6) (hentfoot h8' h10' h7);subst this;rw[h8] at h8';cases h8';rfl
   .exfalso;have hb:=holdfoot n' e' b h8' h9' h7;rcases hx.CK b ⟨j,e0,h9,hentfoot h8 h10 h6⟩ with hf|hf
    .exact hold n' e' b h8' h9' hb hf
    .have:=hR.BP h9' hb;omega
   .exfalso;have hb:=holdfoot n e b h8 h9 h6;rcases hx.CK b ⟨j',e0',h9',hentfoot h8' h10' h7⟩ with hf|hf
    .exact hold n e b h8 h9 hb hf
    .have:=hR.BP h9 hb;omega
   .exact hR.Bb n n' e e' b h9 h9' (holdfoot n e b h8 h9 h6) (holdfoot n' e' b h8' h9' h7)
theorem Vb{G:Dm}{L:List Nat}{pre:Es}(h:(L.all fun n=>(zl pre n).isSome)=true){g:Gh}{D:Nat->Prop}{es:Es}{w:World}(hR:R G g D es w)(hp:∀p∈pre,zl es p.1=some p.2):∀n∈L,D n:=fun n hn=>by
 obtain⟨e,he⟩:=XN.1 (Wm.1 h n hn);exact hR.lt n e (hp _ (SR he))
theorem OS.Kq{f:FuncId}{xs:List Operand}{ts:Array TypeId}{cs args:List V}{σ σ':Aq}{r r':V}{L:List Nat}{nx news:Nat}{pre post:Es}(ho:o.op= .call {callee:= .value (.func f),args:=xs.toArray,argTypes:=ts})(hx:D6 E a xs ts.toList=some cs)(h:AC E f args σ r σ')
 (hL:L.length=σ.nx) (hn':σ'.nx=σ.nx+news) (hd:yc (yh (z4 L nx news))=true) (hin:Dz (yh L) pre σ.es) (hout:E6 (yh (z4 L nx news)) σ'.es=some post) (hcov:F6 σ'.es σ'.nx=true)
 (hr':wl (yh (z4 L nx news)) r=some r') (hLp:(L.all fun n=>(zl pre n).isSome)=true) (hle:∃cs1,xz (yh L) args=some cs1/\Bp cs cs1):OS E N o a pre r' (List.range' nx news) post:=by
 intro g D es w act hR hp hn hF K Q hK;obtain⟨h1,h2⟩:=Rg hx hR hF;exact UC ho h.1 (h.use L nx news hL hn' hd hin hout hcov hr' hR hp hn (Vb hLp hR hp) h1 h2 hle fun v g' w' h3 h4 h5=>⟨v,rfl,hK g' v w' h3 h4 h5⟩)
theorem OS.IF{x:Operand}{f:FuncId}{fi caps:List V}{xs:List Operand}{ts:Array TypeId}{cs args:List V}{σ σ':Aq}{r r':V}{L:List Nat}{nx news:Nat}{pre post:Es}(ho:o.op= .call {callee:= .value x,args:=xs.toArray,argTypes:=ts})(hf:ev E 0 a x=some (.fn (.func f) fi caps))
 (hx:D6 E a xs ts.toList=some cs) (h:AC E f args σ r σ')
 (hL:L.length=σ.nx) (hn':σ'.nx=σ.nx+news) (hd:yc (yh (z4 L nx news))=true) (hin:Dz (yh L) pre σ.es) (hout:E6 (yh (z4 L nx news)) σ'.es=some post) (hcov:F6 σ'.es σ'.nx=true)
 (hr':wl (yh (z4 L nx news)) r=some r') (hLp:(L.all fun n=>(zl pre n).isSome)=true) (hle:∃cs1,xz (yh L) args=some cs1/\Bp (fi++cs++caps) cs1):OS E N o a pre r' (List.range' nx news) post:=by
 intro g D es w act hR hp hn hF K Q hK;obtain⟨h1,h2⟩:=Rg hx hR hF;obtain⟨vs,us,h6,h7,h8,h9,h10⟩:=(z8 hf hR hF).Iq;refine Zzd ho h6 h.1 (h.use L nx news hL hn' hd hin hout hcov hr' hR hp hn (Vb hLp hR hp) (cs:=fi++cs++caps) (by simp at h1 ⊢;omega) (fun i v c hv hc=> ?_) hle fun v g' w' h3 h4 h5=>⟨v,rfl,hK g' v w' h3 h4 h5⟩);have hl1:(vs++xs.map act.eval).length=(fi++cs).length:=by simp at h1 ⊢;omega
 by_cases hi:i<(fi++cs).length
 .rw[WC hi] at hc;rw[WC (by omega)] at hv;by_cases hi2:i<fi.length
  .rw[WC hi2] at hc;rw[WC (by omega)] at hv;exact h9 i v c hv hc
  .rw[WG (by omega)] at hc hv;rw[h7] at hv;exact h2 _ v c hv hc
 .rw[WG (by omega)] at hc hv;rw[hl1] at hv;exact h10 _ v c hv hc
end
def FL(es:Es):List Nat->Option Es
 |[]=>some []
 |n::l=>(zl es n).bind fun e=>(FL es l).map fun l'=>(n,e)::l'
theorem UB{es:Es}:∀{L:List Nat} {pre:Es},FL es L=some pre->GF es pre:=by
 intro L;induction L with
 |nil=>intro pre h;simp[FL] at h;subst h;trivial
 |cons n l ih=>
  intro pre h;simp only[FL,Wx,Wo] at h;obtain⟨e,h1,l',h2,rfl⟩:=h;exact⟨h1,ih h2⟩
theorem VE{es:Es}:∀{L:List Nat} {pre:Es},FL es L=some pre->(L.all fun n=>(zl pre n).isSome)=true:=by
 have key:∀{L:List Nat} {pre:Es},FL es L=some pre->∀n∈L,(zl pre n).isSome=true:=by
  intro L;induction L with
  |nil=>intro pre h n hn;cases hn
  |cons n l ih=>
   intro pre h m hm;simp only[FL,Wx,Wo] at h;obtain⟨e,h1,l',h2,rfl⟩:=h;rw[zp];by_cases hnm:n=m
   .rw[if_pos hnm];rfl
   .rw[if_neg hnm];rcases WE.1 hm with rfl|hm
    .exact absurd rfl hnm
    .exact ih h2 m hm
 intro L pre h;exact Wm.2 (key h)
section
variable {E:Env} {N k:Nat} {a:AF} {σ:Aq} {Q:Exit->AF->Aq->Prop} {ops:List Oper} {dr:Bool} {rest:List Oper} {acc:List Rec}
variable {d:Option Tmp} {ty:TypeId} {ps:String} {af:Array Edge} {gd:Option (Nat×Bool)}
namespace L
theorem cb{f:FuncId}{xs:List Operand}{ts:List TypeId}{cs args cs1:List V}{σ1 σ2:Aq}{r r':V}{pre post:Es}(h:AC E f args σ1 r σ2)(L:List Nat)(news:Nat)(hw:yb ops a gd=some true)(hx:D6 E a xs ts=some cs)(hpre:FL σ.es L=some pre)
 (hL:L.length=σ1.nx) (hn':σ2.nx=σ1.nx+news) (hd:yc (yh (z4 L σ.nx news))=true) (hin:Dz (yh L) pre σ1.es) (hout:E6 (yh (z4 L σ.nx news)) σ2.es=some post) (hcov:F6 σ2.es σ2.nx=true)
 (hr':wl (yh (z4 L σ.nx news)) r=some r') (hle:Bp cs cs1) (hr:xz (yh L) args=some cs1) (hdst:z9 N d=true)
 (h2:AX E N k dr ops rest (a.put d r') (σ.Ay news post) (⟨pre,r',news,post⟩::acc) Q):AX E N k dr ops (⟨d,.call ⟨.value (.func f),xs.toArray,ts.toArray⟩,ty,ps,af,gd⟩::rest) a σ acc Q:=
 AX.run news hw (OS.Kq rfl (Q5 (by intro x hx;simp[Op.operands,Call.operands,hx]) hx) h hL hn' hd hin hout hcov hr' (VE hpre) ⟨cs1,hr,hle⟩) (UB hpre) hdst h2
theorem cv{x:Operand}{f:FuncId}{fi caps:List V}{xs:List Operand}{ts:List TypeId}{cs args cs1:List V}{σ1 σ2:Aq}{r r':V}{pre post:Es}(h:AC E f args σ1 r σ2)(L:List Nat)(news:Nat)(hw:yb ops a gd=some true)(hf:ev E 0 a x=some (.fn (.func f) fi caps))(hx:D6 E a xs ts=some cs)
 (hpre:FL σ.es L=some pre) (hL:L.length=σ1.nx) (hn':σ2.nx=σ1.nx+news) (hd:yc (yh (z4 L σ.nx news))=true) (hin:Dz (yh L) pre σ1.es) (hout:E6 (yh (z4 L σ.nx news)) σ2.es=some post) (hcov:F6 σ2.es σ2.nx=true)
 (hr':wl (yh (z4 L σ.nx news)) r=some r') (hle:Bp (fi++cs++caps) cs1) (hr:xz (yh L) args=some cs1) (hdst:z9 N d=true)
 (h2:AX E N k dr ops rest (a.put d r') (σ.Ay news post) (⟨pre,r',news,post⟩::acc) Q):AX E N k dr ops (⟨d,.call ⟨.value x,xs.toArray,ts.toArray⟩,ty,ps,af,gd⟩::rest) a σ acc Q:=
 AX.run news hw (OS.IF rfl (fr (by simp[Op.operands,Call.operands]) hf) (Q5 (by intro y hy;simp[Op.operands,Call.operands,hy]) hx) h hL hn' hd hin hout hcov hr' (VE hpre) ⟨cs1,hr,hle⟩) (UB hpre) hdst h2
end L
end
mutual
def V.wk:V->V
 | .slice _ l=> .slice .any l
 | .agg cs=> .agg (V.Ap cs)
 | .AD cs=> .AD (V.Ap cs)
 |v=>v
def V.Ap:List V->List V
 |[]=>[]
 |c::cs=>c.wk::V.Ap cs
end
mutual
theorem Ao.wk:∀c:V,Ao c c.wk
 | .slice sp l=> .any sp l
 | .agg cs=> .agg (Bp.Ap cs)
 | .AD cs=> .AD (Bp.Ap cs)
 | .int _ _| .bool _| .str _| .nil| .addr _| .ptr _ _| .arr _ _ _| .mp _| .nilp| .fn _ _ _| .nilf| .raw _| .ifc _ _=> .refl _
theorem Bp.Ap:∀cs:List V,Bp cs (V.Ap cs)
 |[]=>trivial
 |c::cs=>⟨Ao.wk c,Bp.Ap cs⟩
end
theorem OS.mul{E:Env}{N:Nat}{o:Oper}{a:AF}{t u:TypeId}{x y:Operand}{n m:Int}(ho:o.op= .binOp .mul t x y u)(hx:ev E t a x=some (.i n))(hy:ev E t a y=some (.i m))(h1: -9223372036854775808<=n*m)(h2:n*m<=9223372036854775807):
 OS E N o a [] (.i (n*m)) [] []:=by
 have:=OS.bin (N:=N) (c:= .int .i64 (IntKind.i64.wrap (n*m))) ho hx hy rfl
 rwa [IntWalk.i64_in _ (by omega)] at this
section
variable {E:Env} {N k:Nat} {a:AF} {σ:Aq}
theorem K.r1{rs:List ResultVar}{r:V}{cs:List V}{c1:V}(h1:FN E a σ.es rs=some cs)(h7:wl [] r=some c1)(h8:(zk cs).wk=c1):Fk E 0 rs r ⟨0,[]⟩ .ret a σ:=
 K.r0 h1 h7 (h8▸Ao.wk _)
theorem K.n1{rs:List ResultVar}{r:V}{cs:List V}{c1:V}(h1:FN E a σ.es rs=some cs)(h7:wl [] r=some c1)(h8:(zk cs).wk=c1):Fk E 0 rs r ⟨0,[]⟩ .normal a σ:=
 K.r1 (rs:=rs) h1 h7 h8
theorem K.r2{rs:List ResultVar}{r:V}{σ':Aq}{cs:List V}{c1:V}(ρ:List (Option Nat))(h1:FN E a σ.es rs=some cs)(h2:ρ.length=σ'.nx)(h3:Ga 0 k ρ=true)(h4:yc ρ=true)(h5:below σ.nx ρ=true)
 (h6:Dz ρ σ.es σ'.es) (h7:wl ρ r=some c1) (h8:(zk cs).wk=c1):Fk E k rs r σ' .ret a σ:=K.rt ρ h1 h2 h3 h4 h5 h6 h7 (h8▸Ao.wk _)
theorem K.n2{rs:List ResultVar}{r:V}{σ':Aq}{cs:List V}{c1:V}(ρ:List (Option Nat))(h1:FN E a σ.es rs=some cs)(h2:ρ.length=σ'.nx)(h3:Ga 0 k ρ=true)(h4:yc ρ=true)(h5:below σ.nx ρ=true)
 (h6:Dz ρ σ.es σ'.es) (h7:wl ρ r=some c1) (h8:(zk cs).wk=c1):Fk E k rs r σ' .normal a σ:=K.r2 (rs:=rs) ρ h1 h2 h3 h4 h5 h6 h7 h8
variable {Q:Exit->AF->Aq->Prop} {ops:List Oper} {dr:Bool} {rest:List Oper} {acc:List Rec}
variable {d:Option Tmp} {ty:TypeId} {ps:String} {af:Array Edge} {gd:Option (Nat×Bool)}
namespace L
theorem RY{t:TypeId}{s x:Operand}{z:Nat}{zr:List V}{e:EC}{co:Option EC}{sz bytes:Nat}{sp sp':Sp}{l l':List e.sem}(hw:yb ops a gd=some true)(hs:ev E t a s=some (.slice sp (.t e l)))(hx:ev E t a x=some (.slice sp' (.t e l')))(ht:E.ti t=some ⟨z,zr,.slc co sz bytes⟩)
 (hsp:My sp=true) (hsz:Nat.beq e.cells sz=true) (hp:GF σ.es (Hl sp)) (hd:z9 N d=true) (hby:Nat.ble bytes 128=true)
 (hb:l.length+l'.length<=1099511627776) (h2:AX E N k dr ops rest (a.put d (.slice (.own σ.nx) (.t e (l++l')))) (σ.Ay 1 (HV σ.nx sp)) (⟨Hl sp,.slice (.own σ.nx) (.t e (l++l')),1,HV σ.nx sp⟩::acc) Q):
 AX E N k dr ops (⟨d,.call ⟨.builtin .append,#[s,x],#[t,t]⟩,ty,ps,af,gd⟩::rest) a σ acc Q:=
 L.ap hw hs hx ht hsp (l2:= .t e (l++l')) (by simp[SL.app]) hsz hp hd
  (by
   have h3:bytes<=128:=Wz hby;have h4:(l.length+l'.length)*bytes<=1099511627776*128:=XU hb h3;exact⟨by simp only[SL.len];omega,by simp only[SL.len];omega⟩) h2
theorem LI{t:TypeId}{s x:Operand}{z:Nat}{zr:List V}{e:EC}{co:Option EC}{sz bytes:Nat}{sp':Sp}{l l':List e.sem}(hw:yb ops a gd=some true)(hs:ev E t a s=some (.slice .full (.t e l)))(hx:ev E t a x=some (.slice sp' (.t e l')))(ht:E.ti t=some ⟨z,zr,.slc co sz bytes⟩)
 (hsp:0<l'.length) (hsz:Nat.beq e.cells sz=true) (hd:z9 N d=true) (hby:Nat.ble bytes 128=true)
 (hb:l.length+l'.length<=1099511627776) (h2:AX E N k dr ops rest (a.put d (.slice (.own σ.nx) (.t e (l++l')))) (σ.Ay 1 [(σ.nx,.row)]) (⟨[],.slice (.own σ.nx) (.t e (l++l')),1,[(σ.nx,.row)]⟩::acc) Q):
 AX E N k dr ops (⟨d,.call ⟨.builtin .append,#[s,x],#[t,t]⟩,ty,ps,af,gd⟩::rest) a σ acc Q:=
 L.apF hw hs hx ht ⟨rfl,hsp⟩ (l2:= .t e (l++l')) (by simp[SL.app]) hsz trivial hd
  (by
   have h3:bytes<=128:=Wz hby;have h4:(l.length+l'.length)*bytes<=1099511627776*128:=XU hb h3;exact⟨by simp only[SL.len];omega,by simp only[SL.len];omega⟩) h2
theorem ml{t u:TypeId}{x y:Operand}{n m:Int}(hw:yb ops a gd=some true)(hx:ev E t a x=some (.int .i64 n))(hy:ev E t a y=some (.int .i64 m))(hd:z9 N d=true)(h1: -9223372036854775808<=n*m/\n*m<=9223372036854775807)
 (h2:AX E N k dr ops rest (a.put d (.int .i64 (n*m))) σ (⟨[],.int .i64 (n*m),0,[]⟩::acc) Q):AX E N k dr ops (⟨d,.binOp .mul t x y u,ty,ps,af,gd⟩::rest) a σ acc Q:=
 AX.run 0 hw (OS.mul rfl (fr (by simp[Op.operands,Call.operands]) hx) (fr (by simp[Op.operands,Call.operands]) hy) h1.1 h1.2) trivial hd h2
theorem rm{t u:TypeId}{x y:Operand}{kd:IntKind}{n m:Int}(hw:yb ops a gd=some true)(hx:ev E t a x=some (.int kd n))(hy:ev E t a y=some (.int kd m))(hd:z9 N d=true)(h1:m≠0)
 (h2:AX E N k dr ops rest (a.put d (.int kd (n.tmod m))) σ (⟨[],.int kd (n.tmod m),0,[]⟩::acc) Q):AX E N k dr ops (⟨d,.binOp .rem t x y u,ty,ps,af,gd⟩::rest) a σ acc Q:=
 AX.run 0 hw (OS.rem rfl (fr (by simp[Op.operands,Call.operands]) hx) (fr (by simp[Op.operands,Call.operands]) hy) h1) trivial hd h2
theorem c2{f:FuncId}{xs:List Operand}{ts:List TypeId}{cs args:List V}{r:V}(h:PC E f args r)(hw:yb ops a gd=some true)(hx:D6 E a xs ts=some cs)(hr:xz [] args=some (V.Ap cs))(hd:z9 N d=true)
 (h2:AX E N k dr ops rest (a.put d r) σ (⟨[],r,0,[]⟩::acc) Q):AX E N k dr ops (⟨d,.call ⟨.value (.func f),xs.toArray,ts.toArray⟩,ty,ps,af,gd⟩::rest) a σ acc Q:=
 L.c0 h hw hx hr (Bp.Ap cs) hd h2
theorem Kr{f:FuncId}{xs:List Operand}{ts:List TypeId}{cs args:List V}{σ1 σ2:Aq}{r r':V}{pre post:Es}(h:AC E f args σ1 r σ2)(L:List Nat)(news:Nat)(hw:yb ops a gd=some true)(hx:D6 E a xs ts=some cs)(hpre:FL σ.es L=some pre)
 (hL:L.length=σ1.nx) (hn':σ2.nx=σ1.nx+news) (hd:yc (yh (z4 L σ.nx news))=true) (hr:xz (yh L) args=some (V.Ap cs)) (hin:Dz (yh L) pre σ1.es) (hout:E6 (yh (z4 L σ.nx news)) σ2.es=some post) (hcov:F6 σ2.es σ2.nx=true)
 (hr':wl (yh (z4 L σ.nx news)) r=some r') (hdst:z9 N d=true)
 (h2:AX E N k dr ops rest (a.put d r') (σ.Ay news post) (⟨pre,r',news,post⟩::acc) Q):AX E N k dr ops (⟨d,.call ⟨.value (.func f),xs.toArray,ts.toArray⟩,ty,ps,af,gd⟩::rest) a σ acc Q:=
 Go.Ab.L.cb h L news hw hx hpre hL hn' hd hin hout hcov hr' (Bp.Ap cs) hr hdst h2
theorem cv2{x:Operand}{f:FuncId}{fi caps:List V}{xs:List Operand}{ts:List TypeId}{cs args:List V}{σ1 σ2:Aq}{r r':V}{pre post:Es}(h:AC E f args σ1 r σ2)(L:List Nat)(news:Nat)(hw:yb ops a gd=some true)(hf:ev E 0 a x=some (.fn (.func f) fi caps))(hx:D6 E a xs ts=some cs)
 (hpre:FL σ.es L=some pre) (hL:L.length=σ1.nx) (hn':σ2.nx=σ1.nx+news) (hd:yc (yh (z4 L σ.nx news))=true) (hr:xz (yh L) args=some (V.Ap (fi++cs++caps))) (hin:Dz (yh L) pre σ1.es) (hout:E6 (yh (z4 L σ.nx news)) σ2.es=some post) (hcov:F6 σ2.es σ2.nx=true)
 (hr':wl (yh (z4 L σ.nx news)) r=some r') (hdst:z9 N d=true)
 (h2:AX E N k dr ops rest (a.put d r') (σ.Ay news post) (⟨pre,r',news,post⟩::acc) Q):AX E N k dr ops (⟨d,.call ⟨.value x,xs.toArray,ts.toArray⟩,ty,ps,af,gd⟩::rest) a σ acc Q:=
 Go.Ab.L.cv h L news hw hf hx hpre hL hn' hd hin hout hcov hr' (Bp.Ap _) hr hdst h2
theorem JP{t:TypeId}{x:Operand}{z:Nat}{zr:List V}{e:EC}{sz bytes:Nat}{c:V}{vc:List V}{y:e.sem}(hw:yb ops a gd=some true)(ht:E.ti t=some ⟨z,zr,.slc (some e) sz bytes⟩)(hev:ev E 0 a x=some c)(hcs:cellsOf c=some vc)(hsz:Nat.beq vc.length sz=true)(hf:e.fold vc=some y)
 (hb:Nat.ble (1*sz) 16777216=true) (hd:z9 N d=true) (h2:AX E N k dr ops rest (a.put d (.slice .full (.t e [y]))) σ (⟨[],.slice .full (.t e [y]),0,[]⟩::acc) Q):
 AX E N k dr ops (⟨d,.buildSlice t 1 #[(0,x)],ty,ps,af,gd⟩::rest) a σ acc Q:=
 L.bs (pp:=[(0,x)]) (cs:=[c]) (vcs:=[vc]) 0 hw ht rfl rfl (by simp[Eg,hev]) (by simp[Ed,hcs]) (by simp only[Xh,Yw,hsz];rfl) (by simp[G4,Ed,hf]) hb hd h2
theorem Mg{t:TypeId}{x x':Operand}{z:Nat}{zr:List V}{e:EC}{sz bytes:Nat}{c c':V}{vc vc':List V}{y y':e.sem}(hw:yb ops a gd=some true)(ht:E.ti t=some ⟨z,zr,.slc (some e) sz bytes⟩)(hev:ev E 0 a x=some c)(hcs:cellsOf c=some vc)(hsz:Nat.beq vc.length sz=true)(hf:e.fold vc=some y)
 (hev':ev E 0 a x'=some c') (hcs':cellsOf c'=some vc') (hsz':Nat.beq vc'.length sz=true) (hf':e.fold vc'=some y')
 (hb:Nat.ble (2*sz) 16777216=true) (hd:z9 N d=true) (h2:AX E N k dr ops rest (a.put d (.slice .full (.t e [y,y']))) σ (⟨[],.slice .full (.t e [y,y']),0,[]⟩::acc) Q):
 AX E N k dr ops (⟨d,.buildSlice t 2 #[(0,x),(1,x')],ty,ps,af,gd⟩::rest) a σ acc Q:=
 L.bs (pp:=[(0,x),(1,x')]) (cs:=[c,c']) (vcs:=[vc,vc']) 0 hw ht rfl rfl (by simp[Eg,hev,hev']) (by simp[Ed,hcs,hcs']) (by simp only[Xh,Yw,hsz,hsz'];rfl) (by simp[G4,Ed,hf,hf']) hb hd h2
theorem MY{t:TypeId}{x x' x2:Operand}{z:Nat}{zr:List V}{e:EC}{sz bytes:Nat}{c c' c2:V}{vc vc' vc2:List V}{y y' y2:e.sem}(hw:yb ops a gd=some true)(ht:E.ti t=some ⟨z,zr,.slc (some e) sz bytes⟩)(hev:ev E 0 a x=some c)(hcs:cellsOf c=some vc)(hsz:Nat.beq vc.length sz=true)(hf:e.fold vc=some y)
 (hev':ev E 0 a x'=some c') (hcs':cellsOf c'=some vc') (hsz':Nat.beq vc'.length sz=true) (hf':e.fold vc'=some y') (hev2:ev E 0 a x2=some c2) (hcs2:cellsOf c2=some vc2) (hsz2:Nat.beq vc2.length sz=true) (hf2:e.fold vc2=some y2)
 (hb:Nat.ble (3*sz) 16777216=true) (hd:z9 N d=true) (h2:AX E N k dr ops rest (a.put d (.slice .full (.t e [y,y',y2]))) σ (⟨[],.slice .full (.t e [y,y',y2]),0,[]⟩::acc) Q):
 AX E N k dr ops (⟨d,.buildSlice t 3 #[(0,x),(1,x'),(2,x2)],ty,ps,af,gd⟩::rest) a σ acc Q:=
 L.bs (pp:=[(0,x),(1,x'),(2,x2)]) (cs:=[c,c',c2]) (vcs:=[vc,vc',vc2]) 0 hw ht rfl rfl (by simp[Eg,hev,hev',hev2]) (by simp[Ed,hcs,hcs',hcs2]) (by simp only[Xh,Yw,hsz,hsz',hsz2];rfl) (by simp[G4,Ed,hf,hf',hf2]) hb hd h2
end L
end
theorem EC.BC{e:EC}{y:e.sem}{vc:List V}(h:vc=e.view y):e.fold vc=some y:=by
 subst h;cases e with
 |ty=>cases y;rfl
 |tm=>rcases y with⟨_,_,⟨_,_⟩,_⟩;rfl
 |vl=>cases y;rfl
 |fm=>rcases y with⟨_,⟨_,_⟩,_,_⟩;rfl
 |pf=>rcases y with⟨_,_,⟨_,_⟩,_,_,_⟩;rfl
 |gl=>rcases y with⟨⟨_,_⟩,⟨_,⟨_,_⟩,_,_⟩⟩;rfl
 |st=>cases y;rfl
 |sz=>rcases y with⟨⟨_,_⟩,_⟩;rfl
 |tk=>cases y;rfl
 |int=>rfl
 |u8=>rfl
 |str=>rfl
 |tys=>rfl
 |AZ=>rfl
 |bl=>rfl
section
variable {E:Env} {N k:Nat} {a:AF} {σ:Aq} {Q:Exit->AF->Aq->Prop}
def Lj(E:Env)(N k:Nat)(B:Nat)(v p q:Tmp)(m:Nat)(P:Nat->Prop)(J:Nat->AF×Aq)(Q:Exit->AF->Aq->Prop):Exit->AF->Aq->Prop
 | .normal,a,σ=>a.get v=some (.int .i64 ((m+1:Nat):Int))/\P m/\Bi E N k ((v,.int .i64 (m:Int))::(q,.int .i64 (m:Int))::(p,.int .i64 ((m+1:Nat):Int))::a) σ (J m).1 (J m).2
 | .exit id,a,σ=>bif Nat.beq id B then Q .normal a σ else Q (.exit id) a σ
 |e,a,σ=>Q e a σ
theorem AW.down{B C r1 r2:Nat}{c v p p2 q:Tmp}{T T' T2 T3:TypeId}{ty0 ty1 ty2 ty3 ty4:TypeId}{s0 s1 s2 s3 s4:String}{af0 af1 af2 af3 af4:Array Edge}{body:Code}(len:Nat)(P:Nat->Prop)(J:Nat->AF×Aq)(hlen:len<4611686018427387904)
 (hv:∀m,(J m).1.get v=some (.int .i64 m)) (hd:(z9 N (some c)&&z9 N (some p)&&z9 N (some p2)&&z9 N (some q)&&z9 N (some v)&&(!Nat.beq q p2)&&(!Nat.beq p2 v))=true) (hP:P len) (h0:Bi E N k a σ (J len).1 (J len).2)
 (hb:∀m,m<len->P (m+1)->AW E N k body ((c,.bool true)::(p,.int .i64 ((m+1:Nat):Int))::(J (m+1)).1) (J (m+1)).2 (ub C (Lj E N k B v p2 q m P J Q)))
 (he:P 0->Q .normal ((c,.bool false)::(p,.int .i64 ((0:Nat):Int))::(J 0).1) (J 0).2):
 AW E N k (.block B (.loop (.seq (.seq (.region r1 #[⟨some p,.move (.tmp v),ty0,s0,af0,none⟩,⟨some c,.binOp .gtr T (.tmp p) (.const (.int .i64 0)) T',ty1,s1,af1,none⟩] false)
  (.cond (.tmp c) .skip (.exit B))) (.seq (.block C body)
   (.region r2 #[⟨some p2,.move (.tmp v),ty2,s2,af2,none⟩,⟨some q,.binOp .sub T2 (.tmp p2) (.const (.int .i64 1)) T3,ty3,s3,af3,none⟩,⟨some v,.assign (.tmp q),ty4,s4,af4,none⟩] false))))) a σ Q:=by
 simp only[Wk] at hd;obtain⟨⟨⟨⟨⟨⟨hd1,hd2⟩,hd3⟩,hd4⟩,hd5⟩,hd6⟩,hd7⟩:=hd;refine .block (.loop (ι:={m:Nat // m<=len/\P m}) (fun m=>J m.1) (fun m=>m.1) ⟨len,Wj _,hP⟩ h0 fun⟨m,hm,hPm⟩=> ?_);refine .seq (.seq (.AV (L.mv rfl (hv m) hd2 (L.bn rfl (show ev E T _ (.tmp p)=some (.int .i64 (m:Int)) by simp[ev,AF.put,AF.get]) (show ev E T _ (.const (.int .i64 0))=some (.int .i64 0) from rfl) rfl hd1 (.Bd ?_)))));show AW E N k _ ((c,.bool (decide ((m:Int)>0)))::(p,.int .i64 (m:Int))::(J m).1) (J m).2 _;cases m with
 |succ m=>
  have hdec:decide (((m+1:Nat):Int)>0)=true:=by simp
  rw[hdec];refine .B4 (by simp[ev,AF.get]) (.skip ?_);show AW E N k _ _ _ _;refine .seq (.block ((hb m (by omega) hPm).mono ?_));rintro e a1 σ1 hq;have hnorm:Lj E N k B v p2 q m P J Q .normal a1 σ1->HR E N k (.region r2 #[⟨some p2,.move (.tmp v),ty2,s2,af2,none⟩,⟨some q,.binOp .sub T2 (.tmp p2) (.const (.int .i64 1)) T3,ty3,s3,af3,none⟩,⟨some v,.assign (.tmp q),ty4,s4,af4,none⟩] false)
   (Ls E N k (fun m:{m:Nat // m<=len/\P m}=>J m.1) (fun m=>m.1) ⟨m+1,hm,hPm⟩ (ub B Q)) .normal a1 σ1:=by
   rintro⟨h1,h2,h3⟩;show AW E N k _ _ _ _;refine .AV (L.mv rfl h1 hd3 (L.sb rfl (show ev E T2 _ (.tmp p2)=some (.int .i64 ((m+1:Nat):Int)) by simp[ev,AF.put,AF.get]) (show ev E T2 _ (.const (.int .i64 1))=some (.int .i64 1) from rfl) hd4 (by omega)
    (L.C6 rfl (show ev E ty4 _ (.tmp q)=some (.int .i64 (((m+1:Nat):Int)-1)) by simp[ev,AF.put,AF.get]) hd5 (.Bd ?_))))
   rw[show(((m+1:Nat):Int)-1)=(m:Int) from by omega];exact⟨⟨m,by omega,h2⟩,by show m<m+1;omega,h3⟩
  cases e with
  |normal=>exact hnorm hq
  |exit id=>
   simp only[ub] at hq ⊢;cases hb:Nat.beq id C with
   |true=>rw[hb] at hq;exact hnorm hq
   |false=>rw[hb] at hq;exact hq
  |goto l=>exact hq
  |ret=>exact hq
  |panic ch=>exact hq
  |outgrown=>exact hq
 |zero=>
  have hdec:decide (((0:Nat):Int)>0)=false:=by simp
  rw[hdec];refine .B6 (by simp[ev,AF.get]) (.exit ?_);show ub B Q (.exit B) _ _;simp only[ub,Y6,cond_true];exact he hPm
end
theorem Yel{E:Env}{t:TypeId}{i:TI}(h:E.ti t=some i)(hd:i.desc= .bool):E.P.underlying t=some .bool:=by
 obtain⟨d,h1,h2⟩:=IQ h;rw[hd] at h2;cases d<;>first|exact h1|(simp at h2)
section
variable {E:Env} {N k:Nat} {a:AF} {σ:Aq} {Q:Exit->AF->Aq->Prop} {ops:List Oper} {dr:Bool} {rest:List Oper} {acc:List Rec}
variable {d:Option Tmp} {ty:TypeId} {ps:String} {af:Array Edge} {gd:Option (Nat×Bool)}
namespace L
theorem Su{t u:TypeId}{x y:Operand}{z:Nat}{zr:List V}{b c:Bool}(hw:yb ops a gd=some true)(hx:ev E t a x=some (.bool b))(hy:ev E t a y=some (.bool c))(ht:E.ti t=some ⟨z,zr,.bool⟩)(hd:z9 N d=true)
 (h2:AX E N k dr ops rest (a.put d (.bool (!(b==c)))) σ (⟨[],.bool (!(b==c)),0,[]⟩::acc) Q):AX E N k dr ops (⟨d,.binOp .neq t x y u,ty,ps,af,gd⟩::rest) a σ acc Q:=
 AX.run 0 hw (OS.GY rfl (.inr rfl) (Yel ht rfl) (fr (by simp[Op.operands,Call.operands]) hx) (fr (by simp[Op.operands,Call.operands]) hy)) trivial hd h2
end L
end
theorem HX(c:EC)(xs:List c.sem):(xs.flatMap c.view).length=xs.length*c.cells:=by
 induction xs with
 |nil=>simp
 |cons x xs ih=>rw[WO,WD,ih,EC.Bo,Wy,W9];omega
theorem M1(c:EC):∀(xs:List c.sem) (i j:Nat),j<c.cells->(xs.flatMap c.view)[i*c.cells+j]? =(xs[i]?).bind fun x=>(c.view x)[j]?
 |[],i,j,hj=>by simp
 |x::xs,0,j,hj=>by
  rw[WO,Y8,Xg,WC (by rw[EC.Bo];exact hj)]
  rfl
 |x::xs,i+1,j,hj=>by
  have h1:(i+1)*c.cells+j=(c.view x).length+(i*c.cells+j):=by rw[EC.Bo,W9];omega
  rw[WO,h1,WG (by omega),X2,M1 c xs i j hj]
  rfl
theorem Sn(c:EC):∀(xs:List c.sem) (i:Nat) (y:c.sem),i<xs.length->(xs.flatMap c.view).take (i*c.cells)++c.view y++(xs.flatMap c.view).drop (i*c.cells+c.cells)=(xs.set i y).flatMap c.view
 |[],i,y,hi=>by simp at hi
 |x::xs,0,y,_=>by
  rw[WO,XV,WO,Y8,Xg,WX,WW];congr 1;have:=EC.Bo c x;rw[<-this,List.drop_left]
 |x::xs,i+1,y,hi=>by
  have h0:=EC.Bo c x;have h1:(i+1)*c.cells=(c.view x).length+i*c.cells:=by rw[h0,W9];omega
  have h2:(i+1)*c.cells+c.cells=(c.view x).length+(i*c.cells+c.cells):=by rw[h1];omega
  rw[WO,YN,WO,h2,h1,Y3,List.take_append];rw[Xn (by omega),Y9 (by omega),X2,X2,WW,Wr,Wr];rw[<-Sn c xs i y (by simpa using hi),Wr]
theorem SK{z:Array Value}(h:∀v∈z.toList,v.oneCell'=true)(n:Nat):∀v∈(Builtin.zeroCells z n).toList,v.oneCell'=true:=by
 intro v hv;simp only[Builtin.zeroCells,Array.toList_map,WA] at hv;obtain⟨i,hi,rfl⟩:=hv;have hi':i<n*z.size:=by simpa using hi
 have hpos:0<z.size:=by
  rcases Yp z.size with h0|h0
  .rw[h0,Nat.mul_zero] at hi';omega
  .exact h0
 have hlt:i%z.size<z.size:=Y7 _ hpos;rw[getElem!_pos z _ hlt];exact h _ (by simp)
section
variable {E:Env} {N k:Nat} {o:Oper} {a:AF}
theorem Ov(D:Nat->Prop)(g:Gh)(n:Nat)(w:World){b len cap sz:Nat}(h:len<=cap):Ar (g.AN n b (some ⟨b,0,cap,sz⟩)) (fun i=>D i\/i∈[n]) w (.slice (some ⟨b,0,none⟩) len cap) (.arr n len sz):=by
 have h:=Ar.arr (g:=g.AN n b (some ⟨b,0,cap,sz⟩)) (D:=fun i=>D i\/i∈[n]) (w:=w) n len sz cap (Or.inr (WN.2 rfl)) h (by simp[Gh.AN]);have hb:(g.AN n b (some ⟨b,0,cap,sz⟩)).blk n=b:=by simp[Gh.AN]
 rw[hb] at h;exact h
theorem OS.Ho{t te:TypeId}{s x:Operand}{i ie:TI}{co:Option EC}{c:EC}{sz bytes n:Nat}{sp':Sp}{l0:SL V}{l:List c.sem}(ho:o.op= .call {callee:= .builtin .append,args:= #[s,x],argTypes:= #[t,t]})
 (ht:E.ti t=some i) (hd:i.desc= .slc co sz bytes) (hte:E.P.underlying t=some (.slice te)) (hti:E.ti te=some ie) (hs:ev E t a s=some (.slice .nil l0)) (hx:ev E t a x=some (.slice sp' (.t c l))) (hpos:0<l.length)
 (hsz:Nat.beq c.cells sz=true) (hb:l.length*bytes<=140737488355328) (hb2:l.length<=9223372036854775807):OS E N o a [] (.arr n l.length sz) [n] [(n,.var (l.flatMap c.view))]:=
 .of_run fun g D es w act hR hp hn hF=>by
  obtain⟨e,inf,z,h1,h2,h3,h4,h5,h6,h7,h8⟩:=Hx ht hd;obtain rfl:e=te:=by rw[h1] at hte;cases hte;rfl
  have hcs:c.cells=sz:=WK hsz;have hn':¬D n:=hn n (by simp);have hvs:=z8 hs hR hF;have hdx:=(z8 hx hR hF).Bh;obtain⟨xb,xc,hxv⟩:=hdx.Bh;obtain⟨news,hnl,hn1,hnf,hnr,hnl2⟩:=hdx.CL;rw[hxv] at hnf;have hsv:act.eval s= .slice none 0 0:=by
   generalize hv:act.eval s=v at hvs;cases hvs with
   |data h=>cases h
   |nilS _ h=>rfl
  have hsz':c.cells=inf.size:=by rw[hcs,h3]
  have hrun:=Lw (P:=E.P) (w:=w) (ty:=o.type) h1 h2 h5 (base:=none) (sLen:=0) (sCap:=0) (xb:=xb) (n:=l.length) (xc:=xc) (olds:=[]) (news:=news) (fun W _=>by simp[Builtin.firstCells])
   (fun W hW=>by rw[<-hsz'];exact hnf W hW E.P) (by omega) (by rw[h4];simpa using hb) (by omega)
  have hge:=grownCap_ge w (0+l.length) 0 e;obtain⟨inf2,hi1,hi2,z2,hi3,hi4⟩:=I1 hti;have hz1:∀v∈z.cells.toList,v.oneCell'=true:=by
   rw[h2] at hi1;cases hi1;rw[h5] at hi3;cases hi3;exact(LA hi4).2.1
  obtain⟨hR',hx'⟩:=hR.drew.G2 hn' (some ⟨w.heap.size,0,grownCap w (0+l.length) 0 e,sz⟩) (vs:=[]++news++(Builtin.zeroCells z.cells (grownCap w (0+l.length) 0 e-(0+l.length))).toList) (cs:=l.flatMap c.view) e
   (by
    rw[HX,WW,WD,hnl];show l.length*c.cells<=_;simp only[SL.len,SL.cells];omega)
   (fun v hv=>by
    rw[WW] at hv;rcases WH.1 hv with hv|hv
    .exact hn1 v hv
    .exact SK hz1 _ v hv)
   (fun q v d hv hd=>by
    have hc0:0<c.cells:=by omega
    have hq:=(Ww.1 hd).1;rw[HX] at hq;have hqi:q/c.cells<l.length:=(YA hc0).2 hq;have hqj:q%c.cells<c.cells:=Y7 _ hc0;have hqe:q/c.cells*c.cells+q%c.cells=q:=by rw[Yv];exact Ze q c.cells
    have hd':=hd;rw[<-hqe,M1 c l _ _ hqj,Wl hqi] at hd';have hd2:(c.view l[q/c.cells])[q%c.cells]? =some d:=hd';obtain⟨u,hu,hdr⟩:=hnr (q/c.cells) (q%c.cells) (c.view l[q/c.cells]) d (by show(l[q/c.cells]?).map c.view=_;rw[Wl hqi];rfl) hd2 hqi hqj;have hu':news[q]? =some u:=by rw[<-hqe];exact hu
    have hqn:=(Ww.1 hu').1;rw[WW,WC hqn,hu'] at hv;cases hv;exact .data (hdr.mono (fun _=>Wj _) (fun _ _ _=>rfl)))
   (fun r hr=>by
    cases hr;simp only[WD,WW,Yk,size_zeroCells,hnl,h6];show l.length*c.cells+(grownCap w (0+l.length) 0 e-(0+l.length))*sz=grownCap w (0+l.length) 0 e*sz;rw[hcs,<-W9];congr 1;omega)
  refine⟨_,.slice (some ⟨w.heap.size,0,none⟩) (0+l.length) (grownCap w (0+l.length) 0 e),_,?_,hR'.more (fun i hi=>by simpa using hi),?_,Ext.drew.trans hx'⟩
  .have hxv':act.eval x= .slice xb l.length xc:=hxv;simp only[WW] at hrun;simp[execOp,ho,resolve,invoke,builtin,hsv,hxv',hrun]
  .have h9:=Ov D g n (w.drew.alloc (.cells ([]++news++(Builtin.zeroCells z.cells (grownCap w (0+l.length) 0 e-(0+l.length))).toList).toArray e)) (b:=w.drew.heap.size) (len:=l.length) (cap:=grownCap w (0+l.length) 0 e) (sz:=sz) (by omega);rw[Xg] at h9 ⊢;exact h9
theorem OS.IE{t:TypeId}{x y:Operand}{i:TI}{co:Option EC}{sz bytes p len:Nat}{n:Int}{kk:Nat}{kd:IntKind}(ho:o.op= .indexAddr t x y)(ht:E.ti t=some i)(hd:i.desc= .slc co sz bytes)
 (hx:ev E t a x=some (.arr p len sz)) (hy:ev E 0 a y=some (.int kd n)) (hn:n=kk) (hlt:kk<len):OS E N o a [] (.ptr p (kk*sz)) [] []:=
 .pure fun g D es w act hR _ hF=>by
  obtain⟨e,inf,z,h1,h2,h3,h4,h5,h6,h7,h8⟩:=Hx ht hd;have h8':=z8 hx hR hF;have hi:=(z8 hy hR hF).Bl;generalize hxv:act.eval x=v at h8';cases h8' with
  |data h=>cases h
  |arr _ _ _ cap hD hcap _=>
   refine⟨.pointer (some ⟨g.blk p,0+kk*sz,none⟩),?_,by rw[Xg];exact .ptr p _ hD⟩;have h11:0<=n/\n<(len:Int):=by omega
   have h12:n.toNat=kk:=by omega
   have hpi:=run_indexAt_slice (P:=E.P) w t ⟨g.blk p,0,none⟩ len cap kd n (by simp[Program.elem,h1]);rw[if_pos h11,show E.P.elem t=e by simp[Program.elem,h1],wg h2] at hpi;simp only[Result.andThen_ok,h12,h3,GN] at hpi;simp[execOp,ho,hxv,hi,hpi]
end
mutual
def V.BQ(n:Nat)(s:V):V->V
 | .arr m k z=>bif Nat.beq m n then s else .arr m k z
 | .agg cs=> .agg (V.EI n s cs)
 | .AD cs=> .AD (V.EI n s cs)
 | .fn f fi caps=> .fn f (V.EI n s fi) (V.EI n s caps)
 |v=>v
def V.EI(n:Nat)(s:V):List V->List V
 |[]=>[]
 |c::cs=>V.BQ n s c::V.EI n s cs
end
mutual
def V.BO(n len:Nat):V->Prop
 | .arr m k _=>m=n->k=len
 | .agg cs=>V.CE n len cs
 | .AD cs=>V.CE n len cs
 | .fn _ fi caps=>V.CE n len fi/\V.CE n len caps
 |_=>True
def V.CE(n len:Nat):List V->Prop
 |[]=>True
 |c::cs=>V.BO n len c/\V.CE n len cs
end
theorem V.Cq(n:Nat)(s:V):∀cs,V.EI n s cs=cs.map (V.BQ n s)
 |[]=>rfl
 |c::cs=>by rw[V.EI,V.Cq n s cs];rfl
theorem V.Cb{n len:Nat}:∀{cs:List V},V.CE n len cs->∀(i:Nat) c,cs[i]? =some c->V.BO n len c
 |[],_,i,c,h=>by simp at h
 |x::l,hh,i,c,h=>by
  cases i with
  |zero=>simp at h;subst h;exact hh.1
  |succ i=>exact V.Cb hh.2 i c (by simpa using h)
theorem Zso(n len:Nat)(c:EC)(x:c.sem):V.BO n len (FC c x):=by cases c<;>simp[FC,EC.view,V.BO,V.CE,Ty.view,Tm.view,Vl.view,Fm.view,Pf.view,Gl.view,St.view,Sz.view,Tk.view]
theorem Zyw(n:Nat)(s:V)(c:EC)(x:c.sem):V.BQ n s (FC c x)=FC c x:=by cases c<;>rfl
def A2.BQ(n:Nat)(s:V):A2->A2
 | .var cs=> .var (V.EI n s cs)
 |e=>e
def A2.BO(n len:Nat):A2->Prop
 | .var cs=>V.CE n len cs
 |_=>True
def Es.BQ(n:Nat)(s:V):Es->Es
 |[]=>[]
 |p::l=>(p.1,A2.BQ n s p.2)::Es.BQ n s l
def Es.BO(n len:Nat):Es->Prop
 |[]=>True
 |p::l=>(p.1≠n->A2.BO n len p.2)/\Es.BO n len l
def AF.BQ(n:Nat)(s:V):AF->AF
 |[]=>[]
 |p::l=>(p.1,V.BQ n s p.2)::AF.BQ n s l
def AF.BO(n len:Nat):AF->Prop
 |[]=>True
 |p::l=>V.BO n len p.2/\AF.BO n len l
theorem AF.Eb{n len:Nat}:∀{a:AF},AF.BO n len a->∀t c,a.get t=some c->V.BO n len c
 |[],_,t,c,h=>by cases h
 |p::l,hh,t,c,h=>by
  obtain⟨m,d⟩:=p;rw[AF.Be] at h;by_cases hm:m=t
  .rw[if_pos hm] at h;cases h;exact hh.1
  .rw[if_neg hm] at h;exact AF.Eb hh.2 t c h
theorem Es.DQ{n len:Nat}:∀{es:Es},Es.BO n len es->∀t e,t≠n->zl es t=some e->A2.BO n len e
 |[],_,t,c,_,h=>by cases h
 |p::l,hh,t,c,hn,h=>by
  obtain⟨m,d⟩:=p;rw[zp] at h;by_cases hm:m=t
  .rw[if_pos hm] at h;cases h;exact hh.1 (by show m≠n;rw[hm];exact hn)
  .rw[if_neg hm] at h;exact Es.DQ hh.2 t c hn h
theorem AF.Fz(n:Nat)(s:V):∀(a:AF) (t:Nat),(AF.BQ n s a).get t=(a.get t).map (V.BQ n s)
 |[],t=>rfl
 |p::l,t=>by
  obtain⟨m,c⟩:=p;simp only[AF.BQ,AF.Be];by_cases h:m=t
  .simp[h]
  .simp only[h,if_false];exact AF.Fz n s l t
theorem Es.EF(n:Nat)(s:V):∀(es:Es) (t:Nat),zl (Es.BQ n s es) t=(zl es t).map (A2.BQ n s)
 |[],t=>rfl
 |p::l,t=>by
  obtain⟨m,c⟩:=p;simp only[Es.BQ,zp];by_cases h:m=t
  .simp[h]
  .simp only[h,if_false];exact Es.EF n s l t
theorem Ar.BQ{g g':Gh}{D:Nat->Prop}{w:World}{n:Nat}{l:SL V}(hm:∀b,g.m b<=g'.m b)(hb:g'.blk=g.blk)(hr:g'.row=g.row)
 (hd:∀cap,l.len<=cap->A6 g'.m w (.slice (some ⟨g.blk n,0,none⟩) l.len cap) (.slice .any l)) {v:Value} {c:V} (h:Ar g D w v c):V.BO n l.len c->Ar g' D w v (V.BQ n (.slice .any l) c):=by
 have self:∀{v c},Ar g D w v c->Ar g' D w v c:=fun {v c} h=>h.mono hm (fun _ _ _=>rfl) (fun _ h=>h) (fun _ _=>by rw[hb]) (fun _ _=>by rw[hr]);induction h with
 |data h=>
  have h0:=h;intro _;cases h<;>exact self (.data h0)
 |agg vs cs hl h1 _ ih=>
  intro hok;simp only[V.BQ,V.Cq];refine .agg vs _ (by simpa using hl) h1 fun i v c hv hc=> ?_;rw[WY,Wo] at hc;obtain⟨c0,hc0,rfl⟩:=hc;exact ih i v c0 hv hc0 (V.Cb hok i c0 hc0)
 |AD vs cs hl _ ih=>
  intro hok;simp only[V.BQ,V.Cq];refine .AD vs _ (by simpa using hl) fun i v c hv hc=> ?_;rw[WY,Wo] at hc;obtain⟨c0,hc0,rfl⟩:=hc;exact ih i v c0 hv hc0 (V.Cb hok i c0 hc0)
 |nil=>exact fun _=> .nil
 |fullNil l h=>exact fun _=> .fullNil l h
 |nilS l h=>exact fun _=> .nilS l h
 |full a n l h=>exact fun _=>self (.full a n l h)
 |own r hr' v l h hd=>exact fun _=>self (.own r hr' v l h hd)
 |addr b off cs f h1 hc h2=>exact fun _=>self (.addr b off cs f h1 hc h2)
 |ptr n off h=>exact fun _=>self (.ptr n off h)
 |arr m k z cap h hcap hrw=>
  intro hok;simp only[V.BQ];by_cases he:m=n
  .subst he;obtain rfl:k=l.len:=hok rfl;simp only[Y6,cond_true];exact .data (hd cap hcap)
  .rw[Ky he];exact self (.arr m k z cap h hcap hrw)
 |mp m h=>exact fun _=>self (.mp m h)
 |nilp=>exact fun _=> .nilp
 |fn f fi caps fi' caps' hl hl' _ _ ih ih'=>
  intro hok;simp only[V.BQ,V.Cq];refine .fn f fi caps _ _ (by simpa using hl) (by simpa using hl') (fun i v c hv hc=> ?_) (fun i v c hv hc=> ?_)
  .rw[WY,Wo] at hc;obtain⟨c0,hc0,rfl⟩:=hc;exact ih i v c0 hv hc0 (V.Cb hok.1 i c0 hc0)
  .rw[WY,Wo] at hc;obtain⟨c0,hc0,rfl⟩:=hc;exact ih' i v c0 hv hc0 (V.Cb hok.2 i c0 hc0)
 |nilf=>exact fun _=> .nilf
 |raw v=>exact fun _=> .raw v
section
variable {E:Env} {N k:Nat} {a:AF} {σ:Aq}
def V.I9:V->Bool
 | .int _ _=>true
 | .bool _=>true
 | .str _=>true
 | .slice .any _=>true
 |_=>false
theorem Ar.I9{g:Gh}{D:Nat->Prop}{w:World}{v:Value}{c:V}(h:Ar g D w v c)(hc:V.I9 c=true):A6 g.m w v c:=by
 cases h with
 |data h=>exact h
 |_=>simp[V.I9] at hc
theorem UN(c:EC)(x:c.sem):(c.view x).all V.I9=true:=by cases c<;>rfl
theorem Bi.BQ(n len:Nat){c:EC}(l:List c.sem)(hn:zl σ.es n=some (.var (l.flatMap c.view)))(hlen:l.length=len)(hoa:AF.BO n len a)(hoe:Es.BO n len σ.es):
 Bi E N k a σ (AF.BQ n (.s c l) a) ⟨σ.nx,(n,.gone)::Es.BQ n (.s c l) σ.es⟩:=by
 subst hlen;intro hk;refine⟨hk,fun g w act hR hF=> ?_⟩;obtain⟨h1,vs,t,h2,h3,h4,h5,_⟩:=hR.BW n _ hn;rw[HX] at h3
 let g':Gh:={g with m:=fun b=>if b=g.blk n then l.length*c.cells else g.m b}
 have hlt:g.blk n<w.heap.size:=by
  rcases XM (g.blk n) w.heap.size with h|h
  .exact h
  .rw[Za h] at h2;cases h2
 have hm:∀b,g.m b<=g'.m b:=fun b=>by
  show g.m b<=if b=g.blk n then _ else g.m b
  by_cases hb:b=g.blk n
  .subst hb;rw[h1];exact XE _
  .rw[if_neg hb];exact Wj _
 have hm':∀b,b≠g.blk n->g'.m b=g.m b:=fun b hb=>if_neg hb;have hd:∀cap,(SL.t c l:SL V).len<=cap->A6 g'.m w (.slice (some ⟨g.blk n,0,none⟩) (SL.t c l:SL V).len cap) (.slice .any (.t c l)):=fun cap hcap=>by
  refine A6.Ff (m:=g.m) (w:=w) h2 hcap (by show _<=if g.blk n=g.blk n then _ else _;rw[if_pos rfl];exact Wj _) ?_ ?_ hm (fun _ _ _=>rfl)
  .intro i hi;exact⟨c.view (l[i]'hi),by show(l[i]?).map c.view=_;rw[Wl (show i<l.length from hi)];rfl,EC.Bo _ _⟩
  .intro i j cs d hg hcs hi hj;have hi':i<l.length:=hi;have hg':cs=c.view l[i]:=by
    have:(l[i]?).map c.view=some cs:=hg;rw[Wl hi'] at this;exact(W6 this).symm
   subst hg';have hj':j<c.cells:=hj;have h6:(l.flatMap c.view)[i*c.cells+j]? =some d:=by rw[M1 c l i j hj',Wl hi'];exact hcs
   have h7:i*c.cells+j<vs.length:=by have:=Nv hi' hj';omega
   refine⟨vs[i*c.cells+j],Wl h7,?_⟩;refine(h5 _ _ d (Wl h7) h6).I9 ?_;exact Wm.1 (UN c l[i]) d (Xx hcs)
 have hv:∀{v d},Ar g (·<σ.nx) w v d->V.BO n l.length d->Ar g' (·<σ.nx) w v (V.BQ n (.s c l) d):=fun h hok=>Ar.BQ (g':=g') (l:= .t c l) hm rfl rfl hd h hok;have hfind:∀i e,zl ((n,A2.gone)::Es.BQ n (.s c l) σ.es) i=some e->(i=n/\e= .gone)\/(i≠n/\∃e0,zl σ.es i=some e0/\e=A2.BQ n (.s c l) e0):=fun i e he=>by
  rw[zp] at he;by_cases hi:n=i
  .rw[if_pos hi] at he;cases he;exact .inl ⟨hi.symm,rfl⟩
  .rw[if_neg hi,Es.EF,Wo] at he;obtain⟨e0,h6,h7⟩:=he;exact .inr ⟨fun h=>hi h.symm,e0,h6,h7.symm⟩
 have hfoot:∀i e b,zl ((n,A2.gone)::Es.BQ n (.s c l) σ.es) i=some e->e.AB g' i=some b->∃e0,zl σ.es i=some e0/\e0.AB g i=some b/\i≠n:=fun i e b he hb=>by
  rcases hfind i e he with⟨rfl,rfl⟩|⟨hi,e0,h6,rfl⟩
  .cases hb
  .refine ⟨e0,h6,?_,hi⟩;cases e0<;>exact hb
 refine⟨g',⟨?_,?_,?_,?_,?_⟩,⟨hF.size,hF.defers,?_⟩,?_⟩
 .intro i e he;rcases hfind i e he with⟨rfl,_⟩|⟨_,e0,h6,_⟩
  .exact hR.lt _ _ hn
  .exact hR.lt _ _ h6
 .intro i i' e e' b h6 h7 h8 h9;obtain⟨e0,h10,h11,_⟩:=hfoot i e b h6 h8;obtain⟨e1,h12,h13,_⟩:=hfoot i' e' b h7 h9;exact hR.Bb i i' e0 e1 b h10 h12 h11 h13
 .intro i e he;rcases hfind i e he with⟨rfl,rfl⟩|⟨hi,e0,h6,rfl⟩
  .trivial
  .have hent:=hR.BW i e0 h6;have hok:=Es.DQ hoe i e0 hi h6;cases e0 with
   |var cs=>
    obtain⟨q1,us,t',q2,q3,q4,q5,q6⟩:=hent;have hne:g.blk i≠g.blk n:=fun hh=>hi (hR.Bb i n _ _ (g.blk n) h6 hn (by simp[A2.AB,hh]) rfl);refine⟨by show g'.m (g.blk i)=0;rw[hm' _ hne];exact q1,us,t',q2,by simp only[V.Cq,Xt];exact q3,q4,fun j v d hj hd'=> ?_,q6⟩;rw[V.Cq,WY,Wo] at hd';obtain⟨d0,hd0,rfl⟩:=hd';exact hv (q5 j v d0 hj hd0) (V.Cb hok j d0 hd0)
   |map c ks xs=>
    obtain⟨q1,us,t',q2,q3,q4,q4',q5⟩:=hent;have hne:g.blk i≠g.blk n:=fun hh=>hi (hR.Bb i n _ _ (g.blk n) h6 hn (by simp[A2.AB,hh]) rfl);refine⟨by show g'.m (g.blk i)=0;rw[hm' _ hne];exact q1,us,t',q2,q3,q4,q4',fun j v d hj hd'=> ?_⟩;have h8:=hv (q5 j v d hj hd') (Zso n _ c d)
    rwa [Zyw] at h8
   |row=>
    intro ρ hρ;obtain⟨cur,t',q1,q2,q3,q4⟩:=hent ρ hρ;have hne:ρ.b≠g.blk n:=fun hh=>hi (hR.Bb i n _ _ (g.blk n) h6 hn (by show(g.row i).map El.b=_;rw[show g.row i=some ρ from hρ];simp[hh]) rfl);exact⟨cur,t',q1,q2,by rw[hm' _ hne];exact q3,q4⟩
   |gone=>trivial
 .intro b hb;rw[hm' b (by omega)];exact hR.fresh b hb
 .intro p hp;obtain⟨q1,q2⟩:=hR.Et p hp;refine⟨W8 q1 (hm _),fun j d hj=> ?_⟩;obtain⟨v,q3,q4⟩:=q2 j d hj;exact⟨v,q3,q4.mono hm (fun _ _ _=>rfl)⟩
 .intro t' d ht';rw[AF.Fz,Wo] at ht';obtain⟨d0,hd0,rfl⟩:=ht';obtain⟨v,q1,q2⟩:=hF.vals t' d0 hd0;exact⟨v,q1,hv q2 (AF.Eb hoa t' d0 hd0)⟩
 .refine ⟨rfl,rfl,rfl,Wj _,fun _ _ _=>rfl,hm,fun _ _=>rfl,fun _ _=>rfl,fun b hb hnf=>⟨rfl,hm' b fun hh=>hnf ⟨n,_,hn,by simp[A2.AB,hh]⟩⟩,fun b hb=> .inl ?_⟩;obtain⟨i,e,q1,q2⟩:=hb;obtain⟨e0,q3,q4,_⟩:=hfoot i e b q1 q2;exact⟨i,e0,q3,q4⟩
theorem AW.BQ{Q:Exit->AF->Aq->Prop}{code:Code}(n len:Nat){c:EC}(l:List c.sem)(hn:zl σ.es n=some (.var (l.flatMap c.view)))(hlen:l.length=len)(hoa:AF.BO n len a)(hoe:Es.BO n len σ.es)
 (h:AW E N k code (AF.BQ n (.s c l) a) ⟨σ.nx,(n,.gone)::Es.BQ n (.s c l) σ.es⟩ Q):AW E N k code a σ Q:=AW.weak (Bi.BQ n len l hn hlen hoa hoe) h
variable {Q:Exit->AF->Aq->Prop} {ops:List Oper} {dr:Bool} {rest:List Oper} {acc:List Rec}
variable {d:Option Tmp} {ty:TypeId} {ps:String} {af:Array Edge} {gd:Option (Nat×Bool)}
namespace L
theorem KO{t te:TypeId}{s x:Operand}{z:Nat}{zr:List V}{ie:TI}{e:EC}{co:Option EC}{sz bytes:Nat}{sp':Sp}{l0:SL V}{l:List e.sem}(hw:yb ops a gd=some true)(hs:ev E t a s=some (.slice .nil l0))(hx:ev E t a x=some (.slice sp' (.t e l)))(ht:E.ti t=some ⟨z,zr,.slc co sz bytes⟩)
 (hte:E.P.underlying t=some (.slice te)) (hti:E.ti te=some ie) (hsz:Nat.beq e.cells sz=true) (hd:z9 N d=true) (hby:Nat.ble bytes 128=true) (hpos:0<l.length) (hb:l.length<=1099511627776)
 (h2:AX E N k dr ops rest (a.put d (.arr σ.nx l.length sz)) (σ.Ay 1 [(σ.nx,.var (l.flatMap e.view))]) (⟨[],.arr σ.nx l.length sz,1,[(σ.nx,.var (l.flatMap e.view))]⟩::acc) Q):
 AX E N k dr ops (⟨d,.call ⟨.builtin .append,#[s,x],#[t,t]⟩,ty,ps,af,gd⟩::rest) a σ acc Q:=
 AX.run 1 hw (OS.Ho rfl ht rfl hte hti (fr (by simp[Op.operands,Call.operands]) hs) (fr (by simp[Op.operands,Call.operands]) hx) hpos hsz
  (by
   have h3:bytes<=128:=Wz hby;have h4:l.length*bytes<=1099511627776*128:=XU hb h3;omega) (by omega)) trivial hd h2
theorem Ev{t:TypeId}{x y:Operand}{z:Nat}{zr:List V}{co:Option EC}{sz bytes p len:Nat}{n:Int}(kk:Nat){kd:IntKind}(hw:yb ops a gd=some true)(hx:ev E t a x=some (.arr p len sz))(ht:E.ti t=some ⟨z,zr,.slc co sz bytes⟩)
 (hy:ev E 0 a y=some (.int kd n)) (hn:n=kk) (hlt:kk<len) (hd:z9 N d=true) (h2:AX E N k dr ops rest (a.put d (.ptr p (kk*sz))) σ (⟨[],.ptr p (kk*sz),0,[]⟩::acc) Q):AX E N k dr ops (⟨d,.indexAddr t x y,ty,ps,af,gd⟩::rest) a σ acc Q:=
 AX.run 0 hw (OS.IE rfl ht rfl (fr (by simp[Op.operands,Call.operands]) hx) (fr (by simp[Op.operands,Call.operands]) hy) hn hlt) trivial hd h2
theorem sta{t:TypeId}{x y:Operand}{i:TI}{n off:Nat}(kk:Nat){c:EC}{l:List c.sem}{u:c.sem}{v:V}(hw:yb ops a gd=some true)(hx:ev E 0 a x=some (.ptr n off))(ht:E.ti t=some i)(hy:ev E t a y=some v)
 (hn:zl σ.es n=some (.var (l.flatMap c.view))) (hc:cellsOf v=some (c.view u)) (hs:Nat.beq c.cells i.size=true) (hoff:off=kk*c.cells) (hlt:kk<l.length) (hd:z9 N d=true)
 (h2:AX E N k dr ops rest (a.put d (.AD [])) (σ.Ay 0 [(n,.var ((l.set kk u).flatMap c.view))]) (⟨[(n,.var (l.flatMap c.view))],.AD [],0,[(n,.var ((l.set kk u).flatMap c.view))]⟩::acc) Q):AX E N k dr ops (⟨d,.store t x y,ty,ps,af,gd⟩::rest) a σ acc Q:=by
 have e:(l.set kk u).flatMap c.view=(l.flatMap c.view).take off++c.view u++(l.flatMap c.view).drop (off+(c.view u).length):=by
  rw[EC.Bo,hoff];exact(Sn c l kk u hlt).symm
 rw[e] at h2;refine L.st hw hx ht hy hn hc (by rw[EC.Bo];exact WK hs) (YC ?_) hd h2;rw[EC.Bo,hoff,HX,<-Nat.succ_mul];exact Xw _ hlt
end L
end
def EY(k:Int):List Int->Option Nat
 |[]=>none
 |x::l=>if x=k then some 0 else(EY k l).map (·+1)
theorem uz{k:Int}:∀{l:List Int} {i:Nat},EY k l=some i->l[i]? =some k/\i<l.length
 |[],i,h=>by cases h
 |x::l,i,h=>by
  simp only[EY] at h;by_cases hx:x=k
  .rw[if_pos hx] at h;cases h;simp[hx]
  .rw[if_neg hx,Wo] at h;obtain⟨j,h1,rfl⟩:=h;have:=uz h1;simpa using this
theorem Ng(k:Int):∀(es:List MapEntry) (ks:List Int) (i0:Nat),es.length=ks.length->(∀(i:Nat) e x,es[i]? =some e->ks[i]? =some x->e.key= .int .i64 x)->
 Instr.findNow (.int .i64) (.int .i64 k) es i0=some ((EY k ks).bind fun i=>(es[i]?).map fun e=>(i0+i,e.val))
 |[],[],i0,_,_=>rfl
 |[],x::ks,i0,h,_=>by simp at h
 |e::es,[],i0,h,_=>by simp at h
 |e::es,x::ks,i0,h,hk=>by
  have h0:=hk 0 e x rfl rfl;have ih:=Ng k es ks (i0+1) (by simpa using h) fun i e x h1 h2=>hk (i+1) e x (by simpa using h1) (by simpa using h2);simp only[Instr.findNow,h0,Instr.sameNow,if_true,EY];by_cases hx:x=k
  .subst hx;simp
  .have hkx:(k==x)=false:=by simp;exact fun h=>hx h.symm
   simp only[hkx,if_neg hx];rw[ih];cases EY k ks with
   |none=>rfl
   |some i=>simp[Ym,Nat.add_comm 1]
theorem R.Ie(c:EC){G:Dm}{g:Gh}{D:Nat->Prop}{es:Es}{w:World}(hR:R G g D es w){n:Nat}(hn:¬D n):
 R G (g.name n w.heap.size) (fun i=>D i\/i=n) ((n,.map c [] [])::es) (w.alloc (.map #[] 0))/\
 Ext D g (Az g es) w (g.name n w.heap.size) (Az (g.name n w.heap.size) ((n,.map c [] [])::es)) (w.alloc (.map #[] 0)):=by
 have hb:∀i,D i->(g.name n w.heap.size).blk i=g.blk i:=fun i hi=>by
  have:i≠n:=fun e=>hn (e▸hi);simp[Gh.name,this]
 have hcell:∀b o,o<g.m b->(w.alloc (.map #[] 0)).cell? ⟨b,o,none⟩=w.cell? ⟨b,o,none⟩:=fun b o ho=>by
  refine Oe w _ b o ?_;rcases XM b w.heap.size with h|h
  .exact h
  .rw[hR.fresh b h] at ho;omega
 have hm0:g.m w.heap.size=0:=hR.fresh _ (Wj _);have hold:∀i e,i≠n->zl ((n,A2.map c [] [])::es) i=some e->zl es i=some e:=fun i e hi h=>by
  rw[zp,if_neg (fun e=>hi e.symm)] at h;exact h
 have hfold:∀i e b,zl es i=some e->e.AB (g.name n w.heap.size) i=some b->e.AB g i=some b/\b<w.heap.size:=fun i e b h1 h2=>by
  rw[A2.Ca (hR.lt i e h1) hb (fun _ _=>rfl)] at h2;exact⟨h2,hR.BP h1 h2⟩
 have hnew:∀e,zl ((n,A2.map c [] [])::es) n=some e->e= .map c [] []:=fun e h=>by
  rw[zp,if_pos rfl] at h;exact(W6 h).symm
 refine⟨hR.step (fun _=>Wj _) hcell (fun i hi=> .inl hi) hb (fun _ _=>rfl) ?_ ?_ ?_,?_⟩
 .intro i e he;by_cases hi:i=n
  .subst hi;rw[hnew e he];refine .inr ⟨.inr rfl,by simp[Gh.name,hm0],[],0,by rw[show(g.name i w.heap.size).blk i=w.heap.size from by simp[Gh.name]];exact heap_alloc_new w _,⟨rfl,by simp[Dy]⟩,rfl,fun j v q hv hc=>by simp at hv,fun j v q hv hc=>by simp at hv⟩
  .have h2:=hold i e hi he;exact .inl ⟨h2,fun b hb'=>⟨heap_alloc_old w _ b (hR.BP h2 hb'),rfl⟩⟩
 .intro i j e e' b h1 h2 h3 h4;by_cases hi:i=n
  .by_cases hj:j=n
   .rw[hi,hj]
   .subst hi;rw[hnew e h1] at h3;simp[A2.AB,Gh.name] at h3;have:=hfold j e' b (hold j e' hj h2) h4;omega
  .by_cases hj:j=n
   .subst hj;rw[hnew e' h2] at h4;simp[A2.AB,Gh.name] at h4;have:=hfold i e b (hold i e hi h1) h3;omega
   .exact hR.Bb i j e e' b (hold i e hi h1) (hold j e' hj h2) (hfold i e b (hold i e hi h1) h3).1 (hfold j e' b (hold j e' hj h2) h4).1
 .intro b hb';simp at hb';exact hR.fresh b (by omega)
 .refine ⟨rfl,rfl,rfl,by simp,hcell,fun _=>Wj _,hb,fun _ _=>rfl,fun b hb' _=>⟨heap_alloc_old w _ b hb',rfl⟩,?_⟩;rintro b ⟨i,e,h2,h3⟩;by_cases hi:i=n
  .subst hi;rw[hnew e h2] at h3;simp[A2.AB,Gh.name] at h3;exact .inr (by omega)
  .have:=hfold i e b (hold i e hi h2) h3;exact .inl ⟨i,e,hold i e hi h2,this.1⟩
def Gk(w:World)(b:Nat)(o:Obj):World:={w with heap:=w.heap.setIfInBounds b o}
theorem R.Gj{G:Dm}{g:Gh}{D:Nat->Prop}{es:Es}{w:World}(hR:R G g D es w){n:Nat}{c:EC}{ks ks':List Int}{cs cs':List c.sem}(hn:zl es n=some (.map c ks cs)){ms ms':List MapEntry}{clock clock':Nat}
 (hh:w.heap[g.blk n]? =some (.map ms.toArray clock)) (hl:ms'.length=cs'.length/\Dy ms' clock') (hl2:ks'.length=cs'.length) (h1:∀(i:Nat) e k,ms'[i]? =some e->ks'[i]? =some k->e.key= .int .i64 k)
 (h:∀(i:Nat) e x,ms'[i]? =some e->cs'[i]? =some x->Ar g D w e.val (FC c x)):
 R G g D ((n,.map c ks' cs')::es) (Gk w (g.blk n) (.map ms'.toArray clock'))/\
 Ext D g (Az g es) w g (Az g ((n,.map c ks' cs')::es)) (Gk w (g.blk n) (.map ms'.toArray clock')):=by
 have hm0:g.m (g.blk n)=0:=(hR.BW n _ hn).1;have hlt:g.blk n<w.heap.size:=(W4.1 hh).1;have hne:∀b o,o<g.m b->b≠g.blk n:=fun b o ho e=>by rw[e,hm0] at ho;omega
 have hother:∀b,b≠g.blk n->(Gk w (g.blk n) (.map ms'.toArray clock')).heap[b]? =w.heap[b]? :=fun b hb=>by simp[Gk,Ne.symm hb]
 have hself:(Gk w (g.blk n) (.map ms'.toArray clock')).heap[g.blk n]? =some (.map ms'.toArray clock'):=by simp[Gk,hlt]
 have hcell:∀b o,o<g.m b->(Gk w (g.blk n) (.map ms'.toArray clock')).cell? ⟨b,o,none⟩=w.cell? ⟨b,o,none⟩:=fun b o ho=>
  World.cell?_of_block (a:=⟨b,o,none⟩) (hother b (hne b o ho))
 have hold:∀i e,i≠n->zl ((n,A2.map c ks' cs')::es) i=some e->zl es i=some e:=fun i e hi h=>by
  rw[zp,if_neg (fun e=>hi e.symm)] at h;exact h
 have hnew:∀e,zl ((n,A2.map c ks' cs')::es) n=some e->e= .map c ks' cs':=fun e h=>by
  rw[zp,if_pos rfl] at h;exact(W6 h).symm
 have hfoot:∀i e b,zl ((n,A2.map c ks' cs')::es) i=some e->e.AB g i=some b->∃e',zl es i=some e'/\e'.AB g i=some b:=fun i e b h2 h3=>by
  by_cases hi:i=n
  .subst hi;rw[hnew e h2] at h3;exact⟨_,hn,h3⟩
  .exact ⟨e,hold i e hi h2,h3⟩
 refine⟨hR.step (fun _=>Wj _) hcell (fun i hi=>hi) (fun _ _=>rfl) (fun _ _=>rfl) ?_ ?_ ?_,?_⟩
 .intro i e he;by_cases hi:i=n
  .subst hi;rw[hnew e he];exact .inr ⟨hR.lt _ _ hn,hm0,ms',clock',hself,hl,hl2,h1,fun j v c hv hc=>
    (h j v c hv hc).mono (fun _=>Wj _) hcell (fun i hi=>hi) (fun _ _=>rfl) (fun _ _=>rfl)⟩
  .refine .inl ⟨hold i e hi he,fun b hb=>⟨hother b (fun e2=>hi ?_),rfl⟩⟩;exact hR.Bb i n e _ b (hold i e hi he) hn hb (by simp[A2.AB,e2])
 .intro i j e e' b h2 h3 h4 h5;obtain⟨d,h6,h7⟩:=hfoot i e b h2 h4;obtain⟨d',h8,h9⟩:=hfoot j e' b h3 h5;exact hR.Bb i j d d' b h6 h8 h7 h9
 .intro b hb;simp[Gk] at hb;exact hR.fresh b hb
 .refine ⟨rfl,rfl,rfl,by simp[Gk],hcell,fun _=>Wj _,fun _ _=>rfl,fun _ _=>rfl,fun b hb hf=>⟨hother b (fun e=>hf ⟨n,_,hn,by simp[A2.AB,e]⟩),rfl⟩,?_⟩;rintro b ⟨i,e,h2,h3⟩;obtain⟨d,h6,h7⟩:=hfoot i e b h2 h3;exact .inl ⟨i,d,h6,h7⟩
section
variable {E:Env} {N k:Nat} {a:AF} {σ:Aq} {Q:Exit->AF->Aq->Prop}
theorem AW.label{l:Nat}(h:Q .normal a σ):AW E N k (.label l) a σ Q:=by
 constructor;intro hk g w act hR hF;exact wp_label ⟨g,a,σ,h,hk,hR,hF,.refl ..⟩
theorem AW.goto{l:Nat}(h:Q (.goto l) a σ):AW E N k (.goto l) a σ Q:=by
 constructor;intro hk g w act hR hF;exact wp_goto ⟨g,a,σ,h,hk,hR,hF,.refl ..⟩
end
def ur(k:Int)(ks:List Int):List Int:=match EY k ks with|some _=>ks|none=>ks++[k]
def FK{α:Type}(k:Int)(ks:List Int)(cs:List α)(c:α):List α:=match EY k ks with|some i=>cs.set i c|none=>cs++[c]
def Rl(P:Program)(t:TypeId):Bool:=match P.info? t with|some inf=>(match inf.zero with|some (.agg _)=>true|_=>false)|none=>false
theorem Dy.push{es:List MapEntry}{clock:Nat}(h:Dy es clock)(key val:Value):Dy (es++[⟨key,val,clock⟩]) (clock+1):=by
 refine⟨fun x hx=> ?_,?_⟩
 .rcases WH.1 hx with h1|h1
  .have:=h.1 x h1;omega
  .simp at h1;subst h1;simp
 .rw[Xv,YV];refine⟨h.2,by simp,?_⟩;intro a ha b hb e;obtain⟨x,hx,rfl⟩:=WA.1 ha;simp at hb;have:=h.1 x hx;omega
theorem Dy.modify{es:List MapEntry}{clock:Nat}(h:Dy es clock)(i:Nat)(key val:Value):Dy (es.modify i fun e=>{e with key:=key,val:=val}) clock:=by
 have hm:(es.modify i fun e=>{e with key:=key,val:=val}).map (·.born)=es.map (·.born):=by
  apply List.ext_getElem?;intro j;rw[WY,WY,YF];cases es[j]? with
  |none=>rfl
  |some e=>simp only[YW,Xe];split<;>rfl
 refine⟨fun x hx=> ?_,by rw[hm];exact h.2⟩;have h1:x.born∈(es.modify i fun e=>{e with key:=key,val:=val}).map (·.born):=List.mem_map_of_mem hx;rw[hm] at h1;obtain⟨y,hy,e⟩:=WA.1 h1;have:=h.1 y hy;omega
section
variable {E:Env} {N:Nat} {o:Oper} {a:AF}
theorem Yis(D:Nat->Prop)(g:Gh)(n:Nat)(w:World){b:Nat}:Ar (g.name n b) (fun i=>D i\/i∈[n]) w (.map (some b)) (.mp n):=by
 have h:=Ar.mp (g:=g.name n b) (D:=fun i=>D i\/i∈[n]) (w:=w) n (Or.inr (WN.2 rfl));have hb:(g.name n b).blk n=b:=by simp[Gh.name]
 rw[hb] at h;exact h
theorem OS.makeMap(q:EC){t:TypeId}{n:Nat}(ho:o.op= .makeMap t none):OS E N o a [] (.mp n) [n] [(n,.map q [] [])]:=
 .of_run fun g D es w act hR _ hn hF=>by
  obtain⟨hR',hx⟩:=hR.Ie q (hn n (by simp));refine⟨g.name n w.heap.size,.map (some w.heap.size),w.alloc (.map #[] 0),?_,hR'.more (fun i hi=>by simpa using hi),Yis D g n _,hx⟩;simp only[execOp,ho,Yn,Instr.makeMap,Sem.run_bind,Sem.run_pure,run_newObj,Result.andThen_ok,World.alloc_eq]
theorem OS.lookup{t kt et:TypeId}{x y:Operand}{n:Nat}{k:Int}{ks:List Int}{q:EC}{cs:List q.sem}{i:Nat}{c:q.sem}(ho:o.op= .lookup t x y true)(hm:E.P.underlying t=some (.map kt et))(hk:E.P.underlying kt=some (.int .i64))
 (hx:ev E 0 a x=some (.mp n)) (hy:ev E 0 a y=some (.i k)) (hi:EY k ks=some i) (hc:cs[i]? =some c):OS E N o a [(n,.map q ks cs)] (.AD [FC q c,.bool true]) [] []:=
 .pure fun g D es w act hR hp hF=>by
  have h1:=z8 hx hR hF;have h2:=(z8 hy hR hF).Bl;have hn:=hp (n,.map q ks cs) (by simp);obtain⟨_,ms,clock,h4,⟨h5,hbn⟩,h6,h7,h8⟩:=hR.BW n _ hn;generalize hv:act.eval x=v at h1;cases h1 with
  |data h=>cases h
  |mp _ hD=>
   have h9:=Ng k ms ks 0 (h5.trans h6.symm) h7;have hil:i<ms.length:=by rw[h5];exact(Ww.1 hc).1
   rw[hi,X3,Wl hil,Xe] at h9;refine⟨.tuple #[(ms[i]'hil).val,.bool true],?_,?_⟩
   .simp[execOp,ho,Instr.lookup,hv,h2,y0 hm,MapKept.run_getObj_map h4,MapKept.run_checkKey hk (k:= .int .i64 k) rfl,MapKept.run_findKey hk h9,Result.andThen]
   .refine Ar.AD [(ms[i]'hil).val,.bool true] _ rfl fun j v d hv' hd=> ?_;rcases j with _|_|j
    .simp at hv' hd;subst hv' hd;exact h8 i _ c (Wl hil) hc
    .simp at hv' hd;subst hv' hd;exact .data (.bool _)
    .simp at hv'
theorem OS.mapUpdate{t kt et:TypeId}{x y z:Operand}{n:Nat}{k:Int}{ks:List Int}{q:EC}{cs:List q.sem}{c:q.sem}{v:V}(ho:o.op= .mapUpdate t x y z)(hm:E.P.underlying t=some (.map kt et))(hk:E.P.underlying kt=some (.int .i64))
 (hx:ev E 0 a x=some (.mp n)) (hy:ev E 0 a y=some (.i k)) (hz:ev E et a z=some v) (hle:Ao v (FC q c)):OS E N o a [(n,.map q ks cs)] (.AD []) [] [(n,.map q (ur k ks) (FK k ks cs c))]:=
 .Fv fun g D es w act hR hp hF=>by
  have h1:=z8 hx hR hF;have h2:=(z8 hy hR hF).Bl;have h3:Ar g D w (act.eval z) (FC q c):=hle _ _ _ _ (z8 hz hR hF);have hn:=hp (n,.map q ks cs) (by simp);obtain⟨_,ms,clock,h4,⟨h5,hbn⟩,h6,h7,h8⟩:=hR.BW n _ hn;generalize hv:act.eval x=v at h1;cases h1 with
  |data h=>cases h
  |mp _ hD=>
   have h9:=Ng k ms ks 0 (h5.trans h6.symm) h7;cases hi:EY k ks with
   |none=>
    rw[hi,Option.bind_none] at h9;have key:=hR.Gj (ks':=ur k ks) (cs':=FK k ks cs c) (ms:=ms) (ms':=ms++[⟨.int .i64 k,act.eval z,clock⟩]) (clock':=clock+1) hn h4
     ⟨by simp[FK,hi,h5],hbn.push _ _⟩ (by simp[FK,ur,hi,h6])
     (fun j e x he hx=>by
      simp only[ur,hi] at hx;rcases XM j ms.length with hj|hj
      .rw[WC hj] at he;rw[WC (by omega)] at hx;exact h7 j e x he hx
      .rw[WG hj] at he;rw[WG (by omega)] at hx;have hj':j-ms.length=0:=by
        have:=(Ww.1 he).1;simp at this;omega
       have hj2:j-ks.length=0:=by omega
       rw[hj'] at he;rw[hj2] at hx;simp at he hx;subst he hx;rfl)
     (fun j e d he hd=>by
      simp only[FK,hi] at hd;rcases XM j ms.length with hj|hj
      .rw[WC hj] at he;rw[WC (by omega)] at hd;exact h8 j e d he hd
      .rw[WG hj] at he;rw[WG (by omega)] at hd;have hj':j-ms.length=0:=by
        have:=(Ww.1 he).1;simp at this;omega
       have hj2:j-cs.length=0:=by omega
       rw[hj'] at he;rw[hj2] at hd;simp at he hd;subst he hd;exact h3)
    refine⟨_,?_,key.1,key.2⟩;simp[execOp,ho,Instr.mapUpdate,hv,h2,y0 hm,MapKept.run_getObj_map h4,MapKept.run_checkKey hk (k:= .int .i64 k) rfl,MapKept.run_findKey hk h9,Result.andThen,MapKept.run_setObj_map _ h4,Gk]
   |some i=>
    have hil:i<ms.length:=by rw[h5,<-h6];exact(uz hi).2
    rw[hi,X3,Wl hil,Xe] at h9;have hkey:(ms[i]'hil).key= .int .i64 k:=h7 i _ k (Wl hil) (uz hi).1;have key:=hR.Gj (ks':=ur k ks) (cs':=FK k ks cs c) (ms:=ms) (ms':=ms.modify i fun e=>{e with key:= .int .i64 k,val:=act.eval z}) (clock':=clock) hn h4
     ⟨by simp[FK,hi,h5],hbn.modify _ _ _⟩ (by simp[FK,ur,hi,h6])
     (fun j e x he hx=>by
      simp only[ur,hi] at hx;rw[YF,YW,Wo] at he;obtain⟨e0,he0,rfl⟩:=he;have h10:=h7 j e0 x he0 hx;by_cases hij:i=j
      .subst hij;rw[(uz hi).1] at hx;cases hx;simp
      .simp[hij,h10])
     (fun j e d he hd=>by
      simp only[FK,hi] at hd;rw[YF,YW,Wo] at he;obtain⟨e0,he0,rfl⟩:=he;by_cases hij:i=j
      .subst hij;rw[List.getElem?_set_self (by omega)] at hd;cases hd;simp;exact h3
      .rw[List.getElem?_set_ne hij] at hd;simp[hij];exact h8 j e0 d he0 hd)
    refine⟨_,?_,key.1,key.2⟩;simp[execOp,ho,Instr.mapUpdate,hv,h2,y0 hm,MapKept.run_getObj_map h4,MapKept.run_checkKey hk (k:= .int .i64 k) rfl,MapKept.run_findKey hk h9,Result.andThen,MapKept.run_setObj_map _ h4,Gk,Wl hil,hkey,MapKept.run_keyThatStays (d:= .int .i64) (k:= .int .i64 k) rfl]
end
section
variable {E:Env} {N k:Nat} {a:AF} {σ:Aq}
variable {Q:Exit->AF->Aq->Prop} {ops:List Oper} {dr:Bool} {rest:List Oper} {acc:List Rec}
variable {d:Option Tmp} {ty:TypeId} {ps:String} {af:Array Edge} {gd:Option (Nat×Bool)}
namespace L
theorem Tz{t kt et:TypeId}{i:TI}(hw:yb ops a gd=some true)(hm:E.P.underlying t=some (.map kt et))(ht:E.ti et=some i)(hs:i.desc= .bool)(hd:z9 N d=true)
 (h2:AX E N k dr ops rest (a.put d (.mp σ.nx)) (σ.Ay 1 [(σ.nx,.map .bl [] [])]) (⟨[],.mp σ.nx,1,[(σ.nx,.map .bl [] [])]⟩::acc) Q):AX E N k dr ops (⟨d,.makeMap t none,ty,ps,af,gd⟩::rest) a σ acc Q:=
 AX.run 1 hw (OS.makeMap .bl rfl) trivial hd h2
theorem SO{t kt et:TypeId}{x y z:Operand}{n:Nat}{q:Int}{ks:List Int}{cs:List Bool}{b:Bool}(hw:yb ops a gd=some true)(hx:ev E 0 a x=some (.mp n))(hy:ev E 0 a y=some (.i q))(hm:E.P.underlying t=some (.map kt et))(hk:E.P.underlying kt=some (.int .i64))
 (hz:ev E et a z=some (.bool b)) (hn:zl σ.es n=some (.map .bl ks cs)) (hd:z9 N d=true)
 (h2:AX E N k dr ops rest (a.put d (.AD [])) (σ.Ay 0 [(n,.map .bl (ur q ks) (FK q ks cs b))]) (⟨[(n,.map .bl ks cs)],.AD [],0,[(n,.map .bl (ur q ks) (FK q ks cs b))]⟩::acc) Q):AX E N k dr ops (⟨d,.mapUpdate t x y z,ty,ps,af,gd⟩::rest) a σ acc Q:=
 AX.run 0 hw (OS.mapUpdate (q:= .bl) (c:=b) (v:= .bool b) rfl hm hk (fr (by simp[Op.operands]) hx) (fr (by simp[Op.operands]) hy) (fr (by simp[Op.operands]) hz) (Ao.refl _)) ⟨hn,trivial⟩ hd h2
end L
end
section
variable {E:Env} {N k:Nat} {a:AF} {σ:Aq} {Q:Exit->AF->Aq->Prop}
def Us(E:Env)(N k:Nat)(len n:Nat)(P:Nat->Prop)(J:Nat->AF×Aq)(Q:Exit->AF->Aq->Prop):Exit->AF->Aq->Prop
 | .normal,a,σ=>n<len/\P (n+1)/\Bi E N k a σ (J (n+1)).1 (J (n+1)).2
 |e,a,σ=>Q e a σ
theorem AW.upto{c:Code}(len:Nat)(P:Nat->Prop)(J:Nat->AF×Aq)(hP:P 0)(h0:Bi E N k a σ (J 0).1 (J 0).2)
 (h:∀n,n<=len->P n->AW E N k c (J n).1 (J n).2 (Us E N k len n P J Q)):AW E N k (.loop c) a σ Q:=by
 refine .loop (ι:={n:Nat // n<=len/\P n}) (fun n=>J n.1) (fun n=>len-n.1) ⟨0,XE _,hP⟩ h0 fun⟨n,hn,hPn⟩=>(h n hn hPn).mono ?_;rintro e a1 σ1 hq;cases e with
 |normal=>
  obtain⟨h1,h2,h3⟩:=hq;exact⟨⟨n+1,h1,h2⟩,by show len-(n+1)<len-n;omega,h3⟩
 |exit id=>exact hq
 |goto l=>exact hq
 |ret=>exact hq
 |panic ch=>exact hq
 |outgrown=>exact hq
end
namespace K
variable {E:Env} {N k:Nat} {a:AF} {σ:Aq} {Q:Exit->AF->Aq->Prop}
theorem uE{len n:Nat}{P:Nat->Prop}{J:Nat->AF×Aq}{id:Nat}(h:Q (.exit id) a σ):Us E N k len n P J Q (.exit id) a σ:=h
end K
theorem S4{ρ:List (Option Nat)}:∀{a a' b b':List V},xz ρ a=some a'->xz ρ b=some b'->xz ρ (a++b)=some (a'++b')
 |[],_,b,b',h,h'=>by simp[xz] at h;subst h;exact h'
 |c::a,_,b,b',h,h'=>by
  simp only[xz,Wx,Wo] at h;obtain⟨c',h1,a',h2,rfl⟩:=h;simp only[Xu,xz,h1,S4 h2 h',X3,Xe]
theorem Zs0(ρ:List (Option Nat))(c:EC)(x:c.sem):xz ρ (c.view x)=some (c.view x):=by cases c<;>rfl
theorem xu(ρ:List (Option Nat))(c:EC)(l:List c.sem):xz ρ (l.flatMap c.view)=some (l.flatMap c.view):=by
 induction l with
 |nil=>rfl
 |cons x l ih=>rw[WO];exact S4 (Zs0 ρ c x) ih
theorem R.Lt{G:Dm}{g:Gh}{D:Nat->Prop}{es:Es}{w:World}(hR:R G g D es w){r n:Nat}(hn:¬D n){cs:List V}(hr:zl es r=some (.var cs)):
 R G (g.AN n (g.blk r) (g.row r)) (fun i=>D i\/i=n) ((n,.var cs)::(r,.gone)::es) w/\
 Ext D g (Az g es) w (g.AN n (g.blk r) (g.row r)) (Az (g.AN n (g.blk r) (g.row r)) ((n,.var cs)::(r,.gone)::es)) w:=by
 have hDr:=hR.lt r _ hr;have hne:∀i,D i->i≠n:=fun i hi e=>hn (e▸hi);have hb:∀i,D i->(g.AN n (g.blk r) (g.row r)).blk i=g.blk i:=fun i hi=>by simp[Gh.AN,hne i hi]
 have hrw:∀i,D i->(g.AN n (g.blk r) (g.row r)).row i=g.row i:=fun i hi=>by simp[Gh.AN,hne i hi]
 have hbn:(g.AN n (g.blk r) (g.row r)).blk n=g.blk r:=by simp[Gh.AN]
 have hrn:(g.AN n (g.blk r) (g.row r)).row n=g.row r:=by simp[Gh.AN]
 have hfind:∀i e,zl ((n,A2.var cs)::(r,.gone)::es) i=some e->(i=n/\e= .var cs)\/(i=r/\e= .gone)\/(i≠n/\i≠r/\zl es i=some e):=fun i e h=>by
  rw[zp] at h;by_cases h1:n=i
  .rw[if_pos h1] at h;cases h;exact .inl ⟨h1.symm,rfl⟩
  .rw[if_neg h1,zp] at h;by_cases h2:r=i
   .rw[if_pos h2] at h;cases h;exact .inr (.inl ⟨h2.symm,rfl⟩)
   .rw[if_neg h2] at h;exact .inr (.inr ⟨fun e=>h1 e.symm,fun e=>h2 e.symm,h⟩)
 have hold:∀i e b,zl es i=some e->e.AB (g.AN n (g.blk r) (g.row r)) i=some b->e.AB g i=some b:=fun i e b h1 h2=>by
  rw[A2.Ca (hR.lt i e h1) hb hrw] at h2;exact h2
 have hfoot:∀i e b,zl ((n,A2.var cs)::(r,.gone)::es) i=some e->e.AB (g.AN n (g.blk r) (g.row r)) i=some b->(i=n/\b=g.blk r)\/(i≠n/\i≠r/\zl es i=some e/\e.AB g i=some b):=fun i e b h1 h2=>by
  rcases hfind i e h1 with⟨rfl,rfl⟩|⟨rfl,rfl⟩|⟨h3,h4,h5⟩
  .refine .inl ⟨rfl,?_⟩;simp only[A2.AB,Wq] at h2;rw[hbn] at h2;exact h2.symm
  .cases h2
  .exact .inr ⟨h3,h4,h5,hold i e b h5 h2⟩
 refine⟨hR.step (fun _=>Wj _) (fun _ _ _=>rfl) (fun _ h=> .inl h) hb hrw ?_ ?_ hR.fresh,?_⟩
 .intro i e he;rcases hfind i e he with⟨rfl,rfl⟩|⟨rfl,rfl⟩|⟨_,_,h5⟩
  .refine .inr ⟨.inr rfl,?_⟩;obtain⟨h1,vs,t,h2,h3,h4,h5,h6⟩:=hR.BW r _ hr;exact⟨by rw[hbn];exact h1,vs,t,by rw[hbn];exact h2,h3,h4,fun j v c hv hc=>(h5 j v c hv hc).mono (fun _=>Wj _) (fun _ _ _=>rfl) (fun _ h=> .inl h) hb hrw,by rw[hrn];exact h6⟩
  .exact .inr ⟨.inl hDr,trivial⟩
  .exact .inl ⟨h5,fun _ _=>⟨rfl,rfl⟩⟩
 .intro i j e e' b h1 h2 h3 h4;rcases hfoot i e b h1 h3 with⟨rfl,h5⟩|⟨h5,h6,h7,h8⟩
  .rcases hfoot j e' b h2 h4 with⟨rfl,_⟩|⟨h9,h10,h11,h12⟩
   .rfl
   .exact absurd (hR.Bb j r e' _ b h11 hr h12 (by simp[A2.AB,h5])) h10
  .rcases hfoot j e' b h2 h4 with⟨rfl,h13⟩|⟨h9,h10,h11,h12⟩
   .exact absurd (hR.Bb i r e _ b h7 hr h8 (by simp[A2.AB,h13])) h6
   .exact hR.Bb i j e e' b h7 h11 h8 h12
 .refine ⟨rfl,rfl,rfl,Wj _,fun _ _ _=>rfl,fun _=>Wj _,hb,hrw,fun _ _ _=>⟨rfl,rfl⟩,?_⟩;rintro b ⟨i,e,h1,h2⟩;rcases hfoot i e b h1 h2 with⟨_,h5⟩|⟨_,_,h7,h8⟩
  .exact .inl ⟨r,_,hr,by simp[A2.AB,h5]⟩
  .exact .inl ⟨i,e,h7,h8⟩
section
variable {E:Env} {N k:Nat} {o:Oper} {a:AF}
theorem Ui(D:Nat->Prop)(g:Gh)(n b:Nat)(w:World){len cap sz:Nat}(h:len<=cap):Ar (g.AN n b (some ⟨b,0,cap,sz⟩)) (fun i=>D i\/i∈[n]) w (.slice (some ⟨b,0,none⟩) len cap) (.arr n len sz):=Ov D g n w h
theorem OS.Hp{t te:TypeId}{s x:Operand}{i ie:TI}{co:Option EC}{c:EC}{sz bytes n r len:Nat}{sp':Sp}{l:List c.sem}{cs:List V}(ho:o.op= .call {callee:= .builtin .append,args:= #[s,x],argTypes:= #[t,t]})
 (ht:E.ti t=some i) (hd:i.desc= .slc co sz bytes) (hte:E.P.underlying t=some (.slice te)) (hti:E.ti te=some ie) (hs:ev E t a s=some (.arr r len sz)) (hx:ev E t a x=some (.slice sp' (.t c l))) (hpos:0<l.length) (hcl:cs.length=len*sz)
 (hsz:Nat.beq c.cells sz=true) (hb:(len+l.length)*bytes<=140737488355328) (hb2:len+l.length<=9223372036854775807):
 OS E N o a [(r,.var cs)] (.arr n (len+l.length) sz) [n] [(n,.var (cs++l.flatMap c.view)),(r,.gone)]:=
 .of_run fun g D es w act hR hp hn hF=>by
  obtain⟨e,inf,z,h1,h2,h3,h4,h5,h6,h7,h8⟩:=Hx ht hd;obtain rfl:e=te:=by rw[h1] at hte;cases hte;rfl
  obtain⟨inf2,hi1,hi2,z2,hi3,hi4⟩:=I1 hti;have hz1:∀v∈z.cells.toList,v.oneCell'=true:=by
   rw[h2] at hi1;cases hi1;rw[h5] at hi3;cases hi3;exact(LA hi4).2.1
  have hcs:c.cells=sz:=WK hsz;have hn':¬D n:=hn n (by simp);have hr:=hp (r,.var cs) (by simp);have hvs:=z8 hs hR hF;have hdx:=(z8 hx hR hF).Bh;obtain⟨xb,xc,hxv⟩:=hdx.Bh;obtain⟨news,hnl,hn1,hnf,hnr,hnl2⟩:=hdx.CL;rw[hxv] at hnf;have hsz':c.cells=inf.size:=by rw[hcs,h3]
  have hDD:∀i,(D i\/i=n)->(D i\/i∈[n]):=fun i h=>h.imp id (fun h=>by simp[h]);have hrun:∀v w',(Builtin.append_ #[t,t] o.type #[act.eval s,act.eval x]).run E.P w= .ok v w'->(execOp act.eval o).run E.P w= .ok (.value v) w':=fun v w' h=>by
   simp[execOp,ho,resolve,invoke,builtin,h]
  have hnews:news.length=l.length*sz:=by rw[hnl];show l.length*c.cells=_;rw[hcs]
  have hfl:(l.flatMap c.view).length=l.length*sz:=by rw[HX,hcs]
  have hnv:∀(q:Nat) u d,news[q]? =some u->(l.flatMap c.view)[q]? =some d->Ar g D w u d:=fun q u d hu hd=>by
   have hq:=(Ww.1 hd).1;rw[HX] at hq;have hc0:0<c.cells:=by
    rcases Yp c.cells with h|h
    .rw[h,Nat.mul_zero] at hq;omega
    .exact h
   have hqi:q/c.cells<l.length:=(YA hc0).2 hq;have hqj:q%c.cells<c.cells:=Y7 _ hc0;have hqe:q/c.cells*c.cells+q%c.cells=q:=by rw[Yv];exact Ze q c.cells
   have hd':=hd;rw[<-hqe,M1 c l _ _ hqj,Wl hqi] at hd';have hd2:(c.view l[q/c.cells])[q%c.cells]? =some d:=hd';obtain⟨u',hu',hdr⟩:=hnr (q/c.cells) (q%c.cells) (c.view l[q/c.cells]) d (by show(l[q/c.cells]?).map c.view=_;rw[Wl hqi];rfl) hd2 hqi hqj;have hu2:news[q]? =some u':=by rw[<-hqe];exact hu'
   rw[hu] at hu2;cases hu2;exact .data hdr
  generalize hv:act.eval s=v at hvs;cases hvs with
  |data h=>cases h
  |arr _ _ _ cap hDr hcap hrow=>
   obtain⟨h9,vs,te,h10,h11,h12,h13,h14⟩:=hR.BW r _ hr;have hlen:=h14 _ hrow;simp only at hlen;have hxv':act.eval x= .slice xb l.length xc:=hxv;by_cases hroom:len+l.length<=cap
   .have hfit:len*sz+news.length<=vs.length:=by rw[hnews,<-W9,hlen];exact Xw _ hroom
    obtain⟨hR1,hx1⟩:=hR.store hr h10 (vs':=vs.take (len*sz)++news++vs.drop (len*sz+news.length)) (cs':=cs++l.flatMap c.view)
     (by simp only[WD,Yg,XT,hfl,hcl];omega) (by simp only[WD,Yg,XT];omega)
     (fun u hu=>by
      rcases WH.1 hu with hu|hu
      .rcases WH.1 hu with hu|hu
       .exact h12 u (XZ hu)
       .exact hn1 u hu
      .exact h12 u (Yc hu))
     (fun j u d hu hd=>by
      rw[u7 _ _ _ _ (by omega)] at hu;by_cases hj:j<len*sz
      .rw[if_pos hj] at hu;rw[WC (by omega)] at hd;exact h13 j u d hu hd
      .rw[if_neg hj] at hu;rw[WG (by omega),hcl] at hd;have hq:=(Ww.1 hd).1;rw[if_pos (by omega)] at hu;exact hnv _ u d hu hd)
    obtain⟨hR2,hx2⟩:=hR1.Lt (n:=n) hn' (r:=r) (cs:=cs++l.flatMap c.view) (by rw[zp,if_pos rfl]);rw[hrow] at hR2 hx2;have he:∀i,zl ((n,A2.var (cs++l.flatMap c.view))::(r,.gone)::es) i=zl ((n,A2.var (cs++l.flatMap c.view))::(r,.gone)::(r,.var (cs++l.flatMap c.view))::es) i:=fun i=>by
     simp only[zp];by_cases q1:n=i
     .simp[q1]
     .by_cases q2:r=i<;>simp[q1,q2]
    refine⟨_,.slice (some ⟨g.blk r,0,none⟩) (len+l.length) cap,_,hrun _ _ ?_,(hR2.congr he).more hDD,?_,?_⟩
    .rw[hv,hxv'];have:=T9 (P:=E.P) (w:=w) (ty:=o.type) h1 h2 h10 (sLen:=len) (sCap:=cap) (xb:=xb) (n:=l.length) (xc:=xc) (news:=news) (by rw[hnews,h3]) hn1 (by rw[<-hsz'];exact hnf w rfl E.P) hroom (by rw[h3];simpa using hfit);rw[h3] at this;exact this
    .exact Ui D g n (g.blk r) _ hroom
    .have h15:=hx1.trans hx2;have hf:Az (g.AN n (g.blk r) (some ⟨g.blk r,0,cap,sz⟩)) ([(n,.var (cs++l.flatMap c.view)),(r,.gone)]++es)=Az (g.AN n (g.blk r) (some ⟨g.blk r,0,cap,sz⟩)) ((n,A2.var (cs++l.flatMap c.view))::(r,.gone)::(r,.var (cs++l.flatMap c.view))::es):=Az.congr he;rw[hf];exact h15
   .obtain ⟨hRg,hxg⟩:=hR.gone hr;have hge:=grownCap_ge w (len+l.length) cap e;obtain⟨olds,holds⟩:∃olds,olds=vs.take (len*sz):=⟨_,rfl⟩;have hol:olds.length=len*sz:=by rw[holds,Yg];omega
    obtain⟨hR',hx'⟩:=hRg.drew.G2 hn' (some ⟨w.heap.size,0,grownCap w (len+l.length) cap e,sz⟩) (vs:=olds++news++(Builtin.zeroCells z.cells (grownCap w (len+l.length) cap e-(len+l.length))).toList) (cs:=cs++l.flatMap c.view) e
     (by simp only[WD,hfl,hcl,hol,hnews];omega)
     (fun v hv=>by
      rcases WH.1 hv with hv|hv
      .rcases WH.1 hv with hv|hv
       .rw[holds] at hv;exact h12 v (XZ hv)
       .exact hn1 v hv
      .exact SK hz1 _ v hv)
     (fun q v d hv hd=>by
      by_cases hq:q<len*sz
      .rw[Wr,WC (by omega),holds,XK,if_pos hq] at hv;rw[WC (by omega)] at hd;exact(h13 q v d hv hd).mono (fun _=>Wj _) (fun _ _ _=>rfl) (fun _ h=>h) (fun _ _=>rfl) (fun _ _=>rfl)
      .rw[WG (by omega),hcl] at hd;have hq2:=(Ww.1 hd).1;rw[Wr,WG (by omega),hol,WC (by omega)] at hv;exact(hnv _ v d hv hd).mono (fun _=>Wj _) (fun _ _ _=>rfl) (fun _ h=>h) (fun _ _=>rfl) (fun _ _=>rfl))
     (fun r hr=>by
      cases hr;simp only[WD,Yk,size_zeroCells,hnews,hol,h6];rw[<-W9,<-W9];congr 1;omega)
    refine⟨_,.slice (some ⟨w.heap.size,0,none⟩) (len+l.length) (grownCap w (len+l.length) cap e),_,hrun _ _ ?_,hR'.more hDD,?_,(hxg.trans Ext.drew).trans hx'⟩
    .rw[hv,hxv'];have hof:∀W:World,W.heap=w.heap->(Builtin.firstCells inf.size len (.slice (some ⟨g.blk r,0,none⟩) len cap)).run E.P W= .ok olds.toArray W:=fun W hW=>by
      rw[h3];exact run_firstCells_some (P:=E.P) W sz len ⟨g.blk r,0,none⟩ len cap olds hol (fun j v hv=>by
       rw[holds,XK] at hv;split at hv
       .rw[GN,Xg,HD (by rw[hW];exact h10)];simpa using hv
       .cases hv)
     exact Lw (P:=E.P) (w:=w) (ty:=o.type) h1 h2 h5 (base:=some ⟨g.blk r,0,none⟩) (sLen:=len) (sCap:=cap) (xb:=xb) (n:=l.length) (xc:=xc) (olds:=olds) (news:=news)
      hof (fun W hW=>by rw[<-hsz'];exact hnf W hW E.P) (by omega) (by rw[h4];exact hb) (by omega)
    .exact Ui D g n _ _ hge
theorem OS.O7{t:TypeId}{x:Operand}{n len sz:Nat}(ho:o.op= .call {callee:= .builtin .len,args:= #[x],argTypes:= #[t]}){i:TI}(ht:E.ti t=some i){c:Option EC}{z by_:Nat}(hd:i.desc= .slc c z by_)
 (hx:ev E t a x=some (.arr n len sz)):OS E N o a [] (.i len) [] []:=
 .pure fun g D es w act hR _ hF=>by
  have h1:=z8 hx hR hF;obtain⟨d,h2,h3⟩:=IQ ht;rw[hd] at h3;generalize hv:act.eval x=v at h1;cases h1 with
  |data h=>cases h
  |arr _ _ _ cap _ _ _=>
   cases d with
   |slice e=>
    refine⟨_,?_,.data (.int .i64 len)⟩;simp[execOp,ho,resolve,invoke,builtin,Builtin.len_,hv,y0 h2,goInt]
   |_=>cases h3
end
theorem RB(c:EC):∀(l:List c.sem) (kk:Nat) (h:kk<l.length),(l.flatMap c.view).drop (kk*c.cells)=c.view l[kk]++(l.drop (kk+1)).flatMap c.view
 |[],kk,h=>by simp at h
 |x::l,0,h=>by simp
 |x::l,q+1,h=>by
  have hx:=EC.Bo c x;rw[WO,Y3,Y9 (by rw[hx,W9];omega),WW,hx,show(q+1)*c.cells-c.cells=q*c.cells by rw[W9];omega,RB c l q (by simpa using h)]
  rfl
section
variable {E:Env} {N k:Nat} {a:AF} {σ:Aq} {Q:Exit->AF->Aq->Prop} {ops:List Oper} {dr:Bool} {rest:List Oper} {acc:List Rec}
variable {d:Option Tmp} {ty:TypeId} {ps:String} {af:Array Edge} {gd:Option (Nat×Bool)}
namespace L
theorem apR{t te:TypeId}{s x:Operand}{z:Nat}{zr:List V}{ie:TI}{e:EC}{co:Option EC}{sz bytes r len:Nat}{sp':Sp}{l:List e.sem}{cs:List V}(hw:yb ops a gd=some true)(hs:ev E t a s=some (.arr r len sz))(hx:ev E t a x=some (.slice sp' (.t e l)))(ht:E.ti t=some ⟨z,zr,.slc co sz bytes⟩)(hte:E.P.underlying t=some (.slice te))(hti:E.ti te=some ie)
 (hn:zl σ.es r=some (.var cs)) (hcl:cs.length=len*sz) (hsz:Nat.beq e.cells sz=true) (hd:z9 N d=true) (hby:Nat.ble bytes 128=true) (hpos:0<l.length) (hb:len+l.length<=1099511627776)
 (h2:AX E N k dr ops rest (a.put d (.arr σ.nx (len+l.length) sz)) (σ.Ay 1 [(σ.nx,.var (cs++l.flatMap e.view)),(r,.gone)]) (⟨[(r,.var cs)],.arr σ.nx (len+l.length) sz,1,[(σ.nx,.var (cs++l.flatMap e.view)),(r,.gone)]⟩::acc) Q):
 AX E N k dr ops (⟨d,.call ⟨.builtin .append,#[s,x],#[t,t]⟩,ty,ps,af,gd⟩::rest) a σ acc Q:=
 AX.run 1 hw (OS.Hp rfl ht rfl hte hti (fr (by simp[Op.operands,Call.operands]) hs) (fr (by simp[Op.operands,Call.operands]) hx) hpos hcl hsz
  (by
   have h3:bytes<=128:=Wz hby;have h4:(len+l.length)*bytes<=1099511627776*128:=XU hb h3;omega) (by omega)) ⟨hn,trivial⟩ hd h2
theorem lnR{t:TypeId}{x:Operand}{n len sz:Nat}{z:Nat}{zr:List V}{c:Option EC}{sz' by_:Nat}(hw:yb ops a gd=some true)(hx:ev E t a x=some (.arr n len sz))(ht:E.ti t=some ⟨z,zr,.slc c sz' by_⟩)(hd:z9 N d=true)
 (h2:AX E N k dr ops rest (a.put d (.i len)) σ (⟨[],.i len,0,[]⟩::acc) Q):AX E N k dr ops (⟨d,.call ⟨.builtin .len,#[x],#[t]⟩,ty,ps,af,gd⟩::rest) a σ acc Q:=
 AX.run 0 hw (OS.O7 rfl ht rfl (fr (by simp[Op.operands,Call.operands]) hx)) trivial hd h2
theorem Ur{t:TypeId}{x:Operand}{i:TI}{n off:Nat}(kk:Nat){c:EC}{l:List c.sem}(hw:yb ops a gd=some true)(hx:ev E 0 a x=some (.ptr n off))(ht:E.ti t=some i)(hn:zl σ.es n=some (.var (l.flatMap c.view)))
 (hoff:off=kk*c.cells) (hlt:kk<l.length) {v:V} (hv:Hr i (c.view l[kk])=some v) (hsz:Nat.beq i.size c.cells=true) (hd:z9 N d=true)
 (h2:AX E N k dr ops rest (a.put d v) σ (⟨[(n,.var (l.flatMap c.view))],v,0,[]⟩::acc) Q):AX E N k dr ops (⟨d,.load t x,ty,ps,af,gd⟩::rest) a σ acc Q:=by
 refine L.Dr hw hx ht hn ?_ hd h2;have h0:=EC.Bo c l[kk];have h1:(l.flatMap c.view).drop off=c.view l[kk]++(l.drop (kk+1)).flatMap c.view:=by subst hoff;exact RB c l kk hlt
 have h3:i.size=c.cells:=WK hsz;rw[h1];unfold Hr at hv ⊢;cases hb:i.desc.agg with
 |true=>
  rw[hb] at hv;simp only[cond_true,h0,h3,WD,YC (Wj _),Wq] at hv ⊢;rw[show Nat.ble c.cells (c.cells+((l.drop (kk+1)).flatMap c.view).length)=true from YC (by omega)];simp only[cond_true,Wq];rw[<-hv,List.take_append_of_le_length (by omega)]
 |false=>
  rw[hb] at hv;simp only[cond_false] at hv ⊢;cases hl:c.view l[kk] with
  |nil=>rw[hl] at hv;cases hv
  |cons y ys=>rw[hl] at hv;exact hv
end L
end
def NI(P:Program)(t:TypeId):Bool:=match P.underlying t with|some (.func _ _ _)=>true|_=>false
theorem Zsi{P:Program}{t:TypeId}(h:NI P t=true):∃a b c,P.underlying t=some (.func a b c):=by
 unfold NI at h;split at h
 .exact ⟨_,_,_,by assumption⟩
 .cases h
def M3:V->Option Bool
 | .nilf=>some false
 | .fn _ _ _=>some true
 |_=>none
section
variable {E:Env} {N k:Nat} {o:Oper} {a:AF}
theorem OS.Mw{t u:TypeId}{x y:Operand}{c:V}{b:Bool}(ho:o.op= .binOp .neq t x y u)(ht:NI E.P t=true)(hx:ev E t a x=some c)(hc:M3 c=some b)(hy:ev E t a y=some .nilf):OS E N o a [] (.bool b) [] []:=
 .pure fun g D es w act hR _ hF=>by
  obtain⟨p,q,r,hu⟩:=Zsi ht;have h1:=z8 hx hR hF;have h2:=z8 hy hR hF;generalize hvx:act.eval x=v at h1;generalize hvy:act.eval y=v' at h2;have e2:v'= .nilFunc:=by
   cases h2 with
   |data h=>cases h
   |nilf=>rfl
  subst e2;cases c with
  |nilf=>
   simp only[M3,Wq] at hc;subst hc;have e1:v= .nilFunc:=by
    cases h1 with
    |data h=>cases h
    |nilf=>rfl
   subst e1;have he:(Op.equal t .nilFunc .nilFunc).run E.P w= .ok true w:=by
    unfold Op.equal Op.maxDepth Op.equalIn;simp[y0 hu]
   exact⟨.bool false,by simp[execOp,ho,eqGuard,hvx,hvy,binOp,he],.data (.bool _)⟩
  |fn f fi caps=>
   simp only[M3,Wq] at hc;subst hc;obtain⟨fi',caps',e1⟩:∃fi' caps',v= .func f fi' caps':=by
    cases h1 with
    |data h=>cases h
    |fn=>exact⟨_,_,rfl⟩
   subst e1;have he:(Op.equal t (.func f fi' caps') .nilFunc).run E.P w= .ok false w:=by
    unfold Op.equal Op.maxDepth Op.equalIn;simp[y0 hu]
   exact⟨.bool true,by simp[execOp,ho,eqGuard,hvx,hvy,binOp,he],.data (.bool _)⟩
  |_=>cases hc
end
section
variable {E:Env} {N k:Nat} {a:AF} {σ:Aq} {Q:Exit->AF->Aq->Prop} {ops:List Oper} {dr:Bool} {rest:List Oper} {acc:List Rec}
variable {d:Option Tmp} {ty:TypeId} {ps:String} {af:Array Edge} {gd:Option (Nat×Bool)}
theorem L.Mw{t u:TypeId}{x y:Operand}{c:V}{b:Bool}(hw:yb ops a gd=some true)(ht:NI E.P t=true)(hx:ev E t a x=some c)(hc:M3 c=some b)(hy:ev E t a y=some .nilf)(hd:z9 N d=true)
 (h2:AX E N k dr ops rest (a.put d (.bool b)) σ (⟨[],.bool b,0,[]⟩::acc) Q):AX E N k dr ops (⟨d,.binOp .neq t x y u,ty,ps,af,gd⟩::rest) a σ acc Q:=
 AX.run 0 hw (OS.Mw rfl ht (fr (by simp[Op.operands,Call.operands]) hx) hc (fr (by simp[Op.operands,Call.operands]) hy)) trivial hd h2
end
theorem R.same{G:Dm}{g:Gh}{D:Nat->Prop}{es es':Es}{w:World}(h:∀n,zl es n=zl es' n)(hR:R G g D es w):R G g D es' w:=
 ⟨fun n e he=>hR.lt n e (by rw[h];exact he),fun n n' e e' b h1 h2=>hR.Bb n n' e e' b (by rw[h];exact h1) (by rw[h];exact h2),fun n e he=>hR.BW n e (by rw[h];exact he),hR.fresh,hR.Et⟩
theorem Az.same{g:Gh}{es es':Es}(h:∀n,zl es n=zl es' n):Az g es=Az g es':=by
 funext b;unfold Az;simp only[h]
end Go.Ab
namespace Go.Ab
open Go
set_option linter.all false
section
variable {E:Env} {N k:Nat} {a:AF} {σ:Aq} {Q:Exit->AF->Aq->Prop} {ops:List Oper} {dr:Bool} {rest:List Oper} {acc:List Rec}
variable {d:Option Tmp} {ty:TypeId} {ps:String} {af:Array Edge} {gd:Option (Nat×Bool)}
theorem M.sb{t u:TypeId}{x y:Operand}{n m:Int}(h2:AX E N k dr ops rest (a.put d (.int .i64 (n-m))) σ (⟨[],.int .i64 (n-m),0,[]⟩::acc) Q)(hw:yb ops a gd=some true:=by exact rfl)(hx:ev E t a x=some (.int .i64 n):=by exact rfl)(hy:ev E t a y=some (.int .i64 m):=by exact rfl)(hd:z9 N d=true:=by exact rfl)(h1: -9223372036854775808<=n-m/\n-m<=9223372036854775807:=by omega):
 AX E N k dr ops (⟨d,.binOp .sub t x y u,ty,ps,af,gd⟩::rest) a σ acc Q:=L.sb hw hx hy hd h1 h2
theorem M.s3{t:TypeId}{x y zz:Operand}{z:Nat}{zr:List V}{c:Option EC}{sz bytes:Nat}{sp:Sp}{l:SL V}{k1 k2:IntKind}(h2:AX E N k dr ops rest (a.put d (.slice .full l)) σ (⟨[],.slice .full l,0,[]⟩::acc) Q)(hw:yb ops a gd=some true:=by exact rfl)(hx:ev E t a x=some (.slice sp l):=by exact rfl)(ht:E.ti t=some ⟨z,zr,.slc c sz bytes⟩:=by exact rfl)(hy:ev E 0 a y=some (.int k1 l.len):=by exact rfl)(hz:ev E 0 a zz=some (.int k2 l.len):=by exact rfl)(hd:z9 N d=true:=by exact rfl):
 AX E N k dr ops (⟨d,.slice t x none (some y) (some zz),ty,ps,af,gd⟩::rest) a σ acc Q:=L.s3 hw hx ht hy hz hd h2
theorem M.n1{rs:List ResultVar}{r:V}{cs:List V}{c1:V}(h8:(zk cs).wk=c1)(h1:FN E a σ.es rs=some cs:=by with_unfolding_all rfl)(h7:wl [] r=some c1:=by with_unfolding_all rfl):
 Fk E 0 rs r ⟨0,[]⟩ .normal a σ:=K.n1 h1 h7 h8
theorem M.ix{t:TypeId}{x y:Operand}{z:Nat}{zr:List V}{c:Option EC}{sz bytes:Nat}{sp:Sp}{l:SL V}{n:Int}{cs:List V}{kd:IntKind}(h2:AX E N k dr ops rest (a.put d (.addr cs)) σ (⟨[],.addr cs,0,[]⟩::acc) Q)(hw:yb ops a gd=some true:=by exact rfl)(hx:ev E t a x=some (.slice sp l):=by exact rfl)(ht:E.ti t=some ⟨z,zr,.slc c sz bytes⟩:=by exact rfl)(hy:ev E 0 a y=some (.int kd n):=by exact rfl)(hn:n=0:=by exact rfl)(hlt:0<l.len:=by exact Wz rfl)(hk:l.get 0=some cs:=by exact rfl)(hsz:Nat.beq l.cells sz=true:=by exact rfl)(hd:z9 N d=true:=by exact rfl):
 AX E N k dr ops (⟨d,.indexAddr t x y,ty,ps,af,gd⟩::rest) a σ acc Q:=L.ix 0 hw hx ht hy hn hlt hk hsz hd h2
theorem M.c2{f:FuncId}{xs:List Operand}{ts:List TypeId}{cs args:List V}{r:V}(h:PC E f args r)(h2:AX E N k dr ops rest (a.put d r) σ (⟨[],r,0,[]⟩::acc) Q)(hw:yb ops a gd=some true:=by exact rfl)(hx:D6 E a xs ts=some cs:=by exact rfl)(hr:xz [] args=some (V.Ap cs):=by exact rfl)(hd:z9 N d=true:=by exact rfl):
 AX E N k dr ops (⟨d,.call ⟨.value (.func f),xs.toArray,ts.toArray⟩,ty,ps,af,gd⟩::rest) a σ acc Q:=L.c2 h hw hx hr hd h2
theorem M.cb{f:FuncId}{xs:List Operand}{ts:List TypeId}{cs args:List V}{σ1 σ2:Aq}{r r':V}{pre post:Es}(h:AC E f args σ1 r σ2)(L:List Nat)(news:Nat)(h2:AX E N k dr ops rest (a.put d r') (σ.Ay news post) (⟨pre,r',news,post⟩::acc) Q)(hw:yb ops a gd=some true:=by exact rfl)(hx:D6 E a xs ts=some cs:=by exact rfl)(hpre:FL σ.es L=some pre:=by exact rfl)(hL:L.length=σ1.nx:=by exact rfl)(hn':σ2.nx=σ1.nx+news:=by exact rfl)(hd:yc (yh (z4 L σ.nx news))=true:=by exact rfl)(hr:xz (yh L) args=some (V.Ap cs):=by exact rfl)(hin:Dz (yh L) pre σ1.es:=by((repeat'(first|exact trivial|exact Or.inl rfl|exact Or.inr ⟨_,rfl,rfl⟩|refine And.intro ?_ ?_|refine⟨_,rfl,_,rfl,_,rfl,?_⟩|refine⟨_,rfl,_,rfl,?_⟩|exact Ao.refl _|exact Ao.any _ _|exact Bp.refl _|refine Ao.agg ?_|refine⟨_,rfl,_,_,rfl,?_,?_⟩|with_reducible exact rfl|exact Eq.refl true|refine⟨_,rfl,_,xu _ _ _,_,rfl,?_⟩|fail));all_goals fail))(hout:E6 (yh (z4 L σ.nx news)) σ2.es=some post:=by exact rfl)(hcov:F6 σ2.es σ2.nx=true:=by exact rfl)(hr':wl (yh (z4 L σ.nx news)) r=some r':=by exact rfl)(hdst:z9 N d=true:=by exact rfl):
 AX E N k dr ops (⟨d,.call ⟨.value (.func f),xs.toArray,ts.toArray⟩,ty,ps,af,gd⟩::rest) a σ acc Q:=Go.Ab.L.Kr h L news hw hx hpre hL hn' hd hr hin hout hcov hr' hdst h2
theorem M.cv{x:Operand}{f:FuncId}{fi caps:List V}{xs:List Operand}{ts:List TypeId}{cs args:List V}{σ1 σ2:Aq}{r r':V}{pre post:Es}(h:AC E f args σ1 r σ2)(L:List Nat)(news:Nat)(h2:AX E N k dr ops rest (a.put d r') (σ.Ay news post) (⟨pre,r',news,post⟩::acc) Q)(hw:yb ops a gd=some true:=by exact rfl)(hf:ev E 0 a x=some (.fn (.func f) fi caps):=by exact rfl)(hx:D6 E a xs ts=some cs:=by exact rfl)(hpre:FL σ.es L=some pre:=by exact rfl)(hL:L.length=σ1.nx:=by exact rfl)(hn':σ2.nx=σ1.nx+news:=by exact rfl)(hd:yc (yh (z4 L σ.nx news))=true:=by exact rfl)(hr:xz (yh L) args=some (V.Ap (fi++cs++caps)):=by exact rfl)(hin:Dz (yh L) pre σ1.es:=by((repeat'(first|exact trivial|exact Or.inl rfl|exact Or.inr ⟨_,rfl,rfl⟩|refine And.intro ?_ ?_|refine⟨_,rfl,_,rfl,_,rfl,?_⟩|refine⟨_,rfl,_,rfl,?_⟩|exact Ao.refl _|exact Ao.any _ _|exact Bp.refl _|refine Ao.agg ?_|refine⟨_,rfl,_,_,rfl,?_,?_⟩|with_reducible exact rfl|exact Eq.refl true|refine⟨_,rfl,_,xu _ _ _,_,rfl,?_⟩|fail));all_goals fail))(hout:E6 (yh (z4 L σ.nx news)) σ2.es=some post:=by exact rfl)(hcov:F6 σ2.es σ2.nx=true:=by exact rfl)(hr':wl (yh (z4 L σ.nx news)) r=some r':=by exact rfl)(hdst:z9 N d=true:=by exact rfl):
 AX E N k dr ops (⟨d,.call ⟨.value x,xs.toArray,ts.toArray⟩,ty,ps,af,gd⟩::rest) a σ acc Q:=Go.Ab.L.cv2 h L news hw hf hx hpre hL hn' hd hr hin hout hcov hr' hdst h2
theorem M.W(ρ:List (Option Nat)){a2:AF}{es2:Es}{nx2:Nat}(hf:K5 ρ a a2:=by((repeat'(first|exact trivial|exact Or.inl rfl|exact Or.inr ⟨_,rfl,rfl⟩|refine And.intro ?_ ?_|refine⟨_,rfl,_,rfl,_,rfl,?_⟩|refine⟨_,rfl,_,rfl,?_⟩|exact Ao.refl _|exact Ao.any _ _|exact Bp.refl _|refine Ao.agg ?_|refine⟨_,rfl,_,_,rfl,?_,?_⟩|with_reducible exact rfl|exact Eq.refl true|refine⟨_,rfl,_,xu _ _ _,_,rfl,?_⟩|fail));all_goals fail))(he:Dz ρ σ.es es2:=by((repeat'(first|exact trivial|exact Or.inl rfl|exact Or.inr ⟨_,rfl,rfl⟩|refine And.intro ?_ ?_|refine⟨_,rfl,_,rfl,_,rfl,?_⟩|refine⟨_,rfl,_,rfl,?_⟩|exact Ao.refl _|exact Ao.any _ _|exact Bp.refl _|refine Ao.agg ?_|refine⟨_,rfl,_,_,rfl,?_,?_⟩|with_reducible exact rfl|exact Eq.refl true|refine⟨_,rfl,_,xu _ _ _,_,rfl,?_⟩|fail));all_goals fail))(hnx:nx2=ρ.length:=by exact rfl)(hid:Ga 0 k ρ=true:=by exact rfl)(hd:yc ρ=true:=by exact rfl)(hb:below σ.nx ρ=true:=by exact rfl):Bi E N k a σ a2 ⟨nx2,es2⟩:=Bi.mk ρ a2 es2 nx2 hnx hid hd hb hf he
theorem M.n2{rs:List ResultVar}{r:V}{σ':Aq}{cs:List V}{c1:V}(ρ:List (Option Nat))(h1:FN E a σ.es rs=some cs:=by exact rfl)(h2:ρ.length=σ'.nx:=by exact rfl)(h3:Ga 0 k ρ=true:=by exact rfl)(h4:yc ρ=true:=by exact rfl)(h5:below σ.nx ρ=true:=by exact rfl)(h6:Dz ρ σ.es σ'.es:=by((repeat'(first|exact trivial|exact Or.inl rfl|exact Or.inr ⟨_,rfl,rfl⟩|refine And.intro ?_ ?_|refine⟨_,rfl,_,rfl,_,rfl,?_⟩|refine⟨_,rfl,_,rfl,?_⟩|exact Ao.refl _|exact Ao.any _ _|exact Bp.refl _|refine Ao.agg ?_|refine⟨_,rfl,_,_,rfl,?_,?_⟩|with_reducible exact rfl|exact Eq.refl true|refine⟨_,rfl,_,xu _ _ _,_,rfl,?_⟩|fail));all_goals fail))(h7:wl ρ r=some c1:=by exact rfl)(h8:(zk cs).wk=c1):
 Fk E k rs r σ' .normal a σ:=Go.Ab.K.n2 ρ h1 h2 h3 h4 h5 h6 h7 h8
structure M.Hid (R:Prop):Prop where
 out:R
theorem M.gk{P R:Prop}(k:R)(h:M.Hid R->P:=by(intro k;(first|with_reducible refine K.tN ?_|with_reducible refine K.bN ?_|with_reducible refine K.tR ?_|with_reducible refine K.bR ?_|with_reducible refine K.gR ?_|with_reducible refine K.dR ?_|with_reducible refine K.cR ?_|with_reducible refine K.lR ?_|with_reducible refine K.tE ?_|with_reducible refine K.bX (by with_unfolding_all rfl) ?_|with_reducible refine K.bO (by with_unfolding_all rfl) ?_|with_reducible refine K.gE (by with_unfolding_all rfl) ?_|with_reducible refine K.gO (by with_unfolding_all rfl) ?_|with_reducible refine K.cE ?_|with_reducible refine K.lE ?_|with_reducible refine K.r1 (by with_unfolding_all rfl) (by with_unfolding_all rfl) ?_|with_reducible refine K.n1 (by with_unfolding_all rfl) (by with_unfolding_all rfl) ?_|with_reducible refine K.hR ?_|with_reducible refine K.tG ?_|with_reducible refine K.bG ?_|with_reducible refine K.fR ?_|with_reducible refine K.pR ?_|with_reducible refine K.uR ?_|with_reducible refine K.uE ?_|fail);exact M.Hid.out k)):P:=h ⟨k⟩
theorem M.go{P R:Prop}(k:R)(h:M.Hid R->P:=by(intro k;repeat1' (first|((with_reducible refine D.ax ?_);first|((with_reducible refine D.load ?_);first|refine L.Dr rfl rfl rfl rfl rfl rfl ?_|refine L.IV rfl rfl rfl rfl rfl ?_|refine AX.sk rfl rfl ?_|fail)|((with_reducible refine D.move ?_);first|refine L.mv rfl rfl rfl ?_|refine AX.sk rfl rfl ?_|fail)|((with_reducible refine D.fieldAddr ?_);first|refine L.Gp rfl rfl rfl rfl rfl ?_|refine L.Sy rfl rfl rfl rfl rfl rfl ?_|refine AX.sk rfl rfl ?_|fail)|((with_reducible refine D.assign ?_);first|refine L.C6 rfl rfl rfl ?_|refine AX.sk rfl rfl ?_|fail)|((with_reducible refine D.bin ?_);first|refine L.ad rfl rfl rfl rfl (by omega) ?_|refine L.sb rfl rfl rfl rfl (by omega) ?_|refine L.ml rfl rfl rfl rfl (by first|omega|assumption) ?_|refine L.rm rfl rfl rfl rfl (by omega) ?_|refine L.bn rfl rfl rfl rfl rfl ?_|refine AX.sk rfl rfl ?_|refine L.Su rfl rfl rfl rfl rfl ?_|refine L.Mw rfl (by kernel_rfl) rfl rfl rfl rfl ?_|refine L.P2 3 rfl rfl rfl (by kernel_rfl) (by kernel_rfl) (by kernel_rfl) (by kernel_rfl) (by kernel_rfl) rfl ?_|fail)|((with_reducible refine D.call ?_);first|refine L.LJ rfl rfl rfl rfl ?_|refine L.ln rfl rfl rfl rfl ?_|refine L.RY rfl rfl rfl rfl rfl rfl (by first|exact trivial|exact⟨rfl,trivial⟩) rfl rfl (by first|omega|(simp;omega)) ?_|refine L.LI rfl rfl rfl rfl (by first|assumption|simp) rfl rfl rfl (by first|omega|(simp;omega)) ?_|refine AX.sk rfl rfl ?_|refine L.mn rfl rfl rfl rfl ?_|fail)|((with_reducible refine D.extract ?_);first|refine L.ex rfl rfl rfl rfl ?_|refine AX.sk rfl rfl ?_|fail)|((with_reducible refine D.box ?_);first|refine L.bx rfl rfl rfl rfl ?_|refine AX.sk rfl rfl ?_|fail)|((with_reducible refine D.alloc ?_);first|refine L.al rfl rfl rfl ?_|refine AX.sk rfl rfl ?_|fail)|((with_reducible refine D.store ?_);first|refine L.st rfl rfl rfl rfl rfl rfl rfl rfl rfl ?_|refine AX.sk rfl rfl ?_|fail)|((with_reducible refine D.indexAddr ?_);first|refine L.D9 _ rfl rfl rfl rfl rfl rfl rfl (by first|assumption|omega|(simp only[Ty.Ae,Tm.Ae,Wy,W3,Wu,WM];omega)|(simp at*;omega)|(simp;done)|contradiction) ?_|refine L.D9 0 rfl rfl rfl rfl rfl rfl rfl (by first|assumption|omega|(simp only[Ty.Ae,Tm.Ae,Wy,W3,Wu,WM];omega)|(simp at*;omega)|(simp;done)|contradiction) ?_|refine L.D9 1 rfl rfl rfl rfl rfl rfl rfl (by first|assumption|omega|(simp only[Ty.Ae,Tm.Ae,Wy,W3,Wu,WM];omega)|(simp at*;omega)|(simp;done)|contradiction) ?_|refine L.D9 2 rfl rfl rfl rfl rfl rfl rfl (by first|assumption|omega|(simp only[Ty.Ae,Tm.Ae,Wy,W3,Wu,WM];omega)|(simp at*;omega)|(simp;done)|contradiction) ?_|refine AX.sk rfl rfl ?_|refine L.ix 0 rfl rfl rfl rfl rfl (Wz rfl) rfl rfl rfl ?_|refine L.ix 1 rfl rfl rfl rfl rfl (Wz rfl) rfl rfl rfl ?_|refine L.ix 2 rfl rfl rfl rfl rfl (Wz rfl) rfl rfl rfl ?_|fail)|((with_reducible refine D.not ?_);first|refine L.nt rfl rfl rfl ?_|refine AX.sk rfl rfl ?_|fail)|((with_reducible refine D.field ?_);first|refine L.fd rfl rfl rfl rfl rfl rfl ?_|refine AX.sk rfl rfl ?_|fail)|((with_reducible refine D.pick ?_);first|refine L.pk rfl rfl rfl rfl ?_|refine AX.sk rfl rfl ?_|fail)|((fail_if_success (first|with_reducible refine D.assign ?_|with_reducible refine D.load ?_|with_reducible refine D.move ?_|with_reducible refine D.call ?_|with_reducible refine D.fieldAddr ?_|with_reducible refine D.bin ?_|with_reducible refine D.store ?_|with_reducible refine D.extract ?_|with_reducible refine D.pick ?_|with_reducible refine D.indexAddr ?_|with_reducible refine D.not ?_|with_reducible refine D.field ?_|with_reducible refine D.box ?_|with_reducible refine D.alloc ?_));first|refine L.nc rfl rfl rfl rfl ?_|refine L.bd rfl rfl rfl rfl rfl ?_|refine L.JP rfl rfl rfl rfl rfl (EC.BC rfl) rfl rfl ?_|refine L.JP rfl rfl rfl rfl rfl rfl rfl rfl ?_|refine L.Mg rfl rfl rfl rfl rfl (EC.BC rfl) rfl rfl rfl (EC.BC rfl) rfl rfl ?_|refine L.Mg rfl rfl rfl rfl rfl rfl rfl rfl rfl rfl rfl rfl ?_|refine L.MY rfl rfl rfl rfl rfl (EC.BC rfl) rfl rfl rfl (EC.BC rfl) rfl rfl rfl (EC.BC rfl) rfl rfl ?_|refine L.MY rfl rfl rfl rfl rfl rfl rfl rfl rfl rfl rfl rfl rfl rfl rfl rfl ?_|refine L.bs 0 rfl rfl rfl rfl rfl rfl rfl rfl rfl rfl ?_|refine L.mf rfl rfl rfl rfl ?_|refine L.s3 rfl rfl rfl rfl rfl rfl ?_|refine AX.sk rfl rfl ?_|refine L.Tz rfl rfl rfl rfl rfl ?_|refine L.SO rfl rfl rfl rfl rfl rfl rfl rfl ?_|fail)|fail)|((with_reducible refine D.nil ?_);first|refine AX.Bd ?_|refine AX.G9 (by kernel_rfl) ?_|fail)|fail);exact M.Hid.out k)):P:=h ⟨k⟩
theorem M.gw{P R:Prop}(k:R)(h:M.Hid R->P:=by(intro k;repeat1' (first|((with_reducible refine D.ax ?_);first|((with_reducible refine D.load ?_);first|refine L.Dr rfl rfl rfl rfl rfl rfl ?_|refine L.IV rfl rfl rfl rfl rfl ?_|refine AX.sk rfl rfl ?_|fail)|((with_reducible refine D.move ?_);first|refine L.mv rfl rfl rfl ?_|refine AX.sk rfl rfl ?_|fail)|((with_reducible refine D.fieldAddr ?_);first|refine L.Gp rfl rfl rfl rfl rfl ?_|refine L.Sy rfl rfl rfl rfl rfl rfl ?_|refine AX.sk rfl rfl ?_|fail)|((with_reducible refine D.assign ?_);first|refine L.C6 rfl rfl rfl ?_|refine AX.sk rfl rfl ?_|fail)|((with_reducible refine D.bin ?_);first|refine L.ad rfl rfl rfl rfl (by omega) ?_|refine L.sb rfl rfl rfl rfl (by omega) ?_|refine L.ml rfl rfl rfl rfl (by first|omega|assumption) ?_|refine L.rm rfl rfl rfl rfl (by omega) ?_|refine L.bn rfl rfl rfl rfl rfl ?_|refine AX.sk rfl rfl ?_|refine L.Su rfl rfl rfl rfl rfl ?_|refine L.Mw rfl (by kernel_rfl) rfl rfl rfl rfl ?_|refine L.P2 3 rfl rfl rfl (by kernel_rfl) (by kernel_rfl) (by kernel_rfl) (by kernel_rfl) (by kernel_rfl) rfl ?_|fail)|((with_reducible refine D.call ?_);first|refine L.LJ rfl rfl rfl rfl ?_|refine L.ln rfl rfl rfl rfl ?_|refine L.RY rfl rfl rfl rfl rfl rfl (by first|exact trivial|exact⟨rfl,trivial⟩) rfl rfl (by first|omega|(simp;omega)) ?_|refine L.LI rfl rfl rfl rfl (by first|assumption|simp) rfl rfl rfl (by first|omega|(simp;omega)) ?_|refine AX.sk rfl rfl ?_|refine L.mn rfl rfl rfl rfl ?_|fail)|((with_reducible refine D.extract ?_);first|refine L.ex rfl rfl rfl rfl ?_|refine AX.sk rfl rfl ?_|fail)|((with_reducible refine D.box ?_);first|refine L.bx rfl rfl rfl rfl ?_|refine AX.sk rfl rfl ?_|fail)|((with_reducible refine D.alloc ?_);first|refine L.al rfl rfl rfl ?_|refine AX.sk rfl rfl ?_|fail)|((with_reducible refine D.store ?_);first|refine L.st rfl rfl rfl rfl rfl rfl rfl rfl rfl ?_|refine AX.sk rfl rfl ?_|fail)|((with_reducible refine D.indexAddr ?_);first|refine L.D9 _ rfl rfl rfl rfl rfl rfl rfl (by first|assumption|omega|(simp only[Ty.Ae,Tm.Ae,Wy,W3,Wu,WM];omega)|(simp at*;omega)|(simp;done)|contradiction) ?_|refine L.D9 0 rfl rfl rfl rfl rfl rfl rfl (by first|assumption|omega|(simp only[Ty.Ae,Tm.Ae,Wy,W3,Wu,WM];omega)|(simp at*;omega)|(simp;done)|contradiction) ?_|refine L.D9 1 rfl rfl rfl rfl rfl rfl rfl (by first|assumption|omega|(simp only[Ty.Ae,Tm.Ae,Wy,W3,Wu,WM];omega)|(simp at*;omega)|(simp;done)|contradiction) ?_|refine L.D9 2 rfl rfl rfl rfl rfl rfl rfl (by first|assumption|omega|(simp only[Ty.Ae,Tm.Ae,Wy,W3,Wu,WM];omega)|(simp at*;omega)|(simp;done)|contradiction) ?_|refine AX.sk rfl rfl ?_|refine L.ix 0 rfl rfl rfl rfl rfl (Wz rfl) rfl rfl rfl ?_|refine L.ix 1 rfl rfl rfl rfl rfl (Wz rfl) rfl rfl rfl ?_|refine L.ix 2 rfl rfl rfl rfl rfl (Wz rfl) rfl rfl rfl ?_|fail)|((with_reducible refine D.not ?_);first|refine L.nt rfl rfl rfl ?_|refine AX.sk rfl rfl ?_|fail)|((with_reducible refine D.field ?_);first|refine L.fd rfl rfl rfl rfl rfl rfl ?_|refine AX.sk rfl rfl ?_|fail)|((with_reducible refine D.pick ?_);first|refine L.pk rfl rfl rfl rfl ?_|refine AX.sk rfl rfl ?_|fail)|((fail_if_success (first|with_reducible refine D.assign ?_|with_reducible refine D.load ?_|with_reducible refine D.move ?_|with_reducible refine D.call ?_|with_reducible refine D.fieldAddr ?_|with_reducible refine D.bin ?_|with_reducible refine D.store ?_|with_reducible refine D.extract ?_|with_reducible refine D.pick ?_|with_reducible refine D.indexAddr ?_|with_reducible refine D.not ?_|with_reducible refine D.field ?_|with_reducible refine D.box ?_|with_reducible refine D.alloc ?_));first|refine L.nc rfl rfl rfl rfl ?_|refine L.bd rfl rfl rfl rfl rfl ?_|refine L.JP rfl rfl rfl rfl rfl (EC.BC rfl) rfl rfl ?_|refine L.JP rfl rfl rfl rfl rfl rfl rfl rfl ?_|refine L.Mg rfl rfl rfl rfl rfl (EC.BC rfl) rfl rfl rfl (EC.BC rfl) rfl rfl ?_|refine L.Mg rfl rfl rfl rfl rfl rfl rfl rfl rfl rfl rfl rfl ?_|refine L.MY rfl rfl rfl rfl rfl (EC.BC rfl) rfl rfl rfl (EC.BC rfl) rfl rfl rfl (EC.BC rfl) rfl rfl ?_|refine L.MY rfl rfl rfl rfl rfl rfl rfl rfl rfl rfl rfl rfl rfl rfl rfl rfl ?_|refine L.bs 0 rfl rfl rfl rfl rfl rfl rfl rfl rfl rfl ?_|refine L.mf rfl rfl rfl rfl ?_|refine L.s3 rfl rfl rfl rfl rfl rfl ?_|refine AX.sk rfl rfl ?_|refine L.Tz rfl rfl rfl rfl rfl ?_|refine L.SO rfl rfl rfl rfl rfl rfl rfl rfl ?_|fail)|fail)|((with_reducible refine D.nil ?_);first|refine AX.Bd ?_|refine AX.G9 (by kernel_rfl) ?_|fail)|((with_reducible refine D.aw ?_);first|refine K.sq (AW.AV ?_)|refine K.sq (AW.EP mixed (by kernel_rfl) ?_)|refine K.sq (K.sq ?_)|refine AW.AV ?_|refine AW.EP mixed (by kernel_rfl) ?_|refine K.sq (AW.B4 rfl ?_)|refine K.sq (AW.B6 rfl ?_)|refine AW.B4 rfl ?_|refine AW.B6 rfl ?_|refine AW.skip ?_|refine AW.ret ?_|refine AW.exit ?_|refine K.sq (AW.label ?_)|fail)|with_reducible refine K.tN ?_|with_reducible refine K.bN ?_|with_reducible refine K.tR ?_|with_reducible refine K.bR ?_|with_reducible refine K.gR ?_|with_reducible refine K.dR ?_|with_reducible refine K.cR ?_|with_reducible refine K.lR ?_|with_reducible refine K.tE ?_|with_reducible refine K.bX (by with_unfolding_all rfl) ?_|with_reducible refine K.bO (by with_unfolding_all rfl) ?_|with_reducible refine K.gE (by with_unfolding_all rfl) ?_|with_reducible refine K.gO (by with_unfolding_all rfl) ?_|with_reducible refine K.cE ?_|with_reducible refine K.lE ?_|with_reducible refine K.r1 (by with_unfolding_all rfl) (by with_unfolding_all rfl) ?_|with_reducible refine K.n1 (by with_unfolding_all rfl) (by with_unfolding_all rfl) ?_|with_reducible refine K.hR ?_|with_reducible refine K.tG ?_|with_reducible refine K.bG ?_|with_reducible refine K.fR ?_|with_reducible refine K.pR ?_|with_reducible refine K.uR ?_|with_reducible refine K.uE ?_|fail);exact M.Hid.out k)):P:=h ⟨k⟩
theorem M.F{f:FuncId}{fn:Func}{c:Code}{args:List V}{r:V}{σ':Aq}{rs:List ResultVar}(hf:E.P.funcs[f]? =some fn)(h:AW E N σ.nx c (KQ 0 args) σ (Fk E σ.nx rs r σ'))(hb:fn.body=some c:=by exact rfl)(hname:(fn.name== "runtime.NumGoroutine")=false:=by exact rfl)(hN:fn.ntmps=N:=by exact rfl)(hrs:fn.results=rs.toArray:=by exact rfl)(hargs:Nat.ble args.length N=true:=by exact rfl)(hnx:σ.nx<=σ'.nx:=by exact Wz rfl):
 AC E f args σ r σ':=Go.Ab.AC.mk hf hb hname hN hrs hargs hnx h
end
variable {E:Env} {N:Nat} {k:Nat}
theorem Zsh{g:Gh}{D:Nat->Prop}{w:World}:∀{cs:List V} {vcs:List (List V)},Ed cellsOf cs=some vcs->∀{vs:List Value},vs.length=cs.length->
 (∀(i:Nat) v c,vs[i]? =some v->cs[i]? =some c->Ar g D w v c)->
 (∀v∈(vs.map fun v=>v.cells.toList).flatten,v.oneCell'=true)/\(vs.map fun v=>v.cells.toList).flatten.length=vcs.flatten.length/\
 ∀(i:Nat) v c,(vs.map fun v=>v.cells.toList).flatten[i]? =some v->vcs.flatten[i]? =some c->Ar g D w v c:=by
 intro cs;induction cs with
 |nil=>
  intro vcs hm vs hl h;simp[Ed] at hm;subst hm;obtain rfl:vs=[]:=WB (by simpa using hl);simp
 |cons c cs ih=>
  intro vcs hm vs hl h;cases vs with
  |nil=>simp at hl
  |cons v vs=>
   simp only[Ed,Wx,Wo] at hm;obtain⟨vc,h1,ys,h2,rfl⟩:=hm;obtain⟨us,e1,e2,e3,e4⟩:=vt h1 (h 0 v c rfl rfl);obtain⟨i1,i2,i3⟩:=ih h2 (vs:=vs) (by simpa using hl) (fun i v c hv hc=>h (i+1) v c (by simpa using hv) (by simpa using hc));have e5:v.cells.toList=us:=by rw[e1]
   simp only[Wn,Xd,e5];refine⟨fun x hx=> ?_,by rw[WD,WD,e2,i2],fun i x y hx hy=> ?_⟩
   .rcases WH.1 hx with hx|hx
    .exact e3 x hx
    .exact i1 x hx
   .rcases XM i us.length with hi|hi
    .rw[WC hi] at hx;rw[WC (by omega)] at hy;exact e4 i x y hx hy
    .rw[WG hi] at hx;rw[WG (by omega),<-e2] at hy;exact i3 _ x y hx hy
section
variable {o:Oper} {a:AF}
theorem OS.Qk{t:TypeId}{n m:Nat}{xs:List Operand}{i:TI}{c:Option EC}{sz bytes:Nat}{et:TypeId}{cs:List V}{vcs:List (List V)}
 (ho:o.op= .buildSlice t n (xs.zipIdx.map fun x=>(x.2,x.1)).toArray) (hn:xs.length=n) (ht:E.ti t=some i) (hd:i.desc= .slc c sz bytes) (hev:Eg E et a xs=some cs) (hcs:Ed cellsOf cs=some vcs)
 (hsz:(vcs.all fun vc=>Nat.beq vc.length sz)=true) (hb:Nat.ble (n*sz) 16777216=true):OS E N o a [] (.arr m n sz) [m] [(m,.var vcs.flatten)]:=
 .of_run fun g D es w act hR _ hnm hF=>by
  obtain⟨e,inf,z,h1,h2,h3,h4,h5,h6,h7,h8⟩:=Hx ht hd;obtain⟨h9,h10⟩:=MU hev hR hF;have hsz':∀vc∈vcs,vc.length=sz:=fun vc hvc=>WK (Wm.1 hsz vc hvc);obtain⟨h11,h12⟩:=Sb hcs h9 h10 hsz';obtain⟨f1,f2,f3⟩:=Zsh hcs h9 h10;have hvl:=(L4 hcs).1;have hlen:(xs.map act.eval).length=n:=by simpa using hn
  have hvn:vcs.length=n:=by rw[hvl,<-h9,hlen]
  have hflat:=Se (sz:=sz) (vcs:=(xs.map act.eval).map fun v=>v.cells.toList) (fun vc hvc=>by
   obtain⟨v,hv1,rfl⟩:=WA.1 hvc;simpa using h11 v hv1)
  simp only[Xt,hn] at hflat;obtain⟨hR',hx⟩:=hR.G2 (hnm m (by simp)) (some ⟨w.heap.size,0,n,sz⟩) (vs:=((xs.map act.eval).map fun v=>v.cells.toList).flatten) (cs:=vcs.flatten) e (by rw[f2];exact Wj _) f1 f3
   (fun r hr=>by cases hr;exact hflat)
  refine⟨_,.slice (some ⟨w.heap.size,0,none⟩) n n,_,?_,hR'.more (fun i hi=>by simpa using hi),?_,hx⟩
  .have hb':¬(n*sz>16777216):=by have:=Wz hb;omega
   have hparts:((xs.zipIdx.map fun x=>(x.2,x.1)).toArray.map fun x=>(x.1,act.eval x.2)).toList=((xs.map act.eval).zipIdx 0).map fun(v,i)=>(i,v):=by
    simp[List.zipIdx_map]
   have key:∀cells:Array Value,cells.size=n*sz->Instr.fill (fun i=>some (i*sz,sz)) cells ((xs.zipIdx.map fun x=>(x.2,x.1)).toArray.map fun x=>(x.1,act.eval x.2)).toList=
    some (((xs.map act.eval).map fun v=>v.cells.toList).flatten).toArray:=by
    intro cells hcells;rw[hparts,UE (xs.map act.eval) 0 cells h11 (by rw[hlen,Xg,hcells];exact Wj _)];congr 2;rw[hlen];simp[hcells]
   simp only[execOp,ho,Instr.buildSlice,y0 h1,Sem.run_bind,Result.andThen_ok,wg h2,h3,hb',if_false];by_cases hz:n*sz=0
   .rw[if_pos hz];simp only[Sem.run_bind,Sem.run_pure,Result.andThen_ok];rw[key _ (by rw[YM,YD])];simp only[newRow,Sem.run_bind,run_newObj,Result.andThen_ok,Sem.run_pure,World.alloc_eq]
   .rw[if_neg hz];simp only[Sem.run_bind,NA h2 h5,Result.andThen_ok,Sem.run_pure];rw[key _ (by rw[YM,YD])];simp only[newRow,Sem.run_bind,run_newObj,Result.andThen_ok,Sem.run_pure,World.alloc_eq]
  .exact Ov D g m _ (Wj _)
end
section
variable {dr:Bool} {ops rest:List Oper} {a:AF} {σ:Aq} {acc:List Rec} {Q:Exit->AF->Aq->Prop}
variable {d:Option Tmp} {ty:TypeId} {ps:String} {af:Array Edge} {gd:Option (Nat×Bool)}
theorem L.bsA{t:TypeId}{n:Nat}{pp:List (Nat×Operand)}{z:Nat}{zr:List V}{c:Option EC}{sz bytes:Nat}{cs:List V}{vcs:List (List V)}(et:TypeId)(hw:yb ops a gd=some true)(ht:E.ti t=some ⟨z,zr,.slc c sz bytes⟩)
 (hpp:pp=(pp.map Prod.snd).zipIdx.map fun x=>(x.2,x.1)) (hn:(pp.map Prod.snd).length=n) (hev:Eg E et a (pp.map Prod.snd)=some cs) (hcs:Ed cellsOf cs=some vcs)
 (hsz:(vcs.all fun vc=>Nat.beq vc.length sz)=true) (hb:Nat.ble (n*sz) 16777216=true) (hd:z9 N d=true)
 (h2:AX E N k dr ops rest (a.put d (.arr σ.nx n sz)) (σ.Ay 1 [(σ.nx,.var vcs.flatten)]) (⟨[],.arr σ.nx n sz,1,[(σ.nx,.var vcs.flatten)]⟩::acc) Q):
 AX E N k dr ops (⟨d,.buildSlice t n pp.toArray,ty,ps,af,gd⟩::rest) a σ acc Q:=
 AX.run 1 hw (OS.Qk (et:=et) (by rw[<-hpp]) hn ht rfl (Mt (by intro x hx;simpa[Op.operands] using hx) hev) hcs hsz hb) trivial hd h2
theorem L.O3{t:TypeId}{x:Operand}{z:Nat}{zr:List V}{c:Option EC}{sz bytes:Nat}{v:V}{vc:List V}(et:TypeId)(hw:yb ops a gd=some true)(ht:E.ti t=some ⟨z,zr,.slc c sz bytes⟩)
 (hev:ev E et a x=some v) (hcs:cellsOf v=some vc) (hsz:Nat.beq vc.length sz=true) (hb:Nat.ble (1*sz) 16777216=true) (hd:z9 N d=true)
 (h2:AX E N k dr ops rest (a.put d (.arr σ.nx 1 sz)) (σ.Ay 1 [(σ.nx,.var vc)]) (⟨[],.arr σ.nx 1 sz,1,[(σ.nx,.var vc)]⟩::acc) Q):
 AX E N k dr ops (⟨d,.buildSlice t 1 #[(0,x)],ty,ps,af,gd⟩::rest) a σ acc Q:=by
 have e:[vc].flatten=vc:=by simp
 exact L.bsA (pp:=[(0,x)]) (cs:=[v]) (vcs:=[vc]) et hw ht rfl rfl (by simp[Eg,hev]) (by simp[Ed,hcs]) (by simp only[Xh,Yw,hsz];rfl) hb hd (by rw[e];exact h2)
end
theorem Zlt{P:Program}(w:World){t ti:TypeId}{k:IntKind}{a1 a2 b1 b2:Int}(h1:P.underlying t=some (.struct (P.fieldsOf t)))(h2:P.stoodInHeld t=false)(hi:P.underlying ti=some (.int k))
 (h4:(P.fieldsOf t).toList.map (fun f=>(f.name== "_",f.offset,f.type))=[(false,0,ti),(false,1,ti)]):
 (binOp .eql t (.agg #[.int k a1,.int k a2]) (.agg #[.int k b1,.int k b2])).run P w= .ok (.bool (decide (a1=b1)&&decide (a2=b2))) w:=by
 rw[run_eql_struct,run_equalIn_agg w 9999 t _ _ h1 h2];generalize (P.fieldsOf t).toList=fs at h4
 match fs,h4 with
 |[],h4=>simp at h4
 |[_],h4=>simp at h4
 |_::_::_::_,h4=>simp at h4
 |[f,g],h4=>
  simp only[Wn,WI,YH,Zu,and_true] at h4;obtain⟨⟨n1,o1,t1⟩,n2,o2,t2⟩:=h4;have m1:f.name≠ "_" :=by intro h;rw[h] at n1;simp at n1
  have m2:g.name≠ "_" :=by intro h;rw[h] at n2;simp at n2
  have hp:P.plainKey ti=true:=by unfold Program.plainKey;rw[hi]
  simp only[Op.eqFields,m1,m2,ne_eq,not_false_eq_true,if_true,Sem.run_bind,o1,o2,t1,t2];rw[run_part_plain w hp (v:= .int k a1) rfl,Result.andThen_ok,run_part_plain w hp (v:= .int k b1) rfl,Result.andThen_ok,run_equalIn_int w 9998 ti k k a1 b1 hi,Result.andThen_ok];by_cases e1:a1=b1
  .simp only[e1,beq_self_eq_true,Y0,Yq,if_false,Sem.run_bind];rw[run_part_plain w hp (v:= .int k a2) rfl,Result.andThen_ok,run_part_plain w hp (v:= .int k b2) rfl,Result.andThen_ok,run_equalIn_int w 9998 ti k k a2 b2 hi,Result.andThen_ok];by_cases e2:a2=b2<;>simp[e2]
  .simp[e1]
theorem OS.G5{E:Env}{N:Nat}{o:Oper}{a:AF}{t ti u:TypeId}{x y:Operand}{k:IntKind}{a1 a2 b1 b2:Int}(ho:o.op= .binOp .eql t x y u)(h1:E.P.underlying t=some (.struct (E.P.fieldsOf t)))(h2:E.P.stoodInHeld t=false)
 (h3:E.P.eqGuardType E.P.depth t=false) (hi:E.P.underlying ti=some (.int k)) (h4:(E.P.fieldsOf t).toList.map (fun f=>(f.name== "_",f.offset,f.type))=[(false,0,ti),(false,1,ti)])
 (hx:ev E t a x=some (.agg [.int k a1,.int k a2])) (hy:ev E t a y=some (.agg [.int k b1,.int k b2])):OS E N o a [] (.bool (decide (a1=b1)&&decide (a2=b2))) [] []:=
 .pure fun g D es w act hR _ hF=>by
  have key:∀{z:Operand} {c1 c2:Int},ev E t a z=some (.agg [.int k c1,.int k c2])->act.eval z= .agg #[.int k c1,.int k c2]:=fun {z c1 c2} hz=>by
   obtain⟨vs,e,hl,_,hv⟩:=(z8 hz hR hF).FG
   match vs,hl with
   |[v1,v2],_=>
    have r1:=(hv 0 v1 _ rfl rfl).Bl;have r2:=(hv 1 v2 _ rfl rfl).Bl;rw[e,r1,r2]
  have e1:=key hx;have e2:=key hy;exact⟨.bool (decide (a1=b1)&&decide (a2=b2)),by simp[execOp,ho,e1,e2,run_eqGuard_agg w _ _ _ _ _ _ h3,Zlt w h1 h2 hi h4],.data (.bool _)⟩
section
variable {E:Env} {N k:Nat} {dr:Bool} {ops rest:List Oper} {a:AF} {σ:Aq} {acc:List Rec} {Q:Exit->AF->Aq->Prop}
variable {d:Option Tmp} {ty:TypeId} {ps:String} {af:Array Edge} {gd:Option (Nat×Bool)}
theorem L.P2(ti:TypeId){t u:TypeId}{x y:Operand}{kd:IntKind}{a1 a2 b1 b2:Int}(hw:yb ops a gd=some true)(hx:ev E t a x=some (.agg [.int kd a1,.int kd a2]))(hy:ev E t a y=some (.agg [.int kd b1,.int kd b2]))
 (h1:E.P.underlying t=some (.struct (E.P.fieldsOf t))) (h2:E.P.stoodInHeld t=false) (h3:E.P.eqGuardType E.P.depth t=false) (hi:E.P.underlying ti=some (.int kd))
 (h4:(E.P.fieldsOf t).toList.map (fun f=>(f.name== "_",f.offset,f.type))=[(false,0,ti),(false,1,ti)]) (hd:z9 N d=true)
 (h5:AX E N k dr ops rest (a.put d (.bool (decide (a1=b1)&&decide (a2=b2)))) σ (⟨[],.bool (decide (a1=b1)&&decide (a2=b2)),0,[]⟩::acc) Q):AX E N k dr ops (⟨d,.binOp .eql t x y u,ty,ps,af,gd⟩::rest) a σ acc Q:=
 AX.run 0 hw (OS.G5 rfl h1 h2 h3 hi h4 (fr (by simp[Op.operands,Call.operands]) hx) (fr (by simp[Op.operands,Call.operands]) hy)) trivial hd h5
end
section
variable {E:Env} {N k:Nat} {a:AF} {σ:Aq} {Q:Exit->AF->Aq->Prop} {ops:List Oper} {dr:Bool} {rest:List Oper} {acc:List Rec}
variable {d:Option Tmp} {ty:TypeId} {ps:String} {af:Array Edge} {gd:Option (Nat×Bool)}
structure M.St (n:Nat):Prop where
theorem M.qR{id:Nat}{o:Array Oper}{b:Bool}{z:Code}(s:M.St id)(h:AW E N k (.seq (.region id o b) z) a σ Q):AW E N k (.seq (.region id o b) z) a σ Q:=h
theorem M.qS{id:Nat}{o:Array Oper}{b:Bool}{y z:Code}(s:M.St id)(h:AW E N k (.seq (.seq (.region id o b) y) z) a σ Q):AW E N k (.seq (.seq (.region id o b) y) z) a σ Q:=h
theorem M.qB{ti:Nat}{t u:TypeId}{x y:Operand}{kd:IntKind}{a1 a2 b1 b2:Int}(s:M.St ti)(hw:yb ops a gd=some true)(hx:ev E t a x=some (.agg [.int kd a1,.int kd a2]))(hy:ev E t a y=some (.agg [.int kd b1,.int kd b2]))
 (h1:E.P.underlying t=some (.struct (E.P.fieldsOf t))) (h2:E.P.stoodInHeld t=false) (h3:E.P.eqGuardType E.P.depth t=false) (hi:E.P.underlying ti=some (.int kd))
 (h4:(E.P.fieldsOf t).toList.map (fun f=>(f.name== "_",f.offset,f.type))=[(false,0,ti),(false,1,ti)]) (hd:z9 N d=true)
 (h5:AX E N k dr ops rest (a.put d (.bool (decide (a1=b1)&&decide (a2=b2)))) σ (⟨[],.bool (decide (a1=b1)&&decide (a2=b2)),0,[]⟩::acc) Q):AX E N k dr ops (⟨d,.binOp .eql t x y u,ty,ps,af,gd⟩::rest) a σ acc Q:=
 L.P2 ti hw hx hy h1 h2 h3 hi h4 hd h5
theorem M.gs{P R S:Prop}(k:R)(l:S)(h:M.Hid R->M.Hid S->P:=by(intro k l;(fail_if_success refine AX.wt rfl ?_);(refine AX.gs rfl rfl (fun _=>trivial) ?_ ?_);exact M.Hid.out k;exact M.Hid.out l)):P:=h ⟨k⟩ ⟨l⟩
theorem M.cs{P R S:Prop}(k:R)(l:S)(h:M.Hid R->M.Hid S->P:=by(intro k l;(with_reducible refine D.aw ?_);(refine AW.Dq rfl ?_ ?_);exact M.Hid.out k;exact M.Hid.out l)):P:=h ⟨k⟩ ⟨l⟩
theorem M.ks{P R S:Prop}(k:R)(l:S)(h:M.Hid R->M.Hid S->P:=by(intro k l;(with_reducible refine D.aw ?_);(refine K.sq (AW.Dq rfl ?_ ?_));exact M.Hid.out k;exact M.Hid.out l)):P:=h ⟨k⟩ ⟨l⟩
theorem M.bl{P R:Prop}(k:R)(h:M.Hid R->P:=by(intro k;(with_reducible refine D.blk ?_);(refine AW.block ?_);exact M.Hid.out k)):P:=h ⟨k⟩
theorem M.zb{P R:Prop}(k:R)(h:M.Hid R->P:=by(intro k;(with_reducible refine D.QX ?_);(refine K.sq (AW.block ?_));exact M.Hid.out k)):P:=h ⟨k⟩
theorem M.nl{P R:Prop}(k:R)(h:M.Hid R->P:=by(intro k;(with_reducible refine D.nil ?_);(refine AX.Bd ?_);exact M.Hid.out k)):P:=h ⟨k⟩
theorem M.lt{P:Prop}(h:P:=by((with_reducible show @LT.lt Nat _ _ _);omega)):P:=h
theorem M.le{P:Prop}(h:P:=by((with_reducible show @LE.le Nat _ _ _);omega)):P:=h
theorem M.bp(n:Nat){P R:Prop}(k:R)(h:M.St n->M.Hid R->P:=by(intro s k;(refine M.qB s rfl rfl rfl (by kernel_rfl) (by kernel_rfl) (by kernel_rfl) (by kernel_rfl) (by kernel_rfl) rfl ?_);exact M.Hid.out k)):P:=h ⟨⟩ ⟨k⟩
theorem M.z1(n1:Nat){P R:Prop}(k:R)(h:M.St n1->M.Hid R->P:=by(intro s1 k;(with_reducible refine D.aw ?_);(fail_if_success with_reducible refine M.qR s1 ?_);(fail_if_success with_reducible refine M.qS s1 ?_);(first|refine K.sq (AW.AV ?_)|refine K.sq (AW.EP mixed (by kernel_rfl) ?_)|refine K.sq (K.sq ?_)|refine AW.AV ?_|refine AW.EP mixed (by kernel_rfl) ?_|refine K.sq (AW.B4 rfl ?_)|refine K.sq (AW.B6 rfl ?_)|refine AW.B4 rfl ?_|refine AW.B6 rfl ?_|refine AW.skip ?_|refine AW.ret ?_|refine AW.exit ?_|refine K.sq (AW.label ?_)|refine AW.label ?_|refine AW.goto ?_|fail);exact M.Hid.out k)):P:=h ⟨⟩ ⟨k⟩
theorem M.z2(n1 n2:Nat){P R:Prop}(k:R)(h:M.St n1->M.St n2->M.Hid R->P:=by(intro s1 s2 k;(with_reducible refine D.aw ?_);(fail_if_success with_reducible refine M.qR s1 ?_);(fail_if_success with_reducible refine M.qS s1 ?_);(fail_if_success with_reducible refine M.qR s2 ?_);(fail_if_success with_reducible refine M.qS s2 ?_);(first|refine K.sq (AW.AV ?_)|refine K.sq (AW.EP mixed (by kernel_rfl) ?_)|refine K.sq (K.sq ?_)|refine AW.AV ?_|refine AW.EP mixed (by kernel_rfl) ?_|refine K.sq (AW.B4 rfl ?_)|refine K.sq (AW.B6 rfl ?_)|refine AW.B4 rfl ?_|refine AW.B6 rfl ?_|refine AW.skip ?_|refine AW.ret ?_|refine AW.exit ?_|refine K.sq (AW.label ?_)|refine AW.label ?_|refine AW.goto ?_|fail);exact M.Hid.out k)):P:=h ⟨⟩ ⟨⟩ ⟨k⟩
theorem M.z3(n1 n2 n3:Nat){P R:Prop}(k:R)(h:M.St n1->M.St n2->M.St n3->M.Hid R->P:=by(intro s1 s2 s3 k;(with_reducible refine D.aw ?_);(fail_if_success with_reducible refine M.qR s1 ?_);(fail_if_success with_reducible refine M.qS s1 ?_);(fail_if_success with_reducible refine M.qR s2 ?_);(fail_if_success with_reducible refine M.qS s2 ?_);(fail_if_success with_reducible refine M.qR s3 ?_);(fail_if_success with_reducible refine M.qS s3 ?_);(first|refine K.sq (AW.AV ?_)|refine K.sq (AW.EP mixed (by kernel_rfl) ?_)|refine K.sq (K.sq ?_)|refine AW.AV ?_|refine AW.EP mixed (by kernel_rfl) ?_|refine K.sq (AW.B4 rfl ?_)|refine K.sq (AW.B6 rfl ?_)|refine AW.B4 rfl ?_|refine AW.B6 rfl ?_|refine AW.skip ?_|refine AW.ret ?_|refine AW.exit ?_|refine K.sq (AW.label ?_)|refine AW.label ?_|refine AW.goto ?_|fail);exact M.Hid.out k)):P:=h ⟨⟩ ⟨⟩ ⟨⟩ ⟨k⟩
end
end Go.Ab
namespace Go.Ab
open Go
set_option linter.unusedSimpArgs false
set_option linter.unusedVariables false
section
variable {E:Env} {N k:Nat} {a:AF} {σ:Aq} {o:Oper}
variable {Q:Exit->AF->Aq->Prop} {ops:List Oper} {dr:Bool} {rest:List Oper} {acc:List Rec}
variable {d:Option Tmp} {ty:TypeId} {ps:String} {af:Array Edge} {gd:Option (Nat×Bool)}
theorem OS.min{t u:TypeId}{x y:Operand}{n m:Int}(ho:o.op= .call {callee:= .builtin .min,args:= #[x,y],argTypes:= #[t,u]})(hx:ev E t a x=some (.int .i64 n))(hy:ev E u a y=some (.int .i64 m)):
 OS E N o a [] (.int .i64 (if m<n then m else n)) [] []:=
 .pure fun g D es w act hR _ hF=>by
  have h1:=(z8 hx hR hF).Bl;have h2:=(z8 hy hR hF).Bl;exact⟨_,by simp[execOp,ho,resolve,invoke,builtin,Builtin.min_,Builtin.min2,h1,h2],.data (.int _ _)⟩
theorem L.mn{t u:TypeId}{x y:Operand}{n m:Int}(hw:yb ops a gd=some true)(hx:ev E t a x=some (.int .i64 n))(hy:ev E u a y=some (.int .i64 m))(hd:z9 N d=true)
 (h2:AX E N k dr ops rest (a.put d (.int .i64 (if m<n then m else n))) σ (⟨[],.int .i64 (if m<n then m else n),0,[]⟩::acc) Q):AX E N k dr ops (⟨d,.call ⟨.builtin .min,#[x,y],#[t,u]⟩,ty,ps,af,gd⟩::rest) a σ acc Q:=
 AX.run 0 hw (OS.min rfl (fr (by simp[Op.operands,Call.operands]) hx) (fr (by simp[Op.operands,Call.operands]) hy)) trivial hd h2
end
end Go.Ab
namespace Go.Ab
open Go
set_option linter.all false
def Fh(W:World)(b:Nat):Nat:=match W.heap[b]? with
 |some (.cells cs _ _)=>cs.size
 |_=>0
theorem Vt{W:World}{b o:Nat}{v:Value}(h:W.cell? ⟨b,o,none⟩=some v):o<Fh W b:=by
 unfold Fh;simp only[World.cell?] at h;split at h
 .rename_i cs t fr hh;rw[hh];simp only at h ⊢;exact(W4.1 h).1
 .cases h
def IZ(W:World):Gh:=⟨fun _=>0,fun _=>none,Fh W⟩
def Old(W W':World):Prop:=∀b,b<W.heap.size->W'.heap[b]? =W.heap[b]?
theorem Old.cell{W W':World}(h:Old W W'){a:Addr}{v:Value}(hc:W.cell? a=some v):W'.cell? a=some v:=by
 have hb:a.block<W.heap.size:=by
  simp only[World.cell?] at hc;split at hc
  .rename_i hh;exact(W4.1 hh).1
  .cases hc
 rw[<-hc];simp only[World.cell?,h a.block hb]
theorem Zxw{W:World}{a:Addr}{i:Nat}{v:Value}(hv:W.cell? (a.add i)=some v):a.add i=⟨a.block,a.off+i,none⟩:=by
 have hspot:(a.add i).spot=none:=by
  cases hsp:(a.add i).spot with
  |none=>rfl
  |some s=>
   simp only[World.cell?] at hv;split at hv
   .simp[hsp] at hv
   .cases hv
 unfold Addr.add at hspot ⊢;split
 .rename_i h0;subst h0;rw[if_pos rfl] at hspot;cases a;simp_all
 .rfl
section
variable {H:Type} {enc:TypeId×Value->H} {P:Program} {W:World}
def Rel(W:World)(cs:List Value)(vs:List V):Prop:=cs.length=vs.length/\∀(i:Nat) v c,cs[i]? =some v->vs[i]? =some c->A6 (Fh W) W v c
def QG(enc:TypeId×Value->H)(P:Program)(W:World)(n:Nat)(t:TypeId)(cs:List Value)(x:DataW H×List MemPlace):Prop:=
 ∀W' sp,Old W W'->(∀b,b<W.heap.size->sp b=true)->DataW.trod enc P W' 0 sp true n t cs=some x
def D8(enc:TypeId×Value->H)(P:Program)(W:World)(n:Nat)(t:TypeId)(F:List V->Prop):Prop:=
 ∀cs x,DataW.trod enc P W 0 (fun _=>true) true n t cs=some x->QG enc P W n t cs x/\∃vs,F vs/\Rel W cs vs
theorem Old.cells{W':World}(h:Old W W'){a:Addr}{n:Nat}{cs:List Value}(hc:W.cells? 0 a n=some cs):W'.cells? 0 a n=some cs:=by
 obtain⟨h1,h2,h3⟩:=World.cells?_some hc;exact World.cells?_of_each h1 h2 fun i hi=>by
  have h4:=h3 i hi;rw[Wl (by omega)] at h4 ⊢;exact h.cell h4
theorem Hv{t:TypeId}{k:IntKind}(ht:P.underlying t=some (.int k))(n:Nat):D8 enc P W n t (fun vs=>∃i,vs=[.int k i]/\(Lit.int k i).wf=true):=by
 intro cs x h;obtain⟨i,rfl,rfl,hw⟩:=DataW.trod_int ht h;refine⟨fun W' sp _ _=> ?_,[.int k i],⟨i,rfl,hw⟩,rfl,?_⟩
 .cases n with
  |zero=>simp[DataW.trod] at h
  |succ n=>simp[DataW.trod,ht,hw]
 .intro j v c hv hc;cases j with
  |zero=>simp at hv hc;subst hv;subst hc;exact .int k i
  |succ j=>simp at hv
theorem SJ{α β:Type}{f g:α->Option β}:∀{l:List α} {r:List β},l.mapM f=some r->(∀x∈l,∀y,f x=some y->g x=some y)->l.mapM g=some r:=by
 intro l;induction l with
 |nil=>intro r h _;simpa using h
 |cons x l ih=>
  intro r h hg;simp only[Zj,Option.bind_eq_bind,Wx,Option.pure_def,Wq] at h ⊢;obtain⟨y,h1,ys,h2,rfl⟩:=h;exact⟨y,hg x (by simp) y h1,ys,ih h2 fun z hz=>hg z (by simp[hz]),rfl⟩
theorem S3{t e:TypeId}{c:EC}{n:Nat}(p:c.sem->Prop)(ht:P.underlying t=some (.slice e))(hc:P.cellsOf e=c.cells)(hpos:0<c.cells)(he:D8 enc P W n e (fun vs=>∃y:c.sem,vs=c.view y/\p y))
 {cs:List Value} {x:DataW H×List MemPlace} (h:DataW.trod enc P W 0 (fun _=>true) true (n+1) t cs=some x):
 QG enc P W (n+1) t cs x/\∃vs,(∃ys:List c.sem,vs=[.slice .any (.t c ys)]/\ys.length<=maxLen/\∀y∈ys,p y)/\Rel W cs vs:=by
 have h':=h;rcases DataW.trod_slice ht h with⟨rfl,rfl⟩|⟨a,len,cap,elems,rest,n',hn,rfl,hx,hb,hlc,hcm,hel,hi,hr,_⟩
 .refine ⟨fun W' sp _ _=>by simp[DataW.trod,ht],[.slice .any (.t c [])],⟨[],rfl,XE _,fun y hy=>by cases hy⟩,rfl,?_⟩;intro j v d hv hd;cases j with
  |zero=>simp at hv hd;subst hv;subst hd;exact .nilS _ rfl
  |succ j=>simp at hv
 .cases hn;have key:∀i,i<len->∃us y,W.cells? 0 (a.add (i*P.cellsOf e)) (P.cellsOf e)=some us/\DataW.trod enc P W 0 (fun _=>true) true n e us=some y/\elems[i]? =some y:=by
   intro i hlt;have h1:=hi i hlt;rw[Wl (by omega)] at h1 ⊢;obtain⟨us,h2,h3⟩:=Wx.1 h1;exact⟨us,_,h2,h3,rfl⟩
  have hex:∀k,k<=len->∃ys:List c.sem,ys.length=k/\(∀y∈ys,p y)/\∀i,i<k->∃us y,W.cells? 0 (a.add (i*P.cellsOf e)) (P.cellsOf e)=some us/\ys[i]? =some y/\Rel W us (c.view y):=by
   intro k;induction k with
   |zero=>intro _;exact⟨[],rfl,(fun y hy=>by cases hy),fun i hi=>by omega⟩
   |succ k ih=>
    intro hk;obtain⟨ys,h1,h0,h2⟩:=ih (by omega);obtain⟨us,y,h3,h4,_⟩:=key k (by omega);obtain⟨_,vs,⟨z,rfl,hz⟩,hrel⟩:=he us y h4;refine⟨ys++[z],by simp[h1],(fun y hy=>by
     rcases WH.1 hy with h|h
     .exact h0 y h
     .simp only[WN] at h;subst h;exact hz),fun i hlt=> ?_⟩
    by_cases hik:i<k
    .obtain ⟨us',y',h5,h6,h7⟩:=h2 i hik;exact⟨us',y',h5,by rw[WC (by omega)];exact h6,h7⟩
    .have:i=k:=by omega
     subst this;exact⟨us,z,h3,by rw[WG (by omega)];simp[h1],hrel⟩
  obtain⟨ys,hyl,hyp,hys⟩:=hex len (Wj _);refine⟨fun W' sp hold hsp=> ?_,[.slice .any (.t c ys)],⟨ys,rfl,by omega,hyp⟩,rfl,?_⟩
  ·
   have hcarry:∀i,(W.cells? 0 (a.add (i*P.cellsOf e)) (P.cellsOf e)).bind (DataW.trod enc P W 0 (fun _=>true) true n e)=none\/
    (W'.cells? 0 (a.add (i*P.cellsOf e)) (P.cellsOf e)).bind (DataW.trod enc P W' 0 sp true n e)=(W.cells? 0 (a.add (i*P.cellsOf e)) (P.cellsOf e)).bind (DataW.trod enc P W 0 (fun _=>true) true n e):=by
    intro i;cases hc1:W.cells? 0 (a.add (i*P.cellsOf e)) (P.cellsOf e) with
    |none=>exact .inl rfl
    |some us=>
     cases ht1:DataW.trod enc P W 0 (fun _=>true) true n e us with
     |none=>left;simp[ht1]
     |some y=>
      right;rw[hold.cells hc1];simp only[X3];rw[ht1,(he us y ht1).1 W' sp hold hsp]
   have hblk:0<cap->a.block<W.heap.size:=by
    intro hcap;by_cases hl:0<len
    .obtain ⟨us,y,h3,_⟩:=key 0 hl;have:=World.cells?_block h3 (by omega);simpa[Addr.add] using this
    .obtain ⟨h5,h6⟩:=hr rfl;have h7:=h6 0 (by omega);rw[Wl (by omega)] at h7;obtain⟨us,h8,_⟩:=Wx.1 h7;have:=World.cells?_block h8 (by omega);have e1:(a.add ((len+0)*P.cellsOf e)).block=a.block:=by unfold Addr.add;split<;>rfl
     rw[e1] at this;exact this
   have hspb:cap-len=0\/sp a.block=true:=by
    by_cases hcap:0<cap
    .exact .inr (hsp _ (hblk hcap))
    .left;omega
   unfold DataW.trod at h' ⊢;rw[ht] at h' ⊢;simp only at h' ⊢;have hcond:0<=a.block/\len<=cap/\cap<=maxLen:=⟨hb,hlc,hcm⟩;rw[if_pos hcond] at h' ⊢;obtain⟨el,h1,h2⟩:=Wx.1 h';obtain⟨re,h3,h4⟩:=Wo.1 h2;simp only[if_true] at h3;refine Wx.2 ⟨el,SJ h1 fun i _ y hy=> ?_,Wo.2 ⟨re,?_,h4⟩⟩
   .rcases hcarry i with hc1|hc1
    .rw[hc1] at hy;cases hy
    .rw[hc1];exact hy
   .rcases hspb with h0|h0
    .rw[h0] at h3 ⊢;simp at h3;subst h3;split<;>simp
    .rw[if_pos h0];exact SJ h3 fun j _ y hy=>by
      rcases hcarry (len+j) with hc1|hc1
      .rw[hc1] at hy;cases hy
      .rw[hc1];exact hy
  .intro j v d hv hd;cases j with
   |succ j=>simp at hv
   |zero=>
    simp only[Ys,Wq] at hv hd;subst hv;subst hd;by_cases hlen:len=0
    .subst hlen;exact .emp (.t c ys) hyl a cap
    have hsp0:a=⟨a.block,a.off,none⟩:=by
     obtain⟨us,y,h3,_⟩:=key 0 (by omega);obtain⟨_,h4,h5⟩:=World.cells?_some h3;have h6:=h5 0 (by omega);rw[Wl (by omega)] at h6;have:=Zxw h6;simpa[Addr.add] using this
    obtain⟨ab,ao,as⟩:=a;have:as=none:=by simpa using hsp0
    subst this;have hadd:∀o k,Addr.add (⟨ab,o,none⟩:Addr) k=⟨ab,o+k,none⟩:=fun o k=>by
     unfold Addr.add;split
     .rename_i h0;rw[h0];rfl
     .rfl
    have hget:∀i j,i<ys.length->j<c.cells->∃v,W.cell? ⟨ab,ao+(i*c.cells+j),none⟩=some v/\∀cs d,(SL.t c ys:SL V).get i=some cs->cs[j]? =some d->A6 (Fh W) W v d:=by
     intro i j hi2 hj;obtain⟨us,y,h5,h6,h7,h8⟩:=hys i (by omega);obtain⟨_,h9,h10⟩:=World.cells?_some h5;have h11:=h10 j (by omega);rw[hadd,hadd,Wl (by omega),hc] at h11;refine⟨us[j]'(by omega),by rw[<-Ym];exact h11,fun cs d h12 h13=> ?_⟩;have:cs=c.view y:=by
      simp only[SL.get,h6,Xe,Wq] at h12;exact h12.symm
     subst this;exact h8 j _ d (Wl _) h13
    refine A6.slice (SL.t c ys) ab ao cap (fun i j=>(W.cell? ⟨ab,ao+(i*c.cells+j),none⟩).getD undef) ?_ (by show ys.length<=cap;omega) ?_ ?_ ?_|>fun h=>by rw[show len=(SL.t c ys:SL V).len from hyl.symm];exact h
    .show ao+ys.length*c.cells<=Fh W ab;obtain⟨v,hv,_⟩:=hget (ys.length-1) (c.cells-1) (by omega) (by omega);have:=Vt hv;have e1:(ys.length-1)*c.cells+c.cells=ys.length*c.cells:=by
      rw[<-Nat.succ_mul];congr 1;omega
     omega
    .intro i hi2;exact⟨c.view (ys[i]'hi2),by show(ys[i]?).map c.view=_;rw[Wl (show i<ys.length from hi2)];rfl,EC.Bo _ _⟩
    .intro i j hi2 hj;obtain⟨v,hv,_⟩:=hget i j hi2 hj;show W.cell? ⟨ab,ao+(i*c.cells+j),none⟩=_;rw[hv];rfl
    .intro i j cs d hi2 h12 h13;have hj:j<c.cells:=by
      have:cs=c.view (ys[i]'hi2):=by
       simp only[SL.get,Wl (show i<ys.length from hi2),Xe,Wq] at h12;exact h12.symm
      subst this;have:=(Ww.1 h13).1;rw[EC.Bo] at this;exact this
     obtain⟨v,hv,hd⟩:=hget i j hi2 hj;show A6 _ _ ((W.cell? ⟨ab,ao+(i*c.cells+j),none⟩).getD undef) d;rw[hv];exact hd cs d h12 h13
theorem Zuj{t e:TypeId}{c:EC}{n:Nat}(ht:P.underlying t=some (.slice e))(hc:P.cellsOf e=c.cells)(hpos:0<c.cells)(he:D8 enc P W n e (fun vs=>∃y:c.sem,vs=c.view y))
 {cs:List Value} {x:DataW H×List MemPlace} (h:DataW.trod enc P W 0 (fun _=>true) true (n+1) t cs=some x):
 QG enc P W (n+1) t cs x/\∃vs,(∃ys:List c.sem,vs=[.slice .any (.t c ys)]/\ys.length<=maxLen)/\Rel W cs vs:=by
 obtain⟨h1,vs,⟨ys,h2,h3,_⟩,h4⟩:=S3 (p:=fun _=>True) ht hc hpos (fun cs x hx=>by
  obtain⟨q1,vs,⟨y,q2⟩,q3⟩:=he cs x hx;exact⟨q1,vs,⟨y,q2,trivial⟩,q3⟩) h
 exact⟨h1,vs,⟨ys,h2,h3⟩,h4⟩
theorem Uw{t e:TypeId}{c:EC}{n:Nat}(ht:P.underlying t=some (.slice e))(hc:P.cellsOf e=c.cells)(hpos:0<c.cells)(he:D8 enc P W n e (fun vs=>∃y:c.sem,vs=c.view y)):
 D8 enc P W (n+1) t (fun vs=>∃ys:List c.sem,vs=[.slice .any (.t c ys)]/\ys.length<=maxLen):=fun cs x h=>Zuj ht hc hpos he h
theorem IP{t:TypeId}{F:List V->Prop}:D8 enc P W 0 t F:=fun cs x h=>by simp[DataW.trod] at h
theorem Ztp{t e:TypeId}(ht:P.underlying t=some (.slice e))(he:P.underlying e=some (.int .i64))(hc:P.cellsOf e=1)(n:Nat):D8 enc P W n t (fun vs=>∃ys:List Int,vs=[.slice .any (.t .int ys)]/\ys.length<=maxLen):=by
 cases n with
 |zero=>exact IP
 |succ n=>
  refine Uw (c:= .int) ht hc (by decide) ?_;intro cs x h;obtain⟨h1,vs,⟨i,rfl,_⟩,h2⟩:=Hv he n cs x h;exact⟨h1,_,⟨i,rfl⟩,h2⟩
theorem Oa{t:TypeId}{v:Value}{d:DataW H}{ps:List MemPlace}{F:List V->Prop}(h:DataW.Trod enc P W 0 (fun _=>true) true t v d ps)(hg:∀n,D8 enc P W n t F):
 (∀W' sp,Old W W'->(∀b,b<W.heap.size->sp b=true)->DataW.Trod enc P W' 0 sp true t v d ps)/\∃vs,F vs/\Rel W v.cells.toList vs:=by
 obtain⟨n,hn⟩:=h;obtain⟨h1,h2⟩:=hg n _ _ hn;exact⟨fun W' sp ho hs=>⟨n,h1 W' sp ho hs⟩,h2⟩
theorem Ztq{t e:TypeId}{r:Reach}{base:Nat}{v:Value}(ht:P.underlying t=some (.slice e))(h:Value.okWide P W r base t v):v.cells.toList=[v]:=by
 cases v<;>simp[Value.okWide,ht,Cell.okWide,Cell.ok] at h<;>rfl
theorem U8{v:Value}{c:V}(hv:v.cells.toList=[v])(h:Rel W v.cells.toList [c]):A6 (Fh W) W v c:=by
 obtain⟨_,h2⟩:=h;exact h2 0 v c (by rw[hv];rfl) rfl
theorem Ycu{G:Dm}(hG:∀p∈G,∀(j:Nat) c,p.2[j]? =some c->∃v,W.cell? ⟨p.1,j,none⟩=some v/\A6 (Fh W) W v c):R G (IZ W) (·<0) [] W:=by
 refine⟨fun n e h=>(by cases h),fun n n' e e' b h=>(by cases h),fun n e h=>(by cases h),fun b hb=> ?_,fun p hp=>⟨?_,hG p hp⟩⟩
 .show Fh W b=0;unfold Fh;rw[Za hb]
 .show p.2.length<=Fh W p.1;cases hl:p.2 with
  |nil=>exact XE _
  |cons x l=>
   have hlt:p.2.length-1<p.2.length:=by rw[hl];simp
   obtain⟨v,hv,_⟩:=hG p hp (p.2.length-1) _ (Wl hlt);have:=Vt hv;rw[<-hl];omega
theorem Zrz{g':Gh}{W':World}{F':Nat->Prop}(h:Ext (·<0) (IZ W) (Az (IZ W) []) W g' F' W'):Old W W':=fun b hb=>
 (h.frame b hb fun hf=>by obtain⟨n,e,h1,_⟩:=hf;cases h1).1
theorem Znt{W':World}(h:Old W W')(ho:W'.os=W.os)(hp:W'.output=W.output)(may:MemPlace->Prop):W.keptBut W' may:=by
 refine⟨ho,hp,fun i hi=> ?_⟩;rw[h i hi];exact(World.keptBut_refl W may).2.2 i hi
theorem Zx1{E:Env}{f:FuncId}{args:List V}{vs:List Value}(h:PC E f args (.bool true))(hG:∀p∈E.G,∀(j:Nat) c,p.2[j]? =some c->∃v,W.cell? ⟨p.1,j,none⟩=some v/\A6 (Fh W) W v c)
 (hl:vs.length=args.length) (hr:∀(i:Nat) v c,vs[i]? =some v->args[i]? =some c->Ar (IZ W) (·<0) W v c):
 Calls E.P f vs.toArray W fun e W'=>e= .returned (.bool true)/\Old W W'/\W'.os=W.os/\W'.output=W.output:=by
 obtain⟨_,_,h3⟩:=h;refine(h3 (IZ W) W vs (Ycu hG) hl hr).mono ?_;rintro e W' ⟨v,g',rfl,_,hv,hx⟩;have:=hv.Cd;subst this;exact⟨rfl,Zrz hx,hx.os,hx.output⟩
end
mutual
def Tm.wf:Tm->Prop
 | .mk _ i _ xs=>(-9223372036854775808<=i/\i<=9223372036854775807)/\Tm.EH xs
def Tm.EH:List Tm->Prop
 |[]=>True
 |t::l=>t.wf/\Tm.EH l
end
theorem Tm.Cj:∀l:List Tm,Tm.EH l↔∀x∈l,x.wf
 |[]=>by simp[Tm.EH]
 |t::l=>by simp[Tm.EH,Tm.Cj l]
theorem Tm.DN(t:Tm):t.wf↔(-9223372036854775808<=t.index/\t.index<=9223372036854775807)/\∀x∈t.args,x.wf:=by cases t;simp only[Tm.wf,Tm.Cj];rfl
mutual
def Fm.wf:Fm->Prop
 | .mk _ _ ts xs=>(∀t∈ts,t.wf)/\Fm.EH xs
def Fm.EH:List Fm->Prop
 |[]=>True
 |t::l=>t.wf/\Fm.EH l
end
theorem Fm.Cj:∀l:List Fm,Fm.EH l↔∀x∈l,x.wf
 |[]=>by simp[Fm.EH]
 |t::l=>by simp[Fm.EH,Fm.Cj l]
theorem Fm.DN(f:Fm):f.wf↔(∀t∈f.terms,t.wf)/\∀x∈f.args,x.wf:=by cases f;simp only[Fm.wf,Fm.Cj];rfl
def HA(P:Program)(t:TypeId)(l:List (TypeId×Nat)):Bool:=match P.underlying t with
 |some (.struct fs)=>decide (fs.toList.map (fun f=>(f.type,f.offset))=l)
 |_=>false
theorem VH{P:Program}{t:TypeId}{l:List (TypeId×Nat)}(h:HA P t l=true):∃fs:Array Field,P.underlying t=some (.struct fs)/\fs.toList.map (fun f=>(f.type,f.offset))=l:=by
 unfold HA at h;split at h
 .rename_i fs hfs;exact⟨fs,hfs,by simpa using h⟩
 .cases h
def Hj(P:Program):Nat->List (TypeId×Nat)->Nat->Bool
 |o,[],n=>o==n
 |o,p::l,n=>p.2==o&&Hj P (o+P.cellsOf p.1) l n
inductive Ld:List (List V->Prop)->List V->Prop
 |nil:Ld [] []
 |cons {F:List V->Prop} {Fs:List (List V->Prop)} {a b:List V} (h:F a) (hb:Ld Fs b):Ld (F::Fs) (a++b)
section
variable {H:Type} {enc:TypeId×Value->H} {P:Program} {W:World}
theorem Rel.app{c1 c2:List Value}{v1 v2:List V}(h1:Rel W c1 v1)(h2:Rel W c2 v2):Rel W (c1++c2) (v1++v2):=by
 obtain⟨l1,r1⟩:=h1;obtain⟨l2,r2⟩:=h2;refine⟨by simp[l1,l2],fun i v c hv hc=> ?_⟩;by_cases hi:i<c1.length
 .rw[WC hi] at hv;rw[WC (by omega)] at hc;exact r1 i v c hv hc
 .rw[WG (by omega)] at hv;rw[WG (by omega)] at hc;rw[<-l1] at hc;exact r2 _ v c hv hc
theorem VV{α β:Type}{f:α->Option β}:∀(l:List α) (r:List β),l.length=r.length->(∀(i:Nat) (hi:i<l.length),f l[i]=r[i]?)->l.mapM f=some r
 |[],[],_,_=>rfl
 |[],_::_,h,_=>by simp at h
 |_::_,[],h,_=>by simp at h
 |x::l,y::r,hl,h=>by
  have h0:=h 0 (by simp);simp only[Wu,Ys] at h0;have h1:=VV l r (by simpa using hl) fun i hi=>by have:=h (i+1) (by simpa using hi);simpa using this
  simp[h0,h1]
theorem Up{n:Nat}(cs:List Value):∀(l:List (TypeId×Nat)) (Fs:List (List V->Prop)) (o:Nat),l.length=Fs.length->Hj P o l cs.length=true->
 (∀(i:Nat) (p:TypeId×Nat) (F:List V->Prop),l[i]? =some p->Fs[i]? =some F->∃vs,F vs/\Rel W ((cs.drop p.2).take (P.cellsOf p.1)) vs)->∃vs,Ld Fs vs/\Rel W (cs.drop o) vs
 |[],[],o,_,hc,_=>by
  simp only[Hj,beq_iff_eq] at hc;subst hc;exact⟨[],.nil,by simp,fun i v c hv _=>by simp at hv⟩
 |[],_::_,o,hl,_,_=>by simp at hl
 |_::_,[],o,hl,_,_=>by simp at hl
 |p::l,F::Fs,o,hl,hc,hf=>by
  simp only[Hj,Wk,beq_iff_eq] at hc;obtain⟨a,ha,hra⟩:=hf 0 p F rfl rfl;obtain⟨b,hb,hrb⟩:=Up (n:=n) cs l Fs (o+P.cellsOf p.1) (by simpa using hl) hc.2 fun i q G hq hG=>hf (i+1) q G (by simpa using hq) (by simpa using hG);refine⟨a++b,.cons ha hb,?_⟩;have e:cs.drop o=(cs.drop o).take (P.cellsOf p.1)++cs.drop (o+P.cellsOf p.1):=by rw[<-List.drop_drop,Xp]
  rw[e];rw[hc.1] at hra;exact hra.app hrb
theorem Mp{t:TypeId}{n:Nat}(l:List (TypeId×Nat))(Fs:List (List V->Prop))(ht:HA P t l=true)(hc:Hj P 0 l (P.cellsOf t)=true)(hl:l.length=Fs.length)
 (hg:∀(i:Nat) (p:TypeId×Nat) (F:List V->Prop),l[i]? =some p->Fs[i]? =some F->D8 enc P W n p.1 F):D8 enc P W (n+1) t (Ld Fs):=by
 intro cs x h;obtain⟨fs,hu,hfs⟩:=VH ht;obtain⟨xs,n',hn,hx,hlen,hxl,hel⟩:=DataW.trod_struct hu h;obtain rfl:n=n':=by omega
 have hfl:fs.size=l.length:=by rw[<-hfs];simp
 have key:∀(i:Nat) (f:Field),fs[i]? =some f->∃F y,Fs[i]? =some F/\l[i]? =some (f.type,f.offset)/\DataW.trod enc P W 0 (fun _=>true) true n f.type ((cs.drop f.offset).take (P.cellsOf f.type))=some y/\xs[i]? =some y:=by
  intro i f hf;have hi:i<fs.size:=(W4.1 hf).1;have h1:=hel i f hf;rw[Wl (by omega)] at h1;refine⟨Fs[i]'(by omega),xs[i]'(by omega),Wl (by omega),?_,h1,Wl (by omega)⟩;rw[<-hfs,WY,Array.getElem?_toList,hf];rfl
 refine⟨fun W' sp hold hsp=> ?_,?_⟩
 .rw[hx];refine Go.ChangeShapes.trod_struct_mk hu hlen (VV _ _ (by simpa using hxl.symm) fun i hi=> ?_);have hi':i<fs.size:=by simpa using hi
  obtain⟨F,y',hF,hp,hy',hxi⟩:=key i fs[i] (Xr hi');have e:fs.toList[i]=fs[i]:=by simp
  rw[hxi,e];exact(hg i _ F hp hF _ _ hy').1 W' sp hold hsp
 .obtain ⟨vs,h1,h2⟩:=Up (P:=P) (W:=W) (n:=n) cs l Fs 0 hl (by rw[hlen];exact hc) fun i p F hp hF=>by
   have hi:i<l.length:=(Ww.1 hp).1;obtain⟨F',y,hF',hp',hy,_⟩:=key i (fs[i]'(by omega)) (Xr (by omega));rw[hF] at hF';cases hF';rw[hp] at hp';cases hp';exact(hg i _ F hp hF _ _ hy).2
  exact⟨vs,h1,by simpa using h2⟩
theorem Ye8{α:Type}{a b x:α}{i:Nat}(h:[a,b][i]? =some x):(i=0/\x=a)\/(i=1/\x=b):=by
 match i with
 |0=>exact .inl ⟨rfl,by simpa using h.symm⟩
 |1=>exact .inr ⟨rfl,by simpa using h.symm⟩
 |i+2=>simp at h
theorem RO{α:Type}{a b c d x:α}{i:Nat}(h:[a,b,c,d][i]? =some x):(i=0/\x=a)\/(i=1/\x=b)\/(i=2/\x=c)\/(i=3/\x=d):=by
 match i with
 |0=>exact .inl ⟨rfl,by simpa using h.symm⟩
 |1=>exact .inr (.inl ⟨rfl,by simpa using h.symm⟩)
 |2=>exact .inr (.inr (.inl ⟨rfl,by simpa using h.symm⟩))
 |3=>exact .inr (.inr (.inr ⟨rfl,by simpa using h.symm⟩))
 |i+4=>simp at h
abbrev FI(vs:List V):Prop:=∃i,vs=[V.i i]/\(Lit.int .i64 i).wf=true
abbrev FS(c:EC)(vs:List V):Prop:=∃ys:List c.sem,vs=[V.s c ys]/\ys.length<=maxLen
structure DataT (P:Program) where
 ti:TypeId
 ty:TypeId
 tys:TypeId
 tm:TypeId
 AZ:TypeId
 h0:P.underlying ti=some (.int .i64)
 h1:HA P ty [(ti,0),(tys,1)]=true
 h2:Hj P 0 [(ti,0),(tys,1)] (P.cellsOf ty)=true
 h3:P.underlying tys=some (.slice ty)
 h4:P.cellsOf ty=2
 h5:HA P tm [(ti,0),(ti,1),(ty,2),(AZ,4)]=true
 h6:Hj P 0 [(ti,0),(ti,1),(ty,2),(AZ,4)] (P.cellsOf tm)=true
 h7:P.underlying AZ=some (.slice tm)
 h8:P.cellsOf tm=5
theorem Mq{t:TypeId}{n:Nat}{F G:List V->Prop}(h:D8 enc P W n t F)(hFG:∀vs,F vs->G vs):D8 enc P W n t G:=fun cs x hx=>by
 obtain⟨h1,vs,h2,h3⟩:=h cs x hx;exact⟨h1,vs,hFG vs h2,h3⟩
theorem Yeh{t e:TypeId}{c:EC}(ht:P.underlying t=some (.slice e))(hc:P.cellsOf e=c.cells)(hpos:0<c.cells):∀n,(∀m,m<n->D8 enc P W m e (fun vs=>∃y:c.sem,vs=c.view y))->D8 enc P W n t (FS c)
 |0,_=>IP
 |n+1,h=>Uw ht hc hpos (h n (by omega))
theorem Ou(T:DataT P):∀n,D8 enc P W n T.ty (fun vs=>∃y:Ty,vs=y.view):=by
 intro n;induction n using Nat.strongRecOn with
 |ind n ih=>
  cases n with
  |zero=>exact IP
  |succ n=>
   refine Mq (Mp [(T.ti,0),(T.tys,1)] [FI,FS .ty] T.h1 T.h2 rfl fun i p F hp hF=> ?_) ?_
   .rcases Ye8 hp with⟨rfl,rfl⟩|⟨rfl,rfl⟩
    .cases hF;exact Hv T.h0 n
    .cases hF;exact Yeh (c:= .ty) T.h3 T.h4 (by decide) n fun m hm=>ih m (by omega)
   .intro vs h;cases h with
    |cons h1 h=>cases h with
     |cons h2 h=>cases h with
      |nil=>
       obtain⟨i,rfl,_⟩:=h1;obtain⟨l,rfl,_⟩:=h2;exact⟨.mk i l,rfl⟩
structure FormT (P:Program) extends DataT P where
 fm:TypeId
 CW:TypeId
 k1:HA P fm [(ti,0),(ty,1),(AZ,3),(CW,4)]=true
 k2:Hj P 0 [(ti,0),(ty,1),(AZ,3),(CW,4)] (P.cellsOf fm)=true
 k3:P.underlying CW=some (.slice fm)
 k4:P.cellsOf fm=5
theorem Ydh{t:TypeId}{r:Reach}{base:Nat}{v:Value}{vs:List V}{l:List (TypeId×Nat)}(ht:HA P t l=true)(h:Value.okWide P W r base t v)(hr:Rel W v.cells.toList vs):Ar (IZ W) (·<0) W v (.agg vs):=by
 obtain⟨fs,hu,_⟩:=VH ht;unfold Value.okWide at h;rw[hu] at h;obtain⟨cs,rfl,_,_⟩:=h;have hr':Rel W cs.toList vs:=hr;obtain⟨h1,h2⟩:=hr';have e:cs=cs.toList.toArray:=by simp
 rw[e];refine .agg cs.toList vs h1 (fun v hv=> ?_) fun i v c hv hc=> .data (h2 i v c hv hc);obtain⟨i,hi,rfl⟩:=Ye.1 hv;exact(h2 i _ _ (Wl hi) (Wl (by omega))).one
theorem Yci{t:TypeId}{r:Reach}{base:Nat}{k:IntKind}{v:Value}(ht:P.underlying t=some (.int k))(h:Value.okWide P W r base t v):v.cells.toList=[v]:=by
 cases v<;>simp[Value.okWide,ht,Cell.okWide,Cell.ok] at h<;>rfl
theorem QY{i:Int}(h:(Lit.int .i64 i).wf=true): -9223372036854775808<=i/\i<=9223372036854775807:=by
 have:=(Lit.wf_int_iff .i64 i).1 h;simp[IntKind.min,IntKind.max,IntKind.signed,IntKind.bits] at this;omega
def Pq(enc:TypeId×Value->H)(P:Program)(W:World)(t:TypeId)(v:Value)(d:DataW H)(ps:List MemPlace):Prop:=
 ∀W' sp,Old W W'->(∀b,b<W.heap.size->sp b=true)->DataW.Trod enc P W' 0 sp true t v d ps
abbrev Is(W:World)(v:Value)(c:V):Prop:=Ar (IZ W) (·<0) W v c
theorem Zzx{t e:TypeId}{v:Value}{d:DataW H}{ps:List MemPlace}{r:Reach}{base:Nat}(ht:P.underlying t=some (.slice e))(he:P.underlying e=some (.int .i64))(hc:P.cellsOf e=1)
 (h:DataW.Trod enc P W 0 (fun _=>true) true t v d ps) (hv:Value.okWide P W r base t v):Pq enc P W t v d ps/\∃l:List Int,Is W v (.s .int l)/\l.length<=maxLen:=by
 obtain⟨keep,vs,⟨l,rfl,hl⟩,hr⟩:=Oa h (Ztp ht he hc);exact⟨keep,l,.data (U8 (Ztq ht hv) hr),hl⟩
theorem Ye5{t:TypeId}{v:Value}{d:DataW H}{ps:List MemPlace}{r:Reach}{base:Nat}{k:IntKind}(ht:P.underlying t=some (.int k))
 (h:DataW.Trod enc P W 0 (fun _=>true) true t v d ps) (hv:Value.okWide P W r base t v):Pq enc P W t v d ps/\∃i:Int,Is W v (.int k i)/\(Lit.int k i).wf=true:=by
 obtain⟨keep,vs,⟨l,rfl,hl⟩,hr⟩:=Oa h (Hv ht);exact⟨keep,l,.data (U8 (Yci ht hv) hr),hl⟩
abbrev H8(c:EC)(p:c.sem->Prop)(vs:List V):Prop:=∃ys:List c.sem,vs=[V.s c ys]/\ys.length<=maxLen/\∀y∈ys,p y
theorem JO{t e:TypeId}{c:EC}(p:c.sem->Prop)(ht:P.underlying t=some (.slice e))(hc:P.cellsOf e=c.cells)(hpos:0<c.cells):∀n,(∀m,m<n->D8 enc P W m e (fun vs=>∃y:c.sem,vs=c.view y/\p y))->D8 enc P W n t (H8 c p)
 |0,_=>IP
 |n+1,h=>fun cs x hx=>S3 p ht hc hpos (h n (by omega)) hx
theorem Rn(T:DataT P):∀n,D8 enc P W n T.tm (fun vs=>∃y:Tm,vs=y.view/\y.wf):=by
 intro n;induction n using Nat.strongRecOn with
 |ind n ih=>
  cases n with
  |zero=>exact IP
  |succ n=>
   refine Mq (Mp [(T.ti,0),(T.ti,1),(T.ty,2),(T.AZ,4)] [FI,FI,fun vs=>∃y:Ty,vs=y.view,H8 .tm Tm.wf] T.h5 T.h6 rfl fun i p F hp hF=> ?_) ?_
   .rcases RO hp with⟨rfl,rfl⟩|⟨rfl,rfl⟩|⟨rfl,rfl⟩|⟨rfl,rfl⟩
    .cases hF;exact Hv T.h0 n
    .cases hF;exact Hv T.h0 n
    .cases hF;exact Ou T n
    .cases hF;exact JO (c:= .tm) Tm.wf T.h7 T.h8 (by decide) n fun m hm=>ih m (by omega)
   .intro vs h;cases h with
    |cons h1 h=>cases h with
     |cons h2 h=>cases h with
      |cons h3 h=>cases h with
       |cons h4 h=>cases h with
        |nil=>
         obtain⟨k,rfl,_⟩:=h1;obtain⟨i,rfl,hi⟩:=h2;obtain⟨y,rfl⟩:=h3;obtain⟨l,rfl,_,hl⟩:=h4;exact⟨.mk k i y l,rfl,(Tm.DN _).2 ⟨QY hi,hl⟩⟩
theorem Zza(T:FormT P):∀n,D8 enc P W n T.fm (fun vs=>∃y:Fm,vs=y.view/\y.wf):=by
 intro n;induction n using Nat.strongRecOn with
 |ind n ih=>
  cases n with
  |zero=>exact IP
  |succ n=>
   refine Mq (Mp [(T.ti,0),(T.ty,1),(T.AZ,3),(T.CW,4)] [FI,fun vs=>∃y:Ty,vs=y.view,H8 .tm Tm.wf,H8 .fm Fm.wf] T.k1 T.k2 rfl fun i p F hp hF=> ?_) ?_
   .rcases RO hp with⟨rfl,rfl⟩|⟨rfl,rfl⟩|⟨rfl,rfl⟩|⟨rfl,rfl⟩
    .cases hF;exact Hv T.h0 n
    .cases hF;exact Ou T.toDataT n
    .cases hF;exact JO (c:= .tm) Tm.wf T.h7 T.h8 (by decide) n fun m _=>Rn T.toDataT m
    .cases hF;exact JO (c:= .fm) Fm.wf T.k3 T.k4 (by decide) n fun m hm=>ih m (by omega)
   .intro vs h;cases h with
    |cons h1 h=>cases h with
     |cons h3 h=>cases h with
      |cons h2 h=>cases h with
       |cons h4 h=>cases h with
        |nil=>
         obtain⟨k,rfl,_⟩:=h1;obtain⟨i,rfl,_,hi⟩:=h2;obtain⟨y,rfl⟩:=h3;obtain⟨l,rfl,_,hl⟩:=h4;exact⟨.mk k y i l,rfl,(Fm.DN _).2 ⟨hi,hl⟩⟩
end
mutual
def Pf.wf:Pf->Prop
 | .mk _ i _ ts fs xs=>(-9223372036854775808<=i/\i<=9223372036854775807)/\(∀t∈ts,t.wf)/\(∀f∈fs,f.wf)/\Pf.EH xs
def Pf.EH:List Pf->Prop
 |[]=>True
 |t::l=>t.wf/\Pf.EH l
end
theorem Pf.Cj:∀l:List Pf,Pf.EH l↔∀x∈l,x.wf
 |[]=>by simp[Pf.EH]
 |t::l=>by simp[Pf.EH,Pf.Cj l]
theorem Pf.DN(p:Pf):p.wf↔(-9223372036854775808<=p.index/\p.index<=9223372036854775807)/\(∀t∈p.terms,t.wf)/\(∀f∈p.Ac,f.wf)/\∀x∈p.args,x.wf:=by cases p;simp only[Pf.wf,Pf.Cj];rfl
theorem Yc3{α:Type}{a b c d e f x:α}{i:Nat}(h:[a,b,c,d,e,f][i]? =some x):(i=0/\x=a)\/(i=1/\x=b)\/(i=2/\x=c)\/(i=3/\x=d)\/(i=4/\x=e)\/(i=5/\x=f):=by
 match i with
 |0=>exact .inl ⟨rfl,by simpa using h.symm⟩
 |1=>exact .inr (.inl ⟨rfl,by simpa using h.symm⟩)
 |2=>exact .inr (.inr (.inl ⟨rfl,by simpa using h.symm⟩))
 |3=>exact .inr (.inr (.inr (.inl ⟨rfl,by simpa using h.symm⟩)))
 |4=>exact .inr (.inr (.inr (.inr (.inl ⟨rfl,by simpa using h.symm⟩))))
 |5=>exact .inr (.inr (.inr (.inr (.inr ⟨rfl,by simpa using h.symm⟩))))
 |i+6=>simp at h
structure I7 (P:Program) extends FormT P where
 pf:TypeId
 LW:TypeId
 p1:HA P pf [(ti,0),(ti,1),(ty,2),(AZ,4),(CW,5),(LW,6)]=true
 p2:Hj P 0 [(ti,0),(ti,1),(ty,2),(AZ,4),(CW,5),(LW,6)] (P.cellsOf pf)=true
 p3:P.underlying LW=some (.slice pf)
 p4:P.cellsOf pf=7
section
variable {H:Type} {enc:TypeId×Value->H} {P:Program} {W:World}
theorem Ybj(T:I7 P):∀n,D8 enc P W n T.pf (fun vs=>∃y:Pf,vs=y.view/\y.wf):=by
 intro n;induction n using Nat.strongRecOn with
 |ind n ih=>
  cases n with
  |zero=>exact IP
  |succ n=>
   refine Mq (Mp [(T.ti,0),(T.ti,1),(T.ty,2),(T.AZ,4),(T.CW,5),(T.LW,6)] [FI,FI,fun vs=>∃y:Ty,vs=y.view,H8 .tm Tm.wf,H8 .fm Fm.wf,H8 .pf Pf.wf] T.p1 T.p2 rfl fun i p F hp hF=> ?_) ?_
   .rcases Yc3 hp with⟨rfl,rfl⟩|⟨rfl,rfl⟩|⟨rfl,rfl⟩|⟨rfl,rfl⟩|⟨rfl,rfl⟩|⟨rfl,rfl⟩
    .cases hF;exact Hv T.h0 n
    .cases hF;exact Hv T.h0 n
    .cases hF;exact Ou T.toDataT n
    .cases hF;exact JO (c:= .tm) Tm.wf T.h7 T.h8 (by decide) n fun m _=>Rn T.toDataT m
    .cases hF;exact JO (c:= .fm) Fm.wf T.k3 T.k4 (by decide) n fun m _=>Zza T.toFormT m
    .cases hF;exact JO (c:= .pf) Pf.wf T.p3 T.p4 (by decide) n fun m hm=>ih m (by omega)
   .intro vs h;cases h with
    |cons h1 h=>cases h with
     |cons h2 h=>cases h with
      |cons h3 h=>cases h with
       |cons h4 h=>cases h with
        |cons h5 h=>cases h with
         |cons h6 h=>cases h with
          |nil=>
           obtain⟨k,rfl,_⟩:=h1;obtain⟨i,rfl,hi⟩:=h2;obtain⟨y,rfl⟩:=h3;obtain⟨l,rfl,_,hl⟩:=h4;obtain⟨m,rfl,_,hm⟩:=h5;obtain⟨q,rfl,_,hq⟩:=h6;exact⟨.mk k i y l m q,rfl,(Pf.DN _).2 ⟨QY hi,hl,hm,hq⟩⟩
theorem Ye1(T:I7 P){v:Value}{d:DataW H}{ps:List MemPlace}{r:Reach}{base:Nat}
 (h:DataW.Trod enc P W 0 (fun _=>true) true T.pf v d ps) (hv:Value.okWide P W r base T.pf v):Pq enc P W T.pf v d ps/\∃y:Pf,Is W v (.agg y.view)/\y.wf:=by
 obtain⟨keep,vs,⟨y,rfl,hy⟩,hr⟩:=Oa h (Ybj T);exact⟨keep,y,Ydh T.p1 hv hr,hy⟩
end
end Go.Ab
