/- A part of this seat's proofs. No conditions. -/
import Derived.ChangeKeysEq
import Derived.Laws.Entries
import Derived.MapKept
import Derived.ScopeJumps
import Derived.Test.YtgjekifepogehaaGreatDoorPA1
namespace Go.Ab
open Go
section
variable {E:Env} {N k:Nat} {a:AF} {σ:Aj} {Q:Exit->AF->Aj->Prop} {ops:List Oper} {dr:Bool} {rest:List Oper} {acc:List Rec}
variable {d:Option Tmp} {ty:TypeId} {ps:String} {af:Array Edge} {gd:Option (Nat×Bool)}
namespace D
theorem nil(h:AX E N k dr ops [] a σ acc Q):AX E N k dr ops [] a σ acc Q:=h
theorem ax{o:Oper}(h:AX E N k dr ops (o::rest) a σ acc Q):AX E N k dr ops (o::rest) a σ acc Q:=h
theorem aw{c:Code}(h:AW E N k c a σ Q):AW E N k c a σ Q:=h
theorem blk{id:Nat}{x y:Code}(h:AW E N k (.block id (.seq x y)) a σ Q):AW E N k (.block id (.seq x y)) a σ Q:=h
theorem QN{id:Nat}{x y z:Code}(h:AW E N k (.seq (.block id (.seq x y)) z) a σ Q):AW E N k (.seq (.block id (.seq x y)) z) a σ Q:=h
theorem load{t:TypeId}{x:Operand}(h:AX E N k dr ops (⟨d,.load t x,ty,ps,af,gd⟩::rest) a σ acc Q):AX E N k dr ops (⟨d,.load t x,ty,ps,af,gd⟩::rest) a σ acc Q:=h
theorem store{t:TypeId}{x y:Operand}(h:AX E N k dr ops (⟨d,.store t x y,ty,ps,af,gd⟩::rest) a σ acc Q):AX E N k dr ops (⟨d,.store t x y,ty,ps,af,gd⟩::rest) a σ acc Q:=h
theorem fieldAddr{t:TypeId}{x:Operand}{f:Nat}(h:AX E N k dr ops (⟨d,.fieldAddr t x f,ty,ps,af,gd⟩::rest) a σ acc Q):AX E N k dr ops (⟨d,.fieldAddr t x f,ty,ps,af,gd⟩::rest) a σ acc Q:=h
theorem field{t:TypeId}{x:Operand}{f:Nat}(h:AX E N k dr ops (⟨d,.field t x f,ty,ps,af,gd⟩::rest) a σ acc Q):AX E N k dr ops (⟨d,.field t x f,ty,ps,af,gd⟩::rest) a σ acc Q:=h
theorem move{x:Operand}(h:AX E N k dr ops (⟨d,.move x,ty,ps,af,gd⟩::rest) a σ acc Q):AX E N k dr ops (⟨d,.move x,ty,ps,af,gd⟩::rest) a σ acc Q:=h
theorem assign{x:Operand}(h:AX E N k dr ops (⟨d,.assign x,ty,ps,af,gd⟩::rest) a σ acc Q):AX E N k dr ops (⟨d,.assign x,ty,ps,af,gd⟩::rest) a σ acc Q:=h
theorem pick{c x y:Operand}(h:AX E N k dr ops (⟨d,.pick c x y,ty,ps,af,gd⟩::rest) a σ acc Q):AX E N k dr ops (⟨d,.pick c x y,ty,ps,af,gd⟩::rest) a σ acc Q:=h
theorem box{t:TypeId}{x:Operand}(h:AX E N k dr ops (⟨d,.box t x,ty,ps,af,gd⟩::rest) a σ acc Q):AX E N k dr ops (⟨d,.box t x,ty,ps,af,gd⟩::rest) a σ acc Q:=h
theorem alloc{t:TypeId}(h:AX E N k dr ops (⟨d,.alloc t,ty,ps,af,gd⟩::rest) a σ acc Q):AX E N k dr ops (⟨d,.alloc t,ty,ps,af,gd⟩::rest) a σ acc Q:=h
theorem bin{o:BinOp}{t u:TypeId}{x y:Operand}(h:AX E N k dr ops (⟨d,.binOp o t x y u,ty,ps,af,gd⟩::rest) a σ acc Q):AX E N k dr ops (⟨d,.binOp o t x y u,ty,ps,af,gd⟩::rest) a σ acc Q:=h
theorem call{c:Call}(h:AX E N k dr ops (⟨d,.call c,ty,ps,af,gd⟩::rest) a σ acc Q):AX E N k dr ops (⟨d,.call c,ty,ps,af,gd⟩::rest) a σ acc Q:=h
theorem extract{x:Operand}{n:Nat}(h:AX E N k dr ops (⟨d,.extract x n,ty,ps,af,gd⟩::rest) a σ acc Q):AX E N k dr ops (⟨d,.extract x n,ty,ps,af,gd⟩::rest) a σ acc Q:=h
theorem indexAddr{t:TypeId}{x y:Operand}(h:AX E N k dr ops (⟨d,.indexAddr t x y,ty,ps,af,gd⟩::rest) a σ acc Q):AX E N k dr ops (⟨d,.indexAddr t x y,ty,ps,af,gd⟩::rest) a σ acc Q:=h
theorem not{o:UnOp}{t:TypeId}{x:Operand}(h:AX E N k dr ops (⟨d,.unOp o t x,ty,ps,af,gd⟩::rest) a σ acc Q):AX E N k dr ops (⟨d,.unOp o t x,ty,ps,af,gd⟩::rest) a σ acc Q:=h
theorem H8{id:Nat}{o:Array Oper}{b:Bool}{z:Code}(h:AW E N k (.seq (.region id o b) z) a σ Q):AW E N k (.seq (.region id o b) z) a σ Q:=h
theorem Ih{id:Nat}{o:Array Oper}{b:Bool}{y z:Code}(h:AW E N k (.seq (.seq (.region id o b) y) z) a σ Q):AW E N k (.seq (.seq (.region id o b) y) z) a σ Q:=h
end D
def HE:List Nat->Code->Code
 |[],c=>c
 |0::l,.seq c _=>HE l c
 |_::l,.seq _ c=>HE l c
 |0::l,.cond _ c _=>HE l c
 |_::l,.cond _ _ c=>HE l c
 |_::l,.block _ c=>HE l c
 |_::l,.loop c=>HE l c
 |_::l,.scope c=>HE l c
 |_,c=>c
def Of(f:Func):Code:=f.body.getD .skip
end
end Go.Ab
namespace Go.Ab
open Go
set_option linter.unusedSimpArgs false
set_option linter.unusedVariables false
def Gh.sub(ρ:List (Option Nat))(g:Gh):Gh:={blk:=fun n=>g.blk ((CF ρ n).getD n),row:=fun n=>match CF ρ n with|some m=>g.row m|none=>none,m:=g.m}
theorem Gh.Cw{ρ:List (Option Nat)}{g:Gh}{n n':Nat}(h:CF ρ n=some n'):(g.sub ρ).blk n=g.blk n':=by simp[Gh.sub,h]
theorem Gh.Ds{ρ:List (Option Nat)}{g:Gh}{n n':Nat}(h:CF ρ n=some n'):(g.sub ρ).row n=g.row n':=by simp[Gh.sub,h]
theorem Gh.DN{ρ:List (Option Nat)}{g:Gh}{n:Nat}(h:Dz ρ n=some none):(g.sub ρ).row n=none:=by simp[Gh.sub,CF,h]
theorem RS{ρ:List (Option Nat)}{g:Gh}{es es2:Es}(he:D8 ρ es es2){n:Nat}{e2:A7}{b:Nat}(h1:zg es2 n=some e2)(h2:e2.AB (g.sub ρ) n=some b):∃m e,CF ρ n=some m/\zg es m=some e/\e.AB g m=some b:=by
 have h3:=he.get n e2 h1;cases e2 with
 |var cs=>
  obtain⟨m,hm,cs1,_,cs0,h4,_⟩:=h3;refine⟨m,_,hm,h4,?_⟩;simp only[A7.AB,Gh.Cw hm] at h2 ⊢;exact h2
 |map c ks xs=>
  obtain⟨m,hm,ks0,xs0,h4,_⟩:=h3;refine⟨m,_,hm,h4,?_⟩;simp only[A7.AB,Gh.Cw hm] at h2 ⊢;exact h2
 |row=>
  rcases h3 with h3|⟨m,hm,h4⟩
  .simp[A7.AB,Gh.DN h3] at h2
  .refine ⟨m,_,hm,h4,?_⟩;simp only[A7.AB,Gh.Ds hm] at h2 ⊢;exact h2
 |gone=>cases h2
theorem R.sub{G:DR}{g:Gh}{D:Nat->Prop}{es:Es}{w:World}(hR:R G g D es w){ρ:List (Option Nat)}{es2:Es}(hd:yb ρ=true)(he:D8 ρ es es2):R G (g.sub ρ) (·<ρ.length) es2 w:=by
 have hun:∀{v c c2},Al g D w v c->ww ρ c2=some c->Al (g.sub ρ) (·<ρ.length) w v c2:=fun {v c c2} h hc=>Al.FN (g2:=g.sub ρ) h rfl (fun _ _ h=>Gh.Cw h) (fun _ _ h=>Gh.Ds h) (fun _ h=>Gh.DN h) c2 hc;refine⟨?_,?_,?_,hR.fresh,hR.Fp⟩
 .exact kO
 .intro n n' e e' b h1 h2 h3 h4;obtain⟨m,d,hm,h5,h6⟩:=RS he h1 h3;obtain⟨m',d',hm',h7,h8⟩:=RS he h2 h4;have:=hR.A9 m m' d d' b h5 h7 h6 h8;subst this;exact Xj hd n n' m (uh hm) (uh hm')
 .intro n e h;have h3:=he.get n e h;cases e with
  |var cs=>
   obtain⟨m,hm,cs1,hc1,cs0,h4,h5⟩:=h3;obtain⟨h6,vs,t,h7,h8,h9,h10,h11⟩:=hR.BT m _ h4;refine⟨by rw[Gh.Cw hm];exact h6,vs,t,by rw[Gh.Cw hm];exact h7,?_,h9,?_,by rw[Gh.Ds hm];omega⟩
   .have e1:=h5.len;have e2:=yp hc1;omega
   .exact lG
  |map c ks xs=>
   obtain⟨m,hm,ks0,xs0,h4,rfl,rfl⟩:=h3;obtain⟨h6,vs,t,h7,h8,h9,h9',h10⟩:=hR.BT m _ h4;refine⟨by rw[Gh.Cw hm];exact h6,vs,t,by rw[Gh.Cw hm];exact h7,h8,h9,h9',?_⟩;intro i v x hv hx;exact hun (h10 i v x hv hx) (QO ρ c x)
  |row=>
   intro ρ' hρ';rcases h3 with h3|⟨m,hm,h4⟩
   .rw[Gh.DN h3] at hρ';grind
   .rw[Gh.Ds hm] at hρ';exact hR.BT m _ h4 ρ' hρ'
  |gone=>trivial
def z7(L:List Nat)(nx news:Nat):List Nat:=L++List.range' nx news
def yj(L:List Nat):List (Option Nat):=L.map some
def LS(ρ:List (Option Nat)):A7->Option A7
 | .var cs=>(xu ρ cs).map .var
 | .map c ks xs=>some (.map c ks xs)
 | .row=>some .row
 | .gone=>some .gone
def Gp(ρ:List (Option Nat)):Es->Option Es
 |[]=>some []
 |p::l=>(CF ρ p.1).bind fun n=>(LS ρ p.2).bind fun e=>(Gp ρ l).map fun l'=>(n,e)::l'
def HQ(es:Es):Nat->Bool
 |0=>true
 |n+1=>(zg es n).isSome&&HQ es n
theorem Zpb{es:Es}:∀{n:Nat},HQ es n=true->∀j,j<n->∃e,zg es j=some e:=by
 intro n;induction n with
 |zero=>omega
 |succ n ih=>
  intro h j hj;simp only[HQ,ZC] at h;by_cases hjn:j=n
  .subst hjn;exact bB.1 h.1
  .exact ih h.2 j dY
theorem Rj{L:List Nat}:∀{n:Nat},Dz (yj L) n=(L[n]?).map some:=by
 induction L with
 |nil=>intro n;rfl
 |cons x l ih=>
  intro n;cases n with
  |zero=>rfl
  |succ n=>simp[yj,Dz];exact ih
theorem O0{L:List Nat}{n:Nat}:CF (yj L) n=L[n]? :=by
 simp only[CF,Rj]
 grind
theorem Ztt{ρ:List (Option Nat)}(hd:yb ρ=true):∀{es post:Es},Gp ρ es=some post->∀n e,zg post n=some e->∃j e0,CF ρ j=some n/\zg es j=some e0/\LS ρ e0=some e:=by
 intro es;induction es with
 |nil=>intro post h n e hf;simp[Gp] at h;subst h;cases hf
 |cons p l ih=>
  intro post h n e hf;simp only[Gp,ZL,ZG] at h;obtain⟨m,h1,e1,h2,l',h3,rfl⟩:=h;obtain⟨pn,pe⟩:=p;rw[zm] at hf;by_cases hm:m=n
  .subst hm;rw[if_pos rfl] at hf;cases hf;exact⟨pn,pe,h1,jc,h2⟩
  .rw[if_neg hm] at hf;obtain⟨j,e0,h4,h5,h6⟩:=ih h3 n e hf;refine⟨j,e0,h4,?_,h6⟩;rw[zm,if_neg];all_goals grind
theorem Zpq{ρ:List (Option Nat)}(hd:yb ρ=true):∀{es post:Es},Gp ρ es=some post->∀j e0 n,zg es j=some e0->CF ρ j=some n->∃e,zg post n=some e:=by
 intro es;induction es with
 |nil=>intro post h j e0 n hf;cases hf
 |cons p l ih=>
  intro post h j e0 n hf hn;simp only[Gp,ZL,ZG] at h;obtain⟨m,h1,e1,h2,l',h3,rfl⟩:=h;obtain⟨pn,pe⟩:=p;rw[zm] at hf;rw[zm]
  grind
theorem Zne{l l':Es}{n:Nat}:zg (l++l') n=match zg l n with|some e=>some e|none=>zg l' n:=by
 induction l with
 |nil=>rfl
 |cons p l ih=>
  obtain⟨m,e⟩:=p;rw[aE,zm,zm]
  grind
theorem Zm{es:Es}{n:Nat}{e:A7}(h:zg es n=some e):(n,e)∈es:=by
 induction es with
 |nil=>cases h
 |cons p l ih=>
  obtain⟨m,x⟩:=p;rw[zm] at h
  grind
theorem D8.more{ρ:List (Option Nat)}{pre es:Es}(hp:∀p∈pre,zg es p.1=some p.2):∀{es2:Es},D8 ρ pre es2->D8 ρ es es2:=by
 have key:∀{n e},zg pre n=some e->zg es n=some e:=fun h=>hp _ (Zm h);intro es2;induction es2 with
 |nil=>intro _;trivial
 |cons p l ih=>
  intro h;refine⟨?_,ih h.2⟩;have h1:=h.1
  grind
section
variable {E:Env} {N:Nat} {o:Oper} {a:AF}
theorem AC.use{f:FuncId}{args:List V}{σ σ':Aj}{r r':V}(h:AC E f args σ r σ')(L:List Nat)(nx news:Nat){pre post:Es}(hL:L.length=σ.nx)(hn':σ'.nx=σ.nx+news)(hd:yb (yj (z7 L nx news))=true)
 (hin:D8 (yj L) pre σ.es) (hout:Gp (yj (z7 L nx news)) σ'.es=some post) (hcov:HQ σ'.es σ'.nx=true) (hr':ww (yj (z7 L nx news)) r=some r')
 {g:Gh} {D:Nat->Prop} {es:Es} {w:World} (hR:R E.G g D es w) (hp:∀p∈pre,zg es p.1=some p.2) (hnew:∀n∈List.range' nx news,¬D n) (hLD:∀n∈L,D n) {vs:List Value} {cs:List V} (hl:vs.length=cs.length)
 (hr:∀(i:Nat) v c,vs[i]? =some v->cs[i]? =some c->Al g D w v c) (hle:∃cs1,xu (yj L) args=some cs1/\Bb cs cs1) {P:Ending->World->Prop}
 (hP:∀v g' w',R E.G g' (fun n=>D n\/n∈List.range' nx news) (post++es) w'->Al g' (fun n=>D n\/n∈List.range' nx news) w' v r'->Ext D g (Aq g es) w g' (Aq g' (post++es)) w'->P (.returned v) w'):Calls E.P f vs.toArray w P:=by
 obtain⟨cs1,h1,h2⟩:=hle;obtain⟨_,_,h3⟩:=h;have hin':=hin.more hp;have hlen:(yj L).length=σ.nx:=by simp[yj,hL]
 have hdL:yb (yj L)=true:=by
  have:∀(l:List (Option Nat)) l',yb (l++l')=true->yb l=true:=by
   intro l;induction l with
   |nil=>intro l' _;rfl
   |cons x l ih=>
    intro l' hh;cases x with
    |none=>exact ih l' hh
    |some m=>
     simp only[aE,yb,Z6,ZC] at hh ⊢
     grind
  refine this (yj L) (yj (List.range' nx news)) ?_;rw[<-hd];simp[yj,z7]
 have hRs:R E.G (g.sub (yj L)) (·<σ.nx) σ.es w:=by rw[<-hlen];exact hR.sub hdL hin'
 have hnoneL:∀n,Dz (yj L) n≠some none:=fun n hc=>by rw[Rj] at hc;grind
 refine(h3 (g.sub (yj L)) w vs hRs ja (fun i v c hv hc=> ?_)).mono ?_
 .obtain ⟨c1,hc1⟩:=Ax (yp h1) hc;obtain⟨c0,hc0,hle⟩:=h2.nth i c1 hc1;have:=Al.FN (g2:=g.sub (yj L)) (hle _ _ _ _ (hr i v c0 hv hc0)) rfl (fun _ _ h=>Gh.Cw h) (fun _ _ h=>Gh.Ds h) (fun _ h=>Gh.DN h) c (wj h1 i c c1 hc hc1);simp_all
 .rintro e w' ⟨v,g',rfl,hR',hv,hx⟩
  let M:=z7 L nx news
  let g3:Gh:={blk:=fun n=>if n∈List.range' nx news then g'.blk (σ.nx+(n-nx)) else g.blk n,row:=fun n=>if n∈List.range' nx news then g'.row (σ.nx+(n-nx)) else g.row n,m:=g'.m}
  have hMlen:M.length=σ'.nx:=by simp[M,z7,hL,hn']
  have hg3D:∀n,D n->g3.blk n=g.blk n/\g3.row n=g.row n:=fun n hn=>by
   grind
  have hM:∀j n,M[j]? =some n->(j<σ.nx/\L[j]? =some n/\D n)\/(σ.nx<=j/\n=nx+(j-σ.nx)/\n∈List.range' nx news):=by
   intro j n hj;by_cases hjL:j<L.length
   .rw[show M=L++List.range' nx news from rfl,ai hjL] at hj
    grind
   .rw[show M=L++List.range' nx news from rfl,aj dY] at hj
    grind
  have hg3:∀j n,CF (yj M) j=some n->g'.blk j=g3.blk n/\g'.row j=g3.row n/\(D n\/n∈List.range' nx news):=by
   intro j n hj;rw[O0] at hj;rcases hM j n hj with⟨h4,h5,h6⟩|⟨h4,h5,h6⟩
   .have hs:CF (yj L) j=some n:=by rw[O0];exact h5
    refine⟨?_,?_,.inl h6⟩
    .rw[hx.blk j h4,Gh.Cw hs,(hg3D n h6).1]
    .rw[hx.row j h4,Gh.Ds hs,(hg3D n h6).2]
   grind
  have hallM:∀n,Dz (yj M) n≠some none:=fun n hc=>by rw[Rj] at hc;grind
  have hren:∀{v c c'},Al g' (·<σ'.nx) w' v c'->ww (yj M) c'=some c->Al g3 (fun n=>D n\/n∈List.range' nx news) w' v c:=fun {v c c'} hv hc=>
   Al.Hz (g2:=g') (g:=g3) hv rfl (fun j n hj=>⟨(hg3 j n hj).1,(hg3 j n hj).2.2⟩) (fun j n hj=>(hg3 j n hj).2.1) hallM c hc
  have hfootin:∀b,Aq (g.sub (yj L)) σ.es b->∃m e,m∈L/\zg es m=some e/\e.AB g m=some b:=by
   rintro b ⟨n,e2,h4,h5⟩;obtain⟨m,e,h6,h7,h8⟩:=RS hin' h4 h5;rw[O0] at h6
   grind
  have hentfoot:∀{j n e0 e b},CF (yj M) j=some n->LS (yj M) e0=some e->e.AB g3 n=some b->e0.AB g' j=some b:=by
   intro j n e0 e b hj he hb;cases e0 with
   |var cs=>
    simp only[LS,ZG] at he;obtain⟨cs',_,rfl⟩:=he;simp only[A7.AB] at hb ⊢
    grind
   |map c ks xs=>
    cases he;simp only[A7.AB] at hb ⊢
    grind
   |row=>cases he;simp only[A7.AB] at hb ⊢;grind
   |gone=>cases he;cases hb
  have hcase:∀n e,zg (post++es) n=some e->(∃j e0,CF (yj M) j=some n/\zg σ'.es j=some e0/\LS (yj M) e0=some e)\/(n∉M/\zg es n=some e):=by
   intro n e hf;rw[Zne] at hf;cases hpn:zg post n with
   |some e1=>
    rw[hpn] at hf;simp only[ZI] at hf;subst hf;exact .inl (Ztt hd hout n e1 hpn)
   |none=>
    rw[hpn] at hf;refine .inr ⟨fun hm=> ?_,hf⟩;obtain⟨j,hj⟩:=cQ.1 hm;have hjlt:j<σ'.nx:=ei
    obtain⟨e0,he0⟩:=Zpb hcov j hjlt;obtain⟨e1,he1⟩:=Zpq hd hout j e0 n he0 (by rw[O0];exact hj)
    grind
  have hsub:∀b,Aq (g.sub (yj L)) σ.es b->Aq g es b:=fun b hb=>by
   obtain⟨m,e,_,h5,h6⟩:=hfootin b hb;exact⟨m,e,h5,h6⟩
  have hold:∀n e b,n∉M->zg es n=some e->e.AB g n=some b->¬Aq (g.sub (yj L)) σ.es b:=by
   intro n e b hn hf hb hc;obtain⟨m,e',h4,h5,h6⟩:=hfootin b hc;have:=hR.A9 n m e e' b hf h5 hb h6;subst this;exact hn (aU _ h4)
  have holdfoot:∀n e b,n∉M->zg es n=some e->e.AB g3 n=some b->e.AB g n=some b:=by
   intro n e b hn hf hb;have h4:=hg3D n (hR.lt n e hf);cases e with
   |var cs=>simp only[A7.AB] at hb ⊢;grind
   |map c ks xs=>simp only[A7.AB] at hb ⊢;grind
   |row=>simp only[A7.AB] at hb ⊢;grind
   |gone=>cases hb
  have hext:Ext D g (Aq g es) w g3 (Aq g3 (post++es)) w':=by
   refine⟨hx.os,hx.tape,hx.output,hx.size,hx.cells,hx.mark,fun n hn=>(hg3D n hn).1,fun n hn=>(hg3D n hn).2,fun b hb hF=>hx.frame b hb fun hc=>hF (hsub b hc),?_⟩;rintro b ⟨n,e,h4,h5⟩;rcases hcase n e h4 with⟨j,e0,h6,h7,h8⟩|⟨h6,h7⟩
   .exact (hx.CM b ⟨j,e0,h7,hentfoot h6 h8 h5⟩).imp (hsub b) id
   .exact .inl ⟨n,e,h7,holdfoot n e b h6 h7 h5⟩
  refine hP v g3 w' ?_ (hren hv hr') hext;refine hR.step hx.mark hx.cells (fun n hn=> .inl hn) (fun n hn=>(hg3D n hn).1) (fun n hn=>(hg3D n hn).2) (fun n e hf=> ?_) ?_ hR'.fresh
  .rcases hcase n e hf with⟨j,e0,h6,h7,h8⟩|⟨h6,h7⟩
   .refine .inr ⟨(hg3 j n h6).2.2,?_⟩;have he:=hR'.BT j e0 h7;cases e0 with
    |var cs0=>
     simp only[LS,ZG] at h8;obtain⟨cs',hcs,rfl⟩:=h8;obtain⟨h9,vs',t,h10,h11,h12,h13,h14⟩:=he;refine⟨ei,vs',t,ei,by have e1:=yp hcs;omega,h12,fun i v c hv hc=> ?_,ei⟩;obtain⟨c0,hc0⟩:=Ax (yp hcs).symm hc;exact hren (h13 i v c0 hv hc0) (wj hcs i c0 c hc0 hc)
    |map c ks xs=>
     cases h8;obtain⟨h9,vs',t,h10,h11,h12,h12',h13⟩:=he;refine⟨ei,vs',t,ei,h11,h12,h12',fun i v x hv hx=> ?_⟩;exact hren (h13 i v x hv hx) (QO _ c x)
    |row=>cases h8;intro ρ' hρ';exact he ρ' ei
    |gone=>cases h8;trivial
   .refine .inl ⟨h7,fun b hb=> ?_⟩;exact hx.frame b (hR.BB h7 hb) (hold n e b h6 h7 hb)
  .intro n n' e e' b h4 h5 h6 h7;rcases hcase n e h4 with⟨j,e0,h8,h9,h10⟩|⟨h8,h9⟩<;>rcases hcase n' e' h5 with⟨j',e0',h8',h9',h10'⟩|⟨h8',h9'⟩
   .have:=hR'.A9 j j' e0 e0' b h9 h9' (hentfoot h8 h10 h6) (hentfoot h8' h10' h7)
    grind
   .exfalso;have hb:=holdfoot n' e' b h8' h9' h7;rcases hx.CM b ⟨j,e0,h9,hentfoot h8 h10 h6⟩ with hf|hf
    .grind
    .have:=hR.BB h9' hb;omega
   .exfalso;have hb:=holdfoot n e b h8 h9 h6;rcases hx.CM b ⟨j',e0',h9',hentfoot h8' h10' h7⟩ with hf|hf
    .grind
    .have:=hR.BB h9 hb;omega
   .exact hR.A9 n n' e e' b h9 h9' (holdfoot n e b h8 h9 h6) (holdfoot n' e' b h8' h9' h7)
theorem V0{G:DR}{L:List Nat}{pre:Es}(h:(L.all fun n=>(zg pre n).isSome)=true){g:Gh}{D:Nat->Prop}{es:Es}{w:World}(hR:R G g D es w)(hp:∀p∈pre,zg es p.1=some p.2):∀n∈L,D n:=fun n hn=>by
 obtain⟨e,he⟩:=bB.1 (ZH.1 h n hn);exact hR.lt n e (hp _ (Zm he))
theorem OS.Nu{f:FuncId}{xs:List Operand}{ts:Array TypeId}{cs args:List V}{σ σ':Aj}{r r':V}{L:List Nat}{nx news:Nat}{pre post:Es}(ho:o.op= .call {callee:= .value (.func f),args:=xs.toArray,argTypes:=ts})(hx:DS E a xs ts.toList=some cs)(h:AC E f args σ r σ')
 (hL:L.length=σ.nx) (hn':σ'.nx=σ.nx+news) (hd:yb (yj (z7 L nx news))=true) (hin:D8 (yj L) pre σ.es) (hout:Gp (yj (z7 L nx news)) σ'.es=some post) (hcov:HQ σ'.es σ'.nx=true)
 (hr':ww (yj (z7 L nx news)) r=some r') (hLp:(L.all fun n=>(zg pre n).isSome)=true) (hle:∃cs1,xu (yj L) args=some cs1/\Bb cs cs1):OS E N o a pre r' (List.range' nx news) post:=by
 intro g D es w act hR hp hn hF K Q hK;obtain⟨h1,h2⟩:=Nn hx hR hF;exact Po ho h.1 (h.use L nx news hL hn' hd hin hout hcov hr' hR hp hn (V0 hLp hR hp) h1 h2 hle fun v g' w' h3 h4 h5=>⟨v,rfl,hK g' v w' h3 h4 h5⟩)
theorem OS.KK{x:Operand}{f:FuncId}{fi caps:List V}{xs:List Operand}{ts:Array TypeId}{cs args:List V}{σ σ':Aj}{r r':V}{L:List Nat}{nx news:Nat}{pre post:Es}(ho:o.op= .call {callee:= .value x,args:=xs.toArray,argTypes:=ts})(hf:ev E 0 a x=some (.fn (.func f) fi caps))
 (hx:DS E a xs ts.toList=some cs) (h:AC E f args σ r σ')
 (hL:L.length=σ.nx) (hn':σ'.nx=σ.nx+news) (hd:yb (yj (z7 L nx news))=true) (hin:D8 (yj L) pre σ.es) (hout:Gp (yj (z7 L nx news)) σ'.es=some post) (hcov:HQ σ'.es σ'.nx=true)
 (hr':ww (yj (z7 L nx news)) r=some r') (hLp:(L.all fun n=>(zg pre n).isSome)=true) (hle:∃cs1,xu (yj L) args=some cs1/\Bb (fi++cs++caps) cs1):OS E N o a pre r' (List.range' nx news) post:=by
 intro g D es w act hR hp hn hF K Q hK;obtain⟨h1,h2⟩:=Nn hx hR hF;obtain⟨vs,us,h6,h7,h8,h9,h10⟩:=(z6 hf hR hF).HX;refine Yb6 ho h6 h.1 (h.use L nx news hL hn' hd hin hout hcov hr' hR hp hn (V0 hLp hR hp) (cs:=fi++cs++caps) ei (fun i v c hv hc=> ?_) hle fun v g' w' h3 h4 h5=>⟨v,rfl,hK g' v w' h3 h4 h5⟩)
 grind
end
def He(es:Es):List Nat->Option Es
 |[]=>some []
 |n::l=>(zg es n).bind fun e=>(He es l).map fun l'=>(n,e)::l'
theorem Xq{es:Es}:∀{L:List Nat} {pre:Es},He es L=some pre->HL es pre:=by
 intro L;induction L with
 |nil=>intro pre h;simp[He] at h;subst h;trivial
 |cons n l ih=>
  intro pre h;simp only[He,ZL,ZG] at h;obtain⟨e,h1,l',h2,rfl⟩:=h;exact⟨h1,ih h2⟩
theorem UO{es:Es}:∀{L:List Nat} {pre:Es},He es L=some pre->(L.all fun n=>(zg pre n).isSome)=true:=by
 have key:∀{L:List Nat} {pre:Es},He es L=some pre->∀n∈L,(zg pre n).isSome=true:=by
  intro L;induction L with
  |nil=>simp
  |cons n l ih=>
   intro pre h m hm;simp only[He,ZL,ZG] at h;obtain⟨e,h1,l',h2,rfl⟩:=h;rw[zm]
   grind
 grind
section
variable {E:Env} {N k:Nat} {a:AF} {σ:Aj} {Q:Exit->AF->Aj->Prop} {ops:List Oper} {dr:Bool} {rest:List Oper} {acc:List Rec}
variable {d:Option Tmp} {ty:TypeId} {ps:String} {af:Array Edge} {gd:Option (Nat×Bool)}
namespace L
theorem cb{f:FuncId}{xs:List Operand}{ts:List TypeId}{cs args cs1:List V}{σ1 σ2:Aj}{r r':V}{pre post:Es}(h:AC E f args σ1 r σ2)(L:List Nat)(news:Nat)(hw:zy ops a gd=some true)(hx:DS E a xs ts=some cs)(hpre:He σ.es L=some pre)
 (hL:L.length=σ1.nx) (hn':σ2.nx=σ1.nx+news) (hd:yb (yj (z7 L σ.nx news))=true) (hin:D8 (yj L) pre σ1.es) (hout:Gp (yj (z7 L σ.nx news)) σ2.es=some post) (hcov:HQ σ2.es σ2.nx=true)
 (hr':ww (yj (z7 L σ.nx news)) r=some r') (hle:Bb cs cs1) (hr:xu (yj L) args=some cs1) (hdst:zw N d=true)
 (h2:AX E N k dr ops rest (a.put d r') (σ.Aw news post) (⟨pre,r',news,post⟩::acc) Q):AX E N k dr ops (⟨d,.call ⟨.value (.func f),xs.toArray,ts.toArray⟩,ty,ps,af,gd⟩::rest) a σ acc Q:=
 AX.run news hw (OS.Nu rfl (RL jA hx) h hL hn' hd hin hout hcov hr' (UO hpre) ⟨cs1,hr,hle⟩) (Xq hpre) hdst h2
theorem cv{x:Operand}{f:FuncId}{fi caps:List V}{xs:List Operand}{ts:List TypeId}{cs args cs1:List V}{σ1 σ2:Aj}{r r':V}{pre post:Es}(h:AC E f args σ1 r σ2)(L:List Nat)(news:Nat)(hw:zy ops a gd=some true)(hf:ev E 0 a x=some (.fn (.func f) fi caps))(hx:DS E a xs ts=some cs)
 (hpre:He σ.es L=some pre) (hL:L.length=σ1.nx) (hn':σ2.nx=σ1.nx+news) (hd:yb (yj (z7 L σ.nx news))=true) (hin:D8 (yj L) pre σ1.es) (hout:Gp (yj (z7 L σ.nx news)) σ2.es=some post) (hcov:HQ σ2.es σ2.nx=true)
 (hr':ww (yj (z7 L σ.nx news)) r=some r') (hle:Bb (fi++cs++caps) cs1) (hr:xu (yj L) args=some cs1) (hdst:zw N d=true)
 (h2:AX E N k dr ops rest (a.put d r') (σ.Aw news post) (⟨pre,r',news,post⟩::acc) Q):AX E N k dr ops (⟨d,.call ⟨.value x,xs.toArray,ts.toArray⟩,ty,ps,af,gd⟩::rest) a σ acc Q:=
 AX.run news hw (OS.KK rfl (fr eA hf) (RL (by intro y hy;simp[Op.operands,Call.operands,hy]) hx) h hL hn' hd hin hout hcov hr' (UO hpre) ⟨cs1,hr,hle⟩) (Xq hpre) hdst h2
end L
end
mutual
def V.wk:V->V
 | .slice _ l=> .slice .any l
 | .agg cs=> .agg (V.An cs)
 | .AM cs=> .AM (V.An cs)
 |v=>v
def V.An:List V->List V
 |[]=>[]
 |c::cs=>c.wk::V.An cs
end
mutual
theorem Ai.wk:∀c:V,Ai c c.wk
 | .slice sp l=> .any sp l
 | .agg cs=> .agg (Bb.An cs)
 | .AM cs=> .AM (Bb.An cs)
 | .int _ _| .bool _| .str _| .nil| .addr _| .ptr _ _| .arr _ _ _| .mp _| .nilp| .fn _ _ _| .nilf| .raw _| .ifc _ _=> .refl _
theorem Bb.An:∀cs:List V,Bb cs (V.An cs)
 |[]=>trivial
 |c::cs=>⟨Ai.wk c,Bb.An cs⟩
end
theorem OS.mul{E:Env}{N:Nat}{o:Oper}{a:AF}{t u:TypeId}{x y:Operand}{n m:Int}(ho:o.op= .binOp .mul t x y u)(hx:ev E t a x=some (.i n))(hy:ev E t a y=some (.i m))(h1: -9223372036854775808<=n*m)(h2:n*m<=9223372036854775807):
 OS E N o a [] (.i (n*m)) [] []:=by
 have:=OS.bin (N:=N) (c:= .int .i64 (IntKind.i64.wrap (n*m))) ho hx hy rfl
 rwa [IntWalk.i64_in _ dY] at this
section
variable {E:Env} {N k:Nat} {a:AF} {σ:Aj}
theorem K.r1{rs:List ResultVar}{r:V}{cs:List V}{c1:V}(h1:Gi E a σ.es rs=some cs)(h7:ww [] r=some c1)(h8:(zh cs).wk=c1):FV E 0 rs r ⟨0,[]⟩ .ret a σ:=
 K.r0 h1 h7 (h8▸Ai.wk _)
theorem K.n1{rs:List ResultVar}{r:V}{cs:List V}{c1:V}(h1:Gi E a σ.es rs=some cs)(h7:ww [] r=some c1)(h8:(zh cs).wk=c1):FV E 0 rs r ⟨0,[]⟩ .normal a σ:=
 K.r1 (rs:=rs) h1 h7 h8
theorem K.r2{rs:List ResultVar}{r:V}{σ':Aj}{cs:List V}{c1:V}(ρ:List (Option Nat))(h1:Gi E a σ.es rs=some cs)(h2:ρ.length=σ'.nx)(h3:Hs 0 k ρ=true)(h4:yb ρ=true)(h5:below σ.nx ρ=true)
 (h6:D8 ρ σ.es σ'.es) (h7:ww ρ r=some c1) (h8:(zh cs).wk=c1):FV E k rs r σ' .ret a σ:=K.rt ρ h1 h2 h3 h4 h5 h6 h7 (h8▸Ai.wk _)
theorem K.n2{rs:List ResultVar}{r:V}{σ':Aj}{cs:List V}{c1:V}(ρ:List (Option Nat))(h1:Gi E a σ.es rs=some cs)(h2:ρ.length=σ'.nx)(h3:Hs 0 k ρ=true)(h4:yb ρ=true)(h5:below σ.nx ρ=true)
 (h6:D8 ρ σ.es σ'.es) (h7:ww ρ r=some c1) (h8:(zh cs).wk=c1):FV E k rs r σ' .normal a σ:=K.r2 (rs:=rs) ρ h1 h2 h3 h4 h5 h6 h7 h8
variable {Q:Exit->AF->Aj->Prop} {ops:List Oper} {dr:Bool} {rest:List Oper} {acc:List Rec}
variable {d:Option Tmp} {ty:TypeId} {ps:String} {af:Array Edge} {gd:Option (Nat×Bool)}
namespace L
theorem VC{t:TypeId}{s x:Operand}{z:Nat}{zr:List V}{e:EC}{co:Option EC}{sz bytes:Nat}{sp sp':Sp}{l l':List e.sem}(hw:zy ops a gd=some true)(hs:ev E t a s=some (.slice sp (.t e l)))(hx:ev E t a x=some (.slice sp' (.t e l')))(ht:E.ti t=some ⟨z,zr,.slc co sz bytes⟩)
 (hsp:OK sp=true) (hsz:Nat.beq e.cells sz=true) (hp:HL σ.es (JB sp)) (hd:zw N d=true) (hby:Nat.ble bytes 128=true)
 (hb:l.length+l'.length<=1099511627776) (h2:AX E N k dr ops rest (a.put d (.slice (.own σ.nx) (.t e (l++l')))) (σ.Aw 1 (J4 σ.nx sp)) (⟨JB sp,.slice (.own σ.nx) (.t e (l++l')),1,J4 σ.nx sp⟩::acc) Q):
 AX E N k dr ops (⟨d,.call ⟨.builtin .append,#[s,x],#[t,t]⟩,ty,ps,af,gd⟩::rest) a σ acc Q:=
 L.ap hw hs hx ht hsp (l2:= .t e (l++l')) (by simp[SL.app]) hsz hp hd
  (by
   have h3:bytes<=128:=ZP hby;have h4:(l.length+l'.length)*bytes<=1099511627776*128:=bh hb h3;exact⟨gX,gX⟩) h2
theorem Ou{t:TypeId}{s x:Operand}{z:Nat}{zr:List V}{e:EC}{co:Option EC}{sz bytes:Nat}{sp':Sp}{l l':List e.sem}(hw:zy ops a gd=some true)(hs:ev E t a s=some (.slice .full (.t e l)))(hx:ev E t a x=some (.slice sp' (.t e l')))(ht:E.ti t=some ⟨z,zr,.slc co sz bytes⟩)
 (hsp:0<l'.length) (hsz:Nat.beq e.cells sz=true) (hd:zw N d=true) (hby:Nat.ble bytes 128=true)
 (hb:l.length+l'.length<=1099511627776) (h2:AX E N k dr ops rest (a.put d (.slice (.own σ.nx) (.t e (l++l')))) (σ.Aw 1 [(σ.nx,.row)]) (⟨[],.slice (.own σ.nx) (.t e (l++l')),1,[(σ.nx,.row)]⟩::acc) Q):
 AX E N k dr ops (⟨d,.call ⟨.builtin .append,#[s,x],#[t,t]⟩,ty,ps,af,gd⟩::rest) a σ acc Q:=
 L.apF hw hs hx ht ⟨rfl,hsp⟩ (l2:= .t e (l++l')) (by simp[SL.app]) hsz trivial hd
  (by
   have h3:bytes<=128:=ZP hby;have h4:(l.length+l'.length)*bytes<=1099511627776*128:=bh hb h3;exact⟨gX,gX⟩) h2
theorem ml{t u:TypeId}{x y:Operand}{n m:Int}(hw:zy ops a gd=some true)(hx:ev E t a x=some (.int .i64 n))(hy:ev E t a y=some (.int .i64 m))(hd:zw N d=true)(h1: -9223372036854775808<=n*m/\n*m<=9223372036854775807)
 (h2:AX E N k dr ops rest (a.put d (.int .i64 (n*m))) σ (⟨[],.int .i64 (n*m),0,[]⟩::acc) Q):AX E N k dr ops (⟨d,.binOp .mul t x y u,ty,ps,af,gd⟩::rest) a σ acc Q:=
 AX.run 0 hw (OS.mul rfl (fr eA hx) (fr eA hy) h1.1 h1.2) trivial hd h2
theorem rm{t u:TypeId}{x y:Operand}{kd:IntKind}{n m:Int}(hw:zy ops a gd=some true)(hx:ev E t a x=some (.int kd n))(hy:ev E t a y=some (.int kd m))(hd:zw N d=true)(h1:m≠0)
 (h2:AX E N k dr ops rest (a.put d (.int kd (n.tmod m))) σ (⟨[],.int kd (n.tmod m),0,[]⟩::acc) Q):AX E N k dr ops (⟨d,.binOp .rem t x y u,ty,ps,af,gd⟩::rest) a σ acc Q:=
 AX.run 0 hw (OS.rem rfl (fr eA hx) (fr eA hy) h1) trivial hd h2
theorem c2{f:FuncId}{xs:List Operand}{ts:List TypeId}{cs args:List V}{r:V}(h:PC E f args r)(hw:zy ops a gd=some true)(hx:DS E a xs ts=some cs)(hr:xu [] args=some (V.An cs))(hd:zw N d=true)
 (h2:AX E N k dr ops rest (a.put d r) σ (⟨[],r,0,[]⟩::acc) Q):AX E N k dr ops (⟨d,.call ⟨.value (.func f),xs.toArray,ts.toArray⟩,ty,ps,af,gd⟩::rest) a σ acc Q:=
 L.c0 h hw hx hr (Bb.An cs) hd h2
theorem Mt{f:FuncId}{xs:List Operand}{ts:List TypeId}{cs args:List V}{σ1 σ2:Aj}{r r':V}{pre post:Es}(h:AC E f args σ1 r σ2)(L:List Nat)(news:Nat)(hw:zy ops a gd=some true)(hx:DS E a xs ts=some cs)(hpre:He σ.es L=some pre)
 (hL:L.length=σ1.nx) (hn':σ2.nx=σ1.nx+news) (hd:yb (yj (z7 L σ.nx news))=true) (hr:xu (yj L) args=some (V.An cs)) (hin:D8 (yj L) pre σ1.es) (hout:Gp (yj (z7 L σ.nx news)) σ2.es=some post) (hcov:HQ σ2.es σ2.nx=true)
 (hr':ww (yj (z7 L σ.nx news)) r=some r') (hdst:zw N d=true)
 (h2:AX E N k dr ops rest (a.put d r') (σ.Aw news post) (⟨pre,r',news,post⟩::acc) Q):AX E N k dr ops (⟨d,.call ⟨.value (.func f),xs.toArray,ts.toArray⟩,ty,ps,af,gd⟩::rest) a σ acc Q:=
 Go.Ab.L.cb h L news hw hx hpre hL hn' hd hin hout hcov hr' (Bb.An cs) hr hdst h2
theorem cv2{x:Operand}{f:FuncId}{fi caps:List V}{xs:List Operand}{ts:List TypeId}{cs args:List V}{σ1 σ2:Aj}{r r':V}{pre post:Es}(h:AC E f args σ1 r σ2)(L:List Nat)(news:Nat)(hw:zy ops a gd=some true)(hf:ev E 0 a x=some (.fn (.func f) fi caps))(hx:DS E a xs ts=some cs)
 (hpre:He σ.es L=some pre) (hL:L.length=σ1.nx) (hn':σ2.nx=σ1.nx+news) (hd:yb (yj (z7 L σ.nx news))=true) (hr:xu (yj L) args=some (V.An (fi++cs++caps))) (hin:D8 (yj L) pre σ1.es) (hout:Gp (yj (z7 L σ.nx news)) σ2.es=some post) (hcov:HQ σ2.es σ2.nx=true)
 (hr':ww (yj (z7 L σ.nx news)) r=some r') (hdst:zw N d=true)
 (h2:AX E N k dr ops rest (a.put d r') (σ.Aw news post) (⟨pre,r',news,post⟩::acc) Q):AX E N k dr ops (⟨d,.call ⟨.value x,xs.toArray,ts.toArray⟩,ty,ps,af,gd⟩::rest) a σ acc Q:=
 Go.Ab.L.cv h L news hw hf hx hpre hL hn' hd hin hout hcov hr' (Bb.An _) hr hdst h2
theorem Mo{t:TypeId}{x:Operand}{z:Nat}{zr:List V}{e:EC}{sz bytes:Nat}{c:V}{vc:List V}{y:e.sem}(hw:zy ops a gd=some true)(ht:E.ti t=some ⟨z,zr,.slc (some e) sz bytes⟩)(hev:ev E 0 a x=some c)(hcs:cellsOf c=some vc)(hsz:Nat.beq vc.length sz=true)(hf:e.fold vc=some y)
 (hb:Nat.ble (1*sz) 16777216=true) (hd:zw N d=true) (h2:AX E N k dr ops rest (a.put d (.slice .full (.t e [y]))) σ (⟨[],.slice .full (.t e [y]),0,[]⟩::acc) Q):
 AX E N k dr ops (⟨d,.buildSlice t 1 #[(0,x)],ty,ps,af,gd⟩::rest) a σ acc Q:=
 L.bs (pp:=[(0,x)]) (cs:=[c]) (vcs:=[vc]) 0 hw ht rfl rfl (by simp[Fc,hev]) (by simp[EU,hcs]) ei (by simp[JN,EU,hf]) hb hd h2
theorem Qz{t:TypeId}{x x':Operand}{z:Nat}{zr:List V}{e:EC}{sz bytes:Nat}{c c':V}{vc vc':List V}{y y':e.sem}(hw:zy ops a gd=some true)(ht:E.ti t=some ⟨z,zr,.slc (some e) sz bytes⟩)(hev:ev E 0 a x=some c)(hcs:cellsOf c=some vc)(hsz:Nat.beq vc.length sz=true)(hf:e.fold vc=some y)
 (hev':ev E 0 a x'=some c') (hcs':cellsOf c'=some vc') (hsz':Nat.beq vc'.length sz=true) (hf':e.fold vc'=some y')
 (hb:Nat.ble (2*sz) 16777216=true) (hd:zw N d=true) (h2:AX E N k dr ops rest (a.put d (.slice .full (.t e [y,y']))) σ (⟨[],.slice .full (.t e [y,y']),0,[]⟩::acc) Q):
 AX E N k dr ops (⟨d,.buildSlice t 2 #[(0,x),(1,x')],ty,ps,af,gd⟩::rest) a σ acc Q:=
 L.bs (pp:=[(0,x),(1,x')]) (cs:=[c,c']) (vcs:=[vc,vc']) 0 hw ht rfl rfl (by simp[Fc,hev,hev']) (by simp[EU,hcs,hcs']) ei (by simp[JN,EU,hf,hf']) hb hd h2
theorem O4{t:TypeId}{x x' x2:Operand}{z:Nat}{zr:List V}{e:EC}{sz bytes:Nat}{c c' c2:V}{vc vc' vc2:List V}{y y' y2:e.sem}(hw:zy ops a gd=some true)(ht:E.ti t=some ⟨z,zr,.slc (some e) sz bytes⟩)(hev:ev E 0 a x=some c)(hcs:cellsOf c=some vc)(hsz:Nat.beq vc.length sz=true)(hf:e.fold vc=some y)
 (hev':ev E 0 a x'=some c') (hcs':cellsOf c'=some vc') (hsz':Nat.beq vc'.length sz=true) (hf':e.fold vc'=some y') (hev2:ev E 0 a x2=some c2) (hcs2:cellsOf c2=some vc2) (hsz2:Nat.beq vc2.length sz=true) (hf2:e.fold vc2=some y2)
 (hb:Nat.ble (3*sz) 16777216=true) (hd:zw N d=true) (h2:AX E N k dr ops rest (a.put d (.slice .full (.t e [y,y',y2]))) σ (⟨[],.slice .full (.t e [y,y',y2]),0,[]⟩::acc) Q):
 AX E N k dr ops (⟨d,.buildSlice t 3 #[(0,x),(1,x'),(2,x2)],ty,ps,af,gd⟩::rest) a σ acc Q:=
 L.bs (pp:=[(0,x),(1,x'),(2,x2)]) (cs:=[c,c',c2]) (vcs:=[vc,vc',vc2]) 0 hw ht rfl rfl (by simp[Fc,hev,hev',hev2]) (by simp[EU,hcs,hcs',hcs2]) ei (by simp[JN,EU,hf,hf',hf2]) hb hd h2
end L
end
theorem EC.BP{e:EC}{y:e.sem}{vc:List V}(h:vc=e.view y):e.fold vc=some y:=by
 subst h;cases e with
 |ty=>cases y;rfl
 |tm=>rcases y with⟨_,_,⟨_,_⟩,_⟩;rfl
 |vl=>cases y;rfl
 |fm=>rcases y with⟨_,⟨_,_⟩,_,_⟩;rfl
 |pf=>rcases y with⟨_,_,⟨_,_⟩,_,_,_⟩;rfl
 |gl=>rcases y with⟨⟨_,_⟩,⟨_,⟨_,_⟩,_,_⟩⟩;rfl
 |st=>rfl
 |sz=>rcases y with⟨⟨_,_⟩,_⟩;rfl
 |tk=>rfl
 |int=>rfl
 |u8=>rfl
 |str=>rfl
 |tys=>rfl
 |AZ=>rfl
 |bl=>rfl
 |rs=>rcases y with⟨_,_,_,⟨_,_,⟨_,_⟩,_⟩,_⟩;rfl
section
variable {E:Env} {N k:Nat} {a:AF} {σ:Aj} {Q:Exit->AF->Aj->Prop}
def Ns(E:Env)(N k:Nat)(B:Nat)(v p q:Tmp)(m:Nat)(P:Nat->Prop)(J:Nat->AF×Aj)(Q:Exit->AF->Aj->Prop):Exit->AF->Aj->Prop
 | .normal,a,σ=>a.get v=some (.int .i64 ((m+1:Nat):Int))/\P m/\Bc E N k ((v,.int .i64 (m:Int))::(q,.int .i64 (m:Int))::(p,.int .i64 ((m+1:Nat):Int))::a) σ (J m).1 (J m).2
 | .exit id,a,σ=>bif Nat.beq id B then Q .normal a σ else Q (.exit id) a σ
 |e,a,σ=>Q e a σ
theorem AW.down{B C r1 r2:Nat}{c v p p2 q:Tmp}{T T' T2 T3:TypeId}{ty0 ty1 ty2 ty3 ty4:TypeId}{s0 s1 s2 s3 s4:String}{af0 af1 af2 af3 af4:Array Edge}{body:Code}(len:Nat)(P:Nat->Prop)(J:Nat->AF×Aj)(hlen:len<4611686018427387904)
 (hv:∀m,(J m).1.get v=some (.int .i64 m)) (hd:(zw N (some c)&&zw N (some p)&&zw N (some p2)&&zw N (some q)&&zw N (some v)&&(!Nat.beq q p2)&&(!Nat.beq p2 v))=true) (hP:P len) (h0:Bc E N k a σ (J len).1 (J len).2)
 (hb:∀m,m<len->P (m+1)->AW E N k body ((c,.bool true)::(p,.int .i64 ((m+1:Nat):Int))::(J (m+1)).1) (J (m+1)).2 (uf C (Ns E N k B v p2 q m P J Q)))
 (he:P 0->Q .normal ((c,.bool false)::(p,.int .i64 ((0:Nat):Int))::(J 0).1) (J 0).2):
 AW E N k (.block B (.loop (.seq (.seq (.region r1 #[⟨some p,.move (.tmp v),ty0,s0,af0,none⟩,⟨some c,.binOp .gtr T (.tmp p) (.const (.int .i64 0)) T',ty1,s1,af1,none⟩] false)
  (.cond (.tmp c) .skip (.exit B))) (.seq (.block C body)
   (.region r2 #[⟨some p2,.move (.tmp v),ty2,s2,af2,none⟩,⟨some q,.binOp .sub T2 (.tmp p2) (.const (.int .i64 1)) T3,ty3,s3,af3,none⟩,⟨some v,.assign (.tmp q),ty4,s4,af4,none⟩] false))))) a σ Q:=by
 simp only[ZC] at hd;obtain⟨⟨⟨⟨⟨⟨hd1,hd2⟩,hd3⟩,hd4⟩,hd5⟩,hd6⟩,hd7⟩:=hd;refine .block (.loop (ι:={m:Nat // m<=len/\P m}) (fun m=>J m.1) (fun m=>m.1) ⟨len,ZB _,hP⟩ h0 fun⟨m,hm,hPm⟩=> ?_);refine .seq (.seq (.AP (L.mv rfl (hv m) hd2 (L.bn rfl (show ev E T _ (.tmp p)=some (.int .i64 (m:Int)) by simp[ev,AF.put,AF.get]) (show ev E T _ (.const (.int .i64 0))=some (.int .i64 0) from rfl) rfl hd1 (.BO ?_)))));show AW E N k _ ((c,.bool (decide ((m:Int)>0)))::(p,.int .i64 (m:Int))::(J m).1) (J m).2 _;cases m with
 |succ m=>
  have hdec:decide (((m+1:Nat):Int)>0)=true:=dZ
  rw[hdec];refine .Ct gr (.skip ?_);show AW E N k _ _ _ _;refine .seq (.block ((hb m dY hPm).mono ?_));rintro e a1 σ1 hq;have hnorm:Ns E N k B v p2 q m P J Q .normal a1 σ1->JU E N k (.region r2 #[⟨some p2,.move (.tmp v),ty2,s2,af2,none⟩,⟨some q,.binOp .sub T2 (.tmp p2) (.const (.int .i64 1)) T3,ty3,s3,af3,none⟩,⟨some v,.assign (.tmp q),ty4,s4,af4,none⟩] false)
   (NF E N k (fun m:{m:Nat // m<=len/\P m}=>J m.1) (fun m=>m.1) ⟨m+1,hm,hPm⟩ (uf B Q)) .normal a1 σ1:=by
   rintro⟨h1,h2,h3⟩;show AW E N k _ _ _ _;refine .AP (L.mv rfl h1 hd3 (L.sb rfl (show ev E T2 _ (.tmp p2)=some (.int .i64 ((m+1:Nat):Int)) by simp[ev,AF.put,AF.get]) (show ev E T2 _ (.const (.int .i64 1))=some (.int .i64 1) from rfl) hd4 dY
    (L.EW rfl (show ev E ty4 _ (.tmp q)=some (.int .i64 (((m+1:Nat):Int)-1)) by simp[ev,AF.put,AF.get]) hd5 (.BO ?_))))
   rw[show(((m+1:Nat):Int)-1)=(m:Int) from dY];exact⟨⟨m,dY,h2⟩,dZ,h3⟩
  cases e with
  |normal=>exact hnorm hq
  |exit id=>
   exact mD
  |goto l=>exact hq
  |ret=>exact hq
  |panic ch=>exact hq
  |outgrown=>exact hq
 |zero=>
  have hdec:decide (((0:Nat):Int)>0)=false:=dZ
  rw[hdec];refine .Cu gr (.exit ?_);show uf B Q (.exit B) _ _;simp only[uf,cI,cond_true]
  grind
end
theorem Ye8{E:Env}{t:TypeId}{i:TI}(h:E.ti t=some i)(hd:i.desc= .bool):E.P.underlying t=some .bool:=by
 obtain⟨d,h1,h2⟩:=Kf h
 grind
section
variable {E:Env} {N k:Nat} {a:AF} {σ:Aj} {Q:Exit->AF->Aj->Prop} {ops:List Oper} {dr:Bool} {rest:List Oper} {acc:List Rec}
variable {d:Option Tmp} {ty:TypeId} {ps:String} {af:Array Edge} {gd:Option (Nat×Bool)}
namespace L
theorem Yo{t u:TypeId}{x y:Operand}{z:Nat}{zr:List V}{b c:Bool}(hw:zy ops a gd=some true)(hx:ev E t a x=some (.bool b))(hy:ev E t a y=some (.bool c))(ht:E.ti t=some ⟨z,zr,.bool⟩)(hd:zw N d=true)
 (h2:AX E N k dr ops rest (a.put d (.bool (!(b==c)))) σ (⟨[],.bool (!(b==c)),0,[]⟩::acc) Q):AX E N k dr ops (⟨d,.binOp .neq t x y u,ty,ps,af,gd⟩::rest) a σ acc Q:=
 AX.run 0 hw (OS.Jy rfl (.inr rfl) (Ye8 ht rfl) (fr eA hx) (fr eA hy)) trivial hd h2
end L
end
theorem wv(c:EC)(xs:List c.sem):(xs.flatMap c.view).length=xs.length*c.cells:=by
 induction xs with
 |nil=>simp
 |cons x xs ih=>rw[Z1,ZR,ih,EC.Bg,ZO,aM];omega
theorem NK(c:EC):∀(xs:List c.sem) (i j:Nat),j<c.cells->(xs.flatMap c.view)[i*c.cells+j]? =(xs[i]?).bind fun x=>(c.view x)[j]?
 |[],i,j,hj=>dZ
 |x::xs,0,j,hj=>by
  rw[Z1,Nat.zero_mul,aq,ai (by rw[EC.Bg];exact hj)]
  rfl
 |x::xs,i+1,j,hj=>by
  have h1:(i+1)*c.cells+j=(c.view x).length+(i*c.cells+j):=by rw[EC.Bg,aM];omega
  rw[Z1,h1,aj dY,bF,NK c xs i j hj]
  rfl
theorem XB(c:EC):∀(xs:List c.sem) (i:Nat) (y:c.sem),i<xs.length->(xs.flatMap c.view).take (i*c.cells)++c.view y++(xs.flatMap c.view).drop (i*c.cells+c.cells)=(xs.set i y).flatMap c.view
 |[],i,y,hi=>ei
 |x::xs,0,y,_=>by
  rw[Z1,cF,Z1,Nat.zero_mul,aq,ZX,Z3];congr 1;have:=EC.Bg c x
  grind
 |x::xs,i+1,y,hi=>by
  have h0:=EC.Bg c x;have h1:(i+1)*c.cells=(c.view x).length+i*c.cells:=ei
  have h2:(i+1)*c.cells+c.cells=(c.view x).length+(i*c.cells+c.cells):=dY
  rw[Z1,List.set_cons_succ,Z1,h2,h1,cS,List.take_append];rw[aC dY,cK dY,bF,bF,Z3,ZE,ZE];rw[<-XB c xs i y ei,ZE]
theorem Px{z:Array Value}(h:∀v∈z.toList,v.oneCell'=true)(n:Nat):∀v∈(Builtin.zeroCells z n).toList,v.oneCell'=true:=by
 intro v hv;simp only[Builtin.zeroCells,Array.toList_map,ZQ] at hv;obtain⟨i,hi,rfl⟩:=hv;have hi':i<n*z.size:=ei
 have hpos:0<z.size:=by
  grind
 have hlt:i%z.size<z.size:=dI _ hpos
 grind
section
variable {E:Env} {N k:Nat} {o:Oper} {a:AF}
theorem Pp(D:Nat->Prop)(g:Gh)(n:Nat)(w:World){b len cap sz:Nat}(h:len<=cap):Al (g.AK n b (some ⟨b,0,cap,sz,0⟩)) (fun i=>D i\/i∈[n]) w (.slice (some ⟨b,0,none⟩) len cap) (.arr n len sz):=by
 have h:=Al.arr (g:=g.AK n b (some ⟨b,0,cap,sz,0⟩)) (D:=fun i=>D i\/i∈[n]) (w:=w) n len sz cap (Or.inr (ah.2 rfl)) h fW;have hb:(g.AK n b (some ⟨b,0,cap,sz,0⟩)).blk n=b:=fW
 grind
theorem OS.JC{t te:TypeId}{s x:Operand}{i ie:TI}{co:Option EC}{c:EC}{sz bytes n:Nat}{sp':Sp}{l0:SL V}{l:List c.sem}(ho:o.op= .call {callee:= .builtin .append,args:= #[s,x],argTypes:= #[t,t]})
 (ht:E.ti t=some i) (hd:i.desc= .slc co sz bytes) (hte:E.P.underlying t=some (.slice te)) (hti:E.ti te=some ie) (hs:ev E t a s=some (.slice .nil l0)) (hx:ev E t a x=some (.slice sp' (.t c l))) (hpos:0<l.length)
 (hsz:Nat.beq c.cells sz=true) (hb:l.length*bytes<=140737488355328) (hb2:l.length<=9223372036854775807):OS E N o a [] (.arr n l.length sz) [n] [(n,.var (l.flatMap c.view))]:=
 .of_run fun g D es w act hR hp hn hF=>by
  obtain⟨e,inf,z,h1,h2,h3,h4,h5,h6,h7,h8⟩:=IJ ht hd;obtain rfl:e=te:=ei
  have hcs:c.cells=sz:=Z9 hsz;have hn':¬D n:=hn n dZ;have hvs:=z6 hs hR hF;have hdx:=(z6 hx hR hF).Bu;obtain⟨xb,xc,hxv⟩:=hdx.Bu;obtain⟨news,hnl,hn1,hnf,hnr,hnl2⟩:=hdx.Dm;rw[hxv] at hnf;have hsv:act.eval s= .slice none 0 0:=by
   exact mT
  have hsz':c.cells=inf.size:=dY
  have hrun:=vp (P:=E.P) (w:=w) (ty:=o.type) h1 h2 h5 (base:=none) (sLen:=0) (sCap:=0) (xb:=xb) (n:=l.length) (xc:=xc) (olds:=[]) (news:=news) (fun W _=>eC)
   (fun W hW=>by rw[<-hsz'];exact hnf W hW E.P) dY ei dY
  have hge:=grownCap_ge w (0+l.length) 0 e;obtain⟨inf2,hi1,hi2,z2,hi3,hi4⟩:=Jf hti;have hz1:∀v∈z.cells.toList,v.oneCell'=true:=by
   exact lp
  obtain⟨hR',hx'⟩:=hR.drew.Hx hn' (some ⟨w.heap.size,0,grownCap w (0+l.length) 0 e,sz,0⟩) (vs:=[]++news++(Builtin.zeroCells z.cells (grownCap w (0+l.length) 0 e-(0+l.length))).toList) (cs:=l.flatMap c.view) e
   (by
    rw[wv,Z3,ZR,hnl];show l.length*c.cells<=_;simp only[SL.len,SL.cells];omega)
   (fun v hv=>by
    rw[Z3] at hv;rcases ZU.1 hv with hv|hv
    .grind
    .exact Px hz1 _ v hv)
   (fun q v d hv hd=>by
    have hc0:0<c.cells:=dY
    have hq:=(ZT.1 hd).1;rw[wv] at hq;have hqi:q/c.cells<l.length:=(cP hc0).2 hq;have hqj:q%c.cells<c.cells:=dI _ hc0;have hqe:q/c.cells*c.cells+q%c.cells=q:=by rw[dJ];exact dN q c.cells
    have hd':=hd;rw[<-hqe,NK c l _ _ hqj,ZD hqi] at hd';have hd2:(c.view l[q/c.cells])[q%c.cells]? =some d:=hd';obtain⟨u,hu,hdr⟩:=hnr (q/c.cells) (q%c.cells) (c.view l[q/c.cells]) d jX hd2 hqi hqj;have hu':news[q]? =some u:=by rw[<-hqe];exact hu
    have hqn:=(ZT.1 hu').1;rw[Z3,ai hqn,hu'] at hv;cases hv;exact .data (hdr.mono (fun _=>ZB _) (fun _ _ _=>rfl)))
   (fun r hr=>by
    cases hr;simp only[ZR,Z3,bY,size_zeroCells,hnl,h6];show l.length*c.cells+(grownCap w (0+l.length) 0 e-(0+l.length))*sz=grownCap w (0+l.length) 0 e*sz;rw[hcs,<-aM]
    grind)
  refine⟨_,.slice (some ⟨w.heap.size,0,none⟩) (0+l.length) (grownCap w (0+l.length) 0 e),_,?_,hR'.more (fun i hi=>ei),?_,Ext.drew.trans hx'⟩
  .have hxv':act.eval x= .slice xb l.length xc:=hxv;simp only[Z3] at hrun;simp[execOp,ho,resolve,invoke,builtin,hsv,hxv',hrun]
  .have h9:=Pp D g n (w.drew.alloc (.cells ([]++news++(Builtin.zeroCells z.cells (grownCap w (0+l.length) 0 e-(0+l.length))).toList).toArray e)) (b:=w.drew.heap.size) (len:=l.length) (cap:=grownCap w (0+l.length) 0 e) (sz:=sz) dY;simp_all
theorem OS.K8{t:TypeId}{x y:Operand}{i:TI}{co:Option EC}{sz bytes p len:Nat}{n:Int}{kk:Nat}{kd:IntKind}(ho:o.op= .indexAddr t x y)(ht:E.ti t=some i)(hd:i.desc= .slc co sz bytes)
 (hx:ev E t a x=some (.arr p len sz)) (hy:ev E 0 a y=some (.int kd n)) (hn:n=kk) (hlt:kk<len):OS E N o a [] (.ptr p (kk*sz)) [] []:=
 .pure fun g D es w act hR _ hF=>by
  obtain⟨e,inf,z,h1,h2,h3,h4,h5,h6,h7,h8⟩:=IJ ht hd;have h8':=z6 hx hR hF;have hi:=(z6 hy hR hF).BA;generalize hxv:act.eval x=v at h8';cases h8' with
  |data h=>cases h
  |arr _ _ _ cap hD hcap _=>
   refine⟨.pointer (some ⟨g.blk p,0+kk*sz,none⟩),?_,by rw[aq];exact .ptr p _ hD⟩;have h11:0<=n/\n<(len:Int):=dY
   have h12:n.toNat=kk:=dY
   have hpi:=run_indexAt_slice (P:=E.P) w t ⟨g.blk p,0,none⟩ len cap kd n (by simp[Program.elem,h1]);rw[if_pos h11,show E.P.elem t=e by simp[Program.elem,h1],wc h2] at hpi;simp only[Result.andThen_ok,h12,h3,Gy] at hpi;simp[execOp,ho,hxv,hi,hpi]
end
mutual
def V.B1(n:Nat)(s:V):V->V
 | .arr m k z=>bif Nat.beq m n then s else .arr m k z
 | .agg cs=> .agg (V.F2 n s cs)
 | .AM cs=> .AM (V.F2 n s cs)
 | .fn f fi caps=> .fn f (V.F2 n s fi) (V.F2 n s caps)
 |v=>v
def V.F2(n:Nat)(s:V):List V->List V
 |[]=>[]
 |c::cs=>V.B1 n s c::V.F2 n s cs
end
mutual
def V.B6(n len:Nat):V->Prop
 | .arr m k _=>m=n->k=len
 | .agg cs=>V.Dg n len cs
 | .AM cs=>V.Dg n len cs
 | .fn _ fi caps=>V.Dg n len fi/\V.Dg n len caps
 |_=>True
def V.Dg(n len:Nat):List V->Prop
 |[]=>True
 |c::cs=>V.B6 n len c/\V.Dg n len cs
end
theorem V.CR(n:Nat)(s:V):∀cs,V.F2 n s cs=cs.map (V.B1 n s)
 |[]=>rfl
 |c::cs=>by rw[V.F2,V.CR n s cs];rfl
theorem V.Cz{n len:Nat}:∀{cs:List V},V.Dg n len cs->∀(i:Nat) c,cs[i]? =some c->V.B6 n len c
 |[],_,i,c,h=>ei
 |x::l,hh,i,c,h=>by
  cases i with
  |zero=>simp at h;subst h;exact hh.1
  |succ i=>exact V.Cz hh.2 i c ei
theorem Zt5(n len:Nat)(c:EC)(x:c.sem):V.B6 n len (Ho c x):=by cases c<;>simp[Ho,EC.view,V.B6,V.Dg,Ty.view,Tm.view,Vl.view,Fm.view,Pf.view,Gl.view,St.view,Sz.view,Tk.view,E8.view]
theorem Ybi(n:Nat)(s:V)(c:EC)(x:c.sem):V.B1 n s (Ho c x)=Ho c x:=gJ
def A7.B1(n:Nat)(s:V):A7->A7
 | .var cs=> .var (V.F2 n s cs)
 |e=>e
def A7.B6(n len:Nat):A7->Prop
 | .var cs=>V.Dg n len cs
 |_=>True
def Es.B1(n:Nat)(s:V):Es->Es
 |[]=>[]
 |p::l=>(p.1,A7.B1 n s p.2)::Es.B1 n s l
def Es.B6(n len:Nat):Es->Prop
 |[]=>True
 |p::l=>(p.1≠n->A7.B6 n len p.2)/\Es.B6 n len l
def AF.B1(n:Nat)(s:V):AF->AF
 |[]=>[]
 |p::l=>(p.1,V.B1 n s p.2)::AF.B1 n s l
def AF.B6(n len:Nat):AF->Prop
 |[]=>True
 |p::l=>V.B6 n len p.2/\AF.B6 n len l
theorem AF.E9{n len:Nat}:∀{a:AF},AF.B6 n len a->∀t c,a.get t=some c->V.B6 n len c
 |[],_,t,c,h=>eE
 |p::l,hh,t,c,h=>by
  obtain⟨m,d⟩:=p;rw[AF.Bj] at h;by_cases hm:m=t
  .rw[if_pos hm] at h;cases h;exact hh.1
  .rw[if_neg hm] at h;exact AF.E9 hh.2 t c h
theorem Es.En{n len:Nat}:∀{es:Es},Es.B6 n len es->∀t e,t≠n->zg es t=some e->A7.B6 n len e
 |[],_,t,c,_,h=>eE
 |p::l,hh,t,c,hn,h=>by
  obtain⟨m,d⟩:=p;rw[zm] at h;by_cases hm:m=t
  .rw[if_pos hm] at h;cases h;exact hh.1 dY
  .rw[if_neg hm] at h;exact Es.En hh.2 t c hn h
theorem AF.GS(n:Nat)(s:V):∀(a:AF) (t:Nat),(AF.B1 n s a).get t=(a.get t).map (V.B1 n s)
 |[],t=>rfl
 |p::l,t=>by
  obtain⟨m,c⟩:=p;simp only[AF.B1,AF.Bj];by_cases h:m=t
  .simp[h]
  .simp only[h,if_false];exact AF.GS n s l t
theorem Es.FK(n:Nat)(s:V):∀(es:Es) (t:Nat),zg (Es.B1 n s es) t=(zg es t).map (A7.B1 n s)
 |[],t=>rfl
 |p::l,t=>by
  obtain⟨m,c⟩:=p;simp only[Es.B1,zm];by_cases h:m=t
  .simp[h]
  .simp only[h,if_false];exact Es.FK n s l t
theorem Al.B1{g g':Gh}{D:Nat->Prop}{w:World}{n:Nat}{l:SL V}(hm:∀b,g.m b<=g'.m b)(hb:g'.blk=g.blk)(hr:g'.row=g.row)
 (hd:∀cap,l.len<=cap->A4 g'.m w (.slice (some ⟨g.blk n,0,none⟩) l.len cap) (.slice .any l)) {v:Value} {c:V} (h:Al g D w v c):V.B6 n l.len c->Al g' D w v (V.B1 n (.slice .any l) c):=by
 have self:∀{v c},Al g D w v c->Al g' D w v c:=fun {v c} h=>h.mono hm (fun _ _ _=>rfl) (fun _ h=>h) (fun _ _=>by rw[hb]) (fun _ _=>by rw[hr]);induction h with
 |data h=>
  have h0:=h;intro _;cases h<;>exact self (.data h0)
 |agg vs cs hl h1 _ ih=>
  intro hok;simp only[V.B1,V.CR];refine .agg vs _ ei h1 fun i v c hv hc=> ?_;rw[Z8,ZG] at hc;obtain⟨c0,hc0,rfl⟩:=hc;exact ih i v c0 hv hc0 (V.Cz hok i c0 hc0)
 |AM vs cs hl _ ih=>
  intro hok;simp only[V.B1,V.CR];refine .AM vs _ ei fun i v c hv hc=> ?_;rw[Z8,ZG] at hc;obtain⟨c0,hc0,rfl⟩:=hc;exact ih i v c0 hv hc0 (V.Cz hok i c0 hc0)
 |nil=>exact fun _=> .nil
 |fullNil l h=>exact fun _=> .fullNil l h
 |nilS l h=>exact fun _=> .nilS l h
 |full a n l h=>exact fun _=>self (.full a n l h)
 |own r hr' v l h hd=>exact fun _=>self (.own r hr' v l h hd)
 |addr b off cs f h1 hc h2=>exact fun _=>self (.addr b off cs f h1 hc h2)
 |ptr n off h=>exact fun _=>self (.ptr n off h)
 |arr m k z cap h hcap hrw=>
  intro hok;simp only[V.B1];by_cases he:m=n
  .subst he;obtain rfl:k=l.len:=hok rfl;simp only[cI,cond_true];exact .data (hd cap hcap)
  .rw[Q0 he];exact self (.arr m k z cap h hcap hrw)
 |mp m h=>exact fun _=>self (.mp m h)
 |nilp=>exact fun _=> .nilp
 |fn f fi caps fi' caps' hl hl' _ _ ih ih'=>
  intro hok;simp only[V.B1,V.CR];refine .fn f fi caps _ _ ei ei (fun i v c hv hc=> ?_) (fun i v c hv hc=> ?_)
  .rw[Z8,ZG] at hc;obtain⟨c0,hc0,rfl⟩:=hc;exact ih i v c0 hv hc0 (V.Cz hok.1 i c0 hc0)
  .rw[Z8,ZG] at hc;obtain⟨c0,hc0,rfl⟩:=hc;exact ih' i v c0 hv hc0 (V.Cz hok.2 i c0 hc0)
 |nilf=>exact fun _=> .nilf
 |raw v=>exact fun _=> .raw v
section
variable {E:Env} {N k:Nat} {a:AF} {σ:Aj}
def V.FC:V->Bool
 | .int _ _=>true
 | .bool _=>true
 | .str _=>true
 | .slice .any _=>true
 |_=>false
theorem Al.FC{g:Gh}{D:Nat->Prop}{w:World}{v:Value}{c:V}(h:Al g D w v c)(hc:V.FC c=true):A4 g.m w v c:=by
 cases h with
 |data h=>exact h
 |_=>simp[V.FC] at hc
theorem yk(c:EC)(x:c.sem):(c.view x).all V.FC=true:=gJ
theorem Bc.B1(n len:Nat){c:EC}(l:List c.sem)(hn:zg σ.es n=some (.var (l.flatMap c.view)))(hlen:l.length=len)(hoa:AF.B6 n len a)(hoe:Es.B6 n len σ.es):
 Bc E N k a σ (AF.B1 n (.s c l) a) ⟨σ.nx,(n,.gone)::Es.B1 n (.s c l) σ.es⟩:=by
 subst hlen;intro hk;refine⟨hk,fun g w act hR hF=> ?_⟩;obtain⟨h1,vs,t,h2,h3,h4,h5,_⟩:=hR.BT n _ hn;rw[wv] at h3
 let g':Gh:={g with m:=fun b=>if b=g.blk n then l.length*c.cells else g.m b}
 have hlt:g.blk n<w.heap.size:=by
  grind
 have hm:∀b,g.m b<=g'.m b:=fun b=>by
  grind
 have hm':∀b,b≠g.blk n->g'.m b=g.m b:=fun b hb=>if_neg hb;have hd:∀cap,(SL.t c l:SL V).len<=cap->A4 g'.m w (.slice (some ⟨g.blk n,0,none⟩) (SL.t c l:SL V).len cap) (.slice .any (.t c l)):=fun cap hcap=>by
  refine A4.Gm (m:=g.m) (w:=w) h2 hcap (by show _<=if g.blk n=g.blk n then _ else _;rw[if_pos rfl];exact ZB _) ?_ ?_ hm (fun _ _ _=>rfl)
  .intro i hi;exact⟨c.view (l[i]'hi),by show(l[i]?).map c.view=_;rw[ZD (show i<l.length from hi)];rfl,EC.Bg _ _⟩
  .intro i j cs d hg hcs hi hj;have hi':i<l.length:=hi;have hg':cs=c.view l[i]:=by
    have:(l[i]?).map c.view=some cs:=hg
    grind
   subst hg';have hj':j<c.cells:=hj;have h6:(l.flatMap c.view)[i*c.cells+j]? =some d:=by rw[NK c l i j hj',ZD hi'];grind
   have h7:i*c.cells+j<vs.length:=by have:=NM hi' hj';omega
   refine⟨vs[i*c.cells+j],ZD h7,?_⟩;refine(h5 _ _ d (ZD h7) h6).FC ?_;exact ZH.1 (yk c l[i]) d (bt hcs)
 have hv:∀{v d},Al g (·<σ.nx) w v d->V.B6 n l.length d->Al g' (·<σ.nx) w v (V.B1 n (.s c l) d):=fun h hok=>Al.B1 (g':=g') (l:= .t c l) hm rfl rfl hd h hok;have hfind:∀i e,zg ((n,A7.gone)::Es.B1 n (.s c l) σ.es) i=some e->(i=n/\e= .gone)\/(i≠n/\∃e0,zg σ.es i=some e0/\e=A7.B1 n (.s c l) e0):=fun i e he=>by
  rw[zm] at he;by_cases hi:n=i
  .grind
  .rw[if_neg hi,Es.FK,ZG] at he
   grind
 have hfoot:∀i e b,zg ((n,A7.gone)::Es.B1 n (.s c l) σ.es) i=some e->e.AB g' i=some b->∃e0,zg σ.es i=some e0/\e0.AB g i=some b/\i≠n:=fun i e b he hb=>by
  rcases hfind i e he with⟨rfl,rfl⟩|⟨hi,e0,h6,rfl⟩
  .cases hb
  .refine ⟨e0,h6,?_,hi⟩;cases e0<;>exact hb
 refine⟨g',⟨?_,?_,?_,?_,?_⟩,⟨hF.size,hF.defers,?_⟩,?_⟩
 .intro i e he;rcases hfind i e he with⟨rfl,_⟩|⟨_,e0,h6,_⟩
  .exact hR.lt _ _ hn
  .exact hR.lt _ _ h6
 .intro i i' e e' b h6 h7 h8 h9;obtain⟨e0,h10,h11,_⟩:=hfoot i e b h6 h8;obtain⟨e1,h12,h13,_⟩:=hfoot i' e' b h7 h9;exact hR.A9 i i' e0 e1 b h10 h12 h11 h13
 .intro i e he;rcases hfind i e he with⟨rfl,rfl⟩|⟨hi,e0,h6,rfl⟩
  .trivial
  .have hent:=hR.BT i e0 h6;have hok:=Es.En hoe i e0 hi h6;cases e0 with
   |var cs=>
    obtain⟨q1,us,t',q2,q3,q4,q5,q6⟩:=hent;have hne:g.blk i≠g.blk n:=fun hh=>hi (hR.A9 i n _ _ (g.blk n) h6 hn (by simp[A7.AB,hh]) rfl);refine⟨ei,us,t',q2,by simp only[V.CR,aI];exact q3,q4,fun j v d hj hd'=> ?_,q6⟩;rw[V.CR,Z8,ZG] at hd';obtain⟨d0,hd0,rfl⟩:=hd';exact hv (q5 j v d0 hj hd0) (V.Cz hok j d0 hd0)
   |map c ks xs=>
    obtain⟨q1,us,t',q2,q3,q4,q4',q5⟩:=hent;have hne:g.blk i≠g.blk n:=fun hh=>hi (hR.A9 i n _ _ (g.blk n) h6 hn ei rfl);refine⟨ei,us,t',q2,q3,q4,q4',fun j v d hj hd'=> ?_⟩;have h8:=hv (q5 j v d hj hd') (Zt5 n _ c d)
    rwa [Ybi] at h8
   |row=>
    intro ρ hρ;obtain⟨cur,t',q1,q2,q3,q4⟩:=hent ρ hρ;have hne:ρ.b≠g.blk n:=fun hh=>hi (hR.A9 i n _ _ (g.blk n) h6 hn (by show(g.row i).map EL.b=_;grind) rfl)
    grind
   |gone=>trivial
 .intro b hb;rw[hm' b dY];exact hR.fresh b hb
 .intro p hp;obtain⟨q1,q2⟩:=hR.Fp p hp;refine⟨ay q1 (hm _),fun j d hj=> ?_⟩;obtain⟨v,q3,q4⟩:=q2 j d hj;exact⟨v,q3,q4.mono hm (fun _ _ _=>rfl)⟩
 .intro t' d ht';rw[AF.GS,ZG] at ht';obtain⟨d0,hd0,rfl⟩:=ht';obtain⟨v,q1,q2⟩:=hF.vals t' d0 hd0;exact⟨v,q1,hv q2 (AF.E9 hoa t' d0 hd0)⟩
 .refine ⟨rfl,rfl,rfl,ZB _,fun _ _ _=>rfl,hm,fun _ _=>rfl,fun _ _=>rfl,fun b hb hnf=>⟨rfl,hm' b fun hh=>hnf ⟨n,_,hn,by simp[A7.AB,hh]⟩⟩,fun b hb=> .inl ?_⟩;obtain⟨i,e,q1,q2⟩:=hb;obtain⟨e0,q3,q4,_⟩:=hfoot i e b q1 q2;exact⟨i,e0,q3,q4⟩
theorem AW.B1{Q:Exit->AF->Aj->Prop}{code:Code}(n len:Nat){c:EC}(l:List c.sem)(hn:zg σ.es n=some (.var (l.flatMap c.view)))(hlen:l.length=len)(hoa:AF.B6 n len a)(hoe:Es.B6 n len σ.es)
 (h:AW E N k code (AF.B1 n (.s c l) a) ⟨σ.nx,(n,.gone)::Es.B1 n (.s c l) σ.es⟩ Q):AW E N k code a σ Q:=AW.weak (Bc.B1 n len l hn hlen hoa hoe) h
variable {Q:Exit->AF->Aj->Prop} {ops:List Oper} {dr:Bool} {rest:List Oper} {acc:List Rec}
variable {d:Option Tmp} {ty:TypeId} {ps:String} {af:Array Edge} {gd:Option (Nat×Bool)}
namespace L
theorem U8{t te:TypeId}{s x:Operand}{z:Nat}{zr:List V}{ie:TI}{e:EC}{co:Option EC}{sz bytes:Nat}{sp':Sp}{l0:SL V}{l:List e.sem}(hw:zy ops a gd=some true)(hs:ev E t a s=some (.slice .nil l0))(hx:ev E t a x=some (.slice sp' (.t e l)))(ht:E.ti t=some ⟨z,zr,.slc co sz bytes⟩)
 (hte:E.P.underlying t=some (.slice te)) (hti:E.ti te=some ie) (hsz:Nat.beq e.cells sz=true) (hd:zw N d=true) (hby:Nat.ble bytes 128=true) (hpos:0<l.length) (hb:l.length<=1099511627776)
 (h2:AX E N k dr ops rest (a.put d (.arr σ.nx l.length sz)) (σ.Aw 1 [(σ.nx,.var (l.flatMap e.view))]) (⟨[],.arr σ.nx l.length sz,1,[(σ.nx,.var (l.flatMap e.view))]⟩::acc) Q):
 AX E N k dr ops (⟨d,.call ⟨.builtin .append,#[s,x],#[t,t]⟩,ty,ps,af,gd⟩::rest) a σ acc Q:=
 AX.run 1 hw (OS.JC rfl ht rfl hte hti (fr eA hs) (fr eA hx) hpos hsz
  (by
   have h3:bytes<=128:=ZP hby;have h4:l.length*bytes<=1099511627776*128:=bh hb h3;omega) dY) trivial hd h2
theorem B7{t:TypeId}{x y:Operand}{z:Nat}{zr:List V}{co:Option EC}{sz bytes p len:Nat}{n:Int}(kk:Nat){kd:IntKind}(hw:zy ops a gd=some true)(hx:ev E t a x=some (.arr p len sz))(ht:E.ti t=some ⟨z,zr,.slc co sz bytes⟩)
 (hy:ev E 0 a y=some (.int kd n)) (hn:n=kk) (hlt:kk<len) (hd:zw N d=true) (h2:AX E N k dr ops rest (a.put d (.ptr p (kk*sz))) σ (⟨[],.ptr p (kk*sz),0,[]⟩::acc) Q):AX E N k dr ops (⟨d,.indexAddr t x y,ty,ps,af,gd⟩::rest) a σ acc Q:=
 AX.run 0 hw (OS.K8 rfl ht rfl (fr eA hx) (fr eA hy) hn hlt) trivial hd h2
theorem sta{t:TypeId}{x y:Operand}{i:TI}{n off:Nat}(kk:Nat){c:EC}{l:List c.sem}{u:c.sem}{v:V}(hw:zy ops a gd=some true)(hx:ev E 0 a x=some (.ptr n off))(ht:E.ti t=some i)(hy:ev E t a y=some v)
 (hn:zg σ.es n=some (.var (l.flatMap c.view))) (hc:cellsOf v=some (c.view u)) (hs:Nat.beq c.cells i.size=true) (hoff:off=kk*c.cells) (hlt:kk<l.length) (hd:zw N d=true)
 (h2:AX E N k dr ops rest (a.put d (.AM [])) (σ.Aw 0 [(n,.var ((l.set kk u).flatMap c.view))]) (⟨[(n,.var (l.flatMap c.view))],.AM [],0,[(n,.var ((l.set kk u).flatMap c.view))]⟩::acc) Q):AX E N k dr ops (⟨d,.store t x y,ty,ps,af,gd⟩::rest) a σ acc Q:=by
 have e:(l.set kk u).flatMap c.view=(l.flatMap c.view).take off++c.view u++(l.flatMap c.view).drop (off+(c.view u).length):=by
  rw[EC.Bg,hoff];exact(XB c l kk u hlt).symm
 rw[e] at h2;refine L.st hw hx ht hy hn hc (by rw[EC.Bg];simp_all) (bV ?_) hd h2;rw[EC.Bg,hoff,wv,<-Nat.succ_mul];exact aL _ hlt
end L
end
def G5(k:Int):List Int->Option Nat
 |[]=>none
 |x::l=>if x=k then some 0 else(G5 k l).map (·+1)
theorem RA{k:Int}:∀{l:List Int} {i:Nat},G5 k l=some i->l[i]? =some k/\i<l.length
 |[],i,h=>eE
 |x::l,i,h=>by
  simp only[G5] at h;by_cases hx:x=k
  .grind
  .rw[if_neg hx,ZG] at h;obtain⟨j,h1,rfl⟩:=h;have:=RA h1
   grind
theorem Xh(k:Int):∀(es:List MapEntry) (ks:List Int) (i0:Nat),es.length=ks.length->(∀(i:Nat) e x,es[i]? =some e->ks[i]? =some x->e.key= .int .i64 x)->
 Instr.findNow (.int .i64) (.int .i64 k) es i0=some ((G5 k ks).bind fun i=>(es[i]?).map fun e=>(i0+i,e.val))
 |[],[],i0,_,_=>rfl
 |[],x::ks,i0,h,_=>ei
 |e::es,[],i0,h,_=>ei
 |e::es,x::ks,i0,h,hk=>by
  have h0:=hk 0 e x rfl rfl;have ih:=Xh k es ks (i0+1) ei fun i e x h1 h2=>hk (i+1) e x ei ei;simp only[Instr.findNow,h0,Instr.sameNow,if_true,G5];by_cases hx:x=k
  .grind
  .have hkx:(k==x)=false:=ei
   simp only[hkx,if_neg hx];rw[ih];cases G5 k ks<;>grind
theorem R.KV(c:EC){G:DR}{g:Gh}{D:Nat->Prop}{es:Es}{w:World}(hR:R G g D es w){n:Nat}(hn:¬D n):
 R G (g.name n w.heap.size) (fun i=>D i\/i=n) ((n,.map c [] [])::es) (w.alloc (.map #[] 0))/\
 Ext D g (Aq g es) w (g.name n w.heap.size) (Aq (g.name n w.heap.size) ((n,.map c [] [])::es)) (w.alloc (.map #[] 0)):=by
 have hb:∀i,D i->(g.name n w.heap.size).blk i=g.blk i:=fun i hi=>by
  have:i≠n:=fun e=>hn (e▸hi);simp[Gh.name,this]
 have hcell:∀b o,o<g.m b->(w.alloc (.map #[] 0)).cell? ⟨b,o,none⟩=w.cell? ⟨b,o,none⟩:=fun b o ho=>by
  exact lq
 have hm0:g.m w.heap.size=0:=hR.fresh _ (ZB _);have hold:∀i e,i≠n->zg ((n,A7.map c [] [])::es) i=some e->zg es i=some e:=fun i e hi h=>by
  exact lM
 have hfold:∀i e b,zg es i=some e->e.AB (g.name n w.heap.size) i=some b->e.AB g i=some b/\b<w.heap.size:=fun i e b h1 h2=>by
  rw[A7.Cd (hR.lt i e h1) hb (fun _ _=>rfl)] at h2;exact⟨h2,hR.BB h1 h2⟩
 have hnew:∀e,zg ((n,A7.map c [] [])::es) n=some e->e= .map c [] []:=fun e h=>by
  exact mH
 refine⟨hR.step (fun _=>ZB _) hcell (fun i hi=> .inl hi) hb (fun _ _=>rfl) ?_ ?_ ?_,?_⟩
 .intro i e he;by_cases hi:i=n
  .subst hi;rw[hnew e he];refine .inr ⟨.inr rfl,by simp[Gh.name,hm0],[],0,by rw[show(g.name i w.heap.size).blk i=w.heap.size from by simp[Gh.name]];exact heap_alloc_new w _,⟨rfl,by simp[Ea]⟩,rfl,fun j v q hv hc=>ei,fun j v q hv hc=>ei⟩
  .exact mo
 .intro i j e e' b h1 h2 h3 h4;by_cases hi:i=n
  .by_cases hj:j=n
   .omega
   .subst hi;rw[hnew e h1] at h3;simp[A7.AB,Gh.name] at h3
    grind
  .by_cases hj:j=n
   .subst hj;rw[hnew e' h2] at h4;simp[A7.AB,Gh.name] at h4
    grind
   .exact lS
 .intro b hb';simp at hb';exact hR.fresh b dY
 .refine ⟨rfl,rfl,rfl,dZ,hcell,fun _=>ZB _,hb,fun _ _=>rfl,fun b hb' _=>⟨heap_alloc_old w _ b hb',rfl⟩,?_⟩;rintro b ⟨i,e,h2,h3⟩;by_cases hi:i=n
  .subst hi;rw[hnew e h2] at h3;simp[A7.AB,Gh.name] at h3;omega
  .have:=hfold i e b (hold i e hi h2) h3;exact .inl ⟨i,e,hold i e hi h2,this.1⟩
def Io(w:World)(b:Nat)(o:Obj):World:={w with heap:=w.heap.setIfInBounds b o}
theorem R.Ii{G:DR}{g:Gh}{D:Nat->Prop}{es:Es}{w:World}(hR:R G g D es w){n:Nat}{c:EC}{ks ks':List Int}{cs cs':List c.sem}(hn:zg es n=some (.map c ks cs)){ms ms':List MapEntry}{clock clock':Nat}
 (hh:w.heap[g.blk n]? =some (.map ms.toArray clock)) (hl:ms'.length=cs'.length/\Ea ms' clock') (hl2:ks'.length=cs'.length) (h1:∀(i:Nat) e k,ms'[i]? =some e->ks'[i]? =some k->e.key= .int .i64 k)
 (h:∀(i:Nat) e x,ms'[i]? =some e->cs'[i]? =some x->Al g D w e.val (Ho c x)):
 R G g D ((n,.map c ks' cs')::es) (Io w (g.blk n) (.map ms'.toArray clock'))/\
 Ext D g (Aq g es) w g (Aq g ((n,.map c ks' cs')::es)) (Io w (g.blk n) (.map ms'.toArray clock')):=by
 have hm0:g.m (g.blk n)=0:=(hR.BT n _ hn).1;have hlt:g.blk n<w.heap.size:=(au.1 hh).1;have hne:∀b o,o<g.m b->b≠g.blk n:=fun b o ho e=>ei
 have hother:∀b,b≠g.blk n->(Io w (g.blk n) (.map ms'.toArray clock')).heap[b]? =w.heap[b]? :=fun b hb=>by simp[Io,Ne.symm hb]
 have hself:(Io w (g.blk n) (.map ms'.toArray clock')).heap[g.blk n]? =some (.map ms'.toArray clock'):=by simp[Io,hlt]
 have hcell:∀b o,o<g.m b->(Io w (g.blk n) (.map ms'.toArray clock')).cell? ⟨b,o,none⟩=w.cell? ⟨b,o,none⟩:=fun b o ho=>
  World.cell?_of_block (a:=⟨b,o,none⟩) (hother b (hne b o ho))
 have hold:∀i e,i≠n->zg ((n,A7.map c ks' cs')::es) i=some e->zg es i=some e:=fun i e hi h=>by
  exact lM
 have hnew:∀e,zg ((n,A7.map c ks' cs')::es) n=some e->e= .map c ks' cs':=fun e h=>by
  exact mH
 have hfoot:∀i e b,zg ((n,A7.map c ks' cs')::es) i=some e->e.AB g i=some b->∃e',zg es i=some e'/\e'.AB g i=some b:=fun i e b h2 h3=>by
  exact nj
 refine⟨hR.step (fun _=>ZB _) hcell (fun i hi=>hi) (fun _ _=>rfl) (fun _ _=>rfl) ?_ ?_ ?_,?_⟩
 .intro i e he;by_cases hi:i=n
  .subst hi;rw[hnew e he];exact .inr ⟨hR.lt _ _ hn,hm0,ms',clock',hself,hl,hl2,h1,fun j v c hv hc=>
    (h j v c hv hc).mono (fun _=>ZB _) hcell (fun i hi=>hi) (fun _ _=>rfl) (fun _ _=>rfl)⟩
  .exact lQ
 .exact lP
 .intro b hb;simp[Io] at hb;exact hR.fresh b hb
 .refine ⟨rfl,rfl,rfl,by simp[Io],hcell,fun _=>ZB _,fun _ _=>rfl,fun _ _=>rfl,fun b hb hf=>⟨hother b (fun e=>hf ⟨n,_,hn,iD⟩),rfl⟩,?_⟩;rintro b ⟨i,e,h2,h3⟩;obtain⟨d,h6,h7⟩:=hfoot i e b h2 h3;exact .inl ⟨i,d,h6,h7⟩
section
variable {E:Env} {N k:Nat} {a:AF} {σ:Aj} {Q:Exit->AF->Aj->Prop}
theorem AW.label{l:Nat}(h:Q .normal a σ):AW E N k (.label l) a σ Q:=by
 constructor;intro hk g w act hR hF hY;exact wp_label ⟨g,a,σ,h,hk,hR,hF,.refl ..⟩
theorem AW.goto{l:Nat}(h:Q (.goto l) a σ):AW E N k (.goto l) a σ Q:=by
 constructor;intro hk g w act hR hF hY;exact wp_goto ⟨g,a,σ,h,hk,hR,hF,.refl ..⟩
end
def w9(k:Int)(ks:List Int):List Int:=match G5 k ks with|some _=>ks|none=>ks++[k]
def Hv{α:Type}(k:Int)(ks:List Int)(cs:List α)(c:α):List α:=match G5 k ks with|some i=>cs.set i c|none=>cs++[c]
theorem Ea.push{es:List MapEntry}{clock:Nat}(h:Ea es clock)(key val:Value):Ea (es++[⟨key,val,clock⟩]) (clock+1):=by
 refine⟨fun x hx=> ?_,?_⟩
 .rcases ZU.1 hx with h1|h1
  .have:=h.1 x h1;omega
  grind
 .rw[aZ,dm];refine⟨h.2,dZ,?_⟩;intro a ha b hb e;obtain⟨x,hx,rfl⟩:=ZQ.1 ha;simp at hb;have:=h.1 x hx;omega
theorem Ea.modify{es:List MapEntry}{clock:Nat}(h:Ea es clock)(i:Nat)(key val:Value):Ea (es.modify i fun e=>{e with key:=key,val:=val}) clock:=by
 have hm:(es.modify i fun e=>{e with key:=key,val:=val}).map (·.born)=es.map (·.born):=by
  apply cL
  grind
 refine⟨fun x hx=> ?_,by rw[hm];exact h.2⟩;have h1:x.born∈(es.modify i fun e=>{e with key:=key,val:=val}).map (·.born):=cW hx;rw[hm] at h1;obtain⟨y,hy,e⟩:=ZQ.1 h1;have:=h.1 y hy;omega
section
variable {E:Env} {N:Nat} {o:Oper} {a:AF}
theorem Yif(D:Nat->Prop)(g:Gh)(n:Nat)(w:World){b:Nat}:Al (g.name n b) (fun i=>D i\/i∈[n]) w (.map (some b)) (.mp n):=by
 have h:=Al.mp (g:=g.name n b) (D:=fun i=>D i\/i∈[n]) (w:=w) n (Or.inr (ah.2 rfl));have hb:(g.name n b).blk n=b:=by simp[Gh.name]
 grind
theorem OS.makeMap(q:EC){t:TypeId}{n:Nat}(ho:o.op= .makeMap t none):OS E N o a [] (.mp n) [n] [(n,.map q [] [])]:=
 .of_run fun g D es w act hR _ hn hF=>by
  obtain⟨hR',hx⟩:=hR.KV q (hn n dZ);refine⟨g.name n w.heap.size,.map (some w.heap.size),w.alloc (.map #[] 0),?_,hR'.more (fun i hi=>ei),Yif D g n _,hx⟩;simp only[execOp,ho,cD,Instr.makeMap,Sem.run_bind,Sem.run_pure,run_newObj,Result.andThen_ok,World.alloc_eq]
theorem OS.mapUpdate{t kt et:TypeId}{x y z:Operand}{n:Nat}{k:Int}{ks:List Int}{q:EC}{cs:List q.sem}{c:q.sem}{v:V}(ho:o.op= .mapUpdate t x y z)(hm:E.P.underlying t=some (.map kt et))(hk:E.P.underlying kt=some (.int .i64))
 (hx:ev E 0 a x=some (.mp n)) (hy:ev E 0 a y=some (.i k)) (hz:ev E et a z=some v) (hle:Ai v (Ho q c)):OS E N o a [(n,.map q ks cs)] (.AM []) [] [(n,.map q (w9 k ks) (Hv k ks cs c))]:=
 .GR fun g D es w act hR hp hF=>by
  have h1:=z6 hx hR hF;have h2:=(z6 hy hR hF).BA;have h3:Al g D w (act.eval z) (Ho q c):=hle _ _ _ _ (z6 hz hR hF);have hn:=hp (n,.map q ks cs) dZ;obtain⟨_,ms,clock,h4,⟨h5,hbn⟩,h6,h7,h8⟩:=hR.BT n _ hn;generalize hv:act.eval x=v at h1;cases h1 with
  |data h=>cases h
  |mp _ hD=>
   have h9:=Xh k ms ks 0 (h5.trans h6.symm) h7;cases hi:G5 k ks with
   |none=>
    rw[hi,Option.bind_none] at h9;have key:=hR.Ii (ks':=w9 k ks) (cs':=Hv k ks cs c) (ms:=ms) (ms':=ms++[⟨.int .i64 k,act.eval z,clock⟩]) (clock':=clock+1) hn h4
     ⟨by simp[Hv,hi,h5],hbn.push _ _⟩ (by simp[Hv,w9,hi,h6])
     (fun j e x he hx=>by
      simp only[w9,hi] at hx
      grind)
     (fun j e d he hd=>by
      simp only[Hv,hi] at hd;rcases cc j ms.length with hj|hj;all_goals grind)
    refine⟨_,?_,key.1,key.2⟩;simp[execOp,ho,Instr.mapUpdate,hv,h2,xg hm,MapKept.run_getObj_map h4,MapKept.run_checkKey hk (k:= .int .i64 k) rfl,MapKept.run_findKey hk h9,Result.andThen,MapKept.run_setObj_map _ h4,Io]
   |some i=>
    have hil:i<ms.length:=by rw[h5,<-h6];exact(RA hi).2
    rw[hi,cu,ZD hil,ak] at h9;have hkey:(ms[i]'hil).key= .int .i64 k:=h7 i _ k (ZD hil) (RA hi).1;have key:=hR.Ii (ks':=w9 k ks) (cs':=Hv k ks cs c) (ms:=ms) (ms':=ms.modify i fun e=>{e with key:= .int .i64 k,val:=act.eval z}) (clock':=clock) hn h4
     ⟨by simp[Hv,hi,h5],hbn.modify _ _ _⟩ (by simp[Hv,w9,hi,h6])
     (fun j e x he hx=>by
      simp only[w9,hi] at hx
      grind)
     (fun j e d he hd=>by
      simp only[Hv,hi] at hd
      grind)
    refine⟨_,?_,key.1,key.2⟩;simp[execOp,ho,Instr.mapUpdate,hv,h2,xg hm,MapKept.run_getObj_map h4,MapKept.run_checkKey hk (k:= .int .i64 k) rfl,MapKept.run_findKey hk h9,Result.andThen,MapKept.run_setObj_map _ h4,Io,ZD hil,hkey,MapKept.run_keyThatStays (d:= .int .i64) (k:= .int .i64 k) rfl]
end
section
variable {E:Env} {N k:Nat} {a:AF} {σ:Aj}
variable {Q:Exit->AF->Aj->Prop} {ops:List Oper} {dr:Bool} {rest:List Oper} {acc:List Rec}
variable {d:Option Tmp} {ty:TypeId} {ps:String} {af:Array Edge} {gd:Option (Nat×Bool)}
namespace L
theorem XS{t kt et:TypeId}{i:TI}(hw:zy ops a gd=some true)(hm:E.P.underlying t=some (.map kt et))(ht:E.ti et=some i)(hs:i.desc= .bool)(hd:zw N d=true)
 (h2:AX E N k dr ops rest (a.put d (.mp σ.nx)) (σ.Aw 1 [(σ.nx,.map .bl [] [])]) (⟨[],.mp σ.nx,1,[(σ.nx,.map .bl [] [])]⟩::acc) Q):AX E N k dr ops (⟨d,.makeMap t none,ty,ps,af,gd⟩::rest) a σ acc Q:=
 AX.run 1 hw (OS.makeMap .bl rfl) trivial hd h2
theorem Yi{t kt et:TypeId}{x y z:Operand}{n:Nat}{q:Int}{ks:List Int}{cs:List Bool}{b:Bool}(hw:zy ops a gd=some true)(hx:ev E 0 a x=some (.mp n))(hy:ev E 0 a y=some (.i q))(hm:E.P.underlying t=some (.map kt et))(hk:E.P.underlying kt=some (.int .i64))
 (hz:ev E et a z=some (.bool b)) (hn:zg σ.es n=some (.map .bl ks cs)) (hd:zw N d=true)
 (h2:AX E N k dr ops rest (a.put d (.AM [])) (σ.Aw 0 [(n,.map .bl (w9 q ks) (Hv q ks cs b))]) (⟨[(n,.map .bl ks cs)],.AM [],0,[(n,.map .bl (w9 q ks) (Hv q ks cs b))]⟩::acc) Q):AX E N k dr ops (⟨d,.mapUpdate t x y z,ty,ps,af,gd⟩::rest) a σ acc Q:=
 AX.run 0 hw (OS.mapUpdate (q:= .bl) (c:=b) (v:= .bool b) rfl hm hk (fr ij hx) (fr ij hy) (fr ij hz) (Ai.refl _)) ⟨hn,trivial⟩ hd h2
end L
end
section
variable {E:Env} {N k:Nat} {a:AF} {σ:Aj} {Q:Exit->AF->Aj->Prop}
def UI(E:Env)(N k:Nat)(len n:Nat)(P:Nat->Prop)(J:Nat->AF×Aj)(Q:Exit->AF->Aj->Prop):Exit->AF->Aj->Prop
 | .normal,a,σ=>n<len/\P (n+1)/\Bc E N k a σ (J (n+1)).1 (J (n+1)).2
 |e,a,σ=>Q e a σ
theorem AW.upto{c:Code}(len:Nat)(P:Nat->Prop)(J:Nat->AF×Aj)(hP:P 0)(h0:Bc E N k a σ (J 0).1 (J 0).2)
 (h:∀n,n<=len->P n->AW E N k c (J n).1 (J n).2 (UI E N k len n P J Q)):AW E N k (.loop c) a σ Q:=by
 refine .loop (ι:={n:Nat // n<=len/\P n}) (fun n=>J n.1) (fun n=>len-n.1) ⟨0,bL _,hP⟩ h0 fun⟨n,hn,hPn⟩=>(h n hn hPn).mono ?_;rintro e a1 σ1 hq;cases e with
 |normal=>
  obtain⟨h1,h2,h3⟩:=hq;exact⟨⟨n+1,h1,h2⟩,ei,h3⟩
 |exit id=>exact hq
 |goto l=>exact hq
 |ret=>exact hq
 |panic ch=>exact hq
 |outgrown=>exact hq
end
namespace K
variable {E:Env} {N k:Nat} {a:AF} {σ:Aj} {Q:Exit->AF->Aj->Prop}
theorem uE{len n:Nat}{P:Nat->Prop}{J:Nat->AF×Aj}{id:Nat}(h:Q (.exit id) a σ):UI E N k len n P J Q (.exit id) a σ:=h
end K
theorem VN{ρ:List (Option Nat)}:∀{a a' b b':List V},xu ρ a=some a'->xu ρ b=some b'->xu ρ (a++b)=some (a'++b')
 |[],_,b,b',h,h'=>by simp[xu] at h;grind
 |c::a,_,b,b',h,h'=>by
  simp only[xu,ZL,ZG] at h;obtain⟨c',h1,a',h2,rfl⟩:=h;simp only[aE,xu,h1,VN h2 h',cu,ak]
theorem YU(ρ:List (Option Nat))(c:EC)(x:c.sem):xu ρ (c.view x)=some (c.view x):=gJ
theorem x7(ρ:List (Option Nat))(c:EC)(l:List c.sem):xu ρ (l.flatMap c.view)=some (l.flatMap c.view):=by
 induction l with
 |nil=>rfl
 |cons x l ih=>rw[Z1];exact VN (YU ρ c x) ih
theorem R.J3{G:DR}{g:Gh}{D:Nat->Prop}{es:Es}{w:World}(hR:R G g D es w){r n:Nat}(hn:¬D n){cs:List V}(hr:zg es r=some (.var cs)):
 R G (g.AK n (g.blk r) (g.row r)) (fun i=>D i\/i=n) ((n,.var cs)::(r,.gone)::es) w/\
 Ext D g (Aq g es) w (g.AK n (g.blk r) (g.row r)) (Aq (g.AK n (g.blk r) (g.row r)) ((n,.var cs)::(r,.gone)::es)) w:=by
 have hDr:=hR.lt r _ hr;have hne:∀i,D i->i≠n:=fun i hi e=>hn (e▸hi);have hb:∀i,D i->(g.AK n (g.blk r) (g.row r)).blk i=g.blk i:=fun i hi=>by simp[Gh.AK,hne i hi]
 have hrw:∀i,D i->(g.AK n (g.blk r) (g.row r)).row i=g.row i:=fun i hi=>by simp[Gh.AK,hne i hi]
 have hbn:(g.AK n (g.blk r) (g.row r)).blk n=g.blk r:=fW
 have hrn:(g.AK n (g.blk r) (g.row r)).row n=g.row r:=fW
 have hfind:∀i e,zg ((n,A7.var cs)::(r,.gone)::es) i=some e->(i=n/\e= .var cs)\/(i=r/\e= .gone)\/(i≠n/\i≠r/\zg es i=some e):=fun i e h=>by
  rw[zm] at h;by_cases h1:n=i
  .grind
  .rw[if_neg h1,zm] at h
   grind
 have hold:∀i e b,zg es i=some e->e.AB (g.AK n (g.blk r) (g.row r)) i=some b->e.AB g i=some b:=fun i e b h1 h2=>by
  rw[A7.Cd (hR.lt i e h1) hb hrw] at h2;exact h2
 have hfoot:∀i e b,zg ((n,A7.var cs)::(r,.gone)::es) i=some e->e.AB (g.AK n (g.blk r) (g.row r)) i=some b->(i=n/\b=g.blk r)\/(i≠n/\i≠r/\zg es i=some e/\e.AB g i=some b):=fun i e b h1 h2=>by
  rcases hfind i e h1 with⟨rfl,rfl⟩|⟨rfl,rfl⟩|⟨h3,h4,h5⟩
  .refine .inl ⟨rfl,?_⟩;simp only[A7.AB,ZI] at h2;omega
  .cases h2
  grind
 refine⟨hR.step (fun _=>ZB _) (fun _ _ _=>rfl) (fun _ h=> .inl h) hb hrw ?_ ?_ hR.fresh,?_⟩
 .intro i e he;rcases hfind i e he with⟨rfl,rfl⟩|⟨rfl,rfl⟩|⟨_,_,h5⟩
  .refine .inr ⟨.inr rfl,?_⟩;obtain⟨h1,vs,t,h2,h3,h4,h5,h6⟩:=hR.BT r _ hr;exact⟨by rw[hbn];exact h1,vs,t,ei,h3,h4,fun j v c hv hc=>(h5 j v c hv hc).mono (fun _=>ZB _) (fun _ _ _=>rfl) (fun _ h=> .inl h) hb hrw,ei⟩
  .exact .inr ⟨.inl hDr,trivial⟩
  .exact .inl ⟨h5,fun _ _=>⟨rfl,rfl⟩⟩
 .intro i j e e' b h1 h2 h3 h4;rcases hfoot i e b h1 h3 with⟨rfl,h5⟩|⟨h5,h6,h7,h8⟩
  .rcases hfoot j e' b h2 h4 with⟨rfl,_⟩|⟨h9,h10,h11,h12⟩
   .rfl
   .exact absurd (hR.A9 j r e' _ b h11 hr h12 (by simp[A7.AB,h5])) h10
  .rcases hfoot j e' b h2 h4 with⟨rfl,h13⟩|⟨h9,h10,h11,h12⟩
   .exact absurd (hR.A9 i r e _ b h7 hr h8 (by simp[A7.AB,h13])) h6
   .exact hR.A9 i j e e' b h7 h11 h8 h12
 .refine ⟨rfl,rfl,rfl,ZB _,fun _ _ _=>rfl,fun _=>ZB _,hb,hrw,fun _ _ _=>⟨rfl,rfl⟩,?_⟩;rintro b ⟨i,e,h1,h2⟩;rcases hfoot i e b h1 h2 with⟨_,h5⟩|⟨_,_,h7,h8⟩
  .exact .inl ⟨r,_,hr,by simp[A7.AB,h5]⟩
  .exact .inl ⟨i,e,h7,h8⟩
section
variable {E:Env} {N k:Nat} {o:Oper} {a:AF}
theorem PW(D:Nat->Prop)(g:Gh)(n b:Nat)(w:World){len cap sz:Nat}(h:len<=cap):Al (g.AK n b (some ⟨b,0,cap,sz,0⟩)) (fun i=>D i\/i∈[n]) w (.slice (some ⟨b,0,none⟩) len cap) (.arr n len sz):=Pp D g n w h
theorem OS.JL{t te:TypeId}{s x:Operand}{i ie:TI}{co:Option EC}{c:EC}{sz bytes n r len:Nat}{sp':Sp}{l:List c.sem}{cs:List V}(ho:o.op= .call {callee:= .builtin .append,args:= #[s,x],argTypes:= #[t,t]})
 (ht:E.ti t=some i) (hd:i.desc= .slc co sz bytes) (hte:E.P.underlying t=some (.slice te)) (hti:E.ti te=some ie) (hs:ev E t a s=some (.arr r len sz)) (hx:ev E t a x=some (.slice sp' (.t c l))) (hpos:0<l.length) (hcl:cs.length=len*sz)
 (hsz:Nat.beq c.cells sz=true) (hb:(len+l.length)*bytes<=140737488355328) (hb2:len+l.length<=9223372036854775807):
 OS E N o a [(r,.var cs)] (.arr n (len+l.length) sz) [n] [(n,.var (cs++l.flatMap c.view)),(r,.gone)]:=
 .of_run fun g D es w act hR hp hn hF=>by
  obtain⟨e,inf,z,h1,h2,h3,h4,h5,h6,h7,h8⟩:=IJ ht hd;obtain rfl:e=te:=ei
  obtain⟨inf2,hi1,hi2,z2,hi3,hi4⟩:=Jf hti;have hz1:∀v∈z.cells.toList,v.oneCell'=true:=by
   exact lp
  have hcs:c.cells=sz:=Z9 hsz;have hn':¬D n:=hn n dZ;have hr:=hp (r,.var cs) dZ;have hvs:=z6 hs hR hF;have hdx:=(z6 hx hR hF).Bu;obtain⟨xb,xc,hxv⟩:=hdx.Bu;obtain⟨news,hnl,hn1,hnf,hnr,hnl2⟩:=hdx.Dm;rw[hxv] at hnf;have hsz':c.cells=inf.size:=dY
  have hDD:∀i,(D i\/i=n)->(D i\/i∈[n]):=fun i h=>h.imp id (fun h=>by simp[h]);have hrun:∀v w',(Builtin.append_ #[t,t] o.type #[act.eval s,act.eval x]).run E.P w= .ok v w'->(execOp act.eval o).run E.P w= .ok (.value v) w':=fun v w' h=>by
   exact m9
  have hnews:news.length=l.length*sz:=by rw[hnl];show l.length*c.cells=_;rw[hcs]
  have hfl:(l.flatMap c.view).length=l.length*sz:=by rw[wv,hcs]
  have hnv:∀(q:Nat) u d,news[q]? =some u->(l.flatMap c.view)[q]? =some d->Al g D w u d:=fun q u d hu hd=>by
   have hq:=(ZT.1 hd).1;rw[wv] at hq;have hc0:0<c.cells:=by
    omega
   have hqi:q/c.cells<l.length:=(cP hc0).2 hq;have hqj:q%c.cells<c.cells:=dI _ hc0;have hqe:q/c.cells*c.cells+q%c.cells=q:=by rw[dJ];exact dN q c.cells
   have hd':=hd;rw[<-hqe,NK c l _ _ hqj,ZD hqi] at hd';have hd2:(c.view l[q/c.cells])[q%c.cells]? =some d:=hd';obtain⟨u',hu',hdr⟩:=hnr (q/c.cells) (q%c.cells) (c.view l[q/c.cells]) d jX hd2 hqi hqj;have hu2:news[q]? =some u':=by rw[<-hqe];exact hu'
   rw[hu] at hu2;cases hu2;exact .data hdr
  generalize hv:act.eval s=v at hvs;cases hvs with
  |data h=>cases h
  |arr _ _ _ cap hDr hcap hrow=>
   obtain⟨h9,vs,te,h10,h11,h12,h13,h14⟩:=hR.BT r _ hr;have hlen:=h14 _ hrow;simp only at hlen;have hxv':act.eval x= .slice xb l.length xc:=hxv;by_cases hroom:len+l.length<=cap
   .have hfit:len*sz+news.length<=vs.length:=by rw[hnews,<-aM,hlen];exact aL _ hroom
    obtain⟨hR1,hx1⟩:=hR.store hr h10 (vs':=vs.take (len*sz)++news++vs.drop (len*sz+news.length)) (cs':=cs++l.flatMap c.view)
     ei ei
     (fun u hu=>by
      grind)
     (fun j u d hu hd=>by
      grind)
    obtain⟨hR2,hx2⟩:=hR1.J3 (n:=n) hn' (r:=r) (cs:=cs++l.flatMap c.view) jc;rw[hrow] at hR2 hx2;have he:∀i,zg ((n,A7.var (cs++l.flatMap c.view))::(r,.gone)::es) i=zg ((n,A7.var (cs++l.flatMap c.view))::(r,.gone)::(r,.var (cs++l.flatMap c.view))::es) i:=fun i=>by
     simp only[zm]
     grind
    refine⟨_,.slice (some ⟨g.blk r,0,none⟩) (len+l.length) cap,_,hrun _ _ ?_,(hR2.congr he).more hDD,?_,?_⟩
    .rw[hv,hxv'];have:=V4 (P:=E.P) (w:=w) (ty:=o.type) h1 h2 h10 (sLen:=len) (sCap:=cap) (xb:=xb) (n:=l.length) (xc:=xc) (news:=news) ei hn1 (by rw[<-hsz'];exact hnf w rfl E.P) hroom ei
     grind
    .exact PW D g n (g.blk r) _ hroom
    .have h15:=hx1.trans hx2;have hf:Aq (g.AK n (g.blk r) (some ⟨g.blk r,0,cap,sz,0⟩)) ([(n,.var (cs++l.flatMap c.view)),(r,.gone)]++es)=Aq (g.AK n (g.blk r) (some ⟨g.blk r,0,cap,sz,0⟩)) ((n,A7.var (cs++l.flatMap c.view))::(r,.gone)::(r,.var (cs++l.flatMap c.view))::es):=Aq.congr he
     grind
   .obtain ⟨hRg,hxg⟩:=hR.gone hr;have hge:=grownCap_ge w (len+l.length) cap e;obtain⟨olds,holds⟩:∃olds,olds=vs.take (len*sz):=⟨_,rfl⟩;have hol:olds.length=len*sz:=ei
    obtain⟨hR',hx'⟩:=hRg.drew.Hx hn' (some ⟨w.heap.size,0,grownCap w (len+l.length) cap e,sz,0⟩) (vs:=olds++news++(Builtin.zeroCells z.cells (grownCap w (len+l.length) cap e-(len+l.length))).toList) (cs:=cs++l.flatMap c.view) e
     ei
     (fun v hv=>by
      rcases ZU.1 hv with hv|hv
      .grind
      .exact Px hz1 _ v hv)
     (fun q v d hv hd=>by
      by_cases hq:q<len*sz
      .exact lK
      .rw[aj dY,hcl] at hd;have hq2:=(ZT.1 hd).1;rw[ZE,aj dY,hol,ai dY] at hv;exact(hnv _ v d hv hd).mono (fun _=>ZB _) (fun _ _ _=>rfl) (fun _ h=>h) (fun _ _=>rfl) (fun _ _=>rfl))
     (fun r hr=>by
      cases hr;simp only[ZR,bY,size_zeroCells,hnews,hol,h6];rw[<-aM,<-aM]
      grind)
    refine⟨_,.slice (some ⟨w.heap.size,0,none⟩) (len+l.length) (grownCap w (len+l.length) cap e),_,hrun _ _ ?_,hR'.more hDD,?_,(hxg.trans Ext.drew).trans hx'⟩
    .rw[hv,hxv'];have hof:∀W:World,W.heap=w.heap->(Builtin.firstCells inf.size len (.slice (some ⟨g.blk r,0,none⟩) len cap)).run E.P W= .ok olds.toArray W:=fun W hW=>by
      exact ld
     exact vp (P:=E.P) (w:=w) (ty:=o.type) h1 h2 h5 (base:=some ⟨g.blk r,0,none⟩) (sLen:=len) (sCap:=cap) (xb:=xb) (n:=l.length) (xc:=xc) (olds:=olds) (news:=news)
      hof (fun W hW=>by rw[<-hsz'];exact hnf W hW E.P) dY ei dY
    .exact PW D g n _ _ hge
theorem OS.SO{t:TypeId}{x:Operand}{n len sz:Nat}(ho:o.op= .call {callee:= .builtin .len,args:= #[x],argTypes:= #[t]}){i:TI}(ht:E.ti t=some i){c:Option EC}{z by_:Nat}(hd:i.desc= .slc c z by_)
 (hx:ev E t a x=some (.arr n len sz)):OS E N o a [] (.i len) [] []:=
 .pure fun g D es w act hR _ hF=>by
  have h1:=z6 hx hR hF;obtain⟨d,h2,h3⟩:=Kf ht;rw[hd] at h3;generalize hv:act.eval x=v at h1;cases h1 with
  |data h=>cases h
  |arr _ _ _ cap _ _ _=>
   cases d with
   |slice e=>
    refine⟨_,?_,.data (.int .i64 len)⟩;simp[execOp,ho,resolve,invoke,builtin,Builtin.len_,hv,xg h2,goInt]
   |_=>cases h3
end
theorem WA(c:EC):∀(l:List c.sem) (kk:Nat) (h:kk<l.length),(l.flatMap c.view).drop (kk*c.cells)=c.view l[kk]++(l.drop (kk+1)).flatMap c.view
 |[],kk,h=>ei
 |x::l,0,h=>dZ
 |x::l,q+1,h=>by
  have hx:=EC.Bg c x;rw[Z1,cS,cK ei,Z3,hx,show(q+1)*c.cells-c.cells=q*c.cells by grind,WA c l q ei]
  rfl
section
variable {E:Env} {N k:Nat} {a:AF} {σ:Aj} {Q:Exit->AF->Aj->Prop} {ops:List Oper} {dr:Bool} {rest:List Oper} {acc:List Rec}
variable {d:Option Tmp} {ty:TypeId} {ps:String} {af:Array Edge} {gd:Option (Nat×Bool)}
namespace L
theorem apR{t te:TypeId}{s x:Operand}{z:Nat}{zr:List V}{ie:TI}{e:EC}{co:Option EC}{sz bytes r len:Nat}{sp':Sp}{l:List e.sem}{cs:List V}(hw:zy ops a gd=some true)(hs:ev E t a s=some (.arr r len sz))(hx:ev E t a x=some (.slice sp' (.t e l)))(ht:E.ti t=some ⟨z,zr,.slc co sz bytes⟩)(hte:E.P.underlying t=some (.slice te))(hti:E.ti te=some ie)
 (hn:zg σ.es r=some (.var cs)) (hcl:cs.length=len*sz) (hsz:Nat.beq e.cells sz=true) (hd:zw N d=true) (hby:Nat.ble bytes 128=true) (hpos:0<l.length) (hb:len+l.length<=1099511627776)
 (h2:AX E N k dr ops rest (a.put d (.arr σ.nx (len+l.length) sz)) (σ.Aw 1 [(σ.nx,.var (cs++l.flatMap e.view)),(r,.gone)]) (⟨[(r,.var cs)],.arr σ.nx (len+l.length) sz,1,[(σ.nx,.var (cs++l.flatMap e.view)),(r,.gone)]⟩::acc) Q):
 AX E N k dr ops (⟨d,.call ⟨.builtin .append,#[s,x],#[t,t]⟩,ty,ps,af,gd⟩::rest) a σ acc Q:=
 AX.run 1 hw (OS.JL rfl ht rfl hte hti (fr eA hs) (fr eA hx) hpos hcl hsz
  (by
   have h3:bytes<=128:=ZP hby;have h4:(len+l.length)*bytes<=1099511627776*128:=bh hb h3;omega) dY) ⟨hn,trivial⟩ hd h2
theorem Jx{t:TypeId}{x:Operand}{n len sz:Nat}{z:Nat}{zr:List V}{c:Option EC}{sz' by_:Nat}(hw:zy ops a gd=some true)(hx:ev E t a x=some (.arr n len sz))(ht:E.ti t=some ⟨z,zr,.slc c sz' by_⟩)(hd:zw N d=true)
 (h2:AX E N k dr ops rest (a.put d (.i len)) σ (⟨[],.i len,0,[]⟩::acc) Q):AX E N k dr ops (⟨d,.call ⟨.builtin .len,#[x],#[t]⟩,ty,ps,af,gd⟩::rest) a σ acc Q:=
 AX.run 0 hw (OS.SO rfl ht rfl (fr eA hx)) trivial hd h2
theorem UC{t:TypeId}{x:Operand}{i:TI}{n off:Nat}(kk:Nat){c:EC}{l:List c.sem}(hw:zy ops a gd=some true)(hx:ev E 0 a x=some (.ptr n off))(ht:E.ti t=some i)(hn:zg σ.es n=some (.var (l.flatMap c.view)))
 (hoff:off=kk*c.cells) (hlt:kk<l.length) {v:V} (hv:G4 i (c.view l[kk])=some v) (hsz:Nat.beq i.size c.cells=true) (hd:zw N d=true)
 (h2:AX E N k dr ops rest (a.put d v) σ (⟨[(n,.var (l.flatMap c.view))],v,0,[]⟩::acc) Q):AX E N k dr ops (⟨d,.load t x,ty,ps,af,gd⟩::rest) a σ acc Q:=by
 refine L.Ez hw hx ht hn ?_ hd h2;have h0:=EC.Bg c l[kk];have h1:(l.flatMap c.view).drop off=c.view l[kk]++(l.drop (kk+1)).flatMap c.view:=by subst hoff;exact WA c l kk hlt
 have h3:i.size=c.cells:=Z9 hsz;rw[h1];unfold G4 at hv ⊢;cases hb:i.desc.agg with
 |true=>
  rw[hb] at hv;simp only[cond_true,h0,h3,ZR,bV (ZB _),ZI] at hv ⊢;rw[show Nat.ble c.cells (c.cells+((l.drop (kk+1)).flatMap c.view).length)=true from bV dY]
  grind
 |false=>
  grind
end L
end
theorem X6{f g:Nat->Option (Nat×Nat)}:∀(parts:List (Nat×Value)) (z:Array Value),(∀p∈parts,f p.1=g p.1)->Instr.fill f z parts=Instr.fill g z parts
 |[],z,_=>rfl
 |p::l,z,h=>by
  have h1:=h p dZ;simp only[Instr.fill,h1];cases g p.1 with
  |none=>rfl
  |some q=>
   simp only;split
   .rfl
   .exact X6 l _ fun x hx=>h x ei
theorem Wz{gs:List (Nat×Nat×Bool)}:∀{vps:List (Nat×List V)} {z cs:List V},I7 gs z vps=some cs->∀p∈vps,p.1<gs.length
 |[],z,cs,h,p,hp=>by cases hp
 |q::l,z,cs,h,p,hp=>by
  simp only[I7] at h;cases hq:gs[q.1]? with
  |none=>grind
  |some r=>
   rw[hq] at h;cases hb:Nat.beq q.2.length r.2.1&&Nat.ble (r.1+q.2.length) z.length with
   |false=>grind
   |true=>
    simp only[hb,cond_true] at h;rcases Z4.1 hp with rfl|hp
    .grind
    .exact Wz h p hp
theorem Y4{E:Env}{a:AF}:∀{ps:List (Nat×Operand)} {vps:List (Nat×List V)},GO E a ps=some vps->vps.map (·.1)=ps.map (·.1)
 |[],vps,h=>by simp[GO] at h;grind
 |p::l,vps,h=>by
  simp only[GO,ZL,ZG] at h;obtain⟨vc,_,r,h6,rfl⟩:=h;simp[Y4 h6]
def Ms(n esz:Nat)(ea:Bool):List (Nat×Nat×Bool):=(List.range n).map fun i=>(i*esz,esz,ea)
section
variable {E:Env} {N k:Nat} {o:Oper} {a:AF}
theorem OS.K5{t:TypeId}{ps:List (Nat×Operand)}{i:TI}{n esz:Nat}{ea:Bool}{vps:List (Nat×List V)}{cs:List V}(ho:o.op= .build t ps.toArray)(ht:E.ti t=some i)(hd:i.desc= .arr n esz ea)
 (hp:GO E a ps=some vps) (hf:I7 (Ms n esz ea) i.zero vps=some cs):OS E N o a [] (.agg cs) [] []:=
 .pure fun g D es w act hR _ hF=>by
  obtain⟨e,ie,h1,h2,h2',_,_⟩:=Ru ht hd;obtain⟨inf,h3,h4,z,h5,h6⟩:=Jf ht;obtain⟨h7,h8,h9⟩:=v8 h6;obtain⟨us,h10,h11,h12,h13⟩:=XA hR hF hp hf h7 h8 (fun i v c hv hc=>h9 g D w i v c hv hc);refine⟨.agg us.toArray,?_,.agg us cs h11 h12 h13⟩;have hb:E.P.built t ((ps.toArray.map fun x=>(x.1,act.eval x.2))).toList=some us.toArray:=by
   unfold Program.built;simp only[h3,h1,h5,h2];rw[<-h10];have e1:(ps.toArray.map fun x=>(x.1,act.eval x.2)).toList=ps.map fun x=>(x.1,act.eval x.2):=dZ
   rw[e1];have e2:z.cells.toList.toArray=z.cells:=dZ
   rw[<-e2];refine X6 _ _ fun p hp'=> ?_;obtain⟨x,hx,rfl⟩:=ZQ.1 hp';have hlt:x.1<n:=by
    have hm:x.1∈vps.map (·.1):=by rw[Y4 hp];grind
    obtain⟨y,hy,hyx⟩:=ZQ.1 hm;have:=Wz hf y hy;simp only[Ms,aI,List.length_range] at this;omega
   simp only;have:(Ms n esz ea)[x.1]? =some (x.1*esz,esz,ea):=by simp[Ms,hlt]
   grind
  have hrun:=run_build (P:=E.P) w t (ps.toArray.map fun x=>(x.1,act.eval x.2)) us.toArray hb;simp only[execOp,ho,hrun,Sem.run_bind,Result.andThen_ok,Sem.run_pure]
end
section
variable {E:Env} {N k:Nat} {a:AF} {σ:Aj} {Q:Exit->AF->Aj->Prop} {ops:List Oper} {dr:Bool} {rest:List Oper} {acc:List Rec}
variable {d:Option Tmp} {ty:TypeId} {ps:String} {af:Array Edge} {gd:Option (Nat×Bool)}
theorem L.YG{t:TypeId}{pp:List (Nat×Operand)}{z:Nat}{zr:List V}{n esz:Nat}{ea:Bool}{vps:List (Nat×List V)}{cs:List V}(hw:zy ops a gd=some true)(ht:E.ti t=some ⟨z,zr,.arr n esz ea⟩)(hp:GO E a pp=some vps)
 (hf:I7 (Ms n esz ea) zr vps=some cs) (hd:zw N d=true) (h2:AX E N k dr ops rest (a.put d (.agg cs)) σ (⟨[],.agg cs,0,[]⟩::acc) Q):AX E N k dr ops (⟨d,.build t pp.toArray,ty,ps,af,gd⟩::rest) a σ acc Q:=
 AX.run 0 hw (OS.K5 rfl ht rfl (Ur jJ hp) hf) trivial hd h2
end
def Pd(P:Program)(t:TypeId):Bool:=match P.underlying t with|some (.func _ _ _)=>true|_=>false
theorem Zt3{P:Program}{t:TypeId}(h:Pd P t=true):∃a b c,P.underlying t=some (.func a b c):=by
 unfold Pd at h
 grind
def PU:V->Option Bool
 | .nilf=>some false
 | .fn _ _ _=>some true
 |_=>none
section
variable {E:Env} {N k:Nat} {o:Oper} {a:AF}
theorem OS.Pa{t u:TypeId}{x y:Operand}{c:V}{b:Bool}(ho:o.op= .binOp .neq t x y u)(ht:Pd E.P t=true)(hx:ev E t a x=some c)(hc:PU c=some b)(hy:ev E t a y=some .nilf):OS E N o a [] (.bool b) [] []:=
 .pure fun g D es w act hR _ hF=>by
  obtain⟨p,q,r,hu⟩:=Zt3 ht;have h1:=z6 hx hR hF;have h2:=z6 hy hR hF;generalize hvx:act.eval x=v at h1;generalize hvy:act.eval y=v' at h2;have e2:v'= .nilFunc:=by
   cases h2 with
   |data h=>cases h
   |nilf=>rfl
  subst e2;cases c with
  |nilf=>
   simp only[PU,ZI] at hc;subst hc;have e1:v= .nilFunc:=by
    cases h1 with
    |data h=>cases h
    |nilf=>rfl
   subst e1;have he:(Op.equal t .nilFunc .nilFunc).run E.P w= .ok true w:=by
    unfold Op.equal Op.maxDepth Op.equalIn;simp[xg hu]
   exact⟨.bool false,jP,.data (.bool _)⟩
  |fn f fi caps=>
   simp only[PU,ZI] at hc;subst hc;obtain⟨fi',caps',e1⟩:∃fi' caps',v= .func f fi' caps':=by
    cases h1 with
    |data h=>cases h
    |fn=>simp
   subst e1;have he:(Op.equal t (.func f fi' caps') .nilFunc).run E.P w= .ok false w:=by
    unfold Op.equal Op.maxDepth Op.equalIn;simp[xg hu]
   exact⟨.bool true,jP,.data (.bool _)⟩
  |_=>cases hc
end
section
variable {E:Env} {N k:Nat} {a:AF} {σ:Aj} {Q:Exit->AF->Aj->Prop} {ops:List Oper} {dr:Bool} {rest:List Oper} {acc:List Rec}
variable {d:Option Tmp} {ty:TypeId} {ps:String} {af:Array Edge} {gd:Option (Nat×Bool)}
theorem L.Pa{t u:TypeId}{x y:Operand}{c:V}{b:Bool}(hw:zy ops a gd=some true)(ht:Pd E.P t=true)(hx:ev E t a x=some c)(hc:PU c=some b)(hy:ev E t a y=some .nilf)(hd:zw N d=true)
 (h2:AX E N k dr ops rest (a.put d (.bool b)) σ (⟨[],.bool b,0,[]⟩::acc) Q):AX E N k dr ops (⟨d,.binOp .neq t x y u,ty,ps,af,gd⟩::rest) a σ acc Q:=
 AX.run 0 hw (OS.Pa rfl ht (fr eA hx) hc (fr eA hy)) trivial hd h2
end
end Go.Ab
namespace Go.Ab
open Go
set_option linter.all false
section
variable {E:Env} {N k:Nat} {a:AF} {σ:Aj} {Q:Exit->AF->Aj->Prop} {ops:List Oper} {dr:Bool} {rest:List Oper} {acc:List Rec}
variable {d:Option Tmp} {ty:TypeId} {ps:String} {af:Array Edge} {gd:Option (Nat×Bool)}
theorem M.sb{t u:TypeId}{x y:Operand}{n m:Int}(h2:AX E N k dr ops rest (a.put d (.int .i64 (n-m))) σ (⟨[],.int .i64 (n-m),0,[]⟩::acc) Q)(hw:zy ops a gd=some true:=by rfl)(hx:ev E t a x=some (.int .i64 n):=by rfl)(hy:ev E t a y=some (.int .i64 m):=by rfl)(hd:zw N d=true:=by rfl)(h1: -9223372036854775808<=n-m/\n-m<=9223372036854775807:=by omega):
 AX E N k dr ops (⟨d,.binOp .sub t x y u,ty,ps,af,gd⟩::rest) a σ acc Q:=L.sb hw hx hy hd h1 h2
theorem M.s3{t:TypeId}{x y zz:Operand}{z:Nat}{zr:List V}{c:Option EC}{sz bytes:Nat}{sp:Sp}{l:SL V}{k1 k2:IntKind}(h2:AX E N k dr ops rest (a.put d (.slice .full l)) σ (⟨[],.slice .full l,0,[]⟩::acc) Q)(hw:zy ops a gd=some true:=by rfl)(hx:ev E t a x=some (.slice sp l):=by rfl)(ht:E.ti t=some ⟨z,zr,.slc c sz bytes⟩:=by rfl)(hy:ev E 0 a y=some (.int k1 l.len):=by rfl)(hz:ev E 0 a zz=some (.int k2 l.len):=by rfl)(hd:zw N d=true:=by rfl):
 AX E N k dr ops (⟨d,.slice t x none (some y) (some zz),ty,ps,af,gd⟩::rest) a σ acc Q:=L.s3 hw hx ht hy hz hd h2
theorem M.r1{rs:List ResultVar}{r:V}{cs:List V}{c1:V}(h8:(zh cs).wk=c1)(h1:Gi E a σ.es rs=some cs:=by with_unfolding_all rfl)(h7:ww [] r=some c1:=by with_unfolding_all rfl):
 FV E 0 rs r ⟨0,[]⟩ .ret a σ:=K.r1 h1 h7 h8
theorem M.n1{rs:List ResultVar}{r:V}{cs:List V}{c1:V}(h8:(zh cs).wk=c1)(h1:Gi E a σ.es rs=some cs:=by with_unfolding_all rfl)(h7:ww [] r=some c1:=by with_unfolding_all rfl):
 FV E 0 rs r ⟨0,[]⟩ .normal a σ:=K.n1 h1 h7 h8
theorem M.ix{t:TypeId}{x y:Operand}{z:Nat}{zr:List V}{c:Option EC}{sz bytes:Nat}{sp:Sp}{l:SL V}{n:Int}{cs:List V}{kd:IntKind}(h2:AX E N k dr ops rest (a.put d (.addr cs)) σ (⟨[],.addr cs,0,[]⟩::acc) Q)(hw:zy ops a gd=some true:=by rfl)(hx:ev E t a x=some (.slice sp l):=by rfl)(ht:E.ti t=some ⟨z,zr,.slc c sz bytes⟩:=by rfl)(hy:ev E 0 a y=some (.int kd n):=by rfl)(hn:n=0:=by rfl)(hlt:0<l.len:=by exact ZP rfl)(hk:l.get 0=some cs:=by rfl)(hsz:Nat.beq l.cells sz=true:=by rfl)(hd:zw N d=true:=by rfl):
 AX E N k dr ops (⟨d,.indexAddr t x y,ty,ps,af,gd⟩::rest) a σ acc Q:=L.ix 0 hw hx ht hy hn hlt hk hsz hd h2
theorem M.c2{f:FuncId}{xs:List Operand}{ts:List TypeId}{cs args:List V}{r:V}(h:PC E f args r)(h2:AX E N k dr ops rest (a.put d r) σ (⟨[],r,0,[]⟩::acc) Q)(hw:zy ops a gd=some true:=by rfl)(hx:DS E a xs ts=some cs:=by rfl)(hr:xu [] args=some (V.An cs):=by rfl)(hd:zw N d=true:=by rfl):
 AX E N k dr ops (⟨d,.call ⟨.value (.func f),xs.toArray,ts.toArray⟩,ty,ps,af,gd⟩::rest) a σ acc Q:=L.c2 h hw hx hr hd h2
theorem M.cb{f:FuncId}{xs:List Operand}{ts:List TypeId}{cs args:List V}{σ1 σ2:Aj}{r r':V}{pre post:Es}(h:AC E f args σ1 r σ2)(L:List Nat)(news:Nat)(h2:AX E N k dr ops rest (a.put d r') (σ.Aw news post) (⟨pre,r',news,post⟩::acc) Q)(hw:zy ops a gd=some true:=by rfl)(hx:DS E a xs ts=some cs:=by rfl)(hpre:He σ.es L=some pre:=by rfl)(hL:L.length=σ1.nx:=by rfl)(hn':σ2.nx=σ1.nx+news:=by rfl)(hd:yb (yj (z7 L σ.nx news))=true:=by rfl)(hr:xu (yj L) args=some (V.An cs):=by rfl)(hin:D8 (yj L) pre σ1.es:=by((repeat'(first|exact trivial|exact Or.inl rfl|exact Or.inr ⟨_,rfl,rfl⟩|refine And.intro ?_ ?_|refine⟨_,rfl,_,rfl,_,rfl,?_⟩|refine⟨_,rfl,_,rfl,?_⟩|exact Ai.refl _|exact Ai.any _ _|exact Bb.refl _|refine Ai.agg ?_|refine⟨_,rfl,_,_,rfl,?_,?_⟩|with_reducible exact rfl|exact Eq.refl true|refine⟨_,rfl,_,x7 _ _ _,_,rfl,?_⟩|fail));all_goals fail))(hout:Gp (yj (z7 L σ.nx news)) σ2.es=some post:=by rfl)(hcov:HQ σ2.es σ2.nx=true:=by rfl)(hr':ww (yj (z7 L σ.nx news)) r=some r':=by rfl)(hdst:zw N d=true:=by rfl):
 AX E N k dr ops (⟨d,.call ⟨.value (.func f),xs.toArray,ts.toArray⟩,ty,ps,af,gd⟩::rest) a σ acc Q:=Go.Ab.L.Mt h L news hw hx hpre hL hn' hd hr hin hout hcov hr' hdst h2
theorem M.cv{x:Operand}{f:FuncId}{fi caps:List V}{xs:List Operand}{ts:List TypeId}{cs args:List V}{σ1 σ2:Aj}{r r':V}{pre post:Es}(h:AC E f args σ1 r σ2)(L:List Nat)(news:Nat)(h2:AX E N k dr ops rest (a.put d r') (σ.Aw news post) (⟨pre,r',news,post⟩::acc) Q)(hw:zy ops a gd=some true:=by rfl)(hf:ev E 0 a x=some (.fn (.func f) fi caps):=by rfl)(hx:DS E a xs ts=some cs:=by rfl)(hpre:He σ.es L=some pre:=by rfl)(hL:L.length=σ1.nx:=by rfl)(hn':σ2.nx=σ1.nx+news:=by rfl)(hd:yb (yj (z7 L σ.nx news))=true:=by rfl)(hr:xu (yj L) args=some (V.An (fi++cs++caps)):=by rfl)(hin:D8 (yj L) pre σ1.es:=by((repeat'(first|exact trivial|exact Or.inl rfl|exact Or.inr ⟨_,rfl,rfl⟩|refine And.intro ?_ ?_|refine⟨_,rfl,_,rfl,_,rfl,?_⟩|refine⟨_,rfl,_,rfl,?_⟩|exact Ai.refl _|exact Ai.any _ _|exact Bb.refl _|refine Ai.agg ?_|refine⟨_,rfl,_,_,rfl,?_,?_⟩|with_reducible exact rfl|exact Eq.refl true|refine⟨_,rfl,_,x7 _ _ _,_,rfl,?_⟩|fail));all_goals fail))(hout:Gp (yj (z7 L σ.nx news)) σ2.es=some post:=by rfl)(hcov:HQ σ2.es σ2.nx=true:=by rfl)(hr':ww (yj (z7 L σ.nx news)) r=some r':=by rfl)(hdst:zw N d=true:=by rfl):
 AX E N k dr ops (⟨d,.call ⟨.value x,xs.toArray,ts.toArray⟩,ty,ps,af,gd⟩::rest) a σ acc Q:=Go.Ab.L.cv2 h L news hw hf hx hpre hL hn' hd hr hin hout hcov hr' hdst h2
abbrev Ay:List (Option Nat):=[some 0]
abbrev AQ:List (Option Nat):=[some 0,some 1]
abbrev CI:List (Option Nat):=[some 0,some 1,some 2]
abbrev EV:List (Option Nat):=[some 0,some 1,some 2,some 3]
abbrev DT:List (Option Nat):=[some 0,some 1,some 2,some 3,some 4]
abbrev CZ:List (Option Nat):=[some 0,some 1,some 2,some 3,some 4,some 5]
abbrev Fg:List (Option Nat):=[some 0,some 1,some 2,some 3,some 4,some 5,some 6]
abbrev HS:List (Option Nat):=[some 0,some 1,some 2,some 3,some 4,some 5,some 6,some 7]
abbrev PM:List (Option Nat):=[some 0,none]
abbrev OP:List (Option Nat):=[some 0,some 1,none]
abbrev HU:List (Option Nat):=[some 0,some 1,some 2,none]
abbrev HR:List (Option Nat):=[some 0,some 1,some 2,some 3,none]
abbrev Mf:List (Option Nat):=[some 0,some 1,some 2,some 3,some 4,none]
abbrev Nr:List (Option Nat):=[some 0,some 1,some 2,some 3,some 4,some 5,none]
abbrev SK:List (Option Nat):=[some 0,some 1,some 2,some 3,some 4,some 5,some 6,none]
abbrev Qk:List (Option Nat):=[some 0,some 1,some 2,some 3,some 4,some 5,some 6,some 7,none]
abbrev Qn:List (Option Nat):=[some 0,some 1,some 2,some 3,some 4,some 5,some 6,some 7,some 8,none]
abbrev OD:List (Option Nat):=[some 0,some 1,some 2,some 3,some 4,some 5,some 6,some 7,some 8,some 9,none]
theorem M.W(ρ:List (Option Nat)){a2:AF}{es2:Es}{nx2:Nat}(hf:M9 ρ a a2:=by((repeat'(first|exact trivial|exact Or.inl rfl|exact Or.inr ⟨_,rfl,rfl⟩|refine And.intro ?_ ?_|refine⟨_,rfl,_,rfl,_,rfl,?_⟩|refine⟨_,rfl,_,rfl,?_⟩|exact Ai.refl _|exact Ai.any _ _|exact Bb.refl _|refine Ai.agg ?_|refine⟨_,rfl,_,_,rfl,?_,?_⟩|with_reducible exact rfl|exact Eq.refl true|refine⟨_,rfl,_,x7 _ _ _,_,rfl,?_⟩|fail));all_goals fail))(he:D8 ρ σ.es es2:=by((repeat'(first|exact trivial|exact Or.inl rfl|exact Or.inr ⟨_,rfl,rfl⟩|refine And.intro ?_ ?_|refine⟨_,rfl,_,rfl,_,rfl,?_⟩|refine⟨_,rfl,_,rfl,?_⟩|exact Ai.refl _|exact Ai.any _ _|exact Bb.refl _|refine Ai.agg ?_|refine⟨_,rfl,_,_,rfl,?_,?_⟩|with_reducible exact rfl|exact Eq.refl true|refine⟨_,rfl,_,x7 _ _ _,_,rfl,?_⟩|fail));all_goals fail))(hnx:nx2=ρ.length:=by rfl)(hid:Hs 0 k ρ=true:=by rfl)(hd:yb ρ=true:=by rfl)(hb:below σ.nx ρ=true:=by rfl):Bc E N k a σ a2 ⟨nx2,es2⟩:=Bc.mk ρ a2 es2 nx2 hnx hid hd hb hf he
theorem M.r2{rs:List ResultVar}{r:V}{σ':Aj}{cs:List V}{c1:V}(ρ:List (Option Nat))(h1:Gi E a σ.es rs=some cs:=by rfl)(h2:ρ.length=σ'.nx:=by rfl)(h3:Hs 0 k ρ=true:=by rfl)(h4:yb ρ=true:=by rfl)(h5:below σ.nx ρ=true:=by rfl)(h6:D8 ρ σ.es σ'.es:=by((repeat'(first|exact trivial|exact Or.inl rfl|exact Or.inr ⟨_,rfl,rfl⟩|refine And.intro ?_ ?_|refine⟨_,rfl,_,rfl,_,rfl,?_⟩|refine⟨_,rfl,_,rfl,?_⟩|exact Ai.refl _|exact Ai.any _ _|exact Bb.refl _|refine Ai.agg ?_|refine⟨_,rfl,_,_,rfl,?_,?_⟩|with_reducible exact rfl|exact Eq.refl true|refine⟨_,rfl,_,x7 _ _ _,_,rfl,?_⟩|fail));all_goals fail))(h7:ww ρ r=some c1:=by rfl)(h8:(zh cs).wk=c1):
 FV E k rs r σ' .ret a σ:=Go.Ab.K.r2 ρ h1 h2 h3 h4 h5 h6 h7 h8
theorem M.n2{rs:List ResultVar}{r:V}{σ':Aj}{cs:List V}{c1:V}(ρ:List (Option Nat))(h1:Gi E a σ.es rs=some cs:=by rfl)(h2:ρ.length=σ'.nx:=by rfl)(h3:Hs 0 k ρ=true:=by rfl)(h4:yb ρ=true:=by rfl)(h5:below σ.nx ρ=true:=by rfl)(h6:D8 ρ σ.es σ'.es:=by((repeat'(first|exact trivial|exact Or.inl rfl|exact Or.inr ⟨_,rfl,rfl⟩|refine And.intro ?_ ?_|refine⟨_,rfl,_,rfl,_,rfl,?_⟩|refine⟨_,rfl,_,rfl,?_⟩|exact Ai.refl _|exact Ai.any _ _|exact Bb.refl _|refine Ai.agg ?_|refine⟨_,rfl,_,_,rfl,?_,?_⟩|with_reducible exact rfl|exact Eq.refl true|refine⟨_,rfl,_,x7 _ _ _,_,rfl,?_⟩|fail));all_goals fail))(h7:ww ρ r=some c1:=by rfl)(h8:(zh cs).wk=c1):
 FV E k rs r σ' .normal a σ:=Go.Ab.K.n2 ρ h1 h2 h3 h4 h5 h6 h7 h8
structure M.Hid (R:Prop):Prop where
 out:R
theorem M.gk{P R:Prop}(k:R)(h:M.Hid R->P:=by(intro k;(first|with_reducible refine K.tN ?_|with_reducible refine K.bN ?_|with_reducible refine K.tR ?_|with_reducible refine K.bR ?_|with_reducible refine K.gR ?_|with_reducible refine K.dR ?_|with_reducible refine K.cR ?_|with_reducible refine K.lR ?_|with_reducible refine K.tE ?_|with_reducible refine K.bX eF ?_|with_reducible refine K.bO eF ?_|with_reducible refine K.gE eF ?_|with_reducible refine K.gO eF ?_|with_reducible refine K.cE ?_|with_reducible refine K.lE ?_|with_reducible refine K.r1 eF eF ?_|with_reducible refine K.n1 eF eF ?_|with_reducible refine K.hR ?_|with_reducible refine K.tG ?_|with_reducible refine K.bG ?_|with_reducible refine K.fR ?_|with_reducible refine K.pR ?_|with_reducible refine K.uR ?_|with_reducible refine K.uE ?_|fail);exact M.Hid.out k)):P:=h ⟨k⟩
theorem M.go{P R:Prop}(k:R)(h:M.Hid R->P:=by(intro k;repeat1' (first|((with_reducible refine D.ax ?_);first|((with_reducible refine D.load ?_);first|refine L.Ez rfl rfl rfl rfl rfl rfl ?_|refine L.Qf rfl rfl rfl rfl rfl ?_|refine AX.sk rfl rfl ?_|fail)|((with_reducible refine D.move ?_);first|refine L.mv rfl rfl rfl ?_|refine AX.sk rfl rfl ?_|fail)|((with_reducible refine D.fieldAddr ?_);first|refine L.G0 rfl rfl rfl rfl rfl ?_|refine L.Xd rfl rfl rfl rfl rfl rfl ?_|refine AX.sk rfl rfl ?_|fail)|((with_reducible refine D.assign ?_);first|refine L.EW rfl rfl rfl ?_|refine AX.sk rfl rfl ?_|fail)|((with_reducible refine D.bin ?_);first|refine L.ad rfl rfl rfl rfl dY ?_|refine L.sb rfl rfl rfl rfl dY ?_|refine L.ml rfl rfl rfl rfl (by first|omega|assumption) ?_|refine L.rm rfl rfl rfl rfl dY ?_|refine L.bn rfl rfl rfl rfl rfl ?_|refine AX.sk rfl rfl ?_|refine L.Yo rfl rfl rfl rfl rfl ?_|refine L.Pa rfl ew rfl rfl rfl rfl ?_|fail)|((with_reducible refine D.call ?_);first|refine L.Qc rfl rfl rfl rfl ?_|refine L.ln rfl rfl rfl rfl ?_|refine L.VC rfl rfl rfl rfl rfl rfl jK rfl rfl gW ?_|refine L.Ou rfl rfl rfl rfl (by first|assumption|simp) rfl rfl rfl gW ?_|refine AX.sk rfl rfl ?_|fail)|((with_reducible refine D.extract ?_);first|refine L.ex rfl rfl rfl rfl ?_|refine AX.sk rfl rfl ?_|fail)|((with_reducible refine D.box ?_);first|refine L.bx rfl rfl rfl rfl ?_|refine AX.sk rfl rfl ?_|fail)|((with_reducible refine D.alloc ?_);first|refine L.al rfl rfl rfl ?_|refine AX.sk rfl rfl ?_|fail)|((with_reducible refine D.store ?_);first|refine L.st rfl rfl rfl rfl rfl rfl rfl rfl rfl ?_|refine AX.sk rfl rfl ?_|fail)|((with_reducible refine D.indexAddr ?_);first|refine L.F3 _ rfl rfl rfl rfl rfl rfl rfl fI ?_|refine L.F3 0 rfl rfl rfl rfl rfl rfl rfl fI ?_|refine L.F3 1 rfl rfl rfl rfl rfl rfl rfl fI ?_|refine L.F3 2 rfl rfl rfl rfl rfl rfl rfl fI ?_|refine AX.sk rfl rfl ?_|refine L.IW 0 rfl rfl rfl rfl rfl ej rfl ?_|refine L.IW 1 rfl rfl rfl rfl rfl ej rfl ?_|refine L.IW 2 rfl rfl rfl rfl rfl ej rfl ?_|refine L.ix 0 rfl rfl rfl rfl rfl (ZP rfl) rfl rfl rfl ?_|refine L.ix 1 rfl rfl rfl rfl rfl (ZP rfl) rfl rfl rfl ?_|refine L.ix 2 rfl rfl rfl rfl rfl (ZP rfl) rfl rfl rfl ?_|fail)|((with_reducible refine D.not ?_);first|refine L.nt rfl rfl rfl ?_|refine AX.sk rfl rfl ?_|fail)|((with_reducible refine D.field ?_);first|refine L.fd rfl rfl rfl rfl rfl rfl ?_|refine AX.sk rfl rfl ?_|fail)|((with_reducible refine D.pick ?_);first|refine L.pk rfl rfl rfl rfl ?_|refine AX.sk rfl rfl ?_|fail)|((fail_if_success (first|with_reducible refine D.assign ?_|with_reducible refine D.load ?_|with_reducible refine D.move ?_|with_reducible refine D.call ?_|with_reducible refine D.fieldAddr ?_|with_reducible refine D.bin ?_|with_reducible refine D.store ?_|with_reducible refine D.extract ?_|with_reducible refine D.pick ?_|with_reducible refine D.indexAddr ?_|with_reducible refine D.not ?_|with_reducible refine D.field ?_|with_reducible refine D.box ?_|with_reducible refine D.alloc ?_));first|refine L.nc rfl rfl rfl rfl ?_|refine L.bd rfl rfl rfl rfl rfl ?_|refine L.Mo rfl rfl rfl rfl rfl (EC.BP rfl) rfl rfl ?_|refine L.Mo rfl rfl rfl rfl rfl rfl rfl rfl ?_|refine L.Qz rfl rfl rfl rfl rfl (EC.BP rfl) rfl rfl rfl (EC.BP rfl) rfl rfl ?_|refine L.Qz rfl rfl rfl rfl rfl rfl rfl rfl rfl rfl rfl rfl ?_|refine L.O4 rfl rfl rfl rfl rfl (EC.BP rfl) rfl rfl rfl (EC.BP rfl) rfl rfl rfl (EC.BP rfl) rfl rfl ?_|refine L.O4 rfl rfl rfl rfl rfl rfl rfl rfl rfl rfl rfl rfl rfl rfl rfl rfl ?_|refine L.bs 0 rfl rfl rfl rfl rfl rfl rfl rfl rfl rfl ?_|refine L.mf rfl rfl rfl rfl ?_|refine L.s3 rfl rfl rfl rfl rfl rfl ?_|refine AX.sk rfl rfl ?_|refine L.XS rfl rfl rfl rfl rfl ?_|refine L.Yi rfl rfl rfl rfl rfl rfl rfl rfl ?_|refine L.YG rfl rfl rfl rfl rfl ?_|fail)|fail)|((with_reducible refine D.nil ?_);first|refine AX.BO ?_|refine AX.EP ew ?_|fail)|fail);exact M.Hid.out k)):P:=h ⟨k⟩
theorem M.gw{P R:Prop}(k:R)(h:M.Hid R->P:=by(intro k;repeat1' (first|((with_reducible refine D.ax ?_);first|((with_reducible refine D.load ?_);first|refine L.Ez rfl rfl rfl rfl rfl rfl ?_|refine L.Qf rfl rfl rfl rfl rfl ?_|refine AX.sk rfl rfl ?_|fail)|((with_reducible refine D.move ?_);first|refine L.mv rfl rfl rfl ?_|refine AX.sk rfl rfl ?_|fail)|((with_reducible refine D.fieldAddr ?_);first|refine L.G0 rfl rfl rfl rfl rfl ?_|refine L.Xd rfl rfl rfl rfl rfl rfl ?_|refine AX.sk rfl rfl ?_|fail)|((with_reducible refine D.assign ?_);first|refine L.EW rfl rfl rfl ?_|refine AX.sk rfl rfl ?_|fail)|((with_reducible refine D.bin ?_);first|refine L.ad rfl rfl rfl rfl dY ?_|refine L.sb rfl rfl rfl rfl dY ?_|refine L.ml rfl rfl rfl rfl (by first|omega|assumption) ?_|refine L.rm rfl rfl rfl rfl dY ?_|refine L.bn rfl rfl rfl rfl rfl ?_|refine AX.sk rfl rfl ?_|refine L.Yo rfl rfl rfl rfl rfl ?_|refine L.Pa rfl ew rfl rfl rfl rfl ?_|fail)|((with_reducible refine D.call ?_);first|refine L.Qc rfl rfl rfl rfl ?_|refine L.ln rfl rfl rfl rfl ?_|refine L.VC rfl rfl rfl rfl rfl rfl jK rfl rfl gW ?_|refine L.Ou rfl rfl rfl rfl (by first|assumption|simp) rfl rfl rfl gW ?_|refine AX.sk rfl rfl ?_|fail)|((with_reducible refine D.extract ?_);first|refine L.ex rfl rfl rfl rfl ?_|refine AX.sk rfl rfl ?_|fail)|((with_reducible refine D.box ?_);first|refine L.bx rfl rfl rfl rfl ?_|refine AX.sk rfl rfl ?_|fail)|((with_reducible refine D.alloc ?_);first|refine L.al rfl rfl rfl ?_|refine AX.sk rfl rfl ?_|fail)|((with_reducible refine D.store ?_);first|refine L.st rfl rfl rfl rfl rfl rfl rfl rfl rfl ?_|refine AX.sk rfl rfl ?_|fail)|((with_reducible refine D.indexAddr ?_);first|refine L.F3 _ rfl rfl rfl rfl rfl rfl rfl fI ?_|refine L.F3 0 rfl rfl rfl rfl rfl rfl rfl fI ?_|refine L.F3 1 rfl rfl rfl rfl rfl rfl rfl fI ?_|refine L.F3 2 rfl rfl rfl rfl rfl rfl rfl fI ?_|refine AX.sk rfl rfl ?_|refine L.IW 0 rfl rfl rfl rfl rfl ej rfl ?_|refine L.IW 1 rfl rfl rfl rfl rfl ej rfl ?_|refine L.IW 2 rfl rfl rfl rfl rfl ej rfl ?_|refine L.ix 0 rfl rfl rfl rfl rfl (ZP rfl) rfl rfl rfl ?_|refine L.ix 1 rfl rfl rfl rfl rfl (ZP rfl) rfl rfl rfl ?_|refine L.ix 2 rfl rfl rfl rfl rfl (ZP rfl) rfl rfl rfl ?_|fail)|((with_reducible refine D.not ?_);first|refine L.nt rfl rfl rfl ?_|refine AX.sk rfl rfl ?_|fail)|((with_reducible refine D.field ?_);first|refine L.fd rfl rfl rfl rfl rfl rfl ?_|refine AX.sk rfl rfl ?_|fail)|((with_reducible refine D.pick ?_);first|refine L.pk rfl rfl rfl rfl ?_|refine AX.sk rfl rfl ?_|fail)|((fail_if_success (first|with_reducible refine D.assign ?_|with_reducible refine D.load ?_|with_reducible refine D.move ?_|with_reducible refine D.call ?_|with_reducible refine D.fieldAddr ?_|with_reducible refine D.bin ?_|with_reducible refine D.store ?_|with_reducible refine D.extract ?_|with_reducible refine D.pick ?_|with_reducible refine D.indexAddr ?_|with_reducible refine D.not ?_|with_reducible refine D.field ?_|with_reducible refine D.box ?_|with_reducible refine D.alloc ?_));first|refine L.nc rfl rfl rfl rfl ?_|refine L.bd rfl rfl rfl rfl rfl ?_|refine L.Mo rfl rfl rfl rfl rfl (EC.BP rfl) rfl rfl ?_|refine L.Mo rfl rfl rfl rfl rfl rfl rfl rfl ?_|refine L.Qz rfl rfl rfl rfl rfl (EC.BP rfl) rfl rfl rfl (EC.BP rfl) rfl rfl ?_|refine L.Qz rfl rfl rfl rfl rfl rfl rfl rfl rfl rfl rfl rfl ?_|refine L.O4 rfl rfl rfl rfl rfl (EC.BP rfl) rfl rfl rfl (EC.BP rfl) rfl rfl rfl (EC.BP rfl) rfl rfl ?_|refine L.O4 rfl rfl rfl rfl rfl rfl rfl rfl rfl rfl rfl rfl rfl rfl rfl rfl ?_|refine L.bs 0 rfl rfl rfl rfl rfl rfl rfl rfl rfl rfl ?_|refine L.mf rfl rfl rfl rfl ?_|refine L.s3 rfl rfl rfl rfl rfl rfl ?_|refine AX.sk rfl rfl ?_|refine L.XS rfl rfl rfl rfl rfl ?_|refine L.Yi rfl rfl rfl rfl rfl rfl rfl rfl ?_|refine L.YG rfl rfl rfl rfl rfl ?_|fail)|fail)|((with_reducible refine D.nil ?_);first|refine AX.BO ?_|refine AX.EP ew ?_|fail)|((with_reducible refine D.aw ?_);first|refine K.sq (AW.AP ?_)|refine K.sq (AW.DG mixed ew ?_)|refine K.sq (K.sq ?_)|refine AW.AP ?_|refine AW.DG mixed ew ?_|refine K.sq (AW.Ct rfl ?_)|refine K.sq (AW.Cu rfl ?_)|refine AW.Ct rfl ?_|refine AW.Cu rfl ?_|refine AW.skip ?_|refine AW.ret ?_|refine AW.exit ?_|refine K.sq (AW.label ?_)|fail)|with_reducible refine K.tN ?_|with_reducible refine K.bN ?_|with_reducible refine K.tR ?_|with_reducible refine K.bR ?_|with_reducible refine K.gR ?_|with_reducible refine K.dR ?_|with_reducible refine K.cR ?_|with_reducible refine K.lR ?_|with_reducible refine K.tE ?_|with_reducible refine K.bX eF ?_|with_reducible refine K.bO eF ?_|with_reducible refine K.gE eF ?_|with_reducible refine K.gO eF ?_|with_reducible refine K.cE ?_|with_reducible refine K.lE ?_|with_reducible refine K.r1 eF eF ?_|with_reducible refine K.n1 eF eF ?_|with_reducible refine K.hR ?_|with_reducible refine K.tG ?_|with_reducible refine K.bG ?_|with_reducible refine K.fR ?_|with_reducible refine K.pR ?_|with_reducible refine K.uR ?_|with_reducible refine K.uE ?_|fail);exact M.Hid.out k)):P:=h ⟨k⟩
theorem M.F{f:FuncId}{fn:Func}{c:Code}{args:List V}{r:V}{σ':Aj}{rs:List ResultVar}(hf:E.P.funcs[f]? =some fn)(h:AW E N σ.nx c (Lw 0 args) σ (FV E σ.nx rs r σ'))(hb:fn.body=some c:=by rfl)(hname:(fn.name== "runtime.NumGoroutine")=false:=by rfl)(hN:fn.ntmps=N:=by rfl)(hrs:fn.results=rs.toArray:=by rfl)(hargs:Nat.ble args.length N=true:=by rfl)(hnx:σ.nx<=σ'.nx:=by exact ZP rfl)(hY:E.Y=[]:=by rfl):
 AC E f args σ r σ':=Go.Ab.AC.mk hf hb hname hN hrs hargs hnx h hY
end
variable {E:Env} {N:Nat} {k:Nat}
theorem Zs0{g:Gh}{D:Nat->Prop}{w:World}:∀{cs:List V} {vcs:List (List V)},EU cellsOf cs=some vcs->∀{vs:List Value},vs.length=cs.length->
 (∀(i:Nat) v c,vs[i]? =some v->cs[i]? =some c->Al g D w v c)->
 (∀v∈(vs.map fun v=>v.cells.toList).flatten,v.oneCell'=true)/\(vs.map fun v=>v.cells.toList).flatten.length=vcs.flatten.length/\
 ∀(i:Nat) v c,(vs.map fun v=>v.cells.toList).flatten[i]? =some v->vcs.flatten[i]? =some c->Al g D w v c:=by
 intro cs;induction cs with
 |nil=>
  intro vcs hm vs hl h;simp[EU] at hm
  grind
 |cons c cs ih=>
  intro vcs hm vs hl h;cases vs with
  |nil=>grind
  |cons v vs=>
   simp only[EU,ZL,ZG] at hm;obtain⟨vc,h1,ys,h2,rfl⟩:=hm;obtain⟨us,e1,e2,e3,e4⟩:=uz h1 (h 0 v c rfl rfl);obtain⟨i1,i2,i3⟩:=ih h2 (vs:=vs) ei (fun i v c hv hc=>h (i+1) v c ei ei);have e5:v.cells.toList=us:=by rw[e1]
   simp only[ZJ,az,e5];refine⟨fun x hx=> ?_,ei,fun i x y hx hy=> ?_⟩;all_goals grind
section
variable {o:Oper} {a:AF}
theorem OS.Ni{t:TypeId}{n m:Nat}{xs:List Operand}{i:TI}{c:Option EC}{sz bytes:Nat}{cs:List V}{vcs:List (List V)}
 (ho:o.op= .buildSlice t n (xs.zipIdx.map fun x=>(x.2,x.1)).toArray) (hn:xs.length=n) (ht:E.ti t=some i) (hd:i.desc= .slc c sz bytes)
 (hrel:∀{g:Gh} {D:Nat->Prop} {es:Es} {w:World} {act:Act},R E.G g D es w->Ba g D w N act a->(xs.map act.eval).length=cs.length/\∀(i:Nat) v c,(xs.map act.eval)[i]? =some v->cs[i]? =some c->Al g D w v c) (hcs:EU cellsOf cs=some vcs)
 (hsz:(vcs.all fun vc=>Nat.beq vc.length sz)=true) (hb:Nat.ble (n*sz) 16777216=true):OS E N o a [] (.arr m n sz) [m] [(m,.var vcs.flatten)]:=
 .of_run fun g D es w act hR _ hnm hF=>by
  obtain⟨e,inf,z,h1,h2,h3,h4,h5,h6,h7,h8⟩:=IJ ht hd;obtain⟨h9,h10⟩:=hrel hR hF;have hsz':∀vc∈vcs,vc.length=sz:=fun vc hvc=>Z9 (ZH.1 hsz vc hvc);obtain⟨h11,h12⟩:=VR hcs h9 h10 hsz';obtain⟨f1,f2,f3⟩:=Zs0 hcs h9 h10;have hvl:=(PZ hcs).1;have hlen:(xs.map act.eval).length=n:=ei
  have hvn:vcs.length=n:=dY
  have hflat:=XY (sz:=sz) (vcs:=(xs.map act.eval).map fun v=>v.cells.toList) (fun vc hvc=>by
   grind)
  simp only[aI,hn] at hflat;obtain⟨hR',hx⟩:=hR.Hx (hnm m dZ) (some ⟨w.heap.size,0,n,sz,0⟩) (vs:=((xs.map act.eval).map fun v=>v.cells.toList).flatten) (cs:=vcs.flatten) e dY f1 f3
   (fun r hr=>ei)
  refine⟨_,.slice (some ⟨w.heap.size,0,none⟩) n n,_,?_,hR'.more (fun i hi=>ei),?_,hx⟩
  .have hb':¬(n*sz>16777216):=eS
   have hparts:((xs.zipIdx.map fun x=>(x.2,x.1)).toArray.map fun x=>(x.1,act.eval x.2)).toList=((xs.map act.eval).zipIdx 0).map fun(v,i)=>(i,v):=by
    simp[List.zipIdx_map]
   have key:∀cells:Array Value,cells.size=n*sz->Instr.fill (fun i=>some (i*sz,sz)) cells ((xs.zipIdx.map fun x=>(x.2,x.1)).toArray.map fun x=>(x.1,act.eval x.2)).toList=
    some (((xs.map act.eval).map fun v=>v.cells.toList).flatten).toArray:=by
    intro cells hcells;rw[hparts,WM (xs.map act.eval) 0 cells h11 ei]
    grind
   simp only[execOp,ho,Instr.buildSlice,xg h1,Sem.run_bind,Result.andThen_ok,wc h2,h3,hb',if_false];by_cases hz:n*sz=0
   .exact mI
   .exact mB
  .exact Pp D g m _ (ZB _)
theorem OS.QS{t:TypeId}{n m:Nat}{xs:List Operand}{i:TI}{c:Option EC}{sz bytes:Nat}{et:TypeId}{cs:List V}{vcs:List (List V)}
 (ho:o.op= .buildSlice t n (xs.zipIdx.map fun x=>(x.2,x.1)).toArray) (hn:xs.length=n) (ht:E.ti t=some i) (hd:i.desc= .slc c sz bytes) (hev:Fc E et a xs=some cs) (hcs:EU cellsOf cs=some vcs)
 (hsz:(vcs.all fun vc=>Nat.beq vc.length sz)=true) (hb:Nat.ble (n*sz) 16777216=true):OS E N o a [] (.arr m n sz) [m] [(m,.var vcs.flatten)]:=
 OS.Ni ho hn ht hd (fun hR hF=>Ox hev hR hF) hcs hsz hb
end
section
variable {dr:Bool} {ops rest:List Oper} {a:AF} {σ:Aj} {acc:List Rec} {Q:Exit->AF->Aj->Prop}
variable {d:Option Tmp} {ty:TypeId} {ps:String} {af:Array Edge} {gd:Option (Nat×Bool)}
theorem L.bsA{t:TypeId}{n:Nat}{pp:List (Nat×Operand)}{z:Nat}{zr:List V}{c:Option EC}{sz bytes:Nat}{cs:List V}{vcs:List (List V)}(et:TypeId)(hw:zy ops a gd=some true)(ht:E.ti t=some ⟨z,zr,.slc c sz bytes⟩)
 (hpp:pp=(pp.map Prod.snd).zipIdx.map fun x=>(x.2,x.1)) (hn:(pp.map Prod.snd).length=n) (hev:Fc E et a (pp.map Prod.snd)=some cs) (hcs:EU cellsOf cs=some vcs)
 (hsz:(vcs.all fun vc=>Nat.beq vc.length sz)=true) (hb:Nat.ble (n*sz) 16777216=true) (hd:zw N d=true)
 (h2:AX E N k dr ops rest (a.put d (.arr σ.nx n sz)) (σ.Aw 1 [(σ.nx,.var vcs.flatten)]) (⟨[],.arr σ.nx n sz,1,[(σ.nx,.var vcs.flatten)]⟩::acc) Q):
 AX E N k dr ops (⟨d,.buildSlice t n pp.toArray,ty,ps,af,gd⟩::rest) a σ acc Q:=
 AX.run 1 hw (OS.QS (et:=et) ei hn ht rfl (Pn jW hev) hcs hsz hb) trivial hd h2
theorem L.GB{t:TypeId}{x:Operand}{z:Nat}{zr:List V}{c:Option EC}{sz bytes:Nat}{v:V}{vc:List V}(et:TypeId)(hw:zy ops a gd=some true)(ht:E.ti t=some ⟨z,zr,.slc c sz bytes⟩)
 (hev:ev E et a x=some v) (hcs:cellsOf v=some vc) (hsz:Nat.beq vc.length sz=true) (hb:Nat.ble (1*sz) 16777216=true) (hd:zw N d=true)
 (h2:AX E N k dr ops rest (a.put d (.arr σ.nx 1 sz)) (σ.Aw 1 [(σ.nx,.var vc)]) (⟨[],.arr σ.nx 1 sz,1,[(σ.nx,.var vc)]⟩::acc) Q):
 AX E N k dr ops (⟨d,.buildSlice t 1 #[(0,x)],ty,ps,af,gd⟩::rest) a σ acc Q:=by
 have e:[vc].flatten=vc:=dZ
 exact L.bsA (pp:=[(0,x)]) (cs:=[v]) (vcs:=[vc]) et hw ht rfl rfl (by simp[Fc,hev]) (by simp[EU,hcs]) ei hb hd (by rw[e];exact h2)
end
section
variable {E:Env} {N k:Nat} {a:AF} {σ:Aj} {Q:Exit->AF->Aj->Prop} {ops:List Oper} {dr:Bool} {rest:List Oper} {acc:List Rec}
variable {d:Option Tmp} {ty:TypeId} {ps:String} {af:Array Edge} {gd:Option (Nat×Bool)}
structure M.St (n:Nat):Prop where
theorem M.qR{id:Nat}{o:Array Oper}{b:Bool}{z:Code}(s:M.St id)(h:AW E N k (.seq (.region id o b) z) a σ Q):AW E N k (.seq (.region id o b) z) a σ Q:=h
theorem M.qS{id:Nat}{o:Array Oper}{b:Bool}{y z:Code}(s:M.St id)(h:AW E N k (.seq (.seq (.region id o b) y) z) a σ Q):AW E N k (.seq (.seq (.region id o b) y) z) a σ Q:=h
theorem M.gs{P R S:Prop}(k:R)(l:S)(h:M.Hid R->M.Hid S->P:=by(intro k l;(fail_if_success refine AX.wt rfl ?_);(refine AX.gs rfl rfl (fun _=>trivial) ?_ ?_);exact M.Hid.out k;exact M.Hid.out l)):P:=h ⟨k⟩ ⟨l⟩
theorem M.cs{P R S:Prop}(k:R)(l:S)(h:M.Hid R->M.Hid S->P:=by(intro k l;(with_reducible refine D.aw ?_);(refine AW.E6 rfl ?_ ?_);exact M.Hid.out k;exact M.Hid.out l)):P:=h ⟨k⟩ ⟨l⟩
theorem M.bl{P R:Prop}(k:R)(h:M.Hid R->P:=by(intro k;(with_reducible refine D.blk ?_);(refine AW.block ?_);exact M.Hid.out k)):P:=h ⟨k⟩
theorem M.zb{P R:Prop}(k:R)(h:M.Hid R->P:=by(intro k;(with_reducible refine D.QN ?_);(refine K.sq (AW.block ?_));exact M.Hid.out k)):P:=h ⟨k⟩
theorem M.lt{P:Prop}(h:P:=by((with_reducible show @LT.lt Nat _ _ _);omega)):P:=h
theorem M.le{P:Prop}(h:P:=by((with_reducible show @LE.le Nat _ _ _);omega)):P:=h
theorem M.z1(n1:Nat){P R:Prop}(k:R)(h:M.St n1->M.Hid R->P:=by(intro s1 k;(with_reducible refine D.aw ?_);(fail_if_success with_reducible refine M.qR s1 ?_);(fail_if_success with_reducible refine M.qS s1 ?_);(first|refine K.sq (AW.AP ?_)|refine K.sq (AW.DG mixed ew ?_)|refine K.sq (K.sq ?_)|refine AW.AP ?_|refine AW.DG mixed ew ?_|refine K.sq (AW.Ct rfl ?_)|refine K.sq (AW.Cu rfl ?_)|refine AW.Ct rfl ?_|refine AW.Cu rfl ?_|refine AW.skip ?_|refine AW.ret ?_|refine AW.exit ?_|refine K.sq (AW.label ?_)|refine AW.label ?_|refine AW.goto ?_|fail);exact M.Hid.out k)):P:=h ⟨⟩ ⟨k⟩
theorem M.z2(n1 n2:Nat){P R:Prop}(k:R)(h:M.St n1->M.St n2->M.Hid R->P:=by(intro s1 s2 k;(with_reducible refine D.aw ?_);(fail_if_success with_reducible refine M.qR s1 ?_);(fail_if_success with_reducible refine M.qS s1 ?_);(fail_if_success with_reducible refine M.qR s2 ?_);(fail_if_success with_reducible refine M.qS s2 ?_);(first|refine K.sq (AW.AP ?_)|refine K.sq (AW.DG mixed ew ?_)|refine K.sq (K.sq ?_)|refine AW.AP ?_|refine AW.DG mixed ew ?_|refine K.sq (AW.Ct rfl ?_)|refine K.sq (AW.Cu rfl ?_)|refine AW.Ct rfl ?_|refine AW.Cu rfl ?_|refine AW.skip ?_|refine AW.ret ?_|refine AW.exit ?_|refine K.sq (AW.label ?_)|refine AW.label ?_|refine AW.goto ?_|fail);exact M.Hid.out k)):P:=h ⟨⟩ ⟨⟩ ⟨k⟩
theorem M.z3(n1 n2 n3:Nat){P R:Prop}(k:R)(h:M.St n1->M.St n2->M.St n3->M.Hid R->P:=by(intro s1 s2 s3 k;(with_reducible refine D.aw ?_);(fail_if_success with_reducible refine M.qR s1 ?_);(fail_if_success with_reducible refine M.qS s1 ?_);(fail_if_success with_reducible refine M.qR s2 ?_);(fail_if_success with_reducible refine M.qS s2 ?_);(fail_if_success with_reducible refine M.qR s3 ?_);(fail_if_success with_reducible refine M.qS s3 ?_);(first|refine K.sq (AW.AP ?_)|refine K.sq (AW.DG mixed ew ?_)|refine K.sq (K.sq ?_)|refine AW.AP ?_|refine AW.DG mixed ew ?_|refine K.sq (AW.Ct rfl ?_)|refine K.sq (AW.Cu rfl ?_)|refine AW.Ct rfl ?_|refine AW.Cu rfl ?_|refine AW.skip ?_|refine AW.ret ?_|refine AW.exit ?_|refine K.sq (AW.label ?_)|refine AW.label ?_|refine AW.goto ?_|fail);exact M.Hid.out k)):P:=h ⟨⟩ ⟨⟩ ⟨⟩ ⟨k⟩
theorem M.rp{B C r1 r2:Nat}{c i n d:Tmp}{T T' T2 T3:TypeId}{ty1 ty2 ty3:TypeId}{p1 p2 p3:String}{af1 af2 af3:Array Edge}{body:Code}(len:Nat)(P:Nat->Prop)(J:Nat->AF×Aj)(hP:P 0)(h0:Bc E N k a σ (J 0).1 (J 0).2)
 (hb:∀m,m<len->P m->AW E N k body ((c,.bool true)::(J m).1) (J m).2 (uf C (Ol E N k B i d m P J Q)))
 (he:P len->Q .normal ((c,.bool false)::(J len).1) (J len).2) (hlen:len<4611686018427387904:=by omega) (hi:∀m,(J m).1.get i=some (.int .i64 m):=by exact fun m=>rfl) (hn:∀m,(J m).1.get n=some (.int .i64 len):=by exact fun m=>rfl) (hd:zw N (some c)&&zw N (some d)&&zw N (some i)&& !Nat.beq d i=true:=by exact rfl):
 AW E N k (.block B (.loop (.seq (.region r1 #[⟨some c,.binOp .lss T (.tmp i) (.tmp n) T',ty1,p1,af1,none⟩] false)
  (.seq (.cond (.tmp c) .skip (.exit B)) (.seq (.block C body)
   (.region r2 #[⟨some d,.binOp .add T2 (.tmp i) (.const (.int .i64 1)) T3,ty2,p2,af2,none⟩,⟨some i,.move (.tmp d),ty3,p3,af3,none⟩] false)))))) a σ Q:=AW.range len P J hlen hi hn hd hP h0 hb he
theorem M.rt{B C r1 r2:Nat}{c i n d:Tmp}{T T' T2 T3:TypeId}{ty1 ty2 ty3:TypeId}{p1 p2 p3:String}{af1 af2 af3:Array Edge}{body:Code}(len:Nat)(J:Nat->AF×Aj)(h0:Bc E N k a σ (J 0).1 (J 0).2)
 (hb:∀m,m<len->True->AW E N k body ((c,.bool true)::(J m).1) (J m).2 (uf C (Ol E N k B i d m (fun _=>True) J Q)))
 (he:True->Q .normal ((c,.bool false)::(J len).1) (J len).2) (hlen:len<4611686018427387904:=by omega) (hi:∀m,(J m).1.get i=some (.int .i64 m):=by exact fun m=>rfl) (hn:∀m,(J m).1.get n=some (.int .i64 len):=by exact fun m=>rfl) (hd:zw N (some c)&&zw N (some d)&&zw N (some i)&& !Nat.beq d i=true:=by exact rfl):
 AW E N k (.block B (.loop (.seq (.region r1 #[⟨some c,.binOp .lss T (.tmp i) (.tmp n) T',ty1,p1,af1,none⟩] false)
  (.seq (.cond (.tmp c) .skip (.exit B)) (.seq (.block C body)
   (.region r2 #[⟨some d,.binOp .add T2 (.tmp i) (.const (.int .i64 1)) T3,ty2,p2,af2,none⟩,⟨some i,.move (.tmp d),ty3,p3,af3,none⟩] false)))))) a σ Q:=AW.range len (fun _=>True) J hlen hi hn hd trivial h0 hb he
theorem M.cx{P R S:Prop}(h:S)(k:R)(q:S->M.Hid R->P:=by(intro h k;(first|refine M.c2 h ?_|refine M.cb h [0] 0 ?_|refine M.cv h [0,1] 0 ?_);exact M.Hid.out k)):P:=q h ⟨k⟩
theorem M.w0{P R:Prop}(k:R)(h:M.Hid R->P:=by(intro k;(repeat1' (first|refine M.gw ?_|fail));exact M.Hid.out k)):P:=h ⟨k⟩
theorem M.w1{P R S1:Prop}(h1:S1)(k:R)(h:S1->M.Hid R->P:=by(intro h1 k;(repeat1' (first|refine M.gw ?_|refine M.cx h1 ?_|fail));exact M.Hid.out k)):P:=h h1 ⟨k⟩
theorem M.w2{P R S1 S2:Prop}(h1:S1)(h2:S2)(k:R)(h:S1->S2->M.Hid R->P:=by(intro h1 h2 k;(repeat1' (first|refine M.gw ?_|refine M.cx h1 ?_|refine M.cx h2 ?_|fail));exact M.Hid.out k)):P:=h h1 h2 ⟨k⟩
theorem M.w3{P R S1 S2 S3:Prop}(h1:S1)(h2:S2)(h3:S3)(k:R)(h:S1->S2->S3->M.Hid R->P:=by(intro h1 h2 h3 k;(repeat1' (first|refine M.gw ?_|refine M.cx h1 ?_|refine M.cx h2 ?_|refine M.cx h3 ?_|fail));exact M.Hid.out k)):P:=h h1 h2 h3 ⟨k⟩
theorem M.w4{P R S1 S2 S3 S4:Prop}(h1:S1)(h2:S2)(h3:S3)(h4:S4)(k:R)(h:S1->S2->S3->S4->M.Hid R->P:=by(intro h1 h2 h3 h4 k;(repeat1' (first|refine M.gw ?_|refine M.cx h1 ?_|refine M.cx h2 ?_|refine M.cx h3 ?_|refine M.cx h4 ?_|fail));exact M.Hid.out k)):P:=h h1 h2 h3 h4 ⟨k⟩
theorem M.w5{P R S1 S2 S3 S4 S5:Prop}(h1:S1)(h2:S2)(h3:S3)(h4:S4)(h5:S5)(k:R)(h:S1->S2->S3->S4->S5->M.Hid R->P:=by(intro h1 h2 h3 h4 h5 k;(repeat1' (first|refine M.gw ?_|refine M.cx h1 ?_|refine M.cx h2 ?_|refine M.cx h3 ?_|refine M.cx h4 ?_|refine M.cx h5 ?_|fail));exact M.Hid.out k)):P:=h h1 h2 h3 h4 h5 ⟨k⟩
theorem M.w6{P R S1 S2 S3 S4 S5 S6:Prop}(h1:S1)(h2:S2)(h3:S3)(h4:S4)(h5:S5)(h6:S6)(k:R)(h:S1->S2->S3->S4->S5->S6->M.Hid R->P:=by(intro h1 h2 h3 h4 h5 h6 k;(repeat1' (first|refine M.gw ?_|refine M.cx h1 ?_|refine M.cx h2 ?_|refine M.cx h3 ?_|refine M.cx h4 ?_|refine M.cx h5 ?_|refine M.cx h6 ?_|fail));exact M.Hid.out k)):P:=h h1 h2 h3 h4 h5 h6 ⟨k⟩
theorem M.o0{P R:Prop}(k:R)(h:M.Hid R->P:=by(intro k;(repeat1' (first|refine M.go ?_|fail));exact M.Hid.out k)):P:=h ⟨k⟩
theorem M.o1{P R S1:Prop}(h1:S1)(k:R)(h:S1->M.Hid R->P:=by(intro h1 k;(repeat1' (first|refine M.go ?_|refine M.cx h1 ?_|fail));exact M.Hid.out k)):P:=h h1 ⟨k⟩
theorem M.o2{P R S1 S2:Prop}(h1:S1)(h2:S2)(k:R)(h:S1->S2->M.Hid R->P:=by(intro h1 h2 k;(repeat1' (first|refine M.go ?_|refine M.cx h1 ?_|refine M.cx h2 ?_|fail));exact M.Hid.out k)):P:=h h1 h2 ⟨k⟩
theorem M.o3{P R S1 S2 S3:Prop}(h1:S1)(h2:S2)(h3:S3)(k:R)(h:S1->S2->S3->M.Hid R->P:=by(intro h1 h2 h3 k;(repeat1' (first|refine M.go ?_|refine M.cx h1 ?_|refine M.cx h2 ?_|refine M.cx h3 ?_|fail));exact M.Hid.out k)):P:=h h1 h2 h3 ⟨k⟩
theorem M.o4{P R S1 S2 S3 S4:Prop}(h1:S1)(h2:S2)(h3:S3)(h4:S4)(k:R)(h:S1->S2->S3->S4->M.Hid R->P:=by(intro h1 h2 h3 h4 k;(repeat1' (first|refine M.go ?_|refine M.cx h1 ?_|refine M.cx h2 ?_|refine M.cx h3 ?_|refine M.cx h4 ?_|fail));exact M.Hid.out k)):P:=h h1 h2 h3 h4 ⟨k⟩
theorem M.o5{P R S1 S2 S3 S4 S5:Prop}(h1:S1)(h2:S2)(h3:S3)(h4:S4)(h5:S5)(k:R)(h:S1->S2->S3->S4->S5->M.Hid R->P:=by(intro h1 h2 h3 h4 h5 k;(repeat1' (first|refine M.go ?_|refine M.cx h1 ?_|refine M.cx h2 ?_|refine M.cx h3 ?_|refine M.cx h4 ?_|refine M.cx h5 ?_|fail));exact M.Hid.out k)):P:=h h1 h2 h3 h4 h5 ⟨k⟩
theorem M.o6{P R S1 S2 S3 S4 S5 S6:Prop}(h1:S1)(h2:S2)(h3:S3)(h4:S4)(h5:S5)(h6:S6)(k:R)(h:S1->S2->S3->S4->S5->S6->M.Hid R->P:=by(intro h1 h2 h3 h4 h5 h6 k;(repeat1' (first|refine M.go ?_|refine M.cx h1 ?_|refine M.cx h2 ?_|refine M.cx h3 ?_|refine M.cx h4 ?_|refine M.cx h5 ?_|refine M.cx h6 ?_|fail));exact M.Hid.out k)):P:=h h1 h2 h3 h4 h5 h6 ⟨k⟩
theorem M.v0{P R:Prop}(k:R)(h:M.Hid R->P:=by(intro k;(repeat1' (first|refine M.gw ?_|refine M.bl ?_|fail));exact M.Hid.out k)):P:=h ⟨k⟩
theorem M.v1{P R S1:Prop}(h1:S1)(k:R)(h:S1->M.Hid R->P:=by(intro h1 k;(repeat1' (first|refine M.gw ?_|refine M.cx h1 ?_|refine M.bl ?_|fail));exact M.Hid.out k)):P:=h h1 ⟨k⟩
theorem M.v2{P R S1 S2:Prop}(h1:S1)(h2:S2)(k:R)(h:S1->S2->M.Hid R->P:=by(intro h1 h2 k;(repeat1' (first|refine M.gw ?_|refine M.cx h1 ?_|refine M.cx h2 ?_|refine M.bl ?_|fail));exact M.Hid.out k)):P:=h h1 h2 ⟨k⟩
theorem M.v3{P R S1 S2 S3:Prop}(h1:S1)(h2:S2)(h3:S3)(k:R)(h:S1->S2->S3->M.Hid R->P:=by(intro h1 h2 h3 k;(repeat1' (first|refine M.gw ?_|refine M.cx h1 ?_|refine M.cx h2 ?_|refine M.cx h3 ?_|refine M.bl ?_|fail));exact M.Hid.out k)):P:=h h1 h2 h3 ⟨k⟩
theorem M.v4{P R S1 S2 S3 S4:Prop}(h1:S1)(h2:S2)(h3:S3)(h4:S4)(k:R)(h:S1->S2->S3->S4->M.Hid R->P:=by(intro h1 h2 h3 h4 k;(repeat1' (first|refine M.gw ?_|refine M.cx h1 ?_|refine M.cx h2 ?_|refine M.cx h3 ?_|refine M.cx h4 ?_|refine M.bl ?_|fail));exact M.Hid.out k)):P:=h h1 h2 h3 h4 ⟨k⟩
theorem M.v5{P R S1 S2 S3 S4 S5:Prop}(h1:S1)(h2:S2)(h3:S3)(h4:S4)(h5:S5)(k:R)(h:S1->S2->S3->S4->S5->M.Hid R->P:=by(intro h1 h2 h3 h4 h5 k;(repeat1' (first|refine M.gw ?_|refine M.cx h1 ?_|refine M.cx h2 ?_|refine M.cx h3 ?_|refine M.cx h4 ?_|refine M.cx h5 ?_|refine M.bl ?_|fail));exact M.Hid.out k)):P:=h h1 h2 h3 h4 h5 ⟨k⟩
theorem M.v6{P R S1 S2 S3 S4 S5 S6:Prop}(h1:S1)(h2:S2)(h3:S3)(h4:S4)(h5:S5)(h6:S6)(k:R)(h:S1->S2->S3->S4->S5->S6->M.Hid R->P:=by(intro h1 h2 h3 h4 h5 h6 k;(repeat1' (first|refine M.gw ?_|refine M.cx h1 ?_|refine M.cx h2 ?_|refine M.cx h3 ?_|refine M.cx h4 ?_|refine M.cx h5 ?_|refine M.cx h6 ?_|refine M.bl ?_|fail));exact M.Hid.out k)):P:=h h1 h2 h3 h4 h5 h6 ⟨k⟩
end
end Go.Ab
namespace Go.Ab
open Go
set_option linter.unusedSimpArgs false
set_option linter.unusedVariables false
section
variable {E:Env} {N k:Nat} {a:AF} {σ:Aj} {o:Oper}
variable {Q:Exit->AF->Aj->Prop} {ops:List Oper} {dr:Bool} {rest:List Oper} {acc:List Rec}
variable {d:Option Tmp} {ty:TypeId} {ps:String} {af:Array Edge} {gd:Option (Nat×Bool)}
theorem OS.min{t u:TypeId}{x y:Operand}{n m:Int}(ho:o.op= .call {callee:= .builtin .min,args:= #[x,y],argTypes:= #[t,u]})(hx:ev E t a x=some (.int .i64 n))(hy:ev E u a y=some (.int .i64 m)):
 OS E N o a [] (.int .i64 (if m<n then m else n)) [] []:=
 .pure fun g D es w act hR _ hF=>by
  have h1:=(z6 hx hR hF).BA;have h2:=(z6 hy hR hF).BA;exact⟨_,by simp[execOp,ho,resolve,invoke,builtin,Builtin.min_,Builtin.min2,h1,h2],.data (.int _ _)⟩
end
section
variable {E:Env} {N k:Nat} {a:AF} {σ:Aj} {o:Oper}
variable {Q:Exit->AF->Aj->Prop} {ops:List Oper} {dr:Bool} {rest:List Oper} {acc:List Rec}
variable {d:Option Tmp} {ty:TypeId} {ps:String} {af:Array Edge} {gd:Option (Nat×Bool)}
theorem OS.max{t u:TypeId}{x y:Operand}{n m:Int}(ho:o.op= .call {callee:= .builtin .max,args:= #[x,y],argTypes:= #[t,u]})(hx:ev E t a x=some (.int .i64 n))(hy:ev E u a y=some (.int .i64 m)):
 OS E N o a [] (.int .i64 (if n<m then m else n)) [] []:=
 .pure fun g D es w act hR _ hF=>by
  have h1:=(z6 hx hR hF).BA;have h2:=(z6 hy hR hF).BA;exact⟨_,by simp[execOp,ho,resolve,invoke,builtin,Builtin.max_,Builtin.max2,h1,h2],.data (.int _ _)⟩
end
theorem Al.B9{g:Gh}{D:Nat->Prop}{w:World}{v u:Value}(h:Al g D w v (.raw u)):v=u:=by
 cases h with
 |data h=>cases h
 |raw=>rfl
abbrev V.rp(b off:Nat):V:= .raw (.pointer (some ⟨b,off,none⟩))
abbrev V.rs(b n cap:Nat):V:= .raw (.slice (some ⟨b,0,none⟩) n cap)
section
variable {E:Env} {N:Nat} {o:Oper} {a:AF}
theorem HK.pure{v:V}(h:∀g D es w act,R E.G g D es w->D3 E.Y g (Aq g es) w->Ba g D w N act a->∃v',(execOp act.eval o).run E.P w= .ok (.value v') w/\Al g D w v' v):
 HK E N o a [] v [] []:=by
 intro g D es w act hR hY hp hn hF K Q hK;obtain⟨v',h1,h2⟩:=h g D es w act hR hY hF;unfold Oper.wp;rw[h1];exact hK g v' w (hR.more fun n h=> .inl h) (h2.more fun n h=> .inl h) (.refl ..)
theorem OS.ncR{x:Operand}{b off:Nat}(ho:o.op= .nilCheck x)(hx:ev E 0 a x=some (.rp b off)):OS E N o a [] (.rp b off) [] []:=
 .pure fun g D es w act hR _ hF=>by
  have h1:=(z6 hx hR hF).B9;exact⟨_,by simp[execOp,ho,h1],.raw _⟩
theorem OS.faR{t:TypeId}{x:Operand}{i:TI}{gs:List (Nat×Nat×Bool)}{f:Nat}{p:Nat×Nat×Bool}{b off:Nat}(ho:o.op= .fieldAddr t x f)(ht:E.ti t=some i)(hd:i.desc= .strct gs)
 (hf:gs[f]? =some p) (hx:ev E 0 a x=some (.rp b off)):OS E N o a [] (.rp b (off+p.1)) [] []:=
 .pure fun g D es w act hR _ hF=>by
  obtain⟨fs,h1,h2⟩:=NV ht hd;obtain⟨fd,h3,h4,⟨inf,h5,h6⟩,h7,_⟩:=OI h2 f p hf;have h8:=(z6 hx hR hF).B9;have h9:fs[f]? =some fd:=ei
  refine⟨.pointer (some ⟨b,off+p.1,none⟩),?_,.raw _⟩;simp only[execOp,ho,Instr.fieldAt,xg h1,Sem.run_bind,Result.andThen_ok,h9,Instr.sureAddr,h8,Sem.run_pure,SZ (E:=E) h5 dY,h4]
theorem HK.ldR{t:TypeId}{x:Operand}{i:TI}{b off room:Nat}{cs:List V}{c:V}(ho:o.op= .load t x)(ht:E.ti t=some i)(hx:ev E 0 a x=some (.rp b off))(hm:(b,room,cs)∈E.Y)(hc:G4 i (cs.drop off)=some c):
 HK E N o a [] c [] []:=
 .pure fun g D es w act hR hY hF=>by
  have h1:=(z6 hx hR hF).B9;obtain⟨_,_,vs,t',h4,h5,h5',h6,h7⟩:=hY _ hm;simp only at h4 h5 h5' h7;obtain⟨v',h2,h3⟩:=Qi (E:=E) (g:=g) (D:=D) (w:=w) (b:=b) (off:=off) ht hc (fun j=>vs.getD (off+j) undef)
   (fun j hj=>by
    simp only[dx] at hj;rw[ux h4]
    grind)
   (fun j c hj=>by
    rw[List.getElem?_drop] at hj;have hl:=(ZT.1 hj).1;have h8:vs[off+j]? =some (vs[off+j]' dY):=ZD _;rw[aB,h8];exact⟨(h7 _ _ c h8 hj).mono (fun _=>ZB _) (fun _ _ _=>rfl) (fun _ h=>h.elim) (fun _ h=>h.elim) (fun _ h=>h.elim),h6 _ (ZA _)⟩)
  exact⟨v',by simp[execOp,ho,Instr.loadAt,Instr.sureAddr,h1,h2],h3⟩
theorem OS.Jx{t:TypeId}{x:Operand}{i:TI}{c:Option EC}{sz by_ n cap:Nat}{ad:Option Addr}(ho:o.op= .call {callee:= .builtin .len,args:= #[x],argTypes:= #[t]})(ht:E.ti t=some i)(hd:i.desc= .slc c sz by_)
 (hx:ev E t a x=some (.raw (.slice ad n cap))):OS E N o a [] (.i n) [] []:=
 .pure fun g D es w act hR _ hF=>by
  have h1:=(z6 hx hR hF).B9;obtain⟨d,h2,h3⟩:=Kf ht;rw[hd] at h3;cases d with
  |slice e=>
   refine⟨_,?_,.data (.int .i64 n)⟩;simp[execOp,ho,resolve,invoke,builtin,Builtin.len_,h1,xg h2,goInt]
  |_=>cases h3
theorem OS.ixR{t:TypeId}{x y:Operand}{i:TI}{c:Option EC}{sz bytes b len cap:Nat}{n:Int}{k:Nat}{kd:IntKind}(ho:o.op= .indexAddr t x y)(ht:E.ti t=some i)(hd:i.desc= .slc c sz bytes)
 (hx:ev E t a x=some (.rs b len cap)) (hy:ev E 0 a y=some (.int kd n)) (hn:n=k) (hlt:k<len):OS E N o a [] (.rp b (k*sz)) [] []:=
 .pure fun g D es w act hR _ hF=>by
  obtain⟨e,inf,z,h1,h2,h3,h4,h5,h6,h7,h8⟩:=IJ ht hd;have hv:=(z6 hx hR hF).B9;have hi:=(z6 hy hR hF).BA;refine⟨.pointer (some ⟨b,k*sz,none⟩),?_,.raw _⟩;have h11:0<=n/\n<(len:Int):=dY
  have h12:n.toNat=k:=dY
  simp[execOp,ho,Instr.indexAt,hv,hi,asIntOf,xg h1,h11,h12,wc h2,h3,Gy]
end
section
variable {E:Env} {N k:Nat} {ops:List Oper} {dr:Bool} {rest:List Oper} {a:AF} {σ:Aj} {acc:List Rec} {Q:Exit->AF->Aj->Prop}
variable {d:Option Tmp} {ty:TypeId} {ps:String} {af:Array Edge} {gd:Option (Nat×Bool)}
namespace L
theorem yn{x:Operand}{b off:Nat}(hw:zy ops a gd=some true)(hx:ev E 0 a x=some (.rp b off))(hd:zw N d=true)(h2:AX E N k dr ops rest (a.put d (.rp b off)) σ (⟨[],.rp b off,0,[]⟩::acc) Q):
 AX E N k dr ops (⟨d,.nilCheck x,ty,ps,af,gd⟩::rest) a σ acc Q:=
 AX.run 0 hw (OS.ncR rfl (fr eA hx)) trivial hd h2
theorem yf{t:TypeId}{x:Operand}{z:Nat}{zr:List V}{gs:List (Nat×Nat×Bool)}{f:Nat}{p:Nat×Nat×Bool}{b off:Nat}(hw:zy ops a gd=some true)(hx:ev E 0 a x=some (.rp b off))(ht:E.ti t=some ⟨z,zr,.strct gs⟩)
 (hf:gs[f]? =some p) (hd:zw N d=true) (h2:AX E N k dr ops rest (a.put d (.rp b (off+p.1))) σ (⟨[],.rp b (off+p.1),0,[]⟩::acc) Q):AX E N k dr ops (⟨d,.fieldAddr t x f,ty,ps,af,gd⟩::rest) a σ acc Q:=
 AX.run 0 hw (OS.faR rfl ht rfl hf (fr eA hx)) trivial hd h2
theorem yl{t:TypeId}{x:Operand}{i:TI}{b off room:Nat}{cs:List V}{c:V}(hw:zy ops a gd=some true)(hx:ev E 0 a x=some (.rp b off))(ht:E.ti t=some i)(hm:(b,room,cs)∈E.Y)(hc:G4 i (cs.drop off)=some c)(hd:zw N d=true)
 (h2:AX E N k dr ops rest (a.put d c) σ (⟨[],c,0,[]⟩::acc) Q):AX E N k dr ops (⟨d,.load t x,ty,ps,af,gd⟩::rest) a σ acc Q:=
 AX.Mv 0 hw (HK.ldR rfl ht (fr eA hx) hm hc) trivial hd h2
theorem yz{t:TypeId}{x:Operand}{z:Nat}{zr:List V}{c:Option EC}{sz by_ n cap:Nat}{ad:Option Addr}(hw:zy ops a gd=some true)(hx:ev E t a x=some (.raw (.slice ad n cap)))(ht:E.ti t=some ⟨z,zr,.slc c sz by_⟩)(hd:zw N d=true)
 (h2:AX E N k dr ops rest (a.put d (.int .i64 n)) σ (⟨[],.int .i64 n,0,[]⟩::acc) Q):AX E N k dr ops (⟨d,.call ⟨.builtin .len,#[x],#[t]⟩,ty,ps,af,gd⟩::rest) a σ acc Q:=
 AX.run 0 hw (OS.Jx rfl ht rfl (fr eA hx)) trivial hd h2
theorem yi{t:TypeId}{x y:Operand}{z:Nat}{zr:List V}{c:Option EC}{sz bytes b len cap:Nat}{n:Int}(kk:Nat){kd:IntKind}(hw:zy ops a gd=some true)(hx:ev E t a x=some (.rs b len cap))(ht:E.ti t=some ⟨z,zr,.slc c sz bytes⟩)
 (hy:ev E 0 a y=some (.int kd n)) (hn:n=kk) (hlt:kk<len) (hd:zw N d=true) (h2:AX E N k dr ops rest (a.put d (.rp b (kk*sz))) σ (⟨[],.rp b (kk*sz),0,[]⟩::acc) Q):AX E N k dr ops (⟨d,.indexAddr t x y,ty,ps,af,gd⟩::rest) a σ acc Q:=
 AX.run 0 hw (OS.ixR rfl ht rfl (fr eA hx) (fr eA hy) hn hlt) trivial hd h2
end L
end
abbrev Env.y(E:Env)(y:Ys):Env:={E with Y:=y}
def Keys(y:Ys)(b:Nat):Prop:=∃p∈y,p.1=b
def FY(g:Gh)(es:Es)(y:Ys)(b:Nat):Prop:=Aq g es b\/Keys y b
theorem FY.nil{g:Gh}{es:Es}:FY g es []=Aq g es:=by
 funext b;simp[FY,Keys]
theorem Ext.keys{D:Nat->Prop}{g g':Gh}{F F':Nat->Prop}{w w':World}(h:Ext D g F w g' F' w')(y:Ys):Ext D g (fun b=>F b\/Keys y b) w g' (fun b=>F' b\/Keys y b) w':=
 h.wider (fun b h=> .inl h) (fun b h=>h.imp id fun h=> .inr h)
def E4(E:Env)(N k:Nat)(g:Gh)(F:Nat->Prop)(w:World)(Q:Exit->AF->Aj->Ys->Prop)(e:Exit)(act':Act)(w':World):Prop:=
 ∃g' a' σ' y',Q e a' σ' y'/\k<=σ'.nx/\R E.G g' (·<σ'.nx) σ'.es w'/\Ba g' (·<σ'.nx) w' N act' a'/\D3 y' g' (Aq g' σ'.es) w'/\Ext (·<k) g F w g' (FY g' σ'.es y') w'
structure BW (E:Env) (N k:Nat) (c:Code) (a:AF) (σ:Aj) (y:Ys) (Q:Exit->AF->Aj->Ys->Prop):Prop where
 run:k<=σ.nx->∀g w act,R E.G g (·<σ.nx) σ.es w->Ba g (·<σ.nx) w N act a->D3 y g (Aq g σ.es) w->c.wp E.P (E4 E N k g (FY g σ.es y) w Q) act w
def Rx(E:Env)(N k:Nat)(x:Code)(Q:Exit->AF->Aj->Ys->Prop):Exit->AF->Aj->Ys->Prop
 | .normal,a,σ,y=>BW E N k x a σ y Q
 |e,a,σ,y=>Q e a σ y
def IZ(id:Nat)(Q:Exit->AF->Aj->Ys->Prop):Exit->AF->Aj->Ys->Prop
 | .exit id',a,σ,y=>bif Nat.beq id' id then Q .normal a σ y else Q (.exit id') a σ y
 |e,a,σ,y=>Q e a σ y
section
variable {E:Env} {N k:Nat} {a:AF} {σ:Aj} {y:Ys} {Q:Exit->AF->Aj->Ys->Prop}
theorem E4.later{g g':Gh}{F F':Nat->Prop}{w w':World}{e:Exit}{act:Act}{w'':World}(h:E4 E N k g' F' w' Q e act w'')(x:Ext (·<k) g F w g' F' w'):E4 E N k g F w Q e act w'':=
 let ⟨g2,a2,σ2,y2,h1,h2,h3,h4,h5,h6⟩:=h;⟨g2,a2,σ2,y2,h1,h2,h3,h4,h5,x.trans h6⟩
theorem BW.of{c:Code}(h:AW (E.y y) N k c a σ (fun e a σ=>Q e a σ y)):BW E N k c a σ y Q:=
 ⟨fun hk g w act hR hF hY=>wp_mono (h.run hk g w act hR hF hY) (by
  rintro e act1 w1 ⟨g1,a1,σ1,hq,hk1,hR1,hF1,hx⟩;exact⟨g1,a1,σ1,y,hq,hk1,hR1,hF1,hY.ext hx,hx.keys y⟩)⟩
theorem AW.ofB{c:Code}{Q:Exit->AF->Aj->Prop}(hE:E.Y=[])(h:BW E N k c a σ [] (fun e a σ y=>y=[]/\Q e a σ)):AW E N k c a σ Q:=
 ⟨fun hk g w act hR hF hY=>wp_mono (h.run hk g w act hR hF .nil) (by
  rintro e act1 w1 ⟨g1,a1,σ1,y1,⟨rfl,hq⟩,hk1,hR1,hF1,_,hx⟩;rw[FY.nil,FY.nil] at hx;exact⟨g1,a1,σ1,hq,hk1,hR1,hF1,hx⟩)⟩
theorem BW.seq{x z:Code}(h:BW E N k x a σ y (Rx E N k z Q)):BW E N k (.seq x z) a σ y Q:=by
 constructor;intro hk g w act hR hF hY;refine wp_seq (wp_mono (h.run hk g w act hR hF hY) ?_);rintro e act1 w1 ⟨g1,a1,σ1,y1,hq,hk1,hR1,hF1,hY1,hx⟩;cases e with
 |normal=>exact wp_mono (BW.run hq hk1 g1 w1 act1 hR1 hF1 hY1) (fun e act2 w2 hp=>hp.later hx)
 |exit id=>exact⟨g1,a1,σ1,y1,hq,hk1,hR1,hF1,hY1,hx⟩
 |goto l=>exact⟨g1,a1,σ1,y1,hq,hk1,hR1,hF1,hY1,hx⟩
 |ret=>exact⟨g1,a1,σ1,y1,hq,hk1,hR1,hF1,hY1,hx⟩
 |panic ch=>exact⟨g1,a1,σ1,y1,hq,hk1,hR1,hF1,hY1,hx⟩
 |outgrown=>exact⟨g1,a1,σ1,y1,hq,hk1,hR1,hF1,hY1,hx⟩
theorem BW.mono{c:Code}{Q':Exit->AF->Aj->Ys->Prop}(h:BW E N k c a σ y Q)(hq:∀e a σ y,Q e a σ y->Q' e a σ y):BW E N k c a σ y Q':=by
 constructor;intro hk g w act hR hF hY;refine wp_mono (h.run hk g w act hR hF hY) ?_;rintro e act1 w1 ⟨g1,a1,σ1,y1,h1,h2⟩;exact⟨g1,a1,σ1,y1,hq _ _ _ _ h1,h2⟩
theorem BW.block{id:Nat}{c:Code}(h:BW E N k c a σ y (IZ id Q)):BW E N k (.block id c) a σ y Q:=by
 constructor;intro hk g w act hR hF hY;refine wp_block (wp_mono (h.run hk g w act hR hF hY) ?_);rintro e act1 w1 ⟨g1,a1,σ1,y1,hq,h2⟩;cases e with
 |exit id'=>
  simp only[Exit.inBlock];by_cases hi:id'=id
  .subst hi;simp only[IZ,cI,cond_true] at hq;rw[if_pos rfl];exact⟨g1,a1,σ1,y1,hq,h2⟩
  .simp only[IZ,Q0 hi,cond_false] at hq;rw[if_neg hi];exact⟨g1,a1,σ1,y1,hq,h2⟩
 |normal=>exact⟨g1,a1,σ1,y1,hq,h2⟩
 |goto l=>exact⟨g1,a1,σ1,y1,hq,h2⟩
 |ret=>exact⟨g1,a1,σ1,y1,hq,h2⟩
 |panic ch=>exact⟨g1,a1,σ1,y1,hq,h2⟩
 |outgrown=>exact⟨g1,a1,σ1,y1,hq,h2⟩
def As(E:Env)(N k:Nat)(a:AF)(σ:Aj)(y:Ys)(S:AF->Aj->Ys->Prop):Prop:=
 k<=σ.nx->∀g w act,R E.G g (·<σ.nx) σ.es w->Ba g (·<σ.nx) w N act a->D3 y g (Aq g σ.es) w->
  ∃a2 σ2 y2 g2,S a2 σ2 y2/\k<=σ2.nx/\R E.G g2 (·<σ2.nx) σ2.es w/\Ba g2 (·<σ2.nx) w N act a2/\D3 y2 g2 (Aq g2 σ2.es) w/\Ext (·<k) g (FY g σ.es y) w g2 (FY g2 σ2.es y2) w
theorem As.of{a2:AF}{σ2:Aj}(h:Bc E N k a σ a2 σ2):As E N k a σ y (fun a3 σ3 y3=>a3=a2/\σ3=σ2/\y3=y):=by
 intro hk g w act hR hF hY;obtain⟨hk2,hw⟩:=h hk;obtain⟨g2,hR2,hF2,hx⟩:=hw g w act hR hF;exact⟨a2,σ2,y,g2,⟨rfl,rfl,rfl⟩,hk2,hR2,hF2,hY.ext hx,hx.keys y⟩
theorem As.trans{S S':AF->Aj->Ys->Prop}(h:As E N k a σ y S)(h2:∀a σ y,S a σ y->As E N k a σ y S'):As E N k a σ y S':=by
 intro hk g w act hR hF hY;obtain⟨a2,σ2,y2,g2,hs,hk2,hR2,hF2,hY2,hx⟩:=h hk g w act hR hF hY;obtain⟨a3,σ3,y3,g3,hs3,hk3,hR3,hF3,hY3,hx3⟩:=h2 _ _ _ hs hk2 g2 w act hR2 hF2 hY2;exact⟨a3,σ3,y3,g3,hs3,hk3,hR3,hF3,hY3,hx.trans hx3⟩
theorem BW.weak{c:Code}{S:AF->Aj->Ys->Prop}(h:As E N k a σ y S)(h2:∀a σ y,S a σ y->BW E N k c a σ y Q):BW E N k c a σ y Q:=by
 constructor;intro hk g w act hR hF hY;obtain⟨a2,σ2,y2,g2,hs,hk2,hR2,hF2,hY2,hx⟩:=h hk g w act hR hF hY;exact wp_mono ((h2 _ _ _ hs).run hk2 g2 w act hR2 hF2 hY2) (fun e act2 w2 hp=>hp.later hx)
theorem BW.exit{id:Nat}(h:Q (.exit id) a σ y):BW E N k (.exit id) a σ y Q:= .of (.exit h)
theorem BW.ret(h:Q .ret a σ y):BW E N k .ret a σ y Q:= .of (.ret h)
def NP(E:Env)(N k:Nat)(B:Nat)(i d:Tmp)(m:Nat)(J:Nat->AF->Aj->Ys->Prop)(Q:Exit->AF->Aj->Ys->Prop):Exit->AF->Aj->Ys->Prop
 | .normal,a,σ,y=>a.get i=some (.int .i64 m)/\As E N k ((i,.int .i64 ((m+1:Nat):Int))::(d,.int .i64 ((m+1:Nat):Int))::a) σ y (J (m+1))
 | .exit id,a,σ,y=>bif Nat.beq id B then Q .normal a σ y else Q (.exit id) a σ y
 |e,a,σ,y=>Q e a σ y
theorem BW.range{B C r1 r2:Nat}{c i n d:Tmp}{T T' T2 T3:TypeId}{ty1 ty2 ty3:TypeId}{p1 p2 p3:String}{af1 af2 af3:Array Edge}{body:Code}(len:Nat)(J:Nat->AF->Aj->Ys->Prop)(hlen:len<4611686018427387904)
 (hi:∀m a σ y,J m a σ y->a.get i=some (.int .i64 m)) (hn:∀m a σ y,J m a σ y->a.get n=some (.int .i64 len)) (hd:zw N (some c)&&zw N (some d)&&zw N (some i)&& !Nat.beq d i=true) (h0:As E N k a σ y (J 0))
 (hb:∀m a σ y,m<len->J m a σ y->BW E N k body ((c,.bool true)::a) σ y (IZ C (NP E N k B i d m J Q)))
 (he:∀a σ y,J len a σ y->Q .normal ((c,.bool false)::a) σ y):
 BW E N k (.block B (.loop (.seq (.region r1 #[⟨some c,.binOp .lss T (.tmp i) (.tmp n) T',ty1,p1,af1,none⟩] false)
  (.seq (.cond (.tmp c) .skip (.exit B)) (.seq (.block C body)
   (.region r2 #[⟨some d,.binOp .add T2 (.tmp i) (.const (.int .i64 1)) T3,ty2,p2,af2,none⟩,⟨some i,.move (.tmp d),ty3,p3,af3,none⟩] false)))))) a σ y Q:=by
 simp only[ZC] at hd;obtain⟨⟨⟨hd1,hd2⟩,hd3⟩,hd4⟩:=hd;have round:∀m a σ y,m<=len->J m a σ y->BW E N k (.seq (.region r1 #[⟨some c,.binOp .lss T (.tmp i) (.tmp n) T',ty1,p1,af1,none⟩] false)
  (.seq (.cond (.tmp c) .skip (.exit B)) (.seq (.block C body)
   (.region r2 #[⟨some d,.binOp .add T2 (.tmp i) (.const (.int .i64 1)) T3,ty2,p2,af2,none⟩,⟨some i,.move (.tmp d),ty3,p3,af3,none⟩] false)))) a σ y
  (fun e a σ y=>match e with
   | .normal=>m<len/\As E N k a σ y (J (m+1))
   |e=>IZ B Q e a σ y):=by
  intro m a σ y hm hJ;refine .seq (.of (.AP (L.bn rfl (hi _ _ _ _ hJ) (hn _ _ _ _ hJ) rfl hd1 (.BO ?_))));show BW E N k _ ((c,.bool (decide ((m:Int)<(len:Int))))::a) σ y _;by_cases hlt:m<len
  .have hdec:decide ((m:Int)<(len:Int))=true:=ei
   rw[hdec];refine .seq (.of (.Ct gr (.skip ?_)));show BW E N k _ _ _ _ _;refine .seq (.block ((hb m a σ y hlt hJ).mono ?_));rintro e a1 σ1 y1 hq;have hnorm:NP E N k B i d m J Q .normal a1 σ1 y1->BW E N k (.region r2 #[⟨some d,.binOp .add T2 (.tmp i) (.const (.int .i64 1)) T3,ty2,p2,af2,none⟩,⟨some i,.move (.tmp d),ty3,p3,af3,none⟩] false) a1 σ1 y1
    (fun e a σ y=>match e with
     | .normal=>m<len/\As E N k a σ y (J (m+1))
     |e=>IZ B Q e a σ y):=by
    rintro⟨h1,h3⟩;refine .of (.AP (L.ad rfl h1 (show ev E T2 a1 (.const (.int .i64 1))=some (.int .i64 1) from rfl) hd2 dY (L.mv rfl (v:= .int .i64 ((m:Int)+1)) (by simp[ev,AF.put,AF.get]) hd3 (.BO ?_))));rw[show((m:Int)+1)=((m+1:Nat):Int) from dY];exact⟨hlt,h3⟩
   cases e with
   |normal=>exact hnorm hq
   |exit id=>
    simp only[IZ,Rx] at hq ⊢;cases hb:Nat.beq id C with
    |true=>rw[hb] at hq;exact hnorm hq
    |false=>rw[hb] at hq;exact hq
   |goto l=>exact hq
   |ret=>exact hq
   |panic ch=>exact hq
   |outgrown=>exact hq
  .have hm':m=len:=dY
   subst hm';have hdec:decide ((m:Int)<(m:Int))=false:=dZ
   rw[hdec];refine .seq (.of (.Cu gr (.exit ?_)));show IZ B Q (.exit B) _ _ _;simp only[IZ,cI,cond_true]
   grind
 refine .block ?_;refine .weak h0 fun a σ y hJ=> ?_;constructor;intro hk g w act hR hF hY;refine wp_loop_ghost (fun n act' w'=>∃m g' a' σ' y',len-m=n/\m<=len/\J m a' σ' y'/\k<=σ'.nx/\R E.G g' (·<σ'.nx) σ'.es w'/\Ba g' (·<σ'.nx) w' N act' a'/\D3 y' g' (Aq g' σ'.es) w'/\Ext (·<k) g (FY g σ.es y) w g' (FY g' σ'.es y') w')
  len ⟨0,g,a,σ,y,dY,dY,hJ,hk,hR,hF,hY,.refl ..⟩ ?_
 rintro n1 act1 w1 ⟨m,g1,a1,σ1,y1,hn1,hm,hJ1,hk1,hR1,hF1,hY1,hx1⟩;refine wp_mono ((round m a1 σ1 y1 hm hJ1).run hk1 g1 w1 act1 hR1 hF1 hY1) ?_;rintro e act2 w2 ⟨g2,a2,σ2,y2,hq,hk2,hR2,hF2,hY2,hx2⟩;cases e with
 |normal=>
  obtain⟨hlt,hJ⟩:=hq;obtain⟨a3,σ3,y3,g3,hs,hk3,hR3,hF3,hY3,hx3⟩:=hJ hk2 g2 w2 act2 hR2 hF2 hY2;exact⟨len-(m+1),dY,m+1,g3,a3,σ3,y3,rfl,hlt,hs,hk3,hR3,hF3,hY3,(hx1.trans hx2).trans hx3⟩
 |exit id=>exact⟨g2,a2,σ2,y2,hq,hk2,hR2,hF2,hY2,hx1.trans hx2⟩
 |goto l=>exact⟨g2,a2,σ2,y2,hq,hk2,hR2,hF2,hY2,hx1.trans hx2⟩
 |ret=>exact⟨g2,a2,σ2,y2,hq,hk2,hR2,hF2,hY2,hx1.trans hx2⟩
 |panic ch=>exact⟨g2,a2,σ2,y2,hq,hk2,hR2,hF2,hY2,hx1.trans hx2⟩
 |outgrown=>exact⟨g2,a2,σ2,y2,hq,hk2,hR2,hF2,hY2,hx1.trans hx2⟩
theorem Oper.Iw{P:Program}{o:Oper}{act:Act}{w:World}{K K':Act->World->Prop}{Q Q':Exit->Act->World->Prop}(hK:∀a w,K a w->K' a w)(hQ:∀e a w,e≠ .normal->Q e a w->Q' e a w)
 (h:o.wp P act w K Q):o.wp P act w K' Q':=by
 unfold Oper.wp at h ⊢;generalize (execOp act.eval o).run P w=r at h ⊢;unfold Oper.upon at h ⊢;split at h
 .grind
 .grind
 .grind
 .refine h.mono ?_;intro e w' he;cases e with
  |returned v=>grind
  |panicked ch=>grind
  |outgrown=>obtain⟨a,w,h⟩:=he;exact⟨a,w,hQ _ _ _ dZ h⟩
 .exact h.mono fun v w' h=>hK _ _ h
 all_goals grind
theorem WQ{P:Program}{ops:Array Oper}{Q Q':Exit->Act->World->Prop}{l2:List Oper}(hn:∀a w,Q .normal a w->wpList P ops Q' l2 a w)(hQ:∀e a w,e≠ .normal->Q e a w->Q' e a w):
 ∀(l1:List Oper) (act:Act) (w:World),wpList P ops Q l1 act w->wpList P ops Q' (l1++l2) act w:=by
 intro l1;induction l1 with
 |nil=>intro act w h;exact hn _ _ h
 |cons o l ih=>
  intro act w h;simp only[aE];unfold wpList at h ⊢;split at h
  .rename_i hw;rw[if_pos hw];rcases h with h|⟨h1,a',w',h2⟩
   .exact .inl (Oper.Iw (fun a w h=>ih a w h) hQ h)
   .exact .inr ⟨h1,a',w',hQ _ _ _ dZ h2⟩
  grind
end
def YC(E:Env)(f:FuncId)(args:List V)(T:V->Ys->Prop):Prop:=
 (∀vs w,(callFunc f vs).run E.P w= .ok (.enter f vs) w)/\
 ∀g w (vs:List Value),R E.G g (·<0) [] w->vs.length=args.length->(∀(i:Nat) v c,vs[i]? =some v->args[i]? =some c->Al g (·<0) w v c)->
  Calls E.P f vs.toArray w fun e w'=>∃v g' r y,e= .returned v/\T r y/\R E.G g' (·<0) [] w'/\Al g' (·<0) w' v r/\D3 y g' (Aq g' []) w'/\Ext (·<0) g (Aq g []) w g' (FY g' [] y) w'
def S9(E:Env)(rs:List ResultVar)(T:V->Ys->Prop):Exit->AF->Aj->Ys->Prop
 | .ret,a,σ,y=>∃r,T r y/\I8 E 0 rs r ⟨0,[]⟩ a σ
 | .normal,a,σ,y=>∃r,T r y/\I8 E 0 rs r ⟨0,[]⟩ a σ
 |_,_,_,_=>False
section
variable {E:Env} {N k:Nat} {a:AF} {σ:Aj} {y:Ys} {Q:Exit->AF->Aj->Ys->Prop}
theorem YC.mk{f:FuncId}{fn:Func}{c:Code}{args:List V}{T:V->Ys->Prop}{rs:List ResultVar}(hf:E.P.funcs[f]? =some fn)(hb:fn.body=some c)(hname:(fn.name== "runtime.NumGoroutine")=false)(hN:fn.ntmps=N)
 (hrs:fn.results=rs.toArray) (hargs:Nat.ble args.length N=true) (h:BW E N 0 c (Lw 0 args) ⟨0,[]⟩ [] (S9 E rs T)):YC E f args T:=by
 refine⟨fun vs w=> ?_,fun g w vs hR hl hr=> ?_⟩
 .exact mV
 .have hle:=ZP hargs;refine calls_of_wp hf hb (wp_mono (h.run (ZB _) g w _ hR ?_ .nil) ?_)
  .exact lZ
  .rintro e act' w' ⟨g',a',σ1,y1,hq,hk1,hR1,hF1,hY1,hx1⟩;rw[FY.nil] at hx1;have key:(∃r,T r y1/\I8 E 0 rs r ⟨0,[]⟩ a' σ1)->act'.defers=[]/\∃v,(results fn act'.tmps).run E.P w'= .ok v w'/\∃v' g'' r y,Ending.returned v= .returned v'/\T r y/\R E.G g'' (·<0) [] w'/\Al g'' (·<0) w' v' r/\D3 y g'' (Aq g'' []) w'/\
    Ext (·<0) g (Aq g []) w g'' (FY g'' [] y) w':=by
    rintro⟨r,hT,hret⟩;obtain⟨v,g2,h1,h2,h3,h4⟩:=I8.done hret hrs hR1 hF1;exact⟨hF1.defers,v,h1,v,g2,r,y1,rfl,hT,h2,h3,hY1.ext h4,hx1.trans (h4.keys y1)⟩
   cases e with
   |normal=>exact key hq
   |ret=>exact key hq
   |_=>exact hq.elim
theorem YC.use{f:FuncId}{args:List V}{T:V->Ys->Prop}(h:YC E f args T){g:Gh}{D:Nat->Prop}{es:Es}{w:World}(hR:R E.G g D es w)(hY:D3 y g (Aq g es) w){vs:List Value}{cs:List V}(hl:vs.length=cs.length)
 (hr:∀(i:Nat) v c,vs[i]? =some v->cs[i]? =some c->Al g D w v c) (hle:∃cs1,xu [] args=some cs1/\Bb cs cs1) {P:Ending->World->Prop}
 (hP:∀v g' w' r y',T r y'->R E.G g' D es w'->Al g' D w' v r->D3 (y'++y) g' (Aq g' es) w'->(∀p∈y',∀q∈y,p.1≠q.1)->Ext D g (FY g es y) w g' (FY g' es (y'++y)) w'->P (.returned v) w'):Calls E.P f vs.toArray w P:=by
 obtain⟨cs1,h1,h2⟩:=hle;obtain⟨_,h3⟩:=h;have hRs:R E.G g (·<0) [] w:=⟨fun n e h=>eE,fun n n' e e' b h=>eE,fun n e h=>eE,hR.fresh,hR.Fp⟩;have hnr:∀n m,CF [] n≠some m:=fun n m h=>by simp[CF,Dz] at h
 refine(h3 g w vs hRs ja (fun i v c hv hc=> ?_)).mono ?_
 .exact kN
 .rintro e w' ⟨v,g',r,y',rfl,hT,hR',hv,hY',hx⟩;have hnf:∀b,¬Aq g [] b:=fun b h=>by obtain⟨n,e,h,_⟩:=h;cases h
  have hsame:∀b,b<w.heap.size->w'.heap[b]? =w.heap[b]? /\g'.m b=g.m b:=fun b hb=>hx.frame b hb (hnf b);have hnew:∀p∈y',w.heap.size<=p.1:=fun p hp=>by
   rcases hx.CM p.1 (.inr ⟨p,hp,rfl⟩) with h|h;all_goals grind
  have hfoot:Aq (g.marks g') es=Aq g es:=by
   rfl
  have hx0:Ext D g (Aq g es) w (g.marks g') (Aq g es) w':=
   ⟨hx.os,hx.tape,hx.output,hx.size,hx.cells,hx.mark,fun _ _=>rfl,fun _ _=>rfl,fun b hb _=>hsame b hb,fun b hb=> .inl hb⟩
  refine hP v (g.marks g') w' r y' hT ?_ ?_ ?_ ?_ ?_
  .exact kM
  .exact lV
  .rw[hfoot];intro p hp;rcases ZU.1 hp with hp|hp
   .obtain ⟨q1,q2,us,t,q3,q4,q5,q6,q7⟩:=hY' p hp;refine⟨q1,fun hf=> ?_,us,t,q3,q4,q5,q6,fun i v c hv hc=>(q7 i v c hv hc).mono (fun _=>ZB _) (fun _ _ _=>rfl) (fun _ h=>h) (fun _ h=>h.elim) (fun _ h=>h.elim)⟩;obtain⟨n,e,h4,h5⟩:=hf;have:=hR.BB h4 h5
    grind
   .exact hY.ext hx0 p hp
  .intro p hp q hq e;obtain⟨_,_,us,t,q3,_⟩:=hY q hq
   grind
  .refine ⟨hx.os,hx.tape,hx.output,hx.size,hx.cells,hx.mark,fun _ _=>rfl,fun _ _=>rfl,fun b hb _=>hsame b hb,fun b hb=> ?_⟩;rcases hb with hb|⟨p,hp,rfl⟩
   .rw[hfoot] at hb;exact .inl (.inl hb)
   .rcases ZU.1 hp with hp|hp
    .grind
    .exact .inl (.inr ⟨p,hp,rfl⟩)
theorem BW.TZ{id:Nat}{l1 l2:List Oper}{d:Option Tmp}{f:FuncId}{xs:List Operand}{ts:List TypeId}{ty:TypeId}{ps:String}{af:Array Edge}(args:List V)(T:V->Ys->Prop)(hf:YC E f args T)(hd:zw N d=true)
 (h:AX (E.y y) N k false (l1++⟨d,.call ⟨.value (.func f),xs.toArray,ts.toArray⟩,ty,ps,af,none⟩::l2) l1 a σ [] (fun e a1 σ1=>e= .normal/\(∃cs cs1,DS E a1 xs ts=some cs/\xu [] args=some cs1/\Bb cs cs1)/\
  ∀r y',T r y'->(∀p∈y',∀q∈y,p.1≠q.1)->AX (E.y (y'++y)) N k false (l1++⟨d,.call ⟨.value (.func f),xs.toArray,ts.toArray⟩,ty,ps,af,none⟩::l2) l2 (a1.put d r) σ1 [] (fun e a2 σ2=>e= .normal/\Q .normal a2 σ2 (y'++y)))):
 BW E N k (.region id (l1++⟨d,.call ⟨.value (.func f),xs.toArray,ts.toArray⟩,ty,ps,af,none⟩::l2).toArray false) a σ y Q:=by
 constructor;intro hk g w act hR hF hY;refine wp_region_lit (WQ ?_ ?_ _ _ _ (h.out hk g w act hR hF hY g (Aq g σ.es) w (.refl ..)))
 .rintro act1 w1 ⟨g1,a1,σ1,⟨_,⟨cs,cs1,hev,hren,hle⟩,hcont⟩,hk1,hR1,hF1,hx1⟩;have hY1:=hY.ext hx1;refine wpList_plain rfl fun K hK=> ?_;obtain⟨h1,h2⟩:=Nn hev hR1 hF1;refine Po (ts:=ts.toArray) rfl hf.1 (hf.use hR1 hY1 h1 h2 ⟨cs1,hren,hle⟩ fun v g2 w2 r y' hT hR2 hv hY2 hne hx2=>⟨v,rfl,hK _ _ ?_⟩);have hF2:Ba g2 (·<σ1.nx) w2 N (act1.put d v) (a1.put d r):=(hF1.ext (F:=FY g1 σ1.es y) hx2 (fun _ h=>h)).put (L5 hd) hv;have hX:=(hx1.keys y).trans (hx2.mono (fun n (hn:n<k)=>(show n<σ1.nx by omega)));have hw:=(hcont r y' hT hne).out hk1 g2 w2 _ hR2 hF2 hY2 g2 (Aq g2 σ1.es) w2 (.refl ..);have:=WQ (l2:=[]) (Q':=E4 E N k g (FY g σ.es y) w Q) (P:=E.P) (fun a3 w3 h=> ?_) (fun e a3 w3 hne h=> ?_) _ _ _ hw
  .grind
  .obtain ⟨g3,a3,σ3,⟨_,hq⟩,hk3,hR3,hF3,hx3⟩:=h;exact⟨g3,a3,σ3,_,hq,hk3,hR3,hF3,hY2.ext hx3,hX.trans (hx3.keys (y'++y))⟩
  .obtain ⟨g3,a3,σ3,⟨he,_⟩,_⟩:=h
   grind
 .rintro e act1 w1 hne ⟨g1,a1,σ1,⟨he,_⟩,_⟩
  grind
end
def EM(Cv:V->V->Prop):A7->A7->Prop
 |_,.gone=>True
 | .var cs,.var cs2=>cs2.length=cs.length/\∀(i:Nat) c c2,cs[i]? =some c->cs2[i]? =some c2->Cv c c2
 |e,e2=>e2=e
theorem EM.AB{Cv:V->V->Prop}{e e2:A7}(h:EM Cv e e2){g g2:Gh}{D:Nat->Prop}{n:Nat}(hn:D n)(hb:∀n,D n->g2.blk n=g.blk n)(hr:∀n,D n->g2.row n=g.row n){b:Nat}(hf:e2.AB g2 n=some b):e.AB g n=some b:=by
 rw[<-A7.Cd hn hb hr];cases e2 with
 |gone=>cases hf
 |var cs2=>cases e<;>first|exact hf|exact eE
 |map c ks xs=>cases e<;>first|exact(by cases h;exact hf)|exact eE
 |row=>cases e<;>first|exact hf|exact eE
theorem R.conv{G:DR}{g g2:Gh}{D D2:Nat->Prop}{es es2:Es}{w:World}(hR:R G g D es w)(hD:∀n,D n->D2 n)(hm:∀b,g.m b<=g2.m b)(hb:∀n,D n->g2.blk n=g.blk n)(hr:∀n,D n->g2.row n=g.row n)
 (hfoot:∀b,Aq g es b->g2.m b=g.m b) (hfresh:∀b,w.heap.size<=b->g2.m b=0) (Cv:V->V->Prop) (hv:∀v c c2,Cv c c2->Al g D w v c->Al g2 D2 w v c2) (n0:Nat)
 (he:∀n e2,zg es2 n=some e2->(n=n0/\D2 n/\GC g2 D2 w n e2/\∀b,e2.AB g2 n=some b->¬Aq g es b)\/∃e,zg es n=some e/\EM Cv e e2):R G g2 D2 es2 w:=by
 refine hR.step hm (fun _ _ _=>rfl) hD hb hr (fun n e2 h=> .inr ?_) ?_ hfresh
 .rcases he n e2 h with⟨_,h1,h2,_⟩|⟨e,h1,h2⟩
  .grind
  .refine ⟨hD n (hR.lt n e h1),?_⟩;have h3:=(hR.BT n e h1).mono (g':=g2) (D':=D2) (w':=w) (hR.lt n e h1) hm (fun _ _ _=>rfl) hD hb hr (fun b hb=>⟨rfl,hfoot b ⟨n,e,h1,hb⟩⟩);cases e2 with
   |gone=>trivial
   |var cs2=>
    cases e with
    |var cs=>
     obtain⟨h4,h5⟩:=h2;obtain⟨q1,us,t,q2,q3,q4,q5,q6⟩:=h3;obtain⟨p1,us',t',p2,_,_,p5,_⟩:=hR.BT n _ h1;rw[hb n (hR.lt n _ h1)] at q2;rw[q2] at p2;simp only[ZI,Obj.cells.injEq] at p2;obtain⟨p3,_,_⟩:=p2;have p3:us=us':=ei
     subst p3;refine⟨q1,us,t,by rw[hb n (hR.lt n _ h1)];exact q2,dY,q4,fun i v c2 hvi hci=> ?_,q6⟩
     grind
    |map _ _ _=>cases h2
    |row=>cases h2
    |gone=>cases h2
   |map c ks xs=>cases e<;>first|exact(by cases h2;exact h3)|exact(by cases h2)
   |row=>cases e<;>first|exact h3|exact(by cases h2)
 .intro n n' e e' b h1 h2 h3 h4;rcases he n e h1 with⟨rfl,_,_,q⟩|⟨d,h5,h6⟩
  .rcases he n' e' h2 with⟨rfl,_⟩|⟨d',h7,h8⟩
   .rfl
   .exact absurd ⟨n',d',h7,h8.AB (hR.lt _ _ h7) hb hr h4⟩ (q b h3)
  .rcases he n' e' h2 with⟨rfl,_,_,q⟩|⟨d',h7,h8⟩
   .exact absurd ⟨n,d,h5,h6.AB (hR.lt _ _ h5) hb hr h3⟩ (q b h4)
   .exact hR.A9 n n' d d' b h5 h7 (h6.AB (hR.lt _ _ h5) hb hr h3) (h8.AB (hR.lt _ _ h7) hb hr h4)
theorem Vo:∀{y:Ys},(y.map Prod.fst).Nodup->∀p∈y,∀q∈y,q.1=p.1->q=p
 |[],_,p,hp,_,_,_=>by cases hp
 |x::l,h,p,hp,q,hq,e=>by
  simp only[ZJ,aR] at h;rcases Z4.1 hp with h1|h1
  .grind
  .rcases Z4.1 hq with h2|h2
   .grind
   .exact Vo h.2 p h1 q h2 e
def K4(b n cap sz:Nat)(c c2:V):Prop:=c2=c\/(∃off,c= .rp b off/\c2= .ptr n off)\/(∃len,len<=cap/\c= .rs b len cap/\c2= .arr n len sz)
section
variable {E:Env} {N k:Nat} {a:AF} {σ:Aj} {y:Ys} {Q:Exit->AF->Aj->Ys->Prop}
theorem Wp{b cap sz:Nat}{cs:List V}{y1:Ys}(hy:y.Perm ((b,cap*sz,cs)::y1))(hnd:(y.map Prod.fst).Nodup)(a2:AF)(es2:Es)
 (hf:∀t c2,a2.get t=some c2->∃c,a.get t=some c/\K4 b σ.nx cap sz c c2)
 (he:∀n e2,zg es2 n=some e2->(n=σ.nx/\e2= .var cs)\/∃e,zg σ.es n=some e/\EM (K4 b σ.nx cap sz) e e2):
 k<=σ.nx->∀g w act,R E.G g (·<σ.nx) σ.es w->Ba g (·<σ.nx) w N act a->D3 y g (Aq g σ.es) w->
 ∃g2,g2.blk σ.nx=b/\g2.row σ.nx=some ⟨b,0,cap,sz,0⟩/\R E.G g2 (·<σ.nx+1) es2 w/\Ba g2 (·<σ.nx+1) w N act a2/\D3 y1 g2 (Aq g2 es2) w/\Ext (·<k) g (FY g σ.es y) w g2 (FY g2 es2 y1) w:=by
 intro hk g w act hR hF hY
 let g2:=g.AK σ.nx b (some ⟨b,0,cap,sz,0⟩)
 have hne:∀i,i<σ.nx->i≠σ.nx:=fun i h=>dY
 have hb:∀i,i<σ.nx->g2.blk i=g.blk i:=fun i hi=>by simp[g2,Gh.AK,hne i hi]
 have hrw:∀i,i<σ.nx->g2.row i=g.row i:=fun i hi=>by simp[g2,Gh.AK,hne i hi]
 have hbn:g2.blk σ.nx=b:=by simp[g2,Gh.AK]
 have hrn:g2.row σ.nx=some ⟨b,0,cap,sz,0⟩:=by simp[g2,Gh.AK]
 have hD:∀n,n<σ.nx->n<σ.nx+1:=fun n h=>dY
 obtain⟨h1,h2,vs,t,h3,h4,h5,h6,h7⟩:=hY (b,cap*sz,cs) (hy.mem_iff.2 dZ);simp only at h1 h2 h3 h4 h5 h7;have hmono:∀v c,Al g (·<σ.nx) w v c->Al g2 (·<σ.nx+1) w v c:=fun v c h=>h.mono (fun _=>ZB _) (fun _ _ _=>rfl) hD hb hrw;have hv:∀v c c2,K4 b σ.nx cap sz c c2->Al g (·<σ.nx) w v c->Al g2 (·<σ.nx+1) w v c2:=by
  rintro v c c2 (rfl|⟨off,rfl,rfl⟩|⟨len,hl,rfl,rfl⟩) h
  .grind
  .rw[h.B9];have:=Al.ptr (g:=g2) (D:=(·<σ.nx+1)) (w:=w) σ.nx off dY
   grind
  .rw[h.B9];have:=Al.arr (g:=g2) (D:=(·<σ.nx+1)) (w:=w) σ.nx len sz cap dY hl ei
   grind
 have hent:GC g2 (·<σ.nx+1) w σ.nx (.var cs):=by
  refine⟨by rw[hbn];exact h1,vs,t,ei,dY,h6,fun i v c hv hc=>(h7 i v c hv hc).mono (fun _=>ZB _) (fun _ _ _=>rfl) (fun _ h=>h.elim) (fun _ h=>h.elim) (fun _ h=>h.elim),fun ρ hρ=> ?_⟩
  grind
 have hfootin:∀x,Aq g2 es2 x->Aq g σ.es x\/x=b:=by
  rintro x ⟨n,e2,q1,q2⟩;rcases he n e2 q1 with⟨rfl,rfl⟩|⟨e,q3,q4⟩
  .simp only[A7.AB,ZI,hbn] at q2;omega
  .exact .inl ⟨n,e,q3,q4.AB (D:=(·<σ.nx)) (hR.lt _ _ q3) hb hrw q2⟩
 have hnd2:∀p∈y1,p.1≠b:=by
  grind
 refine⟨g2,hbn,hrn,?_,⟨hF.size,hF.defers,fun t c2 hc=> ?_⟩,?_,?_⟩
 .refine hR.conv hD (fun _=>ZB _) hb hrw (fun _ _=>rfl) hR.fresh _ hv σ.nx fun n e2 hn=> ?_;rcases he n e2 hn with⟨rfl,rfl⟩|h
  .refine .inl ⟨rfl,dY,hent,fun x hx=> ?_⟩;simp only[A7.AB,ZI,hbn] at hx
   grind
  grind
 .obtain ⟨c,q1,q2⟩:=hf t c2 hc;obtain⟨v,q3,q4⟩:=hF.vals t c q1
  grind
 .intro p hp;obtain⟨q1,q2,us,t',q3,q4,q5,q6,q7⟩:=hY p (hy.mem_iff.2 ei);refine⟨q1,fun hfo=> ?_,us,t',q3,q4,q5,q6,fun i v c hv hc=>(q7 i v c hv hc).mono (fun _=>ZB _) (fun _ _ _=>rfl) (fun _ h=>h) (fun _ h=>h.elim) (fun _ h=>h.elim)⟩
  grind
 .refine ⟨rfl,rfl,rfl,ZB _,fun _ _ _=>rfl,fun _=>ZB _,fun n hn=>hb n dY,fun n hn=>hrw n dY,fun _ _ _=>⟨rfl,rfl⟩,fun x hx=> .inl ?_⟩;rcases hx with hx|⟨p,hp,rfl⟩
  .rcases hfootin x hx with h|rfl
   .exact .inl h
   .exact .inr ⟨(x,cap*sz,cs),hy.mem_iff.2 dZ,rfl⟩
  .exact .inr ⟨p,hy.mem_iff.2 ei,rfl⟩
theorem As.take{b cap sz:Nat}{cs:List V}{y1:Ys}(hy:y.Perm ((b,cap*sz,cs)::y1))(hnd:(y.map Prod.fst).Nodup)(a2:AF)(es2:Es)
 (hf:∀t c2,a2.get t=some c2->∃c,a.get t=some c/\K4 b σ.nx cap sz c c2)
 (he:∀n e2,zg es2 n=some e2->(n=σ.nx/\e2= .var cs)\/∃e,zg σ.es n=some e/\EM (K4 b σ.nx cap sz) e e2):
 As E N k a σ y (fun a3 σ3 y3=>a3=a2/\σ3=⟨σ.nx+1,es2⟩/\y3=y1):=by
 intro hk g w act hR hF hY;obtain⟨g2,_,_,h1,h2,h3,h4⟩:=Wp hy hnd a2 es2 hf he hk g w act hR hF hY
 grind
def V.free(c:V):Prop:=∀g D w v,Al g D w v c->Al g (fun _=>False) w v c
theorem V.FF(u:Value):V.free (.raw u):=fun g D w v h=>by rw[h.B9];exact .raw u
def SH(n b cap sz:Nat)(c c2:V):Prop:=c2=c\/(∃off,c= .ptr n off/\c2= .rp b off)\/(∃len,c= .arr n len sz/\c2= .rs b len cap)
theorem Wh{n:Nat}{cs:List V}(hn:zg σ.es n=some (.var cs))(hcs:∀c∈cs,V.free c){g:Gh}{w:World}{act:Act}(hR:R E.G g (·<σ.nx) σ.es w)(hF:Ba g (·<σ.nx) w N act a)(hY:D3 y g (Aq g σ.es) w)(a2:AF)(es2:Es)
 (h1:∀t c2,a2.get t=some c2->∃c,a.get t=some c/\∀v,Al g (·<σ.nx) w v c->Al g (·<σ.nx) w v c2)
 (h2:∀i e2,zg es2 i=some e2->∃e,zg σ.es i=some e/\EM (fun c c2=>∀v,Al g (·<σ.nx) w v c->Al g (·<σ.nx) w v c2) e e2) (h3:zg es2 n=some .gone):
 ∃room,(∀ρ,g.row n=some ρ->room=ρ.cap*ρ.sz)/\(∀p∈y,p.1≠g.blk n)/\R E.G g (·<σ.nx) es2 w/\Ba g (·<σ.nx) w N act a2/\D3 ((g.blk n,room,cs)::y) g (Aq g es2) w/\
  Ext (·<k) g (FY g σ.es y) w g (FY g es2 ((g.blk n,room,cs)::y)) w:=by
 obtain⟨q1,us,t,q2,q3,q4,q5,q6⟩:=hR.BT n _ hn;have hyb:∀p∈y,p.1≠g.blk n:=fun p hp e=>(hY p hp).2.1 ⟨n,_,hn,iD⟩;have hfootin:∀x,Aq g es2 x->Aq g σ.es x/\x≠g.blk n:=by
  rintro x ⟨i,e2,p1,p2⟩;obtain⟨e,p3,p4⟩:=h2 i e2 p1;have p5:=p4.AB (D:=(·<σ.nx)) (n:=i) (hR.lt _ _ p3) (g:=g) (g2:=g) (fun _ _=>rfl) (fun _ _=>rfl) p2;refine⟨⟨i,e,p3,p5⟩,fun hx=> ?_⟩;subst hx;have:=hR.A9 i n e _ _ p3 hn p5 eC;subst this;rw[h3] at p1;cases p1;cases p2
 refine⟨us.length,q6,hyb,?_,⟨hF.size,hF.defers,fun t c2 hc=> ?_⟩,?_,?_⟩
 .exact hR.conv (fun _ h=>h) (fun _=>ZB _) (fun _ _=>rfl) (fun _ _=>rfl) (fun _ _=>rfl) hR.fresh _ (fun v c c2 h hv=>h v hv) σ.nx fun i e2 hi=> .inr (h2 i e2 hi)
 .obtain ⟨c,p1,p2⟩:=h1 t c2 hc;obtain⟨v,p3,p4⟩:=hF.vals t c p1
  grind
 .intro p hp;rcases Z4.1 hp with rfl|hp
  .exact ⟨q1,fun hfo=>(hfootin _ hfo).2 rfl,us,t,q2,rfl,q3,q4,fun i v c hv hc=>hcs c (bt hc) _ _ _ _ (q5 i v c hv hc)⟩
  .obtain ⟨p1,p2,us',t',p3,p4,p5,p6,p7⟩:=hY p hp
   grind
 .refine ⟨rfl,rfl,rfl,ZB _,fun _ _ _=>rfl,fun _=>ZB _,fun _ _=>rfl,fun _ _=>rfl,fun _ _ _=>⟨rfl,rfl⟩,fun x hx=> .inl ?_⟩;rcases hx with hx|⟨p,hp,rfl⟩
  .exact .inl (hfootin x hx).1
  .rcases Z4.1 hp with rfl|hp
   .exact .inl ⟨n,_,hn,eC⟩
   .exact .inr ⟨p,hp,rfl⟩
theorem As.IG{n:Nat}{cs:List V}(hn:zg σ.es n=some (.var cs))(hcs:∀c∈cs,V.free c){S:AF->Aj->Ys->Prop}
 (hS:∀g w act,R E.G g (·<σ.nx) σ.es w->Ba g (·<σ.nx) w N act a->∀room,(∀ρ,g.row n=some ρ->room=ρ.cap*ρ.sz)->(∀p∈y,p.1≠g.blk n)->∃a2 es2,S a2 ⟨σ.nx,es2⟩ ((g.blk n,room,cs)::y)/\
  (∀t c2,a2.get t=some c2->∃c,a.get t=some c/\∀v,Al g (·<σ.nx) w v c->Al g (·<σ.nx) w v c2)/\
  (∀i e2,zg es2 i=some e2->∃e,zg σ.es i=some e/\EM (fun c c2=>∀v,Al g (·<σ.nx) w v c->Al g (·<σ.nx) w v c2) e e2)/\zg es2 n=some .gone):As E N k a σ y S:=by
 intro hk g w act hR hF hY;obtain⟨q1,us,t,q2,q3,q4,q5,q6⟩:=hR.BT n _ hn;have hyb:∀p∈y,p.1≠g.blk n:=fun p hp e=>(hY p hp).2.1 ⟨n,_,hn,iD⟩;have hroom:∀room,(∀a2 es2,(∀t c2,a2.get t=some c2->∃c,a.get t=some c/\∀v,Al g (·<σ.nx) w v c->Al g (·<σ.nx) w v c2)->
  (∀i e2,zg es2 i=some e2->∃e,zg σ.es i=some e/\EM (fun c c2=>∀v,Al g (·<σ.nx) w v c->Al g (·<σ.nx) w v c2) e e2)->zg es2 n=some .gone->
  S a2 ⟨σ.nx,es2⟩ ((g.blk n,room,cs)::y)->room=us.length->∃a2 σ2 y2 g2,S a2 σ2 y2/\k<=σ2.nx/\R E.G g2 (·<σ2.nx) σ2.es w/\Ba g2 (·<σ2.nx) w N act a2/\D3 y2 g2 (Aq g2 σ2.es) w/\Ext (·<k) g (FY g σ.es y) w g2 (FY g2 σ2.es y2) w):=by
  intro room a2 es2 h1 h2 h3 hs hr;obtain⟨room2,_,_,r1,r2,r3,r4⟩:=Wh (k:=k) hn hcs hR hF hY a2 es2 h1 h2 h3;have:room2=us.length:=by
   obtain⟨_,_,us2,t2,p1,p2,_⟩:=r3 _ cG
   grind
  subst hr;rw[this] at r3 r4;exact⟨a2,_,_,g,hs,hk,r1,r2,r3,r4⟩
 obtain⟨a2,es2,hs,h1,h2,h3⟩:=hS g w act hR hF us.length q6 hyb
 grind
theorem As.CC{n len0 sz:Nat}{cs:List V}(hn:zg σ.es n=some (.var cs))(hcs:∀c∈cs,V.free c)
 (wit:(∃t,a.get t=some (.arr n len0 sz))\/∃(m:Nat) (csm:List V) (j:Nat),zg σ.es m=some (.var csm)/\csm[j]? =some (V.arr n len0 sz)) (a2:Nat->Nat->AF) (es2:Nat->Nat->Es)
 (hf:∀b cap t c2,(a2 b cap).get t=some c2->∃c,a.get t=some c/\SH n b cap sz c c2)
 (he:∀b cap i e2,zg (es2 b cap) i=some e2->∃e,zg σ.es i=some e/\EM (SH n b cap sz) e e2) (hg:∀b cap,zg (es2 b cap) n=some .gone):
 As E N k a σ y (fun a3 σ3 y3=>∃b cap,len0<=cap/\(∀p∈y,p.1≠b)/\a3=a2 b cap/\σ3=⟨σ.nx,es2 b cap⟩/\y3=(b,cap*sz,cs)::y):=by
 refine As.IG hn hcs fun g w act hR hF room hroom hyb=> ?_;have hw:∃v,Al g (·<σ.nx) w v (.arr n len0 sz):=by
  rcases wit with⟨t,ht⟩|⟨m,csm,j,h1,h2⟩
  .obtain ⟨v,_,h⟩:=hF.vals t _ ht;grind
  .obtain ⟨_,us,t,_,q3,_,q5,_⟩:=hR.BT m _ h1;have hlt:j<us.length:=ei
   exact⟨us[j],q5 j _ _ (ZD hlt) h2⟩
 obtain⟨cap,hcap,hrow⟩:∃cap,len0<=cap/\g.row n=some ⟨g.blk n,0,cap,sz,0⟩:=by
  obtain⟨v,h⟩:=hw;cases h with
  |data h=>cases h
  |arr _ _ _ cap _ hc hr=>grind
 have hr:=hroom _ hrow;simp only at hr;subst hr;have key:∀c c2,SH n (g.blk n) cap sz c c2->∀v,Al g (·<σ.nx) w v c->Al g (·<σ.nx) w v c2:=by
  rintro c c2 (rfl|⟨off,rfl,rfl⟩|⟨len,rfl,rfl⟩) v h
  .exact h
  .cases h with
   |data h=>cases h
   |ptr _ _ _=>exact .raw _
  .cases h with
   |data h=>cases h
   |arr _ _ _ cap' _ _ hr=>
    rw[hrow] at hr;simp only[ZI,EL.mk.injEq,true_and,and_true] at hr;subst hr;exact .raw _
 refine⟨a2 (g.blk n) cap,es2 (g.blk n) cap,⟨_,cap,hcap,hyb,rfl,rfl,rfl⟩,fun t c2 hc=> ?_,fun i e2 hi=> ?_,hg _ _⟩
 .grind
 .obtain ⟨e,h1,h2⟩:=he _ _ i e2 hi;refine⟨e,h1,?_⟩;cases e2 with
  |gone=>cases e<;>trivial
  |var cs2=>cases e<;>first|exact⟨h2.1,fun i c c2 h3 h4=>key _ _ (h2.2 i c c2 h3 h4)⟩|exact h2
  |map c ks xs=>cases e<;>exact h2
  |row=>cases e<;>exact h2
theorem BW.after{c:Code}(h:BW E N k c a σ y (fun e a σ y=>As E N k a σ y (Q e))):BW E N k c a σ y Q:=by
 constructor;intro hk g w act hR hF hY;refine wp_mono (h.run hk g w act hR hF hY) ?_;rintro e act1 w1 ⟨g1,a1,σ1,y1,hq,hk1,hR1,hF1,hY1,hx⟩;obtain⟨a2,σ2,y2,g2,hs,hk2,hR2,hF2,hY2,hx2⟩:=hq hk1 g1 w1 act1 hR1 hF1 hY1;exact⟨g2,a2,σ2,y2,hs,hk2,hR2,hF2,hY2,hx.trans hx2⟩
theorem BW.taken{c:Code}{b cap sz:Nat}{cs:List V}{y1:Ys}(hy:y.Perm ((b,cap*sz,cs)::y1))(hnd:(y.map Prod.fst).Nodup)(a2:AF)(es2:Es)
 (hf:∀t c2,a2.get t=some c2->∃c,a.get t=some c/\K4 b σ.nx cap sz c c2)
 (he:∀n e2,zg es2 n=some e2->(n=σ.nx/\e2= .var cs)\/∃e,zg σ.es n=some e/\EM (K4 b σ.nx cap sz) e e2)
 (h:BW E N (σ.nx+1) c a2 ⟨σ.nx+1,es2⟩ y1 (fun e a' σ' y'=>∃cs' a3 es3,zg σ'.es σ.nx=some (.var cs')/\(∀c∈cs',V.free c)/\
  (∀t c2,a3.get t=some c2->∃c,a'.get t=some c/\(c2=c\/∃off,c= .ptr σ.nx off/\c2= .rp b off))/\
  (∀i e2,zg es3 i=some e2->∃e,zg σ'.es i=some e/\EM (fun c c2=>c2=c\/∃off,c= .ptr σ.nx off/\c2= .rp b off) e e2)/\zg es3 σ.nx=some .gone/\
  ((∀p∈y',p.1≠b)->Q e a3 ⟨σ'.nx,es3⟩ ((b,cap*sz,cs')::y')))):BW E N k c a σ y Q:=by
 constructor;intro hk g w act hR hF hY;obtain⟨g2,hb,hr,hR2,hF2,hY2,hx2⟩:=Wp (k:=k) hy hnd a2 es2 hf he hk g w act hR hF hY;refine wp_mono (h.run (ZB _) g2 w act hR2 hF2 hY2) ?_;rintro e act1 w1 ⟨g3,a1,σ1,y3,⟨cs',a3,es3,h1,h2,h3,h4,h5,h6⟩,hk1,hR1,hF1,hY1,hx3⟩;have hb3:g3.blk σ.nx=b:=(hx3.blk σ.nx (cU _)).trans hb;have hr3:g3.row σ.nx=some ⟨b,0,cap,sz,0⟩:=(hx3.row σ.nx (cU _)).trans hr;have key:∀c c2,(c2=c\/∃off,c= .ptr σ.nx off/\c2= .rp b off)->∀v,Al g3 (·<σ1.nx) w1 v c->Al g3 (·<σ1.nx) w1 v c2:=by
  rintro c c2 (rfl|⟨off,rfl,rfl⟩) v h
  .exact h
  .cases h with
   |data h=>cases h
   |ptr _ _ _=>rw[hb3];exact .raw _
 obtain⟨room,hroom,hne,r1,r2,r3,r4⟩:=Wh (k:=k) h1 h2 hR1 hF1 hY1 a3 es3 (fun t c2 hc=>by
  grind) (fun i e2 hi=>by
  obtain⟨e,p1,p2⟩:=h4 i e2 hi;refine⟨e,p1,?_⟩;cases e2 with
  |gone=>cases e<;>trivial
  |var cs2=>cases e<;>first|exact⟨p2.1,fun i c c2 q1 q2=>key _ _ (p2.2 i c c2 q1 q2)⟩|exact p2
  |map c ks xs=>cases e<;>exact p2
  |row=>cases e<;>exact p2) h5
 have hrm:=hroom _ hr3;simp only at hrm;subst hrm;rw[hb3] at hne r3 r4;exact⟨g3,a3,⟨σ1.nx,es3⟩,_,h6 hne,ei,r1,r2,r3,hx2.trans ((hx3.mono fun n (hn:n<k)=>(show n<σ.nx+1 by omega)).trans r4)⟩
def LJ(y:Ys)(u:Value)(l:SL V):Prop:=∀g w,(∀p∈y,p.2.2.length<=g.m p.1/\∃(vs:List Value) (t:TypeId),w.heap[p.1]? =some (.cells vs.toArray t (0,0))/\p.2.2.length<=vs.length/\
 ∀(i:Nat) v c,vs[i]? =some v->p.2.2[i]? =some c->Al g (fun _=>False) w v c)->A4 g.m w u (.slice .any l)
theorem As.B1(hnd:(y.map Prod.fst).Nodup)(a2:AF)(es2:Es)
 (hf:∀t c2,a2.get t=some c2->∃c,a.get t=some c/\(c2=c\/∃u l,c= .raw u/\c2= .slice .any l/\LJ y u l))
 (he:∀i e2,zg es2 i=some e2->∃e,zg σ.es i=some e/\EM (fun c c2=>c2=c\/∃u l,c= .raw u/\c2= .slice .any l/\LJ y u l) e e2):
 As E N k a σ y (fun a3 σ3 y3=>a3=a2/\σ3=⟨σ.nx,es2⟩/\y3=[]):=by
 intro hk g w act hR hF hY
 let g2:Gh:={g with m:=fun b=>match y.find? (fun p=>p.1==b) with|some p=>p.2.2.length|none=>g.m b}
 have hnk:∀b,¬Keys y b->g2.m b=g.m b:=fun b hb=>by
  show(match y.find? (fun p=>p.1==b) with|some p=>p.2.2.length|none=>g.m b)=g.m b;rw[List.find?_eq_none.2 (fun p hp=>by
   have:¬p.1=b:=fun e=>hb ⟨p,hp,e⟩
   grind)]
 have hky:∀p∈y,g2.m p.1=p.2.2.length:=by
  intro p hp;show(match y.find? (fun q=>q.1==p.1) with|some q=>q.2.2.length|none=>g.m p.1)=_;cases hfd:y.find? (fun q=>q.1==p.1) with
  |none=>
   grind
  |some q=>
   have h1:=dc hfd;have h2:q.1=p.1:=ei
   have:q=p:=Vo hnd p hp q h1 h2
   grind
 have hfk:∀b,Aq g σ.es b->¬Keys y b:=by rintro b hb ⟨p,hp,rfl⟩;exact(hY p hp).2.1 hb
 have hlt:∀p∈y,p.1<w.heap.size:=fun p hp=>by
  obtain⟨_,_,_,_,h,_⟩:=hY p hp
  grind
 have hm:∀b,g.m b<=g2.m b:=fun b=>by
  by_cases hb:Keys y b
  .obtain ⟨p,hp,rfl⟩:=hb;rw[(hY p hp).1];omega
  grind
 have hyd:∀p∈y,p.2.2.length<=g2.m p.1/\∃(vs:List Value) (t:TypeId),w.heap[p.1]? =some (.cells vs.toArray t (0,0))/\p.2.2.length<=vs.length/\
  ∀(i:Nat) v c,vs[i]? =some v->p.2.2[i]? =some c->Al g2 (fun _=>False) w v c:=by
  intro p hp;obtain⟨_,_,us,t,h3,h4,h5,h6,h7⟩:=hY p hp;exact⟨ei,us,t,h3,dY,fun i v c hv hc=>(h7 i v c hv hc).mono hm (fun _ _ _=>rfl) (fun _ h=>h) (fun _ _=>rfl) (fun _ _=>rfl)⟩
 have hv:∀v c c2,(c2=c\/∃u l,c= .raw u/\c2= .slice .any l/\LJ y u l)->Al g (·<σ.nx) w v c->Al g2 (·<σ.nx) w v c2:=by
  rintro v c c2 (rfl|⟨u,l,rfl,rfl,hz⟩) h
  .exact h.mono hm (fun _ _ _=>rfl) (fun _ h=>h) (fun _ _=>rfl) (fun _ _=>rfl)
  .rw[h.B9];exact .data (hz g2 w hyd)
 have hfootin:∀x,Aq g2 es2 x->Aq g σ.es x:=by
  rintro x ⟨i,e2,p1,p2⟩;obtain⟨e,p3,p4⟩:=he i e2 p1;exact⟨i,e,p3,p4.AB (D:=(·<σ.nx)) (n:=i) (hR.lt _ _ p3) (g:=g) (g2:=g2) (fun _ _=>rfl) (fun _ _=>rfl) p2⟩
 refine⟨a2,_,[],g2,⟨rfl,rfl,rfl⟩,hk,?_,⟨hF.size,hF.defers,fun t c2 hc=> ?_⟩,.nil,?_⟩
 .refine hR.conv (fun _ h=>h) hm (fun _ _=>rfl) (fun _ _=>rfl) (fun b hb=>hnk b (hfk b hb)) (fun b hb=> ?_) _ hv σ.nx fun i e2 hi=> .inr (he i e2 hi);rw[hnk b (by rintro⟨p,hp,rfl⟩;grind)];exact hR.fresh b hb
 .obtain ⟨c,p1,p2⟩:=hf t c2 hc;obtain⟨v,p3,p4⟩:=hF.vals t c p1
  grind
 .refine ⟨rfl,rfl,rfl,ZB _,fun _ _ _=>rfl,hm,fun _ _=>rfl,fun _ _=>rfl,fun b hb hnf=>⟨rfl,hnk b fun h=>hnf (.inr h)⟩,fun x hx=> .inl ?_⟩;rw[FY.nil] at hx;exact .inl (hfootin x hx)
end
end Go.Ab
namespace Go.Ab
open Go
set_option linter.all false
section
variable {E:Env} {N:Nat} {o:Oper} {a:AF}
theorem OS.II{t te:TypeId}{s x:Operand}{i ie:TI}{co:Option EC}{sz bytes n r len q len2:Nat}{cs cs2:List V}(ho:o.op= .call {callee:= .builtin .append,args:= #[s,x],argTypes:= #[t,t]})
 (ht:E.ti t=some i) (hd:i.desc= .slc co sz bytes) (hte:E.P.underlying t=some (.slice te)) (hti:E.ti te=some ie) (hs:ev E t a s=some (.arr r len sz)) (hx:ev E t a x=some (.arr q len2 sz)) (hpos:0<len2) (hcl:cs.length=len*sz)
 (hcl2:cs2.length=len2*sz) (hb:(len+len2)*bytes<=140737488355328) (hb2:len+len2<=9223372036854775807):
 OS E N o a [(r,.var cs),(q,.var cs2)] (.arr n (len+len2) sz) [n] [(n,.var (cs++cs2)),(r,.gone)]:=
 .of_run fun g D es w act hR hp hn hF=>by
  obtain⟨e,inf,z,h1,h2,h3,h4,h5,h6,h7,h8⟩:=IJ ht hd;obtain rfl:e=te:=ei
  obtain⟨inf2,hi1,hi2,z2,hi3,hi4⟩:=Jf hti;have hz1:∀v∈z.cells.toList,v.oneCell'=true:=by
   exact lp
  have hn':¬D n:=hn n dZ;have hr:=hp (r,.var cs) dZ;have hq:=hp (q,.var cs2) dZ;have hvs:=z6 hs hR hF;have hvx:=z6 hx hR hF;have hDD:∀i,(D i\/i=n)->(D i\/i∈[n]):=fun i h=>h.imp id (fun h=>by simp[h]);have hrun:∀v w',(Builtin.append_ #[t,t] o.type #[act.eval s,act.eval x]).run E.P w= .ok v w'->(execOp act.eval o).run E.P w= .ok (.value v) w':=fun v w' h=>by
   exact m9
  generalize hxv:act.eval x=xv at hvx hrun;cases hvx with
  |data h=>cases h
  |arr _ _ _ cap2 hDq hcap2 hrow2=>
  obtain⟨_,us,te2,k10,k11,k12,k13,k14⟩:=hR.BT q _ hq;have hlen2:=k14 _ hrow2;simp only at hlen2;have hus:len2*sz<=us.length:=dY
  obtain⟨news,hnews0⟩:∃news,news=us.take (len2*sz):=⟨_,rfl⟩;have hnews:news.length=len2*sz:=ei
  have hn1:∀v∈news,v.oneCell'=true:=fun v hv=>ei
  have hnf:∀W:World,W.heap=w.heap->(Builtin.firstCells inf.size len2 (.slice (some ⟨g.blk q,0,none⟩) len2 cap2)).run E.P W= .ok news.toArray W:=fun W hW=>by
   exact kY
  have hnv:∀(p:Nat) u d,news[p]? =some u->cs2[p]? =some d->Al g D w u d:=fun p u d hu hd=>by
   grind
  generalize hv:act.eval s=v at hvs hrun;cases hvs with
  |data h=>cases h
  |arr _ _ _ cap hDr hcap hrow=>
   obtain⟨h9,vs,te,h10,h11,h12,h13,h14⟩:=hR.BT r _ hr;have hlen:=h14 _ hrow;simp only at hlen;by_cases hroom:len+len2<=cap
   .have hfit:len*sz+news.length<=vs.length:=by rw[hnews,<-aM,hlen];exact aL _ hroom
    obtain⟨hR1,hx1⟩:=hR.store hr h10 (vs':=vs.take (len*sz)++news++vs.drop (len*sz+news.length)) (cs':=cs++cs2)
     ei ei
     (fun u hu=>by
      grind)
     (fun j u d hu hd=>by
      grind)
    obtain⟨hR2,hx2⟩:=hR1.J3 (n:=n) hn' (r:=r) (cs:=cs++cs2) jc;rw[hrow] at hR2 hx2;have he:∀i,zg ((n,A7.var (cs++cs2))::(r,.gone)::es) i=zg ((n,A7.var (cs++cs2))::(r,.gone)::(r,.var (cs++cs2))::es) i:=fun i=>by
     simp only[zm]
     grind
    refine⟨_,.slice (some ⟨g.blk r,0,none⟩) (len+len2) cap,_,hrun _ _ ?_,(hR2.congr he).more hDD,?_,?_⟩
    .have:=V4 (P:=E.P) (w:=w) (ty:=o.type) h1 h2 h10 (sLen:=len) (sCap:=cap) (xb:=some ⟨g.blk q,0,none⟩) (n:=len2) (xc:=cap2) (news:=news) ei hn1 (hnf w rfl) hroom ei
     grind
    .exact PW D g n (g.blk r) _ hroom
    .have h15:=hx1.trans hx2;have hf:Aq (g.AK n (g.blk r) (some ⟨g.blk r,0,cap,sz,0⟩)) ([(n,.var (cs++cs2)),(r,.gone)]++es)=Aq (g.AK n (g.blk r) (some ⟨g.blk r,0,cap,sz,0⟩)) ((n,A7.var (cs++cs2))::(r,.gone)::(r,.var (cs++cs2))::es):=Aq.congr he
     grind
   .obtain ⟨hRg,hxg⟩:=hR.gone hr;have hge:=grownCap_ge w (len+len2) cap e;obtain⟨olds,holds⟩:∃olds,olds=vs.take (len*sz):=⟨_,rfl⟩;have hol:olds.length=len*sz:=ei
    obtain⟨hR',hx'⟩:=hRg.drew.Hx hn' (some ⟨w.heap.size,0,grownCap w (len+len2) cap e,sz,0⟩) (vs:=olds++news++(Builtin.zeroCells z.cells (grownCap w (len+len2) cap e-(len+len2))).toList) (cs:=cs++cs2) e
     ei
     (fun v hv=>by
      rcases ZU.1 hv with hv|hv
      .grind
      .exact Px hz1 _ v hv)
     (fun q v d hv hd=>by
      by_cases hq:q<len*sz
      .exact lK
      .rw[aj dY,hcl] at hd;have hq2:=(ZT.1 hd).1;rw[ZE,aj dY,hol,ai dY] at hv;exact(hnv _ v d hv hd).mono (fun _=>ZB _) (fun _ _ _=>rfl) (fun _ h=>h) (fun _ _=>rfl) (fun _ _=>rfl))
     (fun r hr=>by
      cases hr;simp only[ZR,bY,size_zeroCells,hnews,hol,h6];rw[<-aM,<-aM]
      grind)
    refine⟨_,.slice (some ⟨w.heap.size,0,none⟩) (len+len2) (grownCap w (len+len2) cap e),_,hrun _ _ ?_,hR'.more hDD,?_,(hxg.trans Ext.drew).trans hx'⟩
    .have hof:∀W:World,W.heap=w.heap->(Builtin.firstCells inf.size len (.slice (some ⟨g.blk r,0,none⟩) len cap)).run E.P W= .ok olds.toArray W:=fun W hW=>by
      exact ld
     exact vp (P:=E.P) (w:=w) (ty:=o.type) h1 h2 h5 (base:=some ⟨g.blk r,0,none⟩) (sLen:=len) (sCap:=cap) (xb:=some ⟨g.blk q,0,none⟩) (n:=len2) (xc:=cap2) (olds:=olds) (news:=news)
      hof (fun W hW=>hnf W hW) dY ei dY
    .exact PW D g n _ _ hge
theorem OS.Ij{t te:TypeId}{s x:Operand}{i ie:TI}{co:Option EC}{sz bytes n q len2:Nat}{l0:SL V}{cs2:List V}(ho:o.op= .call {callee:= .builtin .append,args:= #[s,x],argTypes:= #[t,t]})
 (ht:E.ti t=some i) (hd:i.desc= .slc co sz bytes) (hte:E.P.underlying t=some (.slice te)) (hti:E.ti te=some ie) (hs:ev E t a s=some (.slice .nil l0)) (hx:ev E t a x=some (.arr q len2 sz)) (hpos:0<len2)
 (hcl2:cs2.length=len2*sz) (hb:len2*bytes<=140737488355328) (hb2:len2<=9223372036854775807):
 OS E N o a [(q,.var cs2)] (.arr n len2 sz) [n] [(n,.var cs2)]:=
 .of_run fun g D es w act hR hp hn hF=>by
  obtain⟨e,inf,z,h1,h2,h3,h4,h5,h6,h7,h8⟩:=IJ ht hd;obtain rfl:e=te:=ei
  obtain⟨inf2,hi1,hi2,z2,hi3,hi4⟩:=Jf hti;have hz1:∀v∈z.cells.toList,v.oneCell'=true:=by
   exact lp
  have hn':¬D n:=hn n dZ;have hq:=hp (q,.var cs2) dZ;have hvs:=z6 hs hR hF;have hvx:=z6 hx hR hF;have hsv:act.eval s= .slice none 0 0:=by
   exact mT
  generalize hxv:act.eval x=xv at hvx;cases hvx with
  |data h=>cases h
  |arr _ _ _ cap2 hDq hcap2 hrow2=>
  obtain⟨_,us,te2,k10,k11,k12,k13,k14⟩:=hR.BT q _ hq;have hlen2:=k14 _ hrow2;simp only at hlen2;have hus:len2*sz<=us.length:=dY
  obtain⟨news,hnews0⟩:∃news,news=us.take (len2*sz):=⟨_,rfl⟩;have hnews:news.length=len2*sz:=ei
  have hn1:∀v∈news,v.oneCell'=true:=fun v hv=>ei
  have hnf:∀W:World,W.heap=w.heap->(Builtin.firstCells inf.size len2 (.slice (some ⟨g.blk q,0,none⟩) len2 cap2)).run E.P W= .ok news.toArray W:=fun W hW=>by
   exact kY
  have hnv:∀(p:Nat) u d,news[p]? =some u->cs2[p]? =some d->Al g D w u d:=fun p u d hu hd=>by
   grind
  have hrun:=vp (P:=E.P) (w:=w) (ty:=o.type) h1 h2 h5 (base:=none) (sLen:=0) (sCap:=0) (xb:=some ⟨g.blk q,0,none⟩) (n:=len2) (xc:=cap2) (olds:=[]) (news:=news) (fun W _=>eC)
   (fun W hW=>hnf W hW) dY ei dY
  have hge:=grownCap_ge w (0+len2) 0 e;obtain⟨hR',hx'⟩:=hR.drew.Hx hn' (some ⟨w.heap.size,0,grownCap w (0+len2) 0 e,sz,0⟩) (vs:=[]++news++(Builtin.zeroCells z.cells (grownCap w (0+len2) 0 e-(0+len2))).toList) (cs:=cs2) e
   ei
   (fun v hv=>by
    rw[Z3] at hv;rcases ZU.1 hv with hv|hv
    .grind
    .exact Px hz1 _ v hv)
   (fun p v d hv hd=>by
    have hq:=(ZT.1 hd).1;rw[Z3,ai dY] at hv;exact(hnv p v d hv hd).mono (fun _=>ZB _) (fun _ _ _=>rfl) (fun _ h=>h) (fun _ _=>rfl) (fun _ _=>rfl))
   (fun r hr=>by
    cases hr;simp only[ZR,Z3,bY,size_zeroCells,hnews,h6];rw[<-aM]
    grind)
  refine⟨_,.slice (some ⟨w.heap.size,0,none⟩) (0+len2) (grownCap w (0+len2) 0 e),_,?_,hR'.more (fun i hi=>ei),?_,Ext.drew.trans hx'⟩
  .simp only[Z3] at hrun;simp[execOp,ho,resolve,invoke,builtin,hsv,hxv,hrun]
  .have h9:=Pp D g n (w.drew.alloc (.cells ([]++news++(Builtin.zeroCells z.cells (grownCap w (0+len2) 0 e-(0+len2))).toList).toArray e)) (b:=w.drew.heap.size) (len:=len2) (cap:=grownCap w (0+len2) 0 e) (sz:=sz) dY;simp_all
end
section
variable {E:Env} {N k:Nat} {a:AF} {σ:Aj} {Q:Exit->AF->Aj->Prop} {ops:List Oper} {dr:Bool} {rest:List Oper} {acc:List Rec}
variable {d:Option Tmp} {ty:TypeId} {ps:String} {af:Array Edge} {gd:Option (Nat×Bool)}
namespace L
theorem yR{t te:TypeId}{s x:Operand}{z:Nat}{zr:List V}{ie:TI}{co:Option EC}{sz bytes r len q len2:Nat}{cs cs2:List V}(hw:zy ops a gd=some true)(hs:ev E t a s=some (.arr r len sz))(hx:ev E t a x=some (.arr q len2 sz))(ht:E.ti t=some ⟨z,zr,.slc co sz bytes⟩)
 (hte:E.P.underlying t=some (.slice te)) (hti:E.ti te=some ie) (hn:zg σ.es r=some (.var cs)) (hn2:zg σ.es q=some (.var cs2)) (hcl:cs.length=len*sz) (hcl2:cs2.length=len2*sz) (hd:zw N d=true) (hby:Nat.ble bytes 128=true) (hpos:0<len2) (hb:len+len2<=1099511627776)
 (h2:AX E N k dr ops rest (a.put d (.arr σ.nx (len+len2) sz)) (σ.Aw 1 [(σ.nx,.var (cs++cs2)),(r,.gone)]) (⟨[(r,.var cs),(q,.var cs2)],.arr σ.nx (len+len2) sz,1,[(σ.nx,.var (cs++cs2)),(r,.gone)]⟩::acc) Q):
 AX E N k dr ops (⟨d,.call ⟨.builtin .append,#[s,x],#[t,t]⟩,ty,ps,af,gd⟩::rest) a σ acc Q:=
 AX.run 1 hw (OS.II rfl ht rfl hte hti (fr eA hs) (fr eA hx) hpos hcl hcl2
  (by
   have h3:bytes<=128:=ZP hby;have h4:(len+len2)*bytes<=1099511627776*128:=bh hb h3;omega) dY) ⟨hn,hn2,trivial⟩ hd h2
theorem yN{t te:TypeId}{s x:Operand}{z:Nat}{zr:List V}{ie:TI}{co:Option EC}{sz bytes q len2:Nat}{l0:SL V}{cs2:List V}(hw:zy ops a gd=some true)(hs:ev E t a s=some (.slice .nil l0))(hx:ev E t a x=some (.arr q len2 sz))(ht:E.ti t=some ⟨z,zr,.slc co sz bytes⟩)
 (hte:E.P.underlying t=some (.slice te)) (hti:E.ti te=some ie) (hn2:zg σ.es q=some (.var cs2)) (hcl2:cs2.length=len2*sz) (hd:zw N d=true) (hby:Nat.ble bytes 128=true) (hpos:0<len2) (hb:len2<=1099511627776)
 (h2:AX E N k dr ops rest (a.put d (.arr σ.nx len2 sz)) (σ.Aw 1 [(σ.nx,.var cs2)]) (⟨[(q,.var cs2)],.arr σ.nx len2 sz,1,[(σ.nx,.var cs2)]⟩::acc) Q):
 AX E N k dr ops (⟨d,.call ⟨.builtin .append,#[s,x],#[t,t]⟩,ty,ps,af,gd⟩::rest) a σ acc Q:=
 AX.run 1 hw (OS.Ij rfl ht rfl hte hti (fr eA hs) (fr eA hx) hpos hcl2
  (by
   have h3:bytes<=128:=ZP hby;have h4:len2*bytes<=1099511627776*128:=bh hb h3;omega) dY) ⟨hn2,trivial⟩ hd h2
end L
end
inductive Yn where
 |dat (c:V)
 |row (c:EC) (n:Nat) (cells:List Yn)
mutual
inductive YM (s:Prop):Yn->V->Ys->Prop
 |dat (c:V) (h:V.FC c=true):YM s (.dat c) c []
 |nil (c:EC):YM s (.row c 0 []) (.raw (.slice none 0 0)) []
 |row (c:EC) (n:Nat) (cells:List Yn) (b room cap:Nat) (cs:List V) (y:Ys) (hroom:s->room=cap*c.cells) (hcap:n<=cap) (hn:0<n) (hl:cells.length=n*c.cells) (h:Bn s cells cs y):
  YM s (.row c n cells) (.rs b n cap) ((b,room,cs)::y)
inductive Bn (s:Prop):List Yn->List V->Ys->Prop
 |nil:Bn s [] [] []
 |cons {x:Yn} {v:V} {y:Ys} {l:List Yn} {vs:List V} {y2:Ys} (h:YM s x v y) (h2:Bn s l vs y2):Bn s (x::l) (v::vs) (y++y2)
end
mutual
inductive Er:Yn->V->Prop
 |dat (c:V) (h:V.FC c=true):Er (.dat c) c
 |row (c:EC) (n:Nat) (cells:List Yn) (xs:List c.sem) (hl:xs.length=n) (h:DP cells (xs.flatMap c.view)):Er (.row c n cells) (.slice .any (.t c xs))
inductive DP:List Yn->List V->Prop
 |nil:DP [] []
 |cons {x:Yn} {v:V} {l:List Yn} {vs:List V} (h:Er x v) (h2:DP l vs):DP (x::l) (v::vs)
end
theorem Bn.len{s:Prop}:∀{l:List Yn} {cs:List V} {y:Ys},Bn s l cs y->cs.length=l.length
 |[],_,_,h=>by cases h;rfl
 |x::l,_,_,h=>by cases h with|cons h h2=>simp[h2.len]
theorem DP.len:∀{l:List Yn} {cs:List V},DP l cs->cs.length=l.length
 |[],_,h=>by cases h;rfl
 |x::l,_,h=>by cases h with|cons h h2=>simp[h2.len]
theorem Bn.app{s:Prop}:∀{l:List Yn} {cs:List V} {y:Ys} {l2:List Yn} {cs2:List V} {y2:Ys},Bn s l cs y->Bn s l2 cs2 y2->Bn s (l++l2) (cs++cs2) (y++y2)
 |[],_,_,l2,cs2,y2,h,h2=>by cases h;exact h2
 |x::l,_,_,l2,cs2,y2,h,h2=>by
  cases h with
  |cons h h3=>rw[ZE];exact .cons h (h3.app h2)
theorem Bn.split{s:Prop}:∀{l l2:List Yn} {cs:List V} {y:Ys},Bn s (l++l2) cs y->∃cs1 cs2 y1 y2,cs=cs1++cs2/\y=y1++y2/\Bn s l cs1 y1/\Bn s l2 cs2 y2
 |[],l2,cs,y,h=>⟨[],cs,[],y,rfl,rfl,.nil,h⟩
 |x::l,l2,_,_,h=>by
  cases h with
  | @cons _ v y0 _ vs y2 h h3=>
    obtain⟨cs1,cs2,y1,y2,rfl,rfl,h4,h5⟩:=h3.split;exact⟨v::cs1,cs2,y0++y1,y2,rfl,dZ,.cons h h4,h5⟩
theorem DP.app:∀{l:List Yn} {cs:List V} {l2:List Yn} {cs2:List V},DP l cs->DP l2 cs2->DP (l++l2) (cs++cs2)
 |[],_,l2,cs2,h,h2=>by cases h;exact h2
 |x::l,_,l2,cs2,h,h2=>by cases h with|cons h h3=>exact .cons h (h3.app h2)
theorem DP.split:∀{l l2:List Yn} {cs:List V},DP (l++l2) cs->∃cs1 cs2,cs=cs1++cs2/\DP l cs1/\DP l2 cs2
 |[],l2,cs,h=>⟨[],cs,rfl,.nil,h⟩
 |x::l,l2,_,h=>by
  cases h with
  |cons h h3=>
   obtain⟨cs1,cs2,rfl,h4,h5⟩:=h3.split;exact⟨_::cs1,cs2,rfl,.cons h h4,h5⟩
mutual
theorem YM.weak{s s':Prop}(hs:s'->s):∀{x:Yn} {v:V} {y:Ys},YM s x v y->YM s' x v y
 |_,_,_,.dat c h=> .dat c h
 |_,_,_,.nil c=> .nil c
 |_,_,_,.row c n cells b room cap cs y hroom hcap hn hl h=> .row c n cells b room cap cs y (fun h=>hroom (hs h)) hcap hn hl (h.weak hs)
theorem Bn.weak{s s':Prop}(hs:s'->s):∀{l:List Yn} {cs:List V} {y:Ys},Bn s l cs y->Bn s' l cs y
 |_,_,_,.nil=> .nil
 |_,_,_,.cons h h2=> .cons (h.weak hs) (h2.weak hs)
end
theorem V.Jz{c:V}(h:V.FC c=true)(ρ:List (Option Nat)):ww ρ c=some c:=by
 cases c with
 |slice sp l=>cases sp<;>first|rfl|cases h
 |_=>first|rfl|cases h
theorem V.Iz{c:V}(h:V.FC c=true):V.free c:=fun g D w v hv=> .data (hv.FC h)
theorem YM.Hz{s:Prop}{x:Yn}{v:V}{y:Ys}(h:YM s x v y)(ρ:List (Option Nat)):ww ρ v=some v/\V.free v:=by
 cases h with
 |dat _ h=>exact⟨V.Jz h ρ,V.Iz h⟩
 |nil=>exact⟨rfl,V.FF _⟩
 |row=>exact⟨rfl,V.FF _⟩
theorem Bn.Hz{s:Prop}:∀{l:List Yn} {cs:List V} {y:Ys},Bn s l cs y->∀ρ:List (Option Nat),xu ρ cs=some cs
 |_,_,_,.nil,ρ=>rfl
 |_,_,_,.cons h h2,ρ=>by simp[xu,(h.Hz ρ).1,h2.Hz ρ]
theorem Bn.free{s:Prop}:∀{l:List Yn} {cs:List V} {y:Ys},Bn s l cs y->∀c∈cs,V.free c
 |_,_,_,.nil,c,hc=>by cases hc
 |_,_,_,.cons h h2,c,hc=>by
  rcases Z4.1 hc with rfl|hc
  .exact (h.Hz []).2
  .exact h2.free c hc
def YD(y:Ys)(g:Gh)(w:World):Prop:=∀p∈y,p.2.2.length<=g.m p.1/\∃(vs:List Value) (t:TypeId),w.heap[p.1]? =some (.cells vs.toArray t (0,0))/\p.2.2.length<=vs.length/\
 ∀(i:Nat) v c,vs[i]? =some v->p.2.2[i]? =some c->Al g (fun _=>False) w v c
mutual
theorem YM.data{s:Prop}{g:Gh}{w:World}:∀{x:Yn} {v:V} {y:Ys},YM s x v y->∀{c:V},Er x c->YD y g w->∀{u:Value},Al g (fun _=>False) w u v->A4 g.m w u c
 |_,_,_,.dat c _,_,he,_,u,hu=>by cases he with|dat _ h=>exact hu.FC h
 |_,_,_,.nil c,_,he,_,u,hu=>by
  cases he with
  |row _ _ _ xs hl h=>
   rw[hu.B9];exact .nilS _ (by simpa[SL.len] using hl)
 |_,_,_,.row c n cells b room cap cs y _ hcap hn hlc h,_,he,hy,u,hu=>by
  cases he with
  |row _ _ _ xs hxl hx=>
   rw[hu.B9];obtain⟨hm,vs,t,hh,hvl,hv⟩:=hy (b,room,cs) dZ;simp only at hm hh hvl hv;have hcl:=h.len;have key:=h.data hx (fun p hp=>hy p ei) (vs:=vs.take cs.length) ei (fun i v c hi hc=>by
    grind)
   subst hxl;have hfl:=wv c xs;refine .slice (.t c xs) b 0 cap (fun i j=>vs.getD (i*c.cells+j) undef) (by show 0+xs.length*c.cells<=g.m b;omega) hcap (fun i hi=> ?_) (fun i j hi hj=> ?_) (fun i j ds d hi hds hd=> ?_)
   .exact ⟨c.view xs[i],by show(xs[i]?).map c.view=_;rw[ZD hi];rfl,EC.Bg c _⟩
   .rw[aq,ux hh];have:=NM hi hj;have hlt:i*c.cells+j<vs.length:=by
     have:i*c.cells+j<xs.length*c.cells:=this;omega
    show vs.toArray[i*c.cells+j]? =some (vs.getD (i*c.cells+j) undef)
    grind
   .have hds':(xs[i]?).map c.view=some ds:=hds;rw[ZD hi] at hds';simp only[ak,ZI] at hds';subst hds';have hj:j<c.cells:=by have:=(ZT.1 hd).1;rwa [EC.Bg] at this
    have h1:(xs.flatMap c.view)[i*c.cells+j]? =some d:=by rw[NK c xs i j hj,ZD hi];exact hd
    grind
theorem Bn.data{s:Prop}{g:Gh}{w:World}:∀{l:List Yn} {cs:List V} {y:Ys},Bn s l cs y->∀{ds:List V},DP l ds->YD y g w->∀{vs:List Value},vs.length=cs.length->(∀(i:Nat) v c,vs[i]? =some v->cs[i]? =some c->Al g (fun _=>False) w v c)->
 ∀(i:Nat) v d,vs[i]? =some v->ds[i]? =some d->A4 g.m w v d
 |_,_,_,.nil,_,he,_,vs,hl,hv=>fun i v d hi hd=>ei
 |_,_,_,.cons h h2,_,he,hy,vs,hl,hv=>fun i v d hi hd=>by
  cases he with
  |cons he he2=>
   cases vs with
   |nil=>grind
   |cons u us=>
    cases i with
    |zero=>
     simp at hi hd;subst hi;subst hd;exact h.data he (fun p hp=>hy p ei) (hv 0 _ _ rfl rfl)
    |succ i=>
     exact h2.data he2 (fun p hp=>hy p ei) (vs:=us) ei (fun i v c hi hc=>hv (i+1) v c ei ei) i v d ei ei
end
theorem LJ.of{s:Prop}{x:Yn}{u:Value}{y y2:Ys}{l:SL V}(h:YM s x (.raw u) y)(he:Er x (.slice .any l))(hy:∀p∈y,p∈y2):LJ y2 u l:=
 fun g w hd=>h.data he (fun p hp=>hd p (hy p hp)) (.raw u)
mutual
def Tm.yn:Tm->List Yn| .mk k i t as=>[.dat (.i k),.dat (.i i),.dat (.i t.kind),.dat (.s .ty t.args),.row .tm as.length (Tm.CG as)]
def Tm.CG:List Tm->List Yn|[]=>[]|a::l=>a.yn++Tm.CG l
end
section
variable {E:Env} {N k:Nat} {a:AF} {σ:Aj} {y:Ys} {Q:Exit->AF->Aj->Ys->Prop}
theorem As.Gc{a2:AF}{σ2:Aj}{S:AF->Aj->Ys->Prop}(h:Bc E N k a σ a2 σ2)(hS:S a2 σ2 y):As E N k a σ y S:=by
 intro hk g w act hR hF hY;obtain⟨hk2,hw⟩:=h hk;obtain⟨g2,hR2,hF2,hx⟩:=hw g w act hR hF;exact⟨a2,σ2,y,g2,hS,hk2,hR2,hF2,hY.ext hx,hx.keys y⟩
theorem As.mono{S S':AF->Aj->Ys->Prop}(h:As E N k a σ y S)(hS:∀a σ y,S a σ y->S' a σ y):As E N k a σ y S':=by
 intro hk g w act hR hF hY;obtain⟨a2,σ2,y2,g2,hs,h2⟩:=h hk g w act hR hF hY
 grind
theorem As.keep{S:AF->Aj->Ys->Prop}(hS:S a σ y):As E N k a σ y S:= .Gc .refl hS
theorem BW.G1{c:Code}{a2:AF}{σ2:Aj}(h:Bc E N k a σ a2 σ2)(h2:BW E N k c a2 σ2 y Q):BW E N k c a σ y Q:=
 .weak (S:=fun a3 σ3 y3=>a3=a2/\σ3=σ2/\y3=y) (.Gc h ⟨rfl,rfl,rfl⟩) (by rintro _ _ _ ⟨rfl,rfl,rfl⟩;exact h2)
namespace K
theorem yT{z:Code}(h:BW E N k z a σ y Q):Rx E N k z Q .normal a σ y:=h
theorem yB{id:Nat}(h:Q .normal a σ y):IZ id Q .normal a σ y:=h
end K
def AF.BM(Cv:V->V->Prop)(a:AF):AF->Prop
 |[]=>True
 |p::l=>(∃c,a.get p.1=some c/\Cv c p.2)/\AF.BM Cv a l
theorem AF.BM.get{Cv:V->V->Prop}{a:AF}:∀{a2:AF},AF.BM Cv a a2->∀t c2,a2.get t=some c2->∃c,a.get t=some c/\Cv c c2
 |[],_,t,c2,h=>eE
 |p::l,h,t,c2,hc=>by
  obtain⟨m,e⟩:=p;rw[AF.Bj] at hc;by_cases ht:m=t
  .subst ht;rw[if_pos rfl] at hc;cases hc;exact h.1
  .rw[if_neg ht] at hc;exact AF.BM.get h.2 t c2 hc
def Es.BM(Cv:V->V->Prop)(es:Es):Es->Prop
 |[]=>True
 |p::l=>(∃e,zg es p.1=some e/\EM Cv e p.2)/\Es.BM Cv es l
theorem Es.BM.get{Cv:V->V->Prop}{es:Es}:∀{es2:Es},Es.BM Cv es es2->∀n e2,zg es2 n=some e2->∃e,zg es n=some e/\EM Cv e e2
 |[],_,t,c2,h=>eE
 |p::l,h,t,c2,hc=>by
  obtain⟨m,e⟩:=p;rw[zm] at hc;by_cases ht:m=t
  .subst ht;rw[if_pos rfl] at hc;cases hc;exact h.1
  .rw[if_neg ht] at hc;exact Es.BM.get h.2 t c2 hc
theorem EM.same{Cv:V->V->Prop}(hr:∀c,Cv c c)(e:A7):EM Cv e e:=by
 cases e with
 |var cs=>exact⟨rfl,fun i c c2 h h2=>ei⟩
 |_=>first|trivial|rfl
def C7(Cv:V->V->Prop):List V->List V->Prop
 |[],[]=>True
 |c::cs,c2::cs2=>Cv c c2/\C7 Cv cs cs2
 |_,_=>False
theorem C7.get{Cv:V->V->Prop}:∀{cs cs2:List V},C7 Cv cs cs2->cs2.length=cs.length/\∀(i:Nat) c c2,cs[i]? =some c->cs2[i]? =some c2->Cv c c2
 |[],[],_=>⟨rfl,fun i c c2 h=>dZ⟩
 |c::cs,c2::cs2,h=>by
  obtain⟨h1,h2⟩:=C7.get h.2;refine⟨ei,fun i d d2 q q2=> ?_⟩;cases i with
  |zero=>simp at q q2;subst q;subst q2;exact h.1
  |succ i=>grind
 |[],_::_,h=>h.elim
 |_::_,[],h=>h.elim
theorem EM.var{Cv:V->V->Prop}{cs cs2:List V}(h:C7 Cv cs cs2):EM Cv (.var cs) (.var cs2):=h.get
theorem Ai.DI(l:SL V):Ai (.slice .nil l) (.raw (.slice none 0 0)):=by
 intro g D w v h;cases h with
 |data h=>cases h
 |nilS _ h=>exact .raw _
end
theorem Bn.inv{s:Prop}{x:Yn}{l:List Yn}{cs:List V}{y:Ys}(h:Bn s (x::l) cs y):∃v vs y1 y2,cs=v::vs/\y=y1++y2/\YM s x v y1/\Bn s l vs y2:=by
 cases h<;>grind
theorem Bn.tm{s:Prop}{t:Tm}{vs:List V}{y:Ys}(h:Bn s t.yn vs y):∃sv,vs=[.i t.kind,.i t.index,.i t.ty.kind,.s .ty t.ty.args,.raw sv]/\YM s (.row .tm t.args.length (Tm.CG t.args)) (.raw sv) y:=by
 obtain⟨k,i,ty,as⟩:=t;have h:Bn s [.dat (.i k),.dat (.i i),.dat (.i ty.kind),.dat (.s .ty ty.args),.row .tm as.length (Tm.CG as)] vs y:=by unfold Tm.yn at h;exact h
 show ∃sv,vs=[.i k,.i i,.i ty.kind,.s .ty ty.args,.raw sv]/\YM s (.row .tm as.length (Tm.CG as)) (.raw sv) y;generalize as.length=n at h ⊢;generalize Tm.CG as=cells at h ⊢;obtain⟨_,_,_,_,rfl,rfl,k1,h1⟩:=h.inv;cases k1;obtain⟨_,_,_,_,rfl,rfl,k2,h2⟩:=h1.inv;cases k2;obtain⟨_,_,_,_,rfl,rfl,k3,h3⟩:=h2.inv;cases k3;obtain⟨_,_,_,_,rfl,rfl,k4,h4⟩:=h3.inv;cases k4;obtain⟨_,_,_,_,rfl,rfl,k5,h5⟩:=h4.inv;cases h5;cases k5 with
 |nil c=>exact⟨_,rfl,by simpa using YM.nil .tm⟩
 |row c n cells b room cap cs y hroom hcap hn hl hz=>exact⟨_,rfl,by simpa using YM.row .tm _ _ b room cap cs y hroom hcap hn hl hz⟩
section
variable {E:Env} {N k:Nat} {dr:Bool} {ops rest:List Oper} {a:AF} {σ:Aj} {acc:List Rec} {Q:Exit->AF->Aj->Prop}
variable {d:Option Tmp} {ty:TypeId} {ps:String} {af:Array Edge} {gd:Option (Nat×Bool)}
theorem L.HV{t:TypeId}{vs:Array Value}{z:Nat}{zr:List V}{c:Option EC}{sz bytes:Nat}(cs:List V)(hw:zy ops a gd=some true)(ht:E.ti t=some ⟨z,zr,.slc c sz bytes⟩)
 (hz:J0 vs.toList cs=true) (hsz:Nat.beq cs.length sz=true) (hb:Nat.ble (1*sz) 16777216=true) (hd:zw N d=true)
 (h2:AX E N k dr ops rest (a.put d (.arr σ.nx 1 sz)) (σ.Aw 1 [(σ.nx,.var cs)]) (⟨[],.arr σ.nx 1 sz,1,[(σ.nx,.var cs)]⟩::acc) Q):
 AX E N k dr ops (⟨d,.buildSlice t 1 #[(0,.const (.agg vs))],ty,ps,af,gd⟩::rest) a σ acc Q:=by
 have e:[cs].flatten=cs:=dZ
 obtain⟨h3,h4,h5⟩:=v8 hz;refine AX.run 1 hw (OS.Ni (xs:=[.const (.agg vs)]) (cs:=[.agg cs]) (vcs:=[cs]) rfl rfl ht rfl (fun {g D es w act} _ _=>⟨rfl,fun i v c hv hc=> ?_⟩) rfl ei hb) trivial hd (by rw[e];exact h2);cases i with
 |zero=>
  simp only[ZJ,Z2,bZ,ZI] at hv hc;subst hv;subst hc;exact .agg vs.toList cs h3 h4 (fun i v c=>h5 g D w i v c)
 |succ i=>grind
end
theorem RW{csA csL csB:List V}{off j:Nat}(h:csA.length=off)(hj:j<=csL.length):(csA++csL++csB).drop (off+j)=csL.drop j++csB:=by
 rw[ZE,cS,cK dY,Z3,h,bF,List.drop_append_of_le_length hj]
theorem Ygt{csA csL csB vc:List V}{off j:Nat}(h:csA.length=off)(hj:j+vc.length<=csL.length):
 (csA++csL++csB).take (off+j)++vc++(csA++csL++csB).drop (off+j+vc.length)=csA++(csL.take j++vc++csL.drop (j+vc.length))++csB:=by
 have e1:(csA++csL++csB).take (off+j)=csA++csL.take j:=by
  grind
 rw[e1,Nat.add_assoc,RW h hj];simp
section
variable {E:Env} {N k:Nat} {ops:List Oper} {dr:Bool} {rest:List Oper} {a:AF} {σ:Aj} {acc:List Rec} {Q:Exit->AF->Aj->Prop}
variable {d:Option Tmp} {ty:TypeId} {ps:String} {af:Array Edge} {gd:Option (Nat×Bool)}
namespace L
theorem L4{t:TypeId}{x:Operand}{i:TI}{n off:Nat}(j:Nat){csA csL csB:List V}{c:V}(hw:zy ops a gd=some true)(hx:ev E 0 a x=some (.ptr n (off+j)))(ht:E.ti t=some i)(hn:zg σ.es n=some (.var (csA++csL++csB)))
 (hA:csA.length=off) (hj:Nat.ble j csL.length=true) (hc:G4 i (csL.drop j++csB)=some c) (hd:zw N d=true)
 (h2:AX E N k dr ops rest (a.put d c) σ (⟨[(n,.var (csA++csL++csB))],c,0,[]⟩::acc) Q):AX E N k dr ops (⟨d,.load t x,ty,ps,af,gd⟩::rest) a σ acc Q:=
 L.Ez hw hx ht hn (by rw[RW hA (ZP hj)];exact hc) hd h2
theorem Qd{t:TypeId}{x:Operand}{i:TI}{b off room:Nat}(j:Nat){csA csL csB:List V}{c:V}(hw:zy ops a gd=some true)(hx:ev E 0 a x=some (.rp b (off+j)))(ht:E.ti t=some i)(hm:(b,room,csA++csL++csB)∈E.Y)
 (hA:csA.length=off) (hj:Nat.ble j csL.length=true) (hc:G4 i (csL.drop j++csB)=some c) (hd:zw N d=true)
 (h2:AX E N k dr ops rest (a.put d c) σ (⟨[],c,0,[]⟩::acc) Q):AX E N k dr ops (⟨d,.load t x,ty,ps,af,gd⟩::rest) a σ acc Q:=
 L.yl hw hx ht hm (by rw[RW hA (ZP hj)];exact hc) hd h2
theorem Je{t:TypeId}{x y:Operand}{i:TI}{n off:Nat}(j:Nat){csA csL csB:List V}{c:V}{vc:List V}(hw:zy ops a gd=some true)(hx:ev E 0 a x=some (.ptr n (off+j)))(ht:E.ti t=some i)(hy:ev E t a y=some c)
 (hn:zg σ.es n=some (.var (csA++csL++csB))) (hc:cellsOf c=some vc) (hs:vc.length=i.size) (hA:csA.length=off) (hb:Nat.ble (j+vc.length) csL.length=true) (hd:zw N d=true)
 (h2:AX E N k dr ops rest (a.put d (.AM [])) (σ.Aw 0 [(n,.var (csA++(csL.take j++vc++csL.drop (j+vc.length))++csB))]) (⟨[(n,.var (csA++csL++csB))],.AM [],0,[(n,.var (csA++(csL.take j++vc++csL.drop (j+vc.length))++csB))]⟩::acc) Q):
 AX E N k dr ops (⟨d,.store t x y,ty,ps,af,gd⟩::rest) a σ acc Q:=by
 have hle:=ZP hb;rw[<-Ygt hA hle] at h2;exact L.st hw hx ht hy hn hc hs (bV ei) hd h2
theorem Mc{t:TypeId}{x y:Operand}{i:TI}{n off:Nat}{csA csL:List V}{c:V}{vc:List V}(hw:zy ops a gd=some true)(hx:ev E 0 a x=some (.ptr n off))(ht:E.ti t=some i)(hy:ev E t a y=some c)
 (hn:zg σ.es n=some (.var (csA++csL))) (hc:cellsOf c=some vc) (hs:vc.length=i.size) (hA:csA.length=off) (hb:Nat.beq vc.length csL.length=true) (hd:zw N d=true)
 (h2:AX E N k dr ops rest (a.put d (.AM [])) (σ.Aw 0 [(n,.var (csA++vc))]) (⟨[(n,.var (csA++csL))],.AM [],0,[(n,.var (csA++vc))]⟩::acc) Q):
 AX E N k dr ops (⟨d,.store t x y,ty,ps,af,gd⟩::rest) a σ acc Q:=by
 have hle:=Z9 hb;have e:(csA++csL).take off++vc++(csA++csL).drop (off+vc.length)=csA++vc:=by
  grind
 rw[<-e] at h2;exact L.st hw hx ht hy hn hc hs (bV ei) hd h2
end L
theorem Ai.DV{l:SL V}(h:l.len=0):Ai (.raw (.slice none 0 0)) (.slice .nil l):=by
 intro g D w v hv;rw[hv.B9];exact .nilS l h
theorem C7.refl{Cv:V->V->Prop}(hr:∀c,Cv c c):∀cs:List V,C7 Cv cs cs
 |[]=>trivial
 |c::cs=>⟨hr c,C7.refl hr cs⟩
theorem C7.app{Cv:V->V->Prop}:∀{a a' b b':List V},C7 Cv a a'->C7 Cv b b'->C7 Cv (a++b) (a'++b')
 |[],[],_,_,_,h2=>h2
 |c::a,c'::a',_,_,h,h2=>⟨h.1,C7.app h.2 h2⟩
 |[],_::_,_,_,h,_=>h.elim
 |_::_,[],_,_,h,_=>h.elim
theorem WL{s:Prop}{y2:Ys}:∀{l:List Yn} {cs:List V} {y:Ys},Bn s l cs y->∀{ds:List V},DP l ds->(∀p∈y,p∈y2)->C7 (fun c c2=>c2=c\/∃u l,c= .raw u/\c2= .slice .any l/\LJ y2 u l) cs ds
 |_,_,_,.nil,_,he,_=>by cases he;trivial
 |_,_,_,.cons h h2,_,he,hy=>by
  cases he with
  |cons e1 e2=>
   refine⟨?_,WL h2 e2 fun p hp=>hy p ei⟩;cases h with
   |dat _ hD=>cases e1;simp
   |nil c=>
    cases e1 with
    |row _ _ _ xs hl hx=>exact .inr ⟨_,_,rfl,rfl,.of (s:=s) (.nil c) (.row c 0 [] xs hl hx) (fun p hp=>by cases hp)⟩
   |row c n cells b room cap cs y hroom hcap hn hl hz=>
    cases e1 with
    |row _ _ _ xs hxl hx=>exact .inr ⟨_,_,rfl,rfl,.of (s:=s) (.row c n cells b room cap cs y hroom hcap hn hl hz) (.row c n cells xs hxl hx) (fun p hp=>hy p (aU _ hp))⟩
theorem xj{s:Prop}:∀cs:List V,cs.all V.FC=true->Bn s (cs.map Yn.dat) cs []
 |[],_=> .nil
 |c::cs,h=>by
  simp only[bk,ZC] at h;exact Bn.cons (y:=[]) (.dat c h.1) (xj cs h.2)
theorem TX:∀cs:List V,cs.all V.FC=true->DP (cs.map Yn.dat) cs
 |[],_=> .nil
 |c::cs,h=>by
  simp only[bk,ZC] at h;exact .cons (.dat c h.1) (TX cs h.2)
theorem YM.Dw{s:Prop}{c:EC}{n:Nat}{cells:List Yn}{sv:Value}{y:Ys}(h:YM s (.row c n cells) (.raw sv) y)(hn:n=0):sv= .slice none 0 0/\y=[]:=by
 cases h<;>simp_all
def Es.DC(Cv:V->V->Prop)(es:Es)(n0:Nat)(cs0:List V):Es->Prop
 |[]=>True
 |p::l=>((p.1=n0/\p.2= .var cs0)\/∃e,zg es p.1=some e/\EM Cv e p.2)/\Es.DC Cv es n0 cs0 l
theorem Es.DC.get{Cv:V->V->Prop}{es:Es}{n0:Nat}{cs0:List V}:∀{es2:Es},Es.DC Cv es n0 cs0 es2->∀n e2,zg es2 n=some e2->(n=n0/\e2= .var cs0)\/∃e,zg es n=some e/\EM Cv e e2
 |[],_,t,c2,h=>eE
 |p::l,h,t,c2,hc=>by
  obtain⟨m,e⟩:=p;rw[zm] at hc;by_cases ht:m=t
  .subst ht;rw[if_pos rfl] at hc;cases hc;exact h.1
  .rw[if_neg ht] at hc;exact Es.DC.get h.2 t c2 hc
section
variable {E:Env} {N k:Nat} {a:AF} {σ:Aj} {y:Ys}
theorem As.Tx(a2:AF)(es2:Es)(hf:∀t c2,a2.get t=some c2->∃c,a.get t=some c/\Ai c c2)(he:∀i e2,zg es2 i=some e2->∃e,zg σ.es i=some e/\EM Ai e e2):
 As E N k a σ y (fun a3 σ3 y3=>a3=a2/\σ3=⟨σ.nx,es2⟩/\y3=y):=by
 intro hk g w act hR hF hY;have hfootin:∀x,Aq g es2 x->Aq g σ.es x:=by
  rintro x ⟨i,e2,p1,p2⟩;obtain⟨e,p3,p4⟩:=he i e2 p1;exact⟨i,e,p3,p4.AB (D:=(·<σ.nx)) (n:=i) (hR.lt _ _ p3) (g:=g) (g2:=g) (fun _ _=>rfl) (fun _ _=>rfl) p2⟩
 have hx:Ext (·<k) g (Aq g σ.es) w g (Aq g es2) w:=⟨rfl,rfl,rfl,ZB _,fun _ _ _=>rfl,fun _=>ZB _,fun _ _=>rfl,fun _ _=>rfl,fun _ _ _=>⟨rfl,rfl⟩,fun b hb=> .inl (hfootin b hb)⟩;refine⟨a2,_,y,g,⟨rfl,rfl,rfl⟩,hk,?_,⟨hF.size,hF.defers,fun t c2 hc=> ?_⟩,hY.ext hx,hx.keys y⟩
 .exact hR.conv (fun _ h=>h) (fun _=>ZB _) (fun _ _=>rfl) (fun _ _=>rfl) (fun _ _=>rfl) hR.fresh _ (fun v c c2 h hv=>h _ _ _ _ hv) σ.nx fun i e2 hi=> .inr (he i e2 hi)
 .obtain ⟨c,p1,p2⟩:=hf t c2 hc;obtain⟨v,p3,p4⟩:=hF.vals t c p1;exact⟨v,p3,p2 _ _ _ _ p4⟩
theorem Fv{c:EC}{z:c.sem}{X:List Yn}{cs:List V}{yX:Ys}{D:List V}{Z:List V}(hX:Bn False X cs yX)(hE:DP X (c.view z))(hp:∀p∈yX,p∈y)(hnd:(y.map Prod.fst).Nodup)
 (hD:∀ρ,xu ρ D=some D) (hZ:∀ρ,xu ρ Z=some Z) (h0:a.get 0=some (.ptr 0 0)) (h3:a.get 3=some (.ptr 1 0)) (h4:a.get 4=some (.ptr 2 0))
 (e0:zg σ.es 0=some (.var D)) (e1:zg σ.es 1=some (.var cs)) (e2:zg σ.es 2=some (.var Z)) (hnx:below σ.nx [some 0,some 1,some 2]=true):
 As E N 1 a σ y (fun a3 σ3 y3=>y3=[]/\a3=[(0,.ptr 0 0),(3,.ptr 1 0),(4,.ptr 2 0)]/\σ3=⟨3,[(0,.var D),(1,.var (c.view z)),(2,.var Z)]⟩):=by
 refine As.trans (As.B1 hnd [(0,.ptr 0 0),(3,.ptr 1 0),(4,.ptr 2 0)] [(0,.var D),(1,.var (c.view z)),(2,.var Z)]
  (AF.BM.get ⟨⟨_,h0,.inl rfl⟩,⟨_,h3,.inl rfl⟩,⟨_,h4,.inl rfl⟩,trivial⟩)
  (Es.BM.get ⟨⟨_,e0,.same (fun _=> .inl rfl) _⟩,⟨_,e1,.var (WL hX hE hp)⟩,⟨_,e2,.same (fun _=> .inl rfl) _⟩,trivial⟩)) ?_
 rintro _ _ _ ⟨rfl,rfl,rfl⟩;refine As.Gc (Bc.mk [some 0,some 1,some 2] _ _ _ rfl rfl rfl hnx ?_ ?_) ⟨rfl,rfl,rfl⟩
 .exact ⟨⟨_,rfl,_,rfl,.refl _⟩,⟨_,rfl,_,rfl,.refl _⟩,⟨_,rfl,_,rfl,.refl _⟩,trivial⟩
 .exact ⟨⟨_,rfl,_,hD _,_,rfl,.refl _⟩,⟨_,rfl,_,YU _ c z,_,rfl,.refl _⟩,⟨_,rfl,_,hZ _,_,rfl,.refl _⟩,trivial⟩
end
end
end Go.Ab
namespace Go.Ab
open Go
set_option linter.unusedSimpArgs false
set_option linter.unusedVariables false
theorem Re{β:Type}{fl:Nat->Bool}:∀{us us':List (List (Nat×β))} {i:Nat} {es:List (Nat×β)},us.length=us'.length->(∀j,fl (i+j)=true->us[j]? =us'[j]?)->xx fl i us es=xx fl i us' es
 |[],[],i,es,_,_=>rfl
 |u::us,u'::us',i,es,hl,h=>by
  simp only[xx];have h0:(bif fl i then u++es else es)=bif fl i then u'++es else es:=by
   cases hf:fl i with
   |false=>rfl
   |true=>have:=h 0 dY;grind
  rw[h0];refine Re ei fun j hj=> ?_;have:=h (j+1) ei
  grind
 |[],_::_,_,_,hl,_=>ei
 |_::_,[],_,_,hl,_=>ei
theorem Zy{β:Type}:∀{us us2:List (List (Nat×β))} {es:List (Nat×β)},xx (fun j=>decide (j<us.length)) 0 (us++us2) es=xx (fun _=>true) 0 us es
 |[],us2,es=>by simp only[Z3];rw[LD fun j _=>dZ];rfl
 |u::us,us2,es=>by
  have h1:∀{i:Nat} {us:List (List (Nat×β))} {es:List (Nat×β)},xx (fun _=>true) (i+1) us es=xx (fun _=>true) i us es:=fun {i us es}=>OQ;have h2:=Zy (us:=us) (us2:=us2) (es:=u++es);simp only[aE,xx,ZO,dz,decide_true,cond_true,aq];rw[OQ,h1,<-h2];simp
theorem X4{E:Env}{T:TypeId}{a a':AF}{x:Operand}{c:V}(h:∀t c,Operand.tmp t=x->a.get t=some c->a'.get t=some c)(hx:ev E T a x=some c):ev E T a' x=some c:=by
 cases x with
 |tmp t=>exact h t c rfl hx
 |_=>exact hx
theorem SX{E:Env}{a a':AF}:∀{xs:List Operand} {ts:List TypeId} {cs:List V},(∀t c,Operand.tmp t∈xs->a.get t=some c->a'.get t=some c)->DS E a xs ts=some cs->DS E a' xs ts=some cs
 |[],_,cs,_,h=>h
 |x::xs,[],cs,hm,h=>by
  simp only[DS,ZL,ZG] at h ⊢;obtain⟨v,h1,vs,h2,h3⟩:=h;exact⟨v,X4 (fun t c e=>hm t c gM) h1,vs,SX (fun t c e=>hm t c gM) h2,h3⟩
 |x::xs,t::ts,cs,hm,h=>by
  simp only[DS,ZL,ZG] at h ⊢;obtain⟨v,h1,vs,h2,h3⟩:=h;exact⟨v,X4 (fun t c e=>hm t c gM) h1,vs,SX (fun t c e=>hm t c gM) h2,h3⟩
section
variable {E:Env} {N k:Nat} {a:AF} {σ:Aj} {y:Ys} {Q:Exit->AF->Aj->Ys->Prop}
set_option maxHeartbeats 4000000 in
theorem BW.MR{π:Type}{ops:List Oper}{id:Nat}(m:Nat){d:Nat}{f:FuncId}{xs:List Operand}{ts:List TypeId}{ty:TypeId}{ps:String}{af:Array Edge}
 (hops:ops[m]? =some ⟨some d,.call ⟨.value (.func f),xs.toArray,ts.toArray⟩,ty,ps,af,none⟩) (hmix:E.P.follows .mixedOrders=true) (hedge:KH 0 ops=true) (C:π->V) (T:π->Ys->Prop) (args:List V)
 (hf:YC E f args (fun r y=>∃p,r=C p/\T p y)) (hdN:zw N (some d)=true) (D:List Nat) (hD:∀j∈D,j<m) (hcl:∀j o',ops[j]? =some o'->j∉D->j=m\/∃e∈vu o',e∉D)
 (rs1:List Rec) {a1':AF} {σ1':Aj} (h1:Bz (E.y y) N (fun o=>o=⟨some d,.call ⟨.value (.func f),xs.toArray,ts.toArray⟩,ty,ps,af,none⟩) ops ops a σ rs1 a1' σ1') (ho1:Iv ops rs1=true) (hm1:(rs1[m]?).map Rec.post=some [])
 (h2:∀p y',T p y'->(∀p∈y',∀q∈y,p.1≠q.1)->∃rs2 A2 S2 a2,Bz (E.y (y'++y)) N (fun o=>o=⟨some d,.call ⟨.value (.func f),xs.toArray,ts.toArray⟩,ty,ps,af,none⟩) ops ops a σ rs2 A2 S2/\Iv ops rs2=true/\rs2[m]? =some ⟨[],C p,0,[]⟩/\
  (∀j,j<m->rs1[j]? =rs2[j]?)/\(∀t,AF.get a2 t=AF.get A2 t)/\Q .normal a2 S2 (y'++y))
 (hdst:∀j o',ops[j]? =some o'->j≠m->o'.dst≠some d)
 (hev:∃cs cs1,DS E (xx (fun j=>decide (j<m)) 0 (CB ops rs1) a) xs ts=some cs/\xu [] args=some cs1/\Bb cs cs1):BW E N k (.region id ops.toArray true) a σ y Q:=by
 have hedge':∀j o,ops[j]? =some o->∀e∈vu o,e<j:=fun j o ho e he'=>by have:=VO hedge j o ho e he';omega
 have hml:m<ops.length:=(ZT.1 hops).1;have hXm:∀i (hin:i<ops.length),ops[i]=⟨some d,.call ⟨.value (.func f),xs.toArray,ts.toArray⟩,ty,ps,af,none⟩->i=m:=fun i hin hX=>Classical.byContradiction fun hne=>
  hdst i ops[i] (ZD hin) hne (by rw[hX])
 constructor;intro hk g w act hR hF hY;refine wp_region_any hmix (SN (E:=E.y y) (Q:=fun _ _ _=>False) (S:=fun l=>l.getD m false=false) (PP:=E4 E N k g (FY g σ.es y) w Q) h1 ho1 ?_ ?_ hk hY hedge' ?_ ?_ ?_ _ _ _ _ ?_ dZ ?_ ?_ ⟨g,?_,?_,?_⟩)
 ·
  intro listed i hin hs hnX;by_cases hi:i=m
  .grind
  .have hs:listed.getD m false=false:=hs;show(listed.setIfInBounds i true).getD m false=false;simp only[ZV,ag] at hs ⊢
   grind
 .grind
 .intro i hin hX b hb;rw[hX] at hb;simp[zy] at hb
 .rintro act1 w1 ⟨_,_,_,h,_⟩
  grind
 ·
  intro fuel listed act1 w1 i hin g1 hs hsz hcnt hclo hR1 hF1 hx1 hX hfi hhard hlook;obtain rfl:=hXm i hin hX;obtain⟨cs,cs1,hev,hren,hle⟩:=hev;have hY1:=hY.ext hx1;have hlk:∀t,Operand.tmp t∈xs->t∈E1 ops ops[i]:=fun t ht=>by
   rw[hX];exact aU _ (WN (by simp[Op.operands,Call.operands,ht]))
  have hev1:=SX (a':=xx (fun j=>listed.getD j false) 0 (CB ops rs1) a) (fun t c ht hc=>(hlook t (hlk t ht)).trans hc) hev;obtain⟨q1,q2⟩:=Nn hev1 hR1 hF1;have hlis:∀j,listed.getD j false=true->j<ops.length->j∈D:=by
   intro j;induction j using Nat.strongRecOn<;>grind
  rw[hX];refine Po (ts:=ts.toArray) rfl hf.1 (hf.use hR1 hY1 q1 q2 ⟨cs1,hren,hle⟩ fun v g2 w2 r y' hT hR2 hv hY2 hne hx2=>⟨v,rfl,?_⟩);obtain⟨p,rfl,hT⟩:=hT;have hil:i<listed.size:=dY
  have hfl':∀j,(listed.setIfInBounds i true).getD j false=(if j=i then true else listed.getD j false):=by
   exact mg
  obtain⟨rs2,A2,S2,a2,hp2,ho2,hm2,hag,ha2,hq⟩:=h2 p y' hT hne;have hl1:=h1.len;have hl2:=hp2.len;have hnx:∀j,j<i->DD σ.nx rs2 j=DD σ.nx rs1 j:=fun j hj=>by
   have e:rs2.take j=rs1.take j:=by
    apply cL
    grind
   simp only[DD,e]
  have hDD:∀n,Dn σ.nx rs1 (fun j=>listed.getD j false) n->Dn σ.nx rs2 (fun j=>(listed.setIfInBounds i true).getD j false) n:=by
   rintro n (hn|⟨j,r,hj,hfj,hm⟩)
   .exact .inl hn
   .have hjl:=(ZT.1 hj).1;refine .inr ⟨j,r,?_,?_,ei⟩;all_goals grind
  have hpi1:(CS rs1)[i]? =some []:=by simp only[CS,Z8];omega
  have hes:∀n,zg (xx (fun j=>(listed.setIfInBounds i true).getD j false) 0 (CS rs2) σ.es) n=zg (xx (fun j=>listed.getD j false) 0 (CS rs1) σ.es) n:=by
   intro n;have e1:xx (fun j=>listed.getD j false) 0 (CS rs1) σ.es=xx (fun j=>listed.getD j false) 0 (CS rs2) σ.es:=by
    refine Re (by simp[CS,hl1,hl2]) fun j hj=> ?_;rw[aq] at hj;by_cases hjl:j<ops.length
    .simp only[CS,Z8,hag j (hD j (hlis j hj hjl))]
    grind
   rw[e1,J6,J6];refine vz rfl fun j u hj hn=> ?_;rw[aq,hfl'];split
   .rename_i hji;subst hji;simp only[CS,Z8,hm2,ak,ZI] at hj
    grind
   .rfl
  have hfr:∀t,AF.get (xx (fun j=>(listed.setIfInBounds i true).getD j false) 0 (CB ops rs2) a) t=AF.get (AF.put (xx (fun j=>listed.getD j false) 0 (CB ops rs1) a) (some d) (C p)) t:=by
   intro t;have e1:xx (fun j=>listed.getD j false) 0 (CB ops rs1) a=xx (fun j=>listed.getD j false) 0 (CB ops rs2) a:=by
    refine Re (by simp[CB,hl1,hl2]) fun j hj=> ?_;rw[aq] at hj;by_cases hjl:j<ops.length
    .simp only[CB,bU,hag j (hD j (hlis j hj hjl))]
    grind
   have hfi2:(CB ops rs2)[i]? =some [(d,C p)]:=by
    simp only[CB,bU,hops,hm2];rfl
   have hkeys:∀j u,j≠i->(CB ops rs2)[j]? =some u->d∉u.map Prod.fst:=by
    intro j u hji hu hd;simp only[CB,bU] at hu;split at hu
    .rename_i o' r' ho' hr';cases hu;have:=hdst j o' ho' hji;cases hdo:o'.dst with
     |none=>rw[hdo] at hd;simp[Gw] at hd
     |some d'=>rw[hdo] at hd;simp[Gw] at hd;grind
    grind
   rw[e1,LB,J7,J7,vr];by_cases ht:t=d
   .subst ht;rw[R7 (k:=i) hfi2 ei dZ]
    .simp[Gw,uy]
    grind
   .rw[show u4 (Gw (some d) (C p)) t=none from by simp[Gw,uy,u4,Ne.symm ht],dV];refine vz rfl fun j u hj hn=> ?_
    grind
  have hF2:Ba g2 (Dn σ.nx rs2 fun j=>(listed.setIfInBounds i true).getD j false) w2 N (act1.put (some d) v) (xx (fun j=>(listed.setIfInBounds i true).getD j false) 0 (CB ops rs2) a):=by
   have q3:Ba g2 (Dn σ.nx rs2 fun j=>(listed.setIfInBounds i true).getD j false) w2 N act1 (xx (fun j=>listed.getD j false) 0 (CB ops rs1) a):=hF1.ext (F:=FY g1 _ y) hx2 hDD;exact(q3.put (L5 hdN) (hv.more hDD)).congr hfr
  have hkx:Ext (·<k) g (FY g σ.es y) w g2 (FY g2 (xx (fun j=>listed.getD j false) 0 (CS rs1) σ.es) (y'++y)) w2:=
   (hx1.keys y).trans (hx2.mono fun n (hn:n<k)=> .inl dY)
  refine SN (E:=E.y (y'++y)) (Q:=fun e x τ=>e= .normal/\x=A2/\τ=S2) (S:=fun l=>l.getD i false=true) (g0:=g2) (F0:=Aq g2 (xx (fun j=>listed.getD j false) 0 (CS rs1) σ.es)) (w0:=w2) hp2 ho2 ?_ ?_ hk hY2 hedge' ?_ ?_ ?_ fuel _ _ _ ?_ ei ?_ ?_ ⟨g2,?_,hF2,?_⟩
  .intro l j hjn hs _;have hs:l.getD i false=true:=hs;show(l.setIfInBounds j true).getD i false=true;simp only[ZV,ag] at hs ⊢
   grind
  .simp
  .intro j hjn hX b hb;rw[hX] at hb;simp[zy] at hb
  .rintro act3 w3 ⟨g3,a3,σ3,⟨_,rfl,rfl⟩,hk3,hR3,hF3,hx3⟩;exact⟨g3,a2,σ3,_,hq,hk3,hR3,hF3.congr ha2,hY2.ext hx3,hkx.trans (hx3.keys (y'++y))⟩
  .grind
  .grind
  .have hc0:listed.toList.count false=(listed.setIfInBounds i true).toList.count false+1:=by
    rw[bT];have hil2:i<listed.toList.length:=dY
    have hli:listed.toList[i]=false:=by
     have:=hfi;simp only[ZV,aJ hil,aQ] at this
     grind
    grind
   omega
  .grind
  .exact (hR2.congr hes).more hDD
  .rw[Aq.congr hes];exact .refl ..
 .show (Array.replicate ops.toArray.size false).getD m false=false;simp[ZV,bC];grind
 .simp
 .intro j o ho hj;exfalso;have:(Array.replicate ops.toArray.size false).getD j false=false:=by
   simp[ZV,bC];grind
  grind
 all_goals
  have hff:(fun j=>(Array.replicate ops.toArray.size false).getD j false)=fun _=>false:=by
   funext j;simp[ZV,bC];grind
  have e1:xx (fun _=>false) 0 (CS rs1) σ.es=σ.es:=LD fun _ _=>rfl;have e2:xx (fun _=>false) 0 (CB ops rs1) a=a:=LD fun _ _=>rfl;rw[hff]
 .rw[e1];exact hR.drew.more (fun n hn=>Or.inl hn)
 .exact lU
 .rw[e1];exact Ext.drew
end
section
variable {E:Env} {N k:Nat} {ops:List Oper}
theorem Bz.app{X:Oper->Prop}{l1 l2:List Oper}{a:AF}{σ:Aj}{R1:List Rec}{a1:AF}{σ1:Aj}(h:Bz E N X ops l1 a σ R1 a1 σ1):∀{R2:List Rec} {a2:AF} {σ2:Aj},Bz E N X ops l2 a1 σ1 R2 a2 σ2->Bz E N X ops (l1++l2) a σ (R1++R2) a2 σ2:=by
 induction h with
 |nil=>simp
 |run r hw h hp hd _ ih=>intro _ _ _ h2;exact .run r hw h hp hd (ih h2)
 |sk hw hd _ ih=>intro _ _ _ h2;exact .sk hw hd (ih h2)
theorem Bz.Kk{X Y:Oper->Prop}(hXY:∀o,X o->Y o){l1:List Oper}{a:AF}{σ:Aj}{R1:List Rec}{a1:AF}{σ1:Aj}(h:Bz E N X ops l1 a σ R1 a1 σ1):Bz E N Y ops l1 a σ R1 a1 σ1:=by
 induction h with
 |nil=>exact .nil _ _
 |run r hw h hp hd _ ih=>exact .run r hw (h.imp (hXY _) id) hp hd ih
 |sk hw hd _ ih=>exact .sk hw hd ih
variable {X:Oper->Prop} {rest:List Oper} {a a':AF} {σ σ':Aj} {rs:List Rec} {d:Option Tmp} {ty:TypeId} {ps:String} {af:Array Edge} {gd:Option (Nat×Bool)}
theorem Bz.G0{t:TypeId}{x:Operand}{z:Nat}{zr:List V}{gs:List (Nat×Nat×Bool)}{f:Nat}{p:Nat×Nat×Bool}{n off:Nat}(hw:zy ops a gd=some true)(hx:ev E 0 a x=some (.ptr n off))(ht:E.ti t=some ⟨z,zr,.strct gs⟩)
 (hf:gs[f]? =some p) (hd:zw N d=true) (h2:Bz E N X ops rest (a.put d (.ptr n (off+p.1))) σ rs a' σ'):Bz E N X ops (⟨d,.fieldAddr t x f,ty,ps,af,gd⟩::rest) a σ (⟨[],.ptr n (off+p.1),0,[]⟩::rs) a' σ':=
 .run ⟨[],.ptr n (off+p.1),0,[]⟩ hw (.inr (OS.ED (a:=Jc true ops a _) rfl ht rfl hf (fr (dr:=true) eA hx)).y) trivial hd h2
theorem Bz.Ez{t:TypeId}{x:Operand}{i:TI}{n off:Nat}{cs:List V}{c:V}(hw:zy ops a gd=some true)(hx:ev E 0 a x=some (.ptr n off))(ht:E.ti t=some i)(hn:zg σ.es n=some (.var cs))(hc:G4 i (cs.drop off)=some c)(hd:zw N d=true)
 (h2:Bz E N X ops rest (a.put d c) σ rs a' σ'):Bz E N X ops (⟨d,.load t x,ty,ps,af,gd⟩::rest) a σ (⟨[(n,.var cs)],c,0,[]⟩::rs) a' σ':=
 .run ⟨[(n,.var cs)],c,0,[]⟩ hw (.inr (OS.Ko (a:=Jc true ops a _) rfl ht (fr (dr:=true) eA hx) hc).y) ⟨hn,trivial⟩ hd h2
end
section
variable {E:Env} {N k:Nat} {a:AF} {σ:Aj} {y:Ys} {Q:Exit->AF->Aj->Ys->Prop}
theorem BW.Kb{π:Type}(p0:π){l1 l2:List Oper}{id:Nat}{d:Nat}{f:FuncId}{xs:List Operand}{ts:List TypeId}{ty:TypeId}{ps:String}{af:Array Edge}(C:π->V)(T:π->Ys->Prop)(args:List V)
 (hf:YC E f args (fun r y=>∃p,r=C p/\T p y)) (hmix:E.P.follows .mixedOrders=true) (hedge:KH 0 (l1++⟨some d,.call ⟨.value (.func f),xs.toArray,ts.toArray⟩,ty,ps,af,none⟩::l2)=true) (hdN:zw N (some d)=true)
 (hcl:(l2.all fun o=>(vu o).any fun e=>Nat.ble l1.length e)=true) (hdst:((l1++l2).all fun o=>match o.dst with|some e=> !(Nat.beq e d)|none=>true)=true)
 (R1:List Rec) {a1:AF} {σ1:Aj} (h1:∀y',Bz (E.y y') N (fun _=>False) (l1++⟨some d,.call ⟨.value (.func f),xs.toArray,ts.toArray⟩,ty,ps,af,none⟩::l2) l1 a σ R1 a1 σ1)
 (hev:∃cs cs1,DS E a1 xs ts=some cs/\xu [] args=some cs1/\Bb cs cs1)
 (h2:∀p y',AX (E.y y') N k true (l1++⟨some d,.call ⟨.value (.func f),xs.toArray,ts.toArray⟩,ty,ps,af,none⟩::l2) l2 (a1.put (some d) (C p)) σ1 (⟨[],C p,0,[]⟩::R1.reverse)
  (fun e a2 σ2=>e= .normal/\∀y'',y'=y''++y->T p y''->(∀p∈y'',∀q∈y,p.1≠q.1)->Q .normal a2 σ2 (y''++y))):
 BW E N k (.region id (l1++⟨some d,.call ⟨.value (.func f),xs.toArray,ts.toArray⟩,ty,ps,af,none⟩::l2).toArray true) a σ y Q:=by
 have hR1:=(h1 []).len;have whole:∀(p:π) (y':Ys),∃R2 A2 S2 a2,Bz (E.y y') N (fun o=>o=⟨some d,.call ⟨.value (.func f),xs.toArray,ts.toArray⟩,ty,ps,af,none⟩) (l1++⟨some d,.call ⟨.value (.func f),xs.toArray,ts.toArray⟩,ty,ps,af,none⟩::l2)
  (l1++⟨some d,.call ⟨.value (.func f),xs.toArray,ts.toArray⟩,ty,ps,af,none⟩::l2) a σ (R1++⟨[],C p,0,[]⟩::R2) A2 S2/\Iv (l1++⟨some d,.call ⟨.value (.func f),xs.toArray,ts.toArray⟩,ty,ps,af,none⟩::l2) (R1++⟨[],C p,0,[]⟩::R2)=true/\
  (∀t,AF.get a2 t=AF.get A2 t)/\∀y'',y'=y''++y->T p y''->(∀p∈y'',∀q∈y,p.1≠q.1)->Q .normal a2 S2 (y''++y):=by
  intro p y';obtain⟨R2,A2,S2,a2,q1,q2,q3,_,q4⟩:=(h2 p y').out;refine⟨R2,A2,S2,a2,((h1 y').Kk fun _ h=>h.elim).app (.run ⟨[],C p,0,[]⟩ rfl (.inl rfl) trivial hdN (q1.Kk fun _ h=>h.elim)),?_,q3,q4⟩
  grind
 obtain⟨R0,A0,S0,a0,w1,w2,_,_⟩:=whole p0 y;have hm:(l1++(⟨some d,.call ⟨.value (.func f),xs.toArray,ts.toArray⟩,ty,ps,af,none⟩:Oper)::l2)[l1.length]? =some ⟨some d,.call ⟨.value (.func f),xs.toArray,ts.toArray⟩,ty,ps,af,none⟩:=dZ
 refine BW.MR l1.length hm hmix hedge C T args hf hdN (List.range l1.length) (fun j hj=>bS.1 hj) (fun j o' ho hj=> ?_) (R1++⟨[],C p0,0,[]⟩::R0) w1 w2 ?_ (fun p y' hT hne=> ?_) (fun j o' ho hj=> ?_) ?_
 .have hj:l1.length<=j:=ei
  rcases Nat.eq_or_lt_of_le hj with h|h
  .omega
  .right;rw[aj hj] at ho;obtain⟨i,rfl⟩:∃i,j=l1.length+1+i:=⟨j-(l1.length+1),dY⟩;rw[show l1.length+1+i-l1.length=i+1 by omega,bH] at ho;have h4:=ZH.1 hcl o' (bt ho);simp_all
 .grind
 .obtain ⟨R2,A2,S2,a2,q1,q2,q3,q4⟩:=whole p (y'++y)
  grind
 .have hmem:o'∈l1++l2:=by
   grind
  have h4:=ZH.1 hdst o' hmem;intro he;simp_all
 .have hf:=((h1 []).fin).1;have e1:xx (fun j=>decide (j<l1.length)) 0 (CB (l1++⟨some d,.call ⟨.value (.func f),xs.toArray,ts.toArray⟩,ty,ps,af,none⟩::l2) (R1++⟨[],C p0,0,[]⟩::R0)) a=a1:=by
   rw[hf];have e2:CB (l1++⟨some d,.call ⟨.value (.func f),xs.toArray,ts.toArray⟩,ty,ps,af,none⟩::l2) (R1++⟨[],C p0,0,[]⟩::R0)=CB l1 R1++CB (⟨some d,.call ⟨.value (.func f),xs.toArray,ts.toArray⟩,ty,ps,af,none⟩::l2) (⟨[],C p0,0,[]⟩::R0):=by
    simp only[CB];grind
   rw[e2];have e3:(CB l1 R1).length=l1.length:=by simp[CB,hR1]
   rw[<-e3];exact Zy
  grind
end
end Go.Ab
