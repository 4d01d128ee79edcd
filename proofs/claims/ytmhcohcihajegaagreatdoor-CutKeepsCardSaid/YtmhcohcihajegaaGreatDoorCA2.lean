/- A part of this seat's proofs. No conditions. -/
import Derived.ChangeArms
import Derived.ChangeFn
import Derived.ChangeKeysEq
import Derived.ChangeReads
import Derived.ChangeSame
import Derived.ChangeShapes
import Derived.DataReads
import Derived.DataShut
import Derived.Laws.Entries
import Derived.MapKept
import Derived.ScopeJumps
import Derived.Test.YtmhcohcihajegaaGreatDoorCA1
namespace Go.Ab
open Go
section
variable {E:Env} {N k:Nat} {a:AF} {σ:Ao} {Q:Exit->AF->Ao->Prop} {ops:List Oper} {dr:Bool} {rest:List Oper} {acc:List Rec}
variable {d:Option Tmp} {ty:TypeId} {ps:String} {af:Array Edge} {gd:Option (Nat×Bool)}
namespace D
theorem nil(h:AX E N k dr ops [] a σ acc Q):AX E N k dr ops [] a σ acc Q:=h
theorem ax{o:Oper}(h:AX E N k dr ops (o::rest) a σ acc Q):AX E N k dr ops (o::rest) a σ acc Q:=h
theorem aw{c:Code}(h:AW E N k c a σ Q):AW E N k c a σ Q:=h
theorem blk{id:Nat}{x y:Code}(h:AW E N k (.block id (.seq x y)) a σ Q):AW E N k (.block id (.seq x y)) a σ Q:=h
theorem VK{id:Nat}{x y z:Code}(h:AW E N k (.seq (.block id (.seq x y)) z) a σ Q):AW E N k (.seq (.block id (.seq x y)) z) a σ Q:=h
theorem load{t:TypeId}{x:Operand}(h:AX E N k dr ops (⟨d,.load t x,ty,ps,af,gd⟩::rest) a σ acc Q):AX E N k dr ops (⟨d,.load t x,ty,ps,af,gd⟩::rest) a σ acc Q:=h
theorem store{t:TypeId}{x y:Operand}(h:AX E N k dr ops (⟨d,.store t x y,ty,ps,af,gd⟩::rest) a σ acc Q):AX E N k dr ops (⟨d,.store t x y,ty,ps,af,gd⟩::rest) a σ acc Q:=h
theorem fieldAddr{t:TypeId}{x:Operand}{f:Nat}(h:AX E N k dr ops (⟨d,.fieldAddr t x f,ty,ps,af,gd⟩::rest) a σ acc Q):AX E N k dr ops (⟨d,.fieldAddr t x f,ty,ps,af,gd⟩::rest) a σ acc Q:=h
theorem field{t:TypeId}{x:Operand}{f:Nat}(h:AX E N k dr ops (⟨d,.field t x f,ty,ps,af,gd⟩::rest) a σ acc Q):AX E N k dr ops (⟨d,.field t x f,ty,ps,af,gd⟩::rest) a σ acc Q:=h
theorem move{x:Operand}(h:AX E N k dr ops (⟨d,.move x,ty,ps,af,gd⟩::rest) a σ acc Q):AX E N k dr ops (⟨d,.move x,ty,ps,af,gd⟩::rest) a σ acc Q:=h
theorem assign{x:Operand}(h:AX E N k dr ops (⟨d,.assign x,ty,ps,af,gd⟩::rest) a σ acc Q):AX E N k dr ops (⟨d,.assign x,ty,ps,af,gd⟩::rest) a σ acc Q:=h
theorem pick{c x y:Operand}(h:AX E N k dr ops (⟨d,.pick c x y,ty,ps,af,gd⟩::rest) a σ acc Q):AX E N k dr ops (⟨d,.pick c x y,ty,ps,af,gd⟩::rest) a σ acc Q:=h
theorem box{t:TypeId}{x:Operand}(h:AX E N k dr ops (⟨d,.box t x,ty,ps,af,gd⟩::rest) a σ acc Q):AX E N k dr ops (⟨d,.box t x,ty,ps,af,gd⟩::rest) a σ acc Q:=h
theorem alloc{t:TypeId}(h:AX E N k dr ops (⟨d,.alloc t,ty,ps,af,gd⟩::rest) a σ acc Q):AX E N k dr ops (⟨d,.alloc t,ty,ps,af,gd⟩::rest) a σ acc Q:=h
theorem bin{o:BinOp}{t u:TypeId}{x y:Operand}(h:AX E N k dr ops (⟨d,.binOp o t x y u,ty,ps,af,gd⟩::rest) a σ acc Q):AX E N k dr ops (⟨d,.binOp o t x y u,ty,ps,af,gd⟩::rest) a σ acc Q:=h
theorem call{c:Call}(h:AX E N k dr ops (⟨d,.call c,ty,ps,af,gd⟩::rest) a σ acc Q):AX E N k dr ops (⟨d,.call c,ty,ps,af,gd⟩::rest) a σ acc Q:=h
theorem extract{x:Operand}{n:Nat}(h:AX E N k dr ops (⟨d,.extract x n,ty,ps,af,gd⟩::rest) a σ acc Q):AX E N k dr ops (⟨d,.extract x n,ty,ps,af,gd⟩::rest) a σ acc Q:=h
theorem indexAddr{t:TypeId}{x y:Operand}(h:AX E N k dr ops (⟨d,.indexAddr t x y,ty,ps,af,gd⟩::rest) a σ acc Q):AX E N k dr ops (⟨d,.indexAddr t x y,ty,ps,af,gd⟩::rest) a σ acc Q:=h
theorem not{o:UnOp}{t:TypeId}{x:Operand}(h:AX E N k dr ops (⟨d,.unOp o t x,ty,ps,af,gd⟩::rest) a σ acc Q):AX E N k dr ops (⟨d,.unOp o t x,ty,ps,af,gd⟩::rest) a σ acc Q:=h
theorem F6{id:Nat}{o:Array Oper}{b:Bool}{z:Code}(h:AW E N k (.seq (.region id o b) z) a σ Q):AW E N k (.seq (.region id o b) z) a σ Q:=h
theorem FR{id:Nat}{o:Array Oper}{b:Bool}{y z:Code}(h:AW E N k (.seq (.seq (.region id o b) y) z) a σ Q):AW E N k (.seq (.seq (.region id o b) y) z) a σ Q:=h
end D
def Iv:List Nat->Code->Code
 |[],c=>c
 |0::l,.seq c _=>Iv l c
 |_::l,.seq _ c=>Iv l c
 |0::l,.cond _ c _=>Iv l c
 |_::l,.cond _ _ c=>Iv l c
 |_::l,.block _ c=>Iv l c
 |_::l,.loop c=>Iv l c
 |_::l,.scope c=>Iv l c
 |_,c=>c
def NZ(f:Func):Code:=f.body.getD .skip
end
end Go.Ab
namespace Go.Ab
open Go
set_option linter.unusedSimpArgs false
set_option linter.unusedVariables false
def Gh.sub(ρ:List (Option Nat))(g:Gh):Gh:={blk:=fun n=>g.blk ((CJ ρ n).getD n),row:=fun n=>match CJ ρ n with|some m=>g.row m|none=>none,m:=g.m}
theorem Gh.Cx{ρ:List (Option Nat)}{g:Gh}{n n':Nat}(h:CJ ρ n=some n'):(g.sub ρ).blk n=g.blk n':=by simp[Gh.sub,h]
theorem Gh.Dh{ρ:List (Option Nat)}{g:Gh}{n n':Nat}(h:CJ ρ n=some n'):(g.sub ρ).row n=g.row n':=by simp[Gh.sub,h]
theorem Gh.DK{ρ:List (Option Nat)}{g:Gh}{n:Nat}(h:Du ρ n=some none):(g.sub ρ).row n=none:=by simp[Gh.sub,CJ,h]
theorem S8{ρ:List (Option Nat)}{g:Gh}{es es2:Es}(he:Eh ρ es es2){n:Nat}{e2:A7}{b:Nat}(h1:zo es2 n=some e2)(h2:e2.AD (g.sub ρ) n=some b):∃m e,CJ ρ n=some m/\zo es m=some e/\e.AD g m=some b:=by
 have h3:=he.get n e2 h1;cases e2 with
 |var cs=>
  obtain⟨m,hm,cs1,_,cs0,h4,_⟩:=h3;refine⟨m,_,hm,h4,?_⟩;simp only[A7.AD,Gh.Cx hm] at h2 ⊢;exact h2
 |map c ks xs=>
  obtain⟨m,hm,ks0,xs0,h4,_⟩:=h3;refine⟨m,_,hm,h4,?_⟩;simp only[A7.AD,Gh.Cx hm] at h2 ⊢;exact h2
 |row=>
  rcases h3 with h3|⟨m,hm,h4⟩
  .simp[A7.AD,Gh.DK h3] at h2
  .refine ⟨m,_,hm,h4,?_⟩;simp only[A7.AD,Gh.Dh hm] at h2 ⊢;exact h2
 |gone=>cases h2
theorem R.sub{G:D5}{g:Gh}{D:Nat->Prop}{es:Es}{w:World}(hR:R G g D es w){ρ:List (Option Nat)}{es2:Es}(hd:yj ρ=true)(he:Eh ρ es es2):R G (g.sub ρ) (·<ρ.length) es2 w:=by
 have hun:∀{v c c2},Aq g D w v c->uc ρ c2=some c->Aq (g.sub ρ) (·<ρ.length) w v c2:=fun {v c c2} h hc=>Aq.G1 (g2:=g.sub ρ) h rfl (fun _ _ h=>Gh.Cx h) (fun _ _ h=>Gh.Dh h) (fun _ h=>Gh.DK h) c2 hc;refine⟨?_,?_,?_,hR.fresh,hR.FN⟩
 .exact qq
 .intro n n' e e' b h1 h2 h3 h4;obtain⟨m,d,hm,h5,h6⟩:=S8 he h1 h3;obtain⟨m',d',hm',h7,h8⟩:=S8 he h2 h4;have:=hR.Bd m m' d d' b h5 h7 h6 h8;subst this;exact cW hd n n' m (I6 hm) (I6 hm')
 .intro n e h;have h3:=he.get n e h;cases e with
  |var cs=>
   obtain⟨m,hm,cs1,hc1,cs0,h4,h5⟩:=h3;obtain⟨h6,vs,t,h7,h8,h9,h10,h11⟩:=hR.Cg m _ h4;refine⟨by rw[Gh.Cx hm];exact h6,vs,t,by rw[Gh.Cx hm];exact h7,?_,h9,?_,by rw[Gh.Dh hm];omega⟩
   .have e1:=h5.len;have e2:=xp hc1;omega
   .exact qM
  |map c ks xs=>
   obtain⟨m,hm,ks0,xs0,h4,rfl,rfl⟩:=h3;obtain⟨h6,vs,t,h7,h8,h9,h9',h10⟩:=hR.Cg m _ h4;refine⟨by rw[Gh.Cx hm];exact h6,vs,t,by rw[Gh.Cx hm];exact h7,h8,h9,h9',?_⟩;intro i v x hv hx;exact hun (h10 i v x hv hx) (V5 ρ c x)
  |row=>
   intro ρ' hρ';rcases h3 with h3|⟨m,hm,h4⟩
   .rw[Gh.DK h3] at hρ';grind
   .rw[Gh.Dh hm] at hρ';exact hR.Cg m _ h4 ρ' hρ'
  |gone=>trivial
def z9(L:List Nat)(nx news:Nat):List Nat:=L++List.range' nx news
def yp(L:List Nat):List (Option Nat):=L.map some
def M7(ρ:List (Option Nat)):A7->Option A7
 | .var cs=>(vn ρ cs).map .var
 | .map c ks xs=>some (.map c ks xs)
 | .row=>some .row
 | .gone=>some .gone
def GP(ρ:List (Option Nat)):Es->Option Es
 |[]=>some []
 |p::l=>(CJ ρ p.1).bind fun n=>(M7 ρ p.2).bind fun e=>(GP ρ l).map fun l'=>(n,e)::l'
def Iu(es:Es):Nat->Bool
 |0=>true
 |n+1=>(zo es n).isSome&&Iu es n
theorem Zt1{es:Es}:∀{n:Nat},Iu es n=true->∀j,j<n->∃e,zo es j=some e:=by
 intro n;induction n with
 |zero=>omega
 |succ n ih=>
  intro h j hj;simp only[Iu,fD] at h;by_cases hjn:j=n
  .subst hjn;exact iK.1 h.1
  .exact ih h.2 j kn
theorem VJ{L:List Nat}:∀{n:Nat},Du (yp L) n=(L[n]?).map some:=by
 induction L with
 |nil=>intro n;rfl
 |cons x l ih=>
  intro n;cases n with
  |zero=>rfl
  |succ n=>simp[yp,Du];exact ih
theorem RF{L:List Nat}{n:Nat}:CJ (yp L) n=L[n]? :=by
 simp only[CJ,VJ]
 grind
theorem Zxx{ρ:List (Option Nat)}(hd:yj ρ=true):∀{es post:Es},GP ρ es=some post->∀n e,zo post n=some e->∃j e0,CJ ρ j=some n/\zo es j=some e0/\M7 ρ e0=some e:=by
 intro es;induction es with
 |nil=>intro post h n e hf;simp[GP] at h;subst h;cases hf
 |cons p l ih=>
  intro post h n e hf;simp only[GP,fL,fE] at h;obtain⟨m,h1,e1,h2,l',h3,rfl⟩:=h;obtain⟨pn,pe⟩:=p;rw[zv] at hf;by_cases hm:m=n
  .subst hm;rw[if_pos rfl] at hf;cases hf;exact⟨pn,pe,h1,by rw[zv,if_pos rfl],h2⟩
  .rw[if_neg hm] at hf;obtain⟨j,e0,h4,h5,h6⟩:=ih h3 n e hf;refine⟨j,e0,h4,?_,h6⟩;rw[zv,if_neg];all_goals grind
theorem Zt8{ρ:List (Option Nat)}(hd:yj ρ=true):∀{es post:Es},GP ρ es=some post->∀j e0 n,zo es j=some e0->CJ ρ j=some n->∃e,zo post n=some e:=by
 intro es;induction es with
 |nil=>intro post h j e0 n hf;cases hf
 |cons p l ih=>
  intro post h j e0 n hf hn;simp only[GP,fL,fE] at h;obtain⟨m,h1,e1,h2,l',h3,rfl⟩:=h;obtain⟨pn,pe⟩:=p;rw[zv] at hf;rw[zv]
  grind
theorem Zrf{l l':Es}{n:Nat}:zo (l++l') n=match zo l n with|some e=>some e|none=>zo l' n:=by
 induction l with
 |nil=>rfl
 |cons p l ih=>
  obtain⟨m,e⟩:=p;rw[iJ,zv,zv]
  grind
theorem cn{es:Es}{n:Nat}{e:A7}(h:zo es n=some e):(n,e)∈es:=by
 induction es with
 |nil=>cases h
 |cons p l ih=>
  obtain⟨m,x⟩:=p;rw[zv] at h
  grind
theorem Eh.more{ρ:List (Option Nat)}{pre es:Es}(hp:∀p∈pre,zo es p.1=some p.2):∀{es2:Es},Eh ρ pre es2->Eh ρ es es2:=by
 have key:∀{n e},zo pre n=some e->zo es n=some e:=fun h=>hp _ (cn h);intro es2;induction es2 with
 |nil=>intro _;trivial
 |cons p l ih=>
  intro h;refine⟨?_,ih h.2⟩;have h1:=h.1
  grind
section
variable {E:Env} {N:Nat} {o:Oper} {a:AF}
theorem AC.use{f:FuncId}{args:List V}{σ σ':Ao}{r r':V}(h:AC E f args σ r σ')(L:List Nat)(nx news:Nat){pre post:Es}(hL:L.length=σ.nx)(hn':σ'.nx=σ.nx+news)(hd:yj (yp (z9 L nx news))=true)
 (hin:Eh (yp L) pre σ.es) (hout:GP (yp (z9 L nx news)) σ'.es=some post) (hcov:Iu σ'.es σ'.nx=true) (hr':uc (yp (z9 L nx news)) r=some r')
 {g:Gh} {D:Nat->Prop} {es:Es} {w:World} (hR:R E.G g D es w) (hp:∀p∈pre,zo es p.1=some p.2) (hnew:∀n∈List.range' nx news,¬D n) (hLD:∀n∈L,D n) {vs:List Value} {cs:List V} (hl:vs.length=cs.length)
 (hr:∀(i:Nat) v c,vs[i]? =some v->cs[i]? =some c->Aq g D w v c) (hle:∃cs1,vn (yp L) args=some cs1/\BA cs cs1) {P:Ending->World->Prop}
 (hP:∀v g' w',R E.G g' (fun n=>D n\/n∈List.range' nx news) (post++es) w'->Aq g' (fun n=>D n\/n∈List.range' nx news) w' v r'->Ext D g (Av g es) w g' (Av g' (post++es)) w'->P (.returned v) w'):Calls E.P f vs.toArray w P:=by
 obtain⟨cs1,h1,h2⟩:=hle;obtain⟨_,_,h3⟩:=h;have hin':=hin.more hp;have hlen:(yp L).length=σ.nx:=by simp[yp,hL]
 have hdL:yj (yp L)=true:=by
  have:∀(l:List (Option Nat)) l',yj (l++l')=true->yj l=true:=by
   intro l;induction l with
   |nil=>intro l' _;rfl
   |cons x l ih=>
    intro l' hh;cases x with
    |none=>exact ih l' hh
    |some m=>
     simp only[iJ,yj,gC,fD] at hh ⊢
     grind
  refine this (yp L) (yp (List.range' nx news)) ?_;rw[<-hd];simp[yp,z9]
 have hRs:R E.G (g.sub (yp L)) (·<σ.nx) σ.es w:=by rw[<-hlen];exact hR.sub hdL hin'
 have hnoneL:∀n,Du (yp L) n≠some none:=fun n hc=>by rw[VJ] at hc;grind
 refine(h3 (g.sub (yp L)) w vs hRs (by rw[hl,h2.len,<-xp h1]) (fun i v c hv hc=> ?_)).mono ?_
 .obtain ⟨c1,hc1⟩:=Az (xp h1) hc;obtain⟨c0,hc0,hle⟩:=h2.nth i c1 hc1;have:=Aq.G1 (g2:=g.sub (yp L)) (hle _ _ _ _ (hr i v c0 hv hc0)) rfl (fun _ _ h=>Gh.Cx h) (fun _ _ h=>Gh.Dh h) (fun _ h=>Gh.DK h) c (um h1 i c c1 hc hc1);simp_all
 .rintro e w' ⟨v,g',rfl,hR',hv,hx⟩
  let M:=z9 L nx news
  let g3:Gh:={blk:=fun n=>if n∈List.range' nx news then g'.blk (σ.nx+(n-nx)) else g.blk n,row:=fun n=>if n∈List.range' nx news then g'.row (σ.nx+(n-nx)) else g.row n,m:=g'.m}
  have hMlen:M.length=σ'.nx:=by simp[M,z9,hL,hn']
  have hg3D:∀n,D n->g3.blk n=g.blk n/\g3.row n=g.row n:=fun n hn=>by
   grind
  have hM:∀j n,M[j]? =some n->(j<σ.nx/\L[j]? =some n/\D n)\/(σ.nx<=j/\n=nx+(j-σ.nx)/\n∈List.range' nx news):=by
   intro j n hj;by_cases hjL:j<L.length
   .rw[show M=L++List.range' nx news from rfl,gW hjL] at hj
    grind
   .rw[show M=L++List.range' nx news from rfl,gP kn] at hj
    grind
  have hg3:∀j n,CJ (yp M) j=some n->g'.blk j=g3.blk n/\g'.row j=g3.row n/\(D n\/n∈List.range' nx news):=by
   intro j n hj;rw[RF] at hj;rcases hM j n hj with⟨h4,h5,h6⟩|⟨h4,h5,h6⟩
   .have hs:CJ (yp L) j=some n:=by rw[RF];exact h5
    refine⟨?_,?_,.inl h6⟩
    .rw[hx.blk j h4,Gh.Cx hs,(hg3D n h6).1]
    .rw[hx.row j h4,Gh.Dh hs,(hg3D n h6).2]
   grind
  have hallM:∀n,Du (yp M) n≠some none:=fun n hc=>by rw[VJ] at hc;grind
  have hren:∀{v c c'},Aq g' (·<σ'.nx) w' v c'->uc (yp M) c'=some c->Aq g3 (fun n=>D n\/n∈List.range' nx news) w' v c:=fun {v c c'} hv hc=>
   Aq.M8 (g2:=g') (g:=g3) hv rfl (fun j n hj=>⟨(hg3 j n hj).1,(hg3 j n hj).2.2⟩) (fun j n hj=>(hg3 j n hj).2.1) hallM c hc
  have hfootin:∀b,Av (g.sub (yp L)) σ.es b->∃m e,m∈L/\zo es m=some e/\e.AD g m=some b:=by
   rintro b ⟨n,e2,h4,h5⟩;obtain⟨m,e,h6,h7,h8⟩:=S8 hin' h4 h5;rw[RF] at h6
   grind
  have hentfoot:∀{j n e0 e b},CJ (yp M) j=some n->M7 (yp M) e0=some e->e.AD g3 n=some b->e0.AD g' j=some b:=by
   intro j n e0 e b hj he hb;cases e0 with
   |var cs=>
    simp only[M7,fE] at he;obtain⟨cs',_,rfl⟩:=he;simp only[A7.AD] at hb ⊢
    grind
   |map c ks xs=>
    cases he;simp only[A7.AD] at hb ⊢
    grind
   |row=>cases he;simp only[A7.AD] at hb ⊢;grind
   |gone=>cases he;cases hb
  have hcase:∀n e,zo (post++es) n=some e->(∃j e0,CJ (yp M) j=some n/\zo σ'.es j=some e0/\M7 (yp M) e0=some e)\/(n∉M/\zo es n=some e):=by
   intro n e hf;rw[Zrf] at hf;cases hpn:zo post n with
   |some e1=>
    rw[hpn] at hf;simp only[fI] at hf;subst hf;exact .inl (Zxx hd hout n e1 hpn)
   |none=>
    rw[hpn] at hf;refine .inr ⟨fun hm=> ?_,hf⟩;obtain⟨j,hj⟩:=jr.1 hm;have hjlt:j<σ'.nx:=kr
    obtain⟨e0,he0⟩:=Zt1 hcov j hjlt;obtain⟨e1,he1⟩:=Zt8 hd hout j e0 n he0 (by rw[RF];exact hj)
    grind
  have hsub:∀b,Av (g.sub (yp L)) σ.es b->Av g es b:=fun b hb=>by
   obtain⟨m,e,_,h5,h6⟩:=hfootin b hb;exact⟨m,e,h5,h6⟩
  have hold:∀n e b,n∉M->zo es n=some e->e.AD g n=some b->¬Av (g.sub (yp L)) σ.es b:=by
   intro n e b hn hf hb hc;obtain⟨m,e',h4,h5,h6⟩:=hfootin b hc;have:=hR.Bd n m e e' b hf h5 hb h6;subst this;exact hn (iL _ h4)
  have holdfoot:∀n e b,n∉M->zo es n=some e->e.AD g3 n=some b->e.AD g n=some b:=by
   intro n e b hn hf hb;have h4:=hg3D n (hR.lt n e hf);cases e with
   |var cs=>simp only[A7.AD] at hb ⊢;grind
   |map c ks xs=>simp only[A7.AD] at hb ⊢;grind
   |row=>simp only[A7.AD] at hb ⊢;grind
   |gone=>cases hb
  have hext:Ext D g (Av g es) w g3 (Av g3 (post++es)) w':=by
   refine⟨hx.os,hx.tape,hx.output,hx.size,hx.cells,hx.mark,fun n hn=>(hg3D n hn).1,fun n hn=>(hg3D n hn).2,fun b hb hF=>hx.frame b hb fun hc=>hF (hsub b hc),?_⟩;rintro b ⟨n,e,h4,h5⟩;rcases hcase n e h4 with⟨j,e0,h6,h7,h8⟩|⟨h6,h7⟩
   .exact (hx.CQ b ⟨j,e0,h7,hentfoot h6 h8 h5⟩).imp (hsub b) id
   .exact .inl ⟨n,e,h7,holdfoot n e b h6 h7 h5⟩
  refine hP v g3 w' ?_ (hren hv hr') hext;refine hR.step hx.mark hx.cells (fun n hn=> .inl hn) (fun n hn=>(hg3D n hn).1) (fun n hn=>(hg3D n hn).2) (fun n e hf=> ?_) ?_ hR'.fresh
  .rcases hcase n e hf with⟨j,e0,h6,h7,h8⟩|⟨h6,h7⟩
   .refine .inr ⟨(hg3 j n h6).2.2,?_⟩;have he:=hR'.Cg j e0 h7;cases e0 with
    |var cs0=>
     simp only[M7,fE] at h8;obtain⟨cs',hcs,rfl⟩:=h8;obtain⟨h9,vs',t,h10,h11,h12,h13,h14⟩:=he;refine⟨kr,vs',t,kr,by have e1:=xp hcs;omega,h12,fun i v c hv hc=> ?_,kr⟩;obtain⟨c0,hc0⟩:=Az (xp hcs).symm hc;exact hren (h13 i v c0 hv hc0) (um hcs i c0 c hc0 hc)
    |map c ks xs=>
     cases h8;obtain⟨h9,vs',t,h10,h11,h12,h12',h13⟩:=he;refine⟨kr,vs',t,kr,h11,h12,h12',fun i v x hv hx=> ?_⟩;exact hren (h13 i v x hv hx) (V5 _ c x)
    |row=>cases h8;intro ρ' hρ';exact he ρ' kr
    |gone=>cases h8;trivial
   .refine .inl ⟨h7,fun b hb=> ?_⟩;exact hx.frame b (hR.B4 h7 hb) (hold n e b h6 h7 hb)
  .intro n n' e e' b h4 h5 h6 h7;rcases hcase n e h4 with⟨j,e0,h8,h9,h10⟩|⟨h8,h9⟩<;>rcases hcase n' e' h5 with⟨j',e0',h8',h9',h10'⟩|⟨h8',h9'⟩
   .have:=hR'.Bd j j' e0 e0' b h9 h9' (hentfoot h8 h10 h6) (hentfoot h8' h10' h7)
    grind
   .exfalso;have hb:=holdfoot n' e' b h8' h9' h7;rcases hx.CQ b ⟨j,e0,h9,hentfoot h8 h10 h6⟩ with hf|hf
    .grind
    .have:=hR.B4 h9' hb;omega
   .exfalso;have hb:=holdfoot n e b h8 h9 h6;rcases hx.CQ b ⟨j',e0',h9',hentfoot h8' h10' h7⟩ with hf|hf
    .grind
    .have:=hR.B4 h9 hb;omega
   .exact hR.Bd n n' e e' b h9 h9' (holdfoot n e b h8 h9 h6) (holdfoot n' e' b h8' h9' h7)
theorem dQ{G:D5}{L:List Nat}{pre:Es}(h:(L.all fun n=>(zo pre n).isSome)=true){g:Gh}{D:Nat->Prop}{es:Es}{w:World}(hR:R G g D es w)(hp:∀p∈pre,zo es p.1=some p.2):∀n∈L,D n:=fun n hn=>by
 obtain⟨e,he⟩:=iK.1 (fF.1 h n hn);exact hR.lt n e (hp _ (cn he))
theorem OS.Ow{f:FuncId}{xs:List Operand}{ts:Array TypeId}{cs args:List V}{σ σ':Ao}{r r':V}{L:List Nat}{nx news:Nat}{pre post:Es}(ho:o.op= .call {callee:= .value (.func f),args:=xs.toArray,argTypes:=ts})(hx:EU E a xs ts.toList=some cs)(h:AC E f args σ r σ')
 (hL:L.length=σ.nx) (hn':σ'.nx=σ.nx+news) (hd:yj (yp (z9 L nx news))=true) (hin:Eh (yp L) pre σ.es) (hout:GP (yp (z9 L nx news)) σ'.es=some post) (hcov:Iu σ'.es σ'.nx=true)
 (hr':uc (yp (z9 L nx news)) r=some r') (hLp:(L.all fun n=>(zo pre n).isSome)=true) (hle:∃cs1,vn (yp L) args=some cs1/\BA cs cs1):OS E N o a pre r' (List.range' nx news) post:=by
 intro g D es w act hR hp hn hF K Q hK;obtain⟨h1,h2⟩:=Tq hx hR hF;exact cm ho h.1 (h.use L nx news hL hn' hd hin hout hcov hr' hR hp hn (dQ hLp hR hp) h1 h2 hle fun v g' w' h3 h4 h5=>⟨v,rfl,hK g' v w' h3 h4 h5⟩)
theorem OS.LO{x:Operand}{f:FuncId}{fi caps:List V}{xs:List Operand}{ts:Array TypeId}{cs args:List V}{σ σ':Ao}{r r':V}{L:List Nat}{nx news:Nat}{pre post:Es}(ho:o.op= .call {callee:= .value x,args:=xs.toArray,argTypes:=ts})(hf:ev E 0 a x=some (.fn (.func f) fi caps))
 (hx:EU E a xs ts.toList=some cs) (h:AC E f args σ r σ')
 (hL:L.length=σ.nx) (hn':σ'.nx=σ.nx+news) (hd:yj (yp (z9 L nx news))=true) (hin:Eh (yp L) pre σ.es) (hout:GP (yp (z9 L nx news)) σ'.es=some post) (hcov:Iu σ'.es σ'.nx=true)
 (hr':uc (yp (z9 L nx news)) r=some r') (hLp:(L.all fun n=>(zo pre n).isSome)=true) (hle:∃cs1,vn (yp L) args=some cs1/\BA (fi++cs++caps) cs1):OS E N o a pre r' (List.range' nx news) post:=by
 intro g D es w act hR hp hn hF K Q hK;obtain⟨h1,h2⟩:=Tq hx hR hF;obtain⟨vs,us,h6,h7,h8,h9,h10⟩:=(yk hf hR hF).LI;refine Yhj ho h6 h.1 (h.use L nx news hL hn' hd hin hout hcov hr' hR hp hn (dQ hLp hR hp) (cs:=fi++cs++caps) kr (fun i v c hv hc=> ?_) hle fun v g' w' h3 h4 h5=>⟨v,rfl,hK g' v w' h3 h4 h5⟩)
 grind
end
def HZ(es:Es):List Nat->Option Es
 |[]=>some []
 |n::l=>(zo es n).bind fun e=>(HZ es l).map fun l'=>(n,e)::l'
theorem dy{es:Es}:∀{L:List Nat} {pre:Es},HZ es L=some pre->Iz es pre:=by
 intro L;induction L with
 |nil=>intro pre h;simp[HZ] at h;subst h;trivial
 |cons n l ih=>
  intro pre h;simp only[HZ,fL,fE] at h;obtain⟨e,h1,l',h2,rfl⟩:=h;exact⟨h1,ih h2⟩
theorem YU{es:Es}:∀{L:List Nat} {pre:Es},HZ es L=some pre->(L.all fun n=>(zo pre n).isSome)=true:=by
 have key:∀{L:List Nat} {pre:Es},HZ es L=some pre->∀n∈L,(zo pre n).isSome=true:=by
  intro L;induction L with
  |nil=>simp
  |cons n l ih=>
   intro pre h m hm;simp only[HZ,fL,fE] at h;obtain⟨e,h1,l',h2,rfl⟩:=h;rw[zv]
   grind
 grind
section
variable {E:Env} {N k:Nat} {a:AF} {σ:Ao} {Q:Exit->AF->Ao->Prop} {ops:List Oper} {dr:Bool} {rest:List Oper} {acc:List Rec}
variable {d:Option Tmp} {ty:TypeId} {ps:String} {af:Array Edge} {gd:Option (Nat×Bool)}
namespace L
theorem cb{f:FuncId}{xs:List Operand}{ts:List TypeId}{cs args cs1:List V}{σ1 σ2:Ao}{r r':V}{pre post:Es}(h:AC E f args σ1 r σ2)(L:List Nat)(news:Nat)(hw:yg ops a gd=some true)(hx:EU E a xs ts=some cs)(hpre:HZ σ.es L=some pre)
 (hL:L.length=σ1.nx) (hn':σ2.nx=σ1.nx+news) (hd:yj (yp (z9 L σ.nx news))=true) (hin:Eh (yp L) pre σ1.es) (hout:GP (yp (z9 L σ.nx news)) σ2.es=some post) (hcov:Iu σ2.es σ2.nx=true)
 (hr':uc (yp (z9 L σ.nx news)) r=some r') (hle:BA cs cs1) (hr:vn (yp L) args=some cs1) (hdst:ya N d=true)
 (h2:AX E N k dr ops rest (a.put d r') (σ.AH news post) (⟨pre,r',news,post⟩::acc) Q):AX E N k dr ops (⟨d,.call ⟨.value (.func f),xs.toArray,ts.toArray⟩,ty,ps,af,gd⟩::rest) a σ acc Q:=
 AX.run news hw (OS.Ow rfl (TJ oT hx) h hL hn' hd hin hout hcov hr' (YU hpre) ⟨cs1,hr,hle⟩) (dy hpre) hdst h2
theorem cv{x:Operand}{f:FuncId}{fi caps:List V}{xs:List Operand}{ts:List TypeId}{cs args cs1:List V}{σ1 σ2:Ao}{r r':V}{pre post:Es}(h:AC E f args σ1 r σ2)(L:List Nat)(news:Nat)(hw:yg ops a gd=some true)(hf:ev E 0 a x=some (.fn (.func f) fi caps))(hx:EU E a xs ts=some cs)
 (hpre:HZ σ.es L=some pre) (hL:L.length=σ1.nx) (hn':σ2.nx=σ1.nx+news) (hd:yj (yp (z9 L σ.nx news))=true) (hin:Eh (yp L) pre σ1.es) (hout:GP (yp (z9 L σ.nx news)) σ2.es=some post) (hcov:Iu σ2.es σ2.nx=true)
 (hr':uc (yp (z9 L σ.nx news)) r=some r') (hle:BA (fi++cs++caps) cs1) (hr:vn (yp L) args=some cs1) (hdst:ya N d=true)
 (h2:AX E N k dr ops rest (a.put d r') (σ.AH news post) (⟨pre,r',news,post⟩::acc) Q):AX E N k dr ops (⟨d,.call ⟨.value x,xs.toArray,ts.toArray⟩,ty,ps,af,gd⟩::rest) a σ acc Q:=
 AX.run news hw (OS.LO rfl (fr kD hf) (TJ (by intro y hy;simp[Op.operands,Call.operands,hy]) hx) h hL hn' hd hin hout hcov hr' (YU hpre) ⟨cs1,hr,hle⟩) (dy hpre) hdst h2
end L
end
mutual
def V.wk:V->V
 | .slice _ l=> .slice .any l
 | .agg cs=> .agg (V.Ar cs)
 | .AP cs=> .AP (V.Ar cs)
 |v=>v
def V.Ar:List V->List V
 |[]=>[]
 |c::cs=>c.wk::V.Ar cs
end
mutual
theorem Ap.wk:∀c:V,Ap c c.wk
 | .slice sp l=> .any sp l
 | .agg cs=> .agg (BA.Ar cs)
 | .AP cs=> .AP (BA.Ar cs)
 | .int _ _| .bool _| .str _| .nil| .addr _| .ptr _ _| .arr _ _ _| .mp _| .nilp| .fn _ _ _| .nilf| .raw _| .ifc _ _=> .refl _
theorem BA.Ar:∀cs:List V,BA cs (V.Ar cs)
 |[]=>trivial
 |c::cs=>⟨Ap.wk c,BA.Ar cs⟩
end
theorem OS.mul{E:Env}{N:Nat}{o:Oper}{a:AF}{t u:TypeId}{x y:Operand}{n m:Int}(ho:o.op= .binOp .mul t x y u)(hx:ev E t a x=some (.i n))(hy:ev E t a y=some (.i m))(h1: -9223372036854775808<=n*m)(h2:n*m<=9223372036854775807):
 OS E N o a [] (.i (n*m)) [] []:=by
 have:=OS.bin (N:=N) (c:= .int .i64 (IntKind.i64.wrap (n*m))) ho hx hy rfl
 rwa [IntWalk.i64_in _ kn] at this
section
variable {E:Env} {N k:Nat} {a:AF} {σ:Ao}
theorem K.r1{rs:List ResultVar}{r:V}{cs:List V}{c1:V}(h1:GU E a σ.es rs=some cs)(h7:uc [] r=some c1)(h8:(zn cs).wk=c1):FT E 0 rs r ⟨0,[]⟩ .ret a σ:=
 K.r0 h1 h7 (h8▸Ap.wk _)
theorem K.n1{rs:List ResultVar}{r:V}{cs:List V}{c1:V}(h1:GU E a σ.es rs=some cs)(h7:uc [] r=some c1)(h8:(zn cs).wk=c1):FT E 0 rs r ⟨0,[]⟩ .normal a σ:=
 K.r1 (rs:=rs) h1 h7 h8
theorem K.r2{rs:List ResultVar}{r:V}{σ':Ao}{cs:List V}{c1:V}(ρ:List (Option Nat))(h1:GU E a σ.es rs=some cs)(h2:ρ.length=σ'.nx)(h3:HR 0 k ρ=true)(h4:yj ρ=true)(h5:below σ.nx ρ=true)
 (h6:Eh ρ σ.es σ'.es) (h7:uc ρ r=some c1) (h8:(zn cs).wk=c1):FT E k rs r σ' .ret a σ:=K.rt ρ h1 h2 h3 h4 h5 h6 h7 (h8▸Ap.wk _)
theorem K.n2{rs:List ResultVar}{r:V}{σ':Ao}{cs:List V}{c1:V}(ρ:List (Option Nat))(h1:GU E a σ.es rs=some cs)(h2:ρ.length=σ'.nx)(h3:HR 0 k ρ=true)(h4:yj ρ=true)(h5:below σ.nx ρ=true)
 (h6:Eh ρ σ.es σ'.es) (h7:uc ρ r=some c1) (h8:(zn cs).wk=c1):FT E k rs r σ' .normal a σ:=K.r2 (rs:=rs) ρ h1 h2 h3 h4 h5 h6 h7 h8
variable {Q:Exit->AF->Ao->Prop} {ops:List Oper} {dr:Bool} {rest:List Oper} {acc:List Rec}
variable {d:Option Tmp} {ty:TypeId} {ps:String} {af:Array Edge} {gd:Option (Nat×Bool)}
namespace L
theorem cw{t:TypeId}{s x:Operand}{z:Nat}{zr:List V}{e:EC}{co:Option EC}{sz bytes:Nat}{sp sp':Sp}{l l':List e.sem}(hw:yg ops a gd=some true)(hs:ev E t a s=some (.slice sp (.t e l)))(hx:ev E t a x=some (.slice sp' (.t e l')))(ht:E.ti t=some ⟨z,zr,.slc co sz bytes⟩)
 (hsp:Ro sp=true) (hsz:Nat.beq e.cells sz=true) (hp:Iz σ.es (Kr sp)) (hd:ya N d=true) (hby:Nat.ble bytes 128=true)
 (hb:l.length+l'.length<=1099511627776) (h2:AX E N k dr ops rest (a.put d (.slice (.own σ.nx) (.t e (l++l')))) (σ.AH 1 (K6 σ.nx sp)) (⟨Kr sp,.slice (.own σ.nx) (.t e (l++l')),1,K6 σ.nx sp⟩::acc) Q):
 AX E N k dr ops (⟨d,.call ⟨.builtin .append,#[s,x],#[t,t]⟩,ty,ps,af,gd⟩::rest) a σ acc Q:=
 L.ap hw hs hx ht hsp (l2:= .t e (l++l')) (by simp[SL.app]) hsz hp hd
  (by
   have h3:bytes<=128:=fP hby;have h4:(l.length+l'.length)*bytes<=1099511627776*128:=iD hb h3;exact⟨mR,mR⟩) h2
theorem PF{t:TypeId}{s x:Operand}{z:Nat}{zr:List V}{e:EC}{co:Option EC}{sz bytes:Nat}{sp':Sp}{l l':List e.sem}(hw:yg ops a gd=some true)(hs:ev E t a s=some (.slice .full (.t e l)))(hx:ev E t a x=some (.slice sp' (.t e l')))(ht:E.ti t=some ⟨z,zr,.slc co sz bytes⟩)
 (hsp:0<l'.length) (hsz:Nat.beq e.cells sz=true) (hd:ya N d=true) (hby:Nat.ble bytes 128=true)
 (hb:l.length+l'.length<=1099511627776) (h2:AX E N k dr ops rest (a.put d (.slice (.own σ.nx) (.t e (l++l')))) (σ.AH 1 [(σ.nx,.row)]) (⟨[],.slice (.own σ.nx) (.t e (l++l')),1,[(σ.nx,.row)]⟩::acc) Q):
 AX E N k dr ops (⟨d,.call ⟨.builtin .append,#[s,x],#[t,t]⟩,ty,ps,af,gd⟩::rest) a σ acc Q:=
 L.apF hw hs hx ht ⟨rfl,hsp⟩ (l2:= .t e (l++l')) (by simp[SL.app]) hsz trivial hd
  (by
   have h3:bytes<=128:=fP hby;have h4:(l.length+l'.length)*bytes<=1099511627776*128:=iD hb h3;exact⟨mR,mR⟩) h2
theorem ml{t u:TypeId}{x y:Operand}{n m:Int}(hw:yg ops a gd=some true)(hx:ev E t a x=some (.int .i64 n))(hy:ev E t a y=some (.int .i64 m))(hd:ya N d=true)(h1: -9223372036854775808<=n*m/\n*m<=9223372036854775807)
 (h2:AX E N k dr ops rest (a.put d (.int .i64 (n*m))) σ (⟨[],.int .i64 (n*m),0,[]⟩::acc) Q):AX E N k dr ops (⟨d,.binOp .mul t x y u,ty,ps,af,gd⟩::rest) a σ acc Q:=
 AX.run 0 hw (OS.mul rfl (fr kD hx) (fr kD hy) h1.1 h1.2) trivial hd h2
theorem rm{t u:TypeId}{x y:Operand}{kd:IntKind}{n m:Int}(hw:yg ops a gd=some true)(hx:ev E t a x=some (.int kd n))(hy:ev E t a y=some (.int kd m))(hd:ya N d=true)(h1:m≠0)
 (h2:AX E N k dr ops rest (a.put d (.int kd (n.tmod m))) σ (⟨[],.int kd (n.tmod m),0,[]⟩::acc) Q):AX E N k dr ops (⟨d,.binOp .rem t x y u,ty,ps,af,gd⟩::rest) a σ acc Q:=
 AX.run 0 hw (OS.rem rfl (fr kD hx) (fr kD hy) h1) trivial hd h2
theorem c2{f:FuncId}{xs:List Operand}{ts:List TypeId}{cs args:List V}{r:V}(h:PC E f args r)(hw:yg ops a gd=some true)(hx:EU E a xs ts=some cs)(hr:vn [] args=some (V.Ar cs))(hd:ya N d=true)
 (h2:AX E N k dr ops rest (a.put d r) σ (⟨[],r,0,[]⟩::acc) Q):AX E N k dr ops (⟨d,.call ⟨.value (.func f),xs.toArray,ts.toArray⟩,ty,ps,af,gd⟩::rest) a σ acc Q:=
 L.c0 h hw hx hr (BA.Ar cs) hd h2
theorem N3{f:FuncId}{xs:List Operand}{ts:List TypeId}{cs args:List V}{σ1 σ2:Ao}{r r':V}{pre post:Es}(h:AC E f args σ1 r σ2)(L:List Nat)(news:Nat)(hw:yg ops a gd=some true)(hx:EU E a xs ts=some cs)(hpre:HZ σ.es L=some pre)
 (hL:L.length=σ1.nx) (hn':σ2.nx=σ1.nx+news) (hd:yj (yp (z9 L σ.nx news))=true) (hr:vn (yp L) args=some (V.Ar cs)) (hin:Eh (yp L) pre σ1.es) (hout:GP (yp (z9 L σ.nx news)) σ2.es=some post) (hcov:Iu σ2.es σ2.nx=true)
 (hr':uc (yp (z9 L σ.nx news)) r=some r') (hdst:ya N d=true)
 (h2:AX E N k dr ops rest (a.put d r') (σ.AH news post) (⟨pre,r',news,post⟩::acc) Q):AX E N k dr ops (⟨d,.call ⟨.value (.func f),xs.toArray,ts.toArray⟩,ty,ps,af,gd⟩::rest) a σ acc Q:=
 Go.Ab.L.cb h L news hw hx hpre hL hn' hd hin hout hcov hr' (BA.Ar cs) hr hdst h2
theorem cv2{x:Operand}{f:FuncId}{fi caps:List V}{xs:List Operand}{ts:List TypeId}{cs args:List V}{σ1 σ2:Ao}{r r':V}{pre post:Es}(h:AC E f args σ1 r σ2)(L:List Nat)(news:Nat)(hw:yg ops a gd=some true)(hf:ev E 0 a x=some (.fn (.func f) fi caps))(hx:EU E a xs ts=some cs)
 (hpre:HZ σ.es L=some pre) (hL:L.length=σ1.nx) (hn':σ2.nx=σ1.nx+news) (hd:yj (yp (z9 L σ.nx news))=true) (hr:vn (yp L) args=some (V.Ar (fi++cs++caps))) (hin:Eh (yp L) pre σ1.es) (hout:GP (yp (z9 L σ.nx news)) σ2.es=some post) (hcov:Iu σ2.es σ2.nx=true)
 (hr':uc (yp (z9 L σ.nx news)) r=some r') (hdst:ya N d=true)
 (h2:AX E N k dr ops rest (a.put d r') (σ.AH news post) (⟨pre,r',news,post⟩::acc) Q):AX E N k dr ops (⟨d,.call ⟨.value x,xs.toArray,ts.toArray⟩,ty,ps,af,gd⟩::rest) a σ acc Q:=
 Go.Ab.L.cv h L news hw hf hx hpre hL hn' hd hin hout hcov hr' (BA.Ar _) hr hdst h2
theorem Nw{t:TypeId}{x:Operand}{z:Nat}{zr:List V}{e:EC}{sz bytes:Nat}{c:V}{vc:List V}{y:e.sem}(hw:yg ops a gd=some true)(ht:E.ti t=some ⟨z,zr,.slc (some e) sz bytes⟩)(hev:ev E 0 a x=some c)(hcs:cellsOf c=some vc)(hsz:Nat.beq vc.length sz=true)(hf:e.fold vc=some y)
 (hb:Nat.ble (1*sz) 16777216=true) (hd:ya N d=true) (h2:AX E N k dr ops rest (a.put d (.slice .full (.t e [y]))) σ (⟨[],.slice .full (.t e [y]),0,[]⟩::acc) Q):
 AX E N k dr ops (⟨d,.buildSlice t 1 #[(0,x)],ty,ps,af,gd⟩::rest) a σ acc Q:=
 L.bs (pp:=[(0,x)]) (cs:=[c]) (vcs:=[vc]) 0 hw ht rfl rfl (by simp[Fo,hev]) (by simp[ES,hcs]) kr (by simp[Kf,ES,hf]) hb hd h2
theorem Qa{t:TypeId}{x x':Operand}{z:Nat}{zr:List V}{e:EC}{sz bytes:Nat}{c c':V}{vc vc':List V}{y y':e.sem}(hw:yg ops a gd=some true)(ht:E.ti t=some ⟨z,zr,.slc (some e) sz bytes⟩)(hev:ev E 0 a x=some c)(hcs:cellsOf c=some vc)(hsz:Nat.beq vc.length sz=true)(hf:e.fold vc=some y)
 (hev':ev E 0 a x'=some c') (hcs':cellsOf c'=some vc') (hsz':Nat.beq vc'.length sz=true) (hf':e.fold vc'=some y')
 (hb:Nat.ble (2*sz) 16777216=true) (hd:ya N d=true) (h2:AX E N k dr ops rest (a.put d (.slice .full (.t e [y,y']))) σ (⟨[],.slice .full (.t e [y,y']),0,[]⟩::acc) Q):
 AX E N k dr ops (⟨d,.buildSlice t 2 #[(0,x),(1,x')],ty,ps,af,gd⟩::rest) a σ acc Q:=
 L.bs (pp:=[(0,x),(1,x')]) (cs:=[c,c']) (vcs:=[vc,vc']) 0 hw ht rfl rfl (by simp[Fo,hev,hev']) (by simp[ES,hcs,hcs']) kr (by simp[Kf,ES,hf,hf']) hb hd h2
theorem RP{t:TypeId}{x x' x2:Operand}{z:Nat}{zr:List V}{e:EC}{sz bytes:Nat}{c c' c2:V}{vc vc' vc2:List V}{y y' y2:e.sem}(hw:yg ops a gd=some true)(ht:E.ti t=some ⟨z,zr,.slc (some e) sz bytes⟩)(hev:ev E 0 a x=some c)(hcs:cellsOf c=some vc)(hsz:Nat.beq vc.length sz=true)(hf:e.fold vc=some y)
 (hev':ev E 0 a x'=some c') (hcs':cellsOf c'=some vc') (hsz':Nat.beq vc'.length sz=true) (hf':e.fold vc'=some y') (hev2:ev E 0 a x2=some c2) (hcs2:cellsOf c2=some vc2) (hsz2:Nat.beq vc2.length sz=true) (hf2:e.fold vc2=some y2)
 (hb:Nat.ble (3*sz) 16777216=true) (hd:ya N d=true) (h2:AX E N k dr ops rest (a.put d (.slice .full (.t e [y,y',y2]))) σ (⟨[],.slice .full (.t e [y,y',y2]),0,[]⟩::acc) Q):
 AX E N k dr ops (⟨d,.buildSlice t 3 #[(0,x),(1,x'),(2,x2)],ty,ps,af,gd⟩::rest) a σ acc Q:=
 L.bs (pp:=[(0,x),(1,x'),(2,x2)]) (cs:=[c,c',c2]) (vcs:=[vc,vc',vc2]) 0 hw ht rfl rfl (by simp[Fo,hev,hev',hev2]) (by simp[ES,hcs,hcs',hcs2]) kr (by simp[Kf,ES,hf,hf',hf2]) hb hd h2
end L
end
theorem EC.BL{e:EC}{y:e.sem}{vc:List V}(h:vc=e.view y):e.fold vc=some y:=by
 subst h;cases e with
 |ty=>cases y;rfl
 |tm=>rcases y with⟨_,_,⟨_,_⟩,_⟩;rfl
 |vl=>cases y;rfl
 |fm=>rcases y with⟨_,⟨_,_⟩,_,_⟩;rfl
 |pf=>rcases y with⟨_,_,⟨_,_⟩,_,_,_⟩;rfl
 |gl=>rcases y with⟨⟨_,_⟩,⟨_,⟨_,_⟩,_,_⟩⟩;rfl
 |st=>rfl
 |sz=>rcases y with⟨⟨_,_⟩,_⟩;rfl
 |tk=>rfl
 |int=>rfl
 |u8=>rfl
 |str=>rfl
 |tys=>rfl
 |A6=>rfl
 |bl=>rfl
 |rs=>rcases y with⟨_,_,_,⟨_,_,⟨_,_⟩,_⟩,_⟩;rfl
section
variable {E:Env} {N k:Nat} {a:AF} {σ:Ao} {Q:Exit->AF->Ao->Prop}
def W6(E:Env)(N k:Nat)(B:Nat)(v p q:Tmp)(m:Nat)(P:Nat->Prop)(J:Nat->AF×Ao)(Q:Exit->AF->Ao->Prop):Exit->AF->Ao->Prop
 | .normal,a,σ=>a.get v=some (.int .i64 ((m+1:Nat):Int))/\P m/\Bg E N k ((v,.int .i64 (m:Int))::(q,.int .i64 (m:Int))::(p,.int .i64 ((m+1:Nat):Int))::a) σ (J m).1 (J m).2
 | .exit id,a,σ=>bif Nat.beq id B then Q .normal a σ else Q (.exit id) a σ
 |e,a,σ=>Q e a σ
theorem AW.down{B C r1 r2:Nat}{c v p p2 q:Tmp}{T T' T2 T3:TypeId}{ty0 ty1 ty2 ty3 ty4:TypeId}{s0 s1 s2 s3 s4:String}{af0 af1 af2 af3 af4:Array Edge}{body:Code}(len:Nat)(P:Nat->Prop)(J:Nat->AF×Ao)(hlen:len<4611686018427387904)
 (hv:∀m,(J m).1.get v=some (.int .i64 m)) (hd:(ya N (some c)&&ya N (some p)&&ya N (some p2)&&ya N (some q)&&ya N (some v)&&(!Nat.beq q p2)&&(!Nat.beq p2 v))=true) (hP:P len) (h0:Bg E N k a σ (J len).1 (J len).2)
 (hb:∀m,m<len->P (m+1)->AW E N k body ((c,.bool true)::(p,.int .i64 ((m+1:Nat):Int))::(J (m+1)).1) (J (m+1)).2 (uq C (W6 E N k B v p2 q m P J Q)))
 (he:P 0->Q .normal ((c,.bool false)::(p,.int .i64 ((0:Nat):Int))::(J 0).1) (J 0).2):
 AW E N k (.block B (.loop (.seq (.seq (.region r1 #[⟨some p,.move (.tmp v),ty0,s0,af0,none⟩,⟨some c,.binOp .gtr T (.tmp p) (.const (.int .i64 0)) T',ty1,s1,af1,none⟩] false)
  (.cond (.tmp c) .skip (.exit B))) (.seq (.block C body)
   (.region r2 #[⟨some p2,.move (.tmp v),ty2,s2,af2,none⟩,⟨some q,.binOp .sub T2 (.tmp p2) (.const (.int .i64 1)) T3,ty3,s3,af3,none⟩,⟨some v,.assign (.tmp q),ty4,s4,af4,none⟩] false))))) a σ Q:=by
 simp only[fD] at hd;obtain⟨⟨⟨⟨⟨⟨hd1,hd2⟩,hd3⟩,hd4⟩,hd5⟩,hd6⟩,hd7⟩:=hd;refine .block (.loop (ι:={m:Nat // m<=len/\P m}) (fun m=>J m.1) (fun m=>m.1) ⟨len,fB _,hP⟩ h0 fun⟨m,hm,hPm⟩=> ?_);refine .seq (.seq (.A5 (L.mv rfl (hv m) hd2 (L.bn rfl (show ev E T _ (.tmp p)=some (.int .i64 (m:Int)) by simp[ev,AF.put,AF.get]) (show ev E T _ (.const (.int .i64 0))=some (.int .i64 0) from rfl) rfl hd1 (.Bh ?_)))));show AW E N k _ ((c,.bool (decide ((m:Int)>0)))::(p,.int .i64 (m:Int))::(J m).1) (J m).2 _;cases m with
 |succ m=>
  have hdec:decide (((m+1:Nat):Int)>0)=true:=ko
  rw[hdec];refine .Cn ni (.skip ?_);show AW E N k _ _ _ _;refine .seq (.block ((hb m kn hPm).mono ?_));rintro e a1 σ1 hq;have hnorm:W6 E N k B v p2 q m P J Q .normal a1 σ1->J6 E N k (.region r2 #[⟨some p2,.move (.tmp v),ty2,s2,af2,none⟩,⟨some q,.binOp .sub T2 (.tmp p2) (.const (.int .i64 1)) T3,ty3,s3,af3,none⟩,⟨some v,.assign (.tmp q),ty4,s4,af4,none⟩] false)
   (N9 E N k (fun m:{m:Nat // m<=len/\P m}=>J m.1) (fun m=>m.1) ⟨m+1,hm,hPm⟩ (uq B Q)) .normal a1 σ1:=by
   rintro⟨h1,h2,h3⟩;show AW E N k _ _ _ _;refine .A5 (L.mv rfl h1 hd3 (L.sb rfl (show ev E T2 _ (.tmp p2)=some (.int .i64 ((m+1:Nat):Int)) by simp[ev,AF.put,AF.get]) (show ev E T2 _ (.const (.int .i64 1))=some (.int .i64 1) from rfl) hd4 kn
    (L.DB rfl (show ev E ty4 _ (.tmp q)=some (.int .i64 (((m+1:Nat):Int)-1)) by simp[ev,AF.put,AF.get]) hd5 (.Bh ?_))))
   rw[show(((m+1:Nat):Int)-1)=(m:Int) from kn];exact⟨⟨m,kn,h2⟩,ko,h3⟩
  cases e with
  |normal=>exact hnorm hq
  |exit id=>
   exact r5
  |goto l=>exact hq
  |ret=>exact hq
  |panic ch=>exact hq
  |outgrown=>exact hq
 |zero=>
  have hdec:decide (((0:Nat):Int)>0)=false:=ko
  rw[hdec];refine .Cp ni (.exit ?_);show uq B Q (.exit B) _ _;simp only[uq,jC,cond_true]
  grind
namespace K
theorem dR{B:Nat}{i d q:Tmp}{m:Nat}{P:Nat->Prop}{J:Nat->AF×Ao}(h:Q .ret a σ):W6 E N k B i d q m P J Q .ret a σ:=h
end K
end
section
variable {E:Env} {N k:Nat} {a:AF} {σ:Ao} {Q:Exit->AF->Ao->Prop}
def VC(E:Env)(N k:Nat)(B:Nat)(v p q:Tmp)(m:Nat)(P:Nat->Prop)(J:Nat->AF×Ao)(Q:Exit->AF->Ao->Prop):Exit->AF->Ao->Prop
 | .normal,a,σ=>a.get v=some (.int .i64 (((m+1:Nat):Int)-1))/\P m/\Bg E N k ((v,.int .i64 ((m:Int)-1))::(q,.int .i64 ((m:Int)-1))::(p,.int .i64 (((m+1:Nat):Int)-1))::a) σ (J m).1 (J m).2
 | .exit id,a,σ=>bif Nat.beq id B then Q .normal a σ else Q (.exit id) a σ
 |e,a,σ=>Q e a σ
namespace K
theorem hR{B:Nat}{i d q:Tmp}{m:Nat}{P:Nat->Prop}{J:Nat->AF×Ao}(h:Q .ret a σ):VC E N k B i d q m P J Q .ret a σ:=h
end K
variable {ops:List Oper} {dr:Bool} {rest:List Oper} {acc:List Rec} {d:Option Tmp} {ty:TypeId} {ps:String} {af:Array Edge} {gd:Option (Nat×Bool)}
end
theorem KX(c:EC)(xs:List c.sem):(xs.flatMap c.view).length=xs.length*c.cells:=by
 induction xs with
 |nil=>simp
 |cons x xs ih=>rw[gx,ga,ih,EC.Bk,fQ,iw];omega
theorem PD(c:EC):∀(xs:List c.sem) (i j:Nat),j<c.cells->(xs.flatMap c.view)[i*c.cells+j]? =(xs[i]?).bind fun x=>(c.view x)[j]?
 |[],i,j,hj=>ko
 |x::xs,0,j,hj=>by
  rw[gx,kK,gN,gW (by rw[EC.Bk];exact hj)]
  rfl
 |x::xs,i+1,j,hj=>by
  have h1:(i+1)*c.cells+j=(c.view x).length+(i*c.cells+j):=by rw[EC.Bk,iw];omega
  rw[gx,h1,gP kn,iU,PD c xs i j hj]
  rfl
theorem Yj(c:EC):∀(xs:List c.sem) (i:Nat) (y:c.sem),i<xs.length->(xs.flatMap c.view).take (i*c.cells)++c.view y++(xs.flatMap c.view).drop (i*c.cells+c.cells)=(xs.set i y).flatMap c.view
 |[],i,y,hi=>kr
 |x::xs,0,y,_=>by
  rw[gx,iP,gx,kK,gN,gF,gz];congr 1;have:=EC.Bk c x
  grind
 |x::xs,i+1,y,hi=>by
  have h0:=EC.Bk c x;have h1:(i+1)*c.cells=(c.view x).length+i*c.cells:=kr
  have h2:(i+1)*c.cells+c.cells=(c.view x).length+(i*c.cells+c.cells):=kn
  rw[gx,List.set_cons_succ,gx,h2,h1,jR,List.take_append];rw[jl kn,j4 kn,iU,iU,gz,fK,fK];rw[<-Yj c xs i y kr,fK]
theorem Yd{z:Array Value}(h:∀v∈z.toList,v.oneCell'=true)(n:Nat):∀v∈(Builtin.zeroCells z n).toList,v.oneCell'=true:=by
 intro v hv;simp only[Builtin.zeroCells,Array.toList_map,fO] at hv;obtain⟨i,hi,rfl⟩:=hv;have hi':i<n*z.size:=kr
 have hpos:0<z.size:=by
  grind
 have hlt:i%z.size<z.size:=jW _ hpos
 grind
section
variable {E:Env} {N k:Nat} {o:Oper} {a:AF}
theorem Tp(D:Nat->Prop)(g:Gh)(n:Nat)(w:World){b len cap sz:Nat}(h:len<=cap):Aq (g.AU n b (some ⟨b,0,cap,sz,0⟩)) (fun i=>D i\/i∈[n]) w (.slice (some ⟨b,0,none⟩) len cap) (.arr n len sz):=by
 have h:=Aq.arr (g:=g.AU n b (some ⟨b,0,cap,sz,0⟩)) (D:=fun i=>D i\/i∈[n]) (w:=w) n len sz cap (Or.inr (gp.2 rfl)) h l9;have hb:(g.AU n b (some ⟨b,0,cap,sz,0⟩)).blk n=b:=l9
 grind
theorem OS.Kg{t te:TypeId}{s x:Operand}{i ie:TI}{co:Option EC}{c:EC}{sz bytes n:Nat}{sp':Sp}{l0:SL V}{l:List c.sem}(ho:o.op= .call {callee:= .builtin .append,args:= #[s,x],argTypes:= #[t,t]})
 (ht:E.ti t=some i) (hd:i.desc= .slc co sz bytes) (hte:E.P.underlying t=some (.slice te)) (hti:E.ti te=some ie) (hs:ev E t a s=some (.slice .nil l0)) (hx:ev E t a x=some (.slice sp' (.t c l))) (hpos:0<l.length)
 (hsz:Nat.beq c.cells sz=true) (hb:l.length*bytes<=140737488355328) (hb2:l.length<=9223372036854775807):OS E N o a [] (.arr n l.length sz) [n] [(n,.var (l.flatMap c.view))]:=
 .of_run fun g D es w act hR hp hn hF=>by
  obtain⟨e,inf,z,h1,h2,h3,h4,h5,h6,h7,h8⟩:=La ht hd;obtain rfl:e=te:=kr
  have hcs:c.cells=sz:=gA hsz;have hn':¬D n:=hn n ko;have hvs:=yk hs hR hF;have hdx:=(yk hx hR hF).Bq;obtain⟨xb,xc,hxv⟩:=hdx.Bq;obtain⟨news,hnl,hn1,hnf,hnr,hnl2⟩:=hdx.Df;rw[hxv] at hnf;have hsv:act.eval s= .slice none 0 0:=by
   generalize hv:act.eval s=v at hvs;cases hvs with
   |data h=>cases h
   |nilS _ h=>rfl
  have hsz':c.cells=inf.size:=kn
  have hrun:=N4 (P:=E.P) (w:=w) (ty:=o.type) h1 h2 h5 (base:=none) (sLen:=0) (sCap:=0) (xb:=xb) (n:=l.length) (xc:=xc) (olds:=[]) (news:=news) (fun W _=>kz)
   (fun W hW=>by rw[<-hsz'];exact hnf W hW E.P) kn kr kn
  have hge:=grownCap_ge w (0+l.length) 0 e;obtain⟨inf2,hi1,hi2,z2,hi3,hi4⟩:=MO hti;have hz1:∀v∈z.cells.toList,v.oneCell'=true:=by
   exact ta
  obtain⟨hR',hx'⟩:=hR.drew.J8 hn' (some ⟨w.heap.size,0,grownCap w (0+l.length) 0 e,sz,0⟩) (vs:=[]++news++(Builtin.zeroCells z.cells (grownCap w (0+l.length) 0 e-(0+l.length))).toList) (cs:=l.flatMap c.view) e
   (by
    rw[KX,gz,ga,hnl];show l.length*c.cells<=_;simp only[SL.len,SL.cells];omega)
   (fun v hv=>by
    rw[gz] at hv;rcases fV.1 hv with hv|hv
    .grind
    .exact Yd hz1 _ v hv)
   (fun q v d hv hd=>by
    have hc0:0<c.cells:=kn
    have hq:=(fZ.1 hd).1;rw[KX] at hq;have hqi:q/c.cells<l.length:=(jo hc0).2 hq;have hqj:q%c.cells<c.cells:=jW _ hc0;have hqe:q/c.cells*c.cells+q%c.cells=q:=by rw[jY];exact j6 q c.cells
    have hd':=hd;rw[<-hqe,PD c l _ _ hqj,fG hqi] at hd';have hd2:(c.view l[q/c.cells])[q%c.cells]? =some d:=hd';obtain⟨u,hu,hdr⟩:=hnr (q/c.cells) (q%c.cells) (c.view l[q/c.cells]) d pP hd2 hqi hqj;have hu':news[q]? =some u:=by rw[<-hqe];exact hu
    have hqn:=(fZ.1 hu').1;rw[gz,gW hqn,hu'] at hv;cases hv;exact .data (hdr.mono (fun _=>fB _) (fun _ _ _=>rfl)))
   (fun r hr=>by
    cases hr;simp only[ga,gz,jz,size_zeroCells,hnl,h6];show l.length*c.cells+(grownCap w (0+l.length) 0 e-(0+l.length))*sz=grownCap w (0+l.length) 0 e*sz;rw[hcs,<-iw]
    grind)
  refine⟨_,.slice (some ⟨w.heap.size,0,none⟩) (0+l.length) (grownCap w (0+l.length) 0 e),_,?_,hR'.more (fun i hi=>kr),?_,Ext.drew.trans hx'⟩
  .have hxv':act.eval x= .slice xb l.length xc:=hxv;simp only[gz] at hrun;simp[execOp,ho,resolve,invoke,builtin,hsv,hxv',hrun]
  .have h9:=Tp D g n (w.drew.alloc (.cells ([]++news++(Builtin.zeroCells z.cells (grownCap w (0+l.length) 0 e-(0+l.length))).toList).toArray e)) (b:=w.drew.heap.size) (len:=l.length) (cap:=grownCap w (0+l.length) 0 e) (sz:=sz) kn;simp_all
theorem OS.Lv{t:TypeId}{x y:Operand}{i:TI}{co:Option EC}{sz bytes p len:Nat}{n:Int}{kk:Nat}{kd:IntKind}(ho:o.op= .indexAddr t x y)(ht:E.ti t=some i)(hd:i.desc= .slc co sz bytes)
 (hx:ev E t a x=some (.arr p len sz)) (hy:ev E 0 a y=some (.int kd n)) (hn:n=kk) (hlt:kk<len):OS E N o a [] (.ptr p (kk*sz)) [] []:=
 .pure fun g D es w act hR _ hF=>by
  obtain⟨e,inf,z,h1,h2,h3,h4,h5,h6,h7,h8⟩:=La ht hd;have h8':=yk hx hR hF;have hi:=(yk hy hR hF).BS;generalize hxv:act.eval x=v at h8';cases h8' with
  |data h=>cases h
  |arr _ _ _ cap hD hcap _=>
   refine⟨.pointer (some ⟨g.blk p,0+kk*sz,none⟩),?_,by rw[gN];exact .ptr p _ hD⟩;have h11:0<=n/\n<(len:Int):=kn
   have h12:n.toNat=kk:=kn
   have hpi:=run_indexAt_slice (P:=E.P) w t ⟨g.blk p,0,none⟩ len cap kd n (by simp[Program.elem,h1]);rw[if_pos h11,show E.P.elem t=e by simp[Program.elem,h1],vq h2] at hpi;simp only[Result.andThen_ok,h12,h3,IK] at hpi;simp[execOp,ho,hxv,hi,hpi]
end
mutual
def V.B8(n:Nat)(s:V):V->V
 | .arr m k z=>bif Nat.beq m n then s else .arr m k z
 | .agg cs=> .agg (V.Gc n s cs)
 | .AP cs=> .AP (V.Gc n s cs)
 | .fn f fi caps=> .fn f (V.Gc n s fi) (V.Gc n s caps)
 |v=>v
def V.Gc(n:Nat)(s:V):List V->List V
 |[]=>[]
 |c::cs=>V.B8 n s c::V.Gc n s cs
end
mutual
def V.BZ(n len:Nat):V->Prop
 | .arr m k _=>m=n->k=len
 | .agg cs=>V.C9 n len cs
 | .AP cs=>V.C9 n len cs
 | .fn _ fi caps=>V.C9 n len fi/\V.C9 n len caps
 |_=>True
def V.C9(n len:Nat):List V->Prop
 |[]=>True
 |c::cs=>V.BZ n len c/\V.C9 n len cs
end
theorem V.CT(n:Nat)(s:V):∀cs,V.Gc n s cs=cs.map (V.B8 n s)
 |[]=>rfl
 |c::cs=>by rw[V.Gc,V.CT n s cs];rfl
theorem V.CA{n len:Nat}:∀{cs:List V},V.C9 n len cs->∀(i:Nat) c,cs[i]? =some c->V.BZ n len c
 |[],_,i,c,h=>kr
 |x::l,hh,i,c,h=>by
  cases i with
  |zero=>simp at h;subst h;exact hh.1
  |succ i=>exact V.CA hh.2 i c kr
theorem Zxv(n len:Nat)(c:EC)(x:c.sem):V.BZ n len (HI c x):=by cases c<;>simp[HI,EC.view,V.BZ,V.C9,Ty.view,Tm.view,Vl.view,Fm.view,Pf.view,Gl.view,St.view,Sz.view,Tk.view,Ed.view]
theorem Yhv(n:Nat)(s:V)(c:EC)(x:c.sem):V.B8 n s (HI c x)=HI c x:=mC
def A7.B8(n:Nat)(s:V):A7->A7
 | .var cs=> .var (V.Gc n s cs)
 |e=>e
def A7.BZ(n len:Nat):A7->Prop
 | .var cs=>V.C9 n len cs
 |_=>True
def Es.B8(n:Nat)(s:V):Es->Es
 |[]=>[]
 |p::l=>(p.1,A7.B8 n s p.2)::Es.B8 n s l
def Es.BZ(n len:Nat):Es->Prop
 |[]=>True
 |p::l=>(p.1≠n->A7.BZ n len p.2)/\Es.BZ n len l
def AF.B8(n:Nat)(s:V):AF->AF
 |[]=>[]
 |p::l=>(p.1,V.B8 n s p.2)::AF.B8 n s l
def AF.BZ(n len:Nat):AF->Prop
 |[]=>True
 |p::l=>V.BZ n len p.2/\AF.BZ n len l
theorem AF.E3{n len:Nat}:∀{a:AF},AF.BZ n len a->∀t c,a.get t=some c->V.BZ n len c
 |[],_,t,c,h=>kM
 |p::l,hh,t,c,h=>by
  obtain⟨m,d⟩:=p;rw[AF.Bf] at h;by_cases hm:m=t
  .rw[if_pos hm] at h;cases h;exact hh.1
  .rw[if_neg hm] at h;exact AF.E3 hh.2 t c h
theorem Es.EH{n len:Nat}:∀{es:Es},Es.BZ n len es->∀t e,t≠n->zo es t=some e->A7.BZ n len e
 |[],_,t,c,_,h=>kM
 |p::l,hh,t,c,hn,h=>by
  obtain⟨m,d⟩:=p;rw[zv] at h;by_cases hm:m=t
  .rw[if_pos hm] at h;cases h;exact hh.1 kn
  .rw[if_neg hm] at h;exact Es.EH hh.2 t c hn h
theorem AF.G8(n:Nat)(s:V):∀(a:AF) (t:Nat),(AF.B8 n s a).get t=(a.get t).map (V.B8 n s)
 |[],t=>rfl
 |p::l,t=>by
  obtain⟨m,c⟩:=p;simp only[AF.B8,AF.Bf];by_cases h:m=t
  .simp[h]
  .simp only[h,if_false];exact AF.G8 n s l t
theorem Es.F3(n:Nat)(s:V):∀(es:Es) (t:Nat),zo (Es.B8 n s es) t=(zo es t).map (A7.B8 n s)
 |[],t=>rfl
 |p::l,t=>by
  obtain⟨m,c⟩:=p;simp only[Es.B8,zv];by_cases h:m=t
  .simp[h]
  .simp only[h,if_false];exact Es.F3 n s l t
theorem Aq.B8{g g':Gh}{D:Nat->Prop}{w:World}{n:Nat}{l:SL V}(hm:∀b,g.m b<=g'.m b)(hb:g'.blk=g.blk)(hr:g'.row=g.row)
 (hd:∀cap,l.len<=cap->A2 g'.m w (.slice (some ⟨g.blk n,0,none⟩) l.len cap) (.slice .any l)) {v:Value} {c:V} (h:Aq g D w v c):V.BZ n l.len c->Aq g' D w v (V.B8 n (.slice .any l) c):=by
 have self:∀{v c},Aq g D w v c->Aq g' D w v c:=fun {v c} h=>h.mono hm (fun _ _ _=>rfl) (fun _ h=>h) (fun _ _=>by rw[hb]) (fun _ _=>by rw[hr]);induction h with
 |data h=>
  have h0:=h;intro _;cases h<;>exact self (.data h0)
 |agg vs cs hl h1 _ ih=>
  intro hok;simp only[V.B8,V.CT];refine .agg vs _ kr h1 fun i v c hv hc=> ?_;rw[gJ,fE] at hc;obtain⟨c0,hc0,rfl⟩:=hc;exact ih i v c0 hv hc0 (V.CA hok i c0 hc0)
 |AP vs cs hl _ ih=>
  intro hok;simp only[V.B8,V.CT];refine .AP vs _ kr fun i v c hv hc=> ?_;rw[gJ,fE] at hc;obtain⟨c0,hc0,rfl⟩:=hc;exact ih i v c0 hv hc0 (V.CA hok i c0 hc0)
 |nil=>exact fun _=> .nil
 |fullNil l h=>exact fun _=> .fullNil l h
 |nilS l h=>exact fun _=> .nilS l h
 |full a n l h=>exact fun _=>self (.full a n l h)
 |own r hr' v l h hd=>exact fun _=>self (.own r hr' v l h hd)
 |addr b off cs f h1 hc h2=>exact fun _=>self (.addr b off cs f h1 hc h2)
 |ptr n off h=>exact fun _=>self (.ptr n off h)
 |arr m k z cap h hcap hrw=>
  intro hok;simp only[V.B8];by_cases he:m=n
  .subst he;obtain rfl:k=l.len:=hok rfl;simp only[jC,cond_true];exact .data (hd cap hcap)
  .rw[UM he];exact self (.arr m k z cap h hcap hrw)
 |mp m h=>exact fun _=>self (.mp m h)
 |nilp=>exact fun _=> .nilp
 |fn f fi caps fi' caps' hl hl' _ _ ih ih'=>
  intro hok;simp only[V.B8,V.CT];refine .fn f fi caps _ _ kr kr (fun i v c hv hc=> ?_) (fun i v c hv hc=> ?_)
  .rw[gJ,fE] at hc;obtain⟨c0,hc0,rfl⟩:=hc;exact ih i v c0 hv hc0 (V.CA hok.1 i c0 hc0)
  .rw[gJ,fE] at hc;obtain⟨c0,hc0,rfl⟩:=hc;exact ih' i v c0 hv hc0 (V.CA hok.2 i c0 hc0)
 |nilf=>exact fun _=> .nilf
 |raw v=>exact fun _=> .raw v
section
variable {E:Env} {N k:Nat} {a:AF} {σ:Ao}
def V.HU:V->Bool
 | .int _ _=>true
 | .bool _=>true
 | .str _=>true
 | .slice .any _=>true
 |_=>false
theorem Aq.HU{g:Gh}{D:Nat->Prop}{w:World}{v:Value}{c:V}(h:Aq g D w v c)(hc:V.HU c=true):A2 g.m w v c:=by
 cases h with
 |data h=>exact h
 |_=>simp[V.HU] at hc
theorem eM(c:EC)(x:c.sem):(c.view x).all V.HU=true:=mC
theorem Bg.B8(n len:Nat){c:EC}(l:List c.sem)(hn:zo σ.es n=some (.var (l.flatMap c.view)))(hlen:l.length=len)(hoa:AF.BZ n len a)(hoe:Es.BZ n len σ.es):
 Bg E N k a σ (AF.B8 n (.s c l) a) ⟨σ.nx,(n,.gone)::Es.B8 n (.s c l) σ.es⟩:=by
 subst hlen;intro hk;refine⟨hk,fun g w act hR hF=> ?_⟩;obtain⟨h1,vs,t,h2,h3,h4,h5,_⟩:=hR.Cg n _ hn;rw[KX] at h3
 let g':Gh:={g with m:=fun b=>if b=g.blk n then l.length*c.cells else g.m b}
 have hlt:g.blk n<w.heap.size:=by
  grind
 have hm:∀b,g.m b<=g'.m b:=fun b=>by
  grind
 have hm':∀b,b≠g.blk n->g'.m b=g.m b:=fun b hb=>if_neg hb;have hd:∀cap,(SL.t c l:SL V).len<=cap->A2 g'.m w (.slice (some ⟨g.blk n,0,none⟩) (SL.t c l:SL V).len cap) (.slice .any (.t c l)):=fun cap hcap=>by
  refine A2.Jr (m:=g.m) (w:=w) h2 hcap (by show _<=if g.blk n=g.blk n then _ else _;rw[if_pos rfl];exact fB _) ?_ ?_ hm (fun _ _ _=>rfl)
  .intro i hi;exact⟨c.view (l[i]'hi),by show(l[i]?).map c.view=_;rw[fG (show i<l.length from hi)];rfl,EC.Bk _ _⟩
  .intro i j cs d hg hcs hi hj;have hi':i<l.length:=hi;have hg':cs=c.view l[i]:=by
    have:(l[i]?).map c.view=some cs:=hg
    grind
   subst hg';have hj':j<c.cells:=hj;have h6:(l.flatMap c.view)[i*c.cells+j]? =some d:=by rw[PD c l i j hj',fG hi'];grind
   have h7:i*c.cells+j<vs.length:=by have:=OI hi' hj';omega
   refine⟨vs[i*c.cells+j],fG h7,?_⟩;refine(h5 _ _ d (fG h7) h6).HU ?_;exact fF.1 (eM c l[i]) d (iQ hcs)
 have hv:∀{v d},Aq g (·<σ.nx) w v d->V.BZ n l.length d->Aq g' (·<σ.nx) w v (V.B8 n (.s c l) d):=fun h hok=>Aq.B8 (g':=g') (l:= .t c l) hm rfl rfl hd h hok;have hfind:∀i e,zo ((n,A7.gone)::Es.B8 n (.s c l) σ.es) i=some e->(i=n/\e= .gone)\/(i≠n/\∃e0,zo σ.es i=some e0/\e=A7.B8 n (.s c l) e0):=fun i e he=>by
  rw[zv] at he;by_cases hi:n=i
  .grind
  .rw[if_neg hi,Es.F3,fE] at he
   grind
 have hfoot:∀i e b,zo ((n,A7.gone)::Es.B8 n (.s c l) σ.es) i=some e->e.AD g' i=some b->∃e0,zo σ.es i=some e0/\e0.AD g i=some b/\i≠n:=fun i e b he hb=>by
  rcases hfind i e he with⟨rfl,rfl⟩|⟨hi,e0,h6,rfl⟩
  .cases hb
  .refine ⟨e0,h6,?_,hi⟩;cases e0<;>exact hb
 refine⟨g',⟨?_,?_,?_,?_,?_⟩,⟨hF.size,hF.defers,?_⟩,?_⟩
 .intro i e he;rcases hfind i e he with⟨rfl,_⟩|⟨_,e0,h6,_⟩
  .exact hR.lt _ _ hn
  .exact hR.lt _ _ h6
 .intro i i' e e' b h6 h7 h8 h9;obtain⟨e0,h10,h11,_⟩:=hfoot i e b h6 h8;obtain⟨e1,h12,h13,_⟩:=hfoot i' e' b h7 h9;exact hR.Bd i i' e0 e1 b h10 h12 h11 h13
 .intro i e he;rcases hfind i e he with⟨rfl,rfl⟩|⟨hi,e0,h6,rfl⟩
  .trivial
  .have hent:=hR.Cg i e0 h6;have hok:=Es.EH hoe i e0 hi h6;cases e0 with
   |var cs=>
    obtain⟨q1,us,t',q2,q3,q4,q5,q6⟩:=hent;have hne:g.blk i≠g.blk n:=fun hh=>hi (hR.Bd i n _ _ (g.blk n) h6 hn (by simp[A7.AD,hh]) rfl);refine⟨kr,us,t',q2,by simp only[V.CT,gH];exact q3,q4,fun j v d hj hd'=> ?_,q6⟩;rw[V.CT,gJ,fE] at hd';obtain⟨d0,hd0,rfl⟩:=hd';exact hv (q5 j v d0 hj hd0) (V.CA hok j d0 hd0)
   |map c ks xs=>
    obtain⟨q1,us,t',q2,q3,q4,q4',q5⟩:=hent;have hne:g.blk i≠g.blk n:=fun hh=>hi (hR.Bd i n _ _ (g.blk n) h6 hn kr rfl);refine⟨kr,us,t',q2,q3,q4,q4',fun j v d hj hd'=> ?_⟩;have h8:=hv (q5 j v d hj hd') (Zxv n _ c d)
    rwa [Yhv] at h8
   |row=>
    intro ρ hρ;obtain⟨cur,t',q1,q2,q3,q4⟩:=hent ρ hρ;have hne:ρ.b≠g.blk n:=fun hh=>hi (hR.Bd i n _ _ (g.blk n) h6 hn (by show(g.row i).map Fj.b=_;grind) rfl)
    grind
   |gone=>trivial
 .intro b hb;rw[hm' b kn];exact hR.fresh b hb
 .intro p hp;obtain⟨q1,q2⟩:=hR.FN p hp;refine⟨gD q1 (hm _),fun j d hj=> ?_⟩;obtain⟨v,q3,q4⟩:=q2 j d hj;exact⟨v,q3,q4.mono hm (fun _ _ _=>rfl)⟩
 .intro t' d ht';rw[AF.G8,fE] at ht';obtain⟨d0,hd0,rfl⟩:=ht';obtain⟨v,q1,q2⟩:=hF.vals t' d0 hd0;exact⟨v,q1,hv q2 (AF.E3 hoa t' d0 hd0)⟩
 .refine ⟨rfl,rfl,rfl,fB _,fun _ _ _=>rfl,hm,fun _ _=>rfl,fun _ _=>rfl,fun b hb hnf=>⟨rfl,hm' b fun hh=>hnf ⟨n,_,hn,by simp[A7.AD,hh]⟩⟩,fun b hb=> .inl ?_⟩;obtain⟨i,e,q1,q2⟩:=hb;obtain⟨e0,q3,q4,_⟩:=hfoot i e b q1 q2;exact⟨i,e0,q3,q4⟩
theorem AW.B8{Q:Exit->AF->Ao->Prop}{code:Code}(n len:Nat){c:EC}(l:List c.sem)(hn:zo σ.es n=some (.var (l.flatMap c.view)))(hlen:l.length=len)(hoa:AF.BZ n len a)(hoe:Es.BZ n len σ.es)
 (h:AW E N k code (AF.B8 n (.s c l) a) ⟨σ.nx,(n,.gone)::Es.B8 n (.s c l) σ.es⟩ Q):AW E N k code a σ Q:=AW.weak (Bg.B8 n len l hn hlen hoa hoe) h
variable {Q:Exit->AF->Ao->Prop} {ops:List Oper} {dr:Bool} {rest:List Oper} {acc:List Rec}
variable {d:Option Tmp} {ty:TypeId} {ps:String} {af:Array Edge} {gd:Option (Nat×Bool)}
namespace L
theorem RB{t te:TypeId}{s x:Operand}{z:Nat}{zr:List V}{ie:TI}{e:EC}{co:Option EC}{sz bytes:Nat}{sp':Sp}{l0:SL V}{l:List e.sem}(hw:yg ops a gd=some true)(hs:ev E t a s=some (.slice .nil l0))(hx:ev E t a x=some (.slice sp' (.t e l)))(ht:E.ti t=some ⟨z,zr,.slc co sz bytes⟩)
 (hte:E.P.underlying t=some (.slice te)) (hti:E.ti te=some ie) (hsz:Nat.beq e.cells sz=true) (hd:ya N d=true) (hby:Nat.ble bytes 128=true) (hpos:0<l.length) (hb:l.length<=1099511627776)
 (h2:AX E N k dr ops rest (a.put d (.arr σ.nx l.length sz)) (σ.AH 1 [(σ.nx,.var (l.flatMap e.view))]) (⟨[],.arr σ.nx l.length sz,1,[(σ.nx,.var (l.flatMap e.view))]⟩::acc) Q):
 AX E N k dr ops (⟨d,.call ⟨.builtin .append,#[s,x],#[t,t]⟩,ty,ps,af,gd⟩::rest) a σ acc Q:=
 AX.run 1 hw (OS.Kg rfl ht rfl hte hti (fr kD hs) (fr kD hx) hpos hsz
  (by
   have h3:bytes<=128:=fP hby;have h4:l.length*bytes<=1099511627776*128:=iD hb h3;omega) kn) trivial hd h2
theorem F4{t:TypeId}{x y:Operand}{z:Nat}{zr:List V}{co:Option EC}{sz bytes p len:Nat}{n:Int}(kk:Nat){kd:IntKind}(hw:yg ops a gd=some true)(hx:ev E t a x=some (.arr p len sz))(ht:E.ti t=some ⟨z,zr,.slc co sz bytes⟩)
 (hy:ev E 0 a y=some (.int kd n)) (hn:n=kk) (hlt:kk<len) (hd:ya N d=true) (h2:AX E N k dr ops rest (a.put d (.ptr p (kk*sz))) σ (⟨[],.ptr p (kk*sz),0,[]⟩::acc) Q):AX E N k dr ops (⟨d,.indexAddr t x y,ty,ps,af,gd⟩::rest) a σ acc Q:=
 AX.run 0 hw (OS.Lv rfl ht rfl (fr kD hx) (fr kD hy) hn hlt) trivial hd h2
theorem sta{t:TypeId}{x y:Operand}{i:TI}{n off:Nat}(kk:Nat){c:EC}{l:List c.sem}{u:c.sem}{v:V}(hw:yg ops a gd=some true)(hx:ev E 0 a x=some (.ptr n off))(ht:E.ti t=some i)(hy:ev E t a y=some v)
 (hn:zo σ.es n=some (.var (l.flatMap c.view))) (hc:cellsOf v=some (c.view u)) (hs:Nat.beq c.cells i.size=true) (hoff:off=kk*c.cells) (hlt:kk<l.length) (hd:ya N d=true)
 (h2:AX E N k dr ops rest (a.put d (.AP [])) (σ.AH 0 [(n,.var ((l.set kk u).flatMap c.view))]) (⟨[(n,.var (l.flatMap c.view))],.AP [],0,[(n,.var ((l.set kk u).flatMap c.view))]⟩::acc) Q):AX E N k dr ops (⟨d,.store t x y,ty,ps,af,gd⟩::rest) a σ acc Q:=by
 have e:(l.set kk u).flatMap c.view=(l.flatMap c.view).take off++c.view u++(l.flatMap c.view).drop (off+(c.view u).length):=by
  rw[EC.Bk,hoff];exact(Yj c l kk u hlt).symm
 rw[e] at h2;refine L.st hw hx ht hy hn hc (by rw[EC.Bk];simp_all) (jt ?_) hd h2;rw[EC.Bk,hoff,KX,<-Nat.succ_mul];exact gX _ hlt
end L
end
def Hu(k:Int):List Int->Option Nat
 |[]=>none
 |x::l=>if x=k then some 0 else(Hu k l).map (·+1)
theorem WQ{k:Int}:∀{l:List Int} {i:Nat},Hu k l=some i->l[i]? =some k/\i<l.length
 |[],i,h=>kM
 |x::l,i,h=>by
  simp only[Hu] at h;by_cases hx:x=k
  .grind
  .rw[if_neg hx,fE] at h;obtain⟨j,h1,rfl⟩:=h;have:=WQ h1
   grind
theorem bC(k:Int):∀(es:List MapEntry) (ks:List Int) (i0:Nat),es.length=ks.length->(∀(i:Nat) e x,es[i]? =some e->ks[i]? =some x->e.key= .int .i64 x)->
 Instr.findNow (.int .i64) (.int .i64 k) es i0=some ((Hu k ks).bind fun i=>(es[i]?).map fun e=>(i0+i,e.val))
 |[],[],i0,_,_=>rfl
 |[],x::ks,i0,h,_=>kr
 |e::es,[],i0,h,_=>kr
 |e::es,x::ks,i0,h,hk=>by
  have h0:=hk 0 e x rfl rfl;have ih:=bC k es ks (i0+1) kr fun i e x h1 h2=>hk (i+1) e x kr kr;simp only[Instr.findNow,h0,Instr.sameNow,if_true,Hu];by_cases hx:x=k
  .grind
  .have hkx:(k==x)=false:=kr
   simp only[hkx,if_neg hx];rw[ih];cases Hu k ks<;>grind
theorem R.Ma(c:EC){G:D5}{g:Gh}{D:Nat->Prop}{es:Es}{w:World}(hR:R G g D es w){n:Nat}(hn:¬D n):
 R G (g.name n w.heap.size) (fun i=>D i\/i=n) ((n,.map c [] [])::es) (w.alloc (.map #[] 0))/\
 Ext D g (Av g es) w (g.name n w.heap.size) (Av (g.name n w.heap.size) ((n,.map c [] [])::es)) (w.alloc (.map #[] 0)):=by
 have hb:∀i,D i->(g.name n w.heap.size).blk i=g.blk i:=fun i hi=>by
  have:i≠n:=fun e=>hn (e▸hi);simp[Gh.name,this]
 have hcell:∀b o,o<g.m b->(w.alloc (.map #[] 0)).cell? ⟨b,o,none⟩=w.cell? ⟨b,o,none⟩:=fun b o ho=>by
  exact qH
 have hm0:g.m w.heap.size=0:=hR.fresh _ (fB _);have hold:∀i e,i≠n->zo ((n,A7.map c [] [])::es) i=some e->zo es i=some e:=fun i e hi h=>by
  exact qU
 have hfold:∀i e b,zo es i=some e->e.AD (g.name n w.heap.size) i=some b->e.AD g i=some b/\b<w.heap.size:=fun i e b h1 h2=>by
  rw[A7.Ci (hR.lt i e h1) hb (fun _ _=>rfl)] at h2;exact⟨h2,hR.B4 h1 h2⟩
 have hnew:∀e,zo ((n,A7.map c [] [])::es) n=some e->e= .map c [] []:=fun e h=>by
  exact si
 refine⟨hR.step (fun _=>fB _) hcell (fun i hi=> .inl hi) hb (fun _ _=>rfl) ?_ ?_ ?_,?_⟩
 .intro i e he;by_cases hi:i=n
  .subst hi;rw[hnew e he];refine .inr ⟨.inr rfl,by simp[Gh.name,hm0],[],0,by rw[show(g.name i w.heap.size).blk i=w.heap.size from by simp[Gh.name]];exact heap_alloc_new w _,⟨rfl,by simp[Ej]⟩,rfl,fun j v q hv hc=>kr,fun j v q hv hc=>kr⟩
  .exact rS
 .intro i j e e' b h1 h2 h3 h4;by_cases hi:i=n
  .by_cases hj:j=n
   .omega
   .subst hi;rw[hnew e h1] at h3;simp[A7.AD,Gh.name] at h3
    grind
  .by_cases hj:j=n
   .subst hj;rw[hnew e' h2] at h4;simp[A7.AD,Gh.name] at h4
    grind
   .exact rq
 .intro b hb';simp at hb';exact hR.fresh b kn
 .refine ⟨rfl,rfl,rfl,ko,hcell,fun _=>fB _,hb,fun _ _=>rfl,fun b hb' _=>⟨heap_alloc_old w _ b hb',rfl⟩,?_⟩;rintro b ⟨i,e,h2,h3⟩;by_cases hi:i=n
  .subst hi;rw[hnew e h2] at h3;simp[A7.AD,Gh.name] at h3;omega
  .have:=hfold i e b (hold i e hi h2) h3;exact .inl ⟨i,e,hold i e hi h2,this.1⟩
def I3(w:World)(b:Nat)(o:Obj):World:={w with heap:=w.heap.setIfInBounds b o}
theorem R.Jl{G:D5}{g:Gh}{D:Nat->Prop}{es:Es}{w:World}(hR:R G g D es w){n:Nat}{c:EC}{ks ks':List Int}{cs cs':List c.sem}(hn:zo es n=some (.map c ks cs)){ms ms':List MapEntry}{clock clock':Nat}
 (hh:w.heap[g.blk n]? =some (.map ms.toArray clock)) (hl:ms'.length=cs'.length/\Ej ms' clock') (hl2:ks'.length=cs'.length) (h1:∀(i:Nat) e k,ms'[i]? =some e->ks'[i]? =some k->e.key= .int .i64 k)
 (h:∀(i:Nat) e x,ms'[i]? =some e->cs'[i]? =some x->Aq g D w e.val (HI c x)):
 R G g D ((n,.map c ks' cs')::es) (I3 w (g.blk n) (.map ms'.toArray clock'))/\
 Ext D g (Av g es) w g (Av g ((n,.map c ks' cs')::es)) (I3 w (g.blk n) (.map ms'.toArray clock')):=by
 have hm0:g.m (g.blk n)=0:=(hR.Cg n _ hn).1;have hlt:g.blk n<w.heap.size:=(g8.1 hh).1;have hne:∀b o,o<g.m b->b≠g.blk n:=fun b o ho e=>kr
 have hother:∀b,b≠g.blk n->(I3 w (g.blk n) (.map ms'.toArray clock')).heap[b]? =w.heap[b]? :=fun b hb=>by simp[I3,Ne.symm hb]
 have hself:(I3 w (g.blk n) (.map ms'.toArray clock')).heap[g.blk n]? =some (.map ms'.toArray clock'):=by simp[I3,hlt]
 have hcell:∀b o,o<g.m b->(I3 w (g.blk n) (.map ms'.toArray clock')).cell? ⟨b,o,none⟩=w.cell? ⟨b,o,none⟩:=fun b o ho=>
  World.cell?_of_block (a:=⟨b,o,none⟩) (hother b (hne b o ho))
 have hold:∀i e,i≠n->zo ((n,A7.map c ks' cs')::es) i=some e->zo es i=some e:=fun i e hi h=>by
  exact qU
 have hnew:∀e,zo ((n,A7.map c ks' cs')::es) n=some e->e= .map c ks' cs':=fun e h=>by
  exact si
 have hfoot:∀i e b,zo ((n,A7.map c ks' cs')::es) i=some e->e.AD g i=some b->∃e',zo es i=some e'/\e'.AD g i=some b:=fun i e b h2 h3=>by
  exact sW
 refine⟨hR.step (fun _=>fB _) hcell (fun i hi=>hi) (fun _ _=>rfl) (fun _ _=>rfl) ?_ ?_ ?_,?_⟩
 .intro i e he;by_cases hi:i=n
  .subst hi;rw[hnew e he];exact .inr ⟨hR.lt _ _ hn,hm0,ms',clock',hself,hl,hl2,h1,fun j v c hv hc=>
    (h j v c hv hc).mono (fun _=>fB _) hcell (fun i hi=>hi) (fun _ _=>rfl) (fun _ _=>rfl)⟩
  .exact ri
 .exact qZ
 .intro b hb;simp[I3] at hb;exact hR.fresh b hb
 .refine ⟨rfl,rfl,rfl,by simp[I3],hcell,fun _=>fB _,fun _ _=>rfl,fun _ _=>rfl,fun b hb hf=>⟨hother b (fun e=>hf ⟨n,_,hn,by simp[A7.AD,e]⟩),rfl⟩,?_⟩;rintro b ⟨i,e,h2,h3⟩;obtain⟨d,h6,h7⟩:=hfoot i e b h2 h3;exact .inl ⟨i,d,h6,h7⟩
section
variable {E:Env} {N k:Nat} {a:AF} {σ:Ao} {Q:Exit->AF->Ao->Prop}
theorem AW.label{l:Nat}(h:Q .normal a σ):AW E N k (.label l) a σ Q:=by
 constructor;intro hk g w act hR hF hY;exact wp_label ⟨g,a,σ,h,hk,hR,hF,.refl ..⟩
theorem AW.goto{l:Nat}(h:Q (.goto l) a σ):AW E N k (.goto l) a σ Q:=by
 constructor;intro hk g w act hR hF hY;exact wp_goto ⟨g,a,σ,h,hk,hR,hF,.refl ..⟩
def Yqh(E:Env)(N k:Nat){ι:Type}(l:Nat)(J:ι->AF×Ao)(Q:Exit->AF->Ao->Prop):Exit->AF->Ao->Prop
 | .goto l',a,σ=>l'=l/\∃j,Bg E N k a σ (J j).1 (J j).2
 |e,a,σ=>Q e a σ
def Yt0(E:Env)(N k:Nat){ι:Type}(l:Nat)(J:ι->AF×Ao)(μ:ι->Nat)(i:ι)(Q:Exit->AF->Ao->Prop):Exit->AF->Ao->Prop
 | .goto l',a,σ=>l'=l/\∃j,μ j<μ i/\Bg E N k a σ (J j).1 (J j).2
 |e,a,σ=>Q e a σ
namespace K
theorem tG{y:Code}{l:Nat}(h:Q (.goto l) a σ):J6 E N k y Q (.goto l) a σ:=h
theorem bG{id l:Nat}(h:Q (.goto l) a σ):uq id Q (.goto l) a σ:=h
theorem fR{ι:Type}{l:Nat}{J:ι->AF×Ao}(h:Q .ret a σ):Yqh E N k l J Q .ret a σ:=h
theorem pR{ι:Type}{l:Nat}{J:ι->AF×Ao}{μ:ι->Nat}{i:ι}(h:Q .ret a σ):Yt0 E N k l J μ i Q .ret a σ:=h
end K
end
def El(k:Int)(ks:List Int):List Int:=match Hu k ks with|some _=>ks|none=>ks++[k]
def HP{α:Type}(k:Int)(ks:List Int)(cs:List α)(c:α):List α:=match Hu k ks with|some i=>cs.set i c|none=>cs++[c]
theorem Ej.push{es:List MapEntry}{clock:Nat}(h:Ej es clock)(key val:Value):Ej (es++[⟨key,val,clock⟩]) (clock+1):=by
 refine⟨fun x hx=> ?_,?_⟩
 .rcases fV.1 hx with h1|h1
  .have:=h.1 x h1;omega
  grind
 .rw[iE,List.nodup_append];refine⟨h.2,ko,?_⟩;intro a ha b hb e;obtain⟨x,hx,rfl⟩:=fO.1 ha;simp at hb;have:=h.1 x hx;omega
theorem Ej.modify{es:List MapEntry}{clock:Nat}(h:Ej es clock)(i:Nat)(key val:Value):Ej (es.modify i fun e=>{e with key:=key,val:=val}) clock:=by
 have hm:(es.modify i fun e=>{e with key:=key,val:=val}).map (·.born)=es.map (·.born):=by
  apply List.ext_getElem?
  grind
 refine⟨fun x hx=> ?_,by rw[hm];exact h.2⟩;have h1:x.born∈(es.modify i fun e=>{e with key:=key,val:=val}).map (·.born):=List.mem_map_of_mem hx;rw[hm] at h1;obtain⟨y,hy,e⟩:=fO.1 h1;have:=h.1 y hy;omega
section
variable {E:Env} {N:Nat} {o:Oper} {a:AF}
theorem Yrw(D:Nat->Prop)(g:Gh)(n:Nat)(w:World){b:Nat}:Aq (g.name n b) (fun i=>D i\/i∈[n]) w (.map (some b)) (.mp n):=by
 have h:=Aq.mp (g:=g.name n b) (D:=fun i=>D i\/i∈[n]) (w:=w) n (Or.inr (gp.2 rfl));have hb:(g.name n b).blk n=b:=by simp[Gh.name]
 grind
theorem OS.makeMap(q:EC){t:TypeId}{n:Nat}(ho:o.op= .makeMap t none):OS E N o a [] (.mp n) [n] [(n,.map q [] [])]:=
 .of_run fun g D es w act hR _ hn hF=>by
  obtain⟨hR',hx⟩:=hR.Ma q (hn n ko);refine⟨g.name n w.heap.size,.map (some w.heap.size),w.alloc (.map #[] 0),?_,hR'.more (fun i hi=>kr),Yrw D g n _,hx⟩;simp only[execOp,ho,jh,Instr.makeMap,Sem.run_bind,Sem.run_pure,run_newObj,Result.andThen_ok,World.alloc_eq]
theorem OS.mapUpdate{t kt et:TypeId}{x y z:Operand}{n:Nat}{k:Int}{ks:List Int}{q:EC}{cs:List q.sem}{c:q.sem}{v:V}(ho:o.op= .mapUpdate t x y z)(hm:E.P.underlying t=some (.map kt et))(hk:E.P.underlying kt=some (.int .i64))
 (hx:ev E 0 a x=some (.mp n)) (hy:ev E 0 a y=some (.i k)) (hz:ev E et a z=some v) (hle:Ap v (HI q c)):OS E N o a [(n,.map q ks cs)] (.AP []) [] [(n,.map q (El k ks) (HP k ks cs c))]:=
 .HD fun g D es w act hR hp hF=>by
  have h1:=yk hx hR hF;have h2:=(yk hy hR hF).BS;have h3:Aq g D w (act.eval z) (HI q c):=hle _ _ _ _ (yk hz hR hF);have hn:=hp (n,.map q ks cs) ko;obtain⟨_,ms,clock,h4,⟨h5,hbn⟩,h6,h7,h8⟩:=hR.Cg n _ hn;generalize hv:act.eval x=v at h1;cases h1 with
  |data h=>cases h
  |mp _ hD=>
   have h9:=bC k ms ks 0 (h5.trans h6.symm) h7;cases hi:Hu k ks with
   |none=>
    rw[hi,Option.bind_none] at h9;have key:=hR.Jl (ks':=El k ks) (cs':=HP k ks cs c) (ms:=ms) (ms':=ms++[⟨.int .i64 k,act.eval z,clock⟩]) (clock':=clock+1) hn h4
     ⟨by simp[HP,hi,h5],hbn.push _ _⟩ (by simp[HP,El,hi,h6])
     (fun j e x he hx=>by
      simp only[El,hi] at hx
      grind)
     (fun j e d he hd=>by
      simp only[HP,hi] at hd;rcases jk j ms.length with hj|hj;all_goals grind)
    refine⟨_,?_,key.1,key.2⟩;simp[execOp,ho,Instr.mapUpdate,hv,h2,wj hm,MapKept.run_getObj_map h4,MapKept.run_checkKey hk (k:= .int .i64 k) rfl,MapKept.run_findKey hk h9,Result.andThen,MapKept.run_setObj_map _ h4,I3]
   |some i=>
    have hil:i<ms.length:=by rw[h5,<-h6];exact(WQ hi).2
    rw[hi,ju,fG hil,gM] at h9;have hkey:(ms[i]'hil).key= .int .i64 k:=h7 i _ k (fG hil) (WQ hi).1;have key:=hR.Jl (ks':=El k ks) (cs':=HP k ks cs c) (ms:=ms) (ms':=ms.modify i fun e=>{e with key:= .int .i64 k,val:=act.eval z}) (clock':=clock) hn h4
     ⟨by simp[HP,hi,h5],hbn.modify _ _ _⟩ (by simp[HP,El,hi,h6])
     (fun j e x he hx=>by
      simp only[El,hi] at hx
      grind)
     (fun j e d he hd=>by
      simp only[HP,hi] at hd
      grind)
    refine⟨_,?_,key.1,key.2⟩;simp[execOp,ho,Instr.mapUpdate,hv,h2,wj hm,MapKept.run_getObj_map h4,MapKept.run_checkKey hk (k:= .int .i64 k) rfl,MapKept.run_findKey hk h9,Result.andThen,MapKept.run_setObj_map _ h4,I3,fG hil,hkey,MapKept.run_keyThatStays (d:= .int .i64) (k:= .int .i64 k) rfl]
end
section
variable {E:Env} {N k:Nat} {a:AF} {σ:Ao}
variable {Q:Exit->AF->Ao->Prop} {ops:List Oper} {dr:Bool} {rest:List Oper} {acc:List Rec}
variable {d:Option Tmp} {ty:TypeId} {ps:String} {af:Array Edge} {gd:Option (Nat×Bool)}
namespace L
theorem dO{t kt et:TypeId}{i:TI}(hw:yg ops a gd=some true)(hm:E.P.underlying t=some (.map kt et))(ht:E.ti et=some i)(hs:i.desc= .bool)(hd:ya N d=true)
 (h2:AX E N k dr ops rest (a.put d (.mp σ.nx)) (σ.AH 1 [(σ.nx,.map .bl [] [])]) (⟨[],.mp σ.nx,1,[(σ.nx,.map .bl [] [])]⟩::acc) Q):AX E N k dr ops (⟨d,.makeMap t none,ty,ps,af,gd⟩::rest) a σ acc Q:=
 AX.run 1 hw (OS.makeMap .bl rfl) trivial hd h2
theorem Xc{t kt et:TypeId}{x y z:Operand}{n:Nat}{q:Int}{ks:List Int}{cs:List Bool}{b:Bool}(hw:yg ops a gd=some true)(hx:ev E 0 a x=some (.mp n))(hy:ev E 0 a y=some (.i q))(hm:E.P.underlying t=some (.map kt et))(hk:E.P.underlying kt=some (.int .i64))
 (hz:ev E et a z=some (.bool b)) (hn:zo σ.es n=some (.map .bl ks cs)) (hd:ya N d=true)
 (h2:AX E N k dr ops rest (a.put d (.AP [])) (σ.AH 0 [(n,.map .bl (El q ks) (HP q ks cs b))]) (⟨[(n,.map .bl ks cs)],.AP [],0,[(n,.map .bl (El q ks) (HP q ks cs b))]⟩::acc) Q):AX E N k dr ops (⟨d,.mapUpdate t x y z,ty,ps,af,gd⟩::rest) a σ acc Q:=
 AX.run 0 hw (OS.mapUpdate (q:= .bl) (c:=b) (v:= .bool b) rfl hm hk (fr mZ hx) (fr mZ hy) (fr mZ hz) (Ap.refl _)) ⟨hn,trivial⟩ hd h2
end L
end
section
variable {E:Env} {N k:Nat} {a:AF} {σ:Ao} {Q:Exit->AF->Ao->Prop}
def Vs(E:Env)(N k:Nat)(len n:Nat)(P:Nat->Prop)(J:Nat->AF×Ao)(Q:Exit->AF->Ao->Prop):Exit->AF->Ao->Prop
 | .normal,a,σ=>n<len/\P (n+1)/\Bg E N k a σ (J (n+1)).1 (J (n+1)).2
 |e,a,σ=>Q e a σ
theorem AW.upto{c:Code}(len:Nat)(P:Nat->Prop)(J:Nat->AF×Ao)(hP:P 0)(h0:Bg E N k a σ (J 0).1 (J 0).2)
 (h:∀n,n<=len->P n->AW E N k c (J n).1 (J n).2 (Vs E N k len n P J Q)):AW E N k (.loop c) a σ Q:=by
 refine .loop (ι:={n:Nat // n<=len/\P n}) (fun n=>J n.1) (fun n=>len-n.1) ⟨0,iH _,hP⟩ h0 fun⟨n,hn,hPn⟩=>(h n hn hPn).mono ?_;rintro e a1 σ1 hq;cases e with
 |normal=>
  obtain⟨h1,h2,h3⟩:=hq;exact⟨⟨n+1,h1,h2⟩,kr,h3⟩
 |exit id=>exact hq
 |goto l=>exact hq
 |ret=>exact hq
 |panic ch=>exact hq
 |outgrown=>exact hq
end
namespace K
variable {E:Env} {N k:Nat} {a:AF} {σ:Ao} {Q:Exit->AF->Ao->Prop}
theorem uR{len n:Nat}{P:Nat->Prop}{J:Nat->AF×Ao}(h:Q .ret a σ):Vs E N k len n P J Q .ret a σ:=h
theorem uE{len n:Nat}{P:Nat->Prop}{J:Nat->AF×Ao}{id:Nat}(h:Q (.exit id) a σ):Vs E N k len n P J Q (.exit id) a σ:=h
end K
theorem au{ρ:List (Option Nat)}:∀{a a' b b':List V},vn ρ a=some a'->vn ρ b=some b'->vn ρ (a++b)=some (a'++b')
 |[],_,b,b',h,h'=>by simp[vn] at h;grind
 |c::a,_,b,b',h,h'=>by
  simp only[vn,fL,fE] at h;obtain⟨c',h1,a',h2,rfl⟩:=h;simp only[iJ,vn,h1,au h2 h',ju,gM]
theorem Zxz(ρ:List (Option Nat))(c:EC)(x:c.sem):vn ρ (c.view x)=some (c.view x):=mC
theorem vb(ρ:List (Option Nat))(c:EC)(l:List c.sem):vn ρ (l.flatMap c.view)=some (l.flatMap c.view):=by
 induction l with
 |nil=>rfl
 |cons x l ih=>rw[gx];exact au (Zxz ρ c x) ih
theorem R.O4{G:D5}{g:Gh}{D:Nat->Prop}{es:Es}{w:World}(hR:R G g D es w){r n:Nat}(hn:¬D n){cs:List V}(hr:zo es r=some (.var cs)):
 R G (g.AU n (g.blk r) (g.row r)) (fun i=>D i\/i=n) ((n,.var cs)::(r,.gone)::es) w/\
 Ext D g (Av g es) w (g.AU n (g.blk r) (g.row r)) (Av (g.AU n (g.blk r) (g.row r)) ((n,.var cs)::(r,.gone)::es)) w:=by
 have hDr:=hR.lt r _ hr;have hne:∀i,D i->i≠n:=fun i hi e=>hn (e▸hi);have hb:∀i,D i->(g.AU n (g.blk r) (g.row r)).blk i=g.blk i:=fun i hi=>by simp[Gh.AU,hne i hi]
 have hrw:∀i,D i->(g.AU n (g.blk r) (g.row r)).row i=g.row i:=fun i hi=>by simp[Gh.AU,hne i hi]
 have hbn:(g.AU n (g.blk r) (g.row r)).blk n=g.blk r:=l9
 have hrn:(g.AU n (g.blk r) (g.row r)).row n=g.row r:=l9
 have hfind:∀i e,zo ((n,A7.var cs)::(r,.gone)::es) i=some e->(i=n/\e= .var cs)\/(i=r/\e= .gone)\/(i≠n/\i≠r/\zo es i=some e):=fun i e h=>by
  rw[zv] at h;by_cases h1:n=i
  .grind
  .rw[if_neg h1,zv] at h
   grind
 have hold:∀i e b,zo es i=some e->e.AD (g.AU n (g.blk r) (g.row r)) i=some b->e.AD g i=some b:=fun i e b h1 h2=>by
  rw[A7.Ci (hR.lt i e h1) hb hrw] at h2;exact h2
 have hfoot:∀i e b,zo ((n,A7.var cs)::(r,.gone)::es) i=some e->e.AD (g.AU n (g.blk r) (g.row r)) i=some b->(i=n/\b=g.blk r)\/(i≠n/\i≠r/\zo es i=some e/\e.AD g i=some b):=fun i e b h1 h2=>by
  rcases hfind i e h1 with⟨rfl,rfl⟩|⟨rfl,rfl⟩|⟨h3,h4,h5⟩
  .refine .inl ⟨rfl,?_⟩;simp only[A7.AD,fI] at h2;omega
  .cases h2
  grind
 refine⟨hR.step (fun _=>fB _) (fun _ _ _=>rfl) (fun _ h=> .inl h) hb hrw ?_ ?_ hR.fresh,?_⟩
 .intro i e he;rcases hfind i e he with⟨rfl,rfl⟩|⟨rfl,rfl⟩|⟨_,_,h5⟩
  .refine .inr ⟨.inr rfl,?_⟩;obtain⟨h1,vs,t,h2,h3,h4,h5,h6⟩:=hR.Cg r _ hr;exact⟨by rw[hbn];exact h1,vs,t,kr,h3,h4,fun j v c hv hc=>(h5 j v c hv hc).mono (fun _=>fB _) (fun _ _ _=>rfl) (fun _ h=> .inl h) hb hrw,kr⟩
  .exact .inr ⟨.inl hDr,trivial⟩
  .exact .inl ⟨h5,fun _ _=>⟨rfl,rfl⟩⟩
 .intro i j e e' b h1 h2 h3 h4;rcases hfoot i e b h1 h3 with⟨rfl,h5⟩|⟨h5,h6,h7,h8⟩
  .rcases hfoot j e' b h2 h4 with⟨rfl,_⟩|⟨h9,h10,h11,h12⟩
   .rfl
   .exact absurd (hR.Bd j r e' _ b h11 hr h12 (by simp[A7.AD,h5])) h10
  .rcases hfoot j e' b h2 h4 with⟨rfl,h13⟩|⟨h9,h10,h11,h12⟩
   .exact absurd (hR.Bd i r e _ b h7 hr h8 (by simp[A7.AD,h13])) h6
   .exact hR.Bd i j e e' b h7 h11 h8 h12
 .refine ⟨rfl,rfl,rfl,fB _,fun _ _ _=>rfl,fun _=>fB _,hb,hrw,fun _ _ _=>⟨rfl,rfl⟩,?_⟩;rintro b ⟨i,e,h1,h2⟩;rcases hfoot i e b h1 h2 with⟨_,h5⟩|⟨_,_,h7,h8⟩
  .exact .inl ⟨r,_,hr,by simp[A7.AD,h5]⟩
  .exact .inl ⟨i,e,h7,h8⟩
section
variable {E:Env} {N k:Nat} {o:Oper} {a:AF}
theorem X4(D:Nat->Prop)(g:Gh)(n b:Nat)(w:World){len cap sz:Nat}(h:len<=cap):Aq (g.AU n b (some ⟨b,0,cap,sz,0⟩)) (fun i=>D i\/i∈[n]) w (.slice (some ⟨b,0,none⟩) len cap) (.arr n len sz):=Tp D g n w h
theorem OS.KD{t te:TypeId}{s x:Operand}{i ie:TI}{co:Option EC}{c:EC}{sz bytes n r len:Nat}{sp':Sp}{l:List c.sem}{cs:List V}(ho:o.op= .call {callee:= .builtin .append,args:= #[s,x],argTypes:= #[t,t]})
 (ht:E.ti t=some i) (hd:i.desc= .slc co sz bytes) (hte:E.P.underlying t=some (.slice te)) (hti:E.ti te=some ie) (hs:ev E t a s=some (.arr r len sz)) (hx:ev E t a x=some (.slice sp' (.t c l))) (hpos:0<l.length) (hcl:cs.length=len*sz)
 (hsz:Nat.beq c.cells sz=true) (hb:(len+l.length)*bytes<=140737488355328) (hb2:len+l.length<=9223372036854775807):
 OS E N o a [(r,.var cs)] (.arr n (len+l.length) sz) [n] [(n,.var (cs++l.flatMap c.view)),(r,.gone)]:=
 .of_run fun g D es w act hR hp hn hF=>by
  obtain⟨e,inf,z,h1,h2,h3,h4,h5,h6,h7,h8⟩:=La ht hd;obtain rfl:e=te:=kr
  obtain⟨inf2,hi1,hi2,z2,hi3,hi4⟩:=MO hti;have hz1:∀v∈z.cells.toList,v.oneCell'=true:=by
   exact ta
  have hcs:c.cells=sz:=gA hsz;have hn':¬D n:=hn n ko;have hr:=hp (r,.var cs) ko;have hvs:=yk hs hR hF;have hdx:=(yk hx hR hF).Bq;obtain⟨xb,xc,hxv⟩:=hdx.Bq;obtain⟨news,hnl,hn1,hnf,hnr,hnl2⟩:=hdx.Df;rw[hxv] at hnf;have hsz':c.cells=inf.size:=kn
  have hDD:∀i,(D i\/i=n)->(D i\/i∈[n]):=fun i h=>h.imp id (fun h=>by simp[h]);have hrun:∀v w',(Builtin.append_ #[t,t] o.type #[act.eval s,act.eval x]).run E.P w= .ok v w'->(execOp act.eval o).run E.P w= .ok (.value v) w':=fun v w' h=>by
   simp[execOp,ho,resolve,invoke,builtin,h]
  have hnews:news.length=l.length*sz:=by rw[hnl];show l.length*c.cells=_;rw[hcs]
  have hfl:(l.flatMap c.view).length=l.length*sz:=by rw[KX,hcs]
  have hnv:∀(q:Nat) u d,news[q]? =some u->(l.flatMap c.view)[q]? =some d->Aq g D w u d:=fun q u d hu hd=>by
   have hq:=(fZ.1 hd).1;rw[KX] at hq;have hc0:0<c.cells:=by
    omega
   have hqi:q/c.cells<l.length:=(jo hc0).2 hq;have hqj:q%c.cells<c.cells:=jW _ hc0;have hqe:q/c.cells*c.cells+q%c.cells=q:=by rw[jY];exact j6 q c.cells
   have hd':=hd;rw[<-hqe,PD c l _ _ hqj,fG hqi] at hd';have hd2:(c.view l[q/c.cells])[q%c.cells]? =some d:=hd';obtain⟨u',hu',hdr⟩:=hnr (q/c.cells) (q%c.cells) (c.view l[q/c.cells]) d pP hd2 hqi hqj;have hu2:news[q]? =some u':=by rw[<-hqe];exact hu'
   rw[hu] at hu2;cases hu2;exact .data hdr
  generalize hv:act.eval s=v at hvs;cases hvs with
  |data h=>cases h
  |arr _ _ _ cap hDr hcap hrow=>
   obtain⟨h9,vs,te,h10,h11,h12,h13,h14⟩:=hR.Cg r _ hr;have hlen:=h14 _ hrow;simp only at hlen;have hxv':act.eval x= .slice xb l.length xc:=hxv;by_cases hroom:len+l.length<=cap
   .have hfit:len*sz+news.length<=vs.length:=by rw[hnews,<-iw,hlen];exact gX _ hroom
    obtain⟨hR1,hx1⟩:=hR.store hr h10 (vs':=vs.take (len*sz)++news++vs.drop (len*sz+news.length)) (cs':=cs++l.flatMap c.view)
     kr kr
     (fun u hu=>by
      grind)
     (fun j u d hu hd=>by
      grind)
    obtain⟨hR2,hx2⟩:=hR1.O4 (n:=n) hn' (r:=r) (cs:=cs++l.flatMap c.view) (by rw[zv,if_pos rfl]);rw[hrow] at hR2 hx2;have he:∀i,zo ((n,A7.var (cs++l.flatMap c.view))::(r,.gone)::es) i=zo ((n,A7.var (cs++l.flatMap c.view))::(r,.gone)::(r,.var (cs++l.flatMap c.view))::es) i:=fun i=>by
     simp only[zv]
     grind
    refine⟨_,.slice (some ⟨g.blk r,0,none⟩) (len+l.length) cap,_,hrun _ _ ?_,(hR2.congr he).more hDD,?_,?_⟩
    .rw[hv,hxv'];have:=Zrl (P:=E.P) (w:=w) (ty:=o.type) h1 h2 h10 (sLen:=len) (sCap:=cap) (xb:=xb) (n:=l.length) (xc:=xc) (news:=news) kr hn1 (by rw[<-hsz'];exact hnf w rfl E.P) hroom kr
     grind
    .exact X4 D g n (g.blk r) _ hroom
    .have h15:=hx1.trans hx2;have hf:Av (g.AU n (g.blk r) (some ⟨g.blk r,0,cap,sz,0⟩)) ([(n,.var (cs++l.flatMap c.view)),(r,.gone)]++es)=Av (g.AU n (g.blk r) (some ⟨g.blk r,0,cap,sz,0⟩)) ((n,A7.var (cs++l.flatMap c.view))::(r,.gone)::(r,.var (cs++l.flatMap c.view))::es):=Av.congr he
     grind
   .obtain ⟨hRg,hxg⟩:=hR.gone hr;have hge:=grownCap_ge w (len+l.length) cap e;obtain⟨olds,holds⟩:∃olds,olds=vs.take (len*sz):=⟨_,rfl⟩;have hol:olds.length=len*sz:=kr
    obtain⟨hR',hx'⟩:=hRg.drew.J8 hn' (some ⟨w.heap.size,0,grownCap w (len+l.length) cap e,sz,0⟩) (vs:=olds++news++(Builtin.zeroCells z.cells (grownCap w (len+l.length) cap e-(len+l.length))).toList) (cs:=cs++l.flatMap c.view) e
     kr
     (fun v hv=>by
      rcases fV.1 hv with hv|hv
      .grind
      .exact Yd hz1 _ v hv)
     (fun q v d hv hd=>by
      by_cases hq:q<len*sz
      .rw[fK,gW kn,holds,iO,if_pos hq] at hv;rw[gW kn] at hd;exact(h13 q v d hv hd).mono (fun _=>fB _) (fun _ _ _=>rfl) (fun _ h=>h) (fun _ _=>rfl) (fun _ _=>rfl)
      .rw[gP kn,hcl] at hd;have hq2:=(fZ.1 hd).1;rw[fK,gP kn,hol,gW kn] at hv;exact(hnv _ v d hv hd).mono (fun _=>fB _) (fun _ _ _=>rfl) (fun _ h=>h) (fun _ _=>rfl) (fun _ _=>rfl))
     (fun r hr=>by
      cases hr;simp only[ga,jz,size_zeroCells,hnews,hol,h6];rw[<-iw,<-iw]
      grind)
    refine⟨_,.slice (some ⟨w.heap.size,0,none⟩) (len+l.length) (grownCap w (len+l.length) cap e),_,hrun _ _ ?_,hR'.more hDD,?_,(hxg.trans Ext.drew).trans hx'⟩
    .rw[hv,hxv'];have hof:∀W:World,W.heap=w.heap->(Builtin.firstCells inf.size len (.slice (some ⟨g.blk r,0,none⟩) len cap)).run E.P W= .ok olds.toArray W:=fun W hW=>by
      rw[h3];exact run_firstCells_some (P:=E.P) W sz len ⟨g.blk r,0,none⟩ len cap olds hol (fun j v hv=>by
       rw[holds,iO] at hv;split at hv
       .rw[IK,gN,KO (by rw[hW];exact h10)];grind
       grind)
     exact N4 (P:=E.P) (w:=w) (ty:=o.type) h1 h2 h5 (base:=some ⟨g.blk r,0,none⟩) (sLen:=len) (sCap:=cap) (xb:=xb) (n:=l.length) (xc:=xc) (olds:=olds) (news:=news)
      hof (fun W hW=>by rw[<-hsz'];exact hnf W hW E.P) kn kr kn
    .exact X4 D g n _ _ hge
theorem OS.Tf{t:TypeId}{x:Operand}{n len sz:Nat}(ho:o.op= .call {callee:= .builtin .len,args:= #[x],argTypes:= #[t]}){i:TI}(ht:E.ti t=some i){c:Option EC}{z by_:Nat}(hd:i.desc= .slc c z by_)
 (hx:ev E t a x=some (.arr n len sz)):OS E N o a [] (.i len) [] []:=
 .pure fun g D es w act hR _ hF=>by
  have h1:=yk hx hR hF;obtain⟨d,h2,h3⟩:=MV ht;rw[hd] at h3;generalize hv:act.eval x=v at h1;cases h1 with
  |data h=>cases h
  |arr _ _ _ cap _ _ _=>
   cases d with
   |slice e=>
    refine⟨_,?_,.data (.int .i64 len)⟩;simp[execOp,ho,resolve,invoke,builtin,Builtin.len_,hv,wj h2,goInt]
   |_=>cases h3
end
theorem X0(c:EC):∀(l:List c.sem) (kk:Nat) (h:kk<l.length),(l.flatMap c.view).drop (kk*c.cells)=c.view l[kk]++(l.drop (kk+1)).flatMap c.view
 |[],kk,h=>kr
 |x::l,0,h=>ko
 |x::l,q+1,h=>by
  have hx:=EC.Bk c x;rw[gx,jR,j4 kr,gz,hx,show(q+1)*c.cells-c.cells=q*c.cells by grind,X0 c l q kr]
  rfl
section
variable {E:Env} {N k:Nat} {a:AF} {σ:Ao} {Q:Exit->AF->Ao->Prop} {ops:List Oper} {dr:Bool} {rest:List Oper} {acc:List Rec}
variable {d:Option Tmp} {ty:TypeId} {ps:String} {af:Array Edge} {gd:Option (Nat×Bool)}
namespace L
theorem apR{t te:TypeId}{s x:Operand}{z:Nat}{zr:List V}{ie:TI}{e:EC}{co:Option EC}{sz bytes r len:Nat}{sp':Sp}{l:List e.sem}{cs:List V}(hw:yg ops a gd=some true)(hs:ev E t a s=some (.arr r len sz))(hx:ev E t a x=some (.slice sp' (.t e l)))(ht:E.ti t=some ⟨z,zr,.slc co sz bytes⟩)(hte:E.P.underlying t=some (.slice te))(hti:E.ti te=some ie)
 (hn:zo σ.es r=some (.var cs)) (hcl:cs.length=len*sz) (hsz:Nat.beq e.cells sz=true) (hd:ya N d=true) (hby:Nat.ble bytes 128=true) (hpos:0<l.length) (hb:len+l.length<=1099511627776)
 (h2:AX E N k dr ops rest (a.put d (.arr σ.nx (len+l.length) sz)) (σ.AH 1 [(σ.nx,.var (cs++l.flatMap e.view)),(r,.gone)]) (⟨[(r,.var cs)],.arr σ.nx (len+l.length) sz,1,[(σ.nx,.var (cs++l.flatMap e.view)),(r,.gone)]⟩::acc) Q):
 AX E N k dr ops (⟨d,.call ⟨.builtin .append,#[s,x],#[t,t]⟩,ty,ps,af,gd⟩::rest) a σ acc Q:=
 AX.run 1 hw (OS.KD rfl ht rfl hte hti (fr kD hs) (fr kD hx) hpos hcl hsz
  (by
   have h3:bytes<=128:=fP hby;have h4:(len+l.length)*bytes<=1099511627776*128:=iD hb h3;omega) kn) ⟨hn,trivial⟩ hd h2
theorem lnR{t:TypeId}{x:Operand}{n len sz:Nat}{z:Nat}{zr:List V}{c:Option EC}{sz' by_:Nat}(hw:yg ops a gd=some true)(hx:ev E t a x=some (.arr n len sz))(ht:E.ti t=some ⟨z,zr,.slc c sz' by_⟩)(hd:ya N d=true)
 (h2:AX E N k dr ops rest (a.put d (.i len)) σ (⟨[],.i len,0,[]⟩::acc) Q):AX E N k dr ops (⟨d,.call ⟨.builtin .len,#[x],#[t]⟩,ty,ps,af,gd⟩::rest) a σ acc Q:=
 AX.run 0 hw (OS.Tf rfl ht rfl (fr kD hx)) trivial hd h2
theorem YH{t:TypeId}{x:Operand}{i:TI}{n off:Nat}(kk:Nat){c:EC}{l:List c.sem}(hw:yg ops a gd=some true)(hx:ev E 0 a x=some (.ptr n off))(ht:E.ti t=some i)(hn:zo σ.es n=some (.var (l.flatMap c.view)))
 (hoff:off=kk*c.cells) (hlt:kk<l.length) {v:V} (hv:KL i (c.view l[kk])=some v) (hsz:Nat.beq i.size c.cells=true) (hd:ya N d=true)
 (h2:AX E N k dr ops rest (a.put d v) σ (⟨[(n,.var (l.flatMap c.view))],v,0,[]⟩::acc) Q):AX E N k dr ops (⟨d,.load t x,ty,ps,af,gd⟩::rest) a σ acc Q:=by
 refine L.Ea hw hx ht hn ?_ hd h2;have h0:=EC.Bk c l[kk];have h1:(l.flatMap c.view).drop off=c.view l[kk]++(l.drop (kk+1)).flatMap c.view:=by subst hoff;exact X0 c l kk hlt
 have h3:i.size=c.cells:=gA hsz;rw[h1];unfold KL at hv ⊢;cases hb:i.desc.agg with
 |true=>
  rw[hb] at hv;simp only[cond_true,h0,h3,ga,jt (fB _),fI] at hv ⊢;rw[show Nat.ble c.cells (c.cells+((l.drop (kk+1)).flatMap c.view).length)=true from jt kn]
  grind
 |false=>
  grind
end L
end
def RW(P:Program)(t:TypeId):Bool:=match P.underlying t with|some (.func _ _ _)=>true|_=>false
theorem Zyd{P:Program}{t:TypeId}(h:RW P t=true):∃a b c,P.underlying t=some (.func a b c):=by
 unfold RW at h
 grind
def Qv:V->Option Bool
 | .nilf=>some false
 | .fn _ _ _=>some true
 |_=>none
section
variable {E:Env} {N k:Nat} {o:Oper} {a:AF}
theorem OS.P6{t u:TypeId}{x y:Operand}{c:V}{b:Bool}(ho:o.op= .binOp .neq t x y u)(ht:RW E.P t=true)(hx:ev E t a x=some c)(hc:Qv c=some b)(hy:ev E t a y=some .nilf):OS E N o a [] (.bool b) [] []:=
 .pure fun g D es w act hR _ hF=>by
  obtain⟨p,q,r,hu⟩:=Zyd ht;have h1:=yk hx hR hF;have h2:=yk hy hR hF;generalize hvx:act.eval x=v at h1;generalize hvy:act.eval y=v' at h2;have e2:v'= .nilFunc:=by
   cases h2 with
   |data h=>cases h
   |nilf=>rfl
  subst e2;cases c with
  |nilf=>
   simp only[Qv,fI] at hc;subst hc;have e1:v= .nilFunc:=by
    cases h1 with
    |data h=>cases h
    |nilf=>rfl
   subst e1;have he:(Op.equal t .nilFunc .nilFunc).run E.P w= .ok true w:=by
    unfold Op.equal Op.maxDepth Op.equalIn;simp[wj hu]
   exact⟨.bool false,pI,.data (.bool _)⟩
  |fn f fi caps=>
   simp only[Qv,fI] at hc;subst hc;obtain⟨fi',caps',e1⟩:∃fi' caps',v= .func f fi' caps':=by
    cases h1 with
    |data h=>cases h
    |fn=>simp
   subst e1;have he:(Op.equal t (.func f fi' caps') .nilFunc).run E.P w= .ok false w:=by
    unfold Op.equal Op.maxDepth Op.equalIn;simp[wj hu]
   exact⟨.bool true,pI,.data (.bool _)⟩
  |_=>cases hc
end
section
variable {E:Env} {N k:Nat} {a:AF} {σ:Ao} {Q:Exit->AF->Ao->Prop} {ops:List Oper} {dr:Bool} {rest:List Oper} {acc:List Rec}
variable {d:Option Tmp} {ty:TypeId} {ps:String} {af:Array Edge} {gd:Option (Nat×Bool)}
theorem L.P6{t u:TypeId}{x y:Operand}{c:V}{b:Bool}(hw:yg ops a gd=some true)(ht:RW E.P t=true)(hx:ev E t a x=some c)(hc:Qv c=some b)(hy:ev E t a y=some .nilf)(hd:ya N d=true)
 (h2:AX E N k dr ops rest (a.put d (.bool b)) σ (⟨[],.bool b,0,[]⟩::acc) Q):AX E N k dr ops (⟨d,.binOp .neq t x y u,ty,ps,af,gd⟩::rest) a σ acc Q:=
 AX.run 0 hw (OS.P6 rfl ht (fr kD hx) hc (fr kD hy)) trivial hd h2
end
end Go.Ab
namespace Go.Ab
open Go
set_option linter.all false
section
variable {E:Env} {N k:Nat} {a:AF} {σ:Ao} {Q:Exit->AF->Ao->Prop} {ops:List Oper} {dr:Bool} {rest:List Oper} {acc:List Rec}
variable {d:Option Tmp} {ty:TypeId} {ps:String} {af:Array Edge} {gd:Option (Nat×Bool)}
theorem M.s3{t:TypeId}{x y zz:Operand}{z:Nat}{zr:List V}{c:Option EC}{sz bytes:Nat}{sp:Sp}{l:SL V}{k1 k2:IntKind}(h2:AX E N k dr ops rest (a.put d (.slice .full l)) σ (⟨[],.slice .full l,0,[]⟩::acc) Q)(hw:yg ops a gd=some true:=by rfl)(hx:ev E t a x=some (.slice sp l):=by rfl)(ht:E.ti t=some ⟨z,zr,.slc c sz bytes⟩:=by rfl)(hy:ev E 0 a y=some (.int k1 l.len):=by rfl)(hz:ev E 0 a zz=some (.int k2 l.len):=by rfl)(hd:ya N d=true:=by rfl):
 AX E N k dr ops (⟨d,.slice t x none (some y) (some zz),ty,ps,af,gd⟩::rest) a σ acc Q:=L.s3 hw hx ht hy hz hd h2
theorem M.r1{rs:List ResultVar}{r:V}{cs:List V}{c1:V}(h8:(zn cs).wk=c1)(h1:GU E a σ.es rs=some cs:=by with_unfolding_all rfl)(h7:uc [] r=some c1:=by with_unfolding_all rfl):
 FT E 0 rs r ⟨0,[]⟩ .ret a σ:=K.r1 h1 h7 h8
theorem M.n1{rs:List ResultVar}{r:V}{cs:List V}{c1:V}(h8:(zn cs).wk=c1)(h1:GU E a σ.es rs=some cs:=by with_unfolding_all rfl)(h7:uc [] r=some c1:=by with_unfolding_all rfl):
 FT E 0 rs r ⟨0,[]⟩ .normal a σ:=K.n1 h1 h7 h8
theorem M.ix{t:TypeId}{x y:Operand}{z:Nat}{zr:List V}{c:Option EC}{sz bytes:Nat}{sp:Sp}{l:SL V}{n:Int}{cs:List V}{kd:IntKind}(h2:AX E N k dr ops rest (a.put d (.addr cs)) σ (⟨[],.addr cs,0,[]⟩::acc) Q)(hw:yg ops a gd=some true:=by rfl)(hx:ev E t a x=some (.slice sp l):=by rfl)(ht:E.ti t=some ⟨z,zr,.slc c sz bytes⟩:=by rfl)(hy:ev E 0 a y=some (.int kd n):=by rfl)(hn:n=0:=by rfl)(hlt:0<l.len:=by exact fP rfl)(hk:l.get 0=some cs:=by rfl)(hsz:Nat.beq l.cells sz=true:=by rfl)(hd:ya N d=true:=by rfl):
 AX E N k dr ops (⟨d,.indexAddr t x y,ty,ps,af,gd⟩::rest) a σ acc Q:=L.ix 0 hw hx ht hy hn hlt hk hsz hd h2
theorem M.c2{f:FuncId}{xs:List Operand}{ts:List TypeId}{cs args:List V}{r:V}(h:PC E f args r)(h2:AX E N k dr ops rest (a.put d r) σ (⟨[],r,0,[]⟩::acc) Q)(hw:yg ops a gd=some true:=by rfl)(hx:EU E a xs ts=some cs:=by rfl)(hr:vn [] args=some (V.Ar cs):=by rfl)(hd:ya N d=true:=by rfl):
 AX E N k dr ops (⟨d,.call ⟨.value (.func f),xs.toArray,ts.toArray⟩,ty,ps,af,gd⟩::rest) a σ acc Q:=L.c2 h hw hx hr hd h2
theorem M.cb{f:FuncId}{xs:List Operand}{ts:List TypeId}{cs args:List V}{σ1 σ2:Ao}{r r':V}{pre post:Es}(h:AC E f args σ1 r σ2)(L:List Nat)(news:Nat)(h2:AX E N k dr ops rest (a.put d r') (σ.AH news post) (⟨pre,r',news,post⟩::acc) Q)(hw:yg ops a gd=some true:=by rfl)(hx:EU E a xs ts=some cs:=by rfl)(hpre:HZ σ.es L=some pre:=by rfl)(hL:L.length=σ1.nx:=by rfl)(hn':σ2.nx=σ1.nx+news:=by rfl)(hd:yj (yp (z9 L σ.nx news))=true:=by rfl)(hr:vn (yp L) args=some (V.Ar cs):=by rfl)(hin:Eh (yp L) pre σ1.es:=by((repeat'(first|exact trivial|exact Or.inl rfl|exact Or.inr ⟨_,rfl,rfl⟩|refine And.intro ?_ ?_|refine⟨_,rfl,_,rfl,_,rfl,?_⟩|refine⟨_,rfl,_,rfl,?_⟩|exact Ap.refl _|exact Ap.any _ _|exact BA.refl _|refine Ap.agg ?_|refine⟨_,rfl,_,_,rfl,?_,?_⟩|with_reducible exact rfl|exact Eq.refl true|refine⟨_,rfl,_,vb _ _ _,_,rfl,?_⟩|fail));all_goals fail))(hout:GP (yp (z9 L σ.nx news)) σ2.es=some post:=by rfl)(hcov:Iu σ2.es σ2.nx=true:=by rfl)(hr':uc (yp (z9 L σ.nx news)) r=some r':=by rfl)(hdst:ya N d=true:=by rfl):
 AX E N k dr ops (⟨d,.call ⟨.value (.func f),xs.toArray,ts.toArray⟩,ty,ps,af,gd⟩::rest) a σ acc Q:=Go.Ab.L.N3 h L news hw hx hpre hL hn' hd hr hin hout hcov hr' hdst h2
theorem M.cv{x:Operand}{f:FuncId}{fi caps:List V}{xs:List Operand}{ts:List TypeId}{cs args:List V}{σ1 σ2:Ao}{r r':V}{pre post:Es}(h:AC E f args σ1 r σ2)(L:List Nat)(news:Nat)(h2:AX E N k dr ops rest (a.put d r') (σ.AH news post) (⟨pre,r',news,post⟩::acc) Q)(hw:yg ops a gd=some true:=by rfl)(hf:ev E 0 a x=some (.fn (.func f) fi caps):=by rfl)(hx:EU E a xs ts=some cs:=by rfl)(hpre:HZ σ.es L=some pre:=by rfl)(hL:L.length=σ1.nx:=by rfl)(hn':σ2.nx=σ1.nx+news:=by rfl)(hd:yj (yp (z9 L σ.nx news))=true:=by rfl)(hr:vn (yp L) args=some (V.Ar (fi++cs++caps)):=by rfl)(hin:Eh (yp L) pre σ1.es:=by((repeat'(first|exact trivial|exact Or.inl rfl|exact Or.inr ⟨_,rfl,rfl⟩|refine And.intro ?_ ?_|refine⟨_,rfl,_,rfl,_,rfl,?_⟩|refine⟨_,rfl,_,rfl,?_⟩|exact Ap.refl _|exact Ap.any _ _|exact BA.refl _|refine Ap.agg ?_|refine⟨_,rfl,_,_,rfl,?_,?_⟩|with_reducible exact rfl|exact Eq.refl true|refine⟨_,rfl,_,vb _ _ _,_,rfl,?_⟩|fail));all_goals fail))(hout:GP (yp (z9 L σ.nx news)) σ2.es=some post:=by rfl)(hcov:Iu σ2.es σ2.nx=true:=by rfl)(hr':uc (yp (z9 L σ.nx news)) r=some r':=by rfl)(hdst:ya N d=true:=by rfl):
 AX E N k dr ops (⟨d,.call ⟨.value x,xs.toArray,ts.toArray⟩,ty,ps,af,gd⟩::rest) a σ acc Q:=Go.Ab.L.cv2 h L news hw hf hx hpre hL hn' hd hr hin hout hcov hr' hdst h2
abbrev AJ:List (Option Nat):=[some 0]
abbrev Bo:List (Option Nat):=[some 0,some 1]
abbrev F8:List (Option Nat):=[some 0,some 1,some 2]
abbrev D9:List (Option Nat):=[some 0,some 1,some 2,some 3]
abbrev C5:List (Option Nat):=[some 0,some 1,some 2,some 3,some 4]
abbrev ID:List (Option Nat):=[some 0,some 1,some 2,some 3,some 4,some 5]
abbrev Ix:List (Option Nat):=[some 0,some 1,some 2,some 3,some 4,some 5,some 6,some 7]
abbrev Rb:List (Option Nat):=[some 0,none]
abbrev RG:List (Option Nat):=[some 0,some 1,none]
abbrev JU:List (Option Nat):=[some 0,some 1,some 2,none]
abbrev Ke:List (Option Nat):=[some 0,some 1,some 2,some 3,none]
abbrev Qu:List (Option Nat):=[some 0,some 1,some 2,some 3,some 4,none]
abbrev PS:List (Option Nat):=[some 0,some 1,some 2,some 3,some 4,some 5,none]
abbrev Rw:List (Option Nat):=[some 0,some 1,some 2,some 3,some 4,some 5,some 6,none]
abbrev OT:List (Option Nat):=[some 0,some 1,some 2,some 3,some 4,some 5,some 6,some 7,none]
abbrev Sa:List (Option Nat):=[some 0,some 1,some 2,some 3,some 4,some 5,some 6,some 7,some 8,none]
abbrev Se:List (Option Nat):=[some 0,some 1,some 2,some 3,some 4,some 5,some 6,some 7,some 8,some 9,none]
theorem M.W(ρ:List (Option Nat)){a2:AF}{es2:Es}{nx2:Nat}(hf:Od ρ a a2:=by((repeat'(first|exact trivial|exact Or.inl rfl|exact Or.inr ⟨_,rfl,rfl⟩|refine And.intro ?_ ?_|refine⟨_,rfl,_,rfl,_,rfl,?_⟩|refine⟨_,rfl,_,rfl,?_⟩|exact Ap.refl _|exact Ap.any _ _|exact BA.refl _|refine Ap.agg ?_|refine⟨_,rfl,_,_,rfl,?_,?_⟩|with_reducible exact rfl|exact Eq.refl true|refine⟨_,rfl,_,vb _ _ _,_,rfl,?_⟩|fail));all_goals fail))(he:Eh ρ σ.es es2:=by((repeat'(first|exact trivial|exact Or.inl rfl|exact Or.inr ⟨_,rfl,rfl⟩|refine And.intro ?_ ?_|refine⟨_,rfl,_,rfl,_,rfl,?_⟩|refine⟨_,rfl,_,rfl,?_⟩|exact Ap.refl _|exact Ap.any _ _|exact BA.refl _|refine Ap.agg ?_|refine⟨_,rfl,_,_,rfl,?_,?_⟩|with_reducible exact rfl|exact Eq.refl true|refine⟨_,rfl,_,vb _ _ _,_,rfl,?_⟩|fail));all_goals fail))(hnx:nx2=ρ.length:=by rfl)(hid:HR 0 k ρ=true:=by rfl)(hd:yj ρ=true:=by rfl)(hb:below σ.nx ρ=true:=by rfl):Bg E N k a σ a2 ⟨nx2,es2⟩:=Bg.mk ρ a2 es2 nx2 hnx hid hd hb hf he
theorem M.r2{rs:List ResultVar}{r:V}{σ':Ao}{cs:List V}{c1:V}(ρ:List (Option Nat))(h1:GU E a σ.es rs=some cs:=by rfl)(h2:ρ.length=σ'.nx:=by rfl)(h3:HR 0 k ρ=true:=by rfl)(h4:yj ρ=true:=by rfl)(h5:below σ.nx ρ=true:=by rfl)(h6:Eh ρ σ.es σ'.es:=by((repeat'(first|exact trivial|exact Or.inl rfl|exact Or.inr ⟨_,rfl,rfl⟩|refine And.intro ?_ ?_|refine⟨_,rfl,_,rfl,_,rfl,?_⟩|refine⟨_,rfl,_,rfl,?_⟩|exact Ap.refl _|exact Ap.any _ _|exact BA.refl _|refine Ap.agg ?_|refine⟨_,rfl,_,_,rfl,?_,?_⟩|with_reducible exact rfl|exact Eq.refl true|refine⟨_,rfl,_,vb _ _ _,_,rfl,?_⟩|fail));all_goals fail))(h7:uc ρ r=some c1:=by rfl)(h8:(zn cs).wk=c1):
 FT E k rs r σ' .ret a σ:=Go.Ab.K.r2 ρ h1 h2 h3 h4 h5 h6 h7 h8
theorem M.n2{rs:List ResultVar}{r:V}{σ':Ao}{cs:List V}{c1:V}(ρ:List (Option Nat))(h1:GU E a σ.es rs=some cs:=by rfl)(h2:ρ.length=σ'.nx:=by rfl)(h3:HR 0 k ρ=true:=by rfl)(h4:yj ρ=true:=by rfl)(h5:below σ.nx ρ=true:=by rfl)(h6:Eh ρ σ.es σ'.es:=by((repeat'(first|exact trivial|exact Or.inl rfl|exact Or.inr ⟨_,rfl,rfl⟩|refine And.intro ?_ ?_|refine⟨_,rfl,_,rfl,_,rfl,?_⟩|refine⟨_,rfl,_,rfl,?_⟩|exact Ap.refl _|exact Ap.any _ _|exact BA.refl _|refine Ap.agg ?_|refine⟨_,rfl,_,_,rfl,?_,?_⟩|with_reducible exact rfl|exact Eq.refl true|refine⟨_,rfl,_,vb _ _ _,_,rfl,?_⟩|fail));all_goals fail))(h7:uc ρ r=some c1:=by rfl)(h8:(zn cs).wk=c1):
 FT E k rs r σ' .normal a σ:=Go.Ab.K.n2 ρ h1 h2 h3 h4 h5 h6 h7 h8
structure M.Hid (R:Prop):Prop where
 out:R
theorem M.gk{P R:Prop}(k:R)(h:M.Hid R->P:=by(intro k;(first|with_reducible refine K.tN ?_|with_reducible refine K.bN ?_|with_reducible refine K.tR ?_|with_reducible refine K.bR ?_|with_reducible refine K.gR ?_|with_reducible refine K.dR ?_|with_reducible refine K.cR ?_|with_reducible refine K.lR ?_|with_reducible refine K.tE ?_|with_reducible refine K.bX kF ?_|with_reducible refine K.bO kF ?_|with_reducible refine K.gE kF ?_|with_reducible refine K.gO kF ?_|with_reducible refine K.cE ?_|with_reducible refine K.lE ?_|with_reducible refine K.r1 kF kF ?_|with_reducible refine K.n1 kF kF ?_|with_reducible refine K.hR ?_|with_reducible refine K.tG ?_|with_reducible refine K.bG ?_|with_reducible refine K.fR ?_|with_reducible refine K.pR ?_|with_reducible refine K.uR ?_|with_reducible refine K.uE ?_|fail);exact M.Hid.out k)):P:=h ⟨k⟩
theorem M.go{P R:Prop}(k:R)(h:M.Hid R->P:=by(intro k;repeat1' (first|((with_reducible refine D.ax ?_);first|((with_reducible refine D.load ?_);first|refine L.Ea rfl rfl rfl rfl rfl rfl ?_|refine L.L7 rfl rfl rfl rfl rfl ?_|refine AX.sk rfl rfl ?_|fail)|((with_reducible refine D.move ?_);first|refine L.mv rfl rfl rfl ?_|refine AX.sk rfl rfl ?_|fail)|((with_reducible refine D.fieldAddr ?_);first|refine L.J2 rfl rfl rfl rfl rfl ?_|refine L.cB rfl rfl rfl rfl rfl rfl ?_|refine AX.sk rfl rfl ?_|fail)|((with_reducible refine D.assign ?_);first|refine L.DB rfl rfl rfl ?_|refine AX.sk rfl rfl ?_|fail)|((with_reducible refine D.bin ?_);first|refine L.ad rfl rfl rfl rfl kn ?_|refine L.sb rfl rfl rfl rfl kn ?_|refine L.ml rfl rfl rfl rfl (by first|omega|assumption) ?_|refine L.rm rfl rfl rfl rfl kn ?_|refine L.bn rfl rfl rfl rfl rfl ?_|refine AX.sk rfl rfl ?_|refine L.P6 rfl kA rfl rfl rfl rfl ?_|refine L.TX 3 rfl rfl rfl kA kA kA kA kA rfl ?_|fail)|((with_reducible refine D.call ?_);first|refine L.NW rfl rfl rfl rfl ?_|refine L.ln rfl rfl rfl rfl ?_|refine L.cw rfl rfl rfl rfl rfl rfl pq rfl rfl mP ?_|refine L.PF rfl rfl rfl rfl (by first|assumption|simp) rfl rfl rfl mP ?_|refine AX.sk rfl rfl ?_|fail)|((with_reducible refine D.extract ?_);first|refine L.ex rfl rfl rfl rfl ?_|refine AX.sk rfl rfl ?_|fail)|((with_reducible refine D.box ?_);first|refine L.bx rfl rfl rfl rfl ?_|refine AX.sk rfl rfl ?_|fail)|((with_reducible refine D.alloc ?_);first|refine L.al rfl rfl rfl ?_|refine AX.sk rfl rfl ?_|fail)|((with_reducible refine D.store ?_);first|refine L.st rfl rfl rfl rfl rfl rfl rfl rfl rfl ?_|refine AX.sk rfl rfl ?_|fail)|((with_reducible refine D.indexAddr ?_);first|refine L.Fc _ rfl rfl rfl rfl rfl rfl rfl lC ?_|refine L.Fc 0 rfl rfl rfl rfl rfl rfl rfl lC ?_|refine L.Fc 1 rfl rfl rfl rfl rfl rfl rfl lC ?_|refine L.Fc 2 rfl rfl rfl rfl rfl rfl rfl lC ?_|refine AX.sk rfl rfl ?_|refine L.ix 0 rfl rfl rfl rfl rfl (fP rfl) rfl rfl rfl ?_|refine L.ix 1 rfl rfl rfl rfl rfl (fP rfl) rfl rfl rfl ?_|refine L.ix 2 rfl rfl rfl rfl rfl (fP rfl) rfl rfl rfl ?_|fail)|((with_reducible refine D.not ?_);first|refine L.nt rfl rfl rfl ?_|refine AX.sk rfl rfl ?_|fail)|((with_reducible refine D.field ?_);first|refine L.fd rfl rfl rfl rfl rfl rfl ?_|refine AX.sk rfl rfl ?_|fail)|((with_reducible refine D.pick ?_);first|refine L.pk rfl rfl rfl rfl ?_|refine AX.sk rfl rfl ?_|fail)|((fail_if_success (first|with_reducible refine D.assign ?_|with_reducible refine D.load ?_|with_reducible refine D.move ?_|with_reducible refine D.call ?_|with_reducible refine D.fieldAddr ?_|with_reducible refine D.bin ?_|with_reducible refine D.store ?_|with_reducible refine D.extract ?_|with_reducible refine D.pick ?_|with_reducible refine D.indexAddr ?_|with_reducible refine D.not ?_|with_reducible refine D.field ?_|with_reducible refine D.box ?_|with_reducible refine D.alloc ?_));first|refine L.nc rfl rfl rfl rfl ?_|refine L.bd rfl rfl rfl rfl rfl ?_|refine L.Nw rfl rfl rfl rfl rfl (EC.BL rfl) rfl rfl ?_|refine L.Nw rfl rfl rfl rfl rfl rfl rfl rfl ?_|refine L.Qa rfl rfl rfl rfl rfl (EC.BL rfl) rfl rfl rfl (EC.BL rfl) rfl rfl ?_|refine L.Qa rfl rfl rfl rfl rfl rfl rfl rfl rfl rfl rfl rfl ?_|refine L.RP rfl rfl rfl rfl rfl (EC.BL rfl) rfl rfl rfl (EC.BL rfl) rfl rfl rfl (EC.BL rfl) rfl rfl ?_|refine L.RP rfl rfl rfl rfl rfl rfl rfl rfl rfl rfl rfl rfl rfl rfl rfl rfl ?_|refine L.bs 0 rfl rfl rfl rfl rfl rfl rfl rfl rfl rfl ?_|refine L.mf rfl rfl rfl rfl ?_|refine L.s3 rfl rfl rfl rfl rfl rfl ?_|refine AX.sk rfl rfl ?_|refine L.dO rfl rfl rfl rfl rfl ?_|refine L.Xc rfl rfl rfl rfl rfl rfl rfl rfl ?_|fail)|fail)|((with_reducible refine D.nil ?_);first|refine AX.Bh ?_|refine AX.KA kA ?_|fail)|fail);exact M.Hid.out k)):P:=h ⟨k⟩
theorem M.gw{P R:Prop}(k:R)(h:M.Hid R->P:=by(intro k;repeat1' (first|((with_reducible refine D.ax ?_);first|((with_reducible refine D.load ?_);first|refine L.Ea rfl rfl rfl rfl rfl rfl ?_|refine L.L7 rfl rfl rfl rfl rfl ?_|refine AX.sk rfl rfl ?_|fail)|((with_reducible refine D.move ?_);first|refine L.mv rfl rfl rfl ?_|refine AX.sk rfl rfl ?_|fail)|((with_reducible refine D.fieldAddr ?_);first|refine L.J2 rfl rfl rfl rfl rfl ?_|refine L.cB rfl rfl rfl rfl rfl rfl ?_|refine AX.sk rfl rfl ?_|fail)|((with_reducible refine D.assign ?_);first|refine L.DB rfl rfl rfl ?_|refine AX.sk rfl rfl ?_|fail)|((with_reducible refine D.bin ?_);first|refine L.ad rfl rfl rfl rfl kn ?_|refine L.sb rfl rfl rfl rfl kn ?_|refine L.ml rfl rfl rfl rfl (by first|omega|assumption) ?_|refine L.rm rfl rfl rfl rfl kn ?_|refine L.bn rfl rfl rfl rfl rfl ?_|refine AX.sk rfl rfl ?_|refine L.P6 rfl kA rfl rfl rfl rfl ?_|refine L.TX 3 rfl rfl rfl kA kA kA kA kA rfl ?_|fail)|((with_reducible refine D.call ?_);first|refine L.NW rfl rfl rfl rfl ?_|refine L.ln rfl rfl rfl rfl ?_|refine L.cw rfl rfl rfl rfl rfl rfl pq rfl rfl mP ?_|refine L.PF rfl rfl rfl rfl (by first|assumption|simp) rfl rfl rfl mP ?_|refine AX.sk rfl rfl ?_|fail)|((with_reducible refine D.extract ?_);first|refine L.ex rfl rfl rfl rfl ?_|refine AX.sk rfl rfl ?_|fail)|((with_reducible refine D.box ?_);first|refine L.bx rfl rfl rfl rfl ?_|refine AX.sk rfl rfl ?_|fail)|((with_reducible refine D.alloc ?_);first|refine L.al rfl rfl rfl ?_|refine AX.sk rfl rfl ?_|fail)|((with_reducible refine D.store ?_);first|refine L.st rfl rfl rfl rfl rfl rfl rfl rfl rfl ?_|refine AX.sk rfl rfl ?_|fail)|((with_reducible refine D.indexAddr ?_);first|refine L.Fc _ rfl rfl rfl rfl rfl rfl rfl lC ?_|refine L.Fc 0 rfl rfl rfl rfl rfl rfl rfl lC ?_|refine L.Fc 1 rfl rfl rfl rfl rfl rfl rfl lC ?_|refine L.Fc 2 rfl rfl rfl rfl rfl rfl rfl lC ?_|refine AX.sk rfl rfl ?_|refine L.ix 0 rfl rfl rfl rfl rfl (fP rfl) rfl rfl rfl ?_|refine L.ix 1 rfl rfl rfl rfl rfl (fP rfl) rfl rfl rfl ?_|refine L.ix 2 rfl rfl rfl rfl rfl (fP rfl) rfl rfl rfl ?_|fail)|((with_reducible refine D.not ?_);first|refine L.nt rfl rfl rfl ?_|refine AX.sk rfl rfl ?_|fail)|((with_reducible refine D.field ?_);first|refine L.fd rfl rfl rfl rfl rfl rfl ?_|refine AX.sk rfl rfl ?_|fail)|((with_reducible refine D.pick ?_);first|refine L.pk rfl rfl rfl rfl ?_|refine AX.sk rfl rfl ?_|fail)|((fail_if_success (first|with_reducible refine D.assign ?_|with_reducible refine D.load ?_|with_reducible refine D.move ?_|with_reducible refine D.call ?_|with_reducible refine D.fieldAddr ?_|with_reducible refine D.bin ?_|with_reducible refine D.store ?_|with_reducible refine D.extract ?_|with_reducible refine D.pick ?_|with_reducible refine D.indexAddr ?_|with_reducible refine D.not ?_|with_reducible refine D.field ?_|with_reducible refine D.box ?_|with_reducible refine D.alloc ?_));first|refine L.nc rfl rfl rfl rfl ?_|refine L.bd rfl rfl rfl rfl rfl ?_|refine L.Nw rfl rfl rfl rfl rfl (EC.BL rfl) rfl rfl ?_|refine L.Nw rfl rfl rfl rfl rfl rfl rfl rfl ?_|refine L.Qa rfl rfl rfl rfl rfl (EC.BL rfl) rfl rfl rfl (EC.BL rfl) rfl rfl ?_|refine L.Qa rfl rfl rfl rfl rfl rfl rfl rfl rfl rfl rfl rfl ?_|refine L.RP rfl rfl rfl rfl rfl (EC.BL rfl) rfl rfl rfl (EC.BL rfl) rfl rfl rfl (EC.BL rfl) rfl rfl ?_|refine L.RP rfl rfl rfl rfl rfl rfl rfl rfl rfl rfl rfl rfl rfl rfl rfl rfl ?_|refine L.bs 0 rfl rfl rfl rfl rfl rfl rfl rfl rfl rfl ?_|refine L.mf rfl rfl rfl rfl ?_|refine L.s3 rfl rfl rfl rfl rfl rfl ?_|refine AX.sk rfl rfl ?_|refine L.dO rfl rfl rfl rfl rfl ?_|refine L.Xc rfl rfl rfl rfl rfl rfl rfl rfl ?_|fail)|fail)|((with_reducible refine D.nil ?_);first|refine AX.Bh ?_|refine AX.KA kA ?_|fail)|((with_reducible refine D.aw ?_);first|refine K.sq (AW.A5 ?_)|refine K.sq (AW.FU mixed kA ?_)|refine K.sq (K.sq ?_)|refine AW.A5 ?_|refine AW.FU mixed kA ?_|refine K.sq (AW.Cn rfl ?_)|refine K.sq (AW.Cp rfl ?_)|refine AW.Cn rfl ?_|refine AW.Cp rfl ?_|refine AW.skip ?_|refine AW.ret ?_|refine AW.exit ?_|refine K.sq (AW.label ?_)|refine AW.label ?_|refine AW.goto ?_|fail)|with_reducible refine K.tN ?_|with_reducible refine K.bN ?_|with_reducible refine K.tR ?_|with_reducible refine K.bR ?_|with_reducible refine K.gR ?_|with_reducible refine K.dR ?_|with_reducible refine K.cR ?_|with_reducible refine K.lR ?_|with_reducible refine K.tE ?_|with_reducible refine K.bX kF ?_|with_reducible refine K.bO kF ?_|with_reducible refine K.gE kF ?_|with_reducible refine K.gO kF ?_|with_reducible refine K.cE ?_|with_reducible refine K.lE ?_|with_reducible refine K.r1 kF kF ?_|with_reducible refine K.n1 kF kF ?_|with_reducible refine K.hR ?_|with_reducible refine K.tG ?_|with_reducible refine K.bG ?_|with_reducible refine K.fR ?_|with_reducible refine K.pR ?_|with_reducible refine K.uR ?_|with_reducible refine K.uE ?_|fail);exact M.Hid.out k)):P:=h ⟨k⟩
theorem M.F{f:FuncId}{fn:Func}{c:Code}{args:List V}{r:V}{σ':Ao}{rs:List ResultVar}(hf:E.P.funcs[f]? =some fn)(h:AW E N σ.nx c (M5 0 args) σ (FT E σ.nx rs r σ'))(hb:fn.body=some c:=by rfl)(hname:(fn.name== "runtime.NumGoroutine")=false:=by rfl)(hN:fn.ntmps=N:=by rfl)(hrs:fn.results=rs.toArray:=by rfl)(hargs:Nat.ble args.length N=true:=by rfl)(hnx:σ.nx<=σ'.nx:=by exact fP rfl)(hY:E.Y=[]:=by rfl):
 AC E f args σ r σ':=Go.Ab.AC.mk hf hb hname hN hrs hargs hnx h hY
end
variable {E:Env} {N:Nat} {k:Nat}
theorem Zym{g:Gh}{D:Nat->Prop}{w:World}:∀{cs:List V} {vcs:List (List V)},ES cellsOf cs=some vcs->∀{vs:List Value},vs.length=cs.length->
 (∀(i:Nat) v c,vs[i]? =some v->cs[i]? =some c->Aq g D w v c)->
 (∀v∈(vs.map fun v=>v.cells.toList).flatten,v.oneCell'=true)/\(vs.map fun v=>v.cells.toList).flatten.length=vcs.flatten.length/\
 ∀(i:Nat) v c,(vs.map fun v=>v.cells.toList).flatten[i]? =some v->vcs.flatten[i]? =some c->Aq g D w v c:=by
 intro cs;induction cs with
 |nil=>
  intro vcs hm vs hl h;simp[ES] at hm
  grind
 |cons c cs ih=>
  intro vcs hm vs hl h;cases vs with
  |nil=>grind
  |cons v vs=>
   simp only[ES,fL,fE] at hm;obtain⟨vc,h1,ys,h2,rfl⟩:=hm;obtain⟨us,e1,e2,e3,e4⟩:=Nz h1 (h 0 v c rfl rfl);obtain⟨i1,i2,i3⟩:=ih h2 (vs:=vs) kr (fun i v c hv hc=>h (i+1) v c kr kr);have e5:v.cells.toList=us:=by rw[e1]
   simp only[fJ,iR,e5];refine⟨fun x hx=> ?_,kr,fun i x y hx hy=> ?_⟩;all_goals grind
section
variable {o:Oper} {a:AF}
theorem OS.TC{t:TypeId}{n m:Nat}{xs:List Operand}{i:TI}{c:Option EC}{sz bytes:Nat}{cs:List V}{vcs:List (List V)}
 (ho:o.op= .buildSlice t n (xs.zipIdx.map fun x=>(x.2,x.1)).toArray) (hn:xs.length=n) (ht:E.ti t=some i) (hd:i.desc= .slc c sz bytes)
 (hrel:∀{g:Gh} {D:Nat->Prop} {es:Es} {w:World} {act:Act},R E.G g D es w->Bi g D w N act a->(xs.map act.eval).length=cs.length/\∀(i:Nat) v c,(xs.map act.eval)[i]? =some v->cs[i]? =some c->Aq g D w v c) (hcs:ES cellsOf cs=some vcs)
 (hsz:(vcs.all fun vc=>Nat.beq vc.length sz)=true) (hb:Nat.ble (n*sz) 16777216=true):OS E N o a [] (.arr m n sz) [m] [(m,.var vcs.flatten)]:=
 .of_run fun g D es w act hR _ hnm hF=>by
  obtain⟨e,inf,z,h1,h2,h3,h4,h5,h6,h7,h8⟩:=La ht hd;obtain⟨h9,h10⟩:=hrel hR hF;have hsz':∀vc∈vcs,vc.length=sz:=fun vc hvc=>gA (fF.1 hsz vc hvc);obtain⟨h11,h12⟩:=ZO hcs h9 h10 hsz';obtain⟨f1,f2,f3⟩:=Zym hcs h9 h10;have hvl:=(RR hcs).1;have hlen:(xs.map act.eval).length=n:=kr
  have hvn:vcs.length=n:=kn
  have hflat:=Xd (sz:=sz) (vcs:=(xs.map act.eval).map fun v=>v.cells.toList) (fun vc hvc=>by
   grind)
  simp only[gH,hn] at hflat;obtain⟨hR',hx⟩:=hR.J8 (hnm m ko) (some ⟨w.heap.size,0,n,sz,0⟩) (vs:=((xs.map act.eval).map fun v=>v.cells.toList).flatten) (cs:=vcs.flatten) e kn f1 f3
   (fun r hr=>kr)
  refine⟨_,.slice (some ⟨w.heap.size,0,none⟩) n n,_,?_,hR'.more (fun i hi=>kr),?_,hx⟩
  .have hb':¬(n*sz>16777216):=kP
   have hparts:((xs.zipIdx.map fun x=>(x.2,x.1)).toArray.map fun x=>(x.1,act.eval x.2)).toList=((xs.map act.eval).zipIdx 0).map fun(v,i)=>(i,v):=by
    simp[List.zipIdx_map]
   have key:∀cells:Array Value,cells.size=n*sz->Instr.fill (fun i=>some (i*sz,sz)) cells ((xs.zipIdx.map fun x=>(x.2,x.1)).toArray.map fun x=>(x.1,act.eval x.2)).toList=
    some (((xs.map act.eval).map fun v=>v.cells.toList).flatten).toArray:=by
    intro cells hcells;rw[hparts,Yy (xs.map act.eval) 0 cells h11 kr]
    grind
   simp only[execOp,ho,Instr.buildSlice,wj h1,Sem.run_bind,Result.andThen_ok,vq h2,h3,hb',if_false];by_cases hz:n*sz=0
   .exact sw
   .exact rW
  .exact Tp D g m _ (fB _)
theorem OS.UC{t:TypeId}{n m:Nat}{xs:List Operand}{i:TI}{c:Option EC}{sz bytes:Nat}{et:TypeId}{cs:List V}{vcs:List (List V)}
 (ho:o.op= .buildSlice t n (xs.zipIdx.map fun x=>(x.2,x.1)).toArray) (hn:xs.length=n) (ht:E.ti t=some i) (hd:i.desc= .slc c sz bytes) (hev:Fo E et a xs=some cs) (hcs:ES cellsOf cs=some vcs)
 (hsz:(vcs.all fun vc=>Nat.beq vc.length sz)=true) (hb:Nat.ble (n*sz) 16777216=true):OS E N o a [] (.arr m n sz) [m] [(m,.var vcs.flatten)]:=
 OS.TC ho hn ht hd (fun hR hF=>QJ hev hR hF) hcs hsz hb
end
section
variable {dr:Bool} {ops rest:List Oper} {a:AF} {σ:Ao} {acc:List Rec} {Q:Exit->AF->Ao->Prop}
variable {d:Option Tmp} {ty:TypeId} {ps:String} {af:Array Edge} {gd:Option (Nat×Bool)}
theorem L.bsA{t:TypeId}{n:Nat}{pp:List (Nat×Operand)}{z:Nat}{zr:List V}{c:Option EC}{sz bytes:Nat}{cs:List V}{vcs:List (List V)}(et:TypeId)(hw:yg ops a gd=some true)(ht:E.ti t=some ⟨z,zr,.slc c sz bytes⟩)
 (hpp:pp=(pp.map Prod.snd).zipIdx.map fun x=>(x.2,x.1)) (hn:(pp.map Prod.snd).length=n) (hev:Fo E et a (pp.map Prod.snd)=some cs) (hcs:ES cellsOf cs=some vcs)
 (hsz:(vcs.all fun vc=>Nat.beq vc.length sz)=true) (hb:Nat.ble (n*sz) 16777216=true) (hd:ya N d=true)
 (h2:AX E N k dr ops rest (a.put d (.arr σ.nx n sz)) (σ.AH 1 [(σ.nx,.var vcs.flatten)]) (⟨[],.arr σ.nx n sz,1,[(σ.nx,.var vcs.flatten)]⟩::acc) Q):
 AX E N k dr ops (⟨d,.buildSlice t n pp.toArray,ty,ps,af,gd⟩::rest) a σ acc Q:=
 AX.run 1 hw (OS.UC (et:=et) kr hn ht rfl (RI pO hev) hcs hsz hb) trivial hd h2
theorem L.Wr{t:TypeId}{x:Operand}{z:Nat}{zr:List V}{c:Option EC}{sz bytes:Nat}{v:V}{vc:List V}(et:TypeId)(hw:yg ops a gd=some true)(ht:E.ti t=some ⟨z,zr,.slc c sz bytes⟩)
 (hev:ev E et a x=some v) (hcs:cellsOf v=some vc) (hsz:Nat.beq vc.length sz=true) (hb:Nat.ble (1*sz) 16777216=true) (hd:ya N d=true)
 (h2:AX E N k dr ops rest (a.put d (.arr σ.nx 1 sz)) (σ.AH 1 [(σ.nx,.var vc)]) (⟨[],.arr σ.nx 1 sz,1,[(σ.nx,.var vc)]⟩::acc) Q):
 AX E N k dr ops (⟨d,.buildSlice t 1 #[(0,x)],ty,ps,af,gd⟩::rest) a σ acc Q:=by
 have e:[vc].flatten=vc:=ko
 exact L.bsA (pp:=[(0,x)]) (cs:=[v]) (vcs:=[vc]) et hw ht rfl rfl (by simp[Fo,hev]) (by simp[ES,hcs]) kr hb hd (by rw[e];exact h2)
end
theorem Zqk{P:Program}(w:World){t ti:TypeId}{k:IntKind}{a1 a2 b1 b2:Int}(h1:P.underlying t=some (.struct (P.fieldsOf t)))(h2:P.stoodInHeld t=false)(hi:P.underlying ti=some (.int k))
 (h4:(P.fieldsOf t).toList.map (fun f=>(f.name== "_",f.offset,f.type))=[(false,0,ti),(false,1,ti)]):
 (binOp .eql t (.agg #[.int k a1,.int k a2]) (.agg #[.int k b1,.int k b2])).run P w= .ok (.bool (decide (a1=b1)&&decide (a2=b2))) w:=by
 rw[run_eql_struct,run_equalIn_agg w 9999 t _ _ h1 h2];generalize (P.fieldsOf t).toList=fs at h4
 match fs,h4 with
 |[],h4=>simp at h4
 |[_],h4=>simp at h4
 |_::_::_::_,h4=>simp at h4
 |[f,g],h4=>
  simp only[fJ,fU,i5,kB,and_true] at h4;obtain⟨⟨n1,o1,t1⟩,n2,o2,t2⟩:=h4;have m1:f.name≠ "_" :=by intro h;rw[h] at n1;simp at n1
  have m2:g.name≠ "_" :=by intro h;rw[h] at n2;simp at n2
  have hp:P.plainKey ti=true:=by unfold Program.plainKey;rw[hi]
  simp only[Op.eqFields,m1,m2,ne_eq,not_false_eq_true,if_true,Sem.run_bind,o1,o2,t1,t2];rw[run_part_plain w hp (v:= .int k a1) rfl,Result.andThen_ok,run_part_plain w hp (v:= .int k b1) rfl,Result.andThen_ok,run_equalIn_int w 9998 ti k k a1 b1 hi,Result.andThen_ok];by_cases e1:a1=b1
  .simp only[e1,beq_self_eq_true,jN,jE,if_false,Sem.run_bind];rw[run_part_plain w hp (v:= .int k a2) rfl,Result.andThen_ok,run_part_plain w hp (v:= .int k b2) rfl,Result.andThen_ok,run_equalIn_int w 9998 ti k k a2 b2 hi,Result.andThen_ok];by_cases e2:a2=b2<;>simp[e2]
  .simp[e1]
theorem OS.Km{E:Env}{N:Nat}{o:Oper}{a:AF}{t ti u:TypeId}{x y:Operand}{k:IntKind}{a1 a2 b1 b2:Int}(ho:o.op= .binOp .eql t x y u)(h1:E.P.underlying t=some (.struct (E.P.fieldsOf t)))(h2:E.P.stoodInHeld t=false)
 (h3:E.P.eqGuardType E.P.depth t=false) (hi:E.P.underlying ti=some (.int k)) (h4:(E.P.fieldsOf t).toList.map (fun f=>(f.name== "_",f.offset,f.type))=[(false,0,ti),(false,1,ti)])
 (hx:ev E t a x=some (.agg [.int k a1,.int k a2])) (hy:ev E t a y=some (.agg [.int k b1,.int k b2])):OS E N o a [] (.bool (decide (a1=b1)&&decide (a2=b2))) [] []:=
 .pure fun g D es w act hR _ hF=>by
  have key:∀{z:Operand} {c1 c2:Int},ev E t a z=some (.agg [.int k c1,.int k c2])->act.eval z= .agg #[.int k c1,.int k c2]:=fun {z c1 c2} hz=>by
   obtain⟨vs,e,hl,_,hv⟩:=(yk hz hR hF).GY
   match vs,hl with
   |[v1,v2],_=>
    have r1:=(hv 0 v1 _ rfl rfl).BS;have r2:=(hv 1 v2 _ rfl rfl).BS;rw[e,r1,r2]
  have e1:=key hx;have e2:=key hy;exact⟨.bool (decide (a1=b1)&&decide (a2=b2)),by simp[execOp,ho,e1,e2,run_eqGuard_agg w _ _ _ _ _ _ h3,Zqk w h1 h2 hi h4],.data (.bool _)⟩
section
variable {E:Env} {N k:Nat} {dr:Bool} {ops rest:List Oper} {a:AF} {σ:Ao} {acc:List Rec} {Q:Exit->AF->Ao->Prop}
variable {d:Option Tmp} {ty:TypeId} {ps:String} {af:Array Edge} {gd:Option (Nat×Bool)}
theorem L.TX(ti:TypeId){t u:TypeId}{x y:Operand}{kd:IntKind}{a1 a2 b1 b2:Int}(hw:yg ops a gd=some true)(hx:ev E t a x=some (.agg [.int kd a1,.int kd a2]))(hy:ev E t a y=some (.agg [.int kd b1,.int kd b2]))
 (h1:E.P.underlying t=some (.struct (E.P.fieldsOf t))) (h2:E.P.stoodInHeld t=false) (h3:E.P.eqGuardType E.P.depth t=false) (hi:E.P.underlying ti=some (.int kd))
 (h4:(E.P.fieldsOf t).toList.map (fun f=>(f.name== "_",f.offset,f.type))=[(false,0,ti),(false,1,ti)]) (hd:ya N d=true)
 (h5:AX E N k dr ops rest (a.put d (.bool (decide (a1=b1)&&decide (a2=b2)))) σ (⟨[],.bool (decide (a1=b1)&&decide (a2=b2)),0,[]⟩::acc) Q):AX E N k dr ops (⟨d,.binOp .eql t x y u,ty,ps,af,gd⟩::rest) a σ acc Q:=
 AX.run 0 hw (OS.Km rfl h1 h2 h3 hi h4 (fr kD hx) (fr kD hy)) trivial hd h5
end
section
variable {E:Env} {N k:Nat} {a:AF} {σ:Ao} {Q:Exit->AF->Ao->Prop} {ops:List Oper} {dr:Bool} {rest:List Oper} {acc:List Rec}
variable {d:Option Tmp} {ty:TypeId} {ps:String} {af:Array Edge} {gd:Option (Nat×Bool)}
structure M.St (n:Nat):Prop where
theorem M.qR{id:Nat}{o:Array Oper}{b:Bool}{z:Code}(s:M.St id)(h:AW E N k (.seq (.region id o b) z) a σ Q):AW E N k (.seq (.region id o b) z) a σ Q:=h
theorem M.qS{id:Nat}{o:Array Oper}{b:Bool}{y z:Code}(s:M.St id)(h:AW E N k (.seq (.seq (.region id o b) y) z) a σ Q):AW E N k (.seq (.seq (.region id o b) y) z) a σ Q:=h
theorem M.qB{ti:Nat}{t u:TypeId}{x y:Operand}{kd:IntKind}{a1 a2 b1 b2:Int}(s:M.St ti)(hw:yg ops a gd=some true)(hx:ev E t a x=some (.agg [.int kd a1,.int kd a2]))(hy:ev E t a y=some (.agg [.int kd b1,.int kd b2]))
 (h1:E.P.underlying t=some (.struct (E.P.fieldsOf t))) (h2:E.P.stoodInHeld t=false) (h3:E.P.eqGuardType E.P.depth t=false) (hi:E.P.underlying ti=some (.int kd))
 (h4:(E.P.fieldsOf t).toList.map (fun f=>(f.name== "_",f.offset,f.type))=[(false,0,ti),(false,1,ti)]) (hd:ya N d=true)
 (h5:AX E N k dr ops rest (a.put d (.bool (decide (a1=b1)&&decide (a2=b2)))) σ (⟨[],.bool (decide (a1=b1)&&decide (a2=b2)),0,[]⟩::acc) Q):AX E N k dr ops (⟨d,.binOp .eql t x y u,ty,ps,af,gd⟩::rest) a σ acc Q:=
 L.TX ti hw hx hy h1 h2 h3 hi h4 hd h5
theorem M.gs{P R S:Prop}(k:R)(l:S)(h:M.Hid R->M.Hid S->P:=by(intro k l;(fail_if_success refine AX.wt rfl ?_);(refine AX.gs rfl rfl (fun _=>trivial) ?_ ?_);exact M.Hid.out k;exact M.Hid.out l)):P:=h ⟨k⟩ ⟨l⟩
theorem M.cs{P R S:Prop}(k:R)(l:S)(h:M.Hid R->M.Hid S->P:=by(intro k l;(with_reducible refine D.aw ?_);(refine AW.D6 rfl ?_ ?_);exact M.Hid.out k;exact M.Hid.out l)):P:=h ⟨k⟩ ⟨l⟩
theorem M.ks{P R S:Prop}(k:R)(l:S)(h:M.Hid R->M.Hid S->P:=by(intro k l;(with_reducible refine D.aw ?_);(refine K.sq (AW.D6 rfl ?_ ?_));exact M.Hid.out k;exact M.Hid.out l)):P:=h ⟨k⟩ ⟨l⟩
theorem M.bl{P R:Prop}(k:R)(h:M.Hid R->P:=by(intro k;(with_reducible refine D.blk ?_);(refine AW.block ?_);exact M.Hid.out k)):P:=h ⟨k⟩
theorem M.zb{P R:Prop}(k:R)(h:M.Hid R->P:=by(intro k;(with_reducible refine D.VK ?_);(refine K.sq (AW.block ?_));exact M.Hid.out k)):P:=h ⟨k⟩
theorem M.nl{P R:Prop}(k:R)(h:M.Hid R->P:=by(intro k;(with_reducible refine D.nil ?_);(refine AX.Bh ?_);exact M.Hid.out k)):P:=h ⟨k⟩
theorem M.lt{P:Prop}(h:P:=by((with_reducible show @LT.lt Nat _ _ _);omega)):P:=h
theorem M.le{P:Prop}(h:P:=by((with_reducible show @LE.le Nat _ _ _);omega)):P:=h
theorem M.bp(n:Nat){P R:Prop}(k:R)(h:M.St n->M.Hid R->P:=by(intro s k;(refine M.qB s rfl rfl rfl kA kA kA kA kA rfl ?_);exact M.Hid.out k)):P:=h ⟨⟩ ⟨k⟩
theorem M.z1(n1:Nat){P R:Prop}(k:R)(h:M.St n1->M.Hid R->P:=by(intro s1 k;(with_reducible refine D.aw ?_);(fail_if_success with_reducible refine M.qR s1 ?_);(fail_if_success with_reducible refine M.qS s1 ?_);(first|refine K.sq (AW.A5 ?_)|refine K.sq (AW.FU mixed kA ?_)|refine K.sq (K.sq ?_)|refine AW.A5 ?_|refine AW.FU mixed kA ?_|refine K.sq (AW.Cn rfl ?_)|refine K.sq (AW.Cp rfl ?_)|refine AW.Cn rfl ?_|refine AW.Cp rfl ?_|refine AW.skip ?_|refine AW.ret ?_|refine AW.exit ?_|refine K.sq (AW.label ?_)|refine AW.label ?_|refine AW.goto ?_|fail);exact M.Hid.out k)):P:=h ⟨⟩ ⟨k⟩
theorem M.z2(n1 n2:Nat){P R:Prop}(k:R)(h:M.St n1->M.St n2->M.Hid R->P:=by(intro s1 s2 k;(with_reducible refine D.aw ?_);(fail_if_success with_reducible refine M.qR s1 ?_);(fail_if_success with_reducible refine M.qS s1 ?_);(fail_if_success with_reducible refine M.qR s2 ?_);(fail_if_success with_reducible refine M.qS s2 ?_);(first|refine K.sq (AW.A5 ?_)|refine K.sq (AW.FU mixed kA ?_)|refine K.sq (K.sq ?_)|refine AW.A5 ?_|refine AW.FU mixed kA ?_|refine K.sq (AW.Cn rfl ?_)|refine K.sq (AW.Cp rfl ?_)|refine AW.Cn rfl ?_|refine AW.Cp rfl ?_|refine AW.skip ?_|refine AW.ret ?_|refine AW.exit ?_|refine K.sq (AW.label ?_)|refine AW.label ?_|refine AW.goto ?_|fail);exact M.Hid.out k)):P:=h ⟨⟩ ⟨⟩ ⟨k⟩
theorem M.z3(n1 n2 n3:Nat){P R:Prop}(k:R)(h:M.St n1->M.St n2->M.St n3->M.Hid R->P:=by(intro s1 s2 s3 k;(with_reducible refine D.aw ?_);(fail_if_success with_reducible refine M.qR s1 ?_);(fail_if_success with_reducible refine M.qS s1 ?_);(fail_if_success with_reducible refine M.qR s2 ?_);(fail_if_success with_reducible refine M.qS s2 ?_);(fail_if_success with_reducible refine M.qR s3 ?_);(fail_if_success with_reducible refine M.qS s3 ?_);(first|refine K.sq (AW.A5 ?_)|refine K.sq (AW.FU mixed kA ?_)|refine K.sq (K.sq ?_)|refine AW.A5 ?_|refine AW.FU mixed kA ?_|refine K.sq (AW.Cn rfl ?_)|refine K.sq (AW.Cp rfl ?_)|refine AW.Cn rfl ?_|refine AW.Cp rfl ?_|refine AW.skip ?_|refine AW.ret ?_|refine AW.exit ?_|refine K.sq (AW.label ?_)|refine AW.label ?_|refine AW.goto ?_|fail);exact M.Hid.out k)):P:=h ⟨⟩ ⟨⟩ ⟨⟩ ⟨k⟩
theorem M.rp{B C r1 r2:Nat}{c i n d:Tmp}{T T' T2 T3:TypeId}{ty1 ty2 ty3:TypeId}{p1 p2 p3:String}{af1 af2 af3:Array Edge}{body:Code}(len:Nat)(P:Nat->Prop)(J:Nat->AF×Ao)(hP:P 0)(h0:Bg E N k a σ (J 0).1 (J 0).2)
 (hb:∀m,m<len->P m->AW E N k body ((c,.bool true)::(J m).1) (J m).2 (uq C (KF E N k B i d m P J Q)))
 (he:P len->Q .normal ((c,.bool false)::(J len).1) (J len).2) (hlen:len<4611686018427387904:=by omega) (hi:∀m,(J m).1.get i=some (.int .i64 m):=by exact fun m=>rfl) (hn:∀m,(J m).1.get n=some (.int .i64 len):=by exact fun m=>rfl) (hd:ya N (some c)&&ya N (some d)&&ya N (some i)&& !Nat.beq d i=true:=by exact rfl):
 AW E N k (.block B (.loop (.seq (.region r1 #[⟨some c,.binOp .lss T (.tmp i) (.tmp n) T',ty1,p1,af1,none⟩] false)
  (.seq (.cond (.tmp c) .skip (.exit B)) (.seq (.block C body)
   (.region r2 #[⟨some d,.binOp .add T2 (.tmp i) (.const (.int .i64 1)) T3,ty2,p2,af2,none⟩,⟨some i,.move (.tmp d),ty3,p3,af3,none⟩] false)))))) a σ Q:=AW.range len P J hlen hi hn hd hP h0 hb he
theorem M.rt{B C r1 r2:Nat}{c i n d:Tmp}{T T' T2 T3:TypeId}{ty1 ty2 ty3:TypeId}{p1 p2 p3:String}{af1 af2 af3:Array Edge}{body:Code}(len:Nat)(J:Nat->AF×Ao)(h0:Bg E N k a σ (J 0).1 (J 0).2)
 (hb:∀m,m<len->True->AW E N k body ((c,.bool true)::(J m).1) (J m).2 (uq C (KF E N k B i d m (fun _=>True) J Q)))
 (he:True->Q .normal ((c,.bool false)::(J len).1) (J len).2) (hlen:len<4611686018427387904:=by omega) (hi:∀m,(J m).1.get i=some (.int .i64 m):=by exact fun m=>rfl) (hn:∀m,(J m).1.get n=some (.int .i64 len):=by exact fun m=>rfl) (hd:ya N (some c)&&ya N (some d)&&ya N (some i)&& !Nat.beq d i=true:=by exact rfl):
 AW E N k (.block B (.loop (.seq (.region r1 #[⟨some c,.binOp .lss T (.tmp i) (.tmp n) T',ty1,p1,af1,none⟩] false)
  (.seq (.cond (.tmp c) .skip (.exit B)) (.seq (.block C body)
   (.region r2 #[⟨some d,.binOp .add T2 (.tmp i) (.const (.int .i64 1)) T3,ty2,p2,af2,none⟩,⟨some i,.move (.tmp d),ty3,p3,af3,none⟩] false)))))) a σ Q:=AW.range len (fun _=>True) J hlen hi hn hd trivial h0 hb he
theorem M.cx{P R S:Prop}(h:S)(k:R)(q:S->M.Hid R->P:=by(intro h k;(first|refine M.c2 h ?_|refine M.cb h [0] 0 ?_|refine M.cv h [0,1] 0 ?_);exact M.Hid.out k)):P:=q h ⟨k⟩
theorem M.w0{P R:Prop}(k:R)(h:M.Hid R->P:=by(intro k;(repeat1' (first|refine M.gw ?_|fail));exact M.Hid.out k)):P:=h ⟨k⟩
theorem M.w1{P R S1:Prop}(h1:S1)(k:R)(h:S1->M.Hid R->P:=by(intro h1 k;(repeat1' (first|refine M.gw ?_|refine M.cx h1 ?_|fail));exact M.Hid.out k)):P:=h h1 ⟨k⟩
theorem M.w2{P R S1 S2:Prop}(h1:S1)(h2:S2)(k:R)(h:S1->S2->M.Hid R->P:=by(intro h1 h2 k;(repeat1' (first|refine M.gw ?_|refine M.cx h1 ?_|refine M.cx h2 ?_|fail));exact M.Hid.out k)):P:=h h1 h2 ⟨k⟩
theorem M.w3{P R S1 S2 S3:Prop}(h1:S1)(h2:S2)(h3:S3)(k:R)(h:S1->S2->S3->M.Hid R->P:=by(intro h1 h2 h3 k;(repeat1' (first|refine M.gw ?_|refine M.cx h1 ?_|refine M.cx h2 ?_|refine M.cx h3 ?_|fail));exact M.Hid.out k)):P:=h h1 h2 h3 ⟨k⟩
theorem M.w4{P R S1 S2 S3 S4:Prop}(h1:S1)(h2:S2)(h3:S3)(h4:S4)(k:R)(h:S1->S2->S3->S4->M.Hid R->P:=by(intro h1 h2 h3 h4 k;(repeat1' (first|refine M.gw ?_|refine M.cx h1 ?_|refine M.cx h2 ?_|refine M.cx h3 ?_|refine M.cx h4 ?_|fail));exact M.Hid.out k)):P:=h h1 h2 h3 h4 ⟨k⟩
theorem M.w5{P R S1 S2 S3 S4 S5:Prop}(h1:S1)(h2:S2)(h3:S3)(h4:S4)(h5:S5)(k:R)(h:S1->S2->S3->S4->S5->M.Hid R->P:=by(intro h1 h2 h3 h4 h5 k;(repeat1' (first|refine M.gw ?_|refine M.cx h1 ?_|refine M.cx h2 ?_|refine M.cx h3 ?_|refine M.cx h4 ?_|refine M.cx h5 ?_|fail));exact M.Hid.out k)):P:=h h1 h2 h3 h4 h5 ⟨k⟩
theorem M.w6{P R S1 S2 S3 S4 S5 S6:Prop}(h1:S1)(h2:S2)(h3:S3)(h4:S4)(h5:S5)(h6:S6)(k:R)(h:S1->S2->S3->S4->S5->S6->M.Hid R->P:=by(intro h1 h2 h3 h4 h5 h6 k;(repeat1' (first|refine M.gw ?_|refine M.cx h1 ?_|refine M.cx h2 ?_|refine M.cx h3 ?_|refine M.cx h4 ?_|refine M.cx h5 ?_|refine M.cx h6 ?_|fail));exact M.Hid.out k)):P:=h h1 h2 h3 h4 h5 h6 ⟨k⟩
theorem M.o0{P R:Prop}(k:R)(h:M.Hid R->P:=by(intro k;(repeat1' (first|refine M.go ?_|fail));exact M.Hid.out k)):P:=h ⟨k⟩
theorem M.o1{P R S1:Prop}(h1:S1)(k:R)(h:S1->M.Hid R->P:=by(intro h1 k;(repeat1' (first|refine M.go ?_|refine M.cx h1 ?_|fail));exact M.Hid.out k)):P:=h h1 ⟨k⟩
theorem M.o2{P R S1 S2:Prop}(h1:S1)(h2:S2)(k:R)(h:S1->S2->M.Hid R->P:=by(intro h1 h2 k;(repeat1' (first|refine M.go ?_|refine M.cx h1 ?_|refine M.cx h2 ?_|fail));exact M.Hid.out k)):P:=h h1 h2 ⟨k⟩
theorem M.o3{P R S1 S2 S3:Prop}(h1:S1)(h2:S2)(h3:S3)(k:R)(h:S1->S2->S3->M.Hid R->P:=by(intro h1 h2 h3 k;(repeat1' (first|refine M.go ?_|refine M.cx h1 ?_|refine M.cx h2 ?_|refine M.cx h3 ?_|fail));exact M.Hid.out k)):P:=h h1 h2 h3 ⟨k⟩
theorem M.o4{P R S1 S2 S3 S4:Prop}(h1:S1)(h2:S2)(h3:S3)(h4:S4)(k:R)(h:S1->S2->S3->S4->M.Hid R->P:=by(intro h1 h2 h3 h4 k;(repeat1' (first|refine M.go ?_|refine M.cx h1 ?_|refine M.cx h2 ?_|refine M.cx h3 ?_|refine M.cx h4 ?_|fail));exact M.Hid.out k)):P:=h h1 h2 h3 h4 ⟨k⟩
theorem M.o5{P R S1 S2 S3 S4 S5:Prop}(h1:S1)(h2:S2)(h3:S3)(h4:S4)(h5:S5)(k:R)(h:S1->S2->S3->S4->S5->M.Hid R->P:=by(intro h1 h2 h3 h4 h5 k;(repeat1' (first|refine M.go ?_|refine M.cx h1 ?_|refine M.cx h2 ?_|refine M.cx h3 ?_|refine M.cx h4 ?_|refine M.cx h5 ?_|fail));exact M.Hid.out k)):P:=h h1 h2 h3 h4 h5 ⟨k⟩
theorem M.o6{P R S1 S2 S3 S4 S5 S6:Prop}(h1:S1)(h2:S2)(h3:S3)(h4:S4)(h5:S5)(h6:S6)(k:R)(h:S1->S2->S3->S4->S5->S6->M.Hid R->P:=by(intro h1 h2 h3 h4 h5 h6 k;(repeat1' (first|refine M.go ?_|refine M.cx h1 ?_|refine M.cx h2 ?_|refine M.cx h3 ?_|refine M.cx h4 ?_|refine M.cx h5 ?_|refine M.cx h6 ?_|fail));exact M.Hid.out k)):P:=h h1 h2 h3 h4 h5 h6 ⟨k⟩
theorem M.v0{P R:Prop}(k:R)(h:M.Hid R->P:=by(intro k;(repeat1' (first|refine M.gw ?_|refine M.bl ?_|fail));exact M.Hid.out k)):P:=h ⟨k⟩
theorem M.v1{P R S1:Prop}(h1:S1)(k:R)(h:S1->M.Hid R->P:=by(intro h1 k;(repeat1' (first|refine M.gw ?_|refine M.cx h1 ?_|refine M.bl ?_|fail));exact M.Hid.out k)):P:=h h1 ⟨k⟩
theorem M.v2{P R S1 S2:Prop}(h1:S1)(h2:S2)(k:R)(h:S1->S2->M.Hid R->P:=by(intro h1 h2 k;(repeat1' (first|refine M.gw ?_|refine M.cx h1 ?_|refine M.cx h2 ?_|refine M.bl ?_|fail));exact M.Hid.out k)):P:=h h1 h2 ⟨k⟩
theorem M.v3{P R S1 S2 S3:Prop}(h1:S1)(h2:S2)(h3:S3)(k:R)(h:S1->S2->S3->M.Hid R->P:=by(intro h1 h2 h3 k;(repeat1' (first|refine M.gw ?_|refine M.cx h1 ?_|refine M.cx h2 ?_|refine M.cx h3 ?_|refine M.bl ?_|fail));exact M.Hid.out k)):P:=h h1 h2 h3 ⟨k⟩
theorem M.v4{P R S1 S2 S3 S4:Prop}(h1:S1)(h2:S2)(h3:S3)(h4:S4)(k:R)(h:S1->S2->S3->S4->M.Hid R->P:=by(intro h1 h2 h3 h4 k;(repeat1' (first|refine M.gw ?_|refine M.cx h1 ?_|refine M.cx h2 ?_|refine M.cx h3 ?_|refine M.cx h4 ?_|refine M.bl ?_|fail));exact M.Hid.out k)):P:=h h1 h2 h3 h4 ⟨k⟩
theorem M.v5{P R S1 S2 S3 S4 S5:Prop}(h1:S1)(h2:S2)(h3:S3)(h4:S4)(h5:S5)(k:R)(h:S1->S2->S3->S4->S5->M.Hid R->P:=by(intro h1 h2 h3 h4 h5 k;(repeat1' (first|refine M.gw ?_|refine M.cx h1 ?_|refine M.cx h2 ?_|refine M.cx h3 ?_|refine M.cx h4 ?_|refine M.cx h5 ?_|refine M.bl ?_|fail));exact M.Hid.out k)):P:=h h1 h2 h3 h4 h5 ⟨k⟩
theorem M.v6{P R S1 S2 S3 S4 S5 S6:Prop}(h1:S1)(h2:S2)(h3:S3)(h4:S4)(h5:S5)(h6:S6)(k:R)(h:S1->S2->S3->S4->S5->S6->M.Hid R->P:=by(intro h1 h2 h3 h4 h5 h6 k;(repeat1' (first|refine M.gw ?_|refine M.cx h1 ?_|refine M.cx h2 ?_|refine M.cx h3 ?_|refine M.cx h4 ?_|refine M.cx h5 ?_|refine M.cx h6 ?_|refine M.bl ?_|fail));exact M.Hid.out k)):P:=h h1 h2 h3 h4 h5 h6 ⟨k⟩
end
end Go.Ab
namespace Go.Ab
open Go
set_option linter.unusedSimpArgs false
set_option linter.unusedVariables false
theorem Aq.Di{g:Gh}{D:Nat->Prop}{w:World}{v u:Value}(h:Aq g D w v (.raw u)):v=u:=by
 cases h with
 |data h=>cases h
 |raw=>rfl
abbrev V.rp(b off:Nat):V:= .raw (.pointer (some ⟨b,off,none⟩))
abbrev V.rs(b n cap:Nat):V:= .raw (.slice (some ⟨b,0,none⟩) n cap)
section
variable {E:Env} {N:Nat} {o:Oper} {a:AF}
theorem Ku.pure{v:V}(h:∀g D es w act,R E.G g D es w->ET E.Y g (Av g es) w->Bi g D w N act a->∃v',(execOp act.eval o).run E.P w= .ok (.value v') w/\Aq g D w v' v):
 Ku E N o a [] v [] []:=by
 intro g D es w act hR hY hp hn hF K Q hK;obtain⟨v',h1,h2⟩:=h g D es w act hR hY hF;unfold Oper.wp;rw[h1];exact hK g v' w (hR.more fun n h=> .inl h) (h2.more fun n h=> .inl h) (.refl ..)
theorem OS.ncR{x:Operand}{b off:Nat}(ho:o.op= .nilCheck x)(hx:ev E 0 a x=some (.rp b off)):OS E N o a [] (.rp b off) [] []:=
 .pure fun g D es w act hR _ hF=>by
  have h1:=(yk hx hR hF).Di;exact⟨_,by simp[execOp,ho,h1],.raw _⟩
end
section
variable {E:Env} {N k:Nat} {ops:List Oper} {dr:Bool} {rest:List Oper} {a:AF} {σ:Ao} {acc:List Rec} {Q:Exit->AF->Ao->Prop}
variable {d:Option Tmp} {ty:TypeId} {ps:String} {af:Array Edge} {gd:Option (Nat×Bool)}
namespace L
theorem yn{x:Operand}{b off:Nat}(hw:yg ops a gd=some true)(hx:ev E 0 a x=some (.rp b off))(hd:ya N d=true)(h2:AX E N k dr ops rest (a.put d (.rp b off)) σ (⟨[],.rp b off,0,[]⟩::acc) Q):
 AX E N k dr ops (⟨d,.nilCheck x,ty,ps,af,gd⟩::rest) a σ acc Q:=
 AX.run 0 hw (OS.ncR rfl (fr kD hx)) trivial hd h2
end L
end
abbrev Env.y(E:Env)(y:Ys):Env:={E with Y:=y}
def Keys(y:Ys)(b:Nat):Prop:=∃p∈y,p.1=b
def FY(g:Gh)(es:Es)(y:Ys)(b:Nat):Prop:=Av g es b\/Keys y b
theorem FY.nil{g:Gh}{es:Es}:FY g es []=Av g es:=by
 funext b;simp[FY,Keys]
theorem Ext.keys{D:Nat->Prop}{g g':Gh}{F F':Nat->Prop}{w w':World}(h:Ext D g F w g' F' w')(y:Ys):Ext D g (fun b=>F b\/Keys y b) w g' (fun b=>F' b\/Keys y b) w':=
 h.wider (fun b h=> .inl h) (fun b h=>h.imp id fun h=> .inr h)
def Hy(E:Env)(N k:Nat)(g:Gh)(F:Nat->Prop)(w:World)(Q:Exit->AF->Ao->Ys->Prop)(e:Exit)(act':Act)(w':World):Prop:=
 ∃g' a' σ' y',Q e a' σ' y'/\k<=σ'.nx/\R E.G g' (·<σ'.nx) σ'.es w'/\Bi g' (·<σ'.nx) w' N act' a'/\ET y' g' (Av g' σ'.es) w'/\Ext (·<k) g F w g' (FY g' σ'.es y') w'
structure BW (E:Env) (N k:Nat) (c:Code) (a:AF) (σ:Ao) (y:Ys) (Q:Exit->AF->Ao->Ys->Prop):Prop where
 run:k<=σ.nx->∀g w act,R E.G g (·<σ.nx) σ.es w->Bi g (·<σ.nx) w N act a->ET y g (Av g σ.es) w->c.wp E.P (Hy E N k g (FY g σ.es y) w Q) act w
def Ytu(E:Env)(N k:Nat)(x:Code)(Q:Exit->AF->Ao->Ys->Prop):Exit->AF->Ao->Ys->Prop
 | .normal,a,σ,y=>BW E N k x a σ y Q
 |e,a,σ,y=>Q e a σ y
def Wh(id:Nat)(Q:Exit->AF->Ao->Ys->Prop):Exit->AF->Ao->Ys->Prop
 | .exit id',a,σ,y=>bif Nat.beq id' id then Q .normal a σ y else Q (.exit id') a σ y
 |e,a,σ,y=>Q e a σ y
section
variable {E:Env} {N k:Nat} {a:AF} {σ:Ao} {y:Ys} {Q:Exit->AF->Ao->Ys->Prop}
theorem Hy.later{g g':Gh}{F F':Nat->Prop}{w w':World}{e:Exit}{act:Act}{w'':World}(h:Hy E N k g' F' w' Q e act w'')(x:Ext (·<k) g F w g' F' w'):Hy E N k g F w Q e act w'':=
 let ⟨g2,a2,σ2,y2,h1,h2,h3,h4,h5,h6⟩:=h;⟨g2,a2,σ2,y2,h1,h2,h3,h4,h5,x.trans h6⟩
theorem BW.of{c:Code}(h:AW (E.y y) N k c a σ (fun e a σ=>Q e a σ y)):BW E N k c a σ y Q:=
 ⟨fun hk g w act hR hF hY=>wp_mono (h.run hk g w act hR hF hY) (by
  rintro e act1 w1 ⟨g1,a1,σ1,hq,hk1,hR1,hF1,hx⟩;exact⟨g1,a1,σ1,y,hq,hk1,hR1,hF1,hY.ext hx,hx.keys y⟩)⟩
theorem BW.seq{x z:Code}(h:BW E N k x a σ y (Ytu E N k z Q)):BW E N k (.seq x z) a σ y Q:=by
 constructor;intro hk g w act hR hF hY;refine wp_seq (wp_mono (h.run hk g w act hR hF hY) ?_);rintro e act1 w1 ⟨g1,a1,σ1,y1,hq,hk1,hR1,hF1,hY1,hx⟩;cases e with
 |normal=>exact wp_mono (BW.run hq hk1 g1 w1 act1 hR1 hF1 hY1) (fun e act2 w2 hp=>hp.later hx)
 |exit id=>exact⟨g1,a1,σ1,y1,hq,hk1,hR1,hF1,hY1,hx⟩
 |goto l=>exact⟨g1,a1,σ1,y1,hq,hk1,hR1,hF1,hY1,hx⟩
 |ret=>exact⟨g1,a1,σ1,y1,hq,hk1,hR1,hF1,hY1,hx⟩
 |panic ch=>exact⟨g1,a1,σ1,y1,hq,hk1,hR1,hF1,hY1,hx⟩
 |outgrown=>exact⟨g1,a1,σ1,y1,hq,hk1,hR1,hF1,hY1,hx⟩
theorem BW.mono{c:Code}{Q':Exit->AF->Ao->Ys->Prop}(h:BW E N k c a σ y Q)(hq:∀e a σ y,Q e a σ y->Q' e a σ y):BW E N k c a σ y Q':=by
 constructor;intro hk g w act hR hF hY;refine wp_mono (h.run hk g w act hR hF hY) ?_;rintro e act1 w1 ⟨g1,a1,σ1,y1,h1,h2⟩;exact⟨g1,a1,σ1,y1,hq _ _ _ _ h1,h2⟩
theorem BW.block{id:Nat}{c:Code}(h:BW E N k c a σ y (Wh id Q)):BW E N k (.block id c) a σ y Q:=by
 constructor;intro hk g w act hR hF hY;refine wp_block (wp_mono (h.run hk g w act hR hF hY) ?_);rintro e act1 w1 ⟨g1,a1,σ1,y1,hq,h2⟩;cases e with
 |exit id'=>
  simp only[Exit.inBlock];by_cases hi:id'=id
  .subst hi;simp only[Wh,jC,cond_true] at hq;rw[if_pos rfl];exact⟨g1,a1,σ1,y1,hq,h2⟩
  .simp only[Wh,UM hi,cond_false] at hq;rw[if_neg hi];exact⟨g1,a1,σ1,y1,hq,h2⟩
 |normal=>exact⟨g1,a1,σ1,y1,hq,h2⟩
 |goto l=>exact⟨g1,a1,σ1,y1,hq,h2⟩
 |ret=>exact⟨g1,a1,σ1,y1,hq,h2⟩
 |panic ch=>exact⟨g1,a1,σ1,y1,hq,h2⟩
 |outgrown=>exact⟨g1,a1,σ1,y1,hq,h2⟩
def Dc(E:Env)(N k:Nat)(a:AF)(σ:Ao)(y:Ys)(S:AF->Ao->Ys->Prop):Prop:=
 k<=σ.nx->∀g w act,R E.G g (·<σ.nx) σ.es w->Bi g (·<σ.nx) w N act a->ET y g (Av g σ.es) w->
  ∃a2 σ2 y2 g2,S a2 σ2 y2/\k<=σ2.nx/\R E.G g2 (·<σ2.nx) σ2.es w/\Bi g2 (·<σ2.nx) w N act a2/\ET y2 g2 (Av g2 σ2.es) w/\Ext (·<k) g (FY g σ.es y) w g2 (FY g2 σ2.es y2) w
theorem Dc.of{a2:AF}{σ2:Ao}(h:Bg E N k a σ a2 σ2):Dc E N k a σ y (fun a3 σ3 y3=>a3=a2/\σ3=σ2/\y3=y):=by
 intro hk g w act hR hF hY;obtain⟨hk2,hw⟩:=h hk;obtain⟨g2,hR2,hF2,hx⟩:=hw g w act hR hF;exact⟨a2,σ2,y,g2,⟨rfl,rfl,rfl⟩,hk2,hR2,hF2,hY.ext hx,hx.keys y⟩
theorem Dc.trans{S S':AF->Ao->Ys->Prop}(h:Dc E N k a σ y S)(h2:∀a σ y,S a σ y->Dc E N k a σ y S'):Dc E N k a σ y S':=by
 intro hk g w act hR hF hY;obtain⟨a2,σ2,y2,g2,hs,hk2,hR2,hF2,hY2,hx⟩:=h hk g w act hR hF hY;obtain⟨a3,σ3,y3,g3,hs3,hk3,hR3,hF3,hY3,hx3⟩:=h2 _ _ _ hs hk2 g2 w act hR2 hF2 hY2;exact⟨a3,σ3,y3,g3,hs3,hk3,hR3,hF3,hY3,hx.trans hx3⟩
theorem BW.skip(h:Q .normal a σ y):BW E N k .skip a σ y Q:= .of (.skip h)
theorem BW.exit{id:Nat}(h:Q (.exit id) a σ y):BW E N k (.exit id) a σ y Q:= .of (.exit h)
theorem BW.ret(h:Q .ret a σ y):BW E N k .ret a σ y Q:= .of (.ret h)
end
def YC(E:Env)(f:FuncId)(args:List V)(T:V->Ys->Prop):Prop:=
 (∀vs w,(callFunc f vs).run E.P w= .ok (.enter f vs) w)/\
 ∀g w (vs:List Value),R E.G g (·<0) [] w->vs.length=args.length->(∀(i:Nat) v c,vs[i]? =some v->args[i]? =some c->Aq g (·<0) w v c)->
  Calls E.P f vs.toArray w fun e w'=>∃v g' r y,e= .returned v/\T r y/\R E.G g' (·<0) [] w'/\Aq g' (·<0) w' v r/\ET y g' (Av g' []) w'/\Ext (·<0) g (Av g []) w g' (FY g' [] y) w'
def V4(E:Env)(rs:List ResultVar)(T:V->Ys->Prop):Exit->AF->Ao->Ys->Prop
 | .ret,a,σ,y=>∃r,T r y/\JM E 0 rs r ⟨0,[]⟩ a σ
 | .normal,a,σ,y=>∃r,T r y/\JM E 0 rs r ⟨0,[]⟩ a σ
 |_,_,_,_=>False
section
variable {E:Env} {N k:Nat} {a:AF} {σ:Ao} {y:Ys} {Q:Exit->AF->Ao->Ys->Prop}
theorem YC.mk{f:FuncId}{fn:Func}{c:Code}{args:List V}{T:V->Ys->Prop}{rs:List ResultVar}(hf:E.P.funcs[f]? =some fn)(hb:fn.body=some c)(hname:(fn.name== "runtime.NumGoroutine")=false)(hN:fn.ntmps=N)
 (hrs:fn.results=rs.toArray) (hargs:Nat.ble args.length N=true) (h:BW E N 0 c (M5 0 args) ⟨0,[]⟩ [] (V4 E rs T)):YC E f args T:=by
 refine⟨fun vs w=> ?_,fun g w vs hR hl hr=> ?_⟩
 .exact sK
 .have hle:=fP hargs;refine calls_of_wp hf hb (wp_mono (h.run (fB _) g w _ hR ?_ .nil) ?_)
  .exact rG
  .rintro e act' w' ⟨g',a',σ1,y1,hq,hk1,hR1,hF1,hY1,hx1⟩;rw[FY.nil] at hx1;have key:(∃r,T r y1/\JM E 0 rs r ⟨0,[]⟩ a' σ1)->act'.defers=[]/\∃v,(results fn act'.tmps).run E.P w'= .ok v w'/\∃v' g'' r y,Ending.returned v= .returned v'/\T r y/\R E.G g'' (·<0) [] w'/\Aq g'' (·<0) w' v' r/\ET y g'' (Av g'' []) w'/\
    Ext (·<0) g (Av g []) w g'' (FY g'' [] y) w':=by
    rintro⟨r,hT,hret⟩;obtain⟨v,g2,h1,h2,h3,h4⟩:=JM.done hret hrs hR1 hF1;exact⟨hF1.defers,v,h1,v,g2,r,y1,rfl,hT,h2,h3,hY1.ext h4,hx1.trans (h4.keys y1)⟩
   cases e with
   |normal=>exact key hq
   |ret=>exact key hq
   |_=>exact hq.elim
end
def I7(Cv:V->V->Prop):A7->A7->Prop
 |_,.gone=>True
 | .var cs,.var cs2=>cs2.length=cs.length/\∀(i:Nat) c c2,cs[i]? =some c->cs2[i]? =some c2->Cv c c2
 |e,e2=>e2=e
theorem I7.AD{Cv:V->V->Prop}{e e2:A7}(h:I7 Cv e e2){g g2:Gh}{D:Nat->Prop}{n:Nat}(hn:D n)(hb:∀n,D n->g2.blk n=g.blk n)(hr:∀n,D n->g2.row n=g.row n){b:Nat}(hf:e2.AD g2 n=some b):e.AD g n=some b:=by
 rw[<-A7.Ci hn hb hr];cases e2 with
 |gone=>cases hf
 |var cs2=>cases e<;>first|exact hf|exact kM
 |map c ks xs=>cases e<;>first|exact(by cases h;exact hf)|exact kM
 |row=>cases e<;>first|exact hf|exact kM
theorem R.conv{G:D5}{g g2:Gh}{D D2:Nat->Prop}{es es2:Es}{w:World}(hR:R G g D es w)(hD:∀n,D n->D2 n)(hm:∀b,g.m b<=g2.m b)(hb:∀n,D n->g2.blk n=g.blk n)(hr:∀n,D n->g2.row n=g.row n)
 (hfoot:∀b,Av g es b->g2.m b=g.m b) (hfresh:∀b,w.heap.size<=b->g2.m b=0) (Cv:V->V->Prop) (hv:∀v c c2,Cv c c2->Aq g D w v c->Aq g2 D2 w v c2) (n0:Nat)
 (he:∀n e2,zo es2 n=some e2->(n=n0/\D2 n/\GO g2 D2 w n e2/\∀b,e2.AD g2 n=some b->¬Av g es b)\/∃e,zo es n=some e/\I7 Cv e e2):R G g2 D2 es2 w:=by
 refine hR.step hm (fun _ _ _=>rfl) hD hb hr (fun n e2 h=> .inr ?_) ?_ hfresh
 .rcases he n e2 h with⟨_,h1,h2,_⟩|⟨e,h1,h2⟩
  .grind
  .refine ⟨hD n (hR.lt n e h1),?_⟩;have h3:=(hR.Cg n e h1).mono (g':=g2) (D':=D2) (w':=w) (hR.lt n e h1) hm (fun _ _ _=>rfl) hD hb hr (fun b hb=>⟨rfl,hfoot b ⟨n,e,h1,hb⟩⟩);cases e2 with
   |gone=>trivial
   |var cs2=>
    cases e with
    |var cs=>
     obtain⟨h4,h5⟩:=h2;obtain⟨q1,us,t,q2,q3,q4,q5,q6⟩:=h3;obtain⟨p1,us',t',p2,_,_,p5,_⟩:=hR.Cg n _ h1;rw[hb n (hR.lt n _ h1)] at q2;rw[q2] at p2;simp only[fI,Obj.cells.injEq] at p2;obtain⟨p3,_,_⟩:=p2;have p3:us=us':=kr
     subst p3;refine⟨q1,us,t,by rw[hb n (hR.lt n _ h1)];exact q2,kn,q4,fun i v c2 hvi hci=> ?_,q6⟩
     grind
    |map _ _ _=>cases h2
    |row=>cases h2
    |gone=>cases h2
   |map c ks xs=>cases e<;>first|exact(by cases h2;exact h3)|exact(by cases h2)
   |row=>cases e<;>first|exact h3|exact(by cases h2)
 .intro n n' e e' b h1 h2 h3 h4;rcases he n e h1 with⟨rfl,_,_,q⟩|⟨d,h5,h6⟩
  .rcases he n' e' h2 with⟨rfl,_⟩|⟨d',h7,h8⟩
   .rfl
   .exact absurd ⟨n',d',h7,h8.AD (hR.lt _ _ h7) hb hr h4⟩ (q b h3)
  .rcases he n' e' h2 with⟨rfl,_,_,q⟩|⟨d',h7,h8⟩
   .exact absurd ⟨n,d,h5,h6.AD (hR.lt _ _ h5) hb hr h3⟩ (q b h4)
   .exact hR.Bd n n' d d' b h5 h7 (h6.AD (hR.lt _ _ h5) hb hr h3) (h8.AD (hR.lt _ _ h7) hb hr h4)
def OM(b n cap sz:Nat)(c c2:V):Prop:=c2=c\/(∃off,c= .rp b off/\c2= .ptr n off)\/(∃len,len<=cap/\c= .rs b len cap/\c2= .arr n len sz)
section
variable {E:Env} {N k:Nat} {a:AF} {σ:Ao} {y:Ys} {Q:Exit->AF->Ao->Ys->Prop}
theorem Yiq{b cap sz:Nat}{cs:List V}{y1:Ys}(hy:y.Perm ((b,cap*sz,cs)::y1))(hnd:(y.map Prod.fst).Nodup)(a2:AF)(es2:Es)
 (hf:∀t c2,a2.get t=some c2->∃c,a.get t=some c/\OM b σ.nx cap sz c c2)
 (he:∀n e2,zo es2 n=some e2->(n=σ.nx/\e2= .var cs)\/∃e,zo σ.es n=some e/\I7 (OM b σ.nx cap sz) e e2):
 k<=σ.nx->∀g w act,R E.G g (·<σ.nx) σ.es w->Bi g (·<σ.nx) w N act a->ET y g (Av g σ.es) w->
 ∃g2,g2.blk σ.nx=b/\g2.row σ.nx=some ⟨b,0,cap,sz,0⟩/\R E.G g2 (·<σ.nx+1) es2 w/\Bi g2 (·<σ.nx+1) w N act a2/\ET y1 g2 (Av g2 es2) w/\Ext (·<k) g (FY g σ.es y) w g2 (FY g2 es2 y1) w:=by
 intro hk g w act hR hF hY
 let g2:=g.AU σ.nx b (some ⟨b,0,cap,sz,0⟩)
 have hne:∀i,i<σ.nx->i≠σ.nx:=fun i h=>kn
 have hb:∀i,i<σ.nx->g2.blk i=g.blk i:=fun i hi=>by simp[g2,Gh.AU,hne i hi]
 have hrw:∀i,i<σ.nx->g2.row i=g.row i:=fun i hi=>by simp[g2,Gh.AU,hne i hi]
 have hbn:g2.blk σ.nx=b:=by simp[g2,Gh.AU]
 have hrn:g2.row σ.nx=some ⟨b,0,cap,sz,0⟩:=by simp[g2,Gh.AU]
 have hD:∀n,n<σ.nx->n<σ.nx+1:=fun n h=>kn
 obtain⟨h1,h2,vs,t,h3,h4,h5,h6,h7⟩:=hY (b,cap*sz,cs) (hy.mem_iff.2 ko);simp only at h1 h2 h3 h4 h5 h7;have hmono:∀v c,Aq g (·<σ.nx) w v c->Aq g2 (·<σ.nx+1) w v c:=fun v c h=>h.mono (fun _=>fB _) (fun _ _ _=>rfl) hD hb hrw;have hv:∀v c c2,OM b σ.nx cap sz c c2->Aq g (·<σ.nx) w v c->Aq g2 (·<σ.nx+1) w v c2:=by
  rintro v c c2 (rfl|⟨off,rfl,rfl⟩|⟨len,hl,rfl,rfl⟩) h
  .grind
  .rw[h.Di];have:=Aq.ptr (g:=g2) (D:=(·<σ.nx+1)) (w:=w) σ.nx off kn
   grind
  .rw[h.Di];have:=Aq.arr (g:=g2) (D:=(·<σ.nx+1)) (w:=w) σ.nx len sz cap kn hl kr
   grind
 have hent:GO g2 (·<σ.nx+1) w σ.nx (.var cs):=by
  refine⟨by rw[hbn];exact h1,vs,t,kr,kn,h6,fun i v c hv hc=>(h7 i v c hv hc).mono (fun _=>fB _) (fun _ _ _=>rfl) (fun _ h=>h.elim) (fun _ h=>h.elim) (fun _ h=>h.elim),fun ρ hρ=> ?_⟩
  grind
 have hfootin:∀x,Av g2 es2 x->Av g σ.es x\/x=b:=by
  rintro x ⟨n,e2,q1,q2⟩;rcases he n e2 q1 with⟨rfl,rfl⟩|⟨e,q3,q4⟩
  .simp only[A7.AD,fI,hbn] at q2;omega
  .exact .inl ⟨n,e,q3,q4.AD (D:=(·<σ.nx)) (hR.lt _ _ q3) hb hrw q2⟩
 have hnd2:∀p∈y1,p.1≠b:=by
  grind
 refine⟨g2,hbn,hrn,?_,⟨hF.size,hF.defers,fun t c2 hc=> ?_⟩,?_,?_⟩
 .refine hR.conv hD (fun _=>fB _) hb hrw (fun _ _=>rfl) hR.fresh _ hv σ.nx fun n e2 hn=> ?_;rcases he n e2 hn with⟨rfl,rfl⟩|h
  .refine .inl ⟨rfl,kn,hent,fun x hx=> ?_⟩;simp only[A7.AD,fI,hbn] at hx
   grind
  grind
 .obtain ⟨c,q1,q2⟩:=hf t c2 hc;obtain⟨v,q3,q4⟩:=hF.vals t c q1
  grind
 .intro p hp;obtain⟨q1,q2,us,t',q3,q4,q5,q6,q7⟩:=hY p (hy.mem_iff.2 kr);refine⟨q1,fun hfo=> ?_,us,t',q3,q4,q5,q6,fun i v c hv hc=>(q7 i v c hv hc).mono (fun _=>fB _) (fun _ _ _=>rfl) (fun _ h=>h) (fun _ h=>h.elim) (fun _ h=>h.elim)⟩
  grind
 .refine ⟨rfl,rfl,rfl,fB _,fun _ _ _=>rfl,fun _=>fB _,fun n hn=>hb n kn,fun n hn=>hrw n kn,fun _ _ _=>⟨rfl,rfl⟩,fun x hx=> .inl ?_⟩;rcases hx with hx|⟨p,hp,rfl⟩
  .rcases hfootin x hx with h|rfl
   .exact .inl h
   .exact .inr ⟨(x,cap*sz,cs),hy.mem_iff.2 ko,rfl⟩
  .exact .inr ⟨p,hy.mem_iff.2 kr,rfl⟩
theorem Dc.take{b cap sz:Nat}{cs:List V}{y1:Ys}(hy:y.Perm ((b,cap*sz,cs)::y1))(hnd:(y.map Prod.fst).Nodup)(a2:AF)(es2:Es)
 (hf:∀t c2,a2.get t=some c2->∃c,a.get t=some c/\OM b σ.nx cap sz c c2)
 (he:∀n e2,zo es2 n=some e2->(n=σ.nx/\e2= .var cs)\/∃e,zo σ.es n=some e/\I7 (OM b σ.nx cap sz) e e2):
 Dc E N k a σ y (fun a3 σ3 y3=>a3=a2/\σ3=⟨σ.nx+1,es2⟩/\y3=y1):=by
 intro hk g w act hR hF hY;obtain⟨g2,_,_,h1,h2,h3,h4⟩:=Yiq hy hnd a2 es2 hf he hk g w act hR hF hY
 grind
def V.free(c:V):Prop:=∀g D w v,Aq g D w v c->Aq g (fun _=>False) w v c
theorem V.F5(u:Value):V.free (.raw u):=fun g D w v h=>by rw[h.Di];exact .raw u
end
end Go.Ab
namespace Go.Ab
open Go
set_option linter.all false
inductive Yn where
 |dat (c:V)
 |row (c:EC) (n:Nat) (cells:List Yn)
mutual
inductive YM (s:Prop):Yn->V->Ys->Prop
 |dat (c:V) (h:V.HU c=true):YM s (.dat c) c []
 |nil (c:EC):YM s (.row c 0 []) (.raw (.slice none 0 0)) []
 |row (c:EC) (n:Nat) (cells:List Yn) (b room cap:Nat) (cs:List V) (y:Ys) (hroom:s->room=cap*c.cells) (hcap:n<=cap) (hn:0<n) (hl:cells.length=n*c.cells) (h:EV s cells cs y):
  YM s (.row c n cells) (.rs b n cap) ((b,room,cs)::y)
inductive EV (s:Prop):List Yn->List V->Ys->Prop
 |nil:EV s [] [] []
 |cons {x:Yn} {v:V} {y:Ys} {l:List Yn} {vs:List V} {y2:Ys} (h:YM s x v y) (h2:EV s l vs y2):EV s (x::l) (v::vs) (y++y2)
end
mutual
inductive Er:Yn->V->Prop
 |dat (c:V) (h:V.HU c=true):Er (.dat c) c
 |row (c:EC) (n:Nat) (cells:List Yn) (xs:List c.sem) (hl:xs.length=n) (h:KV cells (xs.flatMap c.view)):Er (.row c n cells) (.slice .any (.t c xs))
inductive KV:List Yn->List V->Prop
 |nil:KV [] []
 |cons {x:Yn} {v:V} {l:List Yn} {vs:List V} (h:Er x v) (h2:KV l vs):KV (x::l) (v::vs)
end
theorem EV.len{s:Prop}:∀{l:List Yn} {cs:List V} {y:Ys},EV s l cs y->cs.length=l.length
 |[],_,_,h=>by cases h;rfl
 |x::l,_,_,h=>by cases h with|cons h h2=>simp[h2.len]
theorem KV.len:∀{l:List Yn} {cs:List V},KV l cs->cs.length=l.length
 |[],_,h=>by cases h;rfl
 |x::l,_,h=>by cases h with|cons h h2=>simp[h2.len]
theorem V.J7{c:V}(h:V.HU c=true)(ρ:List (Option Nat)):uc ρ c=some c:=by
 cases c with
 |slice sp l=>cases sp<;>first|rfl|cases h
 |_=>first|rfl|cases h
theorem V.JB{c:V}(h:V.HU c=true):V.free c:=fun g D w v hv=> .data (hv.HU h)
theorem YM.M8{s:Prop}{x:Yn}{v:V}{y:Ys}(h:YM s x v y)(ρ:List (Option Nat)):uc ρ v=some v/\V.free v:=by
 cases h with
 |dat _ h=>exact⟨V.J7 h ρ,V.JB h⟩
 |nil=>exact⟨rfl,V.F5 _⟩
 |row=>exact⟨rfl,V.F5 _⟩
theorem EV.M8{s:Prop}:∀{l:List Yn} {cs:List V} {y:Ys},EV s l cs y->∀ρ:List (Option Nat),vn ρ cs=some cs
 |_,_,_,.nil,ρ=>rfl
 |_,_,_,.cons h h2,ρ=>by simp[vn,(h.M8 ρ).1,h2.M8 ρ]
theorem EV.free{s:Prop}:∀{l:List Yn} {cs:List V} {y:Ys},EV s l cs y->∀c∈cs,V.free c
 |_,_,_,.nil,c,hc=>by cases hc
 |_,_,_,.cons h h2,c,hc=>by
  rcases fW.1 hc with rfl|hc
  .exact (h.M8 []).2
  .exact h2.free c hc
def YD(y:Ys)(g:Gh)(w:World):Prop:=∀p∈y,p.2.2.length<=g.m p.1/\∃(vs:List Value) (t:TypeId),w.heap[p.1]? =some (.cells vs.toArray t (0,0))/\p.2.2.length<=vs.length/\
 ∀(i:Nat) v c,vs[i]? =some v->p.2.2[i]? =some c->Aq g (fun _=>False) w v c
mutual
theorem YM.data{s:Prop}{g:Gh}{w:World}:∀{x:Yn} {v:V} {y:Ys},YM s x v y->∀{c:V},Er x c->YD y g w->∀{u:Value},Aq g (fun _=>False) w u v->A2 g.m w u c
 |_,_,_,.dat c _,_,he,_,u,hu=>by cases he with|dat _ h=>exact hu.HU h
 |_,_,_,.nil c,_,he,_,u,hu=>by
  cases he with
  |row _ _ _ xs hl h=>
   rw[hu.Di];exact .nilS _ (by simpa[SL.len] using hl)
 |_,_,_,.row c n cells b room cap cs y _ hcap hn hlc h,_,he,hy,u,hu=>by
  cases he with
  |row _ _ _ xs hxl hx=>
   rw[hu.Di];obtain⟨hm,vs,t,hh,hvl,hv⟩:=hy (b,room,cs) ko;simp only at hm hh hvl hv;have hcl:=h.len;have key:=h.data hx (fun p hp=>hy p kr) (vs:=vs.take cs.length) kr (fun i v c hi hc=>by
    grind)
   subst hxl;have hfl:=KX c xs;refine .slice (.t c xs) b 0 cap (fun i j=>vs.getD (i*c.cells+j) undef) (by show 0+xs.length*c.cells<=g.m b;omega) hcap (fun i hi=> ?_) (fun i j hi hj=> ?_) (fun i j ds d hi hds hd=> ?_)
   .exact ⟨c.view xs[i],by show(xs[i]?).map c.view=_;rw[fG hi];rfl,EC.Bk c _⟩
   .rw[gN,KO hh];have:=OI hi hj;have hlt:i*c.cells+j<vs.length:=by
     have:i*c.cells+j<xs.length*c.cells:=this;omega
    show vs.toArray[i*c.cells+j]? =some (vs.getD (i*c.cells+j) undef)
    grind
   .have hds':(xs[i]?).map c.view=some ds:=hds;rw[fG hi] at hds';simp only[gM,fI] at hds';subst hds';have hj:j<c.cells:=by have:=(fZ.1 hd).1;rwa [EC.Bk] at this
    have h1:(xs.flatMap c.view)[i*c.cells+j]? =some d:=by rw[PD c xs i j hj,fG hi];exact hd
    grind
theorem EV.data{s:Prop}{g:Gh}{w:World}:∀{l:List Yn} {cs:List V} {y:Ys},EV s l cs y->∀{ds:List V},KV l ds->YD y g w->∀{vs:List Value},vs.length=cs.length->(∀(i:Nat) v c,vs[i]? =some v->cs[i]? =some c->Aq g (fun _=>False) w v c)->
 ∀(i:Nat) v d,vs[i]? =some v->ds[i]? =some d->A2 g.m w v d
 |_,_,_,.nil,_,he,_,vs,hl,hv=>fun i v d hi hd=>kr
 |_,_,_,.cons h h2,_,he,hy,vs,hl,hv=>fun i v d hi hd=>by
  cases he with
  |cons he he2=>
   cases vs with
   |nil=>grind
   |cons u us=>
    cases i with
    |zero=>
     simp at hi hd;subst hi;subst hd;exact h.data he (fun p hp=>hy p kr) (hv 0 _ _ rfl rfl)
    |succ i=>
     exact h2.data he2 (fun p hp=>hy p kr) (vs:=us) kr (fun i v c hi hc=>hv (i+1) v c kr kr) i v d kr kr
end
mutual
def Tm.yn:Tm->List Yn| .mk k i t as=>[.dat (.i k),.dat (.i i),.dat (.i t.kind),.dat (.s .ty t.args),.row .tm as.length (Tm.Ih as)]
def Tm.Ih:List Tm->List Yn|[]=>[]|a::l=>a.yn++Tm.Ih l
end
section
variable {E:Env} {N k:Nat} {a:AF} {σ:Ao} {y:Ys} {Q:Exit->AF->Ao->Ys->Prop}
theorem Dc.mono{S S':AF->Ao->Ys->Prop}(h:Dc E N k a σ y S)(hS:∀a σ y,S a σ y->S' a σ y):Dc E N k a σ y S':=by
 intro hk g w act hR hF hY;obtain⟨a2,σ2,y2,g2,hs,h2⟩:=h hk g w act hR hF hY
 grind
def AF.KG(Cv:V->V->Prop)(a:AF):AF->Prop
 |[]=>True
 |p::l=>(∃c,a.get p.1=some c/\Cv c p.2)/\AF.KG Cv a l
theorem AF.KG.get{Cv:V->V->Prop}{a:AF}:∀{a2:AF},AF.KG Cv a a2->∀t c2,a2.get t=some c2->∃c,a.get t=some c/\Cv c c2
 |[],_,t,c2,h=>kM
 |p::l,h,t,c2,hc=>by
  obtain⟨m,e⟩:=p;rw[AF.Bf] at hc;by_cases ht:m=t
  .subst ht;rw[if_pos rfl] at hc;cases hc;exact h.1
  .rw[if_neg ht] at hc;exact AF.KG.get h.2 t c2 hc
def Es.KG(Cv:V->V->Prop)(es:Es):Es->Prop
 |[]=>True
 |p::l=>(∃e,zo es p.1=some e/\I7 Cv e p.2)/\Es.KG Cv es l
theorem Es.KG.get{Cv:V->V->Prop}{es:Es}:∀{es2:Es},Es.KG Cv es es2->∀n e2,zo es2 n=some e2->∃e,zo es n=some e/\I7 Cv e e2
 |[],_,t,c2,h=>kM
 |p::l,h,t,c2,hc=>by
  obtain⟨m,e⟩:=p;rw[zv] at hc;by_cases ht:m=t
  .subst ht;rw[if_pos rfl] at hc;cases hc;exact h.1
  .rw[if_neg ht] at hc;exact Es.KG.get h.2 t c2 hc
def Lb(Cv:V->V->Prop):List V->List V->Prop
 |[],[]=>True
 |c::cs,c2::cs2=>Cv c c2/\Lb Cv cs cs2
 |_,_=>False
theorem Lb.get{Cv:V->V->Prop}:∀{cs cs2:List V},Lb Cv cs cs2->cs2.length=cs.length/\∀(i:Nat) c c2,cs[i]? =some c->cs2[i]? =some c2->Cv c c2
 |[],[],_=>⟨rfl,fun i c c2 h=>ko⟩
 |c::cs,c2::cs2,h=>by
  obtain⟨h1,h2⟩:=Lb.get h.2;refine⟨kr,fun i d d2 q q2=> ?_⟩;cases i with
  |zero=>simp at q q2;subst q;subst q2;exact h.1
  |succ i=>grind
 |[],_::_,h=>h.elim
 |_::_,[],h=>h.elim
theorem I7.var{Cv:V->V->Prop}{cs cs2:List V}(h:Lb Cv cs cs2):I7 Cv (.var cs) (.var cs2):=h.get
end
theorem EV.inv{s:Prop}{x:Yn}{l:List Yn}{cs:List V}{y:Ys}(h:EV s (x::l) cs y):∃v vs y1 y2,cs=v::vs/\y=y1++y2/\YM s x v y1/\EV s l vs y2:=by
 cases h<;>grind
theorem EV.tm{s:Prop}{t:Tm}{vs:List V}{y:Ys}(h:EV s t.yn vs y):∃sv,vs=[.i t.kind,.i t.index,.i t.ty.kind,.s .ty t.ty.args,.raw sv]/\YM s (.row .tm t.args.length (Tm.Ih t.args)) (.raw sv) y:=by
 obtain⟨k,i,ty,as⟩:=t;have h:EV s [.dat (.i k),.dat (.i i),.dat (.i ty.kind),.dat (.s .ty ty.args),.row .tm as.length (Tm.Ih as)] vs y:=by unfold Tm.yn at h;exact h
 show ∃sv,vs=[.i k,.i i,.i ty.kind,.s .ty ty.args,.raw sv]/\YM s (.row .tm as.length (Tm.Ih as)) (.raw sv) y;generalize as.length=n at h ⊢;generalize Tm.Ih as=cells at h ⊢;obtain⟨_,_,_,_,rfl,rfl,k1,h1⟩:=h.inv;cases k1;obtain⟨_,_,_,_,rfl,rfl,k2,h2⟩:=h1.inv;cases k2;obtain⟨_,_,_,_,rfl,rfl,k3,h3⟩:=h2.inv;cases k3;obtain⟨_,_,_,_,rfl,rfl,k4,h4⟩:=h3.inv;cases k4;obtain⟨_,_,_,_,rfl,rfl,k5,h5⟩:=h4.inv;cases h5;cases k5 with
 |nil c=>exact⟨_,rfl,by simpa using YM.nil .tm⟩
 |row c n cells b room cap cs y hroom hcap hn hl hz=>exact⟨_,rfl,by simpa using YM.row .tm _ _ b room cap cs y hroom hcap hn hl hz⟩
section
variable {E:Env} {N k:Nat} {ops:List Oper} {dr:Bool} {rest:List Oper} {a:AF} {σ:Ao} {acc:List Rec} {Q:Exit->AF->Ao->Prop}
variable {d:Option Tmp} {ty:TypeId} {ps:String} {af:Array Edge} {gd:Option (Nat×Bool)}
theorem Lb.refl{Cv:V->V->Prop}(hr:∀c,Cv c c):∀cs:List V,Lb Cv cs cs
 |[]=>trivial
 |c::cs=>⟨hr c,Lb.refl hr cs⟩
def Es.KH(Cv:V->V->Prop)(es:Es)(n0:Nat)(cs0:List V):Es->Prop
 |[]=>True
 |p::l=>((p.1=n0/\p.2= .var cs0)\/∃e,zo es p.1=some e/\I7 Cv e p.2)/\Es.KH Cv es n0 cs0 l
theorem Es.KH.get{Cv:V->V->Prop}{es:Es}{n0:Nat}{cs0:List V}:∀{es2:Es},Es.KH Cv es n0 cs0 es2->∀n e2,zo es2 n=some e2->(n=n0/\e2= .var cs0)\/∃e,zo es n=some e/\I7 Cv e e2
 |[],_,t,c2,h=>kM
 |p::l,h,t,c2,hc=>by
  obtain⟨m,e⟩:=p;rw[zv] at hc;by_cases ht:m=t
  .subst ht;rw[if_pos rfl] at hc;cases hc;exact h.1
  .rw[if_neg ht] at hc;exact Es.KH.get h.2 t c2 hc
end
def GK(W:World)(b:Nat):Nat:=match W.heap[b]? with
 |some (.cells cs _ _)=>cs.size
 |_=>0
theorem cA{W:World}{b o:Nat}{v:Value}(h:W.cell? ⟨b,o,none⟩=some v):o<GK W b:=by
 unfold GK;simp only[World.cell?] at h
 grind
def Nt(W:World):Gh:=⟨fun _=>0,fun _=>none,GK W⟩
def Old(W W':World):Prop:=∀b,b<W.heap.size->W'.heap[b]? =W.heap[b]?
theorem Old.cell{W W':World}(h:Old W W'){a:Addr}{v:Value}(hc:W.cell? a=some v):W'.cell? a=some v:=by
 have hb:a.block<W.heap.size:=by
  simp only[World.cell?] at hc
  grind
 rw[<-hc];simp only[World.cell?,h a.block hb]
theorem Yc4{W:World}{a:Addr}{i:Nat}{v:Value}(hv:W.cell? (a.add i)=some v):a.add i=⟨a.block,a.off+i,none⟩:=by
 have hspot:(a.add i).spot=none:=by
  cases hsp:(a.add i).spot with
  |none=>rfl
  |some s=>
   simp only[World.cell?] at hv
   grind
 unfold Addr.add at hspot ⊢;split
 .rename_i h0;subst h0;rw[if_pos rfl] at hspot;cases a;simp_all
 .rfl
section
variable {H:Type} {enc:TypeId×Value->H} {P:Program} {W:World}
def Rel(W:World)(cs:List Value)(vs:List V):Prop:=cs.length=vs.length/\∀(i:Nat) v c,cs[i]? =some v->vs[i]? =some c->A2 (GK W) W v c
def Ve(enc:TypeId×Value->H)(P:Program)(W:World)(n:Nat)(t:TypeId)(cs:List Value)(x:DataW H×List MemPlace):Prop:=
 ∀W' sp,Old W W'->(∀b,b<W.heap.size->sp b=true)->DataW.trod enc P W' 0 sp true n t cs=some x
def KU(enc:TypeId×Value->H)(P:Program)(W:World)(n:Nat)(t:TypeId)(F:List V->Prop):Prop:=
 ∀cs x,DataW.trod enc P W 0 (fun _=>true) true n t cs=some x->Ve enc P W n t cs x/\∃vs,F vs/\Rel W cs vs
theorem Old.cells{W':World}(h:Old W W'){a:Addr}{n:Nat}{cs:List Value}(hc:W.cells? 0 a n=some cs):W'.cells? 0 a n=some cs:=by
 obtain⟨h1,h2,h3⟩:=World.cells?_some hc;exact World.cells?_of_each h1 h2 fun i hi=>by
  have h4:=h3 i hi;rw[fG kn] at h4 ⊢;exact h.cell h4
theorem Yhx{t:TypeId}{k:IntKind}(ht:P.underlying t=some (.int k))(n:Nat):KU enc P W n t (fun vs=>∃i,vs=[.int k i]/\(Lit.int k i).wf=true):=by
 intro cs x h;obtain⟨i,rfl,rfl,hw⟩:=DataW.trod_int ht h;refine⟨fun W' sp _ _=> ?_,[.int k i],⟨i,rfl,hw⟩,rfl,?_⟩
 .cases n with
  |zero=>simp[DataW.trod] at h
  |succ n=>simp[DataW.trod,ht,hw]
 .intro j v c hv hc;cases j with
  |zero=>simp at hv hc;subst hv;subst hc;exact .int k i
  |succ j=>grind
theorem ZQ{α β:Type}{f g:α->Option β}:∀{l:List α} {r:List β},l.mapM f=some r->(∀x∈l,∀y,f x=some y->g x=some y)->l.mapM g=some r:=by
 intro l;induction l with
 |nil=>simp
 |cons x l ih=>
  intro r h hg;simp only[List.mapM_cons,Option.bind_eq_bind,fL,Option.pure_def,fI] at h ⊢
  grind
theorem Zxy{t e:TypeId}{c:EC}{n:Nat}(p:c.sem->Prop)(ht:P.underlying t=some (.slice e))(hc:P.cellsOf e=c.cells)(hpos:0<c.cells)(he:KU enc P W n e (fun vs=>∃y:c.sem,vs=c.view y/\p y))
 {cs:List Value} {x:DataW H×List MemPlace} (h:DataW.trod enc P W 0 (fun _=>true) true (n+1) t cs=some x):
 Ve enc P W (n+1) t cs x/\∃vs,(∃ys:List c.sem,vs=[.slice .any (.t c ys)]/\ys.length<=maxLen/\∀y∈ys,p y)/\Rel W cs vs:=by
 have h':=h;rcases DataW.trod_slice ht h with⟨rfl,rfl⟩|⟨a,len,cap,elems,rest,n',hn,rfl,hx,hb,hlc,hcm,hel,hi,hr,_⟩
 .refine ⟨fun W' sp _ _=>by simp[DataW.trod,ht],[.slice .any (.t c [])],⟨[],rfl,iH _,fun y hy=>by cases hy⟩,rfl,?_⟩;intro j v d hv hd;cases j with
  |zero=>simp at hv hd;subst hv;subst hd;exact .nilS _ rfl
  |succ j=>grind
 .cases hn;have key:∀i,i<len->∃us y,W.cells? 0 (a.add (i*P.cellsOf e)) (P.cellsOf e)=some us/\DataW.trod enc P W 0 (fun _=>true) true n e us=some y/\elems[i]? =some y:=by
   intro i hlt;have h1:=hi i hlt;rw[fG kn] at h1 ⊢;obtain⟨us,h2,h3⟩:=fL.1 h1
   grind
  have hex:∀k,k<=len->∃ys:List c.sem,ys.length=k/\(∀y∈ys,p y)/\∀i,i<k->∃us y,W.cells? 0 (a.add (i*P.cellsOf e)) (P.cellsOf e)=some us/\ys[i]? =some y/\Rel W us (c.view y):=by
   intro k;induction k with
   |zero=>simp
   |succ k ih=>
    intro hk;obtain⟨ys,h1,h0,h2⟩:=ih kn;obtain⟨us,y,h3,h4,_⟩:=key k kn;obtain⟨_,vs,⟨z,rfl,hz⟩,hrel⟩:=he us y h4;refine⟨ys++[z],kr,(fun y hy=>by
     grind),fun i hlt=> ?_⟩
    grind
  obtain⟨ys,hyl,hyp,hys⟩:=hex len (fB _);refine⟨fun W' sp hold hsp=> ?_,[.slice .any (.t c ys)],⟨ys,rfl,kn,hyp⟩,rfl,?_⟩
  ·
   have hcarry:∀i,(W.cells? 0 (a.add (i*P.cellsOf e)) (P.cellsOf e)).bind (DataW.trod enc P W 0 (fun _=>true) true n e)=none\/
    (W'.cells? 0 (a.add (i*P.cellsOf e)) (P.cellsOf e)).bind (DataW.trod enc P W' 0 sp true n e)=(W.cells? 0 (a.add (i*P.cellsOf e)) (P.cellsOf e)).bind (DataW.trod enc P W 0 (fun _=>true) true n e):=by
    intro i;cases hc1:W.cells? 0 (a.add (i*P.cellsOf e)) (P.cellsOf e) with
    |none=>simp
    |some us=>
     cases ht1:DataW.trod enc P W 0 (fun _=>true) true n e us with
     |none=>grind
     |some y=>
      right;rw[hold.cells hc1];simp only[ju];rw[ht1,(he us y ht1).1 W' sp hold hsp]
   have hblk:0<cap->a.block<W.heap.size:=by
    intro hcap;by_cases hl:0<len
    .obtain ⟨us,y,h3,_⟩:=key 0 hl;have:=World.cells?_block h3 kn;simpa[Addr.add] using this
    .obtain ⟨h5,h6⟩:=hr rfl;have h7:=h6 0 kn;rw[fG kn] at h7;obtain⟨us,h8,_⟩:=fL.1 h7;have:=World.cells?_block h8 kn;have e1:(a.add ((len+0)*P.cellsOf e)).block=a.block:=by unfold Addr.add;grind
     omega
   have hspb:cap-len=0\/sp a.block=true:=by
    grind
   unfold DataW.trod at h' ⊢;rw[ht] at h' ⊢;simp only at h' ⊢;have hcond:0<=a.block/\len<=cap/\cap<=maxLen:=⟨hb,hlc,hcm⟩;rw[if_pos hcond] at h' ⊢;obtain⟨el,h1,h2⟩:=fL.1 h';obtain⟨re,h3,h4⟩:=fE.1 h2;simp only[if_true] at h3;refine fL.2 ⟨el,ZQ h1 fun i _ y hy=> ?_,fE.2 ⟨re,?_,h4⟩⟩
   .grind
   .rcases hspb with h0|h0
    .grind
    .rw[if_pos h0];exact ZQ h3 fun j _ y hy=>by
      grind
  .intro j v d hv hd;cases j with
   |succ j=>grind
   |zero=>
    simp only[jS,fI] at hv hd;subst hv;subst hd;by_cases hlen:len=0
    .subst hlen;exact .emp (.t c ys) hyl a cap
    have hsp0:a=⟨a.block,a.off,none⟩:=by
     obtain⟨us,y,h3,_⟩:=key 0 kn;obtain⟨_,h4,h5⟩:=World.cells?_some h3;have h6:=h5 0 kn;rw[fG kn] at h6;have:=Yc4 h6;simpa[Addr.add] using this
    obtain⟨ab,ao,as⟩:=a;have:as=none:=kr
    subst this;have hadd:∀o k,Addr.add (⟨ab,o,none⟩:Addr) k=⟨ab,o+k,none⟩:=fun o k=>by
     unfold Addr.add;simp
    have hget:∀i j,i<ys.length->j<c.cells->∃v,W.cell? ⟨ab,ao+(i*c.cells+j),none⟩=some v/\∀cs d,(SL.t c ys:SL V).get i=some cs->cs[j]? =some d->A2 (GK W) W v d:=by
     intro i j hi2 hj;obtain⟨us,y,h5,h6,h7,h8⟩:=hys i kn;obtain⟨_,h9,h10⟩:=World.cells?_some h5;have h11:=h10 j kn;rw[hadd,hadd,fG kn,hc] at h11;refine⟨us[j]' kn,kr,fun cs d h12 h13=> ?_⟩;have:cs=c.view y:=by
      simp only[SL.get,h6,gM,fI] at h12
      grind
     grind
    refine A2.slice (SL.t c ys) ab ao cap (fun i j=>(W.cell? ⟨ab,ao+(i*c.cells+j),none⟩).getD undef) ?_ (by show ys.length<=cap;omega) ?_ ?_ ?_|>fun h=>by rw[show len=(SL.t c ys:SL V).len from hyl.symm];exact h
    .show ao+ys.length*c.cells<=GK W ab;obtain⟨v,hv,_⟩:=hget (ys.length-1) (c.cells-1) kn kn;have:=cA hv;have e1:(ys.length-1)*c.cells+c.cells=ys.length*c.cells:=by
      grind
     omega
    .intro i hi2;exact⟨c.view (ys[i]'hi2),by show(ys[i]?).map c.view=_;rw[fG (show i<ys.length from hi2)];rfl,EC.Bk _ _⟩
    .intro i j hi2 hj;obtain⟨v,hv,_⟩:=hget i j hi2 hj;show W.cell? ⟨ab,ao+(i*c.cells+j),none⟩=_
     grind
    .intro i j cs d hi2 h12 h13;have hj:j<c.cells:=by
      have:cs=c.view (ys[i]'hi2):=by
       simp only[SL.get,fG (show i<ys.length from hi2),gM,fI] at h12
       grind
      subst this;have:=(fZ.1 h13).1;rw[EC.Bk] at this;omega
     obtain⟨v,hv,hd⟩:=hget i j hi2 hj
     grind
theorem Yd7{t e:TypeId}{c:EC}{n:Nat}(ht:P.underlying t=some (.slice e))(hc:P.cellsOf e=c.cells)(hpos:0<c.cells)(he:KU enc P W n e (fun vs=>∃y:c.sem,vs=c.view y))
 {cs:List Value} {x:DataW H×List MemPlace} (h:DataW.trod enc P W 0 (fun _=>true) true (n+1) t cs=some x):
 Ve enc P W (n+1) t cs x/\∃vs,(∃ys:List c.sem,vs=[.slice .any (.t c ys)]/\ys.length<=maxLen)/\Rel W cs vs:=by
 obtain⟨h1,vs,⟨ys,h2,h3,_⟩,h4⟩:=Zxy (p:=fun _=>True) ht hc hpos (fun cs x hx=>by
  obtain⟨q1,vs,⟨y,q2⟩,q3⟩:=he cs x hx
  grind) h
 grind
theorem Zx9{t e:TypeId}{c:EC}{n:Nat}(ht:P.underlying t=some (.slice e))(hc:P.cellsOf e=c.cells)(hpos:0<c.cells)(he:KU enc P W n e (fun vs=>∃y:c.sem,vs=c.view y)):
 KU enc P W (n+1) t (fun vs=>∃ys:List c.sem,vs=[.slice .any (.t c ys)]/\ys.length<=maxLen):=fun cs x h=>Yd7 ht hc hpos he h
theorem Yej{t:TypeId}{F:List V->Prop}:KU enc P W 0 t F:=fun cs x h=>by simp[DataW.trod] at h
theorem Yb2{t e:TypeId}(ht:P.underlying t=some (.slice e))(he:P.underlying e=some (.int .i64))(hc:P.cellsOf e=1)(n:Nat):KU enc P W n t (fun vs=>∃ys:List Int,vs=[.slice .any (.t .int ys)]/\ys.length<=maxLen):=by
 cases n with
 |zero=>exact Yej
 |succ n=>
  refine Zx9 (c:= .int) ht hc kq ?_;intro cs x h;obtain⟨h1,vs,⟨i,rfl,_⟩,h2⟩:=Yhx he n cs x h;exact⟨h1,_,⟨i,rfl⟩,h2⟩
theorem Ypj{t:TypeId}{v:Value}{d:DataW H}{ps:List MemPlace}{F:List V->Prop}(h:DataW.Trod enc P W 0 (fun _=>true) true t v d ps)(hg:∀n,KU enc P W n t F):
 (∀W' sp,Old W W'->(∀b,b<W.heap.size->sp b=true)->DataW.Trod enc P W' 0 sp true t v d ps)/\∃vs,F vs/\Rel W v.cells.toList vs:=by
 obtain⟨n,hn⟩:=h;obtain⟨h1,h2⟩:=hg n _ _ hn;exact⟨fun W' sp ho hs=>⟨n,h1 W' sp ho hs⟩,h2⟩
theorem Ya2{t e:TypeId}{r:Reach}{base:Nat}{v:Value}(ht:P.underlying t=some (.slice e))(h:Value.okWide P W r base t v):v.cells.toList=[v]:=by
 cases v<;>simp[Value.okWide,ht,Cell.okWide,Cell.ok] at h<;>rfl
theorem Ylb{v:Value}{c:V}(hv:v.cells.toList=[v])(h:Rel W v.cells.toList [c]):A2 (GK W) W v c:=by
 obtain⟨_,h2⟩:=h;exact h2 0 v c kr rfl
theorem Ylp{G:D5}(hG:∀p∈G,∀(j:Nat) c,p.2[j]? =some c->∃v,W.cell? ⟨p.1,j,none⟩=some v/\A2 (GK W) W v c):R G (Nt W) (·<0) [] W:=by
 refine⟨fun n e h=>kM,fun n n' e e' b h=>kM,fun n e h=>kM,fun b hb=> ?_,fun p hp=>⟨?_,hG p hp⟩⟩
 .show GK W b=0;unfold GK
  grind
 .show p.2.length<=GK W p.1;cases hl:p.2 with
  |nil=>simp
  |cons x l=>
   have hlt:p.2.length-1<p.2.length:=kr
   obtain⟨v,hv,_⟩:=hG p hp (p.2.length-1) _ (fG hlt);have:=cA hv
   grind
theorem Zxq{g':Gh}{W':World}{F':Nat->Prop}(h:Ext (·<0) (Nt W) (Av (Nt W) []) W g' F' W'):Old W W':=fun b hb=>
 (h.frame b hb fun hf=>by obtain⟨n,e,h1,_⟩:=hf;cases h1).1
theorem Ztj{W':World}(h:Old W W')(ho:W'.os=W.os)(hp:W'.output=W.output)(may:MemPlace->Prop):W.keptBut W' may:=by
 refine⟨ho,hp,fun i hi=> ?_⟩;rw[h i hi]
 grind
theorem Zzg{E:Env}{f:FuncId}{args:List V}{vs:List Value}(h:PC E f args (.bool true))(hG:∀p∈E.G,∀(j:Nat) c,p.2[j]? =some c->∃v,W.cell? ⟨p.1,j,none⟩=some v/\A2 (GK W) W v c)
 (hl:vs.length=args.length) (hr:∀(i:Nat) v c,vs[i]? =some v->args[i]? =some c->Aq (Nt W) (·<0) W v c):
 Calls E.P f vs.toArray W fun e W'=>e= .returned (.bool true)/\Old W W'/\W'.os=W.os/\W'.output=W.output:=by
 obtain⟨_,_,h3⟩:=h;refine(h3 (Nt W) W vs (Ylp hG) hl hr).mono ?_;rintro e W' ⟨v,g',rfl,_,hv,hx⟩;have:=hv.DE;subst this;exact⟨rfl,Zxq hx,hx.os,hx.output⟩
end
def Va(P:Program)(t:TypeId)(l:List (TypeId×Nat)):Bool:=match P.underlying t with
 |some (.struct fs)=>decide (fs.toList.map (fun f=>(f.type,f.offset))=l)
 |_=>false
def Rg(P:Program):Nat->List (TypeId×Nat)->Nat->Bool
 |o,[],n=>o==n
 |o,p::l,n=>p.2==o&&Rg P (o+P.cellsOf p.1) l n
inductive WS:List (List V->Prop)->List V->Prop
 |nil:WS [] []
 |cons {F:List V->Prop} {Fs:List (List V->Prop)} {a b:List V} (h:F a) (hb:WS Fs b):WS (F::Fs) (a++b)
section
variable {H:Type} {enc:TypeId×Value->H} {P:Program} {W:World}
structure OW (P:Program) where
 ti:TypeId
 ty:TypeId
 tys:TypeId
 tm:TypeId
 A6:TypeId
 h0:P.underlying ti=some (.int .i64)
 h1:Va P ty [(ti,0),(tys,1)]=true
 h2:Rg P 0 [(ti,0),(tys,1)] (P.cellsOf ty)=true
 h3:P.underlying tys=some (.slice ty)
 h4:P.cellsOf ty=2
 h5:Va P tm [(ti,0),(ti,1),(ty,2),(A6,4)]=true
 h6:Rg P 0 [(ti,0),(ti,1),(ty,2),(A6,4)] (P.cellsOf tm)=true
 h7:P.underlying A6=some (.slice tm)
 h8:P.cellsOf tm=5
structure aj (P:Program) extends OW P where
 fm:TypeId
 DP:TypeId
 k1:Va P fm [(ti,0),(ty,1),(A6,3),(DP,4)]=true
 k2:Rg P 0 [(ti,0),(ty,1),(A6,3),(DP,4)] (P.cellsOf fm)=true
 k3:P.underlying DP=some (.slice fm)
 k4:P.cellsOf fm=5
def Yim(enc:TypeId×Value->H)(P:Program)(W:World)(t:TypeId)(v:Value)(d:DataW H)(ps:List MemPlace):Prop:=
 ∀W' sp,Old W W'->(∀b,b<W.heap.size->sp b=true)->DataW.Trod enc P W' 0 sp true t v d ps
abbrev Is(W:World)(v:Value)(c:V):Prop:=Aq (Nt W) (·<0) W v c
theorem Yfc{t e:TypeId}{v:Value}{d:DataW H}{ps:List MemPlace}{r:Reach}{base:Nat}(ht:P.underlying t=some (.slice e))(he:P.underlying e=some (.int .i64))(hc:P.cellsOf e=1)
 (h:DataW.Trod enc P W 0 (fun _=>true) true t v d ps) (hv:Value.okWide P W r base t v):Yim enc P W t v d ps/\∃l:List Int,Is W v (.s .int l)/\l.length<=maxLen:=by
 obtain⟨keep,vs,⟨l,rfl,hl⟩,hr⟩:=Ypj h (Yb2 ht he hc);exact⟨keep,l,.data (Ylb (Ya2 ht hv) hr),hl⟩
end
end Go.Ab
