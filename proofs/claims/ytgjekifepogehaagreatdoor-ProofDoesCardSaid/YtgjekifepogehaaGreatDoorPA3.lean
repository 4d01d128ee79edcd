/- A part of this seat's proofs. No conditions. -/
import Derived.ChangeArms
import Derived.ChangeFn
import Derived.ChangeReads
import Derived.ChangeSame
import Derived.ChangeShapes
import Derived.DataReads
import Derived.DataShut
import Derived.Test.YtgjekifepogehaaGreatDoorPA2
namespace Go.Ab
open Go
set_option linter.all false
def Gq(W:World)(b:Nat):Nat:=match W.heap[b]? with
 |some (.cells cs _ _)=>cs.size
 |_=>0
theorem Y0{W:World}{b o:Nat}{v:Value}(h:W.cell? ⟨b,o,none⟩=some v):o<Gq W b:=by
 unfold Gq;simp only[World.cell?] at h
 grind
def KZ(W:World):Gh:=⟨fun _=>0,fun _=>none,Gq W⟩
def Old(W W':World):Prop:=∀b,b<W.heap.size->W'.heap[b]? =W.heap[b]?
theorem Old.cell{W W':World}(h:Old W W'){a:Addr}{v:Value}(hc:W.cell? a=some v):W'.cell? a=some v:=by
 have hb:a.block<W.heap.size:=by
  simp only[World.cell?] at hc
  grind
 rw[<-hc];simp only[World.cell?,h a.block hb]
theorem Zy4{W:World}{a:Addr}{i:Nat}{v:Value}(hv:W.cell? (a.add i)=some v):a.add i=⟨a.block,a.off+i,none⟩:=by
 have hspot:(a.add i).spot=none:=by
  cases hsp:(a.add i).spot with
  |none=>rfl
  |some s=>
   simp only[World.cell?] at hv
   grind
 unfold Addr.add at hspot ⊢;split
 .rename_i h0;subst h0;rw[if_pos rfl] at hspot;cases a;simp_all
 .rfl
section
variable {H:Type} {enc:TypeId×Value->H} {P:Program} {W:World}
def Rel(W:World)(cs:List Value)(vs:List V):Prop:=cs.length=vs.length/\∀(i:Nat) v c,cs[i]? =some v->vs[i]? =some c->A4 (Gq W) W v c
def Rb(enc:TypeId×Value->H)(P:Program)(W:World)(n:Nat)(t:TypeId)(cs:List Value)(x:DataW H×List MemPlace):Prop:=
 ∀W' sp,Old W W'->(∀b,b<W.heap.size->sp b=true)->DataW.trod enc P W' 0 sp true n t cs=some x
def ER(enc:TypeId×Value->H)(P:Program)(W:World)(n:Nat)(t:TypeId)(F:List V->Prop):Prop:=
 ∀cs x,DataW.trod enc P W 0 (fun _=>true) true n t cs=some x->Rb enc P W n t cs x/\∃vs,F vs/\Rel W cs vs
theorem Old.cells{W':World}(h:Old W W'){a:Addr}{n:Nat}{cs:List Value}(hc:W.cells? 0 a n=some cs):W'.cells? 0 a n=some cs:=by
 obtain⟨h1,h2,h3⟩:=World.cells?_some hc;exact World.cells?_of_each h1 h2 fun i hi=>by
  have h4:=h3 i hi;rw[ZD dY] at h4 ⊢;exact h.cell h4
theorem I4{t:TypeId}{k:IntKind}(ht:P.underlying t=some (.int k))(n:Nat):ER enc P W n t (fun vs=>∃i,vs=[.int k i]/\(Lit.int k i).wf=true):=by
 intro cs x h;obtain⟨i,rfl,rfl,hw⟩:=DataW.trod_int ht h;refine⟨fun W' sp _ _=> ?_,[.int k i],⟨i,rfl,hw⟩,rfl,?_⟩
 .cases n with
  |zero=>simp[DataW.trod] at h
  |succ n=>simp[DataW.trod,ht,hw]
 .intro j v c hv hc;cases j with
  |zero=>simp at hv hc;subst hv;subst hc;exact .int k i
  |succ j=>grind
theorem Wi{α β:Type}{f g:α->Option β}:∀{l:List α} {r:List β},l.mapM f=some r->(∀x∈l,∀y,f x=some y->g x=some y)->l.mapM g=some r:=by
 intro l;induction l with
 |nil=>simp
 |cons x l ih=>
  intro r h hg;simp only[List.mapM_cons,Option.bind_eq_bind,ZL,Option.pure_def,ZI] at h ⊢
  grind
theorem XQ{t e:TypeId}{c:EC}{n:Nat}(p:c.sem->Prop)(ht:P.underlying t=some (.slice e))(hc:P.cellsOf e=c.cells)(hpos:0<c.cells)(he:ER enc P W n e (fun vs=>∃y:c.sem,vs=c.view y/\p y))
 {cs:List Value} {x:DataW H×List MemPlace} (h:DataW.trod enc P W 0 (fun _=>true) true (n+1) t cs=some x):
 Rb enc P W (n+1) t cs x/\∃vs,(∃ys:List c.sem,vs=[.slice .any (.t c ys)]/\ys.length<=maxLen/\∀y∈ys,p y)/\Rel W cs vs:=by
 have h':=h;rcases DataW.trod_slice ht h with⟨rfl,rfl⟩|⟨a,len,cap,elems,rest,n',hn,rfl,hx,hb,hlc,hcm,hel,hi,hr,_⟩
 .refine ⟨fun W' sp _ _=>by simp[DataW.trod,ht],[.slice .any (.t c [])],⟨[],rfl,bL _,fun y hy=>by cases hy⟩,rfl,?_⟩;intro j v d hv hd;cases j with
  |zero=>simp at hv hd;subst hv;subst hd;exact .nilS _ rfl
  |succ j=>grind
 .cases hn;have key:∀i,i<len->∃us y,W.cells? 0 (a.add (i*P.cellsOf e)) (P.cellsOf e)=some us/\DataW.trod enc P W 0 (fun _=>true) true n e us=some y/\elems[i]? =some y:=by
   intro i hlt;have h1:=hi i hlt;rw[ZD dY] at h1 ⊢;obtain⟨us,h2,h3⟩:=ZL.1 h1
   grind
  have hex:∀k,k<=len->∃ys:List c.sem,ys.length=k/\(∀y∈ys,p y)/\∀i,i<k->∃us y,W.cells? 0 (a.add (i*P.cellsOf e)) (P.cellsOf e)=some us/\ys[i]? =some y/\Rel W us (c.view y):=by
   intro k;induction k with
   |zero=>simp
   |succ k ih=>
    intro hk;obtain⟨ys,h1,h0,h2⟩:=ih dY;obtain⟨us,y,h3,h4,_⟩:=key k dY;obtain⟨_,vs,⟨z,rfl,hz⟩,hrel⟩:=he us y h4;refine⟨ys++[z],ei,(fun y hy=>by
     grind),fun i hlt=> ?_⟩
    grind
  obtain⟨ys,D9,hyp,hys⟩:=hex len (ZB _);refine⟨fun W' sp hold hsp=> ?_,[.slice .any (.t c ys)],⟨ys,rfl,dY,hyp⟩,rfl,?_⟩
  ·
   have hcarry:∀i,(W.cells? 0 (a.add (i*P.cellsOf e)) (P.cellsOf e)).bind (DataW.trod enc P W 0 (fun _=>true) true n e)=none\/
    (W'.cells? 0 (a.add (i*P.cellsOf e)) (P.cellsOf e)).bind (DataW.trod enc P W' 0 sp true n e)=(W.cells? 0 (a.add (i*P.cellsOf e)) (P.cellsOf e)).bind (DataW.trod enc P W 0 (fun _=>true) true n e):=by
    intro i;cases hc1:W.cells? 0 (a.add (i*P.cellsOf e)) (P.cellsOf e) with
    |none=>simp
    |some us=>
     cases ht1:DataW.trod enc P W 0 (fun _=>true) true n e us with
     |none=>grind
     |some y=>
      right;rw[hold.cells hc1];simp only[cu];rw[ht1,(he us y ht1).1 W' sp hold hsp]
   have hblk:0<cap->a.block<W.heap.size:=by
    intro hcap;by_cases hl:0<len
    .obtain ⟨us,y,h3,_⟩:=key 0 hl;have:=World.cells?_block h3 dY;simpa[Addr.add] using this
    .obtain ⟨h5,h6⟩:=hr rfl;have h7:=h6 0 dY;rw[ZD dY] at h7;obtain⟨us,h8,_⟩:=ZL.1 h7;have:=World.cells?_block h8 dY;have e1:(a.add ((len+0)*P.cellsOf e)).block=a.block:=by unfold Addr.add;grind
     omega
   have hspb:cap-len=0\/sp a.block=true:=by
    grind
   unfold DataW.trod at h' ⊢;rw[ht] at h' ⊢;simp only at h' ⊢;have hcond:0<=a.block/\len<=cap/\cap<=maxLen:=⟨hb,hlc,hcm⟩;rw[if_pos hcond] at h' ⊢;obtain⟨el,h1,h2⟩:=ZL.1 h';obtain⟨re,h3,h4⟩:=ZG.1 h2;simp only[if_true] at h3;refine ZL.2 ⟨el,Wi h1 fun i _ y hy=> ?_,ZG.2 ⟨re,?_,h4⟩⟩
   .grind
   .rcases hspb with h0|h0
    .grind
    .rw[if_pos h0];exact Wi h3 fun j _ y hy=>by
      grind
  .intro j v d hv hd;cases j with
   |succ j=>grind
   |zero=>
    simp only[bZ,ZI] at hv hd;subst hv;subst hd;by_cases hlen:len=0
    .subst hlen;exact .emp (.t c ys) D9 a cap
    have hsp0:a=⟨a.block,a.off,none⟩:=by
     obtain⟨us,y,h3,_⟩:=key 0 dY;obtain⟨_,h4,h5⟩:=World.cells?_some h3;have h6:=h5 0 dY;rw[ZD dY] at h6;have:=Zy4 h6;simpa[Addr.add] using this
    obtain⟨ab,ao,as⟩:=a;have:as=none:=ei
    subst this;have hadd:∀o k,Addr.add (⟨ab,o,none⟩:Addr) k=⟨ab,o+k,none⟩:=fun o k=>by
     unfold Addr.add;simp
    have hget:∀i j,i<ys.length->j<c.cells->∃v,W.cell? ⟨ab,ao+(i*c.cells+j),none⟩=some v/\∀cs d,(SL.t c ys:SL V).get i=some cs->cs[j]? =some d->A4 (Gq W) W v d:=by
     intro i j hi2 hj;obtain⟨us,y,h5,h6,h7,h8⟩:=hys i dY;obtain⟨_,h9,h10⟩:=World.cells?_some h5;have h11:=h10 j dY;rw[hadd,hadd,ZD dY,hc] at h11;refine⟨us[j]' dY,ei,fun cs d h12 h13=> ?_⟩;have:cs=c.view y:=by
      simp only[SL.get,h6,ak,ZI] at h12
      grind
     grind
    refine A4.slice (SL.t c ys) ab ao cap (fun i j=>(W.cell? ⟨ab,ao+(i*c.cells+j),none⟩).getD undef) ?_ (by show ys.length<=cap;omega) ?_ ?_ ?_|>fun h=>by rw[show len=(SL.t c ys:SL V).len from D9.symm];exact h
    .show ao+ys.length*c.cells<=Gq W ab;obtain⟨v,hv,_⟩:=hget (ys.length-1) (c.cells-1) dY dY;have:=Y0 hv;have e1:(ys.length-1)*c.cells+c.cells=ys.length*c.cells:=by
      grind
     omega
    .intro i hi2;exact⟨c.view (ys[i]'hi2),by show(ys[i]?).map c.view=_;rw[ZD (show i<ys.length from hi2)];rfl,EC.Bg _ _⟩
    .intro i j hi2 hj;obtain⟨v,hv,_⟩:=hget i j hi2 hj;show W.cell? ⟨ab,ao+(i*c.cells+j),none⟩=_
     grind
    .intro i j cs d hi2 h12 h13;have hj:j<c.cells:=by
      have:cs=c.view (ys[i]'hi2):=by
       simp only[SL.get,ZD (show i<ys.length from hi2),ak,ZI] at h12
       grind
      subst this;have:=(ZT.1 h13).1;rw[EC.Bg] at this;omega
     obtain⟨v,hv,hd⟩:=hget i j hi2 hj
     grind
theorem Zw8{t e:TypeId}{c:EC}{n:Nat}(ht:P.underlying t=some (.slice e))(hc:P.cellsOf e=c.cells)(hpos:0<c.cells)(he:ER enc P W n e (fun vs=>∃y:c.sem,vs=c.view y))
 {cs:List Value} {x:DataW H×List MemPlace} (h:DataW.trod enc P W 0 (fun _=>true) true (n+1) t cs=some x):
 Rb enc P W (n+1) t cs x/\∃vs,(∃ys:List c.sem,vs=[.slice .any (.t c ys)]/\ys.length<=maxLen)/\Rel W cs vs:=by
 obtain⟨h1,vs,⟨ys,h2,h3,_⟩,h4⟩:=XQ (p:=fun _=>True) ht hc hpos (fun cs x hx=>by
  obtain⟨q1,vs,⟨y,q2⟩,q3⟩:=he cs x hx
  grind) h
 grind
theorem VQ{t e:TypeId}{c:EC}{n:Nat}(ht:P.underlying t=some (.slice e))(hc:P.cellsOf e=c.cells)(hpos:0<c.cells)(he:ER enc P W n e (fun vs=>∃y:c.sem,vs=c.view y)):
 ER enc P W (n+1) t (fun vs=>∃ys:List c.sem,vs=[.slice .any (.t c ys)]/\ys.length<=maxLen):=fun cs x h=>Zw8 ht hc hpos he h
theorem Ki{t:TypeId}{F:List V->Prop}:ER enc P W 0 t F:=fun cs x h=>by simp[DataW.trod] at h
theorem Zxw{t e:TypeId}(ht:P.underlying t=some (.slice e))(he:P.underlying e=some (.int .i64))(hc:P.cellsOf e=1)(n:Nat):ER enc P W n t (fun vs=>∃ys:List Int,vs=[.slice .any (.t .int ys)]/\ys.length<=maxLen):=by
 cases n with
 |zero=>exact Ki
 |succ n=>
  refine VQ (c:= .int) ht hc ej ?_;intro cs x h;obtain⟨h1,vs,⟨i,rfl,_⟩,h2⟩:=I4 he n cs x h;exact⟨h1,_,⟨i,rfl⟩,h2⟩
theorem Pt{t:TypeId}{v:Value}{d:DataW H}{ps:List MemPlace}{F:List V->Prop}(h:DataW.Trod enc P W 0 (fun _=>true) true t v d ps)(hg:∀n,ER enc P W n t F):
 (∀W' sp,Old W W'->(∀b,b<W.heap.size->sp b=true)->DataW.Trod enc P W' 0 sp true t v d ps)/\∃vs,F vs/\Rel W v.cells.toList vs:=by
 obtain⟨n,hn⟩:=h;obtain⟨h1,h2⟩:=hg n _ _ hn;exact⟨fun W' sp ho hs=>⟨n,h1 W' sp ho hs⟩,h2⟩
theorem Zyl{t e:TypeId}{r:Reach}{base:Nat}{v:Value}(ht:P.underlying t=some (.slice e))(h:Value.okWide P W r base t v):v.cells.toList=[v]:=by
 cases v<;>simp[Value.okWide,ht,Cell.okWide,Cell.ok] at h<;>rfl
theorem Ww{v:Value}{c:V}(hv:v.cells.toList=[v])(h:Rel W v.cells.toList [c]):A4 (Gq W) W v c:=by
 obtain⟨_,h2⟩:=h;exact h2 0 v c ei rfl
theorem Yf1{G:DR}(hG:∀p∈G,∀(j:Nat) c,p.2[j]? =some c->∃v,W.cell? ⟨p.1,j,none⟩=some v/\A4 (Gq W) W v c):R G (KZ W) (·<0) [] W:=by
 refine⟨fun n e h=>eE,fun n n' e e' b h=>eE,fun n e h=>eE,fun b hb=> ?_,fun p hp=>⟨?_,hG p hp⟩⟩
 .show Gq W b=0;unfold Gq
  grind
 .show p.2.length<=Gq W p.1;cases hl:p.2 with
  |nil=>simp
  |cons x l=>
   have hlt:p.2.length-1<p.2.length:=ei
   obtain⟨v,hv,_⟩:=hG p hp (p.2.length-1) _ (ZD hlt);have:=Y0 hv
   grind
theorem Ztn{g':Gh}{W':World}{F':Nat->Prop}(h:Ext (·<0) (KZ W) (Aq (KZ W) []) W g' F' W'):Old W W':=fun b hb=>
 (h.frame b hb fun hf=>by obtain⟨n,e,h1,_⟩:=hf;cases h1).1
theorem Zo9{W':World}(h:Old W W')(ho:W'.os=W.os)(hp:W'.output=W.output)(may:MemPlace->Prop):W.keptBut W' may:=by
 refine⟨ho,hp,fun i hi=> ?_⟩;rw[h i hi]
 grind
theorem Zvl{E:Env}{f:FuncId}{args:List V}{vs:List Value}(h:PC E f args (.bool true))(hG:∀p∈E.G,∀(j:Nat) c,p.2[j]? =some c->∃v,W.cell? ⟨p.1,j,none⟩=some v/\A4 (Gq W) W v c)
 (hl:vs.length=args.length) (hr:∀(i:Nat) v c,vs[i]? =some v->args[i]? =some c->Al (KZ W) (·<0) W v c):
 Calls E.P f vs.toArray W fun e W'=>e= .returned (.bool true)/\Old W W'/\W'.os=W.os/\W'.output=W.output:=by
 obtain⟨_,_,h3⟩:=h;refine(h3 (KZ W) W vs (Yf1 hG) hl hr).mono ?_;rintro e W' ⟨v,g',rfl,_,hv,hx⟩;have:=hv.CQ;subst this;exact⟨rfl,Ztn hx,hx.os,hx.output⟩
end
mutual
def Tm.wf:Tm->Prop
 | .mk _ i _ xs=>(-9223372036854775808<=i/\i<=9223372036854775807)/\Tm.FA xs
def Tm.FA:List Tm->Prop
 |[]=>True
 |t::l=>t.wf/\Tm.FA l
end
theorem Tm.Cx:∀l:List Tm,Tm.FA l↔∀x∈l,x.wf
 |[]=>by simp[Tm.FA]
 |t::l=>by simp[Tm.FA,Tm.Cx l]
theorem Tm.DF(t:Tm):t.wf↔(-9223372036854775808<=t.index/\t.index<=9223372036854775807)/\∀x∈t.args,x.wf:=by cases t;simp only[Tm.wf,Tm.Cx];rfl
mutual
def Fm.wf:Fm->Prop
 | .mk _ _ ts xs=>(∀t∈ts,t.wf)/\Fm.FA xs
def Fm.FA:List Fm->Prop
 |[]=>True
 |t::l=>t.wf/\Fm.FA l
end
theorem Fm.Cx:∀l:List Fm,Fm.FA l↔∀x∈l,x.wf
 |[]=>by simp[Fm.FA]
 |t::l=>by simp[Fm.FA,Fm.Cx l]
theorem Fm.DF(f:Fm):f.wf↔(∀t∈f.terms,t.wf)/\∀x∈f.args,x.wf:=by cases f;simp only[Fm.wf,Fm.Cx];rfl
def Kl(P:Program)(t:TypeId)(l:List (TypeId×Nat)):Bool:=match P.underlying t with
 |some (.struct fs)=>decide (fs.toList.map (fun f=>(f.type,f.offset))=l)
 |_=>false
theorem Ut{P:Program}{t:TypeId}{l:List (TypeId×Nat)}(h:Kl P t l=true):∃fs:Array Field,P.underlying t=some (.struct fs)/\fs.toList.map (fun f=>(f.type,f.offset))=l:=by
 unfold Kl at h
 grind
def Jp(P:Program):Nat->List (TypeId×Nat)->Nat->Bool
 |o,[],n=>o==n
 |o,p::l,n=>p.2==o&&Jp P (o+P.cellsOf p.1) l n
inductive Np:List (List V->Prop)->List V->Prop
 |nil:Np [] []
 |cons {F:List V->Prop} {Fs:List (List V->Prop)} {a b:List V} (h:F a) (hb:Np Fs b):Np (F::Fs) (a++b)
section
variable {H:Type} {enc:TypeId×Value->H} {P:Program} {W:World}
theorem Rel.app{c1 c2:List Value}{v1 v2:List V}(h1:Rel W c1 v1)(h2:Rel W c2 v2):Rel W (c1++c2) (v1++v2):=by
 obtain⟨l1,r1⟩:=h1;obtain⟨l2,r2⟩:=h2;refine⟨ei,fun i v c hv hc=> ?_⟩
 grind
theorem U7{α β:Type}{f:α->Option β}:∀(l:List α) (r:List β),l.length=r.length->(∀(i:Nat) (hi:i<l.length),f l[i]=r[i]?)->l.mapM f=some r
 |[],[],_,_=>rfl
 |[],_::_,h,_=>ei
 |_::_,[],h,_=>ei
 |x::l,y::r,hl,h=>by
  have h0:=h 0 dZ;simp only[ZN,bZ] at h0;have h1:=U7 l r ei fun i hi=>by have:=h (i+1) ei;simpa using this
  simp_all
theorem Wb{n:Nat}(cs:List Value):∀(l:List (TypeId×Nat)) (Fs:List (List V->Prop)) (o:Nat),l.length=Fs.length->Jp P o l cs.length=true->
 (∀(i:Nat) (p:TypeId×Nat) (F:List V->Prop),l[i]? =some p->Fs[i]? =some F->∃vs,F vs/\Rel W ((cs.drop p.2).take (P.cellsOf p.1)) vs)->∃vs,Np Fs vs/\Rel W (cs.drop o) vs
 |[],[],o,_,hc,_=>by
  simp only[Jp,beq_iff_eq] at hc;subst hc;exact⟨[],.nil,dZ,fun i v c hv _=>ei⟩
 |[],_::_,o,hl,_,_=>ei
 |_::_,[],o,hl,_,_=>ei
 |p::l,F::Fs,o,hl,hc,hf=>by
  simp only[Jp,ZC,beq_iff_eq] at hc;obtain⟨a,ha,hra⟩:=hf 0 p F rfl rfl;obtain⟨b,hb,hrb⟩:=Wb (n:=n) cs l Fs (o+P.cellsOf p.1) ei hc.2 fun i q G hq hG=>hf (i+1) q G ei ei;refine⟨a++b,.cons ha hb,?_⟩;have e:cs.drop o=(cs.drop o).take (P.cellsOf p.1)++cs.drop (o+P.cellsOf p.1):=by rw[<-List.drop_drop,bw]
  rw[e];rw[hc.1] at hra;exact hra.app hrb
theorem NZ{t:TypeId}{n:Nat}(l:List (TypeId×Nat))(Fs:List (List V->Prop))(ht:Kl P t l=true)(hc:Jp P 0 l (P.cellsOf t)=true)(hl:l.length=Fs.length)
 (hg:∀(i:Nat) (p:TypeId×Nat) (F:List V->Prop),l[i]? =some p->Fs[i]? =some F->ER enc P W n p.1 F):ER enc P W (n+1) t (Np Fs):=by
 intro cs x h;obtain⟨fs,hu,hfs⟩:=Ut ht;obtain⟨xs,n',hn,hx,hlen,hxl,hel⟩:=DataW.trod_struct hu h;obtain rfl:n=n':=dY
 have hfl:fs.size=l.length:=ei
 have key:∀(i:Nat) (f:Field),fs[i]? =some f->∃F y,Fs[i]? =some F/\l[i]? =some (f.type,f.offset)/\DataW.trod enc P W 0 (fun _=>true) true n f.type ((cs.drop f.offset).take (P.cellsOf f.type))=some y/\xs[i]? =some y:=by
  intro i f hf;have hi:i<fs.size:=(au.1 hf).1;have h1:=hel i f hf;rw[ZD dY] at h1;refine⟨Fs[i]' dY,xs[i]' dY,ZD dY,?_,h1,ZD dY⟩
  grind
 refine⟨fun W' sp hold hsp=> ?_,?_⟩
 .rw[hx];refine Go.ChangeShapes.trod_struct_mk hu hlen (U7 _ _ ei fun i hi=> ?_);have hi':i<fs.size:=dY
  obtain⟨F,y',hF,hp,hy',hxi⟩:=key i fs[i] (aJ hi');have e:fs.toList[i]=fs[i]:=dZ
  rw[hxi,e];exact(hg i _ F hp hF _ _ hy').1 W' sp hold hsp
 .obtain ⟨vs,h1,h2⟩:=Wb (P:=P) (W:=W) (n:=n) cs l Fs 0 hl ei fun i p F hp hF=>by
   have hi:i<l.length:=(ZT.1 hp).1;obtain⟨F',y,hF',hp',hy,_⟩:=key i (fs[i]' dY) (aJ dY);rw[hF] at hF';cases hF';rw[hp] at hp';cases hp';exact(hg i _ F hp hF _ _ hy).2
  grind
theorem Yg7{α:Type}{a b x:α}{i:Nat}(h:[a,b][i]? =some x):(i=0/\x=a)\/(i=1/\x=b):=by
 grind
theorem Rm{α:Type}{a b c d x:α}{i:Nat}(h:[a,b,c,d][i]? =some x):(i=0/\x=a)\/(i=1/\x=b)\/(i=2/\x=c)\/(i=3/\x=d):=by
 grind
abbrev FI(vs:List V):Prop:=∃i,vs=[V.i i]/\(Lit.int .i64 i).wf=true
abbrev FS(c:EC)(vs:List V):Prop:=∃ys:List c.sem,vs=[V.s c ys]/\ys.length<=maxLen
structure DataT (P:Program) where
 ti:TypeId
 ty:TypeId
 tys:TypeId
 tm:TypeId
 AZ:TypeId
 h0:P.underlying ti=some (.int .i64)
 h1:Kl P ty [(ti,0),(tys,1)]=true
 h2:Jp P 0 [(ti,0),(tys,1)] (P.cellsOf ty)=true
 h3:P.underlying tys=some (.slice ty)
 h4:P.cellsOf ty=2
 h5:Kl P tm [(ti,0),(ti,1),(ty,2),(AZ,4)]=true
 h6:Jp P 0 [(ti,0),(ti,1),(ty,2),(AZ,4)] (P.cellsOf tm)=true
 h7:P.underlying AZ=some (.slice tm)
 h8:P.cellsOf tm=5
theorem Oc{t:TypeId}{n:Nat}{F G:List V->Prop}(h:ER enc P W n t F)(hFG:∀vs,F vs->G vs):ER enc P W n t G:=fun cs x hx=>by
 obtain⟨h1,vs,h2,h3⟩:=h cs x hx
 grind
theorem XL{t e:TypeId}{c:EC}(ht:P.underlying t=some (.slice e))(hc:P.cellsOf e=c.cells)(hpos:0<c.cells):∀n,(∀m,m<n->ER enc P W m e (fun vs=>∃y:c.sem,vs=c.view y))->ER enc P W n t (FS c)
 |0,_=>Ki
 |n+1,h=>VQ ht hc hpos (h n dY)
theorem Py(T:DataT P):∀n,ER enc P W n T.ty (fun vs=>∃y:Ty,vs=y.view):=by
 intro n;induction n using Nat.strongRecOn with
 |ind n ih=>
  cases n with
  |zero=>exact Ki
  |succ n=>
   refine Oc (NZ [(T.ti,0),(T.tys,1)] [FI,FS .ty] T.h1 T.h2 rfl fun i p F hp hF=> ?_) ?_
   .rcases Yg7 hp with⟨rfl,rfl⟩|⟨rfl,rfl⟩
    .exact l6
    .cases hF;exact XL (c:= .ty) T.h3 T.h4 ej n fun m hm=>ih m dY
   .intro vs h;cases h with
    |cons h1 h=>cases h with
     |cons h2 h=>cases h with
      |nil=>
       obtain⟨i,rfl,_⟩:=h1;obtain⟨l,rfl,_⟩:=h2;exact⟨.mk i l,rfl⟩
theorem Yfs(T:DataT P):∀n,ER enc P W n T.tm (fun vs=>∃y:Tm,vs=y.view):=by
 intro n;induction n using Nat.strongRecOn with
 |ind n ih=>
  cases n with
  |zero=>exact Ki
  |succ n=>
   refine Oc (NZ [(T.ti,0),(T.ti,1),(T.ty,2),(T.AZ,4)] [FI,FI,fun vs=>∃y:Ty,vs=y.view,FS .tm] T.h5 T.h6 rfl fun i p F hp hF=> ?_) ?_
   .rcases Rm hp with⟨rfl,rfl⟩|⟨rfl,rfl⟩|⟨rfl,rfl⟩|⟨rfl,rfl⟩
    .exact l6
    .exact l6
    .cases hF;exact Py T n
    .cases hF;exact XL (c:= .tm) T.h7 T.h8 ej n fun m hm=>ih m dY
   .intro vs h;cases h with
    |cons h1 h=>cases h with
     |cons h2 h=>cases h with
      |cons h3 h=>cases h with
       |cons h4 h=>cases h with
        |nil=>
         obtain⟨k,rfl,_⟩:=h1;obtain⟨i,rfl,_⟩:=h2;obtain⟨y,rfl⟩:=h3;obtain⟨l,rfl,_⟩:=h4;exact⟨.mk k i y l,rfl⟩
structure FormT (P:Program) extends DataT P where
 fm:TypeId
 DB:TypeId
 k1:Kl P fm [(ti,0),(ty,1),(AZ,3),(DB,4)]=true
 k2:Jp P 0 [(ti,0),(ty,1),(AZ,3),(DB,4)] (P.cellsOf fm)=true
 k3:P.underlying DB=some (.slice fm)
 k4:P.cellsOf fm=5
theorem Uw{t:TypeId}{r:Reach}{base:Nat}{v:Value}{vs:List V}{l:List (TypeId×Nat)}(ht:Kl P t l=true)(h:Value.okWide P W r base t v)(hr:Rel W v.cells.toList vs):Al (KZ W) (·<0) W v (.agg vs):=by
 obtain⟨fs,hu,_⟩:=Ut ht;unfold Value.okWide at h;rw[hu] at h;obtain⟨cs,rfl,_,_⟩:=h;have hr':Rel W cs.toList vs:=hr;obtain⟨h1,h2⟩:=hr';have e:cs=cs.toList.toArray:=dZ
 rw[e];refine .agg cs.toList vs h1 (fun v hv=> ?_) fun i v c hv hc=> .data (h2 i v c hv hc);obtain⟨i,hi,rfl⟩:=cr.1 hv;exact(h2 i _ _ (ZD hi) (ZD dY)).one
theorem Yfg{t:TypeId}{r:Reach}{base:Nat}{k:IntKind}{v:Value}(ht:P.underlying t=some (.int k))(h:Value.okWide P W r base t v):v.cells.toList=[v]:=by
 cases v<;>simp[Value.okWide,ht,Cell.okWide,Cell.ok] at h<;>rfl
theorem UQ{i:Int}(h:(Lit.int .i64 i).wf=true): -9223372036854775808<=i/\i<=9223372036854775807:=by
 have:=(Lit.wf_int_iff .i64 i).1 h;simp[IntKind.min,IntKind.max,IntKind.signed,IntKind.bits] at this;omega
def Qv(enc:TypeId×Value->H)(P:Program)(W:World)(t:TypeId)(v:Value)(d:DataW H)(ps:List MemPlace):Prop:=
 ∀W' sp,Old W W'->(∀b,b<W.heap.size->sp b=true)->DataW.Trod enc P W' 0 sp true t v d ps
abbrev Is(W:World)(v:Value)(c:V):Prop:=Al (KZ W) (·<0) W v c
theorem Ya1{t e:TypeId}{v:Value}{d:DataW H}{ps:List MemPlace}{r:Reach}{base:Nat}(ht:P.underlying t=some (.slice e))(he:P.underlying e=some (.int .i64))(hc:P.cellsOf e=1)
 (h:DataW.Trod enc P W 0 (fun _=>true) true t v d ps) (hv:Value.okWide P W r base t v):Qv enc P W t v d ps/\∃l:List Int,Is W v (.s .int l)/\l.length<=maxLen:=by
 obtain⟨keep,vs,⟨l,rfl,hl⟩,hr⟩:=Pt h (Zxw ht he hc);exact⟨keep,l,.data (Ww (Zyl ht hv) hr),hl⟩
theorem Zx{t:TypeId}{v:Value}{d:DataW H}{ps:List MemPlace}{r:Reach}{base:Nat}{k:IntKind}(ht:P.underlying t=some (.int k))
 (h:DataW.Trod enc P W 0 (fun _=>true) true t v d ps) (hv:Value.okWide P W r base t v):Qv enc P W t v d ps/\∃i:Int,Is W v (.int k i)/\(Lit.int k i).wf=true:=by
 obtain⟨keep,vs,⟨l,rfl,hl⟩,hr⟩:=Pt h (I4 ht);exact⟨keep,l,.data (Ww (Yfg ht hv) hr),hl⟩
theorem Yh7(T:DataT P){v:Value}{d:DataW H}{ps:List MemPlace}{r:Reach}{base:Nat}
 (h:DataW.Trod enc P W 0 (fun _=>true) true T.tm v d ps) (hv:Value.okWide P W r base T.tm v):Qv enc P W T.tm v d ps/\∃y:Tm,Is W v (.agg y.view):=by
 obtain⟨keep,vs,⟨y,rfl⟩,hr⟩:=Pt h (Yfs T);exact⟨keep,y,Uw T.h5 hv hr⟩
abbrev Lg(c:EC)(p:c.sem->Prop)(vs:List V):Prop:=∃ys:List c.sem,vs=[V.s c ys]/\ys.length<=maxLen/\∀y∈ys,p y
theorem Ls{t e:TypeId}{c:EC}(p:c.sem->Prop)(ht:P.underlying t=some (.slice e))(hc:P.cellsOf e=c.cells)(hpos:0<c.cells):∀n,(∀m,m<n->ER enc P W m e (fun vs=>∃y:c.sem,vs=c.view y/\p y))->ER enc P W n t (Lg c p)
 |0,_=>Ki
 |n+1,h=>fun cs x hx=>XQ p ht hc hpos (h n dY) hx
theorem Za(T:DataT P):∀n,ER enc P W n T.tm (fun vs=>∃y:Tm,vs=y.view/\y.wf):=by
 intro n;induction n using Nat.strongRecOn with
 |ind n ih=>
  cases n with
  |zero=>exact Ki
  |succ n=>
   refine Oc (NZ [(T.ti,0),(T.ti,1),(T.ty,2),(T.AZ,4)] [FI,FI,fun vs=>∃y:Ty,vs=y.view,Lg .tm Tm.wf] T.h5 T.h6 rfl fun i p F hp hF=> ?_) ?_
   .rcases Rm hp with⟨rfl,rfl⟩|⟨rfl,rfl⟩|⟨rfl,rfl⟩|⟨rfl,rfl⟩
    .exact l6
    .exact l6
    .cases hF;exact Py T n
    .cases hF;exact Ls (c:= .tm) Tm.wf T.h7 T.h8 ej n fun m hm=>ih m dY
   .intro vs h;cases h with
    |cons h1 h=>cases h with
     |cons h2 h=>cases h with
      |cons h3 h=>cases h with
       |cons h4 h=>cases h with
        |nil=>
         obtain⟨k,rfl,_⟩:=h1;obtain⟨i,rfl,hi⟩:=h2;obtain⟨y,rfl⟩:=h3;obtain⟨l,rfl,_,hl⟩:=h4;exact⟨.mk k i y l,rfl,(Tm.DF _).2 ⟨UQ hi,hl⟩⟩
theorem Ybz(T:FormT P):∀n,ER enc P W n T.fm (fun vs=>∃y:Fm,vs=y.view/\y.wf):=by
 intro n;induction n using Nat.strongRecOn with
 |ind n ih=>
  cases n with
  |zero=>exact Ki
  |succ n=>
   refine Oc (NZ [(T.ti,0),(T.ty,1),(T.AZ,3),(T.DB,4)] [FI,fun vs=>∃y:Ty,vs=y.view,Lg .tm Tm.wf,Lg .fm Fm.wf] T.k1 T.k2 rfl fun i p F hp hF=> ?_) ?_
   .rcases Rm hp with⟨rfl,rfl⟩|⟨rfl,rfl⟩|⟨rfl,rfl⟩|⟨rfl,rfl⟩
    .exact l6
    .cases hF;exact Py T.toDataT n
    .exact m7
    .cases hF;exact Ls (c:= .fm) Fm.wf T.k3 T.k4 ej n fun m hm=>ih m dY
   .intro vs h;cases h with
    |cons h1 h=>cases h with
     |cons h3 h=>cases h with
      |cons h2 h=>cases h with
       |cons h4 h=>cases h with
        |nil=>
         obtain⟨k,rfl,_⟩:=h1;obtain⟨i,rfl,_,hi⟩:=h2;obtain⟨y,rfl⟩:=h3;obtain⟨l,rfl,_,hl⟩:=h4;exact⟨.mk k y i l,rfl,(Fm.DF _).2 ⟨hi,hl⟩⟩
end
mutual
def Pf.wf:Pf->Prop
 | .mk _ i _ ts fs xs=>(-9223372036854775808<=i/\i<=9223372036854775807)/\(∀t∈ts,t.wf)/\(∀f∈fs,f.wf)/\Pf.FA xs
def Pf.FA:List Pf->Prop
 |[]=>True
 |t::l=>t.wf/\Pf.FA l
end
theorem Pf.Cx:∀l:List Pf,Pf.FA l↔∀x∈l,x.wf
 |[]=>by simp[Pf.FA]
 |t::l=>by simp[Pf.FA,Pf.Cx l]
theorem Pf.DF(p:Pf):p.wf↔(-9223372036854775808<=p.index/\p.index<=9223372036854775807)/\(∀t∈p.terms,t.wf)/\(∀f∈p.Aa,f.wf)/\∀x∈p.args,x.wf:=by cases p;simp only[Pf.wf,Pf.Cx];rfl
theorem Yek{α:Type}{a b c d e f x:α}{i:Nat}(h:[a,b,c,d,e,f][i]? =some x):(i=0/\x=a)\/(i=1/\x=b)\/(i=2/\x=c)\/(i=3/\x=d)\/(i=4/\x=e)\/(i=5/\x=f):=by
 match i with
 |0=>grind
 |1=>grind
 |2=>grind
 |3=>grind
 |4=>grind
 |5=>simp_all
 |i+6=>simp at h
structure K7 (P:Program) extends FormT P where
 pf:TypeId
 Nt:TypeId
 p1:Kl P pf [(ti,0),(ti,1),(ty,2),(AZ,4),(DB,5),(Nt,6)]=true
 p2:Jp P 0 [(ti,0),(ti,1),(ty,2),(AZ,4),(DB,5),(Nt,6)] (P.cellsOf pf)=true
 p3:P.underlying Nt=some (.slice pf)
 p4:P.cellsOf pf=7
section
variable {H:Type} {enc:TypeId×Value->H} {P:Program} {W:World}
theorem Ybs(T:K7 P):∀n,ER enc P W n T.pf (fun vs=>∃y:Pf,vs=y.view/\y.wf):=by
 intro n;induction n using Nat.strongRecOn with
 |ind n ih=>
  cases n with
  |zero=>exact Ki
  |succ n=>
   refine Oc (NZ [(T.ti,0),(T.ti,1),(T.ty,2),(T.AZ,4),(T.DB,5),(T.Nt,6)] [FI,FI,fun vs=>∃y:Ty,vs=y.view,Lg .tm Tm.wf,Lg .fm Fm.wf,Lg .pf Pf.wf] T.p1 T.p2 rfl fun i p F hp hF=> ?_) ?_
   .rcases Yek hp with⟨rfl,rfl⟩|⟨rfl,rfl⟩|⟨rfl,rfl⟩|⟨rfl,rfl⟩|⟨rfl,rfl⟩|⟨rfl,rfl⟩
    .exact l6
    .exact l6
    .cases hF;exact Py T.toDataT n
    .exact m7
    .cases hF;exact Ls (c:= .fm) Fm.wf T.k3 T.k4 ej n fun m _=>Ybz T.toFormT m
    .cases hF;exact Ls (c:= .pf) Pf.wf T.p3 T.p4 ej n fun m hm=>ih m dY
   .intro vs h;cases h with
    |cons h1 h=>cases h with
     |cons h2 h=>cases h with
      |cons h3 h=>cases h with
       |cons h4 h=>cases h with
        |cons h5 h=>cases h with
         |cons h6 h=>cases h with
          |nil=>
           obtain⟨k,rfl,_⟩:=h1;obtain⟨i,rfl,hi⟩:=h2;obtain⟨y,rfl⟩:=h3;obtain⟨l,rfl,_,hl⟩:=h4;obtain⟨m,rfl,_,hm⟩:=h5;obtain⟨q,rfl,_,hq⟩:=h6;exact⟨.mk k i y l m q,rfl,(Pf.DF _).2 ⟨UQ hi,hl,hm,hq⟩⟩
theorem WH(T:K7 P){v:Value}{d:DataW H}{ps:List MemPlace}{r:Reach}{base:Nat}
 (h:DataW.Trod enc P W 0 (fun _=>true) true T.pf v d ps) (hv:Value.okWide P W r base T.pf v):Qv enc P W T.pf v d ps/\∃y:Pf,Is W v (.agg y.view)/\y.wf:=by
 obtain⟨keep,vs,⟨y,rfl,hy⟩,hr⟩:=Pt h (Ybs T);exact⟨keep,y,Uw T.p1 hv hr,hy⟩
end
end Go.Ab
