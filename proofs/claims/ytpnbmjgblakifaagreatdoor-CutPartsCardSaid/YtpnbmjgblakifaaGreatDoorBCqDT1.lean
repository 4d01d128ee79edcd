/- A part of the proofs of this seat. No conditions. -/
import Derived.Test.YtpnbmjgblakifaaGreatDoorDT1
namespace Go.Ab
open Go
set_option linter.all false
theorem CB.GG{g:List Ty}{s t:Tm}(hs:CB g s)(ht:CB g t):(AP s t).err=0:=PM hs.shape ht.shape (by have:=hs.size;have:=ht.size;omega)
theorem BU.two{k i:Int}{h:Ty}{a b a' b':Tm}(ha:BU a a')(hb:BU b b'):BU (.mk k i h [a,b]) (.mk k i h [a',b']):= .node (.cons ha (.cons hb .nil))
theorem TT:∀l:List Pf,Pf.HC l=l.map Pf.HN
 |[]=>rfl
 |p::l=>by rw[Pf.HC,TT l];rfl
theorem Pf.JN(p:Pf):p.HN=(if p.kind=2 then [p.index] else [])++(p.args.map Pf.HN).flatten:=by cases p;simp only[Pf.HN,TT];rfl
theorem Ut(y w:Int):∀l:List Pf,(∀p∈l,∀y,p.HN=p.B3 O4 y)->l.map Pf.HN=Pf.AM O4 y w l
 |[],_=>by simp only[Pf.AM];rfl
 |p::l,h=>by
  simp only[List.map_cons,Pf.AM];rw[h p (by simp) (if l.length=0 then y+w else y),Ut y w l fun q hq=>h q (by simp[hq])]
theorem S7(p:Pf):∀y,p.HN=p.B3 O4 y:=by
 induction p using Pf.ind with
 |h p ih=>
  intro y;rw[Pf.JN,Pf.Bu,Ut y (At p.kind) p.args ih]
  rfl
section
variable {α:Type} (F:Int->Int->Int->List α)
theorem Ux(a:Int)(s:Tm)(p:Pf):∀v y,(p.pt a s v).B3 F y=p.B3 F y:=by
 induction p using Pf.ind with
 |h p ih=>
  intro v y;rw[Pf.DT,Pf.Bu,p.Bu];simp only[Pf.Ah,Pf.Ay,Pf.Ad];congr 2;have key:∀(l:List Pf),(∀x∈l,x∈p.args)->Pf.AM F y (At p.kind) (Pf.pts a s v (As p.kind) l)=Pf.AM F y (At p.kind) l:=by
   intro l;induction l with
   |nil=>intro _;simp only[Pf.pts]
   |cons x l ihl=>
    intro hx;simp only[Pf.pts,Pf.AM,Iq];rw[ihl fun z hz=>hx z (by simp[hz]),ih x (hx x (by simp))]
  exact key p.args fun _ h=>h
end
def Ht(k:Int)(l:List (Int×Int)):Int:=(l.map fun q=>q.2*(k-1)).sum
theorem PI(k:Int)(l l':List (Int×Int)):Ht k (l++l')=Ht k l+Ht k l':=by
 unfold Ht;induction l with
 |nil=>simp
 |cons q l ih=>simp only[List.cons_append,List.map_cons,List.sum_cons];rw[ih];omega
theorem Uo(n k:Int)(l:List (Int×Int)):CE n k l=n+Ht k l:=rfl
theorem S9{α:Type}{sz sz':α->Nat}{G:α->Int×Int}{k:Int}(l:List α)(h:∀x∈l,(sz' x:Int)=sz x+(G x).2*(k-1)):(((l.map sz').sum:Nat):Int)=((l.map sz).sum:Nat)+Ht k (l.map G):=by
 unfold Ht;induction l with
 |nil=>simp
 |cons x l ih=>
  have h1:=h x (by simp);have h2:=ih fun y hy=>h y (by simp[hy]);simp only[List.map_cons,List.sum_cons];omega
theorem Xb{s:Tm}{a:Int}(ha:0<=a)(hs:s.shape=true)(p:Pf):p.shape=true->∀v,0<=v->(∀q∈p.Dg (BE a) (BK a) v,q.1+q.2*((s.size:Int)-1)<=4096)->
 (p.pt a s v).shape=true/\(p.pt a s v).small=true/\((p.pt a s v).size:Int)=p.size+Ht s.size (p.Dg (BE a) (BK a) v):=by
 have sp:=s.size_pos;have cast:∀(n c:Nat),((n+c*(s.size-1):Nat):Int)=(n:Int)+(c:Int)*((s.size:Int)-1):=fun n c=>by
  rw[Int.natCast_add,Int.natCast_mul,show(((s.size-1:Nat)):Int)=(s.size:Int)-1 by omega]
 induction p using Pf.ind with
 |h p ih=>
  intro hp v hv hq;obtain⟨_,s4,s5,s6⟩:=zh hp;have fv:0<=AD p.kind:=by unfold AD;split<;>(try split)<;>omega
  have b1:0<=As p.kind:=by unfold As;split<;>(try split)<;>omega
  rw[Pf.Ca] at hq ⊢;have zt:∀t∈p.terms,((t.re (xd (a+v) s) 0).size:Int)=t.size+(BE a v t).2*((s.size:Int)-1):=fun t ht=>by
   rw[OT (a+v) s t hs 0 (s4 t ht),cast];rfl
  have zf:∀f∈p.Ac,((f.put (a+(v+AD p.kind)) s).size:Int)=f.size+(BK a (v+AD p.kind) f).2*((s.size:Int)-1):=fun f hf=>by
   have e:(f.put (a+(v+AD p.kind)) s).size=f.size+ve (a+(v+AD p.kind)) (f.A2 0)*(s.size-1):=Ls (a+(v+AD p.kind)) s hs f (s5 f hf) 0;rw[e,cast];unfold BK;rw[show a+(v+AD p.kind)=a+(v+AD p.kind) from rfl]
  have key:∀(l:List Pf),(∀x∈l,x∈p.args)->(∀q∈(Pf.Bi (BE a) (BK a) v (As p.kind) l).flatten,q.1+q.2*((s.size:Int)-1)<=4096)->
   (∀x∈Pf.pts a s v (As p.kind) l,x.shape=true/\x.small=true)/\((((Pf.pts a s v (As p.kind) l).map Pf.size).sum:Nat):Int)=((l.map Pf.size).sum:Nat)+Ht s.size (Pf.Bi (BE a) (BK a) v (As p.kind) l).flatten:=by
   intro l;induction l with
   |nil=>intro _ _;simp[Pf.pts,Pf.Bi,Ht]
   |cons x l ihl=>
    intro hx hq;simp only[Pf.Bi,List.flatten_cons,List.mem_append] at hq;obtain⟨a1,a2⟩:=ihl (fun z hz=>hx z (by simp[hz])) fun q h=>hq q (.inr h);obtain⟨c1,c2,c3⟩:=ih x (hx x (by simp)) (s6 x (hx x (by simp))) (if l.length=0 then v+As p.kind else v) (by split<;>omega) fun q h=>hq q (.inl h);simp only[Pf.pts,Pf.Bi,List.mem_cons,List.map_cons,List.sum_cons,List.flatten_cons];refine⟨fun z hz=> ?_,?_⟩
    ·rcases hz with rfl|hz
     ·exact ⟨c1,c2⟩
     ·exact a1 z hz
    ·rw[PI,Int.natCast_add,a2,c3];omega
  simp only[List.mem_append] at hq;obtain⟨k1,k2⟩:=key p.args (fun _ h=>h) fun q h=>hq q (.inr h);rw[Pf.DT];refine⟨Wf hp (List.length_map ..) (List.length_map ..) (Iq _ _ _ _ _) (fun y hy=> ?_) (fun y hy=> ?_) (fun x h=>(k1 x h).1),?_,?_⟩
  ·obtain ⟨t,ht,rfl⟩:=List.mem_map.1 hy;exact Mo 0 hs (s4 t ht) (by omega) (by omega) (fun p hp=>uj t 0 p hp)
  ·obtain ⟨f,hf,rfl⟩:=List.mem_map.1 hy;exact O2 (by omega) hs (s5 f hf)
  ·rw[Pf.BZ];simp only[Bool.and_eq_true,List.all_eq_true,decide_eq_true_eq,Pf.Ai,Pf.Ar,Pf.Ad];refine⟨⟨fun y hy=> ?_,fun y hy=> ?_⟩,fun x h=>(k1 x h).2⟩
   ·obtain ⟨t,ht,rfl⟩:=List.mem_map.1 hy;have:=hq _ (.inl (.inl (List.mem_map.2 ⟨t,ht,rfl⟩)));have:=zt t ht;have:(BE a v t).1=t.size:=rfl;omega
   ·obtain ⟨f,hf,rfl⟩:=List.mem_map.1 hy;have:=hq _ (.inl (.inr (List.mem_map.2 ⟨f,hf,rfl⟩)));have:=zf f hf;have:(BK a (v+AD p.kind) f).1=f.size:=rfl;omega
  ·rw[Pf.size_eq,p.size_eq];simp only[Pf.Ai,Pf.Ar,Pf.Ad,List.map_map];have q1:=S9 (sz:=Tm.size) (sz':=Tm.size∘fun t=>t.re (xd (a+v) s) 0) (G:=BE a v) (k:=s.size) p.terms zt;have q2:=S9 (sz:=Fm.size) (sz':=Fm.size∘fun f=>f.put (a+(v+AD p.kind)) s) (G:=BK a (v+AD p.kind)) (k:=s.size) p.Ac zf;rw[PI,PI];omega
theorem Yb(C a:Int)(s:Tm)(p:Pf):p.hx C->∀v,(p.pt a s v).hx C:=by
 induction p using Pf.ind with
 |h p ih=>
  intro h v;obtain⟨h1,h2⟩:=(Pf.A8 C p).1 h;rw[Pf.DT,Pf.A8];simp only[Pf.Ah,Pf.Ay,Pf.Ad];refine⟨h1,fun hk x hx=> ?_⟩;obtain⟨m,hm,rfl⟩:=List.getElem_of_mem hx;rw[Iq] at hm;rw[Mf _ _ _ _ _ _ hm];exact ih _ (List.getElem_mem hm) (h2 hk _ (List.getElem_mem hm)) _
theorem Uy(C a:Int)(s:Tm)(p:Pf):p.lx C->∀v,(p.pt a s v).lx C:=by
 induction p using Pf.ind with
 |h p ih=>
  intro h v;obtain⟨h1,h2⟩:=(Pf.BC C p).1 h;rw[Pf.DT,Pf.BC];simp only[Pf.Ah,Pf.Ay,Pf.Ad];refine⟨h1,fun x hx=> ?_⟩;obtain⟨m,hm,rfl⟩:=List.getElem_of_mem hx;rw[Iq] at hm;rw[Mf _ _ _ _ _ _ hm];exact ih _ (List.getElem_mem hm) (h2 _ (List.getElem_mem hm)) _
def Cd(p q:Pf):Pf:= .mk 3 0 (.mk 0 []) [] [] [p,q]
theorem keeps{n:Nat}{p:Pf}{t:Tm}{a:Int}(hp:Made n p)(ha:0<=a/\a<=4096)(ht:t.err=0)(htn:t.near=true):
 x7 p a t=4\/(p.err=0/\x7 p a t=0/\(Co p a t).err=0/\Hs (Co p a t)=Hs p/\SO (Co p a t)=SO p/\(Co p a t).hx 10000/\(Co p a t).lx 10000):=by
 rcases hp.err with he|he;case inr=>exact .inl (by rw[Oz (by omega),he])
 obtain⟨g1,g2,g3⟩:=(Pf.Ae p).1 he;have h5:=Ns (a:=a) he ha ht (by rw[show p.AN=true from Mh p hp.ix 0,htn];simp);by_cases hb:CP t.size (EK p a t)=true\/CE p.size t.size (EK p a t)>16384
 ·rw[if_pos hb] at h5;exact .inl h5
 rw[if_neg hb] at h5;have e:Co p a t=p.pt a t 0:=by unfold Co;rw[if_pos h5]
 have hB:CP t.size (EK p a t)=false:=by cases h:CP t.size (EK p a t) with|false=>rfl|true=>exact absurd (.inl h) hb
 unfold CP at hB;rw[List.any_eq_false] at hB;have hN:CE p.size t.size (EK p a t)<=16384:=by
  refine Int.not_lt.1 fun h=>hb (.inr h)
 rw[Uo] at hN;obtain⟨k1,k2,k3⟩:=Xb ha.1 ((Tm.Ae t).1 ht).1 p g1 0 (by omega) fun q hq=>by
  have:=hB q hq;simp at this;omega
 unfold EK at hN;refine .inr ⟨he,h5,?_,?_,?_,?_,?_⟩
 ·rw[e,Pf.Ae];exact⟨k1,k2,by omega⟩
 ·rw[e];unfold Hs;rw[SX,SX,Ux]
 ·rw[e];unfold SO;rw[S7 _ 0,S7 p 0,Ux]
 ·rw[e];exact Yb _ _ _ _ hp.hx 0
 ·rw[e];exact Uy _ _ _ _ hp.lx 0
def yp(p:Pf):Int×Int:=if p.kind=16\/p.kind=17 then(p.kind,(p.terms.getD 0 A0).kind) else if 0<p.args.length then(p.kind,(p.args.getD 0 Bc).kind) else(p.kind,0)
def G2:List (Int×Int):=[(4,3),(5,3),(7,6),(9,8),(13,12),(11,10),(15,14),(16,4),(16,5),(17,7),(17,8)]
theorem VE{p:Pf}(h:p.kind=16\/p.kind=17):yp p=(p.kind,(p.terms.getD 0 A0).kind):=if_pos h
theorem S5{p:Pf}(h:¬(p.kind=16\/p.kind=17))(h0:0<p.args.length):yp p=(p.kind,(p.args.getD 0 Bc).kind):=by unfold yp;rw[if_neg h,if_pos h0]
theorem TL{p:Pf}(h:¬(p.kind=16\/p.kind=17))(h0:¬0<p.args.length):yp p=(p.kind,0):=by unfold yp;rw[if_neg h,if_neg h0]
def vm(p:Pf):Bool:=decide (yp p∈G2)
def D4(q:Pf)(t:Tm)(p:Pf):Pf×Int:=if x7 q 0 t≠0 then(Bc,x7 q 0 t) else(vq (Co q 0 t) 0 p,va (Co q 0 t) 0 p)
def FA(p:Pf)(t:Tm):Pf:= .mk p.kind p.index p.ty [t] p.Ac p.args
def Pf.arg(p:Pf)(i:Nat):Pf:=p.args.getD i Bc
def Pf.Ei(p:Pf):Tm:=p.terms.getD 0 A0
def E1(t:Tm):Tm:=if xm t 0 1=0 then t.re (zl 0 1) 0 else A0
def I4(p:Pf)(h l:Tm):Pf×Int:=
 if xm l 0 1≠0 then(Bc,xm l 0 1) else if x7 (p.arg 1) 0 (E1 l)≠0 then(Bc,x7 (p.arg 1) 0 (E1 l)) else D4 (Co (p.arg 1) 0 (E1 l)) h (FA p l)
def z7(p:Pf):Pf×Int:=
 if yp p=(4,3) then((p.arg 0).arg 0,0)
 else if yp p=(5,3) then((p.arg 0).arg 1,0)
 else if yp p=(7,6) then(vq ((p.arg 0).arg 0) 0 (p.arg 1),va ((p.arg 0).arg 0) 0 (p.arg 1))
 else if yp p=(9,8)\/yp p=(13,12) then(Co ((p.arg 0).arg 0) 0 p.Ei,x7 ((p.arg 0).arg 0) 0 p.Ei)
 else if yp p=(11,10)\/yp p=(15,14) then D4 (p.arg 1) (p.arg 0).Ei ((p.arg 0).arg 0)
 else if yp p=(16,5) then D4 (p.arg 1) (p.Ei.args.getD 0 A0) (FA p (p.Ei.args.getD 0 A0))
 else if yp p=(17,8) then I4 p (p.Ei.args.getD 0 A0) (p.Ei.args.getD 1 A0)
 else(p.arg 0,0)
mutual
def Pf.nx:Pf->Pf×Bool×Int
 | .mk k i s ts fs zs=>if vm (.mk k i s ts fs zs)=true then((z7 (.mk k i s ts fs zs)).1,true,(z7 (.mk k i s ts fs zs)).2)
   else(.mk k i s ts fs (Pf.Di zs).1,(Pf.Di zs).2.1,(Pf.Di zs).2.2)
def Pf.Di:List Pf->List Pf×Bool×Int
 |[]=>([],false,0)
 |p::l=>if(Pf.nx p).2.1=true\/(Pf.nx p).2.2≠0 then((Pf.nx p).1::l,(Pf.nx p).2.1,(Pf.nx p).2.2) else(p::(Pf.Di l).1,(Pf.Di l).2.1,(Pf.Di l).2.2)
end
theorem Pf.CX(p:Pf):p.nx=if vm p=true then((z7 p).1,true,(z7 p).2) else(.mk p.kind p.index p.ty p.terms p.Ac (Pf.Di p.args).1,(Pf.Di p.args).2.1,(Pf.Di p.args).2.2):=by cases p;simp only[Pf.nx];rfl
mutual
def Pf.direct:Pf->Bool
 | .mk k i s ts fs zs=>if vm (.mk k i s ts fs zs)=true then false else Pf.CQ zs
def Pf.CQ:List Pf->Bool
 |[]=>true
 |p::l=>Pf.direct p&&Pf.CQ l
end
theorem Pf.B9(p:Pf):p.direct=if vm p=true then false else Pf.CQ p.args:=by cases p;simp only[Pf.direct];rfl
theorem NO:∀l:List Pf,Pf.CQ l=l.all Pf.direct
 |[]=>rfl
 |p::l=>by simp only[Pf.CQ,List.all_cons,NO l]
def yh(p:Pf):Pf×Bool×Int:=if p.nx.2.2≠0\/p.nx.1.err≠0 then(Bc,false,4) else(p.nx.1,p.nx.2.1,0)
theorem QE{p:Pf}(hs:p.shape=true):(p.kind=16\/p.kind=17->p.terms≠[]):=by
 intro h;obtain⟨hh,_⟩:=zh hs;obtain⟨nd,n1,n2,_⟩:=Hz hh;have:nd.terms=1:=by
  rcases h with h|h<;>(rw[h] at n1;unfold BO at n1;simp at n1;rw[<-n1])
 intro hc;rw[hc,this] at n2;cases n2
theorem XZ{p:Pf}{a:Int}{t:Tm}(h:x7 p a t=0):p.err=0/\(0<=a/\a<=4096)/\t.err=0/\p.AN=true/\t.near=true/\CP t.size (EK p a t)=false/\CE p.size t.size (EK p a t)<=16384:=by
 have h1:p.err=0:=Decidable.byContradiction fun hc=>by rw[Oz hc] at h;exact hc h
 have h2:0<=a/\a<=4096:=Decidable.byContradiction fun hc=>by rw[Wa h1 hc] at h;cases h
 have h3:t.err=0:=Decidable.byContradiction fun hc=>by rw[VW h1 h2 hc] at h;exact hc h
 have h4:¬(p.AN=false\/t.near=false):=fun hc=>by rw[Wc h1 h2 h3 hc] at h;cases h
 rw[Ns h1 h2 h3 h4] at h;have h5:¬(CP t.size (EK p a t)=true\/CE p.size t.size (EK p a t)>16384):=fun hc=>by rw[if_pos hc] at h;cases h
 refine⟨h1,h2,h3,?_,?_,?_,?_⟩
 ·cases e:p.AN with|true=>rfl|false=>exact absurd (.inl e) h4
 ·cases e:t.near with|true=>rfl|false=>exact absurd (.inr e) h4
 ·cases e:CP t.size (EK p a t) with|false=>rfl|true=>exact absurd (.inl e) h5
 ·exact Int.not_lt.1 fun e=>h5 (.inr e)
theorem Yf0{p:Pf}{a:Int}{t:Tm}(h:x7 p a t=0):(Co p a t).err=0:=by
 obtain⟨h1,h2,h3,_,_,hB,hN⟩:=XZ h;obtain⟨g1,g2,g3⟩:=(Pf.Ae p).1 h1;have e:Co p a t=p.pt a t 0:=by unfold Co;rw[if_pos h]
 unfold CP at hB;rw[List.any_eq_false] at hB;rw[Uo] at hN;obtain⟨k1,k2,k3⟩:=Xb h2.1 ((Tm.Ae t).1 h3).1 p g1 0 (by omega) fun q hq=>by
  have:=hB q hq;simp at this;omega
 unfold EK at hN;rw[e,Pf.Ae];exact⟨k1,k2,by omega⟩
theorem WJ{p q:Pf}{a:Int}(h:va p a q=0):p.err=0/\(0<=a/\a<=16384)/\q.err=0/\p.AZ=true/\q.AZ=true/\q.AN=true/\(p.size:Int)+D6 p a*(q.size-1)<=16384:=by
 have h1:p.err=0:=Decidable.byContradiction fun hc=>by rw[OR hc] at h;exact hc h
 have h2:0<=a/\a<=16384:=Decidable.byContradiction fun hc=>by rw[Ur h1 hc] at h;cases h
 have h3:q.err=0:=Decidable.byContradiction fun hc=>by rw[Ol h1 h2 hc] at h;exact hc h
 have h4:¬(p.AZ=false\/q.AZ=false\/q.AN=false):=fun hc=>by rw[Xm h1 h2 h3 hc] at h;cases h
 rw[Nt h1 h2 h3 h4] at h;refine⟨h1,h2,h3,?_,?_,?_,?_⟩
 ·cases e:p.AZ with|true=>rfl|false=>exact absurd (.inl e) h4
 ·cases e:q.AZ with|true=>rfl|false=>exact absurd (.inr (.inl e)) h4
 ·cases e:q.AN with|true=>rfl|false=>exact absurd (.inr (.inr e)) h4
 ·exact Int.not_lt.1 fun e=>by rw[if_pos e] at h;cases h
theorem JW{α:Type}{P:α->Int->Prop}(hP:∀x c c',P x c->c<=c'->P x c')(c0:Int):∀l:List α,(∀x∈l,∃c,P x c)->∃c,c0<=c/\∀x∈l,P x c
 |[],_=>⟨c0,by omega,fun x h=>by cases h⟩
 |x::l,h=>by
  obtain⟨c,h1,h2⟩:=JW hP c0 l fun y hy=>h y (by simp[hy]);obtain⟨d,h3⟩:=h x (by simp);by_cases hcd:c<=d
  ·exact ⟨d,by omega,fun y hy=>by rcases List.mem_cons.1 hy with rfl|hy;exact h3;exact hP _ _ _ (h2 y hy) hcd⟩
  ·exact ⟨c,h1,fun y hy=>by rcases List.mem_cons.1 hy with rfl|hy;exact hP _ _ _ h3 (by omega);exact h2 y hy⟩
theorem Yd0(p:Pf):p.shape=true->∃C:Int,549755813888<=C/\p.ix C:=by
 induction p using Pf.ind with
 |h p ih=>
  intro hs;obtain⟨_,s4,s5,s6⟩:=zh hs;have bv:∀l:List (Int×Int),(∀q∈l,0<=q.1)->∃c,(549755813888:Int)<=c/\∀q∈l,0<=q.1/\q.1<c:=fun l hl=>
   JW (P:=fun(q:Int×Int) c=>0<=q.1/\q.1<c) (fun x c c' h h'=>⟨h.1,by omega⟩) _ l fun q hq=>⟨q.1+1,hl q hq,by omega⟩
  obtain⟨c1,g1,k1⟩:=JW (P:=fun(t:Tm) c=>∀q∈t.vars 0,0<=q.1/\q.1<c) (fun x c c' h h' q hq=>⟨(h q hq).1,by have:=(h q hq).2;omega⟩) 549755813888 p.terms fun t ht=>by
   obtain⟨c,_,h⟩:=bv (t.vars 0) fun q hq=>t.AJ (s4 t ht) 0 q hq;exact⟨c,h⟩
  obtain⟨c2,g2,k2⟩:=JW (P:=fun(f:Fm) c=>∀z∈f.A2 0,∀q∈z.1.vars 0,0<=q.1/\q.1<c) (fun x c c' h h' z hz q hq=>⟨(h z hz q hq).1,by have:=(h z hz q hq).2;omega⟩) 549755813888 p.Ac fun f hf=>by
   obtain⟨c,_,h⟩:=JW (P:=fun(z:Tm×Int) c=>∀q∈z.1.vars 0,0<=q.1/\q.1<c) (fun x c c' h h' q hq=>⟨(h q hq).1,by have:=(h q hq).2;omega⟩) 0 (f.A2 0) fun z hz=>by
    obtain⟨c,_,h⟩:=bv (z.1.vars 0) fun q hq=>z.1.AJ (IZ f (s5 f hf) 0 z hz) 0 q hq;exact⟨c,h⟩
   exact⟨c,h⟩
  obtain⟨c3,g3,k3⟩:=JW (P:=fun(x:Pf) c=>x.ix c) (fun x c c' h h'=>vr h h') 549755813888 p.args fun x hx=>by
   obtain⟨c,_,h⟩:=ih x hx (s6 x hx);exact⟨c,h⟩
  refine⟨c1+c2+c3,by omega,(Pf.Be _ p).2 ⟨fun t ht q hq=>⟨(k1 t ht q hq).1,by have:=(k1 t ht q hq).2;omega⟩,fun f hf z hz q hq=>⟨(k2 f hf z hz q hq).1,by have:=(k2 f hf z hz q hq).2;omega⟩,fun x hx=>vr (k3 x hx) (by omega)⟩⟩
theorem Ybg{r:Pf}(he:r.err=0)(hn:r.AN=true)(hh:r.AZ=true){v h:Int}(hv:0<=v/\v<=200000)(hh2:0<=h/\h<=200000):
 r.Ds v h=(r.up 0 v 0).lh 0 h 0/\Pz (549755813888+v) r.size ((r.up 0 v 0).lh 0 h 0):=by
 obtain⟨hs,hm,hz⟩:=(Pf.Ae r).1 he;have hi:=V9 r hs hm 0 hn;have hx:=TG r hs 0 hh;have h1:=Na (fr:=0) (n:=v) (C:=549755813888) hv.1 hs hm hi 0;have hf:=KA _ h1.1;have h2:=h1.2.2.1;unfold Pf.Ds;rw[MF (by omega) hs hm hi 0];rw[PD (by omega) (Gq _ h1.1) (Oo _ _ _ _ hx 0) 0 (by omega)];refine⟨rfl,?_⟩;have:=Qb (f:=0) (b:=h) hh2.1 h1.1 h1.2.1 h1.2.2.2 0
 rwa [h2] at this
theorem Yar{p q:Pf}(h:va p 0 q=0):(vq p 0 q).err=0:=by
 obtain⟨h1,_,h3,n1,n2,n3,hN⟩:=WJ h;obtain⟨g1,g2,g3⟩:=(Pf.Ae p).1 h1;have rp:=q.size_pos;have e:vq p 0 q=Pf.ph 0 q 0 0 p:=by unfold vq;rw[if_pos h]
 have hsz:((p.size+(p.B3 (Cq 0) 0).length*(q.size-1):Nat):Int)=(p.size:Int)+D6 p 0*(q.size-1):=by
  unfold D6;rw[Int.natCast_add,Int.natCast_mul,show(((q.size-1:Nat)):Int)=(q.size:Int)-1 by omega]
 obtain⟨C,hC,hix⟩:=Yd0 p g1;have hA:Pz _ _ (Pf.ph 0 q 0 0 p):=QI (p:=p) (r:=q) (C:=C) (fun v h q1 q2 q3 q4=>by
  obtain⟨w1,w2⟩:=Ybg h3 n3 n2 ⟨q1,q2⟩ ⟨q3,q4⟩;rw[w1];exact⟨w2.1,w2.2.1,w2.2.2.1,vr w2.2.2.2 (by omega)⟩) (by omega) g1 g2 hix 0 0 (by omega) (by omega) (by omega) (by omega)
 rw[e];exact hA.err (by omega)
theorem KC(p:Pf)(a:Int)(t:Tm):(Co p a t).full<=1064960:=by
 by_cases h:x7 p a t=0
 ·exact ur (Yf0 h)
 ·rw[Xv h,yn];omega
theorem Uz(p q:Pf):(vq p 0 q).full<=1064960:=by
 by_cases h:va p 0 q=0
 ·exact ur (Yar h)
 ·rw[I1 h,yn];omega
theorem Tf(q:Pf)(t:Tm)(p:Pf):(D4 q t p).1.full<=1064960:=by
 unfold D4;split
 ·simp only[yn];omega
 ·exact Uz _ _
theorem Yi2(p:Pf):2<=p.full:=by rw[p.Ag];have:=p.ty.size_pos;omega
theorem Rz(p:Pf)(i:Nat):(p.arg i).full<=p.full:=by
 unfold Pf.arg;by_cases h:i<p.args.length
 ·rw[G8 h];have h1:=zc Pf.full (List.getElem_mem h);rw[p.Ag];omega
 ·rw[List.getD,List.getElem?_eq_none (by omega)];exact Nat.le_trans (Nat.le_of_eq yn) (Yi2 p)
theorem Zo4(p:Pf):(z7 p).1.full<=p.full+1064960:=by
 have h0:=Rz p 0;have h1:=Rz (p.arg 0) 0;have h2:=Rz (p.arg 0) 1;unfold z7;repeat' split
 all_goals first
  |(simp only;omega)
  |(have:=Uz ((p.arg 0).arg 0) (p.arg 1);simp only;omega)
  |(have:=KC ((p.arg 0).arg 0) 0 p.Ei;simp only;omega)
  |(exact Nat.le_trans (Tf _ _ _) (by omega))
  |(unfold I4;split
    ·simp only[yn];omega
    ·split
     ·simp only[yn];omega
     ·exact Nat.le_trans (Tf _ _ _) (by omega))
theorem Ygs(p:Pf):p.nx.1.full<=p.full+1064960:=by
 induction p using Pf.ind with
 |h p ih=>
  rw[Pf.CX];split
  ·exact Zo4 p
  ·have key:∀l:List Pf,(∀x∈l,x∈p.args)->((Pf.Di l).1.map Pf.full).sum<=(l.map Pf.full).sum+1064960:=by
    intro l;induction l with
    |nil=>intro _;simp[Pf.Di]
    |cons x l ihl=>
     intro hx;have h1:=ih x (hx x (by simp));have h2:=ihl fun z hz=>hx z (by simp[hz]);simp only[Pf.Di];split
     ·simp only[List.map_cons,List.sum_cons];omega
     ·simp only[List.map_cons,List.sum_cons];omega
   have h1:=key p.args fun _ h=>h;simp only;rw[Pf.Ag,p.Ag];simp only[Pf.AL,Pf.Ai,Pf.Ar,Pf.Ad];omega
theorem SI(p:Pf):(yp p).1=p.kind:=by unfold yp;split;rfl;split<;>rfl
theorem UA:∀(l:List Pf) (m:Nat) (hm:m<l.length),(∀i (hi:i<l.length),i<m->l[i].nx.2.1=false/\l[i].nx.2.2=0)->(l[m].nx.2.1=true\/l[m].nx.2.2≠0)->Pf.Di l=(l.set m l[m].nx.1,l[m].nx.2.1,l[m].nx.2.2)
 |p::l,0,hm,h,hx=>by simp only[Pf.Di,List.getElem_cons_zero] at hx ⊢;rw[if_pos hx];rfl
 |p::l,m+1,hm,h,hx=>by
  have h0:=h 0 (by simp) (by omega);simp only[List.getElem_cons_zero] at h0;simp only[Pf.Di,List.getElem_cons_succ];rw[if_neg (by simp[h0.1,h0.2]),UA l m (by simpa using hm) (fun i hi him=>h (i+1) (by simpa using hi) (by omega)) hx]
  rfl
theorem QG:∀(l:List Pf),(∀i (hi:i<l.length),l[i].nx.2.1=false/\l[i].nx.2.2=0)->Pf.Di l=(l,false,0)
 |[],_=>rfl
 |p::l,h=>by
  have h0:=h 0 (by simp);simp only[List.getElem_cons_zero] at h0;simp only[Pf.Di];rw[if_neg (by simp[h0.1,h0.2]),QG l fun i hi=>h (i+1) (by simpa using hi)]
def Dw(k i _y:Int):List Bool:=if k=1\/k=2 then [decide (i<=536870912)] else []
def Pf.Ce(p:Pf):Bool:=([p.AN&&p.AZ]++p.B3 Dw 0).all id
def y4:Nat->Pf->Int->Pf×Int×Int
 |0,p,n=>if p.direct=true then(p,n,0) else(Bc,0,5)
 |k+1,p,n=>if(yh p).2.2≠0 then(Bc,0,(yh p).2.2) else if(yh p).2.1=false then(p,n,0) else y4 k (yh p).1 (n+1)
def Ir(p:Pf):Pf×Bool×Int:=if p.err≠0 then(Bc,false,p.err) else if p.Ce=false then(Bc,false,1) else if(yh p).2.2≠0 then(Bc,false,(yh p).2.2) else yh p
def y7(p:Pf)(s:Int):Pf×Int×Int:=if p.err≠0 then(Bc,0,p.err) else if s<0\/s>65536\/p.Ce=false then(Bc,0,1) else y4 s.toNat p 0
theorem u6{p:Pf}(h:(yh p).2.2=0):p.nx.2.2=0/\(yh p).1=p.nx.1/\(yh p).2.1=p.nx.2.1/\p.nx.1.err=0:=by
 unfold yh at h ⊢;by_cases hc:p.nx.2.2≠0\/p.nx.1.err≠0
 ·rw[if_pos hc] at h;cases h
 ·rw[if_neg hc];exact⟨Decidable.not_not.1 fun h=>hc (.inl h),rfl,rfl,Decidable.not_not.1 fun h=>hc (.inr h)⟩
theorem Ys(p:Pf):Pf.mk p.kind p.index p.ty p.terms p.Ac p.args=p:=by cases p;rfl
theorem RZ(p:Pf):p.direct=true->p.nx=(p,false,0):=by
 induction p using Pf.ind with
 |h p ih=>
  intro h;rw[Pf.B9] at h;have hr:¬vm p=true:=fun hc=>by rw[if_pos hc] at h;cases h
  rw[if_neg hr,NO,List.all_eq_true] at h;rw[Pf.CX,if_neg hr,QG p.args fun i hi=>by rw[ih _ (List.getElem_mem hi) (h _ (List.getElem_mem hi))];exact⟨rfl,rfl⟩];rw[Ys]
theorem Zv9(p:Pf):p.nx.2.1=false->p.nx.2.2=0->p.direct=true/\p.nx.1=p:=by
 induction p using Pf.ind with
 |h p ih=>
  intro h1 h2;have hr:¬vm p=true:=fun hc=>by rw[Pf.CX,if_pos hc] at h1;cases h1
  rw[Pf.CX,if_neg hr] at h1 h2 ⊢;simp only at h1 h2 ⊢;have key:∀l:List Pf,(∀x∈l,x∈p.args)->(Pf.Di l).2.1=false->(Pf.Di l).2.2=0->(∀x∈l,x.direct=true)/\(Pf.Di l).1=l:=by
   intro l;induction l with
   |nil=>intro _ _ _;exact⟨fun x h=>by(cases h),rfl⟩
   |cons x l ihl=>
    intro hx g1 g2;simp only[Pf.Di] at g1 g2 ⊢;by_cases hc:x.nx.2.1=true\/x.nx.2.2≠0
    ·rw[if_pos hc] at g1 g2;simp only at g1 g2;rcases hc with hc|hc
     ·rw[g1] at hc;cases hc
     ·exact absurd g2 hc
    ·rw[if_neg hc] at g1 g2 ⊢;simp only at g1 g2 ⊢;obtain⟨a1,a2⟩:=ihl (fun z hz=>hx z (by simp[hz])) g1 g2;obtain⟨b1,b2⟩:=ih x (hx x (by simp)) (by cases e:x.nx.2.1 with|false=>rfl|true=>exact absurd (.inl e) hc) (Decidable.byContradiction fun e=>hc (.inr e));refine⟨fun y hy=> ?_,by rw[a2]⟩;rcases List.mem_cons.1 hy with rfl|hy
     ·exact b1
     ·exact a1 y hy
  obtain⟨k1,k2⟩:=key p.args (fun _ h=>h) h1 h2;refine⟨?_,by rw[k2,Ys]⟩;rw[Pf.B9,if_neg hr,NO,List.all_eq_true];exact k1
theorem PL{p:Pf}(h:p.direct=true)(he:p.err=0):yh p=(p,false,0):=by
 unfold yh;rw[RZ p h,if_neg (by simp[he])]
theorem Zp8{p:Pf}(h1:(yh p).2.2=0)(h2:(yh p).2.1=false):p.direct=true:=by
 obtain⟨a,b,c,d⟩:=u6 h1;exact(Zv9 p (c▸h2) a).1
theorem KF:∀(k:Nat) (p:Pf) (n:Int) (a:Pf) (m:Int),p.err=0->y4 k p n=(a,m,0)->a.direct=true/\a.err=0/\n<=m/\m<=n+k/\∀k',(m-n).toNat<=k'->y4 k' p n=(a,m,0)
 |0,p,n,a,m,he,h=>by
  unfold y4 at h;by_cases hd:p.direct=true
  ·rw[if_pos hd] at h;cases h;refine⟨hd,he,by omega,by omega,fun k' _=> ?_⟩;cases k' with
   |zero=>unfold y4;rw[if_pos hd]
   |succ k'=>unfold y4;rw[PL hd he,if_neg (by simp),if_pos rfl]
  ·rw[if_neg hd] at h;cases h
 |k+1,p,n,a,m,he,h=>by
  unfold y4 at h;by_cases h1:(yh p).2.2≠0
  ·rw[if_pos h1] at h;exact absurd (Prod.mk.inj (Prod.mk.inj h).2).2 h1
  rw[if_neg h1] at h;have h1':(yh p).2.2=0:=Decidable.not_not.1 h1;by_cases h2:(yh p).2.1=false
  ·rw[if_pos h2] at h;cases h;have hd:=Zp8 h1' h2;refine⟨hd,he,by omega,by omega,fun k' _=> ?_⟩;cases k' with
   |zero=>unfold y4;rw[if_pos hd]
   |succ k'=>unfold y4;rw[if_neg h1,if_pos h2]
  ·rw[if_neg h2] at h;obtain⟨_,e1,_,e2⟩:=u6 h1';obtain⟨r1,r2,r3,r4,r5⟩:=KF k _ _ a m (by rw[e1];exact e2) h;refine⟨r1,r2,by omega,by omega,fun k' hk=> ?_⟩;cases k' with
   |zero=>omega
   |succ k'=>
    unfold y4;rw[if_neg h1,if_neg h2];exact r5 k' (by omega)
theorem Ll(k:Nat)(p:Pf)(n:Int):y4 (k+1) p n=if(yh p).2.2≠0 then(Bc,0,(yh p).2.2) else if(yh p).2.1=false then(p,n,0) else y4 k (yh p).1 (n+1):=rfl
theorem Yku(p:Pf):p.nd->p.hx 10000->p.lx 10000->∀y,(p.B3 Dw y).all id=true:=by
 induction p using Pf.ind with
 |h p ih=>
  intro hs hh hx y;obtain⟨i1,i2⟩:=(Pf.A8 _ p).1 hh;obtain⟨j1,j2⟩:=(Pf.BC _ p).1 hx;obtain⟨⟨nd0,a1,a2⟩,a3⟩:=(Pf.Bz p).1 hs;rw[Pf.Bu,List.all_append,Bool.and_eq_true];refine⟨List.all_eq_true.2 fun b hb=> ?_,List.all_eq_true.2 fun b hb=> ?_⟩
  ·unfold Dw at hb;by_cases hk:p.kind=1\/p.kind=2
   ·rw[if_pos hk] at hb;simp only[List.mem_singleton] at hb;subst hb;rcases hk with hk|hk
    ·have:=i1 hk;simp;omega
    ·have:=j1 hk;simp;omega
   ·rw[if_neg hk] at hb;cases hb
  ·obtain ⟨l,hl,hb⟩:=List.mem_flatten.1 hb;obtain⟨m,hm,rfl⟩:=List.getElem_of_mem hl;rw[vu] at hm;rw[uo _ _ _ _ _ hm] at hb;have hk:p.kind≠1:=fun e=>by
    rw[e] at a1;simp[BO] at a1;rw[<-a1] at a2;simp at a2;simp[a2] at hm
   exact List.all_eq_true.1 (ih _ (List.getElem_mem hm) (a3 _ (List.getElem_mem hm)) (i2 hk _ (List.getElem_mem hm)) (j2 _ (List.getElem_mem hm)) _) b hb
theorem Zwa{p:Pf}(hs:p.shape=true)(h1:p.ix 10000)(h2:p.hx 10000)(h3:p.lx 10000):p.Ce=true:=by
 unfold Pf.Ce;rw[show p.AN=true from Mh p h1 0,show p.AZ=true from Rm p (Gq p hs) h2 0];rw[List.all_append,Yku p (Gq p hs) h2 h3 0]
 rfl
theorem Made.near{n:Nat}{p:Pf}(h:Made n p):p.Ce=true:=Zwa h.shape h.ix h.hx h.lx
theorem Yd9(p:Pf):(yh p).2.2=0\/(yh p).2.2=4:=by
 unfold yh;split
 ·exact .inr rfl
 ·exact .inl rfl
theorem TO:∀(k:Nat) (p:Pf) (n:Int),(y4 k p n).2.2=0\/(y4 k p n).2.2=4\/(y4 k p n).2.2=5
 |0,p,n=>by
  unfold y4;split
  ·exact .inl rfl
  ·exact .inr (.inr rfl)
 |k+1,p,n=>by
  rw[Ll];split
  ·rcases Yd9 p with h|h
   ·exact .inl h
   ·exact .inr (.inl h)
  ·split
   ·exact .inl rfl
   ·exact TO k _ _
theorem vn{n:Nat}{p:Pf}(h:Made n p){s:Int}(hs:0<=s/\s<=65536):(p.err=4/\y7 p s=(Bc,0,4))\/(p.err=0/\y7 p s=y4 s.toNat p 0):=by
 unfold y7;rcases h.err with he|he
 ·right;rw[if_neg (by simp[he]),if_neg (by rw[h.near];simp;omega)];exact⟨he,rfl⟩
 ·left;rw[if_pos (by omega),he];exact⟨rfl,rfl⟩
theorem SH{n:Nat}{p:Pf}(h:Made n p){s:Int}(hs:0<=s/\s<=65536):(y7 p s).2.2=0\/(y7 p s).2.2=4\/(y7 p s).2.2=5:=by
 rcases vn h hs with⟨_,e⟩|⟨_,e⟩
 ·rw[e];exact .inr (.inl rfl)
 ·rw[e];exact TO _ _ _
end Go.Ab
