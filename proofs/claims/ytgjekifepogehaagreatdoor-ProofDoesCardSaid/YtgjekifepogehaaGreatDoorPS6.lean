/- A part of this seat's proofs. No conditions. -/
import Derived.Test.YtgjekifepogehaaGreatDoorPS5
namespace Go.Ab
open Go Go.Proofs
set_option maxRecDepth 100000
set_option maxHeartbeats 4000000
set_option linter.all false
theorem NW:∀(n:Nat) (p:Pf),p.full<=n->n<549755813888->PC E 79 [.agg p.view] (.i p.size):=by
 intro n;induction n with
 |zero=>intro p h;have:=p.Ac;omega
 |succ n ih=>
 intro p hsz hn;have hsz':=p.Af;have hse:=p.size_eq;have hlen:=zd Pf.full Pf.Ac p.args;have hlen1:=zd Fm.full Fm.Ac p.Aa;have hlen2:=zd Tm.full Tm.Ac p.terms;have hle0:=xh (f:=Tm.size) (g:=Tm.full) p.terms fun x _=>x.Ah;have hle1:=xh (f:=Fm.size) (g:=Fm.full) p.Aa fun x _=>x.Ah;have hle2:=xh (f:=Pf.size) (g:=Pf.full) p.args fun x _=>x.Ah;refine M.F Tryz.func79 ?_;refine M.w0 ?_;refine M.rt p.terms.length
  (fun m=>([(1,.ptr 0 0),(3,.i (1+((p.terms.take m).map Tm.size).sum:Nat)),(11,.s .tm p.terms),(12,.i p.terms.length),(13,.i m)],⟨1,[(0,.var p.view)]⟩))
  (M.W Ay) ?_ ?_
 .intro m hm _;have hs1:=yq Tm.size p.terms m hm;have hs2:=zc Tm.full (ZA hm);have hs3:=zl Tm.size p.terms (m+1);have hc:=yu _ p.terms[m] (ZB _) dY;refine M.w1 @hc ?_;refine⟨rfl,trivial,?_⟩;simp only[hs1];exact(M.W Ay (hf:=(by(repeat'(first|exact trivial|refine And.intro ?_ ?_|refine⟨_,U,_,U,?_⟩|exact Ai.refl _|exact Ai.of_eq fD));done)))
 .intro _;simp only[ZF];refine M.w0 ?_;refine M.rt p.Aa.length
   (fun m=>([(1,.ptr 0 0),(3,.i (1+(p.terms.map Tm.size).sum+((p.Aa.take m).map Fm.size).sum:Nat)),(23,.s .fm p.Aa),(24,.i p.Aa.length),(25,.i m)],⟨1,[(0,.var p.view)]⟩))
   (M.W Ay) ?_ ?_
  .intro m hm _;have hs1:=yq Fm.size p.Aa m hm;have hs2:=zc Fm.full (ZA hm);have hs3:=zl Fm.size p.Aa (m+1);have hc:=Mi _ p.Aa[m] (ZB _) dY;refine M.w1 @hc ?_;refine⟨rfl,trivial,?_⟩;simp only[hs1];exact(M.W Ay (hf:=(by(repeat'(first|exact trivial|refine And.intro ?_ ?_|refine⟨_,U,_,U,?_⟩|exact Ai.refl _|exact Ai.of_eq fD));done)))
  .intro _;simp only[ZF];refine M.w0 ?_;refine M.rt p.args.length
    (fun m=>([(1,.ptr 0 0),(3,.i (1+(p.terms.map Tm.size).sum+(p.Aa.map Fm.size).sum+((p.args.take m).map Pf.size).sum:Nat)),(35,.s .pf p.args),(36,.i p.args.length),(37,.i m)],⟨1,[(0,.var p.view)]⟩))
    (M.W Ay) ?_ ?_
   .intro m hm _;have hs1:=yq Pf.size p.args m hm;have hs2:=zc Pf.full (ZA hm);have hs3:=zl Pf.size p.args (m+1);have hc:=ih p.args[m] dY dY;refine M.w1 @hc ?_;refine⟨rfl,trivial,?_⟩;simp only[hs1];exact(M.W Ay (hf:=(by(repeat'(first|exact trivial|refine And.intro ?_ ?_|refine⟨_,U,_,U,?_⟩|exact Ai.refl _|exact Ai.of_eq fD));done)))
   .intro _;simp only[ZF];refine M.w0 ?_;rw[hse]
    rfl
theorem Zya:∀(n:Nat) (p:Pf),p.full<=n->n<549755813888->PC E 160 [.agg p.view] (.bool p.small):=by
 intro n;induction n with
 |zero=>intro p h;have:=p.Ac;omega
 |succ n ih=>
 intro p hsz hn;have hsz':=p.Af;have hse:=p.Cl;have hlen:=zd Pf.full Pf.Ac p.args;have hlen1:=zd Fm.full Fm.Ac p.Aa;have hlen2:=zd Tm.full Tm.Ac p.terms;refine M.F Tryz.func160 ?_;refine M.w0 ?_;refine M.rp p.terms.length (fun m=>∀j (hj:j<p.terms.length),j<m->decide (p.terms[j].size<=4096)=true)
  (fun m=>([(1,.ptr 0 0),(10,.s .tm p.terms),(11,.i p.terms.length),(12,.i m)],⟨1,[(0,.var p.view)]⟩))
  (fun j hj h=>dY) (M.W Ay) ?_ ?_
 .intro m hm hP;have hs2:=zc Tm.full (ZA hm);have hc:=yu _ p.terms[m] (ZB _) dY;have hle:=p.terms[m].Ah;(repeat' first|refine M.w1 @hc ?_|refine M.cs ?_ ?_<;>intro h|fail)
  .have e:p.small=false:=by
    rw[hse,wb (fun t:Tm=>decide (t.size<=4096)) hm g8];rfl
   rw[e];rfl
  .exact ⟨rfl,ya (p:=fun t:Tm=>decide (t.size<=4096)=true) hm hP g8,(M.W Ay)⟩
 .intro hP;have a1:=un (fun t:Tm=>decide (t.size<=4096)) p.terms fun j hj=>hP j hj hj;rw[a1,aH] at hse;refine M.w0 ?_;refine M.rp p.Aa.length (fun m=>∀j (hj:j<p.Aa.length),j<m->decide (p.Aa[j].size<=4096)=true)
   (fun m=>([(1,.ptr 0 0),(21,.s .fm p.Aa),(22,.i p.Aa.length),(23,.i m)],⟨1,[(0,.var p.view)]⟩))
   (fun j hj h=>dY) (M.W Ay) ?_ ?_
  .intro m hm hP;have hs2:=zc Fm.full (ZA hm);have hc:=Mi _ p.Aa[m] (ZB _) dY;have hle:=p.Aa[m].Ah;(repeat' first|refine M.w1 @hc ?_|refine M.cs ?_ ?_<;>intro h|fail)
   .have e:p.small=false:=by
     rw[hse,wb (fun t:Fm=>decide (t.size<=4096)) hm g8];rfl
    rw[e];rfl
   .exact ⟨rfl,ya (p:=fun t:Fm=>decide (t.size<=4096)=true) hm hP g8,(M.W Ay)⟩
  .intro hP;have a1:=un (fun t:Fm=>decide (t.size<=4096)) p.Aa fun j hj=>hP j hj hj;rw[a1,aH] at hse;refine M.w0 ?_;refine M.rp p.args.length (fun m=>∀j (hj:j<p.args.length),j<m->p.args[j].small=true)
    (fun m=>([(1,.ptr 0 0),(32,.s .pf p.args),(33,.i p.args.length),(34,.i m)],⟨1,[(0,.var p.view)]⟩))
    (fun j hj h=>dY) (M.W Ay) ?_ ?_
   .intro m hm hP;have hs2:=zc Pf.full (ZA hm);have hc:=ih p.args[m] dY dY;cases hb:p.args[m].small with
    |false=>
     rw[hb] at hc;have e:p.small=false:=by rw[hse,wb Pf.small hm hb]
     rw[e];refine M.w1 @hc ?_
     rfl
    |true=>
     rw[hb] at hc;refine M.w1 @hc ?_;exact⟨rfl,ya (p:=fun t:Pf=>t.small=true) hm hP hb,(M.W Ay)⟩
   .intro hP;have e:p.small=true:=by rw[hse];exact un Pf.small p.args fun j hj=>hP j hj hj
    rw[e];refine M.w0 ?_
    rfl
theorem Sl(p:Pf)(hp:p.full<549755813888):PC E 97 [.agg p.view] (.bool (p.small&&decide (p.size<=16384))):=by
 have h1:=Zya _ p (ZB _) hp;have h2:=NW _ p (ZB _) hp;have h3:=p.Ah;cases hs:p.small with
 |false=>
  rw[hs] at h1;refine M.F Tryz.func97 ?_;refine M.w1 @h1 ?_
  rfl
 |true=>
  rw[hs] at h1;have e:decide (((p.size:Nat):Int)<=16384)=decide (p.size<=16384):=by rw[decide_eq_decide];omega
  refine M.F Tryz.func97 ?_;refine M.w2 @h1 @h2 ?_;simp[zh,V.wk,V.An,za,e]
theorem Ybr(k:Int):PC E 155 [.i k] (.AM [.agg ((BZ k).getD SA).view,.bool (BZ k).isSome]):=by
 by_cases hk:1<=k/\k<=20
 .have:k=1\/k=2\/k=3\/k=4\/k=5\/k=6\/k=7\/k=8\/k=9\/k=10\/k=11\/k=12\/k=13\/k=14\/k=15\/k=16\/k=17\/k=18\/k=19\/k=20:=dY
  rcases this with rfl|rfl|rfl|rfl|rfl|rfl|rfl|rfl|rfl|rfl|rfl|rfl|rfl|rfl|rfl|rfl|rfl|rfl|rfl|rfl;all_goals(refine M.F Tryz.func155 ?_)
  all_goals(refine M.v0 ?_)
  all_goals rfl
 .have e:BZ k=none:=by
   unfold BZ
   repeat rw[if_neg dY]
  rw[e];have b:∀j:Int,1<=j->j<=20->¬(k==j)=true:=fun j h1 h2 h=>eU
  have b1:=b 1 dY dY;have b2:=b 2 dY dY;have b3:=b 3 dY dY;have b4:=b 4 dY dY;have b5:=b 5 dY dY;have b6:=b 6 dY dY;have b7:=b 7 dY dY;have b8:=b 8 dY dY;have b9:=b 9 dY dY;have b10:=b 10 dY dY;have b11:=b 11 dY dY;have b12:=b 12 dY dY;have b13:=b 13 dY dY;have b14:=b 14 dY dY;have b15:=b 15 dY dY;have b16:=b 16 dY dY;have b17:=b 17 dY dY;have b18:=b 18 dY dY;have b19:=b 19 dY dY;have b20:=b 20 dY dY;refine M.F Tryz.func155 ?_;(repeat' first|refine M.v0 ?_|refine M.cs ?_ ?_<;>intro h|fail);all_goals first
   |contradiction
   |rfl
theorem Zw7:∀(n:Nat) (p:Pf),p.full<=n->n<549755813888->PC E 96 [.agg p.view] (.bool p.shape):=by
 intro n;induction n with
 |zero=>intro p h;have:=p.Ac;omega
 |succ n ih=>
 intro p hsz hn;have hsz':=p.Af;have hse:=p.Ak;have hlen:=zd Pf.full Pf.Ac p.args;have hlen1:=zd Fm.full Fm.Ac p.Aa;have hlen2:=zd Tm.full Tm.Ac p.terms;have h1:=Ybr p.kind;cases hnd:BZ p.kind with
 |none=>
  have e:p.shape=false:=by rw[hse];simp[Pf.head,hnd]
  rw[hnd] at h1;rw[e];refine M.F Tryz.func96 ?_;refine M.w1 @h1 ?_
  rfl
 |some nd=>
 rw[hnd] at h1;simp only[aQ,an] at h1;have h3:=Rg p.ty;have h4:=L9 p.ty dY;have hok:=Te p.ty;refine M.F Tryz.func96 ?_;(repeat' first|refine M.w3 @h1 @h3 @h4 ?_|refine M.gs ?_ ?_<;>intro h|refine M.cs ?_ ?_<;>intro h|fail);all_goals first
  |(have hd:p.head=false:=by(simp only[Pf.head,hnd];simp_all;done)
    have:p.shape=false:=by rw[hse,hd];rfl
    simp[this,zh,za,V.wk,V.An];done)
  |(have hd:p.head=false:=by(simp only[Pf.head,hnd];simp_all;omega)
    have:p.shape=false:=by rw[hse,hd];rfl
    simp[this,zh,za,V.wk,V.An];done)
  |(have hd:p.head=true:=by(simp only[Pf.head,hnd];simp_all;try omega)
    rw[hd,aH] at hse;refine M.rp p.terms.length (fun m=>∀j (hj:j<p.terms.length),j<m->p.terms[j].shape=true)
     (fun m=>([(1,.ptr 0 0),(78,.s .tm p.terms),(79,.i p.terms.length),(80,.i m)],⟨2,[(0,.var p.view),(1,.var nd.view)]⟩))
     (fun j hj h=>dY) (M.W AQ) ?_ ?_
    .intro m hm hP;have hs2:=zc Tm.full (ZA hm);have hc:=Ub _ p.terms[m] (ZB _) dY;cases hb:p.terms[m].shape with
     |false=>
      rw[hb] at hc;have e:p.shape=false:=by rw[hse,wb Tm.shape hm hb];rfl
      rw[e];refine M.w1 @hc ?_
      rfl
     |true=>
      rw[hb] at hc;refine M.w1 @hc ?_;exact⟨rfl,ya (p:=fun t:Tm=>t.shape=true) hm hP hb,(M.W AQ)⟩
    .intro hP;have a1:=un Tm.shape p.terms fun j hj=>hP j hj hj;rw[a1,aH] at hse;refine M.w0 ?_;refine M.rp p.Aa.length (fun m=>∀j (hj:j<p.Aa.length),j<m->p.Aa[j].shape=true)
      (fun m=>([(1,.ptr 0 0),(89,.s .fm p.Aa),(90,.i p.Aa.length),(91,.i m)],⟨2,[(0,.var p.view),(1,.var nd.view)]⟩))
      (fun j hj h=>dY) (M.W AQ) ?_ ?_
     .intro m hm hP;have hs2:=zc Fm.full (ZA hm);have hc:=Vi _ p.Aa[m] (ZB _) dY;cases hb:p.Aa[m].shape with
      |false=>
       rw[hb] at hc;have e:p.shape=false:=by rw[hse,wb Fm.shape hm hb];rfl
       rw[e];refine M.w1 @hc ?_
       rfl
      |true=>
       rw[hb] at hc;refine M.w1 @hc ?_;exact⟨rfl,ya (p:=fun t:Fm=>t.shape=true) hm hP hb,(M.W AQ)⟩
     .intro hP;have a1:=un Fm.shape p.Aa fun j hj=>hP j hj hj;rw[a1,aH] at hse;refine M.w0 ?_;refine M.rp p.args.length (fun m=>∀j (hj:j<p.args.length),j<m->p.args[j].shape=true)
       (fun m=>([(1,.ptr 0 0),(100,.s .pf p.args),(101,.i p.args.length),(102,.i m)],⟨2,[(0,.var p.view),(1,.var nd.view)]⟩))
       (fun j hj h=>dY) (M.W AQ) ?_ ?_
      .intro m hm hP;have hs2:=zc Pf.full (ZA hm);have hc:=ih p.args[m] dY dY;cases hb:p.args[m].shape with
       |false=>
        rw[hb] at hc;have e:p.shape=false:=by rw[hse,wb Pf.shape hm hb]
        rw[e];refine M.w1 @hc ?_
        rfl
       |true=>
        rw[hb] at hc;refine M.w1 @hc ?_;exact⟨rfl,ya (p:=fun t:Pf=>t.shape=true) hm hP hb,(M.W AQ)⟩
      .intro hP;have e:p.shape=true:=by rw[hse];exact un Pf.shape p.args fun j hj=>hP j hj hj
       rw[e];refine M.w0 ?_
       rfl)
theorem we(p:Pf)(hp:p.full<549755813888):PC E 24 [.agg p.view] (.i p.err):=by
 have h1:=Zw7 _ p (ZB _) hp;have h2:=Sl p hp;cases hs:p.shape with
 |false=>
  have e:p.err=2:=by simp[Pf.err,hs]
  rw[hs] at h1;rw[e];refine M.F Tryz.func24 ?_;refine M.w1 @h1 ?_
  rfl
 |true=>
  rw[hs] at h1;cases hf:p.small&&decide (p.size<=16384) with
  |false=>
   have e:p.err=4:=by
    simp only[Pf.err,hs];rw[if_neg dZ,if_pos];cases hm:p.small with
    |false=>exact .inl rfl
    |true=>rw[hm] at hf;simp at hf;exact .inr hf
   rw[hf] at h2;rw[e];refine M.F Tryz.func24 ?_;refine M.w2 @h1 @h2 ?_
   rfl
  |true=>
   have e:p.err=0:=by simp at hf;exact(Pf.Ad p).2 ⟨hs,hf.1,hf.2⟩
   rw[hf] at h2;rw[e];refine M.F Tryz.func24 ?_;refine M.w2 @h1 @h2 ?_
   rfl
theorem Yk(f g:Fm)(hf:f.full<274877906944)(hg:g.full<274877906944):PC E 231 [.agg f.view,.agg g.view] (.i (P9 f g)):=by
 have h1:=LX f dY;have h2:=LX g dY;unfold P9;by_cases ef:f.err=0;case neg=>
  rw[if_pos ef];refine M.F Tryz.func231 ?_;(repeat' first|refine M.w1 @h1 ?_|refine M.cs ?_ ?_<;>intro h|fail);all_goals first
   |rfl
   |(exfalso;simp at h;exact ef h)
 rw[ef] at h1;rw[if_neg (by simp[ef])];by_cases eg:g.err=0;case neg=>
  rw[if_pos eg];refine M.F Tryz.func231 ?_;(repeat' first|refine M.w2 @h1 @h2 ?_|refine M.cs ?_ ?_<;>intro h|fail);all_goals first
   |rfl
   |(exfalso;simp at h;exact eg h)
 rw[eg] at h2;rw[if_neg (by simp[eg])];have h3:=Zvu _ f g (ZB _) hf hg ((Fm.Ad f).1 ef).1 ((Fm.Ad g).1 eg).1;refine M.F Tryz.func231 ?_;refine M.w3 @h1 @h2 @h3 ?_
 rfl
theorem Ya7(a b:Tm):PC E 241 [.agg (Bv a b).view] (.bool false):=by
 unfold Bv;refine M.F Tryz.func241 ?_;refine M.v0 ?_
 rfl
abbrev Pr:List V:=[.i 0,.i 0,.slice .nil (.t .ty []),.slice .nil (.t .tm []),.slice .nil (.t .fm [])]
theorem QT(xs:List Tm)(x:Tm):(xs.flatMap Tm.view++x.view).all V.FC=true:=by rw[Z6,ZC];exact⟨vi .tm xs,yk .tm x⟩
structure BI (c:EC) where
 n:Nat
 d:Dk
 F:c.sem->c.sem
 s:c.sem
 o:Option (Nat×Nat×List V×Ys)
def BI.ok{c:EC}(K:RK c)(W:(c.sem->c.sem)×c.sem×Dk)(y:Ys)(rc:List V)(r0:c.sem)(i:BI c):Prop:=
 K.walk i.n i.d i.F i.s=W/\i.d.ok/\K.sz i.s<=i.n/\K.sz i.s<=K.sz r0/\
  (match i.o with
  |none=>i.s=r0/\i.F=fun x=>x
  |some q=>JG K y rc i.F q.1 q.2.1 i.s q.2.2.1 q.2.2.2)
def BI.x(o:Option (Nat×Nat×List V×Ys))(r:V):V:=match o with|none=>r|some q=> .rp q.1 q.2.1
theorem YM.sl{s:Prop}{c:EC}{n:Nat}{cells:List Yn}{sv:Value}{y:Ys}(h:YM s (.row c n cells) (.raw sv) y):∃ad cap,sv= .slice ad n cap:=by
 cases h with
 |nil=>exact⟨none,0,rfl⟩
 |row _ _ _ b room cap cs2 ys hroom hcap hn0 hl h5=>exact⟨_,cap,rfl⟩
theorem RK.EZ{c:EC}(K:RK c){n:Nat}{d:Dk}{F:c.sem->c.sem}{s:c.sem}(h:(K.args s).length=0):K.walk n d F s=(F,s,d):=by
 cases n with
 |zero=>rfl
 |succ n=>simp only[RK.walk];rw[if_pos h]
theorem RK.E0{c:EC}(K:RK c){n:Nat}{d:Dk}{F:c.sem->c.sem}{s:c.sem}(h:¬(K.args s).length=0)(h2:¬0<(d.next 3).1):K.walk (n+1) d F s=(F,s,(d.next 3).2):=by
 simp only[RK.walk];rw[if_neg h,if_neg h2]
theorem RK.GW{c:EC}(K:RK c){n:Nat}{d:Dk}{F:c.sem->c.sem}{s:c.sem}(h:¬(K.args s).length=0)(h2:0<(d.next 3).1){k:Nat}(hk:k<(K.args s).length)(e:((d.next 3).2.next ((K.args s).length:Int)).1=(k:Int)):
 K.walk (n+1) d F s=K.walk n ((d.next 3).2.next ((K.args s).length:Int)).2 (fun x=>F (K.at_ s k x)) ((K.args s)[k]):=by
 have e2:((d.next 3).2.next ((K.args s).length:Int)).1.toNat=k:=fH
 simp only[RK.walk];rw[if_neg h,if_pos h2,dif_pos (by rw[e2];exact hk)];simp only[e2]
theorem AC.y{E:Env}{f:FuncId}{args:List V}{σ σ':Aj}{r:V}(y:Ys)(h:AC E f args σ r σ'):AC (E.y y) f args σ r σ':=h
abbrev PT:List V:=[.i 0,.i 0,.i 0,.slice .nil (.t .ty []),.slice .nil (.t .tm [])]
theorem wi{y:Ys}{b room:Nat}{cs:List V}(h:(y.map Prod.fst).Nodup)(hb:∀p∈y,p.1≠b):(((b,room,cs)::y:Ys).map Prod.fst).Nodup:=by
 rw[ZJ,aR];refine⟨fun h=> ?_,h⟩;obtain⟨p,hp,e⟩:=ZQ.1 h;exact hb p hp e
theorem QU(at_:Int)(s:Tm)(hat:0<=at_/\at_<137438953472)(hs:s.shape=true)(hsf:s.full<137438953472)(hsi:∀p∈s.vars 0,0<=p.1/\p.1<274877906944):∀(n:Nat) (f:Fm) (dp:Int),f.full<=n->n<137438953472->0<=dp->dp+n<274877906944->f.shape=true->(∀p∈f.AZ 0,∀q∈p.1.vars 0,0<=q.1/\q.1<274877906944)->
 PC E 190 [.agg f.view,.i at_,.i dp,.agg s.view] (.agg (f.re (fun b t=>t.re (xt at_ s) b) dp).view):=by
 intro n;induction n with
 |zero=>intro f dp h;have:=f.Ac;omega
 |succ n ih=>
 intro f dp hsz hn h1 h2 hf hix;have hsz':=f.Af;have hlen:=zd Fm.full Fm.Ac f.args;have hlen2:=zd Tm.full Tm.Ac f.terms;have hup:=Mh f.kind dp;have hpl:=Oo f.kind dp;have hb:=Nz f;have he:=Fm.BJ (fun b t=>t.re (xt at_ s) b) dp f;have htm:=f.AY 0;refine M.F Tryz.func190 ?_;refine M.w0 ?_;refine M.rt f.terms.length (fun m=>([(1,.i at_),(2,.i dp),(4,.ptr 0 0),(7,.ptr 1 0),(8,.ptr 2 0),(9,.ptr 3 0),(20,.s .tm f.terms),(21,.i f.terms.length),(22,.i m)],⟨5,[(0,.var f.view),(1,.var s.view),(2,.var [.i 0,.i 0,.slice .nil (.t .ty []),.slice .nil (.t .tm []),.slice .nil (.t .fm [])]),(3,.var [.i f.kind,.i f.ty.kind,.s .ty f.ty.args,.slice (.own 4) (.t .tm ((f.terms.take m).map fun t=>t.re (xt at_ s) dp)),.slice .nil (.t .fm [])]),(4,.row)]⟩))
  (M.W HR) ?_ ?_
 .intro m hm _;have hs2:=zc Tm.full (ZA hm);have hc:=Sa at_ s hat hs hsf hsi _ f.terms[m] dp (ZB _) dY dY dY (yh hf (ZA hm)) (fun p hp=>hix (f.terms[m],0) gQ p hp);refine M.w1 @hc ?_;exact⟨rfl,trivial,(M.W [some 0,some 1,some 2,some 3,some 6] (he:=(by(repeat'(first|exact trivial|exact Or.inr ⟨_,U,rfl⟩|refine And.intro ?_ ?_|refine⟨_,U,_,U,_,U,?_⟩|exact Ai.refl _|exact Ai.of_eq eL));done)))⟩
 .intro _;simp only[ZF];refine M.w0 ?_;refine M.rt f.args.length (fun m=>([(1,.i at_),(2,.i dp),(4,.ptr 0 0),(7,.ptr 1 0),(8,.ptr 2 0),(9,.ptr 3 0),(38,.s .fm f.args),(39,.i f.args.length),(40,.i m)],⟨6,[(0,.var f.view),(1,.var s.view),(2,.var [.i 0,.i 0,.slice .nil (.t .ty []),.slice .nil (.t .tm []),.slice .nil (.t .fm [])]),(3,.var [.i f.kind,.i f.ty.kind,.s .ty f.ty.args,.slice (.own 4) (.t .tm (f.terms.map fun t=>t.re (xt at_ s) dp)),.slice (.own 5) (.t .fm ((f.args.take m).map fun x=>x.re (fun b t=>t.re (xt at_ s) b) (AR f.kind dp)))]),(4,.row),(5,.row)]⟩))
   (M.W Mf) ?_ ?_
  .intro m hm _;have hs2:=zc Fm.full (ZA hm);have hc:=ih f.args[m] (AR f.kind dp) dY dY dY dY (zv hf (ZA hm)) (fun p hp q hq=>by
    obtain⟨p',hp',hpe⟩:=O7 (b':=AR f.kind 0) p hp;rw[<-hpe] at hq;exact hix p' jG q hq)
   rw[<-hpl] at hc;simp only[<-hpl];refine M.w2 @hb @hc ?_;exact⟨rfl,trivial,(M.W [some 0,some 1,some 2,some 3,some 4,some 7] (he:=(by(repeat'(first|exact trivial|exact Or.inr ⟨_,U,rfl⟩|refine And.intro ?_ ?_|refine⟨_,U,_,U,_,U,?_⟩|exact Ai.refl _|exact Ai.of_eq eL));done)))⟩
  .exact mK
theorem Yfw(f:Fm)(at_:Int)(s:Tm)(hf:f.full<549755813888)(hs:s.full<549755813888):PC E 266 [.agg f.view,.i at_,.agg s.view] (.AM [.agg (if xi f at_ s=0 then f.put at_ s else Bf).view,.i (xi f at_ s)]):=by
 have h1:=LX f hf;have h2:=ua s dY;by_cases he:f.err=0;case neg=>
  have e:xi f at_ s=f.err:=by simp only[xi];rw[if_pos he]
  rw[e,if_neg he];refine M.F Tryz.func266 ?_;(repeat' first|refine M.o1 @h1 ?_|refine M.z1 4 ?_|refine M.cs ?_ ?_<;>intro h|refine M.gk ?_|fail);all_goals first
   |rfl
   |(exfalso;simp at h;exact he h)
 rw[he] at h1;by_cases ha:0<=at_/\at_<=4096;case neg=>
  have e:xi f at_ s=1:=by simp only[xi];rw[if_neg fY,if_pos ha]
  rw[e,if_neg ej];refine M.F Tryz.func266 ?_;(repeat' first|refine M.o1 @h1 ?_|refine M.gs ?_ ?_<;>intro h|refine M.z1 6 ?_|refine M.cs ?_ ?_<;>intro h|refine M.gk ?_|fail);all_goals first
   |rfl
   |(exfalso;simp at h;omega)
   |(exfalso;simp at*;omega)
 by_cases hse:s.err=0;case neg=>
  have e:xi f at_ s=s.err:=by simp only[xi];rw[if_neg fY,if_neg eB,if_pos hse]
  rw[e,if_neg hse];refine M.F Tryz.func266 ?_;(repeat' first|refine M.o2 @h1 @h2 ?_|refine M.gs ?_ ?_<;>intro h|refine M.z2 5 9 ?_|refine M.cs ?_ ?_<;>intro h|refine M.gk ?_|fail);all_goals first
   |rfl
   |(exfalso;simp at h;omega)
   |(exfalso;simp at*;omega)
   |(exfalso;simp at h;exact hse h)
 rw[hse] at h2;obtain⟨hfs,hfz⟩:=(Fm.Ad f).1 he;obtain⟨hss,hsz⟩:=uc hse;have hff:=yw he;have hsf:=yd hse;have h3:=VI 536870912 dY _ f (ZB _) dY hfs;have h4:=Mu 536870912 dY _ s (ZB _) dY hss;rw[<-Xr] at h3;rw[<-PX] at h4;by_cases hn:f.near=true/\s.near=true;case neg=>
  have hn':f.near=false\/s.near=false:=by
   cases h5:f.near with
   |false=>exact .inl rfl
   |true=>cases h6:s.near with
    |false=>exact .inr rfl
    |true=>exact absurd ⟨h5,h6⟩ hn
  have e:xi f at_ s=1:=by simp only[xi];rw[if_neg fY,if_neg eB,if_neg (by simp[hse]),if_pos hn']
  rw[e,if_neg ej];cases h5:f.near with
  |false=>
   rw[h5] at h3;refine M.F Tryz.func266 ?_;(repeat' first|refine M.o3 @h1 @h2 @h3 ?_|refine M.gs ?_ ?_<;>intro h|refine M.z1 5 ?_|refine M.cs ?_ ?_<;>intro h|refine M.gk ?_|fail);all_goals first
    |rfl
    |(exfalso;simp at h;omega)
    |(exfalso;simp at*;omega)
  |true=>
   have h6:s.near=false:=hn'.resolve_left (by simp[h5]);rw[h5] at h3;rw[h6] at h4;refine M.F Tryz.func266 ?_;(repeat' first|refine M.o4 @h1 @h2 @h3 @h4 ?_|refine M.gs ?_ ?_<;>intro h|refine M.z1 5 ?_|refine M.cs ?_ ?_<;>intro h|refine M.gk ?_|fail);all_goals first
    |rfl
    |(exfalso;simp at h;omega)
    |(exfalso;simp at*;omega)
 obtain⟨hn1,hn2⟩:=hn;rw[hn1] at h3;rw[hn2] at h4;have h5:=Mi _ f (ZB _) dY;have h6:=Zwi _ f at_ (ZB _) dY dY dY hfs;have h7:=yu _ s (ZB _) dY;have htl:=Rw at_ f;have hsp:=s.size_pos;have hsl:=s.Ah;have hfl:=f.Ah;have hm:=V9 (xq at_ f) (s.size-1) dY dY;have hm': -9223372036854775808<=(xq at_ f:Int)*(s.size-1)/\(xq at_ f:Int)*(s.size-1)<=9223372036854775807:=dY
 have ee:xi f at_ s=if(f.size:Int)+xq at_ f*(s.size-1)>4096 then 4 else 0:=by
  simp only[xi,xq];rw[if_neg fY,if_neg eB,if_neg (by simp[hse]),if_neg (by simp[hn1,hn2])]
  rfl
 have hput:f.put at_ s=f.re (fun b t=>t.re (xt at_ s) b) 0:=Yf3 at_ s 0 f;have h8:=QU at_ s dY hss dY (fun p hp=>⟨s.AJ hss 0 p hp,by have:=RN hn2 p hp;omega⟩) _ f 0 (ZB _) dY dY dY hfs (fun p hp q hq=>by have:=UM he hn1 p hp q hq;have h9:=ZH.1 hn1 p hp;have:=RN h9 q hq;omega);rw[<-hput] at h8;by_cases hz:(f.size:Int)+xq at_ f*(s.size-1)>4096
 .rw[if_pos hz] at ee;rw[ee,if_neg ej];clear h8 hput;refine M.F Tryz.func266 ?_;(repeat' first|refine M.o6 @h1 @h2 @h3 @h4 @h5 @h6 ?_|refine M.c2 (h7) ?_|refine M.gs ?_ ?_<;>intro h|refine M.z2 5 13 ?_|refine M.cs ?_ ?_<;>intro h|refine M.gk ?_|fail);all_goals first
   |rfl
   |(exfalso;simp at h;omega)
   |(exfalso;simp at*;omega)
 .rw[if_neg hz] at ee;have h9:=vj _ (f.put at_ s) (ZB _) (by have:=Xe ee;omega);rw[ee,if_pos rfl];refine M.F Tryz.func266 ?_;(repeat' first|refine M.o6 @h1 @h2 @h3 @h4 @h5 @h6 ?_|refine M.c2 (h7) ?_|refine M.c2 (h8) ?_|refine M.c2 (h9) ?_|refine M.gs ?_ ?_<;>intro h|refine M.z2 5 12 ?_|refine M.cs ?_ ?_<;>intro h|refine M.gk ?_|fail);all_goals first
   |rfl
   |(exfalso;simp at h;omega)
   |(exfalso;simp at*;omega)
theorem Yv(a b:List Tm)(ha:(a.map Tm.full).sum<1099511627776):PC E 99 [.s .tm a,.s .tm b] (.bool (decide (a=b))):=by
 have hlen:=zd Tm.full Tm.Ac a;by_cases hl:a.length=b.length;case neg=>
  have e:¬a=b:=fun h=>hl (by rw[h]);rw[decide_eq_false e];refine M.F Tryz.func99 ?_;(repeat' first|refine M.o0 ?_|refine M.z1 3 ?_|refine M.cs ?_ ?_<;>intro h|refine M.gk ?_|fail);all_goals first
   |rfl
   |(exfalso;simp at h;omega)
 refine M.F Tryz.func99 ?_;(repeat' first|refine M.w0 ?_|refine M.cs ?_ ?_<;>intro h|fail)
 .exact kX
 refine M.rp a.length (fun m=>∀j (hj:j<a.length),j<m->a[j]=b[j]' dY) (fun m=>([(0,.s .tm a),(1,.s .tm b),(11,.s .tm a),(12,.i a.length),(13,.i m)],⟨0,[]⟩))
  (fun j hj h=>dY) (M.W []) ?_ ?_
 .intro m hm hP;have hm':m<b.length:=dY
  have hs2:=zc Tm.full (ZA hm);have hc:=OG _ a[m] b[m] (ZB _) dY;(repeat' first|refine M.w1 @hc ?_|refine M.cs ?_ ?_<;>intro h|fail)
  .exact mY
  .exact ⟨rfl,Hf hl hm hP ek,(M.W [])⟩
 .intro hP;rw[decide_eq_true (u5 hl hP)];refine M.w0 ?_
  rfl
theorem Zzz:∀(n:Nat) (x y:Fm),x.full<=n->n<1099511627776->PC E 165 [.agg x.view,.agg y.view] (.bool (decide (x=y))):=by
 intro n;induction n with
 |zero=>intro x y h;have:=x.Ac;omega
 |succ n ih=>
 intro x y hsz hb;have hsz':=x.Af;have hlen:=zd Fm.full Fm.Ac x.args;have heq:=Fm.eq_iff x y;have hty:=xp _ x.ty y.ty (ZB _) dY;have hts:=Yv x.terms y.terms dY;by_cases hall:x.kind=y.kind/\x.ty=y.ty/\x.terms=y.terms/\x.args.length=y.args.length;case neg=>
  have e:¬x=y:=fun h=>hall (by rw[h];exact⟨rfl,rfl,rfl,rfl⟩);rw[decide_eq_false e];clear ih heq e hsz';refine M.F Tryz.func165 ?_;(repeat' first|refine M.o2 @hty @hts ?_|refine M.gs ?_ ?_<;>intro h|refine M.z1 3 ?_|refine M.cs ?_ ?_<;>intro h|refine M.gk ?_|fail);all_goals first
   |rfl
   |(exfalso;simp at*;exact hall fA fA fA dY)
 obtain⟨h1,h2,h3,h4⟩:=hall;rw[decide_eq_true h2] at hty;rw[decide_eq_true h3] at hts;refine M.F Tryz.func165 ?_;(repeat' first|refine M.w2 @hty @hts ?_|refine M.gs ?_ ?_<;>intro h|refine M.cs ?_ ?_<;>intro h|fail);all_goals first
  |(exfalso;simp at h;omega)
  |(exfalso;simp at h;exact h h1)
  |skip
 refine M.rp x.args.length (fun m=>∀j (hj:j<x.args.length),j<m->x.args[j]=y.args[j]' dY) (fun m=>([(2,.ptr 0 0),(3,.ptr 1 0),(37,.s .fm x.args),(38,.i x.args.length),(39,.i m)],⟨2,[(0,.var x.view),(1,.var y.view)]⟩))
  (fun j hj h=>dY) (M.W AQ) ?_ ?_
 .intro m hm hP;have hm':m<y.args.length:=dY
  have hs2:=zc Fm.full (ZA hm);have hc:=ih x.args[m] y.args[m] dY dY;(repeat' first|refine M.w1 @hc ?_|refine M.cs ?_ ?_<;>intro h|fail)
  .have hx:¬x.args[m]=y.args[m]:=ek
   have e:¬x=y:=by rw[heq];exact fun hc=>uu hm hm' hx hc.2.2.2
   rw[decide_eq_false e];rfl
  .exact ⟨rfl,Hf h4 hm hP ek,(M.W AQ)⟩
 .intro hP;have e:x=y:=heq.2 ⟨h1,h2,h3,u5 h4 hP⟩;rw[decide_eq_true e];refine M.w0 ?_
  rfl
theorem Zow(l:List Fm)(h:(l.map Fm.full).sum<1099511627776):PC E 100 [.s .fm l,.s .fm l] (.bool true):=by
 have hlen:=zd Fm.full Fm.Ac l;refine M.F Tryz.func100 ?_;(repeat' first|refine M.w0 ?_|refine M.cs ?_ ?_<;>intro h|fail)
 .exfalso;simp at h
 refine M.rt l.length (fun m=>([(0,.s .fm l),(1,.s .fm l),(11,.s .fm l),(12,.i l.length),(13,.i m)],⟨0,[]⟩))
  (M.W []) ?_ ?_
 .intro m hm _;have hs2:=zc Fm.full (ZA hm);have hc:=Yaw _ l[m] (ZB _) dY;refine M.w1 @hc ?_;exact⟨rfl,trivial,(M.W [])⟩
 .exact kR
end Go.Ab
