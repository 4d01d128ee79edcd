/- A part of this seat's proofs. No conditions. -/
import Derived.Test.YtmhcohcihajegaaGreatDoorCS27
namespace Go.Ab
open Go Go.Proofs
set_option maxRecDepth 100000
set_option maxHeartbeats 4000000
set_option linter.all false
theorem Yrz{i i2:Int}{s s2:Ty}{h l:Tm}{ts ts2:List Tm}{fs:List Fm}{a b:Pf}{rest:List Pf}
 (hp:(vt (Pf.mk 17 i s (Tm.mk 8 i2 s2 (h::l::ts2)::ts) fs (a::b::rest)) l).full<100000000000) (hb:b.full<100000000000) (hh:h.full<100000000000) (hl:l.full<100000000000) (hl1:(EY l).full<100000000000)
 (hx:(De b 0 (EY l)).full<100000000000) (hy:(De (De b 0 (EY l)) 0 h).full<100000000000):
 PC E 167 [.agg (Pf.mk 17 i s (Tm.mk 8 i2 s2 (h::l::ts2)::ts) fs (a::b::rest)).view]
  (.AP [.agg (Ip (Pf.mk 17 i s (Tm.mk 8 i2 s2 (h::l::ts2)::ts) fs (a::b::rest)) h l).1.view,.i (Ip (Pf.mk 17 i s (Tm.mk 8 i2 s2 (h::l::ts2)::ts) fs (a::b::rest)) h l).2]):=by
 have hof:=Il (Pf.mk 17 i s (Tm.mk 8 i2 s2 (h::l::ts2)::ts) fs (a::b::rest)) (fun h=>ko);rw[show yl (Pf.mk 17 i s (Tm.mk 8 i2 s2 (h::l::ts2)::ts) fs (a::b::rest))=(17,8) from rfl] at hof;have c1:=Yls l kn;have c2:=Qp b (EY l) kn kn;have c3:=fk (Pf.mk 17 i s (Tm.mk 8 i2 s2 (h::l::ts2)::ts) fs (a::b::rest)) l;have c4:=Q1 (De b 0 (EY l)) h _ hx hh hp hy;unfold Ip;rw[show(Pf.mk 17 i s (Tm.mk 8 i2 s2 (h::l::ts2)::ts) fs (a::b::rest)).arg 1=b from rfl];generalize vt (Pf.mk 17 i s (Tm.mk 8 i2 s2 (h::l::ts2)::ts) fs (a::b::rest)) l=A at*;by_cases e1:wm l 0 1=0;case neg=>
  rw[if_pos e1];refine M.F Tryz.func167 ?_;(repeat' first|refine M.w0 ?_|refine M.bp 3 ?_|refine M.c2 (hof) ?_|refine M.c2 (c1) ?_|refine M.bl ?_|refine M.cs ?_ ?_<;>intro h|fail);all_goals first
   |rfl
   |(exfalso;simp at h;exact e1 h)
   |(exfalso;rename_i hq;simp at hq;exact e1 hq)
   |trace_state
 rw[if_neg (by simp[e1])];rw[e1] at c1;generalize EY l=ll at*;by_cases e2:vh b 0 ll=0;case neg=>
  rw[if_pos e2];generalize De b 0 ll=X at*;refine M.F Tryz.func167 ?_;(repeat' first|refine M.w0 ?_|refine M.bp 3 ?_|refine M.c2 (hof) ?_|refine M.c2 (c1) ?_|refine M.c2 (c2) ?_|refine M.bl ?_|refine M.cs ?_ ?_<;>intro h|fail);all_goals first
   |rfl
   |(exfalso;simp at h;exact e2 h)
   |trace_state
 rw[if_neg (by simp[e2])];rw[e2] at c2;generalize De b 0 ll=X at*;generalize un X h A=Y at*;refine M.F Tryz.func167 ?_;(repeat' first|refine M.w0 ?_|refine M.bp 3 ?_|refine M.c2 (hof) ?_|refine M.c2 (c1) ?_|refine M.c2 (c2) ?_|refine M.c2 (c3) ?_|refine M.c2 (c4) ?_|refine M.bl ?_|fail)
 rfl
theorem FF{α:Type}{l:List α}(h:l.length=1):∃a,l=[a]:=List.length_eq_one_iff.1 h
theorem JD{α:Type}{l:List α}(h:l.length=2):∃a b,l=[a,b]:=by
 match l,h with
 |[a,b],_=>exact⟨a,b,rfl⟩
theorem wg{p:Pf}{k:Int}{nd:Nd}(hs:p.shape=true)(hk:p.kind=k)(hn:B6 k=some nd):p.terms.length=nd.terms/\p.Ae.length=nd.Ae/\p.args.length=nd.args:=by
 obtain⟨hh,_⟩:=zh hs;obtain⟨nd',n1,n2,n3,n4,_⟩:=GF hh;rw[hk,hn] at n1;obtain rfl:=gV n1;exact⟨n2,n3,n4⟩
theorem Rr{t:Tm}{k:Int}{n:Nat}(hs:t.shape=true)(hk:t.kind=k)(hn:CV k=some n):t.args.length=n:=by
 rw[Tm.Ak,fD] at hs;have h:=hs.1;unfold Tm.head at h;rw[hk,hn] at h;simp only[fD,beq_iff_eq] at h;exact h.1.1.1
theorem ME{p:Pf}{k u:Int}(h:yl p=(k,u))(hk:¬(k=16\/k=17))(hu:u≠0):p.kind=k/\0<p.args.length/\(p.arg 0).kind=u:=by
 exact qw
theorem SN{p:Pf}{k u:Int}(h:yl p=(k,u))(hk:k=16\/k=17):p.kind=k/\p.Cb.kind=u:=by
 have h1:p.kind=k:=by rw[<-Ov,h]
 rw[Ux (by rw[h1];exact hk)] at h;exact⟨h1,(jj h).2⟩
theorem XC(p:Pf)(t:Tm):(vt p t).full<=p.full+t.full:=by
 rw[Pf.Ag,p.Ag];simp[vt];omega
theorem Zyg(t:Tm):(EY t).full<=t.full+10:=by
 unfold EY;split
 .exact gD (Tm.DU (fun i c=>pN) t 0) kn
 .have:AB.full<=10:=kq
  omega
theorem Ynq{p:Pf}(hs:p.shape=true)(hf:p.full<1000000000)(hc:yl p=(4,3)):PC E 167 [.agg p.view] (.AP [.agg (z7 p).1.view,.i (z7 p).2]):=by
 obtain⟨h1,h2,h3⟩:=ME hc kq kq;obtain⟨l1,_,l3⟩:=wg hs h1 (nd:=⟨0,0,1,false,false⟩) kz;obtain⟨_,_,_,s6⟩:=zh hs;obtain⟨k,i,s,ts,fs,zs⟩:=p;simp only[Pf.Ai,Pf.Am,Pf.Au,Pf.Af] at h1 h2 h3 l1 l3 s6;subst h1;obtain⟨z,rfl⟩:=FF l3;have hz:z.kind=3:=h3;have sz:=s6 z ko;obtain⟨m1,_,m3⟩:=wg sz hz (nd:=⟨0,0,2,false,false⟩) kz;obtain⟨k2,i2,s2,ts2,fs2,zs2⟩:=z;simp only[Pf.Ai,Pf.Am,Pf.Au,Pf.Af] at hz m1 m3;subst hz;obtain⟨a,a2,rfl⟩:=JD m3;rw[show z7 _=(a,0) by unfold z7;rw[hc];rfl];simp only[Pf.Ag,Pf.Am,Pf.Au,Pf.Af,fJ,fU,fT,gu] at hf;exact Yp3
theorem Ymo{p:Pf}(hs:p.shape=true)(hf:p.full<1000000000)(hc:yl p=(5,3)):PC E 167 [.agg p.view] (.AP [.agg (z7 p).1.view,.i (z7 p).2]):=by
 obtain⟨h1,h2,h3⟩:=ME hc kq kq;obtain⟨l1,_,l3⟩:=wg hs h1 (nd:=⟨0,0,1,false,false⟩) kz;obtain⟨_,_,_,s6⟩:=zh hs;obtain⟨k,i,s,ts,fs,zs⟩:=p;simp only[Pf.Ai,Pf.Am,Pf.Au,Pf.Af] at h1 h2 h3 l1 l3 s6;subst h1;obtain⟨z,rfl⟩:=FF l3;have hz:z.kind=3:=h3;have sz:=s6 z ko;obtain⟨m1,_,m3⟩:=wg sz hz (nd:=⟨0,0,2,false,false⟩) kz;obtain⟨k2,i2,s2,ts2,fs2,zs2⟩:=z;simp only[Pf.Ai,Pf.Am,Pf.Au,Pf.Af] at hz m1 m3;subst hz;obtain⟨a,a2,rfl⟩:=JD m3;rw[show z7 _=(a2,0) by unfold z7;rw[hc];rfl];simp only[Pf.Ag,Pf.Am,Pf.Au,Pf.Af,fJ,fU,fT,gu] at hf;exact Yr5
theorem Yqq{p:Pf}(hs:p.shape=true)(hf:p.full<1000000000)(hc:yl p=(7,6)):PC E 167 [.agg p.view] (.AP [.agg (z7 p).1.view,.i (z7 p).2]):=by
 obtain⟨h1,h2,h3⟩:=ME hc kq kq;obtain⟨l1,_,l3⟩:=wg hs h1 (nd:=⟨0,0,2,false,false⟩) kz;obtain⟨_,_,_,s6⟩:=zh hs;obtain⟨k,i,s,ts,fs,zs⟩:=p;simp only[Pf.Ai,Pf.Am,Pf.Au,Pf.Af] at h1 h2 h3 l1 l3 s6;subst h1;obtain⟨z,b,rfl⟩:=JD l3;have hz:z.kind=6:=h3;have sz:=s6 z ko;obtain⟨m1,_,m3⟩:=wg sz hz (nd:=⟨0,1,1,false,false⟩) kz;obtain⟨k2,i2,s2,ts2,fs2,zs2⟩:=z;simp only[Pf.Ai,Pf.Am,Pf.Au,Pf.Af] at hz m1 m3;subst hz;obtain⟨a,rfl⟩:=FF m3;rw[show z7 _=(Ff a 0 b,D8 a 0 b) by unfold z7;rw[hc];rfl];simp only[Pf.Ag,Pf.Am,Pf.Au,Pf.Af,fJ,fU,fT,gu] at hf;exact Ytd lz lz
theorem Yrj{p:Pf}(hs:p.shape=true)(hf:p.full<1000000000)(hc:yl p=(9,8)):PC E 167 [.agg p.view] (.AP [.agg (z7 p).1.view,.i (z7 p).2]):=by
 obtain⟨h1,h2,h3⟩:=ME hc kq kq;obtain⟨l1,_,l3⟩:=wg hs h1 (nd:=⟨1,0,1,false,false⟩) kz;obtain⟨_,_,_,s6⟩:=zh hs;obtain⟨k,i,s,ts,fs,zs⟩:=p;simp only[Pf.Ai,Pf.Am,Pf.Au,Pf.Af] at h1 h2 h3 l1 l3 s6;subst h1;obtain⟨z,rfl⟩:=FF l3;have hz:z.kind=8:=h3;have sz:=s6 z ko;obtain⟨t,rfl⟩:=FF l1;obtain⟨m1,_,m3⟩:=wg sz hz (nd:=⟨0,0,1,false,true⟩) kz;obtain⟨k2,i2,s2,ts2,fs2,zs2⟩:=z;simp only[Pf.Ai,Pf.Am,Pf.Au,Pf.Af] at hz m1 m3;subst hz;obtain⟨a,rfl⟩:=FF m3;rw[show z7 _=(De a 0 t,vh a 0 t) by unfold z7;rw[hc];rfl];simp only[Pf.Ag,Pf.Am,Pf.Au,Pf.Af,fJ,fU,fT,gu] at hf;exact Ytv lz kn
theorem Ync{p:Pf}(hs:p.shape=true)(hf:p.full<1000000000)(hc:yl p=(13,12)):PC E 167 [.agg p.view] (.AP [.agg (z7 p).1.view,.i (z7 p).2]):=by
 obtain⟨h1,h2,h3⟩:=ME hc kq kq;obtain⟨l1,_,l3⟩:=wg hs h1 (nd:=⟨1,0,1,false,false⟩) kz;obtain⟨_,_,_,s6⟩:=zh hs;obtain⟨k,i,s,ts,fs,zs⟩:=p;simp only[Pf.Ai,Pf.Am,Pf.Au,Pf.Af] at h1 h2 h3 l1 l3 s6;subst h1;obtain⟨z,rfl⟩:=FF l3;have hz:z.kind=12:=h3;have sz:=s6 z ko;obtain⟨t,rfl⟩:=FF l1;obtain⟨m1,_,m3⟩:=wg sz hz (nd:=⟨0,0,1,false,true⟩) kz;obtain⟨k2,i2,s2,ts2,fs2,zs2⟩:=z;simp only[Pf.Ai,Pf.Am,Pf.Au,Pf.Af] at hz m1 m3;subst hz;obtain⟨a,rfl⟩:=FF m3;rw[show z7 _=(De a 0 t,vh a 0 t) by unfold z7;rw[hc];rfl];simp only[Pf.Ag,Pf.Am,Pf.Au,Pf.Af,fJ,fU,fT,gu] at hf;exact Yqf lz kn
theorem Ys0{p:Pf}(hs:p.shape=true)(hf:p.full<1000000000)(hc:yl p=(11,10)):PC E 167 [.agg p.view] (.AP [.agg (z7 p).1.view,.i (z7 p).2]):=by
 obtain⟨h1,h2,h3⟩:=ME hc kq kq;obtain⟨l1,_,l3⟩:=wg hs h1 (nd:=⟨0,0,2,false,false⟩) kz;obtain⟨_,_,_,s6⟩:=zh hs;obtain⟨k,i,s,ts,fs,zs⟩:=p;simp only[Pf.Ai,Pf.Am,Pf.Au,Pf.Af] at h1 h2 h3 l1 l3 s6;subst h1;obtain⟨z,b,rfl⟩:=JD l3;have hz:z.kind=10:=h3;have sz:=s6 z ko;obtain⟨m1,_,m3⟩:=wg sz hz (nd:=⟨1,1,1,false,false⟩) kz;obtain⟨k2,i2,s2,ts2,fs2,zs2⟩:=z;simp only[Pf.Ai,Pf.Am,Pf.Au,Pf.Af] at hz m1 m3;subst hz;obtain⟨a,rfl⟩:=FF m3;obtain⟨t,rfl⟩:=FF m1;rw[show z7 _=un b t a by unfold z7;rw[hc];rfl];simp only[Pf.Ag,Pf.Am,Pf.Au,Pf.Af,fJ,fU,fT,gu] at hf;exact Vf lz lz kn oc
theorem Yoi{p:Pf}(hs:p.shape=true)(hf:p.full<1000000000)(hc:yl p=(15,14)):PC E 167 [.agg p.view] (.AP [.agg (z7 p).1.view,.i (z7 p).2]):=by
 obtain⟨h1,h2,h3⟩:=ME hc kq kq;obtain⟨l1,_,l3⟩:=wg hs h1 (nd:=⟨0,0,2,false,false⟩) kz;obtain⟨_,_,_,s6⟩:=zh hs;obtain⟨k,i,s,ts,fs,zs⟩:=p;simp only[Pf.Ai,Pf.Am,Pf.Au,Pf.Af] at h1 h2 h3 l1 l3 s6;subst h1;obtain⟨z,b,rfl⟩:=JD l3;have hz:z.kind=14:=h3;have sz:=s6 z ko;obtain⟨m1,_,m3⟩:=wg sz hz (nd:=⟨1,1,1,false,false⟩) kz;obtain⟨k2,i2,s2,ts2,fs2,zs2⟩:=z;simp only[Pf.Ai,Pf.Am,Pf.Au,Pf.Af] at hz m1 m3;subst hz;obtain⟨a,rfl⟩:=FF m3;obtain⟨t,rfl⟩:=FF m1;rw[show z7 _=un b t a by unfold z7;rw[hc];rfl];simp only[Pf.Ag,Pf.Am,Pf.Au,Pf.Af,fJ,fU,fT,gu] at hf;exact Ysw lz lz kn oc
theorem Ym6{p:Pf}(hs:p.shape=true)(hf:p.full<1000000000)(hc:yl p=(16,4)):PC E 167 [.agg p.view] (.AP [.agg (z7 p).1.view,.i (z7 p).2]):=by
 obtain⟨h1,h3⟩:=SN hc kq;obtain⟨l1,_,l3⟩:=wg hs h1 (nd:=⟨1,1,2,false,false⟩) kz;obtain⟨_,s4,_,s6⟩:=zh hs;obtain⟨k,i,s,ts,fs,zs⟩:=p;simp only[Pf.Ai,Pf.Am,Pf.Au,Pf.Af] at h1 h3 l1 l3 s4;subst h1;obtain⟨a,b,rfl⟩:=JD l3;obtain⟨x,rfl⟩:=FF l1;have hx:x.kind=4:=h3;have sx:=s4 x ko;have m3:=Rr sx hx (n:=0) kz;obtain⟨k2,i2,s2,ts2⟩:=x;simp only[Tm.Ai,Tm.Af] at hx m3;subst hx;rw[show z7 _=(a,0) by unfold z7;rw[hc];rfl];exact Yr1
theorem Ypu{p:Pf}(hs:p.shape=true)(hf:p.full<1000000000)(hc:yl p=(17,7)):PC E 167 [.agg p.view] (.AP [.agg (z7 p).1.view,.i (z7 p).2]):=by
 obtain⟨h1,h3⟩:=SN hc kq;obtain⟨l1,_,l3⟩:=wg hs h1 (nd:=⟨1,1,2,false,false⟩) kz;obtain⟨_,s4,_,s6⟩:=zh hs;obtain⟨k,i,s,ts,fs,zs⟩:=p;simp only[Pf.Ai,Pf.Am,Pf.Au,Pf.Af] at h1 h3 l1 l3 s4;subst h1;obtain⟨a,b,rfl⟩:=JD l3;obtain⟨x,rfl⟩:=FF l1;have hx:x.kind=7:=h3;have sx:=s4 x ko;have m3:=Rr sx hx (n:=0) kz;obtain⟨k2,i2,s2,ts2⟩:=x;simp only[Tm.Ai,Tm.Af] at hx m3;subst hx;rw[show z7 _=(a,0) by unfold z7;rw[hc];rfl];exact Ysn
theorem Ykq{p:Pf}(hs:p.shape=true)(hf:p.full<1000000000)(hc:yl p=(16,5)):PC E 167 [.agg p.view] (.AP [.agg (z7 p).1.view,.i (z7 p).2]):=by
 obtain⟨h1,h3⟩:=SN hc kq;obtain⟨l1,_,l3⟩:=wg hs h1 (nd:=⟨1,1,2,false,false⟩) kz;obtain⟨_,s4,_,s6⟩:=zh hs;obtain⟨k,i,s,ts,fs,zs⟩:=p;simp only[Pf.Ai,Pf.Am,Pf.Au,Pf.Af] at h1 h3 l1 l3 s4;subst h1;obtain⟨a,b,rfl⟩:=JD l3;obtain⟨x,rfl⟩:=FF l1;have hx:x.kind=5:=h3;have sx:=s4 x ko;have m3:=Rr sx hx (n:=1) kz;obtain⟨k2,i2,s2,ts2⟩:=x;simp only[Tm.Ai,Tm.Af] at hx m3;subst hx;obtain⟨t,rfl⟩:=FF m3;have ha:=XC (Pf.mk 16 i s [Tm.mk 5 i2 s2 [t]] fs [a,b]) t;rw[show z7 _=un b t (vt (Pf.mk 16 i s [Tm.mk 5 i2 s2 [t]] fs [a,b]) t) by unfold z7;rw[hc];rfl];have e1:=Pf.Ag (Pf.mk 16 i s [Tm.mk 5 i2 s2 [t]] fs [a,b]);have e2:=Tm.Ag (Tm.mk 5 i2 s2 [t]);simp only[Tm.Af,Pf.Am,Pf.Au,Pf.Af,fJ,fU,fT,gu] at e1 e2;exact Ypl kn kn kn oc
theorem Yk8{p:Pf}(hs:p.shape=true)(hf:p.full<1000000000)(hc:yl p=(17,8)):PC E 167 [.agg p.view] (.AP [.agg (z7 p).1.view,.i (z7 p).2]):=by
 obtain⟨h1,h3⟩:=SN hc kq;obtain⟨l1,_,l3⟩:=wg hs h1 (nd:=⟨1,1,2,false,false⟩) kz;obtain⟨_,s4,_,s6⟩:=zh hs;obtain⟨k,i,s,ts,fs,zs⟩:=p;simp only[Pf.Ai,Pf.Am,Pf.Au,Pf.Af] at h1 h3 l1 l3 s4;subst h1;obtain⟨a,b,rfl⟩:=JD l3;obtain⟨x,rfl⟩:=FF l1;have hx:x.kind=8:=h3;have sx:=s4 x ko;have m3:=Rr sx hx (n:=2) kz;obtain⟨k2,i2,s2,ts2⟩:=x;simp only[Tm.Ai,Tm.Af] at hx m3;subst hx;obtain⟨t,l,rfl⟩:=JD m3;have ha:=XC (Pf.mk 17 i s [Tm.mk 8 i2 s2 [t,l]] fs [a,b]) l;rw[show z7 _=Ip (Pf.mk 17 i s [Tm.mk 8 i2 s2 [t,l]] fs [a,b]) t l by unfold z7;rw[hc];rfl];have e1:=Pf.Ag (Pf.mk 17 i s [Tm.mk 8 i2 s2 [t,l]] fs [a,b]);have e2:=Tm.Ag (Tm.mk 8 i2 s2 [t,l]);simp only[Tm.Af,Pf.Am,Pf.Au,Pf.Af,fJ,fU,fT,gu] at e1 e2;exact Yrz kn kn kn kn (by have:=Zyg l;omega) (by have:=Ny b 0 (EY l);omega) (by have:=Ny (De b 0 (EY l)) 0 t;omega)
theorem Yhb(p:Pf)(hs:p.shape=true)(hf:p.full<1000000000)(hr:Gn p=true):PC E 167 [.agg p.view] (.AP [.agg (z7 p).1.view,.i (z7 p).2]):=by
 have h:=of_decide_eq_true hr;simp only[GR,fW,gm,or_false] at h;rcases h with h|h|h|h|h|h|h|h|h|h|h
 .exact Ynq hs hf h
 .exact Ymo hs hf h
 .exact Yqq hs hf h
 .exact Yrj hs hf h
 .exact Ync hs hf h
 .exact Ys0 hs hf h
 .exact Yoi hs hf h
 .exact Ym6 hs hf h
 .exact Ykq hs hf h
 .exact Ypu hs hf h
 .exact Yk8 hs hf h
theorem Yid:∀(n:Nat) (p:Pf),p.full<=n->n<1000000000->p.shape=true->PC E 107 [.agg p.view] (.AP [.agg p.nx.1.view,.bool p.nx.2.1,.i p.nx.2.2]):=by
 intro n;induction n with
 |zero=>intro p h;have:=p.Ad;omega
 |succ n ih=>
 intro p hsz hn hs;have hsz':=p.Ag;have hlen:=ze Pf.full Pf.Ad p.args;have h1:=Yic p (Zs6 hs);obtain⟨_,_,_,s6⟩:=zh hs;by_cases hr:Gn p=true
 .have h2:=Yhb p hs kn hr;rw[Pf.DC,if_pos hr];rw[hr] at h1;generalize z7 p=R at*;refine AC.mk Tryz.func107 rfl rfl rfl rfl rfl (fP rfl) ?_;repeat'(first|((with_reducible refine D.nil ?_);refine AX.Bh ?_)|((with_reducible refine D.load ?_);refine L.Ea U U U U U U ?_)|((with_reducible refine D.move ?_);refine L.mv U U U ?_)|((with_reducible refine D.assign ?_);refine L.DB U U U ?_)|((with_reducible refine D.call ?_);first|refine L.c2 (h1) U U U U ?_|refine L.c2 (h2) U U U U ?_)|((with_reducible refine D.extract ?_);refine L.ex U U U U ?_)|((with_reducible refine D.box ?_);refine L.bx U U U U ?_)|((with_reducible refine D.alloc ?_);refine L.al U U U ?_)|((with_reducible refine D.store ?_);refine L.st U U U U U U U U U ?_)|((with_reducible refine D.aw ?_);first|refine K.sq (AW.A5 ?_)|refine K.sq (K.sq ?_)|refine AW.A5 ?_|refine AW.Cn U ?_|refine AW.ret ?_)|with_reducible refine K.tN ?_|with_reducible refine K.tR ?_|with_reducible refine K.r1 kF kF ?_)
  rfl
 rw[jU] at hr;rw[Pf.DC,if_neg (by simp[hr])];rw[hr] at h1;refine AC.mk Tryz.func107 rfl rfl rfl rfl rfl (fP rfl) ?_;repeat'(first|((with_reducible refine D.nil ?_);refine AX.Bh ?_)|((with_reducible refine D.load ?_);refine L.Ea U U U U U U ?_)|((with_reducible refine D.move ?_);refine L.mv U U U ?_)|((with_reducible refine D.fieldAddr ?_);refine L.J2 U U U U U ?_)|((with_reducible refine D.assign ?_);refine L.DB U U U ?_)|((with_reducible refine D.call ?_);first|refine L.NW U U U U ?_|refine L.c2 (h1) U U U U ?_)|((with_reducible refine D.box ?_);refine L.bx U U U U ?_)|((with_reducible refine D.alloc ?_);refine L.al U U U ?_)|((with_reducible refine D.aw ?_);first|refine K.sq (AW.A5 ?_)|refine K.sq (K.sq ?_)|refine AW.A5 ?_|refine AW.Cp U ?_|refine AW.skip ?_)|with_reducible refine K.tN ?_)
 refine M.rp p.args.length (fun m=>∀i (hi:i<p.args.length),i<m->p.args[i].nx.2.1=false/\p.args[i].nx.2.2=0)
  (fun m=>([(1,.ptr 0 0),(2,.ptr 1 0),(23,.s .pf p.args),(24,.i p.args.length),(25,.i m)],⟨2,[(0,.var p.view),(1,.var [.i 0,.i 0,.i 0,.slice .nil (.t .ty []),.slice .nil (.t .tm []),.slice .nil (.t .fm []),.slice .nil (.t .pf [])])]⟩))
  (fun i _ h=>kn) (Bg.mk Bo _ _ _ U U U U (by(repeat'(first|exact trivial|refine And.intro ?_ ?_|refine⟨_,U,_,U,?_⟩|exact Ap.refl _));done) (by(repeat'(first|exact trivial|refine And.intro ?_ ?_|refine⟨_,U,_,U,_,U,?_⟩|exact Ap.refl _));done)) ?_ ?_
 .intro m hm hP;have hs2:=zc Pf.full (fA hm);have hc:=ih p.args[m] kn kn (s6 _ (fA hm));by_cases hd:p.args[m].nx.2.1=true\/p.args[m].nx.2.2≠0
  .rw[Xr p.args m hm hP hd];simp only;generalize p.args[m].nx=R at*;obtain⟨u,f,e⟩:=R;simp only at hc hd ⊢;cases f with
   |true=>
    repeat'(first|((with_reducible refine D.nil ?_);refine AX.Bh ?_)|((with_reducible refine D.load ?_);first|refine L.Ea U U U U U U ?_|refine L.L7 U U U U U ?_)|((with_reducible refine D.move ?_);first|refine L.mv U U U ?_|refine AX.sk U U ?_)|((with_reducible refine D.assign ?_);refine L.DB U U U ?_)|((with_reducible refine D.bin ?_);refine AX.sk U U ?_)|((with_reducible refine D.call ?_);refine L.c2 (hc) U U U U ?_)|((with_reducible refine D.extract ?_);refine L.ex U U U U ?_)|((with_reducible refine D.alloc ?_);refine L.al U U U ?_)|((with_reducible refine D.store ?_);refine L.st U U U U U U U U U ?_)|((with_reducible refine D.indexAddr ?_);refine L.Fc _ U U U U U U U mu ?_)|((with_reducible refine D.pick ?_);refine L.pk U U U U ?_)|((with_reducible refine D.aw ?_);(fail_if_success with_reducible refine D.F6 (id:=9) ?_);(fail_if_success with_reducible refine D.FR (id:=9) ?_);first|refine K.sq (AW.A5 ?_)|refine AW.Cn U ?_)|with_reducible refine K.tN ?_)
    refine K.sq (AW.A5 ?_);refine L.J2 rfl rfl rfl rfl rfl ?_;refine L.Ea rfl rfl rfl rfl rfl rfl ?_;refine L.RB (te:=38) rfl rfl rfl rfl kA rfl rfl rfl rfl kn kn ?_;repeat'(first|((with_reducible refine D.nil ?_);refine AX.Bh ?_)|((with_reducible refine D.load ?_);refine L.Ea U U U U U U ?_)|((with_reducible refine D.move ?_);refine L.mv U U U ?_)|((with_reducible refine D.assign ?_);refine L.DB U U U ?_)|((with_reducible refine D.aw ?_);refine K.sq (AW.A5 ?_))|with_reducible refine K.tN ?_)
    refine L.F4 m rfl rfl rfl rfl rfl hm rfl ?_;refine L.sta (c:= .pf) (l:=p.args) (u:=u) m rfl rfl rfl rfl rfl rfl rfl rfl hm rfl ?_;repeat'(first|((with_reducible refine D.nil ?_);refine AX.Bh ?_)|with_reducible refine K.tN ?_)
    refine AW.B8 (c:= .pf) 4 p.args.length (p.args.set m u) rfl ko (by(repeat'(first|exact trivial|exact fun _=>rfl|exact fun h=>absurd rfl h|exact fun h=>absurd h kq|refine And.intro ?_ ?_|intro _));done) (by(repeat'(first|exact trivial|exact fun _=>rfl|exact fun h=>absurd rfl h|exact fun h=>absurd h kq|refine And.intro ?_ ?_|intro _));done) ?_;repeat'(first|((with_reducible refine D.nil ?_);refine AX.Bh ?_)|((with_reducible refine D.load ?_);refine L.Ea U U U U U U ?_)|((with_reducible refine D.move ?_);refine L.mv U U U ?_)|((with_reducible refine D.fieldAddr ?_);refine L.J2 U U U U U ?_)|((with_reducible refine D.assign ?_);refine L.DB U U U ?_)|((with_reducible refine D.store ?_);refine L.st U U U U U U U U U ?_)|((with_reducible refine D.aw ?_);first|refine K.sq (AW.A5 ?_)|refine AW.ret ?_)|with_reducible refine K.tN ?_|with_reducible refine K.tR ?_|with_reducible refine K.bR ?_|with_reducible refine K.gR ?_|with_reducible refine K.r1 kF kF ?_)
    rfl
   |false=>
    have he:e≠0:=hd.resolve_left ko;repeat'(first|((with_reducible refine D.nil ?_);refine AX.Bh ?_)|((with_reducible refine D.load ?_);first|refine L.Ea U U U U U U ?_|refine L.L7 U U U U U ?_)|((with_reducible refine D.move ?_);refine L.mv U U U ?_)|((with_reducible refine D.assign ?_);refine L.DB U U U ?_)|((with_reducible refine D.bin ?_);refine L.bn U U U U U ?_)|((with_reducible refine D.call ?_);refine L.c2 (hc) U U U U ?_)|((with_reducible refine D.extract ?_);refine L.ex U U U U ?_)|((with_reducible refine D.alloc ?_);refine L.al U U U ?_)|((with_reducible refine D.store ?_);refine L.st U U U U U U U U U ?_)|((with_reducible refine D.indexAddr ?_);refine L.Fc _ U U U U U U U mu ?_)|((with_reducible refine D.pick ?_);refine L.pk U U U U ?_)|((with_reducible refine D.aw ?_);(fail_if_success with_reducible refine D.F6 (id:=9) ?_);(fail_if_success with_reducible refine D.FR (id:=9) ?_);first|refine K.sq (AW.A5 ?_)|refine AW.D6 U (fun h=> ?_) (fun h=> ?_)|refine AW.skip ?_)|with_reducible refine K.tN ?_|with_reducible refine K.bN ?_)
    all_goals first
     |(exfalso;simp at h;exact he h)
     |skip
    refine K.sq (AW.A5 ?_);refine L.J2 rfl rfl rfl rfl rfl ?_;refine L.Ea rfl rfl rfl rfl rfl rfl ?_;refine L.RB (te:=38) rfl rfl rfl rfl kA rfl rfl rfl rfl kn kn ?_;repeat'(first|((with_reducible refine D.nil ?_);refine AX.Bh ?_)|((with_reducible refine D.load ?_);refine L.Ea U U U U U U ?_)|((with_reducible refine D.move ?_);refine L.mv U U U ?_)|((with_reducible refine D.assign ?_);refine L.DB U U U ?_)|((with_reducible refine D.aw ?_);refine K.sq (AW.A5 ?_))|with_reducible refine K.tN ?_)
    refine L.F4 m rfl rfl rfl rfl rfl hm rfl ?_;refine L.sta (c:= .pf) (l:=p.args) (u:=u) m rfl rfl rfl rfl rfl rfl rfl rfl hm rfl ?_;repeat'(first|((with_reducible refine D.nil ?_);refine AX.Bh ?_)|with_reducible refine K.tN ?_)
    refine AW.B8 (c:= .pf) 4 p.args.length (p.args.set m u) rfl ko (by(repeat'(first|exact trivial|exact fun _=>rfl|exact fun h=>absurd rfl h|exact fun h=>absurd h kq|refine And.intro ?_ ?_|intro _));done) (by(repeat'(first|exact trivial|exact fun _=>rfl|exact fun h=>absurd rfl h|exact fun h=>absurd h kq|refine And.intro ?_ ?_|intro _));done) ?_;repeat'(first|((with_reducible refine D.nil ?_);refine AX.Bh ?_)|((with_reducible refine D.load ?_);refine L.Ea U U U U U U ?_)|((with_reducible refine D.move ?_);refine L.mv U U U ?_)|((with_reducible refine D.fieldAddr ?_);refine L.J2 U U U U U ?_)|((with_reducible refine D.assign ?_);refine L.DB U U U ?_)|((with_reducible refine D.store ?_);refine L.st U U U U U U U U U ?_)|((with_reducible refine D.aw ?_);first|refine K.sq (AW.A5 ?_)|refine AW.ret ?_)|with_reducible refine K.tN ?_|with_reducible refine K.tR ?_|with_reducible refine K.bR ?_|with_reducible refine K.gR ?_|with_reducible refine K.r1 kF kF ?_)
    rfl
  .have g1:p.args[m].nx.2.1=false:=by cases h:p.args[m].nx.2.1 with|false=>rfl|true=>exact absurd (.inl h) hd
   have g2:p.args[m].nx.2.2=0:=gG fun h=>hd (.inr h);rw[g1,g2] at hc;repeat'(first|((with_reducible refine D.nil ?_);refine AX.Bh ?_)|((with_reducible refine D.load ?_);first|refine L.Ea U U U U U U ?_|refine L.L7 U U U U U ?_)|((with_reducible refine D.move ?_);refine L.mv U U U ?_)|((with_reducible refine D.assign ?_);refine L.DB U U U ?_)|((with_reducible refine D.bin ?_);refine L.bn U U U U U ?_)|((with_reducible refine D.call ?_);refine L.c2 (hc) U U U U ?_)|((with_reducible refine D.extract ?_);refine L.ex U U U U ?_)|((with_reducible refine D.alloc ?_);refine L.al U U U ?_)|((with_reducible refine D.store ?_);refine L.st U U U U U U U U U ?_)|((with_reducible refine D.indexAddr ?_);refine L.Fc _ U U U U U U U mu ?_)|((with_reducible refine D.pick ?_);refine L.pk U U U U ?_)|((with_reducible refine D.aw ?_);first|refine K.sq (AW.A5 ?_)|refine AW.Cp U ?_|refine AW.skip ?_)|with_reducible refine K.tN ?_|with_reducible refine K.bN ?_)
   refine⟨rfl,fun i hi him=> ?_,(Bg.mk Bo _ _ _ U U U U (by(repeat'(first|exact trivial|refine And.intro ?_ ?_|refine⟨_,U,_,U,?_⟩|exact Ap.refl _));done) (by(repeat'(first|exact trivial|refine And.intro ?_ ?_|refine⟨_,U,_,U,_,U,?_⟩|exact Ap.refl _));done))⟩;by_cases e:i=m
   .subst e;exact⟨g1,g2⟩
   .exact hP i hi kn
 .intro hP;rw[WN p.args fun i hi=>hP i hi hi];simp only;repeat'(first|((with_reducible refine D.nil ?_);refine AX.Bh ?_)|((with_reducible refine D.load ?_);refine L.Ea U U U U U U ?_)|((with_reducible refine D.assign ?_);refine L.DB U U U ?_)|((with_reducible refine D.store ?_);refine L.st U U U U U U U U U ?_)|((with_reducible refine D.aw ?_);first|refine K.sq (AW.A5 ?_)|refine AW.ret ?_)|with_reducible refine K.tN ?_|with_reducible refine K.r1 kF kF ?_)
  rfl
theorem Yh6(p:Pf)(hp:p.full<900000000)(hs:p.shape=true):PC E 45 [.agg p.view] (.AP [.agg (xv p).1.view,.bool (xv p).2.1,.i (xv p).2.2]):=by
 have h1:=Yid _ p (fB _) kn hs;have hf:=Ymg p;have h2:=an p.nx.1 kn;unfold xv;generalize p.nx=R at*;obtain⟨u,f,e⟩:=R;simp only at h1 h2 ⊢;by_cases he:e=0
 .subst he;by_cases hu:u.err=0
  .rw[if_neg (by simp[hu])];rw[hu] at h2;refine M.F Tryz.func45 ?_;refine M.w2 @h1 @h2 ?_
   rfl
  .rw[if_pos (.inr hu)];refine M.F Tryz.func45 ?_;(repeat' first|refine M.w2 @h1 @h2 ?_|refine M.cs ?_ ?_<;>intro h|fail);all_goals first
    |rfl
    |(exfalso;simp at h;exact hu h)
    |trace_state
 .rw[if_pos (.inl he)];refine M.F Tryz.func45 ?_;(repeat' first|refine M.w2 @h1 @h2 ?_|refine M.gs ?_ ?_<;>intro h|refine M.cs ?_ ?_<;>intro h|fail);all_goals first
   |rfl
   |(exfalso;simp at h;exact he h)
   |(exfalso;simp_all;done)
   |trace_state
theorem V9(p:Pf)(hp:p.full<900000000):PC E 15 [.agg p.view] (.AP [.agg (JH p).1.view,.bool (JH p).2.1,.i (JH p).2.2]):=by
 have h1:=an p kn;unfold JH;by_cases he:p.err=0;case neg=>
  rw[if_pos he];refine M.F Tryz.func15 ?_;(repeat' first|refine M.w1 @h1 ?_|refine M.cs ?_ ?_<;>intro h|fail);all_goals first
   |rfl
   |(exfalso;simp at h;exact he h)
   |trace_state
 rw[if_neg lB];have hs:=((Pf.Aa p).1 he).1;have h2:=Yie p kn hs;have h3:=Yh6 p hp hs;have e3:= @Qz p;rw[he] at h1;by_cases hn:p.Da=false
 .rw[if_pos hn];rw[hn] at h2;refine M.F Tryz.func15 ?_;refine M.w2 @h1 @h2 ?_
  rfl
 rw[if_neg hn];rw[iS] at hn;rw[hn] at h2;by_cases hq:(xv p).2.2=0
 .rw[if_neg (by simp[hq])];obtain⟨_,e1,_,e2⟩:=e3 hq;rw[<-e1] at e2;have h4:=Ylo (xv p).1 (by have:=LH e2;omega) ((Pf.Aa _).1 e2).1;generalize xv p=R at*;obtain⟨u,f,e⟩:=R;simp only at h3 h4 hq ⊢;subst hq;refine M.F Tryz.func15 ?_;refine M.w4 @h1 @h2 @h3 @h4 ?_
  rfl
 .rw[if_pos hq];clear e3;generalize xv p=R at*;obtain⟨u,f,e⟩:=R;simp only at h3 hq ⊢;refine M.F Tryz.func15 ?_;(repeat' first|refine M.w3 @h1 @h2 @h3 ?_|refine M.cs ?_ ?_<;>intro h|fail);all_goals first
   |rfl
   |(exfalso;simp at h;exact hq h)
   |trace_state
def JF:Pf:= .mk 18 0 (.mk 0 []) [vu 0] [] []
def QB:Pf:= .mk 18 0 (.mk 0 []) [vu 1] [] []
def J1:Pf:= .mk 4 0 (.mk 0 []) [] [] [.mk 3 0 (.mk 0 []) [] [] [JF,QB]]
theorem Yhc:JH J1=(JF,true,0):=by
 have r:Gn J1=true:=kE
 have c:z7 J1=(JF,0):=by unfold z7;rw[show yl J1=(4,3) from rfl];rfl
 have n:J1.nx=(JF,true,0):=by rw[Pf.DC,if_pos r,c]
 have a:JF.err=0:=kE
 have d:J1.err=0:=kE
 have w:J1.Da=true:=kE
 have s:xv J1=(JF,true,0):=by unfold xv;rw[n,if_neg (by simp[a])]
 unfold JH;rw[if_neg (by simp[d]),if_neg (by simp[w]),s]
 rfl
theorem Yhu:PC E 6 [] (.bool true):=by
 have n0:=JR 0;have n1:=JR 1;have a0:=vj (vu 0) kq;have a1:=vj (vu 1) kq;have b1:=Fi 3 [JF,QB] ko (by intro x hx;simp only[fW,gm,or_false] at hx;rcases hx with rfl|rfl<;>decide);have b2:=Fi 4 [.mk 3 0 (.mk 0 []) [] [] [JF,QB]] ko (by intro x hx;simp only[fW,gm,or_false] at hx;subst hx;decide);have c1:=V9 J1 kq;rw[Yhc] at c1;have s1:=UL _ JF (fB _) kq;unfold J1 at c1;unfold JF QB at*;generalize vu 0=N0 at*;generalize vu 1=N1 at*;refine M.F Tryz.func6 ?_;(repeat' first|refine M.w6 @n0 @n1 @a0 @a1 @b1 @b2 ?_|refine M.c2 (c1) ?_|refine M.c2 (s1) ?_|fail)
 rfl
end Go.Ab
