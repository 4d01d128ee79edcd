/- A part of the proofs of this seat. No conditions. -/
import Derived.Test.YtjgokiomgcfclaaGreatDoorES2
namespace Go.Ab
open Go Go.Proofs
set_option maxRecDepth 100000
set_option linter.all false
theorem Zr0(t:Ty)(ht:t.size<1099511627776):PC E 229 [.agg t.view] (.i t.err):=by
 have h1:=NG t ht;refine M.F Tryz.func229 ?_;(repeat' first|refine M.gw ?_|refine M.c2 (h1) ?_|fail);simp[zk,V.wk,V.Ak,zd,Ty.view,Tm.view]
theorem NX(l:List Ty)(hl:(l.map Ty.size).sum<1099511627776):PC E 186 [.s .ty l] (.i (y1 l)):=by
 have hlen:=zh Ty.size Ty.size_pos l;refine M.F Tryz.func186 ?_;(repeat' first|refine M.gw ?_|refine M.cs ?_ ?_<;>intro h|fail)
 ·have h':l.length>16:=by simp at h;omega
  simp[zk,V.wk,V.Ak,zd,y1,h']
 have h':¬l.length>16:=by simp at h;omega
 refine AW.range l.length (fun m=>∀j (hj:j<l.length),j<m->l[j].err=0)
  (fun m=>([(9,.s .ty l),(10,.i l.length),(11,.i m)],⟨0,[]⟩))
  (by omega) (fun m=>rfl) (fun m=>rfl) rfl (by intro j hj h;omega) (M.W []) ?_ ?_
 ·intro m hm hP;have hs2:=ze Ty.size (List.getElem_mem hm);(repeat' first|refine M.gw ?_|refine M.c2 (Zr0 _ ?_) ?_|refine M.cs ?_ ?_<;>intro h|exact M.lt|fail)
  ·have h1:¬l[m].err=0:=by simpa using h
   simp[zk,V.wk,V.Ak,zd,y1,h',S8 l m hm hP h1]
  ·exact ⟨rfl,z4 (p:=fun t=>Ty.err t=0) hm hP (by simpa using h),(M.W [])⟩
 ·intro hP;(repeat' first|refine M.gw ?_|fail);simp[zk,V.wk,V.Ak,zd,y1,h',Qj l hP]
theorem GN(t:Ty)(ht:t.size<1099511627776):PC E 230 [.agg t.view] (.agg (AQ t).view):=by
 have h1:=NG t ht;refine M.F Tryz.func230 ?_;(repeat' first|refine M.gw ?_|refine M.c2 (h1) ?_|fail);simp[zk,V.wk,V.Ak,zd,Ty.view,Sz.view,AQ]
theorem Sh(l:List Ty)(hl:(l.map Ty.size).sum<1099511627776):PC E 187 [.s .ty l] (.s .sz (l.map AQ)):=by
 have hlen:=zh Ty.size Ty.size_pos l;refine M.F Tryz.func187 ?_;(repeat' first|refine M.gw ?_|fail);refine AW.range l.length (fun m=>True)
  (fun m=>([(3,.slice (.own 0) (.t .sz ((l.take m).map AQ))),(6,.s .ty l),(7,.i l.length),(8,.i m)],⟨1,[(0,.row)]⟩))
  (by omega) (fun m=>rfl) (fun m=>rfl) rfl trivial (M.W [none]) ?_ ?_
 ·intro m hm hP;have hs2:=ze Ty.size (List.getElem_mem hm);(repeat' first|refine M.gw ?_|refine M.c2 (GN _ ?_) ?_|exact M.lt|fail);exact⟨rfl,trivial,(M.W [some 2] (hf:=(by(repeat'(first|exact trivial|refine And.intro ?_ ?_|refine⟨_,U,_,U,?_⟩|exact An.refl _|exact An.of_eq (by simp[Al.Aw,yn _ _ _ hm])));done)))⟩
 ·intro _;(repeat' first|refine M.gw ?_|fail);simp[zk,V.wk,V.Ak]
theorem Hw(s:Sz)(k:Int):PC E 274 [.agg s.view,.i k] (.bool (s.ty.kind==k)):=by
 refine M.F Tryz.func274 ?_;(repeat' first|refine M.gw ?_|fail);simp[zk,V.wk,V.Ak]
theorem Mp(s:Sz)(i:Nat)(hi:i<s.ty.args.length)(hs:s.ty.size<1099511627776):PC E 284 [.agg s.view,.i i] (.agg (AQ s.ty.args[i]).view):=by
 have hs2:=ze Ty.size (List.getElem_mem hi);have hsz:=s.ty.size_eq;have h1:=GN s.ty.args[i] (by omega);refine M.F Tryz.func284 ?_;(repeat' first|refine M.gw ?_|refine M.c2 (h1) ?_|fail);simp[zk,V.wk,V.Ak,Sz.view,AQ]
theorem Zx8(s u:Sz)(hs:s.ty.size<1099511627776):PC E 285 [.agg s.view,.agg u.view] (.bool (s.nodes==u.nodes&&decide (s.ty=u.ty))):=by
 have h1:=I1 _ s.ty u.ty (Nat.le_refl _) hs;refine M.F Tryz.func285 ?_;(repeat' first|refine M.gw ?_|refine M.c2 (h1) ?_|refine M.gs ?_ ?_<;>intro h|fail);all_goals(simp at h;simp[zk,V.wk,V.Ak,h])
theorem TS(k:Int)(a b:Sz)(ha:0<=a.nodes/\a.nodes<1099511627776)(hb:0<=b.nodes/\b.nodes<1099511627776):PC E 280 [.i k,.agg a.view,.agg b.view] (.Ax [.agg (JK k a b).1.view,.i (JK k a b).2]):=by
 refine M.F Tryz.func280 ?_;(repeat' first|refine M.gw ?_|refine M.cs ?_ ?_<;>intro h|fail)
 ·have h':1+a.nodes+b.nodes>64:=by simpa using h
  have e:JK k a b=(GS,4):=if_pos h';simp[zk,V.wk,V.Ak,zd,Sz.view,GS,AY,e]
 ·have h':¬1+a.nodes+b.nodes>64:=by simpa using h
  have e:JK k a b=(⟨.mk k [a.ty,b.ty],1+a.nodes+b.nodes⟩,0):=if_neg h';simp[zk,V.wk,V.Ak,zd,Sz.view,e]
theorem JD(k:Int):PC E 283 [.i k] (.s .int (Ho k)):=by
 refine M.F Tryz.func283 ?_;(repeat' first|refine M.gw ?_|refine M.bl ?_|refine M.cs ?_ ?_<;>intro h|fail);all_goals
  simp only[beq_iff_eq,beq_eq_false_iff_ne,ne_eq] at*
  first|simp[zk,V.wk,V.Ak,zd,Ho, *];done|(simp[zk,V.wk,V.Ak,zd,Ho, *];rfl)
theorem Ygk:PC E 288 [] (.agg Aa.view):=by
 refine M.F Tryz.func288 ?_;(repeat' first|refine M.gw ?_|fail)
 rfl
theorem Yck:PC E 289 [] (.agg Ah.view):=by
 refine M.F Tryz.func289 ?_;(repeat' first|refine M.gw ?_|fail)
 rfl
theorem SU(r:Ty)(l:List Ty)(hl:l.length<1000000):PC E 287 [.agg r.view,.s .ty l] (.agg (HS r l).view):=by
 refine M.F Tryz.func287 ?_;(repeat' first|refine M.gw ?_|fail);refine AW.KA l.length (fun m=>True)
  (fun m=>([(1,.s .ty l),(2,.ptr 0 0),(4,.ptr 1 0),(5,.i ((m:Int)-1))],⟨2,[(0,.var (HS r (l.drop m)).view),(1,.var [.i 0,.slice .nil (.t .ty [])])]⟩))
  (by omega) (fun m=>rfl) rfl trivial ?_ ?_ ?_
 ·simp only[List.drop_length];exact(M.W [some 0,some 1])
 ·intro m hm _;have e:HS r (l.drop m)=yo l[m] (HS r (l.drop (m+1))):=by rw[List.drop_eq_getElem_cons hm];rfl
  (repeat' first|refine M.gw ?_|fail);refine L.B8 m rfl rfl rfl rfl (by omega) rfl rfl hm ?_;(repeat' first|refine M.gw ?_|fail);refine⟨rfl,trivial,?_⟩;simp only[e];exact(M.W [some 0,some 1])
 ·intro _;(repeat' first|refine M.gw ?_|fail);simp[zk,V.wk,V.Ak,Ty.view]
theorem RY(t:Tm):PC E 286 [.agg t.view] (.agg (LP t).view):=by
 have h1:=SU t.ty [Aa,Ah,t.ty] (by simp);have h2:=SU t.ty [Aa,t.ty] (by simp);refine M.F Tryz.func286 ?_;(repeat' first|refine M.gw ?_|refine M.c2 (Ygk) ?_|refine M.c2 (Yck) ?_|refine M.c2 (h1) ?_|refine M.c2 (h2) ?_|refine M.cs ?_ ?_<;>intro h|fail)
 ·have h':t.kind=9:=by simpa using h
  have e:LP t=HS t.ty [Aa,Ah,t.ty]:=if_pos h';simp[zk,V.wk,V.Ak,zd,Ty.view,e]
 ·have h':¬t.kind=9:=by simpa using h
  have e:LP t=HS t.ty [Aa,t.ty]:=if_neg h';simp[zk,V.wk,V.Ak,zd,Ty.view,e]
end Go.Ab
namespace Go.Ab
open Go Go.Proofs
set_option maxRecDepth 100000
set_option maxHeartbeats 2000000
set_option linter.all false
theorem Jv{x:Ty}(h:x.err=0)(hk:x.kind=1):x=Aa:=(Ty.eq_iff _ _).2 ⟨hk,Lh ((Ty.Ad x).1 h).1 (by omega)⟩
theorem Oe{x:Ty}(h:x.err=0)(hk:x.kind=2):x=Ah:=(Ty.eq_iff _ _).2 ⟨hk,Lh ((Ty.Ad x).1 h).1 (by omega)⟩
theorem Gr{x:Ty}(h:x.err=0):x.size<=64:=((Ty.Ad x).1 h).2
theorem Yc2(i:Int)(th:Ty)(ts:List Tm):PC E 281 [.agg (Tm.mk 4 i th ts).view,.agg (Cs [])] (.Ax [.agg (AQ (yk 4 th []).1).view,.i (yk 4 th []).2]):=by
 have hp:=JD 4;rw[show Ho 4=[1] from rfl] at hp;have ho:=GN (.mk 1 []) (by decide);refine M.F Tryz.func281 ?_;(repeat' first|refine M.gw ?_|refine M.c2 (hp) ?_|fail);refine AW.range 0 (fun m=>True)
  (fun m=>([(2,.ptr 0 0),(3,.ptr 1 0),(4,.ptr 2 0),(6,.s .int [1]),(18,.s .int []),(19,.i ((0:Nat):Int)),(20,.i m)],⟨3,[(0,.var (Tm.mk 4 i th ts).view),(1,.var (Cs [])),(2,.var [.i 0,.slice .nil (.t .ty []),.i 0])]⟩))
  (by omega) (fun m=>rfl) (fun m=>rfl) rfl trivial (M.W [some 0,some 1,some 2]) ?_ ?_
 ·intro m hm hP;omega
 ·intro hP;(repeat' first|refine M.gw ?_|refine M.c2 (ho) ?_|fail);have er:yk 4 th []=(Aa,0):=by simp[yk]
  rw[er]
  rfl
theorem Yed(i:Int)(th:Ty)(ts:List Tm):PC E 281 [.agg (Tm.mk 7 i th ts).view,.agg (Cs [])] (.Ax [.agg (AQ (yk 7 th []).1).view,.i (yk 7 th []).2]):=by
 have hp:=JD 7;rw[show Ho 7=[2] from rfl] at hp;have ho:=GN (.mk 2 []) (by decide);refine M.F Tryz.func281 ?_;(repeat' first|refine M.gw ?_|refine M.c2 (hp) ?_|fail);refine AW.range 0 (fun m=>True)
  (fun m=>([(2,.ptr 0 0),(3,.ptr 1 0),(4,.ptr 2 0),(6,.s .int [2]),(18,.s .int []),(19,.i ((0:Nat):Int)),(20,.i m)],⟨3,[(0,.var (Tm.mk 7 i th ts).view),(1,.var (Cs [])),(2,.var [.i 0,.slice .nil (.t .ty []),.i 0])]⟩))
  (by omega) (fun m=>rfl) (fun m=>rfl) rfl trivial (M.W [some 0,some 1,some 2]) ?_ ?_
 ·intro m hm hP;omega
 ·intro hP;(repeat' first|refine M.gw ?_|refine M.c2 (ho) ?_|fail);have er:yk 7 th []=(Ah,0):=by simp[yk]
  rw[er]
  rfl
theorem Zzp(i:Int)(th:Ty)(ts:List Tm):PC E 281 [.agg (Tm.mk 13 i th ts).view,.agg (Cs [])] (.Ax [.agg (AQ (yk 13 th []).1).view,.i (yk 13 th []).2]):=by
 have hp:=JD 13;rw[show Ho 13=[5] from rfl] at hp;have ho:=GN (.mk 5 []) (by decide);refine M.F Tryz.func281 ?_;(repeat' first|refine M.gw ?_|refine M.c2 (hp) ?_|fail);refine AW.range 0 (fun m=>True)
  (fun m=>([(2,.ptr 0 0),(3,.ptr 1 0),(4,.ptr 2 0),(6,.s .int [5]),(18,.s .int []),(19,.i ((0:Nat):Int)),(20,.i m)],⟨3,[(0,.var (Tm.mk 13 i th ts).view),(1,.var (Cs [])),(2,.var [.i 0,.slice .nil (.t .ty []),.i 0])]⟩))
  (by omega) (fun m=>rfl) (fun m=>rfl) rfl trivial (M.W [some 0,some 1,some 2]) ?_ ?_
 ·intro m hm hP;omega
 ·intro hP;(repeat' first|refine M.gw ?_|refine M.c2 (ho) ?_|fail);have er:yk 13 th []=(Gg,0):=by simp[yk]
  rw[er]
  rfl
theorem Ydq(i:Int)(th:Ty)(ts:List Tm)(x:Ty)(ex:x.err=0):PC E 281 [.agg (Tm.mk 5 i th ts).view,.agg (Cs [x])] (.Ax [.agg (AQ (yk 5 th [x]).1).view,.i (yk 5 th [x]).2]):=by
 have hp:=JD 5;rw[show Ho 5=[1,1] from rfl] at hp;have ho:=GN (.mk 1 []) (by decide);have i0:=Hw (AQ x) 1;refine M.F Tryz.func281 ?_;(repeat' first|refine M.gw ?_|refine M.c2 (hp) ?_|fail);refine AW.range 1 (fun m=>(0<m->x.kind=1))
  (fun m=>([(2,.ptr 0 0),(3,.ptr 1 0),(4,.ptr 2 0),(6,.s .int [1,1]),(18,.s .int [1]),(19,.i ((1:Nat):Int)),(20,.i m)],⟨3,[(0,.var (Tm.mk 5 i th ts).view),(1,.var (Cs [x])),(2,.var [.i 0,.slice .nil (.t .ty []),.i 0])]⟩))
  (by omega) (fun m=>rfl) (fun m=>rfl) rfl (by simp) (M.W [some 0,some 1,some 2]) ?_ ?_
 ·intro m hm hP;obtain rfl:m=0:=by omega
  (repeat' first|refine M.gw ?_|refine M.c2 (i0) ?_|refine M.cs ?_ ?_<;>intro h|fail)
  ·have h':¬x.kind=1:=by simpa[AQ] using h
   have e:¬x=Aa:=fun hc=>h' (by rw[hc];rfl);have er:yk 5 th [x]=(AY,7):=by simp[yk,e]
   rw[er];simp[zk,V.wk,V.Ak,zd,Sz.view,AQ,AY,Ty.num,Ty.err,Ty.Ag,CS]
  ·have h':x.kind=1:=by simpa[AQ] using h
   exact⟨rfl,fun _=>h',(M.W [some 0,some 1,some 2])⟩
 ·intro hP;(repeat' first|refine M.gw ?_|refine M.c2 (ho) ?_|fail);have q0:x=Aa:=Jv ex (by have:=hP;simp_all);have er:yk 5 th [x]=(Aa,0):=by simp[yk,q0]
  rw[er]
  rfl
theorem Yc5(i:Int)(th:Ty)(ts:List Tm)(x:Ty)(ex:x.err=0)(y:Ty)(ey:y.err=0):PC E 281 [.agg (Tm.mk 8 i th ts).view,.agg (Cs [x,y])] (.Ax [.agg (AQ (yk 8 th [x,y]).1).view,.i (yk 8 th [x,y]).2]):=by
 have hp:=JD 8;rw[show Ho 8=[2,1,2] from rfl] at hp;have ho:=GN (.mk 2 []) (by decide);have i0:=Hw (AQ x) 1;have i1:=Hw (AQ y) 2;refine M.F Tryz.func281 ?_;(repeat' first|refine M.gw ?_|refine M.c2 (hp) ?_|fail);refine AW.range 2 (fun m=>(0<m->x.kind=1)/\(1<m->y.kind=2))
  (fun m=>([(2,.ptr 0 0),(3,.ptr 1 0),(4,.ptr 2 0),(6,.s .int [2,1,2]),(18,.s .int [1,2]),(19,.i ((2:Nat):Int)),(20,.i m)],⟨3,[(0,.var (Tm.mk 8 i th ts).view),(1,.var (Cs [x,y])),(2,.var [.i 0,.slice .nil (.t .ty []),.i 0])]⟩))
  (by omega) (fun m=>rfl) (fun m=>rfl) rfl (by simp) (M.W [some 0,some 1,some 2]) ?_ ?_
 ·intro m hm hP;by_cases hm0:m=0
  ·subst hm0;(repeat' first|refine M.gw ?_|refine M.c2 (i0) ?_|refine M.cs ?_ ?_<;>intro h|fail)
   ·have h':¬x.kind=1:=by simpa[AQ] using h
    have e:¬x=Aa:=fun hc=>h' (by rw[hc];rfl);have er:yk 8 th [x,y]=(AY,7):=by simp[yk,e]
    rw[er];simp[zk,V.wk,V.Ak,zd,Sz.view,AQ,AY,Ty.num,Ty.err,Ty.Ag,CS]
   ·have h':x.kind=1:=by simpa[AQ] using h
    exact⟨rfl,⟨by intro _;first|exact h'|(have:=hP;simp_all),by omega⟩,(M.W [some 0,some 1,some 2])⟩
  obtain rfl:m=1:=by omega
  (repeat' first|refine M.gw ?_|refine M.c2 (i1) ?_|refine M.cs ?_ ?_<;>intro h|fail)
  ·have h':¬y.kind=2:=by simpa[AQ] using h
   have e:¬y=Ah:=fun hc=>h' (by rw[hc];rfl);have er:yk 8 th [x,y]=(AY,7):=by simp[yk,e]
   rw[er];simp[zk,V.wk,V.Ak,zd,Sz.view,AQ,AY,Ty.num,Ty.err,Ty.Ag,CS]
  ·have h':y.kind=2:=by simpa[AQ] using h
   exact⟨rfl,⟨by intro _;first|exact h'|(have:=hP;simp_all),by intro _;first|exact h'|(have:=hP;simp_all)⟩,(M.W [some 0,some 1,some 2])⟩
 ·intro hP;(repeat' first|refine M.gw ?_|refine M.c2 (ho) ?_|fail);have q0:x=Aa:=Jv ex (by have:=hP;simp_all);have q1:y=Ah:=Oe ey (by have:=hP;simp_all);have er:yk 8 th [x,y]=(Ah,0):=by simp[yk,q0,q1]
  rw[er]
  rfl
theorem JZ(k:Int)(h:Ho k=[]):PC E 283 [.i k] (.s .int []):=by
 have:=JD k
 rwa [h] at this
theorem OB(a b:Ty)(ha:a.err=0)(hb:b.err=0):PC E 285 [.agg (AQ a).view,.agg (AQ b).view] (.bool (decide (a=b))):=by
 have:=Zx8 (AQ a) (AQ b) (by have:=Gr ha;show a.size<_;omega);rw[show(AQ a).ty=a from rfl,show(AQ b).ty=b from rfl,Ydz ha hb] at this;exact this
theorem NB{a:Ty}(h:a.err=0):0<=(AQ a).nodes/\(AQ a).nodes<1099511627776:=by
 have:=Gr h;simp only[AQ,Nf h];omega
theorem Ybo(i:Int)(th:Ty)(ts:List Tm)(x:Ty)(ex:x.err=0)(y:Ty)(ey:y.err=0):PC E 281 [.agg (Tm.mk 3 i th ts).view,.agg (Cs [x,y])] (.Ax [.agg (AQ (yk 3 th [x,y]).1).view,.i (yk 3 th [x,y]).2]):=by
 have hp:=JZ 3 rfl;have hi:PC E 274 [.agg (AQ x).view,.i 4] (.bool (x.kind==4)):=Hw (AQ x) 4;by_cases hk:x.kind=4
 ·obtain ⟨a,b,hab⟩:=Ty.BC ((Ty.Ad x).1 ex).1 (.inr hk);have hx:x=yo a b:=(Ty.eq_iff _ _).2 ⟨hk,hab⟩;subst hx;have ea:a.err=0:=Ty.Dh ex (by simp);have eb:b.err=0:=Ty.Dh ex (by simp);have p0:PC E 284 [.agg (AQ (yo a b)).view,.i 0] (.agg (AQ a).view):=Mp (AQ (yo a b)) 0 (by simp[AQ]) (by have:=Gr ex;show(yo a b).size<_;omega);have p1:PC E 284 [.agg (AQ (yo a b)).view,.i 1] (.agg (AQ b).view):=Mp (AQ (yo a b)) 1 (by simp[AQ]) (by have:=Gr ex;show(yo a b).size<_;omega);have sm:=OB a y ea ey;rw[show(Ty.kind (yo a b)==4)=true from rfl] at hi;refine M.F Tryz.func281 ?_;(repeat' first|refine M.gw ?_|refine M.c2 (hp) ?_|refine M.c2 (hi) ?_|refine M.c2 (p0) ?_|refine M.c2 (p1) ?_|refine M.c2 (sm) ?_|refine M.bl ?_|refine M.cs ?_ ?_<;>intro h|fail)
  ·have h':¬a=y:=by simpa using h
   have er:yk 3 th [yo a b,y]=(AY,7):=by simp[yk,h']
   rw[er];rfl
  ·have h':a=y:=by simpa using h
   have er:yk 3 th [yo a b,y]=(b,0):=by simp[yk,h']
   rw[er];simp[zk,V.wk,V.Ak,zd,Sz.view]
 ·have hi:PC E 274 [.agg (AQ x).view,.i 4] (.bool false):=by rw[show(x.kind==4)=false by simpa using hk] at hi;exact hi
  have er:yk 3 th [x,y]=(AY,7):=by simp[yk,hk]
  rw[er];refine M.F Tryz.func281 ?_;(repeat' first|refine M.gw ?_|refine M.c2 (hp) ?_|refine M.c2 (hi) ?_|refine M.bl ?_|fail)
  rfl
theorem Zyl(i:Int)(th:Ty)(ts:List Tm)(x:Ty)(ex:x.err=0)(y:Ty)(ey:y.err=0):PC E 281 [.agg (Tm.mk 10 i th ts).view,.agg (Cs [x,y])] (.Ax [.agg (AQ (yk 10 th [x,y]).1).view,.i (yk 10 th [x,y]).2]):=by
 have hp:=JZ 10 rfl;have hj:=TS 3 (AQ x) (AQ y) (NB ex) (NB ey);rw[Uh (.inl rfl) ex ey] at hj;have er:yk 10 th [x,y]=A9 (.mk 3 [x,y]):=by simp[yk,uu]
 rw[er];refine M.F Tryz.func281 ?_;(repeat' first|refine M.gw ?_|refine M.c2 (hp) ?_|refine M.c2 (hj) ?_|refine M.bl ?_|fail);simp[zk,V.wk,V.Ak,zd,Sz.view]
theorem Zza(i:Int)(th:Ty)(ts:List Tm)(x:Ty)(ex:x.err=0):PC E 281 [.agg (Tm.mk 11 i th ts).view,.agg (Cs [x])] (.Ax [.agg (AQ (yk 11 th [x]).1).view,.i (yk 11 th [x]).2]):=by
 have hp:=JZ 11 rfl;have hi:PC E 274 [.agg (AQ x).view,.i 3] (.bool (x.kind==3)):=Hw (AQ x) 3;by_cases hk:x.kind=3
 ·obtain ⟨a,b,hab⟩:=Ty.BC ((Ty.Ad x).1 ex).1 (.inl hk);have hx:x=uu a b:=(Ty.eq_iff _ _).2 ⟨hk,hab⟩;subst hx;have p0:PC E 284 [.agg (AQ (uu a b)).view,.i 0] (.agg (AQ a).view):=Mp (AQ (uu a b)) 0 (by simp[AQ]) (by have:=Gr ex;show(uu a b).size<_;omega);rw[show(Ty.kind (uu a b)==3)=true from rfl] at hi;have er:yk 11 th [uu a b]=(a,0):=by simp[yk]
  rw[er];refine M.F Tryz.func281 ?_;(repeat' first|refine M.gw ?_|refine M.c2 (hp) ?_|refine M.c2 (hi) ?_|refine M.c2 (p0) ?_|refine M.bl ?_|fail);simp[zk,V.wk,V.Ak,zd,Sz.view]
 ·have hi:PC E 274 [.agg (AQ x).view,.i 3] (.bool false):=by rw[show(x.kind==3)=false by simpa using hk] at hi;exact hi
  have er:yk 11 th [x]=(AY,7):=by simp[yk,hk]
  rw[er];refine M.F Tryz.func281 ?_;(repeat' first|refine M.gw ?_|refine M.c2 (hp) ?_|refine M.c2 (hi) ?_|refine M.bl ?_|fail)
  rfl
theorem Zx0(i:Int)(th:Ty)(ts:List Tm)(x:Ty)(ex:x.err=0):PC E 281 [.agg (Tm.mk 12 i th ts).view,.agg (Cs [x])] (.Ax [.agg (AQ (yk 12 th [x]).1).view,.i (yk 12 th [x]).2]):=by
 have hp:=JZ 12 rfl;have hi:PC E 274 [.agg (AQ x).view,.i 3] (.bool (x.kind==3)):=Hw (AQ x) 3;by_cases hk:x.kind=3
 ·obtain ⟨a,b,hab⟩:=Ty.BC ((Ty.Ad x).1 ex).1 (.inl hk);have hx:x=uu a b:=(Ty.eq_iff _ _).2 ⟨hk,hab⟩;subst hx;have p0:PC E 284 [.agg (AQ (uu a b)).view,.i 1] (.agg (AQ b).view):=Mp (AQ (uu a b)) 1 (by simp[AQ]) (by have:=Gr ex;show(uu a b).size<_;omega);rw[show(Ty.kind (uu a b)==3)=true from rfl] at hi;have er:yk 12 th [uu a b]=(b,0):=by simp[yk]
  rw[er];refine M.F Tryz.func281 ?_;(repeat' first|refine M.gw ?_|refine M.c2 (hp) ?_|refine M.c2 (hi) ?_|refine M.c2 (p0) ?_|refine M.bl ?_|fail);simp[zk,V.wk,V.Ak,zd,Sz.view]
 ·have hi:PC E 274 [.agg (AQ x).view,.i 3] (.bool false):=by rw[show(x.kind==3)=false by simpa using hk] at hi;exact hi
  have er:yk 12 th [x]=(AY,7):=by simp[yk,hk]
  rw[er];refine M.F Tryz.func281 ?_;(repeat' first|refine M.gw ?_|refine M.c2 (hp) ?_|refine M.c2 (hi) ?_|refine M.bl ?_|fail)
  rfl
theorem Ybu(i:Int)(th:Ty)(ts:List Tm)(eh:th.err=0)(x:Ty)(ex:x.err=0)(y:Ty)(ey:y.err=0)(z:Ty)(ez:z.err=0):PC E 281 [.agg (Tm.mk 6 i th ts).view,.agg (Cs [x,y,z])] (.Ax [.agg (AQ (yk 6 th [x,y,z]).1).view,.i (yk 6 th [x,y,z]).2]):=by
 have hp:=JZ 6 rfl;have ho:=GN th (by have:=Gr eh;omega);have sm:=OB x th ex eh;have hst:=RY (Tm.mk 6 i th ts);rw[show LP (Tm.mk 6 i th ts)=yo Aa (yo th th) from rfl] at hst;have s2:=I1 _ y (yo Aa (yo th th)) (Nat.le_refl _) (by have:=Gr ey;omega);have hi:PC E 274 [.agg (AQ z).view,.i 1] (.bool (z.kind==1)):=Hw (AQ z) 1;have hz:(z.kind==1)=decide (z=Aa):=by
  by_cases h:z=Aa
  ·subst h;rfl
  ·have:¬z.kind=1:=fun hk=>h (Jv ez hk);rw[decide_eq_false h];simpa using this
 rw[hz] at hi;refine M.F Tryz.func281 ?_;(repeat' first|refine M.gw ?_|refine M.c2 (hp) ?_|refine M.c2 (ho) ?_|refine M.c2 (sm) ?_|refine M.c2 (hst) ?_|refine M.c2 (s2) ?_|refine M.c2 (hi) ?_|refine M.gs ?_ ?_<;>intro h|refine M.bl ?_|refine M.cs ?_ ?_<;>intro h|fail);all_goals
  clear hp ho sm hst s2 hi hz;by_cases p1:x=th<;>by_cases p2:y=yo Aa (yo th th)<;>by_cases p3:z=Aa<;>first
   |(exfalso;simp[p1,p2,p3] at*;done)
   |(have er:yk 6 th [x,y,z]=(AY,7):=by simp[yk,p1,p2,p3]
     rw[er];rfl)
   |(have er:yk 6 th [x,y,z]=(th,0):=by simp[yk,p1,p2,p3]
     rw[er];simp[zk,V.wk,V.Ak,zd,Sz.view];done)
theorem Yem(i:Int)(th:Ty)(ts:List Tm)(eh:th.err=0)(x:Ty)(ex:x.err=0)(y:Ty)(ey:y.err=0)(z:Ty)(ez:z.err=0):PC E 281 [.agg (Tm.mk 9 i th ts).view,.agg (Cs [x,y,z])] (.Ax [.agg (AQ (yk 9 th [x,y,z]).1).view,.i (yk 9 th [x,y,z]).2]):=by
 have hp:=JZ 9 rfl;have ho:=GN th (by have:=Gr eh;omega);have sm:=OB x th ex eh;have hst:=RY (Tm.mk 9 i th ts);rw[show LP (Tm.mk 9 i th ts)=yo Aa (yo Ah (yo th th)) from rfl] at hst;have s2:=I1 _ y (yo Aa (yo Ah (yo th th))) (Nat.le_refl _) (by have:=Gr ey;omega);have hi:PC E 274 [.agg (AQ z).view,.i 2] (.bool (z.kind==2)):=Hw (AQ z) 2;have hz:(z.kind==2)=decide (z=Ah):=by
  by_cases h:z=Ah
  ·subst h;rfl
  ·have:¬z.kind=2:=fun hk=>h (Oe ez hk);rw[decide_eq_false h];simpa using this
 rw[hz] at hi;refine M.F Tryz.func281 ?_;(repeat' first|refine M.gw ?_|refine M.c2 (hp) ?_|refine M.c2 (ho) ?_|refine M.c2 (sm) ?_|refine M.c2 (hst) ?_|refine M.c2 (s2) ?_|refine M.c2 (hi) ?_|refine M.gs ?_ ?_<;>intro h|refine M.bl ?_|refine M.cs ?_ ?_<;>intro h|fail);all_goals
  clear hp ho sm hst s2 hi hz;by_cases p1:x=th<;>by_cases p2:y=yo Aa (yo Ah (yo th th))<;>by_cases p3:z=Ah<;>first
   |(exfalso;simp[p1,p2,p3] at*;done)
   |(have er:yk 9 th [x,y,z]=(AY,7):=by simp[yk,p1,p2,p3]
     rw[er];rfl)
   |(have er:yk 9 th [x,y,z]=(th,0):=by simp[yk,p1,p2,p3]
     rw[er];simp[zk,V.wk,V.Ak,zd,Sz.view];done)
theorem NU(t:Tm)(L:List Ty)(hsh:t.shape=true)(k1:t.kind≠1)(k2:t.kind≠2)(hl:L.length=t.args.length)(hg:∀x∈L,x.err=0):PC E 281 [.agg t.view,.agg (Cs L)] (.Ax [.agg (AQ (yk t.kind t.ty L).1).view,.i (yk t.kind t.ty L).2]):=by
 have hak:=F3 hsh;have hty:=Kg hsh;rw[<-hl] at hak;obtain⟨k,i,th,xs⟩:=t;simp only[Tm.Am,Tm.AD] at*;rcases MG hak with⟨hn,hk⟩|⟨hn,hk⟩|⟨hn,hk⟩|⟨hn,hk⟩
 ·have hL:=List.eq_nil_of_length_eq_zero hn;subst hL;rcases hk with rfl|rfl|rfl|rfl
  ·exact absurd rfl k1
  ·exact Yc2 i th xs
  ·exact Yed i th xs
  ·exact Zzp i th xs
 ·obtain ⟨x,hL⟩:=Ih hn;subst hL;have ex:=hg x (by simp);rcases hk with rfl|rfl|rfl|rfl
  ·exact absurd rfl k2
  ·exact Ydq i th xs x ex
  ·exact Zza i th xs x ex
  ·exact Zx0 i th xs x ex
 ·obtain ⟨x,y,hL⟩:=IA hn;subst hL;have ex:=hg x (by simp);have ey:=hg y (by simp);rcases hk with rfl|rfl|rfl
  ·exact Ybo i th xs x ex y ey
  ·exact Yc5 i th xs x ex y ey
  ·exact Zyl i th xs x ex y ey
 ·obtain ⟨x,y,z,hL⟩:=ND hn;subst hL;have ex:=hg x (by simp);have ey:=hg y (by simp);have ez:=hg z (by simp);rcases hk with rfl|rfl
  ·exact Ybu i th xs (hty rfl) x ex y ey z ez
  ·exact Yem i th xs (hty rfl) x ex y ey z ez
end Go.Ab
namespace Go.Ab
open Go Go.Proofs
set_option maxRecDepth 100000
set_option maxHeartbeats 4000000
set_option linter.all false
abbrev CT(t:Tm)(g:List Ty):Prop:=PC E 273 [.s .sz (g.map AQ),.agg t.view] (.Ax [.agg (AQ (t.inf g).1).view,.i (t.inf g).2])
theorem ct1(t:Tm)(g:List Ty)(hsh:t.shape=true)(hgn:g.length<274877906944)(k1:t.kind=1):CT t g:=by
 have hix:=xo hsh;have hinf:=Tm.AJ g t;rw[if_pos k1] at hinf;refine M.F Tryz.func273 ?_;by_cases hlt:t.index>=g.length
 ·rw[if_pos hlt] at hinf;(repeat' first|refine M.gw ?_|refine M.cs ?_ ?_<;>intro h|fail);all_goals first|exfalso;simp_all;done|(rw[hinf];rfl)|exfalso;simp at h;omega
 ·rw[if_neg hlt] at hinf;have h0:g.length-1-t.index.toNat<g.length:=by omega
  have h1:g.length-1-t.index.toNat<(g.map AQ).length:=by simpa using h0
  have eg:(g.map AQ)[g.length-1-t.index.toNat]=AQ g[g.length-1-t.index.toNat]:=by simp
  rw[JJ h0] at hinf;have hl:(g.map AQ).length=g.length:=by simp
  (repeat' first|refine M.gw ?_|refine M.cs ?_ ?_<;>intro h|fail);all_goals first
   |(exfalso;simp_all;done)
   |(exfalso;simp at h;omega)
   |skip
  refine L.B8 (g.length-1-t.index.toNat) rfl rfl rfl rfl (by simp only[hl];omega) rfl rfl h1 ?_;rw[eg];(repeat' first|refine M.gw ?_|fail);rw[hinf];simp[zk,V.wk,V.Ak,zd,Sz.view,EC.view]
theorem ct2(i:Int)(th:Ty)(a:Tm)(g:List Ty)(hsh:(Tm.mk 2 i th [a]).shape=true)(hg:∀x∈g,x.err=0)(hgn:g.length<274877906944)(ih:CT a (g++[th])):CT (Tm.mk 2 i th [a]) g:=by
 have hth:th.err=0:=Kg hsh rfl;have hg':∀x∈g++[th],x.err=0:=fun x hx=>by
  rcases List.mem_append.1 hx with hx|hx
  ·exact hg x hx
  ·simp at hx;subst hx;exact hth
 have hgood:=Tm.Bv a (g++[th]) (zg hsh a (by simp)) hg';have hinf:(Tm.mk 2 i th [a]).inf g=if(a.inf (g++[th])).2≠0 then(AY,(a.inf (g++[th])).2) else A9 (yo th (a.inf (g++[th])).1):=by
  rw[Tm.AJ];simp only[Tm.Am,Tm.Ae,Tm.AD,Tm.Ay,ne_eq];by_cases h:(a.inf (g++[th])).2=0<;>simp[h]
 have hc:PC E 273 [.s .sz (g.map AQ++[AQ th]),.agg a.view] (.Ax [.agg (AQ (a.inf (g++[th])).1).view,.i (a.inf (g++[th])).2]):=by
  have:=ih;unfold CT at this
  rwa [List.map_append] at this
 have ho:=GN th (by have:=Gr hth;omega);have hj:(a.inf (g++[th])).2=0->PC E 280 _ _:=fun h=>TS 4 (AQ th) (AQ (a.inf (g++[th])).1) (NB hth) (NB (hgood h));refine M.F Tryz.func273 ?_;(repeat' first|refine M.gw ?_|refine M.c2 (ho) ?_|refine M.c2 (hc) ?_|refine M.c2 (hj (by simpa using h)) ?_|refine M.cs ?_ ?_<;>intro h|fail)
 ·have h':(a.inf (g++[th])).2≠0:=by simpa using h
  rw[hinf,if_pos h'];rfl
 ·have h':(a.inf (g++[th])).2=0:=by simpa using h
  rw[hinf,if_neg (by simp[h']),show A9 (yo th (a.inf (g++[th])).1)=A9 (.mk 4 [th,(a.inf (g++[th])).1]) from rfl,Uh (.inr rfl) hth (hgood h')];simp[zk,V.wk,V.Ak,zd,Sz.view]
theorem cn0(k i:Int)(th:Ty)(g:List Ty)(hsh:(Tm.mk k i th []).shape=true)(k1:k≠1)(k2:k≠2)(hg:∀x∈g,x.err=0):CT (Tm.mk k i th []) g:=by
 have hinf:=Tm.AJ g (Tm.mk k i th []);simp only[Tm.Am,Tm.AD,Tm.Ae,k1,k2,if_false] at hinf;have hnode:PC E 281 [.agg (Tm.mk k i th []).view,.agg (Cs [])] (.Ax [.agg (AQ (yk k th []).1).view,.i (yk k th []).2]):=NU (Tm.mk k i th []) [] hsh k1 k2 rfl (by intro x hx;simp at hx);refine M.F Tryz.func273 ?_;(repeat' first|refine M.gw ?_|refine M.cs ?_ ?_<;>intro h|fail);all_goals first
  |(exfalso;simp_all;done)
  |skip
 refine AW.range 0 (fun m=>True)
  (fun m=>([(0,.s .sz (g.map AQ)),(3,.ptr 0 0),(4,.ptr 1 0),(9,.ptr 2 0),(65,.s .tm []),(66,.i ((0:Nat):Int)),(67,.i m)],⟨3,[(0,.var (Tm.mk k i th []).view),(1,.var [.i 0,.slice .nil (.t .ty []),.i 0]),(2,.var (Cs []))]⟩))
  (by omega) (fun m=>rfl) (fun m=>rfl) rfl trivial (M.W [some 0,some 1,some 2]) ?_ ?_
 ·intro m hm hP;omega
 ·intro hP;have er:(Tm.mk k i th []).inf g=yk k th []:=by rw[hinf];simp[Tm.Ay]
  have hnode:=hnode;(repeat' first|refine M.gw ?_|refine M.c2 (hnode) ?_|fail);rw[er];simp[zk,V.wk,V.Ak,zd,Sz.view]
theorem cn1(k i:Int)(th:Ty)(a:Tm)(g:List Ty)(hsh:(Tm.mk k i th [a]).shape=true)(k1:k≠1)(k2:k≠2)(hg:∀x∈g,x.err=0)(ia:CT a g):CT (Tm.mk k i th [a]) g:=by
 have hinf:=Tm.AJ g (Tm.mk k i th [a]);simp only[Tm.Am,Tm.AD,Tm.Ae,k1,k2,if_false] at hinf;have ga:=Tm.Bv a g (zg hsh a (by simp)) hg;have hnode:(a.inf g).2=0->PC E 281 [.agg (Tm.mk k i th [a]).view,.agg (Cs [(a.inf g).1])] (.Ax [.agg (AQ (yk k th [(a.inf g).1]).1).view,.i (yk k th [(a.inf g).1]).2]):=fun ha=>NU (Tm.mk k i th [a]) [(a.inf g).1] hsh k1 k2 rfl (by intro x hx;simp at hx;subst hx;exact ga ha);refine M.F Tryz.func273 ?_;(repeat' first|refine M.gw ?_|refine M.cs ?_ ?_<;>intro h|fail);all_goals first
  |(exfalso;simp_all;done)
  |skip
 refine AW.range 1 (fun m=>(0<m->(a.inf g).2=0))
  (fun m=>([(0,.s .sz (g.map AQ)),(3,.ptr 0 0),(4,.ptr 1 0),(9,.ptr 2 0),(65,.s .tm [a]),(66,.i ((1:Nat):Int)),(67,.i m)],⟨3,[(0,.var (Tm.mk k i th [a]).view),(1,.var [.i 0,.slice .nil (.t .ty []),.i 0]),(2,.var (if m=0 then Cs [] else Cs [(a.inf g).1]))]⟩))
  (by omega) (fun m=>rfl) (fun m=>rfl) rfl (by simp) (M.W [some 0,some 1,some 2]) ?_ ?_
 ·intro m hm hP;obtain rfl:m=0:=by omega
  (repeat' first|refine M.gw ?_|refine M.c2 (ia) ?_|refine M.cs ?_ ?_<;>intro h|fail)
  ·have h':(a.inf g).2≠0:=by simpa using h
   have er:(Tm.mk k i th [a]).inf g=(AY,(a.inf g).2):=by rw[hinf];simp[Tm.Ay,h']
   rw[er];rfl
  ·have h':(a.inf g).2=0:=by simpa using h
   exact⟨rfl,fun _=>h',(M.W [some 0,some 1,some 2])⟩
 ·intro hP;have za:(a.inf g).2=0:=by have:=hP;simp_all
  have er:(Tm.mk k i th [a]).inf g=yk k th [(a.inf g).1]:=by rw[hinf];simp[Tm.Ay,za]
  have hnode:=hnode za;(repeat' first|refine M.gw ?_|refine M.c2 (hnode) ?_|fail);rw[er];simp[zk,V.wk,V.Ak,zd,Sz.view]
theorem cn2(k i:Int)(th:Ty)(a:Tm)(b:Tm)(g:List Ty)(hsh:(Tm.mk k i th [a,b]).shape=true)(k1:k≠1)(k2:k≠2)(hg:∀x∈g,x.err=0)(ia:CT a g)(ib:CT b g):CT (Tm.mk k i th [a,b]) g:=by
 have hinf:=Tm.AJ g (Tm.mk k i th [a,b]);simp only[Tm.Am,Tm.AD,Tm.Ae,k1,k2,if_false] at hinf;have ga:=Tm.Bv a g (zg hsh a (by simp)) hg;have gb:=Tm.Bv b g (zg hsh b (by simp)) hg;have hnode:(a.inf g).2=0->(b.inf g).2=0->PC E 281 [.agg (Tm.mk k i th [a,b]).view,.agg (Cs [(a.inf g).1,(b.inf g).1])] (.Ax [.agg (AQ (yk k th [(a.inf g).1,(b.inf g).1]).1).view,.i (yk k th [(a.inf g).1,(b.inf g).1]).2]):=fun ha hb=>NU (Tm.mk k i th [a,b]) [(a.inf g).1,(b.inf g).1] hsh k1 k2 rfl (by intro x hx;simp at hx;rcases hx with rfl|rfl<;>first|exact ga ha|exact gb hb);refine M.F Tryz.func273 ?_;(repeat' first|refine M.gw ?_|refine M.cs ?_ ?_<;>intro h|fail);all_goals first
  |(exfalso;simp_all;done)
  |skip
 refine AW.range 2 (fun m=>(0<m->(a.inf g).2=0)/\(1<m->(b.inf g).2=0))
  (fun m=>([(0,.s .sz (g.map AQ)),(3,.ptr 0 0),(4,.ptr 1 0),(9,.ptr 2 0),(65,.s .tm [a,b]),(66,.i ((2:Nat):Int)),(67,.i m)],⟨3,[(0,.var (Tm.mk k i th [a,b]).view),(1,.var [.i 0,.slice .nil (.t .ty []),.i 0]),(2,.var (if m=0 then Cs [] else if m=1 then Cs [(a.inf g).1] else Cs [(a.inf g).1,(b.inf g).1]))]⟩))
  (by omega) (fun m=>rfl) (fun m=>rfl) rfl (by simp) (M.W [some 0,some 1,some 2]) ?_ ?_
 ·intro m hm hP;by_cases hm0:m=0
  ·subst hm0;(repeat' first|refine M.gw ?_|refine M.c2 (ia) ?_|refine M.cs ?_ ?_<;>intro h|fail)
   ·have h':(a.inf g).2≠0:=by simpa using h
    have er:(Tm.mk k i th [a,b]).inf g=(AY,(a.inf g).2):=by rw[hinf];simp[Tm.Ay,h']
    rw[er];rfl
   ·have h':(a.inf g).2=0:=by simpa using h
    exact⟨rfl,⟨by intro _;first|exact h'|(have:=hP;simp_all),by omega⟩,(M.W [some 0,some 1,some 2])⟩
  obtain rfl:m=1:=by omega
  (repeat' first|refine M.gw ?_|refine M.c2 (ib) ?_|refine M.cs ?_ ?_<;>intro h|fail)
  ·have h':(b.inf g).2≠0:=by simpa using h
   have za:(a.inf g).2=0:=by have:=hP;simp_all
   have er:(Tm.mk k i th [a,b]).inf g=(AY,(b.inf g).2):=by rw[hinf];simp[Tm.Ay,h',za]
   rw[er];rfl
  ·have h':(b.inf g).2=0:=by simpa using h
   exact⟨rfl,⟨by intro _;first|exact h'|(have:=hP;simp_all),by intro _;first|exact h'|(have:=hP;simp_all)⟩,(M.W [some 0,some 1,some 2])⟩
 ·intro hP;have za:(a.inf g).2=0:=by have:=hP;simp_all
  have zb:(b.inf g).2=0:=by have:=hP;simp_all
  have er:(Tm.mk k i th [a,b]).inf g=yk k th [(a.inf g).1,(b.inf g).1]:=by rw[hinf];simp[Tm.Ay,za,zb]
  have hnode:=hnode za zb;(repeat' first|refine M.gw ?_|refine M.c2 (hnode) ?_|fail);rw[er];simp[zk,V.wk,V.Ak,zd,Sz.view]
theorem cn3(k i:Int)(th:Ty)(a:Tm)(b:Tm)(c:Tm)(g:List Ty)(hsh:(Tm.mk k i th [a,b,c]).shape=true)(k1:k≠1)(k2:k≠2)(hg:∀x∈g,x.err=0)(ia:CT a g)(ib:CT b g)(ic:CT c g):CT (Tm.mk k i th [a,b,c]) g:=by
 have hinf:=Tm.AJ g (Tm.mk k i th [a,b,c]);simp only[Tm.Am,Tm.AD,Tm.Ae,k1,k2,if_false] at hinf;have ga:=Tm.Bv a g (zg hsh a (by simp)) hg;have gb:=Tm.Bv b g (zg hsh b (by simp)) hg;have gc:=Tm.Bv c g (zg hsh c (by simp)) hg;have hnode:(a.inf g).2=0->(b.inf g).2=0->(c.inf g).2=0->PC E 281 [.agg (Tm.mk k i th [a,b,c]).view,.agg (Cs [(a.inf g).1,(b.inf g).1,(c.inf g).1])] (.Ax [.agg (AQ (yk k th [(a.inf g).1,(b.inf g).1,(c.inf g).1]).1).view,.i (yk k th [(a.inf g).1,(b.inf g).1,(c.inf g).1]).2]):=fun ha hb hc=>NU (Tm.mk k i th [a,b,c]) [(a.inf g).1,(b.inf g).1,(c.inf g).1] hsh k1 k2 rfl (by intro x hx;simp at hx;rcases hx with rfl|rfl|rfl<;>first|exact ga ha|exact gb hb|exact gc hc);refine M.F Tryz.func273 ?_;(repeat' first|refine M.gw ?_|refine M.cs ?_ ?_<;>intro h|fail);all_goals first
  |(exfalso;simp_all;done)
  |skip
 refine AW.range 3 (fun m=>(0<m->(a.inf g).2=0)/\(1<m->(b.inf g).2=0)/\(2<m->(c.inf g).2=0))
  (fun m=>([(0,.s .sz (g.map AQ)),(3,.ptr 0 0),(4,.ptr 1 0),(9,.ptr 2 0),(65,.s .tm [a,b,c]),(66,.i ((3:Nat):Int)),(67,.i m)],⟨3,[(0,.var (Tm.mk k i th [a,b,c]).view),(1,.var [.i 0,.slice .nil (.t .ty []),.i 0]),(2,.var (if m=0 then Cs [] else if m=1 then Cs [(a.inf g).1] else if m=2 then Cs [(a.inf g).1,(b.inf g).1] else Cs [(a.inf g).1,(b.inf g).1,(c.inf g).1]))]⟩))
  (by omega) (fun m=>rfl) (fun m=>rfl) rfl (by simp) (M.W [some 0,some 1,some 2]) ?_ ?_
 ·intro m hm hP;by_cases hm0:m=0
  ·subst hm0;(repeat' first|refine M.gw ?_|refine M.c2 (ia) ?_|refine M.cs ?_ ?_<;>intro h|fail)
   ·have h':(a.inf g).2≠0:=by simpa using h
    have er:(Tm.mk k i th [a,b,c]).inf g=(AY,(a.inf g).2):=by rw[hinf];simp[Tm.Ay,h']
    rw[er];rfl
   ·have h':(a.inf g).2=0:=by simpa using h
    exact⟨rfl,⟨by intro _;first|exact h'|(have:=hP;simp_all),by omega,by omega⟩,(M.W [some 0,some 1,some 2])⟩
  by_cases hm1:m=1
  ·subst hm1;(repeat' first|refine M.gw ?_|refine M.c2 (ib) ?_|refine M.cs ?_ ?_<;>intro h|fail)
   ·have h':(b.inf g).2≠0:=by simpa using h
    have za:(a.inf g).2=0:=by have:=hP;simp_all
    have er:(Tm.mk k i th [a,b,c]).inf g=(AY,(b.inf g).2):=by rw[hinf];simp[Tm.Ay,h',za]
    rw[er];rfl
   ·have h':(b.inf g).2=0:=by simpa using h
    exact⟨rfl,⟨by intro _;first|exact h'|(have:=hP;simp_all),by intro _;first|exact h'|(have:=hP;simp_all),by omega⟩,(M.W [some 0,some 1,some 2])⟩
  obtain rfl:m=2:=by omega
  (repeat' first|refine M.gw ?_|refine M.c2 (ic) ?_|refine M.cs ?_ ?_<;>intro h|fail)
  ·have h':(c.inf g).2≠0:=by simpa using h
   have za:(a.inf g).2=0:=by have:=hP;simp_all
   have zb:(b.inf g).2=0:=by have:=hP;simp_all
   have er:(Tm.mk k i th [a,b,c]).inf g=(AY,(c.inf g).2):=by rw[hinf];simp[Tm.Ay,h',za,zb]
   rw[er];rfl
  ·have h':(c.inf g).2=0:=by simpa using h
   exact⟨rfl,⟨by intro _;first|exact h'|(have:=hP;simp_all),by intro _;first|exact h'|(have:=hP;simp_all),by intro _;first|exact h'|(have:=hP;simp_all)⟩,(M.W [some 0,some 1,some 2])⟩
 ·intro hP;have za:(a.inf g).2=0:=by have:=hP;simp_all
  have zb:(b.inf g).2=0:=by have:=hP;simp_all
  have zc:(c.inf g).2=0:=by have:=hP;simp_all
  have er:(Tm.mk k i th [a,b,c]).inf g=yk k th [(a.inf g).1,(b.inf g).1,(c.inf g).1]:=by rw[hinf];simp[Tm.Ay,za,zb,zc]
  have hnode:=hnode za zb zc;(repeat' first|refine M.gw ?_|refine M.c2 (hnode) ?_|fail);rw[er];simp[zk,V.wk,V.Ak,zd,Sz.view]
theorem Zto:∀(n:Nat) (t:Tm) (g:List Ty),t.full<=n->t.shape=true->(∀x∈g,x.err=0)->g.length+n<274877906944->CT t g:=by
 intro n;induction n with
 |zero=>intro t g h;have:=t.Ac;omega
 |succ n ih=>
 intro t g hsz hsh hg hgn;have hsz':=Tm.Af t;have hak:=F3 hsh;have hargs:=zg hsh;by_cases k1:t.kind=1
 ·exact ct1 t g hsh (by omega) k1
 have hih:∀x∈t.args,∀g':List Ty,(∀y∈g',y.err=0)->g'.length+n<274877906944->CT x g':=fun x hx g' hg' hl=>ih x g' (by have:=ze Tm.full hx;omega) (hargs x hx) hg' hl;have hth:xz t.kind=true->t.ty.err=0:=Kg hsh;clear hsz hsz' ih;obtain⟨k,i,th,xs⟩:=t;simp only[Tm.Am,Tm.Ae,Tm.AD] at*;by_cases k2:k=2
 ·subst k2;obtain⟨a,rfl⟩:=Ih (Option.some.inj hak).symm;refine ct2 i th a g hsh hg (by omega) (hih a (by simp) (g++[th]) ?_ (by simp;omega));intro x hx;rcases List.mem_append.1 hx with hx|hx
  ·exact hg x hx
  ·simp at hx;subst hx;exact hth rfl
 ·have hx:∀x∈xs,CT x g:=fun x hx=>hih x hx g hg (by omega);rcases MG hak with⟨hn,hk⟩|⟨hn,hk⟩|⟨hn,hk⟩|⟨hn,hk⟩
  ·have hL:=List.eq_nil_of_length_eq_zero hn;subst hL;exact cn0 k i th g hsh k1 k2 hg
  ·obtain ⟨a,rfl⟩:=Ih hn;exact cn1 k i th a g hsh k1 k2 hg (hx a (by simp))
  ·obtain ⟨a,b,rfl⟩:=IA hn;exact cn2 k i th a b g hsh k1 k2 hg (hx a (by simp)) (hx b (by simp))
  ·obtain ⟨a,b,c,rfl⟩:=ND hn;exact cn3 k i th a b c g hsh k1 k2 hg (hx a (by simp)) (hx b (by simp)) (hx c (by simp))
theorem Yig(k:Int)(l:List Tm):PC E 101 [.i k,.s .tm l] (.agg (Tm.mk k 0 (.mk 0 []) l).view):=by
 refine M.F Tryz.func101 ?_;(repeat' first|refine M.gw ?_|fail);simp[zk,V.wk,V.Ak,zd,Ty.view,Tm.view]
theorem LL:∀(b:Nat) (t:Tm),t.full<=b->b<1099511627776->PC E 63 [.agg t.view] (.agg t.view):=by
 intro b;induction b with
 |zero=>intro t h;have:=t.Ac;omega
 |succ b ih=>
 intro t hsz hb;have hsz':=Tm.Af t;have hlen:=zh Tm.full Tm.Ac t.args;have hty:=JR _ t.ty (Nat.le_refl _) (by omega);refine M.F Tryz.func63 ?_;(repeat' first|refine M.gw ?_|refine M.c2 (hty) ?_|fail);refine AW.range t.args.length (fun m=>True)
  (fun m=>([(1,.ptr 0 0),(2,.ptr 1 0),(3,.ptr 2 0),(15,.s .tm t.args),(16,.i t.args.length),(17,.i m)],⟨4,[(0,.var t.view),(1,.var [.i 0,.i 0,.i 0,.slice .nil (.t .ty []),.slice .nil (.t .tm [])]),(2,.var [.i t.kind,.i t.index,.i t.ty.kind,.s .ty t.ty.args,.slice (.own 3) (.t .tm (t.args.take m))]),(3,.row)]⟩))
  (by omega) (fun m=>rfl) (fun m=>rfl) rfl trivial (M.W [some 0,some 1,some 2,none]) ?_ ?_
 ·intro m hm hP;have hs2:=ze Tm.full (List.getElem_mem hm);(repeat' first|refine M.gw ?_|refine M.c2 (ih _ ?_ ?_) ?_|exact M.le|exact M.lt|fail);exact⟨rfl,trivial,(M.W [some 0,some 1,some 2,some 5] (he:=(by(repeat'(first|exact trivial|exact Or.inr ⟨_,U,rfl⟩|refine And.intro ?_ ?_|refine⟨_,U,_,U,_,U,?_⟩|exact An.refl _|exact An.of_eq (by simp[Al.Aw,List.take_append_getElem])));done)))⟩
 ·intro hP;(repeat' first|refine M.gw ?_|fail);simp[zk,V.wk,V.Ak,zd,Ty.view,Tm.view]
def Sy(b:Tm)(l:List Ty):Tm:=l.foldr BB b
def dflS(t:Ty):Tm:=if t.err=0 then CM t else va
theorem vj(k:Int):PC E 169 [.i k] (.bool (y7 k)):=by
 refine M.F Tryz.func169 ?_;(repeat' first|refine M.gw ?_|refine M.gs ?_ ?_<;>intro h|fail);all_goals(simp_all[zk,V.wk,V.Ak,zd,y7];try omega)
theorem Yak(f:Fm)(ht:f.ty.size<1099511627776):PC E 257 [.agg f.view] (.bool f.head):=by
 have h1:=RN f.ty;have h2:=NG f.ty ht;have hok:=Ty.DQ f.ty;obtain⟨k,h,ts,fs⟩:=f;simp only[Fm.AD] at*;have hk:k=1\/k=2\/k=3\/k=4\/k=5\/k=6\/k=7\/(k≠1/\k≠2/\k≠3/\k≠4/\k≠5/\k≠6/\k≠7):=by omega
 rcases hk with rfl|rfl|rfl|rfl|rfl|rfl|rfl|hk
 ·cases hn:h.Bw with
  |false=>
   rw[hn] at h1;refine M.F Tryz.func257 ?_;(repeat' first|refine M.gw ?_|refine M.c2 (h1) ?_|refine M.bl ?_|fail);simp[zk,V.wk,V.Ak,zd,Fm.head,hn]
  |true=>
   rw[hn] at h1;refine M.F Tryz.func257 ?_;(repeat' first|refine M.gw ?_|refine M.c2 (h1) ?_|refine M.gs ?_ ?_<;>intro h|refine M.bl ?_|fail)
   ·have h':ts.length=2:=by simp at h;omega
    have e:((fs.length:Int)==0)=(fs.length==0):=by rw[Bool.eq_iff_iff];simp
    simp[zk,V.wk,V.Ak,zd,Fm.head,hn,h',e]
   ·have h':¬ts.length=2:=by simp at h;omega
    simp[zk,V.wk,V.Ak,zd,Fm.head,hn,h']
 all_goals first
  |(cases hn:h.Bw with
    |false=>
     rw[hn] at h1;refine M.F Tryz.func257 ?_;(repeat' first|refine M.gw ?_|refine M.c2 (h1) ?_|refine M.bl ?_|refine M.cs ?_ ?_<;>intro h|fail);simp[zk,V.wk,V.Ak,zd,Fm.head,hn];done
    |true=>
     rw[hn] at h1;refine M.F Tryz.func257 ?_;(repeat' first|refine M.gw ?_|refine M.c2 (h1) ?_|refine M.gs ?_ ?_<;>intro h|refine M.bl ?_|fail)
     ·have h':ts.length=0:=by simp at h;simp[h]
      have e:((fs.length:Int)==2)=(fs.length==2):=by rw[Bool.eq_iff_iff];simp;omega
      simp[zk,V.wk,V.Ak,zd,Fm.head,hn,h',e]
     ·have h':¬ts.length=0:=by simp at h;simpa using h
      simp[zk,V.wk,V.Ak,zd,Fm.head,hn,h'];done)
  |(by_cases hn:h.err=0
    ·rw[hn] at h2;refine M.F Tryz.func257 ?_;(repeat' first|refine M.gw ?_|refine M.c2 (h2) ?_|refine M.gs ?_ ?_<;>intro h|refine M.bl ?_|refine M.cs ?_ ?_<;>intro h|fail)
     ·have h':ts.length=0:=by simp at h;simp[h]
      have e:((fs.length:Int)==1)=(fs.length==1):=by rw[Bool.eq_iff_iff];simp;omega
      simp[zk,V.wk,V.Ak,zd,Fm.head,hok,hn,h',e]
     ·have h':¬ts.length=0:=by simp at h;simpa using h
      simp[zk,V.wk,V.Ak,zd,Fm.head,hok,hn,h'];done
    ·have hb:(h.err !=0)=true:=by simpa using hn
     refine M.F Tryz.func257 ?_;(repeat' first|refine M.gw ?_|refine M.c2 (h2) ?_|refine M.gs ?_ ?_<;>intro h|refine M.bl ?_|refine M.cs ?_ ?_<;>intro h|fail)
     ·simp[zk,V.wk,V.Ak,zd,Fm.head,hok,hn]
     all_goals(exfalso;simp_all;done))
  |(refine M.F Tryz.func257 ?_
    (repeat' first|refine M.gw ?_|refine M.bl ?_|refine M.cs ?_ ?_<;>intro h|fail);all_goals first
     |(exfalso;simp_all;done)
     |(simp[zk,V.wk,V.Ak,zd,Fm.head,hk];done))
theorem Zif:∀(b:Nat) (f:Fm),f.full<=b->b<1099511627776->PC E 225 [.agg f.view] (.Ax [.i f.nodes,.bool f.shape]):=by
 intro b;induction b with
 |zero=>intro f h;have:=f.Ac;omega
 |succ b ih=>
 intro f hsz hb;have hsz':=f.Af;have hse:=f.size_eq;have hle:=f.Aj;have hlen:=zh Fm.full Fm.Ac f.args;have hlen2:=zh Tm.full Tm.Ac f.terms;have hsh:=f.Ag;have h1:=Yak f (by omega);cases hh:f.head with
 |false=>
  rw[hh] at h1 hsh;have e:f.shape=false:=by rw[hsh];rfl
  rw[show f.nodes=0 by simp[Fm.nodes,e],e];refine M.F Tryz.func225 ?_;(repeat' first|refine M.gw ?_|refine M.c2 (h1) ?_|fail)
  rfl
 |true=>
 rw[hh] at h1 hsh;refine M.F Tryz.func225 ?_;(repeat' first|refine M.gw ?_|refine M.c2 (h1) ?_|fail);refine AW.range f.terms.length (fun m=>∀j (hj:j<f.terms.length),j<m->(f.terms[j]).shape=true)
  (fun m=>([(1,.ptr 0 0),(4,.i (1+((f.terms.take m).map Tm.size).sum:Nat)),(17,.s .tm f.terms),(18,.i f.terms.length),(19,.i m)],⟨1,[(0,.var f.view)]⟩))
  (by omega) (fun m=>rfl) (fun m=>rfl) rfl (fun j hj h=>by omega) (M.W [some 0]) ?_ ?_
 ·intro m hm hP;have hs1:=yv Tm.size f.terms m hm;have hs2:=ze Tm.full (List.getElem_mem hm);have hs3:=yc Tm.size f.terms m;have hs4:=xr (f:=Tm.size) (g:=Tm.full) f.terms fun x _=>x.Aj;have hs5:=f.terms[m].Aj;have hc:=U4 _ f.terms[m] (Nat.le_refl _) (by omega);cases hx:(f.terms[m]).shape with
  |false=>
   rw[show I3 f.terms[m]= .Ax [.i 0,.bool false] by simp[I3,Tm.nodes,hx]] at hc;have e:f.shape=false:=by rw[hsh,ve Tm.shape hm hx];rfl
   rw[show f.nodes=0 by simp[Fm.nodes,e],e];(repeat' first|refine M.gw ?_|refine M.c2 (hc) ?_|fail)
   rfl
  |true=>
   rw[show I3 f.terms[m]= .Ax [.i f.terms[m].size,.bool true] by simp[I3,Tm.nodes,hx]] at hc;(repeat' first|refine M.gw ?_|refine M.c2 (hc) ?_|fail);refine⟨rfl,z4 (p:=fun t=>Tm.shape t=true) hm hP hx,?_⟩;simp only[hs1];exact(M.W [some 0] (hf:=(by(repeat'(first|exact trivial|refine And.intro ?_ ?_|refine⟨_,U,_,U,?_⟩|exact An.refl _|exact An.of_eq (by simp[Al.Aw,Int.natCast_add,Int.add_assoc])));done)))
 ·intro hP;have hpt:=EA Tm.shape f.terms fun j hj=>hP j hj hj;rw[hpt] at hsh;simp only[List.take_length];(repeat' first|refine M.gw ?_|fail);refine AW.range f.args.length (fun m=>∀j (hj:j<f.args.length),j<m->(f.args[j]).shape=true)
   (fun m=>([(1,.ptr 0 0),(4,.i (1+(f.terms.map Tm.size).sum+((f.args.take m).map Fm.size).sum:Nat)),(35,.s .fm f.args),(36,.i f.args.length),(37,.i m)],⟨1,[(0,.var f.view)]⟩))
   (by omega) (fun m=>rfl) (fun m=>rfl) rfl (fun j hj h=>by omega) (M.W [some 0]) ?_ ?_
  ·intro m hm hP;have hs0:=xr (f:=Tm.size) (g:=Tm.full) f.terms fun x _=>x.Aj;have hs1:=yv Fm.size f.args m hm;have hs2:=ze Fm.full (List.getElem_mem hm);have hs3:=yc Fm.size f.args m;have hs4:=xr (f:=Fm.size) (g:=Fm.full) f.args fun x _=>x.Aj;have hs5:=f.args[m].Aj;have hc:=ih f.args[m] (by omega) (by omega);cases hx:(f.args[m]).shape with
   |false=>
    rw[hx,show(f.args[m]).nodes=0 by simp[Fm.nodes,hx]] at hc;have e:f.shape=false:=by rw[hsh,ve Fm.shape hm hx];rfl
    rw[show f.nodes=0 by simp[Fm.nodes,e],e];(repeat' first|refine M.gw ?_|refine M.c2 (hc) ?_|fail)
    rfl
   |true=>
    rw[hx,show(f.args[m]).nodes=(f.args[m]).size by simp[Fm.nodes,hx]] at hc;(repeat' first|refine M.gw ?_|refine M.c2 (hc) ?_|fail);refine⟨rfl,z4 (p:=fun t=>Fm.shape t=true) hm hP hx,?_⟩;simp only[hs1];exact(M.W [some 0] (hf:=(by(repeat'(first|exact trivial|refine And.intro ?_ ?_|refine⟨_,U,_,U,?_⟩|exact An.refl _|exact An.of_eq (by simp[Al.Aw,Int.natCast_add,Int.add_assoc])));done)))
  ·intro hP;have hpa:=EA Fm.shape f.args fun j hj=>hP j hj hj;rw[hpa] at hsh;have e:f.shape=true:=hsh;rw[show f.nodes=f.size by simp[Fm.nodes,e],e,hse];simp only[List.take_length];(repeat' first|refine M.gw ?_|fail)
   rfl
theorem VZ(f:Fm)(hf:f.full<1099511627776):PC E 162 [.agg f.view] (.Ax [.i f.num,.i f.err]):=by
 have h1:=Zif _ f (Nat.le_refl _) hf;have hle:=f.Aj;cases hs:f.shape with
 |false=>
  have e:f.err=2:=by simp[Fm.err,hs]
  rw[hs,show f.nodes=0 by simp[Fm.nodes,hs]] at h1;rw[show f.num=0 by simp[Fm.num,e],e];refine M.F Tryz.func162 ?_;(repeat' first|refine M.gw ?_|refine M.c2 (h1) ?_|refine M.zb ?_|fail)
  rfl
 |true=>
  rw[hs,show f.nodes=f.size by simp[Fm.nodes,hs]] at h1;by_cases hz:f.size>4096
  ·have e:f.err=4:=by simp[Fm.err,hs,hz]
   rw[show f.num=0 by simp[Fm.num,e],e];refine M.F Tryz.func162 ?_;(repeat' first|refine M.gw ?_|refine M.c2 (h1) ?_|refine M.zb ?_|refine M.cs ?_ ?_<;>intro h|fail)
   ·rfl
   ·exfalso;simp at h;omega
  ·have e:f.err=0:=by simp[Fm.err,hs,hz]
   rw[show f.num=f.size by simp[Fm.num,e],e];refine M.F Tryz.func162 ?_;(repeat' first|refine M.gw ?_|refine M.c2 (h1) ?_|refine M.zb ?_|refine M.cs ?_ ?_<;>intro h|fail)
   ·exfalso;simp at h;omega
   ·rfl
theorem JE(f:Fm)(hf:f.full<1099511627776):PC E 98 [.agg f.view] (.i f.err):=by
 have h1:=VZ f hf;refine M.F Tryz.func98 ?_;(repeat' first|refine M.gw ?_|refine M.c2 (h1) ?_|fail)
 rfl
theorem x8:∀(b:Nat) (f:Fm),f.full<=b->b<1099511627776->PC E 46 [.agg f.view] (.agg f.view):=by
 intro b;induction b with
 |zero=>intro f h;have:=f.Ac;omega
 |succ b ih=>
 intro f hsz hb;have hsz':=f.Af;have hlen:=zh Fm.full Fm.Ac f.args;have hlen2:=zh Tm.full Tm.Ac f.terms;have hty:=x9 _ f.ty (Nat.le_refl _) (by omega);refine M.F Tryz.func46 ?_;(repeat' first|refine M.gw ?_|refine M.c2 (hty) ?_|fail);refine AW.range f.terms.length (fun m=>True)
  (fun m=>([(1,.ptr 0 0),(2,.ptr 1 0),(3,.ptr 2 0),(15,.s .tm f.terms),(16,.i f.terms.length),(17,.i m)],⟨4,[(0,.var f.view),(1,.var [.i 0,.i 0,.slice .nil (.t .ty []),.slice .nil (.t .tm []),.slice .nil (.t .fm [])]),(2,.var [.i f.kind,.i f.ty.kind,.s .ty f.ty.args,.slice (.own 3) (.t .tm (f.terms.take m)),.slice .nil (.t .fm [])]),(3,.row)]⟩))
  (by omega) (fun m=>rfl) (fun m=>rfl) rfl trivial (M.W [some 0,some 1,some 2,none]) ?_ ?_
 ·intro m hm _;have hs2:=ze Tm.full (List.getElem_mem hm);(repeat' first|refine M.gw ?_|refine M.c2 (wu _ _ (Nat.le_refl _) ?_) ?_|exact M.lt|fail);exact⟨rfl,trivial,(M.W [some 0,some 1,some 2,some 5] (he:=(by(repeat'(first|exact trivial|exact Or.inr ⟨_,U,rfl⟩|refine And.intro ?_ ?_|refine⟨_,U,_,U,_,U,?_⟩|exact An.refl _|exact An.of_eq (by simp[Al.Aw,List.take_append_getElem])));done)))⟩
 ·intro _;simp only[List.take_length];(repeat' first|refine M.gw ?_|fail);refine AW.range f.args.length (fun m=>True)
   (fun m=>([(1,.ptr 0 0),(2,.ptr 1 0),(3,.ptr 2 0),(30,.s .fm f.args),(31,.i f.args.length),(32,.i m)],⟨5,[(0,.var f.view),(1,.var [.i 0,.i 0,.slice .nil (.t .ty []),.slice .nil (.t .tm []),.slice .nil (.t .fm [])]),(2,.var [.i f.kind,.i f.ty.kind,.s .ty f.ty.args,.slice (.own 3) (.t .tm f.terms),.slice (.own 4) (.t .fm (f.args.take m))]),(3,.row),(4,.row)]⟩))
   (by omega) (fun m=>rfl) (fun m=>rfl) rfl trivial (M.W [some 0,some 1,some 2,some 3,none]) ?_ ?_
  ·intro m hm _;have hs2:=ze Fm.full (List.getElem_mem hm);(repeat' first|refine M.gw ?_|refine M.c2 (ih _ ?_ ?_) ?_|exact M.le|exact M.lt|fail);exact⟨rfl,trivial,(M.W [some 0,some 1,some 2,some 3,some 6] (he:=(by(repeat'(first|exact trivial|exact Or.inr ⟨_,U,rfl⟩|refine And.intro ?_ ?_|refine⟨_,U,_,U,_,U,?_⟩|exact An.refl _|exact An.of_eq (by simp[Al.Aw,List.take_append_getElem])));done)))⟩
  ·intro _;simp only[List.take_length];(repeat' first|refine M.gw ?_|fail)
   rfl
theorem FL(a b:Tm)(ha:a.full<1099511627776)(hb:b.full<1099511627776):PC E 30 [.agg a.view,.agg b.view] (.agg (AM a b).view):=by
 have h1:=wu _ a (Nat.le_refl _) ha;have h2:=wu _ b (Nat.le_refl _) hb;refine M.F Tryz.func30 ?_;(repeat' first|refine M.gw ?_|refine M.c2 (h1) ?_|refine M.c2 (h2) ?_|fail)
 rfl
theorem LS(k:Int)(a b:Fm)(ha:a.full<1099511627776)(hb:b.full<1099511627776):PC E 103 [.i k,.agg a.view,.agg b.view] (.agg (Fm.mk k (.mk 0 []) [] [a,b]).view):=by
 have h1:=x8 _ a (Nat.le_refl _) ha;have h2:=x8 _ b (Nat.le_refl _) hb;refine M.F Tryz.func103 ?_;(repeat' first|refine M.gw ?_|refine M.c2 (h1) ?_|refine M.c2 (h2) ?_|fail)
 rfl
theorem Fy(k:Int)(s:Ty)(f:Fm)(hs:s.size<1099511627776)(hf:f.full<1099511627776):PC E 104 [.i k,.agg s.view,.agg f.view] (.agg (Fm.mk k s [] [f]).view):=by
 have h1:=x9 _ s (Nat.le_refl _) hs;have h2:=x8 _ f (Nat.le_refl _) hf;refine M.F Tryz.func104 ?_;(repeat' first|refine M.gw ?_|refine M.c2 (h1) ?_|refine M.c2 (h2) ?_|fail)
 rfl
theorem Yb0(t:Tm)(b:Int)(ht:t.full<1099511627776):PC E 190 [.agg t.view,.i b] (.agg t.view):=by
 have h1:=LL _ t (Nat.le_refl _) ht;refine M.F Tryz.func190 ?_;(repeat' first|refine M.gw ?_|refine M.c2 (h1) ?_|fail);simp[zk,V.wk,V.Ak,zd,Ty.view,Tm.view]
theorem Ycj:∀(n:Nat) (f:Fm) (bl:Int),f.full<=n->n<549755813888->0<=bl->bl+n<549755813888->PC E 189 [.agg f.view,.i bl,.fn (.func 190) [] []] (.agg f.view):=by
 intro n;induction n with
 |zero=>intro f bl h;have:=f.Ac;omega
 |succ n ih=>
 intro f bl hsz hb hbl hbn;have hsz':=f.Af;have hlen:=zh Fm.full Fm.Ac f.args;have hlen2:=zh Tm.full Tm.Ac f.terms;have hty:=JR _ f.ty (Nat.le_refl _) (by omega);have hq:=vj f.kind;refine M.F Tryz.func189 ?_;(repeat' first|refine M.gw ?_|refine M.c2 (hty) ?_|fail);refine AW.range f.terms.length (fun m=>True)
  (fun m=>([(1,.i bl),(2,.fn (.func 190) [] []),(3,.ptr 0 0),(6,.ptr 1 0),(7,.ptr 2 0),(19,.s .tm f.terms),(20,.i f.terms.length),(21,.i m)],⟨4,[(0,.var f.view),(1,.var [.i 0,.i 0,.slice .nil (.t .ty []),.slice .nil (.t .tm []),.slice .nil (.t .fm [])]),(2,.var [.i f.kind,.i f.ty.kind,.s .ty f.ty.args,.slice (.own 3) (.t .tm (f.terms.take m)),.slice .nil (.t .fm [])]),(3,.row)]⟩))
  (by omega) (fun m=>rfl) (fun m=>rfl) rfl trivial (M.W [some 0,some 1,some 2,none]) ?_ ?_
 ·intro m hm _;have hs2:=ze Tm.full (List.getElem_mem hm);have hc:=Yb0 f.terms[m] bl (by omega);(repeat' first|refine M.gw ?_|refine M.cv (hc) [] 0 ?_|fail);exact⟨rfl,trivial,(M.W [some 0,some 1,some 2,some 5] (he:=(by(repeat'(first|exact trivial|exact Or.inr ⟨_,U,rfl⟩|refine And.intro ?_ ?_|refine⟨_,U,_,U,_,U,?_⟩|exact An.refl _|exact An.of_eq (by simp[Al.Aw,List.take_append_getElem])));done)))⟩
 ·intro _;simp only[List.take_length];cases hqk:y7 f.kind with
  |true=>
   rw[hqk] at hq;(repeat' first|refine M.gw ?_|refine M.c2 (hq) ?_|fail);refine AW.range f.args.length (fun m=>True)
    (fun m=>([(1,.i (bl+1)),(2,.fn (.func 190) [] []),(3,.ptr 0 0),(6,.ptr 1 0),(7,.ptr 2 0),(41,.s .fm f.args),(42,.i f.args.length),(43,.i m)],⟨5,[(0,.var f.view),(1,.var [.i 0,.i 0,.slice .nil (.t .ty []),.slice .nil (.t .tm []),.slice .nil (.t .fm [])]),(2,.var [.i f.kind,.i f.ty.kind,.s .ty f.ty.args,.slice (.own 3) (.t .tm f.terms),.slice (.own 4) (.t .fm (f.args.take m))]),(3,.row),(4,.row)]⟩))
    (by omega) (fun m=>rfl) (fun m=>rfl) rfl trivial (M.W [some 0,some 1,some 2,some 3,none]) ?_ ?_
   ·intro m hm _;have hs2:=ze Fm.full (List.getElem_mem hm);have hc:=ih f.args[m] (bl+1) (by omega) (by omega) (by omega) (by omega);(repeat' first|refine M.gw ?_|refine M.c2 (hc) ?_|fail);exact⟨rfl,trivial,(M.W [some 0,some 1,some 2,some 3,some 6] (he:=(by(repeat'(first|exact trivial|exact Or.inr ⟨_,U,rfl⟩|refine And.intro ?_ ?_|refine⟨_,U,_,U,_,U,?_⟩|exact An.refl _|exact An.of_eq (by simp[Al.Aw,List.take_append_getElem])));done)))⟩
   ·intro _;simp only[List.take_length];(repeat' first|refine M.gw ?_|fail)
    rfl
  |false=>
   rw[hqk] at hq;(repeat' first|refine M.gw ?_|refine M.c2 (hq) ?_|fail);refine AW.range f.args.length (fun m=>True)
    (fun m=>([(1,.i bl),(2,.fn (.func 190) [] []),(3,.ptr 0 0),(6,.ptr 1 0),(7,.ptr 2 0),(41,.s .fm f.args),(42,.i f.args.length),(43,.i m)],⟨5,[(0,.var f.view),(1,.var [.i 0,.i 0,.slice .nil (.t .ty []),.slice .nil (.t .tm []),.slice .nil (.t .fm [])]),(2,.var [.i f.kind,.i f.ty.kind,.s .ty f.ty.args,.slice (.own 3) (.t .tm f.terms),.slice (.own 4) (.t .fm (f.args.take m))]),(3,.row),(4,.row)]⟩))
    (by omega) (fun m=>rfl) (fun m=>rfl) rfl trivial (M.W [some 0,some 1,some 2,some 3,none]) ?_ ?_
   ·intro m hm _;have hs2:=ze Fm.full (List.getElem_mem hm);have hc:=ih f.args[m] bl (by omega) (by omega) (by omega) (by omega);(repeat' first|refine M.gw ?_|refine M.c2 (hc) ?_|fail);exact⟨rfl,trivial,(M.W [some 0,some 1,some 2,some 3,some 6] (he:=(by(repeat'(first|exact trivial|exact Or.inr ⟨_,U,rfl⟩|refine And.intro ?_ ?_|refine⟨_,U,_,U,_,U,?_⟩|exact An.refl _|exact An.of_eq (by simp[Al.Aw,List.take_append_getElem])));done)))⟩
   ·intro _;simp only[List.take_length];(repeat' first|refine M.gw ?_|fail)
    rfl
theorem Pk(f:Fm)(hf:f.full<274877906944):PC E 123 [.agg f.view] (.agg f.view):=by
 have h1:=Ycj _ f 0 (Nat.le_refl _) (by omega) (by omega) (by omega);refine M.F Tryz.func123 ?_;(repeat' first|refine M.gw ?_|refine M.c2 (h1) ?_|fail)
 rfl
end Go.Ab
