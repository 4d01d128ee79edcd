/- A part of this seat's proofs. No conditions. -/
import Derived.Test.YtknjfffhfolkcaaGreatDoorHS7
namespace Go.Ab
open Go Go.Proofs
set_option maxRecDepth 100000
set_option maxHeartbeats 4000000
set_option linter.all false
theorem OV:∀(b:Nat) (t:Ty) (most:Int),t.size<=b->-1000<=most/\most<=1000000000->PC E 67 [.agg t.view,.i most] (.i (t.cn most)):=by
 intro b;induction b with
 |zero=>intro t most h;have:=t.size_pos;omega
 |succ b ih=>
 intro t most hsz hm;have hsz':=t.size_eq;have he:=Ty.CN most t;have hbd:=t.BR most;refine M.F Tryz.func67 ?_;(repeat' first|refine M.gw ?_|fail);refine AW.block (AW.upto t.args.length (fun i=>(i:Int)<Ty.Av most 1 (t.args.take i)/\(Ty.Av most 1 (t.args.take i)<=1\/Ty.Av most 1 (t.args.take i)<=most+1))
  (fun i=>([(1,.i most),(2,.ptr 0 0),(5,.i (Ty.Av most 1 (t.args.take i))),(6,.i i)],⟨1,[(0,.var t.view)]⟩))
  ⟨by simp[Ty.Av],.inl (by simp[Ty.Av])⟩ (M.W [some 0]) fun i hi hP=> ?_)
 obtain⟨p1,p2⟩:=hP;by_cases hlt:i<t.args.length
 .by_cases hle:Ty.Av most 1 (t.args.take i)<=most
  .have htk:=Ty.BN hlt hle;have hs2:=za Ty.size (Wi hlt);have hx:=t.args[i].BR (most-Ty.Av most 1 (t.args.take i));have hc:=ih t.args[i] (most-Ty.Av most 1 (t.args.take i)) (by omega) (by omega);(repeat' first|refine M.go ?_|refine M.gs ?_ ?_<;>intro h|refine M.z1 5 ?_|refine M.cs ?_ ?_<;>intro h|refine M.gk ?_|fail);all_goals first
    |(exfalso;simp at h;omega)
    |(exfalso;simp at*;omega)
    |skip
   refine K.sq (AW.block ?_);(repeat' first|refine M.gw ?_|refine M.c2 (hc) ?_|fail);refine⟨hlt,(show((i+1:Nat):Int)<Ty.Av most 1 (t.args.take (i+1))/\(Ty.Av most 1 (t.args.take (i+1))<=1\/Ty.Av most 1 (t.args.take (i+1))<=most+1) by omega),?_⟩;simp only[htk];exact(M.W [some 0])
  .have e:=Ty.B2 hle;(repeat' first|refine M.go ?_|refine M.gs ?_ ?_<;>intro h|refine M.z1 5 ?_|refine M.cs ?_ ?_<;>intro h|refine M.gk ?_|fail);all_goals first|exfalso;simp at*;omega|(rw[he,e];rfl)
 .have e:t.args.take i=t.args:=Xn (by omega);rw[e];(repeat' first|refine M.go ?_|refine M.gs ?_ ?_<;>intro h|refine M.z1 5 ?_|refine M.cs ?_ ?_<;>intro h|refine M.gk ?_|fail);all_goals first|exfalso;simp at*;omega|(rw[he];rfl)
theorem T8:∀(b:Nat) (t:Tm) (most:Int),t.full<=b->-100<=most/\most<=1000000000->PC E 68 [.agg t.view,.i most] (.i (t.cn most)):=by
 intro b;induction b with
 |zero=>intro t most h;have:=t.Aa;omega
 |succ b ih=>
 intro t most hsz hm;have hsz':=t.Af;have he:=Tm.CN most t;have hbt:=t.ty.BR (most-1);have h1:=OV _ t.ty (most-1) (Wj _) (by omega);refine M.F Tryz.func68 ?_;(repeat' first|refine M.gw ?_|refine M.c2 (h1) ?_|fail);generalize hn0:1+t.ty.cn (most-1)=n0 at*;have hn1:2<=n0/\(n0<=2\/n0<=most+1):=by omega
 clear hbt h1 hn0;refine AW.block (AW.upto t.args.length (fun i=>(i:Int)<Tm.Av most n0 (t.args.take i)/\(Tm.Av most n0 (t.args.take i)<=2\/Tm.Av most n0 (t.args.take i)<=most+2))
  (fun i=>([(1,.i most),(2,.ptr 0 0),(5,.i (Tm.Av most n0 (t.args.take i))),(6,.i i)],⟨1,[(0,.var t.view)]⟩))
  ⟨by simp[Tm.Av];omega,by simp[Tm.Av];omega⟩ (M.W [some 0]) fun i hi hP=> ?_)
 obtain⟨p1,p2⟩:=hP;by_cases hlt:i<t.args.length
 .by_cases hle:Tm.Av most n0 (t.args.take i)<=most
  .have htk:=Tm.BN hlt hle;have hs2:=za Tm.full (Wi hlt);have hx:=t.args[i].BR (most-Tm.Av most n0 (t.args.take i));have hc:=ih t.args[i] (most-Tm.Av most n0 (t.args.take i)) (by omega) (by omega);(repeat' first|refine M.go ?_|refine M.gs ?_ ?_<;>intro h|refine M.z1 5 ?_|refine M.cs ?_ ?_<;>intro h|refine M.gk ?_|fail);all_goals first
    |(exfalso;simp at h;omega)
    |(exfalso;simp at*;omega)
    |skip
   refine K.sq (AW.block ?_);(repeat' first|refine M.gw ?_|refine M.c2 (hc) ?_|fail);refine⟨hlt,(show((i+1:Nat):Int)<Tm.Av most n0 (t.args.take (i+1))/\(Tm.Av most n0 (t.args.take (i+1))<=2\/Tm.Av most n0 (t.args.take (i+1))<=most+2) by omega),?_⟩;simp only[htk];exact(M.W [some 0])
  .have e:=Tm.B2 hle;(repeat' first|refine M.go ?_|refine M.gs ?_ ?_<;>intro h|refine M.z1 5 ?_|refine M.cs ?_ ?_<;>intro h|refine M.gk ?_|fail);all_goals first|exfalso;simp at*;omega|(rw[he,e];rfl)
 .have e:t.args.take i=t.args:=Xn (by omega);rw[e];(repeat' first|refine M.go ?_|refine M.gs ?_ ?_<;>intro h|refine M.z1 5 ?_|refine M.cs ?_ ?_<;>intro h|refine M.gk ?_|fail);all_goals first|exfalso;simp at*;omega|(rw[he];rfl)
theorem Yeo:∀(b:Nat) (t:Fm) (most:Int),t.full<=b->-100<=most/\most<=1000000000->PC E 69 [.agg t.view,.i most] (.i (t.cn most)):=by
 intro b;induction b with
 |zero=>intro t most h;have:=t.Aa;omega
 |succ b ih=>
 intro t most hsz hm;have hsz':=t.Af;have he:=Fm.CN most t;have hbt:=t.ty.BR (most-1);have h1:=OV _ t.ty (most-1) (Wj _) (by omega);refine M.F Tryz.func69 ?_;(repeat' first|refine M.gw ?_|refine M.c2 (h1) ?_|fail);generalize hn0:1+t.ty.cn (most-1)=n0 at*;have hn1:2<=n0/\(n0<=2\/n0<=most+1):=by omega
 have hall:=Tm.DJ most t.terms n0;clear hbt h1 hn0;refine AW.Gz (ι:=Unit) (fun _=>([(1,.i most),(2,.ptr 0 0),(5,.i (Tm.Av most n0 t.terms))],⟨1,[(0,.var t.view)]⟩)) ?_ ?_
 .refine AW.block (AW.upto t.terms.length (fun i=>(i:Int)<Tm.Av most n0 (t.terms.take i)/\(Tm.Av most n0 (t.terms.take i)<=2\/Tm.Av most n0 (t.terms.take i)<=most+2))
   (fun i=>([(1,.i most),(2,.ptr 0 0),(5,.i (Tm.Av most n0 (t.terms.take i))),(6,.i i)],⟨1,[(0,.var t.view)]⟩))
   ⟨by simp[Tm.Av];omega,by simp[Tm.Av];omega⟩ (M.W [some 0]) fun i hi hP=> ?_)
  obtain⟨p1,p2⟩:=hP;by_cases hlt:i<t.terms.length
  .by_cases hle:Tm.Av most n0 (t.terms.take i)<=most
   .have htk:=Tm.BN hlt hle;have hs2:=za Tm.full (Wi hlt);have hx:=t.terms[i].BR (most-Tm.Av most n0 (t.terms.take i));have hc:=T8 _ t.terms[i] (most-Tm.Av most n0 (t.terms.take i)) (Wj _) (by omega);(repeat' first|refine M.go ?_|refine M.gs ?_ ?_<;>intro h|refine M.z1 5 ?_|refine M.cs ?_ ?_<;>intro h|refine M.gk ?_|fail);all_goals first
     |(exfalso;simp at h;omega)
     |(exfalso;simp at*;omega)
     |skip
    refine K.sq (AW.block ?_);(repeat' first|refine M.gw ?_|refine M.c2 (hc) ?_|fail);refine⟨hlt,(show((i+1:Nat):Int)<Tm.Av most n0 (t.terms.take (i+1))/\(Tm.Av most n0 (t.terms.take (i+1))<=2\/Tm.Av most n0 (t.terms.take (i+1))<=most+2) by omega),?_⟩;simp only[htk];exact(M.W [some 0])
   .have e:=Tm.B2 hle;rw[<-e];(repeat' first|refine M.go ?_|refine M.gs ?_ ?_<;>intro h|refine M.z1 5 ?_|refine M.cs ?_ ?_<;>intro h|refine M.gk ?_|fail);all_goals first
     |(exfalso;simp at*;omega)
     |(exfalso;simp at*;rw[e] at*;omega)
     |exact⟨(),(M.W [some 0])⟩
  .have e:t.terms.take i=t.terms:=Xn (by omega);rw[e];(repeat' first|refine M.go ?_|refine M.gs ?_ ?_<;>intro h|refine M.z1 5 ?_|refine M.cs ?_ ?_<;>intro h|refine M.gk ?_|fail);all_goals first
    |(exfalso;simp at*;omega)
    |exact⟨(),(M.W [some 0])⟩
 intro _;generalize Tm.Av most n0 t.terms=n1 at*;have hn2:2<=n1/\(n1<=2\/n1<=most+2):=by omega
 clear hall hn1;(repeat' first|refine M.gw ?_|fail);refine AW.block (AW.upto t.args.length (fun i=>(i:Int)<Fm.Av most n1 (t.args.take i)/\(Fm.Av most n1 (t.args.take i)<=2\/Fm.Av most n1 (t.args.take i)<=most+2))
  (fun i=>([(1,.i most),(2,.ptr 0 0),(5,.i (Fm.Av most n1 (t.args.take i))),(7,.i i)],⟨1,[(0,.var t.view)]⟩))
  ⟨by simp[Fm.Av];omega,by simp[Fm.Av];omega⟩ (M.W [some 0]) fun i hi hP=> ?_)
 obtain⟨p1,p2⟩:=hP;by_cases hlt:i<t.args.length
 .by_cases hle:Fm.Av most n1 (t.args.take i)<=most
  .have htk:=Fm.BN hlt hle;have hs2:=za Fm.full (Wi hlt);have hx:=t.args[i].BR (most-Fm.Av most n1 (t.args.take i));have hc:=ih t.args[i] (most-Fm.Av most n1 (t.args.take i)) (by omega) (by omega);(repeat' first|refine M.go ?_|refine M.gs ?_ ?_<;>intro h|refine M.z1 9 ?_|refine M.cs ?_ ?_<;>intro h|refine M.gk ?_|fail);all_goals first
    |(exfalso;simp at h;omega)
    |(exfalso;simp at*;omega)
    |skip
   refine K.sq (AW.block ?_);(repeat' first|refine M.gw ?_|refine M.c2 (hc) ?_|fail);refine⟨hlt,(show((i+1:Nat):Int)<Fm.Av most n1 (t.args.take (i+1))/\(Fm.Av most n1 (t.args.take (i+1))<=2\/Fm.Av most n1 (t.args.take (i+1))<=most+2) by omega),?_⟩;simp only[htk];exact(M.W [some 0])
  .have e:=Fm.B2 hle;(repeat' first|refine M.go ?_|refine M.gs ?_ ?_<;>intro h|refine M.z1 9 ?_|refine M.cs ?_ ?_<;>intro h|refine M.gk ?_|fail);all_goals first|exfalso;simp at*;omega|(rw[he,e];rfl)
 .have e:t.args.take i=t.args:=Xn (by omega);rw[e];(repeat' first|refine M.go ?_|refine M.gs ?_ ?_<;>intro h|refine M.z1 9 ?_|refine M.cs ?_ ?_<;>intro h|refine M.gk ?_|fail);all_goals first|exfalso;simp at*;omega|(rw[he];rfl)
theorem Yhs(t:Tm)(hs:t.shape=true):PC E 257 [.agg t.view] (.bool (vm t)):=by
 by_cases k3:t.kind=3
 .obtain ⟨i,th,f,a,rfl,hf,ha⟩:=KI hs k3 rfl;refine M.F Tryz.func257 ?_;(repeat' first|refine M.gw ?_|refine M.bl ?_|fail)
  rfl
 .by_cases k6:t.kind=6
  .obtain ⟨i,th,x,y,z,rfl,_,_,_⟩:=Nq hs k6 rfl;by_cases h4:z.kind=4
   .have e:vm (.mk 6 i th [x,y,z])=true:=by simp[vm,Tm.arg,h4]
    rw[e];refine M.F Tryz.func257 ?_;(repeat' first|refine M.gw ?_|refine M.gs ?_ ?_<;>intro h|refine M.bl ?_|fail);all_goals first
     |rfl
     |(exfalso;simp_all;done)
   .have e:vm (.mk 6 i th [x,y,z])=(z.kind==5):=by simp[vm,Tm.arg,h4]
    rw[e];refine M.F Tryz.func257 ?_;(repeat' first|refine M.gw ?_|refine M.gs ?_ ?_<;>intro h|refine M.bl ?_|fail);all_goals first
     |rfl
     |(exfalso;simp_all;done)
  .by_cases k9:t.kind=9
   .obtain ⟨i,th,x,y,z,rfl,_,_,_⟩:=Nq hs k9 rfl;by_cases h4:z.kind=7
    .have e:vm (.mk 9 i th [x,y,z])=true:=by simp[vm,Tm.arg,h4]
     rw[e];refine M.F Tryz.func257 ?_;(repeat' first|refine M.gw ?_|refine M.gs ?_ ?_<;>intro h|refine M.bl ?_|fail);all_goals first
      |rfl
      |(exfalso;simp_all;done)
    .have e:vm (.mk 9 i th [x,y,z])=(z.kind==8):=by simp[vm,Tm.arg,h4]
     rw[e];refine M.F Tryz.func257 ?_;(repeat' first|refine M.gw ?_|refine M.gs ?_ ?_<;>intro h|refine M.bl ?_|fail);all_goals first
      |rfl
      |(exfalso;simp_all;done)
   .by_cases k11:t.kind=11
    .obtain ⟨i,th,x,rfl,_⟩:=I8 hs k11 rfl;refine M.F Tryz.func257 ?_;(repeat' first|refine M.gw ?_|refine M.bl ?_|fail)
     rfl
    .by_cases k12:t.kind=12
     .obtain ⟨i,th,x,rfl,_⟩:=I8 hs k12 rfl;refine M.F Tryz.func257 ?_;(repeat' first|refine M.gw ?_|refine M.bl ?_|fail)
      rfl
     .have e:vm t=false:=by simp[vm,k3,k6,k9,k11,k12]
      rw[e];have b3:¬(t.kind==3)=true:=by simpa using k3
      have b6:¬(t.kind==6)=true:=by simpa using k6
      have b9:¬(t.kind==9)=true:=by simpa using k9
      have b11:¬(t.kind==11)=true:=by simpa using k11
      have b12:¬(t.kind==12)=true:=by simpa using k12
      refine M.F Tryz.func257 ?_;(repeat' first|refine M.gw ?_|refine M.gs ?_ ?_<;>intro h|refine M.bl ?_|refine M.cs ?_ ?_<;>intro h|fail);all_goals first
       |rfl
       |contradiction
theorem Yco{t x:Tm}(hv:RV t x)(hs:t.shape=true)(hz:t.size<=4096):PC E 258 [.agg t.view] (.i (Fq t)):=by
 have hfull:=ym t hs;have h0:=yl _ t (Wj _) (by omega);cases hv with
 |beta i th j s b a=>
  have hb:b.shape=true:=zg (zg hs (.mk 2 j s [b]) (by simp)) b (by simp);have ha:a.shape=true:=zg hs a (by simp);have hsz:(Tm.mk 3 i th [Tm.mk 2 j s [b],a]).size=2+b.size+a.size:=by simp[Tm.size,Tm.sizes];omega
  have fb:=ym b hb;have fa:=ym a ha;have h1:=yl _ b (Wj _) (by omega);have h2:=N4 _ b 0 (Wj _) (by omega) (by omega) (by omega) hb;have h3:=yl _ a (Wj _) (by omega);have htl:=Ka b 0;have hap:=a.size_pos;have hm:=V5 (yt 0 b) (a.size-1) (by omega) (by omega);have hm': -9223372036854775808<=(yt 0 b:Int)*(a.size-1)/\(yt 0 b:Int)*(a.size-1)<=9223372036854775807:=by omega
  have e:Fq (Tm.mk 3 i th [Tm.mk 2 j s [b],a])=b.size+yt 0 b*(a.size-1)-(Tm.mk 3 i th [Tm.mk 2 j s [b],a]).size:=by
   have hc:=Qj b 0 0 hb;rw[XO] at hc;show((b.re (y9 0 a) 0).size:Int)-_=_;rw[J4 0 a b ha 0 hb,hc];congr 1;rw[W5,XQ];congr 2;omega
  rw[e];clear e;refine M.F Tryz.func258 ?_;(repeat' first|refine M.gw ?_|refine M.c2 (h0) ?_|refine M.c2 (h1) ?_|refine M.c2 (h2) ?_|refine M.c2 (h3) ?_|refine M.bl ?_|fail)
  rfl
 |rz i th _ f j s=>
  have h1:=yl _ x (Wj _) (by have:=ym x (zg hs x (by simp));have:=za Tm.size (l:=[x,f,Tm.mk 4 j s []]) (t:=x) (by simp);have:=Tm.size_eq (Tm.mk 6 i th [x,f,Tm.mk 4 j s []]);simp only[Tm.Ae] at this;omega);have e:(x.size:Int)<=4096:=by have:=za Tm.size (l:=[x,f,Tm.mk 4 j s []]) (t:=x) (by simp);have:=Tm.size_eq (Tm.mk 6 i th [x,f,Tm.mk 4 j s []]);simp only[Tm.Ae] at this;omega
  have e2:Fq (Tm.mk 6 i th [x,f,Tm.mk 4 j s []])=x.size-(Tm.mk 6 i th [x,f,Tm.mk 4 j s []]).size:=rfl;rw[e2];refine M.F Tryz.func258 ?_;(repeat' first|refine M.gw ?_|refine M.c2 (h0) ?_|refine M.c2 (h1) ?_|refine M.bl ?_|fail)
  rfl
 |fz i th _ f j s=>
  have h1:=yl _ x (Wj _) (by have:=ym x (zg hs x (by simp));have:=za Tm.size (l:=[x,f,Tm.mk 7 j s []]) (t:=x) (by simp);have:=Tm.size_eq (Tm.mk 9 i th [x,f,Tm.mk 7 j s []]);simp only[Tm.Ae] at this;omega);have e:(x.size:Int)<=4096:=by have:=za Tm.size (l:=[x,f,Tm.mk 7 j s []]) (t:=x) (by simp);have:=Tm.size_eq (Tm.mk 9 i th [x,f,Tm.mk 7 j s []]);simp only[Tm.Ae] at this;omega
  have e2:Fq (Tm.mk 9 i th [x,f,Tm.mk 7 j s []])=x.size-(Tm.mk 9 i th [x,f,Tm.mk 7 j s []]).size:=rfl;rw[e2];refine M.F Tryz.func258 ?_;(repeat' first|refine M.gw ?_|refine M.c2 (h0) ?_|refine M.c2 (h1) ?_|refine M.bl ?_|fail)
  rfl
 |rs i th x f j s n=>
  have hn:n.shape=true:=zg (zg hs (.mk 5 j s [n]) (by simp)) n (by simp);have hsz:(Tm.mk 6 i th [x,f,Tm.mk 5 j s [n]]).size=2+x.size+f.size+n.size:=by simp[Tm.size,Tm.sizes];omega
  have h1:=yl _ f (Wj _) (by have:=ym f (zg hs f (by simp));omega);have h2:=yl _ n (Wj _) (by have:=ym n hn;omega);have e2:Fq (Tm.mk 6 i th [x,f,Tm.mk 5 j s [n]])=2+f.size+n.size+(Tm.mk 6 i th [x,f,Tm.mk 5 j s [n]]).size-1-(Tm.mk 6 i th [x,f,Tm.mk 5 j s [n]]).size:=by
   show((A0 (A0 f n) (.mk 6 0 th [x,f,n])).size:Int)-_=_;simp[A0,Tm.size,Tm.sizes];omega
  rw[e2];clear e2;refine M.F Tryz.func258 ?_;(repeat' first|refine M.gw ?_|refine M.c2 (h0) ?_|refine M.c2 (h1) ?_|refine M.c2 (h2) ?_|refine M.bl ?_|fail)
  rfl
 |fs i th x f j s n l=>
  have hn:n.shape=true:=zg (zg hs (.mk 8 j s [n,l]) (by simp)) n (by simp);have hl:l.shape=true:=zg (zg hs (.mk 8 j s [n,l]) (by simp)) l (by simp);have hsz:(Tm.mk 9 i th [x,f,Tm.mk 8 j s [n,l]]).size=2+x.size+f.size+n.size+l.size:=by simp[Tm.size,Tm.sizes];omega
  have h1:=yl _ f (Wj _) (by have:=ym f (zg hs f (by simp));omega);have h2:=yl _ n (Wj _) (by have:=ym n hn;omega);have h3:=yl _ l (Wj _) (by have:=ym l hl;omega);have e2:Fq (Tm.mk 9 i th [x,f,Tm.mk 8 j s [n,l]])=3+f.size+n.size+l.size+(Tm.mk 9 i th [x,f,Tm.mk 8 j s [n,l]]).size-1-n.size-(Tm.mk 9 i th [x,f,Tm.mk 8 j s [n,l]]).size:=by
   show((A0 (A0 (A0 f n) l) (.mk 9 0 th [x,f,l])).size:Int)-_=_;simp[A0,Tm.size,Tm.sizes];omega
  rw[e2];clear e2;refine M.F Tryz.func258 ?_;(repeat' first|refine M.gw ?_|refine M.c2 (h0) ?_|refine M.c2 (h1) ?_|refine M.c2 (h2) ?_|refine M.c2 (h3) ?_|refine M.bl ?_|fail)
  rfl
 |p1 i th j s _ y=>
  have hsz:(Tm.mk 11 i th [Tm.mk 10 j s [x,y]]).size=2+x.size+y.size:=by simp[Tm.size,Tm.sizes];omega
  have hx:x.shape=true:=zg (zg hs (.mk 10 j s [x,y]) (by simp)) x (by simp);have h1:=yl _ x (Wj _) (by have:=ym x hx;omega);have e2:Fq (Tm.mk 11 i th [Tm.mk 10 j s [x,y]])=x.size-(Tm.mk 11 i th [Tm.mk 10 j s [x,y]]).size:=rfl;rw[e2];clear e2;refine M.F Tryz.func258 ?_;(repeat' first|refine M.gw ?_|refine M.c2 (h0) ?_|refine M.c2 (h1) ?_|refine M.bl ?_|fail)
  rfl
 |p2 i th j s y _=>
  have hsz:(Tm.mk 12 i th [Tm.mk 10 j s [y,x]]).size=2+x.size+y.size:=by simp[Tm.size,Tm.sizes];omega
  have hx:x.shape=true:=zg (zg hs (.mk 10 j s [y,x]) (by simp)) x (by simp);have h1:=yl _ x (Wj _) (by have:=ym x hx;omega);have e2:Fq (Tm.mk 12 i th [Tm.mk 10 j s [y,x]])=x.size-(Tm.mk 12 i th [Tm.mk 10 j s [y,x]]).size:=rfl;rw[e2];clear e2;refine M.F Tryz.func258 ?_;(repeat' first|refine M.gw ?_|refine M.c2 (h0) ?_|refine M.c2 (h1) ?_|refine M.bl ?_|fail)
  rfl
theorem Nz{t x:Tm}{B:Int}(hx:x∈t.args)(h:∀p∈t.vars 0,0<=p.1/\p.1<B):∀p∈x.vars 0,0<=p.1/\p.1<B:=by
 intro p hp;have e:=LC x 0 (up t.kind 0);have hm:(p.1,p.2+up t.kind 0)∈t.vars 0:=by
  rw[Tm.AP];refine W7 _ (WL.2 ⟨x,hx,?_⟩);rw[Yh] at e;rw[e];exact WA.2 ⟨p,hp,rfl⟩
 have h3:=h (p.1,p.2+up t.kind 0) hm;exact h3
theorem Yh1{t x:Tm}(hv:RV t x)(hs:t.shape=true)(hz:t.size<=4096)(hix:∀p∈t.vars 0,0<=p.1/\p.1<1073741824):PC E 259 [.agg t.view] (.agg x.view):=by
 have hfull:=ym t hs;cases hv with
 |beta i th j s b a=>
  have hb:b.shape=true:=zg (zg hs (.mk 2 j s [b]) (by simp)) b (by simp);have ha:a.shape=true:=zg hs a (by simp);have hsz:(Tm.mk 3 i th [Tm.mk 2 j s [b],a]).size=2+b.size+a.size:=by simp[Tm.size,Tm.sizes];omega
  have fb:=ym b hb;have fa:=ym a ha;have hia:=Nz (t:=Tm.mk 3 i th [Tm.mk 2 j s [b],a]) (x:=a) (by simp) hix;have hib:=Nz (t:=Tm.mk 2 j s [b]) (x:=b) (by simp) (Nz (t:=Tm.mk 3 i th [Tm.mk 2 j s [b],a]) (x:=Tm.mk 2 j s [b]) (by simp) hix);have h1:=P7 0 a (by omega) ha (by omega) (fun p hp=>by have:=hia p hp;omega) _ b 0 (Wj _) (by omega) (by omega) (by omega) hb (fun p hp=>by have:=hib p hp;omega);refine M.F Tryz.func259 ?_;(repeat' first|refine M.gw ?_|refine M.c2 (h1) ?_|refine M.bl ?_|fail)
  rfl
 |rz i th _ f j s=>
  refine M.F Tryz.func259 ?_;(repeat' first|refine M.gw ?_|refine M.bl ?_|fail)
  rfl
 |fz i th _ f j s=>
  refine M.F Tryz.func259 ?_;(repeat' first|refine M.gw ?_|refine M.bl ?_|fail)
  rfl
 |rs i th x f j s n=>
  have hff:(Tm.mk 6 i th [x,f,Tm.mk 5 j s [n]]).full=2+th.size+s.size+x.full+f.full+n.full:=by simp[Tm.full,Tm.Au];omega
  have h1:=CH 3 [f,n] (by simp;omega);have h2:=Ft 6 th [x,f,n] (by simp;omega) (by omega);have h3:=CH 3 [A0 f n,.mk 6 0 th [x,f,n]] (by simp[A0,Tm.full,Tm.Au,Ty.size,Ty.sizes];omega);refine M.F Tryz.func259 ?_;(repeat' first|refine M.gw ?_|refine M.c2 (h1) ?_|refine M.c2 (h2) ?_|refine M.c2 (h3) ?_|refine M.bl ?_|fail)
  rfl
 |fs i th x f j s n l=>
  have hff:(Tm.mk 9 i th [x,f,Tm.mk 8 j s [n,l]]).full=2+th.size+s.size+x.full+f.full+n.full+l.full:=by simp[Tm.full,Tm.Au];omega
  have h1:=CH 3 [f,n] (by simp;omega);have h2:=CH 3 [A0 f n,l] (by simp[A0,Tm.full,Tm.Au,Ty.size,Ty.sizes];omega);have h3:=Ft 9 th [x,f,l] (by simp;omega) (by omega);have h4:=CH 3 [A0 (A0 f n) l,.mk 9 0 th [x,f,l]] (by simp[A0,Tm.full,Tm.Au,Ty.size,Ty.sizes];omega);refine M.F Tryz.func259 ?_;(repeat' first|refine M.gw ?_|refine M.c2 (h1) ?_|refine M.c2 (h2) ?_|refine M.c2 (h3) ?_|refine M.c2 (h4) ?_|refine M.bl ?_|fail)
  rfl
 |p1 i th j s _ y=>
  refine M.F Tryz.func259 ?_;(repeat' first|refine M.gw ?_|refine M.bl ?_|fail)
  rfl
 |p2 i th j s y _=>
  refine M.F Tryz.func259 ?_;(repeat' first|refine M.gw ?_|refine M.bl ?_|fail)
  rfl
end Go.Ab
