/- A part of the proofs of this seat. No conditions. -/
import Derived.Test.YtjgokiomgcfclaaGreatDoorBqA1
import Derived.Test.YtjgokiomgcfclaaGreatDoorDT1
namespace Go.Ab
open Go
set_option linter.all false
theorem RJ{t:Tm}(hs:t.shape=true){fr by_ C:Int}(hb:0<=by_)(hC:∀p∈t.vars 0,p.1<=C):∀p∈(t.re (zo fr by_) 0).vars 0,p.1<=C+by_:=fun p hp=>by
 rw[Nm _ _ _ _ hs] at hp;obtain⟨q,hq,rfl⟩:=List.mem_map.1 hp;have:=hC q hq;simp only;split<;>omega
theorem Ygv{f:Fm}(hs:f.shape=true){fr by_ C:Int}(hb:0<=by_)(hC:∀p∈f.AZ 0,∀q∈p.1.vars 0,q.1<=C):∀p∈(f.Bd fr by_).AZ 0,∀q∈p.1.vars 0,0<=q.1/\q.1<=C+by_:=by
 intro p hp q hq;rw[Fm.Bd,Rx] at hp;obtain⟨r,hr,rfl⟩:=List.mem_map.1 hp;have h1:=LJ f hs 0 r hr;exact⟨Tm.AB _ (u9 0 h1 hb) 0 q hq,RJ h1 hb (hC r hr) q hq⟩
theorem XU(p:Pf)(s:Tl):Dz p s=if p.FF=false then(false,s) else if p.Gs=false then(false,(s.1+1,s.2))
 else if(BZ p.terms (s.1+1,s.2)).1=false then BZ p.terms (s.1+1,s.2)
 else if(Ca p.Ad (BZ p.terms (s.1+1,s.2)).2).1=false then Ca p.Ad (BZ p.terms (s.1+1,s.2)).2
 else Cr p.args (Ca p.Ad (BZ p.terms (s.1+1,s.2)).2).2:=by
 cases p;simp only[Dz];rfl
theorem Ru:∀(l m:List Tm) (s:Tl),(BZ l s).1=true->BZ (l++m) s=BZ m (BZ l s).2
 |[],m,s,_=>rfl
 |t::l,m,s,h=>by
  simp only[BZ,List.cons_append] at h ⊢;by_cases e:t.err=2
  ·rw[if_pos e] at h;cases h
  ·rw[if_neg e] at h ⊢;rw[if_neg e];exact Ru l m _ h
theorem Re:∀(l m:List Fm) (s:Tl),(Ca l s).1=true->Ca (l++m) s=Ca m (Ca l s).2
 |[],m,s,_=>rfl
 |t::l,m,s,h=>by
  simp only[Ca,List.cons_append] at h ⊢;by_cases e:t.err=2
  ·rw[if_pos e] at h;cases h
  ·rw[if_neg e] at h ⊢;rw[if_neg e];exact Re l m _ h
theorem TJ:∀(l m:List Pf) (s:Tl),(Cr l s).1=true->Cr (l++m) s=Cr m (Cr l s).2
 |[],m,s,_=>rfl
 |t::l,m,s,h=>by
  simp only[Cr,List.cons_append] at h ⊢;by_cases e:(Dz t s).1=false
  ·rw[if_pos e] at h;rw[e] at h;cases h
  ·rw[if_neg e] at h ⊢;rw[if_neg e];exact TJ l m _ h
theorem SN{α:Type}{l:List α}{m:Nat}(hm:m<l.length):l=l.take m++l[m]::l.drop (m+1):=by
 rw[<-List.drop_eq_getElem_cons hm,List.take_append_drop]
theorem YQ{l:List Tm}{m:Nat}{s:Tl}(hm:m<l.length)(h:(BZ (l.take m) s).1=true):BZ (l.take (m+1)) s=BZ [l[m]] (BZ (l.take m) s).2:=by
 rw[List.take_succ_eq_append_getElem hm,Ru _ _ _ h]
theorem Uj{l:List Tm}{m:Nat}{s:Tl}(hm:m<l.length)(h:(BZ (l.take m) s).1=true)(he:l[m].err=2):BZ l s=(false,((BZ (l.take m) s).2.1+l[m].num.toNat,(BZ (l.take m) s).2.2||l[m].err==4)):=by
 have e:BZ l s=BZ (l.take m++l[m]::l.drop (m+1)) s:=by rw[<-SN hm]
 rw[e,Ru _ _ _ h,BZ,if_pos he]
theorem Yq{l:List Fm}{m:Nat}{s:Tl}(hm:m<l.length)(h:(Ca (l.take m) s).1=true):Ca (l.take (m+1)) s=Ca [l[m]] (Ca (l.take m) s).2:=by
 rw[List.take_succ_eq_append_getElem hm,Re _ _ _ h]
theorem YM{l:List Fm}{m:Nat}{s:Tl}(hm:m<l.length)(h:(Ca (l.take m) s).1=true)(he:l[m].err=2):Ca l s=(false,((Ca (l.take m) s).2.1+l[m].num.toNat,(Ca (l.take m) s).2.2||l[m].err==4)):=by
 have e:Ca l s=Ca (l.take m++l[m]::l.drop (m+1)) s:=by rw[<-SN hm]
 rw[e,Re _ _ _ h,Ca,if_pos he]
theorem Yv{l:List Pf}{m:Nat}{s:Tl}(hm:m<l.length)(h:(Cr (l.take m) s).1=true):Cr (l.take (m+1)) s=Cr [l[m]] (Cr (l.take m) s).2:=by
 rw[List.take_succ_eq_append_getElem hm,TJ _ _ _ h]
theorem Wq(p:Pf)(s:Tl):Cr [p] s=Dz p s:=by
 simp only[Cr];cases h:(Dz p s).1 with
 |false=>simp
 |true=>simp only[Bool.true_eq_false,if_false];rw[<-h]
theorem Uv{l:List Pf}{m:Nat}{s:Tl}(hm:m<l.length)(h:(Cr (l.take m) s).1=true)(he:(Dz l[m] (Cr (l.take m) s).2).1=false):Cr l s=Dz l[m] (Cr (l.take m) s).2:=by
 have e:Cr l s=Cr (l.take m++l[m]::l.drop (m+1)) s:=by rw[<-SN hm]
 rw[e,TJ _ _ _ h,Cr,if_pos he]
theorem Sy(t:Tm):(t.err=0/\t.shape=true/\t.size<=4096/\t.num=t.size)\/(t.err=2/\t.shape=false/\t.num=0)\/(t.err=4/\t.shape=true/\¬t.size<=4096/\t.num=0):=by
 unfold Tm.num Tm.err;cases h:t.shape with
 |false=>simp
 |true=>
  by_cases h2:t.size>4096
  ·simp[h2]
  ·simp[h2];omega
theorem Zuz(t:Fm):(t.err=0/\t.shape=true/\t.size<=4096/\t.num=t.size)\/(t.err=2/\t.shape=false/\t.num=0)\/(t.err=4/\t.shape=true/\¬t.size<=4096/\t.num=0):=by
 unfold Fm.num Fm.err;cases h:t.shape with
 |false=>simp
 |true=>
  by_cases h2:t.size>4096
  ·simp[h2]
  ·simp[h2];omega
theorem Lq:∀(l:List Tm) (s:Tl),(BZ l s).1=l.all Tm.shape/\(BZ l s).2.1<=s.1+(l.map Tm.size).sum/\
 (l.all Tm.shape=true->(BZ l s).2.2=(s.2|| !(l.all fun t=>decide (t.size<=4096)))/\((l.all fun t=>decide (t.size<=4096))=true->(BZ l s).2.1=s.1+(l.map Tm.size).sum))
 |[],s=>by simp[BZ]
 |t::l,s=>by
  have ih:=Lq l (s.1+t.num.toNat,s.2||t.err==4);simp only[BZ,List.all_cons,List.map_cons,List.sum_cons];rcases Sy t with⟨h1,h2,h3,h4⟩|⟨h1,h2,h3⟩|⟨h1,h2,h3,h4⟩
  ·rw[if_neg (by omega)];simp only[h1,h2,h3,h4,decide_true,Bool.true_and] at ih ⊢;simp only[Int.toNat_natCast] at ih ⊢;refine⟨ih.1,by omega,fun h=>⟨?_,fun h'=> ?_⟩⟩
   ·rw[(ih.2.2 h).1];simp
   ·rw[(ih.2.2 h).2 h'];omega
  ·rw[if_pos h1];simp[h2,h3]
  ·rw[if_neg (by omega)];simp only[h1,h2,h3,h4,decide_false,Bool.true_and,Bool.false_and] at ih ⊢;refine⟨ih.1,by have:=ih.2.1;simp only[Int.toNat_zero,Nat.add_zero] at this;omega,fun h=>⟨?_,fun h'=>by cases h'⟩⟩;rw[(ih.2.2 h).1];simp
theorem KU:∀(l:List Fm) (s:Tl),(Ca l s).1=l.all Fm.shape/\(Ca l s).2.1<=s.1+(l.map Fm.size).sum/\
 (l.all Fm.shape=true->(Ca l s).2.2=(s.2|| !(l.all fun t=>decide (t.size<=4096)))/\((l.all fun t=>decide (t.size<=4096))=true->(Ca l s).2.1=s.1+(l.map Fm.size).sum))
 |[],s=>by simp[Ca]
 |t::l,s=>by
  have ih:=KU l (s.1+t.num.toNat,s.2||t.err==4);simp only[Ca,List.all_cons,List.map_cons,List.sum_cons];rcases Zuz t with⟨h1,h2,h3,h4⟩|⟨h1,h2,h3⟩|⟨h1,h2,h3,h4⟩
  ·rw[if_neg (by omega)];simp only[h1,h2,h3,h4,decide_true,Bool.true_and] at ih ⊢;simp only[Int.toNat_natCast] at ih ⊢;refine⟨ih.1,by omega,fun h=>⟨?_,fun h'=> ?_⟩⟩
   ·rw[(ih.2.2 h).1];simp
   ·rw[(ih.2.2 h).2 h'];omega
  ·rw[if_pos h1];simp[h2,h3]
  ·rw[if_neg (by omega)];simp only[h1,h2,h3,h4,decide_false,Bool.true_and,Bool.false_and] at ih ⊢;refine⟨ih.1,by have:=ih.2.1;simp only[Int.toNat_zero,Nat.add_zero] at this;omega,fun h=>⟨?_,fun h'=>by cases h'⟩⟩;rw[(ih.2.2 h).1];simp
theorem Zvs(p:Pf):p.head=(p.FF&&p.Gs):=by
 unfold Pf.head Pf.FF Pf.Gs;cases BX p.kind with
 |none=>rfl
 |some n=>simp[Bool.and_assoc]
theorem SG(l:List Pf)(ih:∀p∈l,∀s:Tl,(Dz p s).1=p.shape/\(Dz p s).2.1<=s.1+p.size/\(p.shape=true->(Dz p s).2.2=(s.2|| !p.small)/\(p.small=true->(Dz p s).2.1=s.1+p.size))):
 ∀s:Tl,(Cr l s).1=l.all Pf.shape/\(Cr l s).2.1<=s.1+(l.map Pf.size).sum/\(l.all Pf.shape=true->(Cr l s).2.2=(s.2|| !(l.all Pf.small))/\(l.all Pf.small=true->(Cr l s).2.1=s.1+(l.map Pf.size).sum)):=by
 induction l with
 |nil=>intro s;simp[Cr]
 |cons p l ihl=>
  intro s;obtain⟨a1,a2,a3⟩:=ih p (by simp) s;have b:=ihl (fun q hq=>ih q (by simp[hq])) (Dz p s).2;simp only[Cr,List.all_cons,List.map_cons,List.sum_cons];cases hp:p.shape with
  |false=>
   rw[hp] at a1;rw[if_pos a1];exact⟨by rw[a1];rfl,by omega,fun h=>by cases h⟩
  |true=>
   rw[hp] at a1;rw[if_neg (by simp[a1])];obtain⟨c1,c2⟩:=a3 hp;refine⟨by rw[b.1];simp,by omega,fun h=> ?_⟩;simp only[Bool.true_and] at h;obtain⟨d1,d2⟩:=b.2.2 h;refine⟨by rw[d1,c1];cases s.2<;>cases p.small<;>simp,fun h'=> ?_⟩;simp only[Bool.and_eq_true] at h';rw[d2 h'.2,c2 h'.1];omega
theorem Tz(p:Pf):∀s:Tl,(Dz p s).1=p.shape/\(Dz p s).2.1<=s.1+p.size/\(p.shape=true->(Dz p s).2.2=(s.2|| !p.small)/\(p.small=true->(Dz p s).2.1=s.1+p.size)):=by
 induction p using Pf.ind with
 |h p ih=>
  intro s;have hsz:=p.size_eq;rw[XU,p.Ai,p.B6,Zvs];by_cases h1:p.FF=false
  ·rw[if_pos h1,h1];exact⟨rfl,by simp only;omega,fun h=>by simp at h⟩
  rw[if_neg h1];rw[Bool.not_eq_false] at h1;by_cases h2:p.Gs=false
  ·rw[if_pos h2,h2];exact⟨by simp,by simp only;omega,fun h=>by simp at h⟩
  rw[if_neg h2];rw[Bool.not_eq_false] at h2;rw[h1,h2];have t:=Lq p.terms (s.1+1,s.2);have f:=KU p.Ad (BZ p.terms (s.1+1,s.2)).2;have a:=SG p.args ih (Ca p.Ad (BZ p.terms (s.1+1,s.2)).2).2;by_cases h3:(BZ p.terms (s.1+1,s.2)).1=false
  ·rw[if_pos h3];have:p.terms.all Tm.shape=false:=by rw[<-t.1];exact h3
   exact⟨by rw[h3,this];rfl,by omega,fun h=>by simp[this] at h⟩
  rw[if_neg h3];rw[Bool.not_eq_false,t.1] at h3;by_cases h4:(Ca p.Ad (BZ p.terms (s.1+1,s.2)).2).1=false
  ·rw[if_pos h4];have:p.Ad.all Fm.shape=false:=by rw[<-f.1];exact h4
   exact⟨by rw[h4,h3,this];rfl,by omega,fun h=>by simp[this] at h⟩
  rw[if_neg h4];rw[Bool.not_eq_false,f.1] at h4;obtain⟨t1,t2⟩:=t.2.2 h3;obtain⟨f1,f2⟩:=f.2.2 h4;refine⟨by rw[a.1,h3,h4];rfl,by omega,fun h=> ?_⟩;have h5:p.args.all Pf.shape=true:=by simpa[h3,h4] using h
  obtain⟨a1,a2⟩:=a.2.2 h5;refine⟨?_,fun h'=> ?_⟩
  ·rw[a1,f1,t1];cases s.2<;>cases(p.terms.all fun t=>decide (t.size<=4096))<;>cases(p.Ad.all fun t=>decide (t.size<=4096))<;>cases p.args.all Pf.small<;>rfl
  ·simp only[Bool.and_eq_true] at h';rw[a2 h'.2,f2 h'.1.2,t2 h'.1.1,hsz];omega
theorem Yd5{i:Int}(hi:0<=i):(w8 i).err=0:=by
 rw[Pf.Ae];refine⟨?_,by simp[Pf.small,Pf.Ap],by simp[Pf.size,Pf.sizes]⟩;rw[Pf.Ai];simp[Pf.head,BX,hi,Ty.BJ,Ty.kind,Ty.args]
theorem Zxz(i:Int):(w8 i).size=1:=by rw[Pf.size_eq];simp[w8]
theorem Pf.Hy(fr b v:Int)(p:Pf):p.up fr b v= .mk p.kind p.index p.ty (p.terms.map fun t=>t.re (zo (fr+v) b) 0) (p.Ad.map fun f=>f.Bd (fr+(v+AK p.kind)) b) (Pf.Fo fr b v (Az p.kind) p.args):=by cases p;simp only[Pf.up];rfl
theorem Pf.Jl(fr b y:Int)(p:Pf):p.lh fr b y=if p.kind=1 then .mk 1 (if p.index-y>=fr then p.index+b else p.index) (.mk 0 []) [] [] [] else .mk p.kind p.index p.ty p.terms p.Ad (Pf.lhs fr b y (Ay p.kind) p.args):=by cases p;simp only[Pf.lh];rfl
theorem Tb(fr b v w:Int):∀l:List Pf,(Pf.Fo fr b v w l).length=l.length
 |[]=>by simp only[Pf.Fo]
 |p::l=>by simp only[Pf.Fo,List.length_cons,Tb fr b v w l]
theorem Xn(fr b v w:Int):∀l:List Pf,(Pf.lhs fr b v w l).length=l.length
 |[]=>by simp only[Pf.lhs]
 |p::l=>by simp only[Pf.lhs,List.length_cons,Xn fr b v w l]
theorem YX(fr b v w:Int):∀(l:List Pf) (m:Nat) (h:m<l.length) (h':m<(Pf.Fo fr b v w l).length),(Pf.Fo fr b v w l)[m]=l[m].up fr b (if m+1=l.length then v+w else v)
 |p::l,0,h,h'=>by
  simp only[Pf.Fo,List.getElem_cons_zero,List.length_cons];by_cases e:l.length=0
  ·rw[if_pos e,if_pos (by omega)]
  ·rw[if_neg e,if_neg (by omega)]
 |p::l,m+1,h,h'=>by
  simp only[Pf.Fo,List.getElem_cons_succ,List.length_cons,Nat.add_right_cancel_iff];exact YX fr b v w l m (by simpa using h) _
theorem Yll(C i:Int):(w8 i).ix C:=by simp[w8,Pf.ix,Pf.ixs]
theorem Zwm(fr by_ i b:Int):(HO fr by_ i b).full<=2:=by simp[HO,Tm.full,Tm.As,Ty.size,Ty.sizes]
theorem Wl(t:Tm)(fr by_:Int):(t.lw fr by_).full<=t.full:=Tm.Du (Zwm fr by_) t 0
theorem Yfr(f:Fm)(fr by_:Int):(f.lw fr by_).full<=f.full:=Fm.Du (fun b t=>Wl t (fr+b) by_) f 0
theorem Pf.F2(fr b v:Int)(p:Pf):p.uw fr b v= .mk p.kind p.index p.ty (p.terms.map fun t=>t.lw (fr+v) b) (p.Ad.map fun f=>f.lw (fr+(v+AK p.kind)) b) (Pf.DL fr b v (Az p.kind) p.args):=by cases p;simp only[Pf.uw];rfl
theorem Pf.JD(fr b y:Int)(p:Pf):p.hw fr b y=if p.kind=1 then .mk 1 (if Kl (p.index-y)>=fr then Kl (p.index+b) else p.index) (.mk 0 []) [] [] [] else .mk p.kind p.index p.ty p.terms p.Ad (Pf.Ea fr b y (Ay p.kind) p.args):=by cases p;simp only[Pf.hw];rfl
theorem Pd(fr b v w:Int):∀l:List Pf,(Pf.DL fr b v w l).length=l.length
 |[]=>by simp only[Pf.DL]
 |p::l=>by simp only[Pf.DL,List.length_cons,Pd fr b v w l]
theorem TG(fr b v w:Int):∀l:List Pf,(Pf.Ea fr b v w l).length=l.length
 |[]=>by simp only[Pf.Ea]
 |p::l=>by simp only[Pf.Ea,List.length_cons,TG fr b v w l]
theorem UL(fr b v w:Int):∀(l:List Pf) (m:Nat) (h:m<l.length) (h':m<(Pf.DL fr b v w l).length),(Pf.DL fr b v w l)[m]=l[m].uw fr b (if m+1=l.length then v+w else v)
 |p::l,0,h,h'=>by
  simp only[Pf.DL,List.getElem_cons_zero,List.length_cons];by_cases e:l.length=0
  ·rw[if_pos e,if_pos (by omega)]
  ·rw[if_neg e,if_neg (by omega)]
 |p::l,m+1,h,h'=>by
  simp only[Pf.DL,List.getElem_cons_succ,List.length_cons,Nat.add_right_cancel_iff];exact UL fr b v w l m (by simpa using h) _
theorem Xk(fr b v w:Int):∀(l:List Pf) (m:Nat) (h:m<l.length) (h':m<(Pf.Ea fr b v w l).length),(Pf.Ea fr b v w l)[m]=l[m].hw fr b (if m+1=l.length then v+w else v)
 |p::l,0,h,h'=>by
  simp only[Pf.Ea,List.getElem_cons_zero,List.length_cons];by_cases e:l.length=0
  ·rw[if_pos e,if_pos (by omega)]
  ·rw[if_neg e,if_neg (by omega)]
 |p::l,m+1,h,h'=>by
  simp only[Pf.Ea,List.getElem_cons_succ,List.length_cons,Nat.add_right_cancel_iff];exact Xk fr b v w l m (by simpa using h) _
theorem Yds{fr b v w:Int}{l:List Pf}{m:Nat}(h:m<l.length):(Pf.DL fr b v w l).take m++[l[m].uw fr b (if m+1=l.length then v+w else v)]=(Pf.DL fr b v w l).take (m+1):=by
 rw[<-UL fr b v w l m h (by rw[Pd];exact h),List.take_append_getElem]
theorem Ye2{fr b v w:Int}{l:List Pf}{m:Nat}(h:m<l.length):(Pf.Ea fr b v w l).take m++[l[m].hw fr b (if m+1=l.length then v+w else v)]=(Pf.Ea fr b v w l).take (m+1):=by
 rw[<-Xk fr b v w l m h (by rw[TG];exact h),List.take_append_getElem]
theorem Ygu{fr b v w:Int}{l:List Pf}:(Pf.DL fr b v w l).take l.length=Pf.DL fr b v w l:=by rw[<-Pd fr b v w l,List.take_length]
theorem Yhz{fr b v w:Int}{l:List Pf}:(Pf.Ea fr b v w l).take l.length=Pf.Ea fr b v w l:=by rw[<-TG fr b v w l,List.take_length]
theorem WH{fr b v w:Int}:∀{l:List Pf} {x:Pf},x∈Pf.DL fr b v w l->∃y∈l,∃v',x=y.uw fr b v'
 |[],x,h=>by simp[Pf.DL] at h
 |p::l,x,h=>by
  simp only[Pf.DL,List.mem_cons] at h;rcases h with rfl|h
  ·exact ⟨p,by simp,_,rfl⟩
  ·obtain ⟨y,hy,e⟩:=WH h;exact⟨y,by simp[hy],e⟩
theorem Xv{fr b v w:Int}:∀{l:List Pf},(∀p∈l,∀v,(p.uw fr b v).full<=p.full)->((Pf.DL fr b v w l).map Pf.full).sum<=(l.map Pf.full).sum
 |[],_=>by simp[Pf.DL]
 |p::l,h=>by
  simp only[Pf.DL,List.map_cons,List.sum_cons];have h1:=h p (by simp) (if l.length=0 then v+w else v);have h2:=Xv (v:=v) (w:=w) (l:=l) fun q hq=>h q (by simp[hq]);omega
theorem Yhe(fr b:Int)(p:Pf):∀v,(p.uw fr b v).full<=p.full:=by
 induction p using Pf.ind with
 |h p ih=>
  intro v;rw[p.Ag,Pf.Ag,Pf.F2];have h1:=LI (l:=p.terms) (f:=Tm.full∘fun t=>t.lw (fr+v) b) (g:=Tm.full) fun x _=>Wl x (fr+v) b;have h2:=LI (l:=p.Ad) (f:=Fm.full∘fun t=>t.lw (fr+(v+AK p.kind)) b) (g:=Fm.full) fun x _=>Yfr x (fr+(v+AK p.kind)) b;have h3:=Xv (v:=v) (w:=Az p.kind) ih;simp only[Pf.terms,Pf.Ad,Pf.args,Pf.ty,List.map_map] at*;omega
theorem U5:∀l:List Pf,Pf.Mi l↔∀p∈l,p.nd
 |[]=>by simp[Pf.Mi]
 |p::l=>by simp[Pf.Mi,U5 l]
theorem Pf.BL(p:Pf):p.nd↔(∃n,BX p.kind=some n/\p.args.length=n.args)/\∀x∈p.args,x.nd:=by
 cases p;simp only[Pf.nd,U5];rfl
theorem KE(p:Pf):p.shape=true->p.nd:=by
 induction p using Pf.ind with
 |h p ih=>
  intro hs;obtain⟨nd,n1,n2,n3,n4,_⟩:=SX hs;exact(Pf.BL p).2 ⟨⟨nd,n1,n4⟩,fun x hx=>ih x hx ((zl hs).2.2.2 x hx)⟩
theorem Ypx(fr b:Int)(p:Pf):p.nd->∀v,(p.uw fr b v).nd:=by
 induction p using Pf.ind with
 |h p ih=>
  intro hn v;obtain⟨⟨n,n1,n2⟩,n3⟩:=(Pf.BL p).1 hn;rw[Pf.F2,Pf.BL];refine⟨⟨n,n1,by rw[<-n2];exact Pd _ _ _ _ _⟩,fun x hx=> ?_⟩;obtain⟨y,hy,v',rfl⟩:=WH hx;exact ih y hy (n3 y hy) v'
theorem Wh{α:Type}{L:List (List α)}{m:Nat}(h:m<L.length):(L.take m).flatten++L[m]=(L.take (m+1)).flatten:=by
 rw[<-List.take_append_getElem h,List.flatten_append];simp
theorem Pf.Ji(a:Int)(q:Pf)(v y:Int)(p:Pf):Pf.ph a q v y p=if p.kind=1 then(if p.index-y=a then q.Fw v (a+y) else if p.index-y>a then w8 (p.index-1) else w8 p.index) else .mk p.kind p.index p.ty p.terms p.Ad (Pf.EJ a q v y (Az p.kind) (Ay p.kind) p.args):=by cases p;simp only[Pf.ph];rfl
theorem PY(a:Int)(q:Pf)(v y w z:Int):∀l:List Pf,(Pf.EJ a q v y w z l).length=l.length
 |[]=>by simp only[Pf.EJ]
 |p::l=>by simp only[Pf.EJ,List.length_cons,PY a q v y w z l]
theorem VA(a:Int)(q:Pf)(v y w z:Int):∀(l:List Pf) (m:Nat) (h:m<l.length) (h':m<(Pf.EJ a q v y w z l).length),(Pf.EJ a q v y w z l)[m]=Pf.ph a q (if m+1=l.length then v+w else v) (if m+1=l.length then y+z else y) l[m]
 |p::l,0,h,h'=>by
  simp only[Pf.EJ,List.getElem_cons_zero,List.length_cons];by_cases e:l.length=0
  ·rw[if_pos e,if_pos e,if_pos (by omega),if_pos (by omega)]
  ·rw[if_neg e,if_neg e,if_neg (by omega),if_neg (by omega)]
 |p::l,m+1,h,h'=>by
  simp only[Pf.EJ,List.getElem_cons_succ,List.length_cons,Nat.add_right_cancel_iff];exact VA a q v y w z l m (by simpa using h) _
theorem Yd4{a:Int}{s:Tm}{v w:Int}{l:List Pf}{m:Nat}(h:m<l.length):(Pf.pts a s v w l).take m++[l[m].pt a s (if m+1=l.length then v+w else v)]=(Pf.pts a s v w l).take (m+1):=by
 rw[<-Ny a s v w l m h (by rw[Jg];exact h),List.take_append_getElem]
theorem Yff{a:Int}{q:Pf}{v y w z:Int}{l:List Pf}{m:Nat}(h:m<l.length):(Pf.EJ a q v y w z l).take m++[Pf.ph a q (if m+1=l.length then v+w else v) (if m+1=l.length then y+z else y) l[m]]=(Pf.EJ a q v y w z l).take (m+1):=by
 rw[<-VA a q v y w z l m h (by rw[PY];exact h),List.take_append_getElem]
theorem Yhx{a:Int}{s:Tm}{v w:Int}{l:List Pf}:(Pf.pts a s v w l).take l.length=Pf.pts a s v w l:=by rw[<-Jg a s v w l,List.take_length]
theorem Ykd{a:Int}{q:Pf}{v y w z:Int}{l:List Pf}:(Pf.EJ a q v y w z l).take l.length=Pf.EJ a q v y w z l:=by rw[<-PY a q v y w z l,List.take_length]
section
variable {α:Type}
variable (g:Int->Tm->α) (h:Int->Fm->α) (f:Int->Int->Int->List α)
theorem HJ(y w:Int):∀l:List Pf,(Pf.AY f y w l).length=l.length
 |[]=>by simp only[Pf.AY];rfl
 |p::l=>by simp only[Pf.AY,List.length_cons,HJ y w l]
theorem ID(y w:Int):∀(l:List Pf) (m:Nat) (hm:m<l.length) (h':m<(Pf.AY f y w l).length),(Pf.AY f y w l)[m]=l[m].Cw f (if m+1=l.length then y+w else y)
 |p::l,0,hm,h'=>by
  simp only[Pf.AY,List.getElem_cons_zero,List.length_cons];by_cases e:l.length=0
  ·rw[if_pos e,if_pos (by omega)]
  ·rw[if_neg e,if_neg (by omega)]
 |p::l,m+1,hm,h'=>by
  simp only[Pf.AY,List.getElem_cons_succ,List.length_cons,Nat.add_right_cancel_iff];exact ID y w l m (by simpa using hm) _
theorem Pt{v w:Int}{l:List Pf}{m:Nat}(hm:m<l.length):((Pf.Bo g h v w l).take m).flatten++l[m].DB g h (if m+1=l.length then v+w else v)=((Pf.Bo g h v w l).take (m+1)).flatten:=by
 rw[<-IY g h v w l m hm (by rw[HX];exact hm)];exact Wh _
theorem K8{y w:Int}{l:List Pf}{m:Nat}(hm:m<l.length):((Pf.AY f y w l).take m).flatten++l[m].Cw f (if m+1=l.length then y+w else y)=((Pf.AY f y w l).take (m+1)).flatten:=by
 rw[<-ID f y w l m hm (by rw[HJ];exact hm)];exact Wh _
theorem Qh{v w:Int}{l:List Pf}:(Pf.Bo g h v w l).take l.length=Pf.Bo g h v w l:=by rw[<-HX g h v w l,List.take_length]
theorem LP{y w:Int}{l:List Pf}:(Pf.AY f y w l).take l.length=Pf.AY f y w l:=by rw[<-HJ f y w l,List.take_length]
theorem Yip(p:Pf):∀v,(p.DB g h v).length<=p.full:=by
 induction p using Pf.ind with
 |h p ih=>
  intro v;rw[Pf.Co,Pf.Ag];have key:∀(l:List Pf) (w:Int),(∀x∈l,x∈p.args)->(Pf.Bo g h v w l).flatten.length<=(l.map Pf.full).sum:=by
   intro l w;induction l with
   |nil=>intro _;simp[Pf.Bo]
   |cons x l ihl=>
    intro hx;simp only[Pf.Bo,List.flatten_cons,List.length_append,List.map_cons,List.sum_cons];have h1:=ih x (hx x (by simp)) (if l.length=0 then v+w else v);have h2:=ihl fun y hy=>hx y (by simp[hy]);omega
  have h1:=key p.args (Az p.kind) fun _ h=>h;have h2:=zg Tm.full Tm.Aa p.terms;have h3:=zg Fm.full Fm.Aa p.Ad;simp only[List.length_append,List.length_map];omega
end
theorem OO{α β:Type}(X R:List β)(l:List α)(f:α->β)(m:Nat)(hm:m<l.length):X++(l.take m).map f++[f l[m]]<+:X++(l.map f++R):=by
 refine⟨(l.drop (m+1)).map f++R,?_⟩;have h0:(l.take m++[l[m]])++l.drop (m+1)=l:=by rw[List.take_append_getElem hm,List.take_append_drop]
 have h:=congrArg (List.map f) h0;rw[List.map_append,List.map_append] at h;rw[<-h];simp only[List.map_cons,List.map_nil,List.append_assoc]
theorem Qj{β:Type}(X:List β)(LL:List (List β))(m:Nat)(hm:m<LL.length):X++(LL.take m).flatten++LL[m]<+:X++LL.flatten:=by
 refine⟨(LL.drop (m+1)).flatten,?_⟩;have h0:(LL.take m++[LL[m]])++LL.drop (m+1)=LL:=by rw[List.take_append_getElem hm,List.take_append_drop]
 have h:=congrArg List.flatten h0;rw[List.flatten_append,List.flatten_append] at h;rw[<-h];simp only[List.flatten_cons,List.flatten_nil,List.append_nil,List.append_assoc]
theorem Zs(n k:Int)(l:List (Int×Int))(q:Int×Int):CM n k (l++[q])=CM n k l+q.2*(k-1):=by
 unfold CM;rw[List.map_append,List.sum_append];simp[Int.add_assoc]
theorem WA(k:Int)(l:List (Int×Int))(q:Int×Int):C1 k (l++[q])=(C1 k l||decide (q.1+q.2*(k-1)>4096)):=by
 unfold C1;rw[List.any_append];simp
theorem R6{n k:Int}(hk:1<=k/\k<=4096)(hn:0<=n/\n<=1000000):∀{l:List (Int×Int)},CY l->0<=CM n k l/\CM n k l<=1000000+16777216*l.length:=by
 intro l;induction l with
 |nil=>intro _;simp[CM];omega
 |cons q l ih=>
  intro h;have h1:=ih (⟨fun x hx=>h.1 x (by simp[hx]),by have:=h.2;simp at this;omega⟩);have h2:=(h.1 q (by simp)).2;have e:CM n k (q::l)=CM n k l+q.2*(k-1):=by unfold CM;simp[Int.add_left_comm,Int.add_comm]
  have h3:0<=q.2*(k-1):=Int.mul_nonneg h2.1 (by omega);have h4:q.2*(k-1)<=4096*4095:=Int.mul_le_mul h2.2 (by omega) (by omega) (by omega);rw[e,List.length_cons];omega
theorem wh{p:Pf}(h:p.small=true):(∀t∈p.terms,t.size<=4096)/\(∀f∈p.Ad,f.size<=4096)/\∀x∈p.args,x.small=true:=by
 rw[Pf.B6] at h;simp only[Bool.and_eq_true,List.all_eq_true,decide_eq_true_eq] at h;exact⟨h.1.1,h.1.2,h.2⟩
theorem Yo1(a:Int)(p:Pf):p.small=true->p.full<=1000000000->∀v,CY (p.DB (BI a) (BM a) v):=by
 intro hs hf v;refine⟨?_,Nat.le_trans (Yip _ _ p v) hf⟩;clear hf;revert hs v;induction p using Pf.ind with
 |h p ih=>
  intro hs v q hq;obtain⟨s1,s2,s3⟩:=wh hs;rw[Pf.Co,List.mem_append,List.mem_append] at hq;rcases hq with(hq|hq)|hq
  ·obtain ⟨t,ht,rfl⟩:=List.mem_map.1 hq;have h1:=s1 t ht;have h2:=P9 (a+v) (t.vars 0);have h3:=t.CQ 0;simp only[BI];omega
  ·obtain ⟨f,hf,rfl⟩:=List.mem_map.1 hq;have h1:=s2 f hf;have h2:=Rj f (a+(v+AK p.kind));simp only[BM];omega
  ·obtain ⟨l,hl,hq⟩:=List.mem_flatten.1 hq;obtain⟨m,hm,rfl⟩:=List.getElem_of_mem hl;rw[HX] at hm;rw[IY _ _ _ _ _ _ hm] at hq;exact ih _ (List.getElem_mem hm) (s3 _ (List.getElem_mem hm)) _ q hq
theorem WD(a:Int)(p:Pf):∀y,(p.Cw (Cy a) y).length<=p.full:=by
 induction p using Pf.ind with
 |h p ih=>
  intro y;rw[Pf.BC,Pf.Ag,List.length_append];have key:∀(l:List Pf) (w:Int),(∀x∈l,x∈p.args)->(Pf.AY (Cy a) y w l).flatten.length<=(l.map Pf.full).sum:=by
   intro l w;induction l with
   |nil=>intro _;simp[Pf.AY]
   |cons x l ihl=>
    intro hx;simp only[Pf.AY,List.flatten_cons,List.length_append,List.map_cons,List.sum_cons];have h1:=ih x (hx x (by simp)) (if l.length=0 then y+w else y);have h2:=ihl fun z hz=>hx z (by simp[hz]);omega
  have h1:=key p.args (Ay p.kind) fun _ h=>h;have h2:(Cy a p.kind p.index y).length<=1:=by unfold Cy;split<;>simp
  omega
theorem UX(p:Pf):p.shape=true->p.small=true->∀v,(p.DB (fun(_:Int) (t:Tm)=>t.near) (fun(_:Int) (f:Fm)=>f.near) v).all id=true->p.ix 549755813888:=by
 induction p using Pf.ind with
 |h p ih=>
  intro hs hm v h;obtain⟨s1,s2,s3⟩:=wh hm;obtain⟨_,s4,s5,s6⟩:=zl hs;rw[Pf.Co,List.all_append,List.all_append,Bool.and_eq_true,Bool.and_eq_true] at h;obtain⟨⟨h1,h2⟩,h3⟩:=h;rw[List.all_eq_true] at h1 h2 h3;refine(Pf.BA _ p).2 ⟨fun t ht=> ?_,fun f hf=> ?_,fun x hx=> ?_⟩
  ·exact Qa ((Tm.Ae t).2 ⟨s4 t ht,s1 t ht⟩) (by simpa using h1 t.near (List.mem_map.2 ⟨t,ht,rfl⟩))
  ·exact OA ((Fm.Ae f).2 ⟨s5 f hf,s2 f hf⟩) (by simpa using h2 f.near (List.mem_map.2 ⟨f,hf,rfl⟩))
  ·obtain ⟨m,hm2,rfl⟩:=List.getElem_of_mem hx;refine ih _ hx (s6 _ hx) (s3 _ hx) (if m+1=p.args.length then v+Az p.kind else v) (List.all_eq_true.2 fun b hb=> ?_);rw[<-IY _ _ v (Az p.kind) p.args m hm2 (by rw[HX];exact hm2)] at hb;exact h3 b (List.mem_flatten.2 ⟨_,List.getElem_mem _,hb⟩)
theorem Vu(p:Pf):p.shape=true->∀y,(p.Cw Dl y).all id=true->p.hx 549755813888:=by
 induction p using Pf.ind with
 |h p ih=>
  intro hs y h;obtain⟨hh,_,_,s6⟩:=zl hs;obtain⟨nd,_,_,_,_,hi,_⟩:=HF hh;rw[Pf.BC,List.all_append,Bool.and_eq_true] at h;obtain⟨h1,h3⟩:=h;rw[List.all_eq_true] at h3;refine(Pf.BS _ p).2 ⟨fun hk=>⟨hi,?_⟩,fun _ x hx=> ?_⟩
  ·simp[Dl,hk] at h1;omega
  ·obtain ⟨m,hm2,rfl⟩:=List.getElem_of_mem hx;refine ih _ hx (s6 _ hx) (if m+1=p.args.length then y+Ay p.kind else y) (List.all_eq_true.2 fun b hb=> ?_);rw[<-ID _ y (Ay p.kind) p.args m hm2 (by rw[HJ];exact hm2)] at hb;exact h3 b (List.mem_flatten.2 ⟨_,List.getElem_mem _,hb⟩)
theorem Yd2(p:Pf):p.nd->p.hx 10000->∀y,(p.Cw Dl y).all id=true:=by
 induction p using Pf.ind with
 |h p ih=>
  intro hs hh y;obtain⟨i1,i2⟩:=(Pf.BS _ p).1 hh;obtain⟨⟨nd0,a1,a2⟩,a3⟩:=(Pf.BL p).1 hs;rw[Pf.BC,List.all_append,Bool.and_eq_true];refine⟨List.all_eq_true.2 fun b hb=> ?_,List.all_eq_true.2 fun b hb=> ?_⟩
  ·unfold Dl at hb;by_cases hk:p.kind=1
   ·rw[if_pos hk] at hb;simp only[List.mem_singleton] at hb;subst hb;have:=i1 hk;simp;omega
   ·rw[if_neg hk] at hb;cases hb
  ·obtain ⟨l,hl,hb⟩:=List.mem_flatten.1 hb;obtain⟨m,hm,rfl⟩:=List.getElem_of_mem hl;rw[HJ] at hm;rw[ID _ _ _ _ _ hm] at hb;have hk:p.kind≠1:=fun e=>by
    rw[e] at a1;simp[BX] at a1;rw[<-a1] at a2;simp at a2;simp[a2] at hm
   exact List.all_eq_true.1 (ih _ (List.getElem_mem hm) (a3 _ (List.getElem_mem hm)) (i2 hk _ (List.getElem_mem hm)) _) b hb
theorem NA{p:Pf}{C C':Int}(h:p.ix C)(hc:C<=C'):p.ix C':=by
 induction p using Pf.ind with
 |h p ih=>
  obtain⟨i1,i2,i3⟩:=(Pf.BA _ p).1 h;exact(Pf.BA _ p).2 ⟨fun t ht q hq=>by have:=i1 t ht q hq;omega,fun f hf q hq r hr=>by have:=i2 f hf q hq r hr;omega,fun x hx=>ih x hx (i3 x hx)⟩
theorem Rm{p:Pf}{C C':Int}(h:p.hx C)(hc:C<=C'):p.hx C':=by
 induction p using Pf.ind with
 |h p ih=>
  obtain⟨i1,i2⟩:=(Pf.BS _ p).1 h;exact(Pf.BS _ p).2 ⟨fun hk=>by have:=i1 hk;omega,fun hk x hx=>ih x hx (i2 hk x hx)⟩
section
variable {p q:Pf} {fr by_ a:Int} {s:Tm}
theorem XN(h:p.err=0)(ha:¬(0<=a/\a<=4096)):vn p a s=1:=by unfold vn;rw[if_neg (by simp[h]),if_pos ha]
theorem UR(h:p.err=0)(ha:0<=a/\a<=4096)(hs:s.err≠0):vn p a s=s.err:=by unfold vn;rw[if_neg (by simp[h]),if_neg (fun g=>g ha),if_pos hs]
theorem WT(h:p.err=0)(ha:0<=a/\a<=4096)(hs:s.err=0)(hn:p.Bh=false\/s.near=false):vn p a s=1:=by unfold vn;rw[if_neg (by simp[h]),if_neg (fun g=>g ha),if_neg (by simp[hs]),if_pos hn]
theorem Vy(h:p.err≠0):Eb p a q=p.err:=by unfold Eb;rw[if_pos h]
theorem Wb(h:p.err=0)(ha:¬(0<=a/\a<=16384)):Eb p a q=1:=by unfold Eb;rw[if_neg (by simp[h]),if_pos ha]
theorem U1(h:p.err=0)(ha:0<=a/\a<=16384)(hs:q.err≠0):Eb p a q=q.err:=by unfold Eb;rw[if_neg (by simp[h]),if_neg (fun g=>g ha),if_pos hs]
theorem U2(h:p.err=0)(ha:0<=a/\a<=16384)(hs:q.err=0)(hn:p.Bj=false\/q.Bj=false\/q.Bh=false):Eb p a q=1:=by unfold Eb;rw[if_neg (by simp[h]),if_neg (fun g=>g ha),if_neg (by simp[hs]),if_pos hn]
theorem XK(h:p.err=0)(ha:0<=a/\a<=16384)(hs:q.err=0)(hn:¬(p.Bj=false\/q.Bj=false\/q.Bh=false)):Eb p a q=if(p.size:Int)+FD p a*(q.size-1)>16384 then 4 else 0:=by
 unfold Eb;rw[if_neg (by simp[h]),if_neg (fun g=>g ha),if_neg (by simp[hs]),if_neg hn]
end
theorem OT{n:Int}(h: -9223372036854775808<=n/\n<9223372036854775808):Kl n=n:=by
 show IntKind.i64.wrap n=n;rw[IntKind.wrap_i64];omega
theorem Zp7(t:Tm):∀b:Int,∀p∈t.vars b,p.2<=b+t.size:=by
 induction t using Tm.ind with
 |h t ih=>
  intro b p hp;have hz:=t.size_eq;rw[Tm.AM] at hp;rcases List.mem_append.1 hp with hp|hp
  ·by_cases hk:t.kind=1
   ·rw[if_pos hk] at hp;simp only[List.mem_singleton] at hp;subst hp;simp only;omega
   ·rw[if_neg hk] at hp;cases hp
  ·obtain ⟨x,hx,hp⟩:=List.mem_flatMap.1 hp;have h1:=ih x hx _ p hp;have h2:=ze Tm.size hx;have h3:up t.kind b<=b+1:=by unfold up;split<;>omega
   omega
theorem Vn{t:Tm}{fr by_:Int}(hix:∀q∈t.vars 0,0<=q.1/\q.1<549755813888)(hz:t.size<=1000000)(hb: -1000000<=by_/\by_<=1000000):t.lw fr by_=t.re (zo fr by_) 0:=by
 refine A1 t 0 fun q hq=> ?_;have h1:=hix q hq;have h2:=vv t 0 q hq;have h3:=Zp7 t 0 q hq;simp only[HO,zo];rw[OT (by omega),OT (by omega)]
theorem Ynq{f:Fm}{fr by_:Int}(hs:f.shape=true)(hix:∀p∈f.AZ 0,∀q∈p.1.vars 0,0<=q.1/\q.1<549755813888)(hz:f.size<=1000000)(hb: -1000000<=by_/\by_<=1000000):f.lw fr by_=f.Bd fr by_:=by
 refine Fm.A1 f 0 fun p hp=> ?_;exact Vn (hix p hp) (by have h1:=K0 f 0;have h2:=ze (fun(p:Tm×Int)=>p.1.size) hp;omega) hb
theorem Yd(fr b v w:Int):∀l:List Pf,(∀p∈l,∀v,p.uw fr b v=p.up fr b v)->Pf.DL fr b v w l=Pf.Fo fr b v w l
 |[],_=>by simp only[Pf.DL,Pf.Fo]
 |p::l,h=>by
  simp only[Pf.DL,Pf.Fo];rw[h p (by simp),Yd fr b v w l fun q hq=>h q (by simp[hq])]
theorem Yom{p:Pf}{fr b:Int}(hb: -1000000<=b/\b<=1000000):p.shape=true->p.small=true->p.ix 549755813888->∀v,p.uw fr b v=p.up fr b v:=by
 induction p using Pf.ind with
 |h p ih=>
  intro hs hm hix v;obtain⟨s1,s2,s3⟩:=wh hm;obtain⟨_,s4,s5,s6⟩:=zl hs;obtain⟨i1,i2,i3⟩:=(Pf.BA _ p).1 hix;rw[Pf.F2,Pf.Hy,Yd _ _ _ _ _ fun x hx v=>ih x hx (s6 x hx) (s3 x hx) (i3 x hx) v];congr 1
  ·exact List.map_congr_left fun t ht=>Vn (i1 t ht) (by have:=s1 t ht;omega) hb
  ·exact List.map_congr_left fun f hf=>Ynq (s5 f hf) (i2 f hf) (by have:=s2 f hf;omega) hb
theorem Ypr{p:Pf}{fr b:Int}(hb: -1000000<=b/\b<=1000000):p.nd->p.hx 549755813888->∀y:Int,(0<=y/\y+p.full<=1000000000000)->p.hw fr b y=p.lh fr b y:=by
 induction p using Pf.ind with
 |h p ih=>
  intro hs hh y hy;obtain⟨i1,i2⟩:=(Pf.BS _ p).1 hh;obtain⟨⟨nd0,a1,a2⟩,a3⟩:=(Pf.BL p).1 hs;rw[Pf.JD,Pf.Jl];by_cases hk:p.kind=1
  ·rw[if_pos hk,if_pos hk];have:=i1 hk;rw[OT (by omega),OT (by omega)]
  ·rw[if_neg hk,if_neg hk];have hz:=p.Ag;have b2:0<=Ay p.kind/\Ay p.kind<=1:=by unfold Ay;split<;>omega
   congr 1;have key:∀(l:List Pf),(∀x∈l,x∈p.args)->Pf.Ea fr b y (Ay p.kind) l=Pf.lhs fr b y (Ay p.kind) l:=by
    intro l;induction l with
    |nil=>intro _;simp only[Pf.Ea,Pf.lhs]
    |cons x l ihl=>
     intro hx;simp only[Pf.Ea,Pf.lhs];have h1:=hx x (by simp);have h2:=ze Pf.full h1;rw[ihl fun z hz=>hx z (by simp[hz]),ih x h1 (a3 x h1) (i2 hk x h1) _ (by split<;>omega)]
   exact key p.args fun _ h=>h
theorem Zvi{i:Int}(hi:0<=i):(w8 i).shape=true:=((Pf.Ae _).1 (Yd5 hi)).1
theorem Vx{p:Pf}(hs:p.shape=true)(hk:p.kind=1):p.size=1:=by
 obtain⟨hh,_⟩:=zl hs;obtain⟨nd,n1,n2,n3,n4,_⟩:=HF hh;rw[hk] at n1;have e:nd=⟨0,0,0,true,false⟩:=by
  unfold BX at n1;simp at n1;exact n1.symm
 subst e;have e1:=List.eq_nil_of_length_eq_zero n2;have e2:=List.eq_nil_of_length_eq_zero n3;have e3:=List.eq_nil_of_length_eq_zero n4;rw[Pf.size_eq,e1,e2,e3];simp
theorem Tc{p:Pf}(hs:p.shape=true)(hm:p.small=true){ts:List Tm}{fs:List Fm}{zs:List Pf}{C:Int}{k:Nat}(h1:ts.map Tm.size=p.terms.map Tm.size)(h2:fs.map Fm.size=p.Ad.map Fm.size)
 (a1:∀t∈ts,t.shape=true/\∀q∈t.vars 0,0<=q.1/\q.1<C) (a2:∀f∈fs,f.shape=true/\∀p∈f.AZ 0,∀q∈p.1.vars 0,0<=q.1/\q.1<C) (h3:zs.length=p.args.length)
 (a3:∀x∈zs,∃m,Pz C m x) (hk:(zs.map Pf.size).sum=(p.args.map Pf.size).sum+k):Pz C (p.size+k) (Pf.mk p.kind p.index p.ty ts fs zs):=by
 obtain⟨s1,s2,s3⟩:=wh hm;have e1:ts.length=p.terms.length:=by have:=congrArg List.length h1;simpa using this
 have e2:fs.length=p.Ad.length:=by have:=congrArg List.length h2;simpa using this
 refine⟨ZL hs e1 e2 h3 (fun t h=>(a1 t h).1) (fun f h=>(a2 f h).1) (fun x h=>(a3 x h).choose_spec.1),?_,?_,(Pf.BA _ _).2 ⟨fun t h=>(a1 t h).2,fun f h=>(a2 f h).2,fun x h=>(a3 x h).choose_spec.2.2.2⟩⟩
 ·rw[Pf.B6];simp only[Bool.and_eq_true,List.all_eq_true,decide_eq_true_eq,Pf.Am,Pf.Au,Pf.Ac];refine⟨⟨fun t h=> ?_,fun f h=> ?_⟩,fun x h=>(a3 x h).choose_spec.2.1⟩
  ·have:t.size∈p.terms.map Tm.size:=h1▸List.mem_map.2 ⟨t,h,rfl⟩;obtain⟨u,hu,e⟩:=List.mem_map.1 this;rw[<-e];exact s1 u hu
  ·have:f.size∈p.Ad.map Fm.size:=h2▸List.mem_map.2 ⟨f,h,rfl⟩;obtain⟨u,hu,e⟩:=List.mem_map.1 this;rw[<-e];exact s2 u hu
 ·rw[Pf.size_eq,p.size_eq];simp only[Pf.Am,Pf.Au,Pf.Ac,h1,h2,hk];omega
theorem Yo3{p:Pf}{fr n C:Int}(hn:0<=n):p.shape=true->p.small=true->p.ix C->∀v,Pz (C+n) p.size (p.up fr n v):=by
 induction p using Pf.ind with
 |h p ih=>
  intro hs hm hix v;obtain⟨s1,s2,s3⟩:=wh hm;obtain⟨_,s4,s5,s6⟩:=zl hs;obtain⟨i1,i2,i3⟩:=(Pf.BA _ p).1 hix;rw[Pf.Hy];have key:∀(l:List Pf),(∀x∈l,x∈p.args)->(∀x∈Pf.Fo fr n v (Az p.kind) l,∃m,Pz (C+n) m x)/\((Pf.Fo fr n v (Az p.kind) l).map Pf.size).sum=(l.map Pf.size).sum:=by
   intro l;induction l with
   |nil=>intro _;simp[Pf.Fo]
   |cons x l ihl=>
    intro hx;have h0:=hx x (by simp);obtain⟨a1,a2⟩:=ihl fun z hz=>hx z (by simp[hz]);have h1:=ih x h0 (s6 x h0) (s3 x h0) (i3 x h0);simp only[Pf.Fo,List.mem_cons,List.map_cons,List.sum_cons];refine⟨fun z hz=> ?_,?_⟩
    ·rcases hz with rfl|hz
     ·exact ⟨_,h1 _⟩
     ·exact a1 z hz
    ·rw[a2,(h1 _).2.2.1]
  obtain⟨k1,k2⟩:=key p.args fun _ h=>h;exact Tc (k:=0) hs hm
   (by rw[List.map_map];exact List.map_congr_left fun t ht=>ND (fr+v) n t 0 (s4 t ht))
   (by rw[List.map_map];exact List.map_congr_left fun f hf=>(Kt (s5 f hf) (fr:=fr+(v+AK p.kind)) hn).2.1)
   (fun y hy=>by
    obtain⟨t,ht,rfl⟩:=List.mem_map.1 hy;have h1:=u9 (fr:=fr+v) 0 (s4 t ht) hn;exact⟨h1,fun q hq=>⟨Tm.AB _ h1 0 q hq,by have:=RJ (C:=C-1) (s4 t ht) hn (fun r hr=>by have:=i1 t ht r hr;omega) q hq;omega⟩⟩)
   (fun y hy=>by
    obtain⟨f,hf,rfl⟩:=List.mem_map.1 hy;exact⟨(Kt (s5 f hf) hn).1,fun q hq r hr=>by have:=Ygv (s5 f hf) (C:=C-1) hn (fun q hq r hr=>by have:=i2 f hf q hq r hr;omega) q hq r hr;omega⟩)
   (Tb _ _ _ _ _) k1 (by rw[k2];omega)
theorem Ra(C:Int){i:Int}(hi:0<=i):Pz C 1 (w8 i):=⟨Zvi hi,by simp[Pf.B6,w8],Zxz i,Yll C i⟩
theorem Ypc{p:Pf}{f b C:Int}(hb:0<=b):p.shape=true->p.small=true->p.ix C->∀y,Pz C p.size (p.lh f b y):=by
 induction p using Pf.ind with
 |h p ih=>
  intro hs hm hix y;obtain⟨s1,s2,s3⟩:=wh hm;obtain⟨hh,s4,s5,s6⟩:=zl hs;obtain⟨i1,i2,i3⟩:=(Pf.BA _ p).1 hix;rw[Pf.Jl];by_cases hk:p.kind=1
  ·rw[if_pos hk];obtain⟨_,_,_,_,_,hi,_⟩:=HF hh;have hz:p.size=1:=Vx hs hk;rw[hz];exact Ra C (by split<;>omega)
  ·rw[if_neg hk];have key:∀(l:List Pf),(∀x∈l,x∈p.args)->(∀x∈Pf.lhs f b y (Ay p.kind) l,∃m,Pz C m x)/\((Pf.lhs f b y (Ay p.kind) l).map Pf.size).sum=(l.map Pf.size).sum:=by
    intro l;induction l with
    |nil=>intro _;simp[Pf.lhs]
    |cons x l ihl=>
     intro hx;have h0:=hx x (by simp);obtain⟨a1,a2⟩:=ihl fun z hz=>hx z (by simp[hz]);have h1:=ih x h0 (s6 x h0) (s3 x h0) (i3 x h0);simp only[Pf.lhs,List.mem_cons,List.map_cons,List.sum_cons];refine⟨fun z hz=> ?_,?_⟩
     ·rcases hz with rfl|hz
      ·exact ⟨_,h1 _⟩
      ·exact a1 z hz
     ·rw[a2,(h1 _).2.2.1]
   obtain⟨k1,k2⟩:=key p.args fun _ h=>h;exact Tc (k:=0) hs hm rfl rfl (fun t ht=>⟨s4 t ht,i1 t ht⟩) (fun f hf=>⟨s5 f hf,i2 f hf⟩) (Xn _ _ _ _ _) k1 (by rw[k2];omega)
theorem Ypv{p r:Pf}{C:Int}(hR:∀(v h:Int),0<=v->v<=200000->0<=h->h<=200000->Pz (C+200000) r.size (r.Fw v h))(hC:0<=C):
 p.shape=true->p.small=true->p.ix C->∀v y:Int,0<=v->0<=y->v+2*p.size<=200000->y+2*p.size<=200000->Pz (C+200000) (p.size+(p.Cw (Cy 0) y).length*(r.size-1)) (Pf.ph 0 r v y p):=by
 induction p using Pf.ind with
 |h p ih=>
  intro hs hm hix v y hv hy hvz hyz;obtain⟨s1,s2,s3⟩:=wh hm;obtain⟨hh,s4,s5,s6⟩:=zl hs;obtain⟨i1,i2,i3⟩:=(Pf.BA _ p).1 hix;have hz:=p.size_eq;have rp:=r.size_pos;rw[Pf.Ji,Pf.BC];by_cases hk:p.kind=1
  ·rw[if_pos hk];obtain⟨nd,n1,_,_,n4,hi,_⟩:=HF hh;have hz1:p.size=1:=Vx hs hk;have hnil:p.args=[]:=by
    rw[hk] at n1;simp[BX] at n1;rw[<-n1] at n4;exact List.eq_nil_of_length_eq_zero n4
   rw[hz1,hnil];simp only[Pf.AY,List.flatten_nil,List.append_nil];by_cases h0:p.index-y=0
   ·rw[if_pos h0];have e:Cy 0 p.kind p.index y=[p.index]:=by unfold Cy;rw[if_pos ⟨hk,h0⟩]
    rw[e];have:=hR v (0+y) hv (by omega) (by omega) (by omega)
    rwa [show 1+[p.index].length*(r.size-1)=r.size by simp;omega]
   ·rw[if_neg h0];have e:Cy 0 p.kind p.index y=[]:=by unfold Cy;rw[if_neg (fun h=>h0 h.2)]
    rw[e];simp only[List.length_nil,Nat.zero_mul,Nat.add_zero];split
    ·exact Ra _ (by omega)
    ·exact Ra _ hi
  ·rw[if_neg hk];have e:Cy 0 p.kind p.index y=[]:=by unfold Cy;rw[if_neg (fun h=>hk h.1)]
   rw[e,List.nil_append];have b1:0<=Az p.kind/\Az p.kind<=2:=by unfold Az;split<;>(try split)<;>omega
   have b2:0<=Ay p.kind/\Ay p.kind<=1:=by unfold Ay;split<;>omega
   have key:∀(l:List Pf),(∀x∈l,x∈p.args)->(∀x∈Pf.EJ 0 r v y (Az p.kind) (Ay p.kind) l,∃m,Pz (C+200000) m x)/\
    ((Pf.EJ 0 r v y (Az p.kind) (Ay p.kind) l).map Pf.size).sum=(l.map Pf.size).sum+(Pf.AY (Cy 0) y (Ay p.kind) l).flatten.length*(r.size-1):=by
    intro l;induction l with
    |nil=>intro _;simp[Pf.EJ,Pf.AY]
    |cons x l ihl=>
     intro hx;have h0:=hx x (by simp);have h2:=ze Pf.size h0;obtain⟨a1,a2⟩:=ihl fun z hz=>hx z (by simp[hz]);have h1:=ih x h0 (s6 x h0) (s3 x h0) (i3 x h0) (if l.length=0 then v+Az p.kind else v) (if l.length=0 then y+Ay p.kind else y) (by split<;>omega) (by split<;>omega) (by split<;>omega) (by split<;>omega);simp only[Pf.EJ,Pf.AY,List.mem_cons,List.map_cons,List.sum_cons,List.flatten_cons,List.length_append];refine⟨fun z hz=> ?_,?_⟩
     ·rcases hz with rfl|hz
      ·exact ⟨_,h1⟩
      ·exact a1 z hz
     ·rw[a2,h1.2.2.1,Nat.add_mul];omega
   obtain⟨k1,k2⟩:=key p.args fun _ h=>h;exact Tc hs hm rfl rfl (fun t ht=>⟨s4 t ht,fun q hq=>by have:=i1 t ht q hq;omega⟩) (fun f hf=>⟨s5 f hf,fun q hq s hs=>by have:=i2 f hf q hq s hs;omega⟩) (PY _ _ _ _ _ _ _) k1 k2
theorem Ypq(C fr n:Int)(p:Pf):p.hx C->∀v,(p.up fr n v).hx C:=by
 induction p using Pf.ind with
 |h p ih=>
  intro h v;obtain⟨h1,h2⟩:=(Pf.BS C p).1 h;rw[Pf.Hy,Pf.BS];simp only[Pf.Ah,Pf.A4,Pf.Ac];refine⟨h1,fun hk x hx=> ?_⟩;obtain⟨m,hm,rfl⟩:=List.getElem_of_mem hx;rw[Tb] at hm;rw[YX _ _ _ _ _ _ hm];exact ih _ (List.getElem_mem hm) (h2 hk _ (List.getElem_mem hm)) _
theorem LG:BR.full=2:=by decide
theorem Ygy{p:Pf}{a:Int}{s:Tm}(h:vn p a s≠0):CG p a s=BR:=if_neg h
theorem Yey{p q:Pf}{a:Int}(h:Eb p a q≠0):HL p a q=BR:=if_neg h
theorem O9{p:Pf}(h:p.err=0):p.full<=1064960:=by
 have h1:=(Pf.Ae p).1 h;have:=Qm p h1.1;omega
theorem Xo{p:Pf}{C C':Int}(h:p.lx C)(hc:C<=C'):p.lx C':=by
 induction p using Pf.ind with
 |h p ih=>
  obtain⟨h1,h2⟩:=(Pf.CL C p).1 h;exact(Pf.CL C' p).2 ⟨fun hk=>by have:=h1 hk;omega,fun x hx=>ih x hx (h2 x hx)⟩
theorem VT{p:Pf}(h:p.kind=16\/p.kind=17):xv p=(p.kind,(p.terms.getD 0 AU).kind):=if_pos h
theorem VD{p:Pf}(h:¬(p.kind=16\/p.kind=17))(h0:0<p.args.length):xv p=(p.kind,(p.args.getD 0 BR).kind):=by unfold xv;rw[if_neg h,if_pos h0]
theorem VO{p:Pf}(h:¬(p.kind=16\/p.kind=17))(h0:¬0<p.args.length):xv p=(p.kind,0):=by unfold xv;rw[if_neg h,if_neg h0]
theorem Pf.Gj(p:Pf):p.nx=if HD p=true then((yi p).1,true,(yi p).2) else(.mk p.kind p.index p.ty p.terms p.Ad (Pf.Fl p.args).1,(Pf.Fl p.args).2.1,(Pf.Fl p.args).2.2):=by cases p;simp only[Pf.nx];rfl
theorem Pf.Ew(p:Pf):p.direct=if HD p=true then false else Pf.Dh p.args:=by cases p;simp only[Pf.direct];rfl
theorem XS:∀l:List Pf,Pf.Dh l=l.all Pf.direct
 |[]=>rfl
 |p::l=>by simp only[Pf.Dh,List.all_cons,XS l]
theorem Zq{p:Pf}(hs:p.shape=true):(p.kind=16\/p.kind=17->p.terms≠[]):=by
 intro h;obtain⟨hh,_⟩:=zl hs;obtain⟨nd,n1,n2,_⟩:=HF hh;have:nd.terms=1:=by
  rcases h with h|h<;>(rw[h] at n1;unfold BX at n1;simp at n1;rw[<-n1])
 intro hc;rw[hc,this] at n2;cases n2
theorem Zr{p:Pf}{a:Int}{t:Tm}(h:vn p a t=0):p.err=0/\(0<=a/\a<=4096)/\t.err=0/\p.Bh=true/\t.near=true/\C1 t.size (E8 p a t)=false/\CM p.size t.size (E8 p a t)<=16384:=by
 have h1:p.err=0:=Decidable.byContradiction fun hc=>by rw[SD hc] at h;exact hc h
 have h2:0<=a/\a<=4096:=Decidable.byContradiction fun hc=>by rw[XN h1 hc] at h;cases h
 have h3:t.err=0:=Decidable.byContradiction fun hc=>by rw[UR h1 h2 hc] at h;exact hc h
 have h4:¬(p.Bh=false\/t.near=false):=fun hc=>by rw[WT h1 h2 h3 hc] at h;cases h
 rw[T0 h1 h2 h3 h4] at h;have h5:¬(C1 t.size (E8 p a t)=true\/CM p.size t.size (E8 p a t)>16384):=fun hc=>by rw[if_pos hc] at h;cases h
 refine⟨h1,h2,h3,?_,?_,?_,?_⟩
 ·cases e:p.Bh with|true=>rfl|false=>exact absurd (.inl e) h4
 ·cases e:t.near with|true=>rfl|false=>exact absurd (.inr e) h4
 ·cases e:C1 t.size (E8 p a t) with|false=>rfl|true=>exact absurd (.inl e) h5
 ·exact Int.not_lt.1 fun e=>h5 (.inr e)
theorem Yiq{p:Pf}{a:Int}{t:Tm}(h:vn p a t=0):(CG p a t).err=0:=by
 obtain⟨h1,h2,h3,_,_,hB,hN⟩:=Zr h;obtain⟨g1,g2,g3⟩:=(Pf.Ae p).1 h1;have e:CG p a t=p.pt a t 0:=by unfold CG;rw[if_pos h]
 unfold C1 at hB;rw[List.any_eq_false] at hB;rw[UY] at hN;obtain⟨k1,k2,k3⟩:=Ut h2.1 ((Tm.Ae t).1 h3).1 p g1 0 (by omega) fun q hq=>by
  have:=hB q hq;simp at this;omega
 unfold E8 at hN;rw[e,Pf.Ae];exact⟨k1,k2,by omega⟩
theorem Zuv{p q:Pf}{a:Int}(h:Eb p a q=0):p.err=0/\(0<=a/\a<=16384)/\q.err=0/\p.Bj=true/\q.Bj=true/\q.Bh=true/\(p.size:Int)+FD p a*(q.size-1)<=16384:=by
 have h1:p.err=0:=Decidable.byContradiction fun hc=>by rw[Vy hc] at h;exact hc h
 have h2:0<=a/\a<=16384:=Decidable.byContradiction fun hc=>by rw[Wb h1 hc] at h;cases h
 have h3:q.err=0:=Decidable.byContradiction fun hc=>by rw[U1 h1 h2 hc] at h;exact hc h
 have h4:¬(p.Bj=false\/q.Bj=false\/q.Bh=false):=fun hc=>by rw[U2 h1 h2 h3 hc] at h;cases h
 rw[XK h1 h2 h3 h4] at h;refine⟨h1,h2,h3,?_,?_,?_,?_⟩
 ·cases e:p.Bj with|true=>rfl|false=>exact absurd (.inl e) h4
 ·cases e:q.Bj with|true=>rfl|false=>exact absurd (.inr (.inl e)) h4
 ·cases e:q.Bh with|true=>rfl|false=>exact absurd (.inr (.inr e)) h4
 ·exact Int.not_lt.1 fun e=>by rw[if_pos e] at h;cases h
theorem Lc{α:Type}{P:α->Int->Prop}(hP:∀x c c',P x c->c<=c'->P x c')(c0:Int):∀l:List α,(∀x∈l,∃c,P x c)->∃c,c0<=c/\∀x∈l,P x c
 |[],_=>⟨c0,by omega,fun x h=>by cases h⟩
 |x::l,h=>by
  obtain⟨c,h1,h2⟩:=Lc hP c0 l fun y hy=>h y (by simp[hy]);obtain⟨d,h3⟩:=h x (by simp);by_cases hcd:c<=d
  ·exact ⟨d,by omega,fun y hy=>by rcases List.mem_cons.1 hy with rfl|hy;exact h3;exact hP _ _ _ (h2 y hy) hcd⟩
  ·exact ⟨c,h1,fun y hy=>by rcases List.mem_cons.1 hy with rfl|hy;exact hP _ _ _ h3 (by omega);exact h2 y hy⟩
theorem Yj9(p:Pf):p.shape=true->∃C:Int,549755813888<=C/\p.ix C:=by
 induction p using Pf.ind with
 |h p ih=>
  intro hs;obtain⟨_,s4,s5,s6⟩:=zl hs;have bv:∀l:List (Int×Int),(∀q∈l,0<=q.1)->∃c,(549755813888:Int)<=c/\∀q∈l,0<=q.1/\q.1<c:=fun l hl=>
   Lc (P:=fun(q:Int×Int) c=>0<=q.1/\q.1<c) (fun x c c' h h'=>⟨h.1,by omega⟩) _ l fun q hq=>⟨q.1+1,hl q hq,by omega⟩
  obtain⟨c1,g1,k1⟩:=Lc (P:=fun(t:Tm) c=>∀q∈t.vars 0,0<=q.1/\q.1<c) (fun x c c' h h' q hq=>⟨(h q hq).1,by have:=(h q hq).2;omega⟩) 549755813888 p.terms fun t ht=>by
   obtain⟨c,_,h⟩:=bv (t.vars 0) fun q hq=>t.AB (s4 t ht) 0 q hq;exact⟨c,h⟩
  obtain⟨c2,g2,k2⟩:=Lc (P:=fun(f:Fm) c=>∀z∈f.AZ 0,∀q∈z.1.vars 0,0<=q.1/\q.1<c) (fun x c c' h h' z hz q hq=>⟨(h z hz q hq).1,by have:=(h z hz q hq).2;omega⟩) 549755813888 p.Ad fun f hf=>by
   obtain⟨c,_,h⟩:=Lc (P:=fun(z:Tm×Int) c=>∀q∈z.1.vars 0,0<=q.1/\q.1<c) (fun x c c' h h' q hq=>⟨(h q hq).1,by have:=(h q hq).2;omega⟩) 0 (f.AZ 0) fun z hz=>by
    obtain⟨c,_,h⟩:=bv (z.1.vars 0) fun q hq=>z.1.AB (LJ f (s5 f hf) 0 z hz) 0 q hq;exact⟨c,h⟩
   exact⟨c,h⟩
  obtain⟨c3,g3,k3⟩:=Lc (P:=fun(x:Pf) c=>x.ix c) (fun x c c' h h'=>NA h h') 549755813888 p.args fun x hx=>by
   obtain⟨c,_,h⟩:=ih x hx (s6 x hx);exact⟨c,h⟩
  refine⟨c1+c2+c3,by omega,(Pf.BA _ p).2 ⟨fun t ht q hq=>⟨(k1 t ht q hq).1,by have:=(k1 t ht q hq).2;omega⟩,fun f hf z hz q hq=>⟨(k2 f hf z hz q hq).1,by have:=(k2 f hf z hz q hq).2;omega⟩,fun x hx=>NA (k3 x hx) (by omega)⟩⟩
theorem Yfb{r:Pf}(he:r.err=0)(hn:r.Bh=true)(hh:r.Bj=true){v h:Int}(hv:0<=v/\v<=200000)(hh2:0<=h/\h<=200000):
 r.Fw v h=(r.up 0 v 0).lh 0 h 0/\Pz (549755813888+v) r.size ((r.up 0 v 0).lh 0 h 0):=by
 obtain⟨hs,hm,hz⟩:=(Pf.Ae r).1 he;have hi:=UX r hs hm 0 hn;have hx:=Vu r hs 0 hh;have h1:=Yo3 (fr:=0) (n:=v) (C:=549755813888) hv.1 hs hm hi 0;have hf:=Qm _ h1.1;have h2:=h1.2.2.1;unfold Pf.Fw;rw[Yom (by omega) hs hm hi 0];rw[Ypr (by omega) (KE _ h1.1) (Ypq _ _ _ _ hx 0) 0 (by omega)];refine⟨rfl,?_⟩;have:=Ypc (f:=0) (b:=h) hh2.1 h1.1 h1.2.1 h1.2.2.2 0
 rwa [h2] at this
theorem Yek{p q:Pf}(h:Eb p 0 q=0):(HL p 0 q).err=0:=by
 obtain⟨h1,_,h3,n1,n2,n3,hN⟩:=Zuv h;obtain⟨g1,g2,g3⟩:=(Pf.Ae p).1 h1;have rp:=q.size_pos;have e:HL p 0 q=Pf.ph 0 q 0 0 p:=by unfold HL;rw[if_pos h]
 have hsz:((p.size+(p.Cw (Cy 0) 0).length*(q.size-1):Nat):Int)=(p.size:Int)+FD p 0*(q.size-1):=by
  unfold FD;rw[Int.natCast_add,Int.natCast_mul,show(((q.size-1:Nat)):Int)=(q.size:Int)-1 by omega]
 obtain⟨C,hC,hix⟩:=Yj9 p g1;have hA:Pz _ _ (Pf.ph 0 q 0 0 p):=Ypv (p:=p) (r:=q) (C:=C) (fun v h q1 q2 q3 q4=>by
  obtain⟨w1,w2⟩:=Yfb h3 n3 n2 ⟨q1,q2⟩ ⟨q3,q4⟩;rw[w1];exact⟨w2.1,w2.2.1,w2.2.2.1,NA w2.2.2.2 (by omega)⟩) (by omega) g1 g2 hix 0 0 (by omega) (by omega) (by omega) (by omega)
 rw[e];exact hA.err (by omega)
theorem LF(p:Pf)(a:Int)(t:Tm):(CG p a t).full<=1064960:=by
 by_cases h:vn p a t=0
 ·exact O9 (Yiq h)
 ·rw[Ygy h,LG];omega
theorem Zg(p q:Pf):(HL p 0 q).full<=1064960:=by
 by_cases h:Eb p 0 q=0
 ·exact O9 (Yek h)
 ·rw[Yey h,LG];omega
theorem Um(q:Pf)(t:Tm)(p:Pf):(ET q t p).1.full<=1064960:=by
 unfold ET;split
 ·simp only[LG];omega
 ·exact Zg _ _
theorem Yml(p:Pf):2<=p.full:=by rw[p.Ag];have:=p.ty.size_pos;omega
theorem RX(p:Pf)(i:Nat):(p.arg i).full<=p.full:=by
 unfold Pf.arg;by_cases h:i<p.args.length
 ·rw[KB h];have h1:=ze Pf.full (List.getElem_mem h);rw[p.Ag];omega
 ·rw[List.getD,List.getElem?_eq_none (by omega)];exact Nat.le_trans (Nat.le_of_eq LG) (Yml p)
theorem Zqy(p:Pf):(yi p).1.full<=p.full+1064960:=by
 have h0:=RX p 0;have h1:=RX (p.arg 0) 0;have h2:=RX (p.arg 0) 1;unfold yi;repeat' split
 all_goals first
  |(simp only;omega)
  |(have:=Zg ((p.arg 0).arg 0) (p.arg 1);simp only;omega)
  |(have:=LF ((p.arg 0).arg 0) 0 p.Fv;simp only;omega)
  |(exact Nat.le_trans (Um _ _ _) (by omega))
  |(unfold Ll;split
    ·simp only[LG];omega
    ·split
     ·simp only[LG];omega
     ·exact Nat.le_trans (Um _ _ _) (by omega))
theorem Yi4(p:Pf):p.nx.1.full<=p.full+1064960:=by
 induction p using Pf.ind with
 |h p ih=>
  rw[Pf.Gj];split
  ·exact Zqy p
  ·have key:∀l:List Pf,(∀x∈l,x∈p.args)->((Pf.Fl l).1.map Pf.full).sum<=(l.map Pf.full).sum+1064960:=by
    intro l;induction l with
    |nil=>intro _;simp[Pf.Fl]
    |cons x l ihl=>
     intro hx;have h1:=ih x (hx x (by simp));have h2:=ihl fun z hz=>hx z (by simp[hz]);simp only[Pf.Fl];split
     ·simp only[List.map_cons,List.sum_cons];omega
     ·simp only[List.map_cons,List.sum_cons];omega
   have h1:=key p.args fun _ h=>h;simp only;rw[Pf.Ag,p.Ag];simp only[Pf.AL,Pf.Am,Pf.Au,Pf.Ac];omega
theorem Zm(p:Pf):(xv p).1=p.kind:=by unfold xv;split;rfl;split<;>rfl
theorem UF:∀(l:List Pf) (m:Nat) (hm:m<l.length),(∀i (hi:i<l.length),i<m->l[i].nx.2.1=false/\l[i].nx.2.2=0)->(l[m].nx.2.1=true\/l[m].nx.2.2≠0)->Pf.Fl l=(l.set m l[m].nx.1,l[m].nx.2.1,l[m].nx.2.2)
 |p::l,0,hm,h,hx=>by simp only[Pf.Fl,List.getElem_cons_zero] at hx ⊢;rw[if_pos hx];rfl
 |p::l,m+1,hm,h,hx=>by
  have h0:=h 0 (by simp) (by omega);simp only[List.getElem_cons_zero] at h0;simp only[Pf.Fl,List.getElem_cons_succ];rw[if_neg (by simp[h0.1,h0.2]),UF l m (by simpa using hm) (fun i hi him=>h (i+1) (by simpa using hi) (by omega)) hx]
  rfl
theorem ZF:∀(l:List Pf),(∀i (hi:i<l.length),l[i].nx.2.1=false/\l[i].nx.2.2=0)->Pf.Fl l=(l,false,0)
 |[],_=>rfl
 |p::l,h=>by
  have h0:=h 0 (by simp);simp only[List.getElem_cons_zero] at h0;simp only[Pf.Fl];rw[if_neg (by simp[h0.1,h0.2]),ZF l fun i hi=>h (i+1) (by simpa using hi)]
theorem XV{p:Pf}(h:(DM p).2.2=0):p.nx.2.2=0/\(DM p).1=p.nx.1/\(DM p).2.1=p.nx.2.1/\p.nx.1.err=0:=by
 unfold DM at h ⊢;by_cases hc:p.nx.2.2≠0\/p.nx.1.err≠0
 ·rw[if_pos hc] at h;cases h
 ·rw[if_neg hc];exact⟨Decidable.not_not.1 fun h=>hc (.inl h),rfl,rfl,Decidable.not_not.1 fun h=>hc (.inr h)⟩
theorem Yox(p:Pf):p.nd->p.hx 10000->p.lx 10000->∀y,(p.Cw DF y).all id=true:=by
 induction p using Pf.ind with
 |h p ih=>
  intro hs hh hx y;obtain⟨i1,i2⟩:=(Pf.BS _ p).1 hh;obtain⟨j1,j2⟩:=(Pf.CL _ p).1 hx;obtain⟨⟨nd0,a1,a2⟩,a3⟩:=(Pf.BL p).1 hs;rw[Pf.BC,List.all_append,Bool.and_eq_true];refine⟨List.all_eq_true.2 fun b hb=> ?_,List.all_eq_true.2 fun b hb=> ?_⟩
  ·unfold DF at hb;by_cases hk:p.kind=1\/p.kind=2
   ·rw[if_pos hk] at hb;simp only[List.mem_singleton] at hb;subst hb;rcases hk with hk|hk
    ·have:=i1 hk;simp;omega
    ·have:=j1 hk;simp;omega
   ·rw[if_neg hk] at hb;cases hb
  ·obtain ⟨l,hl,hb⟩:=List.mem_flatten.1 hb;obtain⟨m,hm,rfl⟩:=List.getElem_of_mem hl;rw[HJ] at hm;rw[ID _ _ _ _ _ hm] at hb;have hk:p.kind≠1:=fun e=>by
    rw[e] at a1;simp[BX] at a1;rw[<-a1] at a2;simp at a2;simp[a2] at hm
   exact List.all_eq_true.1 (ih _ (List.getElem_mem hm) (a3 _ (List.getElem_mem hm)) (i2 hk _ (List.getElem_mem hm)) (j2 _ (List.getElem_mem hm)) _) b hb
theorem Zxo{p:Pf}(hs:p.shape=true)(h1:p.ix 10000)(h2:p.hx 10000)(h3:p.lx 10000):p.Cn=true:=by
 unfold Pf.Cn;rw[show p.Bh=true from Uo p h1 0,show p.Bj=true from Yd2 p (KE p hs) h2 0];rw[List.all_append,Yox p (KE p hs) h2 h3 0]
 rfl
theorem Made.near{n:Nat}{p:Pf}(h:Made n p):p.Cn=true:=Zxo h.shape h.ix h.hx h.lx
theorem X5(t:Tm):∀b,∀q∈t.vars b,b<=q.2/\q.2<=b+t.size:=by
 induction t using Tm.ind with
 |h t ih=>
  intro b q hq;have hz:=t.size_eq;rw[t.AM,List.mem_append] at hq;rcases hq with hq|hq
  ·split at hq
   ·simp only[List.mem_singleton] at hq;subst hq;simp only;omega
   ·cases hq
  ·obtain ⟨x,hx,hq⟩:=List.mem_flatMap.1 hq;have h1:=ih x hx _ q hq;have h2:=ze Tm.size hx;have h3:b<=up t.kind b/\up t.kind b<=b+1:=by unfold up;split<;>omega
   omega
theorem Zwy(f:Fm):∀b,∀q∈f.AZ b,b<=q.2/\q.2<=b+f.size/\q.1.size<=f.size:=by
 induction f using Fm.ind with
 |h f ih=>
  intro b q hq;have hz:=f.size_eq;rw[f.A6,List.mem_append] at hq;rcases hq with hq|hq
  ·obtain ⟨t,ht,rfl⟩:=List.mem_map.1 hq;have h2:=ze Tm.size ht;simp only;omega
  ·obtain ⟨x,hx,hq⟩:=List.mem_flatMap.1 hq;have h1:=ih x hx _ q hq;have h2:=ze Fm.size hx;have h3:b<=AE f.kind b/\AE f.kind b<=b+1:=by unfold AE;split<;>omega
   omega
theorem Zn{t s:Tm}(ht:t.shape=true)(hs:s.shape=true){a C:Int}(ha:0<=a)(h:∀q∈t.vars 0,0<=q.1/\q.1<C)(h2:∀q∈s.vars 0,0<=q.1/\q.1<C):
 (t.re (xu a s) 0).shape=true/\∀q∈(t.re (xu a s) 0).vars 0,0<=q.1/\q.1<C+a+t.size:=by
 have hsh:=MP (at_:=a) 0 hs ht (by omega) ha fun p hp=>by have:=X5 t 0 p hp;omega
 refine⟨hsh,fun q hq=>⟨Tm.AB _ hsh 0 q hq,?_⟩⟩;rw[Ok _ _ _ ht] at hq;obtain⟨p,hp,hq⟩:=List.mem_flatMap.1 hq;have hd:=X5 t 0 p hp;have hb:=h p hp;unfold xu at hq;by_cases hc:p.1-p.2=a
 ·rw[if_pos hc] at hq;obtain⟨q',hq',e⟩:=OV (b':=0) q hq;have:=RJ (fr:=0) (by_:=a+p.2) (C:=C-1) hs (by omega) (fun r hr=>by have:=h2 r hr;omega) q' hq';omega
 ·rw[if_neg hc] at hq;simp only[Tm.vars,Tm.B1,if_true,List.append_nil,List.mem_singleton] at hq;subst hq;simp only;split<;>omega
theorem Yc8{f:Fm}{s:Tm}(hf:f.shape=true)(hs:s.shape=true){a C:Int}(ha:0<=a)(h:∀q∈f.AZ 0,∀r∈q.1.vars 0,0<=r.1/\r.1<C)(h2:∀q∈s.vars 0,0<=q.1/\q.1<C):
 ∀q∈(f.put a s).AZ 0,∀r∈q.1.vars 0,0<=r.1/\r.1<C+a+2*f.size:=by
 intro q hq r hr;rw[Fm.put,Rx] at hq;obtain⟨p,hp,rfl⟩:=List.mem_map.1 hq;have hd:=Zwy f 0 p hp;have:=(Zn (a:=a+p.2) (C:=C) (LJ f hf 0 p hp) hs (by omega) (h p hp) h2).2 r hr;omega
theorem Ypw{s:Tm}{C:Int}(hs:s.shape=true)(h2:∀q∈s.vars 0,0<=q.1/\q.1<C)(p:Pf):p.shape=true->p.small=true->p.ix C->∀v:Int,0<=v->v+2*p.size<=200000->(p.pt 0 s v).ix (C+250000):=by
 induction p using Pf.ind with
 |h p ih=>
  intro hp hm hix v hv hvz;obtain⟨s1,s2,s3⟩:=wh hm;obtain⟨_,s4,s5,s6⟩:=zl hp;obtain⟨i1,i2,i3⟩:=(Pf.BA _ p).1 hix;have hz:=p.size_eq;have fv:0<=AK p.kind/\AK p.kind<=2:=by unfold AK;split<;>(try split)<;>omega
  have b1:0<=Az p.kind/\Az p.kind<=2:=by unfold Az;split<;>(try split)<;>omega
  rw[Pf.Ev,Pf.BA];simp only[Pf.Am,Pf.Au,Pf.Ac];refine⟨fun t ht q hq=> ?_,fun f hf q hq r hr=> ?_,fun x hx=> ?_⟩
  ·obtain ⟨u,hu,rfl⟩:=List.mem_map.1 ht;have:=(Zn (a:=0+v) (s4 u hu) hs (by omega) (i1 u hu) h2).2 q hq;have:=s1 u hu;omega
  ·obtain ⟨u,hu,rfl⟩:=List.mem_map.1 hf;have:=Yc8 (a:=0+(v+AK p.kind)) (s5 u hu) hs (by omega) (i2 u hu) h2 q hq r hr;have:=s2 u hu;omega
  ·obtain ⟨m,hm2,rfl⟩:=List.getElem_of_mem hx;rw[Jg] at hm2;rw[Ny _ _ _ _ _ _ hm2];have h3:=ze Pf.size (List.getElem_mem hm2);exact ih _ (List.getElem_mem hm2) (s6 _ (List.getElem_mem hm2)) (s3 _ (List.getElem_mem hm2)) (i3 _ (List.getElem_mem hm2)) _ (by split<;>omega) (by split<;>omega)
structure Ib (C:Int) (p:Pf):Prop where
 ix:p.ix C
 hx:p.hx C
 lx:p.lx C
theorem Ib.mono{C C':Int}{p:Pf}(h:Ib C p)(hc:C<=C'):Ib C' p:=⟨NA h.ix hc,Rm h.hx hc,Xo h.lx hc⟩
theorem Ib.no{C:Int}:Ib C BR:=by
 constructor<;>simp[BR,Pf.ix,Pf.ixs,Pf.hx,Pf.hxs,Pf.lx,Pf.Lu]
theorem Ib.args{C:Int}{p:Pf}(hs:p.shape=true)(h:Ib C p):∀x∈p.args,Ib C x:=fun x hx=>by
 refine⟨((Pf.BA C p).1 h.ix).2.2 x hx,((Pf.BS C p).1 h.hx).2 (fun hk=> ?_) x hx,((Pf.CL C p).1 h.lx).2 x hx⟩;obtain⟨hh,_⟩:=zl hs;obtain⟨nd,n1,_,_,n4,_⟩:=HF hh;rw[hk] at n1;simp[BX] at n1;rw[<-n1] at n4;rw[List.eq_nil_of_length_eq_zero n4] at hx;cases hx
theorem Ib.arg{C:Int}{p:Pf}(hs:p.shape=true)(h:Ib C p)(i:Nat):Ib C (p.arg i):=by
 unfold Pf.arg;by_cases hi:i<p.args.length
 ·rw[KB hi];exact h.args hs _ (List.getElem_mem hi)
 ·rw[List.getD,List.getElem?_eq_none (by omega)];exact Ib.no
theorem Ib.terms{C:Int}{p:Pf}(h:Ib C p):∀t∈p.terms,∀q∈t.vars 0,0<=q.1/\q.1<C:=((Pf.BA C p).1 h.ix).1
theorem Ib.put{C:Int}{p:Pf}{t:Tm}(h:Ib C p)(h2:∀q∈t.vars 0,0<=q.1/\q.1<C)(he:vn p 0 t=0):Ib (C+250000) (CG p 0 t):=by
 obtain⟨e1,_,e2,_⟩:=Zr he;obtain⟨g1,g2,g3⟩:=(Pf.Ae p).1 e1;have e:CG p 0 t=p.pt 0 t 0:=by unfold CG;rw[if_pos he]
 rw[e];exact⟨Ypw ((Tm.Ae t).1 e2).1 h2 p g1 g2 h.ix 0 (by omega) (by omega),Rm (W7 _ _ _ _ h.hx 0) (by omega),Xo (VV _ _ _ _ h.lx 0) (by omega)⟩
theorem Ydx(p:Pf):p.ix 500000000->∀v,(p.DB (fun(_:Int) (t:Tm)=>t.near) (fun(_:Int) (f:Fm)=>f.near) v).all id=true:=by
 induction p using Pf.ind with
 |h p ih=>
  intro hix v;obtain⟨i1,i2,i3⟩:=(Pf.BA _ p).1 hix;rw[Pf.Co,List.all_append,List.all_append,Bool.and_eq_true,Bool.and_eq_true];refine⟨⟨List.all_eq_true.2 fun b hb=> ?_,List.all_eq_true.2 fun b hb=> ?_⟩,List.all_eq_true.2 fun b hb=> ?_⟩
  ·obtain ⟨t,ht,rfl⟩:=List.mem_map.1 hb;exact List.all_eq_true.2 fun q hq=>by have:=i1 t ht q hq;simp;omega
  ·obtain ⟨f,hf,rfl⟩:=List.mem_map.1 hb;exact List.all_eq_true.2 fun q hq=>List.all_eq_true.2 fun r hr=>by have:=i2 f hf q hq r hr;simp;omega
  ·obtain ⟨l,hl,hb⟩:=List.mem_flatten.1 hb;obtain⟨m,hm,rfl⟩:=List.getElem_of_mem hl;rw[HX] at hm;rw[IY _ _ _ _ _ _ hm] at hb;exact List.all_eq_true.1 (ih _ (List.getElem_mem hm) (i3 _ (List.getElem_mem hm)) _) b hb
theorem WI(p:Pf):p.shape=true->Ib 500000000 p->∀y,(p.Cw Dl y).all id=true/\(p.Cw DF y).all id=true:=by
 induction p using Pf.ind with
 |h p ih=>
  intro hs h y;obtain⟨i1,_⟩:=(Pf.BS _ p).1 h.hx;obtain⟨j1,_⟩:=(Pf.CL _ p).1 h.lx;have ha:=h.args hs;have hsa:=(zl hs).2.2.2;rw[Pf.BC,Pf.BC,List.all_append,List.all_append,Bool.and_eq_true,Bool.and_eq_true];refine⟨⟨List.all_eq_true.2 fun b hb=> ?_,List.all_eq_true.2 fun b hb=> ?_⟩,List.all_eq_true.2 fun b hb=> ?_,List.all_eq_true.2 fun b hb=> ?_⟩
  ·unfold Dl at hb;by_cases hk:p.kind=1
   ·rw[if_pos hk] at hb;simp only[List.mem_singleton] at hb;subst hb;have:=i1 hk;simp;omega
   ·rw[if_neg hk] at hb;cases hb
  ·obtain ⟨l,hl,hb⟩:=List.mem_flatten.1 hb;obtain⟨m,hm,rfl⟩:=List.getElem_of_mem hl;rw[HJ] at hm;rw[ID _ _ _ _ _ hm] at hb;exact List.all_eq_true.1 (ih _ (List.getElem_mem hm) (hsa _ (List.getElem_mem hm)) (ha _ (List.getElem_mem hm)) _).1 b hb
  ·unfold DF at hb;by_cases hk:p.kind=1\/p.kind=2
   ·rw[if_pos hk] at hb;simp only[List.mem_singleton] at hb;subst hb;rcases hk with hk|hk
    ·have:=i1 hk;simp;omega
    ·have:=j1 hk;simp;omega
   ·rw[if_neg hk] at hb;cases hb
  ·obtain ⟨l,hl,hb⟩:=List.mem_flatten.1 hb;obtain⟨m,hm,rfl⟩:=List.getElem_of_mem hl;rw[HJ] at hm;rw[ID _ _ _ _ _ hm] at hb;exact List.all_eq_true.1 (ih _ (List.getElem_mem hm) (hsa _ (List.getElem_mem hm)) (ha _ (List.getElem_mem hm)) _).2 b hb
theorem Ib.near{p:Pf}(hs:p.shape=true)(h:Ib 500000000 p):p.Cn=true:=by
 unfold Pf.Cn;rw[show p.Bh=true from Ydx p h.ix 0,show p.Bj=true from(WI p hs h 0).1,List.all_append,(WI p hs h 0).2]
 rfl
section
variable {α:Type}
theorem Ya2(F:Int->Int->List α)(p:Pf):∀v w:Int,p.Cw (fun k i _=>F k i) v=p.Cw (fun k i _=>F k i) w:=by
 induction p using Pf.ind with
 |h p ih=>
  intro v w;rw[Pf.BC,Pf.BC];congr 2;have key:∀(l:List Pf),(∀x∈l,x∈p.args)->Pf.AY (fun k i _=>F k i) v (Ay p.kind) l=Pf.AY (fun k i _=>F k i) w (Ay p.kind) l:=by
   intro l;induction l with
   |nil=>intro _;simp only[Pf.AY]
   |cons x l ihl=>
    intro hx;simp only[Pf.AY];rw[ihl fun z hz=>hx z (by simp[hz]),ih x (hx x (by simp)) _ (if l.length=0 then w+Ay p.kind else w)]
  exact key p.args fun _ h=>h
end
def lsF(k0:Int)(k i:Int):List Bool:=if k=k0 then [decide (i<=536870912)] else []
def Pf.lsH(k0:Int)(p:Pf):Bool:=(p.Cw (fun k i _=>lsF k0 k i) 0).all id
def sndS(l:List (Int×Int)):Int:=(l.map Prod.snd).sum
def nrP(p:Pf):Pf×Bool×Int:=if p.nx.2.2=0 then p.nx else(BR,true,p.nx.2.2)
end Go.Ab
namespace Go.Ab
open Go
set_option linter.all false
set_option maxRecDepth 100000
def XG:Tm:=A0 (A0 Cj zT) (vT 0)
def GN(t:Tm):Pf:= .mk 16 0 (.mk 0 []) [t] [AV XG (vT 0)] [xx zT,I1 E9 XG (w8 0)]
def zR(k:Nat):Pf:=(JZ (GN (xd k)) 50).1
def Pf.Jc(p:Pf):Bool:=(p.Cw (fun k _ _=>[decide (k≠16)]) 0).all id
theorem Ykv(p:Pf):p.Jc=(decide (p.kind≠16)&&p.args.all Pf.Jc):=by
 unfold Pf.Jc;rw[Pf.BC,List.all_append];congr 1
 ·simp
 ·have key:∀(l:List Pf),(Pf.AY (fun k _ _=>[decide (k≠16)]) 0 (Ay p.kind) l).flatten.all id=l.all Pf.Jc:=by
   intro l;induction l with
   |nil=>simp[Pf.AY]
   |cons x l ihl=>
    simp only[Pf.AY,List.flatten_cons,List.all_append,List.all_cons];rw[ihl,Ya2 (fun k _=>[decide (k≠16)]) x _ 0]
    rfl
  exact key p.args
theorem Yh1:∀k:Nat,k<6->(JZ (GN (xd k)) 50).2=((k:Int)+1,0):=by decide+kernel
theorem Ymy:∀k,k<6->(zR k).Jc=true/\(zR k).full<100000/\(zR k).size<10000/\(GN (xd k)).full<100000/\(xd k).full<1000:=by decide+kernel
theorem Yly:∀k,k<6->(v9 [] [] [] (zR k)).2.2=0/\(v9 [] [] [] (GN (xd k))).2.2=0/\(v9 [] [] [] (zR k)).1.full<100000/\(v9 [] [] [] (GN (xd k))).1.full<100000/\
 Lv (v9 [] [] [] (zR k)).1 (v9 [] [] [] (GN (xd k))).1=0:=by decide+kernel
end Go.Ab
