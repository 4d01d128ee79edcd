/- A part of the proofs of this seat. No conditions. -/
import Derived.Test.YtjgokiomgcfclaaGreatDoorA2
namespace Go.Ab
open Go
set_option linter.unusedSimpArgs false
set_option linter.unusedVariables false
theorem R.shift{G:Dm}{g:Gh}{D:Nat->Prop}{es:Es}{w:World}(hR:R G g D es w){n r:Nat}(hn:¬D n)(hr:zm es r=some .row){ρ:DX}(hρ:g.row r=some ρ)(ρ2:Option DX)
 (h2:∀ρ',ρ2=some ρ'->ρ'.b=ρ.b/\ρ'.off+ρ'.cap*ρ'.sz=ρ.off+ρ.cap*ρ.sz/\ρ'.off+ρ'.len*ρ'.sz=ρ.off+ρ.len*ρ.sz/\ρ'.len<=ρ'.cap):
 R G (g.Bi n ρ2) (fun i=>D i\/i=n) ((n,.row)::(r,.gone)::es) w/\Ext D g (Aw g es) w (g.Bi n ρ2) (Aw (g.Bi n ρ2) ((n,.row)::(r,.gone)::es)) w:=by
 obtain⟨cur,t,h1,h3,h4,h5⟩:=hR.BO r _ hr ρ hρ;generalize hg':g.Bi n ρ2=g';have hblk:∀i,g'.blk i=g.blk i:=fun i=>by subst hg';rfl
 have hrow:∀i,D i->g'.row i=g.row i:=fun i hi=>by
  have:i≠n:=fun e=>hn (e▸hi);subst hg';simp[Gh.Bi,this]
 have hnew:g'.row n=ρ2:=by subst hg';simp[Gh.Bi]
 have hmm:∀b,g'.m b=g.m b:=fun b=>by subst hg';rfl
 have hDr:D r:=hR.lt r _ hr;have hent:∀i e,zm ((n,A7.row)::(r,A7.gone)::es) i=some e->(i=n/\e= .row)\/(i=r/\e= .gone)\/(i≠n/\i≠r/\zm es i=some e):=fun i e h=>by
  by_cases hi:i=n
  ·subst hi;exact .inl ⟨rfl,wr h⟩
  ·rcases K1 (ym hi h) with⟨h5,h6⟩|⟨h5,h6⟩
   ·exact .inr (.inl ⟨h5,h6⟩)
   ·exact .inr (.inr ⟨hi,h5,h6⟩)
 have hfold:∀i e b,zm es i=some e->e.Ax g' i=some b->e.Ax g i=some b:=fun i e b h1 h2=>by
  rw[A7.B2 (hR.lt i e h1) (g:=g) (fun i _=>hblk i) hrow] at h2;exact h2
 have hrb:(A7.row).Ax g r=some ρ.b:=by simp[A7.Ax,hρ]
 have hne:∀i e b,i≠r->zm es i=some e->e.Ax g i=some b->b≠ρ.b:=fun i e b hi h5 h6 e2=>by
  subst e2;exact hi (hR.A9 i r e _ _ h5 hr h6 hrb)
 have hnf:∀b,(A7.row).Ax g' n=some b->b=ρ.b:=fun b h=>by
  simp only[A7.Ax,hnew,Option.map_eq_some_iff] at h;obtain⟨ρ',h6,h7⟩:=h;rw[<-h7];exact(h2 ρ' h6).1
 refine⟨hR.step (fun b=>Nat.le_of_eq (hmm b).symm) (fun _ _ _=>rfl) (fun i hi=> .inl hi) (fun i _=>hblk i) hrow ?_ ?_ ?_,?_⟩
 ·intro i e he;rcases hent i e he with⟨rfl,rfl⟩|⟨rfl,rfl⟩|⟨h5,h6,h7⟩
  ·refine .inr ⟨.inr rfl,fun ρ' hρ'=> ?_⟩;rw[hnew] at hρ';obtain⟨q1,q2,q3,q4⟩:=h2 ρ' hρ';exact⟨cur,t,by rw[q1];exact h1,by rw[q2];exact h3,by rw[q1,q3,hmm];exact h4,q4⟩
  ·exact .inr ⟨.inl hDr,trivial⟩
  ·exact .inl ⟨h7,fun b hb=>⟨rfl,hmm b⟩⟩
 ·intro i j e e' b h5 h6 h7 h8;rcases hent i e h5 with⟨rfl,rfl⟩|⟨rfl,rfl⟩|⟨h9,h10,h11⟩
  ·rcases hent j e' h6 with⟨rfl,rfl⟩|⟨rfl,rfl⟩|⟨h12,h13,h14⟩
   ·rfl
   ·cases h8
   ·exact absurd (hnf b h7) (hne j e' b h13 h14 (hfold j e' b h14 h8))
  ·cases h7
  ·rcases hent j e' h6 with⟨rfl,rfl⟩|⟨rfl,rfl⟩|⟨h12,h13,h14⟩
   ·exact absurd (hnf b h8) (hne i e b h10 h11 (hfold i e b h11 h7))
   ·cases h8
   ·exact hR.A9 i j e e' b h11 h14 (hfold i e b h11 h7) (hfold j e' b h14 h8)
 ·intro b hb;rw[hmm];exact hR.fresh b hb
 ·refine {Ext.refl D g (Aw g es) w with row:=hrow,blk:=fun i _=>hblk i,mark:=fun b=>Nat.le_of_eq (hmm b).symm,frame:=fun b _ _=>⟨rfl,hmm b⟩,CF:= ?_};rintro b ⟨i,e,h5,h6⟩;rcases hent i e h5 with⟨rfl,rfl⟩|⟨rfl,rfl⟩|⟨h9,h10,h11⟩
  ·exact .inl ⟨r,_,hr,by rw[hnf b h6];exact hrb⟩
  ·cases h6
  ·exact .inl ⟨i,e,h11,hfold i e b h11 h6⟩
section
variable {E:Env} {N k:Nat} {a:AF} {σ:Ao} {o:Oper}
variable {Q:Exit->AF->Ao->Prop} {ops:List Oper} {dr:Bool} {rest:List Oper} {acc:List Rec}
variable {d:Option Tmp} {ty:TypeId} {ps:String} {af:Array Edge} {gd:Option (Nat×Bool)}
theorem OS.min{t u:TypeId}{x y:Operand}{n m:Int}(ho:o.op= .call {callee:= .builtin .min,args:= #[x,y],argTypes:= #[t,u]})(hx:ev E t a x=some (.int .i64 n))(hy:ev E u a y=some (.int .i64 m)):
 OS E N o a [] (.int .i64 (if m<n then m else n)) [] []:=
 .pure fun g D es w act hR _ hF=>by
  have h1:=(z9 hx hR hF).A8;have h2:=(z9 hy hR hF).A8;exact⟨_,by simp[execOp,ho,resolve,invoke,builtin,Builtin.min_,Builtin.min2,h1,h2],.data (.int _ _)⟩
end
section
variable {E:Env} {N k:Nat} {a:AF} {σ:Ao} {o:Oper}
variable {Q:Exit->AF->Ao->Prop} {ops:List Oper} {dr:Bool} {rest:List Oper} {acc:List Rec}
variable {d:Option Tmp} {ty:TypeId} {ps:String} {af:Array Edge} {gd:Option (Nat×Bool)}
theorem Yr{w:World}{t e:TypeId}{inf:TypeInfo}(hu:E.P.underlying t=some (.slice e))(hi:E.P.info? e=some inf)(kd:IntKind)(lo len cap:Nat)(h1:lo<=len)(h2:len<=cap)(ad:Addr):
 ((Instr.sliceAt t (.slice (some ad) len cap) (some (.int kd (lo:Int))) none none).run E.P w)= .ok (.slice (some (if cap=lo then ad else ad.add (lo*inf.size))) (len-lo) (cap-lo)) w:=by
 have hb:(Instr.sliceBounds true len cap (some (.int kd (lo:Int))) none none).run E.P w= .ok (lo,len,cap) w:=by
  have e1:(0:Int)<=lo/\(lo:Int)<=len:=by omega
  simp[Instr.sliceBounds,Instr.sliceBound,asIntOf,e1];intros;omega
 simp only[Instr.sliceAt,Instr.slice,yp hu,Sem.run_bind,Result.andThen_ok,hb,xm hi,Sem.run_pure,Option.map_some];congr 2;split<;>simp_all[Gd,Addr.add]
theorem Zxe{w:World}{t e:TypeId}{inf:TypeInfo}(hu:E.P.underlying t=some (.slice e))(hi:E.P.info? e=some inf)(kd:IntKind):
 ((Instr.sliceAt t (.slice none 0 0) (some (.int kd ((0:Nat):Int))) none none).run E.P w)= .ok (.slice none 0 0) w:=by
 have hb:(Instr.sliceBounds true 0 0 (some (.int kd ((0:Nat):Int))) none none).run E.P w= .ok (0,0,0) w:=by
  simp[Instr.sliceBounds,Instr.sliceBound,asIntOf]
 simp only[Instr.sliceAt,Instr.slice,yp hu,Sem.run_bind,Result.andThen_ok,hb,xm hi,Sem.run_pure];simp
theorem OS.Iz{t:TypeId}{x y:Operand}{lo n r:Nat}{kd:IntKind}{i:TI}{c:Option EC}{sz bytes:Nat}{l:SL V}(ho:o.op= .slice t x (some y) none none)(ht:E.ti t=some i)(hd:i.desc= .slc c sz bytes)
 (hx:ev E t a x=some (.slice (.own r) l)) (hy:ev E 0 a y=some (.int kd (lo:Int))) (h1:lo<=l.len) (hsz:Nat.beq l.cells sz=true):
 OS E N o a [(r,.row)] (.slice (.own n) (l.sub lo (l.len-lo))) [n] [(n,.row),(r,.gone)]:=
 .of_run fun g D es w act hR hp hn hF=>by
  obtain⟨e,inf,zz,hu,hi2,hs,_,_,_,h7,_⟩:=G5 ht hd;have hcs:l.cells=sz:=Nat.eq_of_beq_eq_true hsz;have hn':¬D n:=hn n (by simp);have hr:zm es r=some .row:=hp (r,.row) (by simp);have hDr:D r:=hR.lt r _ hr;have hvs:=z9 hx hR hF;have hyv:=(z9 hy hR hF).A8;have hDD:∀i,(D i\/i=n)->(D i\/i∈[n]):=fun i h=>h.imp id (fun h=>by simp[h]);have h9:=SL.CR l lo (l.len-lo) (by omega);have hrun:∀v w',(Instr.sliceAt t (act.eval x) (some (.int kd (lo:Int))) none none).run E.P w= .ok v w'->(execOp act.eval o).run E.P w= .ok (.value v) w':=fun v w' h=>by
   simp only[execOp,ho,Sem.run_bind];rw[show(none:Option Operand).map act.eval=none from rfl,show(some y).map act.eval=some (.int kd (lo:Int)) by rw[Option.map_some,hyv],h];simp only[Result.andThen_ok,Sem.run_pure]
  generalize hv:act.eval x=v at hvs hrun;cases hvs with
  |data h=>cases h
  |own _ _ _ _ hrow hdr=>
   cases hρ:g.row r with
   |none=>
    rw[hρ] at hrow;obtain⟨hsv,hl0⟩:=hrow;obtain rfl:lo=0:=by omega
    obtain⟨hRg,hxg⟩:=hR.gone hr;obtain⟨h14,h15⟩:=hRg.HB hn';have h90:(l.sub 0 (l.len-0)).len=0:=by rw[h9.1];omega
    rcases hsv with rfl|⟨ad,rfl⟩
    ·refine ⟨_,.slice none 0 0,w,hrun _ _ (Zxe hu hi2 kd),h14.more hDD,?_,hxg.trans h15⟩;refine Aq.own n (Or.inr (List.mem_singleton.2 rfl)) _ _ ?_ (.nilS _ h90);rw[show(g.Bi n none).row n=none by simp[Gh.Bi]];exact⟨.inl rfl,h90⟩
    ·refine ⟨_,.slice (some ad) 0 0,w,hrun _ _ ?_,h14.more hDD,?_,hxg.trans h15⟩
     ·have:=Yr (w:=w) hu hi2 kd 0 0 0 (Nat.le_refl _) (Nat.le_refl _) ad;simpa using this
     ·refine Aq.own n (Or.inr (List.mem_singleton.2 rfl)) _ _ ?_ (.emp _ h90 ad 0);rw[show(g.Bi n none).row n=none by simp[Gh.Bi]];exact⟨.inr ⟨_,rfl⟩,h90⟩
   |some ρ=>
    rw[hρ] at hrow;obtain⟨rfl,hl1,hl2⟩:=hrow;obtain⟨cur,te,h14,h15,h16,h17⟩:=hR.BO r _ hr ρ hρ;have hszr:ρ.sz=sz:=by rw[<-hl2,hcs]
    have hra:=Yr (w:=w) hu hi2 kd lo ρ.len ρ.cap (by omega) h17 ⟨ρ.b,ρ.off,none⟩;rw[hs] at hra;by_cases hcl:ρ.cap=lo
    ·obtain ⟨h18,h19⟩:=hR.shift hn' hr hρ none (fun ρ' h=>by cases h);have h90:(l.sub lo (l.len-lo)).len=0:=by rw[h9.1];omega
     rw[if_pos hcl,show ρ.len-lo=0 by omega,show ρ.cap-lo=0 by omega] at hra;refine⟨_,_,w,hrun _ _ hra,h18.more hDD,?_,h19⟩;refine Aq.own n (Or.inr (List.mem_singleton.2 rfl)) _ _ ?_ (.emp _ h90 _ 0);rw[show(g.Bi n none).row n=none by simp[Gh.Bi]];exact⟨.inr ⟨_,rfl⟩,h90⟩
    ·have hm1:lo*ρ.sz+(ρ.cap-lo)*ρ.sz=ρ.cap*ρ.sz:=by rw[<-Nat.add_mul];congr 1;omega
     have hm2:lo*ρ.sz+(ρ.len-lo)*ρ.sz=ρ.len*ρ.sz:=by rw[<-Nat.add_mul];congr 1;omega
     obtain⟨h18,h19⟩:=hR.shift hn' hr hρ (some ⟨ρ.b,ρ.len-lo,ρ.cap-lo,ρ.sz,ρ.off+lo*ρ.sz⟩) (fun ρ' h=>by
      cases h;refine⟨rfl,?_,?_,?_⟩
      ·simp only;omega
      ·simp only;omega
      ·simp only;omega)
     rw[if_neg hcl] at hra;have had:(⟨ρ.b,ρ.off,none⟩:Addr).add (lo*sz)=⟨ρ.b,ρ.off+lo*ρ.sz,none⟩:=by rw[hszr,Gd]
     rw[had] at hra;refine⟨_,_,w,hrun _ _ hra,h18.more hDD,?_,h19⟩;refine Aq.own n (Or.inr (List.mem_singleton.2 rfl)) _ _ ?_ ?_
     ·rw[show(g.Bi n (some ⟨ρ.b,ρ.len-lo,ρ.cap-lo,ρ.sz,ρ.off+lo*ρ.sz⟩)).row n=some ⟨ρ.b,ρ.len-lo,ρ.cap-lo,ρ.sz,ρ.off+lo*ρ.sz⟩ by simp[Gh.Bi]];exact⟨rfl,by rw[h9.1,hl1],by rw[h9.2.1];exact hl2⟩
     ·have hmm:(g.Bi n (some ⟨ρ.b,ρ.len-lo,ρ.cap-lo,ρ.sz,ρ.off+lo*ρ.sz⟩)).m=g.m:=rfl;rw[hmm];generalize hcap:ρ.cap=cp at hdr ⊢;generalize hlen:ρ.len=ln at hdr ⊢;cases hdr with
      |emp _ h a cap=>
       obtain rfl:lo=0:=by omega
       exact .emp _ (by rw[h9.1];omega) _ _
      |slice _ b off cap f hm hcap2 hl hc hr=>
       have hd2:=AR.sub hm hcap2 hl hc hr lo (l.len-lo) (by omega);rw[hl2] at hd2;exact hd2
theorem L.YO{t:TypeId}{x y:Operand}{z:Nat}{zr:List V}{ec:EC}{co:Option EC}{sz bytes r:Nat}{kd:IntKind}{xs:List ec.sem}(lo:Nat)(hw:yd ops a gd=some true)(hx:ev E t a x=some (.slice (.own r) (.t ec xs)))(ht:E.ti t=some ⟨z,zr,.slc co sz bytes⟩)
 (hy:ev E 0 a y=some (.int kd (lo:Int))) (hr:zm σ.es r=some .row) (hsz:Nat.beq ec.cells sz=true) (hd:yc N d=true) (hb:lo<=xs.length)
 (h2:AX E N k dr ops rest (a.put d (.slice (.own σ.nx) (.t ec (xs.drop lo)))) (σ.Ar 1 [(σ.nx,.row),(r,.gone)]) (⟨[(r,.row)],.slice (.own σ.nx) (.t ec (xs.drop lo)),1,[(σ.nx,.row),(r,.gone)]⟩::acc) Q):
 AX E N k dr ops (⟨d,.slice t x (some y) none none,ty,ps,af,gd⟩::rest) a σ acc Q:=by
 have e:(SL.t ec xs:SL V).sub lo ((SL.t ec xs:SL V).len-lo)= .t ec (xs.drop lo):=by
  simp only[SL.sub,SL.len];rw[List.take_of_length_le (by simp)]
 rw[<-e] at h2;exact AX.run 1 hw (OS.Iz (l:= .t ec xs) rfl ht rfl (fr (by simp[Op.operands,Call.operands]) hx) (fr (by simp[Op.operands,Call.operands]) hy) hb hsz) ⟨hr,trivial⟩ hd h2
end
end Go.Ab
namespace Go.Ab
open Go
set_option linter.all false
section
variable {H:Type} {enc:TypeId×Value->H} {P:Program} {W:World}
theorem Ypb{i:Int}(h:(Lit.int .u8 i).wf=true):0<=i/\i<256:=by
 have:=(Lit.wf_int_iff .u8 i).1 h;simp[IntKind.min,IntKind.max,IntKind.signed,IntKind.bits] at this;omega
end
end Go.Ab
