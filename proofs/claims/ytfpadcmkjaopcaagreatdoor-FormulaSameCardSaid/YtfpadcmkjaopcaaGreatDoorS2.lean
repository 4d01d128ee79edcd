/- A part of the proofs of this seat's statements: S186, S187, S188, S2, S3. It has no conditions of its own. -/
import Derived.Test.YtfpadcmkjaopcaaGreatDoorS1
import Derived.Test.YtfpadcmkjaopcaaGreatDoorA2
namespace Go.Ab
open Go Go.Proofs
set_option maxRecDepth 100000
set_option maxHeartbeats 4000000
set_option linter.all false
theorem gapp_c(f:Tm)(l:List Tm)(hl:l.length<65536)(hb:∀m (hm:m<l.length),PC E 149 [.i 3,.i 0,.agg (Ty.mk 0 []).view,.s .nd [(l.take m).foldl apT f,l[m]]] (.nd (apT ((l.take m).foldl apT f) l[m]) 0)):
 PC E 171 [.nd f 0,.s .nd l] (.nd (l.foldl apT f) 0):=by
 refine AC.mk Tryz.func171 rfl rfl rfl rfl rfl (Nat.le_of_ble_eq_true rfl) ?_
 repeat'(first|((with_reducible refine D.nil ?_);refine AX.nilL ?_)|((with_reducible refine D.move ?_);refine L.mv U U U ?_)|((with_reducible refine D.assign ?_);refine L.asg U U U ?_)|((with_reducible refine D.call ?_);refine L.lnt U U U U ?_)|((with_reducible refine D.aw ?_);first|refine K.sq (AW.regL ?_)|refine K.sq (K.sq ?_)|refine AW.regL ?_)|with_reducible refine K.tN ?_)
 refine AW.range l.length (fun m=>True)
  (fun m=>([(0,.nd ((l.take m).foldl apT f) 0),(7,.s .nd l),(8,.i l.length),(9,.i m)],⟨0,[]⟩))
  (by omega) (fun m=>rfl) (fun m=>rfl) U trivial (Weak.mk [] _ _ _ U U U U (by(repeat'(first|exact trivial|refine And.intro ?_ ?_|refine⟨_,U,_,U,?_⟩|exact VLe.refl _));done) (by(repeat'(first|exact trivial));done)) ?_ ?_
 ·intro m hm hP
  have hc:=hb m hm
  repeat'(first|((with_reducible refine D.nil ?_);refine AX.nilL ?_)|((with_reducible refine D.load ?_);refine L.lda U U U U U ?_)|((with_reducible refine D.move ?_);refine L.mv U U U ?_)|((with_reducible refine D.assign ?_);refine L.asg U U U ?_)|((with_reducible refine D.call ?_);refine L.c2 (hc) U U U U ?_)|((with_reducible refine D.indexAddr ?_);refine L.ixt _ U U U U U U U (by first|assumption|fail) ?_)|((with_reducible refine D.ax ?_);first|refine L.bd U U U U U ?_|refine L.bs2 U U U U U (EC.fold_of U) U U U (EC.fold_of U) U U ?_)|((with_reducible refine D.aw ?_);first|refine K.sq (AW.regL ?_)|refine AW.regL ?_)|with_reducible refine K.tN ?_|with_reducible refine K.bN ?_)
  exact⟨rfl,trivial,(Weak.mk [] _ _ _ U U U U (by(repeat'(first|exact trivial|refine And.intro ?_ ?_|refine⟨_,U,_,U,?_⟩|exact VLe.refl _|exact VLe.of_eq (by simp[Sto.upd,foldl_take _ _ _ hm])));done) (by(repeat'(first|exact trivial));done))⟩
 ·intro hP
  rw[List.take_length]
  repeat'(first|((with_reducible refine D.nil ?_);refine AX.nilL ?_)|((with_reducible refine D.move ?_);refine L.mv U U U ?_)|((with_reducible refine D.assign ?_);refine L.asg U U U ?_)|((with_reducible refine D.aw ?_);first|refine K.sq (AW.regL ?_)|refine AW.ret ?_)|with_reducible refine K.tN ?_|with_reducible refine K.r1 (by with_unfolding_all rfl) (by with_unfolding_all rfl) ?_)
  all_goals simp[tupV,V.wk,V.wks,constV,Ty.view,Tm.view]
theorem gbuild_app{f x:Tm}(hf:f.shape=true)(hx:x.shape=true)(hz:f.size+x.size<1048576)(h1:∀p∈f.vars 0,p.1<1073741824)(h2:∀p∈x.vars 0,p.1<1073741824):
 PC E 149 [.i 3,.i 0,.agg (Ty.mk 0 []).view,.s .nd [f,x]] (.nd (apT f x) 0):=
 gbuild_t (k:=3) (i:=0) (th:= .mk 0 []) (xs:=[f,x]) (by simp[hf,hx]) (by simp[Tm.size,Tm.sizes];omega) 0 (fun p hp=>by
  have:=idx_node (B:=1073741824) (by omega) (by simpa using ⟨fun a b hp=>h1 (a,b) hp,fun a b hp=>h2 (a,b) hp⟩) p hp
  omega) (by omega)
theorem gapp1_c{f x:Tm}(hf:f.shape=true)(hx:x.shape=true)(hz:f.size+x.size<1048576)(h1:∀p∈f.vars 0,p.1<1073741824)(h2:∀p∈x.vars 0,p.1<1073741824):
 PC E 171 [.nd f 0,.s .nd [x]] (.nd (apT f x) 0):=
 gapp_c f [x] (by simp) fun m hm=>by
  match m,hm with
  |0,_=>exact gbuild_app hf hx hz h1 h2
theorem apT_size(f x:Tm):(apT f x).size=1+f.size+x.size:=by simp[apT,Tm.size,Tm.sizes];omega
theorem apT_idx{f x:Tm}{B:Int}(h1:∀p∈f.vars 0,p.1<B)(h2:∀p∈x.vars 0,p.1<B):∀p∈(apT f x).vars 0,p.1<B:=
 idx_node (by omega) (by simpa using ⟨fun a b hp=>h1 (a,b) hp,fun a b hp=>h2 (a,b) hp⟩)
theorem gapp2_c{f x y:Tm}(hf:f.shape=true)(hx:x.shape=true)(hy:y.shape=true)(hz:1+f.size+x.size+y.size<1048576)(h1:∀p∈f.vars 0,p.1<1073741824)(h2:∀p∈x.vars 0,p.1<1073741824)(h3:∀p∈y.vars 0,p.1<1073741824):
 PC E 171 [.nd f 0,.s .nd [x,y]] (.nd (apT (apT f x) y) 0):=
 gapp_c f [x,y] (by simp) fun m hm=>by
  match m,hm with
  |0,_=>
   have hz1:f.size+x.size<1048576:=by omega
   exact gbuild_app hf hx hz1 h1 h2
  |1,_=>
   have hz1:(apT f x).size+y.size<1048576:=by rw[apT_size];omega
   exact gbuild_app (apT_shape hf hx) hy hz1 (apT_idx h1 h2) h3
theorem gcontract_c{t x:Tm}(hv:RV t x)(hs:t.shape=true)(hz:t.size≤4096)(hix:∀p∈t.vars 0,p.1<1073741824):PC E 162 [.nd t 0] (.nd x 0):=by
 have hargs:=shape_args hs
 cases hv with
 |beta i th j s b a=>
  have hb:b.shape=true:=shape_args (hargs (.mk 2 j s [b]) (by simp)) b (by simp)
  have ha:a.shape=true:=hargs a (by simp)
  have hsz:(Tm.mk 3 i th [Tm.mk 2 j s [b],a]).size=2+b.size+a.size:=by simp[Tm.size,Tm.sizes];omega
  have hia:=idx_sub (t:=Tm.mk 3 i th [Tm.mk 2 j s [b],a]) (x:=a) (by simp) hix
  have hib:=idx_sub (t:=Tm.mk 2 j s [b]) (x:=b) (by simp) (idx_sub (t:=Tm.mk 3 i th [Tm.mk 2 j s [b],a]) (x:=Tm.mk 2 j s [b]) (by simp) hix)
  have h1:=gput_c 0 (by omega) a ha (by omega) (fun p hp=>by have:=hia p hp;omega) _ b 0 (Nat.le_refl _) (by omega) (by omega) (by omega) hb (fun p hp=>by have:=hib p hp;omega)
  refine AC.mk Tryz.func162 rfl rfl rfl rfl rfl (Nat.le_of_ble_eq_true rfl) ?_
  repeat'(first|((with_reducible refine D.nil ?_);first|refine AX.nilL ?_|refine AX.nilD (by kernel_rfl) ?_)|((with_reducible refine D.load ?_);first|refine L.nl U U U U U ?_|refine L.lda U U U U U ?_)|((with_reducible refine D.move ?_);refine L.mv U U U ?_)|((with_reducible refine D.fieldAddr ?_);refine L.nf U U U U U ?_)|((with_reducible refine D.assign ?_);refine L.asg U U U ?_)|((with_reducible refine D.bin ?_);refine L.bn U U U U U ?_)|((with_reducible refine D.call ?_);refine L.c2 (h1) U U U U ?_)|((with_reducible refine D.indexAddr ?_);refine L.ixt _ U U U U U U U (by first|(simp only[Ty.args_mk,Tm.args_mk,List.length_cons,List.length_nil,List.getElem_cons_zero,List.getElem_cons_succ];omega)|fail) ?_)|((with_reducible refine D.ax ?_);refine L.nn U U U ?_)|((with_reducible refine D.aw ?_);first|((with_reducible refine D.blk ?_);refine AW.block ?_)|refine K.sq (AW.regL ?_)|refine K.sq (AW.regD mixed (by kernel_rfl) ?_)|refine K.sq (K.sq ?_)|refine AW.regL ?_|refine AW.condT U ?_|refine AW.ret ?_)|with_reducible refine K.tN ?_|with_reducible refine K.tR ?_|with_reducible refine K.bR ?_|with_reducible refine K.r1 (by with_unfolding_all rfl) (by with_unfolding_all rfl) ?_)
  rfl
 |rz i th _ f j s=>
  refine AC.mk Tryz.func162 rfl rfl rfl rfl rfl (Nat.le_of_ble_eq_true rfl) ?_
  repeat'(first|((with_reducible refine D.nil ?_);first|refine AX.nilL ?_|refine AX.nilD (by kernel_rfl) ?_)|((with_reducible refine D.load ?_);first|refine L.nl U U U U U ?_|refine L.lda U U U U U ?_)|((with_reducible refine D.move ?_);refine L.mv U U U ?_)|((with_reducible refine D.fieldAddr ?_);refine L.nf U U U U U ?_)|((with_reducible refine D.assign ?_);refine L.asg U U U ?_)|((with_reducible refine D.bin ?_);refine L.bn U U U U U ?_)|((with_reducible refine D.call ?_);refine L.lnt U U U U ?_)|((with_reducible refine D.indexAddr ?_);refine L.ixt _ U U U U U U U (by first|(simp only[Ty.args_mk,Tm.args_mk,List.length_cons,List.length_nil,List.getElem_cons_zero,List.getElem_cons_succ];omega)|fail) ?_)|((with_reducible refine D.ax ?_);refine L.nn U U U ?_)|((with_reducible refine D.aw ?_);first|((with_reducible refine D.blk ?_);refine AW.block ?_)|refine K.sq (AW.regL ?_)|refine K.sq (AW.regD mixed (by kernel_rfl) ?_)|refine K.sq (K.sq ?_)|refine AW.regL ?_|refine AW.condT U ?_|refine AW.condF U ?_|refine AW.skip ?_|refine AW.ret ?_)|with_reducible refine K.tN ?_|with_reducible refine K.bN ?_|with_reducible refine K.tR ?_|with_reducible refine K.r1 (by with_unfolding_all rfl) (by with_unfolding_all rfl) ?_)
  rfl
 |fz i th _ f j s=>
  refine AC.mk Tryz.func162 rfl rfl rfl rfl rfl (Nat.le_of_ble_eq_true rfl) ?_
  repeat'(first|((with_reducible refine D.nil ?_);first|refine AX.nilL ?_|refine AX.nilD (by kernel_rfl) ?_)|((with_reducible refine D.load ?_);first|refine L.nl U U U U U ?_|refine L.lda U U U U U ?_)|((with_reducible refine D.move ?_);refine L.mv U U U ?_)|((with_reducible refine D.fieldAddr ?_);refine L.nf U U U U U ?_)|((with_reducible refine D.assign ?_);refine L.asg U U U ?_)|((with_reducible refine D.bin ?_);refine L.bn U U U U U ?_)|((with_reducible refine D.call ?_);refine L.lnt U U U U ?_)|((with_reducible refine D.indexAddr ?_);refine L.ixt _ U U U U U U U (by first|(simp only[Ty.args_mk,Tm.args_mk,List.length_cons,List.length_nil,List.getElem_cons_zero,List.getElem_cons_succ];omega)|fail) ?_)|((with_reducible refine D.ax ?_);refine L.nn U U U ?_)|((with_reducible refine D.aw ?_);first|((with_reducible refine D.blk ?_);refine AW.block ?_)|refine K.sq (AW.regL ?_)|refine K.sq (AW.regD mixed (by kernel_rfl) ?_)|refine K.sq (K.sq ?_)|refine AW.regL ?_|refine AW.condT U ?_|refine AW.condF U ?_|refine AW.skip ?_|refine AW.ret ?_)|with_reducible refine K.tN ?_|with_reducible refine K.bN ?_|with_reducible refine K.tR ?_|with_reducible refine K.r1 (by with_unfolding_all rfl) (by with_unfolding_all rfl) ?_)
  rfl
 |rs i th x f j s n=>
  have hx:=hargs x (by simp)
  have hf:=hargs f (by simp)
  have hn:=shape_args (hargs (.mk 5 j s [n]) (by simp)) n (by simp)
  have hsz:(Tm.mk 6 i th [x,f,Tm.mk 5 j s [n]]).size=2+x.size+f.size+n.size:=by simp[Tm.size,Tm.sizes];omega
  have hi0:i=0:=(shape_index hs).2 (by simp[Tm.kind_mk])
  subst hi0
  have i1:=idx_sub (t:=Tm.mk 6 0 th [x,f,Tm.mk 5 j s [n]]) (x:=x) (by simp) hix
  have i2:=idx_sub (t:=Tm.mk 6 0 th [x,f,Tm.mk 5 j s [n]]) (x:=f) (by simp) hix
  have i3:=idx_sub (t:=Tm.mk 5 j s [n]) (x:=n) (by simp) (idx_sub (t:=Tm.mk 6 0 th [x,f,Tm.mk 5 j s [n]]) (x:=Tm.mk 5 j s [n]) (by simp) hix)
  have i4:∀p∈(Tm.mk 6 0 th [x,f,n]).vars 0,p.1<1073741824:=idx_node (by omega) (by simpa using ⟨fun a b hp=>i1 (a,b) hp,fun a b hp=>i2 (a,b) hp,fun a b hp=>i3 (a,b) hp⟩)
  have hh:th.ok=true:=by rw[Tm.shape_eq,Bool.and_eq_true] at hs;have:=hs.1;simp[Tm.head,typedK] at this;exact this.2
  have hre:(Tm.mk 6 0 th [x,f,n]).shape=true:=by simp[Tm.shape,Tm.shapes,Tm.head,arK,typedK,hf,hx,hn,hh]
  have hsr:(Tm.mk 6 0 th [x,f,n]).size=1+x.size+f.size+n.size:=by simp[Tm.size,Tm.sizes];omega
  have h1:=gwith_c (t:=Tm.mk 6 0 th [x,f,Tm.mk 5 j s [n]]) (xs:=[x,f,n]) (gbuild_t (by simp[hx,hf,hn]) (by show(Tm.mk 6 0 th [x,f,n]).size<_;omega) 0 (fun p hp=>by have:=i4 p hp;omega) ⟨Int.le_refl _,(by decide:(0:Int)<549755813888)⟩)
  have h2:=gapp1_c hf hn (by omega) i2 i3
  have h3:=gapp1_c (apT_shape hf hn) hre (by rw[apT_size];omega) (apT_idx i2 i3) i4
  refine AC.mk Tryz.func162 rfl rfl rfl rfl rfl (Nat.le_of_ble_eq_true rfl) ?_
  repeat'(first|((with_reducible refine D.nil ?_);first|refine AX.nilL ?_|refine AX.nilD (by kernel_rfl) ?_)|((with_reducible refine D.load ?_);first|refine L.nl U U U U U ?_|refine L.lda U U U U U ?_)|((with_reducible refine D.move ?_);refine L.mv U U U ?_)|((with_reducible refine D.fieldAddr ?_);refine L.nf U U U U U ?_)|((with_reducible refine D.assign ?_);refine L.asg U U U ?_)|((with_reducible refine D.bin ?_);refine L.bn U U U U U ?_)|((with_reducible refine D.call ?_);first|refine L.lnt U U U U ?_|refine L.c2 (h1) U U U U ?_|refine L.c2 (h2) U U U U ?_|refine L.c2 (h3) U U U U ?_)|((with_reducible refine D.indexAddr ?_);refine L.ixt _ U U U U U U U (by first|(simp only[Ty.args_mk,Tm.args_mk,List.length_cons,List.length_nil,List.getElem_cons_zero,List.getElem_cons_succ];omega)|(simp;done)|fail) ?_)|((with_reducible refine D.ax ?_);first|refine L.nn U U U ?_|refine L.bs1 U U U U U (EC.fold_of U) U U ?_|refine L.bs3 U U U U U (EC.fold_of U) U U U (EC.fold_of U) U U U (EC.fold_of U) U U ?_)|((with_reducible refine D.aw ?_);first|((with_reducible refine D.blk ?_);refine AW.block ?_)|refine K.sq (AW.regL ?_)|refine K.sq (AW.regD mixed (by kernel_rfl) ?_)|refine K.sq (K.sq ?_)|refine AW.regL ?_|refine AW.condF U ?_|refine AW.skip ?_|refine AW.ret ?_)|with_reducible refine K.tN ?_|with_reducible refine K.bN ?_|with_reducible refine K.r1 (by with_unfolding_all rfl) (by with_unfolding_all rfl) ?_)
  rfl
 |fs i th x f j s n l=>
  have hx:=hargs x (by simp)
  have hf:=hargs f (by simp)
  have hn:=shape_args (hargs (.mk 8 j s [n,l]) (by simp)) n (by simp)
  have hl:=shape_args (hargs (.mk 8 j s [n,l]) (by simp)) l (by simp)
  have hsz:(Tm.mk 9 i th [x,f,Tm.mk 8 j s [n,l]]).size=2+x.size+f.size+n.size+l.size:=by simp[Tm.size,Tm.sizes];omega
  have hi0:i=0:=(shape_index hs).2 (by simp[Tm.kind_mk])
  subst hi0
  have i1:=idx_sub (t:=Tm.mk 9 0 th [x,f,Tm.mk 8 j s [n,l]]) (x:=x) (by simp) hix
  have i2:=idx_sub (t:=Tm.mk 9 0 th [x,f,Tm.mk 8 j s [n,l]]) (x:=f) (by simp) hix
  have i0:=idx_sub (t:=Tm.mk 9 0 th [x,f,Tm.mk 8 j s [n,l]]) (x:=Tm.mk 8 j s [n,l]) (by simp) hix
  have i3:=idx_sub (t:=Tm.mk 8 j s [n,l]) (x:=n) (by simp) i0
  have i5:=idx_sub (t:=Tm.mk 8 j s [n,l]) (x:=l) (by simp) i0
  have i4:∀p∈(Tm.mk 9 0 th [x,f,l]).vars 0,p.1<1073741824:=idx_node (by omega) (by simpa using ⟨fun a b hp=>i1 (a,b) hp,fun a b hp=>i2 (a,b) hp,fun a b hp=>i5 (a,b) hp⟩)
  have hh:th.ok=true:=by rw[Tm.shape_eq,Bool.and_eq_true] at hs;have:=hs.1;simp[Tm.head,typedK] at this;exact this.2
  have hre:(Tm.mk 9 0 th [x,f,l]).shape=true:=by simp[Tm.shape,Tm.shapes,Tm.head,arK,typedK,hf,hx,hl,hh]
  have hsr:(Tm.mk 9 0 th [x,f,l]).size=1+x.size+f.size+l.size:=by simp[Tm.size,Tm.sizes];omega
  have h1:=gwith_c (t:=Tm.mk 9 0 th [x,f,Tm.mk 8 j s [n,l]]) (xs:=[x,f,l]) (gbuild_t (by simp[hx,hf,hl]) (by show(Tm.mk 9 0 th [x,f,l]).size<_;omega) 0 (fun p hp=>by have:=i4 p hp;omega) ⟨Int.le_refl _,(by decide:(0:Int)<549755813888)⟩)
  have h2:=gapp2_c hf hn hl (by omega) i2 i3 i5
  have h3:=gapp1_c (apT_shape (apT_shape hf hn) hl) hre (by rw[apT_size,apT_size];omega) (apT_idx (apT_idx i2 i3) i5) i4
  refine AC.mk Tryz.func162 rfl rfl rfl rfl rfl (Nat.le_of_ble_eq_true rfl) ?_
  repeat'(first|((with_reducible refine D.nil ?_);first|refine AX.nilL ?_|refine AX.nilD (by kernel_rfl) ?_)|((with_reducible refine D.load ?_);first|refine L.nl U U U U U ?_|refine L.lda U U U U U ?_)|((with_reducible refine D.move ?_);refine L.mv U U U ?_)|((with_reducible refine D.fieldAddr ?_);refine L.nf U U U U U ?_)|((with_reducible refine D.assign ?_);refine L.asg U U U ?_)|((with_reducible refine D.bin ?_);refine L.bn U U U U U ?_)|((with_reducible refine D.call ?_);first|refine L.lnt U U U U ?_|refine L.c2 (h1) U U U U ?_|refine L.c2 (h2) U U U U ?_|refine L.c2 (h3) U U U U ?_)|((with_reducible refine D.indexAddr ?_);first|refine L.ixt _ U U U U U U U (by first|(simp only[Ty.args_mk,Tm.args_mk,List.length_cons,List.length_nil,List.getElem_cons_zero,List.getElem_cons_succ];omega)|fail) ?_|refine L.ixt 1 U U U U U U U (by first|(simp only[Ty.args_mk,Tm.args_mk,List.length_cons,List.length_nil,List.getElem_cons_zero,List.getElem_cons_succ];omega)|fail) ?_)|((with_reducible refine D.ax ?_);first|refine L.nn U U U ?_|refine L.bs1 U U U U U (EC.fold_of U) U U ?_|refine L.bs3 U U U U U (EC.fold_of U) U U U (EC.fold_of U) U U U (EC.fold_of U) U U ?_)|((with_reducible refine D.aw ?_);first|((with_reducible refine D.blk ?_);refine AW.block ?_)|refine K.sq (AW.regL ?_)|refine K.sq (AW.regD mixed (by kernel_rfl) ?_)|refine K.sq (K.sq ?_)|refine AW.regL ?_|refine AW.condF U ?_|refine AW.skip ?_|refine AW.ret ?_)|with_reducible refine K.tN ?_|with_reducible refine K.bN ?_|with_reducible refine K.r1 (by with_unfolding_all rfl) (by with_unfolding_all rfl) ?_)
  rfl
 |p1 i th j s _ y=>
  refine AC.mk Tryz.func162 rfl rfl rfl rfl rfl (Nat.le_of_ble_eq_true rfl) ?_
  repeat'(first|((with_reducible refine D.nil ?_);refine AX.nilL ?_)|((with_reducible refine D.load ?_);first|refine L.nl U U U U U ?_|refine L.lda U U U U U ?_)|((with_reducible refine D.move ?_);refine L.mv U U U ?_)|((with_reducible refine D.fieldAddr ?_);refine L.nf U U U U U ?_)|((with_reducible refine D.assign ?_);refine L.asg U U U ?_)|((with_reducible refine D.bin ?_);refine L.bn U U U U U ?_)|((with_reducible refine D.indexAddr ?_);refine L.ixt _ U U U U U U U (by first|(simp only[Ty.args_mk,Tm.args_mk,List.length_cons,List.length_nil,List.getElem_cons_zero,List.getElem_cons_succ];omega)|fail) ?_)|((with_reducible refine D.ax ?_);refine L.nn U U U ?_)|((with_reducible refine D.aw ?_);first|((with_reducible refine D.blk ?_);refine AW.block ?_)|refine K.sq (AW.regL ?_)|refine K.sq (K.sq ?_)|refine AW.regL ?_|refine AW.condT U ?_|refine AW.condF U ?_|refine AW.ret ?_)|with_reducible refine K.tN ?_|with_reducible refine K.tR ?_|with_reducible refine K.bR ?_|with_reducible refine K.r1 (by with_unfolding_all rfl) (by with_unfolding_all rfl) ?_)
  rfl
 |p2 i th j s y _=>
  refine AC.mk Tryz.func162 rfl rfl rfl rfl rfl (Nat.le_of_ble_eq_true rfl) ?_
  repeat'(first|((with_reducible refine D.nil ?_);refine AX.nilL ?_)|((with_reducible refine D.load ?_);first|refine L.nl U U U U U ?_|refine L.lda U U U U U ?_)|((with_reducible refine D.move ?_);refine L.mv U U U ?_)|((with_reducible refine D.fieldAddr ?_);refine L.nf U U U U U ?_)|((with_reducible refine D.assign ?_);refine L.asg U U U ?_)|((with_reducible refine D.bin ?_);refine L.bn U U U U U ?_)|((with_reducible refine D.indexAddr ?_);refine L.ixt _ U U U U U U U (by first|(simp only[Ty.args_mk,Tm.args_mk,List.length_cons,List.length_nil,List.getElem_cons_zero,List.getElem_cons_succ];omega)|fail) ?_)|((with_reducible refine D.ax ?_);refine L.nn U U U ?_)|((with_reducible refine D.aw ?_);first|((with_reducible refine D.blk ?_);refine AW.block ?_)|refine K.sq (AW.regL ?_)|refine K.sq (K.sq ?_)|refine AW.regL ?_|refine AW.condT U ?_|refine AW.condF U ?_|refine AW.ret ?_)|with_reducible refine K.tN ?_|with_reducible refine K.tR ?_|with_reducible refine K.bR ?_|with_reducible refine K.r1 (by with_unfolding_all rfl) (by with_unfolding_all rfl) ?_)
  rfl
theorem ggrown_c{t x:Tm}(hv:RV t x)(hs:t.shape=true)(hz:t.size≤4096)(hix:∀p∈t.vars 0,p.1<1073741824):PC E 161 [.nd t 0] (.i x.size):=by
 have hargs:=shape_args hs
 have hgc:=gcontract_c hv hs hz hix
 have hgz:=gsize_c
 have w:∀z:Int,-9223372036854775808≤z→z≤9223372036854775807→IntKind.i64.wrap z=z:=fun z h1 h2=>IntWalk.i64_in z (by omega)
 cases hv with
 |beta i th j s b a=>
  have hb:b.shape=true:=shape_args (hargs (.mk 2 j s [b]) (by simp)) b (by simp)
  have ha:a.shape=true:=hargs a (by simp)
  have hsz:(Tm.mk 3 i th [Tm.mk 2 j s [b],a]).size=2+b.size+a.size:=by simp[Tm.size,Tm.sizes];omega
  have h1:=gcount_c 0 (by omega) _ b 0 (Nat.le_refl _) (by omega) (by omega) (by omega) hb
  have g1:=gsz_eq b
  have g2:=gsz_eq a
  have hp:=a.size_pos
  have hc:=cnt_size 0 0 b
  have hm:=mul_bd (cnt 0 (b.vars 0)) ((a.gsz:Int)-1) (by omega) (by omega)
  have hm': -9223372036854775808≤(cnt 0 (b.vars 0):Int)*((a.gsz:Int)-1)∧(cnt 0 (b.vars 0):Int)*((a.gsz:Int)-1)≤9223372036854775807:=by omega
  have e:((b.re (putG 0 a) 0).size:Int)=(b.gsz:Int)+(cnt 0 (b.vars 0):Int)*((a.gsz:Int)-1):=by
   rw[put_size 0 a b ha 0 hb,g1,g2,Int.natCast_add,Int.natCast_mul]
   congr 2
   omega
  rw[e]
  refine AC.mk Tryz.func161 rfl rfl rfl rfl rfl (Nat.le_of_ble_eq_true rfl) ?_
  repeat'(first|((with_reducible refine D.nil ?_);first|refine AX.nilL ?_|refine AX.nilD (by kernel_rfl) ?_)|((with_reducible refine D.load ?_);first|refine L.nl U U U U U ?_|refine L.lda U U U U U ?_)|((with_reducible refine D.move ?_);refine L.mv U U U ?_)|((with_reducible refine D.fieldAddr ?_);refine L.nf U U U U U ?_)|((with_reducible refine D.assign ?_);refine L.asg U U U ?_)|((with_reducible refine D.bin ?_);refine L.bn U U U U U ?_)|((with_reducible refine D.call ?_);refine L.c2 (h1) U U U U ?_)|((with_reducible refine D.indexAddr ?_);refine L.ixt _ U U U U U U U (by first|(simp only[Ty.args_mk,Tm.args_mk,List.length_cons,List.length_nil,List.getElem_cons_zero,List.getElem_cons_succ];omega)|fail) ?_)|((with_reducible refine D.ax ?_);refine L.nn U U U ?_)|((with_reducible refine D.aw ?_);first|((with_reducible refine D.blk ?_);refine AW.block ?_)|refine K.sq (AW.regL ?_)|refine K.sq (AW.regD mixed (by kernel_rfl) ?_)|refine K.sq (K.sq ?_)|refine AW.regL ?_|refine AW.condT U ?_|refine AW.ret ?_)|with_reducible refine K.tN ?_|with_reducible refine K.tR ?_|with_reducible refine K.bR ?_|with_reducible refine K.r1 (by with_unfolding_all rfl) (by with_unfolding_all rfl) ?_)
  show V.int .i64 (IntKind.i64.wrap ((b.gsz:Int)+IntKind.i64.wrap ((cnt 0 (b.vars 0):Int)*IntKind.i64.wrap ((a.gsz:Int)-1))))=_
  rw[w ((a.gsz:Int)-1) (by omega) (by omega),w ((cnt 0 (b.vars 0):Int)*((a.gsz:Int)-1)) (by omega) (by omega),w _ (by omega) (by omega)]
 |rz i th _ f j s=>
  have e:=gsz_eq x
  rw[←e]
  refine AC.mk Tryz.func161 rfl rfl rfl rfl rfl (Nat.le_of_ble_eq_true rfl) ?_
  repeat'(first|((with_reducible refine D.nil ?_);refine AX.nilL ?_)|((with_reducible refine D.load ?_);first|refine L.nl U U U U U ?_|refine L.lda U U U U U ?_)|((with_reducible refine D.move ?_);refine L.mv U U U ?_)|((with_reducible refine D.fieldAddr ?_);refine L.nf U U U U U ?_)|((with_reducible refine D.assign ?_);refine L.asg U U U ?_)|((with_reducible refine D.bin ?_);refine L.bn U U U U U ?_)|((with_reducible refine D.indexAddr ?_);refine L.ixt _ U U U U U U U (by first|(simp only[Ty.args_mk,Tm.args_mk,List.length_cons,List.length_nil,List.getElem_cons_zero,List.getElem_cons_succ];omega)|fail) ?_)|((with_reducible refine D.ax ?_);refine L.nn U U U ?_)|((with_reducible refine D.aw ?_);first|((with_reducible refine D.blk ?_);refine AW.block ?_)|refine K.sq (AW.regL ?_)|refine K.sq (K.sq ?_)|refine AW.regL ?_|refine AW.condT U ?_|refine AW.condF U ?_|refine AW.skip ?_|refine AW.ret ?_)|with_reducible refine K.tN ?_|with_reducible refine K.tR ?_|with_reducible refine K.bR ?_|with_reducible refine K.r1 (by with_unfolding_all rfl) (by with_unfolding_all rfl) ?_)
  rfl
 |fz i th _ f j s=>
  have e:=gsz_eq x
  rw[←e]
  refine AC.mk Tryz.func161 rfl rfl rfl rfl rfl (Nat.le_of_ble_eq_true rfl) ?_
  repeat'(first|((with_reducible refine D.nil ?_);refine AX.nilL ?_)|((with_reducible refine D.load ?_);first|refine L.nl U U U U U ?_|refine L.lda U U U U U ?_)|((with_reducible refine D.move ?_);refine L.mv U U U ?_)|((with_reducible refine D.fieldAddr ?_);refine L.nf U U U U U ?_)|((with_reducible refine D.assign ?_);refine L.asg U U U ?_)|((with_reducible refine D.bin ?_);refine L.bn U U U U U ?_)|((with_reducible refine D.indexAddr ?_);refine L.ixt _ U U U U U U U (by first|(simp only[Ty.args_mk,Tm.args_mk,List.length_cons,List.length_nil,List.getElem_cons_zero,List.getElem_cons_succ];omega)|fail) ?_)|((with_reducible refine D.ax ?_);refine L.nn U U U ?_)|((with_reducible refine D.aw ?_);first|((with_reducible refine D.blk ?_);refine AW.block ?_)|refine K.sq (AW.regL ?_)|refine K.sq (K.sq ?_)|refine AW.regL ?_|refine AW.condT U ?_|refine AW.condF U ?_|refine AW.skip ?_|refine AW.ret ?_)|with_reducible refine K.tN ?_|with_reducible refine K.tR ?_|with_reducible refine K.bR ?_|with_reducible refine K.r1 (by with_unfolding_all rfl) (by with_unfolding_all rfl) ?_)
  rfl
 |rs i th x f j s n=>
  have hsz:(Tm.mk 6 i th [x,f,Tm.mk 5 j s [n]]).size=2+x.size+f.size+n.size:=by simp[Tm.size,Tm.sizes];omega
  have g1:=gsz_eq x
  have g2:=gsz_eq f
  have g3:=gsz_eq n
  have e:((apT (apT f n) (.mk 6 0 th [x,f,n])).size:Int)=2+(f.gsz:Int)+2*(n.gsz:Int)+1+(x.gsz:Int)+(f.gsz:Int):=by
   rw[apT_size,apT_size,g1,g2,g3];simp[Tm.size,Tm.sizes];omega
  rw[e]
  refine AC.mk Tryz.func161 rfl rfl rfl rfl rfl (Nat.le_of_ble_eq_true rfl) ?_
  repeat'(first|((with_reducible refine D.nil ?_);first|refine AX.nilL ?_|refine AX.nilD (by kernel_rfl) ?_)|((with_reducible refine D.load ?_);first|refine L.nl U U U U U ?_|refine L.lda U U U U U ?_)|((with_reducible refine D.move ?_);refine L.mv U U U ?_)|((with_reducible refine D.fieldAddr ?_);refine L.nf U U U U U ?_)|((with_reducible refine D.assign ?_);refine L.asg U U U ?_)|((with_reducible refine D.bin ?_);refine L.bn U U U U U ?_)|((with_reducible refine D.indexAddr ?_);refine L.ixt _ U U U U U U U (by first|(simp only[Ty.args_mk,Tm.args_mk,List.length_cons,List.length_nil,List.getElem_cons_zero,List.getElem_cons_succ];omega)|fail) ?_)|((with_reducible refine D.ax ?_);refine L.nn U U U ?_)|((with_reducible refine D.aw ?_);first|((with_reducible refine D.blk ?_);refine AW.block ?_)|refine K.sq (AW.regL ?_)|refine K.sq (AW.regD mixed (by kernel_rfl) ?_)|refine K.sq (K.sq ?_)|refine AW.regL ?_|refine AW.condT U ?_|refine AW.condF U ?_|refine AW.ret ?_)|with_reducible refine K.tN ?_|with_reducible refine K.tR ?_|with_reducible refine K.bR ?_|with_reducible refine K.r1 (by with_unfolding_all rfl) (by with_unfolding_all rfl) ?_)
  show V.int .i64 (IntKind.i64.wrap (IntKind.i64.wrap (IntKind.i64.wrap (IntKind.i64.wrap (IntKind.i64.wrap (2+(f.gsz:Int))+IntKind.i64.wrap (2*(n.gsz:Int)))+1)+(x.gsz:Int))+(f.gsz:Int)))=_
  rw[w (2+(f.gsz:Int)) (by omega) (by omega),w (2*(n.gsz:Int)) (by omega) (by omega),w (2+(f.gsz:Int)+2*(n.gsz:Int)) (by omega) (by omega),w (2+(f.gsz:Int)+2*(n.gsz:Int)+1) (by omega) (by omega),w (2+(f.gsz:Int)+2*(n.gsz:Int)+1+(x.gsz:Int)) (by omega) (by omega),w _ (by omega) (by omega)]
 |fs i th x f j s n l=>
  have hsz:(Tm.mk 9 i th [x,f,Tm.mk 8 j s [n,l]]).size=2+x.size+f.size+n.size+l.size:=by simp[Tm.size,Tm.sizes];omega
  have g1:=gsz_eq x
  have g2:=gsz_eq f
  have g3:=gsz_eq n
  have g4:=gsz_eq l
  have e:((apT (apT (apT f n) l) (.mk 9 0 th [x,f,l])).size:Int)=3+(f.gsz:Int)+(n.gsz:Int)+2*(l.gsz:Int)+1+(x.gsz:Int)+(f.gsz:Int):=by
   rw[apT_size,apT_size,apT_size,g1,g2,g3,g4];simp[Tm.size,Tm.sizes];omega
  rw[e]
  refine AC.mk Tryz.func161 rfl rfl rfl rfl rfl (Nat.le_of_ble_eq_true rfl) ?_
  repeat'(first|((with_reducible refine D.nil ?_);first|refine AX.nilL ?_|refine AX.nilD (by kernel_rfl) ?_)|((with_reducible refine D.load ?_);first|refine L.nl U U U U U ?_|refine L.lda U U U U U ?_)|((with_reducible refine D.move ?_);refine L.mv U U U ?_)|((with_reducible refine D.fieldAddr ?_);refine L.nf U U U U U ?_)|((with_reducible refine D.assign ?_);refine L.asg U U U ?_)|((with_reducible refine D.bin ?_);refine L.bn U U U U U ?_)|((with_reducible refine D.indexAddr ?_);refine L.ixt _ U U U U U U U (by first|(simp only[Ty.args_mk,Tm.args_mk,List.length_cons,List.length_nil,List.getElem_cons_zero,List.getElem_cons_succ];omega)|fail) ?_)|((with_reducible refine D.ax ?_);refine L.nn U U U ?_)|((with_reducible refine D.aw ?_);first|((with_reducible refine D.blk ?_);refine AW.block ?_)|refine K.sq (AW.regL ?_)|refine K.sq (AW.regD mixed (by kernel_rfl) ?_)|refine K.sq (K.sq ?_)|refine AW.regL ?_|refine AW.condT U ?_|refine AW.condF U ?_|refine AW.ret ?_)|with_reducible refine K.tN ?_|with_reducible refine K.tR ?_|with_reducible refine K.bR ?_|with_reducible refine K.r1 (by with_unfolding_all rfl) (by with_unfolding_all rfl) ?_)
  show V.int .i64 (IntKind.i64.wrap (IntKind.i64.wrap (IntKind.i64.wrap (IntKind.i64.wrap (IntKind.i64.wrap (IntKind.i64.wrap (3+(f.gsz:Int))+(n.gsz:Int))+IntKind.i64.wrap (2*(l.gsz:Int)))+1)+(x.gsz:Int))+(f.gsz:Int)))=_
  rw[w (3+(f.gsz:Int)) (by omega) (by omega),w (3+(f.gsz:Int)+(n.gsz:Int)) (by omega) (by omega),w (2*(l.gsz:Int)) (by omega) (by omega),w (3+(f.gsz:Int)+(n.gsz:Int)+2*(l.gsz:Int)) (by omega) (by omega),w (3+(f.gsz:Int)+(n.gsz:Int)+2*(l.gsz:Int)+1) (by omega) (by omega),w (3+(f.gsz:Int)+(n.gsz:Int)+2*(l.gsz:Int)+1+(x.gsz:Int)) (by omega) (by omega),w _ (by omega) (by omega)]
 |p1 i th j s _ y=>
  have e:=gsz_eq x
  rw[←e]
  refine AC.mk Tryz.func161 rfl rfl rfl rfl rfl (Nat.le_of_ble_eq_true rfl) ?_
  repeat'(first|((with_reducible refine D.nil ?_);refine AX.nilL ?_)|((with_reducible refine D.load ?_);refine L.nl U U U U U ?_)|((with_reducible refine D.move ?_);refine L.mv U U U ?_)|((with_reducible refine D.fieldAddr ?_);refine L.nf U U U U U ?_)|((with_reducible refine D.assign ?_);refine L.asg U U U ?_)|((with_reducible refine D.bin ?_);refine L.bn U U U U U ?_)|((with_reducible refine D.call ?_);refine L.c2 (hgc) U U U U ?_)|((with_reducible refine D.ax ?_);refine L.nn U U U ?_)|((with_reducible refine D.aw ?_);first|((with_reducible refine D.blk ?_);refine AW.block ?_)|refine K.sq (AW.regL ?_)|refine K.sq (K.sq ?_)|refine AW.regL ?_|refine AW.condF U ?_|refine AW.skip ?_|refine AW.ret ?_)|with_reducible refine K.tN ?_|with_reducible refine K.bN ?_|with_reducible refine K.r1 (by with_unfolding_all rfl) (by with_unfolding_all rfl) ?_)
  rfl
 |p2 i th j s y _=>
  have e:=gsz_eq x
  rw[←e]
  refine AC.mk Tryz.func161 rfl rfl rfl rfl rfl (Nat.le_of_ble_eq_true rfl) ?_
  repeat'(first|((with_reducible refine D.nil ?_);refine AX.nilL ?_)|((with_reducible refine D.load ?_);refine L.nl U U U U U ?_)|((with_reducible refine D.move ?_);refine L.mv U U U ?_)|((with_reducible refine D.fieldAddr ?_);refine L.nf U U U U U ?_)|((with_reducible refine D.assign ?_);refine L.asg U U U ?_)|((with_reducible refine D.bin ?_);refine L.bn U U U U U ?_)|((with_reducible refine D.call ?_);refine L.c2 (hgc) U U U U ?_)|((with_reducible refine D.ax ?_);refine L.nn U U U ?_)|((with_reducible refine D.aw ?_);first|((with_reducible refine D.blk ?_);refine AW.block ?_)|refine K.sq (AW.regL ?_)|refine K.sq (K.sq ?_)|refine AW.regL ?_|refine AW.condF U ?_|refine AW.skip ?_|refine AW.ret ?_)|with_reducible refine K.tN ?_|with_reducible refine K.bN ?_|with_reducible refine K.r1 (by with_unfolding_all rfl) (by with_unfolding_all rfl) ?_)
  rfl
theorem gfrom_c:∀(n:Nat) (t:Tm),t.size≤n→n≤65536→t.shape=true→(∀p∈t.vars 0,p.1<1073741824)→PC E 127 [.agg t.view] (.nd t 0):=by
 intro n
 induction n with
 |zero=>intro t h;have:=t.size_pos;omega
 |succ n ih=>
 intro t hsz hn hs hix
 have hsz':=Tm.size_eq t
 have hlen:=lsum_len Tm.size Tm.size_pos t.args
 have et:t= .mk t.kind t.index t.ty t.args:=by cases t;rfl
 have hsi:=shape_index hs
 have hib:t.index<1073741824:=by
  by_cases hk:t.kind=1
  ·exact hix (t.index,0) (by rw[Tm.vars_eq,if_pos hk];simp)
  ·rw [hsi.2 hk];omega
 have hb:=gbuild_t (k:=t.kind) (i:=t.index) (th:=t.ty) (xs:=t.args) (shape_args hs) (by rw[←et];omega) 0 (fun p hp=>by rw[←et] at hp;have:=hix p hp;omega) (by omega)
 rw[←et] at hb
 refine AC.mk Tryz.func127 rfl rfl rfl rfl rfl (Nat.le_of_ble_eq_true rfl) ?_
 repeat'(first|((with_reducible refine D.nil ?_);refine AX.nilL ?_)|((with_reducible refine D.load ?_);refine L.ldb U U U U U U ?_)|((with_reducible refine D.move ?_);refine L.mv U U U ?_)|((with_reducible refine D.fieldAddr ?_);refine L.fab U U U U U ?_)|((with_reducible refine D.assign ?_);refine L.asg U U U ?_)|((with_reducible refine D.call ?_);refine L.lnt U U U U ?_)|((with_reducible refine D.box ?_);refine L.bx U U U U ?_)|((with_reducible refine D.aw ?_);first|refine K.sq (AW.regL ?_)|refine K.sq (K.sq ?_)|refine AW.regL ?_)|with_reducible refine K.tN ?_)
 refine AW.range t.args.length (fun m=>True)
  (fun m=>([(1,.ptr 0 0),(3,.slice (.own 1) (.t .nd (t.args.take m))),(7,.s .tm t.args),(8,.i t.args.length),(9,.i m)],⟨2,[(0,.var t.view),(1,.row)]⟩))
  (by omega) (fun m=>rfl) (fun m=>rfl) U trivial (Weak.mk [some 0,none] _ _ _ U U U U (by(repeat'(first|exact trivial|refine And.intro ?_ ?_|refine⟨_,U,_,U,?_⟩|exact VLe.refl _));done) (by(repeat'(first|exact trivial|exact Or.inl U|refine And.intro ?_ ?_|refine⟨_,U,_,U,_,U,?_⟩|exact VLe.refl _));done)) ?_ ?_
 ·intro m hm hP
  have hs2:=lsum_mem Tm.size (List.getElem_mem hm)
  have hc:=ih t.args[m] (by omega) (by omega) (shape_args hs _ (List.getElem_mem hm)) (idx_sub (List.getElem_mem hm) hix)
  repeat'(first|((with_reducible refine D.nil ?_);refine AX.nilL ?_)|((with_reducible refine D.load ?_);first|refine L.ldb U U U U U U ?_|refine L.lda U U U U U ?_)|((with_reducible refine D.move ?_);refine L.mv U U U ?_)|((with_reducible refine D.assign ?_);refine L.asg U U U ?_)|((with_reducible refine D.call ?_);first|refine L.apt U U U U U U (by first|exact trivial|exact⟨rfl,trivial⟩) U U (by first|omega|(simp;omega)) ?_|refine L.c2 (hc) U U U U ?_)|((with_reducible refine D.alloc ?_);refine L.al U U U ?_)|((with_reducible refine D.store ?_);refine L.st U U U U U U U U U ?_)|((with_reducible refine D.indexAddr ?_);refine L.ixt _ U U U U U U U (by first|assumption|fail) ?_)|((with_reducible refine D.ax ?_);refine L.bs1 U U U U U (EC.fold_of U) U U ?_)|((with_reducible refine D.aw ?_);first|refine K.sq (AW.regL ?_)|refine AW.regL ?_)|with_reducible refine K.tN ?_|with_reducible refine K.bN ?_)
  exact⟨rfl,trivial,(Weak.mk [some 0,some 3] _ _ _ U U U U (by(repeat'(first|exact trivial|refine And.intro ?_ ?_|refine⟨_,U,_,U,?_⟩|exact VLe.refl _|exact VLe.of_eq (by simp[Sto.upd,List.take_append_getElem])));done) (by(repeat'(first|exact trivial|exact Or.inr ⟨_,U,rfl⟩|refine And.intro ?_ ?_|refine⟨_,U,_,U,_,U,?_⟩|exact VLe.refl _));done))⟩
 ·intro hP
  rw[List.take_length]
  repeat'(first|((with_reducible refine D.nil ?_);refine AX.nilL ?_)|((with_reducible refine D.load ?_);refine L.ldb U U U U U U ?_)|((with_reducible refine D.move ?_);refine L.mv U U U ?_)|((with_reducible refine D.fieldAddr ?_);refine L.fab U U U U U ?_)|((with_reducible refine D.assign ?_);refine L.asg U U U ?_)|((with_reducible refine D.call ?_);refine L.c2 (hb) U U U U ?_)|((with_reducible refine D.aw ?_);first|refine K.sq (AW.regL ?_)|refine AW.ret ?_)|with_reducible refine K.tN ?_|with_reducible refine K.r1 (by with_unfolding_all rfl) (by with_unfolding_all rfl) ?_)
  all_goals simp[tupV,V.wk,V.wks,constV,Ty.view,Tm.view]
theorem gterm_c:∀(n:Nat) (t:Tm),t.full≤n→n<274877906944→PC E 129 [.nd t 0] (.agg t.view):=by
 intro n
 induction n with
 |zero=>intro t h;have:=t.full_pos;omega
 |succ n ih=>
 intro t hsz hn
 have hsz':=Tm.full_eq t
 have hlen:=lsum_len Tm.full Tm.full_pos t.args
 have hown:=ownTy_c _ t.ty (Nat.le_refl _) (by omega)
 refine AC.mk Tryz.func129 rfl rfl rfl rfl rfl (Nat.le_of_ble_eq_true rfl) ?_
 repeat'(first|((with_reducible refine D.nil ?_);first|refine AX.nilL ?_|refine AX.nilD (by kernel_rfl) ?_)|((with_reducible refine D.load ?_);refine L.nl U U U U U ?_)|((with_reducible refine D.move ?_);refine L.mv U U U ?_)|((with_reducible refine D.fieldAddr ?_);refine L.nf U U U U U ?_)|((with_reducible refine D.call ?_);first|refine L.lnt U U U U ?_|refine L.c2 (hown) U U U U ?_)|((with_reducible refine D.alloc ?_);refine L.al U U U ?_)|((with_reducible refine D.store ?_);refine L.st U U U U U U U U U ?_)|((with_reducible refine D.ax ?_);first|refine L.nn U U U ?_|refine L.bd U U U U U ?_)|((with_reducible refine D.aw ?_);first|refine K.sq (AW.regL ?_)|refine K.sq (AW.regD mixed (by kernel_rfl) ?_)|refine K.sq (K.sq ?_)|refine AW.regL ?_)|with_reducible refine K.tN ?_)
 refine AW.range t.args.length (fun m=>True)
  (fun m=>([(0,.nd t 0),(2,.ptr 0 0),(3,.ptr 1 0),(23,.s .nd t.args),(24,.i t.args.length),(25,.i m)],⟨3,[(0,.var [.i 0,.i 0,.i 0,.slice .nil (.t .ty []),.slice .nil (.t .tm [])]),(1,.var [.i t.kind,.i t.index,.i t.ty.kind,.s .ty t.ty.args,.slice (.own 2) (.t .tm (t.args.take m))]),(2,.row)]⟩))
  (by omega) (fun m=>rfl) (fun m=>rfl) U trivial (Weak.mk [some 0,some 1,none] _ _ _ U U U U (by(repeat'(first|exact trivial|refine And.intro ?_ ?_|refine⟨_,U,_,U,?_⟩|exact VLe.refl _));done) (by(repeat'(first|exact trivial|exact Or.inl U|refine And.intro ?_ ?_|refine⟨_,U,_,U,_,U,?_⟩|exact VLe.refl _));done)) ?_ ?_
 ·intro m hm hP
  have hs2:=lsum_mem Tm.full (List.getElem_mem hm)
  have hc:=ih t.args[m] (by omega) (by omega)
  repeat'(first|((with_reducible refine D.nil ?_);first|refine AX.nilL ?_|refine AX.nilD (by kernel_rfl) ?_)|((with_reducible refine D.load ?_);first|refine L.ldb U U U U U U ?_|refine L.lda U U U U U ?_)|((with_reducible refine D.move ?_);refine L.mv U U U ?_)|((with_reducible refine D.fieldAddr ?_);refine L.fab U U U U U ?_)|((with_reducible refine D.assign ?_);refine L.asg U U U ?_)|((with_reducible refine D.call ?_);first|refine L.apt U U U U U U (by first|exact trivial|exact⟨rfl,trivial⟩) U U (by first|omega|(simp;omega)) ?_|refine L.c2 (hc) U U U U ?_)|((with_reducible refine D.store ?_);refine L.st U U U U U U U U U ?_)|((with_reducible refine D.indexAddr ?_);refine L.ixt _ U U U U U U U (by first|assumption|fail) ?_)|((with_reducible refine D.ax ?_);refine L.bs1 U U U U U (EC.fold_of U) U U ?_)|((with_reducible refine D.aw ?_);first|refine K.sq (AW.regL ?_)|refine AW.regD mixed (by kernel_rfl) ?_)|with_reducible refine K.tN ?_|with_reducible refine K.bN ?_)
  exact⟨rfl,trivial,(Weak.mk [some 0,some 1,some 3] _ _ _ U U U U (by(repeat'(first|exact trivial|refine And.intro ?_ ?_|refine⟨_,U,_,U,?_⟩|exact VLe.refl _));done) (by(repeat'(first|exact trivial|exact Or.inr ⟨_,U,rfl⟩|refine And.intro ?_ ?_|refine⟨_,U,_,U,_,U,?_⟩|exact VLe.refl _|exact VLe.of_eq (by simp[Sto.upd,List.take_append_getElem])));done))⟩
 ·intro hP
  rw[List.take_length]
  repeat'(first|((with_reducible refine D.nil ?_);refine AX.nilL ?_)|((with_reducible refine D.load ?_);refine L.ldb U U U U U U ?_)|((with_reducible refine D.store ?_);refine L.st U U U U U U U U U ?_)|((with_reducible refine D.aw ?_);first|refine K.sq (AW.regL ?_)|refine AW.ret ?_)|with_reducible refine K.tN ?_|with_reducible refine K.r1 (by with_unfolding_all rfl) (by with_unfolding_all rfl) ?_)
  simp[tupV,V.wk,V.wks,constV,Ty.view,Tm.view]
def nxN(o:Option (Tm×Bool)):V:=match o with|none=> .tup [.nilp,.i 0]|some (u,true)=> .tup [.nd u 0,.i 0]|some (_,false)=> .tup [.nilp,.i 4]
theorem gnormal_c:∀(n:Nat) (t:Tm),t.size≤n→n<68719476736→t.shape=true→PC E 130 [.nd t 0] (.bool t.gnf):=by
 intro n
 induction n with
 |zero=>intro t h;have:=t.size_pos;omega
 |succ n ih=>
 intro t hsz hn hs
 have hsz':=Tm.size_eq t
 have hlen:=lsum_len Tm.size Tm.size_pos t.args
 have hr:=gredex_c t hs
 have hg:=gnf_eq t
 refine AC.mk Tryz.func130 rfl rfl rfl rfl rfl (Nat.le_of_ble_eq_true rfl) ?_
 repeat'(first|((with_reducible refine D.nil ?_);refine AX.nilL ?_)|((with_reducible refine D.load ?_);refine L.nl U U U U U ?_)|((with_reducible refine D.move ?_);refine L.mv U U U ?_)|((with_reducible refine D.fieldAddr ?_);refine L.nf U U U U U ?_)|((with_reducible refine D.assign ?_);refine L.asg U U U ?_)|((with_reducible refine D.call ?_);first|refine L.lnt U U U U ?_|refine L.c2 (hr) U U U U ?_)|((with_reducible refine D.ax ?_);refine L.nn U U U ?_)|((with_reducible refine D.aw ?_);first|refine AW.condB U (fun hnf=> ?_) ?_|refine K.sq (AW.regL ?_)|refine K.sq (K.sq ?_)|refine AW.regL ?_|refine AW.condS U (fun h=> ?_) (fun h=> ?_)|refine AW.skip ?_|refine AW.ret ?_)|with_reducible refine K.tN ?_|with_reducible refine K.tR ?_|with_reducible refine K.r1 (by with_unfolding_all rfl) (by with_unfolding_all rfl) ?_)
 ·simp [tupV,V.wk,V.wks,constV,hnf]
 ·have h1:rootT t=true:=h
  simp[tupV,V.wk,V.wks,constV,hg,h1]
 have hroot:rootT t=false:=h
 refine AW.range t.args.length (fun m=>∀j (hj:j<t.args.length),j<m→(t.args[j]).gnf=true)
  (fun m=>([(0,.nd t 0),(14,.s .nd t.args),(15,.i t.args.length),(16,.i m)],⟨0,[]⟩))
  (by omega) (fun m=>rfl) (fun m=>rfl) U (by intro j hj h;omega) (Weak.mk [] _ _ _ U U U U (by(repeat'(first|exact trivial|refine And.intro ?_ ?_|refine⟨_,U,_,U,?_⟩|exact VLe.refl _));done) (by(repeat'(first|exact trivial));done)) ?_ ?_
 ·intro m hm hP
  have hs2:=lsum_mem Tm.size (List.getElem_mem hm)
  have hc:=ih t.args[m] (by omega) (by omega) (shape_args hs _ (List.getElem_mem hm))
  repeat'(first|((with_reducible refine D.nil ?_);refine AX.nilL ?_)|((with_reducible refine D.load ?_);refine L.lda U U U U U ?_)|((with_reducible refine D.move ?_);refine L.mv U U U ?_)|((with_reducible refine D.assign ?_);refine L.asg U U U ?_)|((with_reducible refine D.call ?_);refine L.c2 (hc) U U U U ?_)|((with_reducible refine D.indexAddr ?_);refine L.ixt _ U U U U U U U (by first|assumption|fail) ?_)|((with_reducible refine D.not ?_);refine L.nt U U U ?_)|((with_reducible refine D.aw ?_);first|refine K.sq (AW.regL ?_)|refine AW.condS U (fun h=> ?_) (fun h=> ?_)|refine AW.skip ?_|refine AW.ret ?_)|with_reducible refine K.tN ?_|with_reducible refine K.bN ?_|with_reducible refine K.tR ?_|with_reducible refine K.bR ?_|with_reducible refine K.gR ?_|with_reducible refine K.r1 (by with_unfolding_all rfl) (by with_unfolding_all rfl) ?_)
  ·have h1:(t.args[m]).gnf=false:=by simpa using h
   have h2:t.gnf=false:=by
    rw[hg,hroot]
    cases hgs:Tm.gnfs t.args with
    |false=>rfl
    |true=>rw[(gnfs_iff t.args).1 hgs _ (List.getElem_mem hm)] at h1;cases h1
   simp[tupV,V.wk,V.wks,constV,h2]
  ·have h1:(t.args[m]).gnf=true:=by simpa using h
   exact⟨rfl,all_step (p:=fun x:Tm=>x.gnf=true) hm hP h1,(Weak.mk [] _ _ _ U U U U (by(repeat'(first|exact trivial|refine And.intro ?_ ?_|refine⟨_,U,_,U,?_⟩|exact VLe.refl _));done) (by(repeat'(first|exact trivial));done))⟩
 ·intro hP
  have h2:t.gnf=true:=by
   rw[hg,hroot,Bool.not_false,Bool.true_and,gnfs_iff]
   intro x hx
   obtain⟨j,hj,rfl⟩:=List.mem_iff_getElem.1 hx
   exact hP j hj hj
  rw[h2]
  repeat'(first|((with_reducible refine D.nil ?_);refine AX.nilL ?_)|((with_reducible refine D.move ?_);refine L.mv U U U ?_)|((with_reducible refine D.fieldAddr ?_);refine L.nf U U U U U ?_)|((with_reducible refine D.assign ?_);refine L.asg U U U ?_)|((with_reducible refine D.store ?_);refine L.ns h2 U U U U U U ?_)|((with_reducible refine D.ax ?_);refine L.nn U U U ?_)|((with_reducible refine D.aw ?_);first|refine K.sq (AW.regL ?_)|refine AW.ret ?_)|with_reducible refine K.tN ?_|with_reducible refine K.r1 (by with_unfolding_all rfl) (by with_unfolding_all rfl) ?_)
  all_goals rfl
theorem redT_bd{t u:Tm}(hv:RV t u)(hs:t.shape=true)(hz:t.size≤4096):(u.size:Int)≤4294967296:=by
 have hargs:=shape_args hs
 cases hv with
 |beta i th j s b a=>
  have hb:b.shape=true:=shape_args (hargs (.mk 2 j s [b]) (by simp)) b (by simp)
  have ha:a.shape=true:=hargs a (by simp)
  have hsz:(Tm.mk 3 i th [Tm.mk 2 j s [b],a]).size=2+b.size+a.size:=by simp[Tm.size,Tm.sizes];omega
  rw[put_size 0 a b ha 0 hb]
  have hc:=cnt_size 0 0 b
  have hm:cnt 0 (b.vars 0)*(a.size-1)≤4096*4096:=Nat.mul_le_mul (by omega) (by omega)
  omega
 |rz i th _ f j s=>simp[Tm.size,Tm.sizes] at hz;omega
 |fz i th _ f j s=>simp[Tm.size,Tm.sizes] at hz;omega
 |rs i th x f j s n=>simp[Tm.size,Tm.sizes] at hz;rw[apT_size,apT_size];simp[Tm.size,Tm.sizes];omega
 |fs i th x f j s n l=>simp[Tm.size,Tm.sizes] at hz;rw[apT_size,apT_size,apT_size];simp[Tm.size,Tm.sizes];omega
 |p1 i th j s _ y=>simp[Tm.size,Tm.sizes] at hz;omega
 |p2 i th j s y _=>simp[Tm.size,Tm.sizes] at hz;omega
theorem idx_arg2{t x:Tm}{B:Int}(hx:x∈t.args)(h:∀p∈t.vars 0,0≤p.1∧p.1<B):∀p∈x.vars 0,0≤p.1∧p.1<B:=by
 intro p hp
 have e:=vars_shift x 0 (up t.kind 0)
 have hm:(p.1,p.2+up t.kind 0)∈t.vars 0:=by
  rw[Tm.vars_eq]
  refine List.mem_append_right _ (List.mem_flatMap.2 ⟨x,hx,?_⟩)
  rw[Int.zero_add] at e
  rw[e]
  exact List.mem_map.2 ⟨p,hp,rfl⟩
 exact h (p.1,p.2+up t.kind 0) hm
theorem gstep_c(room:Int)(hr0: -4096≤room∧room≤4096):∀(n:Nat) (t:Tm),t.size≤n→t.shape=true→t.size≤4096→(∀p∈t.vars 0,0≤p.1∧p.1<1073741824)→PC E 150 [.nd t 0,.i room] (nxN (nxR room t)):=by
 intro n
 induction n with
 |zero=>intro t h;have:=t.size_pos;omega
 |succ n ih=>
 intro t hn hs hz hix
 have hsz':=Tm.size_eq t
 have hlen:=lsum_len Tm.size Tm.size_pos t.args
 have hrd:=gredex_c t hs
 have hix':∀p∈t.vars 0,p.1<1073741824:=fun p hp=>(hix p hp).2
 by_cases hroot:rootT t=true
 ·have hv:=root_rv hs hroot
  have hgr:=ggrown_c hv hs hz hix'
  have hct:=gcontract_c hv hs hz hix'
  have hgt:growT t=((redT t).size:Int)-(t.gsz:Int):=by rw[gsz_eq];rfl
  have hzz:=gsz_eq t
  rw[nxR_eq,if_pos hroot]
  rw[hroot] at hrd
  have hxs:((redT t).size:Int)≤4294967296:=redT_bd hv hs hz
  by_cases hgw:growT t>room
  ·rw [if_pos hgw]
   refine AC.mk Tryz.func150 rfl rfl rfl rfl rfl (Nat.le_of_ble_eq_true rfl) ?_
   repeat'(first|((with_reducible refine D.nil ?_);first|refine AX.nilL ?_|refine AX.nilD (by kernel_rfl) ?_)|((with_reducible refine D.load ?_);refine L.nl U U U U U ?_)|((with_reducible refine D.move ?_);refine L.mv U U U ?_)|((with_reducible refine D.fieldAddr ?_);refine L.nf U U U U U ?_)|((with_reducible refine D.assign ?_);refine L.asg U U U ?_)|((with_reducible refine D.bin ?_);first|refine L.sb U U U U (by omega) ?_|refine L.bn U U U U U ?_)|((with_reducible refine D.call ?_);first|refine L.c2 (hrd) U U U U ?_|refine L.c2 (hgr) U U U U ?_|refine L.c2 (hct) U U U U ?_)|((with_reducible refine D.ax ?_);refine L.nn U U U ?_)|((with_reducible refine D.aw ?_);first|refine AW.condB U (fun hnf=> ?_) ?_|refine K.sq (AW.regL ?_)|refine K.sq (K.sq ?_)|refine AW.regL ?_|refine AW.regD mixed (by kernel_rfl) ?_|refine AW.condT U ?_|refine AW.condS U (fun h=> ?_) (fun h=> ?_)|refine AW.skip ?_|refine AW.ret ?_)|with_reducible refine K.tN ?_|with_reducible refine K.tR ?_|with_reducible refine K.r1 (by with_unfolding_all rfl) (by with_unfolding_all rfl) ?_)
   all_goals first
    |rfl
    |(exfalso;simp at h;omega)
    |(exfalso;have h9:=(gnf_nx room t).1 hnf;rw[nxR_eq,if_pos hroot] at h9;cases h9)
  ·rw [if_neg hgw]
   refine AC.mk Tryz.func150 rfl rfl rfl rfl rfl (Nat.le_of_ble_eq_true rfl) ?_
   repeat'(first|((with_reducible refine D.nil ?_);first|refine AX.nilL ?_|refine AX.nilD (by kernel_rfl) ?_)|((with_reducible refine D.load ?_);refine L.nl U U U U U ?_)|((with_reducible refine D.move ?_);refine L.mv U U U ?_)|((with_reducible refine D.fieldAddr ?_);refine L.nf U U U U U ?_)|((with_reducible refine D.assign ?_);refine L.asg U U U ?_)|((with_reducible refine D.bin ?_);first|refine L.sb U U U U (by omega) ?_|refine L.bn U U U U U ?_)|((with_reducible refine D.call ?_);first|refine L.c2 (hrd) U U U U ?_|refine L.c2 (hgr) U U U U ?_|refine L.c2 (hct) U U U U ?_)|((with_reducible refine D.ax ?_);refine L.nn U U U ?_)|((with_reducible refine D.aw ?_);first|refine AW.condB U (fun hnf=> ?_) ?_|refine K.sq (AW.regL ?_)|refine K.sq (K.sq ?_)|refine AW.regL ?_|refine AW.regD mixed (by kernel_rfl) ?_|refine AW.condT U ?_|refine AW.condS U (fun h=> ?_) (fun h=> ?_)|refine AW.skip ?_|refine AW.ret ?_)|with_reducible refine K.tN ?_|with_reducible refine K.tR ?_|with_reducible refine K.r1 (by with_unfolding_all rfl) (by with_unfolding_all rfl) ?_)
   all_goals first
    |rfl
    |(exfalso;simp at h;omega)
    |(exfalso;have h9:=(gnf_nx room t).1 hnf;rw[nxR_eq,if_pos hroot] at h9;cases h9)
 rw[nxR_eq,if_neg hroot]
 have hroot':rootT t=false:=by simpa using hroot
 rw[hroot'] at hrd
 have hgn:=gnf_nx room t
 rw[nxR_eq,if_neg hroot] at hgn
 refine AC.mk Tryz.func150 rfl rfl rfl rfl rfl (Nat.le_of_ble_eq_true rfl) ?_
 repeat'(first|((with_reducible refine D.nil ?_);refine AX.nilL ?_)|((with_reducible refine D.load ?_);refine L.nl U U U U U ?_)|((with_reducible refine D.move ?_);refine L.mv U U U ?_)|((with_reducible refine D.fieldAddr ?_);refine L.nf U U U U U ?_)|((with_reducible refine D.assign ?_);refine L.asg U U U ?_)|((with_reducible refine D.call ?_);first|refine L.lnt U U U U ?_|refine L.c2 (hrd) U U U U ?_)|((with_reducible refine D.ax ?_);refine L.nn U U U ?_)|((with_reducible refine D.aw ?_);(fail_if_success with_reducible refine D.stopR (id:=2) ?_);(fail_if_success with_reducible refine D.stopS (id:=2) ?_);first|refine AW.condB U (fun hnf=> ?_) ?_|refine K.sq (AW.regL ?_)|refine K.sq (K.sq ?_)|refine AW.regL ?_|refine AW.condF U ?_|refine AW.skip ?_)|with_reducible refine K.tN ?_)
 ·rw [hgn.1 hnf]
  repeat'(first|((with_reducible refine D.nil ?_);refine AX.nilL ?_)|((with_reducible refine D.assign ?_);refine L.asg U U U ?_)|((with_reducible refine D.aw ?_);first|refine K.sq (AW.regL ?_)|refine AW.ret ?_)|with_reducible refine K.tN ?_|with_reducible refine K.tR ?_|with_reducible refine K.r1 (by with_unfolding_all rfl) (by with_unfolding_all rfl) ?_)
  all_goals rfl
 refine AW.range t.args.length (fun m=>∀j (hj:j<t.args.length),j<m→nxR room t.args[j]=none)
  (fun m=>([(0,.nd t 0),(1,.i room),(31,.s .nd t.args),(32,.i t.args.length),(33,.i m)],⟨0,[]⟩))
  (by omega) (fun m=>rfl) (fun m=>rfl) U (by intro j hj h;omega) (Weak.mk [] _ _ _ U U U U (by(repeat'(first|exact trivial|refine And.intro ?_ ?_|refine⟨_,U,_,U,?_⟩|exact VLe.refl _));done) (by(repeat'(first|exact trivial));done)) ?_ ?_
 ·intro m hm hP
  have hs2:=lsum_mem Tm.size (List.getElem_mem hm)
  have hc:=ih t.args[m] (by omega) (shape_args hs _ (List.getElem_mem hm)) (by omega) (idx_arg2 (List.getElem_mem hm) hix)
  cases hx:nxR room t.args[m] with
  |none=>
   rw[hx] at hc
   repeat'(first|((with_reducible refine D.nil ?_);refine AX.nilL ?_)|((with_reducible refine D.load ?_);refine L.lda U U U U U ?_)|((with_reducible refine D.move ?_);refine L.mv U U U ?_)|((with_reducible refine D.assign ?_);refine L.asg U U U ?_)|((with_reducible refine D.bin ?_);first|refine L.ndn U (by kernel_rfl) U U U U ?_|refine L.bn U U U U U ?_)|((with_reducible refine D.call ?_);refine L.c2 (hc) U U U U ?_)|((with_reducible refine D.extract ?_);refine L.ex U U U U ?_)|((with_reducible refine D.indexAddr ?_);refine L.ixt _ U U U U U U U (by first|assumption|fail) ?_)|((with_reducible refine D.aw ?_);first|refine K.sq (AW.regL ?_)|refine K.sq (K.sq ?_)|refine AW.regL ?_|refine AW.condF U ?_|refine AW.skip ?_)|with_reducible refine K.tN ?_|with_reducible refine K.bN ?_)
   exact⟨rfl,all_step (p:=fun x:Tm=>nxR room x=none) hm hP hx,(Weak.mk [] _ _ _ U U U U (by(repeat'(first|exact trivial|refine And.intro ?_ ?_|refine⟨_,U,_,U,?_⟩|exact VLe.refl _));done) (by(repeat'(first|exact trivial));done))⟩
  |some p=>
   have h1:=nxRs_at room t.args m hm p hx hP
   rw[h1]
   obtain⟨u,fl⟩:=p
   cases fl with
   |false=>
    rw[hx] at hc
    repeat'(first|((with_reducible refine D.nil ?_);refine AX.nilL ?_)|((with_reducible refine D.load ?_);refine L.lda U U U U U ?_)|((with_reducible refine D.move ?_);refine L.mv U U U ?_)|((with_reducible refine D.assign ?_);refine L.asg U U U ?_)|((with_reducible refine D.bin ?_);refine L.bn U U U U U ?_)|((with_reducible refine D.call ?_);refine L.c2 (hc) U U U U ?_)|((with_reducible refine D.extract ?_);refine L.ex U U U U ?_)|((with_reducible refine D.indexAddr ?_);refine L.ixt _ U U U U U U U (by first|assumption|fail) ?_)|((with_reducible refine D.aw ?_);first|refine K.sq (AW.regL ?_)|refine K.sq (K.sq ?_)|refine AW.regL ?_|refine AW.condT U ?_|refine AW.ret ?_)|with_reducible refine K.tN ?_|with_reducible refine K.tR ?_|with_reducible refine K.bR ?_|with_reducible refine K.gR ?_|with_reducible refine K.r1 (by with_unfolding_all rfl) (by with_unfolding_all rfl) ?_)
    rfl
   |true=>
    rw[hx] at hc
    have hnt:nxR room t=some (.mk t.kind t.index t.ty (t.args.set m u),true):=by rw[nxR_eq,if_neg hroot,h1];rfl
    obtain⟨q1,q2,q3⟩:=nx_facts room t _ hs hnt
    have hsh:∀x∈t.args.set m u,x.shape=true:=fun x hx2=>shape_args q1 x hx2
    have hk1:t.kind≠1:=fun hk=>by
     obtain⟨i,hti,_⟩:=var_mk hs hk
     rw[hti] at hm;simp[vT,Tm.args_mk] at hm
    have hw:=gwith_c (t:=t) (xs:=t.args.set m u) (gbuild_t hsh (by omega) 0 (fun p hp=>by
     have h3:=q3 1073741824 (by omega) 0 (by omega) (fun p hp=>by have:=hix p hp;have:=vars_snd t 0 p hp;omega) p hp
     have h4:=vars_dep _ 0 p hp
     omega) (by have:=(shape_index hs).2 hk1;omega))
    repeat'(first|((with_reducible refine D.nil ?_);refine AX.nilL ?_)|((with_reducible refine D.load ?_);refine L.lda U U U U U ?_)|((with_reducible refine D.move ?_);refine L.mv U U U ?_)|((with_reducible refine D.assign ?_);refine L.asg U U U ?_)|((with_reducible refine D.bin ?_);first|refine L.ndn U (by kernel_rfl) U U U U ?_|refine L.bn U U U U U ?_)|((with_reducible refine D.call ?_);refine L.c2 (hc) U U U U ?_)|((with_reducible refine D.extract ?_);refine L.ex U U U U ?_)|((with_reducible refine D.indexAddr ?_);refine L.ixt _ U U U U U U U (by first|assumption|fail) ?_)|((with_reducible refine D.aw ?_);(fail_if_success with_reducible refine D.stopR (id:=14) ?_);(fail_if_success with_reducible refine D.stopS (id:=14) ?_);first|refine K.sq (AW.regL ?_)|refine K.sq (K.sq ?_)|refine AW.regL ?_|refine AW.condT U ?_|refine AW.condF U ?_|refine AW.skip ?_)|with_reducible refine K.tN ?_)
    refine K.sq (AW.regL ?_)
    refine L.mv rfl rfl rfl ?_
    refine L.nn rfl rfl rfl ?_
    refine L.nf rfl rfl rfl rfl rfl ?_
    refine L.nl rfl rfl rfl rfl rfl ?_
    refine L.apA (te:=135) rfl rfl rfl rfl (by kernel_rfl) rfl rfl rfl rfl (by omega) (by omega) ?_
    repeat'(first|((with_reducible refine D.nil ?_);refine AX.nilL ?_)|((with_reducible refine D.move ?_);refine L.mv U U U ?_)|((with_reducible refine D.assign ?_);refine L.asg U U U ?_)|((with_reducible refine D.aw ?_);refine K.sq (AW.regL ?_))|with_reducible refine K.tN ?_)
    refine L.ixr m rfl rfl rfl rfl rfl hm rfl ?_
    refine L.sta (c:= .nd) (l:=t.args) (u:=u) m rfl rfl rfl rfl rfl rfl rfl rfl hm rfl ?_
    repeat'(first|((with_reducible refine D.nil ?_);refine AX.nilL ?_)|with_reducible refine K.tN ?_)
    refine AW.frz (c:= .nd) 0 t.args.length (t.args.set m u) U (by simp) (by(repeat'(first|exact trivial|exact fun _=>rfl|exact fun h=>absurd U h|exact fun h=>absurd h (by decide)|refine And.intro ?_ ?_|intro _));done) (by(repeat'(first|exact trivial|exact fun _=>rfl|exact fun h=>absurd U h|exact fun h=>absurd h (by decide)|refine And.intro ?_ ?_|intro _));done) ?_
    repeat'(first|((with_reducible refine D.nil ?_);refine AX.nilL ?_)|((with_reducible refine D.move ?_);refine L.mv U U U ?_)|((with_reducible refine D.assign ?_);refine L.asg U U U ?_)|((with_reducible refine D.call ?_);refine L.c2 (hw) U U U U ?_)|((with_reducible refine D.aw ?_);first|refine K.sq (AW.regL ?_)|refine AW.ret ?_)|with_reducible refine K.tN ?_|with_reducible refine K.tR ?_|with_reducible refine K.bR ?_|with_reducible refine K.gR ?_|with_reducible refine K.r1 (by with_unfolding_all rfl) (by with_unfolding_all rfl) ?_)
    rfl
 ·intro hP
  have h1:=nxRs_none room t.args fun j hj _=>hP j hj hj
  rw[h1] at hgn ⊢
  have h2:t.gnf=true:=hgn.2 rfl
  repeat'(first|((with_reducible refine D.nil ?_);refine AX.nilL ?_)|((with_reducible refine D.move ?_);refine L.mv U U U ?_)|((with_reducible refine D.fieldAddr ?_);refine L.nf U U U U U ?_)|((with_reducible refine D.assign ?_);refine L.asg U U U ?_)|((with_reducible refine D.store ?_);refine L.ns h2 U U U U U U ?_)|((with_reducible refine D.ax ?_);refine L.nn U U U ?_)|((with_reducible refine D.aw ?_);first|refine K.sq (AW.regL ?_)|refine AW.ret ?_)|with_reducible refine K.tN ?_|with_reducible refine K.r1 (by with_unfolding_all rfl) (by with_unfolding_all rfl) ?_)
  all_goals rfl
end Go.Ab
namespace Go.Ab
open Go Go.Proofs
set_option maxRecDepth 100000
set_option linter.all false
theorem var_c(i:Int):PC E 15 [.i i] (.agg (Tm.mk 1 i (.mk 0 []) []).view):=by
 refine M.F Tryz.func15 ?_
 repeat'(first|refine M.gw ?_|fail)
 simp[tupV,V.wk,V.wks,constV,Ty.view,Tm.view]
theorem tvar_c(i:Int):PC E 106 [.i i] (.agg (Tm.mk 1 i (.mk 0 []) []).view):=by
 refine M.F Tryz.func106 ?_
 repeat'(first|refine M.gw ?_|fail)
 simp[tupV,V.wk,V.wks,constV,Ty.view,Tm.view]
theorem nat_c:PC E 21 [] (.agg (Ty.mk 1 []).view):=by
 refine M.F Tryz.func21 ?_
 repeat'(first|refine M.gw ?_|fail)
 simp[tupV,V.wk,V.wks,constV,Ty.view,Tm.view]
theorem list_c:PC E 22 [] (.agg (Ty.mk 2 []).view):=by
 refine M.F Tryz.func22 ?_
 repeat'(first|refine M.gw ?_|fail)
 simp[tupV,V.wk,V.wks,constV,Ty.view,Tm.view]
theorem unit_c:PC E 23 [] (.agg (Ty.mk 5 []).view):=by
 refine M.F Tryz.func23 ?_
 repeat'(first|refine M.gw ?_|fail)
 simp[tupV,V.wk,V.wks,constV,Ty.view,Tm.view]
theorem two_c(x y:Ty)(hx:x.size<1099511627776)(hy:y.size<1099511627776):PC E 24 [.agg x.view,.agg y.view] (.agg (Ty.mk 3 [x,y]).view):=by
 have h1:=copyTy_c _ x (Nat.le_refl _) hx
 have h2:=copyTy_c _ y (Nat.le_refl _) hy
 refine M.F Tryz.func24 ?_
 repeat'(first|refine M.gw ?_|refine M.c2 (h1) ?_|refine M.c2 (h2) ?_|fail)
 simp[tupV,V.wk,V.wks,constV,Ty.view,Tm.view]
theorem fun_c(x y:Ty)(hx:x.size<1099511627776)(hy:y.size<1099511627776):PC E 25 [.agg x.view,.agg y.view] (.agg (Ty.mk 4 [x,y]).view):=by
 have h1:=copyTy_c _ x (Nat.le_refl _) hx
 have h2:=copyTy_c _ y (Nat.le_refl _) hy
 refine M.F Tryz.func25 ?_
 repeat'(first|refine M.gw ?_|refine M.c2 (h1) ?_|refine M.c2 (h2) ?_|fail)
 simp[tupV,V.wk,V.wks,constV,Ty.view,Tm.view]
theorem noType_c(t:Ty):PC E 123 [.agg t.view] (.bool t.isNo):=by
 refine M.F Tryz.func123 ?_
 repeat'(first|refine M.gw ?_|refine M.gs ?_ ?_<;>intro h|fail)
 all_goals simp_all[tupV,V.wk,V.wks,constV,Ty.isNo]
 rw[Bool.eq_iff_iff];simp
theorem typed_c(k:Int):PC E 122 [.i k] (.bool (typedK k)):=by
 refine M.F Tryz.func122 ?_
 repeat'(first|refine M.gw ?_|refine M.gs ?_ ?_<;>intro h|fail)
 all_goals simp_all[tupV,V.wk,V.wks,constV,typedK]
theorem checkTy_c(t:Ty)(ht:t.size<1099511627776):PC E 110 [.agg t.view] (.tup [.i t.num,.i t.err]):=by
 have h1:=typeNodes_c _ t (Nat.le_refl _) ht
 refine M.F Tryz.func110 ?_
 repeat'(first|refine M.gw ?_|refine M.c2 (h1) ?_|refine M.zb ?_|refine M.cs ?_ ?_<;>intro h|fail)
 all_goals simp_all[tupV,V.wk,V.wks,constV,Ty.num,Ty.err,Ty.nodes]
 all_goals(first|omega|(split<;>first|omega|simp_all))
theorem arity_c(k:Int):PC E 121 [.i k] (.tup [.i ((arK k).getD 0),.bool (arK k).isSome]):=by
 refine M.F Tryz.func121 ?_
 repeat'(first|refine M.gw ?_|refine M.gs ?_ ?_<;>intro h|refine M.cs ?_ ?_<;>intro h|fail)
 ·have:arK k=none:=by simp at h;simp only[arK];(repeat' rw[if_neg (by omega)])
  simp[this,tupV,V.wk,V.wks,constV]
 ·have:arK k=none:=by simp at h;simp only[arK];(repeat' rw[if_neg (by omega)])
  simp[this,tupV,V.wk,V.wks,constV]
 ·rename_i h0
  simp at h h0
  have:k=1∨k=2∨k=3∨k=4∨k=5∨k=6∨k=7∨k=8∨k=9∨k=10∨k=11∨k=12∨k=13:=by omega
  rcases this with rfl|rfl|rfl|rfl|rfl|rfl|rfl|rfl|rfl|rfl|rfl|rfl|rfl
  ·refine L.ixa 1 rfl rfl rfl rfl rfl ?_ ?_ rfl ?_
   ·decide
   ·decide
   repeat'(first|refine M.gw ?_|fail)
   rfl
  ·refine L.ixa 2 rfl rfl rfl rfl rfl ?_ ?_ rfl ?_
   ·decide
   ·decide
   repeat'(first|refine M.gw ?_|fail)
   rfl
  ·refine L.ixa 3 rfl rfl rfl rfl rfl ?_ ?_ rfl ?_
   ·decide
   ·decide
   repeat'(first|refine M.gw ?_|fail)
   rfl
  ·refine L.ixa 4 rfl rfl rfl rfl rfl ?_ ?_ rfl ?_
   ·decide
   ·decide
   repeat'(first|refine M.gw ?_|fail)
   rfl
  ·refine L.ixa 5 rfl rfl rfl rfl rfl ?_ ?_ rfl ?_
   ·decide
   ·decide
   repeat'(first|refine M.gw ?_|fail)
   rfl
  ·refine L.ixa 6 rfl rfl rfl rfl rfl ?_ ?_ rfl ?_
   ·decide
   ·decide
   repeat'(first|refine M.gw ?_|fail)
   rfl
  ·refine L.ixa 7 rfl rfl rfl rfl rfl ?_ ?_ rfl ?_
   ·decide
   ·decide
   repeat'(first|refine M.gw ?_|fail)
   rfl
  ·refine L.ixa 8 rfl rfl rfl rfl rfl ?_ ?_ rfl ?_
   ·decide
   ·decide
   repeat'(first|refine M.gw ?_|fail)
   rfl
  ·refine L.ixa 9 rfl rfl rfl rfl rfl ?_ ?_ rfl ?_
   ·decide
   ·decide
   repeat'(first|refine M.gw ?_|fail)
   rfl
  ·refine L.ixa 10 rfl rfl rfl rfl rfl ?_ ?_ rfl ?_
   ·decide
   ·decide
   repeat'(first|refine M.gw ?_|fail)
   rfl
  ·refine L.ixa 11 rfl rfl rfl rfl rfl ?_ ?_ rfl ?_
   ·decide
   ·decide
   repeat'(first|refine M.gw ?_|fail)
   rfl
  ·refine L.ixa 12 rfl rfl rfl rfl rfl ?_ ?_ rfl ?_
   ·decide
   ·decide
   repeat'(first|refine M.gw ?_|fail)
   rfl
  ·refine L.ixa 13 rfl rfl rfl rfl rfl ?_ ?_ rfl ?_
   ·decide
   ·decide
   repeat'(first|refine M.gw ?_|fail)
   rfl
end Go.Ab
namespace Go.Ab
open Go Go.Proofs
set_option maxRecDepth 100000
set_option maxHeartbeats 4000000
set_option linter.all false
theorem copyTm_c:∀(b:Nat) (t:Tm),t.full≤b→b<1099511627776→PC E 62 [.agg t.view] (.agg t.view):=by
 intro b
 induction b with
 |zero=>intro t h;have:=t.full_pos;omega
 |succ b ih=>
 intro t hsz hb
 have hsz':=Tm.full_eq t
 have hlen:=lsum_len Tm.full Tm.full_pos t.args
 have hty:=copyTy_c _ t.ty (Nat.le_refl _) (by omega)
 refine M.F Tryz.func62 ?_
 repeat'(first|refine M.gw ?_|fail)
 refine AW.range t.args.length (fun m=>True)
  (fun m=>([(1,.ptr 0 0),(2,.ptr 1 0),(3,.slice (.own 2) (.t .tm (t.args.take m))),(7,.s .tm t.args),(8,.i t.args.length),(9,.i m)],⟨3,[(0,.var t.view),(1,.var [.i 0,.i 0,.i 0,.slice .nil (.t .ty []),.slice .nil (.t .tm [])]),(2,.row)]⟩))
  (by omega) (fun m=>rfl) (fun m=>rfl) rfl trivial (M.W [some 0,some 1,none]) ?_ ?_
 ·intro m hm hP
  have hs2:=lsum_mem Tm.full (List.getElem_mem hm)
  repeat'(first|refine M.gw ?_|refine M.c2 (ih _ ?_ ?_) ?_|exact M.le|exact M.lt|fail)
  exact⟨rfl,trivial,(M.W [some 0,some 1,some 4] (hf:=(by(repeat'(first|exact trivial|refine And.intro ?_ ?_|refine⟨_,U,_,U,?_⟩|exact VLe.refl _|exact VLe.of_eq (by simp[Sto.upd,List.take_append_getElem])));done)))⟩
 ·intro hP
  repeat'(first|refine M.gw ?_|refine M.c2 (hty) ?_|fail)
  simp[tupV,V.wk,V.wks,constV,Ty.view,Tm.view]
theorem n_c(k:Int)(l:List Tm)(hl:(l.map Tm.full).sum<1099511627776):PC E 32 [.i k,.s .tm l] (.agg (Tm.mk k 0 (.mk 0 []) l).view):=by
 have hlen:=lsum_len Tm.full Tm.full_pos l
 refine M.F Tryz.func32 ?_
 repeat'(first|refine M.gw ?_|fail)
 refine AW.range l.length (fun m=>True)
  (fun m=>([(0,.i k),(4,.ptr 0 0),(5,.slice (.own 1) (.t .tm (l.take m))),(8,.s .tm l),(9,.i l.length),(10,.i m)],⟨2,[(0,.var [.i 0,.i 0,.i 0,.slice .nil (.t .ty []),.slice .nil (.t .tm [])]),(1,.row)]⟩))
  (by omega) (fun m=>rfl) (fun m=>rfl) rfl trivial (M.W [some 0,none]) ?_ ?_
 ·intro m hm hP
  have hs2:=lsum_mem Tm.full (List.getElem_mem hm)
  repeat'(first|refine M.gw ?_|refine M.c2 (copyTm_c _ _ (Nat.le_refl _) ?_) ?_|exact M.lt|fail)
  exact⟨rfl,trivial,(M.W [some 0,some 3] (hf:=(by(repeat'(first|exact trivial|refine And.intro ?_ ?_|refine⟨_,U,_,U,?_⟩|exact VLe.refl _|exact VLe.of_eq (by simp[Sto.upd,List.take_append_getElem])));done)))⟩
 ·intro hP
  repeat'(first|refine M.gw ?_|fail)
  simp[tupV,V.wk,V.wks,constV,Ty.view,Tm.view]
theorem t_c(k:Int)(s:Ty)(l:List Tm)(hl:(l.map Tm.full).sum<1099511627776)(hs:s.size<1099511627776):PC E 33 [.i k,.agg s.view,.s .tm l] (.agg (Tm.mk k 0 s l).view):=by
 have h1:=n_c k l hl
 have h2:=copyTy_c _ s (Nat.le_refl _) hs
 refine M.F Tryz.func33 ?_
 repeat'(first|refine M.gw ?_|refine M.c2 (h1) ?_|refine M.c2 (h2) ?_|fail)
 simp[tupV,V.wk,V.wks,constV,Ty.view,Tm.view]
theorem Ty.ok_err(t:Ty):t.ok=(t.err==0):=by
 simp only[Ty.ok,Ty.err]
 cases t.shape
 ·simp
 ·by_cases h:t.size≤64
  ·have:¬t.size>64:=by omega
   simp[h,this]
  ·have:t.size>64:=by omega
   simp[h,this]
theorem Tm.head_eq(t:Tm):t.head=(!(!(arK t.kind).isSome)&& !((t.args.length:Int) !=(((arK t.kind).getD 0:Nat):Int))&& !decide (t.index<0)&&(!(t.index !=0)|| !(t.kind !=1))&&(bif typedK t.kind then !(t.ty.err !=0) else !(!t.ty.isNo))):=by
 simp only[Tm.head,Ty.ok_err]
 cases hk:arK t.kind with
 |none=>simp
 |some n=>
  have h1:(t.args.length==n)= !((t.args.length:Int) !=((n:Nat):Int)):=by rw[Bool.eq_iff_iff];simp;omega
  have h2:decide (0≤t.index)= !decide (t.index<0):=by rw[Bool.eq_iff_iff];simp
  simp[h1,h2,bne]
theorem termNodes_c:∀(b:Nat) (t:Tm),t.full≤b→b<1099511627776→PC E 100 [.agg t.view] (nodesM t):=by
 intro b
 induction b with
 |zero=>intro t h;have:=t.full_pos;omega
 |succ b ih=>
 intro t hsz hb
 have hsz':=Tm.full_eq t
 have hszz:=Tm.size_eq t
 have hle:=Tm.size_le_full t
 have hlen:=lsum_len Tm.full Tm.full_pos t.args
 have hsh:=Tm.shape_eq t
 have h1:=arity_c t.kind
 have h2:=typed_c t.kind
 have h3:=noType_c t.ty
 have h4:=checkTy_c t.ty (by omega)
 have bad:t.shape=false→(V.tup [.i 0,.bool false])=nodesM t:=fun h=>by simp[nodesM,Tm.nodes,h]
 refine M.F Tryz.func100 ?_
 repeat'(first|refine M.gw ?_|refine M.c2 (h1) ?_|refine M.c2 (h2) ?_|refine M.c2 (h3) ?_|refine M.c2 (h4) ?_|refine M.gs ?_ ?_<;>intro h|refine M.cs ?_ ?_<;>intro h|fail)
 all_goals first
  |(have hd:t.head=false:=by rw[t.head_eq];simp_all
    have:t.shape=false:=by rw[hsh,hd,Bool.false_and]
    simp[Tm.nodes,this,tupV,constV,V.wk,V.wks];done)
  |(have hd:t.head=true:=by rw[t.head_eq];simp_all
    refine AW.range t.args.length (fun m=>∀j (hj:j<t.args.length),j<m→(t.args[j]).shape=true)
     (fun m=>([(1,.ptr 0 0),(8,.i (1+((t.args.take m).map Tm.size).sum)),(59,.s .tm t.args),(60,.i t.args.length),(61,.i m)],⟨1,[(0,.var t.view)]⟩))
     (by omega) (fun m=>rfl) (fun m=>rfl) rfl (by intro j hj h;omega) (M.W [some 0]) ?_ ?_
    ·intro m hm hP
     have hs1:=lsum_take Tm.size t.args m hm
     have hs2:=lsum_mem Tm.full (List.getElem_mem hm)
     have hs3:=lsum_take_le Tm.size t.args (m+1)
     have hs4:=Tm.nodes_le t.args[m]
     have hs5:=Tm.size_le_full t.args[m]
     repeat'(first|refine M.gw ?_|refine M.c2 (ih _ ?_ ?_) ?_|refine M.cs ?_ ?_<;>intro h|exact M.le|exact M.lt|fail)
     ·have h1:(t.args[m]).shape=false:=by simpa using h
      have:t.shape=false:=by rw[hsh,all_not Tm.shape hm h1,Bool.and_false]
      simp[Tm.nodes,this,tupV,constV,V.wk,V.wks]
     ·have hh:(t.args[m]).shape=true:=by simpa using h
      refine⟨rfl,all_step (p:=fun t=>Tm.shape t=true) hm hP hh,?_⟩
      have e:(1+((((t.args.take (m+1)).map Tm.size).sum:Nat):Int))=1+(((t.args.take m).map Tm.size).sum:Nat)+t.args[m].nodes:=by simp only[Tm.nodes,hh,hs1];simp;omega
      simp only[e]
      exact(M.W [some 0])
    ·intro hP
     have:t.shape=true:=by simp only[hsh,hd,all_of Tm.shape t.args fun j hj=>hP j hj hj];simp
     repeat'(first|refine M.gw ?_|fail)
     simp[Tm.nodes,this,tupV,constV,hszz,V.wk,V.wks])
theorem checkTm_c(t:Tm)(ht:t.full<1099511627776):PC E 72 [.agg t.view] (.tup [.i t.num,.i t.err]):=by
 have h1:=termNodes_c _ t (Nat.le_refl _) ht
 refine M.F Tryz.func72 ?_
 repeat'(first|refine M.gw ?_|refine M.c2 (h1) ?_|refine M.zb ?_|refine M.cs ?_ ?_<;>intro h|fail)
 all_goals simp_all[tupV,V.wk,V.wks,constV,Tm.num,Tm.err,Tm.nodes]
 all_goals(first|omega|(split<;>first|omega|simp_all))
theorem size_c(t:Tm)(ht:t.full<1099511627776):PC E 41 [.agg t.view] (.tup [.i t.num,.i t.err]):=by
 have h1:=checkTm_c t ht
 refine M.F Tryz.func41 ?_
 repeat'(first|refine M.gw ?_|refine M.c2 (h1) ?_|fail)
 simp[tupV,V.wk,V.wks,constV,Ty.view,Tm.view]
theorem check_c(t:Tm)(ht:t.full<1099511627776):PC E 107 [.agg t.view] (.i t.err):=by
 have h1:=checkTm_c t ht
 refine M.F Tryz.func107 ?_
 repeat'(first|refine M.gw ?_|refine M.c2 (h1) ?_|fail)
 simp[tupV,V.wk,V.wks,constV,Ty.view,Tm.view]
end Go.Ab
