/- A part of the proofs of this seat's statements: B23. It has no conditions of its own. -/
import Derived.Test.YtafjchcccnpjmaaGreatDoorA2
namespace Go.Ab
open Go
set_option linter.unusedSimpArgs false
set_option linter.unusedVariables false
section
variable {E:Env} {N k:Nat} {a:AF} {σ:Sto} {Q:Exit→AF→Sto→Prop}
theorem AW.downG{B C r1 r2:Nat}{c v p p2 q:Tmp}{T T' T2 T3:TypeId}{ty0 ty1 ty2 ty3 ty4:TypeId}{s0 s1 s2 s3 s4:String}{af0 af1 af2 af3 af4:Array Edge}{body:Code}(len:Nat)(P:Nat→Prop)(J:Nat→AF×Sto)(hlen:len<4611686018427387904)
 (hv:∀m,(J m).1.get v=some (.int .i64 ((m:Int)-1))) (hd:(dstOk N (some c)&&dstOk N (some p)&&dstOk N (some p2)&&dstOk N (some q)&&dstOk N (some v)&&(!Nat.beq q p2)&&(!Nat.beq p2 v))=true) (hP:P len) (h0:Weak E N k a σ (J len).1 (J len).2)
 (hb:∀m,m<len→P (m+1)→AW E N k body ((c,.bool true)::(p,.int .i64 (((m+1:Nat):Int)-1))::(J (m+1)).1) (J (m+1)).2 (blockQ C (dwgQ E N k B v p2 q m P J Q)))
 (he:P 0→Q .normal ((c,.bool false)::(p,.int .i64 (((0:Nat):Int)-1))::(J 0).1) (J 0).2):
 AW E N k (.block B (.loop (.seq (.seq (.region r1 #[⟨some p,.move (.tmp v),ty0,s0,af0,none⟩,⟨some c,.binOp .geq T (.tmp p) (.const (.int .i64 0)) T',ty1,s1,af1,none⟩] false)
  (.cond (.tmp c) .skip (.exit B))) (.seq (.block C body)
   (.region r2 #[⟨some p2,.move (.tmp v),ty2,s2,af2,none⟩,⟨some q,.binOp .sub T2 (.tmp p2) (.const (.int .i64 1)) T3,ty3,s3,af3,none⟩,⟨some v,.assign (.tmp q),ty4,s4,af4,none⟩] false))))) a σ Q:=by
 simp only[Bool.and_eq_true] at hd
 obtain⟨⟨⟨⟨⟨⟨hd1,hd2⟩,hd3⟩,hd4⟩,hd5⟩,hd6⟩,hd7⟩:=hd
 refine .block (.loop (ι:={m:Nat // m≤len∧P m}) (fun m=>J m.1) (fun m=>m.1) ⟨len,Nat.le_refl _,hP⟩ h0 fun⟨m,hm,hPm⟩=> ?_)
 refine .seq (.seq (.regL (L.mv rfl (hv m) hd2 (L.bn rfl (show ev E T _ (.tmp p)=some (.int .i64 ((m:Int)-1)) by simp[ev,AF.put,AF.get]) (show ev E T _ (.const (.int .i64 0))=some (.int .i64 0) from rfl) rfl hd1 (.nilL ?_)))))
 show AW E N k _ ((c,.bool (decide ((m:Int)-1≥0)))::(p,.int .i64 ((m:Int)-1))::(J m).1) (J m).2 _
 cases m with
 |succ m=>
  have hdec:decide (((m+1:Nat):Int)-1≥0)=true:=by simp
  rw[hdec]
  refine .condT (by simp[ev,AF.get]) (.skip ?_)
  show AW E N k _ _ _ _
  refine .seq (.block ((hb m (by omega) hPm).mono ?_))
  rintro e a1 σ1 hq
  have hnorm:dwgQ E N k B v p2 q m P J Q .normal a1 σ1→thenQ E N k (.region r2 #[⟨some p2,.move (.tmp v),ty2,s2,af2,none⟩,⟨some q,.binOp .sub T2 (.tmp p2) (.const (.int .i64 1)) T3,ty3,s3,af3,none⟩,⟨some v,.assign (.tmp q),ty4,s4,af4,none⟩] false)
   (loopQ E N k (fun m:{m:Nat // m≤len∧P m}=>J m.1) (fun m=>m.1) ⟨m+1,hm,hPm⟩ (blockQ B Q)) .normal a1 σ1:=by
   rintro⟨h1,h2,h3⟩
   show AW E N k _ _ _ _
   refine .regL (L.mv rfl h1 hd3 (L.sb rfl (show ev E T2 _ (.tmp p2)=some (.int .i64 (((m+1:Nat):Int)-1)) by simp[ev,AF.put,AF.get]) (show ev E T2 _ (.const (.int .i64 1))=some (.int .i64 1) from rfl) hd4 (by omega)
    (L.asg rfl (show ev E ty4 _ (.tmp q)=some (.int .i64 (((m+1:Nat):Int)-1-1)) by simp[ev,AF.put,AF.get]) hd5 (.nilL ?_))))
   rw[show(((m+1:Nat):Int)-1-1)=(m:Int)-1 from by omega]
   exact⟨⟨m,by omega,h2⟩,by show m<m+1;omega,h3⟩
  cases e with
  |normal=>exact hnorm hq
  |exit id=>
   simp only[blockQ] at hq ⊢
   cases hb:Nat.beq id C with
   |true=>rw[hb] at hq;exact hnorm hq
   |false=>rw[hb] at hq;exact hq
  |goto l=>exact hq
  |ret=>exact hq
  |panic ch=>exact hq
  |outgrown=>exact hq
 |zero=>
  have hdec:decide (((0:Nat):Int)-1≥0)=false:=by simp
  rw[hdec]
  refine .condF (by simp[ev,AF.get]) (.exit ?_)
  show blockQ B Q (.exit B) _ _
  simp only[blockQ,Nat.beq_refl,cond_true]
  exact he hPm
namespace K
end K
variable {ops:List Oper} {dr:Bool} {rest:List Oper} {acc:List Rec} {d:Option Tmp} {ty:TypeId} {ps:String} {af:Array Edge} {gd:Option (Nat×Bool)}
namespace L
end L
end
end Go.Ab
