/-
  Merged: ExNe.
-/
import Derived.Test.YtdkofaajcpcjkaaDoorMcT
set_option linter.unusedSimpArgs false
set_option linter.unusedVariables false
set_option maxRecDepth 100000
set_option maxHeartbeats 4000000
namespace Go.Proofs.YtdkofaajcpcjkaaDoor
open Go.RowKit
theorem zn6 {e:Xp} {L:List Int} {x k:Int} {n:Nat} (he:Vx 3 e∧nodes e≤15) (hL:L.length=3) (hk:occX k e=false) (hn:k=(n:Int)):evalE e ((([]:List Int)++L).set n x)=evalE e L:=by
 refine zn5 he hL (by rw [List.length_set];exact Nat.le_of_eq hL.symm) fun j hj=>?_
 have h0:=zop he.1 hj
 have hne:n≠j.toNat:=by
  rintro rfl
  rw [show j=k by omega,hk] at hj
  cases hj
 rw [List.getD_eq_getElem?_getD,List.getD_eq_getElem?_getD,List.getElem?_set_ne hne];rfl
theorem znG {e:Xp} {L:List Int} {x:Int} (he:Vx 3 e∧nodes e≤15) (hL:L.length=3):evalE e ((([]:List Int)++L)++[x])=evalE e L:=by
 refine zn5 he hL (by rw [List.length_append];show 3≤L.length+1;omega) fun j hj=>?_
 have h0:=zop he.1 hj
 rw [List.getD_eq_getElem?_getD,List.getD_eq_getElem?_getD,List.getElem?_append_left (by show j.toNat<L.length;omega)];rfl
theorem zoA {w0:World} (hL0:LibT w0) (c:List Int) (c0 c1 c2 c3 c4 c5:Int) (x:List Int) (iat oth ilf:Int) (hc:c.length<9223372036854775807) (hx:x.length<9223372036854775808) (hz:0≤iat∧iat<256) (hy:0≤ilf∧ilf<256):Fun (KN w0) Tryd.prog 6 [.o (.g [pLs cI c,pI c0,pI c1,pI c2,pI c3,pI c4,pI c5]),.o (.c (pLs cI x)),.o (.c (pV (.int .u8 iat))),.o (.c (pI oth)),.o (.c (pV (.int .u8 ilf)))] (.o (.c (pV (.bool true)))):=by
 obtain ⟨v1,e1⟩:∃v,((x.length:Int))=v:=⟨_,rfl⟩
 obtain ⟨v2,e2⟩:∃v,((if (3:Int)<v1 then (3:Int) else v1))=v:=⟨_,rfl⟩
 obtain ⟨n3,s4⟩:∃(n3:Nat),v2=(n3:Int):=by (rw [← e1] at e2;exact ⟨v2.toNat,by split at e2<;>omega⟩)
 obtain ⟨v5,e5⟩:∃v,(x.take n3)=v:=⟨_,rfl⟩
 have s6:n3≤x.length:=by (rw [← e1] at e2;split at e2<;>omega)
 obtain ⟨v7,e7⟩:∃v,(([]:List Int)++v5)=v:=⟨_,rfl⟩
 have s8:(([]:List Int).length+v5.length)*1≤1099511627776:=by (have y:v5.length≤3:=(by rw [← e5,List.length_take];rw [← e1] at e2;split at e2<;>omega);simp only [List.length_cons,List.length_nil];omega)
 obtain ⟨v9,e9⟩:∃v,(v7++([(1:Int),(2:Int),(3:Int)]:List Int))=v:=⟨_,rfl⟩
 have s10:(v7.length+([(1:Int),(2:Int),(3:Int)]:List Int).length)*1≤1099511627776:=by (have y:v5.length≤3:=(by rw [← e5,List.length_take];rw [← e1] at e2;split at e2<;>omega);have y2:v7.length=v5.length:=(by rw [← e7];rfl);simp only [List.length_cons,List.length_nil];omega)
 obtain ⟨n11,s12⟩:∃(n11:Nat),(3:Int)=(n11:Int):=by exact ⟨3,rfl⟩
 obtain ⟨v13,e13⟩:∃v,(v9.take n11)=v:=⟨_,rfl⟩
 have hL:v13.length=3:=(by rw [← e13,List.length_take,← e9,List.length_append];simp only [List.length_cons,List.length_nil];omega)
 have s14:n11≤v9.length:=by (rw [← e9,List.length_append];simp only [List.length_cons,List.length_nil];omega)
 obtain ⟨v15,e15⟩:∃v,(madE c)=v:=⟨_,rfl⟩
 have hA:Vx 3 v15∧nodes v15≤15:=e15 ▸ zoB c
 have s16:(3:Int)=3:=by rfl
 have s17:c.length<9223372036854775807:=by exact hc
 obtain ⟨v18,e18⟩:∃v,((evalE v15 v13).1)=v:=⟨_,rfl⟩
 obtain ⟨v19,e19⟩:∃v,((evalE v15 v13).2)=v:=⟨_,rfl⟩
 have s20:nodes v15≤1000000:=by omega
 obtain ⟨v21,e21⟩:∃v,(IntKind.i64.wrap iat)=v:=⟨_,rfl⟩
 obtain ⟨v22,e22⟩:∃v,((v21:Int).tmod (3:Int))=v:=⟨_,rfl⟩
 have qv22:0≤v22∧v22<3:=(by have q1:v21=iat:=(by rw [← e21,wri (by omega)]);rw [← e22,q1,Int.tmod_eq_emod_of_nonneg hz.1];omega)
 obtain ⟨v23,e23⟩:∃v,(([]:List Int)++v13)=v:=⟨_,rfl⟩
 have s24:(([]:List Int).length+v13.length)*1≤1099511627776:=by (rw [hL];decide)
 obtain ⟨n25,s26⟩:∃(n25:Nat),v22=(n25:Int):=by exact ⟨v22.toNat,(Int.toNat_of_nonneg qv22.1).symm⟩
 have s27:n25<v23.length:=by (have y:v23.length=3:=(by rw [← e23];exact hL);omega)
 obtain ⟨v28,e28⟩:∃v,(v23.set n25 oth)=v:=⟨_,rfl⟩
 obtain ⟨v29,e29⟩:∃v,((evalE v15 v28).1)=v:=⟨_,rfl⟩
 obtain ⟨v30,e30⟩:∃v,((evalE v15 v28).2)=v:=⟨_,rfl⟩
 have s31:nodes v15≤1000000:=by omega
 obtain ⟨v32,e32⟩:∃v,(occX v22 v15)=v:=⟨_,rfl⟩
 have s33:nodes v15≤1000000:=by omega
 cases hocc:occX v22 v15 with
 | false =>
  obtain ⟨v34,e34⟩:∃v,(!v32)=v:=⟨_,rfl⟩
  have h35:v34=true:=by (rw [← e34,e32.symm.trans hocc];rfl)
  obtain ⟨v36,e36⟩:∃v,((v29 != v18))=v:=⟨_,rfl⟩
  have h37:v36=false:=by (rw [← e36,← e29,← e18,← e28,← e23,zn6 (x:=oth) hA hL hocc s26];exact bne_self_eq_false _)
  obtain ⟨v38,e38⟩:∃v,((v30 != v19))=v:=⟨_,rfl⟩
  have h39:v38=false:=by (rw [← e38,← e30,← e19,← e28,← e23,zn6 (x:=oth) hA hL hocc s26];exact bne_self_eq_false _)
  obtain ⟨v40,e40⟩:∃v,(([]:List Int)++v13)=v:=⟨_,rfl⟩
  have s41:(([]:List Int).length+v13.length)*1≤1099511627776:=by (rw [hL];decide)
  obtain ⟨v42,e42⟩:∃v,(v40++[oth])=v:=⟨_,rfl⟩
  have s43:(v40.length+1)*1≤1099511627776:=by (have y:v40.length=3:=(by rw [← e40];exact hL);rw [y];decide)
  obtain ⟨v44,e44⟩:∃v,((evalE v15 v42).1)=v:=⟨_,rfl⟩
  obtain ⟨v45,e45⟩:∃v,((evalE v15 v42).2)=v:=⟨_,rfl⟩
  have s46:nodes v15≤1000000:=by omega
  obtain ⟨v47,e47⟩:∃v,((v44 != v18))=v:=⟨_,rfl⟩
  have h48:v47=false:=by (rw [← e47,← e44,← e18,← e42,← e40,znG (x:=oth) hA hL];exact bne_self_eq_false _)
  obtain ⟨v49,e49⟩:∃v,((v45 != v19))=v:=⟨_,rfl⟩
  have h50:v49=false:=by (rw [← e49,← e45,← e19,← e42,← e40,znG (x:=oth) hA hL];exact bne_self_eq_false _)
  obtain ⟨v51,e51⟩:∃v,(IntKind.i64.wrap ilf)=v:=⟨_,rfl⟩
  obtain ⟨v52,e52⟩:∃v,((v51:Int).tmod (4:Int))=v:=⟨_,rfl⟩
  have qv52:0≤v52∧v52≤3:=(by have q1:v51=ilf:=(by rw [← e51,wri (by omega)]);rw [← e52,q1,Int.tmod_eq_emod_of_nonneg hy.1];omega)
  cases hoc:occF v15 v52 with
  | false =>
   have hO:occF v15 v52=false:=hoc
   obtain ⟨v54,e54⟩:∃v,(qh v15 (3:Int))=v:=⟨_,rfl⟩
   have s55:nodes v15≤1000000:=by omega
   obtain ⟨v56,e56⟩:∃v,((v54 == (0:Int)))=v:=⟨_,rfl⟩
   have h57:v56=true:=by (rw [← e56,← e54,znD hA (by decide) (by decide),znH (by decide)];rfl)
   obtain ⟨v58,e58⟩:∃v,(qh v15 v52)=v:=⟨_,rfl⟩
   have s59:nodes v15≤1000000:=by omega
   obtain ⟨v60,e60⟩:∃v,((v58 == (0:Int)))=v:=⟨_,rfl⟩
   have hq:v60=true:=by rw [← e60,← e58,znD hA qv52.1 qv52.2,hoc];rfl
   have hp:=zog (w0:=w0) c c0 c1 c2 c3 c4 c5 x iat oth ilf hL0 v1 v2 n3 v5 v7 v9 n11 v13 v15 v18 v19 v21 v22 v23 n25 v28 v29 v30 v32 v34 v36 v38 v40 v42 v44 v45 v47 v49 v51 v52 false v54 v56 v58 v60 e1 e2 e5 e7 e9 e13 e15 e18 e19 e21 e22 e23 e28 e29 e30 e32 e34 e36 e38 e40 e42 e44 e45 e47 e49 e51 e52 e54 e56 e58 e60 s4 s6 s8 s10 s12 s14 s16 s17 s20 s24 s26 s27 s31 s33 h35 h37 h39 s41 s43 s46 h48 h50 rfl s55 h57 s59 (fun R hR=>zol c c0 c1 c2 c3 c4 c5 x iat oth ilf v1 v2 n3 v5 v7 v9 n11 v13 v15 v18 v19 v21 v22 v23 n25 v28 v29 v30 v32 v34 v36 v38 v40 v42 v44 v45 v47 v49 v51 v52 h35 h37 h39 h48 h50 false rfl rfl rfl rfl rfl rfl rfl rfl rfl rfl rfl rfl rfl rfl rfl rfl rfl rfl rfl rfl rfl rfl rfl rfl R hR hA.2 qv52 hO)
   rw [hq] at hp;exact hp
  | true =>
   have hO:occF v15 v52=true:=hoc
   obtain ⟨v54,e54⟩:∃v,(qh v15 (3:Int))=v:=⟨_,rfl⟩
   have s55:nodes v15≤1000000:=by omega
   obtain ⟨v56,e56⟩:∃v,((v54 == (0:Int)))=v:=⟨_,rfl⟩
   have h57:v56=true:=by (rw [← e56,← e54,znD hA (by decide) (by decide),znH (by decide)];rfl)
   obtain ⟨v58,e58⟩:∃v,(qh v15 v52)=v:=⟨_,rfl⟩
   have s59:nodes v15≤1000000:=by omega
   obtain ⟨v60,e60⟩:∃v,((v58 == (1:Int)))=v:=⟨_,rfl⟩
   have hq:v60=true:=by rw [← e60,← e58,znD hA qv52.1 qv52.2,hoc];rfl
   have hp:=zof (w0:=w0) c c0 c1 c2 c3 c4 c5 x iat oth ilf hL0 v1 v2 n3 v5 v7 v9 n11 v13 v15 v18 v19 v21 v22 v23 n25 v28 v29 v30 v32 v34 v36 v38 v40 v42 v44 v45 v47 v49 v51 v52 true v54 v56 v58 v60 e1 e2 e5 e7 e9 e13 e15 e18 e19 e21 e22 e23 e28 e29 e30 e32 e34 e36 e38 e40 e42 e44 e45 e47 e49 e51 e52 e54 e56 e58 e60 s4 s6 s8 s10 s12 s14 s16 s17 s20 s24 s26 s27 s31 s33 h35 h37 h39 s41 s43 s46 h48 h50 rfl s55 h57 s59 (fun R hR=>zol c c0 c1 c2 c3 c4 c5 x iat oth ilf v1 v2 n3 v5 v7 v9 n11 v13 v15 v18 v19 v21 v22 v23 n25 v28 v29 v30 v32 v34 v36 v38 v40 v42 v44 v45 v47 v49 v51 v52 h35 h37 h39 h48 h50 true rfl rfl rfl rfl rfl rfl rfl rfl rfl rfl rfl rfl rfl rfl rfl rfl rfl rfl rfl rfl rfl rfl rfl rfl R hR hA.2 qv52 hO)
   rw [hq] at hp;exact hp
 | true =>
  obtain ⟨v34,e34⟩:∃v,(!v32)=v:=⟨_,rfl⟩
  have h35:v34=false:=by (rw [← e34,e32.symm.trans hocc];rfl)
  obtain ⟨v36,e36⟩:∃v,(([]:List Int)++v13)=v:=⟨_,rfl⟩
  have s37:(([]:List Int).length+v13.length)*1≤1099511627776:=by (rw [hL];decide)
  obtain ⟨v38,e38⟩:∃v,(v36++[oth])=v:=⟨_,rfl⟩
  have s39:(v36.length+1)*1≤1099511627776:=by (have y:v36.length=3:=(by rw [← e36];exact hL);rw [y];decide)
  obtain ⟨v40,e40⟩:∃v,((evalE v15 v38).1)=v:=⟨_,rfl⟩
  obtain ⟨v41,e41⟩:∃v,((evalE v15 v38).2)=v:=⟨_,rfl⟩
  have s42:nodes v15≤1000000:=by omega
  obtain ⟨v43,e43⟩:∃v,((v40 != v18))=v:=⟨_,rfl⟩
  have h44:v43=false:=by (rw [← e43,← e40,← e18,← e38,← e36,znG (x:=oth) hA hL];exact bne_self_eq_false _)
  obtain ⟨v45,e45⟩:∃v,((v41 != v19))=v:=⟨_,rfl⟩
  have h46:v45=false:=by (rw [← e45,← e41,← e19,← e38,← e36,znG (x:=oth) hA hL];exact bne_self_eq_false _)
  obtain ⟨v47,e47⟩:∃v,(IntKind.i64.wrap ilf)=v:=⟨_,rfl⟩
  obtain ⟨v48,e48⟩:∃v,((v47:Int).tmod (4:Int))=v:=⟨_,rfl⟩
  have qv48:0≤v48∧v48≤3:=(by have q1:v47=ilf:=(by rw [← e47,wri (by omega)]);rw [← e48,q1,Int.tmod_eq_emod_of_nonneg hy.1];omega)
  cases hoc:occF v15 v48 with
  | false =>
   have hO:occF v15 v48=false:=hoc
   obtain ⟨v50,e50⟩:∃v,(qh v15 (3:Int))=v:=⟨_,rfl⟩
   have s51:nodes v15≤1000000:=by omega
   obtain ⟨v52,e52⟩:∃v,((v50 == (0:Int)))=v:=⟨_,rfl⟩
   have h53:v52=true:=by (rw [← e52,← e50,znD hA (by decide) (by decide),znH (by decide)];rfl)
   obtain ⟨v54,e54⟩:∃v,(qh v15 v48)=v:=⟨_,rfl⟩
   have s55:nodes v15≤1000000:=by omega
   obtain ⟨v56,e56⟩:∃v,((v54 == (0:Int)))=v:=⟨_,rfl⟩
   have hq:v56=true:=by rw [← e56,← e54,znD hA qv48.1 qv48.2,hoc];rfl
   have hp:=zoi (w0:=w0) c c0 c1 c2 c3 c4 c5 x iat oth ilf hL0 v1 v2 n3 v5 v7 v9 n11 v13 v15 v18 v19 v21 v22 v23 n25 v28 v29 v30 v32 v34 v36 v38 v40 v41 v43 v45 v47 v48 false v50 v52 v54 v56 e1 e2 e5 e7 e9 e13 e15 e18 e19 e21 e22 e23 e28 e29 e30 e32 e34 e36 e38 e40 e41 e43 e45 e47 e48 e50 e52 e54 e56 s4 s6 s8 s10 s12 s14 s16 s17 s20 s24 s26 s27 s31 s33 h35 s37 s39 s42 h44 h46 rfl s51 h53 s55 (fun R hR=>zon c c0 c1 c2 c3 c4 c5 x iat oth ilf v1 v2 n3 v5 v7 v9 n11 v13 v15 v18 v19 v21 v22 v23 n25 v28 v29 v30 v32 v34 v36 v38 v40 v41 v43 v45 v47 v48 h35 h44 h46 false rfl rfl rfl rfl rfl rfl rfl rfl rfl rfl rfl rfl rfl rfl rfl rfl rfl rfl rfl rfl rfl rfl R hR hA.2 qv48 hO)
   rw [hq] at hp;exact hp
  | true =>
   have hO:occF v15 v48=true:=hoc
   obtain ⟨v50,e50⟩:∃v,(qh v15 (3:Int))=v:=⟨_,rfl⟩
   have s51:nodes v15≤1000000:=by omega
   obtain ⟨v52,e52⟩:∃v,((v50 == (0:Int)))=v:=⟨_,rfl⟩
   have h53:v52=true:=by (rw [← e52,← e50,znD hA (by decide) (by decide),znH (by decide)];rfl)
   obtain ⟨v54,e54⟩:∃v,(qh v15 v48)=v:=⟨_,rfl⟩
   have s55:nodes v15≤1000000:=by omega
   obtain ⟨v56,e56⟩:∃v,((v54 == (1:Int)))=v:=⟨_,rfl⟩
   have hq:v56=true:=by rw [← e56,← e54,znD hA qv48.1 qv48.2,hoc];rfl
   have hp:=zoh (w0:=w0) c c0 c1 c2 c3 c4 c5 x iat oth ilf hL0 v1 v2 n3 v5 v7 v9 n11 v13 v15 v18 v19 v21 v22 v23 n25 v28 v29 v30 v32 v34 v36 v38 v40 v41 v43 v45 v47 v48 true v50 v52 v54 v56 e1 e2 e5 e7 e9 e13 e15 e18 e19 e21 e22 e23 e28 e29 e30 e32 e34 e36 e38 e40 e41 e43 e45 e47 e48 e50 e52 e54 e56 s4 s6 s8 s10 s12 s14 s16 s17 s20 s24 s26 s27 s31 s33 h35 s37 s39 s42 h44 h46 rfl s51 h53 s55 (fun R hR=>zon c c0 c1 c2 c3 c4 c5 x iat oth ilf v1 v2 n3 v5 v7 v9 n11 v13 v15 v18 v19 v21 v22 v23 n25 v28 v29 v30 v32 v34 v36 v38 v40 v41 v43 v45 v47 v48 h35 h44 h46 true rfl rfl rfl rfl rfl rfl rfl rfl rfl rfl rfl rfl rfl rfl rfl rfl rfl rfl rfl rfl rfl rfl R hR hA.2 qv48 hO)
   rw [hq] at hp;exact hp
end Go.Proofs.YtdkofaajcpcjkaaDoor
