/-
  Merged: ExLb.
-/
import Derived.Test.YtdkofaajcpcjkaaDoorMaT
import Derived.Test.YtdkofaajcpcjkaaDoorMaS
import Derived.Test.YtdkofaajcpcjkaaDoorMaK
import Derived.Test.YtdkofaajcpcjkaaDoorMaE
set_option linter.unusedSimpArgs false
set_option linter.unusedVariables false
set_option maxRecDepth 100000
set_option maxHeartbeats 4000000
namespace Go.Proofs.YtdkofaajcpcjkaaDoor
open Go.RowKit
theorem made3 (l:List Int):Vx 3 (madE l)∧nodes (madE l)≤15:=by
 obtain ⟨h1,h2⟩:=zjx (args:=3) (by decide) (by decide) 3 l
 exact ⟨h1,by unfold madE;omega⟩
theorem ev3 {A:Xp} {L:List Int} (hA:Vx 3 A∧nodes A≤15) (hL:L.length=3):(∃a,evalX L A=some a∧(evalE A L).1=a∧(evalE A L).2=0∧valB a=true)∨(evalX L A=none∧(evalE A L).1=0∧(evalE A L).2=3):=by
 have hc:qh A L.length=0:=qZ.2 ⟨by omega,by rw [hL];exact hA.1⟩
 unfold evalE
 rw [if_neg (by rw [hc];decide)]
 cases h:evalX L A with
 | none=>exact .inr ⟨rfl,rfl,rfl⟩
 | some a=>exact .inl ⟨a,rfl,rfl,rfl,zdH hA.1 a h⟩
theorem zkI {W:Xp} {L:List Int} (h:30<nodes W):(evalE W L).1=0∧(evalE W L).2=2:=by
 have hc:qh W L.length=2:=by unfold qh;rw [if_pos ((qf W).2 h)]
 unfold evalE
 rw [hc]
 exact ⟨rfl,rfl⟩
theorem zjs {A B:Xp} {L:List Int} {k:Int} (h0:3≤k) (h1:k≤7) (hA:Vx 3 A) (hB:Vx 3 B) (hL:L.length=3) (hn:¬ 30<nodes (Xp.mk k 0 [A,B])):((evalX L A=none∨evalX L B=none)→(evalE (.mk k 0 [A,B]) L).1=0∧(evalE (.mk k 0 [A,B]) L).2=3)∧(∀a b,evalX L A=some a→evalX L B=some b→(evalE (.mk k 0 [A,B]) L).1=(if valB (operX k a b)=true then operX k a b else 0)∧(evalE (.mk k 0 [A,B]) L).2=if valB (operX k a b)=true then 0 else 3):=by
 have hv:(3:Int)=L.length:=by omega
 have hm:=means h0 h1 (a:=A) (b:=B) (args:=L) (by rw [← hv];exact hA) (by rw [← hv];exact hB) (by omega)
 rw [hm]
 refine ⟨fun h=>?_,fun a b ha hb=>?_⟩
 ·rcases h with h | h
  ·rw [h];exact ⟨rfl,rfl⟩
  ·rw [h];cases evalX L A<;>exact ⟨rfl,rfl⟩
 ·rw [ha,hb]
  simp only
  split<;>exact ⟨rfl,rfl⟩
theorem zkl {a b v:Int} (h:(if b<a then b else a)=v):v=operX 6 a b:=by
 rw [← h];show _=min a b;split<;>omega
theorem zgg {a b v:Int} (h:(if b > a then b else a)=v):v=operX 7 a b:=by
 rw [← h];show _=max a b;split<;>omega
theorem zk8 {w0:World} (hL0:LibT w0) (c:List Int) (c0 c1 c2 c3 c4 c5:Int) (d:List Int) (d0 d1 d2 d3 d4 d5:Int) (x:List Int) (z:Int) (hc:c.length<9223372036854775807) (hd:d.length<9223372036854775807) (hx:x.length<9223372036854775808) (hz:0≤z∧z<256):Fun (KN w0) Tryd.prog 5 [.o (.g [pLs cI c,pI c0,pI c1,pI c2,pI c3,pI c4,pI c5]),.o (.g [pLs cI d,pI d0,pI d1,pI d2,pI d3,pI d4,pI d5]),.o (.c (pLs cI x)),.o (.c (pV (.int .u8 z)))] (.o (.c (pV (.bool true)))):=by
 obtain ⟨v1,e1⟩:∃v,((x.length:Int))=v:=⟨_,rfl⟩
 obtain ⟨v2,e2⟩:∃v,((if (3:Int)<v1 then (3:Int) else v1))=v:=⟨_,rfl⟩
 obtain ⟨n3,s4⟩:∃(n3:Nat),v2=(n3:Int):=by (rw [← e1] at e2;exact ⟨v2.toNat,by split at e2<;>omega⟩)
 obtain ⟨v5,e5⟩:∃v,(x.take n3)=v:=⟨_,rfl⟩
 have s6:n3≤x.length:=by (rw [← e1] at e2;split at e2<;>omega)
 obtain ⟨v7,e7⟩:∃v,(([]:List Int)++v5)=v:=⟨_,rfl⟩
 have s8:(([]:List Int).length+v5.length)*1≤1099511627776:=by (have y:v5.length≤3:=(by rw [← e5,List.length_take];rw [← e1] at e2;split at e2<;>omega);simp only [List.length_cons,List.length_nil];omega)
 obtain ⟨v9,e9⟩:∃v,(v7++([(1:Int),(2:Int),(3:Int)]:List Int))=v:=⟨_,rfl⟩
 have s10:(v7.length+([(1:Int),(2:Int),(3:Int)]:List Int).length)*1≤1099511627776:=by (have y:v5.length≤3:=(by rw [← e5,List.length_take];rw [← e1] at e2;split at e2<;>omega);have y2:v7.length=v5.length:=(by rw [← e7];rfl);simp only [List.length_cons,List.length_nil];omega)
 obtain ⟨n11,s12⟩:∃(n11:Nat),(3:Int)=(n11:Int):=by exact ⟨3,rfl⟩
 obtain ⟨v13,e13⟩:∃v,(v9.take n11)=v:=⟨_,rfl⟩
 have hL:v13.length=3:=(by rw [← e13,List.length_take,← e9,List.length_append];simp only [List.length_cons,List.length_nil];omega)
 have s14:n11≤v9.length:=by (rw [← e9,List.length_append];simp only [List.length_cons,List.length_nil];omega)
 obtain ⟨v15,e15⟩:∃v,(madE c)=v:=⟨_,rfl⟩
 have hA:Vx 3 v15∧nodes v15≤15:=e15 ▸ made3 c
 have s16:(3:Int)=3:=by rfl
 have s17:c.length<9223372036854775807:=by exact hc
 obtain ⟨v18,e18⟩:∃v,(madE d)=v:=⟨_,rfl⟩
 have hB:Vx 3 v18∧nodes v18≤15:=e18 ▸ made3 d
 have s19:(3:Int)=3:=by rfl
 have s20:d.length<9223372036854775807:=by exact hd
 obtain ⟨v21,e21⟩:∃v,((evalE v15 v13).1)=v:=⟨_,rfl⟩
 obtain ⟨v22,e22⟩:∃v,((evalE v15 v13).2)=v:=⟨_,rfl⟩
 have s23:nodes v15≤1000000:=by omega
 obtain ⟨v24,e24⟩:∃v,((evalE v18 v13).1)=v:=⟨_,rfl⟩
 obtain ⟨v25,e25⟩:∃v,((evalE v18 v13).2)=v:=⟨_,rfl⟩
 have s26:nodes v18≤1000000:=by omega
 obtain ⟨v27,e27⟩:∃v,(IntKind.i64.wrap z)=v:=⟨_,rfl⟩
 obtain ⟨v28,e28⟩:∃v,((v27:Int).tmod (5:Int))=v:=⟨_,rfl⟩
 obtain ⟨v29,e29⟩:∃v,(IntKind.i64.wrap ((3:Int)+v28))=v:=⟨_,rfl⟩
 have hk:3≤v29∧v29≤7:=(by have q1:v27=z:=(by rw [← e27,wri (by omega)]);have q2:v28=z%5:=(by rw [← e28,q1,Int.tmod_eq_emod_of_nonneg hz.1]);rw [← e29,wri (by omega)];omega)
 obtain ⟨v30,e30⟩:∃v,((Xp.mk v29 0 [v15,v18]))=v:=⟨_,rfl⟩
 have hW:nodes v30=nodes v15+nodes v18+1:=(by rw [← e30,nodes,z1,z1,z1];omega)
 obtain ⟨v31,e31⟩:∃v,((evalE v30 v13).1)=v:=⟨_,rfl⟩
 obtain ⟨v32,e32⟩:∃v,((evalE v30 v13).2)=v:=⟨_,rfl⟩
 have s33:nodes v30≤1000000:=by omega
 obtain ⟨v34,e34⟩:∃v,(sizeX v30 (30:Int))=v:=⟨_,rfl⟩
 have s35:nodes v30≤1000000:=by omega
 have s36:0≤(30:Int)∧(30:Int)≤1000:=by decide
 obtain ⟨v37,e37⟩:∃v,(decide (v34 > (30:Int)))=v:=⟨_,rfl⟩
 by_cases hs:30<nodes v30
 ·
  have qm:=zkI (L:=v13) hs
  have qv31:v31=0:=e31.symm.trans qm.1
  have qv32:v32=2:=e32.symm.trans qm.2
  have h38:v37=true:=by (rw [← e37,← e34];exact decide_eq_true ((qf _).2 hs))
  obtain ⟨v39,e39⟩:∃v,((v32 == (2:Int)))=v:=⟨_,rfl⟩
  have h40:v39=true:=by (rw [← e39,qv32];rfl)
  obtain ⟨v41,e41⟩:∃v,((v31 == (0:Int)))=v:=⟨_,rfl⟩
  have hq:v41=true:=by (rw [← e41,qv31];rfl)
  have hp:=zgv (w0:=w0) c c0 c1 c2 c3 c4 c5 d d0 d1 d2 d3 d4 d5 x z hL0 v1 v2 n3 v5 v7 v9 n11 v13 v15 v18 v21 v22 v24 v25 v27 v28 v29 v30 v31 v32 v34 v37 v39 v41 e1 e2 e5 e7 e9 e13 e15 e18 e21 e22 e24 e25 e27 e28 e29 e30 e31 e32 e34 e37 e39 e41 s4 s6 s8 s10 s12 s14 s16 s17 s19 s20 s23 s26 s33 s35 s36 h38 h40
  rw [hq] at hp;exact hp
 ·
  have hw:=zjs (L:=v13) hk.1 hk.2 hA.1 hB.1 hL (by rw [e30];exact hs)
  rw [e30] at hw
  have hkc:v29=3∨v29=4∨v29=5∨v29=6∨v29=7:=by omega
  rcases ev3 hA hL with ⟨a,ha1,ha2,ha3,ha4⟩ | ⟨ha1,ha2,ha3⟩
  ·
   rcases ev3 hB hL with ⟨b,hb1,hb2,hb3,hb4⟩ | ⟨hb1,hb2,hb3⟩
   ·
    have qv22:v22=0:=e22.symm.trans ha3
    have qv25:v25=0:=e25.symm.trans hb3
    rw [e21] at ha2;rw [← ha2] at ha1 ha4
    rw [e24] at hb2;rw [← hb2] at hb1 hb4
    rcases hkc with qv29 | qv29 | qv29 | qv29 | qv29
    ·
     have hw2:=hw.2 _ _ ha1 hb1;rw [qv29] at hw2
     cases hv:valB (operX 3 v21 v24) with
     | true =>
      rw [hv] at hw2
      have qv31:v31=operX 3 v21 v24:=e31.symm.trans hw2.1
      have qv32:v32=0:=e32.symm.trans hw2.2
      have h38:v37=false:=by (rw [← e37,← e34];exact decide_eq_false (fun h=>hs ((qf _).1 h)))
      obtain ⟨v39,e39⟩:∃v,((v22 != (0:Int)))=v:=⟨_,rfl⟩
      have h40:v39=false:=by (rw [← e39,qv22];rfl)
      obtain ⟨v41,e41⟩:∃v,((v25 != (0:Int)))=v:=⟨_,rfl⟩
      have h42:v41=false:=by (rw [← e41,qv25];rfl)
      obtain ⟨v43,e43⟩:∃v,((v22 == (0:Int)))=v:=⟨_,rfl⟩
      have h44:v43=true:=by (rw [← e43,qv22];rfl)
      obtain ⟨v45,e45⟩:∃v,(valB v21)=v:=⟨_,rfl⟩
      obtain ⟨v46,e46⟩:∃v,(!v45)=v:=⟨_,rfl⟩
      have h47:v46=false:=by (rw [← e46,← e45,ha4];rfl)
      obtain ⟨v48,e48⟩:∃v,((v25 == (0:Int)))=v:=⟨_,rfl⟩
      have h49:v48=true:=by (rw [← e48,qv25];rfl)
      obtain ⟨v50,e50⟩:∃v,(valB v24)=v:=⟨_,rfl⟩
      obtain ⟨v51,e51⟩:∃v,(!v50)=v:=⟨_,rfl⟩
      have h52:v51=false:=by (rw [← e51,← e50,hb4];rfl)
      obtain ⟨v53,e53⟩:∃v,((v29 == (3:Int)))=v:=⟨_,rfl⟩
      have h54:v53=true:=by (rw [← e53,qv29];rfl)
      obtain ⟨v55,e55⟩:∃v,(IntKind.i64.wrap (v21+v24))=v:=⟨_,rfl⟩
      have qw:v55=operX 3 v21 v24:=(by rw [← e55];exact wri (n:=operX 3 v21 v24) (op_in 3 ha4 hb4))
      obtain ⟨v56,e56⟩:∃v,((v22 != (0:Int)))=v:=⟨_,rfl⟩
      have h57:v56=false:=by (rw [← e56,qv22];rfl)
      obtain ⟨v58,e58⟩:∃v,((v25 != (0:Int)))=v:=⟨_,rfl⟩
      have h59:v58=false:=by (rw [← e58,qv25];rfl)
      obtain ⟨v60,e60⟩:∃v,(valB v55)=v:=⟨_,rfl⟩
      obtain ⟨v61,e61⟩:∃v,(!v60)=v:=⟨_,rfl⟩
      have h62:v61=false:=by (rw [← e61,← e60,qw,hv];rfl)
      obtain ⟨v63,e63⟩:∃v,((v32 == (0:Int)))=v:=⟨_,rfl⟩
      have h64:v63=true:=by (rw [← e63,qv32];rfl)
      obtain ⟨v65,e65⟩:∃v,((v31 == v55))=v:=⟨_,rfl⟩
      have hq:v65=true:=by (rw [← e65,qv31,qw];exact beq_self_eq_true _)
      have hp:=zgw (w0:=w0) c c0 c1 c2 c3 c4 c5 d d0 d1 d2 d3 d4 d5 x z hL0 v1 v2 n3 v5 v7 v9 n11 v13 v15 v18 v21 v22 v24 v25 v27 v28 v29 v30 v31 v32 v34 v37 v39 v41 v43 v45 v46 v48 v50 v51 v53 v55 v56 v58 v60 v61 v63 v65 e1 e2 e5 e7 e9 e13 e15 e18 e21 e22 e24 e25 e27 e28 e29 e30 e31 e32 e34 e37 e39 e41 e43 e45 e46 e48 e50 e51 e53 e55 e56 e58 e60 e61 e63 e65 s4 s6 s8 s10 s12 s14 s16 s17 s19 s20 s23 s26 s33 s35 s36 h38 h40 h42 h44 h47 h49 h52 h54 h57 h59 h62 h64
      rw [hq] at hp;exact hp
     | false =>
      rw [hv] at hw2
      have qv31:v31=0:=e31.symm.trans hw2.1
      have qv32:v32=3:=e32.symm.trans hw2.2
      have h38:v37=false:=by (rw [← e37,← e34];exact decide_eq_false (fun h=>hs ((qf _).1 h)))
      obtain ⟨v39,e39⟩:∃v,((v22 != (0:Int)))=v:=⟨_,rfl⟩
      have h40:v39=false:=by (rw [← e39,qv22];rfl)
      obtain ⟨v41,e41⟩:∃v,((v25 != (0:Int)))=v:=⟨_,rfl⟩
      have h42:v41=false:=by (rw [← e41,qv25];rfl)
      obtain ⟨v43,e43⟩:∃v,((v22 == (0:Int)))=v:=⟨_,rfl⟩
      have h44:v43=true:=by (rw [← e43,qv22];rfl)
      obtain ⟨v45,e45⟩:∃v,(valB v21)=v:=⟨_,rfl⟩
      obtain ⟨v46,e46⟩:∃v,(!v45)=v:=⟨_,rfl⟩
      have h47:v46=false:=by (rw [← e46,← e45,ha4];rfl)
      obtain ⟨v48,e48⟩:∃v,((v25 == (0:Int)))=v:=⟨_,rfl⟩
      have h49:v48=true:=by (rw [← e48,qv25];rfl)
      obtain ⟨v50,e50⟩:∃v,(valB v24)=v:=⟨_,rfl⟩
      obtain ⟨v51,e51⟩:∃v,(!v50)=v:=⟨_,rfl⟩
      have h52:v51=false:=by (rw [← e51,← e50,hb4];rfl)
      obtain ⟨v53,e53⟩:∃v,((v29 == (3:Int)))=v:=⟨_,rfl⟩
      have h54:v53=true:=by (rw [← e53,qv29];rfl)
      obtain ⟨v55,e55⟩:∃v,(IntKind.i64.wrap (v21+v24))=v:=⟨_,rfl⟩
      have qw:v55=operX 3 v21 v24:=(by rw [← e55];exact wri (n:=operX 3 v21 v24) (op_in 3 ha4 hb4))
      obtain ⟨v56,e56⟩:∃v,((v22 != (0:Int)))=v:=⟨_,rfl⟩
      have h57:v56=false:=by (rw [← e56,qv22];rfl)
      obtain ⟨v58,e58⟩:∃v,((v25 != (0:Int)))=v:=⟨_,rfl⟩
      have h59:v58=false:=by (rw [← e58,qv25];rfl)
      obtain ⟨v60,e60⟩:∃v,(valB v55)=v:=⟨_,rfl⟩
      obtain ⟨v61,e61⟩:∃v,(!v60)=v:=⟨_,rfl⟩
      have h62:v61=true:=by (rw [← e61,← e60,qw,hv];rfl)
      obtain ⟨v63,e63⟩:∃v,((v32 == (3:Int)))=v:=⟨_,rfl⟩
      have h64:v63=true:=by (rw [← e63,qv32];rfl)
      obtain ⟨v65,e65⟩:∃v,((v31 == (0:Int)))=v:=⟨_,rfl⟩
      have hq:v65=true:=by (rw [← e65,qv31];rfl)
      have hp:=zgx (w0:=w0) c c0 c1 c2 c3 c4 c5 d d0 d1 d2 d3 d4 d5 x z hL0 v1 v2 n3 v5 v7 v9 n11 v13 v15 v18 v21 v22 v24 v25 v27 v28 v29 v30 v31 v32 v34 v37 v39 v41 v43 v45 v46 v48 v50 v51 v53 v55 v56 v58 v60 v61 v63 v65 e1 e2 e5 e7 e9 e13 e15 e18 e21 e22 e24 e25 e27 e28 e29 e30 e31 e32 e34 e37 e39 e41 e43 e45 e46 e48 e50 e51 e53 e55 e56 e58 e60 e61 e63 e65 s4 s6 s8 s10 s12 s14 s16 s17 s19 s20 s23 s26 s33 s35 s36 h38 h40 h42 h44 h47 h49 h52 h54 h57 h59 h62 h64
      rw [hq] at hp;exact hp
    ·
     have hw2:=hw.2 _ _ ha1 hb1;rw [qv29] at hw2
     cases hv:valB (operX 4 v21 v24) with
     | true =>
      rw [hv] at hw2
      have qv31:v31=operX 4 v21 v24:=e31.symm.trans hw2.1
      have qv32:v32=0:=e32.symm.trans hw2.2
      have h38:v37=false:=by (rw [← e37,← e34];exact decide_eq_false (fun h=>hs ((qf _).1 h)))
      obtain ⟨v39,e39⟩:∃v,((v22 != (0:Int)))=v:=⟨_,rfl⟩
      have h40:v39=false:=by (rw [← e39,qv22];rfl)
      obtain ⟨v41,e41⟩:∃v,((v25 != (0:Int)))=v:=⟨_,rfl⟩
      have h42:v41=false:=by (rw [← e41,qv25];rfl)
      obtain ⟨v43,e43⟩:∃v,((v22 == (0:Int)))=v:=⟨_,rfl⟩
      have h44:v43=true:=by (rw [← e43,qv22];rfl)
      obtain ⟨v45,e45⟩:∃v,(valB v21)=v:=⟨_,rfl⟩
      obtain ⟨v46,e46⟩:∃v,(!v45)=v:=⟨_,rfl⟩
      have h47:v46=false:=by (rw [← e46,← e45,ha4];rfl)
      obtain ⟨v48,e48⟩:∃v,((v25 == (0:Int)))=v:=⟨_,rfl⟩
      have h49:v48=true:=by (rw [← e48,qv25];rfl)
      obtain ⟨v50,e50⟩:∃v,(valB v24)=v:=⟨_,rfl⟩
      obtain ⟨v51,e51⟩:∃v,(!v50)=v:=⟨_,rfl⟩
      have h52:v51=false:=by (rw [← e51,← e50,hb4];rfl)
      obtain ⟨v53,e53⟩:∃v,((v29 == (3:Int)))=v:=⟨_,rfl⟩
      have h54:v53=false:=by (rw [← e53,qv29];rfl)
      obtain ⟨v55,e55⟩:∃v,((v29 == (4:Int)))=v:=⟨_,rfl⟩
      have h56:v55=true:=by (rw [← e55,qv29];rfl)
      obtain ⟨v57,e57⟩:∃v,(IntKind.i64.wrap (v21 - v24))=v:=⟨_,rfl⟩
      have qw:v57=operX 4 v21 v24:=(by rw [← e57];exact wri (n:=operX 4 v21 v24) (op_in 4 ha4 hb4))
      obtain ⟨v58,e58⟩:∃v,((v22 != (0:Int)))=v:=⟨_,rfl⟩
      have h59:v58=false:=by (rw [← e58,qv22];rfl)
      obtain ⟨v60,e60⟩:∃v,((v25 != (0:Int)))=v:=⟨_,rfl⟩
      have h61:v60=false:=by (rw [← e60,qv25];rfl)
      obtain ⟨v62,e62⟩:∃v,(valB v57)=v:=⟨_,rfl⟩
      obtain ⟨v63,e63⟩:∃v,(!v62)=v:=⟨_,rfl⟩
      have h64:v63=false:=by (rw [← e63,← e62,qw,hv];rfl)
      obtain ⟨v65,e65⟩:∃v,((v32 == (0:Int)))=v:=⟨_,rfl⟩
      have h66:v65=true:=by (rw [← e65,qv32];rfl)
      obtain ⟨v67,e67⟩:∃v,((v31 == v57))=v:=⟨_,rfl⟩
      have hq:v67=true:=by (rw [← e67,qv31,qw];exact beq_self_eq_true _)
      have hp:=zgy (w0:=w0) c c0 c1 c2 c3 c4 c5 d d0 d1 d2 d3 d4 d5 x z hL0 v1 v2 n3 v5 v7 v9 n11 v13 v15 v18 v21 v22 v24 v25 v27 v28 v29 v30 v31 v32 v34 v37 v39 v41 v43 v45 v46 v48 v50 v51 v53 v55 v57 v58 v60 v62 v63 v65 v67 e1 e2 e5 e7 e9 e13 e15 e18 e21 e22 e24 e25 e27 e28 e29 e30 e31 e32 e34 e37 e39 e41 e43 e45 e46 e48 e50 e51 e53 e55 e57 e58 e60 e62 e63 e65 e67 s4 s6 s8 s10 s12 s14 s16 s17 s19 s20 s23 s26 s33 s35 s36 h38 h40 h42 h44 h47 h49 h52 h54 h56 h59 h61 h64 h66
      rw [hq] at hp;exact hp
     | false =>
      rw [hv] at hw2
      have qv31:v31=0:=e31.symm.trans hw2.1
      have qv32:v32=3:=e32.symm.trans hw2.2
      have h38:v37=false:=by (rw [← e37,← e34];exact decide_eq_false (fun h=>hs ((qf _).1 h)))
      obtain ⟨v39,e39⟩:∃v,((v22 != (0:Int)))=v:=⟨_,rfl⟩
      have h40:v39=false:=by (rw [← e39,qv22];rfl)
      obtain ⟨v41,e41⟩:∃v,((v25 != (0:Int)))=v:=⟨_,rfl⟩
      have h42:v41=false:=by (rw [← e41,qv25];rfl)
      obtain ⟨v43,e43⟩:∃v,((v22 == (0:Int)))=v:=⟨_,rfl⟩
      have h44:v43=true:=by (rw [← e43,qv22];rfl)
      obtain ⟨v45,e45⟩:∃v,(valB v21)=v:=⟨_,rfl⟩
      obtain ⟨v46,e46⟩:∃v,(!v45)=v:=⟨_,rfl⟩
      have h47:v46=false:=by (rw [← e46,← e45,ha4];rfl)
      obtain ⟨v48,e48⟩:∃v,((v25 == (0:Int)))=v:=⟨_,rfl⟩
      have h49:v48=true:=by (rw [← e48,qv25];rfl)
      obtain ⟨v50,e50⟩:∃v,(valB v24)=v:=⟨_,rfl⟩
      obtain ⟨v51,e51⟩:∃v,(!v50)=v:=⟨_,rfl⟩
      have h52:v51=false:=by (rw [← e51,← e50,hb4];rfl)
      obtain ⟨v53,e53⟩:∃v,((v29 == (3:Int)))=v:=⟨_,rfl⟩
      have h54:v53=false:=by (rw [← e53,qv29];rfl)
      obtain ⟨v55,e55⟩:∃v,((v29 == (4:Int)))=v:=⟨_,rfl⟩
      have h56:v55=true:=by (rw [← e55,qv29];rfl)
      obtain ⟨v57,e57⟩:∃v,(IntKind.i64.wrap (v21 - v24))=v:=⟨_,rfl⟩
      have qw:v57=operX 4 v21 v24:=(by rw [← e57];exact wri (n:=operX 4 v21 v24) (op_in 4 ha4 hb4))
      obtain ⟨v58,e58⟩:∃v,((v22 != (0:Int)))=v:=⟨_,rfl⟩
      have h59:v58=false:=by (rw [← e58,qv22];rfl)
      obtain ⟨v60,e60⟩:∃v,((v25 != (0:Int)))=v:=⟨_,rfl⟩
      have h61:v60=false:=by (rw [← e60,qv25];rfl)
      obtain ⟨v62,e62⟩:∃v,(valB v57)=v:=⟨_,rfl⟩
      obtain ⟨v63,e63⟩:∃v,(!v62)=v:=⟨_,rfl⟩
      have h64:v63=true:=by (rw [← e63,← e62,qw,hv];rfl)
      obtain ⟨v65,e65⟩:∃v,((v32 == (3:Int)))=v:=⟨_,rfl⟩
      have h66:v65=true:=by (rw [← e65,qv32];rfl)
      obtain ⟨v67,e67⟩:∃v,((v31 == (0:Int)))=v:=⟨_,rfl⟩
      have hq:v67=true:=by (rw [← e67,qv31];rfl)
      have hp:=zgz (w0:=w0) c c0 c1 c2 c3 c4 c5 d d0 d1 d2 d3 d4 d5 x z hL0 v1 v2 n3 v5 v7 v9 n11 v13 v15 v18 v21 v22 v24 v25 v27 v28 v29 v30 v31 v32 v34 v37 v39 v41 v43 v45 v46 v48 v50 v51 v53 v55 v57 v58 v60 v62 v63 v65 v67 e1 e2 e5 e7 e9 e13 e15 e18 e21 e22 e24 e25 e27 e28 e29 e30 e31 e32 e34 e37 e39 e41 e43 e45 e46 e48 e50 e51 e53 e55 e57 e58 e60 e62 e63 e65 e67 s4 s6 s8 s10 s12 s14 s16 s17 s19 s20 s23 s26 s33 s35 s36 h38 h40 h42 h44 h47 h49 h52 h54 h56 h59 h61 h64 h66
      rw [hq] at hp;exact hp
    ·
     have hw2:=hw.2 _ _ ha1 hb1;rw [qv29] at hw2
     cases hv:valB (operX 5 v21 v24) with
     | true =>
      rw [hv] at hw2
      have qv31:v31=operX 5 v21 v24:=e31.symm.trans hw2.1
      have qv32:v32=0:=e32.symm.trans hw2.2
      have h38:v37=false:=by (rw [← e37,← e34];exact decide_eq_false (fun h=>hs ((qf _).1 h)))
      obtain ⟨v39,e39⟩:∃v,((v22 != (0:Int)))=v:=⟨_,rfl⟩
      have h40:v39=false:=by (rw [← e39,qv22];rfl)
      obtain ⟨v41,e41⟩:∃v,((v25 != (0:Int)))=v:=⟨_,rfl⟩
      have h42:v41=false:=by (rw [← e41,qv25];rfl)
      obtain ⟨v43,e43⟩:∃v,((v22 == (0:Int)))=v:=⟨_,rfl⟩
      have h44:v43=true:=by (rw [← e43,qv22];rfl)
      obtain ⟨v45,e45⟩:∃v,(valB v21)=v:=⟨_,rfl⟩
      obtain ⟨v46,e46⟩:∃v,(!v45)=v:=⟨_,rfl⟩
      have h47:v46=false:=by (rw [← e46,← e45,ha4];rfl)
      obtain ⟨v48,e48⟩:∃v,((v25 == (0:Int)))=v:=⟨_,rfl⟩
      have h49:v48=true:=by (rw [← e48,qv25];rfl)
      obtain ⟨v50,e50⟩:∃v,(valB v24)=v:=⟨_,rfl⟩
      obtain ⟨v51,e51⟩:∃v,(!v50)=v:=⟨_,rfl⟩
      have h52:v51=false:=by (rw [← e51,← e50,hb4];rfl)
      obtain ⟨v53,e53⟩:∃v,((v29 == (3:Int)))=v:=⟨_,rfl⟩
      have h54:v53=false:=by (rw [← e53,qv29];rfl)
      obtain ⟨v55,e55⟩:∃v,((v29 == (4:Int)))=v:=⟨_,rfl⟩
      have h56:v55=false:=by (rw [← e55,qv29];rfl)
      obtain ⟨v57,e57⟩:∃v,((v29 == (5:Int)))=v:=⟨_,rfl⟩
      have h58:v57=true:=by (rw [← e57,qv29];rfl)
      obtain ⟨v59,e59⟩:∃v,(IntKind.i64.wrap (v21*v24))=v:=⟨_,rfl⟩
      have qw:v59=operX 5 v21 v24:=(by rw [← e59];exact wri (n:=operX 5 v21 v24) (op_in 5 ha4 hb4))
      obtain ⟨v60,e60⟩:∃v,((v22 != (0:Int)))=v:=⟨_,rfl⟩
      have h61:v60=false:=by (rw [← e60,qv22];rfl)
      obtain ⟨v62,e62⟩:∃v,((v25 != (0:Int)))=v:=⟨_,rfl⟩
      have h63:v62=false:=by (rw [← e62,qv25];rfl)
      obtain ⟨v64,e64⟩:∃v,(valB v59)=v:=⟨_,rfl⟩
      obtain ⟨v65,e65⟩:∃v,(!v64)=v:=⟨_,rfl⟩
      have h66:v65=false:=by (rw [← e65,← e64,qw,hv];rfl)
      obtain ⟨v67,e67⟩:∃v,((v32 == (0:Int)))=v:=⟨_,rfl⟩
      have h68:v67=true:=by (rw [← e67,qv32];rfl)
      obtain ⟨v69,e69⟩:∃v,((v31 == v59))=v:=⟨_,rfl⟩
      have hq:v69=true:=by (rw [← e69,qv31,qw];exact beq_self_eq_true _)
      have hp:=zgA (w0:=w0) c c0 c1 c2 c3 c4 c5 d d0 d1 d2 d3 d4 d5 x z hL0 v1 v2 n3 v5 v7 v9 n11 v13 v15 v18 v21 v22 v24 v25 v27 v28 v29 v30 v31 v32 v34 v37 v39 v41 v43 v45 v46 v48 v50 v51 v53 v55 v57 v59 v60 v62 v64 v65 v67 v69 e1 e2 e5 e7 e9 e13 e15 e18 e21 e22 e24 e25 e27 e28 e29 e30 e31 e32 e34 e37 e39 e41 e43 e45 e46 e48 e50 e51 e53 e55 e57 e59 e60 e62 e64 e65 e67 e69 s4 s6 s8 s10 s12 s14 s16 s17 s19 s20 s23 s26 s33 s35 s36 h38 h40 h42 h44 h47 h49 h52 h54 h56 h58 h61 h63 h66 h68
      rw [hq] at hp;exact hp
     | false =>
      rw [hv] at hw2
      have qv31:v31=0:=e31.symm.trans hw2.1
      have qv32:v32=3:=e32.symm.trans hw2.2
      have h38:v37=false:=by (rw [← e37,← e34];exact decide_eq_false (fun h=>hs ((qf _).1 h)))
      obtain ⟨v39,e39⟩:∃v,((v22 != (0:Int)))=v:=⟨_,rfl⟩
      have h40:v39=false:=by (rw [← e39,qv22];rfl)
      obtain ⟨v41,e41⟩:∃v,((v25 != (0:Int)))=v:=⟨_,rfl⟩
      have h42:v41=false:=by (rw [← e41,qv25];rfl)
      obtain ⟨v43,e43⟩:∃v,((v22 == (0:Int)))=v:=⟨_,rfl⟩
      have h44:v43=true:=by (rw [← e43,qv22];rfl)
      obtain ⟨v45,e45⟩:∃v,(valB v21)=v:=⟨_,rfl⟩
      obtain ⟨v46,e46⟩:∃v,(!v45)=v:=⟨_,rfl⟩
      have h47:v46=false:=by (rw [← e46,← e45,ha4];rfl)
      obtain ⟨v48,e48⟩:∃v,((v25 == (0:Int)))=v:=⟨_,rfl⟩
      have h49:v48=true:=by (rw [← e48,qv25];rfl)
      obtain ⟨v50,e50⟩:∃v,(valB v24)=v:=⟨_,rfl⟩
      obtain ⟨v51,e51⟩:∃v,(!v50)=v:=⟨_,rfl⟩
      have h52:v51=false:=by (rw [← e51,← e50,hb4];rfl)
      obtain ⟨v53,e53⟩:∃v,((v29 == (3:Int)))=v:=⟨_,rfl⟩
      have h54:v53=false:=by (rw [← e53,qv29];rfl)
      obtain ⟨v55,e55⟩:∃v,((v29 == (4:Int)))=v:=⟨_,rfl⟩
      have h56:v55=false:=by (rw [← e55,qv29];rfl)
      obtain ⟨v57,e57⟩:∃v,((v29 == (5:Int)))=v:=⟨_,rfl⟩
      have h58:v57=true:=by (rw [← e57,qv29];rfl)
      obtain ⟨v59,e59⟩:∃v,(IntKind.i64.wrap (v21*v24))=v:=⟨_,rfl⟩
      have qw:v59=operX 5 v21 v24:=(by rw [← e59];exact wri (n:=operX 5 v21 v24) (op_in 5 ha4 hb4))
      obtain ⟨v60,e60⟩:∃v,((v22 != (0:Int)))=v:=⟨_,rfl⟩
      have h61:v60=false:=by (rw [← e60,qv22];rfl)
      obtain ⟨v62,e62⟩:∃v,((v25 != (0:Int)))=v:=⟨_,rfl⟩
      have h63:v62=false:=by (rw [← e62,qv25];rfl)
      obtain ⟨v64,e64⟩:∃v,(valB v59)=v:=⟨_,rfl⟩
      obtain ⟨v65,e65⟩:∃v,(!v64)=v:=⟨_,rfl⟩
      have h66:v65=true:=by (rw [← e65,← e64,qw,hv];rfl)
      obtain ⟨v67,e67⟩:∃v,((v32 == (3:Int)))=v:=⟨_,rfl⟩
      have h68:v67=true:=by (rw [← e67,qv32];rfl)
      obtain ⟨v69,e69⟩:∃v,((v31 == (0:Int)))=v:=⟨_,rfl⟩
      have hq:v69=true:=by (rw [← e69,qv31];rfl)
      have hp:=zgB (w0:=w0) c c0 c1 c2 c3 c4 c5 d d0 d1 d2 d3 d4 d5 x z hL0 v1 v2 n3 v5 v7 v9 n11 v13 v15 v18 v21 v22 v24 v25 v27 v28 v29 v30 v31 v32 v34 v37 v39 v41 v43 v45 v46 v48 v50 v51 v53 v55 v57 v59 v60 v62 v64 v65 v67 v69 e1 e2 e5 e7 e9 e13 e15 e18 e21 e22 e24 e25 e27 e28 e29 e30 e31 e32 e34 e37 e39 e41 e43 e45 e46 e48 e50 e51 e53 e55 e57 e59 e60 e62 e64 e65 e67 e69 s4 s6 s8 s10 s12 s14 s16 s17 s19 s20 s23 s26 s33 s35 s36 h38 h40 h42 h44 h47 h49 h52 h54 h56 h58 h61 h63 h66 h68
      rw [hq] at hp;exact hp
    ·
     have hw2:=hw.2 _ _ ha1 hb1;rw [qv29] at hw2
     cases hv:valB (operX 6 v21 v24) with
     | true =>
      rw [hv] at hw2
      have qv31:v31=operX 6 v21 v24:=e31.symm.trans hw2.1
      have qv32:v32=0:=e32.symm.trans hw2.2
      have h38:v37=false:=by (rw [← e37,← e34];exact decide_eq_false (fun h=>hs ((qf _).1 h)))
      obtain ⟨v39,e39⟩:∃v,((v22 != (0:Int)))=v:=⟨_,rfl⟩
      have h40:v39=false:=by (rw [← e39,qv22];rfl)
      obtain ⟨v41,e41⟩:∃v,((v25 != (0:Int)))=v:=⟨_,rfl⟩
      have h42:v41=false:=by (rw [← e41,qv25];rfl)
      obtain ⟨v43,e43⟩:∃v,((v22 == (0:Int)))=v:=⟨_,rfl⟩
      have h44:v43=true:=by (rw [← e43,qv22];rfl)
      obtain ⟨v45,e45⟩:∃v,(valB v21)=v:=⟨_,rfl⟩
      obtain ⟨v46,e46⟩:∃v,(!v45)=v:=⟨_,rfl⟩
      have h47:v46=false:=by (rw [← e46,← e45,ha4];rfl)
      obtain ⟨v48,e48⟩:∃v,((v25 == (0:Int)))=v:=⟨_,rfl⟩
      have h49:v48=true:=by (rw [← e48,qv25];rfl)
      obtain ⟨v50,e50⟩:∃v,(valB v24)=v:=⟨_,rfl⟩
      obtain ⟨v51,e51⟩:∃v,(!v50)=v:=⟨_,rfl⟩
      have h52:v51=false:=by (rw [← e51,← e50,hb4];rfl)
      obtain ⟨v53,e53⟩:∃v,((v29 == (3:Int)))=v:=⟨_,rfl⟩
      have h54:v53=false:=by (rw [← e53,qv29];rfl)
      obtain ⟨v55,e55⟩:∃v,((v29 == (4:Int)))=v:=⟨_,rfl⟩
      have h56:v55=false:=by (rw [← e55,qv29];rfl)
      obtain ⟨v57,e57⟩:∃v,((v29 == (5:Int)))=v:=⟨_,rfl⟩
      have h58:v57=false:=by (rw [← e57,qv29];rfl)
      obtain ⟨v59,e59⟩:∃v,((v29 == (6:Int)))=v:=⟨_,rfl⟩
      have h60:v59=true:=by (rw [← e59,qv29];rfl)
      obtain ⟨v61,e61⟩:∃v,((if v24<v21 then v24 else v21))=v:=⟨_,rfl⟩
      have qw:v61=operX 6 v21 v24:=zkl e61
      obtain ⟨v62,e62⟩:∃v,((v22 != (0:Int)))=v:=⟨_,rfl⟩
      have h63:v62=false:=by (rw [← e62,qv22];rfl)
      obtain ⟨v64,e64⟩:∃v,((v25 != (0:Int)))=v:=⟨_,rfl⟩
      have h65:v64=false:=by (rw [← e64,qv25];rfl)
      obtain ⟨v66,e66⟩:∃v,(valB v61)=v:=⟨_,rfl⟩
      obtain ⟨v67,e67⟩:∃v,(!v66)=v:=⟨_,rfl⟩
      have h68:v67=false:=by (rw [← e67,← e66,qw,hv];rfl)
      obtain ⟨v69,e69⟩:∃v,((v32 == (0:Int)))=v:=⟨_,rfl⟩
      have h70:v69=true:=by (rw [← e69,qv32];rfl)
      obtain ⟨v71,e71⟩:∃v,((v31 == v61))=v:=⟨_,rfl⟩
      have hq:v71=true:=by (rw [← e71,qv31,qw];exact beq_self_eq_true _)
      have hp:=zgC (w0:=w0) c c0 c1 c2 c3 c4 c5 d d0 d1 d2 d3 d4 d5 x z hL0 v1 v2 n3 v5 v7 v9 n11 v13 v15 v18 v21 v22 v24 v25 v27 v28 v29 v30 v31 v32 v34 v37 v39 v41 v43 v45 v46 v48 v50 v51 v53 v55 v57 v59 v61 v62 v64 v66 v67 v69 v71 e1 e2 e5 e7 e9 e13 e15 e18 e21 e22 e24 e25 e27 e28 e29 e30 e31 e32 e34 e37 e39 e41 e43 e45 e46 e48 e50 e51 e53 e55 e57 e59 e61 e62 e64 e66 e67 e69 e71 s4 s6 s8 s10 s12 s14 s16 s17 s19 s20 s23 s26 s33 s35 s36 h38 h40 h42 h44 h47 h49 h52 h54 h56 h58 h60 h63 h65 h68 h70
      rw [hq] at hp;exact hp
     | false =>
      rw [hv] at hw2
      have qv31:v31=0:=e31.symm.trans hw2.1
      have qv32:v32=3:=e32.symm.trans hw2.2
      have h38:v37=false:=by (rw [← e37,← e34];exact decide_eq_false (fun h=>hs ((qf _).1 h)))
      obtain ⟨v39,e39⟩:∃v,((v22 != (0:Int)))=v:=⟨_,rfl⟩
      have h40:v39=false:=by (rw [← e39,qv22];rfl)
      obtain ⟨v41,e41⟩:∃v,((v25 != (0:Int)))=v:=⟨_,rfl⟩
      have h42:v41=false:=by (rw [← e41,qv25];rfl)
      obtain ⟨v43,e43⟩:∃v,((v22 == (0:Int)))=v:=⟨_,rfl⟩
      have h44:v43=true:=by (rw [← e43,qv22];rfl)
      obtain ⟨v45,e45⟩:∃v,(valB v21)=v:=⟨_,rfl⟩
      obtain ⟨v46,e46⟩:∃v,(!v45)=v:=⟨_,rfl⟩
      have h47:v46=false:=by (rw [← e46,← e45,ha4];rfl)
      obtain ⟨v48,e48⟩:∃v,((v25 == (0:Int)))=v:=⟨_,rfl⟩
      have h49:v48=true:=by (rw [← e48,qv25];rfl)
      obtain ⟨v50,e50⟩:∃v,(valB v24)=v:=⟨_,rfl⟩
      obtain ⟨v51,e51⟩:∃v,(!v50)=v:=⟨_,rfl⟩
      have h52:v51=false:=by (rw [← e51,← e50,hb4];rfl)
      obtain ⟨v53,e53⟩:∃v,((v29 == (3:Int)))=v:=⟨_,rfl⟩
      have h54:v53=false:=by (rw [← e53,qv29];rfl)
      obtain ⟨v55,e55⟩:∃v,((v29 == (4:Int)))=v:=⟨_,rfl⟩
      have h56:v55=false:=by (rw [← e55,qv29];rfl)
      obtain ⟨v57,e57⟩:∃v,((v29 == (5:Int)))=v:=⟨_,rfl⟩
      have h58:v57=false:=by (rw [← e57,qv29];rfl)
      obtain ⟨v59,e59⟩:∃v,((v29 == (6:Int)))=v:=⟨_,rfl⟩
      have h60:v59=true:=by (rw [← e59,qv29];rfl)
      obtain ⟨v61,e61⟩:∃v,((if v24<v21 then v24 else v21))=v:=⟨_,rfl⟩
      have qw:v61=operX 6 v21 v24:=zkl e61
      obtain ⟨v62,e62⟩:∃v,((v22 != (0:Int)))=v:=⟨_,rfl⟩
      have h63:v62=false:=by (rw [← e62,qv22];rfl)
      obtain ⟨v64,e64⟩:∃v,((v25 != (0:Int)))=v:=⟨_,rfl⟩
      have h65:v64=false:=by (rw [← e64,qv25];rfl)
      obtain ⟨v66,e66⟩:∃v,(valB v61)=v:=⟨_,rfl⟩
      obtain ⟨v67,e67⟩:∃v,(!v66)=v:=⟨_,rfl⟩
      have h68:v67=true:=by (rw [← e67,← e66,qw,hv];rfl)
      obtain ⟨v69,e69⟩:∃v,((v32 == (3:Int)))=v:=⟨_,rfl⟩
      have h70:v69=true:=by (rw [← e69,qv32];rfl)
      obtain ⟨v71,e71⟩:∃v,((v31 == (0:Int)))=v:=⟨_,rfl⟩
      have hq:v71=true:=by (rw [← e71,qv31];rfl)
      have hp:=zgD (w0:=w0) c c0 c1 c2 c3 c4 c5 d d0 d1 d2 d3 d4 d5 x z hL0 v1 v2 n3 v5 v7 v9 n11 v13 v15 v18 v21 v22 v24 v25 v27 v28 v29 v30 v31 v32 v34 v37 v39 v41 v43 v45 v46 v48 v50 v51 v53 v55 v57 v59 v61 v62 v64 v66 v67 v69 v71 e1 e2 e5 e7 e9 e13 e15 e18 e21 e22 e24 e25 e27 e28 e29 e30 e31 e32 e34 e37 e39 e41 e43 e45 e46 e48 e50 e51 e53 e55 e57 e59 e61 e62 e64 e66 e67 e69 e71 s4 s6 s8 s10 s12 s14 s16 s17 s19 s20 s23 s26 s33 s35 s36 h38 h40 h42 h44 h47 h49 h52 h54 h56 h58 h60 h63 h65 h68 h70
      rw [hq] at hp;exact hp
    ·
     have hw2:=hw.2 _ _ ha1 hb1;rw [qv29] at hw2
     cases hv:valB (operX 7 v21 v24) with
     | true =>
      rw [hv] at hw2
      have qv31:v31=operX 7 v21 v24:=e31.symm.trans hw2.1
      have qv32:v32=0:=e32.symm.trans hw2.2
      have h38:v37=false:=by (rw [← e37,← e34];exact decide_eq_false (fun h=>hs ((qf _).1 h)))
      obtain ⟨v39,e39⟩:∃v,((v22 != (0:Int)))=v:=⟨_,rfl⟩
      have h40:v39=false:=by (rw [← e39,qv22];rfl)
      obtain ⟨v41,e41⟩:∃v,((v25 != (0:Int)))=v:=⟨_,rfl⟩
      have h42:v41=false:=by (rw [← e41,qv25];rfl)
      obtain ⟨v43,e43⟩:∃v,((v22 == (0:Int)))=v:=⟨_,rfl⟩
      have h44:v43=true:=by (rw [← e43,qv22];rfl)
      obtain ⟨v45,e45⟩:∃v,(valB v21)=v:=⟨_,rfl⟩
      obtain ⟨v46,e46⟩:∃v,(!v45)=v:=⟨_,rfl⟩
      have h47:v46=false:=by (rw [← e46,← e45,ha4];rfl)
      obtain ⟨v48,e48⟩:∃v,((v25 == (0:Int)))=v:=⟨_,rfl⟩
      have h49:v48=true:=by (rw [← e48,qv25];rfl)
      obtain ⟨v50,e50⟩:∃v,(valB v24)=v:=⟨_,rfl⟩
      obtain ⟨v51,e51⟩:∃v,(!v50)=v:=⟨_,rfl⟩
      have h52:v51=false:=by (rw [← e51,← e50,hb4];rfl)
      obtain ⟨v53,e53⟩:∃v,((v29 == (3:Int)))=v:=⟨_,rfl⟩
      have h54:v53=false:=by (rw [← e53,qv29];rfl)
      obtain ⟨v55,e55⟩:∃v,((v29 == (4:Int)))=v:=⟨_,rfl⟩
      have h56:v55=false:=by (rw [← e55,qv29];rfl)
      obtain ⟨v57,e57⟩:∃v,((v29 == (5:Int)))=v:=⟨_,rfl⟩
      have h58:v57=false:=by (rw [← e57,qv29];rfl)
      obtain ⟨v59,e59⟩:∃v,((v29 == (6:Int)))=v:=⟨_,rfl⟩
      have h60:v59=false:=by (rw [← e59,qv29];rfl)
      obtain ⟨v61,e61⟩:∃v,((v29 == (7:Int)))=v:=⟨_,rfl⟩
      have h62:v61=true:=by (rw [← e61,qv29];rfl)
      obtain ⟨v63,e63⟩:∃v,((if v24 > v21 then v24 else v21))=v:=⟨_,rfl⟩
      have qw:v63=operX 7 v21 v24:=zgg e63
      obtain ⟨v64,e64⟩:∃v,((v22 != (0:Int)))=v:=⟨_,rfl⟩
      have h65:v64=false:=by (rw [← e64,qv22];rfl)
      obtain ⟨v66,e66⟩:∃v,((v25 != (0:Int)))=v:=⟨_,rfl⟩
      have h67:v66=false:=by (rw [← e66,qv25];rfl)
      obtain ⟨v68,e68⟩:∃v,(valB v63)=v:=⟨_,rfl⟩
      obtain ⟨v69,e69⟩:∃v,(!v68)=v:=⟨_,rfl⟩
      have h70:v69=false:=by (rw [← e69,← e68,qw,hv];rfl)
      obtain ⟨v71,e71⟩:∃v,((v32 == (0:Int)))=v:=⟨_,rfl⟩
      have h72:v71=true:=by (rw [← e71,qv32];rfl)
      obtain ⟨v73,e73⟩:∃v,((v31 == v63))=v:=⟨_,rfl⟩
      have hq:v73=true:=by (rw [← e73,qv31,qw];exact beq_self_eq_true _)
      have hp:=zgE (w0:=w0) c c0 c1 c2 c3 c4 c5 d d0 d1 d2 d3 d4 d5 x z hL0 v1 v2 n3 v5 v7 v9 n11 v13 v15 v18 v21 v22 v24 v25 v27 v28 v29 v30 v31 v32 v34 v37 v39 v41 v43 v45 v46 v48 v50 v51 v53 v55 v57 v59 v61 v63 v64 v66 v68 v69 v71 v73 e1 e2 e5 e7 e9 e13 e15 e18 e21 e22 e24 e25 e27 e28 e29 e30 e31 e32 e34 e37 e39 e41 e43 e45 e46 e48 e50 e51 e53 e55 e57 e59 e61 e63 e64 e66 e68 e69 e71 e73 s4 s6 s8 s10 s12 s14 s16 s17 s19 s20 s23 s26 s33 s35 s36 h38 h40 h42 h44 h47 h49 h52 h54 h56 h58 h60 h62 h65 h67 h70 h72
      rw [hq] at hp;exact hp
     | false =>
      rw [hv] at hw2
      have qv31:v31=0:=e31.symm.trans hw2.1
      have qv32:v32=3:=e32.symm.trans hw2.2
      have h38:v37=false:=by (rw [← e37,← e34];exact decide_eq_false (fun h=>hs ((qf _).1 h)))
      obtain ⟨v39,e39⟩:∃v,((v22 != (0:Int)))=v:=⟨_,rfl⟩
      have h40:v39=false:=by (rw [← e39,qv22];rfl)
      obtain ⟨v41,e41⟩:∃v,((v25 != (0:Int)))=v:=⟨_,rfl⟩
      have h42:v41=false:=by (rw [← e41,qv25];rfl)
      obtain ⟨v43,e43⟩:∃v,((v22 == (0:Int)))=v:=⟨_,rfl⟩
      have h44:v43=true:=by (rw [← e43,qv22];rfl)
      obtain ⟨v45,e45⟩:∃v,(valB v21)=v:=⟨_,rfl⟩
      obtain ⟨v46,e46⟩:∃v,(!v45)=v:=⟨_,rfl⟩
      have h47:v46=false:=by (rw [← e46,← e45,ha4];rfl)
      obtain ⟨v48,e48⟩:∃v,((v25 == (0:Int)))=v:=⟨_,rfl⟩
      have h49:v48=true:=by (rw [← e48,qv25];rfl)
      obtain ⟨v50,e50⟩:∃v,(valB v24)=v:=⟨_,rfl⟩
      obtain ⟨v51,e51⟩:∃v,(!v50)=v:=⟨_,rfl⟩
      have h52:v51=false:=by (rw [← e51,← e50,hb4];rfl)
      obtain ⟨v53,e53⟩:∃v,((v29 == (3:Int)))=v:=⟨_,rfl⟩
      have h54:v53=false:=by (rw [← e53,qv29];rfl)
      obtain ⟨v55,e55⟩:∃v,((v29 == (4:Int)))=v:=⟨_,rfl⟩
      have h56:v55=false:=by (rw [← e55,qv29];rfl)
      obtain ⟨v57,e57⟩:∃v,((v29 == (5:Int)))=v:=⟨_,rfl⟩
      have h58:v57=false:=by (rw [← e57,qv29];rfl)
      obtain ⟨v59,e59⟩:∃v,((v29 == (6:Int)))=v:=⟨_,rfl⟩
      have h60:v59=false:=by (rw [← e59,qv29];rfl)
      obtain ⟨v61,e61⟩:∃v,((v29 == (7:Int)))=v:=⟨_,rfl⟩
      have h62:v61=true:=by (rw [← e61,qv29];rfl)
      obtain ⟨v63,e63⟩:∃v,((if v24 > v21 then v24 else v21))=v:=⟨_,rfl⟩
      have qw:v63=operX 7 v21 v24:=zgg e63
      obtain ⟨v64,e64⟩:∃v,((v22 != (0:Int)))=v:=⟨_,rfl⟩
      have h65:v64=false:=by (rw [← e64,qv22];rfl)
      obtain ⟨v66,e66⟩:∃v,((v25 != (0:Int)))=v:=⟨_,rfl⟩
      have h67:v66=false:=by (rw [← e66,qv25];rfl)
      obtain ⟨v68,e68⟩:∃v,(valB v63)=v:=⟨_,rfl⟩
      obtain ⟨v69,e69⟩:∃v,(!v68)=v:=⟨_,rfl⟩
      have h70:v69=true:=by (rw [← e69,← e68,qw,hv];rfl)
      obtain ⟨v71,e71⟩:∃v,((v32 == (3:Int)))=v:=⟨_,rfl⟩
      have h72:v71=true:=by (rw [← e71,qv32];rfl)
      obtain ⟨v73,e73⟩:∃v,((v31 == (0:Int)))=v:=⟨_,rfl⟩
      have hq:v73=true:=by (rw [← e73,qv31];rfl)
      have hp:=zeZ (w0:=w0) c c0 c1 c2 c3 c4 c5 d d0 d1 d2 d3 d4 d5 x z hL0 v1 v2 n3 v5 v7 v9 n11 v13 v15 v18 v21 v22 v24 v25 v27 v28 v29 v30 v31 v32 v34 v37 v39 v41 v43 v45 v46 v48 v50 v51 v53 v55 v57 v59 v61 v63 v64 v66 v68 v69 v71 v73 e1 e2 e5 e7 e9 e13 e15 e18 e21 e22 e24 e25 e27 e28 e29 e30 e31 e32 e34 e37 e39 e41 e43 e45 e46 e48 e50 e51 e53 e55 e57 e59 e61 e63 e64 e66 e68 e69 e71 e73 s4 s6 s8 s10 s12 s14 s16 s17 s19 s20 s23 s26 s33 s35 s36 h38 h40 h42 h44 h47 h49 h52 h54 h56 h58 h60 h62 h65 h67 h70 h72
      rw [hq] at hp;exact hp
   ·
    have qv22:v22=0:=e22.symm.trans ha3
    have qv25:v25=3:=e25.symm.trans hb3
    rw [e21] at ha2;rw [← ha2] at ha1 ha4
    rcases hkc with qv29 | qv29 | qv29 | qv29 | qv29
    ·
     have hw2:=hw.1 (.inr hb1)
     have qv31:v31=0:=e31.symm.trans hw2.1
     have qv32:v32=3:=e32.symm.trans hw2.2
     have h38:v37=false:=by (rw [← e37,← e34];exact decide_eq_false (fun h=>hs ((qf _).1 h)))
     obtain ⟨v39,e39⟩:∃v,((v22 != (0:Int)))=v:=⟨_,rfl⟩
     have h40:v39=false:=by (rw [← e39,qv22];rfl)
     obtain ⟨v41,e41⟩:∃v,((v25 != (0:Int)))=v:=⟨_,rfl⟩
     have h42:v41=true:=by (rw [← e41,qv25];rfl)
     obtain ⟨v43,e43⟩:∃v,((v25 != (3:Int)))=v:=⟨_,rfl⟩
     have h44:v43=false:=by (rw [← e43,qv25];rfl)
     obtain ⟨v45,e45⟩:∃v,((v22 == (0:Int)))=v:=⟨_,rfl⟩
     have h46:v45=true:=by (rw [← e45,qv22];rfl)
     obtain ⟨v47,e47⟩:∃v,(valB v21)=v:=⟨_,rfl⟩
     obtain ⟨v48,e48⟩:∃v,(!v47)=v:=⟨_,rfl⟩
     have h49:v48=false:=by (rw [← e48,← e47,ha4];rfl)
     obtain ⟨v50,e50⟩:∃v,((v25 == (0:Int)))=v:=⟨_,rfl⟩
     have h51:v50=false:=by (rw [← e50,qv25];rfl)
     obtain ⟨v52,e52⟩:∃v,((v29 == (3:Int)))=v:=⟨_,rfl⟩
     have h53:v52=true:=by (rw [← e52,qv29];rfl)
     obtain ⟨v54,e54⟩:∃v,(IntKind.i64.wrap (v21+v24))=v:=⟨_,rfl⟩
     obtain ⟨v55,e55⟩:∃v,((v22 != (0:Int)))=v:=⟨_,rfl⟩
     have h56:v55=false:=by (rw [← e55,qv22];rfl)
     obtain ⟨v57,e57⟩:∃v,((v25 != (0:Int)))=v:=⟨_,rfl⟩
     have h58:v57=true:=by (rw [← e57,qv25];rfl)
     obtain ⟨v59,e59⟩:∃v,((v32 == (3:Int)))=v:=⟨_,rfl⟩
     have h60:v59=true:=by (rw [← e59,qv32];rfl)
     obtain ⟨v61,e61⟩:∃v,((v31 == (0:Int)))=v:=⟨_,rfl⟩
     have hq:v61=true:=by (rw [← e61,qv31];rfl)
     have hp:=ze0 (w0:=w0) c c0 c1 c2 c3 c4 c5 d d0 d1 d2 d3 d4 d5 x z hL0 v1 v2 n3 v5 v7 v9 n11 v13 v15 v18 v21 v22 v24 v25 v27 v28 v29 v30 v31 v32 v34 v37 v39 v41 v43 v45 v47 v48 v50 v52 v54 v55 v57 v59 v61 e1 e2 e5 e7 e9 e13 e15 e18 e21 e22 e24 e25 e27 e28 e29 e30 e31 e32 e34 e37 e39 e41 e43 e45 e47 e48 e50 e52 e54 e55 e57 e59 e61 s4 s6 s8 s10 s12 s14 s16 s17 s19 s20 s23 s26 s33 s35 s36 h38 h40 h42 h44 h46 h49 h51 h53 h56 h58 h60
     rw [hq] at hp;exact hp
    ·
     have hw2:=hw.1 (.inr hb1)
     have qv31:v31=0:=e31.symm.trans hw2.1
     have qv32:v32=3:=e32.symm.trans hw2.2
     have h38:v37=false:=by (rw [← e37,← e34];exact decide_eq_false (fun h=>hs ((qf _).1 h)))
     obtain ⟨v39,e39⟩:∃v,((v22 != (0:Int)))=v:=⟨_,rfl⟩
     have h40:v39=false:=by (rw [← e39,qv22];rfl)
     obtain ⟨v41,e41⟩:∃v,((v25 != (0:Int)))=v:=⟨_,rfl⟩
     have h42:v41=true:=by (rw [← e41,qv25];rfl)
     obtain ⟨v43,e43⟩:∃v,((v25 != (3:Int)))=v:=⟨_,rfl⟩
     have h44:v43=false:=by (rw [← e43,qv25];rfl)
     obtain ⟨v45,e45⟩:∃v,((v22 == (0:Int)))=v:=⟨_,rfl⟩
     have h46:v45=true:=by (rw [← e45,qv22];rfl)
     obtain ⟨v47,e47⟩:∃v,(valB v21)=v:=⟨_,rfl⟩
     obtain ⟨v48,e48⟩:∃v,(!v47)=v:=⟨_,rfl⟩
     have h49:v48=false:=by (rw [← e48,← e47,ha4];rfl)
     obtain ⟨v50,e50⟩:∃v,((v25 == (0:Int)))=v:=⟨_,rfl⟩
     have h51:v50=false:=by (rw [← e50,qv25];rfl)
     obtain ⟨v52,e52⟩:∃v,((v29 == (3:Int)))=v:=⟨_,rfl⟩
     have h53:v52=false:=by (rw [← e52,qv29];rfl)
     obtain ⟨v54,e54⟩:∃v,((v29 == (4:Int)))=v:=⟨_,rfl⟩
     have h55:v54=true:=by (rw [← e54,qv29];rfl)
     obtain ⟨v56,e56⟩:∃v,(IntKind.i64.wrap (v21 - v24))=v:=⟨_,rfl⟩
     obtain ⟨v57,e57⟩:∃v,((v22 != (0:Int)))=v:=⟨_,rfl⟩
     have h58:v57=false:=by (rw [← e57,qv22];rfl)
     obtain ⟨v59,e59⟩:∃v,((v25 != (0:Int)))=v:=⟨_,rfl⟩
     have h60:v59=true:=by (rw [← e59,qv25];rfl)
     obtain ⟨v61,e61⟩:∃v,((v32 == (3:Int)))=v:=⟨_,rfl⟩
     have h62:v61=true:=by (rw [← e61,qv32];rfl)
     obtain ⟨v63,e63⟩:∃v,((v31 == (0:Int)))=v:=⟨_,rfl⟩
     have hq:v63=true:=by (rw [← e63,qv31];rfl)
     have hp:=ze1 (w0:=w0) c c0 c1 c2 c3 c4 c5 d d0 d1 d2 d3 d4 d5 x z hL0 v1 v2 n3 v5 v7 v9 n11 v13 v15 v18 v21 v22 v24 v25 v27 v28 v29 v30 v31 v32 v34 v37 v39 v41 v43 v45 v47 v48 v50 v52 v54 v56 v57 v59 v61 v63 e1 e2 e5 e7 e9 e13 e15 e18 e21 e22 e24 e25 e27 e28 e29 e30 e31 e32 e34 e37 e39 e41 e43 e45 e47 e48 e50 e52 e54 e56 e57 e59 e61 e63 s4 s6 s8 s10 s12 s14 s16 s17 s19 s20 s23 s26 s33 s35 s36 h38 h40 h42 h44 h46 h49 h51 h53 h55 h58 h60 h62
     rw [hq] at hp;exact hp
    ·
     have hw2:=hw.1 (.inr hb1)
     have qv31:v31=0:=e31.symm.trans hw2.1
     have qv32:v32=3:=e32.symm.trans hw2.2
     have h38:v37=false:=by (rw [← e37,← e34];exact decide_eq_false (fun h=>hs ((qf _).1 h)))
     obtain ⟨v39,e39⟩:∃v,((v22 != (0:Int)))=v:=⟨_,rfl⟩
     have h40:v39=false:=by (rw [← e39,qv22];rfl)
     obtain ⟨v41,e41⟩:∃v,((v25 != (0:Int)))=v:=⟨_,rfl⟩
     have h42:v41=true:=by (rw [← e41,qv25];rfl)
     obtain ⟨v43,e43⟩:∃v,((v25 != (3:Int)))=v:=⟨_,rfl⟩
     have h44:v43=false:=by (rw [← e43,qv25];rfl)
     obtain ⟨v45,e45⟩:∃v,((v22 == (0:Int)))=v:=⟨_,rfl⟩
     have h46:v45=true:=by (rw [← e45,qv22];rfl)
     obtain ⟨v47,e47⟩:∃v,(valB v21)=v:=⟨_,rfl⟩
     obtain ⟨v48,e48⟩:∃v,(!v47)=v:=⟨_,rfl⟩
     have h49:v48=false:=by (rw [← e48,← e47,ha4];rfl)
     obtain ⟨v50,e50⟩:∃v,((v25 == (0:Int)))=v:=⟨_,rfl⟩
     have h51:v50=false:=by (rw [← e50,qv25];rfl)
     obtain ⟨v52,e52⟩:∃v,((v29 == (3:Int)))=v:=⟨_,rfl⟩
     have h53:v52=false:=by (rw [← e52,qv29];rfl)
     obtain ⟨v54,e54⟩:∃v,((v29 == (4:Int)))=v:=⟨_,rfl⟩
     have h55:v54=false:=by (rw [← e54,qv29];rfl)
     obtain ⟨v56,e56⟩:∃v,((v29 == (5:Int)))=v:=⟨_,rfl⟩
     have h57:v56=true:=by (rw [← e56,qv29];rfl)
     obtain ⟨v58,e58⟩:∃v,(IntKind.i64.wrap (v21*v24))=v:=⟨_,rfl⟩
     obtain ⟨v59,e59⟩:∃v,((v22 != (0:Int)))=v:=⟨_,rfl⟩
     have h60:v59=false:=by (rw [← e59,qv22];rfl)
     obtain ⟨v61,e61⟩:∃v,((v25 != (0:Int)))=v:=⟨_,rfl⟩
     have h62:v61=true:=by (rw [← e61,qv25];rfl)
     obtain ⟨v63,e63⟩:∃v,((v32 == (3:Int)))=v:=⟨_,rfl⟩
     have h64:v63=true:=by (rw [← e63,qv32];rfl)
     obtain ⟨v65,e65⟩:∃v,((v31 == (0:Int)))=v:=⟨_,rfl⟩
     have hq:v65=true:=by (rw [← e65,qv31];rfl)
     have hp:=ze2 (w0:=w0) c c0 c1 c2 c3 c4 c5 d d0 d1 d2 d3 d4 d5 x z hL0 v1 v2 n3 v5 v7 v9 n11 v13 v15 v18 v21 v22 v24 v25 v27 v28 v29 v30 v31 v32 v34 v37 v39 v41 v43 v45 v47 v48 v50 v52 v54 v56 v58 v59 v61 v63 v65 e1 e2 e5 e7 e9 e13 e15 e18 e21 e22 e24 e25 e27 e28 e29 e30 e31 e32 e34 e37 e39 e41 e43 e45 e47 e48 e50 e52 e54 e56 e58 e59 e61 e63 e65 s4 s6 s8 s10 s12 s14 s16 s17 s19 s20 s23 s26 s33 s35 s36 h38 h40 h42 h44 h46 h49 h51 h53 h55 h57 h60 h62 h64
     rw [hq] at hp;exact hp
    ·
     have hw2:=hw.1 (.inr hb1)
     have qv31:v31=0:=e31.symm.trans hw2.1
     have qv32:v32=3:=e32.symm.trans hw2.2
     have h38:v37=false:=by (rw [← e37,← e34];exact decide_eq_false (fun h=>hs ((qf _).1 h)))
     obtain ⟨v39,e39⟩:∃v,((v22 != (0:Int)))=v:=⟨_,rfl⟩
     have h40:v39=false:=by (rw [← e39,qv22];rfl)
     obtain ⟨v41,e41⟩:∃v,((v25 != (0:Int)))=v:=⟨_,rfl⟩
     have h42:v41=true:=by (rw [← e41,qv25];rfl)
     obtain ⟨v43,e43⟩:∃v,((v25 != (3:Int)))=v:=⟨_,rfl⟩
     have h44:v43=false:=by (rw [← e43,qv25];rfl)
     obtain ⟨v45,e45⟩:∃v,((v22 == (0:Int)))=v:=⟨_,rfl⟩
     have h46:v45=true:=by (rw [← e45,qv22];rfl)
     obtain ⟨v47,e47⟩:∃v,(valB v21)=v:=⟨_,rfl⟩
     obtain ⟨v48,e48⟩:∃v,(!v47)=v:=⟨_,rfl⟩
     have h49:v48=false:=by (rw [← e48,← e47,ha4];rfl)
     obtain ⟨v50,e50⟩:∃v,((v25 == (0:Int)))=v:=⟨_,rfl⟩
     have h51:v50=false:=by (rw [← e50,qv25];rfl)
     obtain ⟨v52,e52⟩:∃v,((v29 == (3:Int)))=v:=⟨_,rfl⟩
     have h53:v52=false:=by (rw [← e52,qv29];rfl)
     obtain ⟨v54,e54⟩:∃v,((v29 == (4:Int)))=v:=⟨_,rfl⟩
     have h55:v54=false:=by (rw [← e54,qv29];rfl)
     obtain ⟨v56,e56⟩:∃v,((v29 == (5:Int)))=v:=⟨_,rfl⟩
     have h57:v56=false:=by (rw [← e56,qv29];rfl)
     obtain ⟨v58,e58⟩:∃v,((v29 == (6:Int)))=v:=⟨_,rfl⟩
     have h59:v58=true:=by (rw [← e58,qv29];rfl)
     obtain ⟨v60,e60⟩:∃v,((if v24<v21 then v24 else v21))=v:=⟨_,rfl⟩
     obtain ⟨v61,e61⟩:∃v,((v22 != (0:Int)))=v:=⟨_,rfl⟩
     have h62:v61=false:=by (rw [← e61,qv22];rfl)
     obtain ⟨v63,e63⟩:∃v,((v25 != (0:Int)))=v:=⟨_,rfl⟩
     have h64:v63=true:=by (rw [← e63,qv25];rfl)
     obtain ⟨v65,e65⟩:∃v,((v32 == (3:Int)))=v:=⟨_,rfl⟩
     have h66:v65=true:=by (rw [← e65,qv32];rfl)
     obtain ⟨v67,e67⟩:∃v,((v31 == (0:Int)))=v:=⟨_,rfl⟩
     have hq:v67=true:=by (rw [← e67,qv31];rfl)
     have hp:=ze3 (w0:=w0) c c0 c1 c2 c3 c4 c5 d d0 d1 d2 d3 d4 d5 x z hL0 v1 v2 n3 v5 v7 v9 n11 v13 v15 v18 v21 v22 v24 v25 v27 v28 v29 v30 v31 v32 v34 v37 v39 v41 v43 v45 v47 v48 v50 v52 v54 v56 v58 v60 v61 v63 v65 v67 e1 e2 e5 e7 e9 e13 e15 e18 e21 e22 e24 e25 e27 e28 e29 e30 e31 e32 e34 e37 e39 e41 e43 e45 e47 e48 e50 e52 e54 e56 e58 e60 e61 e63 e65 e67 s4 s6 s8 s10 s12 s14 s16 s17 s19 s20 s23 s26 s33 s35 s36 h38 h40 h42 h44 h46 h49 h51 h53 h55 h57 h59 h62 h64 h66
     rw [hq] at hp;exact hp
    ·
     have hw2:=hw.1 (.inr hb1)
     have qv31:v31=0:=e31.symm.trans hw2.1
     have qv32:v32=3:=e32.symm.trans hw2.2
     have h38:v37=false:=by (rw [← e37,← e34];exact decide_eq_false (fun h=>hs ((qf _).1 h)))
     obtain ⟨v39,e39⟩:∃v,((v22 != (0:Int)))=v:=⟨_,rfl⟩
     have h40:v39=false:=by (rw [← e39,qv22];rfl)
     obtain ⟨v41,e41⟩:∃v,((v25 != (0:Int)))=v:=⟨_,rfl⟩
     have h42:v41=true:=by (rw [← e41,qv25];rfl)
     obtain ⟨v43,e43⟩:∃v,((v25 != (3:Int)))=v:=⟨_,rfl⟩
     have h44:v43=false:=by (rw [← e43,qv25];rfl)
     obtain ⟨v45,e45⟩:∃v,((v22 == (0:Int)))=v:=⟨_,rfl⟩
     have h46:v45=true:=by (rw [← e45,qv22];rfl)
     obtain ⟨v47,e47⟩:∃v,(valB v21)=v:=⟨_,rfl⟩
     obtain ⟨v48,e48⟩:∃v,(!v47)=v:=⟨_,rfl⟩
     have h49:v48=false:=by (rw [← e48,← e47,ha4];rfl)
     obtain ⟨v50,e50⟩:∃v,((v25 == (0:Int)))=v:=⟨_,rfl⟩
     have h51:v50=false:=by (rw [← e50,qv25];rfl)
     obtain ⟨v52,e52⟩:∃v,((v29 == (3:Int)))=v:=⟨_,rfl⟩
     have h53:v52=false:=by (rw [← e52,qv29];rfl)
     obtain ⟨v54,e54⟩:∃v,((v29 == (4:Int)))=v:=⟨_,rfl⟩
     have h55:v54=false:=by (rw [← e54,qv29];rfl)
     obtain ⟨v56,e56⟩:∃v,((v29 == (5:Int)))=v:=⟨_,rfl⟩
     have h57:v56=false:=by (rw [← e56,qv29];rfl)
     obtain ⟨v58,e58⟩:∃v,((v29 == (6:Int)))=v:=⟨_,rfl⟩
     have h59:v58=false:=by (rw [← e58,qv29];rfl)
     obtain ⟨v60,e60⟩:∃v,((v29 == (7:Int)))=v:=⟨_,rfl⟩
     have h61:v60=true:=by (rw [← e60,qv29];rfl)
     obtain ⟨v62,e62⟩:∃v,((if v24 > v21 then v24 else v21))=v:=⟨_,rfl⟩
     obtain ⟨v63,e63⟩:∃v,((v22 != (0:Int)))=v:=⟨_,rfl⟩
     have h64:v63=false:=by (rw [← e63,qv22];rfl)
     obtain ⟨v65,e65⟩:∃v,((v25 != (0:Int)))=v:=⟨_,rfl⟩
     have h66:v65=true:=by (rw [← e65,qv25];rfl)
     obtain ⟨v67,e67⟩:∃v,((v32 == (3:Int)))=v:=⟨_,rfl⟩
     have h68:v67=true:=by (rw [← e67,qv32];rfl)
     obtain ⟨v69,e69⟩:∃v,((v31 == (0:Int)))=v:=⟨_,rfl⟩
     have hq:v69=true:=by (rw [← e69,qv31];rfl)
     have hp:=ze4 (w0:=w0) c c0 c1 c2 c3 c4 c5 d d0 d1 d2 d3 d4 d5 x z hL0 v1 v2 n3 v5 v7 v9 n11 v13 v15 v18 v21 v22 v24 v25 v27 v28 v29 v30 v31 v32 v34 v37 v39 v41 v43 v45 v47 v48 v50 v52 v54 v56 v58 v60 v62 v63 v65 v67 v69 e1 e2 e5 e7 e9 e13 e15 e18 e21 e22 e24 e25 e27 e28 e29 e30 e31 e32 e34 e37 e39 e41 e43 e45 e47 e48 e50 e52 e54 e56 e58 e60 e62 e63 e65 e67 e69 s4 s6 s8 s10 s12 s14 s16 s17 s19 s20 s23 s26 s33 s35 s36 h38 h40 h42 h44 h46 h49 h51 h53 h55 h57 h59 h61 h64 h66 h68
     rw [hq] at hp;exact hp
  ·
   rcases ev3 hB hL with ⟨b,hb1,hb2,hb3,hb4⟩ | ⟨hb1,hb2,hb3⟩
   ·
    have qv22:v22=3:=e22.symm.trans ha3
    have qv25:v25=0:=e25.symm.trans hb3
    rw [e24] at hb2;rw [← hb2] at hb1 hb4
    rcases hkc with qv29 | qv29 | qv29 | qv29 | qv29
    ·
     have hw2:=hw.1 (.inl ha1)
     have qv31:v31=0:=e31.symm.trans hw2.1
     have qv32:v32=3:=e32.symm.trans hw2.2
     have h38:v37=false:=by (rw [← e37,← e34];exact decide_eq_false (fun h=>hs ((qf _).1 h)))
     obtain ⟨v39,e39⟩:∃v,((v22 != (0:Int)))=v:=⟨_,rfl⟩
     have h40:v39=true:=by (rw [← e39,qv22];rfl)
     obtain ⟨v41,e41⟩:∃v,((v22 != (3:Int)))=v:=⟨_,rfl⟩
     have h42:v41=false:=by (rw [← e41,qv22];rfl)
     obtain ⟨v43,e43⟩:∃v,((v25 != (0:Int)))=v:=⟨_,rfl⟩
     have h44:v43=false:=by (rw [← e43,qv25];rfl)
     obtain ⟨v45,e45⟩:∃v,((v22 == (0:Int)))=v:=⟨_,rfl⟩
     have h46:v45=false:=by (rw [← e45,qv22];rfl)
     obtain ⟨v47,e47⟩:∃v,((v25 == (0:Int)))=v:=⟨_,rfl⟩
     have h48:v47=true:=by (rw [← e47,qv25];rfl)
     obtain ⟨v49,e49⟩:∃v,(valB v24)=v:=⟨_,rfl⟩
     obtain ⟨v50,e50⟩:∃v,(!v49)=v:=⟨_,rfl⟩
     have h51:v50=false:=by (rw [← e50,← e49,hb4];rfl)
     obtain ⟨v52,e52⟩:∃v,((v29 == (3:Int)))=v:=⟨_,rfl⟩
     have h53:v52=true:=by (rw [← e52,qv29];rfl)
     obtain ⟨v54,e54⟩:∃v,(IntKind.i64.wrap (v21+v24))=v:=⟨_,rfl⟩
     obtain ⟨v55,e55⟩:∃v,((v22 != (0:Int)))=v:=⟨_,rfl⟩
     have h56:v55=true:=by (rw [← e55,qv22];rfl)
     obtain ⟨v57,e57⟩:∃v,((v32 == (3:Int)))=v:=⟨_,rfl⟩
     have h58:v57=true:=by (rw [← e57,qv32];rfl)
     obtain ⟨v59,e59⟩:∃v,((v31 == (0:Int)))=v:=⟨_,rfl⟩
     have hq:v59=true:=by (rw [← e59,qv31];rfl)
     have hp:=ze5 (w0:=w0) c c0 c1 c2 c3 c4 c5 d d0 d1 d2 d3 d4 d5 x z hL0 v1 v2 n3 v5 v7 v9 n11 v13 v15 v18 v21 v22 v24 v25 v27 v28 v29 v30 v31 v32 v34 v37 v39 v41 v43 v45 v47 v49 v50 v52 v54 v55 v57 v59 e1 e2 e5 e7 e9 e13 e15 e18 e21 e22 e24 e25 e27 e28 e29 e30 e31 e32 e34 e37 e39 e41 e43 e45 e47 e49 e50 e52 e54 e55 e57 e59 s4 s6 s8 s10 s12 s14 s16 s17 s19 s20 s23 s26 s33 s35 s36 h38 h40 h42 h44 h46 h48 h51 h53 h56 h58
     rw [hq] at hp;exact hp
    ·
     have hw2:=hw.1 (.inl ha1)
     have qv31:v31=0:=e31.symm.trans hw2.1
     have qv32:v32=3:=e32.symm.trans hw2.2
     have h38:v37=false:=by (rw [← e37,← e34];exact decide_eq_false (fun h=>hs ((qf _).1 h)))
     obtain ⟨v39,e39⟩:∃v,((v22 != (0:Int)))=v:=⟨_,rfl⟩
     have h40:v39=true:=by (rw [← e39,qv22];rfl)
     obtain ⟨v41,e41⟩:∃v,((v22 != (3:Int)))=v:=⟨_,rfl⟩
     have h42:v41=false:=by (rw [← e41,qv22];rfl)
     obtain ⟨v43,e43⟩:∃v,((v25 != (0:Int)))=v:=⟨_,rfl⟩
     have h44:v43=false:=by (rw [← e43,qv25];rfl)
     obtain ⟨v45,e45⟩:∃v,((v22 == (0:Int)))=v:=⟨_,rfl⟩
     have h46:v45=false:=by (rw [← e45,qv22];rfl)
     obtain ⟨v47,e47⟩:∃v,((v25 == (0:Int)))=v:=⟨_,rfl⟩
     have h48:v47=true:=by (rw [← e47,qv25];rfl)
     obtain ⟨v49,e49⟩:∃v,(valB v24)=v:=⟨_,rfl⟩
     obtain ⟨v50,e50⟩:∃v,(!v49)=v:=⟨_,rfl⟩
     have h51:v50=false:=by (rw [← e50,← e49,hb4];rfl)
     obtain ⟨v52,e52⟩:∃v,((v29 == (3:Int)))=v:=⟨_,rfl⟩
     have h53:v52=false:=by (rw [← e52,qv29];rfl)
     obtain ⟨v54,e54⟩:∃v,((v29 == (4:Int)))=v:=⟨_,rfl⟩
     have h55:v54=true:=by (rw [← e54,qv29];rfl)
     obtain ⟨v56,e56⟩:∃v,(IntKind.i64.wrap (v21 - v24))=v:=⟨_,rfl⟩
     obtain ⟨v57,e57⟩:∃v,((v22 != (0:Int)))=v:=⟨_,rfl⟩
     have h58:v57=true:=by (rw [← e57,qv22];rfl)
     obtain ⟨v59,e59⟩:∃v,((v32 == (3:Int)))=v:=⟨_,rfl⟩
     have h60:v59=true:=by (rw [← e59,qv32];rfl)
     obtain ⟨v61,e61⟩:∃v,((v31 == (0:Int)))=v:=⟨_,rfl⟩
     have hq:v61=true:=by (rw [← e61,qv31];rfl)
     have hp:=ze6 (w0:=w0) c c0 c1 c2 c3 c4 c5 d d0 d1 d2 d3 d4 d5 x z hL0 v1 v2 n3 v5 v7 v9 n11 v13 v15 v18 v21 v22 v24 v25 v27 v28 v29 v30 v31 v32 v34 v37 v39 v41 v43 v45 v47 v49 v50 v52 v54 v56 v57 v59 v61 e1 e2 e5 e7 e9 e13 e15 e18 e21 e22 e24 e25 e27 e28 e29 e30 e31 e32 e34 e37 e39 e41 e43 e45 e47 e49 e50 e52 e54 e56 e57 e59 e61 s4 s6 s8 s10 s12 s14 s16 s17 s19 s20 s23 s26 s33 s35 s36 h38 h40 h42 h44 h46 h48 h51 h53 h55 h58 h60
     rw [hq] at hp;exact hp
    ·
     have hw2:=hw.1 (.inl ha1)
     have qv31:v31=0:=e31.symm.trans hw2.1
     have qv32:v32=3:=e32.symm.trans hw2.2
     have h38:v37=false:=by (rw [← e37,← e34];exact decide_eq_false (fun h=>hs ((qf _).1 h)))
     obtain ⟨v39,e39⟩:∃v,((v22 != (0:Int)))=v:=⟨_,rfl⟩
     have h40:v39=true:=by (rw [← e39,qv22];rfl)
     obtain ⟨v41,e41⟩:∃v,((v22 != (3:Int)))=v:=⟨_,rfl⟩
     have h42:v41=false:=by (rw [← e41,qv22];rfl)
     obtain ⟨v43,e43⟩:∃v,((v25 != (0:Int)))=v:=⟨_,rfl⟩
     have h44:v43=false:=by (rw [← e43,qv25];rfl)
     obtain ⟨v45,e45⟩:∃v,((v22 == (0:Int)))=v:=⟨_,rfl⟩
     have h46:v45=false:=by (rw [← e45,qv22];rfl)
     obtain ⟨v47,e47⟩:∃v,((v25 == (0:Int)))=v:=⟨_,rfl⟩
     have h48:v47=true:=by (rw [← e47,qv25];rfl)
     obtain ⟨v49,e49⟩:∃v,(valB v24)=v:=⟨_,rfl⟩
     obtain ⟨v50,e50⟩:∃v,(!v49)=v:=⟨_,rfl⟩
     have h51:v50=false:=by (rw [← e50,← e49,hb4];rfl)
     obtain ⟨v52,e52⟩:∃v,((v29 == (3:Int)))=v:=⟨_,rfl⟩
     have h53:v52=false:=by (rw [← e52,qv29];rfl)
     obtain ⟨v54,e54⟩:∃v,((v29 == (4:Int)))=v:=⟨_,rfl⟩
     have h55:v54=false:=by (rw [← e54,qv29];rfl)
     obtain ⟨v56,e56⟩:∃v,((v29 == (5:Int)))=v:=⟨_,rfl⟩
     have h57:v56=true:=by (rw [← e56,qv29];rfl)
     obtain ⟨v58,e58⟩:∃v,(IntKind.i64.wrap (v21*v24))=v:=⟨_,rfl⟩
     obtain ⟨v59,e59⟩:∃v,((v22 != (0:Int)))=v:=⟨_,rfl⟩
     have h60:v59=true:=by (rw [← e59,qv22];rfl)
     obtain ⟨v61,e61⟩:∃v,((v32 == (3:Int)))=v:=⟨_,rfl⟩
     have h62:v61=true:=by (rw [← e61,qv32];rfl)
     obtain ⟨v63,e63⟩:∃v,((v31 == (0:Int)))=v:=⟨_,rfl⟩
     have hq:v63=true:=by (rw [← e63,qv31];rfl)
     have hp:=ze7 (w0:=w0) c c0 c1 c2 c3 c4 c5 d d0 d1 d2 d3 d4 d5 x z hL0 v1 v2 n3 v5 v7 v9 n11 v13 v15 v18 v21 v22 v24 v25 v27 v28 v29 v30 v31 v32 v34 v37 v39 v41 v43 v45 v47 v49 v50 v52 v54 v56 v58 v59 v61 v63 e1 e2 e5 e7 e9 e13 e15 e18 e21 e22 e24 e25 e27 e28 e29 e30 e31 e32 e34 e37 e39 e41 e43 e45 e47 e49 e50 e52 e54 e56 e58 e59 e61 e63 s4 s6 s8 s10 s12 s14 s16 s17 s19 s20 s23 s26 s33 s35 s36 h38 h40 h42 h44 h46 h48 h51 h53 h55 h57 h60 h62
     rw [hq] at hp;exact hp
    ·
     have hw2:=hw.1 (.inl ha1)
     have qv31:v31=0:=e31.symm.trans hw2.1
     have qv32:v32=3:=e32.symm.trans hw2.2
     have h38:v37=false:=by (rw [← e37,← e34];exact decide_eq_false (fun h=>hs ((qf _).1 h)))
     obtain ⟨v39,e39⟩:∃v,((v22 != (0:Int)))=v:=⟨_,rfl⟩
     have h40:v39=true:=by (rw [← e39,qv22];rfl)
     obtain ⟨v41,e41⟩:∃v,((v22 != (3:Int)))=v:=⟨_,rfl⟩
     have h42:v41=false:=by (rw [← e41,qv22];rfl)
     obtain ⟨v43,e43⟩:∃v,((v25 != (0:Int)))=v:=⟨_,rfl⟩
     have h44:v43=false:=by (rw [← e43,qv25];rfl)
     obtain ⟨v45,e45⟩:∃v,((v22 == (0:Int)))=v:=⟨_,rfl⟩
     have h46:v45=false:=by (rw [← e45,qv22];rfl)
     obtain ⟨v47,e47⟩:∃v,((v25 == (0:Int)))=v:=⟨_,rfl⟩
     have h48:v47=true:=by (rw [← e47,qv25];rfl)
     obtain ⟨v49,e49⟩:∃v,(valB v24)=v:=⟨_,rfl⟩
     obtain ⟨v50,e50⟩:∃v,(!v49)=v:=⟨_,rfl⟩
     have h51:v50=false:=by (rw [← e50,← e49,hb4];rfl)
     obtain ⟨v52,e52⟩:∃v,((v29 == (3:Int)))=v:=⟨_,rfl⟩
     have h53:v52=false:=by (rw [← e52,qv29];rfl)
     obtain ⟨v54,e54⟩:∃v,((v29 == (4:Int)))=v:=⟨_,rfl⟩
     have h55:v54=false:=by (rw [← e54,qv29];rfl)
     obtain ⟨v56,e56⟩:∃v,((v29 == (5:Int)))=v:=⟨_,rfl⟩
     have h57:v56=false:=by (rw [← e56,qv29];rfl)
     obtain ⟨v58,e58⟩:∃v,((v29 == (6:Int)))=v:=⟨_,rfl⟩
     have h59:v58=true:=by (rw [← e58,qv29];rfl)
     obtain ⟨v60,e60⟩:∃v,((if v24<v21 then v24 else v21))=v:=⟨_,rfl⟩
     obtain ⟨v61,e61⟩:∃v,((v22 != (0:Int)))=v:=⟨_,rfl⟩
     have h62:v61=true:=by (rw [← e61,qv22];rfl)
     obtain ⟨v63,e63⟩:∃v,((v32 == (3:Int)))=v:=⟨_,rfl⟩
     have h64:v63=true:=by (rw [← e63,qv32];rfl)
     obtain ⟨v65,e65⟩:∃v,((v31 == (0:Int)))=v:=⟨_,rfl⟩
     have hq:v65=true:=by (rw [← e65,qv31];rfl)
     have hp:=ze8 (w0:=w0) c c0 c1 c2 c3 c4 c5 d d0 d1 d2 d3 d4 d5 x z hL0 v1 v2 n3 v5 v7 v9 n11 v13 v15 v18 v21 v22 v24 v25 v27 v28 v29 v30 v31 v32 v34 v37 v39 v41 v43 v45 v47 v49 v50 v52 v54 v56 v58 v60 v61 v63 v65 e1 e2 e5 e7 e9 e13 e15 e18 e21 e22 e24 e25 e27 e28 e29 e30 e31 e32 e34 e37 e39 e41 e43 e45 e47 e49 e50 e52 e54 e56 e58 e60 e61 e63 e65 s4 s6 s8 s10 s12 s14 s16 s17 s19 s20 s23 s26 s33 s35 s36 h38 h40 h42 h44 h46 h48 h51 h53 h55 h57 h59 h62 h64
     rw [hq] at hp;exact hp
    ·
     have hw2:=hw.1 (.inl ha1)
     have qv31:v31=0:=e31.symm.trans hw2.1
     have qv32:v32=3:=e32.symm.trans hw2.2
     have h38:v37=false:=by (rw [← e37,← e34];exact decide_eq_false (fun h=>hs ((qf _).1 h)))
     obtain ⟨v39,e39⟩:∃v,((v22 != (0:Int)))=v:=⟨_,rfl⟩
     have h40:v39=true:=by (rw [← e39,qv22];rfl)
     obtain ⟨v41,e41⟩:∃v,((v22 != (3:Int)))=v:=⟨_,rfl⟩
     have h42:v41=false:=by (rw [← e41,qv22];rfl)
     obtain ⟨v43,e43⟩:∃v,((v25 != (0:Int)))=v:=⟨_,rfl⟩
     have h44:v43=false:=by (rw [← e43,qv25];rfl)
     obtain ⟨v45,e45⟩:∃v,((v22 == (0:Int)))=v:=⟨_,rfl⟩
     have h46:v45=false:=by (rw [← e45,qv22];rfl)
     obtain ⟨v47,e47⟩:∃v,((v25 == (0:Int)))=v:=⟨_,rfl⟩
     have h48:v47=true:=by (rw [← e47,qv25];rfl)
     obtain ⟨v49,e49⟩:∃v,(valB v24)=v:=⟨_,rfl⟩
     obtain ⟨v50,e50⟩:∃v,(!v49)=v:=⟨_,rfl⟩
     have h51:v50=false:=by (rw [← e50,← e49,hb4];rfl)
     obtain ⟨v52,e52⟩:∃v,((v29 == (3:Int)))=v:=⟨_,rfl⟩
     have h53:v52=false:=by (rw [← e52,qv29];rfl)
     obtain ⟨v54,e54⟩:∃v,((v29 == (4:Int)))=v:=⟨_,rfl⟩
     have h55:v54=false:=by (rw [← e54,qv29];rfl)
     obtain ⟨v56,e56⟩:∃v,((v29 == (5:Int)))=v:=⟨_,rfl⟩
     have h57:v56=false:=by (rw [← e56,qv29];rfl)
     obtain ⟨v58,e58⟩:∃v,((v29 == (6:Int)))=v:=⟨_,rfl⟩
     have h59:v58=false:=by (rw [← e58,qv29];rfl)
     obtain ⟨v60,e60⟩:∃v,((v29 == (7:Int)))=v:=⟨_,rfl⟩
     have h61:v60=true:=by (rw [← e60,qv29];rfl)
     obtain ⟨v62,e62⟩:∃v,((if v24 > v21 then v24 else v21))=v:=⟨_,rfl⟩
     obtain ⟨v63,e63⟩:∃v,((v22 != (0:Int)))=v:=⟨_,rfl⟩
     have h64:v63=true:=by (rw [← e63,qv22];rfl)
     obtain ⟨v65,e65⟩:∃v,((v32 == (3:Int)))=v:=⟨_,rfl⟩
     have h66:v65=true:=by (rw [← e65,qv32];rfl)
     obtain ⟨v67,e67⟩:∃v,((v31 == (0:Int)))=v:=⟨_,rfl⟩
     have hq:v67=true:=by (rw [← e67,qv31];rfl)
     have hp:=ze9 (w0:=w0) c c0 c1 c2 c3 c4 c5 d d0 d1 d2 d3 d4 d5 x z hL0 v1 v2 n3 v5 v7 v9 n11 v13 v15 v18 v21 v22 v24 v25 v27 v28 v29 v30 v31 v32 v34 v37 v39 v41 v43 v45 v47 v49 v50 v52 v54 v56 v58 v60 v62 v63 v65 v67 e1 e2 e5 e7 e9 e13 e15 e18 e21 e22 e24 e25 e27 e28 e29 e30 e31 e32 e34 e37 e39 e41 e43 e45 e47 e49 e50 e52 e54 e56 e58 e60 e62 e63 e65 e67 s4 s6 s8 s10 s12 s14 s16 s17 s19 s20 s23 s26 s33 s35 s36 h38 h40 h42 h44 h46 h48 h51 h53 h55 h57 h59 h61 h64 h66
     rw [hq] at hp;exact hp
   ·
    have qv22:v22=3:=e22.symm.trans ha3
    have qv25:v25=3:=e25.symm.trans hb3
    rcases hkc with qv29 | qv29 | qv29 | qv29 | qv29
    ·
     have hw2:=hw.1 (.inl ha1)
     have qv31:v31=0:=e31.symm.trans hw2.1
     have qv32:v32=3:=e32.symm.trans hw2.2
     have h38:v37=false:=by (rw [← e37,← e34];exact decide_eq_false (fun h=>hs ((qf _).1 h)))
     obtain ⟨v39,e39⟩:∃v,((v22 != (0:Int)))=v:=⟨_,rfl⟩
     have h40:v39=true:=by (rw [← e39,qv22];rfl)
     obtain ⟨v41,e41⟩:∃v,((v22 != (3:Int)))=v:=⟨_,rfl⟩
     have h42:v41=false:=by (rw [← e41,qv22];rfl)
     obtain ⟨v43,e43⟩:∃v,((v25 != (0:Int)))=v:=⟨_,rfl⟩
     have h44:v43=true:=by (rw [← e43,qv25];rfl)
     obtain ⟨v45,e45⟩:∃v,((v25 != (3:Int)))=v:=⟨_,rfl⟩
     have h46:v45=false:=by (rw [← e45,qv25];rfl)
     obtain ⟨v47,e47⟩:∃v,((v22 == (0:Int)))=v:=⟨_,rfl⟩
     have h48:v47=false:=by (rw [← e47,qv22];rfl)
     obtain ⟨v49,e49⟩:∃v,((v25 == (0:Int)))=v:=⟨_,rfl⟩
     have h50:v49=false:=by (rw [← e49,qv25];rfl)
     obtain ⟨v51,e51⟩:∃v,((v29 == (3:Int)))=v:=⟨_,rfl⟩
     have h52:v51=true:=by (rw [← e51,qv29];rfl)
     obtain ⟨v53,e53⟩:∃v,(IntKind.i64.wrap (v21+v24))=v:=⟨_,rfl⟩
     obtain ⟨v54,e54⟩:∃v,((v22 != (0:Int)))=v:=⟨_,rfl⟩
     have h55:v54=true:=by (rw [← e54,qv22];rfl)
     obtain ⟨v56,e56⟩:∃v,((v32 == (3:Int)))=v:=⟨_,rfl⟩
     have h57:v56=true:=by (rw [← e56,qv32];rfl)
     obtain ⟨v58,e58⟩:∃v,((v31 == (0:Int)))=v:=⟨_,rfl⟩
     have hq:v58=true:=by (rw [← e58,qv31];rfl)
     have hp:=zfa (w0:=w0) c c0 c1 c2 c3 c4 c5 d d0 d1 d2 d3 d4 d5 x z hL0 v1 v2 n3 v5 v7 v9 n11 v13 v15 v18 v21 v22 v24 v25 v27 v28 v29 v30 v31 v32 v34 v37 v39 v41 v43 v45 v47 v49 v51 v53 v54 v56 v58 e1 e2 e5 e7 e9 e13 e15 e18 e21 e22 e24 e25 e27 e28 e29 e30 e31 e32 e34 e37 e39 e41 e43 e45 e47 e49 e51 e53 e54 e56 e58 s4 s6 s8 s10 s12 s14 s16 s17 s19 s20 s23 s26 s33 s35 s36 h38 h40 h42 h44 h46 h48 h50 h52 h55 h57
     rw [hq] at hp;exact hp
    ·
     have hw2:=hw.1 (.inl ha1)
     have qv31:v31=0:=e31.symm.trans hw2.1
     have qv32:v32=3:=e32.symm.trans hw2.2
     have h38:v37=false:=by (rw [← e37,← e34];exact decide_eq_false (fun h=>hs ((qf _).1 h)))
     obtain ⟨v39,e39⟩:∃v,((v22 != (0:Int)))=v:=⟨_,rfl⟩
     have h40:v39=true:=by (rw [← e39,qv22];rfl)
     obtain ⟨v41,e41⟩:∃v,((v22 != (3:Int)))=v:=⟨_,rfl⟩
     have h42:v41=false:=by (rw [← e41,qv22];rfl)
     obtain ⟨v43,e43⟩:∃v,((v25 != (0:Int)))=v:=⟨_,rfl⟩
     have h44:v43=true:=by (rw [← e43,qv25];rfl)
     obtain ⟨v45,e45⟩:∃v,((v25 != (3:Int)))=v:=⟨_,rfl⟩
     have h46:v45=false:=by (rw [← e45,qv25];rfl)
     obtain ⟨v47,e47⟩:∃v,((v22 == (0:Int)))=v:=⟨_,rfl⟩
     have h48:v47=false:=by (rw [← e47,qv22];rfl)
     obtain ⟨v49,e49⟩:∃v,((v25 == (0:Int)))=v:=⟨_,rfl⟩
     have h50:v49=false:=by (rw [← e49,qv25];rfl)
     obtain ⟨v51,e51⟩:∃v,((v29 == (3:Int)))=v:=⟨_,rfl⟩
     have h52:v51=false:=by (rw [← e51,qv29];rfl)
     obtain ⟨v53,e53⟩:∃v,((v29 == (4:Int)))=v:=⟨_,rfl⟩
     have h54:v53=true:=by (rw [← e53,qv29];rfl)
     obtain ⟨v55,e55⟩:∃v,(IntKind.i64.wrap (v21 - v24))=v:=⟨_,rfl⟩
     obtain ⟨v56,e56⟩:∃v,((v22 != (0:Int)))=v:=⟨_,rfl⟩
     have h57:v56=true:=by (rw [← e56,qv22];rfl)
     obtain ⟨v58,e58⟩:∃v,((v32 == (3:Int)))=v:=⟨_,rfl⟩
     have h59:v58=true:=by (rw [← e58,qv32];rfl)
     obtain ⟨v60,e60⟩:∃v,((v31 == (0:Int)))=v:=⟨_,rfl⟩
     have hq:v60=true:=by (rw [← e60,qv31];rfl)
     have hp:=zfb (w0:=w0) c c0 c1 c2 c3 c4 c5 d d0 d1 d2 d3 d4 d5 x z hL0 v1 v2 n3 v5 v7 v9 n11 v13 v15 v18 v21 v22 v24 v25 v27 v28 v29 v30 v31 v32 v34 v37 v39 v41 v43 v45 v47 v49 v51 v53 v55 v56 v58 v60 e1 e2 e5 e7 e9 e13 e15 e18 e21 e22 e24 e25 e27 e28 e29 e30 e31 e32 e34 e37 e39 e41 e43 e45 e47 e49 e51 e53 e55 e56 e58 e60 s4 s6 s8 s10 s12 s14 s16 s17 s19 s20 s23 s26 s33 s35 s36 h38 h40 h42 h44 h46 h48 h50 h52 h54 h57 h59
     rw [hq] at hp;exact hp
    ·
     have hw2:=hw.1 (.inl ha1)
     have qv31:v31=0:=e31.symm.trans hw2.1
     have qv32:v32=3:=e32.symm.trans hw2.2
     have h38:v37=false:=by (rw [← e37,← e34];exact decide_eq_false (fun h=>hs ((qf _).1 h)))
     obtain ⟨v39,e39⟩:∃v,((v22 != (0:Int)))=v:=⟨_,rfl⟩
     have h40:v39=true:=by (rw [← e39,qv22];rfl)
     obtain ⟨v41,e41⟩:∃v,((v22 != (3:Int)))=v:=⟨_,rfl⟩
     have h42:v41=false:=by (rw [← e41,qv22];rfl)
     obtain ⟨v43,e43⟩:∃v,((v25 != (0:Int)))=v:=⟨_,rfl⟩
     have h44:v43=true:=by (rw [← e43,qv25];rfl)
     obtain ⟨v45,e45⟩:∃v,((v25 != (3:Int)))=v:=⟨_,rfl⟩
     have h46:v45=false:=by (rw [← e45,qv25];rfl)
     obtain ⟨v47,e47⟩:∃v,((v22 == (0:Int)))=v:=⟨_,rfl⟩
     have h48:v47=false:=by (rw [← e47,qv22];rfl)
     obtain ⟨v49,e49⟩:∃v,((v25 == (0:Int)))=v:=⟨_,rfl⟩
     have h50:v49=false:=by (rw [← e49,qv25];rfl)
     obtain ⟨v51,e51⟩:∃v,((v29 == (3:Int)))=v:=⟨_,rfl⟩
     have h52:v51=false:=by (rw [← e51,qv29];rfl)
     obtain ⟨v53,e53⟩:∃v,((v29 == (4:Int)))=v:=⟨_,rfl⟩
     have h54:v53=false:=by (rw [← e53,qv29];rfl)
     obtain ⟨v55,e55⟩:∃v,((v29 == (5:Int)))=v:=⟨_,rfl⟩
     have h56:v55=true:=by (rw [← e55,qv29];rfl)
     obtain ⟨v57,e57⟩:∃v,(IntKind.i64.wrap (v21*v24))=v:=⟨_,rfl⟩
     obtain ⟨v58,e58⟩:∃v,((v22 != (0:Int)))=v:=⟨_,rfl⟩
     have h59:v58=true:=by (rw [← e58,qv22];rfl)
     obtain ⟨v60,e60⟩:∃v,((v32 == (3:Int)))=v:=⟨_,rfl⟩
     have h61:v60=true:=by (rw [← e60,qv32];rfl)
     obtain ⟨v62,e62⟩:∃v,((v31 == (0:Int)))=v:=⟨_,rfl⟩
     have hq:v62=true:=by (rw [← e62,qv31];rfl)
     have hp:=zfc (w0:=w0) c c0 c1 c2 c3 c4 c5 d d0 d1 d2 d3 d4 d5 x z hL0 v1 v2 n3 v5 v7 v9 n11 v13 v15 v18 v21 v22 v24 v25 v27 v28 v29 v30 v31 v32 v34 v37 v39 v41 v43 v45 v47 v49 v51 v53 v55 v57 v58 v60 v62 e1 e2 e5 e7 e9 e13 e15 e18 e21 e22 e24 e25 e27 e28 e29 e30 e31 e32 e34 e37 e39 e41 e43 e45 e47 e49 e51 e53 e55 e57 e58 e60 e62 s4 s6 s8 s10 s12 s14 s16 s17 s19 s20 s23 s26 s33 s35 s36 h38 h40 h42 h44 h46 h48 h50 h52 h54 h56 h59 h61
     rw [hq] at hp;exact hp
    ·
     have hw2:=hw.1 (.inl ha1)
     have qv31:v31=0:=e31.symm.trans hw2.1
     have qv32:v32=3:=e32.symm.trans hw2.2
     have h38:v37=false:=by (rw [← e37,← e34];exact decide_eq_false (fun h=>hs ((qf _).1 h)))
     obtain ⟨v39,e39⟩:∃v,((v22 != (0:Int)))=v:=⟨_,rfl⟩
     have h40:v39=true:=by (rw [← e39,qv22];rfl)
     obtain ⟨v41,e41⟩:∃v,((v22 != (3:Int)))=v:=⟨_,rfl⟩
     have h42:v41=false:=by (rw [← e41,qv22];rfl)
     obtain ⟨v43,e43⟩:∃v,((v25 != (0:Int)))=v:=⟨_,rfl⟩
     have h44:v43=true:=by (rw [← e43,qv25];rfl)
     obtain ⟨v45,e45⟩:∃v,((v25 != (3:Int)))=v:=⟨_,rfl⟩
     have h46:v45=false:=by (rw [← e45,qv25];rfl)
     obtain ⟨v47,e47⟩:∃v,((v22 == (0:Int)))=v:=⟨_,rfl⟩
     have h48:v47=false:=by (rw [← e47,qv22];rfl)
     obtain ⟨v49,e49⟩:∃v,((v25 == (0:Int)))=v:=⟨_,rfl⟩
     have h50:v49=false:=by (rw [← e49,qv25];rfl)
     obtain ⟨v51,e51⟩:∃v,((v29 == (3:Int)))=v:=⟨_,rfl⟩
     have h52:v51=false:=by (rw [← e51,qv29];rfl)
     obtain ⟨v53,e53⟩:∃v,((v29 == (4:Int)))=v:=⟨_,rfl⟩
     have h54:v53=false:=by (rw [← e53,qv29];rfl)
     obtain ⟨v55,e55⟩:∃v,((v29 == (5:Int)))=v:=⟨_,rfl⟩
     have h56:v55=false:=by (rw [← e55,qv29];rfl)
     obtain ⟨v57,e57⟩:∃v,((v29 == (6:Int)))=v:=⟨_,rfl⟩
     have h58:v57=true:=by (rw [← e57,qv29];rfl)
     obtain ⟨v59,e59⟩:∃v,((if v24<v21 then v24 else v21))=v:=⟨_,rfl⟩
     obtain ⟨v60,e60⟩:∃v,((v22 != (0:Int)))=v:=⟨_,rfl⟩
     have h61:v60=true:=by (rw [← e60,qv22];rfl)
     obtain ⟨v62,e62⟩:∃v,((v32 == (3:Int)))=v:=⟨_,rfl⟩
     have h63:v62=true:=by (rw [← e62,qv32];rfl)
     obtain ⟨v64,e64⟩:∃v,((v31 == (0:Int)))=v:=⟨_,rfl⟩
     have hq:v64=true:=by (rw [← e64,qv31];rfl)
     have hp:=zfd (w0:=w0) c c0 c1 c2 c3 c4 c5 d d0 d1 d2 d3 d4 d5 x z hL0 v1 v2 n3 v5 v7 v9 n11 v13 v15 v18 v21 v22 v24 v25 v27 v28 v29 v30 v31 v32 v34 v37 v39 v41 v43 v45 v47 v49 v51 v53 v55 v57 v59 v60 v62 v64 e1 e2 e5 e7 e9 e13 e15 e18 e21 e22 e24 e25 e27 e28 e29 e30 e31 e32 e34 e37 e39 e41 e43 e45 e47 e49 e51 e53 e55 e57 e59 e60 e62 e64 s4 s6 s8 s10 s12 s14 s16 s17 s19 s20 s23 s26 s33 s35 s36 h38 h40 h42 h44 h46 h48 h50 h52 h54 h56 h58 h61 h63
     rw [hq] at hp;exact hp
    ·
     have hw2:=hw.1 (.inl ha1)
     have qv31:v31=0:=e31.symm.trans hw2.1
     have qv32:v32=3:=e32.symm.trans hw2.2
     have h38:v37=false:=by (rw [← e37,← e34];exact decide_eq_false (fun h=>hs ((qf _).1 h)))
     obtain ⟨v39,e39⟩:∃v,((v22 != (0:Int)))=v:=⟨_,rfl⟩
     have h40:v39=true:=by (rw [← e39,qv22];rfl)
     obtain ⟨v41,e41⟩:∃v,((v22 != (3:Int)))=v:=⟨_,rfl⟩
     have h42:v41=false:=by (rw [← e41,qv22];rfl)
     obtain ⟨v43,e43⟩:∃v,((v25 != (0:Int)))=v:=⟨_,rfl⟩
     have h44:v43=true:=by (rw [← e43,qv25];rfl)
     obtain ⟨v45,e45⟩:∃v,((v25 != (3:Int)))=v:=⟨_,rfl⟩
     have h46:v45=false:=by (rw [← e45,qv25];rfl)
     obtain ⟨v47,e47⟩:∃v,((v22 == (0:Int)))=v:=⟨_,rfl⟩
     have h48:v47=false:=by (rw [← e47,qv22];rfl)
     obtain ⟨v49,e49⟩:∃v,((v25 == (0:Int)))=v:=⟨_,rfl⟩
     have h50:v49=false:=by (rw [← e49,qv25];rfl)
     obtain ⟨v51,e51⟩:∃v,((v29 == (3:Int)))=v:=⟨_,rfl⟩
     have h52:v51=false:=by (rw [← e51,qv29];rfl)
     obtain ⟨v53,e53⟩:∃v,((v29 == (4:Int)))=v:=⟨_,rfl⟩
     have h54:v53=false:=by (rw [← e53,qv29];rfl)
     obtain ⟨v55,e55⟩:∃v,((v29 == (5:Int)))=v:=⟨_,rfl⟩
     have h56:v55=false:=by (rw [← e55,qv29];rfl)
     obtain ⟨v57,e57⟩:∃v,((v29 == (6:Int)))=v:=⟨_,rfl⟩
     have h58:v57=false:=by (rw [← e57,qv29];rfl)
     obtain ⟨v59,e59⟩:∃v,((v29 == (7:Int)))=v:=⟨_,rfl⟩
     have h60:v59=true:=by (rw [← e59,qv29];rfl)
     obtain ⟨v61,e61⟩:∃v,((if v24 > v21 then v24 else v21))=v:=⟨_,rfl⟩
     obtain ⟨v62,e62⟩:∃v,((v22 != (0:Int)))=v:=⟨_,rfl⟩
     have h63:v62=true:=by (rw [← e62,qv22];rfl)
     obtain ⟨v64,e64⟩:∃v,((v32 == (3:Int)))=v:=⟨_,rfl⟩
     have h65:v64=true:=by (rw [← e64,qv32];rfl)
     obtain ⟨v66,e66⟩:∃v,((v31 == (0:Int)))=v:=⟨_,rfl⟩
     have hq:v66=true:=by (rw [← e66,qv31];rfl)
     have hp:=zfe (w0:=w0) c c0 c1 c2 c3 c4 c5 d d0 d1 d2 d3 d4 d5 x z hL0 v1 v2 n3 v5 v7 v9 n11 v13 v15 v18 v21 v22 v24 v25 v27 v28 v29 v30 v31 v32 v34 v37 v39 v41 v43 v45 v47 v49 v51 v53 v55 v57 v59 v61 v62 v64 v66 e1 e2 e5 e7 e9 e13 e15 e18 e21 e22 e24 e25 e27 e28 e29 e30 e31 e32 e34 e37 e39 e41 e43 e45 e47 e49 e51 e53 e55 e57 e59 e61 e62 e64 e66 s4 s6 s8 s10 s12 s14 s16 s17 s19 s20 s23 s26 s33 s35 s36 h38 h40 h42 h44 h46 h48 h50 h52 h54 h56 h58 h60 h63 h65
     rw [hq] at hp;exact hp
end Go.Proofs.YtdkofaajcpcjkaaDoor
