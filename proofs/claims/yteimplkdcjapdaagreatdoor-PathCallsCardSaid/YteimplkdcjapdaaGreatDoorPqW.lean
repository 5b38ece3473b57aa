/-
  Merged: PcK.
-/
import Derived.Test.YteimplkdcjapdaaGreatDoorPqV
import Derived.Test.YteimplkdcjapdaaGreatDoorPqU
set_option linter.unusedSimpArgs false
set_option linter.unusedVariables false
set_option maxRecDepth 100000
set_option maxHeartbeats 4000000
set_option synthInstance.maxSize 2000
set_option synthInstance.maxHeartbeats 400000
namespace Go.Proofs.YteimplkdcjapdaaGreatDoor
open Go.RowKit
theorem ze0 {l:List (List Int)} {v:List Sb} {k:Nat} {x:Sb} {b:List Stm} {w:List Int} (e:progX l=v) (h:v[k]?=some x) (hk:(0:Int)=k) (e2:[1]=w) (hb:putP w x.2.2=b):b.length≤9∧∀s∈b,Gs 0 s:=by
 subst e e2 hb
 have hm:=zr3 h hk
 exact ⟨Nat.le_trans zr6 hm.1,ztP (fun s hs=>(hm.2 s hs).1) (by omega)⟩
theorem ze2 {l:List (List Int)} {v:List Sb} {k j:Nat} {x y:Sb} {b c:List Stm} (e:progX l=v) (h:v[k]?=some x) (hk:(0:Int)=k) (h2:v[j]?=some y) (hj:(1:Int)=j) (hb:[]++x.2.2=b) (hc:b++y.2.2=c):c.length≤11∧∀s∈c,Ps 1 s∧Ws s:=by
 subst e hb hc
 have hm:=zr3 h hk
 have hn:=zta h2 hj
 refine ⟨by rw [List.length_append,List.length_append,List.length_nil];omega,fun s hs=>?_⟩
 rcases List.mem_append.1 hs with hs | hs
 ·have:=hm.2 s hs;exact ⟨ps_up this.1 1,this.2⟩
 ·exact hn.2 s hs
theorem ze1 {l:List Stm} {b:List Stm} (h:l.length≤11∧∀s∈l,Ps 1 s∧Ws s) (e:putP [] l=b):b.length≤11∧∀s∈b,Gs 1 s:=by
 subst e
 exact ⟨Nat.le_trans zr6 h.1,zs7 fun s hs=>(h.2 s hs).1⟩
theorem zrR {a v:Int} (e:a.tmod 1048576=v):-1048576≤v∧v≤1048576:=by
 subst e
 have h1:=Int.tmod_lt_of_pos a (show (0:Int)<1048576 by omega)
 have h2:=Int.lt_tmod_of_pos a (show (0:Int)<1048576 by omega)
 omega
theorem ztG {l:List Sb} {args:List Int} (h:zG l=0):(runP l args (0,0,0)).1.length<9223372036854775808:=by
 cases l with
 | nil=>cases h
 | cons x r =>
  by_cases ha:x.2.1=args.length
  ·rw [zse h (x:=x) rfl ha];exact Nat.lt_of_le_of_lt ztL (by omega)
  ·unfold runP
   rw [zgf h (by decide +kernel) (x:=x) rfl,if_pos ha]
   show 0<9223372036854775808
   omega
theorem zsx {a b:List Mov} (e:a=b):sameF a b 0=true:=decide_eq_true (by rw [e])
def zss:Tr:=.s [(0,.raw [(1000002,.call ⟨9,[],[],.o (.c (.k (.bool true))),[]⟩)] 0),(5,.dv .rem 3 2 (kI 1048576)),(9,.call 11 [0,LF (kI 9)] (.o .c)),(10,.call 10 [4] (.o .c)),(11,.ia 28 56 3 5 (kI 0)),(12,.fa 56 2 2 0 6),(13,.ld 54 0 7),(16,.call 11 [1,LF (kI 9)] (.o .c)),(17,.call 10 [9] (.o .c)),(0,.raw [(1000021,.dat 3 1 [.k (.int .i64 1)] 11)] 1),(22,.call 28 [8,11] (.o .c)),(0,.raw [(1000023,.glt 62 4 [] 0)] 0),(25,.ia 28 56 3 10 (kI 0)),(26,.fa 56 2 2 0 13),(27,.ld 54 0 14),(0,.raw [(1000028,.app 62 4 23 0 1 15 [] false)] 0),(30,.ia 28 56 3 10 (kI 1)),(31,.fa 56 2 2 0 16),(32,.ld 54 0 17),(0,.raw [(1000033,.ap 54 [23] (LF (.gr 23)) 18 19 [.gl 23 62 4 1] [])] 1),(34,.call 28 [19,LF (.k (.slice none 0 0))] (.o .c)),(0,.raw [(1000039,.dat 60 1 [.k (.int .i64 1),.h 3,.k (.slice none 0 0)] 21)] 1),(0,.raw [(1000043,.glt 62 4 [] 3)] 0),(0,.raw [(1000045,.app 62 4 43 3 4 12 [] false)] 0),(47,.call 21 [LF (kI 1),LF (kI 1),LF (kI 1)] (.o (.g 3))),(48,.call 29 [.o (.g [22,23,24]),LF (kI 3)] (.o (.g 4))),(0,.raw [(1000049,.dat 62 2 [.k (.int .i64 5),.k (.int .i64 0),.k (.string ⟨#[105,110,110,101,114]⟩),.h 21,.h 25,.h 26,.h 27,.h 28] 29)] 1),(0,.raw [(1000050,.ap 54 [43] (LF (.gr 43)) 29 30 [.gl 43 62 4 4] [])] 1),(0,.raw [(1000054,.dat 56 2 [.k (.string ⟨#[109,97,105,110]⟩),.k (.int .i64 0),.h 30,.k (.string ⟨#[105,110,110,101,114]⟩),.k (.int .i64 1),.h 20] 31)] 1),(0,.raw [(1000056,.glt 62 4 [] 6)] 0),(0,.raw [(1000058,.app 62 4 56 6 7 12 [] false)] 0),(0,.raw [(1000061,.dat 3 1 [.h 3] 32)] 1),(62,.call 28 [20,32] (.o .c)),(0,.raw [(1000063,.app 62 4 56 7 8 33 [] false)] 0),(64,.call 21 [LF (kI 1),LF (kI 1),LF (kI 1)] (.o (.g 3))),(65,.call 29 [.o (.g [34,35,36]),LF (kI 3)] (.o (.g 4))),(0,.raw [(1000066,.dat 62 1 [.h 37,.h 38,.h 39,.h 40] 41)] 1),(0,.raw [(1000067,.ap 54 [56] (LF (.gr 56)) 41 42 [.gl 56 62 4 8] [])] 1),(68,.call 30 [42] (.o .c)),(72,.call 16 [31,LF (.k (.slice none 0 0)),.o (.g [kI 0,kI 0,kI 0])] (.t [.c,.c])),(80,.call 16 [43,LF (.k (.slice none 0 0)),.o (.g [kI 0,kI 0,kI 0])] (.t [.c,.c])),(88,.bin .neq 37 45 47),(0,.fb 48 false),(92,.call 18 [44,46] (.o .c)),(93,.un .not 49),(0,.fb 50 false),(0,.raw [(1000097,.dat 56 1 [.k (.string ⟨#[105,110,110,101,114]⟩),.k (.int .i64 1),.h 20] 51)] 1),(0,.raw [(1000099,.dat 3 1 [.h 3] 52)] 1),(101,.call 16 [51,52,.o (.g [kI 0,kI 0,kI 0])] (.t [.c,.c])),(0,.raw [(1000108,.dat 62 1 [.k (.int .i64 5),.k (.int .i64 0),.k (.string ⟨#[105,110,110,101,114]⟩),.h 21] 55)] 1),(0,.raw [(1000112,.dat 56 2 [.k (.string ⟨#[109,97,105,110]⟩),.k (.int .i64 0),.h 55,.k (.string ⟨#[105,110,110,101,114]⟩),.k (.int .i64 1),.h 20] 56)] 1),(114,.call 16 [56,LF (.k (.slice none 0 0)),.o (.g [kI 0,kI 0,kI 0])] (.t [.c,.c])),(124,.bin .eql 37 54 58),(0,.fb 59 true),(129,.call 18 [53,57] (.o .c)),(0,.fb 60 true),(133,.call 31 [31] (.o .c)),(134,.bin .eql 37 61 (kI 0))] (.z (.ret false (62) []))
theorem zsK {w0:World} (hL:LibP w0) (l:List (List Int)×List (List Int)) (arg:Int):Fun (KN w0) Tryz.prog 5 [.o (.g [pLs cLI l.1,pLs cLI l.2]),.o (.c (pI arg))] (.o (.c (pB true))):=by
 refine tfn w0 5 ⟨[.o (.g [0,1]),2],[],[],0,0⟩ ⟨3,[sI arg,.ls 1 cLI kLI l.2,.ls 1 cLI kLI l.1],[],[]⟩ zss (by kernel_rfl) ?_
 refine rx [] [] [] (fun t u w=>⟨zA (zok hL),trivial⟩) ?_
 refine ai (by decide) fun v1 e1=>?_
 obtain ⟨v2,e2⟩:=LX (zsR l.1 (9:Int))
 have s3:0≤(9:Int)∧(9:Int)≤100:=by omega
 refine cx (.o (.c (.ls 1 cLI kLI v2))) (ztb l.1 (9:Int) v2 e2 s3) rfl ?_
 obtain ⟨v4,e4⟩:=LX (progX v2)
 have s5:∀x∈v2,x.length≤100:=by (rw [← e2];exact zsS)
 refine cx (.o (.c (.ls 3 cSb kSb v4))) (ztH v2 v4 e4 s5) rfl ?_
 refine ai (by exact ⟨0,([109,97,105,110],1,walkP (v2.take 9) (0,0,0)),rfl,by rw [← e4];rfl⟩) fun n6 x7 s8 s9=>?_
 obtain ⟨v10,e10⟩:=LX (zsR l.2 (9:Int))
 have s11:0≤(9:Int)∧(9:Int)≤100:=by omega
 refine cx (.o (.c (.ls 1 cLI kLI v10))) (ztb l.2 (9:Int) v10 e10 s11) rfl ?_
 obtain ⟨v12,e12⟩:=LX (progX v10)
 have s13:∀x∈v10,x.length≤100:=by (rw [← e10];exact zsS)
 refine cx (.o (.c (.ls 3 cSb kSb v12))) (ztH v10 v12 e12 s13) rfl ?_
 obtain ⟨v14,e14⟩:=LX (([(1:Int)]:List Int))
 refine rx [.ls 1 cI kIc v14] [] [] (fun t u w=>⟨e_dat (c:=cI) (l:=([(1:Int)]:List Int)) (ps:=(pV (.int .i64 1)::[])) (qs:=(pI (1:Int)::[])) (by rw [e14];rfl) rfl rfl rfl (pimps (fun _ _ _ h=>h) <| zf) rfl,trivial⟩) ?_
 obtain ⟨v15,e15⟩:=LX (putP v14 x7.2.2)
 have s16:x7.2.2.length≤1000000:=by exact Nat.le_trans (zr3 (l:=v2) (by rw [e4];exact s9) s8).1 (by omega)
 have s17:∀s∈x7.2.2,s.2.2.2.length≤1000∧∀e∈s.2.2.2,nodes e≤1000000:=by exact fun s hs=>((zr3 (l:=v2) (by rw [e4];exact s9) s8).2 s hs).2
 refine cx (.o (.c (.ls 4 cSt kSt v15))) (t_put x7.2.2 v14 v15 e15 s16 s17) rfl ?_
 refine rx [] [pG cSt ([]:List Stm)] [] (fun t u w=>⟨e_glt (c:=cSt) (l:=([]:List Stm)) rfl rfl (fun _ _ _ h=>h) rfl qY (by decide),trivial⟩) ?_
 refine ai (by exact ⟨0,([109,97,105,110],1,walkP (v10.take 9) (0,0,0)),rfl,by rw [← e12];rfl⟩) fun n18 x19 s20 s21=>?_
 obtain ⟨v22,e22⟩:=LX (([]:List Stm)++x19.2.2)
 have s23:(([]:List Stm).length+x19.2.2.length)*4≤1099511627776:=by (have q:=(zr3 (l:=v10) (by rw [e12];exact s21) s20).1;simp only [List.length_nil];omega)
 refine rx [] [pG cSt v22] [] (fun t u w=>⟨qz (c:=cSt) (l:=([]:List Stm)) qY (fun _=>rfl) (by kernel_rfl) (by rw [e22];kernel_rfl) rfl s23,trivial⟩) ?_
 refine ai (by exact ⟨1,([115,105,100,101],1,sideP (decide ((v10.length:Int) > 5))),rfl,by rw [← e12];rfl⟩) fun n24 x25 s26 s27=>?_
 obtain ⟨v28,e28⟩:=LX (v22++x25.2.2)
 have s29:(v22.length+x25.2.2.length)*4≤1099511627776:=by (have q:=(zr3 (l:=v10) (by rw [e12];exact s21) s20).1;have p:=(zta (l:=v10) (by rw [e12];exact s27) s26).1;rw [← e22];simp only [List.length_append,List.length_nil];omega)
 refine rx [.ls 4 cSt kSt v28] [pG cSt v28] [] (fun t u w=>⟨e_apZ (c:=cSt) (m:=2) (l:=v28) (zs:=(zaQ Tryz.prog 62).getD []) (kb:=(zb3 Tryz.prog 62).getD 0) (by kernel_rfl) (by kernel_rfl) (by kernel_rfl) (by kernel_rfl) (by decide) (by decide +kernel) (by kernel_rfl) (by kernel_rfl) (by kernel_rfl) (fun _=>rfl) qY (by kernel_rfl) rfl (qz (c:=cSt) (l:=v22) qY (fun _=>rfl) (by kernel_rfl) (by rw [e28];kernel_rfl) rfl s29),trivial⟩) ?_
 obtain ⟨v30,e30⟩:=LX (putP ([]:List Int) v28)
 have s31:v28.length≤1000000:=by exact Nat.le_trans (ze2 e12 s21 s20 s27 s26 e22 e28).1 (by omega)
 have s32:∀s∈v28,s.2.2.2.length≤1000∧∀e∈s.2.2.2,nodes e≤1000000:=by exact fun s hs=>((ze2 e12 s21 s20 s27 s26 e22 e28).2 s hs).2
 refine cx (.o (.c (.ls 4 cSt kSt v30))) (Fun.imp (as2:=[.o (.c (pLs cSt v28)),.o (.c (pV (.slice none 0 0)))]) (t_put v28 ([]:List Int) v30 e30 s31 s32) (zbl ⟨fun _ _ _ h=>h,fun _ _ _ h=>nil_I _ _ _ h,trivial⟩) (fun _ _ _ h=>h)) rfl ?_
 obtain ⟨v33,e33⟩:=LX (([(Xp.mk (1:Int) v1 [])]:List Xp))
 refine rx [.ls 3 cE kE v33] [] [] (fun t u w=>⟨e_dat (c:=cE) (l:=([(Xp.mk (1:Int) v1 [])]:List Xp)) (ps:=(pV (.int .i64 1)::pI v1::pV (.slice none 0 0)::[])) (qs:=(pI (Xp.mk (1:Int) v1 []).op::pI (Xp.mk (1:Int) v1 []).n::pLs cE ((Xp.mk (1:Int) v1 []).l)::[])) (by rw [e33];rfl) rfl rfl ((flatE _).trans rfl) (pimps (fun _ _ _ h=>h) <| pimps (fun _ _ _ h=>h) <| pimps (nil_X) <| zf) rfl,trivial⟩) ?_
 refine rx [] [pG cSt ([]:List Stm)] [] (fun t u w=>⟨e_glt (c:=cSt) (l:=([]:List Stm)) rfl rfl (fun _ _ _ h=>h) rfl qY (by decide),trivial⟩) ?_
 obtain ⟨v34,e34⟩:=LX (([]:List Stm)++v15)
 have s35:(([]:List Stm).length+v15.length)*4≤1099511627776:=by (have q:=(ze0 e4 s9 s8 e14 e15).1;simp only [List.length_nil];omega)
 refine rx [] [pG cSt v34] [] (fun t u w=>⟨qz (c:=cSt) (l:=([]:List Stm)) qY (fun _=>rfl) (by kernel_rfl) (by rw [e34];kernel_rfl) rfl s35,trivial⟩) ?_
 obtain ⟨v36,e36⟩:=LX (((1:Int),(1:Int),(1:Int)))
 refine cx (.o (.g [sI v36.1,sI v36.2.1,sI v36.2.2])) (zY (1:Int) (1:Int) (1:Int) v36 e36) rfl ?_
 obtain ⟨v37,e37⟩:=LX (lineX v36 (3:Int))
 refine cx (.o (.g [sI v37.1,sI v37.2.1,sS v37.2.2.1,.ls 3 cE kE v37.2.2.2])) (qy v36 (3:Int) v37 e37) rfl ?_
 obtain ⟨v38,e38⟩:=LX (([((5:Int),(0:Int),[105,110,110,101,114],v33),v37]:List Stm))
 refine rx [.ls 4 cSt kSt v38] [] [] (fun t u w=>⟨e_dat (c:=cSt) (l:=([((5:Int),(0:Int),[105,110,110,101,114],v33),v37]:List Stm)) (ps:=(pV (.int .i64 5)::pV (.int .i64 0)::pV (.string ⟨#[105,110,110,101,114]⟩)::pLs cE v33::pI v37.1::pI v37.2.1::pS v37.2.2.1::pLs cE v37.2.2.2::[])) (qs:=(pI ((5:Int),(0:Int),[105,110,110,101,114],v33).1::pI ((5:Int),(0:Int),[105,110,110,101,114],v33).2.1::pS ((5:Int),(0:Int),[105,110,110,101,114],v33).2.2.1::pLs cE (((5:Int),(0:Int),[105,110,110,101,114],v33).2.2.2)::pI v37.1::pI v37.2.1::pS v37.2.2.1::pLs cE v37.2.2.2::[])) (by rw [e38];rfl) rfl rfl rfl (pimps (fun _ _ _ h=>h) <| pimps (fun _ _ _ h=>h) <| pimps (fun _ _ _ h=>h) <| pimps (fun _ _ _ h=>h) <| pimps (fun _ _ _ h=>h) <| pimps (fun _ _ _ h=>h) <| pimps (fun _ _ _ h=>h) <| pimps (fun _ _ _ h=>h) <| zf) rfl,trivial⟩) ?_
 obtain ⟨v39,e39⟩:=LX (v34++v38)
 have s40:(v34.length+v38.length)*4≤1099511627776:=by (have q:=(ze0 e4 s9 s8 e14 e15).1;rw [← e34,← e38];simp only [List.length_append,List.length_nil,List.length_cons];omega)
 refine rx [.ls 4 cSt kSt v39] [pG cSt v39] [] (fun t u w=>⟨e_apZ (c:=cSt) (m:=5) (l:=v39) (zs:=(zaQ Tryz.prog 62).getD []) (kb:=(zb3 Tryz.prog 62).getD 0) (by kernel_rfl) (by kernel_rfl) (by kernel_rfl) (by kernel_rfl) (by decide) (by decide +kernel) (by kernel_rfl) (by kernel_rfl) (by kernel_rfl) (fun _=>rfl) qY (by kernel_rfl) rfl (qz (c:=cSt) (l:=v34) qY (fun _=>rfl) (by kernel_rfl) (by rw [e39];kernel_rfl) rfl s40),trivial⟩) ?_
 obtain ⟨v41,e41⟩:=LX (([([109,97,105,110],(0:Int),v39),([105,110,110,101,114],(1:Int),v30)]:List Sb))
 refine rx [.ls 3 cSb kSb v41] [] [] (fun t u w=>⟨e_dat (c:=cSb) (l:=([([109,97,105,110],(0:Int),v39),([105,110,110,101,114],(1:Int),v30)]:List Sb)) (ps:=(pV (.string ⟨#[109,97,105,110]⟩)::pV (.int .i64 0)::pLs cSt v39::pV (.string ⟨#[105,110,110,101,114]⟩)::pV (.int .i64 1)::pLs cSt v30::[])) (qs:=(pS ([109,97,105,110],(0:Int),v39).1::pI ([109,97,105,110],(0:Int),v39).2.1::pLs cSt (([109,97,105,110],(0:Int),v39).2.2)::pS ([105,110,110,101,114],(1:Int),v30).1::pI ([105,110,110,101,114],(1:Int),v30).2.1::pLs cSt (([105,110,110,101,114],(1:Int),v30).2.2)::[])) (by rw [e41];rfl) rfl rfl rfl (pimps (fun _ _ _ h=>h) <| pimps (fun _ _ _ h=>h) <| pimps (fun _ _ _ h=>h) <| pimps (fun _ _ _ h=>h) <| pimps (fun _ _ _ h=>h) <| pimps (fun _ _ _ h=>h) <| zf) rfl,trivial⟩) ?_
 refine rx [] [pG cSt ([]:List Stm)] [] (fun t u w=>⟨e_glt (c:=cSt) (l:=([]:List Stm)) rfl rfl (fun _ _ _ h=>h) rfl qY (by decide),trivial⟩) ?_
 obtain ⟨v42,e42⟩:=LX (([]:List Stm)++v15)
 have s43:(([]:List Stm).length+v15.length)*4≤1099511627776:=by (have q:=(ze0 e4 s9 s8 e14 e15).1;simp only [List.length_nil];omega)
 refine rx [] [pG cSt v42] [] (fun t u w=>⟨qz (c:=cSt) (l:=([]:List Stm)) qY (fun _=>rfl) (by kernel_rfl) (by rw [e42];kernel_rfl) rfl s43,trivial⟩) ?_
 obtain ⟨v44,e44⟩:=LX (([v1]:List Int))
 refine rx [.ls 1 cI kIc v44] [] [] (fun t u w=>⟨e_dat (c:=cI) (l:=([v1]:List Int)) (ps:=(pI v1::[])) (qs:=(pI v1::[])) (by rw [e44];rfl) rfl rfl rfl (pimps (fun _ _ _ h=>h) <| zf) rfl,trivial⟩) ?_
 obtain ⟨v45,e45⟩:=LX (putP v44 v30)
 have s46:v30.length≤1000000:=by exact Nat.le_trans (ze1 (ze2 e12 s21 s20 s27 s26 e22 e28) e30).1 (by omega)
 have s47:∀s∈v30,s.2.2.2.length≤1000∧∀e∈s.2.2.2,nodes e≤1000000:=by exact fun s hs=>gs_w2 ((ze1 (ze2 e12 s21 s20 s27 s26 e22 e28) e30).2 s hs)
 refine cx (.o (.c (.ls 4 cSt kSt v45))) (t_put v30 v44 v45 e45 s46 s47) rfl ?_
 obtain ⟨v48,e48⟩:=LX (v42++v45)
 have s49:(v42.length+v45.length)*4≤1099511627776:=by (have q:=(ze0 e4 s9 s8 e14 e15).1;have p:=(ze1 (ze2 e12 s21 s20 s27 s26 e22 e28) e30).1;have o:=zr6 (v:=v44) (l:=v30);rw [← e42,← e45];simp only [List.length_append,List.length_nil];omega)
 refine rx [] [pG cSt v48] [] (fun t u w=>⟨qz (c:=cSt) (l:=v42) qY (fun _=>rfl) (by kernel_rfl) (by rw [e48];kernel_rfl) rfl s49,trivial⟩) ?_
 obtain ⟨v50,e50⟩:=LX (((1:Int),(1:Int),(1:Int)))
 refine cx (.o (.g [sI v50.1,sI v50.2.1,sI v50.2.2])) (zY (1:Int) (1:Int) (1:Int) v50 e50) rfl ?_
 obtain ⟨v51,e51⟩:=LX (lineX v50 (3:Int))
 refine cx (.o (.g [sI v51.1,sI v51.2.1,sS v51.2.2.1,.ls 3 cE kE v51.2.2.2])) (qy v50 (3:Int) v51 e51) rfl ?_
 obtain ⟨v52,e52⟩:=LX (([v51]:List Stm))
 refine rx [.ls 4 cSt kSt v52] [] [] (fun t u w=>⟨e_dat (c:=cSt) (l:=([v51]:List Stm)) (ps:=(pI v51.1::pI v51.2.1::pS v51.2.2.1::pLs cE v51.2.2.2::[])) (qs:=(pI v51.1::pI v51.2.1::pS v51.2.2.1::pLs cE v51.2.2.2::[])) (by rw [e52];rfl) rfl rfl rfl (pimps (fun _ _ _ h=>h) <| pimps (fun _ _ _ h=>h) <| pimps (fun _ _ _ h=>h) <| pimps (fun _ _ _ h=>h) <| zf) rfl,trivial⟩) ?_
 obtain ⟨v53,e53⟩:=LX (v48++v52)
 have s54:(v48.length+v52.length)*4≤1099511627776:=by (have q:=(ze0 e4 s9 s8 e14 e15).1;have p:=(ze1 (ze2 e12 s21 s20 s27 s26 e22 e28) e30).1;have o:=zr6 (v:=v44) (l:=v30);rw [← e48,← e42,← e45,← e52];simp only [List.length_append,List.length_nil,List.length_cons];omega)
 refine rx [.ls 4 cSt kSt v53] [pG cSt v53] [] (fun t u w=>⟨e_apZ (c:=cSt) (m:=9) (l:=v53) (zs:=(zaQ Tryz.prog 62).getD []) (kb:=(zb3 Tryz.prog 62).getD 0) (by kernel_rfl) (by kernel_rfl) (by kernel_rfl) (by kernel_rfl) (by decide) (by decide +kernel) (by kernel_rfl) (by kernel_rfl) (by kernel_rfl) (fun _=>rfl) qY (by kernel_rfl) rfl (qz (c:=cSt) (l:=v48) qY (fun _=>rfl) (by kernel_rfl) (by rw [e53];kernel_rfl) rfl s54),trivial⟩) ?_
 obtain ⟨v55,e55⟩:=LX (mainX v53)
 refine cx (.o (.c (.ls 3 cSb kSb v55))) (zgz v53 v55 e55) rfl ?_
 obtain ⟨v56,e56⟩:=LX ((runP v41 ([]:List Int) ((0:Int),(0:Int),(0:Int))).1)
 obtain ⟨v57,e57⟩:=LX ((runP v41 ([]:List Int) ((0:Int),(0:Int),(0:Int))).2)
 have s58:zG v41=0:=by (rw [(show v41=zrT v1 v15 v30 by rw [← e41,← e39,← e34,← e38,← e37,← e36,← e33];rfl)];exact zrS (zrR e1) (ze0 e4 s9 s8 e14 e15).2 (ze1 (ze2 e12 s21 s20 s27 s26 e22 e28) e30).2 (Nat.le_trans (ze0 e4 s9 s8 e14 e15).1 (by omega)) (Nat.le_trans (ze1 (ze2 e12 s21 s20 s27 s26 e22 e28) e30).1 (by omega)))
 have s59:SbW v41:=by (rw [(show v41=zrT v1 v15 v30 by rw [← e41,← e39,← e34,← e38,← e37,← e36,← e33];rfl)];exact zsP (zrR e1) (ze0 e4 s9 s8 e14 e15).2 (ze1 (ze2 e12 s21 s20 s27 s26 e22 e28) e30).2 (Nat.le_trans (ze0 e4 s9 s8 e14 e15).1 (by omega)) (Nat.le_trans (ze1 (ze2 e12 s21 s20 s27 s26 e22 e28) e30).1 (by omega)))
 refine cx (.t [.c (.ls 11 cM kM v56),.c (sI v57)]) (Fun.imp (as2:=[.o (.c (pLs cSb v41)),.o (.c (pV (.slice none 0 0))),.o (.g [pV (.int .i64 0),pV (.int .i64 0),pV (.int .i64 0)])]) (zek hL v41 ([]:List Int) ((0:Int),(0:Int),(0:Int)) v56 v57 e56 e57 s58 s59) (zbl ⟨fun _ _ _ h=>h,fun _ _ _ h=>nil_I _ _ _ h,fun _ _ _ h=>h,trivial⟩) (fun _ _ _ h=>h)) rfl ?_
 obtain ⟨v60,e60⟩:=LX ((runP v55 ([]:List Int) ((0:Int),(0:Int),(0:Int))).1)
 obtain ⟨v61,e61⟩:=LX ((runP v55 ([]:List Int) ((0:Int),(0:Int),(0:Int))).2)
 have s62:zG v55=0:=by (rw [(show v55=mainX (v15++v30.map (putS [v1])++[lastX]) by rw [← e55,← e53,← e48,← e42,← e52,← e51,← e50,← e45,← e44,zr7 (ze1 (ze2 e12 s21 s20 s27 s26 e22 e28) e30).2];rfl)];exact zsc (zrR e1) (ze0 e4 s9 s8 e14 e15).2 (ze1 (ze2 e12 s21 s20 s27 s26 e22 e28) e30).2 (Nat.le_trans (ze0 e4 s9 s8 e14 e15).1 (by omega)) (Nat.le_trans (ze1 (ze2 e12 s21 s20 s27 s26 e22 e28) e30).1 (by omega)))
 have s63:SbW v55:=by (rw [(show v55=mainX (v15++v30.map (putS [v1])++[lastX]) by rw [← e55,← e53,← e48,← e42,← e52,← e51,← e50,← e45,← e44,zr7 (ze1 (ze2 e12 s21 s20 s27 s26 e22 e28) e30).2];rfl)];exact ztO (zrR e1) (ze0 e4 s9 s8 e14 e15).2 (ze1 (ze2 e12 s21 s20 s27 s26 e22 e28) e30).2 (Nat.le_trans (ze0 e4 s9 s8 e14 e15).1 (by omega)) (Nat.le_trans (ze1 (ze2 e12 s21 s20 s27 s26 e22 e28) e30).1 (by omega)))
 refine cx (.t [.c (.ls 11 cM kM v60),.c (sI v61)]) (Fun.imp (as2:=[.o (.c (pLs cSb v55)),.o (.c (pV (.slice none 0 0))),.o (.g [pV (.int .i64 0),pV (.int .i64 0),pV (.int .i64 0)])]) (zek hL v55 ([]:List Int) ((0:Int),(0:Int),(0:Int)) v60 v61 e60 e61 s62 s63) (zbl ⟨fun _ _ _ h=>h,fun _ _ _ h=>nil_I _ _ _ h,fun _ _ _ h=>h,trivial⟩) (fun _ _ _ h=>h)) rfl ?_
 intro v64 e64
 have s65:v64=false:=by (rw [← e64,← e57,← e61,(show runP v41 [] (0,0,0)=runP v55 [] (0,0,0) by rw [(show v41=zrT v1 v15 v30 by rw [← e41,← e39,← e34,← e38,← e37,← e36,← e33];rfl),(show v55=mainX (v15++v30.map (putS [v1])++[lastX]) by rw [← e55,← e53,← e48,← e42,← e52,← e51,← e50,← e45,← e44,zr7 (ze1 (ze2 e12 s21 s20 s27 s26 e22 e28) e30).2];rfl)];exact zsk (zrR e1) (ze0 e4 s9 s8 e14 e15).2 (ze1 (ze2 e12 s21 s20 s27 s26 e22 e28) e30).2 (Nat.le_trans (ze0 e4 s9 s8 e14 e15).1 (by omega)) (Nat.le_trans (ze1 (ze2 e12 s21 s20 s27 s26 e22 e28) e30).1 (by omega)))];exact bne_self_eq_false _)
 refine ai s65 ?_
 obtain ⟨v66,e66⟩:=LX (sameF v56 v60 0)
 have s67:v56.length<9223372036854775808:=by (rw [← e56];exact ztG (by rw [(show v41=zrT v1 v15 v30 by rw [← e41,← e39,← e34,← e38,← e37,← e36,← e33];rfl)];exact zrS (zrR e1) (ze0 e4 s9 s8 e14 e15).2 (ze1 (ze2 e12 s21 s20 s27 s26 e22 e28) e30).2 (Nat.le_trans (ze0 e4 s9 s8 e14 e15).1 (by omega)) (Nat.le_trans (ze1 (ze2 e12 s21 s20 s27 s26 e22 e28) e30).1 (by omega))))
 refine cx (.o (.c (sB v66))) (ztJ v56 v60 v66 e66 s67) rfl ?_
 intro v68 e68
 have s69:v68=false:=by (rw [← e68,← e66,zsx (show v56=v60 by rw [← e56,← e60,(show runP v41 [] (0,0,0)=runP v55 [] (0,0,0) by rw [(show v41=zrT v1 v15 v30 by rw [← e41,← e39,← e34,← e38,← e37,← e36,← e33];rfl),(show v55=mainX (v15++v30.map (putS [v1])++[lastX]) by rw [← e55,← e53,← e48,← e42,← e52,← e51,← e50,← e45,← e44,zr7 (ze1 (ze2 e12 s21 s20 s27 s26 e22 e28) e30).2];rfl)];exact zsk (zrR e1) (ze0 e4 s9 s8 e14 e15).2 (ze1 (ze2 e12 s21 s20 s27 s26 e22 e28) e30).2 (Nat.le_trans (ze0 e4 s9 s8 e14 e15).1 (by omega)) (Nat.le_trans (ze1 (ze2 e12 s21 s20 s27 s26 e22 e28) e30).1 (by omega)))])];rfl)
 refine ai s69 ?_
 obtain ⟨v70,e70⟩:=LX (([([105,110,110,101,114],(1:Int),v30)]:List Sb))
 refine rx [.ls 3 cSb kSb v70] [] [] (fun t u w=>⟨e_dat (c:=cSb) (l:=([([105,110,110,101,114],(1:Int),v30)]:List Sb)) (ps:=(pV (.string ⟨#[105,110,110,101,114]⟩)::pV (.int .i64 1)::pLs cSt v30::[])) (qs:=(pS ([105,110,110,101,114],(1:Int),v30).1::pI ([105,110,110,101,114],(1:Int),v30).2.1::pLs cSt (([105,110,110,101,114],(1:Int),v30).2.2)::[])) (by rw [e70];rfl) rfl rfl rfl (pimps (fun _ _ _ h=>h) <| pimps (fun _ _ _ h=>h) <| pimps (fun _ _ _ h=>h) <| zf) rfl,trivial⟩) ?_
 obtain ⟨v71,e71⟩:=LX (([v1]:List Int))
 refine rx [.ls 1 cI kIc v71] [] [] (fun t u w=>⟨e_dat (c:=cI) (l:=([v1]:List Int)) (ps:=(pI v1::[])) (qs:=(pI v1::[])) (by rw [e71];rfl) rfl rfl rfl (pimps (fun _ _ _ h=>h) <| zf) rfl,trivial⟩) ?_
 obtain ⟨v72,e72⟩:=LX ((runP v70 v71 ((0:Int),(0:Int),(0:Int))).1)
 obtain ⟨v73,e73⟩:=LX ((runP v70 v71 ((0:Int),(0:Int),(0:Int))).2)
 have s74:zG v70=0:=by (rw [(show v70=[zrP 1 v30] by rw [← e70];rfl)];exact zsa (zrR e1) (ze0 e4 s9 s8 e14 e15).2 (ze1 (ze2 e12 s21 s20 s27 s26 e22 e28) e30).2 (Nat.le_trans (ze0 e4 s9 s8 e14 e15).1 (by omega)) (Nat.le_trans (ze1 (ze2 e12 s21 s20 s27 s26 e22 e28) e30).1 (by omega)))
 have s75:SbW v70:=by (rw [(show v70=[zrP 1 v30] by rw [← e70];rfl)];exact one_w (zrR e1) (ze0 e4 s9 s8 e14 e15).2 (ze1 (ze2 e12 s21 s20 s27 s26 e22 e28) e30).2 (Nat.le_trans (ze0 e4 s9 s8 e14 e15).1 (by omega)) (Nat.le_trans (ze1 (ze2 e12 s21 s20 s27 s26 e22 e28) e30).1 (by omega)))
 refine cx (.t [.c (.ls 11 cM kM v72),.c (sI v73)]) (zek hL v70 v71 ((0:Int),(0:Int),(0:Int)) v72 v73 e72 e73 s74 s75) rfl ?_
 obtain ⟨v76,e76⟩:=LX (([((5:Int),(0:Int),[105,110,110,101,114],v33)]:List Stm))
 refine rx [.ls 4 cSt kSt v76] [] [] (fun t u w=>⟨e_dat (c:=cSt) (l:=([((5:Int),(0:Int),[105,110,110,101,114],v33)]:List Stm)) (ps:=(pV (.int .i64 5)::pV (.int .i64 0)::pV (.string ⟨#[105,110,110,101,114]⟩)::pLs cE v33::[])) (qs:=(pI ((5:Int),(0:Int),[105,110,110,101,114],v33).1::pI ((5:Int),(0:Int),[105,110,110,101,114],v33).2.1::pS ((5:Int),(0:Int),[105,110,110,101,114],v33).2.2.1::pLs cE (((5:Int),(0:Int),[105,110,110,101,114],v33).2.2.2)::[])) (by rw [e76];rfl) rfl rfl rfl (pimps (fun _ _ _ h=>h) <| pimps (fun _ _ _ h=>h) <| pimps (fun _ _ _ h=>h) <| pimps (fun _ _ _ h=>h) <| zf) rfl,trivial⟩) ?_
 obtain ⟨v77,e77⟩:=LX (([([109,97,105,110],(0:Int),v76),([105,110,110,101,114],(1:Int),v30)]:List Sb))
 refine rx [.ls 3 cSb kSb v77] [] [] (fun t u w=>⟨e_dat (c:=cSb) (l:=([([109,97,105,110],(0:Int),v76),([105,110,110,101,114],(1:Int),v30)]:List Sb)) (ps:=(pV (.string ⟨#[109,97,105,110]⟩)::pV (.int .i64 0)::pLs cSt v76::pV (.string ⟨#[105,110,110,101,114]⟩)::pV (.int .i64 1)::pLs cSt v30::[])) (qs:=(pS ([109,97,105,110],(0:Int),v76).1::pI ([109,97,105,110],(0:Int),v76).2.1::pLs cSt (([109,97,105,110],(0:Int),v76).2.2)::pS ([105,110,110,101,114],(1:Int),v30).1::pI ([105,110,110,101,114],(1:Int),v30).2.1::pLs cSt (([105,110,110,101,114],(1:Int),v30).2.2)::[])) (by rw [e77];rfl) rfl rfl rfl (pimps (fun _ _ _ h=>h) <| pimps (fun _ _ _ h=>h) <| pimps (fun _ _ _ h=>h) <| pimps (fun _ _ _ h=>h) <| pimps (fun _ _ _ h=>h) <| pimps (fun _ _ _ h=>h) <| zf) rfl,trivial⟩) ?_
 obtain ⟨v78,e78⟩:=LX ((runP v77 ([]:List Int) ((0:Int),(0:Int),(0:Int))).1)
 obtain ⟨v79,e79⟩:=LX ((runP v77 ([]:List Int) ((0:Int),(0:Int),(0:Int))).2)
 have s80:zG v77=0:=by (rw [(show v77=[([109,97,105,110],0,[callX v1]),zrP 1 v30] by rw [← e77,← e76,← e33];rfl)];exact zsz (zrR e1) (ze0 e4 s9 s8 e14 e15).2 (ze1 (ze2 e12 s21 s20 s27 s26 e22 e28) e30).2 (Nat.le_trans (ze0 e4 s9 s8 e14 e15).1 (by omega)) (Nat.le_trans (ze1 (ze2 e12 s21 s20 s27 s26 e22 e28) e30).1 (by omega)))
 have s81:SbW v77:=by (rw [(show v77=[([109,97,105,110],0,[callX v1]),zrP 1 v30] by rw [← e77,← e76,← e33];rfl)];exact two_w (zrR e1) (ze0 e4 s9 s8 e14 e15).2 (ze1 (ze2 e12 s21 s20 s27 s26 e22 e28) e30).2 (Nat.le_trans (ze0 e4 s9 s8 e14 e15).1 (by omega)) (Nat.le_trans (ze1 (ze2 e12 s21 s20 s27 s26 e22 e28) e30).1 (by omega)))
 refine cx (.t [.c (.ls 11 cM kM v78),.c (sI v79)]) (Fun.imp (as2:=[.o (.c (pLs cSb v77)),.o (.c (pV (.slice none 0 0))),.o (.g [pV (.int .i64 0),pV (.int .i64 0),pV (.int .i64 0)])]) (zek hL v77 ([]:List Int) ((0:Int),(0:Int),(0:Int)) v78 v79 e78 e79 s80 s81) (zbl ⟨fun _ _ _ h=>h,fun _ _ _ h=>nil_I _ _ _ h,fun _ _ _ h=>h,trivial⟩) (fun _ _ _ h=>h)) rfl ?_
 intro v82 e82
 have s83:v82=true:=by (rw [← e82,← e73,← e79,(show runP v70 v71 (0,0,0)=runP v77 [] (0,0,0) by rw [(show v70=[zrP 1 v30] by rw [← e70];rfl),(show v77=[([109,97,105,110],0,[callX v1]),zrP 1 v30] by rw [← e77,← e76,← e33];rfl),← e71];exact zs8 (zrR e1) (ze0 e4 s9 s8 e14 e15).2 (ze1 (ze2 e12 s21 s20 s27 s26 e22 e28) e30).2 (Nat.le_trans (ze0 e4 s9 s8 e14 e15).1 (by omega)) (Nat.le_trans (ze1 (ze2 e12 s21 s20 s27 s26 e22 e28) e30).1 (by omega)))];exact beq_self_eq_true _)
 refine ai s83 ?_
 obtain ⟨v84,e84⟩:=LX (sameF v72 v78 0)
 have s85:v72.length<9223372036854775808:=by (rw [← e72];exact ztG (by rw [(show v70=[zrP 1 v30] by rw [← e70];rfl)];exact zsa (zrR e1) (ze0 e4 s9 s8 e14 e15).2 (ze1 (ze2 e12 s21 s20 s27 s26 e22 e28) e30).2 (Nat.le_trans (ze0 e4 s9 s8 e14 e15).1 (by omega)) (Nat.le_trans (ze1 (ze2 e12 s21 s20 s27 s26 e22 e28) e30).1 (by omega))))
 refine cx (.o (.c (sB v84))) (ztJ v72 v78 v84 e84 s85) rfl ?_
 have s86:v84=true:=by (rw [← e84,zsx (show v72=v78 by rw [← e72,← e78,(show runP v70 v71 (0,0,0)=runP v77 [] (0,0,0) by rw [(show v70=[zrP 1 v30] by rw [← e70];rfl),(show v77=[([109,97,105,110],0,[callX v1]),zrP 1 v30] by rw [← e77,← e76,← e33];rfl),← e71];exact zs8 (zrR e1) (ze0 e4 s9 s8 e14 e15).2 (ze1 (ze2 e12 s21 s20 s27 s26 e22 e28) e30).2 (Nat.le_trans (ze0 e4 s9 s8 e14 e15).1 (by omega)) (Nat.le_trans (ze1 (ze2 e12 s21 s20 s27 s26 e22 e28) e30).1 (by omega)))])])
 refine ai s86 ?_
 obtain ⟨v87,e87⟩:=LX ((0:Int))
 have s88:zG v41=0:=by (rw [(show v41=zrT v1 v15 v30 by rw [← e41,← e39,← e34,← e38,← e37,← e36,← e33];rfl)];exact zrS (zrR e1) (ze0 e4 s9 s8 e14 e15).2 (ze1 (ze2 e12 s21 s20 s27 s26 e22 e28) e30).2 (Nat.le_trans (ze0 e4 s9 s8 e14 e15).1 (by omega)) (Nat.le_trans (ze1 (ze2 e12 s21 s20 s27 s26 e22 e28) e30).1 (by omega)))
 have s89:SbW v41:=by (rw [(show v41=zrT v1 v15 v30 by rw [← e41,← e39,← e34,← e38,← e37,← e36,← e33];rfl)];exact zsP (zrR e1) (ze0 e4 s9 s8 e14 e15).2 (ze1 (ze2 e12 s21 s20 s27 s26 e22 e28) e30).2 (Nat.le_trans (ze0 e4 s9 s8 e14 e15).1 (by omega)) (Nat.le_trans (ze1 (ze2 e12 s21 s20 s27 s26 e22 e28) e30).1 (by omega)))
 refine cx (.o (.c (sI v87))) (zqf hL v41 v87 e87 s88 s89) rfl ?_
 intro v90 e90
 intro hc
 refine Fun.fin (r:=.o (.c (pB v90))) (zc (hc)) (fun v W D h=>?_)
 have q:true=v90:=(by rw [← e90,← e87];rfl)
 rw [q];exact h
end Go.Proofs.YteimplkdcjapdaaGreatDoor
