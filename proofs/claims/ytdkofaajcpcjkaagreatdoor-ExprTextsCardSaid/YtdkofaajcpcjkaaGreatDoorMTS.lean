/-
  Merged: ExOe, ExU, ExAl, ExW, ExX.
-/
import Derived.Test.YtdkofaajcpcjkaaGreatDoorMTR
import Derived.Test.YtdkofaajcpcjkaaGreatDoorMTQ
import Derived.Test.YtdkofaajcpcjkaaGreatDoorMTO
set_option linter.unusedSimpArgs false
set_option linter.unusedVariables false
set_option maxRecDepth 100000
namespace Go.Proofs.YtdkofaajcpcjkaaGreatDoor
open Go.RowKit
def oddW:Nat→Xp→Xp
 | 0,t=>t
 | k+1,t=>.mk 3 0 [oddW k t,.mk 1 (k:Int) []]
theorem zmC {w0:World} (e:Xp) (kk0 kk1 kk2:Int) (v3:Int) (c2:Xp×(Xp→Xp)) (v1:Int) (v2:Bool) (v4:Int) (e1:(modX kk0 (6:Int))=v1) (e2:((v1 == (0:Int)))=v2) (e4:(modX kk2 (9:Int))=v4) (h3:v2=true) (R:Frm) (hR:R.pm=⟨ntOf Tryz.prog 18,[],[]⟩) (P0:Nat→Prop) (B:Nat) (hP:∀q,R.β0.D q→P0 q):Goes (KN w0) Tryz.prog R zbb (odd_F w0 e kk0 kk1 kk2 (c2.2 (Xp.mk v4 c2.1.n c2.1.l)) v3 c2 P0 B) qp .r (zbI e kk0 kk1 kk2 (c2.2 (Xp.mk v4 c2.1.n c2.1.l)) v3 c2) [.sl 4 (.o (.c (.p 2 0))),.bx 2 32 [.h 6,.h 7,.h 8]]:=by
 refine qE (Pr:=fun _=>True) (F1:=fun s:Nat×Nat×List Value=>FL [pI kk0,pI kk1,pI kk2,pHole B s.1 s.2.1 s.2.2 c2.2,pI ((s.2.1:Nat):Int),pI v1,pB v2,pI v4,pI ((s.2.1+0:Nat):Int)] [] [] [oN s.1 s.2.1 s.2.2 c2.1.op c2.1.n c2.1.l,oN s.1 s.2.1 s.2.2 v4 c2.1.n c2.1.l]) (fun a W hI=>thaw1 (hb:=900) (rs:=[.sl 3 (.o (.c (.p 1 0))),.sl 4 (.o (.c (.p 2 0))),.bx 1 23 [.h 3,.h 4,.h 5],.bx 2 32 [.k (.int .i64 0),.k (.int .i64 0),.k (.slice none 0 0)]]) (rs':=[.sl 3 (.o (.c (.p 1 0))),.sl 4 (.o (.c (.p 2 0))),.bx 1 23 [.h 0,.h 1,.h 2],.bx 2 32 [.k (.int .i64 0),.k (.int .i64 0),.k (.slice none 0 0)]]) (ns:=[0,1,2]) (s5:=5) (s6:=6) (r5:=13) (r6:=16) (k5:=3) (k6:=4) (no:=0) (by simp [qp]) (by simp [qp]) rfl rfl (fun _=>rfl) (fun _=>rfl) (fun _=>rfl) (by simp [qp]) (fun s=>(zipA.imp ⟨z_c l_p,z_c l_p,z_b ⟨l_h (pI kk0) rfl rfl,l_h (pI kk1) rfl rfl,l_h (pI kk2) rfl rfl,trivial⟩,z_b ⟨l_k,l_k,l_k,trivial⟩,trivial⟩)) (by kernel_rfl) (fun s n hn=>by simp only [List.mem_cons,List.not_mem_nil,or_false] at hn;rcases hn with rfl | rfl | rfl<;>exact ⟨_,rfl⟩) (by rw [hR]) (by kernel_rfl) hP hI) fun ⟨A0,off0,vs0⟩ _=>?_
 refine qL (st1:=[.hp [900] [] 1,.sl 5 (yh 3),.sl 3 (.o (.c (.p 1 0))),.sl 4 (.o (.c (.p 2 0))),.bx 1 23 [.h 0,.h 1,.h 2],.bx 2 32 [.k (.int .i64 0),.k (.int .i64 0),.k (.slice none 0 0)]]) (goes (x:=.n) (y:=.n) (Fb:=FL [pI kk0,pI kk1,pI kk2,pHole B A0 off0 vs0 c2.2,pI ((off0:Nat):Int),pI v1,pB v2,pI v4,pI ((off0+0:Nat):Int)] [] [] [oN A0 off0 vs0 c2.1.op c2.1.n c2.1.l,oN A0 off0 vs0 v4 c2.1.n c2.1.l]) (stb:=[.sl 5 (yh 3),.sl 6 (.o (.c (.pf 900 4))),.hp [900] [] 0,.sl 3 (.o (.c (.p 1 0))),.sl 4 (.o (.c (.p 2 0))),.bx 1 23 [.h 0,.h 1,.h 2],.bx 2 32 [.k (.int .i64 0),.k (.int .i64 0),.k (.slice none 0 0)]]) (tl:=[.hp [900] [] 1,.sl 5 (yh 3),.sl 3 (.o (.c (.p 1 0))),.sl 4 (.o (.c (.p 2 0))),.bx 1 23 [.h 0,.h 1,.h 2],.bx 2 32 [.k (.int .i64 0),.k (.int .i64 0),.k (.slice none 0 0)]]) (H:=.no) 2000 (C:=([(1002002,.call ⟨38,[yh 0,.o (.c (.k (.int .i64 6)))],[],yh 5,[]⟩),
  (1002003,.bin .eql 3 (yh 5) (LF (.k (.int .i64 0))) (yh 6)),
  (10006,.fb 6 true),
  (1002008,.call ⟨38,[yh 2,.o (.c (.k (.int .i64 9)))],[],yh 7,[]⟩),
  (1002009,.op (.nc) [LF (.pf 900 4)] [] (LF (.pf 900 4))),
  (1002010,.op (.fa 32 0) [LF (.pf 900 4)] [] (LF (.pf 900 8))),
  (1002011,.st 3 [900] (LF (.pf 900 8)) (yh 7) [.hp [900] [] 0] [.hp [900] [] 1])]:List (Nat×Ent))) (fun _ _ _ _ h=>h) (zg ⟨za,za,za,qy,za,za,za,za,za,trivial⟩ trivial trivial ⟨qn,qn,trivial⟩) ⟨zh (x_mod kk0 (6:Int) v1 e1),
  e_bin (zb rfl) zd (zb rfl) (r_cmp (congrArg some e2)),
  e_fbv h3,
  zh (x_mod kk2 (9:Int) v4 e4),
  e_ncF,
  e_faF (m:=0) (off:=off0) (d0:=0) (by kernel_rfl) (by kernel_rfl) rfl rfl,
  e_stN (i:=0) (by kernel_rfl) (by decide) rfl rfl rfl (.inl ⟨rfl,(zb rfl),rfl,rfl⟩),
  trivial⟩ mixed hR trivial (fun _ _ _ hs=>by cases hs) (by kernel_rfl) rfl (fun _ _ _ _ h=>h)) ?_
 refine qE (α:=Unit) (Pr:=fun _=>True) (F1:=fun _=>FL [pI kk0,pI kk1,pI kk2,pP (cE (c2.2 (Xp.mk v4 c2.1.n c2.1.l))),pI (c2.2 (Xp.mk v4 c2.1.n c2.1.l)).op,pI (c2.2 (Xp.mk v4 c2.1.n c2.1.l)).n,pLs cE ((c2.2 (Xp.mk v4 c2.1.n c2.1.l)).l)] []) (fun a W hI=>⟨(),trivial,zeI (F:=FL [pI kk0,pI kk1,pI kk2,pHole B A0 off0 vs0 c2.2,pI ((off0:Nat):Int),pI v1,pB v2,pI v4,pI ((off0+0:Nat):Int)] [] [] [oN A0 off0 vs0 c2.1.op c2.1.n c2.1.l,oN A0 off0 vs0 v4 c2.1.n c2.1.l]) (F2:=FL [pI kk0,pI kk1,pI kk2,pP (cE (c2.2 (Xp.mk v4 c2.1.n c2.1.l))),pI (c2.2 (Xp.mk v4 c2.1.n c2.1.l)).op,pI (c2.2 (Xp.mk v4 c2.1.n c2.1.l)).n,pLs cE ((c2.2 (Xp.mk v4 c2.1.n c2.1.l)).l)] []) (hb:=900) (rs:=[.sl 3 (.o (.c (.p 1 0))),.sl 4 (.o (.c (.p 2 0))),.bx 1 23 [.h 0,.h 1,.h 2],.bx 2 32 [.k (.int .i64 0),.k (.int .i64 0),.k (.slice none 0 0)]]) (rs':=[.sl 3 (.o (.c (.p 1 0))),.sl 4 (.o (.c (.p 2 0))),.bx 1 23 [.h 0,.h 1,.h 2],.bx 2 32 [.k (.int .i64 0),.k (.int .i64 0),.k (.slice none 0 0)]]) (s5:=5) (k5:=3) (r5:=3) (no:=1) (zg ⟨za,za,za,qy,za,za,za,za,za,trivial⟩ trivial trivial ⟨qn,qn,trivial⟩) (zg ⟨za,za,za,(zl ((zf rfl) _)),za,za,(ze (zf rfl)),trivial⟩) (by simp) (by simp) rfl rfl rfl (by simp) (zipA.imp ⟨z_c l_p,z_c l_p,z_b ⟨l_h (pI kk0) rfl rfl,l_h (pI kk1) rfl rfl,l_h (pI kk2) rfl rfl,trivial⟩,z_b ⟨l_k,l_k,l_k,trivial⟩,trivial⟩) (by rw [hR]) (by kernel_rfl) hI⟩) fun _ _=>?_
 exact goes (x:=.r) (y:=.r) (Fb:=FL [pI kk0,pI kk1,pI kk2,pP (cE (c2.2 (Xp.mk v4 c2.1.n c2.1.l))),pI (c2.2 (Xp.mk v4 c2.1.n c2.1.l)).op,pI (c2.2 (Xp.mk v4 c2.1.n c2.1.l)).n,pLs cE ((c2.2 (Xp.mk v4 c2.1.n c2.1.l)).l)] []) (stb:=[.sl 5 (yh 3),.sl 3 (.o (.c (.p 1 0))),.sl 4 (.o (.c (.p 2 0))),.bx 1 23 [.h 0,.h 1,.h 2],.bx 2 32 [.k (.int .i64 0),.k (.int .i64 0),.k (.slice none 0 0)]]) (tl:=[.sl 4 (.o (.c (.p 2 0))),.bx 2 32 [.h 4,.h 5,.h 6]]) (H:=.no) 5000 (C:=([(1005000,.op (.ld 32) [yh 3] [] (.o (.g [.h 4,.h 5,.h 6])))]:List (Nat×Ent))) (fun _ _ _ _ h=>h) (zg ⟨za,za,za,(zl ((zf rfl) _)),za,za,(ze (zf rfl)),trivial⟩) ⟨e_ldG (by kernel_rfl) (by kernel_rfl) (zc rfl) (cE_eq _).symm rfl (zj _),
  trivial⟩ mixed hR trivial (fun _ _ _ hs=>by cases hs) (by kernel_rfl) rfl (zipA.imp ⟨z_c l_p,z_b ⟨l_h (pI (c2.2 (Xp.mk v4 c2.1.n c2.1.l)).op) rfl rfl,l_h (pI (c2.2 (Xp.mk v4 c2.1.n c2.1.l)).n) rfl rfl,l_h (pLs cE ((c2.2 (Xp.mk v4 c2.1.n c2.1.l)).l)) rfl rfl,trivial⟩,trivial⟩)
theorem zmD {w0:World} (e:Xp) (kk0 kk1 kk2:Int) (v3:Int) (c2:Xp×(Xp→Xp)) (v1:Int) (v2:Bool) (v4:Bool) (v6:(List Int)) (v7:Int) (n8:Nat) (x9:Int) (e1:(modX kk0 (6:Int))=v1) (e2:((v1 == (0:Int)))=v2) (e4:((v1 == (1:Int)))=v4) (e6:(([kk2,(1:Int),(3:Int),(4:Int),(1048576:Int),(1048577:Int),(-1048576:Int),(-1048577:Int)]:List Int))=v6) (e7:(modX kk2 (8:Int))=v7) (h3:v2=false) (h5:v4=true) (s10:v7=(n8:Int)) (s11:v6[n8]?=some x9) (R:Frm) (hR:R.pm=⟨ntOf Tryz.prog 18,[],[]⟩) (P0:Nat→Prop) (B:Nat) (hP:∀q,R.β0.D q→P0 q):Goes (KN w0) Tryz.prog R zbb (odd_F w0 e kk0 kk1 kk2 (c2.2 (Xp.mk c2.1.op x9 c2.1.l)) v3 c2 P0 B) qp .r (zbI e kk0 kk1 kk2 (c2.2 (Xp.mk c2.1.op x9 c2.1.l)) v3 c2) [.sl 4 (.o (.c (.p 2 0))),.bx 2 32 [.h 6,.h 7,.h 8]]:=by
 refine qE (Pr:=fun _=>True) (F1:=fun s:Nat×Nat×List Value=>FL [pI kk0,pI kk1,pI kk2,pHole B s.1 s.2.1 s.2.2 c2.2,pI ((s.2.1:Nat):Int),pI v1,pB v2,pB v4,pLs cI v6,pI v7,pP (cI x9),pI x9,pI ((s.2.1+1:Nat):Int)] [] [] [oN s.1 s.2.1 s.2.2 c2.1.op c2.1.n c2.1.l,oN s.1 s.2.1 s.2.2 c2.1.op x9 c2.1.l]) (fun a W hI=>thaw1 (hb:=900) (rs:=[.sl 3 (.o (.c (.p 1 0))),.sl 4 (.o (.c (.p 2 0))),.bx 1 23 [.h 3,.h 4,.h 5],.bx 2 32 [.k (.int .i64 0),.k (.int .i64 0),.k (.slice none 0 0)]]) (rs':=[.sl 3 (.o (.c (.p 1 0))),.sl 4 (.o (.c (.p 2 0))),.bx 1 23 [.h 0,.h 1,.h 2],.bx 2 32 [.k (.int .i64 0),.k (.int .i64 0),.k (.slice none 0 0)]]) (ns:=[0,1,2]) (s5:=5) (s6:=6) (r5:=13) (r6:=16) (k5:=3) (k6:=4) (no:=0) (by simp [qp]) (by simp [qp]) rfl rfl (fun _=>rfl) (fun _=>rfl) (fun _=>rfl) (by simp [qp]) (fun s=>(zipA.imp ⟨z_c l_p,z_c l_p,z_b ⟨l_h (pI kk0) rfl rfl,l_h (pI kk1) rfl rfl,l_h (pI kk2) rfl rfl,trivial⟩,z_b ⟨l_k,l_k,l_k,trivial⟩,trivial⟩)) (by kernel_rfl) (fun s n hn=>by simp only [List.mem_cons,List.not_mem_nil,or_false] at hn;rcases hn with rfl | rfl | rfl<;>exact ⟨_,rfl⟩) (by rw [hR]) (by kernel_rfl) hP hI) fun ⟨A0,off0,vs0⟩ _=>?_
 refine qL (st1:=[.hp [900] [] 1,.sl 5 (yh 3),.sl 3 (.o (.c (.p 1 0))),.sl 4 (.o (.c (.p 2 0))),.bx 1 23 [.h 0,.h 1,.h 2],.bx 2 32 [.k (.int .i64 0),.k (.int .i64 0),.k (.slice none 0 0)]]) (goes (x:=.n) (y:=.n) (Fb:=FL [pI kk0,pI kk1,pI kk2,pHole B A0 off0 vs0 c2.2,pI ((off0:Nat):Int),pI v1,pB v2,pB v4,pLs cI v6,pI v7,pP (cI x9),pI x9,pI ((off0+1:Nat):Int)] [] [] [oN A0 off0 vs0 c2.1.op c2.1.n c2.1.l,oN A0 off0 vs0 c2.1.op x9 c2.1.l]) (stb:=[.sl 5 (yh 3),.sl 6 (.o (.c (.pf 900 4))),.hp [900] [] 0,.sl 3 (.o (.c (.p 1 0))),.sl 4 (.o (.c (.p 2 0))),.bx 1 23 [.h 0,.h 1,.h 2],.bx 2 32 [.k (.int .i64 0),.k (.int .i64 0),.k (.slice none 0 0)]]) (tl:=[.hp [900] [] 1,.sl 5 (yh 3),.sl 3 (.o (.c (.p 1 0))),.sl 4 (.o (.c (.p 2 0))),.bx 1 23 [.h 0,.h 1,.h 2],.bx 2 32 [.k (.int .i64 0),.k (.int .i64 0),.k (.slice none 0 0)]]) (H:=.no) 2000 (C:=([(1002002,.call ⟨38,[yh 0,.o (.c (.k (.int .i64 6)))],[],yh 5,[]⟩),
  (1002003,.bin .eql 3 (yh 5) (LF (.k (.int .i64 0))) (yh 6)),
  (10006,.fb 6 false),
  (1002005,.bin .eql 3 (yh 5) (LF (.k (.int .i64 1))) (yh 7)),
  (10007,.fb 7 true),
  (1002010,.dat 3 8 [.h 2,.k (.int .i64 1),.k (.int .i64 3),.k (.int .i64 4),.k (.int .i64 1048576),.k (.int .i64 1048577),.k (.int .i64 (-1048576)),.k (.int .i64 (-1048577))] 8),
  (1002013,.call ⟨38,[yh 2,.o (.c (.k (.int .i64 8)))],[],yh 9,[]⟩),
  (1002014,.op (.ia 22) [yh 8,yh 9] [] (yh 10)),
  (1002015,.op (.ld 3) [yh 10] [] (yh 11)),
  (1002016,.op (.nc) [LF (.pf 900 4)] [] (LF (.pf 900 4))),
  (1002017,.op (.fa 32 1) [LF (.pf 900 4)] [] (LF (.pf 900 12))),
  (1002018,.st 3 [900] (LF (.pf 900 12)) (yh 11) [.hp [900] [] 0] [.hp [900] [] 1])]:List (Nat×Ent))) (fun _ _ _ _ h=>h) (zg ⟨za,za,za,qy,za,za,za,za,(ze zt),za,(zl (zt _)),za,za,trivial⟩ trivial trivial ⟨qn,qn,trivial⟩) ⟨zh (x_mod kk0 (6:Int) v1 e1),
  e_bin (zb rfl) zd (zb rfl) (r_cmp (congrArg some e2)),
  e_fbv h3,
  e_bin (zb rfl) zd (zb rfl) (r_cmp (congrArg some e4)),
  e_fbv h5,
  e_dat (c:=cI) (ps:=(pI kk2::pV (.int .i64 1)::pV (.int .i64 3)::pV (.int .i64 4)::pV (.int .i64 1048576)::pV (.int .i64 1048577)::pV (.int .i64 (-1048576))::pV (.int .i64 (-1048577))::[])) (qs:=(pI kk2::pI (1:Int)::pI (3:Int)::pI (4:Int)::pI (1048576:Int)::pI (1048577:Int)::pI (-1048576:Int)::pI (-1048577:Int)::[])) (by rw [← e6];rfl) rfl rfl rfl (pimps (fun _ _ _ h=>h) <| pimps (fun _ _ _ h=>h) <| pimps (fun _ _ _ h=>h) <| pimps (fun _ _ _ h=>h) <| pimps (fun _ _ _ h=>h) <| pimps (fun _ _ _ h=>h) <| pimps (fun _ _ _ h=>h) <| pimps (fun _ _ _ h=>h) <| qo) rfl,
  zh (x_mod kk2 (8:Int) v7 e7),
  e_iaL (E:=3) (z:=1) (fun _=>rfl) (by kernel_rfl) (by kernel_rfl) (zc rfl) (zb rfl) s10 s11 (zc rfl),
  e_ldP (by kernel_rfl) (zc rfl) (zc rfl),
  e_ncF,
  e_faF (m:=0) (off:=off0) (d0:=1) (by kernel_rfl) (by kernel_rfl) rfl rfl,
  e_stN (i:=1) (by kernel_rfl) (by decide) rfl rfl rfl (.inr (.inl ⟨rfl,(zb rfl),rfl,rfl⟩)),
  trivial⟩ mixed hR trivial (fun _ _ _ hs=>by cases hs) (by kernel_rfl) rfl (fun _ _ _ _ h=>h)) ?_
 refine qE (α:=Unit) (Pr:=fun _=>True) (F1:=fun _=>FL [pI kk0,pI kk1,pI kk2,pP (cE (c2.2 (Xp.mk c2.1.op x9 c2.1.l))),pI (c2.2 (Xp.mk c2.1.op x9 c2.1.l)).op,pI (c2.2 (Xp.mk c2.1.op x9 c2.1.l)).n,pLs cE ((c2.2 (Xp.mk c2.1.op x9 c2.1.l)).l)] []) (fun a W hI=>⟨(),trivial,zeI (F:=FL [pI kk0,pI kk1,pI kk2,pHole B A0 off0 vs0 c2.2,pI ((off0:Nat):Int),pI v1,pB v2,pB v4,pLs cI v6,pI v7,pP (cI x9),pI x9,pI ((off0+1:Nat):Int)] [] [] [oN A0 off0 vs0 c2.1.op c2.1.n c2.1.l,oN A0 off0 vs0 c2.1.op x9 c2.1.l]) (F2:=FL [pI kk0,pI kk1,pI kk2,pP (cE (c2.2 (Xp.mk c2.1.op x9 c2.1.l))),pI (c2.2 (Xp.mk c2.1.op x9 c2.1.l)).op,pI (c2.2 (Xp.mk c2.1.op x9 c2.1.l)).n,pLs cE ((c2.2 (Xp.mk c2.1.op x9 c2.1.l)).l)] []) (hb:=900) (rs:=[.sl 3 (.o (.c (.p 1 0))),.sl 4 (.o (.c (.p 2 0))),.bx 1 23 [.h 0,.h 1,.h 2],.bx 2 32 [.k (.int .i64 0),.k (.int .i64 0),.k (.slice none 0 0)]]) (rs':=[.sl 3 (.o (.c (.p 1 0))),.sl 4 (.o (.c (.p 2 0))),.bx 1 23 [.h 0,.h 1,.h 2],.bx 2 32 [.k (.int .i64 0),.k (.int .i64 0),.k (.slice none 0 0)]]) (s5:=5) (k5:=3) (r5:=3) (no:=1) (zg ⟨za,za,za,qy,za,za,za,za,(ze zt),za,(zl (zt _)),za,za,trivial⟩ trivial trivial ⟨qn,qn,trivial⟩) (zg ⟨za,za,za,(zl ((zf rfl) _)),za,za,(ze (zf rfl)),trivial⟩) (by simp) (by simp) rfl rfl rfl (by simp) (zipA.imp ⟨z_c l_p,z_c l_p,z_b ⟨l_h (pI kk0) rfl rfl,l_h (pI kk1) rfl rfl,l_h (pI kk2) rfl rfl,trivial⟩,z_b ⟨l_k,l_k,l_k,trivial⟩,trivial⟩) (by rw [hR]) (by kernel_rfl) hI⟩) fun _ _=>?_
 exact goes (x:=.r) (y:=.r) (Fb:=FL [pI kk0,pI kk1,pI kk2,pP (cE (c2.2 (Xp.mk c2.1.op x9 c2.1.l))),pI (c2.2 (Xp.mk c2.1.op x9 c2.1.l)).op,pI (c2.2 (Xp.mk c2.1.op x9 c2.1.l)).n,pLs cE ((c2.2 (Xp.mk c2.1.op x9 c2.1.l)).l)] []) (stb:=[.sl 5 (yh 3),.sl 3 (.o (.c (.p 1 0))),.sl 4 (.o (.c (.p 2 0))),.bx 1 23 [.h 0,.h 1,.h 2],.bx 2 32 [.k (.int .i64 0),.k (.int .i64 0),.k (.slice none 0 0)]]) (tl:=[.sl 4 (.o (.c (.p 2 0))),.bx 2 32 [.h 4,.h 5,.h 6]]) (H:=.no) 5000 (C:=([(1005000,.op (.ld 32) [yh 3] [] (.o (.g [.h 4,.h 5,.h 6])))]:List (Nat×Ent))) (fun _ _ _ _ h=>h) (zg ⟨za,za,za,(zl ((zf rfl) _)),za,za,(ze (zf rfl)),trivial⟩) ⟨e_ldG (by kernel_rfl) (by kernel_rfl) (zc rfl) (cE_eq _).symm rfl (zj _),
  trivial⟩ mixed hR trivial (fun _ _ _ hs=>by cases hs) (by kernel_rfl) rfl (zipA.imp ⟨z_c l_p,z_b ⟨l_h (pI (c2.2 (Xp.mk c2.1.op x9 c2.1.l)).op) rfl rfl,l_h (pI (c2.2 (Xp.mk c2.1.op x9 c2.1.l)).n) rfl rfl,l_h (pLs cE ((c2.2 (Xp.mk c2.1.op x9 c2.1.l)).l)) rfl rfl,trivial⟩,trivial⟩)
theorem zmE {w0:World} (e:Xp) (kk0 kk1 kk2:Int) (v3:Int) (c2:Xp×(Xp→Xp)) (v1:Int) (v2:Bool) (v4:Bool) (v6:Bool) (v8:Int) (e1:(modX kk0 (6:Int))=v1) (e2:((v1 == (0:Int)))=v2) (e4:((v1 == (1:Int)))=v4) (e6:((v1 == (2:Int)))=v6) (e8:((c2.1.l.length:Int))=v8) (h3:v2=false) (h5:v4=false) (h7:v6=true) (s9:c2.1.l.length≤1000000) (R:Frm) (hR:R.pm=⟨ntOf Tryz.prog 18,[],[]⟩) (P0:Nat→Prop) (B:Nat) (hP:∀q,R.β0.D q→P0 q):Goes (KN w0) Tryz.prog R zbb (odd_F w0 e kk0 kk1 kk2 (c2.2 (Xp.mk c2.1.op c2.1.n (c2.1.l++[Xp.mk 1 0 []]))) v3 c2 P0 B) qp .r (zbI e kk0 kk1 kk2 (c2.2 (Xp.mk c2.1.op c2.1.n (c2.1.l++[Xp.mk 1 0 []]))) v3 c2) [.sl 4 (.o (.c (.p 2 0))),.bx 2 32 [.h 6,.h 7,.h 8]]:=by
 refine qE (Pr:=fun _=>True) (F1:=fun s:Nat×Nat×List Value=>FL [pI kk0,pI kk1,pI kk2,pHole B s.1 s.2.1 s.2.2 c2.2,pI ((s.2.1:Nat):Int),pI v1,pB v2,pB v4,pB v6,pI ((s.2.1+2:Nat):Int),pI v8,pI ((c2.1.l.length*3:Nat):Int)] [] [] [oA s.1 s.2.1 s.2.2 c2.1.op c2.1.n true,oL w0 c2.1.l,oL w0 (c2.1.l++[Xp.mk 0 0 []]),oA s.1 s.2.1 s.2.2 c2.1.op c2.1.n false,oL w0 (c2.1.l++[Xp.mk 1 0 []]),oA s.1 s.2.1 s.2.2 c2.1.op c2.1.n true]) (fun a W hI=>thaw2 (ha:=900) (hb:=902) (by decide) (rs:=[.sl 3 (.o (.c (.p 1 0))),.sl 4 (.o (.c (.p 2 0))),.bx 1 23 [.h 3,.h 4,.h 5],.bx 2 32 [.k (.int .i64 0),.k (.int .i64 0),.k (.slice none 0 0)]]) (rs':=[.sl 3 (.o (.c (.p 1 0))),.sl 4 (.o (.c (.p 2 0))),.bx 1 23 [.h 0,.h 1,.h 2],.bx 2 32 [.k (.int .i64 0),.k (.int .i64 0),.k (.slice none 0 0)]]) (ns:=[0,1,2]) (s5:=5) (s6:=6) (r5:=13) (r6:=16) (k5:=3) (k6:=4) (no:=0) (nl:=1) (by simp [qp]) (by simp [qp]) rfl rfl (fun _=>rfl) (fun _=>rfl) (fun _=>rfl) (fun _=>rfl) (by simp [qp]) (fun s=>(zipA.imp ⟨z_c l_p,z_c l_p,z_b ⟨l_h (pI kk0) rfl rfl,l_h (pI kk1) rfl rfl,l_h (pI kk2) rfl rfl,trivial⟩,z_b ⟨l_k,l_k,l_k,trivial⟩,trivial⟩)) (by kernel_rfl) (fun s n hn=>by simp only [List.mem_cons,List.not_mem_nil,or_false] at hn;rcases hn with rfl | rfl | rfl<;>exact ⟨_,rfl⟩) (by rw [hR]) (by kernel_rfl) hP hI) fun ⟨A0,off0,vs0⟩ _=>?_
 refine qL (st1:=[.hp [900] [902] 5,.hp [902] [] 4,.sl 5 (yh 3),.sl 3 (.o (.c (.p 1 0))),.sl 4 (.o (.c (.p 2 0))),.bx 1 23 [.h 0,.h 1,.h 2],.bx 2 32 [.k (.int .i64 0),.k (.int .i64 0),.k (.slice none 0 0)]]) (goes (x:=.n) (y:=.n) (Fb:=FL [pI kk0,pI kk1,pI kk2,pHole B A0 off0 vs0 c2.2,pI ((off0:Nat):Int),pI v1,pB v2,pB v4,pB v6,pI ((off0+2:Nat):Int),pI v8,pI ((c2.1.l.length*3:Nat):Int)] [] [] [oA A0 off0 vs0 c2.1.op c2.1.n true,oL w0 c2.1.l,oL w0 (c2.1.l++[Xp.mk 0 0 []]),oA A0 off0 vs0 c2.1.op c2.1.n false,oL w0 (c2.1.l++[Xp.mk 1 0 []]),oA A0 off0 vs0 c2.1.op c2.1.n true]) (stb:=[.sl 5 (yh 3),.sl 6 (.o (.c (.pf 900 4))),.hp [900] [902] 0,.hp [902] [] 1,.sl 3 (.o (.c (.p 1 0))),.sl 4 (.o (.c (.p 2 0))),.bx 1 23 [.h 0,.h 1,.h 2],.bx 2 32 [.k (.int .i64 0),.k (.int .i64 0),.k (.slice none 0 0)]]) (tl:=[.hp [900] [902] 5,.hp [902] [] 4,.sl 5 (yh 3),.sl 3 (.o (.c (.p 1 0))),.sl 4 (.o (.c (.p 2 0))),.bx 1 23 [.h 0,.h 1,.h 2],.bx 2 32 [.k (.int .i64 0),.k (.int .i64 0),.k (.slice none 0 0)]]) (H:=.no) 2000 (C:=([(1002002,.call ⟨38,[yh 0,.o (.c (.k (.int .i64 6)))],[],yh 5,[]⟩),
  (1002003,.bin .eql 3 (yh 5) (LF (.k (.int .i64 0))) (yh 6)),
  (10006,.fb 6 false),
  (1002005,.bin .eql 3 (yh 5) (LF (.k (.int .i64 1))) (yh 7)),
  (10007,.fb 7 false),
  (1002007,.bin .eql 3 (yh 5) (LF (.k (.int .i64 2))) (yh 8)),
  (10008,.fb 8 true),
  (1002010,.op (.nc) [LF (.pf 900 4)] [] (LF (.pf 900 4))),
  (1002011,.op (.fa 32 2) [LF (.pf 900 4)] [] (LF (.pf 900 9))),
  (1002012,.op (.ld 29) [LF (.pf 900 9)] [.hp [900] [902] 0] (LF (.gr 902))),
  (1002014,.op (.len [29] 3) [LF (.gr 902)] [.hp [902] [] 1] (yh 10)),
  (1002016,.ap 29 [902] (LF (.gr 902)) (.o (.c (.s 2015 0 1 1))) (LF (.gr 902)) [.hp [902] [] 1,.hp [900] [902] 0,.bx 2015 32 [.k (.int .i64 0),.k (.int .i64 0),.k (.slice none 0 0)]] [.hp [902] [] 2,.hp [900] [] 3]),
  (1002017,.op (.ia 29) [LF (.gr 902),yh 10] [.hp [902] [] 2] (LF (.pf 902 11))),
  (1002018,.st 32 [902] (LF (.pf 902 11)) (.o (.g [.k (.int .i64 1),.k (.int .i64 0),.k (.slice none 0 0)])) [.hp [902] [] 2] [.hp [902] [] 4]),
  (1002019,.op (.nc) [LF (.pf 900 4)] [] (LF (.pf 900 4))),
  (1002020,.op (.fa 32 2) [LF (.pf 900 4)] [] (LF (.pf 900 9))),
  (1002021,.st 29 [900] (LF (.pf 900 9)) (LF (.gr 902)) [.hp [900] [] 3] [.hp [900] [902] 5])]:List (Nat×Ent))) (fun _ _ _ _ h=>h) (zg ⟨za,za,za,qy,za,za,za,za,za,za,za,za,trivial⟩ trivial trivial ⟨zco,zcp,zcp,zco,zcp,zco,trivial⟩) ⟨zh (x_mod kk0 (6:Int) v1 e1),
  e_bin (zb rfl) zd (zb rfl) (r_cmp (congrArg some e2)),
  e_fbv h3,
  e_bin (zb rfl) zd (zb rfl) (r_cmp (congrArg some e4)),
  e_fbv h5,
  e_bin (zb rfl) zd (zb rfl) (r_cmp (congrArg some e6)),
  e_fbv h7,
  e_ncF,
  e_faF (m:=0) (off:=off0) (d0:=2) (by kernel_rfl) (by kernel_rfl) rfl rfl,
  e_ldM (by kernel_rfl) rfl rfl,
  zoV (E:=32) (by kernel_rfl) rfl (zb (by rw [← e8];rfl)),
  e_apM (kb:=40) (zs:=[.int .i64 0,.int .i64 0,.slice none 0 0]) (by decide) (by kernel_rfl) (by kernel_rfl) (by kernel_rfl) (by kernel_rfl) (by decide) rfl rfl s9 rfl rfl rfl rfl,
  e_iaM (j:=c2.1.l.length) (by kernel_rfl) (by kernel_rfl) rfl (zb (by rw [← e8];rfl)) (by simp) rfl,
  e_stE (by kernel_rfl) rfl rfl rfl,
  e_ncF,
  e_faF (m:=0) (off:=off0) (d0:=2) (by kernel_rfl) (by kernel_rfl) rfl rfl,
  e_stM (by kernel_rfl) rfl rfl rfl,
  trivial⟩ mixed hR trivial (fun _ _ _ hs=>by cases hs) (by kernel_rfl) rfl (fun _ _ _ _ h=>h)) ?_
 refine qE (α:=Unit) (Pr:=fun _=>True) (F1:=fun _=>FL [pI kk0,pI kk1,pI kk2,pP (cE (c2.2 (Xp.mk c2.1.op c2.1.n (c2.1.l++[Xp.mk 1 0 []])))),pI (c2.2 (Xp.mk c2.1.op c2.1.n (c2.1.l++[Xp.mk 1 0 []]))).op,pI (c2.2 (Xp.mk c2.1.op c2.1.n (c2.1.l++[Xp.mk 1 0 []]))).n,pLs cE ((c2.2 (Xp.mk c2.1.op c2.1.n (c2.1.l++[Xp.mk 1 0 []]))).l)] []) (fun a W hI=>⟨(),trivial,znD (F:=FL [pI kk0,pI kk1,pI kk2,pHole B A0 off0 vs0 c2.2,pI ((off0:Nat):Int),pI v1,pB v2,pB v4,pB v6,pI ((off0+2:Nat):Int),pI v8,pI ((c2.1.l.length*3:Nat):Int)] [] [] [oA A0 off0 vs0 c2.1.op c2.1.n true,oL w0 c2.1.l,oL w0 (c2.1.l++[Xp.mk 0 0 []]),oA A0 off0 vs0 c2.1.op c2.1.n false,oL w0 (c2.1.l++[Xp.mk 1 0 []]),oA A0 off0 vs0 c2.1.op c2.1.n true]) (F2:=FL [pI kk0,pI kk1,pI kk2,pP (cE (c2.2 (Xp.mk c2.1.op c2.1.n (c2.1.l++[Xp.mk 1 0 []])))),pI (c2.2 (Xp.mk c2.1.op c2.1.n (c2.1.l++[Xp.mk 1 0 []]))).op,pI (c2.2 (Xp.mk c2.1.op c2.1.n (c2.1.l++[Xp.mk 1 0 []]))).n,pLs cE ((c2.2 (Xp.mk c2.1.op c2.1.n (c2.1.l++[Xp.mk 1 0 []]))).l)] []) (ha:=900) (hb:=902) (rs:=[.sl 3 (.o (.c (.p 1 0))),.sl 4 (.o (.c (.p 2 0))),.bx 1 23 [.h 0,.h 1,.h 2],.bx 2 32 [.k (.int .i64 0),.k (.int .i64 0),.k (.slice none 0 0)]]) (rs':=[.sl 3 (.o (.c (.p 1 0))),.sl 4 (.o (.c (.p 2 0))),.bx 1 23 [.h 0,.h 1,.h 2],.bx 2 32 [.k (.int .i64 0),.k (.int .i64 0),.k (.slice none 0 0)]]) (s5:=5) (k5:=3) (r5:=3) (no:=5) (nl:=4) (zg ⟨za,za,za,qy,za,za,za,za,za,za,za,za,trivial⟩ trivial trivial ⟨zco,zcp,zcp,zco,zcp,zco,trivial⟩) (zg ⟨za,za,za,(zl ((zf rfl) _)),za,za,(ze (zf rfl)),trivial⟩) (by simp) (by simp) (by simp) rfl rfl rfl rfl (by simp) (zipA.imp ⟨z_c l_p,z_c l_p,z_b ⟨l_h (pI kk0) rfl rfl,l_h (pI kk1) rfl rfl,l_h (pI kk2) rfl rfl,trivial⟩,z_b ⟨l_k,l_k,l_k,trivial⟩,trivial⟩) (by rw [hR]) (by kernel_rfl) hI⟩) fun _ _=>?_
 exact goes (x:=.r) (y:=.r) (Fb:=FL [pI kk0,pI kk1,pI kk2,pP (cE (c2.2 (Xp.mk c2.1.op c2.1.n (c2.1.l++[Xp.mk 1 0 []])))),pI (c2.2 (Xp.mk c2.1.op c2.1.n (c2.1.l++[Xp.mk 1 0 []]))).op,pI (c2.2 (Xp.mk c2.1.op c2.1.n (c2.1.l++[Xp.mk 1 0 []]))).n,pLs cE ((c2.2 (Xp.mk c2.1.op c2.1.n (c2.1.l++[Xp.mk 1 0 []]))).l)] []) (stb:=[.sl 5 (yh 3),.sl 3 (.o (.c (.p 1 0))),.sl 4 (.o (.c (.p 2 0))),.bx 1 23 [.h 0,.h 1,.h 2],.bx 2 32 [.k (.int .i64 0),.k (.int .i64 0),.k (.slice none 0 0)]]) (tl:=[.sl 4 (.o (.c (.p 2 0))),.bx 2 32 [.h 4,.h 5,.h 6]]) (H:=.no) 5000 (C:=([(1005000,.op (.ld 32) [yh 3] [] (.o (.g [.h 4,.h 5,.h 6])))]:List (Nat×Ent))) (fun _ _ _ _ h=>h) (zg ⟨za,za,za,(zl ((zf rfl) _)),za,za,(ze (zf rfl)),trivial⟩) ⟨e_ldG (by kernel_rfl) (by kernel_rfl) (zc rfl) (cE_eq _).symm rfl (zj _),
  trivial⟩ mixed hR trivial (fun _ _ _ hs=>by cases hs) (by kernel_rfl) rfl (zipA.imp ⟨z_c l_p,z_b ⟨l_h (pI (c2.2 (Xp.mk c2.1.op c2.1.n (c2.1.l++[Xp.mk 1 0 []]))).op) rfl rfl,l_h (pI (c2.2 (Xp.mk c2.1.op c2.1.n (c2.1.l++[Xp.mk 1 0 []]))).n) rfl rfl,l_h (pLs cE ((c2.2 (Xp.mk c2.1.op c2.1.n (c2.1.l++[Xp.mk 1 0 []]))).l)) rfl rfl,trivial⟩,trivial⟩)
theorem zmF {w0:World} (e:Xp) (kk0 kk1 kk2:Int) (v3:Int) (c2:Xp×(Xp→Xp)) (v1:Int) (v2:Bool) (v4:Bool) (v6:Bool) (v8:Bool) (v10:Int) (v11:Int) (n12:Nat) (v14:(List Xp)) (e1:(modX kk0 (6:Int))=v1) (e2:((v1 == (0:Int)))=v2) (e4:((v1 == (1:Int)))=v4) (e6:((v1 == (2:Int)))=v6) (e8:((v1 == (3:Int)))=v8) (e10:((c2.1.l.length:Int))=v10) (e11:(IntKind.i64.wrap ((v10:Int).tdiv (2:Int)))=v11) (e14:(c2.1.l.take n12)=v14) (h3:v2=false) (h5:v4=false) (h7:v6=false) (h9:v8=true) (s13:v11=(n12:Int)) (s15:n12≤c2.1.l.length) (R:Frm) (hR:R.pm=⟨ntOf Tryz.prog 18,[],[]⟩) (P0:Nat→Prop) (B:Nat) (hP:∀q,R.β0.D q→P0 q):Goes (KN w0) Tryz.prog R zbb (odd_F w0 e kk0 kk1 kk2 (c2.2 (Xp.mk c2.1.op c2.1.n v14)) v3 c2 P0 B) qp .r (zbI e kk0 kk1 kk2 (c2.2 (Xp.mk c2.1.op c2.1.n v14)) v3 c2) [.sl 4 (.o (.c (.p 2 0))),.bx 2 32 [.h 6,.h 7,.h 8]]:=by
 refine qE (Pr:=fun _=>True) (F1:=fun s:Nat×Nat×List Value=>FL [pI kk0,pI kk1,pI kk2,pHole B s.1 s.2.1 s.2.2 c2.2,pI ((s.2.1:Nat):Int),pI v1,pB v2,pB v4,pB v6,pB v8,pI ((s.2.1+2:Nat):Int),pLs cE c2.1.l,pLs cE c2.1.l,pI v10,pI v11,pLs cE v14] [] [] [oN s.1 s.2.1 s.2.2 c2.1.op c2.1.n c2.1.l,oN s.1 s.2.1 s.2.2 c2.1.op c2.1.n v14]) (fun a W hI=>thaw1 (hb:=900) (rs:=[.sl 3 (.o (.c (.p 1 0))),.sl 4 (.o (.c (.p 2 0))),.bx 1 23 [.h 3,.h 4,.h 5],.bx 2 32 [.k (.int .i64 0),.k (.int .i64 0),.k (.slice none 0 0)]]) (rs':=[.sl 3 (.o (.c (.p 1 0))),.sl 4 (.o (.c (.p 2 0))),.bx 1 23 [.h 0,.h 1,.h 2],.bx 2 32 [.k (.int .i64 0),.k (.int .i64 0),.k (.slice none 0 0)]]) (ns:=[0,1,2]) (s5:=5) (s6:=6) (r5:=13) (r6:=16) (k5:=3) (k6:=4) (no:=0) (by simp [qp]) (by simp [qp]) rfl rfl (fun _=>rfl) (fun _=>rfl) (fun _=>rfl) (by simp [qp]) (fun s=>(zipA.imp ⟨z_c l_p,z_c l_p,z_b ⟨l_h (pI kk0) rfl rfl,l_h (pI kk1) rfl rfl,l_h (pI kk2) rfl rfl,trivial⟩,z_b ⟨l_k,l_k,l_k,trivial⟩,trivial⟩)) (by kernel_rfl) (fun s n hn=>by simp only [List.mem_cons,List.not_mem_nil,or_false] at hn;rcases hn with rfl | rfl | rfl<;>exact ⟨_,rfl⟩) (by rw [hR]) (by kernel_rfl) hP hI) fun ⟨A0,off0,vs0⟩ _=>?_
 refine qL (st1:=[.hp [900] [] 1,.sl 5 (yh 3),.sl 3 (.o (.c (.p 1 0))),.sl 4 (.o (.c (.p 2 0))),.bx 1 23 [.h 0,.h 1,.h 2],.bx 2 32 [.k (.int .i64 0),.k (.int .i64 0),.k (.slice none 0 0)]]) (goes (x:=.n) (y:=.n) (Fb:=FL [pI kk0,pI kk1,pI kk2,pHole B A0 off0 vs0 c2.2,pI ((off0:Nat):Int),pI v1,pB v2,pB v4,pB v6,pB v8,pI ((off0+2:Nat):Int),pLs cE c2.1.l,pLs cE c2.1.l,pI v10,pI v11,pLs cE v14] [] [] [oN A0 off0 vs0 c2.1.op c2.1.n c2.1.l,oN A0 off0 vs0 c2.1.op c2.1.n v14]) (stb:=[.sl 5 (yh 3),.sl 6 (.o (.c (.pf 900 4))),.hp [900] [] 0,.sl 3 (.o (.c (.p 1 0))),.sl 4 (.o (.c (.p 2 0))),.bx 1 23 [.h 0,.h 1,.h 2],.bx 2 32 [.k (.int .i64 0),.k (.int .i64 0),.k (.slice none 0 0)]]) (tl:=[.hp [900] [] 1,.sl 5 (yh 3),.sl 3 (.o (.c (.p 1 0))),.sl 4 (.o (.c (.p 2 0))),.bx 1 23 [.h 0,.h 1,.h 2],.bx 2 32 [.k (.int .i64 0),.k (.int .i64 0),.k (.slice none 0 0)]]) (H:=.no) 2000 (C:=([(1002002,.call ⟨38,[yh 0,.o (.c (.k (.int .i64 6)))],[],yh 5,[]⟩),
  (1002003,.bin .eql 3 (yh 5) (LF (.k (.int .i64 0))) (yh 6)),
  (10006,.fb 6 false),
  (1002005,.bin .eql 3 (yh 5) (LF (.k (.int .i64 1))) (yh 7)),
  (10007,.fb 7 false),
  (1002007,.bin .eql 3 (yh 5) (LF (.k (.int .i64 2))) (yh 8)),
  (10008,.fb 8 false),
  (1002009,.bin .eql 3 (yh 5) (LF (.k (.int .i64 3))) (yh 9)),
  (10009,.fb 9 true),
  (1002013,.op (.nc) [LF (.pf 900 4)] [] (LF (.pf 900 4))),
  (1002014,.op (.fa 32 2) [LF (.pf 900 4)] [] (LF (.pf 900 10))),
  (1002015,.op (.ld 29) [LF (.pf 900 10)] [.hp [900] [] 0] (yh 11)),
  (1002017,.op (.nc) [LF (.pf 900 4)] [] (LF (.pf 900 4))),
  (1002018,.op (.fa 32 2) [LF (.pf 900 4)] [] (LF (.pf 900 10))),
  (1002019,.op (.ld 29) [LF (.pf 900 10)] [.hp [900] [] 0] (yh 12)),
  (1002020,.op (.len [29] 3) [yh 12] [] (yh 13)),
  (1002021,.bin .quo 3 (yh 13) (LF (.k (.int .i64 2))) (yh 14)),
  (1002022,.op (.sc 29 false true false) [yh 11,yh 14] [] (yh 15)),
  (1002023,.op (.nc) [LF (.pf 900 4)] [] (LF (.pf 900 4))),
  (1002024,.op (.fa 32 2) [LF (.pf 900 4)] [] (LF (.pf 900 10))),
  (1002025,.st 29 [900] (LF (.pf 900 10)) (yh 15) [.hp [900] [] 0] [.hp [900] [] 1])]:List (Nat×Ent))) (fun _ _ _ _ h=>h) (zg ⟨za,za,za,qy,za,za,za,za,za,za,za,(ze (zf rfl)),(ze (zf rfl)),za,za,(ze (zf rfl)),trivial⟩ trivial trivial ⟨qn,qn,trivial⟩) ⟨zh (x_mod kk0 (6:Int) v1 e1),
  e_bin (zb rfl) zd (zb rfl) (r_cmp (congrArg some e2)),
  e_fbv h3,
  e_bin (zb rfl) zd (zb rfl) (r_cmp (congrArg some e4)),
  e_fbv h5,
  e_bin (zb rfl) zd (zb rfl) (r_cmp (congrArg some e6)),
  e_fbv h7,
  e_bin (zb rfl) zd (zb rfl) (r_cmp (congrArg some e8)),
  e_fbv h9,
  e_ncF,
  e_faF (m:=0) (off:=off0) (d0:=2) (by kernel_rfl) (by kernel_rfl) rfl rfl,
  e_ldN (by kernel_rfl) rfl rfl rfl,
  e_ncF,
  e_faF (m:=0) (off:=off0) (d0:=2) (by kernel_rfl) (by kernel_rfl) rfl rfl,
  e_ldN (by kernel_rfl) rfl rfl rfl,
  zF (E:=32) (by kernel_rfl) (zc rfl) (zb (by rw [← e10];rfl)),
  e_bin (zb rfl) zd (zb rfl) (r_ar ((zji (by decide)).trans (congrArg some e11))),
  znC (E:=32) (z:=3) zj (by kernel_rfl) (by kernel_rfl) (zc rfl) (zb rfl) s13 s15 (zc (by rw [e14];rfl)),
  e_ncF,
  e_faF (m:=0) (off:=off0) (d0:=2) (by kernel_rfl) (by kernel_rfl) rfl rfl,
  e_stN (i:=2) (by kernel_rfl) (by decide) rfl rfl rfl (.inr (.inr ⟨rfl,zc rfl,rfl,rfl⟩)),
  trivial⟩ mixed hR trivial (fun _ _ _ hs=>by cases hs) (by kernel_rfl) rfl (fun _ _ _ _ h=>h)) ?_
 refine qE (α:=Unit) (Pr:=fun _=>True) (F1:=fun _=>FL [pI kk0,pI kk1,pI kk2,pP (cE (c2.2 (Xp.mk c2.1.op c2.1.n v14))),pI (c2.2 (Xp.mk c2.1.op c2.1.n v14)).op,pI (c2.2 (Xp.mk c2.1.op c2.1.n v14)).n,pLs cE ((c2.2 (Xp.mk c2.1.op c2.1.n v14)).l)] []) (fun a W hI=>⟨(),trivial,zeI (F:=FL [pI kk0,pI kk1,pI kk2,pHole B A0 off0 vs0 c2.2,pI ((off0:Nat):Int),pI v1,pB v2,pB v4,pB v6,pB v8,pI ((off0+2:Nat):Int),pLs cE c2.1.l,pLs cE c2.1.l,pI v10,pI v11,pLs cE v14] [] [] [oN A0 off0 vs0 c2.1.op c2.1.n c2.1.l,oN A0 off0 vs0 c2.1.op c2.1.n v14]) (F2:=FL [pI kk0,pI kk1,pI kk2,pP (cE (c2.2 (Xp.mk c2.1.op c2.1.n v14))),pI (c2.2 (Xp.mk c2.1.op c2.1.n v14)).op,pI (c2.2 (Xp.mk c2.1.op c2.1.n v14)).n,pLs cE ((c2.2 (Xp.mk c2.1.op c2.1.n v14)).l)] []) (hb:=900) (rs:=[.sl 3 (.o (.c (.p 1 0))),.sl 4 (.o (.c (.p 2 0))),.bx 1 23 [.h 0,.h 1,.h 2],.bx 2 32 [.k (.int .i64 0),.k (.int .i64 0),.k (.slice none 0 0)]]) (rs':=[.sl 3 (.o (.c (.p 1 0))),.sl 4 (.o (.c (.p 2 0))),.bx 1 23 [.h 0,.h 1,.h 2],.bx 2 32 [.k (.int .i64 0),.k (.int .i64 0),.k (.slice none 0 0)]]) (s5:=5) (k5:=3) (r5:=3) (no:=1) (zg ⟨za,za,za,qy,za,za,za,za,za,za,za,(ze (zf rfl)),(ze (zf rfl)),za,za,(ze (zf rfl)),trivial⟩ trivial trivial ⟨qn,qn,trivial⟩) (zg ⟨za,za,za,(zl ((zf rfl) _)),za,za,(ze (zf rfl)),trivial⟩) (by simp) (by simp) rfl rfl rfl (by simp) (zipA.imp ⟨z_c l_p,z_c l_p,z_b ⟨l_h (pI kk0) rfl rfl,l_h (pI kk1) rfl rfl,l_h (pI kk2) rfl rfl,trivial⟩,z_b ⟨l_k,l_k,l_k,trivial⟩,trivial⟩) (by rw [hR]) (by kernel_rfl) hI⟩) fun _ _=>?_
 exact goes (x:=.r) (y:=.r) (Fb:=FL [pI kk0,pI kk1,pI kk2,pP (cE (c2.2 (Xp.mk c2.1.op c2.1.n v14))),pI (c2.2 (Xp.mk c2.1.op c2.1.n v14)).op,pI (c2.2 (Xp.mk c2.1.op c2.1.n v14)).n,pLs cE ((c2.2 (Xp.mk c2.1.op c2.1.n v14)).l)] []) (stb:=[.sl 5 (yh 3),.sl 3 (.o (.c (.p 1 0))),.sl 4 (.o (.c (.p 2 0))),.bx 1 23 [.h 0,.h 1,.h 2],.bx 2 32 [.k (.int .i64 0),.k (.int .i64 0),.k (.slice none 0 0)]]) (tl:=[.sl 4 (.o (.c (.p 2 0))),.bx 2 32 [.h 4,.h 5,.h 6]]) (H:=.no) 5000 (C:=([(1005000,.op (.ld 32) [yh 3] [] (.o (.g [.h 4,.h 5,.h 6])))]:List (Nat×Ent))) (fun _ _ _ _ h=>h) (zg ⟨za,za,za,(zl ((zf rfl) _)),za,za,(ze (zf rfl)),trivial⟩) ⟨e_ldG (by kernel_rfl) (by kernel_rfl) (zc rfl) (cE_eq _).symm rfl (zj _),
  trivial⟩ mixed hR trivial (fun _ _ _ hs=>by cases hs) (by kernel_rfl) rfl (zipA.imp ⟨z_c l_p,z_b ⟨l_h (pI (c2.2 (Xp.mk c2.1.op c2.1.n v14)).op) rfl rfl,l_h (pI (c2.2 (Xp.mk c2.1.op c2.1.n v14)).n) rfl rfl,l_h (pLs cE ((c2.2 (Xp.mk c2.1.op c2.1.n v14)).l)) rfl rfl,trivial⟩,trivial⟩)
theorem zmG {w0:World} (e:Xp) (kk0 kk1 kk2:Int) (v3:Int) (c2:Xp×(Xp→Xp)) (v1:Int) (v2:Bool) (v4:Bool) (v6:Bool) (v8:Bool) (v10:Bool) (v12:(List Xp)) (e1:(modX kk0 (6:Int))=v1) (e2:((v1 == (0:Int)))=v2) (e4:((v1 == (1:Int)))=v4) (e6:((v1 == (2:Int)))=v6) (e8:((v1 == (3:Int)))=v8) (e10:((v1 == (4:Int)))=v10) (e12:(([(Xp.mk c2.1.op c2.1.n c2.1.l),(Xp.mk (1:Int) (1048576:Int) [])]:List Xp))=v12) (h3:v2=false) (h5:v4=false) (h7:v6=false) (h9:v8=false) (h11:v10=true) (R:Frm) (hR:R.pm=⟨ntOf Tryz.prog 18,[],[]⟩) (P0:Nat→Prop) (B:Nat) (hP:∀q,R.β0.D q→P0 q):Goes (KN w0) Tryz.prog R zbb (odd_F w0 e kk0 kk1 kk2 (c2.2 (Xp.mk (5:Int) (0:Int) v12)) v3 c2 P0 B) qp .r (zbI e kk0 kk1 kk2 (c2.2 (Xp.mk (5:Int) (0:Int) v12)) v3 c2) [.sl 4 (.o (.c (.p 2 0))),.bx 2 32 [.h 6,.h 7,.h 8]]:=by
 refine qE (Pr:=fun _=>True) (F1:=fun s:Nat×Nat×List Value=>FL [pI kk0,pI kk1,pI kk2,pHole B s.1 s.2.1 s.2.2 c2.2,pI ((s.2.1:Nat):Int),pI v1,pB v2,pB v4,pB v6,pB v8,pB v10,pI c2.1.op,pI c2.1.n,pLs cE c2.1.l,pLs cE v12,pI ((s.2.1+2:Nat):Int),pI ((s.2.1+0:Nat):Int),pI ((s.2.1+1:Nat):Int)] [] [] [oN s.1 s.2.1 s.2.2 c2.1.op c2.1.n c2.1.l,oN s.1 s.2.1 s.2.2 c2.1.op c2.1.n v12,oN s.1 s.2.1 s.2.2 (5:Int) c2.1.n v12,oN s.1 s.2.1 s.2.2 (5:Int) (0:Int) v12]) (fun a W hI=>thaw1 (hb:=900) (rs:=[.sl 3 (.o (.c (.p 1 0))),.sl 4 (.o (.c (.p 2 0))),.bx 1 23 [.h 3,.h 4,.h 5],.bx 2 32 [.k (.int .i64 0),.k (.int .i64 0),.k (.slice none 0 0)]]) (rs':=[.sl 3 (.o (.c (.p 1 0))),.sl 4 (.o (.c (.p 2 0))),.bx 1 23 [.h 0,.h 1,.h 2],.bx 2 32 [.k (.int .i64 0),.k (.int .i64 0),.k (.slice none 0 0)]]) (ns:=[0,1,2]) (s5:=5) (s6:=6) (r5:=13) (r6:=16) (k5:=3) (k6:=4) (no:=0) (by simp [qp]) (by simp [qp]) rfl rfl (fun _=>rfl) (fun _=>rfl) (fun _=>rfl) (by simp [qp]) (fun s=>(zipA.imp ⟨z_c l_p,z_c l_p,z_b ⟨l_h (pI kk0) rfl rfl,l_h (pI kk1) rfl rfl,l_h (pI kk2) rfl rfl,trivial⟩,z_b ⟨l_k,l_k,l_k,trivial⟩,trivial⟩)) (by kernel_rfl) (fun s n hn=>by simp only [List.mem_cons,List.not_mem_nil,or_false] at hn;rcases hn with rfl | rfl | rfl<;>exact ⟨_,rfl⟩) (by rw [hR]) (by kernel_rfl) hP hI) fun ⟨A0,off0,vs0⟩ _=>?_
 refine qL (st1:=[.hp [900] [] 3,.sl 5 (yh 3),.sl 3 (.o (.c (.p 1 0))),.sl 4 (.o (.c (.p 2 0))),.bx 1 23 [.h 0,.h 1,.h 2],.bx 2 32 [.k (.int .i64 0),.k (.int .i64 0),.k (.slice none 0 0)]]) (goes (x:=.n) (y:=.n) (Fb:=FL [pI kk0,pI kk1,pI kk2,pHole B A0 off0 vs0 c2.2,pI ((off0:Nat):Int),pI v1,pB v2,pB v4,pB v6,pB v8,pB v10,pI c2.1.op,pI c2.1.n,pLs cE c2.1.l,pLs cE v12,pI ((off0+2:Nat):Int),pI ((off0+0:Nat):Int),pI ((off0+1:Nat):Int)] [] [] [oN A0 off0 vs0 c2.1.op c2.1.n c2.1.l,oN A0 off0 vs0 c2.1.op c2.1.n v12,oN A0 off0 vs0 (5:Int) c2.1.n v12,oN A0 off0 vs0 (5:Int) (0:Int) v12]) (stb:=[.sl 5 (yh 3),.sl 6 (.o (.c (.pf 900 4))),.hp [900] [] 0,.sl 3 (.o (.c (.p 1 0))),.sl 4 (.o (.c (.p 2 0))),.bx 1 23 [.h 0,.h 1,.h 2],.bx 2 32 [.k (.int .i64 0),.k (.int .i64 0),.k (.slice none 0 0)]]) (tl:=[.hp [900] [] 3,.sl 5 (yh 3),.sl 3 (.o (.c (.p 1 0))),.sl 4 (.o (.c (.p 2 0))),.bx 1 23 [.h 0,.h 1,.h 2],.bx 2 32 [.k (.int .i64 0),.k (.int .i64 0),.k (.slice none 0 0)]]) (H:=.no) 2000 (C:=([(1002002,.call ⟨38,[yh 0,.o (.c (.k (.int .i64 6)))],[],yh 5,[]⟩),
  (1002003,.bin .eql 3 (yh 5) (LF (.k (.int .i64 0))) (yh 6)),
  (10006,.fb 6 false),
  (1002005,.bin .eql 3 (yh 5) (LF (.k (.int .i64 1))) (yh 7)),
  (10007,.fb 7 false),
  (1002007,.bin .eql 3 (yh 5) (LF (.k (.int .i64 2))) (yh 8)),
  (10008,.fb 8 false),
  (1002009,.bin .eql 3 (yh 5) (LF (.k (.int .i64 3))) (yh 9)),
  (10009,.fb 9 false),
  (1002011,.bin .eql 3 (yh 5) (LF (.k (.int .i64 4))) (yh 10)),
  (10010,.fb 10 true),
  (1002015,.op (.nc) [LF (.pf 900 4)] [] (LF (.pf 900 4))),
  (1002016,.op (.ld 32) [LF (.pf 900 4)] [.hp [900] [] 0] (.o (.g [.h 11,.h 12,.h 13]))),
  (1002018,.dat 32 2 [.h 11,.h 12,.h 13,.k (.int .i64 1),.k (.int .i64 1048576),.k (.slice none 0 0)] 14),
  (1002019,.op (.nc) [LF (.pf 900 4)] [] (LF (.pf 900 4))),
  (1002020,.op (.fa 32 2) [LF (.pf 900 4)] [] (LF (.pf 900 15))),
  (1002021,.st 29 [900] (LF (.pf 900 15)) (yh 14) [.hp [900] [] 0] [.hp [900] [] 1]),
  (1002023,.op (.nc) [LF (.pf 900 4)] [] (LF (.pf 900 4))),
  (1002024,.op (.fa 32 0) [LF (.pf 900 4)] [] (LF (.pf 900 16))),
  (1002025,.st 3 [900] (LF (.pf 900 16)) (LF (.k (.int .i64 5))) [.hp [900] [] 1] [.hp [900] [] 2]),
  (1002027,.op (.nc) [LF (.pf 900 4)] [] (LF (.pf 900 4))),
  (1002028,.op (.fa 32 1) [LF (.pf 900 4)] [] (LF (.pf 900 17))),
  (1002029,.st 3 [900] (LF (.pf 900 17)) (LF (.k (.int .i64 0))) [.hp [900] [] 2] [.hp [900] [] 3])]:List (Nat×Ent))) (fun _ _ _ _ h=>h) (zg ⟨za,za,za,qy,za,za,za,za,za,za,za,za,za,(ze (zf rfl)),(ze (zf rfl)),za,za,za,trivial⟩ trivial trivial ⟨qn,qn,qn,qn,trivial⟩) ⟨zh (x_mod kk0 (6:Int) v1 e1),
  e_bin (zb rfl) zd (zb rfl) (r_cmp (congrArg some e2)),
  e_fbv h3,
  e_bin (zb rfl) zd (zb rfl) (r_cmp (congrArg some e4)),
  e_fbv h5,
  e_bin (zb rfl) zd (zb rfl) (r_cmp (congrArg some e6)),
  e_fbv h7,
  e_bin (zb rfl) zd (zb rfl) (r_cmp (congrArg some e8)),
  e_fbv h9,
  e_bin (zb rfl) zd (zb rfl) (r_cmp (congrArg some e10)),
  e_fbv h11,
  e_ncF,
  zoT (by kernel_rfl) (by kernel_rfl) rfl rfl rfl rfl rfl,
  e_dat (c:=cE) (ps:=(pI c2.1.op::pI c2.1.n::pLs cE c2.1.l::pV (.int .i64 1)::pV (.int .i64 1048576)::pV (.slice none 0 0)::[])) (qs:=(pI (Xp.mk c2.1.op c2.1.n c2.1.l).op::pI (Xp.mk c2.1.op c2.1.n c2.1.l).n::pLs cE ((Xp.mk c2.1.op c2.1.n c2.1.l).l)::pI (Xp.mk (1:Int) (1048576:Int) []).op::pI (Xp.mk (1:Int) (1048576:Int) []).n::pLs cE ((Xp.mk (1:Int) (1048576:Int) []).l)::[])) (by rw [← e12];rfl) rfl rfl ((flatE _).trans rfl) (pimps (fun _ _ _ h=>h) <| pimps (fun _ _ _ h=>h) <| pimps (fun _ _ _ h=>h) <| pimps (fun _ _ _ h=>h) <| pimps (fun _ _ _ h=>h) <| pimps (zbP) <| qo) rfl,
  e_ncF,
  e_faF (m:=0) (off:=off0) (d0:=2) (by kernel_rfl) (by kernel_rfl) rfl rfl,
  e_stN (i:=2) (by kernel_rfl) (by decide) rfl rfl rfl (.inr (.inr ⟨rfl,zc rfl,rfl,rfl⟩)),
  e_ncF,
  e_faF (m:=0) (off:=off0) (d0:=0) (by kernel_rfl) (by kernel_rfl) rfl rfl,
  e_stN (i:=0) (by kernel_rfl) (by decide) rfl rfl rfl (.inl ⟨rfl,zd,rfl,rfl⟩),
  e_ncF,
  e_faF (m:=0) (off:=off0) (d0:=1) (by kernel_rfl) (by kernel_rfl) rfl rfl,
  e_stN (i:=1) (by kernel_rfl) (by decide) rfl rfl rfl (.inr (.inl ⟨rfl,zd,rfl,rfl⟩)),
  trivial⟩ mixed hR trivial (fun _ _ _ hs=>by cases hs) (by kernel_rfl) rfl (fun _ _ _ _ h=>h)) ?_
 refine qE (α:=Unit) (Pr:=fun _=>True) (F1:=fun _=>FL [pI kk0,pI kk1,pI kk2,pP (cE (c2.2 (Xp.mk (5:Int) (0:Int) v12))),pI (c2.2 (Xp.mk (5:Int) (0:Int) v12)).op,pI (c2.2 (Xp.mk (5:Int) (0:Int) v12)).n,pLs cE ((c2.2 (Xp.mk (5:Int) (0:Int) v12)).l)] []) (fun a W hI=>⟨(),trivial,zeI (F:=FL [pI kk0,pI kk1,pI kk2,pHole B A0 off0 vs0 c2.2,pI ((off0:Nat):Int),pI v1,pB v2,pB v4,pB v6,pB v8,pB v10,pI c2.1.op,pI c2.1.n,pLs cE c2.1.l,pLs cE v12,pI ((off0+2:Nat):Int),pI ((off0+0:Nat):Int),pI ((off0+1:Nat):Int)] [] [] [oN A0 off0 vs0 c2.1.op c2.1.n c2.1.l,oN A0 off0 vs0 c2.1.op c2.1.n v12,oN A0 off0 vs0 (5:Int) c2.1.n v12,oN A0 off0 vs0 (5:Int) (0:Int) v12]) (F2:=FL [pI kk0,pI kk1,pI kk2,pP (cE (c2.2 (Xp.mk (5:Int) (0:Int) v12))),pI (c2.2 (Xp.mk (5:Int) (0:Int) v12)).op,pI (c2.2 (Xp.mk (5:Int) (0:Int) v12)).n,pLs cE ((c2.2 (Xp.mk (5:Int) (0:Int) v12)).l)] []) (hb:=900) (rs:=[.sl 3 (.o (.c (.p 1 0))),.sl 4 (.o (.c (.p 2 0))),.bx 1 23 [.h 0,.h 1,.h 2],.bx 2 32 [.k (.int .i64 0),.k (.int .i64 0),.k (.slice none 0 0)]]) (rs':=[.sl 3 (.o (.c (.p 1 0))),.sl 4 (.o (.c (.p 2 0))),.bx 1 23 [.h 0,.h 1,.h 2],.bx 2 32 [.k (.int .i64 0),.k (.int .i64 0),.k (.slice none 0 0)]]) (s5:=5) (k5:=3) (r5:=3) (no:=3) (zg ⟨za,za,za,qy,za,za,za,za,za,za,za,za,za,(ze (zf rfl)),(ze (zf rfl)),za,za,za,trivial⟩ trivial trivial ⟨qn,qn,qn,qn,trivial⟩) (zg ⟨za,za,za,(zl ((zf rfl) _)),za,za,(ze (zf rfl)),trivial⟩) (by simp) (by simp) rfl rfl rfl (by simp) (zipA.imp ⟨z_c l_p,z_c l_p,z_b ⟨l_h (pI kk0) rfl rfl,l_h (pI kk1) rfl rfl,l_h (pI kk2) rfl rfl,trivial⟩,z_b ⟨l_k,l_k,l_k,trivial⟩,trivial⟩) (by rw [hR]) (by kernel_rfl) hI⟩) fun _ _=>?_
 exact goes (x:=.r) (y:=.r) (Fb:=FL [pI kk0,pI kk1,pI kk2,pP (cE (c2.2 (Xp.mk (5:Int) (0:Int) v12))),pI (c2.2 (Xp.mk (5:Int) (0:Int) v12)).op,pI (c2.2 (Xp.mk (5:Int) (0:Int) v12)).n,pLs cE ((c2.2 (Xp.mk (5:Int) (0:Int) v12)).l)] []) (stb:=[.sl 5 (yh 3),.sl 3 (.o (.c (.p 1 0))),.sl 4 (.o (.c (.p 2 0))),.bx 1 23 [.h 0,.h 1,.h 2],.bx 2 32 [.k (.int .i64 0),.k (.int .i64 0),.k (.slice none 0 0)]]) (tl:=[.sl 4 (.o (.c (.p 2 0))),.bx 2 32 [.h 4,.h 5,.h 6]]) (H:=.no) 5000 (C:=([(1005000,.op (.ld 32) [yh 3] [] (.o (.g [.h 4,.h 5,.h 6])))]:List (Nat×Ent))) (fun _ _ _ _ h=>h) (zg ⟨za,za,za,(zl ((zf rfl) _)),za,za,(ze (zf rfl)),trivial⟩) ⟨e_ldG (by kernel_rfl) (by kernel_rfl) (zc rfl) (cE_eq _).symm rfl (zj _),
  trivial⟩ mixed hR trivial (fun _ _ _ hs=>by cases hs) (by kernel_rfl) rfl (zipA.imp ⟨z_c l_p,z_b ⟨l_h (pI (c2.2 (Xp.mk (5:Int) (0:Int) v12)).op) rfl rfl,l_h (pI (c2.2 (Xp.mk (5:Int) (0:Int) v12)).n) rfl rfl,l_h (pLs cE ((c2.2 (Xp.mk (5:Int) (0:Int) v12)).l)) rfl rfl,trivial⟩,trivial⟩)
structure x_odd_W_T where
 i:Int
 tx:Xp
def qD:List Atom:=[.sl 3 (.o (.c (.p 1 0))),.sl 4 (.o (.c (.p 2 0))),.sl 5 (.o (.c (.p 901 0))),.sl 8 (yh 13),.sl 42 (.o (.c (.p 1 0))),.sl 43 (yh 0),.sl 44 (yh 6),.sl 45 (yh 7),.sl 46 (yh 7),.sl 53 (yh 8),.sl 54 (yh 8),.sl 66 (yh 9),.sl 67 (yh 9),.sl 79 (yh 10),.sl 80 (yh 10),.sl 95 (yh 11),.sl 96 (yh 11),.sl 111 (yh 12),.sl 112 (yh 12),.bx 1 23 [.h 0,.h 1,.h 2],.bx 2 32 [.k (.int .i64 0),.k (.int .i64 0),.k (.slice none 0 0)],.bx 901 32 [.h 14,.h 15,.h 16]]
def zbs:LoopS:=⟨22,[.sl 3 (.o (.c (.p 1 0))),.sl 4 (.o (.c (.p 2 0))),.sl 5 (.o (.c (.p 901 0))),.sl 8 (.o (.c (.k (.int .i64 0)))),.sl 42 (.o (.c (.p 1 0))),.sl 43 (yh 0),.sl 44 (yh 6),.sl 45 (yh 7),.sl 46 (yh 7),.sl 53 (yh 8),.sl 54 (yh 8),.sl 66 (yh 9),.sl 67 (yh 9),.sl 79 (yh 10),.sl 80 (yh 10),.sl 95 (yh 11),.sl 96 (yh 11),.sl 111 (yh 12),.sl 112 (yh 12),.bx 1 23 [.h 0,.h 1,.h 2],.bx 2 32 [.k (.int .i64 0),.k (.int .i64 0),.k (.slice none 0 0)],.bx 901 32 [.h 3,.h 4,.h 5]],(.x 3),[.sl 3 (.o (.c (.p 1 0))),.sl 4 (.o (.c (.p 2 0))),.sl 5 (.o (.c (.p 901 0))),.sl 42 (.o (.c (.p 1 0))),.sl 43 (yh 0),.sl 44 (yh 6),.sl 45 (yh 7),.sl 46 (yh 7),.sl 53 (yh 8),.sl 54 (yh 8),.sl 66 (yh 9),.sl 67 (yh 9),.sl 79 (yh 10),.sl 80 (yh 10),.sl 95 (yh 11),.sl 96 (yh 11),.sl 111 (yh 12),.sl 112 (yh 12),.bx 1 23 [.h 0,.h 1,.h 2],.bx 2 32 [.k (.int .i64 0),.k (.int .i64 0),.k (.slice none 0 0)],.bx 901 32 [.h 13,.h 14,.h 15]]⟩
theorem ziL {w0:World} (e:Xp) (kk0:Int) (kk1:Int) (kk2:Int) (v1:Int) (v2:Bool) (v4:Bool) (v6:Bool) (v8:Bool) (v10:Bool) (v12:Bool) (h3:v2=false) (h5:v4=false) (h7:v6=false) (h9:v8=false) (h11:v10=false) (h13:v12=true) (i:Int) (tx:Xp) (v501:Bool) (v503:(List Xp)) (v504:Int) (e501:(decide (i<(13:Int)))=v501) (e503:(([tx,(Xp.mk (1:Int) i [])]:List Xp))=v503) (e504:(IntKind.i64.wrap (i+(1:Int)))=v504) (h502:v501=true) (i':Int) (tx':Xp) (q0:(v504)=i') (q1:((Xp.mk (3:Int) (0:Int) v503))=tx') (R:Frm) (hR:R.pm=⟨ntOf Tryz.prog 18,[],[]⟩):Goes (KN w0) Tryz.prog R (lp Tryz.prog 18 1) (FL [pI kk0,pI kk1,pI kk2,pI e.op,pI e.n,pLs cE e.l,pI v1,pB v2,pB v4,pB v6,pB v8,pB v10,pB v12,pI i,pI tx.op,pI tx.n,pLs cE tx.l] []) qD .n (FL [pI kk0,pI kk1,pI kk2,pI e.op,pI e.n,pLs cE e.l,pI v1,pB v2,pB v4,pB v6,pB v8,pB v10,pB v12,pI i',pI tx'.op,pI tx'.n,pLs cE tx'.l] []) qD:=
 goes (x:=.n) (y:=.n) (Fb:=FL [pI kk0,pI kk1,pI kk2,pI e.op,pI e.n,pLs cE e.l,pI v1,pB v2,pB v4,pB v6,pB v8,pB v10,pB v12,pI i,pI tx.op,pI tx.n,pLs cE tx.l,pB v501,pLs cE v503,pI v504] []) (stb:=qD) (tl:=[.sl 3 (.o (.c (.p 1 0))),.sl 4 (.o (.c (.p 2 0))),.sl 5 (.o (.c (.p 901 0))),.sl 8 (yh 19),.sl 42 (.o (.c (.p 1 0))),.sl 43 (yh 0),.sl 44 (yh 6),.sl 45 (yh 7),.sl 46 (yh 7),.sl 53 (yh 8),.sl 54 (yh 8),.sl 66 (yh 9),.sl 67 (yh 9),.sl 79 (yh 10),.sl 80 (yh 10),.sl 95 (yh 11),.sl 96 (yh 11),.sl 111 (yh 12),.sl 112 (yh 12),.bx 1 23 [.h 0,.h 1,.h 2],.bx 2 32 [.k (.int .i64 0),.k (.int .i64 0),.k (.slice none 0 0)],.bx 901 32 [.k (.int .i64 3),.k (.int .i64 0),.h 18]]) (C:=((10007,.fb 7 false) ::
  (10008,.fb 8 false) ::
  (10009,.fb 9 false) ::
  (10010,.fb 10 false) ::
  (10011,.fb 11 false) ::
  (10012,.fb 12 true) ::
  (1005001,.bin .lss 3 (yh 13) (LF (.k (.int .i64 13))) (yh 17)) ::
  (10017,.fb 17 true) ::
  (1005005,.dat 32 2 [.h 14,.h 15,.h 16,.k (.int .i64 1),.h 13,.k (.slice none 0 0)] 18) ::
  (1005009,.bin .add 3 (yh 13) (LF (.k (.int .i64 1))) (yh 19)) ::
  []:List (Nat×Ent))) (H:=.no) 5000 (zipA.imp ⟨z_c yy,z_c yy,z_c yy,z_c yy,z_c yy,z_c yy,z_c yy,z_c yy,z_c yy,z_c yy,z_c yy,z_c yy,z_c yy,z_c yy,z_c yy,z_c yy,z_c yy,z_c yy,z_c yy,z_b ⟨yy,yy,yy,trivial⟩,z_b ⟨yy,yy,yy,trivial⟩,z_b ⟨yy,yy,yy,trivial⟩,trivial⟩) (zg ⟨za,za,za,za,za,(ze (zf rfl)),za,za,za,za,za,za,za,za,za,za,(ze (zf rfl)),za,(ze (zf rfl)),za,trivial⟩) ⟨e_fbv h3,
  e_fbv h5,
  e_fbv h7,
  e_fbv h9,
  e_fbv h11,
  e_fbv h13,
  e_bin (zb rfl) zd (zb rfl) (r_cmp (congrArg some e501)),
  e_fbv h502,
  e_dat (c:=cE) (ps:=(pI tx.op::pI tx.n::pLs cE tx.l::pV (.int .i64 1)::pI i::pV (.slice none 0 0)::[])) (qs:=(pI tx.op::pI tx.n::pLs cE tx.l::pI (Xp.mk (1:Int) i []).op::pI (Xp.mk (1:Int) i []).n::pLs cE ((Xp.mk (1:Int) i []).l)::[])) (by rw [← e503];rfl) rfl rfl ((flatE _).trans rfl) (pimps (fun _ _ _ h=>h) <| pimps (fun _ _ _ h=>h) <| pimps (fun _ _ _ h=>h) <| pimps (fun _ _ _ h=>h) <| pimps (fun _ _ _ h=>h) <| pimps (zbP) <| qo) rfl,
  e_bin (zb rfl) zd (zb rfl) (r_ar (congrArg some e504)),
  trivial⟩ mixed hR trivial (fun _ _ _ hs=>by cases hs) (by kernel_rfl:zA (KN w0) Tryz.prog _ .no ⟨ntOf Tryz.prog 18,[],[]⟩ (lp Tryz.prog 18 1) 5000 qD .n [.sl 3 (.o (.c (.p 1 0))),.sl 4 (.o (.c (.p 2 0))),.sl 5 (.o (.c (.p 901 0))),.sl 8 (yh 19),.sl 42 (.o (.c (.p 1 0))),.sl 43 (yh 0),.sl 44 (yh 6),.sl 45 (yh 7),.sl 46 (yh 7),.sl 53 (yh 8),.sl 54 (yh 8),.sl 66 (yh 9),.sl 67 (yh 9),.sl 79 (yh 10),.sl 80 (yh 10),.sl 95 (yh 11),.sl 96 (yh 11),.sl 111 (yh 12),.sl 112 (yh 12),.bx 1 23 [.h 0,.h 1,.h 2],.bx 2 32 [.k (.int .i64 0),.k (.int .i64 0),.k (.slice none 0 0)],.bx 901 32 [.k (.int .i64 3),.k (.int .i64 0),.h 18]]=true) rfl (zipA.imp ⟨z_c yy,z_c yy,z_c yy,z_c (fun β v W h=>(zc rfl β v W).2 (by rw [← q0];exact h)),z_c yy,z_c yy,z_c yy,z_c yy,z_c yy,z_c yy,z_c yy,z_c yy,z_c yy,z_c yy,z_c yy,z_c yy,z_c yy,z_c yy,z_c yy,z_b ⟨yy,yy,yy,trivial⟩,z_b ⟨yy,yy,yy,trivial⟩,z_b ⟨fun β v W h=>(zc rfl β v W).2 (by rw [← q1];exact h),fun β v W h=>(zc rfl β v W).2 (by rw [← q1];exact h),fun β v W h=>(zc rfl β v W).2 (by rw [← q1];exact h),trivial⟩,trivial⟩)
theorem ziM {w0:World} (e:Xp) (kk0:Int) (kk1:Int) (kk2:Int) (v1:Int) (v2:Bool) (v4:Bool) (v6:Bool) (v8:Bool) (v10:Bool) (v12:Bool) (h3:v2=false) (h5:v4=false) (h7:v6=false) (h9:v8=false) (h11:v10=false) (h13:v12=true) (i:Int) (tx:Xp) (v501:Bool) (e501:(decide (i<(13:Int)))=v501) (h502:v501=false) (t2:Xp) (F:Fact) (u0:F.c 0=pI kk0) (u1:F.c 1=pI kk1) (u2:F.c 2=pI kk2) (u3:F.c 3=pI e.op) (u4:F.c 4=pI e.n) (u5:F.c 5=pLs cE e.l) (u6:F.c 6=pI v1) (u7:F.c 7=pB v2) (u8:F.c 8=pB v4) (u9:F.c 9=pB v6) (u10:F.c 10=pB v8) (u11:F.c 11=pB v10) (u12:F.c 12=pB v12) (u13:F.c 13=pI t2.op) (u14:F.c 14=pI t2.n) (u15:F.c 15=pLs cE t2.l) (q0:(tx)=t2) (R:Frm) (hR:R.pm=⟨ntOf Tryz.prog 18,[],[]⟩):Goes (KN w0) Tryz.prog R (lp Tryz.prog 18 1) (FL [pI kk0,pI kk1,pI kk2,pI e.op,pI e.n,pLs cE e.l,pI v1,pB v2,pB v4,pB v6,pB v8,pB v10,pB v12,pI i,pI tx.op,pI tx.n,pLs cE tx.l] []) qD (.x 3) F zbs.out:=
 goes (x:=(.x 3)) (y:=(.x 3)) (Fb:=FL [pI kk0,pI kk1,pI kk2,pI e.op,pI e.n,pLs cE e.l,pI v1,pB v2,pB v4,pB v6,pB v8,pB v10,pB v12,pI i,pI tx.op,pI tx.n,pLs cE tx.l,pB v501] []) (stb:=qD) (tl:=[.sl 3 (.o (.c (.p 1 0))),.sl 4 (.o (.c (.p 2 0))),.sl 5 (.o (.c (.p 901 0))),.sl 42 (.o (.c (.p 1 0))),.sl 43 (yh 0),.sl 44 (yh 6),.sl 45 (yh 7),.sl 46 (yh 7),.sl 53 (yh 8),.sl 54 (yh 8),.sl 66 (yh 9),.sl 67 (yh 9),.sl 79 (yh 10),.sl 80 (yh 10),.sl 95 (yh 11),.sl 96 (yh 11),.sl 111 (yh 12),.sl 112 (yh 12),.bx 1 23 [.h 0,.h 1,.h 2],.bx 2 32 [.k (.int .i64 0),.k (.int .i64 0),.k (.slice none 0 0)],.bx 901 32 [.h 14,.h 15,.h 16]]) (C:=((10007,.fb 7 false) ::
  (10008,.fb 8 false) ::
  (10009,.fb 9 false) ::
  (10010,.fb 10 false) ::
  (10011,.fb 11 false) ::
  (10012,.fb 12 true) ::
  (1005001,.bin .lss 3 (yh 13) (LF (.k (.int .i64 13))) (yh 17)) ::
  (10017,.fb 17 false) ::
  []:List (Nat×Ent))) (H:=.no) 5000 (zipA.imp ⟨z_c yy,z_c yy,z_c yy,z_c yy,z_c yy,z_c yy,z_c yy,z_c yy,z_c yy,z_c yy,z_c yy,z_c yy,z_c yy,z_c yy,z_c yy,z_c yy,z_c yy,z_c yy,z_c yy,z_b ⟨yy,yy,yy,trivial⟩,z_b ⟨yy,yy,yy,trivial⟩,z_b ⟨yy,yy,yy,trivial⟩,trivial⟩) (zg ⟨za,za,za,za,za,(ze (zf rfl)),za,za,za,za,za,za,za,za,za,za,(ze (zf rfl)),za,trivial⟩) ⟨e_fbv h3,
  e_fbv h5,
  e_fbv h7,
  e_fbv h9,
  e_fbv h11,
  e_fbv h13,
  e_bin (zb rfl) zd (zb rfl) (r_cmp (congrArg some e501)),
  e_fbv h502,
  trivial⟩ mixed hR trivial (fun _ _ _ hs=>by cases hs) (by kernel_rfl:zA (KN w0) Tryz.prog _ .no ⟨ntOf Tryz.prog 18,[],[]⟩ (lp Tryz.prog 18 1) 5000 qD (.x 3) [.sl 3 (.o (.c (.p 1 0))),.sl 4 (.o (.c (.p 2 0))),.sl 5 (.o (.c (.p 901 0))),.sl 42 (.o (.c (.p 1 0))),.sl 43 (yh 0),.sl 44 (yh 6),.sl 45 (yh 7),.sl 46 (yh 7),.sl 53 (yh 8),.sl 54 (yh 8),.sl 66 (yh 9),.sl 67 (yh 9),.sl 79 (yh 10),.sl 80 (yh 10),.sl 95 (yh 11),.sl 96 (yh 11),.sl 111 (yh 12),.sl 112 (yh 12),.bx 1 23 [.h 0,.h 1,.h 2],.bx 2 32 [.k (.int .i64 0),.k (.int .i64 0),.k (.slice none 0 0)],.bx 901 32 [.h 14,.h 15,.h 16]]=true) rfl (zipA.imp ⟨z_c yy,z_c yy,z_c yy,z_c yy,z_c (fun β v W h=>(zc u0 β v W).2 h),z_c (fun β v W h=>(zc u6 β v W).2 h),z_c (fun β v W h=>(zc u7 β v W).2 h),z_c (fun β v W h=>(zc u7 β v W).2 h),z_c (fun β v W h=>(zc u8 β v W).2 h),z_c (fun β v W h=>(zc u8 β v W).2 h),z_c (fun β v W h=>(zc u9 β v W).2 h),z_c (fun β v W h=>(zc u9 β v W).2 h),z_c (fun β v W h=>(zc u10 β v W).2 h),z_c (fun β v W h=>(zc u10 β v W).2 h),z_c (fun β v W h=>(zc u11 β v W).2 h),z_c (fun β v W h=>(zc u11 β v W).2 h),z_c (fun β v W h=>(zc u12 β v W).2 h),z_c (fun β v W h=>(zc u12 β v W).2 h),z_b ⟨fun β v W h=>(zc u0 β v W).2 h,fun β v W h=>(zc u1 β v W).2 h,fun β v W h=>(zc u2 β v W).2 h,trivial⟩,z_b ⟨yy,yy,yy,trivial⟩,z_b ⟨fun β v W h=>(zc u13 β v W).2 (by rw [← q0];exact h),fun β v W h=>(zc u14 β v W).2 (by rw [← q0];exact h),fun β v W h=>(zc u15 β v W).2 (by rw [← q0];exact h),trivial⟩,trivial⟩)
def zlf (e:Xp) (kk0:Int) (kk1:Int) (kk2:Int) (v1:Int) (v2:Bool) (v4:Bool) (v6:Bool) (v8:Bool) (v10:Bool) (v12:Bool) (t:x_odd_W_T) (t2:Xp):Prop:=(∃(v501:Bool),((decide (t.i<(13:Int)))=v501)∧(v501=false)∧((t.tx)=t2)∧True)
def zle (e:Xp) (kk0:Int) (kk1:Int) (kk2:Int) (v1:Int) (v2:Bool) (v4:Bool) (v6:Bool) (v8:Bool) (v10:Bool) (v12:Bool) (t t':x_odd_W_T):Prop:=(∃(v501:Bool),∃(v503:(List Xp)),∃(v504:Int),((decide (t.i<(13:Int)))=v501)∧((([t.tx,(Xp.mk (1:Int) t.i [])]:List Xp))=v503)∧((IntKind.i64.wrap (t.i+(1:Int)))=v504)∧(v501=true)∧((v504)=t'.i)∧(((Xp.mk (3:Int) (0:Int) v503))=t'.tx)∧True)
theorem zf1 {w0:World} (e:Xp) (kk0:Int) (kk1:Int) (kk2:Int) (v1:Int) (v2:Bool) (v4:Bool) (v6:Bool) (v8:Bool) (v10:Bool) (v12:Bool) (h3:v2=false) (h5:v4=false) (h7:v6=false) (h9:v8=false) (h11:v10=false) (h13:v12=true) (t2:Xp) {F:Fact} (u0:F.c 0=pI kk0) (u1:F.c 1=pI kk1) (u2:F.c 2=pI kk2) (u3:F.c 3=pI e.op) (u4:F.c 4=pI e.n) (u5:F.c 5=pLs cE e.l) (u6:F.c 6=pI v1) (u7:F.c 7=pB v2) (u8:F.c 8=pB v4) (u9:F.c 9=pB v6) (u10:F.c 10=pB v8) (u11:F.c 11=pB v10) (u12:F.c 12=pB v12) (u13:F.c 13=pI t2.op) (u14:F.c 14=pI t2.n) (u15:F.c 15=pLs cE t2.l) (R:Frm) (hR:R.pm=⟨ntOf Tryz.prog 18,[],[]⟩) (J:x_odd_W_T→Prop) (m:x_odd_W_T→Nat) (hJ:J { i:=(0:Int),tx:=e }) (rounds:∀t,J t→zlf e kk0 kk1 kk2 v1 v2 v4 v6 v8 v10 v12 t t2∨∃t',zle e kk0 kk1 kk2 v1 v2 v4 v6 v8 v10 v12 t t'∧m t'<m t∧J t'):zi (KN w0) Tryz.prog F R zbs (lp Tryz.prog 18 1):=by
 refine zB (T:=x_odd_W_T) (fun t=>FL [pI kk0,pI kk1,pI kk2,pI e.op,pI e.n,pLs cE e.l,pI v1,pB v2,pB v4,pB v6,pB v8,pB v10,pB v12,pI t.i,pI t.tx.op,pI t.tx.n,pLs cE t.tx.l] []) J m { i:=(0:Int),tx:=e } qD hJ (zipA.imp ⟨z_c yy,z_c yy,z_c yy,z_c yy,z_c yy,z_c (fun β v W h=>(zc u0 β v W).1 h),z_c (fun β v W h=>(zc u6 β v W).1 h),z_c (fun β v W h=>(zc u7 β v W).1 h),z_c (fun β v W h=>(zc u7 β v W).1 h),z_c (fun β v W h=>(zc u8 β v W).1 h),z_c (fun β v W h=>(zc u8 β v W).1 h),z_c (fun β v W h=>(zc u9 β v W).1 h),z_c (fun β v W h=>(zc u9 β v W).1 h),z_c (fun β v W h=>(zc u10 β v W).1 h),z_c (fun β v W h=>(zc u10 β v W).1 h),z_c (fun β v W h=>(zc u11 β v W).1 h),z_c (fun β v W h=>(zc u11 β v W).1 h),z_c (fun β v W h=>(zc u12 β v W).1 h),z_c (fun β v W h=>(zc u12 β v W).1 h),z_b ⟨fun β v W h=>(zc u0 β v W).1 h,fun β v W h=>(zc u1 β v W).1 h,fun β v W h=>(zc u2 β v W).1 h,trivial⟩,z_b ⟨yy,yy,yy,trivial⟩,z_b ⟨fun β v W h=>(zc u3 β v W).1 h,fun β v W h=>(zc u4 β v W).1 h,fun β v W h=>(zc u5 β v W).1 h,trivial⟩,trivial⟩) rfl fun t ht=>?_
 rcases rounds t ht with hz_ | ⟨t',hz_,hm_,hj_⟩
 ·refine .inl ?_
  rcases hz_ with ⟨v501,e501,h502,q0,_⟩
  ·exact ziM  e kk0 kk1 kk2 v1 v2 v4 v6 v8 v10 v12 h3 h5 h7 h9 h11 h13 t.i t.tx v501 e501 h502 t2 F u0 u1 u2 u3 u4 u5 u6 u7 u8 u9 u10 u11 u12 u13 u14 u15 q0 R hR
 ·refine .inr ⟨t',hm_,hj_,?_⟩
  rcases hz_ with ⟨v501,v503,v504,e501,e503,e504,h502,q0,q1,_⟩
  ·exact ziL  e kk0 kk1 kk2 v1 v2 v4 v6 v8 v10 v12 h3 h5 h7 h9 h11 h13 t.i t.tx v501 v503 v504 e501 e503 e504 h502 t'.i t'.tx q0 q1 R hR
theorem ziK {w0:World} (e:Xp) (kk0:Int) (kk1:Int) (kk2:Int) (v1:Int) (v2:Bool) (v4:Bool) (v6:Bool) (v8:Bool) (v10:Bool) (v12:Bool) (h3:v2=false) (h5:v4=false) (h7:v6=false) (h9:v8=false) (h11:v10=false) (h13:v12=true) (t2:Xp) {F:Fact} (u0:F.c 0=pI kk0) (u1:F.c 1=pI kk1) (u2:F.c 2=pI kk2) (u3:F.c 3=pI e.op) (u4:F.c 4=pI e.n) (u5:F.c 5=pLs cE e.l) (u6:F.c 6=pI v1) (u7:F.c 7=pB v2) (u8:F.c 8=pB v4) (u9:F.c 9=pB v6) (u10:F.c 10=pB v8) (u11:F.c 11=pB v10) (u12:F.c 12=pB v12) (u13:F.c 13=pI t2.op) (u14:F.c 14=pI t2.n) (u15:F.c 15=pLs cE t2.l) (R:Frm) (hR:R.pm=⟨ntOf Tryz.prog 18,[],[]⟩) (hO:oddW 13 e=t2):zi (KN w0) Tryz.prog F R zbs (lp Tryz.prog 18 1):=by
 refine zf1  e kk0 kk1 kk2 v1 v2 v4 v6 v8 v10 v12 h3 h5 h7 h9 h11 h13 t2 u0 u1 u2 u3 u4 u5 u6 u7 u8 u9 u10 u11 u12 u13 u14 u15 R hR (fun ⟨i,tx⟩=>∃k:Nat,i=(k:Int)∧k≤13∧tx=oddW k e) (fun ⟨i,tx⟩=>(13 - i).toNat) ⟨0,rfl,by decide,rfl⟩ fun t hJ=>?_
 obtain ⟨i,tx⟩:=t
 dsimp only at hJ
 obtain ⟨k,hi,hk,hs⟩:=hJ
 obtain ⟨v501,e501⟩:∃v,(decide (i<(13:Int)))=v:=⟨_,rfl⟩
 cases h502:v501 with
 | true =>
  obtain ⟨v503,e503⟩:∃v,(([tx,(Xp.mk (1:Int) i [])]:List Xp))=v:=⟨_,rfl⟩
  obtain ⟨v504,e504⟩:∃v,(IntKind.i64.wrap (i+(1:Int)))=v:=⟨_,rfl⟩
  refine .inr ⟨⟨v504,(Xp.mk (3:Int) (0:Int) v503)⟩,⟨v501,v503,v504,e501,e503,e504,h502,rfl,rfl,trivial⟩,?_,?_⟩
  all_goals (have dh502:=of_decide_eq_true (e501.trans h502);have x3:v504=((k+1:Nat):Int):=(by rw [← e504,hi,wri (by omega)];omega))
  ·show (13 - v504).toNat<(13 - i).toNat
   omega
  ·exact ⟨k+1,x3,by omega,by rw [← e503,hs,hi];rfl⟩
 | false =>
  refine .inl (⟨v501,e501,h502,?_,trivial⟩)
  (have dh502:=of_decide_eq_false (e501.trans h502);have hkl:k=13:=(by omega);rw [hs,hkl];exact hO)
theorem zmH {w0:World} (e:Xp) (kk0 kk1 kk2:Int) (v3:Int) (t2:Xp) (c2:Xp×(Xp→Xp)) (v1:Int) (v2:Bool) (v4:Bool) (v6:Bool) (v8:Bool) (v10:Bool) (v12:Bool) (e1:(modX kk0 (6:Int))=v1) (e2:((v1 == (0:Int)))=v2) (e4:((v1 == (1:Int)))=v4) (e6:((v1 == (2:Int)))=v6) (e8:((v1 == (3:Int)))=v8) (e10:((v1 == (4:Int)))=v10) (e12:((v1 == (5:Int)))=v12) (h3:v2=false) (h5:v4=false) (h7:v6=false) (h9:v8=false) (h11:v10=false) (h13:v12=true) (hO:oddW 13 e=t2) (R:Frm) (hR:R.pm=⟨ntOf Tryz.prog 18,[],[]⟩) (P0:Nat→Prop) (B:Nat) (hP:∀q,R.β0.D q→P0 q):Goes (KN w0) Tryz.prog R zbb (odd_F w0 e kk0 kk1 kk2 t2 v3 c2 P0 B) qp .r (zbI e kk0 kk1 kk2 t2 v3 c2) [.sl 4 (.o (.c (.p 2 0))),.bx 2 32 [.h 6,.h 7,.h 8]]:=by
 refine qE (α:=Unit) (Pr:=fun _=>True) (F1:=fun _=>FL [pI kk0,pI kk1,pI kk2,pI e.op,pI e.n,pLs cE e.l,pI v1,pB v2,pB v4,pB v6,pB v8,pB v10,pB v12,pI t2.op,pI t2.n,pLs cE t2.l] []) (fun a W hI=>thaw5 (hb:=901) (F2:=fun _=>FL [pI kk0,pI kk1,pI kk2,pI e.op,pI e.n,pLs cE e.l,pI v1,pB v2,pB v4,pB v6,pB v8,pB v10,pB v12,pI t2.op,pI t2.n,pLs cE t2.l] []) (rs:=[.sl 3 (.o (.c (.p 1 0))),.sl 4 (.o (.c (.p 2 0))),.bx 1 23 [.h 3,.h 4,.h 5],.bx 2 32 [.k (.int .i64 0),.k (.int .i64 0),.k (.slice none 0 0)]]) (rs':=[.sl 3 (.o (.c (.p 1 0))),.sl 4 (.o (.c (.p 2 0))),.bx 1 23 [.h 0,.h 1,.h 2],.bx 2 32 [.k (.int .i64 0),.k (.int .i64 0),.k (.slice none 0 0)]]) (ns:=[0,1,2]) (s5:=5) (r5:=13) (ka:=3) (kb:=4) (kc:=5) (by simp [qp]) rfl (fun _=>rfl) (fun _=>rfl) (fun _=>rfl) (by simp [qp]) (fun s=>(zipA.imp ⟨z_c l_p,z_c l_p,z_b ⟨l_h (pI kk0) rfl rfl,l_h (pI kk1) rfl rfl,l_h (pI kk2) rfl rfl,trivial⟩,z_b ⟨l_k,l_k,l_k,trivial⟩,trivial⟩)) (by kernel_rfl) (fun s n hn=>by simp only [List.mem_cons,List.not_mem_nil,or_false] at hn;rcases hn with rfl | rfl | rfl<;>exact ⟨_,rfl⟩) (by rw [hR]) (by kernel_rfl) hP hI) fun _ _=>?_
 exact goes (x:=.r) (y:=.r) (Fb:=FL [pI kk0,pI kk1,pI kk2,pI e.op,pI e.n,pLs cE e.l,pI v1,pB v2,pB v4,pB v6,pB v8,pB v10,pB v12,pI t2.op,pI t2.n,pLs cE t2.l] []) (stb:=[.sl 5 (.o (.c (.p 901 0))),.bx 901 32 [.h 3,.h 4,.h 5],.sl 3 (.o (.c (.p 1 0))),.sl 4 (.o (.c (.p 2 0))),.bx 1 23 [.h 0,.h 1,.h 2],.bx 2 32 [.k (.int .i64 0),.k (.int .i64 0),.k (.slice none 0 0)]]) (tl:=[.sl 4 (.o (.c (.p 2 0))),.bx 2 32 [.h 13,.h 14,.h 15]]) (H:=⟨[zbs],[],0⟩) 2000 (C:=([(1002002,.call ⟨38,[yh 0,.o (.c (.k (.int .i64 6)))],[],yh 6,[]⟩),
  (1002003,.bin .eql 3 (yh 6) (LF (.k (.int .i64 0))) (yh 7)),
  (10007,.fb 7 false),
  (1002005,.bin .eql 3 (yh 6) (LF (.k (.int .i64 1))) (yh 8)),
  (10008,.fb 8 false),
  (1002007,.bin .eql 3 (yh 6) (LF (.k (.int .i64 2))) (yh 9)),
  (10009,.fb 9 false),
  (1002009,.bin .eql 3 (yh 6) (LF (.k (.int .i64 3))) (yh 10)),
  (10010,.fb 10 false),
  (1002011,.bin .eql 3 (yh 6) (LF (.k (.int .i64 4))) (yh 11)),
  (10011,.fb 11 false),
  (1002013,.bin .eql 3 (yh 6) (LF (.k (.int .i64 5))) (yh 12)),
  (10012,.fb 12 true)]:List (Nat×Ent))) (fun _ _ _ _ h=>h) (zg ⟨za,za,za,za,za,(ze (zf rfl)),za,za,za,za,za,za,za,za,za,(ze (zf rfl)),trivial⟩) ⟨zh (x_mod kk0 (6:Int) v1 e1),
  e_bin (zb rfl) zd (zb rfl) (r_cmp (congrArg some e2)),
  e_fbv h3,
  e_bin (zb rfl) zd (zb rfl) (r_cmp (congrArg some e4)),
  e_fbv h5,
  e_bin (zb rfl) zd (zb rfl) (r_cmp (congrArg some e6)),
  e_fbv h7,
  e_bin (zb rfl) zd (zb rfl) (r_cmp (congrArg some e8)),
  e_fbv h9,
  e_bin (zb rfl) zd (zb rfl) (r_cmp (congrArg some e10)),
  e_fbv h11,
  e_bin (zb rfl) zd (zb rfl) (r_cmp (congrArg some e12)),
  e_fbv h13,
  trivial⟩ mixed hR trivial (fun p hp' s hs=>by
  have hp':=zd1 (l':=[(22,lp Tryz.prog 18 1)]) hp' (by kernel_rfl)
  obtain rfl:=List.mem_singleton.1 hp'
  have e:s=zbs:=(Option.some.inj hs).symm
  subst e;exact ziK e kk0 kk1 kk2 v1 v2 v4 v6 v8 v10 v12 h3 h5 h7 h9 h11 h13 t2 rfl rfl rfl rfl rfl rfl rfl rfl rfl rfl rfl rfl rfl rfl rfl rfl R hR hO) (by kernel_rfl) rfl (zipA.imp ⟨z_c l_p,z_b ⟨l_h (pI t2.op) rfl rfl,l_h (pI t2.n) rfl rfl,l_h (pLs cE t2.l) rfl rfl,trivial⟩,trivial⟩)
theorem zl0 (k:Int):modX k 6=0∨modX k 6=1∨modX k 6=2∨modX k 6=3∨modX k 6=4∨modX k 6=5:=by
 have:=zeP (n:=k) (m:=6) (by decide) (by decide)
 omega
def oddX (e:Xp) (k0 k1 k2:Int):Xp:=
 let c:=desc 64 (modX k1 64) (e,id)
 if modX k0 6=0 then c.2 (.mk (modX k2 9) c.1.n c.1.l)
 else if modX k0 6=1 then c.2 (.mk c.1.op (([k2,1,3,4,1048576,1048577,-1048576,-1048577]:List Int).getD (modX k2 8).toNat 0) c.1.l)
 else if modX k0 6=2 then c.2 (.mk c.1.op c.1.n (c.1.l++[.mk 1 0 []]))
 else if modX k0 6=3 then c.2 (.mk c.1.op c.1.n (c.1.l.take (c.1.l.length / 2)))
 else if modX k0 6=4 then c.2 (.mk 5 0 [c.1,.mk 1 1048576 []])
 else oddW 13 e
theorem zdV:∀(n:Nat) (p:Int) (c:Xp×(Xp→Xp)),nodes (desc n p c).1≤nodes c.1
 | 0,_,_=>Nat.le_refl _
 | n+1,p,c=>by
  rw [desc]
  split
  ·split
   ·rename_i y hy
    refine Nat.le_trans (zdV n (p / 3) _) ?_
    have:=zu (N:=nodes c.1 - 1) (by have:=qk c.1;omega) hy
    show nodes y≤_
    omega
   ·exact Nat.le_refl _
  ·exact Nat.le_refl _
theorem x_odd {w0:World} (e:Xp) (kk0 kk1 kk2:Int) (r:Xp) (hr:oddX e kk0 kk1 kk2=r) (hn:nodes e≤1000000):Fun (KN w0) Tryz.prog 18 [.o (.g [pI e.op,pI e.n,pLs cE e.l]),.o (.g [pI kk0,pI kk1,pI kk2])] (.o (.g [pI r.op,pI r.n,pLs cE r.l])):=by
 subst hr
 obtain ⟨c2,hc⟩:∃c,desc 64 (modX kk1 64) (e,id)=c:=⟨_,rfl⟩
 have hnc:nodes c2.1≤1000000:=by have:=zdV 64 (modX kk1 64) (e,id);rw [hc] at this;exact Nat.le_trans this hn
 have hlen:=qj c2.1
 unfold oddX
 rw [hc]
 dsimp only
 rcases zl0 kk0 with h | h | h | h | h | h
 ·rw [if_pos h]
  exact zbF e kk0 kk1 kk2 _ _ c2 rfl hn hc fun R P0 B hR hP=>zmC e kk0 kk1 kk2 _ c2 _ _ _ rfl rfl rfl (by rw [h];rfl) R hR P0 B hP
 ·rw [if_neg (by rw [h];decide),if_pos h]
  have hm:=zeP (n:=kk2) (m:=8) (by decide) (by decide)
  have hg:([kk2,1,3,4,1048576,1048577,-1048576,-1048577]:List Int)[(modX kk2 8).toNat]?=some (([kk2,1,3,4,1048576,1048577,-1048576,-1048577]:List Int).getD (modX kk2 8).toNat 0):=by
   rw [List.getD_eq_getElem?_getD,List.getElem?_eq_getElem (by simp;omega)];rfl
  exact zbF e kk0 kk1 kk2 _ _ c2 rfl hn hc fun R P0 B hR hP=>zmD e kk0 kk1 kk2 _ c2 _ _ _ _ _ _ _ rfl rfl rfl rfl rfl (by rw [h];rfl) (by rw [h];rfl) (Int.toNat_of_nonneg hm.1).symm hg R hR P0 B hP
 ·rw [if_neg (by rw [h];decide),if_neg (by rw [h];decide),if_pos h]
  exact zbF e kk0 kk1 kk2 _ _ c2 rfl hn hc fun R P0 B hR hP=>zmE e kk0 kk1 kk2 _ c2 _ _ _ _ _ rfl rfl rfl rfl rfl (by rw [h];rfl) (by rw [h];rfl) (by rw [h];rfl) (by omega) R hR P0 B hP
 ·rw [if_neg (by rw [h];decide),if_neg (by rw [h];decide),if_neg (by rw [h];decide),if_pos h]
  exact zbF e kk0 kk1 kk2 _ _ c2 rfl hn hc fun R P0 B hR hP=>zmF e kk0 kk1 kk2 _ c2 _ _ _ _ _ _ _ (c2.1.l.length / 2) _ rfl rfl rfl rfl rfl rfl rfl rfl (by rw [h];rfl) (by rw [h];rfl) (by rw [h];rfl) (by rw [h];rfl) (by rw [Int.tdiv_eq_ediv_of_nonneg (by omega),wri (by omega)];omega) (by omega) R hR P0 B hP
 ·rw [if_neg (by rw [h];decide),if_neg (by rw [h];decide),if_neg (by rw [h];decide),if_neg (by rw [h];decide),if_pos h]
  exact zbF e kk0 kk1 kk2 _ _ c2 rfl hn hc fun R P0 B hR hP=>zmG e kk0 kk1 kk2 _ c2 _ _ _ _ _ _ _ rfl rfl rfl rfl rfl rfl (by rw [znv]) (by rw [h];rfl) (by rw [h];rfl) (by rw [h];rfl) (by rw [h];rfl) (by rw [h];rfl) R hR P0 B hP
 ·rw [if_neg (by rw [h];decide),if_neg (by rw [h];decide),if_neg (by rw [h];decide),if_neg (by rw [h];decide),if_neg (by rw [h];decide)]
  exact zbF e kk0 kk1 kk2 _ _ c2 rfl hn hc fun R P0 B hR hP=>zmH e kk0 kk1 kk2 _ _ c2 _ _ _ _ _ _ _ rfl rfl rfl rfl rfl rfl rfl (by rw [h];rfl) (by rw [h];rfl) (by rw [h];rfl) (by rw [h];rfl) (by rw [h];rfl) (by rw [h];rfl) rfl R hR P0 B hP
end Go.Proofs.YtdkofaajcpcjkaaGreatDoor
namespace Go.Proofs.YtdkofaajcpcjkaaGreatDoor
open Go.RowKit
def q9 (w0:World) (N:Nat):Prop:=∀(g D:Int) (l:List Int) (a:Int) (e:Xp) (p:Int),(madeX g D.toNat (l.drop a.toNat)).1=e→posA l (madeX g D.toNat (l.drop a.toNat)).2=p→0≤D∧D.toNat<N→0≤g∧g≤4→0≤a∧a≤l.length→l.length<9223372036854775807 →
 BFun false (KN w0) Tryz.prog 36 [.o (.c (.p 0 0)),.o (.c (.d (pI g))),.o (.c (.d (pI D)))] [(67,[.d (pLs cI l),.d (pI a)])] (.o (.g [.d (pI e.op),.d (pI e.n),.d (pLs cE e.l)])) [(67,[.d (pLs cI l),.d (pI p)])]
theorem zc1 {g D:Int} {L:List Int} (h:D=0∨(drawX L 10).1<4) (hx:(drawX L 10).1%2=1) (hg:0<g):madeX g D.toNat L=(.mk 2 (drawX (drawX L 10).2 g).1 [],(drawX (drawX L 10).2 g).2):=by
 cases hd:D.toNat with
 | zero=>rw [madeX,if_pos ⟨hx,hg⟩]
 | succ d=>rw [madeX,if_pos (h.resolve_left (by omega)),if_pos ⟨hx,hg⟩]
theorem zaK {g D:Int} {L:List Int} (h:D=0∨(drawX L 10).1<4) (hx:¬ ((drawX L 10).1%2=1∧0<g)):madeX g D.toNat L=(.mk 1 ((drawX (drawX L 10).2 17).1 - 8) [],(drawX (drawX L 10).2 17).2):=by
 cases hd:D.toNat with
 | zero=>rw [madeX,if_neg hx]
 | succ d=>rw [madeX,if_pos (h.resolve_left (by omega)),if_neg hx]
theorem zj0 {g D:Int} {L:List Int} (h:0<D) (hx:¬ (drawX L 10).1<4):madeX g D.toNat L=(.mk (3+(drawX (drawX L 10).2 5).1) 0 [(madeX g (D - 1).toNat (drawX (drawX L 10).2 5).2).1,(madeX g (D - 1).toNat (madeX g (D - 1).toNat (drawX (drawX L 10).2 5).2).2).1],(madeX g (D - 1).toNat (madeX g (D - 1).toNat (drawX (drawX L 10).2 5).2).2).2):=by
 rw [show D.toNat=(D - 1).toNat+1 by omega,madeX,if_neg hx]
theorem zk1 {w0:World} (l:(List Int)) (a:Int) (g:Int) (D:Int) (N:Nat) (IH:q9 w0 N) (v1:Int) (v2:Int) (v5:Bool) (v7:Int) (v8:Bool) (v10:Bool) (v12:Int) (v13:Int) (e1:((drawX (l.drop (a:Int).toNat) (10:Int)).1)=v1) (e2:(posA l (drawX (l.drop (a:Int).toNat) (10:Int)).2)=v2) (e5:((D == (0:Int)))=v5) (e7:((v1:Int).tmod (2:Int))=v7) (e8:((v7 == (1:Int)))=v8) (e10:(decide (g > (0:Int)))=v10) (e12:((drawX (l.drop (v2:Int).toNat) g).1)=v12) (e13:(posA l (drawX (l.drop (v2:Int).toNat) g).2)=v13) (s3:0≤a∧a≤l.length) (s4:l.length<9223372036854775807) (h6:v5=true) (h9:v8=true) (h11:v10=true) (s14:0≤v2∧v2≤l.length) (s15:l.length<9223372036854775807):BFun false (KN w0) Tryz.prog 36 [.o (.c (.p 0 0)),.o (.c (.d (pI g))),.o (.c (.d (pI D)))] [(67,[.d (pLs cI l),.d (pI a)])] (.o (.g [.d (pV (.int .i64 2)),.d (pI v12),.d (pV (.slice none 0 0))])) [(67,[.d (pLs cI l),.d (pI v13)])] :=
 con_b (pan:=false) (zr (F:=FL [pLs cI l,pI a,pI g,pI D,pI v1,pI v2,pB v5,pI v7,pB v8,pB v10,pI v12,pI v13] []) (C:=[(1000002,.call ⟨66,[.o (.c (.p 900 0)),.o (.c (.k (.int .i64 10)))],[.bx 900 67 [.h 0,.h 1]],yh 4,[.bx 900 67 [.h 0,.h 5]]⟩),
  (1000005,.bin .eql 3 (yh 3) (LF (.k (.int .i64 0))) (yh 6)),
  (10006,.fb 6 true),
  (1000011,.bin .rem 3 (yh 4) (LF (.k (.int .i64 2))) (yh 7)),
  (1000012,.bin .eql 3 (yh 7) (LF (.k (.int .i64 1))) (yh 8)),
  (10008,.fb 8 true),
  (1000015,.bin .gtr 3 (yh 2) (LF (.k (.int .i64 0))) (yh 9)),
  (10009,.fb 9 true),
  (1000019,.call ⟨66,[.o (.c (.p 900 0)),yh 2],[.bx 900 67 [.h 0,.h 5]],yh 10,[.bx 900 67 [.h 0,.h 11]]⟩)]) (k:=⟨36,[.o (.c (.p 900 0)),yh 2,yh 3],[.bx 900 67 [.h 0,.h 1]],.o (.g [.k (.int .i64 2),.h 10,.k (.slice none 0 0)]),[.bx 900 67 [.h 0,.h 11]]⟩) 0 (zg ⟨(ze zt),za,za,za,za,za,za,za,za,za,za,za,trivial⟩) ⟨b_con (pan:=false) (zaa (10:Int) l a v1 v2 e1 e2 s3 s4),
  e_bin (zb rfl) zd (zb rfl) (r_cmp (congrArg some e5)),
  e_fbv h6,
  e_bin (zb rfl) zd (zb rfl) (r_ar ((zaH (by decide)).trans (congrArg some e7))),
  e_bin (zb rfl) zd (zb rfl) (r_cmp (congrArg some e8)),
  e_fbv h9,
  e_bin (zb rfl) zd (zb rfl) (r_cmp (congrArg some e10)),
  e_fbv h11,
  b_con (pan:=false) (zaa g l v2 v12 v13 e12 e13 s14 s15),
  trivial⟩ mixed (by kernel_rfl))
theorem zk2 {w0:World} (l:(List Int)) (a:Int) (g:Int) (D:Int) (N:Nat) (IH:q9 w0 N) (v1:Int) (v2:Int) (v5:Bool) (v7:Int) (v8:Bool) (v10:Bool) (v12:Int) (v13:Int) (v16:Int) (e1:((drawX (l.drop (a:Int).toNat) (10:Int)).1)=v1) (e2:(posA l (drawX (l.drop (a:Int).toNat) (10:Int)).2)=v2) (e5:((D == (0:Int)))=v5) (e7:((v1:Int).tmod (2:Int))=v7) (e8:((v7 == (1:Int)))=v8) (e10:(decide (g > (0:Int)))=v10) (e12:((drawX (l.drop (v2:Int).toNat) (17:Int)).1)=v12) (e13:(posA l (drawX (l.drop (v2:Int).toNat) (17:Int)).2)=v13) (e16:(IntKind.i64.wrap (v12 - (8:Int)))=v16) (s3:0≤a∧a≤l.length) (s4:l.length<9223372036854775807) (h6:v5=true) (h9:v8=true) (h11:v10=false) (s14:0≤v2∧v2≤l.length) (s15:l.length<9223372036854775807):BFun false (KN w0) Tryz.prog 36 [.o (.c (.p 0 0)),.o (.c (.d (pI g))),.o (.c (.d (pI D)))] [(67,[.d (pLs cI l),.d (pI a)])] (.o (.g [.d (pV (.int .i64 1)),.d (pI v16),.d (pV (.slice none 0 0))])) [(67,[.d (pLs cI l),.d (pI v13)])] :=
 con_b (pan:=false) (zr (F:=FL [pLs cI l,pI a,pI g,pI D,pI v1,pI v2,pB v5,pI v7,pB v8,pB v10,pI v12,pI v13,pI v16] []) (C:=[(1000002,.call ⟨66,[.o (.c (.p 900 0)),.o (.c (.k (.int .i64 10)))],[.bx 900 67 [.h 0,.h 1]],yh 4,[.bx 900 67 [.h 0,.h 5]]⟩),
  (1000005,.bin .eql 3 (yh 3) (LF (.k (.int .i64 0))) (yh 6)),
  (10006,.fb 6 true),
  (1000011,.bin .rem 3 (yh 4) (LF (.k (.int .i64 2))) (yh 7)),
  (1000012,.bin .eql 3 (yh 7) (LF (.k (.int .i64 1))) (yh 8)),
  (10008,.fb 8 true),
  (1000015,.bin .gtr 3 (yh 2) (LF (.k (.int .i64 0))) (yh 9)),
  (10009,.fb 9 false),
  (1000018,.call ⟨66,[.o (.c (.p 900 0)),.o (.c (.k (.int .i64 17)))],[.bx 900 67 [.h 0,.h 5]],yh 10,[.bx 900 67 [.h 0,.h 11]]⟩),
  (1000019,.bin .sub 3 (yh 10) (LF (.k (.int .i64 8))) (yh 12))]) (k:=⟨36,[.o (.c (.p 900 0)),yh 2,yh 3],[.bx 900 67 [.h 0,.h 1]],.o (.g [.k (.int .i64 1),.h 12,.k (.slice none 0 0)]),[.bx 900 67 [.h 0,.h 11]]⟩) 0 (zg ⟨(ze zt),za,za,za,za,za,za,za,za,za,za,za,za,trivial⟩) ⟨b_con (pan:=false) (zaa (10:Int) l a v1 v2 e1 e2 s3 s4),
  e_bin (zb rfl) zd (zb rfl) (r_cmp (congrArg some e5)),
  e_fbv h6,
  e_bin (zb rfl) zd (zb rfl) (r_ar ((zaH (by decide)).trans (congrArg some e7))),
  e_bin (zb rfl) zd (zb rfl) (r_cmp (congrArg some e8)),
  e_fbv h9,
  e_bin (zb rfl) zd (zb rfl) (r_cmp (congrArg some e10)),
  e_fbv h11,
  b_con (pan:=false) (zaa (17:Int) l v2 v12 v13 e12 e13 s14 s15),
  e_bin (zb rfl) zd (zb rfl) (r_ar (congrArg some e16)),
  trivial⟩ mixed (by kernel_rfl))
theorem zk3 {w0:World} (l:(List Int)) (a:Int) (g:Int) (D:Int) (N:Nat) (IH:q9 w0 N) (v1:Int) (v2:Int) (v5:Bool) (v7:Int) (v8:Bool) (v10:Int) (v11:Int) (v14:Int) (e1:((drawX (l.drop (a:Int).toNat) (10:Int)).1)=v1) (e2:(posA l (drawX (l.drop (a:Int).toNat) (10:Int)).2)=v2) (e5:((D == (0:Int)))=v5) (e7:((v1:Int).tmod (2:Int))=v7) (e8:((v7 == (1:Int)))=v8) (e10:((drawX (l.drop (v2:Int).toNat) (17:Int)).1)=v10) (e11:(posA l (drawX (l.drop (v2:Int).toNat) (17:Int)).2)=v11) (e14:(IntKind.i64.wrap (v10 - (8:Int)))=v14) (s3:0≤a∧a≤l.length) (s4:l.length<9223372036854775807) (h6:v5=true) (h9:v8=false) (s12:0≤v2∧v2≤l.length) (s13:l.length<9223372036854775807):BFun false (KN w0) Tryz.prog 36 [.o (.c (.p 0 0)),.o (.c (.d (pI g))),.o (.c (.d (pI D)))] [(67,[.d (pLs cI l),.d (pI a)])] (.o (.g [.d (pV (.int .i64 1)),.d (pI v14),.d (pV (.slice none 0 0))])) [(67,[.d (pLs cI l),.d (pI v11)])] :=
 con_b (pan:=false) (zr (F:=FL [pLs cI l,pI a,pI g,pI D,pI v1,pI v2,pB v5,pI v7,pB v8,pI v10,pI v11,pI v14] []) (C:=[(1000002,.call ⟨66,[.o (.c (.p 900 0)),.o (.c (.k (.int .i64 10)))],[.bx 900 67 [.h 0,.h 1]],yh 4,[.bx 900 67 [.h 0,.h 5]]⟩),
  (1000005,.bin .eql 3 (yh 3) (LF (.k (.int .i64 0))) (yh 6)),
  (10006,.fb 6 true),
  (1000011,.bin .rem 3 (yh 4) (LF (.k (.int .i64 2))) (yh 7)),
  (1000012,.bin .eql 3 (yh 7) (LF (.k (.int .i64 1))) (yh 8)),
  (10008,.fb 8 false),
  (1000018,.call ⟨66,[.o (.c (.p 900 0)),.o (.c (.k (.int .i64 17)))],[.bx 900 67 [.h 0,.h 5]],yh 9,[.bx 900 67 [.h 0,.h 10]]⟩),
  (1000019,.bin .sub 3 (yh 9) (LF (.k (.int .i64 8))) (yh 11))]) (k:=⟨36,[.o (.c (.p 900 0)),yh 2,yh 3],[.bx 900 67 [.h 0,.h 1]],.o (.g [.k (.int .i64 1),.h 11,.k (.slice none 0 0)]),[.bx 900 67 [.h 0,.h 10]]⟩) 0 (zg ⟨(ze zt),za,za,za,za,za,za,za,za,za,za,za,trivial⟩) ⟨b_con (pan:=false) (zaa (10:Int) l a v1 v2 e1 e2 s3 s4),
  e_bin (zb rfl) zd (zb rfl) (r_cmp (congrArg some e5)),
  e_fbv h6,
  e_bin (zb rfl) zd (zb rfl) (r_ar ((zaH (by decide)).trans (congrArg some e7))),
  e_bin (zb rfl) zd (zb rfl) (r_cmp (congrArg some e8)),
  e_fbv h9,
  b_con (pan:=false) (zaa (17:Int) l v2 v10 v11 e10 e11 s12 s13),
  e_bin (zb rfl) zd (zb rfl) (r_ar (congrArg some e14)),
  trivial⟩ mixed (by kernel_rfl))
theorem zk4 {w0:World} (l:(List Int)) (a:Int) (g:Int) (D:Int) (N:Nat) (IH:q9 w0 N) (v1:Int) (v2:Int) (v5:Bool) (v7:Bool) (v9:Int) (v10:Bool) (v12:Bool) (v14:Int) (v15:Int) (e1:((drawX (l.drop (a:Int).toNat) (10:Int)).1)=v1) (e2:(posA l (drawX (l.drop (a:Int).toNat) (10:Int)).2)=v2) (e5:((D == (0:Int)))=v5) (e7:(decide (v1<(4:Int)))=v7) (e9:((v1:Int).tmod (2:Int))=v9) (e10:((v9 == (1:Int)))=v10) (e12:(decide (g > (0:Int)))=v12) (e14:((drawX (l.drop (v2:Int).toNat) g).1)=v14) (e15:(posA l (drawX (l.drop (v2:Int).toNat) g).2)=v15) (s3:0≤a∧a≤l.length) (s4:l.length<9223372036854775807) (h6:v5=false) (h8:v7=true) (h11:v10=true) (h13:v12=true) (s16:0≤v2∧v2≤l.length) (s17:l.length<9223372036854775807):BFun false (KN w0) Tryz.prog 36 [.o (.c (.p 0 0)),.o (.c (.d (pI g))),.o (.c (.d (pI D)))] [(67,[.d (pLs cI l),.d (pI a)])] (.o (.g [.d (pV (.int .i64 2)),.d (pI v14),.d (pV (.slice none 0 0))])) [(67,[.d (pLs cI l),.d (pI v15)])] :=
 con_b (pan:=false) (zr (F:=FL [pLs cI l,pI a,pI g,pI D,pI v1,pI v2,pB v5,pB v7,pI v9,pB v10,pB v12,pI v14,pI v15] []) (C:=[(1000002,.call ⟨66,[.o (.c (.p 900 0)),.o (.c (.k (.int .i64 10)))],[.bx 900 67 [.h 0,.h 1]],yh 4,[.bx 900 67 [.h 0,.h 5]]⟩),
  (1000005,.bin .eql 3 (yh 3) (LF (.k (.int .i64 0))) (yh 6)),
  (10006,.fb 6 false),
  (1000008,.bin .lss 3 (yh 4) (LF (.k (.int .i64 4))) (yh 7)),
  (10007,.fb 7 true),
  (1000011,.bin .rem 3 (yh 4) (LF (.k (.int .i64 2))) (yh 8)),
  (1000012,.bin .eql 3 (yh 8) (LF (.k (.int .i64 1))) (yh 9)),
  (10009,.fb 9 true),
  (1000015,.bin .gtr 3 (yh 2) (LF (.k (.int .i64 0))) (yh 10)),
  (10010,.fb 10 true),
  (1000019,.call ⟨66,[.o (.c (.p 900 0)),yh 2],[.bx 900 67 [.h 0,.h 5]],yh 11,[.bx 900 67 [.h 0,.h 12]]⟩)]) (k:=⟨36,[.o (.c (.p 900 0)),yh 2,yh 3],[.bx 900 67 [.h 0,.h 1]],.o (.g [.k (.int .i64 2),.h 11,.k (.slice none 0 0)]),[.bx 900 67 [.h 0,.h 12]]⟩) 0 (zg ⟨(ze zt),za,za,za,za,za,za,za,za,za,za,za,za,trivial⟩) ⟨b_con (pan:=false) (zaa (10:Int) l a v1 v2 e1 e2 s3 s4),
  e_bin (zb rfl) zd (zb rfl) (r_cmp (congrArg some e5)),
  e_fbv h6,
  e_bin (zb rfl) zd (zb rfl) (r_cmp (congrArg some e7)),
  e_fbv h8,
  e_bin (zb rfl) zd (zb rfl) (r_ar ((zaH (by decide)).trans (congrArg some e9))),
  e_bin (zb rfl) zd (zb rfl) (r_cmp (congrArg some e10)),
  e_fbv h11,
  e_bin (zb rfl) zd (zb rfl) (r_cmp (congrArg some e12)),
  e_fbv h13,
  b_con (pan:=false) (zaa g l v2 v14 v15 e14 e15 s16 s17),
  trivial⟩ mixed (by kernel_rfl))
theorem zk5 {w0:World} (l:(List Int)) (a:Int) (g:Int) (D:Int) (N:Nat) (IH:q9 w0 N) (v1:Int) (v2:Int) (v5:Bool) (v7:Bool) (v9:Int) (v10:Bool) (v12:Bool) (v14:Int) (v15:Int) (v18:Int) (e1:((drawX (l.drop (a:Int).toNat) (10:Int)).1)=v1) (e2:(posA l (drawX (l.drop (a:Int).toNat) (10:Int)).2)=v2) (e5:((D == (0:Int)))=v5) (e7:(decide (v1<(4:Int)))=v7) (e9:((v1:Int).tmod (2:Int))=v9) (e10:((v9 == (1:Int)))=v10) (e12:(decide (g > (0:Int)))=v12) (e14:((drawX (l.drop (v2:Int).toNat) (17:Int)).1)=v14) (e15:(posA l (drawX (l.drop (v2:Int).toNat) (17:Int)).2)=v15) (e18:(IntKind.i64.wrap (v14 - (8:Int)))=v18) (s3:0≤a∧a≤l.length) (s4:l.length<9223372036854775807) (h6:v5=false) (h8:v7=true) (h11:v10=true) (h13:v12=false) (s16:0≤v2∧v2≤l.length) (s17:l.length<9223372036854775807):BFun false (KN w0) Tryz.prog 36 [.o (.c (.p 0 0)),.o (.c (.d (pI g))),.o (.c (.d (pI D)))] [(67,[.d (pLs cI l),.d (pI a)])] (.o (.g [.d (pV (.int .i64 1)),.d (pI v18),.d (pV (.slice none 0 0))])) [(67,[.d (pLs cI l),.d (pI v15)])] :=
 con_b (pan:=false) (zr (F:=FL [pLs cI l,pI a,pI g,pI D,pI v1,pI v2,pB v5,pB v7,pI v9,pB v10,pB v12,pI v14,pI v15,pI v18] []) (C:=[(1000002,.call ⟨66,[.o (.c (.p 900 0)),.o (.c (.k (.int .i64 10)))],[.bx 900 67 [.h 0,.h 1]],yh 4,[.bx 900 67 [.h 0,.h 5]]⟩),
  (1000005,.bin .eql 3 (yh 3) (LF (.k (.int .i64 0))) (yh 6)),
  (10006,.fb 6 false),
  (1000008,.bin .lss 3 (yh 4) (LF (.k (.int .i64 4))) (yh 7)),
  (10007,.fb 7 true),
  (1000011,.bin .rem 3 (yh 4) (LF (.k (.int .i64 2))) (yh 8)),
  (1000012,.bin .eql 3 (yh 8) (LF (.k (.int .i64 1))) (yh 9)),
  (10009,.fb 9 true),
  (1000015,.bin .gtr 3 (yh 2) (LF (.k (.int .i64 0))) (yh 10)),
  (10010,.fb 10 false),
  (1000018,.call ⟨66,[.o (.c (.p 900 0)),.o (.c (.k (.int .i64 17)))],[.bx 900 67 [.h 0,.h 5]],yh 11,[.bx 900 67 [.h 0,.h 12]]⟩),
  (1000019,.bin .sub 3 (yh 11) (LF (.k (.int .i64 8))) (yh 13))]) (k:=⟨36,[.o (.c (.p 900 0)),yh 2,yh 3],[.bx 900 67 [.h 0,.h 1]],.o (.g [.k (.int .i64 1),.h 13,.k (.slice none 0 0)]),[.bx 900 67 [.h 0,.h 12]]⟩) 0 (zg ⟨(ze zt),za,za,za,za,za,za,za,za,za,za,za,za,za,trivial⟩) ⟨b_con (pan:=false) (zaa (10:Int) l a v1 v2 e1 e2 s3 s4),
  e_bin (zb rfl) zd (zb rfl) (r_cmp (congrArg some e5)),
  e_fbv h6,
  e_bin (zb rfl) zd (zb rfl) (r_cmp (congrArg some e7)),
  e_fbv h8,
  e_bin (zb rfl) zd (zb rfl) (r_ar ((zaH (by decide)).trans (congrArg some e9))),
  e_bin (zb rfl) zd (zb rfl) (r_cmp (congrArg some e10)),
  e_fbv h11,
  e_bin (zb rfl) zd (zb rfl) (r_cmp (congrArg some e12)),
  e_fbv h13,
  b_con (pan:=false) (zaa (17:Int) l v2 v14 v15 e14 e15 s16 s17),
  e_bin (zb rfl) zd (zb rfl) (r_ar (congrArg some e18)),
  trivial⟩ mixed (by kernel_rfl))
theorem zk6 {w0:World} (l:(List Int)) (a:Int) (g:Int) (D:Int) (N:Nat) (IH:q9 w0 N) (v1:Int) (v2:Int) (v5:Bool) (v7:Bool) (v9:Int) (v10:Bool) (v12:Int) (v13:Int) (v16:Int) (e1:((drawX (l.drop (a:Int).toNat) (10:Int)).1)=v1) (e2:(posA l (drawX (l.drop (a:Int).toNat) (10:Int)).2)=v2) (e5:((D == (0:Int)))=v5) (e7:(decide (v1<(4:Int)))=v7) (e9:((v1:Int).tmod (2:Int))=v9) (e10:((v9 == (1:Int)))=v10) (e12:((drawX (l.drop (v2:Int).toNat) (17:Int)).1)=v12) (e13:(posA l (drawX (l.drop (v2:Int).toNat) (17:Int)).2)=v13) (e16:(IntKind.i64.wrap (v12 - (8:Int)))=v16) (s3:0≤a∧a≤l.length) (s4:l.length<9223372036854775807) (h6:v5=false) (h8:v7=true) (h11:v10=false) (s14:0≤v2∧v2≤l.length) (s15:l.length<9223372036854775807):BFun false (KN w0) Tryz.prog 36 [.o (.c (.p 0 0)),.o (.c (.d (pI g))),.o (.c (.d (pI D)))] [(67,[.d (pLs cI l),.d (pI a)])] (.o (.g [.d (pV (.int .i64 1)),.d (pI v16),.d (pV (.slice none 0 0))])) [(67,[.d (pLs cI l),.d (pI v13)])] :=
 con_b (pan:=false) (zr (F:=FL [pLs cI l,pI a,pI g,pI D,pI v1,pI v2,pB v5,pB v7,pI v9,pB v10,pI v12,pI v13,pI v16] []) (C:=[(1000002,.call ⟨66,[.o (.c (.p 900 0)),.o (.c (.k (.int .i64 10)))],[.bx 900 67 [.h 0,.h 1]],yh 4,[.bx 900 67 [.h 0,.h 5]]⟩),
  (1000005,.bin .eql 3 (yh 3) (LF (.k (.int .i64 0))) (yh 6)),
  (10006,.fb 6 false),
  (1000008,.bin .lss 3 (yh 4) (LF (.k (.int .i64 4))) (yh 7)),
  (10007,.fb 7 true),
  (1000011,.bin .rem 3 (yh 4) (LF (.k (.int .i64 2))) (yh 8)),
  (1000012,.bin .eql 3 (yh 8) (LF (.k (.int .i64 1))) (yh 9)),
  (10009,.fb 9 false),
  (1000018,.call ⟨66,[.o (.c (.p 900 0)),.o (.c (.k (.int .i64 17)))],[.bx 900 67 [.h 0,.h 5]],yh 10,[.bx 900 67 [.h 0,.h 11]]⟩),
  (1000019,.bin .sub 3 (yh 10) (LF (.k (.int .i64 8))) (yh 12))]) (k:=⟨36,[.o (.c (.p 900 0)),yh 2,yh 3],[.bx 900 67 [.h 0,.h 1]],.o (.g [.k (.int .i64 1),.h 12,.k (.slice none 0 0)]),[.bx 900 67 [.h 0,.h 11]]⟩) 0 (zg ⟨(ze zt),za,za,za,za,za,za,za,za,za,za,za,za,trivial⟩) ⟨b_con (pan:=false) (zaa (10:Int) l a v1 v2 e1 e2 s3 s4),
  e_bin (zb rfl) zd (zb rfl) (r_cmp (congrArg some e5)),
  e_fbv h6,
  e_bin (zb rfl) zd (zb rfl) (r_cmp (congrArg some e7)),
  e_fbv h8,
  e_bin (zb rfl) zd (zb rfl) (r_ar ((zaH (by decide)).trans (congrArg some e9))),
  e_bin (zb rfl) zd (zb rfl) (r_cmp (congrArg some e10)),
  e_fbv h11,
  b_con (pan:=false) (zaa (17:Int) l v2 v12 v13 e12 e13 s14 s15),
  e_bin (zb rfl) zd (zb rfl) (r_ar (congrArg some e16)),
  trivial⟩ mixed (by kernel_rfl))
theorem zk7 {w0:World} (l:(List Int)) (a:Int) (g:Int) (D:Int) (N:Nat) (IH:q9 w0 N) (v1:Int) (v2:Int) (v5:Bool) (v7:Bool) (v9:Int) (v10:Int) (v13:Int) (v14:Int) (v15:Xp) (v16:Int) (v21:Int) (v22:Xp) (v23:Int) (v28:(List Xp)) (e1:((drawX (l.drop (a:Int).toNat) (10:Int)).1)=v1) (e2:(posA l (drawX (l.drop (a:Int).toNat) (10:Int)).2)=v2) (e5:((D == (0:Int)))=v5) (e7:(decide (v1<(4:Int)))=v7) (e9:((drawX (l.drop (v2:Int).toNat) (5:Int)).1)=v9) (e10:(posA l (drawX (l.drop (v2:Int).toNat) (5:Int)).2)=v10) (e13:(IntKind.i64.wrap ((3:Int)+v9))=v13) (e14:(IntKind.i64.wrap (D - (1:Int)))=v14) (e15:((madeX g (v14:Int).toNat (l.drop (v10:Int).toNat)).1)=v15) (e16:(posA l (madeX g (v14:Int).toNat (l.drop (v10:Int).toNat)).2)=v16) (e21:(IntKind.i64.wrap (D - (1:Int)))=v21) (e22:((madeX g (v21:Int).toNat (l.drop (v16:Int).toNat)).1)=v22) (e23:(posA l (madeX g (v21:Int).toNat (l.drop (v16:Int).toNat)).2)=v23) (e28:(([v15,v22]:List Xp))=v28) (s3:0≤a∧a≤l.length) (s4:l.length<9223372036854775807) (h6:v5=false) (h8:v7=false) (s11:0≤v2∧v2≤l.length) (s12:l.length<9223372036854775807) (s17:0≤v14∧(v14:Int).toNat<N) (s18:0≤g∧g≤4) (s19:0≤v10∧v10≤l.length) (s20:l.length<9223372036854775807) (s24:0≤v21∧(v21:Int).toNat<N) (s25:0≤g∧g≤4) (s26:0≤v16∧v16≤l.length) (s27:l.length<9223372036854775807):BFun false (KN w0) Tryz.prog 36 [.o (.c (.p 0 0)),.o (.c (.d (pI g))),.o (.c (.d (pI D)))] [(67,[.d (pLs cI l),.d (pI a)])] (.o (.g [.d (pI v13),.d (pV (.int .i64 0)),.d (pLs cE v28)])) [(67,[.d (pLs cI l),.d (pI v23)])] :=
 con_b (pan:=false) (zr (F:=FL [pLs cI l,pI a,pI g,pI D,pI v1,pI v2,pB v5,pB v7,pI v9,pI v10,pI v13,pI v14,pI v15.op,pI v15.n,pLs cE v15.l,pI v16,pI v21,pI v22.op,pI v22.n,pLs cE v22.l,pI v23,pLs cE v28] []) (C:=[(1000002,.call ⟨66,[.o (.c (.p 900 0)),.o (.c (.k (.int .i64 10)))],[.bx 900 67 [.h 0,.h 1]],yh 4,[.bx 900 67 [.h 0,.h 5]]⟩),
  (1000005,.bin .eql 3 (yh 3) (LF (.k (.int .i64 0))) (yh 6)),
  (10006,.fb 6 false),
  (1000008,.bin .lss 3 (yh 4) (LF (.k (.int .i64 4))) (yh 7)),
  (10007,.fb 7 false),
  (1000011,.call ⟨66,[.o (.c (.p 900 0)),.o (.c (.k (.int .i64 5)))],[.bx 900 67 [.h 0,.h 5]],yh 8,[.bx 900 67 [.h 0,.h 9]]⟩),
  (1000012,.bin .add 3 (LF (.k (.int .i64 3))) (yh 8) (yh 10)),
  (1000017,.bin .sub 3 (yh 3) (LF (.k (.int .i64 1))) (yh 11)),
  (1000018,.call ⟨36,[.o (.c (.p 900 0)),yh 2,yh 11],[.bx 900 67 [.h 0,.h 9]],.o (.g [.h 12,.h 13,.h 14]),[.bx 900 67 [.h 0,.h 15]]⟩),
  (1000024,.bin .sub 3 (yh 3) (LF (.k (.int .i64 1))) (yh 16)),
  (1000025,.call ⟨36,[.o (.c (.p 900 0)),yh 2,yh 16],[.bx 900 67 [.h 0,.h 15]],.o (.g [.h 17,.h 18,.h 19]),[.bx 900 67 [.h 0,.h 20]]⟩),
  (1000031,.dat 32 2 [.h 12,.h 13,.h 14,.h 17,.h 18,.h 19] 21)]) (k:=⟨36,[.o (.c (.p 900 0)),yh 2,yh 3],[.bx 900 67 [.h 0,.h 1]],.o (.g [.h 10,.k (.int .i64 0),.h 21]),[.bx 900 67 [.h 0,.h 20]]⟩) 0 (zg ⟨(ze zt),za,za,za,za,za,za,za,za,za,za,za,za,za,(ze (zf rfl)),za,za,za,za,(ze (zf rfl)),za,(ze (zf rfl)),trivial⟩) ⟨b_con (pan:=false) (zaa (10:Int) l a v1 v2 e1 e2 s3 s4),
  e_bin (zb rfl) zd (zb rfl) (r_cmp (congrArg some e5)),
  e_fbv h6,
  e_bin (zb rfl) zd (zb rfl) (r_cmp (congrArg some e7)),
  e_fbv h8,
  b_con (pan:=false) (zaa (5:Int) l v2 v9 v10 e9 e10 s11 s12),
  e_bin zd (zb rfl) (zb rfl) (r_ar (congrArg some e13)),
  e_bin (zb rfl) zd (zb rfl) (r_ar (congrArg some e14)),
  b_con (pan:=false) (IH g v14 l v10 v15 v16 e15 e16 s17 s18 s19 s20),
  e_bin (zb rfl) zd (zb rfl) (r_ar (congrArg some e21)),
  b_con (pan:=false) (IH g v21 l v16 v22 v23 e22 e23 s24 s25 s26 s27),
  e_dat (c:=cE) (ps:=(pI v15.op::pI v15.n::pLs cE v15.l::pI v22.op::pI v22.n::pLs cE v22.l::[])) (qs:=(pI v15.op::pI v15.n::pLs cE v15.l::pI v22.op::pI v22.n::pLs cE v22.l::[])) (by rw [← e28];rfl) rfl rfl ((flatE _).trans rfl) (pimps (fun _ _ _ h=>h) <| pimps (fun _ _ _ h=>h) <| pimps (fun _ _ _ h=>h) <| pimps (fun _ _ _ h=>h) <| pimps (fun _ _ _ h=>h) <| pimps (fun _ _ _ h=>h) <| qo) rfl,
  trivial⟩ mixed (by kernel_rfl))
theorem zmy {w0:World} {N:Nat} (IH:q9 w0 N) (g D:Int) (l:List Int) (a:Int) (e:Xp) (p:Int) (he:(madeX g D.toNat (l.drop a.toNat)).1=e) (hp:posA l (madeX g D.toNat (l.drop a.toNat)).2=p) (hD:0≤D∧D.toNat<N+1) (hg:0≤g∧g≤4) (ha:0≤a∧a≤l.length) (hl:l.length<9223372036854775807) (hN:N≤1000):BFun false (KN w0) Tryz.prog 36 [.o (.c (.p 0 0)),.o (.c (.d (pI g))),.o (.c (.d (pI D)))] [(67,[.d (pLs cI l),.d (pI a)])] (.o (.g [.d (pI e.op),.d (pI e.n),.d (pLs cE e.l)])) [(67,[.d (pLs cI l),.d (pI p)])]:=by
 obtain ⟨v1,e1⟩:∃v,((drawX (l.drop (a:Int).toNat) (10:Int)).1)=v:=⟨_,rfl⟩
 obtain ⟨v2,e2⟩:∃v,(posA l (drawX (l.drop (a:Int).toNat) (10:Int)).2)=v:=⟨_,rfl⟩
 have s3:0≤a∧a≤l.length:=by exact ha
 have s4:l.length<9223372036854775807:=by exact hl
 obtain ⟨v5,e5⟩:∃v,((D == (0:Int)))=v:=⟨_,rfl⟩
 cases h6:v5 with
 | true =>
  obtain ⟨v7,e7⟩:∃v,((v1:Int).tmod (2:Int))=v:=⟨_,rfl⟩
  obtain ⟨v8,e8⟩:∃v,((v7 == (1:Int)))=v:=⟨_,rfl⟩
  cases h9:v8 with
  | true =>
   obtain ⟨v10,e10⟩:∃v,(decide (g > (0:Int)))=v:=⟨_,rfl⟩
   cases h11:v10 with
   | true =>
    obtain ⟨v12,e12⟩:∃v,((drawX (l.drop (v2:Int).toNat) g).1)=v:=⟨_,rfl⟩
    obtain ⟨v13,e13⟩:∃v,(posA l (drawX (l.drop (v2:Int).toNat) g).2)=v:=⟨_,rfl⟩
    have s14:0≤v2∧v2≤l.length:=by (have dh6:=eq_of_beq (e5.trans h6);have dh9:=eq_of_beq (e8.trans h9);have dh11:=of_decide_eq_true (e10.trans h11);have rv1:0≤v1∧v1<10:=(e1 ▸ zp (by omega) (by omega));have sv2:=zx ((zm _ _).trans (List.drop_suffix _ _)) e2;have qv7:v7=v1%2:=(by rw [← e7,Int.tmod_eq_emod_of_nonneg (by omega)]);have rv12:0≤v12∧v12<g:=(e12 ▸ zp (by omega) (by omega));have sv13:=zx ((zm _ _).trans (List.drop_suffix _ _)) e13;exact sv2.2)
    have s15:l.length<9223372036854775807:=by exact hl
    have r0:e=(Xp.mk (2:Int) v12 []):=by
     (have dh6:=eq_of_beq (e5.trans h6);have dh9:=eq_of_beq (e8.trans h9);have dh11:=of_decide_eq_true (e10.trans h11);have rv1:0≤v1∧v1<10:=(e1 ▸ zp (by omega) (by omega));have sv2:=zx ((zm _ _).trans (List.drop_suffix _ _)) e2;have qv7:v7=v1%2:=(by rw [← e7,Int.tmod_eq_emod_of_nonneg (by omega)]);have rv12:0≤v12∧v12<g:=(e12 ▸ zp (by omega) (by omega));have sv13:=zx ((zm _ _).trans (List.drop_suffix _ _)) e13;have z:=zc1 (g:=g) (D:=D) (L:=l.drop a.toNat) (by rw [e1];omega) (by rw [e1];omega) (by omega);rw [z,← sv2.1] at he hp;first | (rw [← hp];exact e13) | (rw [e12] at he;rw [← he]))
    have r1:p=v13:=by
     (have dh6:=eq_of_beq (e5.trans h6);have dh9:=eq_of_beq (e8.trans h9);have dh11:=of_decide_eq_true (e10.trans h11);have rv1:0≤v1∧v1<10:=(e1 ▸ zp (by omega) (by omega));have sv2:=zx ((zm _ _).trans (List.drop_suffix _ _)) e2;have qv7:v7=v1%2:=(by rw [← e7,Int.tmod_eq_emod_of_nonneg (by omega)]);have rv12:0≤v12∧v12<g:=(e12 ▸ zp (by omega) (by omega));have sv13:=zx ((zm _ _).trans (List.drop_suffix _ _)) e13;have z:=zc1 (g:=g) (D:=D) (L:=l.drop a.toNat) (by rw [e1];omega) (by rw [e1];omega) (by omega);rw [z,← sv2.1] at he hp;first | (rw [← hp];exact e13) | (rw [e12] at he;rw [← he]))
    rw [r0,r1];exact BFun.imp (zk1 l a g D N IH v1 v2 v5 v7 v8 v10 v12 v13 e1 e2 e5 e7 e8 e10 e12 e13 s3 s4 h6 h9 h11 s14 s15) (zbm) (fun _ _ _ h=>h)
   | false =>
    obtain ⟨v12,e12⟩:∃v,((drawX (l.drop (v2:Int).toNat) (17:Int)).1)=v:=⟨_,rfl⟩
    obtain ⟨v13,e13⟩:∃v,(posA l (drawX (l.drop (v2:Int).toNat) (17:Int)).2)=v:=⟨_,rfl⟩
    have s14:0≤v2∧v2≤l.length:=by (have dh6:=eq_of_beq (e5.trans h6);have dh9:=eq_of_beq (e8.trans h9);have dh11:=of_decide_eq_false (e10.trans h11);have rv1:0≤v1∧v1<10:=(e1 ▸ zp (by omega) (by omega));have sv2:=zx ((zm _ _).trans (List.drop_suffix _ _)) e2;have qv7:v7=v1%2:=(by rw [← e7,Int.tmod_eq_emod_of_nonneg (by omega)]);have rv12:0≤v12∧v12<17:=(e12 ▸ zp (by omega) (by omega));have sv13:=zx ((zm _ _).trans (List.drop_suffix _ _)) e13;exact sv2.2)
    have s15:l.length<9223372036854775807:=by exact hl
    obtain ⟨v16,e16⟩:∃v,(IntKind.i64.wrap (v12 - (8:Int)))=v:=⟨_,rfl⟩
    have r0:e=(Xp.mk (1:Int) v16 []):=by
     (have dh6:=eq_of_beq (e5.trans h6);have dh9:=eq_of_beq (e8.trans h9);have dh11:=of_decide_eq_false (e10.trans h11);have rv1:0≤v1∧v1<10:=(e1 ▸ zp (by omega) (by omega));have sv2:=zx ((zm _ _).trans (List.drop_suffix _ _)) e2;have qv7:v7=v1%2:=(by rw [← e7,Int.tmod_eq_emod_of_nonneg (by omega)]);have rv12:0≤v12∧v12<17:=(e12 ▸ zp (by omega) (by omega));have sv13:=zx ((zm _ _).trans (List.drop_suffix _ _)) e13;have qv16:v16=v12 - 8:=(by rw [← e16,wri (by omega)]);have z:=zaK (g:=g) (D:=D) (L:=l.drop a.toNat) (by rw [e1];omega) (by rw [e1];omega);rw [z,← sv2.1] at he hp;first | (rw [← hp];exact e13) | (rw [e12] at he;rw [← he,← qv16]))
    have r1:p=v13:=by
     (have dh6:=eq_of_beq (e5.trans h6);have dh9:=eq_of_beq (e8.trans h9);have dh11:=of_decide_eq_false (e10.trans h11);have rv1:0≤v1∧v1<10:=(e1 ▸ zp (by omega) (by omega));have sv2:=zx ((zm _ _).trans (List.drop_suffix _ _)) e2;have qv7:v7=v1%2:=(by rw [← e7,Int.tmod_eq_emod_of_nonneg (by omega)]);have rv12:0≤v12∧v12<17:=(e12 ▸ zp (by omega) (by omega));have sv13:=zx ((zm _ _).trans (List.drop_suffix _ _)) e13;have qv16:v16=v12 - 8:=(by rw [← e16,wri (by omega)]);have z:=zaK (g:=g) (D:=D) (L:=l.drop a.toNat) (by rw [e1];omega) (by rw [e1];omega);rw [z,← sv2.1] at he hp;first | (rw [← hp];exact e13) | (rw [e12] at he;rw [← he,← qv16]))
    rw [r0,r1];exact BFun.imp (zk2 l a g D N IH v1 v2 v5 v7 v8 v10 v12 v13 v16 e1 e2 e5 e7 e8 e10 e12 e13 e16 s3 s4 h6 h9 h11 s14 s15) (zbm) (fun _ _ _ h=>h)
  | false =>
   obtain ⟨v10,e10⟩:∃v,((drawX (l.drop (v2:Int).toNat) (17:Int)).1)=v:=⟨_,rfl⟩
   obtain ⟨v11,e11⟩:∃v,(posA l (drawX (l.drop (v2:Int).toNat) (17:Int)).2)=v:=⟨_,rfl⟩
   have s12:0≤v2∧v2≤l.length:=by (have dh6:=eq_of_beq (e5.trans h6);have dh9:=ne_of_beq_false (e8.trans h9);have rv1:0≤v1∧v1<10:=(e1 ▸ zp (by omega) (by omega));have sv2:=zx ((zm _ _).trans (List.drop_suffix _ _)) e2;have qv7:v7=v1%2:=(by rw [← e7,Int.tmod_eq_emod_of_nonneg (by omega)]);have rv10:0≤v10∧v10<17:=(e10 ▸ zp (by omega) (by omega));have sv11:=zx ((zm _ _).trans (List.drop_suffix _ _)) e11;exact sv2.2)
   have s13:l.length<9223372036854775807:=by exact hl
   obtain ⟨v14,e14⟩:∃v,(IntKind.i64.wrap (v10 - (8:Int)))=v:=⟨_,rfl⟩
   have r0:e=(Xp.mk (1:Int) v14 []):=by
    (have dh6:=eq_of_beq (e5.trans h6);have dh9:=ne_of_beq_false (e8.trans h9);have rv1:0≤v1∧v1<10:=(e1 ▸ zp (by omega) (by omega));have sv2:=zx ((zm _ _).trans (List.drop_suffix _ _)) e2;have qv7:v7=v1%2:=(by rw [← e7,Int.tmod_eq_emod_of_nonneg (by omega)]);have rv10:0≤v10∧v10<17:=(e10 ▸ zp (by omega) (by omega));have sv11:=zx ((zm _ _).trans (List.drop_suffix _ _)) e11;have qv14:v14=v10 - 8:=(by rw [← e14,wri (by omega)]);have z:=zaK (g:=g) (D:=D) (L:=l.drop a.toNat) (by rw [e1];omega) (by rw [e1];omega);rw [z,← sv2.1] at he hp;first | (rw [← hp];exact e11) | (rw [e10] at he;rw [← he,← qv14]))
   have r1:p=v11:=by
    (have dh6:=eq_of_beq (e5.trans h6);have dh9:=ne_of_beq_false (e8.trans h9);have rv1:0≤v1∧v1<10:=(e1 ▸ zp (by omega) (by omega));have sv2:=zx ((zm _ _).trans (List.drop_suffix _ _)) e2;have qv7:v7=v1%2:=(by rw [← e7,Int.tmod_eq_emod_of_nonneg (by omega)]);have rv10:0≤v10∧v10<17:=(e10 ▸ zp (by omega) (by omega));have sv11:=zx ((zm _ _).trans (List.drop_suffix _ _)) e11;have qv14:v14=v10 - 8:=(by rw [← e14,wri (by omega)]);have z:=zaK (g:=g) (D:=D) (L:=l.drop a.toNat) (by rw [e1];omega) (by rw [e1];omega);rw [z,← sv2.1] at he hp;first | (rw [← hp];exact e11) | (rw [e10] at he;rw [← he,← qv14]))
   rw [r0,r1];exact BFun.imp (zk3 l a g D N IH v1 v2 v5 v7 v8 v10 v11 v14 e1 e2 e5 e7 e8 e10 e11 e14 s3 s4 h6 h9 s12 s13) (zbm) (fun _ _ _ h=>h)
 | false =>
  obtain ⟨v7,e7⟩:∃v,(decide (v1<(4:Int)))=v:=⟨_,rfl⟩
  cases h8:v7 with
  | true =>
   obtain ⟨v9,e9⟩:∃v,((v1:Int).tmod (2:Int))=v:=⟨_,rfl⟩
   obtain ⟨v10,e10⟩:∃v,((v9 == (1:Int)))=v:=⟨_,rfl⟩
   cases h11:v10 with
   | true =>
    obtain ⟨v12,e12⟩:∃v,(decide (g > (0:Int)))=v:=⟨_,rfl⟩
    cases h13:v12 with
    | true =>
     obtain ⟨v14,e14⟩:∃v,((drawX (l.drop (v2:Int).toNat) g).1)=v:=⟨_,rfl⟩
     obtain ⟨v15,e15⟩:∃v,(posA l (drawX (l.drop (v2:Int).toNat) g).2)=v:=⟨_,rfl⟩
     have s16:0≤v2∧v2≤l.length:=by (have dh6:=ne_of_beq_false (e5.trans h6);have dh8:=of_decide_eq_true (e7.trans h8);have dh11:=eq_of_beq (e10.trans h11);have dh13:=of_decide_eq_true (e12.trans h13);have rv1:0≤v1∧v1<10:=(e1 ▸ zp (by omega) (by omega));have sv2:=zx ((zm _ _).trans (List.drop_suffix _ _)) e2;have qv9:v9=v1%2:=(by rw [← e9,Int.tmod_eq_emod_of_nonneg (by omega)]);have rv14:0≤v14∧v14<g:=(e14 ▸ zp (by omega) (by omega));have sv15:=zx ((zm _ _).trans (List.drop_suffix _ _)) e15;exact sv2.2)
     have s17:l.length<9223372036854775807:=by exact hl
     have r0:e=(Xp.mk (2:Int) v14 []):=by
      (have dh6:=ne_of_beq_false (e5.trans h6);have dh8:=of_decide_eq_true (e7.trans h8);have dh11:=eq_of_beq (e10.trans h11);have dh13:=of_decide_eq_true (e12.trans h13);have rv1:0≤v1∧v1<10:=(e1 ▸ zp (by omega) (by omega));have sv2:=zx ((zm _ _).trans (List.drop_suffix _ _)) e2;have qv9:v9=v1%2:=(by rw [← e9,Int.tmod_eq_emod_of_nonneg (by omega)]);have rv14:0≤v14∧v14<g:=(e14 ▸ zp (by omega) (by omega));have sv15:=zx ((zm _ _).trans (List.drop_suffix _ _)) e15;have z:=zc1 (g:=g) (D:=D) (L:=l.drop a.toNat) (by rw [e1];omega) (by rw [e1];omega) (by omega);rw [z,← sv2.1] at he hp;first | (rw [← hp];exact e15) | (rw [e14] at he;rw [← he]))
     have r1:p=v15:=by
      (have dh6:=ne_of_beq_false (e5.trans h6);have dh8:=of_decide_eq_true (e7.trans h8);have dh11:=eq_of_beq (e10.trans h11);have dh13:=of_decide_eq_true (e12.trans h13);have rv1:0≤v1∧v1<10:=(e1 ▸ zp (by omega) (by omega));have sv2:=zx ((zm _ _).trans (List.drop_suffix _ _)) e2;have qv9:v9=v1%2:=(by rw [← e9,Int.tmod_eq_emod_of_nonneg (by omega)]);have rv14:0≤v14∧v14<g:=(e14 ▸ zp (by omega) (by omega));have sv15:=zx ((zm _ _).trans (List.drop_suffix _ _)) e15;have z:=zc1 (g:=g) (D:=D) (L:=l.drop a.toNat) (by rw [e1];omega) (by rw [e1];omega) (by omega);rw [z,← sv2.1] at he hp;first | (rw [← hp];exact e15) | (rw [e14] at he;rw [← he]))
     rw [r0,r1];exact BFun.imp (zk4 l a g D N IH v1 v2 v5 v7 v9 v10 v12 v14 v15 e1 e2 e5 e7 e9 e10 e12 e14 e15 s3 s4 h6 h8 h11 h13 s16 s17) (zbm) (fun _ _ _ h=>h)
    | false =>
     obtain ⟨v14,e14⟩:∃v,((drawX (l.drop (v2:Int).toNat) (17:Int)).1)=v:=⟨_,rfl⟩
     obtain ⟨v15,e15⟩:∃v,(posA l (drawX (l.drop (v2:Int).toNat) (17:Int)).2)=v:=⟨_,rfl⟩
     have s16:0≤v2∧v2≤l.length:=by (have dh6:=ne_of_beq_false (e5.trans h6);have dh8:=of_decide_eq_true (e7.trans h8);have dh11:=eq_of_beq (e10.trans h11);have dh13:=of_decide_eq_false (e12.trans h13);have rv1:0≤v1∧v1<10:=(e1 ▸ zp (by omega) (by omega));have sv2:=zx ((zm _ _).trans (List.drop_suffix _ _)) e2;have qv9:v9=v1%2:=(by rw [← e9,Int.tmod_eq_emod_of_nonneg (by omega)]);have rv14:0≤v14∧v14<17:=(e14 ▸ zp (by omega) (by omega));have sv15:=zx ((zm _ _).trans (List.drop_suffix _ _)) e15;exact sv2.2)
     have s17:l.length<9223372036854775807:=by exact hl
     obtain ⟨v18,e18⟩:∃v,(IntKind.i64.wrap (v14 - (8:Int)))=v:=⟨_,rfl⟩
     have r0:e=(Xp.mk (1:Int) v18 []):=by
      (have dh6:=ne_of_beq_false (e5.trans h6);have dh8:=of_decide_eq_true (e7.trans h8);have dh11:=eq_of_beq (e10.trans h11);have dh13:=of_decide_eq_false (e12.trans h13);have rv1:0≤v1∧v1<10:=(e1 ▸ zp (by omega) (by omega));have sv2:=zx ((zm _ _).trans (List.drop_suffix _ _)) e2;have qv9:v9=v1%2:=(by rw [← e9,Int.tmod_eq_emod_of_nonneg (by omega)]);have rv14:0≤v14∧v14<17:=(e14 ▸ zp (by omega) (by omega));have sv15:=zx ((zm _ _).trans (List.drop_suffix _ _)) e15;have qv18:v18=v14 - 8:=(by rw [← e18,wri (by omega)]);have z:=zaK (g:=g) (D:=D) (L:=l.drop a.toNat) (by rw [e1];omega) (by rw [e1];omega);rw [z,← sv2.1] at he hp;first | (rw [← hp];exact e15) | (rw [e14] at he;rw [← he,← qv18]))
     have r1:p=v15:=by
      (have dh6:=ne_of_beq_false (e5.trans h6);have dh8:=of_decide_eq_true (e7.trans h8);have dh11:=eq_of_beq (e10.trans h11);have dh13:=of_decide_eq_false (e12.trans h13);have rv1:0≤v1∧v1<10:=(e1 ▸ zp (by omega) (by omega));have sv2:=zx ((zm _ _).trans (List.drop_suffix _ _)) e2;have qv9:v9=v1%2:=(by rw [← e9,Int.tmod_eq_emod_of_nonneg (by omega)]);have rv14:0≤v14∧v14<17:=(e14 ▸ zp (by omega) (by omega));have sv15:=zx ((zm _ _).trans (List.drop_suffix _ _)) e15;have qv18:v18=v14 - 8:=(by rw [← e18,wri (by omega)]);have z:=zaK (g:=g) (D:=D) (L:=l.drop a.toNat) (by rw [e1];omega) (by rw [e1];omega);rw [z,← sv2.1] at he hp;first | (rw [← hp];exact e15) | (rw [e14] at he;rw [← he,← qv18]))
     rw [r0,r1];exact BFun.imp (zk5 l a g D N IH v1 v2 v5 v7 v9 v10 v12 v14 v15 v18 e1 e2 e5 e7 e9 e10 e12 e14 e15 e18 s3 s4 h6 h8 h11 h13 s16 s17) (zbm) (fun _ _ _ h=>h)
   | false =>
    obtain ⟨v12,e12⟩:∃v,((drawX (l.drop (v2:Int).toNat) (17:Int)).1)=v:=⟨_,rfl⟩
    obtain ⟨v13,e13⟩:∃v,(posA l (drawX (l.drop (v2:Int).toNat) (17:Int)).2)=v:=⟨_,rfl⟩
    have s14:0≤v2∧v2≤l.length:=by (have dh6:=ne_of_beq_false (e5.trans h6);have dh8:=of_decide_eq_true (e7.trans h8);have dh11:=ne_of_beq_false (e10.trans h11);have rv1:0≤v1∧v1<10:=(e1 ▸ zp (by omega) (by omega));have sv2:=zx ((zm _ _).trans (List.drop_suffix _ _)) e2;have qv9:v9=v1%2:=(by rw [← e9,Int.tmod_eq_emod_of_nonneg (by omega)]);have rv12:0≤v12∧v12<17:=(e12 ▸ zp (by omega) (by omega));have sv13:=zx ((zm _ _).trans (List.drop_suffix _ _)) e13;exact sv2.2)
    have s15:l.length<9223372036854775807:=by exact hl
    obtain ⟨v16,e16⟩:∃v,(IntKind.i64.wrap (v12 - (8:Int)))=v:=⟨_,rfl⟩
    have r0:e=(Xp.mk (1:Int) v16 []):=by
     (have dh6:=ne_of_beq_false (e5.trans h6);have dh8:=of_decide_eq_true (e7.trans h8);have dh11:=ne_of_beq_false (e10.trans h11);have rv1:0≤v1∧v1<10:=(e1 ▸ zp (by omega) (by omega));have sv2:=zx ((zm _ _).trans (List.drop_suffix _ _)) e2;have qv9:v9=v1%2:=(by rw [← e9,Int.tmod_eq_emod_of_nonneg (by omega)]);have rv12:0≤v12∧v12<17:=(e12 ▸ zp (by omega) (by omega));have sv13:=zx ((zm _ _).trans (List.drop_suffix _ _)) e13;have qv16:v16=v12 - 8:=(by rw [← e16,wri (by omega)]);have z:=zaK (g:=g) (D:=D) (L:=l.drop a.toNat) (by rw [e1];omega) (by rw [e1];omega);rw [z,← sv2.1] at he hp;first | (rw [← hp];exact e13) | (rw [e12] at he;rw [← he,← qv16]))
    have r1:p=v13:=by
     (have dh6:=ne_of_beq_false (e5.trans h6);have dh8:=of_decide_eq_true (e7.trans h8);have dh11:=ne_of_beq_false (e10.trans h11);have rv1:0≤v1∧v1<10:=(e1 ▸ zp (by omega) (by omega));have sv2:=zx ((zm _ _).trans (List.drop_suffix _ _)) e2;have qv9:v9=v1%2:=(by rw [← e9,Int.tmod_eq_emod_of_nonneg (by omega)]);have rv12:0≤v12∧v12<17:=(e12 ▸ zp (by omega) (by omega));have sv13:=zx ((zm _ _).trans (List.drop_suffix _ _)) e13;have qv16:v16=v12 - 8:=(by rw [← e16,wri (by omega)]);have z:=zaK (g:=g) (D:=D) (L:=l.drop a.toNat) (by rw [e1];omega) (by rw [e1];omega);rw [z,← sv2.1] at he hp;first | (rw [← hp];exact e13) | (rw [e12] at he;rw [← he,← qv16]))
    rw [r0,r1];exact BFun.imp (zk6 l a g D N IH v1 v2 v5 v7 v9 v10 v12 v13 v16 e1 e2 e5 e7 e9 e10 e12 e13 e16 s3 s4 h6 h8 h11 s14 s15) (zbm) (fun _ _ _ h=>h)
  | false =>
   obtain ⟨v9,e9⟩:∃v,((drawX (l.drop (v2:Int).toNat) (5:Int)).1)=v:=⟨_,rfl⟩
   obtain ⟨v10,e10⟩:∃v,(posA l (drawX (l.drop (v2:Int).toNat) (5:Int)).2)=v:=⟨_,rfl⟩
   have s11:0≤v2∧v2≤l.length:=by (have dh6:=ne_of_beq_false (e5.trans h6);have dh8:=of_decide_eq_false (e7.trans h8);have rv1:0≤v1∧v1<10:=(e1 ▸ zp (by omega) (by omega));have sv2:=zx ((zm _ _).trans (List.drop_suffix _ _)) e2;have rv9:0≤v9∧v9<5:=(e9 ▸ zp (by omega) (by omega));have sv10:=zx ((zm _ _).trans (List.drop_suffix _ _)) e10;exact sv2.2)
   have s12:l.length<9223372036854775807:=by exact hl
   obtain ⟨v13,e13⟩:∃v,(IntKind.i64.wrap ((3:Int)+v9))=v:=⟨_,rfl⟩
   obtain ⟨v14,e14⟩:∃v,(IntKind.i64.wrap (D - (1:Int)))=v:=⟨_,rfl⟩
   obtain ⟨v15,e15⟩:∃v,((madeX g (v14:Int).toNat (l.drop (v10:Int).toNat)).1)=v:=⟨_,rfl⟩
   obtain ⟨v16,e16⟩:∃v,(posA l (madeX g (v14:Int).toNat (l.drop (v10:Int).toNat)).2)=v:=⟨_,rfl⟩
   have s17:0≤v14∧(v14:Int).toNat<N:=by (have dh6:=ne_of_beq_false (e5.trans h6);have dh8:=of_decide_eq_false (e7.trans h8);have rv1:0≤v1∧v1<10:=(e1 ▸ zp (by omega) (by omega));have sv2:=zx ((zm _ _).trans (List.drop_suffix _ _)) e2;have rv9:0≤v9∧v9<5:=(e9 ▸ zp (by omega) (by omega));have sv10:=zx ((zm _ _).trans (List.drop_suffix _ _)) e10;have qv13:v13=3+v9:=(by rw [← e13,wri (by omega)]);have qv14:v14=D - 1:=(by rw [← e14,wri (by omega)]);have sv16:=zx ((qM _ _ _).trans (List.drop_suffix _ _)) e16;omega)
   have s18:0≤g∧g≤4:=by exact hg
   have s19:0≤v10∧v10≤l.length:=by (have dh6:=ne_of_beq_false (e5.trans h6);have dh8:=of_decide_eq_false (e7.trans h8);have rv1:0≤v1∧v1<10:=(e1 ▸ zp (by omega) (by omega));have sv2:=zx ((zm _ _).trans (List.drop_suffix _ _)) e2;have rv9:0≤v9∧v9<5:=(e9 ▸ zp (by omega) (by omega));have sv10:=zx ((zm _ _).trans (List.drop_suffix _ _)) e10;have qv13:v13=3+v9:=(by rw [← e13,wri (by omega)]);have qv14:v14=D - 1:=(by rw [← e14,wri (by omega)]);have sv16:=zx ((qM _ _ _).trans (List.drop_suffix _ _)) e16;exact sv10.2)
   have s20:l.length<9223372036854775807:=by exact hl
   obtain ⟨v21,e21⟩:∃v,(IntKind.i64.wrap (D - (1:Int)))=v:=⟨_,rfl⟩
   obtain ⟨v22,e22⟩:∃v,((madeX g (v21:Int).toNat (l.drop (v16:Int).toNat)).1)=v:=⟨_,rfl⟩
   obtain ⟨v23,e23⟩:∃v,(posA l (madeX g (v21:Int).toNat (l.drop (v16:Int).toNat)).2)=v:=⟨_,rfl⟩
   have s24:0≤v21∧(v21:Int).toNat<N:=by (have dh6:=ne_of_beq_false (e5.trans h6);have dh8:=of_decide_eq_false (e7.trans h8);have rv1:0≤v1∧v1<10:=(e1 ▸ zp (by omega) (by omega));have sv2:=zx ((zm _ _).trans (List.drop_suffix _ _)) e2;have rv9:0≤v9∧v9<5:=(e9 ▸ zp (by omega) (by omega));have sv10:=zx ((zm _ _).trans (List.drop_suffix _ _)) e10;have qv13:v13=3+v9:=(by rw [← e13,wri (by omega)]);have qv14:v14=D - 1:=(by rw [← e14,wri (by omega)]);have sv16:=zx ((qM _ _ _).trans (List.drop_suffix _ _)) e16;have qv21:v21=D - 1:=(by rw [← e21,wri (by omega)]);have sv23:=zx ((qM _ _ _).trans (List.drop_suffix _ _)) e23;omega)
   have s25:0≤g∧g≤4:=by exact hg
   have s26:0≤v16∧v16≤l.length:=by (have dh6:=ne_of_beq_false (e5.trans h6);have dh8:=of_decide_eq_false (e7.trans h8);have rv1:0≤v1∧v1<10:=(e1 ▸ zp (by omega) (by omega));have sv2:=zx ((zm _ _).trans (List.drop_suffix _ _)) e2;have rv9:0≤v9∧v9<5:=(e9 ▸ zp (by omega) (by omega));have sv10:=zx ((zm _ _).trans (List.drop_suffix _ _)) e10;have qv13:v13=3+v9:=(by rw [← e13,wri (by omega)]);have qv14:v14=D - 1:=(by rw [← e14,wri (by omega)]);have sv16:=zx ((qM _ _ _).trans (List.drop_suffix _ _)) e16;have qv21:v21=D - 1:=(by rw [← e21,wri (by omega)]);have sv23:=zx ((qM _ _ _).trans (List.drop_suffix _ _)) e23;exact sv16.2)
   have s27:l.length<9223372036854775807:=by exact hl
   obtain ⟨v28,e28⟩:∃v,(([v15,v22]:List Xp))=v:=⟨_,rfl⟩
   have r0:e=(Xp.mk v13 (0:Int) v28):=by
    (have dh6:=ne_of_beq_false (e5.trans h6);have dh8:=of_decide_eq_false (e7.trans h8);have rv1:0≤v1∧v1<10:=(e1 ▸ zp (by omega) (by omega));have sv2:=zx ((zm _ _).trans (List.drop_suffix _ _)) e2;have rv9:0≤v9∧v9<5:=(e9 ▸ zp (by omega) (by omega));have sv10:=zx ((zm _ _).trans (List.drop_suffix _ _)) e10;have qv13:v13=3+v9:=(by rw [← e13,wri (by omega)]);have qv14:v14=D - 1:=(by rw [← e14,wri (by omega)]);have sv16:=zx ((qM _ _ _).trans (List.drop_suffix _ _)) e16;have qv21:v21=D - 1:=(by rw [← e21,wri (by omega)]);have sv23:=zx ((qM _ _ _).trans (List.drop_suffix _ _)) e23;have y:v21=v14:=(by omega);subst y;have z:=zj0 (g:=g) (D:=D) (L:=l.drop a.toNat) (by omega) (by rw [e1];omega);rw [z,← sv2.1,← sv10.1,← qv21,← sv16.1] at he hp;first | (rw [← hp];exact e23) | (rw [e9,e15,e22,← qv13,e28] at he;exact he.symm))
   have r1:p=v23:=by
    (have dh6:=ne_of_beq_false (e5.trans h6);have dh8:=of_decide_eq_false (e7.trans h8);have rv1:0≤v1∧v1<10:=(e1 ▸ zp (by omega) (by omega));have sv2:=zx ((zm _ _).trans (List.drop_suffix _ _)) e2;have rv9:0≤v9∧v9<5:=(e9 ▸ zp (by omega) (by omega));have sv10:=zx ((zm _ _).trans (List.drop_suffix _ _)) e10;have qv13:v13=3+v9:=(by rw [← e13,wri (by omega)]);have qv14:v14=D - 1:=(by rw [← e14,wri (by omega)]);have sv16:=zx ((qM _ _ _).trans (List.drop_suffix _ _)) e16;have qv21:v21=D - 1:=(by rw [← e21,wri (by omega)]);have sv23:=zx ((qM _ _ _).trans (List.drop_suffix _ _)) e23;have y:v21=v14:=(by omega);subst y;have z:=zj0 (g:=g) (D:=D) (L:=l.drop a.toNat) (by omega) (by rw [e1];omega);rw [z,← sv2.1,← sv10.1,← qv21,← sv16.1] at he hp;first | (rw [← hp];exact e23) | (rw [e9,e15,e22,← qv13,e28] at he;exact he.symm))
   rw [r0,r1];exact zk7 l a g D N IH v1 v2 v5 v7 v9 v10 v13 v14 v15 v16 v21 v22 v23 v28 e1 e2 e5 e7 e9 e10 e13 e14 e15 e16 e21 e22 e23 e28 s3 s4 h6 h8 s11 s12 s17 s18 s19 s20 s24 s25 s26 s27
theorem zel {w0:World}:∀N:Nat,N≤1000→q9 w0 N
 | 0,_=>fun g D l a e p he hp hD=>absurd hD.2 (by omega)
 | N+1,h=>fun g D l a e p he hp hD hg ha hl=>zmy (zel N (by omega)) g D l a e p he hp hD hg ha hl (by omega)
theorem zov {w0:World} (g D:Int) (l:List Int) (a:Int) (e:Xp) (p:Int) (he:(madeX g D.toNat (l.drop a.toNat)).1=e) (hp:posA l (madeX g D.toNat (l.drop a.toNat)).2=p) (hD:0≤D∧D≤10) (hg:0≤g∧g≤4) (ha:0≤a∧a≤l.length) (hl:l.length<9223372036854775807):BFun false (KN w0) Tryz.prog 36 [.o (.c (.p 0 0)),.o (.c (.d (pI g))),.o (.c (.d (pI D)))] [(67,[.d (pLs cI l),.d (pI a)])] (.o (.g [.d (pI e.op),.d (pI e.n),.d (pLs cE e.l)])) [(67,[.d (pLs cI l),.d (pI p)])]:=zel 1000 (by omega) g D l a e p he hp (by omega) hg ha hl
def madE (l:List Int):Xp:=(madeX 3 3 l).1
theorem zkM {w0:World} (l:(List Int)) (g:Int) (v1:Int) (v2:Xp) (v3:Int) (e1:((if (4:Int)<g then (4:Int) else g))=v1) (e2:((madeX v1 ((3:Int):Int).toNat (l.drop ((0:Int):Int).toNat)).1)=v2) (e3:(posA l (madeX v1 ((3:Int):Int).toNat (l.drop ((0:Int):Int).toNat)).2)=v3) (s4:0≤(3:Int)∧(3:Int)≤10) (s5:0≤v1∧v1≤4) (s6:0≤(0:Int)∧(0:Int)≤l.length) (s7:l.length<9223372036854775807):Fun (KN w0) Tryz.prog 17 [.o (.c (pLs cI l)),.o (.c (pI g))] (.o (.g [pI v2.op,pI v2.n,pLs cE v2.l])):=
 zk (zr (F:=FL [pLs cI l,pI g,pI v1,pI v2.op,pI v2.n,pLs cE v2.l,pI v3] []) (C:=[(1000005,.op (.min [3,3] 3) [yh 1,LF (.k (.int .i64 4))] [] (yh 2)),
  (1000006,.call ⟨36,[.o (.c (.p 3 0)),yh 2,.o (.c (.k (.int .i64 3)))],[.bx 3 67 [.h 0,.k (.int .i64 0)]],.o (.g [.h 3,.h 4,.h 5]),[.bx 3 67 [.h 0,.h 6]]⟩)]) (k:=⟨17,[yh 0,yh 1],[],.o (.g [.h 3,.h 4,.h 5]),[]⟩) 0 (zg ⟨(ze zt),za,za,za,za,(ze (zf rfl)),za,trivial⟩) ⟨e_op2 (zb rfl) zd (zb rfl) (fun W=>by rw [← e1];exact zaV W),
  b_con (pan:=false) (zov v1 (3:Int) l (0:Int) v2 v3 e2 e3 s4 s5 s6 s7),
  trivial⟩ mixed (by kernel_rfl))
theorem zps {w0:World} (l:List Int) (g:Int) (e:Xp) (he:madE l=e) (hg:g=3) (hl:l.length<9223372036854775807):Fun (KN w0) Tryz.prog 17 [.o (.c (pLs cI l)),.o (.c (pI g))] (.o (.g [pI e.op,pI e.n,pLs cE e.l])):=by
 obtain ⟨v1,e1⟩:∃v,((if (4:Int)<g then (4:Int) else g))=v:=⟨_,rfl⟩
 obtain ⟨v2,e2⟩:∃v,((madeX v1 ((3:Int):Int).toNat (l.drop ((0:Int):Int).toNat)).1)=v:=⟨_,rfl⟩
 obtain ⟨v3,e3⟩:∃v,(posA l (madeX v1 ((3:Int):Int).toNat (l.drop ((0:Int):Int).toNat)).2)=v:=⟨_,rfl⟩
 have s4:0≤(3:Int)∧(3:Int)≤10:=by omega
 have s5:0≤v1∧v1≤4:=by (rw [hg,if_neg (by decide)] at e1;omega)
 have s6:0≤(0:Int)∧(0:Int)≤l.length:=by omega
 have s7:l.length<9223372036854775807:=by exact hl
 refine Fun.imp (zkM l g v1 v2 v3 e1 e2 e3 s4 s5 s6 s7) (fun _ _ _ h=>h) (fun v W D h=>?_)
 have r0:e=v2:=by
  (rw [hg,if_neg (by decide)] at e1;subst e1;rw [← he,← e2];rfl)
 rw [r0];exact h
end Go.Proofs.YtdkofaajcpcjkaaGreatDoor
namespace Go.Proofs.YtdkofaajcpcjkaaGreatDoor
open Go.RowKit
def oddT (e:Xp) (q:Int×Int×Int):Xp:=oddX e q.1 q.2.1 q.2.2
theorem zns {w0:World} (e:Xp) (q:Int×Int×Int) (r:Xp) (hr:oddT e q=r) (hn:nodes e≤1000000):Fun (KN w0) Tryz.prog 18 [.o (.g [pI e.op,pI e.n,pLs cE e.l]),.o (.g [pI q.1,pI q.2.1,pI q.2.2])] (.o (.g [pI r.op,pI r.n,pLs cE r.l])):=x_odd e q.1 q.2.1 q.2.2 r hr hn
def allX (c:List Int) (q p:Int×Int×Int):List Xp:=[madE c,oddT (madE c) q,oddT (oddT (madE c) q) p,.mk 3 0 [madE c,oddT (madE c) q]]
theorem zjZ (l:List Int):Vx 3 (madE l)∧nodes (madE l)≤15:=by
 obtain ⟨h1,h2⟩:=zlZ (args:=3) (by decide) (by decide) 3 l
 exact ⟨h1,by unfold madE;omega⟩
theorem zhL:∀x:Xp,nodes x=1+zw x.l
 | .mk o n l=>by rw [nodes];rfl
theorem zd2:∀(l:List Xp) (j:Nat) (y z:Xp),l[j]?=some y→zw (l.set j z)+nodes y=zw l+nodes z
 | [],j,y,z,h=>by cases h
 | x::r,0,y,z,h=>by
  injection h with h;subst h
  rw [List.set_cons_zero,zw,zw];omega
 | x::r,j+1,y,z,h=>by
  have:=zd2 r j y z (by simpa using h)
  rw [List.set_cons_succ,zw,zw];omega
theorem zfj:∀(n:Nat) (p:Int) (c:Xp×(Xp→Xp)) (k:Nat),(∀z,nodes (c.2 z)+nodes c.1=k+nodes z)→∀z,nodes ((desc n p c).2 z)+nodes (desc n p c).1=k+nodes z
 | 0,_,_,_,h=>h
 | n+1,p,c,k,h=>by
  rw [desc]
  split
  ·split
   ·rename_i y hy
    refine zfj n (p / 3) _ k fun z=>?_
    have h1:=h (.mk c.1.op c.1.n (c.1.l.set (min (p%3 - 1) ((c.1.l.length:Int) - 1)).toNat z))
    have h2:=zd2 _ _ _ z hy
    have h3:=zhL c.1
    rw [nodes] at h1
    show nodes (c.2 _)+nodes y=_
    omega
   ·exact h
  ·exact h
theorem zfy (e:Xp):∀k,nodes (oddW k e)=nodes e+2*k
 | 0=>rfl
 | k+1=>by rw [oddW,nodes,zw,zw,zw,zfy e k,nodes,zw];omega
theorem zb6 (a b:List Xp):zw (a++b)=zw a+zw b:=by
 induction a with
 | nil=>rw [List.nil_append,zw];omega
 | cons x r ih=>rw [List.cons_append,zw,zw,ih];omega
theorem zgw (l:List Xp) (k:Nat):zw (l.take k)≤zw l:=by
 have:=zb6 (l.take k) (l.drop k)
 rw [List.take_append_drop] at this
 omega
theorem zc2 (e:Xp) (q:Int×Int×Int):nodes (oddT e q)≤nodes e+26:=by
 unfold oddT oddX
 have hs:=zfj 64 (modX q.2.1 64) (e,id) (nodes e) (fun z=>by show nodes z+nodes e=_;omega)
 generalize desc 64 (modX q.2.1 64) (e,id)=c at hs ⊢
 dsimp only
 have hc:=zhL c.1
 have key:∀z,nodes z≤nodes c.1+26→nodes (c.2 z)≤nodes e+26:=fun z hz=>by have:=hs z;omega
 split
 ·exact key _ (by rw [nodes];omega)
 ·split
  ·exact key _ (by rw [nodes];omega)
  ·split
   ·exact key _ (by rw [nodes,zb6,zw,zw,nodes,zw];omega)
   ·split
    ·refine key _ ?_
     rw [nodes]
     have:=zgw c.1.l (c.1.l.length / 2)
     omega
    ·split
     ·exact key _ (by rw [nodes,zw,zw,zw,nodes,zw];omega)
     ·rw [zfy];omega
theorem zlG {c:List Int} {q p:Int×Int×Int}:∀x∈allX c q p,nodes x≤1000:=by
 intro x hx
 have h1:=(zjZ c).2
 have h2:=zc2 (madE c) q
 have h3:=zc2 (oddT (madE c) q) p
 simp only [allX,List.mem_cons,List.not_mem_nil,or_false] at hx
 rcases hx with rfl | rfl | rfl | rfl
 ·omega
 ·omega
 ·omega
 ·rw [nodes,zw,zw,zw];omega
theorem zmf {w0:World} (c:(List Int)) (cq:(Int×Int×Int)) (cp:(Int×Int×Int)) (v1:Xp) (v4:Xp) (v6:Xp) (v8:Xp) (v9:(List Xp)) (e1:(madE c)=v1) (e4:(oddT v1 cq)=v4) (e6:(oddT v4 cp)=v6) (e8:((Xp.mk (3:Int) 0 [v1,v4]))=v8) (e9:(([v1,v4,v6,v8]:List Xp))=v9) (s2:(3:Int)=3) (s3:c.length<9223372036854775807) (s5:nodes v1≤1000000) (s7:nodes v4≤1000000):Fun (KN w0) Tryz.prog 5 [.o (.g [pLs cI c,pI cq.1,pI cq.2.1,pI cq.2.2,pI cp.1,pI cp.2.1,pI cp.2.2])] (.o (.c (pLs cE v9))):=
 zk (zr (F:=FL [pLs cI c,pI cq.1,pI cq.2.1,pI cq.2.2,pI cp.1,pI cp.2.1,pI cp.2.2,pI v1.op,pI v1.n,pLs cE v1.l,pI v4.op,pI v4.n,pLs cE v4.l,pI v6.op,pI v6.n,pLs cE v6.l,pI v8.op,pI v8.n,pLs cE v8.l,pLs cE v9] []) (C:=[(1000004,.call ⟨17,[yh 0,.o (.c (.k (.int .i64 3)))],[],.o (.g [.h 7,.h 8,.h 9]),[]⟩),
  (1000011,.call ⟨18,[.o (.g [.h 7,.h 8,.h 9]),.o (.g [.h 1,.h 2,.h 3])],[],.o (.g [.h 10,.h 11,.h 12]),[]⟩),
  (1000020,.call ⟨18,[.o (.g [.h 10,.h 11,.h 12]),.o (.g [.h 4,.h 5,.h 6])],[],.o (.g [.h 13,.h 14,.h 15]),[]⟩),
  (1000023,.call ⟨11,[.o (.c (.k (.int .i64 3))),.o (.g [.h 7,.h 8,.h 9]),.o (.g [.h 10,.h 11,.h 12])],[],.o (.g [.h 16,.h 17,.h 18]),[]⟩),
  (1000024,.dat 32 4 [.h 7,.h 8,.h 9,.h 10,.h 11,.h 12,.h 13,.h 14,.h 15,.h 16,.h 17,.h 18] 19)]) (k:=⟨5,[.o (.g [.h 0,.h 1,.h 2,.h 3,.h 4,.h 5,.h 6])],[],yh 19,[]⟩) 0 (zg ⟨(ze zt),za,za,za,za,za,za,za,za,(ze (zf rfl)),za,za,(ze (zf rfl)),za,za,(ze (zf rfl)),za,za,(ze (zf rfl)),(ze (zf rfl)),trivial⟩) ⟨zh (zps c (3:Int) v1 e1 s2 s3),
  zh (zns v1 cq v4 e4 s5),
  zh (zns v4 cp v6 e6 s7),
  zh (x_opL (3:Int) v1 v4 v8 e8),
  e_dat (c:=cE) (ps:=(pI v1.op::pI v1.n::pLs cE v1.l::pI v4.op::pI v4.n::pLs cE v4.l::pI v6.op::pI v6.n::pLs cE v6.l::pI v8.op::pI v8.n::pLs cE v8.l::[])) (qs:=(pI v1.op::pI v1.n::pLs cE v1.l::pI v4.op::pI v4.n::pLs cE v4.l::pI v6.op::pI v6.n::pLs cE v6.l::pI v8.op::pI v8.n::pLs cE v8.l::[])) (by rw [← e9];rfl) rfl rfl ((flatE _).trans rfl) (pimps (fun _ _ _ h=>h) <| pimps (fun _ _ _ h=>h) <| pimps (fun _ _ _ h=>h) <| pimps (fun _ _ _ h=>h) <| pimps (fun _ _ _ h=>h) <| pimps (fun _ _ _ h=>h) <| pimps (fun _ _ _ h=>h) <| pimps (fun _ _ _ h=>h) <| pimps (fun _ _ _ h=>h) <| pimps (fun _ _ _ h=>h) <| pimps (fun _ _ _ h=>h) <| pimps (fun _ _ _ h=>h) <| qo) rfl,
  trivial⟩ mixed (by kernel_rfl))
theorem x_all {w0:World} (c:List Int) (cq cp:Int×Int×Int) (r:List Xp) (hr:allX c cq cp=r) (hl:c.length<9223372036854775807):Fun (KN w0) Tryz.prog 5 [.o (.g [pLs cI c,pI cq.1,pI cq.2.1,pI cq.2.2,pI cp.1,pI cp.2.1,pI cp.2.2])] (.o (.c (pLs cE r))):=by
 obtain ⟨v1,e1⟩:∃v,(madE c)=v:=⟨_,rfl⟩
 have s2:(3:Int)=3:=by rfl
 have s3:c.length<9223372036854775807:=by exact hl
 obtain ⟨v4,e4⟩:∃v,(oddT v1 cq)=v:=⟨_,rfl⟩
 have s5:nodes v1≤1000000:=by (subst_vars;have a1:=(zjZ c).2;have a2:=zc2 (madE c) cq;omega)
 obtain ⟨v6,e6⟩:∃v,(oddT v4 cp)=v:=⟨_,rfl⟩
 have s7:nodes v4≤1000000:=by (subst_vars;have a1:=(zjZ c).2;have a2:=zc2 (madE c) cq;omega)
 obtain ⟨v8,e8⟩:∃v,((Xp.mk (3:Int) 0 [v1,v4]))=v:=⟨_,rfl⟩
 obtain ⟨v9,e9⟩:∃v,(([v1,v4,v6,v8]:List Xp))=v:=⟨_,rfl⟩
 refine Fun.imp (zmf c cq cp v1 v4 v6 v8 v9 e1 e4 e6 e8 e9 s2 s3 s5 s7) (fun _ _ _ h=>h) (fun v W D h=>?_)
 have r0:r=v9:=by
  (subst_vars;rfl)
 rw [r0];exact h
theorem zpt {w0:World} (c:List Int×(Int×Int×Int)×(Int×Int×Int)) (r:List Xp) (hr:allX c.1 c.2.1 c.2.2=r) (hl:c.1.length<9223372036854775807):Fun (KN w0) Tryz.prog 5 [.o (.g [pLs cI c.1,pI c.2.1.1,pI c.2.1.2.1,pI c.2.1.2.2,pI c.2.2.1,pI c.2.2.2.1,pI c.2.2.2.2])] (.o (.c (pLs cE r))):=x_all c.1 c.2.1 c.2.2 r hr hl
end Go.Proofs.YtdkofaajcpcjkaaGreatDoor
namespace Go.Proofs.YtdkofaajcpcjkaaGreatDoor
open Go.RowKit
theorem it1:Lib.itoa 1=[49]:=zV (by decide) (by decide)
theorem it2:Lib.itoa 2=[50]:=zV (by decide) (by decide)
theorem it4:Lib.itoa 4=[52]:=zV (by decide) (by decide)
theorem it5:Lib.itoa (-5)=[45,53]:=by rw [zdZ (by decide)];exact congrArg _ (zV (by decide) (by decide))
theorem itBig:Lib.itoa 1048577=[49,48,52,56,53,55,55]:=by
 rw [zaz (by decide)]
 rw [show (1048577:Int).tdiv 10=104857 from rfl,zaz (by decide)]
 rw [show (104857:Int).tdiv 10=10485 from rfl,zaz (by decide)]
 rw [show (10485:Int).tdiv 10=1048 from rfl,zaz (by decide)]
 rw [show (1048:Int).tdiv 10=104 from rfl,zaz (by decide)]
 rw [show (104:Int).tdiv 10=10 from rfl,zaz (by decide)]
 rw [zV (n:=(10:Int).tdiv 10) (by decide) (by decide),zV (n:=(10:Int).tmod 10) (by decide) (by decide),zV (n:=(104:Int).tmod 10) (by decide) (by decide),zV (n:=(1048:Int).tmod 10) (by decide) (by decide),zV (n:=(10485:Int).tmod 10) (by decide) (by decide),zV (n:=(104857:Int).tmod 10) (by decide) (by decide),zV (n:=(1048577:Int).tmod 10) (by decide) (by decide)]
 decide
theorem pz1:qq [40,45,32,49,32,36,50,41]=some (.mk 4 0 [.mk 1 1 [],.mk 2 2 []]):=zbz.2 ⟨by decide,by rw [za0 (by decide),qW,zag,it1,it2];decide⟩
theorem iw1:intW [49]=some 1:=by rw [← it1];exact zaT (by decide)
theorem iw4:intW [52]=some 4:=by rw [← it4];exact zaT (by decide)
theorem iw01:intW [48,49]=none:=by
 unfold intW
 rw [if_neg]
 rintro ⟨h,_⟩
 rw [show valS [48,49]=1 by decide,it1] at h
 cases h
theorem zlU:intW []=none:=by
 cases h:intW [] with
 | none=>rfl
 | some n=>exact absurd (zbk h).1.symm (zcu n)
theorem iwB:intW [49,48,52,56,53,55,55]=some 1048577:=by rw [← itBig];exact zaT (by decide)
theorem pz2:qq [48,49]=none:=by
 have:readP 30 [48,49]=none:=by
  rw [readP]
  simp only [takeC,show wordW [48,49]=[48,49] by decide]
  simp [leafP,takeC,iw01]
 unfold qq;rw [this]
theorem pz3:qq [36,52]=none:=by
 have:readP 30 [36,52]=some (.mk 2 4 [],[]):=by
  rw [readP]
  simp only [takeC,show wordW [36,52]=[36,52] by decide,show restW [36,52]=[] by decide]
  simp [leafP,takeC,iw4]
 unfold qq;rw [this]
 decide
theorem pz4:qq [49,48,52,56,53,55,55]=none:=by
 have:readP 30 [49,48,52,56,53,55,55]=some (.mk 1 1048577 [],[]):=by
  rw [readP]
  simp only [takeC,show wordW [49,48,52,56,53,55,55]=[49,48,52,56,53,55,55] by decide,show restW [49,48,52,56,53,55,55]=[] by decide]
  simp [leafP,takeC,iwB]
 unfold qq;rw [this]
 decide
theorem rd1 (f:Nat) (r:List UInt8) (h:Del r):readP (f+1) (49::r)=some (.mk 1 1 [],r):=by
 have hw:=zbe (w:=[49]) (r:=r) (by decide) h
 rw [readP]
 simp only [takeC]
 rw [if_neg (by decide)]
 simp only
 rw [show (49::r:List UInt8)=[49]++r from rfl,hw.1,hw.2]
 simp [leafP,takeC,iw1]
theorem pz5:qq [40,43,32,49,41]=none:=by
 have h0:takeC 40 [40,43,32,49,41]=some [43,32,49,41]:=by decide
 have h1:takeC 32 [32,49,41]=some [49,41]:=by decide
 have:readP 30 [40,43,32,49,41]=none:=by
  rw [readP,h0]
  simp only [show wordW [43,32,49,41]=[43] by decide,show restW [43,32,49,41]=[32,49,41] by decide,show opOf [43]=some 3 by decide,h1]
  rw [rd1 28 [41] (by intro b hb;injection hb with hb;subst hb;decide)]
  simp [takeC]
 unfold qq;rw [this]
theorem pz6:qq [40,43,32,49,32,32,50,41]=none:=by
 have h0:takeC 40 [40,43,32,49,32,32,50,41]=some [43,32,49,32,32,50,41]:=by decide
 have h1:takeC 32 [32,49,32,32,50,41]=some [49,32,32,50,41]:=by decide
 have h2:takeC 32 [32,32,50,41]=some [32,50,41]:=by decide
 have h3:takeC 40 [32,50,41]=none:=by decide
 have:readP 30 [40,43,32,49,32,32,50,41]=none:=by
  rw [readP,h0]
  simp only [show wordW [43,32,49,32,32,50,41]=[43] by decide,show restW [43,32,49,32,32,50,41]=[32,49,32,32,50,41] by decide,show opOf [43]=some 3 by decide,h1]
  rw [rd1 28 [32,32,50,41] (by intro b hb;injection hb with hb;subst hb;decide)]
  simp only [h2]
  rw [readP,h3]
  simp [show wordW [32,50,41]=[] by decide,leafP,takeC,zlU]
 unfold qq;rw [this]
theorem qd {s:List UInt8} (h:qq s=none):parE s=X0∧parO s=false:=by unfold parE parO;rw [h];exact ⟨rfl,rfl⟩
theorem zb9 {s:List UInt8} {e:Xp} (h:qq s=some e):parE s=e∧parO s=true:=by unfold parE parO;rw [h];exact ⟨rfl,rfl⟩
theorem tx5:textX (.mk 1 (-5) [])=[45,53]:=by unfold textX;rw [if_pos (by decide),qW,it5]
end Go.Proofs.YtdkofaajcpcjkaaGreatDoor
namespace Go.Proofs.YtdkofaajcpcjkaaGreatDoor
open Go.RowKit
theorem x_sn0:nodes ((Xp.mk (3:Int) 0 [((Xp.mk (5:Int) 0 [((Xp.mk 2 (0:Int) [])),((Xp.mk 1 (3:Int) []))])),((Xp.mk 1 (-2:Int) []))]))≤1000000:=by decide
theorem x_sn1:(((evalE ((Xp.mk (3:Int) 0 [((Xp.mk (5:Int) 0 [((Xp.mk 2 (0:Int) [])),((Xp.mk 1 (3:Int) []))])),((Xp.mk 1 (-2:Int) []))])) (([(5:Int)]:List Int))).2 == 0 && (evalE ((Xp.mk (3:Int) 0 [((Xp.mk (5:Int) 0 [((Xp.mk 2 (0:Int) [])),((Xp.mk 1 (3:Int) []))])),((Xp.mk 1 (-2:Int) []))])) (([(5:Int)]:List Int))).1 == (13:Int)))=true:=by decide
theorem x_sn2:(((evalE ((Xp.mk (3:Int) 0 [((Xp.mk (5:Int) 0 [((Xp.mk 2 (0:Int) [])),((Xp.mk 1 (3:Int) []))])),((Xp.mk 1 (-2:Int) []))])) []).2 == (1:Int) && (evalE ((Xp.mk (3:Int) 0 [((Xp.mk (5:Int) 0 [((Xp.mk 2 (0:Int) [])),((Xp.mk 1 (3:Int) []))])),((Xp.mk 1 (-2:Int) []))])) []).1 == 0))=true:=by decide
theorem x_sn3:(((evalE ((Xp.mk (3:Int) 0 [((Xp.mk (5:Int) 0 [((Xp.mk 2 (0:Int) [])),((Xp.mk 1 (3:Int) []))])),((Xp.mk 1 (-2:Int) []))])) (([(1048576:Int)]:List Int))).2 == (3:Int) && (evalE ((Xp.mk (3:Int) 0 [((Xp.mk (5:Int) 0 [((Xp.mk 2 (0:Int) [])),((Xp.mk 1 (3:Int) []))])),((Xp.mk 1 (-2:Int) []))])) (([(1048576:Int)]:List Int))).1 == 0))=true:=by decide
theorem x_sn4:nodes ((Xp.mk (7:Int) 0 [((Xp.mk 2 (1:Int) [])),((Xp.mk 2 (0:Int) []))]))≤1000000:=by decide
theorem x_sn5:(((evalE ((Xp.mk (7:Int) 0 [((Xp.mk 2 (1:Int) [])),((Xp.mk 2 (0:Int) []))])) (([(4:Int),(9:Int)]:List Int))).2 == 0 && (evalE ((Xp.mk (7:Int) 0 [((Xp.mk 2 (1:Int) [])),((Xp.mk 2 (0:Int) []))])) (([(4:Int),(9:Int)]:List Int))).1 == (9:Int)))=true:=by decide
theorem x_sn6:nodes ((Xp.mk (6:Int) 0 [((Xp.mk 1 (0:Int) [])),((Xp.mk (5:Int) 0 [((Xp.mk 1 (1048576:Int) [])),((Xp.mk 1 (2:Int) []))]))]))≤1000000:=by decide
theorem x_sn7 {w0:World}:IxAll w0 [40,45,32,49,32,36,50,41]:=by exact zby (by decide) (by decide)
theorem x_sn8:([40,45,32,49,32,36,50,41]:List UInt8).length≤1000000:=by decide
theorem x_sn9:(parO [40,45,32,49,32,36,50,41])=true:=by rw [(zb9 pz1).2];first | done | decide
theorem zpB:nodes (parE [40,45,32,49,32,36,50,41])≤1000000:=by rw [(zb9 pz1).1];first | done | decide
theorem zpC {w0:World}:IxAll w0 [40,43,32,49,41]:=by exact zby (by decide) (by decide)
theorem zpD:([40,43,32,49,41]:List UInt8).length≤1000000:=by decide
theorem zpE:(sameX (parE [40,45,32,49,32,36,50,41]) ((Xp.mk (4:Int) 0 [((Xp.mk 1 (1:Int) [])),((Xp.mk 2 (2:Int) []))])))=true:=by rw [(zb9 pz1).1];first | done | decide
theorem zpF:(!(parO [40,43,32,49,41]))=true:=by rw [(qd pz5).2];first | done | decide
theorem zpG:nodes (parE [40,43,32,49,41])≤1000000:=by rw [(qd pz5).1];first | done | decide
theorem zpH {w0:World}:IxAll w0 [48,49]:=by exact zby (by decide) (by decide)
theorem zpI:([48,49]:List UInt8).length≤1000000:=by decide
theorem zpJ:(sameX (parE [40,43,32,49,41]) X0)=true:=by rw [(qd pz5).1];first | done | decide
theorem zpK:(!(parO [48,49]))=true:=by rw [(qd pz2).2];first | done | decide
theorem zpL:nodes (parE [48,49])≤1000000:=by rw [(qd pz2).1];first | done | decide
theorem zpM {w0:World}:IxAll w0 [36,52]:=by exact zby (by decide) (by decide)
theorem zpN:([36,52]:List UInt8).length≤1000000:=by decide
theorem zpO:(sameX (parE [48,49]) X0)=true:=by rw [(qd pz2).1];first | done | decide
theorem zpP:(!(parO [36,52]))=true:=by rw [(qd pz3).2];first | done | decide
theorem zpQ:nodes (parE [36,52])≤1000000:=by rw [(qd pz3).1];first | done | decide
theorem zpR {w0:World}:IxAll w0 [40,43,32,49,32,32,50,41]:=by exact zby (by decide) (by decide)
theorem zpS:([40,43,32,49,32,32,50,41]:List UInt8).length≤1000000:=by decide
theorem zpT:(sameX (parE [36,52]) X0)=true:=by rw [(qd pz3).1];first | done | decide
theorem zpU:(!(parO [40,43,32,49,32,32,50,41]))=true:=by rw [(qd pz6).2];first | done | decide
theorem zpV:nodes (parE [40,43,32,49,32,32,50,41])≤1000000:=by rw [(qd pz6).1];first | done | decide
theorem zpW {w0:World}:IxAll w0 [49,48,52,56,53,55,55]:=by exact zby (by decide) (by decide)
theorem zpX:([49,48,52,56,53,55,55]:List UInt8).length≤1000000:=by decide
theorem zpY:(sameX (parE [40,43,32,49,32,32,50,41]) X0)=true:=by rw [(qd pz6).1];first | done | decide
theorem zpZ:(!(parO [49,48,52,56,53,55,55]))=true:=by rw [(qd pz4).2];first | done | decide
theorem zp0:nodes (parE [49,48,52,56,53,55,55])≤1000000:=by rw [(qd pz4).1];first | done | decide
theorem zp1:nodes ((Xp.mk 1 (-5:Int) []))≤1000000:=by decide
theorem zp2:nodes ((Xp.mk 1 (2097152:Int) []))≤1000000:=by decide
theorem zp3:(((evalE ((Xp.mk (6:Int) 0 [((Xp.mk 1 (0:Int) [])),((Xp.mk (5:Int) 0 [((Xp.mk 1 (1048576:Int) [])),((Xp.mk 1 (2:Int) []))]))])) []).2 == (3:Int) && (evalE ((Xp.mk (6:Int) 0 [((Xp.mk 1 (0:Int) [])),((Xp.mk (5:Int) 0 [((Xp.mk 1 (1048576:Int) [])),((Xp.mk 1 (2:Int) []))]))])) []).1 == 0))=true:=by decide
theorem zp4:(sameX (parE [49,48,52,56,53,55,55]) X0)=true:=by rw [(qd pz4).1];first | done | decide
theorem zp5:(textO ((Xp.mk 1 (-5:Int) [])))=true:=by decide
theorem zp6:((((textX ((Xp.mk 1 (-5:Int) []))):List UInt8) == [45,53]))=true:=by rw [tx5];decide
theorem zp7:(!(textO ((Xp.mk 1 (2097152:Int) []))))=true:=by decide
theorem zp8:(sameX ((Xp.mk (3:Int) 0 [((Xp.mk (5:Int) 0 [((Xp.mk 2 (0:Int) [])),((Xp.mk 1 (3:Int) []))])),((Xp.mk 1 (-2:Int) []))])) ((Xp.mk (3:Int) 0 [((Xp.mk (5:Int) 0 [((Xp.mk 2 (0:Int) [])),((Xp.mk 1 (3:Int) []))])),((Xp.mk 1 (-2:Int) []))])))=true:=by decide
theorem zp9:(!(sameX ((Xp.mk (3:Int) 0 [((Xp.mk (5:Int) 0 [((Xp.mk 2 (0:Int) [])),((Xp.mk 1 (3:Int) []))])),((Xp.mk 1 (-2:Int) []))])) (parE [40,45,32,49,32,36,50,41])))=true:=by rw [(zb9 pz1).1];first | done | decide
theorem zmZ {w0:World} (hL:LibT w0):Fun (KN w0) Tryz.prog 4 [] (.o (.c (pV (.bool true)))):=
 zi6 hL _ _ _ _ _ _ _ _ _ _ _ _ _ _ _ _ _ _ _ _ _ _ _ _ _ _ _ _ _ _ _ _ _ _ _ _ _ _ _ _ _ _ _ _ _ _ _ _ _ _ _ _ _ _ _ _ _ _ rfl rfl rfl rfl rfl rfl rfl rfl rfl rfl rfl rfl rfl rfl rfl rfl rfl rfl rfl rfl rfl rfl rfl rfl rfl rfl rfl rfl rfl rfl rfl rfl rfl rfl rfl rfl rfl rfl rfl rfl rfl rfl rfl rfl rfl rfl rfl rfl rfl rfl rfl rfl rfl rfl rfl rfl rfl zp9 x_sn0 x_sn1 x_sn0 x_sn2 x_sn0 x_sn3 x_sn4 x_sn5 x_sn6 x_sn7 x_sn8 x_sn9 zpB zpC zpD zpE zpF zpG zpH zpI zpJ zpK zpL zpM zpN zpO zpP zpQ zpR zpS zpT zpU zpV zpW zpX zpY zpZ zp0 zp1 zp2 zp3 zp4 zp5 zp6 zp7 x_sn0 zp8 x_sn0
end Go.Proofs.YtdkofaajcpcjkaaGreatDoor
