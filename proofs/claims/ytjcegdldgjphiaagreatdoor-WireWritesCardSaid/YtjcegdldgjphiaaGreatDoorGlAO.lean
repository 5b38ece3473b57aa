/-
  Merged: RatF, SymS, SymU, SymV, SymW, RtX.
-/
import Derived.Test.YtjcegdldgjphiaaGreatDoorGlAN
set_option linter.unusedSimpArgs false
set_option linter.unusedVariables false
set_option maxRecDepth 100000
set_option maxHeartbeats 1000000
namespace Go.Proofs.YtjcegdldgjphiaaGreatDoor
open Go.RowKit Go.Shelf
theorem zj5 (x:Int) (w:World) (h0:-9223372036854775808≤x) (h1:x<9223372036854775808):Calls Tryz.prog 65 #[.int .i64 x] w (RetA x w):=by
 have m0:MX w [(#[.bool false,.slice none 0 0],30)] (w.alloc (.cells #[.bool false,.slice none 0 0] 30)):=MX.start
 obtain ⟨v,hv⟩:∃v,x.natAbs=v:=⟨_,rfl⟩
 have hvl:v<18446744073709551616:=by omega
 have hxb:x.natAbs<big:=(Rt.small (show x.natAbs≤18446744073709551616 by omega)).2
 have e9:fitO (sgn (decide (x<0)) v)=some x:=by rw [← hv,zcR,zhz hxb]
 have DI:=Lib.hid (fun (W:World)=>zeh v W hvl)
 have SI:=Lib.hid (fun (W:World) (A:Option Addr) (n c:Nat) (hs:Sl W W.heap.size A n c (digs v))=>zaU A n c W.heap.size v (decide (x<0)) _ W hs (Nat.le_refl _) (zp v))
 rw [e9] at SI
 rcases Int.lt_or_le x 0 with hn | hn
 ·have hd:decide (x<0)=true:=decide_eq_true hn
  have e1:IntKind.u64.wrap (-IntKind.u64.wrap x)=(v:Int):=by rw [IntKind.wrap_u64,IntKind.wrap_u64];omega
  rw [hd] at SI
  clear e9
  go_enter Tryz.func65,Tryz.ntmps65
  go_wp2_with (first
   | (go_at_call 91;go_loud ((first | rw [e1] | skip);refine (DI.out _).mono ?_;rintro e w1 ⟨A,n,c,rfl,hs,hb⟩;have m1:=m0.via hb))
   | (go_at_call 90;go_loud ((with_reducible refine (SI.out _ _ _ _ hs).mono ?_);rintro e w2 hr;obtain ⟨A2,n2,c2,rfl,hs2,hb2⟩:=zbp hr;have m2:=m1.via hb2;have r0:w2.cell? ⟨w.heap.size,0,none⟩=some (.bool false):=m2.cell (i:=0) rfl rfl;have r1:w2.cell? ⟨w.heap.size,1,none⟩=some (.slice none 0 0):=m2.cell (i:=0) rfl rfl;have rf:∀j,w2.frozen? ⟨w.heap.size,j,none⟩=false:=(fun j=>m2.frozen (i:=0) rfl j);have rz:w.heap.size<w2.heap.size:=m2.lt (i:=0) (by simp)))
   | fail "no arm")
  obtain ⟨q0,q1⟩:=zdv (.bool true) (.slice A2 n2 c2) r0 r1
  have s3:=hs2.stored r0 r1 (.bool true) (.slice A2 n2 c2)
  have b3:=(m2.below.setCell (p:=⟨w.heap.size,0,none⟩) (Nat.le_refl _) (.bool true)).setCell (p:=⟨w.heap.size,1,none⟩) (Nat.le_refl _) (.slice A2 n2 c2)
  have hz3:w.heap.size<((w2.setCell ⟨w.heap.size,0,none⟩ (.bool true)).setCell ⟨w.heap.size,1,none⟩ (.slice A2 n2 c2)).heap.size:=by simp [World.setCell];omega
  obtain ⟨W3,hW3⟩:∃W3,(w2.setCell ⟨w.heap.size,0,none⟩ (.bool true)).setCell ⟨w.heap.size,1,none⟩ (.slice A2 n2 c2)=W3:=⟨_,rfl⟩
  rw [hW3] at q0 q1 s3 b3 hz3 ⊢
  have k0:=(World.cell?_alloc_lt W3 (.cells #[.bool true,.slice A2 n2 c2] 30) ⟨w.heap.size,0,none⟩ hz3).trans q0
  have k1:=(World.cell?_alloc_lt W3 (.cells #[.bool true,.slice A2 n2 c2] 30) ⟨w.heap.size,1,none⟩ hz3).trans q1
  refine bodyPost_ret (v:=.agg #[.bool true,.slice A2 n2 c2]) ?_ rfl ⟨A2,n2,c2,by rw [hd],s3.via ((Below.refl _ _).alloc (Nat.le_refl _) _),b3.alloc b3.size _⟩
  clear k0 k1
  simp [results,Tryz.f65,go_sem,q0,q1,hz3]
 ·have hd:decide (x<0)=false:=decide_eq_false (by omega)
  have e1:IntKind.u64.wrap x=(v:Int):=by rw [IntKind.wrap_u64];omega
  have hn2:¬ x<0:=by omega
  rw [hd] at SI
  clear e9
  go_enter Tryz.func65,Tryz.ntmps65
  go_wp2_with (first
   | (go_at_call 91;go_loud ((first | rw [e1] | skip);refine (DI.out _).mono ?_;rintro e w1 ⟨A,n,c,rfl,hs,hb⟩;have m1:=m0.via hb))
   | (go_at_call 90;go_loud ((with_reducible refine (SI.out _ _ _ _ hs).mono ?_);rintro e w2 hr;obtain ⟨A2,n2,c2,rfl,hs2,hb2⟩:=zbp hr;have m2:=m1.via hb2;have r0:w2.cell? ⟨w.heap.size,0,none⟩=some (.bool false):=m2.cell (i:=0) rfl rfl;have r1:w2.cell? ⟨w.heap.size,1,none⟩=some (.slice none 0 0):=m2.cell (i:=0) rfl rfl;have rf:∀j,w2.frozen? ⟨w.heap.size,j,none⟩=false:=(fun j=>m2.frozen (i:=0) rfl j);have rz:w.heap.size<w2.heap.size:=m2.lt (i:=0) (by simp)))
   | fail "no arm")
  obtain ⟨q0,q1⟩:=zdv (.bool false) (.slice A2 n2 c2) r0 r1
  have s3:=hs2.stored r0 r1 (.bool false) (.slice A2 n2 c2)
  have b3:=(m2.below.setCell (p:=⟨w.heap.size,0,none⟩) (Nat.le_refl _) (.bool false)).setCell (p:=⟨w.heap.size,1,none⟩) (Nat.le_refl _) (.slice A2 n2 c2)
  have hz3:w.heap.size<((w2.setCell ⟨w.heap.size,0,none⟩ (.bool false)).setCell ⟨w.heap.size,1,none⟩ (.slice A2 n2 c2)).heap.size:=by simp [World.setCell];omega
  obtain ⟨W3,hW3⟩:∃W3,(w2.setCell ⟨w.heap.size,0,none⟩ (.bool false)).setCell ⟨w.heap.size,1,none⟩ (.slice A2 n2 c2)=W3:=⟨_,rfl⟩
  rw [hW3] at q0 q1 s3 b3 hz3 ⊢
  have k0:=(World.cell?_alloc_lt W3 (.cells #[.bool false,.slice A2 n2 c2] 30) ⟨w.heap.size,0,none⟩ hz3).trans q0
  have k1:=(World.cell?_alloc_lt W3 (.cells #[.bool false,.slice A2 n2 c2] 30) ⟨w.heap.size,1,none⟩ hz3).trans q1
  refine bodyPost_ret (v:=.agg #[.bool false,.slice A2 n2 c2]) ?_ rfl ⟨A2,n2,c2,by rw [hd],s3.via ((Below.refl _ _).alloc (Nat.le_refl _) _),b3.alloc b3.size _⟩
  clear k0 k1
  simp [results,Tryz.f65,go_sem,q0,q1,hz3]
end Go.Proofs.YtjcegdldgjphiaaGreatDoor
namespace Go.Proofs.YtjcegdldgjphiaaGreatDoor
open Go.RowKit Go.Shelf
theorem zo1 {w0:World} :Con.sound (KN w0) Tryz.prog (FN [nz 0] []) ⟨71,[],[],NM 0,[]⟩ :=
 zl (C:=[(1,.call ⟨98,[LF (.k (.int .i64 0))],[],NM 0,[]⟩)]) 0 (zbH rfl) ⟨c_of zd (by decide) (by decide) rfl,trivial⟩ mixed (by kernel_rfl)
theorem zmi {xs:List Raw} {es:List Value} {w0:World} {k:Nat} (h:X xs k=nz 0) (hk:k<50:=by first | assumption | decide):Con.sound (KN w0) Tryz.prog (FN xs es) ⟨71,[],[],NM k,[]⟩:=tr zo1 sh0 (NM_bk h.symm)
theorem one_p {w0:World} :Con.sound (KN w0) Tryz.prog (FN [nz 1] []) ⟨73,[],[],NM 0,[]⟩ :=
 zl (C:=[(1,.call ⟨98,[LF (.k (.int .i64 1))],[],NM 0,[]⟩)]) 0 (zbH rfl) ⟨c_of zd (by decide) (by decide) rfl,trivial⟩ mixed (by kernel_rfl)
theorem c_one {xs:List Raw} {es:List Value} {w0:World} {k:Nat} (h:X xs k=nz 1) (hk:k<50:=by first | assumption | decide):Con.sound (KN w0) Tryz.prog (FN xs es) ⟨73,[],[],NM k,[]⟩:=tr one_p sh0 (NM_bk h.symm)
theorem zmO {xs:List Raw} {es:List Value} {w0:World} {k:Nat} {a:Lf} {x:Int} (ha:Gives (FN xs es) a (.int .i64 x)) (h0:-9223372036854775808≤x) (h1:x<9223372036854775808) (h:X xs k=nz x) (hk:k<50:=by first | assumption | decide):Con.sound (KN w0) Tryz.prog (FN xs es) ⟨65,[LF a],[],NM k,[]⟩:=by
 refine zba fun β W vs hs _=>?_
 match vs,hs with
 | [v],⟨hv,_⟩ =>
  have:=(ha β v W).1 hv
  subst this
  refine (zj5 x W h0 h1).mono fun e W' hr=>?_
  obtain ⟨A,n,c,rfl,s,hb⟩:=hr
  exact ⟨_,rfl,(NM_is hk).2 (by rw [h];exact ⟨A,n,c,rfl,s⟩),hb⟩
 | [],h=>exact h.elim
 | _::_::_,h=>exact h.2.elim
theorem zv9 {w0:World} (x:Int) (h0:-9223372036854775808≤x) (h1:x<9223372036854775808):Con.sound (KN w0) Tryz.prog (FN [nz x] [.int .i64 x]) ⟨77,[yh 100],[],NM 0,[]⟩ :=
 zl (C:=[(4,.call ⟨65,[yh 100],[],NM 0,[]⟩)]) 0 (zbH rfl) ⟨zmO (zQ (k:=0) rfl) h0 h1 rfl,trivial⟩ mixed (by kernel_rfl)
theorem zpn {xs:List Raw} {es:List Value} {w0:World} {k:Nat} {a:Lf} {x:Int} (ha:Gives (FN xs es) a (.int .i64 x)) (h0:-9223372036854775808≤x) (h1:x<9223372036854775808) (h:X xs k=nz x) (hk:k<50:=by first | assumption | decide):Con.sound (KN w0) Tryz.prog (FN xs es) ⟨77,[LF a],[],NM k,[]⟩:=tr (zv9 x h0 h1) (sh1 (LF_mv ha (zQ (k:=0) rfl))) (NM_bk h.symm)
theorem zs0 {w0:World} (x:Raw):Con.sound (KN w0) Tryz.prog (FN [x,nz 0,nz (vO (subX (nz 0) x))] [.bool (okO (subX (nz 0) x))]) ⟨115,[NM 0],[],NM 2,[]⟩ :=
 zl (C:=[(6,.call ⟨77,[LF (.k (.int .i64 0))],[],NM 1,[]⟩),
  (8,.call ⟨144,[NM 1,NM 0],[],.t [.g (nm 2),.c (.h 100)],[]⟩)]) 0 (zbH rfl) ⟨zpn zd (by decide) (by decide) rfl,zuP rfl (zQ (k:=0) rfl),trivial⟩ mixed (by kernel_rfl)
theorem zqV {xs:List Raw} {es:List Value} {w0:World} {i k:Nat} (h:X xs k=nz (vO (subX (nz 0) (X xs i)))) (hi:i<50:=by first | assumption | decide) (hk:k<50:=by first | assumption | decide):Con.sound (KN w0) Tryz.prog (FN xs es) ⟨115,[NM i],[],NM k,[]⟩:=tr (zs0 (X xs i)) (sh1 (NM_mv rfl)) (NM_bk h.symm)
theorem zt9 {w0:World} (x y:Raw):Con.sound (KN w0) Tryz.prog (FN [x,y,nz (dqO (divX x y)),nz (drO (divX x y))] [.bool (divX x y).isSome]) ⟨114,[NM 0,NM 1],[],NM 2,[]⟩ :=
 zl (C:=[(11,.call ⟨143,[NM 0,NM 1],[],.t [.g (nm 2),.g (nm 3),.c (.h 100)],[]⟩)]) 0 (zbH rfl) ⟨zuM rfl rfl (zQ (k:=0) rfl),trivial⟩ mixed (by kernel_rfl)
theorem zpD {xs:List Raw} {es:List Value} {w0:World} {i j k:Nat} (h:X xs k=nz (dqO (divX (X xs i) (X xs j)))) (hi:i<50:=by first | assumption | decide) (hj:j<50:=by first | assumption | decide) (hk:k<50:=by first | assumption | decide):Con.sound (KN w0) Tryz.prog (FN xs es) ⟨114,[NM i,NM j],[],NM k,[]⟩:=tr (zt9 (X xs i) (X xs j)) (sh2 (NM_mv rfl) (NM_mv rfl)) (NM_bk h.symm)
theorem zdL {xs:List Raw} {es:List Value} {w0:World} {b i j:Nat} {o:Lf} (hes:es.all (KN w0).ck=true) (ho:Gives (FN xs es) o (.bool (qi (X xs i) && qi (X xs j)))) (hi:i<50:=by first | assumption | decide) (hj:j<50:=by first | assumption | decide):Con.sound (KN w0) Tryz.prog (FN xs es) ⟨69,[LF (.s b 0 2 2)],[.bx b 30 (nm i++nm j)],LF o,[.bx b 30 (nm i++nm j)]⟩:=by
 refine ⟨rfl,fun β W vs hs hb hg=>?_⟩
 match vs,hs with
 | [v],⟨⟨q,hq,hv⟩,_⟩ =>
  subst hv
  have hbox:=hb _ (List.mem_cons_self ..)
  have hbox2:=hbox
  obtain ⟨q',cs,hq',hh,hl,_,_,_⟩:=hbox2
  have e:q'=q:=by rw [hq] at hq';exact (Option.some.inj hq').symm
  subst e
  rw [zb0 hi,show nm j=nm j++[] by simp] at hl
  obtain ⟨A,n,c,us,e1,s1,hl⟩:=hl
  rw [zb0 hj] at hl
  obtain ⟨A2,n2,c2,us2,e2,s2,hl⟩:=hl
  rw [zgJ] at hl
  subst hl;subst e2
  have hc:∀k u,cs.toList[k]?=some u→W.cell? ⟨q',k,none⟩=some u:=fun k u hu=>by rw [zaj hh];simpa using hu
  rw [e1] at hc
  refine (ze2 ⟨hc 0 _ rfl,hc 1 _ rfl,hc 2 _ rfl,hc 3 _ rfl,hg.lt b q' hq⟩ s1 s2).mono fun e W' hr=>?_
  obtain ⟨rfl,hbl⟩:=hr
  have hO:Oth (fun _=>False) W W':=Oth.ofBelow hbl
  refine ⟨_,β,rfl,(ho β _ W').2 rfl,hO.mono fun _ h=>h.elim,fun x hx=>?_,fun b _=>Loc.same.rfl,fun _ h=>h,fun _ h=>.inl h,fun b h=>(by cases h),hg.mono (fun _ h=>h.elim) hO⟩
  rw [List.mem_singleton] at hx
  subst hx
  exact Box.mv (zbH hes) (fun _ h=>h.elim) hO (fun _ h=>h) (fun _ _=>Loc.same.rfl) hbox (fun _ _ h=>h.elim)
 | [],h=>exact h.elim
 | _::_::_,h=>exact h.2.elim
theorem zlD {w0:World} (x y:Raw) (h:(qi x && qi y)=false):Con.sound (KN w0) Tryz.prog (FN [x,y] [.bool (qi x && qi y)]) ⟨46,[RA 0 1],[],LF (.k (.bool false)),[]⟩ :=
 zl (C:=[(10,.call ⟨69,[LF (.s 6 0 2 2)],[.bx 6 30 (nm 0++nm 1)],yh 100,[.bx 6 30 (nm 0++nm 1)]⟩),
  (10100,.fb 100 false)]) 0 (zbH rfl) ⟨zdL rfl (zQ (k:=0) rfl),c_fb (zQ (k:=0) (congrArg Value.bool h)),trivial⟩ mixed (by kernel_rfl)
theorem zlE {w0:World} (x y:Raw) (h:(qi x && qi y)=true) (h2:decide (cmpX y (nz 0)≤0)=true):Con.sound (KN w0) Tryz.prog (FN [x,y,nz 0] [.bool (qi x && qi y),.int .i64 (cmpX y (nz 0))]) ⟨46,[RA 0 1],[],LF (.k (.bool false)),[]⟩ :=
 zl (C:=[(10,.call ⟨69,[LF (.s 6 0 2 2)],[.bx 6 30 (nm 0++nm 1)],yh 100,[.bx 6 30 (nm 0++nm 1)]⟩),
  (10100,.fb 100 true),
  (15,.call ⟨71,[],[],NM 2,[]⟩),
  (16,.call ⟨70,[NM 1,NM 2],[],yh 101,[]⟩),
  (17,.bin .leq 3 (yh 101) (LF (.k (.int .i64 0))) (LF (.k (.bool true))))]) 0 (zbH rfl) ⟨zdL rfl (zQ (k:=0) rfl),c_fb (zQ (k:=0) (congrArg Value.bool h)),zmi rfl,c_cmp (zQ (k:=1) rfl),c_bin (zQ (k:=1) rfl) zd (congrArg some h2) zd,trivial⟩ mixed (by kernel_rfl)
theorem zlF {w0:World} (x y:Raw) (h:(qi x && qi y)=true) (h2:decide (cmpX y (nz 0)≤0)=false):Con.sound (KN w0) Tryz.prog (FN [x,y,nz 0,nz (vO (gcdX x y)),nz 1] [.bool (qi x && qi y),.int .i64 (cmpX y (nz 0)),.bool (okO (gcdX x y)),.int .i64 (cmpX (nz (vO (gcdX x y))) (nz 1)),.bool (cmpX (nz (vO (gcdX x y))) (nz 1) == 0)]) ⟨46,[RA 0 1],[],yh 104,[]⟩ :=
 zl (C:=[(10,.call ⟨69,[LF (.s 6 0 2 2)],[.bx 6 30 (nm 0++nm 1)],yh 100,[.bx 6 30 (nm 0++nm 1)]⟩),
  (10100,.fb 100 true),
  (15,.call ⟨71,[],[],NM 2,[]⟩),
  (16,.call ⟨70,[NM 1,NM 2],[],yh 101,[]⟩),
  (17,.bin .leq 3 (yh 101) (LF (.k (.int .i64 0))) (LF (.k (.bool false)))),
  (24,.call ⟨72,[NM 0,NM 1],[],.t [.g (nm 3),.c (.h 102)],[]⟩),
  (28,.call ⟨73,[],[],NM 4,[]⟩),
  (29,.call ⟨70,[NM 3,NM 4],[],yh 103,[]⟩),
  (30,.bin .eql 3 (yh 103) (LF (.k (.int .i64 0))) (yh 104))]) 0 (zbH rfl) ⟨zdL rfl (zQ (k:=0) rfl),c_fb (zQ (k:=0) (congrArg Value.bool h)),zmi rfl,c_cmp (zQ (k:=1) rfl),c_bin (zQ (k:=1) rfl) zd (congrArg some h2) zd,c_gcd rfl (zQ (k:=2) rfl),c_one rfl,c_cmp (zQ (k:=3) rfl),c_bin (zQ (k:=3) rfl) zd rfl (zQ (k:=4) rfl),trivial⟩ mixed (by kernel_rfl)
theorem zjF {b:Int} (hb:b.natAbs<big):decide (cmpX (nz b) (nz 0)≤0)=!decide (0<b):=by
 rw [zi9 hb (zdq (by decide))]
 unfold cmpI
 by_cases h:b<0
 ·rw [if_pos h];simp;omega
 ·rw [if_neg h]
  by_cases h2:0<b
  ·rw [if_pos h2];simp [h2]
  ·rw [if_neg h2];simp;omega
theorem zon {v:Nat} (hv:v<big):(cmpX (nz (v:Int)) (nz 1) == 0)=decide (v=1):=by
 rw [zi9 (by simpa using hv) (zdq (by decide))]
 unfold cmpI
 by_cases h:(v:Int)<1
 ·rw [if_pos h,decide_eq_false (by omega)];rfl
 ·rw [if_neg h]
  by_cases h2:1<(v:Int)
  ·rw [if_pos h2,decide_eq_false (by omega)];rfl
  ·rw [if_neg h2,decide_eq_true (by omega)];rfl
theorem zkU {xs:List Raw} {es:List Value} {w0:World} {i j:Nat} {o:Lf} (ho:Gives (FN xs es) o (.bool (rrX (X xs i) (X xs j)))) (hi:i<50:=by first | assumption | decide) (hj:j<50:=by first | assumption | decide):Con.sound (KN w0) Tryz.prog (FN xs es) ⟨46,[RA i j],[],LF o,[]⟩:=by
 refine dgR1 (fun d1 d2=>?_) hi hj
 cases h:qi (X xs i) && qi (X xs j) with
 | false =>
  have e:rrX (X xs i) (X xs j)=false:=by rw [zmC,← Bool.and_assoc,h];rfl
  rw [e] at ho
  exact tr (zlD _ _ h) (sh1 (RA_mv rfl rfl hi hj)) (LF_bk ho zd)
 | true =>
  have h':=h
  rw [Bool.and_eq_true] at h'
  obtain ⟨a,ea,ha⟩:=zmA h'.1 d1
  obtain ⟨b,eb,hb⟩:=zmA h'.2 d2
  rw [ea,eb,zot ha hb] at ho
  cases h2:decide (cmpX (X xs j) (nz 0)≤0) with
  | true =>
   have h3:=h2
   rw [eb,zjF hb] at h3
   have e:decide (0<b)=false:=by simpa using h3
   rw [e,Bool.false_and] at ho
   exact tr (zlE _ _ h h2) (sh1 (RA_mv rfl rfl hi hj)) (LF_bk ho zd)
  | false =>
   have h3:=h2
   rw [eb,zjF hb] at h3
   have e:decide (0<b)=true:=by simpa using h3
   rw [e,Bool.true_and,← zon (zjA ha hb)] at ho
   refine tr (zlF _ _ h h2) (sh1 (RA_mv rfl rfl hi hj)) (LF_bk ho (zQ (k:=4) ?_))
   show Value.bool (cmpX (nz (vO (gcdX (X xs i) (X xs j)))) (nz 1) == 0)=_
   rw [ea,eb,zm2 ha hb];rfl
end Go.Proofs.YtjcegdldgjphiaaGreatDoor
namespace Go.Proofs.YtjcegdldgjphiaaGreatDoor
open Go.RowKit Go.Shelf
theorem zvh {b:Int} (hb:b.natAbs<big):decide (cmpX (nz b) (nz 1)<0)=!decide (0<b):=by
 rw [zi9 hb (zdq (by decide))]
 unfold cmpI
 by_cases h:b<1
 ·rw [if_pos h];simp;omega
 ·rw [if_neg h]
  by_cases h2:1<b
  ·rw [if_pos h2];simp;omega
  ·rw [if_neg h2];simp;omega
theorem zsl {b:Int} (hb:b.natAbs<big):(cmpX (nz b) (nz 0) == 0)=decide (b=0):=by
 rw [zi9 hb (zdq (by decide))]
 unfold cmpI
 by_cases h:b<0
 ·rw [if_pos h,decide_eq_false (by omega)];rfl
 ·rw [if_neg h]
  by_cases h2:0<b
  ·rw [if_pos h2,decide_eq_false (by omega)];rfl
  ·rw [if_neg h2,decide_eq_true (by omega)];rfl
theorem ztZ {b:Int} (hb:b.natAbs<big):decide (cmpX (nz b) (nz 0)<0)=decide (b<0):=by
 rw [zi9 hb (zdq (by decide))]
 unfold cmpI
 by_cases h:b<0
 ·rw [if_pos h];simp [h]
 ·rw [if_neg h]
  by_cases h2:0<b
  ·rw [if_pos h2];simp;omega
  ·rw [if_neg h2];simp;omega
theorem zt3 {x y:Int} (hy:y≠0):∃q,ofR x y=some q∧q.num=(if y<0 then -x else x) / ((Nat.gcd x.natAbs y.natAbs:Nat):Int)∧q.den=y.natAbs / Nat.gcd x.natAbs y.natAbs:=by
 obtain ⟨q,h1,h2,h3⟩:=zvN (x:=x) (g:=decide (y<0)) (d:=y.natAbs) (by omega)
 rw [zcR] at h1
 refine ⟨q,h1,?_,h3⟩
 rw [h2]
 congr 1
 by_cases h:y<0<;>simp [h]
theorem zvD {x y:Int} (hy:y≠0):((Nat.gcd x.natAbs y.natAbs:Nat):Int)≠0:=by
 have:=zwq (x:=x) (d:=y.natAbs) (by omega)
 omega
theorem zuX {x y:Int} (hx:x.natAbs<big) (hy:y.natAbs<big):(((Nat.gcd x.natAbs y.natAbs:Nat):Int)).natAbs<big:=by simpa using zjA hx hy
theorem zt2 {x:Int} (hx:x.natAbs<big):nz (vO (subX (nz 0) (nz x)))=nz (-x):=by
 rw [zvY (zdq (by decide)) hx,zhz (by omega),Int.zero_sub];rfl
theorem ztS {x:Int} {v:Nat} (hx:x.natAbs<big):(x / (v:Int)).natAbs<big:=by
 refine Nat.lt_of_le_of_lt ?_ hx
 rw [show (x / (v:Int))=x.ediv v from rfl] at *
 exact Int.natAbs_ediv_le_natAbs x v
theorem zth {w0:World} (x y:Raw) (h:qi x=false):Con.sound (KN w0) Tryz.prog (FN [x,y] [.bool (qi x),.bool (qi y)]) ⟨48,[RA 0 1],[],LF (.k (.bool false)),[]⟩ :=
 zl (C:=[(7,.call ⟨75,[NM 0],[],yh 100,[]⟩),
  (10100,.fb 100 false)]) 0 (zbH rfl) ⟨zwO (zQ (k:=0) rfl),c_fb (zQ (k:=0) (congrArg Value.bool h)),trivial⟩ mixed (by kernel_rfl)
theorem zti {w0:World} (x y:Raw) (h:qi x=true) (h1:qi y=false):Con.sound (KN w0) Tryz.prog (FN [x,y] [.bool (qi x),.bool (qi y)]) ⟨48,[RA 0 1],[],LF (.k (.bool false)),[]⟩ :=
 zl (C:=[(7,.call ⟨75,[NM 0],[],yh 100,[]⟩),
  (12,.call ⟨75,[NM 1],[],yh 101,[]⟩),
  (10100,.fb 100 true),
  (10101,.fb 101 false)]) 0 (zbH rfl) ⟨zwO (zQ (k:=0) rfl),zwO (zQ (k:=1) rfl),c_fb (zQ (k:=0) (congrArg Value.bool h)),c_fb (zQ (k:=1) (congrArg Value.bool h1)),trivial⟩ mixed (by kernel_rfl)
theorem ztj {w0:World} (x y:Raw) (h:qi x=true) (h1:qi y=true) (h2:decide (cmpX y (nz 1)<0)=true):Con.sound (KN w0) Tryz.prog (FN [x,y,nz 1] [.bool (qi x),.bool (qi y),.int .i64 (cmpX y (nz 1))]) ⟨48,[RA 0 1],[],LF (.k (.bool false)),[]⟩ :=
 zl (C:=[(7,.call ⟨75,[NM 0],[],yh 100,[]⟩),
  (12,.call ⟨75,[NM 1],[],yh 101,[]⟩),
  (10100,.fb 100 true),
  (10101,.fb 101 true),
  (18,.call ⟨77,[LF (.k (.int .i64 1))],[],NM 2,[]⟩),
  (19,.call ⟨76,[NM 1,NM 2],[],yh 102,[]⟩),
  (20,.bin .lss 3 (yh 102) (LF (.k (.int .i64 0))) (LF (.k (.bool true))))]) 0 (zbH rfl) ⟨zwO (zQ (k:=0) rfl),zwO (zQ (k:=1) rfl),c_fb (zQ (k:=0) (congrArg Value.bool h)),c_fb (zQ (k:=1) (congrArg Value.bool h1)),zpn zd (by decide) (by decide) rfl,zpb (zQ (k:=2) rfl),c_bin (zQ (k:=2) rfl) zd (congrArg some h2) zd,trivial⟩ mixed (by kernel_rfl)
theorem ztk {w0:World} (x y:Raw) (h:qi x=true) (h1:qi y=true) (h2:decide (cmpX y (nz 1)<0)=false):Con.sound (KN w0) Tryz.prog (FN [x,y,nz 1,nz (vO (gcdX x y))] [.bool (qi x),.bool (qi y),.int .i64 (cmpX y (nz 1)),.bool (okO (gcdX x y)),.int .i64 (cmpX (nz (vO (gcdX x y))) (nz 1)),.bool (cmpX (nz (vO (gcdX x y))) (nz 1) == 0)]) ⟨48,[RA 0 1],[],yh 105,[]⟩ :=
 zl (C:=[(7,.call ⟨75,[NM 0],[],yh 100,[]⟩),
  (12,.call ⟨75,[NM 1],[],yh 101,[]⟩),
  (10100,.fb 100 true),
  (10101,.fb 101 true),
  (18,.call ⟨77,[LF (.k (.int .i64 1))],[],NM 2,[]⟩),
  (19,.call ⟨76,[NM 1,NM 2],[],yh 102,[]⟩),
  (20,.bin .lss 3 (yh 102) (LF (.k (.int .i64 0))) (LF (.k (.bool false)))),
  (27,.call ⟨78,[NM 0,NM 1],[],.t [.g (nm 3),.c (.h 103)],[]⟩),
  (31,.call ⟨77,[LF (.k (.int .i64 1))],[],NM 2,[]⟩),
  (32,.call ⟨76,[NM 3,NM 2],[],yh 104,[]⟩),
  (33,.bin .eql 3 (yh 104) (LF (.k (.int .i64 0))) (yh 105))]) 0 (zbH rfl) ⟨zwO (zQ (k:=0) rfl),zwO (zQ (k:=1) rfl),c_fb (zQ (k:=0) (congrArg Value.bool h)),c_fb (zQ (k:=1) (congrArg Value.bool h1)),zpn zd (by decide) (by decide) rfl,zpb (zQ (k:=2) rfl),c_bin (zQ (k:=2) rfl) zd (congrArg some h2) zd,zq7 rfl (zQ (k:=3) rfl),zpn zd (by decide) (by decide) rfl,zpb (zQ (k:=4) rfl),c_bin (zQ (k:=4) rfl) zd rfl (zQ (k:=5) rfl),trivial⟩ mixed (by kernel_rfl)
theorem zsg {xs:List Raw} {es:List Value} {w0:World} {i j:Nat} {o:Lf} (ho:Gives (FN xs es) o (.bool (rrX (X xs i) (X xs j)))) (hi:i<50:=by first | assumption | decide) (hj:j<50:=by first | assumption | decide):Con.sound (KN w0) Tryz.prog (FN xs es) ⟨48,[RA i j],[],LF o,[]⟩:=by
 refine dgR1 (fun d1 d2=>?_) hi hj
 rw [zmC] at ho
 cases h:qi (X xs i) with
 | false =>
  rw [h,Bool.false_and] at ho
  exact tr (zth _ _ h) (sh1 (RA_mv rfl rfl hi hj)) (LF_bk ho zd)
 | true =>
  cases h1:qi (X xs j) with
  | false =>
   rw [h,h1,Bool.false_and,Bool.and_false] at ho
   exact tr (zti _ _ h h1) (sh1 (RA_mv rfl rfl hi hj)) (LF_bk ho zd)
  | true =>
   obtain ⟨a,ea,ha⟩:=zmA h d1
   obtain ⟨b,eb,hb⟩:=zmA h1 d2
   rw [← zmC,ea,eb,zot ha hb] at ho
   cases h2:decide (cmpX (X xs j) (nz 1)<0) with
   | true =>
    have h3:=h2
    rw [eb,zvh hb] at h3
    have e:decide (0<b)=false:=by simpa using h3
    rw [e,Bool.false_and] at ho
    exact tr (ztj _ _ h h1 h2) (sh1 (RA_mv rfl rfl hi hj)) (LF_bk ho zd)
   | false =>
    have h3:=h2
    rw [eb,zvh hb] at h3
    have e:decide (0<b)=true:=by simpa using h3
    rw [e,Bool.true_and,← zon (zjA ha hb)] at ho
    refine tr (ztk _ _ h h1 h2) (sh1 (RA_mv rfl rfl hi hj)) (LF_bk ho (zQ (k:=5) ?_))
    show Value.bool (cmpX (nz (vO (gcdX (X xs i) (X xs j)))) (nz 1) == 0)=_
    rw [ea,eb,zm2 ha hb];rfl
def ngX (x:Raw):Raw:=nz (vO (subX (nz 0) x))
theorem zvQ {w0:World} (x y:Raw) (h:qi x=false):Con.sound (KN w0) Tryz.prog (FN [x,y] [.bool (qi x),.bool (qi y)]) ⟨95,[NM 0,NM 1],[],.t [.g ZC,.c (.k (.bool false))],[]⟩ :=
 zl (C:=[(10,.call ⟨75,[NM 0],[],yh 100,[]⟩),
  (10100,.fb 100 false)]) 0 (zbH rfl) ⟨zwO (zQ (k:=0) rfl),c_fb (zQ (k:=0) (congrArg Value.bool h)),trivial⟩ mixed (by kernel_rfl)
theorem zvR {w0:World} (x y:Raw) (h:qi x=true) (h1:qi y=false):Con.sound (KN w0) Tryz.prog (FN [x,y] [.bool (qi x),.bool (qi y)]) ⟨95,[NM 0,NM 1],[],.t [.g ZC,.c (.k (.bool false))],[]⟩ :=
 zl (C:=[(10,.call ⟨75,[NM 0],[],yh 100,[]⟩),
  (14,.call ⟨75,[NM 1],[],yh 101,[]⟩),
  (10100,.fb 100 true),
  (10101,.fb 101 false)]) 0 (zbH rfl) ⟨zwO (zQ (k:=0) rfl),zwO (zQ (k:=1) rfl),c_fb (zQ (k:=0) (congrArg Value.bool h)),c_fb (zQ (k:=1) (congrArg Value.bool h1)),trivial⟩ mixed (by kernel_rfl)
theorem zvS {w0:World} (x y:Raw) (h:qi x=true) (h1:qi y=true) (h2:(cmpX y (nz 0) == 0)=true):Con.sound (KN w0) Tryz.prog (FN [x,y,nz 0] [.bool (qi x),.bool (qi y),.int .i64 (cmpX y (nz 0))]) ⟨95,[NM 0,NM 1],[],.t [.g ZC,.c (.k (.bool false))],[]⟩ :=
 zl (C:=[(10,.call ⟨75,[NM 0],[],yh 100,[]⟩),
  (14,.call ⟨75,[NM 1],[],yh 101,[]⟩),
  (10100,.fb 100 true),
  (10101,.fb 101 true),
  (19,.call ⟨77,[LF (.k (.int .i64 0))],[],NM 2,[]⟩),
  (20,.call ⟨76,[NM 1,NM 2],[],yh 102,[]⟩),
  (21,.bin .eql 3 (yh 102) (LF (.k (.int .i64 0))) (LF (.k (.bool true))))]) 0 (zbH rfl) ⟨zwO (zQ (k:=0) rfl),zwO (zQ (k:=1) rfl),c_fb (zQ (k:=0) (congrArg Value.bool h)),c_fb (zQ (k:=1) (congrArg Value.bool h1)),zpn zd (by decide) (by decide) rfl,zpb (zQ (k:=2) rfl),c_bin (zQ (k:=2) rfl) zd (congrArg some h2) zd,trivial⟩ mixed (by kernel_rfl)
theorem zvT {w0:World} (x y:Raw) (h:qi x=true) (h1:qi y=true) (h2:(cmpX y (nz 0) == 0)=false) (h3:decide (cmpX y (nz 0)<0)=false):Con.sound (KN w0) Tryz.prog (FN [x,y,nz 0,nz (vO (gcdX x y)),nz (dqO (divX x (nz (vO (gcdX x y))))),nz (dqO (divX y (nz (vO (gcdX x y)))))] [.bool (qi x),.bool (qi y),.int .i64 (cmpX y (nz 0)),.bool (okO (gcdX x y))]) ⟨95,[NM 0,NM 1],[],.t [.g (nm 4++nm 5),.c (.k (.bool true))],[]⟩ :=
 zl (C:=[(10,.call ⟨75,[NM 0],[],yh 100,[]⟩),
  (14,.call ⟨75,[NM 1],[],yh 101,[]⟩),
  (10100,.fb 100 true),
  (10101,.fb 101 true),
  (19,.call ⟨77,[LF (.k (.int .i64 0))],[],NM 2,[]⟩),
  (20,.call ⟨76,[NM 1,NM 2],[],yh 102,[]⟩),
  (21,.bin .eql 3 (yh 102) (LF (.k (.int .i64 0))) (LF (.k (.bool false)))),
  (27,.call ⟨78,[NM 0,NM 1],[],.t [.g (nm 3),.c (.h 103)],[]⟩),
  (32,.call ⟨114,[NM 0,NM 3],[],NM 4,[]⟩),
  (35,.call ⟨114,[NM 1,NM 3],[],NM 5,[]⟩),
  (38,.call ⟨77,[LF (.k (.int .i64 0))],[],NM 2,[]⟩),
  (39,.call ⟨76,[NM 1,NM 2],[],yh 102,[]⟩),
  (40,.bin .lss 3 (yh 102) (LF (.k (.int .i64 0))) (LF (.k (.bool false))))]) 0 (zbH rfl) ⟨zwO (zQ (k:=0) rfl),zwO (zQ (k:=1) rfl),c_fb (zQ (k:=0) (congrArg Value.bool h)),c_fb (zQ (k:=1) (congrArg Value.bool h1)),zpn zd (by decide) (by decide) rfl,zpb (zQ (k:=2) rfl),c_bin (zQ (k:=2) rfl) zd (congrArg some h2) zd,zq7 rfl (zQ (k:=3) rfl),zpD rfl,zpD rfl,zpn zd (by decide) (by decide) rfl,zpb (zQ (k:=2) rfl),c_bin (zQ (k:=2) rfl) zd (congrArg some h3) zd,trivial⟩ mixed (by kernel_rfl)
theorem zvU {w0:World} (x y:Raw) (h:qi x=true) (h1:qi y=true) (h2:(cmpX y (nz 0) == 0)=false) (h3:decide (cmpX y (nz 0)<0)=true):Con.sound (KN w0) Tryz.prog (FN [x,y,nz 0,nz (vO (gcdX x y)),nz (dqO (divX x (nz (vO (gcdX x y))))),nz (dqO (divX y (nz (vO (gcdX x y))))),ngX (nz (dqO (divX x (nz (vO (gcdX x y)))))),ngX (nz (dqO (divX y (nz (vO (gcdX x y))))))] [.bool (qi x),.bool (qi y),.int .i64 (cmpX y (nz 0)),.bool (okO (gcdX x y))]) ⟨95,[NM 0,NM 1],[],.t [.g (nm 6++nm 7),.c (.k (.bool true))],[]⟩ :=
 zl (C:=[(10,.call ⟨75,[NM 0],[],yh 100,[]⟩),
  (14,.call ⟨75,[NM 1],[],yh 101,[]⟩),
  (10100,.fb 100 true),
  (10101,.fb 101 true),
  (19,.call ⟨77,[LF (.k (.int .i64 0))],[],NM 2,[]⟩),
  (20,.call ⟨76,[NM 1,NM 2],[],yh 102,[]⟩),
  (21,.bin .eql 3 (yh 102) (LF (.k (.int .i64 0))) (LF (.k (.bool false)))),
  (27,.call ⟨78,[NM 0,NM 1],[],.t [.g (nm 3),.c (.h 103)],[]⟩),
  (32,.call ⟨114,[NM 0,NM 3],[],NM 4,[]⟩),
  (35,.call ⟨114,[NM 1,NM 3],[],NM 5,[]⟩),
  (38,.call ⟨77,[LF (.k (.int .i64 0))],[],NM 2,[]⟩),
  (39,.call ⟨76,[NM 1,NM 2],[],yh 102,[]⟩),
  (40,.bin .lss 3 (yh 102) (LF (.k (.int .i64 0))) (LF (.k (.bool true)))),
  (43,.call ⟨115,[NM 4],[],NM 6,[]⟩),
  (47,.call ⟨115,[NM 5],[],NM 7,[]⟩)]) 0 (zbH rfl) ⟨zwO (zQ (k:=0) rfl),zwO (zQ (k:=1) rfl),c_fb (zQ (k:=0) (congrArg Value.bool h)),c_fb (zQ (k:=1) (congrArg Value.bool h1)),zpn zd (by decide) (by decide) rfl,zpb (zQ (k:=2) rfl),c_bin (zQ (k:=2) rfl) zd (congrArg some h2) zd,zq7 rfl (zQ (k:=3) rfl),zpD rfl,zpD rfl,zpn zd (by decide) (by decide) rfl,zpb (zQ (k:=2) rfl),c_bin (zQ (k:=2) rfl) zd (congrArg some h3) zd,zqV rfl,zqV rfl,trivial⟩ mixed (by kernel_rfl)
theorem zuO {xs:List Raw} {es:List Value} {w0:World} {i j k k2:Nat} {o:Lf} (h:X xs k=nz (nO (ofX (X xs i) (X xs j)))) (h2:X xs k2=nz ((dO (ofX (X xs i) (X xs j)):Nat):Int)) (ho:Gives (FN xs es) o (.bool (ofX (X xs i) (X xs j)).isSome)) (hi:i<50:=by first | assumption | decide) (hj:j<50:=by first | assumption | decide) (hk:k<50:=by first | assumption | decide) (hk2:k2<50:=by first | assumption | decide):Con.sound (KN w0) Tryz.prog (FN xs es) ⟨95,[NM i,NM j],[],.t [.g (nm k++nm k2),.c o],[]⟩:=by
 refine dgN2 (fun d1 d2=>?_) hi hj
 cases hr:qi (X xs i) && qi (X xs j) with
 | false =>
  have e:ofX (X xs i) (X xs j)=none:=by unfold ofX;rw [if_neg (by rw [hr];simp)]
  rw [e] at h h2 ho
  cases hx:qi (X xs i) with
  | false=>exact tr (zvQ _ _ hx) (sh2 (NM_mv rfl hi) (NM_mv rfl hj)) (T2_bk (ZR_bk h h2 hk hk2) (LF_bk ho zd))
  | true =>
   rw [hx,Bool.true_and] at hr
   exact tr (zvR _ _ hx hr) (sh2 (NM_mv rfl hi) (NM_mv rfl hj)) (T2_bk (ZR_bk h h2 hk hk2) (LF_bk ho zd))
 | true =>
  have hr':=hr
  rw [Bool.and_eq_true] at hr'
  obtain ⟨a,ea,ha⟩:=zmA hr'.1 d1
  obtain ⟨b,eb,hb⟩:=zmA hr'.2 d2
  rw [ea,eb,zsM ha hb] at h h2 ho
  cases hz:cmpX (X xs j) (nz 0) == 0 with
  | true =>
   have hz':=hz
   rw [eb,zsl hb] at hz'
   have e:ofR a b=none:=by unfold ofR;rw [if_pos (of_decide_eq_true hz')]
   rw [e] at h h2 ho
   exact tr (zvS _ _ hr'.1 hr'.2 hz) (sh2 (NM_mv rfl hi) (NM_mv rfl hj)) (T2_bk (ZR_bk h h2 hk hk2) (LF_bk ho zd))
  | false =>
   have hz':=hz
   rw [eb,zsl hb] at hz'
   have hb0:b≠0:=of_decide_eq_false hz'
   obtain ⟨p,e,hpn,hpd⟩:=zt3 (x:=a) (y:=b) hb0
   rw [e] at h h2 ho
   have hg:=zuX ha hb
   have hg0:=zvD (x:=a) hb0
   cases hn:decide (cmpX (X xs j) (nz 0)<0) with
   | false =>
    have hbp:¬ b<0:=by rw [eb,ztZ hb] at hn;exact of_decide_eq_false hn
    rw [if_neg hbp] at hpn
    refine tr (zvT _ _ hr'.1 hr'.2 hz hn) (sh2 (NM_mv rfl hi) (NM_mv rfl hj)) (T2_bk (RA_bk ?_ ?_) (LF_bk ho zd))
    ·show nz (dqO (divX (X xs i) (nz (vO (gcdX (X xs i) (X xs j))))))=_
     rw [h,ea,eb,zm2 ha hb]
     show nz (dqO (divX (nz a) (nz ((Nat.gcd a.natAbs b.natAbs:Nat):Int))))=nz p.num
     rw [zq8 ha hg hg0,hpn];rfl
    ·show nz (dqO (divX (X xs j) (nz (vO (gcdX (X xs i) (X xs j))))))=_
     rw [h2,ea,eb,zm2 ha hb]
     show nz (dqO (divX (nz b) (nz ((Nat.gcd a.natAbs b.natAbs:Nat):Int))))=nz ((p.den:Nat):Int)
     rw [zq8 hb hg hg0,hpd,Int.natCast_ediv,Int.natAbs_of_nonneg (by omega)];rfl
   | true =>
    have hbn:b<0:=by rw [eb,ztZ hb] at hn;exact of_decide_eq_true hn
    rw [if_pos hbn] at hpn
    refine tr (zvU _ _ hr'.1 hr'.2 hz hn) (sh2 (NM_mv rfl hi) (NM_mv rfl hj)) (T2_bk (RA_bk ?_ ?_) (LF_bk ho zd))
    ·show ngX (nz (dqO (divX (X xs i) (nz (vO (gcdX (X xs i) (X xs j)))))))=_
     rw [h,ea,eb,zm2 ha hb]
     show ngX (nz (dqO (divX (nz a) (nz ((Nat.gcd a.natAbs b.natAbs:Nat):Int)))))=nz p.num
     rw [zq8 ha hg hg0,hpn]
     show ngX (nz (a / ((Nat.gcd a.natAbs b.natAbs:Nat):Int)))=_
     rw [zrh]
     exact zt2 (ztS ha)
    ·show ngX (nz (dqO (divX (X xs j) (nz (vO (gcdX (X xs i) (X xs j)))))))=_
     rw [h2,ea,eb,zm2 ha hb]
     show ngX (nz (dqO (divX (nz b) (nz ((Nat.gcd a.natAbs b.natAbs:Nat):Int)))))=nz ((p.den:Nat):Int)
     rw [zq8 hb hg hg0,hpd,Int.natCast_ediv,show ((b.natAbs:Nat):Int)=-b by omega]
     show ngX (nz (b / ((Nat.gcd a.natAbs b.natAbs:Nat):Int)))=_
     rw [Int.neg_ediv_of_dvd (Int.ofNat_dvd_left.2 (Nat.gcd_dvd_right _ _))]
     exact zt2 (ztS hb)
end Go.Proofs.YtjcegdldgjphiaaGreatDoor
namespace Go.Proofs.YtjcegdldgjphiaaGreatDoor
open Go.RowKit Go.Shelf
section
variable (a b c d:Raw)
end
section
variable {p r:Rat}
end
end Go.Proofs.YtjcegdldgjphiaaGreatDoor
namespace Go.Proofs.YtjcegdldgjphiaaGreatDoor
open Go.RowKit Go.Shelf
def cf:Nat→Int→Int→Int→Int→Int→Int×Int
 | 0,_,_,_,_,s=>(0,s)
 | k+1,n1,d1,n2,d2,s=>if cmpI (n1 / d1) (n2 / d2)≠0 then (cmpI (n1 / d1) (n2 / d2),s) else if n1%d1=0∨n2%d2=0 then (cmpI (n1%d1) (n2%d2),s) else cf k d1 (n1%d1) d2 (n2%d2) (-s)
structure CT where
 n1:Int
 d1:Int
 n2:Int
 d2:Int
 s:Int
 k:Nat
def CT.F (t:CT):Fact:=FN [nz t.n1,nz t.d1,nz t.n2,nz t.d2] [.int .i64 t.s]
def CT.J (o:Int×Int) (t:CT):Prop:=0<t.d1∧0<t.d2∧t.n1.natAbs<big∧t.d1.natAbs<big∧t.n2.natAbs<big∧t.d2.natAbs<big∧(t.s=1∨t.s=-1)∧t.d1.toNat<t.k∧cf t.k t.n1 t.d1 t.n2 t.d2 t.s=o
end Go.Proofs.YtjcegdldgjphiaaGreatDoor
namespace Go.Proofs.YtjcegdldgjphiaaGreatDoor
open Go.RowKit Go.Shelf
def pD (l:List Nat):Pred:=fun v W _=>∃A m c,v=.slice A m c∧Sl W W.heap.size A m c l
abbrev cN (x:Raw):List Pred:=[pB x.1,pD x.2]
abbrev gN (x:Raw):PSh:=.o (.g [pB x.1,pD x.2])
abbrev RR:=Raw×Raw
abbrev gR (x:RR):PSh:=.o (.g [pB x.1.1,pD x.1.2,pB x.2.1,pD x.2.2])
def rq (o:Option Rat):RR:=(nz (nO o),nz ((dO o:Nat):Int))
theorem zj {w0:World} {l:List Nat}:FineC (KN w0) (pD l):=by
 constructor
 ·rintro v W W' D D' S hS hO _ ⟨A,m,c,e,hs⟩
  exact ⟨A,m,c,e,(Sl.oth hS hO hs).more hO.size⟩
 ·rintro v W D ⟨A,m,c,e,_⟩
  rw [e];rfl
theorem nil_D {v:Value} {W:World} {D:Dat} (h:pV (.slice none 0 0) v W D):pD [] v W D:=⟨none,0,0,h,Sl.none_⟩
theorem zhZ {v:Value} {W:World} {D:Dat} (h:(PSh.o (.g [pV (.bool false),pV (.slice none 0 0),pV (.bool false),pV (.slice none 0 0)])).ok v W D):(gR (rq none)).ok v W D:=by
 obtain ⟨vs,e,h1⟩:=h
 refine ⟨vs,e,?_⟩
 have e0:rq none=((false,[]),(false,[])):=by show (nz 0,nz 0)=_;rw [zna]
 rw [e0]
 match vs.toList,h1 with
 | [a,b,c,d],⟨h1,h2,h3,h4,_⟩=>exact ⟨h1,nil_D h2,h3,nil_D h4,trivial⟩
 | [],h=>exact h.elim
 | [_],h=>exact h.2.elim
 | [_,_],h=>exact h.2.2.elim
 | [_,_,_],h=>exact h.2.2.2.elim
 | _::_::_::_::_::_,h=>exact h.2.2.2.2.elim
theorem zuV {w0:World} (x y r:Raw) (o:Bool) (hr:nz (vO (addX x y))=r) (ho:okO (addX x y)=o):Fun (KN w0) Tryz.prog 113 [gN x,gN y] (.t [.g (cN r),.c (pB o)]):=
 zi (zo2 (xs:=[x,y,r]) (es:=[.bool o]) (i:=0) (j:=1) (k:=2) (o:=.h 100) hr.symm (zQ (k:=0) (congrArg Value.bool ho.symm))) (by kernel_rfl) (by kernel_rfl) rfl rfl
theorem zuW {w0:World} (x y r:Raw) (o:Bool) (hr:nz (vO (mulX x y))=r) (ho:okO (mulX x y)=o):Fun (KN w0) Tryz.prog 112 [gN x,gN y] (.t [.g (cN r),.c (pB o)]):=
 zi (zuN (xs:=[x,y,r]) (es:=[.bool o]) (i:=0) (j:=1) (k:=2) (o:=.h 100) hr.symm (zQ (k:=0) (congrArg Value.bool ho.symm))) (by kernel_rfl) (by kernel_rfl) rfl rfl
theorem f_cmp {w0:World} (x y:Raw) (o:Int) (ho:cmpX x y=o):Fun (KN w0) Tryz.prog 70 [gN x,gN y] (.o (.c (pI o))):=
 zi (c_cmp (xs:=[x,y]) (es:=[.int .i64 o]) (i:=0) (j:=1) (o:=.h 100) (zQ (k:=0) (congrArg (Value.int .i64) ho.symm))) (by kernel_rfl) (by kernel_rfl) rfl rfl
theorem zqi {w0:World} (x y:Raw) (o:Int) (ho:cmpX x y=o):Fun (KN w0) Tryz.prog 76 [gN x,gN y] (.o (.c (pI o))):=
 zi (zpb (xs:=[x,y]) (es:=[.int .i64 o]) (i:=0) (j:=1) (o:=.h 100) (zQ (k:=0) (congrArg (Value.int .i64) ho.symm))) (by kernel_rfl) (by kernel_rfl) rfl rfl
theorem zjr {w0:World} (x:Int) (r:Raw) (hr:nz x=r) (h0:-9223372036854775808≤x) (h1:x<9223372036854775808):Fun (KN w0) Tryz.prog 65 [.o (.c (pI x))] (gN r):=
 zi (zmO (xs:=[r]) (es:=[.int .i64 x]) (k:=0) (a:=.h 100) (zQ (k:=0) rfl) h0 h1 hr.symm) (by kernel_rfl) (by kernel_rfl) rfl rfl
theorem zpo {w0:World} (x:Int) (r:Raw) (hr:nz x=r) (h0:-9223372036854775808≤x) (h1:x<9223372036854775808):Fun (KN w0) Tryz.prog 77 [.o (.c (pI x))] (gN r):=
 zi (zpn (xs:=[r]) (es:=[.int .i64 x]) (k:=0) (a:=.h 100) (zQ (k:=0) rfl) h0 h1 hr.symm) (by kernel_rfl) (by kernel_rfl) rfl rfl
theorem f_one {w0:World} (r:Raw) (hr:nz 1=r):Fun (KN w0) Tryz.prog 73 [] (gN r):=
 zi (c_one (xs:=[r]) (es:=[]) (k:=0) hr.symm) (by kernel_rfl) (by kernel_rfl) rfl rfl
theorem qq {w0:World} (x:RR) (o:Bool) (ho:rrX x.1 x.2=o):Fun (KN w0) Tryz.prog 46 [gR x] (.o (.c (pB o))):=
 zi (zkU (xs:=[x.1,x.2]) (es:=[.bool o]) (i:=0) (j:=1) (o:=.h 100) (zQ (k:=0) (congrArg Value.bool ho.symm))) (by kernel_rfl) (by kernel_rfl) rfl rfl
theorem zpg {w0:World} (x:RR) (o:Bool) (ho:rrX x.1 x.2=o):Fun (KN w0) Tryz.prog 48 [gR x] (.o (.c (pB o))):=
 zi (zsg (xs:=[x.1,x.2]) (es:=[.bool o]) (i:=0) (j:=1) (o:=.h 100) (zQ (k:=0) (congrArg Value.bool ho.symm))) (by kernel_rfl) (by kernel_rfl) rfl rfl
theorem zrc {w0:World} (x y:Raw) (r:RR) (o:Bool) (hr:rq (ofX x y)=r) (ho:(ofX x y).isSome=o):Fun (KN w0) Tryz.prog 95 [gN x,gN y] (.t [.g (cN r.1++cN r.2),.c (pB o)]):=
 zi (zuO (xs:=[x,y,r.1,r.2]) (es:=[.bool o]) (i:=0) (j:=1) (k:=2) (k2:=3) (o:=.h 100) (congrArg Prod.fst hr.symm) (congrArg Prod.snd hr.symm) (zQ (k:=0) (congrArg Value.bool ho.symm))) (by kernel_rfl) (by kernel_rfl) rfl rfl
theorem zju {w0:World} (hT:∀W,Below w0.heap.size w0 W→PowT w0.heap.size W) (x:Raw) (t:List UInt8) (ht:textS x.1 x.2=t):Fun (KN w0) Tryz.prog 74 [gN x] (.o (.c (pS t))):=
 zi (zn5 (xs:=[x]) (es:=[.string ⟨t.toArray⟩]) (i:=0) (o:=.h 100) hT (zQ (k:=0) (by rw [← ht];rfl))) (by kernel_rfl) (by kernel_rfl) rfl rfl
theorem zT {w0:World} (hT:∀W,Below w0.heap.size w0 W→PowT w0.heap.size W∧SynT w0.heap.size W) (s:List UInt8) (r:Raw) (o:Bool) (hr:nz (vO (zn s))=r) (ho:okO (zn s)=o):Fun (KN w0) Tryz.prog 109 [.o (.c (pS s))] (.t [.g (cN r),.c (pB o)]):=
 zi (zmN (xs:=[r]) (es:=[.string ⟨s.toArray⟩,.bool o]) (k:=0) (a:=.h 100) (o:=.h 101) hT (zQ (k:=0) rfl) hr.symm (zQ (k:=1) (congrArg Value.bool ho.symm))) (by kernel_rfl) (by kernel_rfl) rfl rfl
end Go.Proofs.YtjcegdldgjphiaaGreatDoor
