/-
  Merged: ExIy, ExRw, ExRd.
-/
import Derived.Test.YtdkofaajcpcjkaaGreatDoorMTT
import Derived.Lib.OthersKept
import Derived.Test.YtdkofaajcpcjkaaGreatDoorMTQ
import Derived.Test.YtdkofaajcpcjkaaGreatDoorMTO
set_option linter.unusedSimpArgs false
set_option linter.unusedVariables false
set_option maxRecDepth 1000000
set_option maxHeartbeats 2000000
namespace Go.Proofs.YtdkofaajcpcjkaaGreatDoor
open Go.RowKit
theorem zlM {W:World} {f:FuncId} {sh:List PSh} {v:Value} {args:Array Value} (hF:Fun (KN W) Tryz.prog f sh (.o (.c (pV v)))) (hs:oka sh args.toList W (fun q=>q<W.heap.size)) :
  Calls Tryz.prog f args W fun e W'=>e=.returned v∧Below W.heap.size W W':=by
 have:=hF W (fun q=>q<W.heap.size) args.toList hs ⟨Below.refl _ _,fun q h=>h,fun q h=>h⟩
 rw [Array.toArray_toList] at this
 refine this.mono fun e W' hr=>?_
 obtain ⟨v',D',rfl,hv,hk⟩:=hr
 have hv:v'=v:=hv
 subst hv
 exact ⟨rfl,hk.bel⟩
theorem zo1 (w:World):Calls Tryz.prog 49 #[.string ⟨#[32,40,41]⟩,.int .i32 65533] w fun e w'=>e=.returned (.int .i64 (-1))∧Below w.heap.size w w':=by
 have hlt:decide ((65533:Int)<128)=false:=rfl
 go_enter Tryz.func49,Tryz.ntmps49
 go_wp2_with fail
 go_loopg [5,6] 3 (fun g _ _ wx=>∃i:Nat,i+g=3∧wx=w.iter ⟨#[32,40,41]⟩ i)
 case atStart=>exact ⟨0,rfl,rfl⟩
 case round =>
  obtain ⟨i,hig,rfl⟩:=hrel
  cases gk with
  | zero =>
   obtain rfl:i=3:=by omega
   have hnx:=run_next_end (P:=Tryz.prog) w ⟨#[32,40,41]⟩ 3
   go_wp2
   go_ret
   exact ⟨rfl,(Below.refl _ _).alloc (Nat.le_refl _) _⟩
  | succ g =>
   obtain ⟨x,hx,hx128⟩:∃x:UInt8,(⟨#[32,40,41]⟩:ByteArray)[i]'(by show i<3;omega)=x∧x.toNat<128:=by
    rcases (by omega:i=0∨i=1∨i=2) with rfl | rfl | rfl
    ·exact ⟨32,rfl,by decide⟩
    ·exact ⟨40,rfl,by decide⟩
    ·exact ⟨41,rfl,by decide⟩
   have hnx:=fun ty=>run_next_ascii (P:=Tryz.prog) w ⟨#[32,40,41]⟩ i ty (by show i<3;omega) (by rw [hx];exact hx128)
   rw [hx] at hnx
   have hne:((x.toNat:Int) == 65533)=false:=beq_eq_false_iff_ne.2 (by omega)
   clear hx hx128
   go_wp2
   go_roundg g
   case measure=>omega
   case rel=>exact ⟨i+1,by omega,rfl⟩
theorem znI {r:Int} (h0:128≤r) (w:World):Calls Tryz.prog 49 #[.string ⟨#[32,40,41]⟩,.int .i32 r] w fun e w'=>e=.returned (.int .i64 (-1))∧Below w.heap.size w w':=by
 by_cases he:r=65533
 ·subst he;exact zo1 w
 ·exact zlM (x_ixr h0 he) ⟨rfl,rfl,trivial⟩
theorem zm9 (s:ByteArray) (i:Nat) (h:i<s.size):s.get! i=s[i]'h:=by
 show s.data[i]! = s.data[i]
 exact getElem!_pos ..
theorem zic {s:ByteArray} {i k:Nat} (hno:Lib.NoAny s.data.toList [32,40,41] i) (hk:i+k≤s.size) (hb:∀j,j<k→128≤(s.get! (i+j)).toNat):Lib.NoAny s.data.toList [32,40,41] (i+k):=by
 induction k with
 | zero=>exact hno
 | succ k ih =>
  have h1:=ih (by omega) fun j hj=>hb j (by omega)
  refine h1.succ (x:=s[i+k]'(by omega)) (Lib.data_getElem? s (i+k) (by omega)) ?_
  have:=hb k (by omega)
  rw [zm9 s _ (by omega)] at this
  rw [Bool.eq_false_iff]
  intro h
  simp only [List.contains_cons,List.contains_nil,Bool.or_false,Bool.or_eq_true,beq_iff_eq] at h
  rcases h with h | h | h<;>(rw [h] at this;revert this;decide)
theorem zlO (s:ByteArray) (i:Nat) (hi:i<s.size) (hno:Lib.NoAny s.data.toList [32,40,41] i):∃c k:Nat,Utf8.decode s i=(c,k)∧1≤k∧i+k≤s.size ∧
  ((128≤c∧Lib.NoAny s.data.toList [32,40,41] (i+k))∨(c<128∧k=1∧s.data.toList[i]?=some c.toUInt8)):=by
 by_cases h:(s[i]'hi).toNat<128
 ·refine ⟨(s[i]'hi).toNat,1,decode_ascii s i hi h,Nat.le_refl _,hi,.inr ⟨h,rfl,?_⟩⟩
  rw [Lib.data_getElem? s i hi]
  simp
 ·have h2:128≤(s.get! i).toNat:=by rw [zm9 s i hi];omega
  obtain ⟨w1,w2,w3,w4,w5⟩:=zgl s i hi h2
  exact ⟨_,_,rfl,w3,w4,.inl ⟨w1,zic hno w4 w5⟩⟩
theorem zlW (s:ByteArray) (w:World) (h8:s.size≤8):Calls Tryz.prog 27 #[.string s,.string ⟨#[32,40,41]⟩] w fun e w'=>e=.returned (.int .i64 (Lib.indexAny s.data.toList [32,40,41]))∧Below w.heap.size w w':=by
 have h8z:decide ((8:Int)<(s.size:Int))=false:=decide_eq_false (by omega)
 go_enter Tryz.func27,Tryz.ntmps27
 go_wp2_with (go_at_call 50;refine (Tryz.strings_shouldUseASCIISet _ _).mono ?_;rintro e w' ⟨rfl,hw⟩;rw [hw,h8z])
 clear h8z h8
 go_loopg [9,10] s.size (fun g _ _ wx=>∃(i:Nat),Hid (i+g≤s.size∧s.size - i≤g∧Below w.heap.size w wx∧w.heap.size<wx.heap.size∧wx.heap[w.heap.size]?=some (.stringIter s i)∧Lib.NoAny s.data.toList [32,40,41] i))
 case atStart=>exact ⟨0,Lib.hid ⟨by omega,by omega,(Below.refl _ _).alloc (Nat.le_refl _) _,by simp [World.iter],heap_alloc_new _ _,Lib.NoAny.zero _ _⟩⟩
 case round =>
  obtain ⟨i,H⟩:=hrel
  obtain ⟨h1,h2,h3,h4,h5,h6⟩:=H.out
  by_cases hi:i<s.size
  ·obtain ⟨c,k,hd,hk1,hk2,hc⟩:=zlO s i hi h6
   have hnx:=fun ty=>Lib.run_next_any_at (P:=Tryz.prog) wr w.heap.size s i ty h5 hi
   rw [hd] at hnx
   have B2:=Lib.below_iterAt h3 (Nat.le_refl _) s (i+k)
   have S2:=Lib.iterAt_size wr w.heap.size s (i+k)
   have G2:=Lib.iterAt_heap wr w.heap.size s i (i+k) h5
   have step:∀w3:World,Below (wr.iterAt w.heap.size s (i+k)).heap.size (wr.iterAt w.heap.size s (i+k)) w3→Lib.NoAny s.data.toList [32,40,41] (i+k)→Hid (i+k+(s.size - (i+k))≤s.size∧s.size - (i+k)≤s.size - (i+k)∧Below w.heap.size w w3∧w.heap.size<w3.heap.size∧w3.heap[w.heap.size]?=some (.stringIter s (i+k))∧Lib.NoAny s.data.toList [32,40,41] (i+k)):=fun w3 hb hno =>
    Lib.hid ⟨by omega,Nat.le_refl _,B2.trans (hb.mono (by omega)),Nat.lt_of_lt_of_le (by omega) hb.size,(hb.block _ (by omega)).trans G2,hno⟩
   have STEP:=Lib.hid step
   have MS:Hid (s.size - (i+k)<gk):=Lib.hid (by omega)
   obtain ⟨W2,hW2⟩:∃W2,wr.iterAt w.heap.size s (i+k)=W2:=⟨_,rfl⟩
   rw [hW2] at hnx STEP
   have BW2:Hid (Below w.heap.size w W2):=Lib.hid (by rw [← hW2];exact B2)
   rcases hc with ⟨hc,hno⟩ | ⟨hc,rfl,hx⟩
   ·have HN:=Lib.hid hno
    clear hno step B2 S2 G2 hd h1 h2 h3 h4 h5 h6 hi hk1 hk2 hW2
    go_wp2_with (go_at_call 49;go_loud (refine (znI (by omega) _).mono ?_;rintro e w3 ⟨rfl,hb⟩))
    go_roundg (s.size - (i+k))
    case measure=>exact MS.out
    case rel=>exact ⟨i+k,STEP.out _ hb HN.out⟩
   ·have HX:=Lib.hid hx
    have H6:=Lib.hid h6
    have hback:((c:Int)).toNat.toUInt8=c.toUInt8:=by simp
    have hcon:=Lib.contains_iff_indexByte [32,40,41] c.toUInt8
    obtain ⟨ib,hib⟩:∃ib,Lib.indexByte ([32,40,41]:List UInt8) c.toUInt8=ib:=⟨_,rfl⟩
    have HB:Hid (Lib.indexByte ([32,40,41]:List UInt8) c.toUInt8=ib):=Lib.hid hib
    rw [hib] at hcon
    clear hib
    clear hx step B2 S2 G2 hd h1 h2 h3 h4 h5 h6 hi hk1 hk2 hW2
    cases hin:([32,40,41]:List UInt8).contains c.toUInt8
    ·rw [hin] at hcon
     have hlt:¬ ((0:Int)≤ib):=of_decide_eq_false hcon.symm
     clear hcon
     have HI:=Lib.hid hin
     clear hin
     go_wp2_with (go_at_call 49;go_loud (refine (Tryz.strings_IndexRune_ascii _ _ _ (by omega) (by omega)).mono ?_;rintro e w' ⟨rfl,hw⟩;rw [hw,hback,show (⟨#[32,40,41]⟩:ByteArray).data.toList=[32,40,41] from rfl,HB.out]))
     go_roundg (s.size - (i+1))
     case measure=>exact MS.out
     case rel=>exact ⟨i+1,STEP.out _ (Below.refl _ _) (H6.out.succ HX.out HI.out)⟩
    ·rw [hin] at hcon
     have hge:(0:Int)≤ib:=of_decide_eq_true hcon.symm
     clear hcon
     have HI:=Lib.hid hin
     clear hin
     go_wp2_with (go_at_call 49;go_loud (refine (Tryz.strings_IndexRune_ascii _ _ _ (by omega) (by omega)).mono ?_;rintro e w' ⟨rfl,hw⟩;rw [hw,hback,show (⟨#[32,40,41]⟩:ByteArray).data.toList=[32,40,41] from rfl,HB.out]))
     go_ret
     exact ⟨by rw [Lib.indexAny_hit H6.out HX.out HI.out];rfl,BW2.out⟩
  ·have hnx:=fun ty=>Lib.run_next_end_at (P:=Tryz.prog) wr w.heap.size s i ty h5 hi
   have H6:=Lib.hid h6
   have H3:=Lib.hid h3
   have HE:Hid (i ≥ s.size):=Lib.hid (by omega)
   clear h1 h2 h3 h4 h5 h6 hi
   go_wp2
   go_ret
   exact ⟨by rw [Lib.indexAny_none (fun j b hj hb=>H6.out j b (Nat.lt_of_lt_of_le hj (by rw [← Lib.size_eq];exact HE.out)) hb)];rfl,H3.out⟩
theorem zo0 {w0:World} {s:List UInt8} (hl:s.length<4294967281):IxAll w0 s:=by
 refine ⟨hl,fun t ht=>?_⟩
 intro W D vs hs hf
 obtain ⟨v,u,rfl,hv,hu⟩:=oka2 hs
 obtain rfl:v=.string ⟨t.toArray⟩:=hv
 obtain rfl:u=.string ⟨#[32,40,41]⟩:=hu
 have hc:Calls Tryz.prog 27 #[.string ⟨t.toArray⟩,.string ⟨#[32,40,41]⟩] W fun e w'=>e=.returned (.int .i64 (Lib.indexAny t [32,40,41]))∧Below W.heap.size W w':=by
  by_cases h8:t.length≤8
  ·exact zlW ⟨t.toArray⟩ W h8
  ·refine (Tryz.strings_IndexAny_long (fun w=>(Go.zero_of_info (P:=Tryz.prog) (t:=79) (n:=256) (by kernel_rfl)).1 w) ⟨t.toArray⟩ ⟨#[32,40,41]⟩ W (by decide) (by show 8<t.toArray.size;simp;omega) (by show t.toArray.size<_;simpa using Nat.lt_of_le_of_lt ht.length_le hl) (by decide) (fun j b hb=>by
    have:=List.mem_of_getElem? hb
    simp at this
    rcases this with rfl | rfl | rfl<;>decide)).mono fun e w' ⟨h1,h2⟩=>⟨h1,?_⟩
   rw [h2]
   exact ((Below.refl _ _).alloc (Nat.le_refl _) _).alloc (by simp) _
 refine hc.mono fun e W' hr=>?_
 obtain ⟨rfl,hb⟩:=hr
 refine ⟨_,D,rfl,?_,Kept.of hf hb⟩
 show _=Value.int .i64 (idxD t)
 rw [← zba]
end Go.Proofs.YtdkofaajcpcjkaaGreatDoor
namespace Go.Proofs.YtdkofaajcpcjkaaGreatDoor
open Go.RowKit
def cS (s:List UInt8):List Pred:=[pS s]
theorem zN {w0:World} (s:List UInt8):FineAll (KN w0) (cS s):=⟨za,trivial⟩
def qA:List (List UInt8):=[[43],[45],[42],[109,105,110],[109,97,120]]
theorem zo4 {o:Int} {l:List (List UInt8)} (h:3≤o∧o≤7) (e:qA=l):∃(n:Nat) (x:List UInt8),o - 3=(n:Int)∧l[n]?=some x:=by
 subst e
 have:o=3∨o=4∨o=5∨o=6∨o=7:=by omega
 rcases this with rfl | rfl | rfl | rfl | rfl
 ·exact ⟨0,_,rfl,rfl⟩
 ·exact ⟨1,_,rfl,rfl⟩
 ·exact ⟨2,_,rfl,rfl⟩
 ·exact ⟨3,_,rfl,rfl⟩
 ·exact ⟨4,_,rfl,rfl⟩
theorem nm_at {n:Nat} {o:Int} {l:List (List UInt8)} {x:List UInt8} (e:qA=l) (h:l[n]?=some x) (hn:o - 3=n):x=opW o:=by
 subst e
 obtain rfl:o=n+3:=by omega
 match n,h with
 | 0,h=>injection h with h;subst h;rfl
 | 1,h=>injection h with h;subst h;rfl
 | 2,h=>injection h with h;subst h;rfl
 | 3,h=>injection h with h;subst h;rfl
 | 4,h=>injection h with h;subst h;rfl
 | _+5,h=>simp [qA] at h
theorem zk8 {w0:World} (v1:(List (List UInt8))) (e1:(([[43],[45],[42],[109,105,110],[109,97,120]]:List (List UInt8)))=v1):Fun (KN w0) Tryz.prog 47 [] (.o (.c (pLs cS v1))):=
 zk (zr (F:=FL [pLs cS v1] []) (C:=[(1000001,.dat 9 5 [.k (.string ⟨#[43]⟩),.k (.string ⟨#[45]⟩),.k (.string ⟨#[42]⟩),.k (.string ⟨#[109,105,110]⟩),.k (.string ⟨#[109,97,120]⟩)] 0)]) (k:=⟨47,[],[],yh 0,[]⟩) 0 (zg ⟨(ze zN),trivial⟩) ⟨e_dat (c:=cS) (ps:=(pV (.string ⟨#[43]⟩)::pV (.string ⟨#[45]⟩)::pV (.string ⟨#[42]⟩)::pV (.string ⟨#[109,105,110]⟩)::pV (.string ⟨#[109,97,120]⟩)::[])) (qs:=(pS [43]::pS [45]::pS [42]::pS [109,105,110]::pS [109,97,120]::[])) (by rw [← e1];rfl) rfl rfl rfl (pimps (fun _ _ _ h=>h) <| pimps (fun _ _ _ h=>h) <| pimps (fun _ _ _ h=>h) <| pimps (fun _ _ _ h=>h) <| pimps (fun _ _ _ h=>h) <| qo) rfl,
  trivial⟩ mixed (by kernel_rfl))
theorem zcE {w0:World} (l:List (List UInt8)) (hl:qA=l):Fun (KN w0) Tryz.prog 47 [] (.o (.c (pLs cS l))):=by
 exact zk8 l hl
def zaE (w0:World) (k:Int) (N:Nat):Prop:=∀(x:Xp) (v:List UInt8),zy x=v→Vx k x→nodes x≤N→Fun (KN w0) Tryz.prog 22 [.o (.g [pI x.op,pI x.n,pLs cE x.l])] (.o (.c (pS v)))
theorem zhf {w0:World} (e:Xp) (N:Nat) (k:Int) (IH:zaE w0 k N) (v1:Bool) (v3:(List UInt8)) (e1:((e.op == (1:Int)))=v1) (e3:(Lib.itoa e.n)=v3) (h2:v1=true) (s4:valB e.n=true):Fun (KN w0) Tryz.prog 22 [.o (.g [pI e.op,pI e.n,pLs cE e.l])] (.o (.c (pS v3))):=
 zk (zr (F:=FL [pI e.op,pI e.n,pLs cE e.l,pB v1,pS v3] []) (C:=[(1000004,.bin .eql 3 (yh 0) (LF (.k (.int .i64 1))) (yh 3)),
  (10003,.fb 3 true),
  (1000008,.call ⟨46,[yh 1],[],yh 4,[]⟩)]) (k:=⟨22,[.o (.g [.h 0,.h 1,.h 2])],[],yh 4,[]⟩) 0 (zg ⟨za,za,(ze (zf rfl)),za,za,trivial⟩) ⟨e_bin (zb rfl) zd (zb rfl) (r_cmp (congrArg some e1)),
  e_fbv h2,
  zh (x_dec e.n v3 e3 s4),
  trivial⟩ mixed (by kernel_rfl))
theorem zhg {w0:World} (e:Xp) (N:Nat) (k:Int) (IH:zaE w0 k N) (v1:Bool) (v3:Bool) (v5:(List UInt8)) (v7:(List UInt8)) (e1:((e.op == (1:Int)))=v1) (e3:((e.op == (2:Int)))=v3) (e5:(Lib.itoa e.n)=v5) (e7:([36]++v5)=v7) (h2:v1=false) (h4:v3=true) (s6:valB e.n=true) (s8:((([36]:List UInt8).length+(v5:List UInt8).length:Nat):Int)≤9223372036854775807):Fun (KN w0) Tryz.prog 22 [.o (.g [pI e.op,pI e.n,pLs cE e.l])] (.o (.c (pS v7))):=
 zk (zr (F:=FL [pI e.op,pI e.n,pLs cE e.l,pB v1,pB v3,pS v5,pS v7] []) (C:=[(1000004,.bin .eql 3 (yh 0) (LF (.k (.int .i64 1))) (yh 3)),
  (10003,.fb 3 false),
  (1000006,.bin .eql 3 (yh 0) (LF (.k (.int .i64 2))) (yh 4)),
  (10004,.fb 4 true),
  (1000010,.call ⟨46,[yh 1],[],yh 5,[]⟩),
  (1000011,.bin .add 9 (LF (.k (.string ⟨#[36]⟩))) (yh 5) (yh 6))]) (k:=⟨22,[.o (.g [.h 0,.h 1,.h 2])],[],yh 6,[]⟩) 0 (zg ⟨za,za,(ze (zf rfl)),za,za,za,za,trivial⟩) ⟨e_bin (zb rfl) zd (zb rfl) (r_cmp (congrArg some e1)),
  e_fbv h2,
  e_bin (zb rfl) zd (zb rfl) (r_cmp (congrArg some e3)),
  e_fbv h4,
  zh (x_dec e.n v5 e5 s6),
  e_bin zd (zb rfl) (zb rfl) (fun W X Y=>by rw [← e7];exact r_cat s8 W X Y),
  trivial⟩ mixed (by kernel_rfl))
theorem zhh {w0:World} (e:Xp) (N:Nat) (k:Int) (IH:zaE w0 k N) (v1:Bool) (v3:Bool) (v5:(List (List UInt8))) (v6:Int) (n7:Nat) (x8:(List UInt8)) (v11:(List UInt8)) (v13:(List UInt8)) (n15:Nat) (x16:Xp) (v19:(List UInt8)) (v22:(List UInt8)) (v24:(List UInt8)) (n26:Nat) (x27:Xp) (v30:(List UInt8)) (v33:(List UInt8)) (v35:(List UInt8)) (e1:((e.op == (1:Int)))=v1) (e3:((e.op == (2:Int)))=v3) (e5:(qA)=v5) (e6:(IntKind.i64.wrap (e.op - (3:Int)))=v6) (e11:([40]++x8)=v11) (e13:(v11++[32])=v13) (e19:(zy x16)=v19) (e22:(v13++v19)=v22) (e24:(v22++[32])=v24) (e30:(zy x27)=v30) (e33:(v24++v30)=v33) (e35:(v33++[41])=v35) (h2:v1=false) (h4:v3=false) (s9:v6=(n7:Int)) (s10:v5[n7]?=some x8) (s12:((([40]:List UInt8).length+(x8:List UInt8).length:Nat):Int)≤9223372036854775807) (s14:(((v11:List UInt8).length+([32]:List UInt8).length:Nat):Int)≤9223372036854775807) (s17:(0:Int)=(n15:Int)) (s18:e.l[n15]?=some x16) (s20:Vx k x16) (s21:nodes x16≤N) (s23:(((v13:List UInt8).length+(v19:List UInt8).length:Nat):Int)≤9223372036854775807) (s25:(((v22:List UInt8).length+([32]:List UInt8).length:Nat):Int)≤9223372036854775807) (s28:(1:Int)=(n26:Int)) (s29:e.l[n26]?=some x27) (s31:Vx k x27) (s32:nodes x27≤N) (s34:(((v24:List UInt8).length+(v30:List UInt8).length:Nat):Int)≤9223372036854775807) (s36:(((v33:List UInt8).length+([41]:List UInt8).length:Nat):Int)≤9223372036854775807):Fun (KN w0) Tryz.prog 22 [.o (.g [pI e.op,pI e.n,pLs cE e.l])] (.o (.c (pS v35))):=
 zk (zr (F:=FL [pI e.op,pI e.n,pLs cE e.l,pB v1,pB v3,pLs cS v5,pI v6,pP (cS x8),pS x8,pS v11,pS v13,pP (cE x16),pI x16.op,pI x16.n,pLs cE x16.l,pS v19,pS v22,pS v24,pP (cE x27),pI x27.op,pI x27.n,pLs cE x27.l,pS v30,pS v33,pS v35] []) (C:=[(1000004,.bin .eql 3 (yh 0) (LF (.k (.int .i64 1))) (yh 3)),
  (10003,.fb 3 false),
  (1000006,.bin .eql 3 (yh 0) (LF (.k (.int .i64 2))) (yh 4)),
  (10004,.fb 4 false),
  (1000008,.call ⟨47,[],[],yh 5,[]⟩),
  (1000011,.bin .sub 3 (yh 0) (LF (.k (.int .i64 3))) (yh 6)),
  (1000012,.op (.ia 28) [yh 5,yh 6] [] (yh 7)),
  (1000013,.op (.ld 9) [yh 7] [] (yh 8)),
  (1000014,.bin .add 9 (LF (.k (.string ⟨#[40]⟩))) (yh 8) (yh 9)),
  (1000015,.bin .add 9 (yh 9) (LF (.k (.string ⟨#[32]⟩))) (yh 10)),
  (1000018,.op (.ia 29) [yh 2,LF (.k (.int .i64 0))] [] (yh 11)),
  (1000019,.op (.ld 32) [yh 11] [] (.o (.g [.h 12,.h 13,.h 14]))),
  (1000020,.call ⟨22,[.o (.g [.h 12,.h 13,.h 14])],[],yh 15,[]⟩),
  (1000021,.bin .add 9 (yh 10) (yh 15) (yh 16)),
  (1000022,.bin .add 9 (yh 16) (LF (.k (.string ⟨#[32]⟩))) (yh 17)),
  (1000025,.op (.ia 29) [yh 2,LF (.k (.int .i64 1))] [] (yh 18)),
  (1000026,.op (.ld 32) [yh 18] [] (.o (.g [.h 19,.h 20,.h 21]))),
  (1000027,.call ⟨22,[.o (.g [.h 19,.h 20,.h 21])],[],yh 22,[]⟩),
  (1000028,.bin .add 9 (yh 17) (yh 22) (yh 23)),
  (1000029,.bin .add 9 (yh 23) (LF (.k (.string ⟨#[41]⟩))) (yh 24))]) (k:=⟨22,[.o (.g [.h 0,.h 1,.h 2])],[],yh 24,[]⟩) 0 (zg ⟨za,za,(ze (zf rfl)),za,za,(ze zN),za,(zl (zN _)),za,za,za,(zl ((zf rfl) _)),za,za,(ze (zf rfl)),za,za,za,(zl ((zf rfl) _)),za,za,(ze (zf rfl)),za,za,za,trivial⟩) ⟨e_bin (zb rfl) zd (zb rfl) (r_cmp (congrArg some e1)),
  e_fbv h2,
  e_bin (zb rfl) zd (zb rfl) (r_cmp (congrArg some e3)),
  e_fbv h4,
  zh (zcE  v5 e5),
  e_bin (zb rfl) zd (zb rfl) (r_ar (congrArg some e6)),
  e_iaL (E:=9) (z:=1) (fun _=>rfl) (by kernel_rfl) (by kernel_rfl) (zc rfl) (zb rfl) s9 s10 (zc rfl),
  e_ldP (by kernel_rfl) (zc rfl) (zc rfl),
  e_bin zd (zb rfl) (zb rfl) (fun W X Y=>by rw [← e11];exact r_cat s12 W X Y),
  e_bin (zb rfl) zd (zb rfl) (fun W X Y=>by rw [← e13];exact r_cat s14 W X Y),
  e_iaL (E:=32) (z:=3) zj (by kernel_rfl) (by kernel_rfl) (zc rfl) zd s17 s18 (zc rfl),
  e_ldG (by kernel_rfl) (by kernel_rfl) (zc rfl) (cE_eq _).symm rfl (zj _),
  zh (IH x16 v19 e19 s20 s21),
  e_bin (zb rfl) (zb rfl) (zb rfl) (fun W X Y=>by rw [← e22];exact r_cat s23 W X Y),
  e_bin (zb rfl) zd (zb rfl) (fun W X Y=>by rw [← e24];exact r_cat s25 W X Y),
  e_iaL (E:=32) (z:=3) zj (by kernel_rfl) (by kernel_rfl) (zc rfl) zd s28 s29 (zc rfl),
  e_ldG (by kernel_rfl) (by kernel_rfl) (zc rfl) (cE_eq _).symm rfl (zj _),
  zh (IH x27 v30 e30 s31 s32),
  e_bin (zb rfl) (zb rfl) (zb rfl) (fun W X Y=>by rw [← e33];exact r_cat s34 W X Y),
  e_bin (zb rfl) zd (zb rfl) (fun W X Y=>by rw [← e35];exact r_cat s36 W X Y),
  trivial⟩ mixed (by kernel_rfl))
theorem zi5 {w0:World} {N:Nat} (k:Int) (IH:zaE w0 k N) (e:Xp) (r:List UInt8) (hr:zy e=r) (hx:Vx k e) (hN:nodes e≤N+1) (hN1:N+1≤1000000):Fun (KN w0) Tryz.prog 22 [.o (.g [pI e.op,pI e.n,pLs cE e.l])] (.o (.c (pS r))):=by
 obtain ⟨v1,e1⟩:∃v,((e.op == (1:Int)))=v:=⟨_,rfl⟩
 cases h2:v1 with
 | true =>
  obtain ⟨v3,e3⟩:∃v,(Lib.itoa e.n)=v:=⟨_,rfl⟩
  have s4:valB e.n=true:=by (have dh2:=eq_of_beq (e1.trans h2);exact (zhZ hx (by assumption)).2)
  refine Fun.imp (zhf e N k IH v1 v3 e1 e3 h2 s4) (fun _ _ _ h=>h) (fun v W D h=>?_)
  have r0:r=v3:=by
   (have dh2:=eq_of_beq (e1.trans h2);rw [← hr,(zhZ hx (by assumption)).1];exact e3)
  rw [r0];exact h
 | false =>
  obtain ⟨v3,e3⟩:∃v,((e.op == (2:Int)))=v:=⟨_,rfl⟩
  cases h4:v3 with
  | true =>
   obtain ⟨v5,e5⟩:∃v,(Lib.itoa e.n)=v:=⟨_,rfl⟩
   have s6:valB e.n=true:=by (have dh2:=ne_of_beq_false (e1.trans h2);have dh4:=eq_of_beq (e3.trans h4);exact (zeh hx (by assumption)).2)
   obtain ⟨v7,e7⟩:∃v,([36]++v5)=v:=⟨_,rfl⟩
   have s8:((([36]:List UInt8).length+(v5:List UInt8).length:Nat):Int)≤9223372036854775807:=by (have dh2:=ne_of_beq_false (e1.trans h2);have dh4:=eq_of_beq (e3.trans h4);have:=zc0 (zeh hx (by assumption)).2;rw [e5] at *;simp only [List.length_append,List.length_cons,List.length_nil] at *;omega)
   refine Fun.imp (zhg e N k IH v1 v3 v5 v7 e1 e3 e5 e7 h2 h4 s6 s8) (fun _ _ _ h=>h) (fun v W D h=>?_)
   have r0:r=v7:=by
    (have dh2:=ne_of_beq_false (e1.trans h2);have dh4:=eq_of_beq (e3.trans h4);rw [← hr,(zeh hx (by assumption)).1,e5,← e7];rfl)
   rw [r0];exact h
  | false =>
   obtain ⟨v5,e5⟩:∃v,(qA)=v:=⟨_,rfl⟩
   obtain ⟨v6,e6⟩:∃v,(IntKind.i64.wrap (e.op - (3:Int)))=v:=⟨_,rfl⟩
   obtain ⟨n7,x8,s9,s10⟩:∃(n7:Nat) (x8:(List UInt8)),v6=(n7:Int)∧v5[n7]?=some x8:=by (have dh2:=ne_of_beq_false (e1.trans h2);have dh4:=ne_of_beq_false (e3.trans h4);obtain ⟨a,b,q1,q2,q3,_⟩:=vx_op hx (by assumption) (by assumption);have q:=zo4 ⟨q2,q3⟩ e5;rw [show e.op - 3=v6 from (by rw [← e6];exact (wri (by omega)).symm)] at q;exact q)
   obtain ⟨v11,e11⟩:∃v,([40]++x8)=v:=⟨_,rfl⟩
   have s12:((([40]:List UInt8).length+(x8:List UInt8).length:Nat):Int)≤9223372036854775807:=by (have dh2:=ne_of_beq_false (e1.trans h2);have dh4:=ne_of_beq_false (e3.trans h4);have:=congrArg List.length (nm_at (o:=e.op) e5 s10 ((show e.op - 3=v6 from (by obtain ⟨a,b,q1,q2,q3,_⟩:=vx_op hx (by assumption) (by assumption);rw [← e6];exact (wri (by omega)).symm)).trans s9));have:=zae e.op;simp only [List.length_append,List.length_cons,List.length_nil] at *;omega)
   obtain ⟨v13,e13⟩:∃v,(v11++[32])=v:=⟨_,rfl⟩
   have s14:(((v11:List UInt8).length+([32]:List UInt8).length:Nat):Int)≤9223372036854775807:=by (have dh2:=ne_of_beq_false (e1.trans h2);have dh4:=ne_of_beq_false (e3.trans h4);have:=congrArg List.length (nm_at (o:=e.op) e5 s10 ((show e.op - 3=v6 from (by obtain ⟨a,b,q1,q2,q3,_⟩:=vx_op hx (by assumption) (by assumption);rw [← e6];exact (wri (by omega)).symm)).trans s9));have:=zae e.op;rw [← e11];simp only [List.length_append,List.length_cons,List.length_nil] at *;omega)
   obtain ⟨n15,x16,s17,s18⟩:∃(n15:Nat) (x16:Xp),(0:Int)=(n15:Int)∧e.l[n15]?=some x16:=by (have dh2:=ne_of_beq_false (e1.trans h2);have dh4:=ne_of_beq_false (e3.trans h4);obtain ⟨a,b,q1,q2⟩:=zaq (n:=0) (m:=0) hx (by assumption) (by assumption);exact ⟨0,_,rfl,q1⟩)
   obtain ⟨v19,e19⟩:∃v,(zy x16)=v:=⟨_,rfl⟩
   have s20:Vx k x16:=by exact vx_at hx s18
   have s21:nodes x16≤N:=by exact zu hN s18
   obtain ⟨v22,e22⟩:∃v,(v13++v19)=v:=⟨_,rfl⟩
   have s23:(((v13:List UInt8).length+(v19:List UInt8).length:Nat):Int)≤9223372036854775807:=by (have dh2:=ne_of_beq_false (e1.trans h2);have dh4:=ne_of_beq_false (e3.trans h4);have:=qc (vx_at hx s18);have:=zu hN s18;rw [e19] at *;have:=congrArg List.length (nm_at (o:=e.op) e5 s10 ((show e.op - 3=v6 from (by obtain ⟨a,b,q1,q2,q3,_⟩:=vx_op hx (by assumption) (by assumption);rw [← e6];exact (wri (by omega)).symm)).trans s9));have:=zae e.op;rw [← e13,← e11];simp only [List.length_append,List.length_cons,List.length_nil] at *;omega)
   obtain ⟨v24,e24⟩:∃v,(v22++[32])=v:=⟨_,rfl⟩
   have s25:(((v22:List UInt8).length+([32]:List UInt8).length:Nat):Int)≤9223372036854775807:=by (have dh2:=ne_of_beq_false (e1.trans h2);have dh4:=ne_of_beq_false (e3.trans h4);have:=qc (vx_at hx s18);have:=zu hN s18;rw [e19] at *;have:=congrArg List.length (nm_at (o:=e.op) e5 s10 ((show e.op - 3=v6 from (by obtain ⟨a,b,q1,q2,q3,_⟩:=vx_op hx (by assumption) (by assumption);rw [← e6];exact (wri (by omega)).symm)).trans s9));have:=zae e.op;rw [← e22,← e13,← e11];simp only [List.length_append,List.length_cons,List.length_nil] at *;omega)
   obtain ⟨n26,x27,s28,s29⟩:∃(n26:Nat) (x27:Xp),(1:Int)=(n26:Int)∧e.l[n26]?=some x27:=by (have dh2:=ne_of_beq_false (e1.trans h2);have dh4:=ne_of_beq_false (e3.trans h4);obtain ⟨a,b,q1,q2⟩:=zaq (n:=0) (m:=0) hx (by assumption) (by assumption);exact ⟨1,_,rfl,q2⟩)
   obtain ⟨v30,e30⟩:∃v,(zy x27)=v:=⟨_,rfl⟩
   have s31:Vx k x27:=by exact vx_at hx s29
   have s32:nodes x27≤N:=by exact zu hN s29
   obtain ⟨v33,e33⟩:∃v,(v24++v30)=v:=⟨_,rfl⟩
   have s34:(((v24:List UInt8).length+(v30:List UInt8).length:Nat):Int)≤9223372036854775807:=by (have dh2:=ne_of_beq_false (e1.trans h2);have dh4:=ne_of_beq_false (e3.trans h4);have:=qc (vx_at hx s18);have:=zu hN s18;rw [e19] at *;have:=qc (vx_at hx s29);have:=zu hN s29;rw [e30] at *;have:=congrArg List.length (nm_at (o:=e.op) e5 s10 ((show e.op - 3=v6 from (by obtain ⟨a,b,q1,q2,q3,_⟩:=vx_op hx (by assumption) (by assumption);rw [← e6];exact (wri (by omega)).symm)).trans s9));have:=zae e.op;rw [← e24,← e22,← e13,← e11];simp only [List.length_append,List.length_cons,List.length_nil] at *;omega)
   obtain ⟨v35,e35⟩:∃v,(v33++[41])=v:=⟨_,rfl⟩
   have s36:(((v33:List UInt8).length+([41]:List UInt8).length:Nat):Int)≤9223372036854775807:=by (have dh2:=ne_of_beq_false (e1.trans h2);have dh4:=ne_of_beq_false (e3.trans h4);have:=qc (vx_at hx s18);have:=zu hN s18;rw [e19] at *;have:=qc (vx_at hx s29);have:=zu hN s29;rw [e30] at *;have:=congrArg List.length (nm_at (o:=e.op) e5 s10 ((show e.op - 3=v6 from (by obtain ⟨a,b,q1,q2,q3,_⟩:=vx_op hx (by assumption) (by assumption);rw [← e6];exact (wri (by omega)).symm)).trans s9));have:=zae e.op;rw [← e33,← e24,← e22,← e13,← e11];simp only [List.length_append,List.length_cons,List.length_nil] at *;omega)
   refine Fun.imp (zhh e N k IH v1 v3 v5 v6 n7 x8 v11 v13 n15 x16 v19 v22 v24 n26 x27 v30 v33 v35 e1 e3 e5 e6 e11 e13 e19 e22 e24 e30 e33 e35 h2 h4 s9 s10 s12 s14 s17 s18 s20 s21 s23 s25 s28 s29 s31 s32 s34 s36) (fun _ _ _ h=>h) (fun v W D h=>?_)
   have r0:r=v35:=by
    (have dh2:=ne_of_beq_false (e1.trans h2);have dh4:=ne_of_beq_false (e3.trans h4);have q:=(wr_op hx (by assumption) (by assumption) s17 s28 s18 s29).1;rw [e19,e30] at q;rw [← hr,q,← e35,← e33,← e24,← e22,← e13,← e11,(nm_at (o:=e.op) e5 s10 ((show e.op - 3=v6 from (by obtain ⟨a,b,q1,q2,q3,_⟩:=vx_op hx (by assumption) (by assumption);rw [← e6];exact (wri (by omega)).symm)).trans s9))];simp)
   rw [r0];exact h
theorem zcS {w0:World} (k:Int):∀N:Nat,N≤1000000→zaE w0 k N
 | 0,_=>fun x v _ _ h=>by have:=qk x;omega
 | N+1,hN=>fun x v hv hx h=>zi5 k (zcS k N (by omega)) x v hv hx h hN
theorem zmX {w0:World} (x:Xp) (v:List UInt8) (hv:zy x=v) (hx:Vx 4 x) (hn:nodes x≤1000000):Fun (KN w0) Tryz.prog 22 [.o (.g [pI x.op,pI x.n,pLs cE x.l])] (.o (.c (pS v))):=zcS 4 (nodes x) hn x v hv hx (Nat.le_refl _)
theorem ziP {w0:World} (e:Xp) (v1:Int) (v3:Bool) (e1:(z6 e (4:Int))=v1) (e3:((v1 != (0:Int)))=v3) (s2:nodes e≤1000000) (h4:v3=true):Fun (KN w0) Tryz.prog 7 [.o (.g [pI e.op,pI e.n,pLs cE e.l])] (.t [.c (pV (.string ⟨#[]⟩)),.c (pV (.bool false))]):=
 zk (zr (F:=FL [pI e.op,pI e.n,pLs cE e.l,pI v1,pB v3] []) (C:=[(1000004,.call ⟨21,[.o (.g [.h 0,.h 1,.h 2]),.o (.c (.k (.int .i64 4)))],[],yh 3,[]⟩),
  (1000005,.bin .neq 44 (yh 3) (LF (.k (.int .i64 0))) (yh 4)),
  (10004,.fb 4 true)]) (k:=⟨7,[.o (.g [.h 0,.h 1,.h 2])],[],.t [.c (.k (.string ⟨#[]⟩)),.c (.k (.bool false))],[]⟩) 0 (zg ⟨za,za,(ze (zf rfl)),za,za,trivial⟩) ⟨zh (zh4 e (4:Int) v1 e1 s2),
  e_bin (zb rfl) zd (zb rfl) (r_cmp (congrArg some e3)),
  e_fbv h4,
  trivial⟩ mixed (by kernel_rfl))
theorem ziQ {w0:World} (e:Xp) (v1:Int) (v3:Bool) (v5:(List UInt8)) (e1:(z6 e (4:Int))=v1) (e3:((v1 != (0:Int)))=v3) (e5:(zy e)=v5) (s2:nodes e≤1000000) (h4:v3=false) (s6:Vx 4 e) (s7:nodes e≤1000000):Fun (KN w0) Tryz.prog 7 [.o (.g [pI e.op,pI e.n,pLs cE e.l])] (.t [.c (pS v5),.c (pV (.bool true))]):=
 zk (zr (F:=FL [pI e.op,pI e.n,pLs cE e.l,pI v1,pB v3,pS v5] []) (C:=[(1000004,.call ⟨21,[.o (.g [.h 0,.h 1,.h 2]),.o (.c (.k (.int .i64 4)))],[],yh 3,[]⟩),
  (1000005,.bin .neq 44 (yh 3) (LF (.k (.int .i64 0))) (yh 4)),
  (10004,.fb 4 false),
  (1000007,.call ⟨22,[.o (.g [.h 0,.h 1,.h 2])],[],yh 5,[]⟩)]) (k:=⟨7,[.o (.g [.h 0,.h 1,.h 2])],[],.t [.c (.h 5),.c (.k (.bool true))],[]⟩) 0 (zg ⟨za,za,(ze (zf rfl)),za,za,za,trivial⟩) ⟨zh (zh4 e (4:Int) v1 e1 s2),
  e_bin (zb rfl) zd (zb rfl) (r_cmp (congrArg some e3)),
  e_fbv h4,
  zh (zmX e v5 e5 s6 s7),
  trivial⟩ mixed (by kernel_rfl))
theorem zfb {w0:World} (e:Xp) (r:List UInt8) (b:Bool) (hr:textX e=r) (hb:textO e=b) (hn:nodes e≤1000000):Fun (KN w0) Tryz.prog 7 [.o (.g [pI e.op,pI e.n,pLs cE e.l])] (.t [.c (pS r),.c (pB b)]):=by
 obtain ⟨v1,e1⟩:∃v,(z6 e (4:Int))=v:=⟨_,rfl⟩
 have s2:nodes e≤1000000:=by exact hn
 obtain ⟨v3,e3⟩:∃v,((v1 != (0:Int)))=v:=⟨_,rfl⟩
 cases h4:v3 with
 | true =>
  refine Fun.imp (ziP e v1 v3 e1 e3 s2 h4) (fun _ _ _ h=>h) (fun v W D h=>?_)
  have r0:r=[]:=by
   (have dh4:=bne_iff_ne.1 (e3.trans h4);unfold textX at hr;unfold textO at hb;rw [e1] at hr hb;first | (rw [← hr,if_neg dh4];done) | (rw [← hb];exact beq_eq_false_iff_ne.2 dh4) | (rw [← hr,if_pos dh4];assumption) | (rw [← hb,dh4];rfl))
  have r1:b=false:=by
   (have dh4:=bne_iff_ne.1 (e3.trans h4);unfold textX at hr;unfold textO at hb;rw [e1] at hr hb;first | (rw [← hr,if_neg dh4];done) | (rw [← hb];exact beq_eq_false_iff_ne.2 dh4) | (rw [← hr,if_pos dh4];assumption) | (rw [← hb,dh4];rfl))
  rw [r0,r1];exact h
 | false =>
  obtain ⟨v5,e5⟩:∃v,(zy e)=v:=⟨_,rfl⟩
  have s6:Vx 4 e:=by (have dh4:=bne_eq_false_iff_eq.1 (e3.trans h4);exact (qS.1 (e1.trans (by assumption))).2)
  have s7:nodes e≤1000000:=by exact hn
  refine Fun.imp (ziQ e v1 v3 v5 e1 e3 e5 s2 h4 s6 s7) (fun _ _ _ h=>h) (fun v W D h=>?_)
  have r0:r=v5:=by
   (have dh4:=bne_eq_false_iff_eq.1 (e3.trans h4);unfold textX at hr;unfold textO at hb;rw [e1] at hr hb;first | (rw [← hr,if_neg dh4];done) | (rw [← hb];exact beq_eq_false_iff_ne.2 dh4) | (rw [← hr,if_pos dh4];assumption) | (rw [← hb,dh4];rfl))
  have r1:b=true:=by
   (have dh4:=bne_eq_false_iff_eq.1 (e3.trans h4);unfold textX at hr;unfold textO at hb;rw [e1] at hr hb;first | (rw [← hr,if_neg dh4];done) | (rw [← hb];exact beq_eq_false_iff_ne.2 dh4) | (rw [← hr,if_pos dh4];assumption) | (rw [← hb,dh4];rfl))
  rw [r0,r1];exact h
end Go.Proofs.YtdkofaajcpcjkaaGreatDoor
namespace Go.Proofs.YtdkofaajcpcjkaaGreatDoor
open Go.RowKit
theorem zlV {b:UInt8} (h1:(b.toNat:Int)≠32) (h2:(b.toNat:Int)≠40) (h3:(b.toNat:Int)≠41):isDel b=false:=by
 unfold isDel
 have e:∀c:UInt8,(b.toNat:Int)≠(c.toNat:Int)→(b == c)=false:=fun c h=>beq_eq_false_iff_ne.2 fun e=>h (by rw [e])
 rw [e 32 h1,e 40 h2,e 41 h3];rfl
theorem u8_of {b c:UInt8} (h:(b.toNat:Int)=(c.toNat:Int)):b=c:=UInt8.toNat_inj.1 (by omega)
theorem zjS {b:UInt8} (h:(b.toNat:Int)=32∨(b.toNat:Int)=40∨(b.toNat:Int)=41):isDel b=true:=by
 rcases h with h | h | h
 ·rw [u8_of (c:=32) h];rfl
 ·rw [u8_of (c:=40) h];rfl
 ·rw [u8_of (c:=41) h];rfl
theorem zgO {s:List UInt8} {k:Nat} {b:UInt8} (h:s[k]?=some b):wordW (s.drop k)=if isDel b=true then [] else b::wordW (s.drop (k+1)):=by
 obtain ⟨hk,rfl⟩:=List.getElem?_eq_some_iff.1 h
 rw [List.drop_eq_getElem_cons hk]
 unfold wordW
 rw [List.takeWhile_cons]
 cases hd:isDel s[k]<;>simp
theorem znp {s:List UInt8} {k:Nat} (h:s.length≤k):wordW (s.drop k)=[]:=by rw [List.drop_eq_nil_of_le h];rfl
theorem zmd {s:List UInt8} {k:Nat} {b:UInt8} (h:s[k]?=some b) (h1:(b.toNat:Int)≠32) (h2:(b.toNat:Int)≠40) (h3:(b.toNat:Int)≠41):(wordW (s.drop k)).length=(wordW (s.drop (k+1))).length+1:=by
 rw [zgO h,if_neg (by rw [zlV h1 h2 h3];decide),List.length_cons]
theorem ze6 {s:List UInt8} {k:Nat} {b:UInt8} (h:s[k]?=some b) (h1:(b.toNat:Int)=32∨(b.toNat:Int)=40∨(b.toNat:Int)=41):(wordW (s.drop k)).length=0:=by
 rw [zgO h,if_pos (zjS h1)];rfl
theorem zbp {s:List UInt8} {n m:Nat} {i:Int} {b c:UInt8} (h1:i=n) (h2:i=m) (hb:s[n]?=some b) (hc:s[m]?=some c):c=b:=by
 obtain rfl:n=m:=by omega
 rw [hb] at hc;injection hc with hc;exact hc.symm
theorem zeR:∀(l:List UInt8) (a:Nat),a≤numA a l
 | [],a=>Nat.le_refl _
 | b::l,a=>by
  rw [numA]
  split
  ·exact Nat.le_trans (by omega) (zeR l _)
  ·exact zeR l _
theorem zgx:∀(l:List UInt8) (a:Nat),numA a l<(a+1)*10 ^ l.length
 | [],a=>by rw [numA];simp
 | b::l,a=>by
  rw [numA,List.length_cons,Nat.pow_succ]
  have hp:0<10 ^ l.length:=Nat.pow_pos (by decide)
  split
  ·rename_i hd
   refine Nat.lt_of_lt_of_le (zgx l _) ?_
   have:10*a+(b.toNat - 48)+1≤(a+1)*10:=by omega
   have:=Nat.mul_le_mul_right (10 ^ l.length) this
   rw [show (a+1)*(10 ^ l.length*10)=(a+1)*10*10 ^ l.length by rw [Nat.mul_assoc,Nat.mul_comm 10]]
   exact this
  ·refine Nat.lt_of_lt_of_le (zgx l _) ?_
   rw [← Nat.mul_assoc]
   exact Nat.le_mul_of_pos_right _ (by decide)
theorem zj1 (w:List UInt8):numA 0 (w.take 9)<1000000000:=by
 refine Nat.lt_of_lt_of_le (zgx _ _) ?_
 rw [Nat.zero_add,Nat.one_mul]
 have h:(w.take 9).length≤9:=by rw [List.length_take];omega
 exact Nat.pow_le_pow_right (by decide) h
theorem nr_at {w:List UInt8} {j:Nat} {b:UInt8} (hj:j<9) (h:w[j]?=some b):(w.take 9).drop j=b::(w.take 9).drop (j+1):=by
 have h2:(w.take 9)[j]?=some b:=by rw [List.getElem?_take,if_pos hj];exact h
 obtain ⟨hk,rfl⟩:=List.getElem?_eq_some_iff.1 h2
 exact List.drop_eq_getElem_cons hk
theorem zl3 {w:List UInt8} {j n:Nat} {b:UInt8} (hj:j<9) (h:w[j]?=some b) (h1:48≤b.toNat∧b.toNat≤57):numA n ((w.take 9).drop j)=numA (10*n+(b.toNat - 48)) ((w.take 9).drop (j+1)):=by
 rw [nr_at hj h,numA,if_pos h1]
theorem zhM {w:List UInt8} {j n:Nat} {b:UInt8} (hj:j<9) (h:w[j]?=some b) (h1:¬ (48≤b.toNat∧b.toNat≤57)):numA n ((w.take 9).drop j)=numA n ((w.take 9).drop (j+1)):=by
 rw [nr_at hj h,numA,if_neg h1]
theorem znd {w:List UInt8} {j n:Nat} (h:9≤j∨w.length≤j):numA n ((w.take 9).drop j)=n:=by
 rw [List.drop_eq_nil_of_le (by rw [List.length_take];omega),numA]
theorem zbd {s:List UInt8} {n:Nat} {b c:UInt8} (h:s[n]?=some b):takeC c (s.drop n)=if b=c then some (s.drop (n+1)) else none:=by
 obtain ⟨hk,rfl⟩:=List.getElem?_eq_some_iff.1 h
 rw [List.drop_eq_getElem_cons hk];rfl
theorem zfJ {s:List UInt8} {c:UInt8} {n:Nat} (h:s.length≤n):takeC c (s.drop n)=none:=by rw [List.drop_eq_nil_of_le h];rfl
theorem zea {d:Nat} (h:d=0) (t:List UInt8):readR d t=(leafR (wordW t),restW t):=by subst h;rfl
theorem zq {s:List UInt8} {a v:Int} (h0:0≤a∧a≤(s.length:Int)) (hv:a+((wordW (s.drop a.toNat)).length:Int)=v):(s.length:Int) - ((restW (s.drop a.toNat)).length:Int)=v∧v≤(s.length:Int)∧a≤v:=by
 have h:=congrArg List.length (q8 (s.drop a.toNat))
 rw [List.length_append,List.length_drop] at h
 omega
theorem zkx {s:List UInt8} {a v:Int} {n m:Nat} (h0:0≤a∧a≤(s.length:Int)) (hv:a+((wordW (s.drop a.toNat)).length:Int)=v) (h1:a=n) (h2:v=m):(s.drop n).take (m - n)=wordW (s.drop a.toNat)∧n≤m∧m≤s.length:=by
 have h3:=zq h0 hv
 have e:a.toNat=n:=by omega
 rw [e] at hv ⊢
 refine ⟨?_,by omega,by omega⟩
 rw [show m - n=(wordW (s.drop n)).length by omega]
 exact zaZ _
theorem zcP {s:List UInt8} {a d v x:Int} {n m:Nat} (h0:0≤a∧a≤(s.length:Int)) (hv:a+((wordW (s.drop a.toNat)).length:Int)=v) (ht:takeC 40 (s.drop a.toNat)=none∨d=0) (hw:takeC 36 (wordW (s.drop a.toNat))=none) (hx:(if v<a then v else a)=x) (h1:x=n) (h2:v=m):(readR d.toNat (s.drop a.toNat)).1=.mk 1 (numR ((s.drop n).take (m - n))) []∧(s.length:Int) - ((readR d.toNat (s.drop a.toNat)).2.length:Int)=v:=by
 have h3:=zq h0 hv
 have hr:readR d.toNat (s.drop a.toNat)=(leafR (wordW (s.drop a.toNat)),restW (s.drop a.toNat)):=by
  rcases ht with ht | ht
  ·exact zbA ht
  ·exact zea (by omega) _
 rw [if_neg (by omega)] at hx
 rw [hr,(zkx h0 hv (hx.trans h1) h2).1]
 refine ⟨?_,h3.1⟩
 show leafR _=_
 unfold leafR
 rw [hw]
theorem zbE {s:List UInt8} {a v:Int} (hv:a+((wordW (s.drop a.toNat)).length:Int)=v) (h:¬ a<v):takeC 36 (wordW (s.drop a.toNat))=none:=by
 have:(wordW (s.drop a.toNat)).length=0:=by omega
 rw [List.length_eq_zero_iff.1 this];rfl
theorem zkG {s:List UInt8} {a v:Int} {n:Nat} {b:UInt8} (hv:a+((wordW (s.drop a.toNat)).length:Int)=v) (h:a<v) (h1:a=n) (hb:s[n]?=some b):wordW (s.drop a.toNat)=b::wordW (s.drop (n+1)):=by
 rw [show a.toNat=n by omega] at hv ⊢
 have e:=zgO hb
 by_cases hd:isDel b=true
 ·rw [if_pos hd] at e;rw [e,List.length_nil] at hv;omega
 ·rw [if_neg hd] at e;exact e
theorem znq {s:List UInt8} {a v:Int} {n:Nat} {b:UInt8} (hv:a+((wordW (s.drop a.toNat)).length:Int)=v) (h:a<v) (h1:a=n) (hb:s[n]?=some b) (h36:(b.toNat:Int)≠36):takeC 36 (wordW (s.drop a.toNat))=none:=by
 rw [zkG hv h h1 hb]
 show (if b=36 then _ else _)=_
 rw [if_neg]
 rintro rfl;exact h36 rfl
theorem znh {s:List UInt8} {a d v x:Int} {n n2 m:Nat} {b:UInt8} (h0:0≤a∧a≤(s.length:Int)) (hv:a+((wordW (s.drop a.toNat)).length:Int)=v) (ht:takeC 40 (s.drop a.toNat)=none∨d=0) (hav:a<v) (h1:a=n) (hb:s[n]?=some b) (h36:(b.toNat:Int)=36) (hx:a+1=x) (h2:x=n2) (h3:v=m):(readR d.toNat (s.drop a.toNat)).1=.mk 2 (numR ((s.drop n2).take (m - n2))) []∧(s.length:Int) - ((readR d.toNat (s.drop a.toNat)).2.length:Int)=v:=by
 have hl:=zq h0 hv
 have hr:readR d.toNat (s.drop a.toNat)=(leafR (wordW (s.drop a.toNat)),restW (s.drop a.toNat)):=by
  rcases ht with ht | ht
  ·exact zbA ht
  ·exact zea (by omega) _
 have hd:=zkG hv hav h1 hb
 have e:b=36:=u8_of h36
 rw [hr]
 refine ⟨?_,hl.1⟩
 show leafR _=_
 have hn:n2=n+1:=by omega
 subst hn
 have hlen:m - (n+1)=(wordW (s.drop (n+1))).length:=by
  rw [hd,List.length_cons] at hv;omega
 rw [hlen,zaZ,hd,e]
 rfl
theorem ql:∀(d:Nat) (t:List UInt8),(readR d t).2 <:+ t
 | 0,t=>qC t
 | d+1,t=>by
  rw [readR]
  cases h:takeC 40 t with
  | none=>exact qC t
  | some s1 =>
   exact ((((List.drop_suffix _ _).trans (ql d _)).trans (List.drop_suffix _ _)).trans (ql d _)).trans (((List.drop_suffix _ _).trans (qC _)).trans (zL h))
theorem zgE:∀(d:Nat) (t:List UInt8),nodes (readR d t).1+2*(readR d t).2.length≤2*t.length+1:=by
 have leaf:∀t,nodes (leafR (wordW t))+2*(restW t).length≤2*t.length+1:=by
  intro t
  have h:=(qC t).length_le
  have:nodes (leafR (wordW t))=1:=by
   unfold leafR
   split<;>rw [nodes,zw]
  omega
 intro d
 induction d with
 | zero=>exact leaf
 | succ d ih =>
  intro t
  rw [readR]
  cases h:takeC 40 t with
  | none=>exact leaf t
  | some s1 =>
   have h1:=ih ((restW s1).drop 1)
   have h2:=ih ((readR d ((restW s1).drop 1)).2.drop 1)
   have h3:=(qC s1).length_le
   have h4:=congrArg List.length (qV h)
   simp only [List.length_cons,List.length_drop,nodes,zw] at *
   omega
theorem qI {r s:List UInt8} (h:r <:+ s) {v:Int} (hv:(s.length:Int) - (r.length:Int)=v):r=s.drop v.toNat∧0≤v∧v≤(s.length:Int):=by
 obtain ⟨t,rfl⟩:=h
 rw [List.length_append] at hv ⊢
 obtain rfl:v=(t.length:Int):=by omega
 refine ⟨?_,by omega,by omega⟩
 rw [show (t.length:Int).toNat=t.length by omega,List.drop_left]
theorem qr {s:List UInt8} {v p:Int} (hv:0≤v) (hp:(if (s.length:Int)<v+1 then (s.length:Int) else v+1)=p):(s.drop v.toNat).drop 1=s.drop p.toNat∧0≤p∧p≤(s.length:Int):=by
 rw [List.drop_drop]
 split at hp
 ·refine ⟨?_,by omega,by omega⟩
  rw [List.drop_eq_nil_of_le (by omega),List.drop_eq_nil_of_le (by omega)]
 ·refine ⟨?_,by omega,by omega⟩
  rw [show v.toNat+1=p.toNat by omega]
theorem rd_op {s:List UInt8} {a d x1 v1 p1 r1 p2 r2 p3:Int} {n:Nat} {b:UInt8} {e1 e2:Xp} (h0:0≤a∧a≤(s.length:Int)) (h1:a=n) (hb:s[n]?=some b) (h40:(b.toNat:Int)=40) (hd:0<d) (hx1:a+1=x1) (hv1:x1+((wordW (s.drop x1.toNat)).length:Int)=v1)
  (hp1:(if (s.length:Int)<v1+1 then (s.length:Int) else v1+1)=p1) (he1:(readR (d - 1).toNat (s.drop p1.toNat)).1=e1) (hr1:(s.length:Int) - ((readR (d - 1).toNat (s.drop p1.toNat)).2.length:Int)=r1)
  (hp2:(if (s.length:Int)<r1+1 then (s.length:Int) else r1+1)=p2) (he2:(readR (d - 1).toNat (s.drop p2.toNat)).1=e2) (hr2:(s.length:Int) - ((readR (d - 1).toNat (s.drop p2.toNat)).2.length:Int)=r2)
  (hp3:(if (s.length:Int)<r2+1 then (s.length:Int) else r2+1)=p3) :
  (readR d.toNat (s.drop a.toNat)).1=.mk ((opOf (wordW (s.drop x1.toNat))).getD 3) 0 [e1,e2]∧(s.length:Int) - ((readR d.toNat (s.drop a.toNat)).2.length:Int)=p3:=by
 have hlt:n<s.length:=(List.getElem?_eq_some_iff.1 hb).1
 have hl:=zq (s:=s) (a:=x1) (by omega) hv1
 have q0:=qI ((qC (s.drop x1.toNat)).trans (List.drop_suffix _ _)) hl.1
 have q1:=qr (s:=s) (v:=v1) (by omega) hp1
 have q2:=qI ((ql (d - 1).toNat (s.drop p1.toNat)).trans (List.drop_suffix _ _)) hr1
 have q3:=qr (s:=s) (v:=r1) (by omega) hp2
 have q4:=qI ((ql (d - 1).toNat (s.drop p2.toNat)).trans (List.drop_suffix _ _)) hr2
 have q5:=qr (s:=s) (v:=r2) (by omega) hp3
 have ht:takeC 40 (s.drop a.toNat)=some (s.drop x1.toNat):=by
  rw [show a.toNat=n by omega,zbd hb,if_pos (u8_of h40),show x1.toNat=n+1 by omega]
 have key:readR d.toNat (s.drop a.toNat)=(.mk ((opOf (wordW (s.drop x1.toNat))).getD 3) 0 [e1,e2],s.drop p3.toNat):=by
  rw [show d.toNat=(d - 1).toNat+1 by omega,readR,ht]
  show (Xp.mk _ _ _,_)=_
  rw [q0.1,q1.1,he1,q2.1,q3.1,he2,q4.1,q5.1]
 rw [key]
 refine ⟨rfl,?_⟩
 show (s.length:Int) - ((s.drop p3.toNat).length:Int)=p3
 rw [List.length_drop];omega
def opN:Nat→List UInt8→Int
 | 0,_=>3
 | j+1,w=>if qA[j]?=some w then 3+(j:Int) else opN j w
theorem znL {j:Nat} {w x:List UInt8} (h:qA[j]?=some x) (e:x=w):opN (j+1) w=3+(j:Int):=by rw [opN,if_pos (by rw [h,e])]
theorem zd4 {j:Nat} {w x:List UInt8} (h:qA[j]?=some x) (e:¬ x=w):opN (j+1) w=opN j w:=by rw [opN,if_neg (by rw [h];exact fun z=>e (Option.some.inj z))]
theorem zj9 (w:List UInt8):opN 5 w=(opOf w).getD 3:=by
 by_cases h1:w=[43]
 ·subst h1;rfl
 by_cases h2:w=[45]
 ·subst h2;rfl
 by_cases h3:w=[42]
 ·subst h3;rfl
 by_cases h4:w=[109,105,110]
 ·subst h4;rfl
 by_cases h5:w=[109,97,120]
 ·subst h5;rfl
 unfold opOf
 rw [if_neg h1,if_neg h2,if_neg h3,if_neg h4,if_neg h5]
 exact (zd4 (j:=4) (x:=[109,97,120]) rfl (Ne.symm h5)).trans ((zd4 (j:=3) (x:=[109,105,110]) rfl (Ne.symm h4)).trans ((zd4 (j:=2) (x:=[42]) rfl (Ne.symm h3)).trans ((zd4 (j:=1) (x:=[45]) rfl (Ne.symm h2)).trans (zd4 (j:=0) (x:=[43]) rfl (Ne.symm h1)))))
theorem zfv {a b:Pred} {p:PC} {v:Value} {W:World} {D:Dat} (h:(PSh.t [.g [a,b,pV (.slice none 0 0)],p]).ok v W D):(PSh.t [.g [a,b,pLs cE ([]:List Xp)],p]).ok v W D:=by
 obtain ⟨vs,e,h⟩:=h
 refine ⟨vs,e,?_⟩
 match vs.toList,h with
 | [x,y],⟨⟨us,e1,h1⟩,h2,_⟩ =>
  refine ⟨⟨us,e1,?_⟩,h2,trivial⟩
  match us.toList,h1 with
  | [x,y,z],⟨h3,h4,h5,_⟩=>exact ⟨h3,h4,zbP _ _ _ h5,trivial⟩
structure rw_A_T where
 i:Int
def qm:List Atom:=[.sl 0 (yh 0),.sl 1 (yh 2),.sl 4 (.o (.c (.k (.int .i64 0))))]
def zcb:LoopS:=⟨1,[.sl 0 (yh 0),.sl 1 (yh 1),.sl 4 (.o (.c (.k (.int .i64 0))))],(.x 0),[.sl 0 (yh 0),.sl 1 (yh 2),.sl 4 (.o (.c (.k (.int .i64 0))))]⟩
theorem zoc {w0:World} (s:(List UInt8)) (a:Int) (i:Int) (v501:Int) (v502:Bool) (n504:Nat) (b505:UInt8) (v508:Bool) (n510:Nat) (b511:UInt8) (v514:Bool) (n516:Nat) (b517:UInt8) (v520:Bool) (v522:Int) (e501:(((s:List UInt8).length:Int))=v501) (e502:(decide (i<v501))=v502) (e508:(((b505.toNat:Int) != (32:Int)))=v508) (e514:(((b511.toNat:Int) != (40:Int)))=v514) (e520:(((b517.toNat:Int) != (41:Int)))=v520) (e522:(IntKind.i64.wrap (i+(1:Int)))=v522) (h503:v502=true) (s506:i=(n504:Int)) (s507:(s:List UInt8)[n504]?=some b505) (h509:v508=true) (s512:i=(n510:Int)) (s513:(s:List UInt8)[n510]?=some b511) (h515:v514=true) (s518:i=(n516:Int)) (s519:(s:List UInt8)[n516]?=some b517) (h521:v520=true) (i':Int) (q0:(v522)=i') (R:Frm) (hR:R.pm=⟨ntOf Tryz.prog 56,[],[]⟩):Goes (KN w0) Tryz.prog R (lp Tryz.prog 56 0) (FL [pS s,pI a,pI i] []) qm .n (FL [pS s,pI a,pI i'] []) qm:=
 goes (x:=.n) (y:=.n) (Fb:=FL [pS s,pI a,pI i,pI v501,pB v502,pV (.int .u8 (b505.toNat:Int)),pB v508,pV (.int .u8 (b511.toNat:Int)),pB v514,pV (.int .u8 (b517.toNat:Int)),pB v520,pI v522] []) (stb:=qm) (tl:=[.sl 0 (yh 0),.sl 1 (yh 11),.sl 4 (.o (.c (.k (.int .i64 0))))]) (C:=((1005002,.op (.len [9] 3) [yh 0] [] (yh 3)) ::
  (1005003,.bin .lss 3 (yh 2) (yh 3) (yh 4)) ::
  (10004,.fb 4 true) ::
  (1005007,.op (.ix 9) [yh 0,yh 2] [] (yh 5)) ::
  (1005008,.bin .neq 5 (yh 5) (LF (.k (.int .u8 32))) (yh 6)) ::
  (10006,.fb 6 true) ::
  (1005013,.op (.ix 9) [yh 0,yh 2] [] (yh 7)) ::
  (1005014,.bin .neq 5 (yh 7) (LF (.k (.int .u8 40))) (yh 8)) ::
  (10008,.fb 8 true) ::
  (1005019,.op (.ix 9) [yh 0,yh 2] [] (yh 9)) ::
  (1005020,.bin .neq 5 (yh 9) (LF (.k (.int .u8 41))) (yh 10)) ::
  (10010,.fb 10 true) ::
  (1005023,.bin .add 3 (yh 2) (LF (.k (.int .i64 1))) (yh 11)) ::
  []:List (Nat×Ent))) (H:=.no) 5000 (zipA.imp ⟨z_c yy,z_c yy,z_c yy,trivial⟩) (zg ⟨za,za,za,za,za,za,za,za,za,za,za,za,trivial⟩) ⟨e_op1 (zb rfl) (zb rfl) (fun W=>by rw [← e501];exact qf (by kernel_rfl) W),
  e_bin (zb rfl) (zb rfl) (zb rfl) (r_cmp (congrArg some e502)),
  e_fbv h503,
  e_op2 (zb rfl) (zb rfl) (zb rfl) (r_ix (by kernel_rfl) s506 s507),
  e_bin (zb rfl) zd (zb rfl) (r_cmp (congrArg some e508)),
  e_fbv h509,
  e_op2 (zb rfl) (zb rfl) (zb rfl) (r_ix (by kernel_rfl) s512 s513),
  e_bin (zb rfl) zd (zb rfl) (r_cmp (congrArg some e514)),
  e_fbv h515,
  e_op2 (zb rfl) (zb rfl) (zb rfl) (r_ix (by kernel_rfl) s518 s519),
  e_bin (zb rfl) zd (zb rfl) (r_cmp (congrArg some e520)),
  e_fbv h521,
  e_bin (zb rfl) zd (zb rfl) (r_ar (congrArg some e522)),
  trivial⟩ mixed hR trivial (fun _ _ _ hs=>by cases hs) (by kernel_rfl:zA (KN w0) Tryz.prog _ .no ⟨ntOf Tryz.prog 56,[],[]⟩ (lp Tryz.prog 56 0) 5000 qm .n [.sl 0 (yh 0),.sl 1 (yh 11),.sl 4 (.o (.c (.k (.int .i64 0))))]=true) rfl (zipA.imp ⟨z_c yy,z_c (fun β v W h=>(zc rfl β v W).2 (by rw [← q0];exact h)),z_c yy,trivial⟩)
theorem zod {w0:World} (s:(List UInt8)) (a:Int) (i:Int) (v501:Int) (v502:Bool) (n504:Nat) (b505:UInt8) (v508:Bool) (n510:Nat) (b511:UInt8) (v514:Bool) (n516:Nat) (b517:UInt8) (v520:Bool) (e501:(((s:List UInt8).length:Int))=v501) (e502:(decide (i<v501))=v502) (e508:(((b505.toNat:Int) != (32:Int)))=v508) (e514:(((b511.toNat:Int) != (40:Int)))=v514) (e520:(((b517.toNat:Int) != (41:Int)))=v520) (h503:v502=true) (s506:i=(n504:Int)) (s507:(s:List UInt8)[n504]?=some b505) (h509:v508=true) (s512:i=(n510:Int)) (s513:(s:List UInt8)[n510]?=some b511) (h515:v514=true) (s518:i=(n516:Int)) (s519:(s:List UInt8)[n516]?=some b517) (h521:v520=false) (o:Int) (F:Fact) (u0:F.c 0=pS s) (u1:F.c 1=pI a) (u2:F.c 2=pI o) (q0:(i)=o) (R:Frm) (hR:R.pm=⟨ntOf Tryz.prog 56,[],[]⟩):Goes (KN w0) Tryz.prog R (lp Tryz.prog 56 0) (FL [pS s,pI a,pI i] []) qm (.x 0) F zcb.out:=
 goes (x:=(.x 0)) (y:=(.x 0)) (Fb:=FL [pS s,pI a,pI i,pI v501,pB v502,pV (.int .u8 (b505.toNat:Int)),pB v508,pV (.int .u8 (b511.toNat:Int)),pB v514,pV (.int .u8 (b517.toNat:Int)),pB v520] []) (stb:=qm) (tl:=[.sl 0 (yh 0),.sl 1 (yh 2),.sl 4 (.o (.c (.k (.int .i64 0))))]) (C:=((1005002,.op (.len [9] 3) [yh 0] [] (yh 3)) ::
  (1005003,.bin .lss 3 (yh 2) (yh 3) (yh 4)) ::
  (10004,.fb 4 true) ::
  (1005007,.op (.ix 9) [yh 0,yh 2] [] (yh 5)) ::
  (1005008,.bin .neq 5 (yh 5) (LF (.k (.int .u8 32))) (yh 6)) ::
  (10006,.fb 6 true) ::
  (1005013,.op (.ix 9) [yh 0,yh 2] [] (yh 7)) ::
  (1005014,.bin .neq 5 (yh 7) (LF (.k (.int .u8 40))) (yh 8)) ::
  (10008,.fb 8 true) ::
  (1005019,.op (.ix 9) [yh 0,yh 2] [] (yh 9)) ::
  (1005020,.bin .neq 5 (yh 9) (LF (.k (.int .u8 41))) (yh 10)) ::
  (10010,.fb 10 false) ::
  []:List (Nat×Ent))) (H:=.no) 5000 (zipA.imp ⟨z_c yy,z_c yy,z_c yy,trivial⟩) (zg ⟨za,za,za,za,za,za,za,za,za,za,za,trivial⟩) ⟨e_op1 (zb rfl) (zb rfl) (fun W=>by rw [← e501];exact qf (by kernel_rfl) W),
  e_bin (zb rfl) (zb rfl) (zb rfl) (r_cmp (congrArg some e502)),
  e_fbv h503,
  e_op2 (zb rfl) (zb rfl) (zb rfl) (r_ix (by kernel_rfl) s506 s507),
  e_bin (zb rfl) zd (zb rfl) (r_cmp (congrArg some e508)),
  e_fbv h509,
  e_op2 (zb rfl) (zb rfl) (zb rfl) (r_ix (by kernel_rfl) s512 s513),
  e_bin (zb rfl) zd (zb rfl) (r_cmp (congrArg some e514)),
  e_fbv h515,
  e_op2 (zb rfl) (zb rfl) (zb rfl) (r_ix (by kernel_rfl) s518 s519),
  e_bin (zb rfl) zd (zb rfl) (r_cmp (congrArg some e520)),
  e_fbv h521,
  trivial⟩ mixed hR trivial (fun _ _ _ hs=>by cases hs) (by kernel_rfl:zA (KN w0) Tryz.prog _ .no ⟨ntOf Tryz.prog 56,[],[]⟩ (lp Tryz.prog 56 0) 5000 qm (.x 0) [.sl 0 (yh 0),.sl 1 (yh 2),.sl 4 (.o (.c (.k (.int .i64 0))))]=true) rfl (zipA.imp ⟨z_c (fun β v W h=>(zc u0 β v W).2 h),z_c (fun β v W h=>(zc u2 β v W).2 (by rw [← q0];exact h)),z_c yy,trivial⟩)
theorem zoe {w0:World} (s:(List UInt8)) (a:Int) (i:Int) (v501:Int) (v502:Bool) (n504:Nat) (b505:UInt8) (v508:Bool) (n510:Nat) (b511:UInt8) (v514:Bool) (e501:(((s:List UInt8).length:Int))=v501) (e502:(decide (i<v501))=v502) (e508:(((b505.toNat:Int) != (32:Int)))=v508) (e514:(((b511.toNat:Int) != (40:Int)))=v514) (h503:v502=true) (s506:i=(n504:Int)) (s507:(s:List UInt8)[n504]?=some b505) (h509:v508=true) (s512:i=(n510:Int)) (s513:(s:List UInt8)[n510]?=some b511) (h515:v514=false) (o:Int) (F:Fact) (u0:F.c 0=pS s) (u1:F.c 1=pI a) (u2:F.c 2=pI o) (q0:(i)=o) (R:Frm) (hR:R.pm=⟨ntOf Tryz.prog 56,[],[]⟩):Goes (KN w0) Tryz.prog R (lp Tryz.prog 56 0) (FL [pS s,pI a,pI i] []) qm (.x 0) F zcb.out:=
 goes (x:=(.x 0)) (y:=(.x 0)) (Fb:=FL [pS s,pI a,pI i,pI v501,pB v502,pV (.int .u8 (b505.toNat:Int)),pB v508,pV (.int .u8 (b511.toNat:Int)),pB v514] []) (stb:=qm) (tl:=[.sl 0 (yh 0),.sl 1 (yh 2),.sl 4 (.o (.c (.k (.int .i64 0))))]) (C:=((1005002,.op (.len [9] 3) [yh 0] [] (yh 3)) ::
  (1005003,.bin .lss 3 (yh 2) (yh 3) (yh 4)) ::
  (10004,.fb 4 true) ::
  (1005007,.op (.ix 9) [yh 0,yh 2] [] (yh 5)) ::
  (1005008,.bin .neq 5 (yh 5) (LF (.k (.int .u8 32))) (yh 6)) ::
  (10006,.fb 6 true) ::
  (1005013,.op (.ix 9) [yh 0,yh 2] [] (yh 7)) ::
  (1005014,.bin .neq 5 (yh 7) (LF (.k (.int .u8 40))) (yh 8)) ::
  (10008,.fb 8 false) ::
  []:List (Nat×Ent))) (H:=.no) 5000 (zipA.imp ⟨z_c yy,z_c yy,z_c yy,trivial⟩) (zg ⟨za,za,za,za,za,za,za,za,za,trivial⟩) ⟨e_op1 (zb rfl) (zb rfl) (fun W=>by rw [← e501];exact qf (by kernel_rfl) W),
  e_bin (zb rfl) (zb rfl) (zb rfl) (r_cmp (congrArg some e502)),
  e_fbv h503,
  e_op2 (zb rfl) (zb rfl) (zb rfl) (r_ix (by kernel_rfl) s506 s507),
  e_bin (zb rfl) zd (zb rfl) (r_cmp (congrArg some e508)),
  e_fbv h509,
  e_op2 (zb rfl) (zb rfl) (zb rfl) (r_ix (by kernel_rfl) s512 s513),
  e_bin (zb rfl) zd (zb rfl) (r_cmp (congrArg some e514)),
  e_fbv h515,
  trivial⟩ mixed hR trivial (fun _ _ _ hs=>by cases hs) (by kernel_rfl:zA (KN w0) Tryz.prog _ .no ⟨ntOf Tryz.prog 56,[],[]⟩ (lp Tryz.prog 56 0) 5000 qm (.x 0) [.sl 0 (yh 0),.sl 1 (yh 2),.sl 4 (.o (.c (.k (.int .i64 0))))]=true) rfl (zipA.imp ⟨z_c (fun β v W h=>(zc u0 β v W).2 h),z_c (fun β v W h=>(zc u2 β v W).2 (by rw [← q0];exact h)),z_c yy,trivial⟩)
theorem zof {w0:World} (s:(List UInt8)) (a:Int) (i:Int) (v501:Int) (v502:Bool) (n504:Nat) (b505:UInt8) (v508:Bool) (e501:(((s:List UInt8).length:Int))=v501) (e502:(decide (i<v501))=v502) (e508:(((b505.toNat:Int) != (32:Int)))=v508) (h503:v502=true) (s506:i=(n504:Int)) (s507:(s:List UInt8)[n504]?=some b505) (h509:v508=false) (o:Int) (F:Fact) (u0:F.c 0=pS s) (u1:F.c 1=pI a) (u2:F.c 2=pI o) (q0:(i)=o) (R:Frm) (hR:R.pm=⟨ntOf Tryz.prog 56,[],[]⟩):Goes (KN w0) Tryz.prog R (lp Tryz.prog 56 0) (FL [pS s,pI a,pI i] []) qm (.x 0) F zcb.out:=
 goes (x:=(.x 0)) (y:=(.x 0)) (Fb:=FL [pS s,pI a,pI i,pI v501,pB v502,pV (.int .u8 (b505.toNat:Int)),pB v508] []) (stb:=qm) (tl:=[.sl 0 (yh 0),.sl 1 (yh 2),.sl 4 (.o (.c (.k (.int .i64 0))))]) (C:=((1005002,.op (.len [9] 3) [yh 0] [] (yh 3)) ::
  (1005003,.bin .lss 3 (yh 2) (yh 3) (yh 4)) ::
  (10004,.fb 4 true) ::
  (1005007,.op (.ix 9) [yh 0,yh 2] [] (yh 5)) ::
  (1005008,.bin .neq 5 (yh 5) (LF (.k (.int .u8 32))) (yh 6)) ::
  (10006,.fb 6 false) ::
  []:List (Nat×Ent))) (H:=.no) 5000 (zipA.imp ⟨z_c yy,z_c yy,z_c yy,trivial⟩) (zg ⟨za,za,za,za,za,za,za,trivial⟩) ⟨e_op1 (zb rfl) (zb rfl) (fun W=>by rw [← e501];exact qf (by kernel_rfl) W),
  e_bin (zb rfl) (zb rfl) (zb rfl) (r_cmp (congrArg some e502)),
  e_fbv h503,
  e_op2 (zb rfl) (zb rfl) (zb rfl) (r_ix (by kernel_rfl) s506 s507),
  e_bin (zb rfl) zd (zb rfl) (r_cmp (congrArg some e508)),
  e_fbv h509,
  trivial⟩ mixed hR trivial (fun _ _ _ hs=>by cases hs) (by kernel_rfl:zA (KN w0) Tryz.prog _ .no ⟨ntOf Tryz.prog 56,[],[]⟩ (lp Tryz.prog 56 0) 5000 qm (.x 0) [.sl 0 (yh 0),.sl 1 (yh 2),.sl 4 (.o (.c (.k (.int .i64 0))))]=true) rfl (zipA.imp ⟨z_c (fun β v W h=>(zc u0 β v W).2 h),z_c (fun β v W h=>(zc u2 β v W).2 (by rw [← q0];exact h)),z_c yy,trivial⟩)
theorem zog {w0:World} (s:(List UInt8)) (a:Int) (i:Int) (v501:Int) (v502:Bool) (e501:(((s:List UInt8).length:Int))=v501) (e502:(decide (i<v501))=v502) (h503:v502=false) (o:Int) (F:Fact) (u0:F.c 0=pS s) (u1:F.c 1=pI a) (u2:F.c 2=pI o) (q0:(i)=o) (R:Frm) (hR:R.pm=⟨ntOf Tryz.prog 56,[],[]⟩):Goes (KN w0) Tryz.prog R (lp Tryz.prog 56 0) (FL [pS s,pI a,pI i] []) qm (.x 0) F zcb.out:=
 goes (x:=(.x 0)) (y:=(.x 0)) (Fb:=FL [pS s,pI a,pI i,pI v501,pB v502] []) (stb:=qm) (tl:=[.sl 0 (yh 0),.sl 1 (yh 2),.sl 4 (.o (.c (.k (.int .i64 0))))]) (C:=((1005002,.op (.len [9] 3) [yh 0] [] (yh 3)) ::
  (1005003,.bin .lss 3 (yh 2) (yh 3) (yh 4)) ::
  (10004,.fb 4 false) ::
  []:List (Nat×Ent))) (H:=.no) 5000 (zipA.imp ⟨z_c yy,z_c yy,z_c yy,trivial⟩) (zg ⟨za,za,za,za,za,trivial⟩) ⟨e_op1 (zb rfl) (zb rfl) (fun W=>by rw [← e501];exact qf (by kernel_rfl) W),
  e_bin (zb rfl) (zb rfl) (zb rfl) (r_cmp (congrArg some e502)),
  e_fbv h503,
  trivial⟩ mixed hR trivial (fun _ _ _ hs=>by cases hs) (by kernel_rfl:zA (KN w0) Tryz.prog _ .no ⟨ntOf Tryz.prog 56,[],[]⟩ (lp Tryz.prog 56 0) 5000 qm (.x 0) [.sl 0 (yh 0),.sl 1 (yh 2),.sl 4 (.o (.c (.k (.int .i64 0))))]=true) rfl (zipA.imp ⟨z_c (fun β v W h=>(zc u0 β v W).2 h),z_c (fun β v W h=>(zc u2 β v W).2 (by rw [← q0];exact h)),z_c yy,trivial⟩)
def zpi (s:(List UInt8)) (a:Int) (t:rw_A_T) (o:Int):Prop:=(∃(v501:Int),∃(v502:Bool),∃(n504:Nat),∃(b505:UInt8),∃(v508:Bool),∃(n510:Nat),∃(b511:UInt8),∃(v514:Bool),∃(n516:Nat),∃(b517:UInt8),∃(v520:Bool),((((s:List UInt8).length:Int))=v501)∧((decide (t.i<v501))=v502)∧((((b505.toNat:Int) != (32:Int)))=v508)∧((((b511.toNat:Int) != (40:Int)))=v514)∧((((b517.toNat:Int) != (41:Int)))=v520)∧(v502=true)∧(t.i=(n504:Int))∧((s:List UInt8)[n504]?=some b505)∧(v508=true)∧(t.i=(n510:Int))∧((s:List UInt8)[n510]?=some b511)∧(v514=true)∧(t.i=(n516:Int))∧((s:List UInt8)[n516]?=some b517)∧(v520=false)∧((t.i)=o)∧True)∨(∃(v501:Int),∃(v502:Bool),∃(n504:Nat),∃(b505:UInt8),∃(v508:Bool),∃(n510:Nat),∃(b511:UInt8),∃(v514:Bool),((((s:List UInt8).length:Int))=v501)∧((decide (t.i<v501))=v502)∧((((b505.toNat:Int) != (32:Int)))=v508)∧((((b511.toNat:Int) != (40:Int)))=v514)∧(v502=true)∧(t.i=(n504:Int))∧((s:List UInt8)[n504]?=some b505)∧(v508=true)∧(t.i=(n510:Int))∧((s:List UInt8)[n510]?=some b511)∧(v514=false)∧((t.i)=o)∧True)∨(∃(v501:Int),∃(v502:Bool),∃(n504:Nat),∃(b505:UInt8),∃(v508:Bool),((((s:List UInt8).length:Int))=v501)∧((decide (t.i<v501))=v502)∧((((b505.toNat:Int) != (32:Int)))=v508)∧(v502=true)∧(t.i=(n504:Int))∧((s:List UInt8)[n504]?=some b505)∧(v508=false)∧((t.i)=o)∧True)∨(∃(v501:Int),∃(v502:Bool),((((s:List UInt8).length:Int))=v501)∧((decide (t.i<v501))=v502)∧(v502=false)∧((t.i)=o)∧True)
def zph (s:(List UInt8)) (a:Int) (t t':rw_A_T):Prop:=(∃(v501:Int),∃(v502:Bool),∃(n504:Nat),∃(b505:UInt8),∃(v508:Bool),∃(n510:Nat),∃(b511:UInt8),∃(v514:Bool),∃(n516:Nat),∃(b517:UInt8),∃(v520:Bool),∃(v522:Int),((((s:List UInt8).length:Int))=v501)∧((decide (t.i<v501))=v502)∧((((b505.toNat:Int) != (32:Int)))=v508)∧((((b511.toNat:Int) != (40:Int)))=v514)∧((((b517.toNat:Int) != (41:Int)))=v520)∧((IntKind.i64.wrap (t.i+(1:Int)))=v522)∧(v502=true)∧(t.i=(n504:Int))∧((s:List UInt8)[n504]?=some b505)∧(v508=true)∧(t.i=(n510:Int))∧((s:List UInt8)[n510]?=some b511)∧(v514=true)∧(t.i=(n516:Int))∧((s:List UInt8)[n516]?=some b517)∧(v520=true)∧((v522)=t'.i)∧True)
theorem zku {w0:World} (s:(List UInt8)) (a:Int) (o:Int) {F:Fact} (u0:F.c 0=pS s) (u1:F.c 1=pI a) (u2:F.c 2=pI o) (R:Frm) (hR:R.pm=⟨ntOf Tryz.prog 56,[],[]⟩) (J:rw_A_T→Prop) (m:rw_A_T→Nat) (hJ:J { i:=a }) (rounds:∀t,J t→zpi s a t o∨∃t',zph s a t t'∧m t'<m t∧J t'):zi (KN w0) Tryz.prog F R zcb (lp Tryz.prog 56 0):=by
 refine zB (T:=rw_A_T) (fun t=>FL [pS s,pI a,pI t.i] []) J m { i:=a } qm hJ (zipA.imp ⟨z_c (fun β v W h=>(zc u0 β v W).1 h),z_c (fun β v W h=>(zc u1 β v W).1 h),z_c yy,trivial⟩) rfl fun t ht=>?_
 rcases rounds t ht with hz_ | ⟨t',hz_,hm_,hj_⟩
 ·refine .inl ?_
  rcases hz_ with ⟨v501,v502,n504,b505,v508,n510,b511,v514,n516,b517,v520,e501,e502,e508,e514,e520,h503,s506,s507,h509,s512,s513,h515,s518,s519,h521,q0,_⟩ | ⟨v501,v502,n504,b505,v508,n510,b511,v514,e501,e502,e508,e514,h503,s506,s507,h509,s512,s513,h515,q0,_⟩ | ⟨v501,v502,n504,b505,v508,e501,e502,e508,h503,s506,s507,h509,q0,_⟩ | ⟨v501,v502,e501,e502,h503,q0,_⟩
  ·exact zod  s a  t.i v501 v502 n504 b505 v508 n510 b511 v514 n516 b517 v520 e501 e502 e508 e514 e520 h503 s506 s507 h509 s512 s513 h515 s518 s519 h521 o F u0 u1 u2 q0 R hR
  ·exact zoe  s a  t.i v501 v502 n504 b505 v508 n510 b511 v514 e501 e502 e508 e514 h503 s506 s507 h509 s512 s513 h515 o F u0 u1 u2 q0 R hR
  ·exact zof  s a  t.i v501 v502 n504 b505 v508 e501 e502 e508 h503 s506 s507 h509 o F u0 u1 u2 q0 R hR
  ·exact zog  s a  t.i v501 v502 e501 e502 h503 o F u0 u1 u2 q0 R hR
 ·refine .inr ⟨t',hm_,hj_,?_⟩
  rcases hz_ with ⟨v501,v502,n504,b505,v508,n510,b511,v514,n516,b517,v520,v522,e501,e502,e508,e514,e520,e522,h503,s506,s507,h509,s512,s513,h515,s518,s519,h521,q0,_⟩
  ·exact zoc  s a  t.i v501 v502 n504 b505 v508 n510 b511 v514 n516 b517 v520 v522 e501 e502 e508 e514 e520 e522 h503 s506 s507 h509 s512 s513 h515 s518 s519 h521 t'.i q0 R hR
theorem zob {w0:World} (s:(List UInt8)) (a:Int) (o:Int) {F:Fact} (u0:F.c 0=pS s) (u1:F.c 1=pI a) (u2:F.c 2=pI o) (R:Frm) (hR:R.pm=⟨ntOf Tryz.prog 56,[],[]⟩) (ha:0≤a∧a≤1000000) (hs:s.length≤1000000) (hO:a+((wordW (s.drop a.toNat)).length:Int)=o):zi (KN w0) Tryz.prog F R zcb (lp Tryz.prog 56 0):=by
 refine zku  s a  o u0 u1 u2 R hR (fun ⟨i⟩=>∃j:Nat,i=(j:Int)∧j≤1000000∧(j:Int)+((wordW (s.drop j)).length:Int)=o) (fun ⟨i⟩=>((s.length:Int) - i).toNat) ⟨a.toNat,by omega,by omega,by rw [Int.toNat_of_nonneg ha.1];exact hO⟩ fun t hJ=>?_
 obtain ⟨i⟩:=t
 dsimp only at hJ
 obtain ⟨j,hi,hj,ho⟩:=hJ
 obtain ⟨v501,e501⟩:∃v,(((s:List UInt8).length:Int))=v:=⟨_,rfl⟩
 obtain ⟨v502,e502⟩:∃v,(decide (i<v501))=v:=⟨_,rfl⟩
 cases h503:v502 with
 | true =>
  obtain ⟨n504,b505,s506,s507⟩:∃(n504:Nat) (b505:UInt8),i=(n504:Int)∧(s:List UInt8)[n504]?=some b505:=by (have dh503:=of_decide_eq_true (e502.trans h503);have hz:=e501;have hlt:j<s.length:=(by omega);exact ⟨j,_,hi,List.getElem?_eq_getElem hlt⟩)
  obtain ⟨v508,e508⟩:∃v,(((b505.toNat:Int) != (32:Int)))=v:=⟨_,rfl⟩
  cases h509:v508 with
  | true =>
   obtain ⟨n510,b511,s512,s513⟩:∃(n510:Nat) (b511:UInt8),i=(n510:Int)∧(s:List UInt8)[n510]?=some b511:=by (have dh503:=of_decide_eq_true (e502.trans h503);have dh509:=bne_iff_ne.1 (e508.trans h509);have hz:=e501;have hlt:j<s.length:=(by omega);exact ⟨j,_,hi,List.getElem?_eq_getElem hlt⟩)
   obtain ⟨v514,e514⟩:∃v,(((b511.toNat:Int) != (40:Int)))=v:=⟨_,rfl⟩
   cases h515:v514 with
   | true =>
    obtain ⟨n516,b517,s518,s519⟩:∃(n516:Nat) (b517:UInt8),i=(n516:Int)∧(s:List UInt8)[n516]?=some b517:=by (have dh503:=of_decide_eq_true (e502.trans h503);have dh509:=bne_iff_ne.1 (e508.trans h509);have dh515:=bne_iff_ne.1 (e514.trans h515);have hz:=e501;have hlt:j<s.length:=(by omega);exact ⟨j,_,hi,List.getElem?_eq_getElem hlt⟩)
    obtain ⟨v520,e520⟩:∃v,(((b517.toNat:Int) != (41:Int)))=v:=⟨_,rfl⟩
    cases h521:v520 with
    | true =>
     obtain ⟨v522,e522⟩:∃v,(IntKind.i64.wrap (i+(1:Int)))=v:=⟨_,rfl⟩
     refine .inr ⟨⟨v522⟩,⟨v501,v502,n504,b505,v508,n510,b511,v514,n516,b517,v520,v522,e501,e502,e508,e514,e520,e522,h503,s506,s507,h509,s512,s513,h515,s518,s519,h521,rfl,trivial⟩,?_,?_⟩
     all_goals (have hz:=e501;have dh503:=of_decide_eq_true (e502.trans h503);have dh509:=bne_iff_ne.1 (e508.trans h509);have dh515:=bne_iff_ne.1 (e514.trans h515);have dh521:=bne_iff_ne.1 (e520.trans h521);obtain rfl:=zbp s506 s512 s507 s513;obtain rfl:=zbp s506 s518 s507 s519;obtain rfl:n504=j:=(by omega);have x3:v522=((n504+1:Nat):Int):=(by rw [← e522,hi,wri (by omega)];omega))
     ·show ((s.length:Int) - v522).toNat<((s.length:Int) - i).toNat
      omega
     ·have hw:=zmd s507 dh509 dh515 dh521
      exact ⟨n504+1,x3,by omega,by omega⟩
    | false =>
     refine .inl (Or.inl (⟨v501,v502,n504,b505,v508,n510,b511,v514,n516,b517,v520,e501,e502,e508,e514,e520,h503,s506,s507,h509,s512,s513,h515,s518,s519,h521,?_,trivial⟩))
     show i=o
     have hz:=e501;have dh503:=of_decide_eq_true (e502.trans h503);have dh509:=bne_iff_ne.1 (e508.trans h509);have dh515:=bne_iff_ne.1 (e514.trans h515);have dh521:=bne_eq_false_iff_eq.1 (e520.trans h521);obtain rfl:=zbp s506 s512 s507 s513;obtain rfl:=zbp s506 s518 s507 s519;obtain rfl:n504=j:=(by omega)
     have hw:=ze6 s507 (by omega)
     omega
   | false =>
    refine .inl (Or.inr (Or.inl (⟨v501,v502,n504,b505,v508,n510,b511,v514,e501,e502,e508,e514,h503,s506,s507,h509,s512,s513,h515,?_,trivial⟩)))
    show i=o
    have hz:=e501;have dh503:=of_decide_eq_true (e502.trans h503);have dh509:=bne_iff_ne.1 (e508.trans h509);have dh515:=bne_eq_false_iff_eq.1 (e514.trans h515);obtain rfl:=zbp s506 s512 s507 s513;obtain rfl:n504=j:=(by omega)
    have hw:=ze6 s507 (by omega)
    omega
  | false =>
   refine .inl (Or.inr (Or.inr (Or.inl (⟨v501,v502,n504,b505,v508,e501,e502,e508,h503,s506,s507,h509,?_,trivial⟩))))
   show i=o
   have hz:=e501;have dh503:=of_decide_eq_true (e502.trans h503);have dh509:=bne_eq_false_iff_eq.1 (e508.trans h509);obtain rfl:n504=j:=(by omega)
   have hw:=ze6 s507 (by omega)
   omega
 | false =>
  refine .inl (Or.inr (Or.inr (Or.inr (⟨v501,v502,e501,e502,h503,?_,trivial⟩))))
  show i=o
  have hz:=e501;have dh503:=of_decide_eq_false (e502.trans h503)
  have hw:(wordW (s.drop j)).length=0:=by rw [znp (by omega)];rfl
  omega
theorem zi4 {w0:World} (s:(List UInt8)) (a:Int) (o:Int) (L_rw_A:∀R:Frm,R.pm=⟨ntOf Tryz.prog 56,[],[]⟩→zi (KN w0) Tryz.prog (FL [pS s,pI a,pI o] []) R zcb (lp Tryz.prog 56 0)):Fun (KN w0) Tryz.prog 56 [.o (.c (pS s)),.o (.c (pI a))] (.o (.c (pI o))):=
 zk (zS (F:=FL [pS s,pI a,pI o] []) (C:=[]) (k:=⟨56,[yh 0,yh 1],[],yh 2,[]⟩) ⟨[zcb],[],0⟩ [] 0 (zg ⟨za,za,za,trivial⟩) trivial mixed trivial (fun R hR p hp s hs=>by
 have hl:zH (qu Tryz.prog 56)=[(1,lp Tryz.prog 56 0)]:=by kernel_rfl
 rw [hl] at hp
 simp only [List.mem_cons,List.not_mem_nil,or_false] at hp
 rcases hp with rfl
 ·have e:s=zcb:=(Option.some.inj hs).symm
  subst e;exact L_rw_A R hR) (by kernel_rfl))
theorem zcF {w0:World} (s:List UInt8) (a r:Int) (hr:a+((wordW (s.drop a.toNat)).length:Int)=r) (h0:0≤a∧a≤1000000) (hs:s.length≤1000000):Fun (KN w0) Tryz.prog 56 [.o (.c (pS s)),.o (.c (pI a))] (.o (.c (pI r))):=by
 obtain ⟨o,hO_rw_A⟩:∃(o:Int),a+((wordW (s.drop a.toNat)).length:Int)=o:=⟨_,rfl⟩
 refine Fun.imp (zi4 s a o (fun R hR=>zob s a  o rfl rfl rfl R hR h0 hs hO_rw_A)) (fun _ _ _ h=>h) (fun v W D h=>?_)
 have r0:r=o:=by
  exact hr.symm.trans hO_rw_A
 rw [r0];exact h
structure rn_B_T where
 n:Int
 k:Int
def z8:List Atom:=[.sl 0 (yh 0),.sl 2 (.o (.c (.k (.int .i64 0)))),.sl 3 (yh 1),.sl 4 (yh 2)]
def zaY:LoopS:=⟨3,[.sl 0 (yh 0),.sl 2 (.o (.c (.k (.int .i64 0)))),.sl 3 (.o (.c (.k (.int .i64 0)))),.sl 4 (.o (.c (.k (.int .i64 0))))],(.x 0),[.sl 0 (yh 0),.sl 2 (.o (.c (.k (.int .i64 0)))),.sl 3 (yh 1)]⟩
theorem zn1 {w0:World} (w:(List UInt8)) (n:Int) (k:Int) (v501:Int) (v502:Bool) (v504:Bool) (n506:Nat) (b507:UInt8) (v510:Bool) (n512:Nat) (b513:UInt8) (v516:Bool) (v518:Int) (n519:Nat) (b520:UInt8) (v523:Int) (v524:Int) (v525:Int) (v526:Int) (e501:(((w:List UInt8).length:Int))=v501) (e502:(decide (k<v501))=v502) (e504:(decide (k<(9:Int)))=v504) (e510:(decide ((b507.toNat:Int) ≥ (48:Int)))=v510) (e516:(decide ((b513.toNat:Int)≤(57:Int)))=v516) (e518:(IntKind.i64.wrap ((10:Int)*n))=v518) (e523:(IntKind.u8.wrap ((b520.toNat:Int) - (48:Int)))=v523) (e524:(IntKind.i64.wrap v523)=v524) (e525:(IntKind.i64.wrap (v518+v524))=v525) (e526:(IntKind.i64.wrap (k+(1:Int)))=v526) (h503:v502=true) (h505:v504=true) (s508:k=(n506:Int)) (s509:(w:List UInt8)[n506]?=some b507) (h511:v510=true) (s514:k=(n512:Int)) (s515:(w:List UInt8)[n512]?=some b513) (h517:v516=true) (s521:k=(n519:Int)) (s522:(w:List UInt8)[n519]?=some b520) (n':Int) (k':Int) (q0:(v525)=n') (q1:(v526)=k') (R:Frm) (hR:R.pm=⟨ntOf Tryz.prog 57,[],[]⟩):Goes (KN w0) Tryz.prog R (lp Tryz.prog 57 0) (FL [pS w,pI n,pI k] []) z8 .n (FL [pS w,pI n',pI k'] []) z8:=
 goes (x:=.n) (y:=.n) (Fb:=FL [pS w,pI n,pI k,pI v501,pB v502,pB v504,pV (.int .u8 (b507.toNat:Int)),pB v510,pV (.int .u8 (b513.toNat:Int)),pB v516,pI v518,pV (.int .u8 (b520.toNat:Int)),pV (.int .u8 v523),pI v524,pI v525,pI v526] []) (stb:=z8) (tl:=[.sl 0 (yh 0),.sl 2 (.o (.c (.k (.int .i64 0)))),.sl 3 (yh 14),.sl 4 (yh 15)]) (C:=((1005002,.op (.len [9] 3) [yh 0] [] (yh 3)) ::
  (1005003,.bin .lss 3 (yh 2) (yh 3) (yh 4)) ::
  (10004,.fb 4 true) ::
  (1005006,.bin .lss 3 (yh 2) (LF (.k (.int .i64 9))) (yh 5)) ::
  (10005,.fb 5 true) ::
  (1005010,.op (.ix 9) [yh 0,yh 2] [] (yh 6)) ::
  (1005011,.bin .geq 5 (yh 6) (LF (.k (.int .u8 48))) (yh 7)) ::
  (10007,.fb 7 true) ::
  (1005015,.op (.ix 9) [yh 0,yh 2] [] (yh 8)) ::
  (1005016,.bin .leq 5 (yh 8) (LF (.k (.int .u8 57))) (yh 9)) ::
  (10009,.fb 9 true) ::
  (1005019,.bin .mul 3 (LF (.k (.int .i64 10))) (yh 1) (yh 10)) ::
  (1005022,.op (.ix 9) [yh 0,yh 2] [] (yh 11)) ::
  (1005023,.bin .sub 5 (yh 11) (LF (.k (.int .u8 48))) (yh 12)) ::
  (1005024,.op (.cv 5 3) [yh 12] [] (yh 13)) ::
  (1005025,.bin .add 3 (yh 10) (yh 13) (yh 14)) ::
  (1005028,.bin .add 3 (yh 2) (LF (.k (.int .i64 1))) (yh 15)) ::
  []:List (Nat×Ent))) (H:=.no) 5000 (zipA.imp ⟨z_c yy,z_c yy,z_c yy,z_c yy,trivial⟩) (zg ⟨za,za,za,za,za,za,za,za,za,za,za,za,za,za,za,za,trivial⟩) ⟨e_op1 (zb rfl) (zb rfl) (fun W=>by rw [← e501];exact qf (by kernel_rfl) W),
  e_bin (zb rfl) (zb rfl) (zb rfl) (r_cmp (congrArg some e502)),
  e_fbv h503,
  e_bin (zb rfl) zd (zb rfl) (r_cmp (congrArg some e504)),
  e_fbv h505,
  e_op2 (zb rfl) (zb rfl) (zb rfl) (r_ix (by kernel_rfl) s508 s509),
  e_bin (zb rfl) zd (zb rfl) (r_cmp (congrArg some e510)),
  e_fbv h511,
  e_op2 (zb rfl) (zb rfl) (zb rfl) (r_ix (by kernel_rfl) s514 s515),
  e_bin (zb rfl) zd (zb rfl) (r_cmp (congrArg some e516)),
  e_fbv h517,
  e_bin zd (zb rfl) (zb rfl) (r_ar (congrArg some e518)),
  e_op2 (zb rfl) (zb rfl) (zb rfl) (r_ix (by kernel_rfl) s521 s522),
  e_bin (zb rfl) zd (zb rfl) (r_ar (congrArg some e523)),
  e_op1 (zb rfl) (zb rfl) (fun W=>by rw [← e524];exact r_cvi (by kernel_rfl) (by kernel_rfl) W),
  e_bin (zb rfl) (zb rfl) (zb rfl) (r_ar (congrArg some e525)),
  e_bin (zb rfl) zd (zb rfl) (r_ar (congrArg some e526)),
  trivial⟩ mixed hR trivial (fun _ _ _ hs=>by cases hs) (by kernel_rfl:zA (KN w0) Tryz.prog _ .no ⟨ntOf Tryz.prog 57,[],[]⟩ (lp Tryz.prog 57 0) 5000 z8 .n [.sl 0 (yh 0),.sl 2 (.o (.c (.k (.int .i64 0)))),.sl 3 (yh 14),.sl 4 (yh 15)]=true) rfl (zipA.imp ⟨z_c yy,z_c yy,z_c (fun β v W h=>(zc rfl β v W).2 (by rw [← q0];exact h)),z_c (fun β v W h=>(zc rfl β v W).2 (by rw [← q1];exact h)),trivial⟩)
theorem zn2 {w0:World} (w:(List UInt8)) (n:Int) (k:Int) (v501:Int) (v502:Bool) (v504:Bool) (n506:Nat) (b507:UInt8) (v510:Bool) (n512:Nat) (b513:UInt8) (v516:Bool) (v518:Int) (e501:(((w:List UInt8).length:Int))=v501) (e502:(decide (k<v501))=v502) (e504:(decide (k<(9:Int)))=v504) (e510:(decide ((b507.toNat:Int) ≥ (48:Int)))=v510) (e516:(decide ((b513.toNat:Int)≤(57:Int)))=v516) (e518:(IntKind.i64.wrap (k+(1:Int)))=v518) (h503:v502=true) (h505:v504=true) (s508:k=(n506:Int)) (s509:(w:List UInt8)[n506]?=some b507) (h511:v510=true) (s514:k=(n512:Int)) (s515:(w:List UInt8)[n512]?=some b513) (h517:v516=false) (n':Int) (k':Int) (q0:(n)=n') (q1:(v518)=k') (R:Frm) (hR:R.pm=⟨ntOf Tryz.prog 57,[],[]⟩):Goes (KN w0) Tryz.prog R (lp Tryz.prog 57 0) (FL [pS w,pI n,pI k] []) z8 .n (FL [pS w,pI n',pI k'] []) z8:=
 goes (x:=.n) (y:=.n) (Fb:=FL [pS w,pI n,pI k,pI v501,pB v502,pB v504,pV (.int .u8 (b507.toNat:Int)),pB v510,pV (.int .u8 (b513.toNat:Int)),pB v516,pI v518] []) (stb:=z8) (tl:=[.sl 0 (yh 0),.sl 2 (.o (.c (.k (.int .i64 0)))),.sl 3 (yh 1),.sl 4 (yh 10)]) (C:=((1005002,.op (.len [9] 3) [yh 0] [] (yh 3)) ::
  (1005003,.bin .lss 3 (yh 2) (yh 3) (yh 4)) ::
  (10004,.fb 4 true) ::
  (1005006,.bin .lss 3 (yh 2) (LF (.k (.int .i64 9))) (yh 5)) ::
  (10005,.fb 5 true) ::
  (1005010,.op (.ix 9) [yh 0,yh 2] [] (yh 6)) ::
  (1005011,.bin .geq 5 (yh 6) (LF (.k (.int .u8 48))) (yh 7)) ::
  (10007,.fb 7 true) ::
  (1005015,.op (.ix 9) [yh 0,yh 2] [] (yh 8)) ::
  (1005016,.bin .leq 5 (yh 8) (LF (.k (.int .u8 57))) (yh 9)) ::
  (10009,.fb 9 false) ::
  (1005019,.bin .add 3 (yh 2) (LF (.k (.int .i64 1))) (yh 10)) ::
  []:List (Nat×Ent))) (H:=.no) 5000 (zipA.imp ⟨z_c yy,z_c yy,z_c yy,z_c yy,trivial⟩) (zg ⟨za,za,za,za,za,za,za,za,za,za,za,trivial⟩) ⟨e_op1 (zb rfl) (zb rfl) (fun W=>by rw [← e501];exact qf (by kernel_rfl) W),
  e_bin (zb rfl) (zb rfl) (zb rfl) (r_cmp (congrArg some e502)),
  e_fbv h503,
  e_bin (zb rfl) zd (zb rfl) (r_cmp (congrArg some e504)),
  e_fbv h505,
  e_op2 (zb rfl) (zb rfl) (zb rfl) (r_ix (by kernel_rfl) s508 s509),
  e_bin (zb rfl) zd (zb rfl) (r_cmp (congrArg some e510)),
  e_fbv h511,
  e_op2 (zb rfl) (zb rfl) (zb rfl) (r_ix (by kernel_rfl) s514 s515),
  e_bin (zb rfl) zd (zb rfl) (r_cmp (congrArg some e516)),
  e_fbv h517,
  e_bin (zb rfl) zd (zb rfl) (r_ar (congrArg some e518)),
  trivial⟩ mixed hR trivial (fun _ _ _ hs=>by cases hs) (by kernel_rfl:zA (KN w0) Tryz.prog _ .no ⟨ntOf Tryz.prog 57,[],[]⟩ (lp Tryz.prog 57 0) 5000 z8 .n [.sl 0 (yh 0),.sl 2 (.o (.c (.k (.int .i64 0)))),.sl 3 (yh 1),.sl 4 (yh 10)]=true) rfl (zipA.imp ⟨z_c yy,z_c yy,z_c (fun β v W h=>(zc rfl β v W).2 (by rw [← q0];exact h)),z_c (fun β v W h=>(zc rfl β v W).2 (by rw [← q1];exact h)),trivial⟩)
theorem zn3 {w0:World} (w:(List UInt8)) (n:Int) (k:Int) (v501:Int) (v502:Bool) (v504:Bool) (n506:Nat) (b507:UInt8) (v510:Bool) (v512:Int) (e501:(((w:List UInt8).length:Int))=v501) (e502:(decide (k<v501))=v502) (e504:(decide (k<(9:Int)))=v504) (e510:(decide ((b507.toNat:Int) ≥ (48:Int)))=v510) (e512:(IntKind.i64.wrap (k+(1:Int)))=v512) (h503:v502=true) (h505:v504=true) (s508:k=(n506:Int)) (s509:(w:List UInt8)[n506]?=some b507) (h511:v510=false) (n':Int) (k':Int) (q0:(n)=n') (q1:(v512)=k') (R:Frm) (hR:R.pm=⟨ntOf Tryz.prog 57,[],[]⟩):Goes (KN w0) Tryz.prog R (lp Tryz.prog 57 0) (FL [pS w,pI n,pI k] []) z8 .n (FL [pS w,pI n',pI k'] []) z8:=
 goes (x:=.n) (y:=.n) (Fb:=FL [pS w,pI n,pI k,pI v501,pB v502,pB v504,pV (.int .u8 (b507.toNat:Int)),pB v510,pI v512] []) (stb:=z8) (tl:=[.sl 0 (yh 0),.sl 2 (.o (.c (.k (.int .i64 0)))),.sl 3 (yh 1),.sl 4 (yh 8)]) (C:=((1005002,.op (.len [9] 3) [yh 0] [] (yh 3)) ::
  (1005003,.bin .lss 3 (yh 2) (yh 3) (yh 4)) ::
  (10004,.fb 4 true) ::
  (1005006,.bin .lss 3 (yh 2) (LF (.k (.int .i64 9))) (yh 5)) ::
  (10005,.fb 5 true) ::
  (1005010,.op (.ix 9) [yh 0,yh 2] [] (yh 6)) ::
  (1005011,.bin .geq 5 (yh 6) (LF (.k (.int .u8 48))) (yh 7)) ::
  (10007,.fb 7 false) ::
  (1005019,.bin .add 3 (yh 2) (LF (.k (.int .i64 1))) (yh 8)) ::
  []:List (Nat×Ent))) (H:=.no) 5000 (zipA.imp ⟨z_c yy,z_c yy,z_c yy,z_c yy,trivial⟩) (zg ⟨za,za,za,za,za,za,za,za,za,trivial⟩) ⟨e_op1 (zb rfl) (zb rfl) (fun W=>by rw [← e501];exact qf (by kernel_rfl) W),
  e_bin (zb rfl) (zb rfl) (zb rfl) (r_cmp (congrArg some e502)),
  e_fbv h503,
  e_bin (zb rfl) zd (zb rfl) (r_cmp (congrArg some e504)),
  e_fbv h505,
  e_op2 (zb rfl) (zb rfl) (zb rfl) (r_ix (by kernel_rfl) s508 s509),
  e_bin (zb rfl) zd (zb rfl) (r_cmp (congrArg some e510)),
  e_fbv h511,
  e_bin (zb rfl) zd (zb rfl) (r_ar (congrArg some e512)),
  trivial⟩ mixed hR trivial (fun _ _ _ hs=>by cases hs) (by kernel_rfl:zA (KN w0) Tryz.prog _ .no ⟨ntOf Tryz.prog 57,[],[]⟩ (lp Tryz.prog 57 0) 5000 z8 .n [.sl 0 (yh 0),.sl 2 (.o (.c (.k (.int .i64 0)))),.sl 3 (yh 1),.sl 4 (yh 8)]=true) rfl (zipA.imp ⟨z_c yy,z_c yy,z_c (fun β v W h=>(zc rfl β v W).2 (by rw [← q0];exact h)),z_c (fun β v W h=>(zc rfl β v W).2 (by rw [← q1];exact h)),trivial⟩)
theorem zn4 {w0:World} (w:(List UInt8)) (n:Int) (k:Int) (v501:Int) (v502:Bool) (v504:Bool) (e501:(((w:List UInt8).length:Int))=v501) (e502:(decide (k<v501))=v502) (e504:(decide (k<(9:Int)))=v504) (h503:v502=true) (h505:v504=false) (o:Int) (F:Fact) (u0:F.c 0=pS w) (u1:F.c 1=pI o) (q0:(n)=o) (R:Frm) (hR:R.pm=⟨ntOf Tryz.prog 57,[],[]⟩):Goes (KN w0) Tryz.prog R (lp Tryz.prog 57 0) (FL [pS w,pI n,pI k] []) z8 (.x 0) F zaY.out:=
 goes (x:=(.x 0)) (y:=(.x 0)) (Fb:=FL [pS w,pI n,pI k,pI v501,pB v502,pB v504] []) (stb:=z8) (tl:=[.sl 0 (yh 0),.sl 2 (.o (.c (.k (.int .i64 0)))),.sl 3 (yh 1)]) (C:=((1005002,.op (.len [9] 3) [yh 0] [] (yh 3)) ::
  (1005003,.bin .lss 3 (yh 2) (yh 3) (yh 4)) ::
  (10004,.fb 4 true) ::
  (1005006,.bin .lss 3 (yh 2) (LF (.k (.int .i64 9))) (yh 5)) ::
  (10005,.fb 5 false) ::
  []:List (Nat×Ent))) (H:=.no) 5000 (zipA.imp ⟨z_c yy,z_c yy,z_c yy,z_c yy,trivial⟩) (zg ⟨za,za,za,za,za,za,trivial⟩) ⟨e_op1 (zb rfl) (zb rfl) (fun W=>by rw [← e501];exact qf (by kernel_rfl) W),
  e_bin (zb rfl) (zb rfl) (zb rfl) (r_cmp (congrArg some e502)),
  e_fbv h503,
  e_bin (zb rfl) zd (zb rfl) (r_cmp (congrArg some e504)),
  e_fbv h505,
  trivial⟩ mixed hR trivial (fun _ _ _ hs=>by cases hs) (by kernel_rfl:zA (KN w0) Tryz.prog _ .no ⟨ntOf Tryz.prog 57,[],[]⟩ (lp Tryz.prog 57 0) 5000 z8 (.x 0) [.sl 0 (yh 0),.sl 2 (.o (.c (.k (.int .i64 0)))),.sl 3 (yh 1)]=true) rfl (zipA.imp ⟨z_c (fun β v W h=>(zc u0 β v W).2 h),z_c yy,z_c (fun β v W h=>(zc u1 β v W).2 (by rw [← q0];exact h)),trivial⟩)
theorem zn5 {w0:World} (w:(List UInt8)) (n:Int) (k:Int) (v501:Int) (v502:Bool) (e501:(((w:List UInt8).length:Int))=v501) (e502:(decide (k<v501))=v502) (h503:v502=false) (o:Int) (F:Fact) (u0:F.c 0=pS w) (u1:F.c 1=pI o) (q0:(n)=o) (R:Frm) (hR:R.pm=⟨ntOf Tryz.prog 57,[],[]⟩):Goes (KN w0) Tryz.prog R (lp Tryz.prog 57 0) (FL [pS w,pI n,pI k] []) z8 (.x 0) F zaY.out:=
 goes (x:=(.x 0)) (y:=(.x 0)) (Fb:=FL [pS w,pI n,pI k,pI v501,pB v502] []) (stb:=z8) (tl:=[.sl 0 (yh 0),.sl 2 (.o (.c (.k (.int .i64 0)))),.sl 3 (yh 1)]) (C:=((1005002,.op (.len [9] 3) [yh 0] [] (yh 3)) ::
  (1005003,.bin .lss 3 (yh 2) (yh 3) (yh 4)) ::
  (10004,.fb 4 false) ::
  []:List (Nat×Ent))) (H:=.no) 5000 (zipA.imp ⟨z_c yy,z_c yy,z_c yy,z_c yy,trivial⟩) (zg ⟨za,za,za,za,za,trivial⟩) ⟨e_op1 (zb rfl) (zb rfl) (fun W=>by rw [← e501];exact qf (by kernel_rfl) W),
  e_bin (zb rfl) (zb rfl) (zb rfl) (r_cmp (congrArg some e502)),
  e_fbv h503,
  trivial⟩ mixed hR trivial (fun _ _ _ hs=>by cases hs) (by kernel_rfl:zA (KN w0) Tryz.prog _ .no ⟨ntOf Tryz.prog 57,[],[]⟩ (lp Tryz.prog 57 0) 5000 z8 (.x 0) [.sl 0 (yh 0),.sl 2 (.o (.c (.k (.int .i64 0)))),.sl 3 (yh 1)]=true) rfl (zipA.imp ⟨z_c (fun β v W h=>(zc u0 β v W).2 h),z_c yy,z_c (fun β v W h=>(zc u1 β v W).2 (by rw [← q0];exact h)),trivial⟩)
def zpd (w:(List UInt8)) (t:rn_B_T) (o:Int):Prop:=(∃(v501:Int),∃(v502:Bool),∃(v504:Bool),((((w:List UInt8).length:Int))=v501)∧((decide (t.k<v501))=v502)∧((decide (t.k<(9:Int)))=v504)∧(v502=true)∧(v504=false)∧((t.n)=o)∧True)∨(∃(v501:Int),∃(v502:Bool),((((w:List UInt8).length:Int))=v501)∧((decide (t.k<v501))=v502)∧(v502=false)∧((t.n)=o)∧True)
def zpc (w:(List UInt8)) (t t':rn_B_T):Prop:=(∃(v501:Int),∃(v502:Bool),∃(v504:Bool),∃(n506:Nat),∃(b507:UInt8),∃(v510:Bool),∃(n512:Nat),∃(b513:UInt8),∃(v516:Bool),∃(v518:Int),∃(n519:Nat),∃(b520:UInt8),∃(v523:Int),∃(v524:Int),∃(v525:Int),∃(v526:Int),((((w:List UInt8).length:Int))=v501)∧((decide (t.k<v501))=v502)∧((decide (t.k<(9:Int)))=v504)∧((decide ((b507.toNat:Int) ≥ (48:Int)))=v510)∧((decide ((b513.toNat:Int)≤(57:Int)))=v516)∧((IntKind.i64.wrap ((10:Int)*t.n))=v518)∧((IntKind.u8.wrap ((b520.toNat:Int) - (48:Int)))=v523)∧((IntKind.i64.wrap v523)=v524)∧((IntKind.i64.wrap (v518+v524))=v525)∧((IntKind.i64.wrap (t.k+(1:Int)))=v526)∧(v502=true)∧(v504=true)∧(t.k=(n506:Int))∧((w:List UInt8)[n506]?=some b507)∧(v510=true)∧(t.k=(n512:Int))∧((w:List UInt8)[n512]?=some b513)∧(v516=true)∧(t.k=(n519:Int))∧((w:List UInt8)[n519]?=some b520)∧((v525)=t'.n)∧((v526)=t'.k)∧True)∨(∃(v501:Int),∃(v502:Bool),∃(v504:Bool),∃(n506:Nat),∃(b507:UInt8),∃(v510:Bool),∃(n512:Nat),∃(b513:UInt8),∃(v516:Bool),∃(v518:Int),((((w:List UInt8).length:Int))=v501)∧((decide (t.k<v501))=v502)∧((decide (t.k<(9:Int)))=v504)∧((decide ((b507.toNat:Int) ≥ (48:Int)))=v510)∧((decide ((b513.toNat:Int)≤(57:Int)))=v516)∧((IntKind.i64.wrap (t.k+(1:Int)))=v518)∧(v502=true)∧(v504=true)∧(t.k=(n506:Int))∧((w:List UInt8)[n506]?=some b507)∧(v510=true)∧(t.k=(n512:Int))∧((w:List UInt8)[n512]?=some b513)∧(v516=false)∧((t.n)=t'.n)∧((v518)=t'.k)∧True)∨(∃(v501:Int),∃(v502:Bool),∃(v504:Bool),∃(n506:Nat),∃(b507:UInt8),∃(v510:Bool),∃(v512:Int),((((w:List UInt8).length:Int))=v501)∧((decide (t.k<v501))=v502)∧((decide (t.k<(9:Int)))=v504)∧((decide ((b507.toNat:Int) ≥ (48:Int)))=v510)∧((IntKind.i64.wrap (t.k+(1:Int)))=v512)∧(v502=true)∧(v504=true)∧(t.k=(n506:Int))∧((w:List UInt8)[n506]?=some b507)∧(v510=false)∧((t.n)=t'.n)∧((v512)=t'.k)∧True)
theorem zkr {w0:World} (w:(List UInt8)) (o:Int) {F:Fact} (u0:F.c 0=pS w) (u1:F.c 1=pI o) (R:Frm) (hR:R.pm=⟨ntOf Tryz.prog 57,[],[]⟩) (J:rn_B_T→Prop) (m:rn_B_T→Nat) (hJ:J { n:=(0:Int),k:=(0:Int) }) (rounds:∀t,J t→zpd w t o∨∃t',zpc w t t'∧m t'<m t∧J t'):zi (KN w0) Tryz.prog F R zaY (lp Tryz.prog 57 0):=by
 refine zB (T:=rn_B_T) (fun t=>FL [pS w,pI t.n,pI t.k] []) J m { n:=(0:Int),k:=(0:Int) } z8 hJ (zipA.imp ⟨z_c (fun β v W h=>(zc u0 β v W).1 h),z_c yy,z_c yy,z_c yy,trivial⟩) rfl fun t ht=>?_
 rcases rounds t ht with hz_ | ⟨t',hz_,hm_,hj_⟩
 ·refine .inl ?_
  rcases hz_ with ⟨v501,v502,v504,e501,e502,e504,h503,h505,q0,_⟩ | ⟨v501,v502,e501,e502,h503,q0,_⟩
  ·exact zn4  w  t.n t.k v501 v502 v504 e501 e502 e504 h503 h505 o F u0 u1 q0 R hR
  ·exact zn5  w  t.n t.k v501 v502 e501 e502 h503 o F u0 u1 q0 R hR
 ·refine .inr ⟨t',hm_,hj_,?_⟩
  rcases hz_ with ⟨v501,v502,v504,n506,b507,v510,n512,b513,v516,v518,n519,b520,v523,v524,v525,v526,e501,e502,e504,e510,e516,e518,e523,e524,e525,e526,h503,h505,s508,s509,h511,s514,s515,h517,s521,s522,q0,q1,_⟩ | ⟨v501,v502,v504,n506,b507,v510,n512,b513,v516,v518,e501,e502,e504,e510,e516,e518,h503,h505,s508,s509,h511,s514,s515,h517,q0,q1,_⟩ | ⟨v501,v502,v504,n506,b507,v510,v512,e501,e502,e504,e510,e512,h503,h505,s508,s509,h511,q0,q1,_⟩
  ·exact zn1  w  t.n t.k v501 v502 v504 n506 b507 v510 n512 b513 v516 v518 n519 b520 v523 v524 v525 v526 e501 e502 e504 e510 e516 e518 e523 e524 e525 e526 h503 h505 s508 s509 h511 s514 s515 h517 s521 s522 t'.n t'.k q0 q1 R hR
  ·exact zn2  w  t.n t.k v501 v502 v504 n506 b507 v510 n512 b513 v516 v518 e501 e502 e504 e510 e516 e518 h503 h505 s508 s509 h511 s514 s515 h517 t'.n t'.k q0 q1 R hR
  ·exact zn3  w  t.n t.k v501 v502 v504 n506 b507 v510 v512 e501 e502 e504 e510 e512 h503 h505 s508 s509 h511 t'.n t'.k q0 q1 R hR
theorem zgH {w0:World} (w:(List UInt8)) (o:Int) {F:Fact} (u0:F.c 0=pS w) (u1:F.c 1=pI o) (R:Frm) (hR:R.pm=⟨ntOf Tryz.prog 57,[],[]⟩) (hO:(numA 0 (w.take 9):Int)=o) (hb:o<1000000000):zi (KN w0) Tryz.prog F R zaY (lp Tryz.prog 57 0):=by
 refine zkr  w  o u0 u1 R hR (fun ⟨n,k⟩=>∃j:Nat,k=(j:Int)∧j≤9∧0≤n∧(numA n.toNat ((w.take 9).drop j):Int)=o) (fun ⟨n,k⟩=>((9:Int) - k).toNat) ⟨0,rfl,by decide,by decide,by rw [List.drop_zero];exact hO⟩ fun t hJ=>?_
 obtain ⟨n,k⟩:=t
 dsimp only at hJ
 obtain ⟨j,hi,hj,hn,ho⟩:=hJ
 have hge:=zeR ((w.take 9).drop j) n.toNat
 obtain ⟨v501,e501⟩:∃v,(((w:List UInt8).length:Int))=v:=⟨_,rfl⟩
 obtain ⟨v502,e502⟩:∃v,(decide (k<v501))=v:=⟨_,rfl⟩
 cases h503:v502 with
 | true =>
  obtain ⟨v504,e504⟩:∃v,(decide (k<(9:Int)))=v:=⟨_,rfl⟩
  cases h505:v504 with
  | true =>
   obtain ⟨n506,b507,s508,s509⟩:∃(n506:Nat) (b507:UInt8),k=(n506:Int)∧(w:List UInt8)[n506]?=some b507:=by (have dh503:=of_decide_eq_true (e502.trans h503);have dh505:=of_decide_eq_true (e504.trans h505);have hz:=e501;have hlt:j<w.length:=(by omega);exact ⟨j,_,hi,List.getElem?_eq_getElem hlt⟩)
   obtain ⟨v510,e510⟩:∃v,(decide ((b507.toNat:Int) ≥ (48:Int)))=v:=⟨_,rfl⟩
   cases h511:v510 with
   | true =>
    obtain ⟨n512,b513,s514,s515⟩:∃(n512:Nat) (b513:UInt8),k=(n512:Int)∧(w:List UInt8)[n512]?=some b513:=by (have dh503:=of_decide_eq_true (e502.trans h503);have dh505:=of_decide_eq_true (e504.trans h505);have dh511:=of_decide_eq_true (e510.trans h511);have hz:=e501;have hlt:j<w.length:=(by omega);exact ⟨j,_,hi,List.getElem?_eq_getElem hlt⟩)
    obtain ⟨v516,e516⟩:∃v,(decide ((b513.toNat:Int)≤(57:Int)))=v:=⟨_,rfl⟩
    cases h517:v516 with
    | true =>
     obtain ⟨v518,e518⟩:∃v,(IntKind.i64.wrap ((10:Int)*n))=v:=⟨_,rfl⟩
     obtain ⟨n519,b520,s521,s522⟩:∃(n519:Nat) (b520:UInt8),k=(n519:Int)∧(w:List UInt8)[n519]?=some b520:=by (have dh503:=of_decide_eq_true (e502.trans h503);have dh505:=of_decide_eq_true (e504.trans h505);have dh511:=of_decide_eq_true (e510.trans h511);have dh517:=of_decide_eq_true (e516.trans h517);have hz:=e501;have hlt:j<w.length:=(by omega);exact ⟨j,_,hi,List.getElem?_eq_getElem hlt⟩)
     obtain ⟨v523,e523⟩:∃v,(IntKind.u8.wrap ((b520.toNat:Int) - (48:Int)))=v:=⟨_,rfl⟩
     obtain ⟨v524,e524⟩:∃v,(IntKind.i64.wrap v523)=v:=⟨_,rfl⟩
     obtain ⟨v525,e525⟩:∃v,(IntKind.i64.wrap (v518+v524))=v:=⟨_,rfl⟩
     obtain ⟨v526,e526⟩:∃v,(IntKind.i64.wrap (k+(1:Int)))=v:=⟨_,rfl⟩
     refine .inr ⟨⟨v525,v526⟩,Or.inl (⟨v501,v502,v504,n506,b507,v510,n512,b513,v516,v518,n519,b520,v523,v524,v525,v526,e501,e502,e504,e510,e516,e518,e523,e524,e525,e526,h503,h505,s508,s509,h511,s514,s515,h517,s521,s522,rfl,rfl,trivial⟩),?_,?_⟩
     all_goals (have hz:=e501;have dh503:=of_decide_eq_true (e502.trans h503);have dh505:=of_decide_eq_true (e504.trans h505);have dh511:=of_decide_eq_true (e510.trans h511);have dh517:=of_decide_eq_true (e516.trans h517);obtain rfl:=zbp s508 s514 s509 s515;obtain rfl:=zbp s508 s521 s509 s522;obtain rfl:n506=j:=(by omega);have x3:v526=((n506+1:Nat):Int):=(by rw [← e526,hi,wri (by omega)];omega);have hlt:=b520.toNat_lt;have hd:=zl3 (n:=n.toNat) (w:=w) (show n506<9 by omega) s509 (by omega);have hge2:=zeR ((w.take 9).drop (n506+1)) (10*n.toNat+(b520.toNat - 48));have y1:v518=10*n:=(by rw [← e518,wri (by omega)]);have y2:v523=(b520.toNat:Int) - 48:=(by rw [← e523,IntKind.wrap_u8];omega);have y3:v524=v523:=(by rw [← e524,wri (by omega)]);have y4:v525=v518+v524:=(by rw [← e525,wri (by omega)]);have y5:v525.toNat=10*n.toNat+(b520.toNat - 48):=(by omega))
     ·show ((9:Int) - v526).toNat<((9:Int) - k).toNat
      omega
     ·exact ⟨n506+1,x3,by omega,by omega,by rw [y5,← hd];exact ho⟩
    | false =>
     obtain ⟨v518,e518⟩:∃v,(IntKind.i64.wrap (k+(1:Int)))=v:=⟨_,rfl⟩
     refine .inr ⟨⟨n,v518⟩,Or.inr (Or.inl (⟨v501,v502,v504,n506,b507,v510,n512,b513,v516,v518,e501,e502,e504,e510,e516,e518,h503,h505,s508,s509,h511,s514,s515,h517,rfl,rfl,trivial⟩)),?_,?_⟩
     all_goals (have hz:=e501;have dh503:=of_decide_eq_true (e502.trans h503);have dh505:=of_decide_eq_true (e504.trans h505);have dh511:=of_decide_eq_true (e510.trans h511);have dh517:=of_decide_eq_false (e516.trans h517);obtain rfl:=zbp s508 s514 s509 s515;obtain rfl:n506=j:=(by omega);have x3:v518=((n506+1:Nat):Int):=(by rw [← e518,hi,wri (by omega)];omega);have hlt:=b513.toNat_lt;have hd:=zhM (n:=n.toNat) (w:=w) (show n506<9 by omega) s509 (by omega))
     ·show ((9:Int) - v518).toNat<((9:Int) - k).toNat
      omega
     ·exact ⟨n506+1,x3,by omega,by omega,by rw [← hd];exact ho⟩
   | false =>
    obtain ⟨v512,e512⟩:∃v,(IntKind.i64.wrap (k+(1:Int)))=v:=⟨_,rfl⟩
    refine .inr ⟨⟨n,v512⟩,Or.inr (Or.inr (⟨v501,v502,v504,n506,b507,v510,v512,e501,e502,e504,e510,e512,h503,h505,s508,s509,h511,rfl,rfl,trivial⟩)),?_,?_⟩
    all_goals (have hz:=e501;have dh503:=of_decide_eq_true (e502.trans h503);have dh505:=of_decide_eq_true (e504.trans h505);have dh511:=of_decide_eq_false (e510.trans h511);obtain rfl:n506=j:=(by omega);have x3:v512=((n506+1:Nat):Int):=(by rw [← e512,hi,wri (by omega)];omega);have hlt:=b507.toNat_lt;have hd:=zhM (n:=n.toNat) (w:=w) (show n506<9 by omega) s509 (by omega))
    ·show ((9:Int) - v512).toNat<((9:Int) - k).toNat
     omega
    ·exact ⟨n506+1,x3,by omega,by omega,by rw [← hd];exact ho⟩
  | false =>
   refine .inl (Or.inl (⟨v501,v502,v504,e501,e502,e504,h503,h505,?_,trivial⟩))
   show n=o
   have hz:=e501;have dh503:=of_decide_eq_true (e502.trans h503);have dh505:=of_decide_eq_false (e504.trans h505)
   rw [znd (by omega)] at ho
   omega
 | false =>
  refine .inl (Or.inr (⟨v501,v502,e501,e502,h503,?_,trivial⟩))
  show n=o
  have hz:=e501;have dh503:=of_decide_eq_false (e502.trans h503)
  rw [znd (by omega)] at ho
  omega
theorem zf3 {w0:World} (w:(List UInt8)) (o:Int) (v1:Int) (v2:Bool) (n4:Nat) (b5:UInt8) (v8:Bool) (v10:Int) (e1:(((w:List UInt8).length:Int))=v1) (e2:(decide (v1 > (0:Int)))=v2) (e8:(((b5.toNat:Int) == (45:Int)))=v8) (e10:(IntKind.i64.wrap (0 - o))=v10) (h3:v2=true) (s6:(0:Int)=(n4:Int)) (s7:(w:List UInt8)[n4]?=some b5) (h9:v8=true) (L_rn_B:∀R:Frm,R.pm=⟨ntOf Tryz.prog 57,[],[]⟩→zi (KN w0) Tryz.prog (FL [pS w,pI o,pI v1,pB v2,pV (.int .u8 (b5.toNat:Int)),pB v8,pI v10] []) R zaY (lp Tryz.prog 57 0)):Fun (KN w0) Tryz.prog 57 [.o (.c (pS w))] (.o (.c (pI v10))):=
 zk (zS (F:=FL [pS w,pI o,pI v1,pB v2,pV (.int .u8 (b5.toNat:Int)),pB v8,pI v10] []) (C:=[(1001004,.op (.len [9] 3) [yh 0] [] (yh 2)),
  (1001005,.bin .gtr 3 (yh 2) (LF (.k (.int .i64 0))) (yh 3)),
  (10003,.fb 3 true),
  (1001008,.op (.ix 9) [yh 0,LF (.k (.int .i64 0))] [] (yh 4)),
  (1001009,.bin .eql 5 (yh 4) (LF (.k (.int .u8 45))) (yh 5)),
  (10005,.fb 5 true),
  (1001012,.un .neg (yh 1) (yh 6))]) (k:=⟨57,[yh 0],[],yh 6,[]⟩) ⟨[zaY],[],0⟩ [] 0 (zg ⟨za,za,za,za,za,za,za,trivial⟩) ⟨e_op1 (zb rfl) (zb rfl) (fun W=>by rw [← e1];exact qf (by kernel_rfl) W),
  e_bin (zb rfl) zd (zb rfl) (r_cmp (congrArg some e2)),
  e_fbv h3,
  e_op2 (zb rfl) zd (zb rfl) (r_ix (by kernel_rfl) s6 s7),
  e_bin (zb rfl) zd (zb rfl) (r_cmp (congrArg some e8)),
  e_fbv h9,
  e_un (zb rfl) (zb rfl) (fun W=>by rw [← e10];exact r_neg W),
  trivial⟩ mixed trivial (fun R hR p hp s hs=>by
 have hl:zH (qu Tryz.prog 57)=[(3,lp Tryz.prog 57 0)]:=by kernel_rfl
 rw [hl] at hp
 simp only [List.mem_cons,List.not_mem_nil,or_false] at hp
 rcases hp with rfl
 ·have e:s=zaY:=(Option.some.inj hs).symm
  subst e;exact L_rn_B R hR) (by kernel_rfl))
theorem zf4 {w0:World} (w:(List UInt8)) (o:Int) (v1:Int) (v2:Bool) (n4:Nat) (b5:UInt8) (v8:Bool) (e1:(((w:List UInt8).length:Int))=v1) (e2:(decide (v1 > (0:Int)))=v2) (e8:(((b5.toNat:Int) == (45:Int)))=v8) (h3:v2=true) (s6:(0:Int)=(n4:Int)) (s7:(w:List UInt8)[n4]?=some b5) (h9:v8=false) (L_rn_B:∀R:Frm,R.pm=⟨ntOf Tryz.prog 57,[],[]⟩→zi (KN w0) Tryz.prog (FL [pS w,pI o,pI v1,pB v2,pV (.int .u8 (b5.toNat:Int)),pB v8] []) R zaY (lp Tryz.prog 57 0)):Fun (KN w0) Tryz.prog 57 [.o (.c (pS w))] (.o (.c (pI o))):=
 zk (zS (F:=FL [pS w,pI o,pI v1,pB v2,pV (.int .u8 (b5.toNat:Int)),pB v8] []) (C:=[(1001004,.op (.len [9] 3) [yh 0] [] (yh 2)),
  (1001005,.bin .gtr 3 (yh 2) (LF (.k (.int .i64 0))) (yh 3)),
  (10003,.fb 3 true),
  (1001008,.op (.ix 9) [yh 0,LF (.k (.int .i64 0))] [] (yh 4)),
  (1001009,.bin .eql 5 (yh 4) (LF (.k (.int .u8 45))) (yh 5)),
  (10005,.fb 5 false)]) (k:=⟨57,[yh 0],[],yh 1,[]⟩) ⟨[zaY],[],0⟩ [] 0 (zg ⟨za,za,za,za,za,za,trivial⟩) ⟨e_op1 (zb rfl) (zb rfl) (fun W=>by rw [← e1];exact qf (by kernel_rfl) W),
  e_bin (zb rfl) zd (zb rfl) (r_cmp (congrArg some e2)),
  e_fbv h3,
  e_op2 (zb rfl) zd (zb rfl) (r_ix (by kernel_rfl) s6 s7),
  e_bin (zb rfl) zd (zb rfl) (r_cmp (congrArg some e8)),
  e_fbv h9,
  trivial⟩ mixed trivial (fun R hR p hp s hs=>by
 have hl:zH (qu Tryz.prog 57)=[(3,lp Tryz.prog 57 0)]:=by kernel_rfl
 rw [hl] at hp
 simp only [List.mem_cons,List.not_mem_nil,or_false] at hp
 rcases hp with rfl
 ·have e:s=zaY:=(Option.some.inj hs).symm
  subst e;exact L_rn_B R hR) (by kernel_rfl))
theorem zf5 {w0:World} (w:(List UInt8)) (o:Int) (v1:Int) (v2:Bool) (e1:(((w:List UInt8).length:Int))=v1) (e2:(decide (v1 > (0:Int)))=v2) (h3:v2=false) (L_rn_B:∀R:Frm,R.pm=⟨ntOf Tryz.prog 57,[],[]⟩→zi (KN w0) Tryz.prog (FL [pS w,pI o,pI v1,pB v2] []) R zaY (lp Tryz.prog 57 0)):Fun (KN w0) Tryz.prog 57 [.o (.c (pS w))] (.o (.c (pI o))):=
 zk (zS (F:=FL [pS w,pI o,pI v1,pB v2] []) (C:=[(1001004,.op (.len [9] 3) [yh 0] [] (yh 2)),
  (1001005,.bin .gtr 3 (yh 2) (LF (.k (.int .i64 0))) (yh 3)),
  (10003,.fb 3 false)]) (k:=⟨57,[yh 0],[],yh 1,[]⟩) ⟨[zaY],[],0⟩ [] 0 (zg ⟨za,za,za,za,trivial⟩) ⟨e_op1 (zb rfl) (zb rfl) (fun W=>by rw [← e1];exact qf (by kernel_rfl) W),
  e_bin (zb rfl) zd (zb rfl) (r_cmp (congrArg some e2)),
  e_fbv h3,
  trivial⟩ mixed trivial (fun R hR p hp s hs=>by
 have hl:zH (qu Tryz.prog 57)=[(3,lp Tryz.prog 57 0)]:=by kernel_rfl
 rw [hl] at hp
 simp only [List.mem_cons,List.not_mem_nil,or_false] at hp
 rcases hp with rfl
 ·have e:s=zaY:=(Option.some.inj hs).symm
  subst e;exact L_rn_B R hR) (by kernel_rfl))
theorem zbt {w0:World} (w:List UInt8) (r:Int) (hr:numR w=r):Fun (KN w0) Tryz.prog 57 [.o (.c (pS w))] (.o (.c (pI r))):=by
 obtain ⟨o,hO_rn_B⟩:∃(o:Int),(numA 0 (w.take 9):Int)=o:=⟨_,rfl⟩
 have hbd:o<1000000000:=by have:=zj1 w;omega
 obtain ⟨v1,e1⟩:∃v,(((w:List UInt8).length:Int))=v:=⟨_,rfl⟩
 obtain ⟨v2,e2⟩:∃v,(decide (v1 > (0:Int)))=v:=⟨_,rfl⟩
 cases h3:v2 with
 | true =>
  obtain ⟨n4,b5,s6,s7⟩:∃(n4:Nat) (b5:UInt8),(0:Int)=(n4:Int)∧(w:List UInt8)[n4]?=some b5:=by (have dh3:=of_decide_eq_true (e2.trans h3);exact ⟨0,_,rfl,List.getElem?_eq_getElem (by omega)⟩)
  obtain ⟨v8,e8⟩:∃v,(((b5.toNat:Int) == (45:Int)))=v:=⟨_,rfl⟩
  cases h9:v8 with
  | true =>
   obtain ⟨v10,e10⟩:∃v,(IntKind.i64.wrap (0 - o))=v:=⟨_,rfl⟩
   refine Fun.imp (zf3 w o v1 v2 n4 b5 v8 v10 e1 e2 e8 e10 h3 s6 s7 h9 (fun R hR=>zgH w  o rfl rfl R hR hO_rn_B hbd)) (fun _ _ _ h=>h) (fun v W D h=>?_)
   have r0:r=v10:=by
    (have dh3:=of_decide_eq_true (e2.trans h3);have dh9:=eq_of_beq (e8.trans h9);have hh:w.head?=some b5:=(by rw [List.head?_eq_getElem?,show 0=n4 by omega];exact s7);rw [u8_of (c:=45) dh9] at hh;have y:v10=-o:=(by rw [← e10,wri (by omega)];omega);rw [← hr,numR,if_pos hh,y,hO_rn_B])
   rw [r0];exact h
  | false =>
   refine Fun.imp (zf4 w o v1 v2 n4 b5 v8 e1 e2 e8 h3 s6 s7 h9 (fun R hR=>zgH w  o rfl rfl R hR hO_rn_B hbd)) (fun _ _ _ h=>h) (fun v W D h=>?_)
   have r0:r=o:=by
    (have dh3:=of_decide_eq_true (e2.trans h3);have dh9:=ne_of_beq_false (e8.trans h9);have hh:w.head?=some b5:=(by rw [List.head?_eq_getElem?,show 0=n4 by omega];exact s7);rw [← hr,numR,if_neg (by rw [hh];intro z;injection z with z;subst z;exact dh9 rfl),hO_rn_B])
   rw [r0];exact h
 | false =>
  refine Fun.imp (zf5 w o v1 v2 e1 e2 h3 (fun R hR=>zgH w  o rfl rfl R hR hO_rn_B hbd)) (fun _ _ _ h=>h) (fun v W D h=>?_)
  have r0:r=o:=by
   (have dh3:=of_decide_eq_false (e2.trans h3);have hw:w=[]:=List.length_eq_zero_iff.1 (by omega);rw [← hr,numR,if_neg (by rw [hw];decide),hO_rn_B])
  rw [r0];exact h
end Go.Proofs.YtdkofaajcpcjkaaGreatDoor
