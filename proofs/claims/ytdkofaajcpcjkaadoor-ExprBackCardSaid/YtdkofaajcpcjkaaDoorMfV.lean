/-
  Merged: ExIy, ExBk.
-/
import Derived.Test.YtdkofaajcpcjkaaDoorMfU
import Derived.Lib.OthersKept
import Derived.Test.YtdkofaajcpcjkaaDoorMfT
import Derived.Test.YtdkofaajcpcjkaaDoorMfP
import Derived.Test.YtdkofaajcpcjkaaDoorMfR
set_option linter.unusedSimpArgs false
set_option linter.unusedVariables false
set_option maxRecDepth 1000000
set_option maxHeartbeats 2000000
namespace Go.Proofs.YtdkofaajcpcjkaaDoor
open Go.RowKit
theorem zpE {W:World} {f:FuncId} {sh:List PSh} {v:Value} {args:Array Value} (hF:Fun (KN W) Tryd.prog f sh (.o (.c (pV v)))) (hs:oka sh args.toList W (fun q=>q<W.heap.size)) :
  Calls Tryd.prog f args W fun e W'=>e=.returned v∧Below W.heap.size W W':=by
 have:=hF W (fun q=>q<W.heap.size) args.toList hs ⟨Below.refl _ _,fun q h=>h,fun q h=>h⟩
 rw [Array.toArray_toList] at this
 refine this.mono fun e W' hr=>?_
 obtain ⟨v',D',rfl,hv,hk⟩:=hr
 have hv:v'=v:=hv
 subst hv
 exact ⟨rfl,hk.bel⟩
theorem zp0 (w:World):Calls Tryd.prog 63 #[.string ⟨#[32,40,41]⟩,.int .i32 65533] w fun e w'=>e=.returned (.int .i64 (-1))∧Below w.heap.size w w':=by
 have hlt:decide ((65533:Int)<128)=false:=rfl
 go_enter Tryd.func63,Tryd.ntmps63
 go_wp2_with fail
 go_loopg [5,6] 3 (fun g _ _ wx=>∃i:Nat,i+g=3∧wx=w.iter ⟨#[32,40,41]⟩ i)
 case atStart=>exact ⟨0,rfl,rfl⟩
 case round =>
  obtain ⟨i,hig,rfl⟩:=hrel
  cases gk with
  | zero =>
   obtain rfl:i=3:=by omega
   have hnx:=run_next_end (P:=Tryd.prog) w ⟨#[32,40,41]⟩ 3
   go_wp2
   go_ret
   exact ⟨rfl,(Below.refl _ _).alloc (Nat.le_refl _) _⟩
  | succ g =>
   obtain ⟨x,hx,hx128⟩:∃x:UInt8,(⟨#[32,40,41]⟩:ByteArray)[i]'(by show i<3;omega)=x∧x.toNat<128:=by
    rcases (by omega:i=0∨i=1∨i=2) with rfl | rfl | rfl
    ·exact ⟨32,rfl,by decide⟩
    ·exact ⟨40,rfl,by decide⟩
    ·exact ⟨41,rfl,by decide⟩
   have hnx:=fun ty=>run_next_ascii (P:=Tryd.prog) w ⟨#[32,40,41]⟩ i ty (by show i<3;omega) (by rw [hx];exact hx128)
   rw [hx] at hnx
   have hne:((x.toNat:Int) == 65533)=false:=beq_eq_false_iff_ne.2 (by omega)
   clear hx hx128
   go_wp2
   go_roundg g
   case measure=>omega
   case rel=>exact ⟨i+1,by omega,rfl⟩
theorem zpU {r:Int} (h0:128≤r) (w:World):Calls Tryd.prog 63 #[.string ⟨#[32,40,41]⟩,.int .i32 r] w fun e w'=>e=.returned (.int .i64 (-1))∧Below w.heap.size w w':=by
 by_cases he:r=65533
 ·subst he;exact zp0 w
 ·exact zpE (x_ixr h0 he) ⟨rfl,rfl,trivial⟩
theorem zpL (s:ByteArray) (i:Nat) (h:i<s.size):s.get! i=s[i]'h:=by
 show s.data[i]! = s.data[i]
 exact getElem!_pos ..
theorem zpu {s:ByteArray} {i k:Nat} (hno:Lib.NoAny s.data.toList [32,40,41] i) (hk:i+k≤s.size) (hb:∀j,j<k→128≤(s.get! (i+j)).toNat):Lib.NoAny s.data.toList [32,40,41] (i+k):=by
 induction k with
 | zero=>exact hno
 | succ k ih =>
  have h1:=ih (by omega) fun j hj=>hb j (by omega)
  refine h1.succ (x:=s[i+k]'(by omega)) (Lib.data_getElem? s (i+k) (by omega)) ?_
  have:=hb k (by omega)
  rw [zpL s _ (by omega)] at this
  rw [Bool.eq_false_iff]
  intro h
  simp only [List.contains_cons,List.contains_nil,Bool.or_false,Bool.or_eq_true,beq_iff_eq] at h
  rcases h with h | h | h<;>(rw [h] at this;revert this;decide)
theorem zpF (s:ByteArray) (i:Nat) (hi:i<s.size) (hno:Lib.NoAny s.data.toList [32,40,41] i):∃c k:Nat,Utf8.decode s i=(c,k)∧1≤k∧i+k≤s.size ∧
  ((128≤c∧Lib.NoAny s.data.toList [32,40,41] (i+k))∨(c<128∧k=1∧s.data.toList[i]?=some c.toUInt8)):=by
 by_cases h:(s[i]'hi).toNat<128
 ·refine ⟨(s[i]'hi).toNat,1,decode_ascii s i hi h,Nat.le_refl _,hi,.inr ⟨h,rfl,?_⟩⟩
  rw [Lib.data_getElem? s i hi]
  simp
 ·have h2:128≤(s.get! i).toNat:=by rw [zpL s i hi];omega
  obtain ⟨w1,w2,w3,w4,w5⟩:=zpr s i hi h2
  exact ⟨_,_,rfl,w3,w4,.inl ⟨w1,zpu hno w4 w5⟩⟩
theorem zpH (s:ByteArray) (w:World) (h8:s.size≤8):Calls Tryd.prog 49 #[.string s,.string ⟨#[32,40,41]⟩] w fun e w'=>e=.returned (.int .i64 (Lib.indexAny s.data.toList [32,40,41]))∧Below w.heap.size w w':=by
 have h8z:decide ((8:Int)<(s.size:Int))=false:=decide_eq_false (by omega)
 go_enter Tryd.func49,Tryd.ntmps49
 go_wp2_with (go_at_call 64;refine (Tryd.strings_shouldUseASCIISet _ _).mono ?_;rintro e w' ⟨rfl,hw⟩;rw [hw,h8z])
 clear h8z h8
 go_loopg [9,10] s.size (fun g _ _ wx=>∃(i:Nat),Hid (i+g≤s.size∧s.size - i≤g∧Below w.heap.size w wx∧w.heap.size<wx.heap.size∧wx.heap[w.heap.size]?=some (.stringIter s i)∧Lib.NoAny s.data.toList [32,40,41] i))
 case atStart=>exact ⟨0,Lib.hid ⟨by omega,by omega,(Below.refl _ _).alloc (Nat.le_refl _) _,by simp [World.iter],heap_alloc_new _ _,Lib.NoAny.zero _ _⟩⟩
 case round =>
  obtain ⟨i,H⟩:=hrel
  obtain ⟨h1,h2,h3,h4,h5,h6⟩:=H.out
  by_cases hi:i<s.size
  ·obtain ⟨c,k,hd,hk1,hk2,hc⟩:=zpF s i hi h6
   have hnx:=fun ty=>Lib.run_next_any_at (P:=Tryd.prog) wr w.heap.size s i ty h5 hi
   rw [hd] at hnx
   have B2:=Lib.below_iterAt h3 (Nat.le_refl _) s (i+k)
   have S2:=Lib.iterAt_size wr w.heap.size s (i+k)
   have G2:=Lib.iterAt_heap wr w.heap.size s i (i+k) h5
   have step:∀w3:World,Below (wr.iterAt w.heap.size s (i+k)).heap.size (wr.iterAt w.heap.size s (i+k)) w3→Lib.NoAny s.data.toList [32,40,41] (i+k)→Hid (i+k+(s.size - (i+k))≤s.size∧s.size - (i+k)≤s.size - (i+k)∧Below w.heap.size w w3∧w.heap.size<w3.heap.size∧w3.heap[w.heap.size]?=some (.stringIter s (i+k))∧Lib.NoAny s.data.toList [32,40,41] (i+k)):=fun w3 hb hno =>
    Lib.hid ⟨by omega,Nat.le_refl _,B2.trans (hb.mono (by omega)),Nat.lt_of_lt_of_le (by omega) hb.size,(hb.block _ (by omega)).trans G2,hno⟩
   have STEP:=Lib.hid step
   have MS:Hid (s.size - (i+k)<gk):=Lib.hid (by omega)
   obtain ⟨W2,hW2⟩:∃W2,wr.iterAt w.heap.size s (i+k)=W2:=⟨_,rfl⟩
   rw [hW2] at hnx STEP
   have BW2:Hid (Below w.heap.size w W2):=Lib.hid (by rw [← hW2];exact B2)
   rcases hc with ⟨hc,hno⟩ | ⟨hc,rfl,hx⟩
   ·have HN:=Lib.hid hno
    clear hno step B2 S2 G2 hd h1 h2 h3 h4 h5 h6 hi hk1 hk2 hW2
    go_wp2_with (go_at_call 63;go_loud (refine (zpU (by omega) _).mono ?_;rintro e w3 ⟨rfl,hb⟩))
    go_roundg (s.size - (i+k))
    case measure=>exact MS.out
    case rel=>exact ⟨i+k,STEP.out _ hb HN.out⟩
   ·have HX:=Lib.hid hx
    have H6:=Lib.hid h6
    have hback:((c:Int)).toNat.toUInt8=c.toUInt8:=by simp
    have hcon:=Lib.contains_iff_indexByte [32,40,41] c.toUInt8
    obtain ⟨ib,hib⟩:∃ib,Lib.indexByte ([32,40,41]:List UInt8) c.toUInt8=ib:=⟨_,rfl⟩
    have HB:Hid (Lib.indexByte ([32,40,41]:List UInt8) c.toUInt8=ib):=Lib.hid hib
    rw [hib] at hcon
    clear hib
    clear hx step B2 S2 G2 hd h1 h2 h3 h4 h5 h6 hi hk1 hk2 hW2
    cases hin:([32,40,41]:List UInt8).contains c.toUInt8
    ·rw [hin] at hcon
     have hlt:¬ ((0:Int)≤ib):=of_decide_eq_false hcon.symm
     clear hcon
     have HI:=Lib.hid hin
     clear hin
     go_wp2_with (go_at_call 63;go_loud (refine (Tryd.strings_IndexRune_ascii _ _ _ (by omega) (by omega)).mono ?_;rintro e w' ⟨rfl,hw⟩;rw [hw,hback,show (⟨#[32,40,41]⟩:ByteArray).data.toList=[32,40,41] from rfl,HB.out]))
     go_roundg (s.size - (i+1))
     case measure=>exact MS.out
     case rel=>exact ⟨i+1,STEP.out _ (Below.refl _ _) (H6.out.succ HX.out HI.out)⟩
    ·rw [hin] at hcon
     have hge:(0:Int)≤ib:=of_decide_eq_true hcon.symm
     clear hcon
     have HI:=Lib.hid hin
     clear hin
     go_wp2_with (go_at_call 63;go_loud (refine (Tryd.strings_IndexRune_ascii _ _ _ (by omega) (by omega)).mono ?_;rintro e w' ⟨rfl,hw⟩;rw [hw,hback,show (⟨#[32,40,41]⟩:ByteArray).data.toList=[32,40,41] from rfl,HB.out]))
     go_ret
     exact ⟨by rw [Lib.indexAny_hit H6.out HX.out HI.out];rfl,BW2.out⟩
  ·have hnx:=fun ty=>Lib.run_next_end_at (P:=Tryd.prog) wr w.heap.size s i ty h5 hi
   have H6:=Lib.hid h6
   have H3:=Lib.hid h3
   have HE:Hid (i ≥ s.size):=Lib.hid (by omega)
   clear h1 h2 h3 h4 h5 h6 hi
   go_wp2
   go_ret
   exact ⟨by rw [Lib.indexAny_none (fun j b hj hb=>H6.out j b (Nat.lt_of_lt_of_le hj (by rw [← Lib.size_eq];exact HE.out)) hb)];rfl,H3.out⟩
theorem zpM {w0:World} {s:List UInt8} (hl:s.length<4294967281):IxAll w0 s:=by
 refine ⟨hl,fun t ht=>?_⟩
 intro W D vs hs hf
 obtain ⟨v,u,rfl,hv,hu⟩:=oka2 hs
 obtain rfl:v=.string ⟨t.toArray⟩:=hv
 obtain rfl:u=.string ⟨#[32,40,41]⟩:=hu
 have hc:Calls Tryd.prog 49 #[.string ⟨t.toArray⟩,.string ⟨#[32,40,41]⟩] W fun e w'=>e=.returned (.int .i64 (Lib.indexAny t [32,40,41]))∧Below W.heap.size W w':=by
  by_cases h8:t.length≤8
  ·exact zpH ⟨t.toArray⟩ W h8
  ·refine (Tryd.strings_IndexAny_long (fun w=>(Go.zero_of_info (P:=Tryd.prog) (t:=86) (n:=256) (by kernel_rfl)).1 w) ⟨t.toArray⟩ ⟨#[32,40,41]⟩ W (by decide) (by show 8<t.toArray.size;simp;omega) (by show t.toArray.size<_;simpa using Nat.lt_of_le_of_lt ht.length_le hl) (by decide) (fun j b hb=>by
    have:=List.mem_of_getElem? hb
    simp at this
    rcases this with rfl | rfl | rfl<;>decide)).mono fun e w' ⟨h1,h2⟩=>⟨h1,?_⟩
   rw [h2]
   exact ((Below.refl _ _).alloc (Nat.le_refl _) _).alloc (by simp) _
 refine hc.mono fun e W' hr=>?_
 obtain ⟨rfl,hb⟩:=hr
 refine ⟨_,D,rfl,?_,Kept.of hf hb⟩
 show _=Value.int .i64 (idxD t)
 rw [← zbG]
end Go.Proofs.YtdkofaajcpcjkaaDoor
namespace Go.Proofs.YtdkofaajcpcjkaaDoor
open Go.RowKit
theorem zpt {e:Xp} (h:textO e=true):zO e 4=0∧textX e=zJ e:=by
 have h1:zO e 4=0:=eq_of_beq h
 exact ⟨h1,by unfold textX;rw [if_pos h1]⟩
theorem zpp {e:Xp} (h:textO e=true):parO (textX e)=true∧parE (textX e)=e:=by
 obtain ⟨h1,h2⟩:=zpt h
 have:=zhL.2 ⟨h1,h2.symm⟩
 exact ⟨by unfold parO;rw [this];rfl,by unfold parE;rw [this];rfl⟩
theorem zpq {s:List UInt8} (h:parO s=true):textO (parE s)=true∧textX (parE s)=s:=by
 unfold parO at h
 unfold parE
 cases hp:qB s with
 | none=>rw [hp] at h;cases h
 | some e =>
  obtain ⟨h1,h2⟩:=zhL.1 hp
  refine ⟨?_,?_⟩
  ·show textO e=true
   unfold textO;rw [h1];rfl
  ·show textX e=s
   unfold textX;rw [if_pos h1];exact h2
theorem zpn (s:List UInt8):nodes (parE s)≤1000000:=by
 cases h:parO s with
 | true =>
  have h1:=(zpt (zpq h).1).1
  have:=(zat.1 h1).1
  omega
 | false =>
  unfold parO at h
  unfold parE
  cases hp:qB s with
  | none=>show nodes X0≤_;decide +kernel
  | some e=>rw [hp] at h;cases h
theorem zpz {e f:Xp} (he:textO e=true) (hf:textO f=true):(textX f == textX e)=sameX e f:=by
 obtain ⟨h1,h2⟩:=zpt he
 obtain ⟨h3,h4⟩:=zpt hf
 rw [h2,h4,Bool.eq_iff_iff,beq_iff_eq,zj6]
 exact ⟨fun h=>(zpB h3 h1 h).symm,fun h=>by rw [h]⟩
theorem zpA (e:Xp):(textX e).length≤1000:=by
 unfold textX
 split
 ·rename_i h
  obtain ⟨h1,h2⟩:=zat.1 h
  have:=qX h2
  omega
 ·simp
structure bk_B_T where
 jb:Int
def zpi:List Atom:=(.sl 2 (yh 17)::.sl 3 (.o (.c (.p 0 0)))::.sl 4 (.o (.c (.p 1 0)))::.sl 7 (.o (.c (.k (.bool true))))::.sl 13 (.o (.c (.p 5003 0)))::.sl 14 (yh 34)::.sl 15 (yh 35)::.sl 16 (.o (.c (.p 5024 0)))::.sl 17 (yh 43)::.sl 49 (yh 26)::.sl 50 (yh 27)::.sl 51 (yh 28)::.sl 52 (yh 29)::.sl 53 (yh 30)::.sl 54 (.o (.g [.h 31,.h 32,.h 33]))::.sl 56 (.o (.g [.h 31,.h 32,.h 33]))::.sl 58 (yh 34)::.sl 59 (yh 35)::.sl 60 (yh 35)::.sl 61 (.o (.g [.h 31,.h 32,.h 33]))::.sl 62 (yh 36)::.sl 63 (yh 37)::.sl 64 (yh 38)::.sl 65 (yh 35)::.sl 66 (yh 39)::.sl 68 (yh 34)::.sl 70 (.o (.g [.h 40,.h 41,.h 42]))::.sl 71 (yh 43)::.sl 72 (yh 43)::.sl 73 (yh 44)::.sl 74 (yh 44)::.sl 75 (.o (.g [.h 40,.h 41,.h 42]))::.sl 76 (.o (.g [.h 31,.h 32,.h 33]))::.sl 77 (yh 45)::.sl 78 (yh 46)::.sl 79 (yh 46)::.sl 80 (yh 46)::.sl 81 (.o (.g [.h 40,.h 41,.h 42]))::.sl 82 (.o (.g [.h 31,.h 32,.h 33]))::.sl 83 (yh 47)::.sl 84 (yh 48)::.sl 85 (yh 48)::.sl 86 (.o (.g [.h 7,.h 8,.h 9,.h 10,.h 11,.h 12,.h 13]))::.sl 87 (yh 49)::.sl 88 (yh 50)::.sl 89 (yh 51)::.bx 0 26 [.h 0,.h 1,.h 2,.h 3,.h 4,.h 5,.h 6]::.bx 1 26 [.h 7,.h 8,.h 9,.h 10,.h 11,.h 12,.h 13]::.bx 16 31 [.h 18,.h 19,.h 20]::.bx 5003 31 [.h 31,.h 32,.h 33]::.bx 5024 31 [.h 40,.h 41,.h 42]::[]:List Atom)
def zpl:LoopS:=⟨18,(.sl 2 (yh 17)::.sl 3 (.o (.c (.p 0 0)))::.sl 4 (.o (.c (.p 1 0)))::.sl 7 (.o (.c (.k (.bool true))))::.sl 13 (.o (.c (.p 5003 0)))::.sl 14 (yh 34)::.sl 15 (yh 35)::.sl 16 (.o (.c (.p 5024 0)))::.sl 17 (yh 43)::.sl 49 (yh 26)::.sl 50 (yh 27)::.sl 51 (yh 28)::.sl 52 (yh 29)::.sl 53 (yh 30)::.sl 54 (.o (.g [.h 31,.h 32,.h 33]))::.sl 56 (.o (.g [.h 31,.h 32,.h 33]))::.sl 58 (yh 34)::.sl 59 (yh 35)::.sl 60 (yh 35)::.sl 61 (.o (.g [.h 31,.h 32,.h 33]))::.sl 62 (yh 36)::.sl 63 (yh 37)::.sl 64 (yh 38)::.sl 65 (yh 35)::.sl 66 (yh 39)::.sl 68 (yh 34)::.sl 70 (.o (.g [.h 40,.h 41,.h 42]))::.sl 71 (yh 43)::.sl 72 (yh 43)::.sl 73 (yh 44)::.sl 74 (yh 44)::.sl 75 (.o (.g [.h 40,.h 41,.h 42]))::.sl 76 (.o (.g [.h 31,.h 32,.h 33]))::.sl 77 (yh 45)::.sl 78 (yh 46)::.sl 79 (yh 46)::.sl 80 (yh 46)::.sl 81 (.o (.g [.h 40,.h 41,.h 42]))::.sl 82 (.o (.g [.h 31,.h 32,.h 33]))::.sl 83 (yh 47)::.sl 84 (yh 48)::.sl 85 (yh 48)::.sl 86 (.o (.g [.h 7,.h 8,.h 9,.h 10,.h 11,.h 12,.h 13]))::.sl 87 (yh 49)::.sl 88 (yh 50)::.sl 89 (.o (.c (.k (.int .i64 0))))::.bx 0 26 [.h 0,.h 1,.h 2,.h 3,.h 4,.h 5,.h 6]::.bx 1 26 [.h 7,.h 8,.h 9,.h 10,.h 11,.h 12,.h 13]::.bx 16 31 [.h 18,.h 19,.h 20]::.bx 5003 31 [.h 31,.h 32,.h 33]::.bx 5024 31 [.h 40,.h 41,.h 42]::[]:List Atom),(.x 2),(.sl 2 (yh 17)::.sl 3 (.o (.c (.p 0 0)))::.sl 4 (.o (.c (.p 1 0)))::.sl 7 (.o (.c (.k (.bool true))))::.sl 13 (.o (.c (.p 5003 0)))::.sl 14 (yh 34)::.sl 15 (yh 35)::.sl 16 (.o (.c (.p 5024 0)))::.sl 17 (yh 43)::.sl 49 (yh 26)::.sl 50 (yh 27)::.sl 51 (yh 28)::.sl 52 (yh 29)::.sl 53 (yh 30)::.sl 54 (.o (.g [.h 31,.h 32,.h 33]))::.sl 56 (.o (.g [.h 31,.h 32,.h 33]))::.sl 58 (yh 34)::.sl 59 (yh 35)::.sl 60 (yh 35)::.sl 61 (.o (.g [.h 31,.h 32,.h 33]))::.sl 62 (yh 36)::.sl 63 (yh 37)::.sl 64 (yh 38)::.sl 65 (yh 35)::.sl 66 (yh 39)::.sl 68 (yh 34)::.sl 70 (.o (.g [.h 40,.h 41,.h 42]))::.sl 71 (yh 43)::.sl 72 (yh 43)::.sl 73 (yh 44)::.sl 74 (yh 44)::.sl 75 (.o (.g [.h 40,.h 41,.h 42]))::.sl 76 (.o (.g [.h 31,.h 32,.h 33]))::.sl 77 (yh 45)::.sl 78 (yh 46)::.sl 79 (yh 46)::.sl 80 (yh 46)::.sl 81 (.o (.g [.h 40,.h 41,.h 42]))::.sl 82 (.o (.g [.h 31,.h 32,.h 33]))::.sl 83 (yh 47)::.sl 84 (yh 48)::.sl 85 (yh 48)::.sl 86 (.o (.g [.h 7,.h 8,.h 9,.h 10,.h 11,.h 12,.h 13]))::.sl 87 (yh 49)::.sl 88 (yh 50)::.bx 0 26 [.h 0,.h 1,.h 2,.h 3,.h 4,.h 5,.h 6]::.bx 1 26 [.h 7,.h 8,.h 9,.h 10,.h 11,.h 12,.h 13]::.bx 16 31 [.h 18,.h 19,.h 20]::.bx 5003 31 [.h 31,.h 32,.h 33]::.bx 5024 31 [.h 40,.h 41,.h 42]::[]:List Atom)⟩
theorem zpR {w0:World} (hL:LibT w0) (c:(List Int×(Int×Int×Int)×(Int×Int×Int))) (d:(List Int×(Int×Int×Int)×(Int×Int×Int))) (s:(List UInt8)) (v1:Int) (v2:Int) (n3:Nat) (v5:(List UInt8)) (v7:Xp) (v8:Bool) (v11:(List UInt8)) (v12:Bool) (v14:Bool) (v15:Bool) (v101:(List Xp)) (v103:Int) (ja:Int) (v501:Bool) (n503:Nat) (x504:Xp) (v507:(List UInt8)) (v508:Bool) (v510:Int) (v512:Bool) (v513:Bool) (v515:Bool) (v517:Xp) (v518:Bool) (v521:Bool) (v523:Bool) (v525:Bool) (v527:Bool) (v529:Bool) (v531:(List Xp)) (v533:Int) (h502:v501=true) (s514:v513=false) (h516:v515=false) (s522:v521=false) (s526:v525=false) (s530:v529=false) (jb:Int) (v1001:Bool) (n1003:Nat) (x1004:Xp) (v1007:(List UInt8)) (v1008:Bool) (v1011:Bool) (v1012:Bool) (v1014:Bool) (v1016:Int) (e1001:(decide (jb<v533))=v1001) (e1007:(textX x1004)=v1007) (e1008:(textO x1004)=v1008) (e1011:(((v1007:List UInt8) == v507))=v1011) (e1012:(sameX x504 x1004)=v1012) (e1014:(!(v1011 == v1012))=v1014) (e1016:(IntKind.i64.wrap (jb+(1:Int)))=v1016) (h1002:v1001=true) (s1005:jb=(n1003:Int)) (s1006:v531[n1003]?=some x1004) (s1009:nodes x1004≤1000000) (h1010:v1008=true) (s1013:nodes x504≤1000000) (s1015:v1014=false) (jb':Int) (q0:(v1016)=jb') (R:Frm) (hR:R.pm=⟨ntOf Tryd.prog 4,[],[]⟩):Goes (KN w0) Tryd.prog R (lp Tryd.prog 4 1) (FL [pLs cI c.1,pI c.2.1.1,pI c.2.1.2.1,pI c.2.1.2.2,pI c.2.2.1,pI c.2.2.2.1,pI c.2.2.2.2,pLs cI d.1,pI d.2.1.1,pI d.2.1.2.1,pI d.2.1.2.2,pI d.2.2.1,pI d.2.2.2.1,pI d.2.2.2.2,pS s,pI v1,pI v2,pS v5,pI v7.op,pI v7.n,pLs cE v7.l,pB v8,pS v11,pB v12,pB v14,pB v15,pLs cE v101,pI v103,pI ja,pB v501,pP (cE x504),pI x504.op,pI x504.n,pLs cE x504.l,pS v507,pB v508,pI v510,pB v512,pB v513,pB v515,pI v517.op,pI v517.n,pLs cE v517.l,pB v518,pB v521,pB v523,pB v525,pB v527,pB v529,pLs cE v531,pI v533,pI jb] []) zpi .n (FL [pLs cI c.1,pI c.2.1.1,pI c.2.1.2.1,pI c.2.1.2.2,pI c.2.2.1,pI c.2.2.2.1,pI c.2.2.2.2,pLs cI d.1,pI d.2.1.1,pI d.2.1.2.1,pI d.2.1.2.2,pI d.2.2.1,pI d.2.2.2.1,pI d.2.2.2.2,pS s,pI v1,pI v2,pS v5,pI v7.op,pI v7.n,pLs cE v7.l,pB v8,pS v11,pB v12,pB v14,pB v15,pLs cE v101,pI v103,pI ja,pB v501,pP (cE x504),pI x504.op,pI x504.n,pLs cE x504.l,pS v507,pB v508,pI v510,pB v512,pB v513,pB v515,pI v517.op,pI v517.n,pLs cE v517.l,pB v518,pB v521,pB v523,pB v525,pB v527,pB v529,pLs cE v531,pI v533,pI jb'] []) zpi:=
 goes (x:=.n) (y:=.n) (Fb:=FL (pLs cI c.1::pI c.2.1.1::pI c.2.1.2.1::pI c.2.1.2.2::pI c.2.2.1::pI c.2.2.2.1::pI c.2.2.2.2::pLs cI d.1::pI d.2.1.1::pI d.2.1.2.1::pI d.2.1.2.2::pI d.2.2.1::pI d.2.2.2.1::pI d.2.2.2.2::pS s::pI v1::pI v2::pS v5::pI v7.op::pI v7.n::pLs cE v7.l::pB v8::pS v11::pB v12::pB v14::pB v15::pLs cE v101::pI v103::pI ja::pB v501::pP (cE x504)::pI x504.op::pI x504.n::pLs cE x504.l::pS v507::pB v508::pI v510::pB v512::pB v513::pB v515::pI v517.op::pI v517.n::pLs cE v517.l::pB v518::pB v521::pB v523::pB v525::pB v527::pB v529::pLs cE v531::pI v533::pI jb::pB v1001::pP (cE x1004)::pI x1004.op::pI x1004.n::pLs cE x1004.l::pS v1007::pB v1008::pB v1011::pB v1012::pB v1014::pI v1016::[]) []) (stb:=zpi) (tl:=(.sl 2 (yh 17)::.sl 3 (.o (.c (.p 0 0)))::.sl 4 (.o (.c (.p 1 0)))::.sl 7 (.o (.c (.k (.bool true))))::.sl 13 (.o (.c (.p 5003 0)))::.sl 14 (yh 34)::.sl 15 (yh 35)::.sl 16 (.o (.c (.p 5024 0)))::.sl 17 (yh 43)::.sl 49 (yh 26)::.sl 50 (yh 27)::.sl 51 (yh 28)::.sl 52 (yh 29)::.sl 53 (yh 30)::.sl 54 (.o (.g [.h 31,.h 32,.h 33]))::.sl 56 (.o (.g [.h 31,.h 32,.h 33]))::.sl 58 (yh 34)::.sl 59 (yh 35)::.sl 60 (yh 35)::.sl 61 (.o (.g [.h 31,.h 32,.h 33]))::.sl 62 (yh 36)::.sl 63 (yh 37)::.sl 64 (yh 38)::.sl 65 (yh 35)::.sl 66 (yh 39)::.sl 68 (yh 34)::.sl 70 (.o (.g [.h 40,.h 41,.h 42]))::.sl 71 (yh 43)::.sl 72 (yh 43)::.sl 73 (yh 44)::.sl 74 (yh 44)::.sl 75 (.o (.g [.h 40,.h 41,.h 42]))::.sl 76 (.o (.g [.h 31,.h 32,.h 33]))::.sl 77 (yh 45)::.sl 78 (yh 46)::.sl 79 (yh 46)::.sl 80 (yh 46)::.sl 81 (.o (.g [.h 40,.h 41,.h 42]))::.sl 82 (.o (.g [.h 31,.h 32,.h 33]))::.sl 83 (yh 47)::.sl 84 (yh 48)::.sl 85 (yh 48)::.sl 86 (.o (.g [.h 7,.h 8,.h 9,.h 10,.h 11,.h 12,.h 13]))::.sl 87 (yh 49)::.sl 88 (yh 50)::.sl 89 (yh 62)::.bx 0 26 [.h 0,.h 1,.h 2,.h 3,.h 4,.h 5,.h 6]::.bx 1 26 [.h 7,.h 8,.h 9,.h 10,.h 11,.h 12,.h 13]::.bx 16 31 [.h 18,.h 19,.h 20]::.bx 5003 31 [.h 31,.h 32,.h 33]::.bx 5024 31 [.h 40,.h 41,.h 42]::[]:List Atom)) (C:=((10029,.fb 29 true) ::
  (10038,.fb 38 false) ::
  (10039,.fb 39 false) ::
  (10044,.fb 44 false) ::
  (10046,.fb 46 false) ::
  (10048,.fb 48 false) ::
  (1008000,.bin .lss 3 (yh 51) (yh 50) (yh 52)) ::
  (10052,.fb 52 true) ::
  (1008001,.op (.ia 28) [yh 49,yh 51] [] (yh 53)) ::
  (1008002,.op (.ld 31) [yh 53] [] (.o (.g [.h 54,.h 55,.h 56]))) ::
  (1008006,.call ⟨18,[.o (.g [.h 54,.h 55,.h 56])],[],.t [.c (.h 57),.c (.h 58)],[]⟩) ::
  (10058,.fb 58 true) ::
  (1008016,.bin .eql 9 (yh 57) (yh 34) (yh 59)) ::
  (1008019,.call ⟨15,[.o (.g [.h 31,.h 32,.h 33]),.o (.g [.h 54,.h 55,.h 56])],[],yh 60,[]⟩) ::
  (1008020,.bin .neq 4 (yh 59) (yh 60) (yh 61)) ::
  (10061,.fb 61 false) ::
  (1008022,.bin .add 3 (yh 51) (LF (.k (.int .i64 1))) (yh 62)) ::
  []:List (Nat×Ent))) (H:=.no) 8000 (zipA.imp ⟨z_c yy,z_c yy,z_c yy,z_c yy,z_c yy,z_c yy,z_c yy,z_c yy,z_c yy,z_c yy,z_c yy,z_c yy,z_c yy,z_c yy,z_g ⟨yy,yy,yy,trivial⟩,z_g ⟨yy,yy,yy,trivial⟩,z_c yy,z_c yy,z_c yy,z_g ⟨yy,yy,yy,trivial⟩,z_c yy,z_c yy,z_c yy,z_c yy,z_c yy,z_c yy,z_g ⟨yy,yy,yy,trivial⟩,z_c yy,z_c yy,z_c yy,z_c yy,z_g ⟨yy,yy,yy,trivial⟩,z_g ⟨yy,yy,yy,trivial⟩,z_c yy,z_c yy,z_c yy,z_c yy,z_g ⟨yy,yy,yy,trivial⟩,z_g ⟨yy,yy,yy,trivial⟩,z_c yy,z_c yy,z_c yy,z_g ⟨yy,yy,yy,yy,yy,yy,yy,trivial⟩,z_c yy,z_c yy,z_c yy,z_b ⟨yy,yy,yy,yy,yy,yy,yy,trivial⟩,z_b ⟨yy,yy,yy,yy,yy,yy,yy,trivial⟩,z_b ⟨yy,yy,yy,trivial⟩,z_b ⟨yy,yy,yy,trivial⟩,z_b ⟨yy,yy,yy,trivial⟩,trivial⟩) (zg ⟨(ze zj),za,za,za,za,za,za,(ze zj),za,za,za,za,za,za,za,za,za,za,za,za,(ze (zf rfl)),za,za,za,za,za,(ze (zf rfl)),za,za,za,(zo ((zf rfl) _)),za,za,(ze (zf rfl)),za,za,za,za,za,za,za,za,(ze (zf rfl)),za,za,za,za,za,za,(ze (zf rfl)),za,za,za,(zo ((zf rfl) _)),za,za,(ze (zf rfl)),za,za,za,za,za,za,trivial⟩) ⟨e_fbv h502,
  e_fbv s514,
  e_fbv h516,
  e_fbv s522,
  e_fbv s526,
  e_fbv s530,
  e_bin (zb rfl) (zb rfl) (zb rfl) (r_cmp (congrArg some e1001)),
  e_fbv h1002,
  e_iaL (E:=31) (z:=3) zm (by kernel_rfl) (by kernel_rfl) (zc rfl) (zb rfl) s1005 s1006 (zc rfl),
  e_ldG (by kernel_rfl) (by kernel_rfl) (zc rfl) (cE_eq _).symm rfl (zm _),
  zh (zmS hL x1004 v1007 v1008 e1007 e1008 s1009),
  e_fbv h1010,
  e_bin (zb rfl) (zb rfl) (zb rfl) (fun W X Y=>by rw [← e1011];exact r_seq W X Y),
  zh (zlf x504 x1004 v1012 e1012 s1013),
  e_bin (zb rfl) (zb rfl) (zb rfl) (fun W X Y=>by rw [← e1014];exact r_bne (by kernel_rfl) W X Y),
  e_fbv s1015,
  e_bin (zb rfl) zd (zb rfl) (r_ar (congrArg some e1016)),
  trivial⟩ mixed hR trivial (fun _ _ _ hs=>by cases hs) (by kernel_rfl:zD (KN w0) Tryd.prog _ .no ⟨ntOf Tryd.prog 4,[],[]⟩ (lp Tryd.prog 4 1) 8000 zpi .n (.sl 2 (yh 17)::.sl 3 (.o (.c (.p 0 0)))::.sl 4 (.o (.c (.p 1 0)))::.sl 7 (.o (.c (.k (.bool true))))::.sl 13 (.o (.c (.p 5003 0)))::.sl 14 (yh 34)::.sl 15 (yh 35)::.sl 16 (.o (.c (.p 5024 0)))::.sl 17 (yh 43)::.sl 49 (yh 26)::.sl 50 (yh 27)::.sl 51 (yh 28)::.sl 52 (yh 29)::.sl 53 (yh 30)::.sl 54 (.o (.g [.h 31,.h 32,.h 33]))::.sl 56 (.o (.g [.h 31,.h 32,.h 33]))::.sl 58 (yh 34)::.sl 59 (yh 35)::.sl 60 (yh 35)::.sl 61 (.o (.g [.h 31,.h 32,.h 33]))::.sl 62 (yh 36)::.sl 63 (yh 37)::.sl 64 (yh 38)::.sl 65 (yh 35)::.sl 66 (yh 39)::.sl 68 (yh 34)::.sl 70 (.o (.g [.h 40,.h 41,.h 42]))::.sl 71 (yh 43)::.sl 72 (yh 43)::.sl 73 (yh 44)::.sl 74 (yh 44)::.sl 75 (.o (.g [.h 40,.h 41,.h 42]))::.sl 76 (.o (.g [.h 31,.h 32,.h 33]))::.sl 77 (yh 45)::.sl 78 (yh 46)::.sl 79 (yh 46)::.sl 80 (yh 46)::.sl 81 (.o (.g [.h 40,.h 41,.h 42]))::.sl 82 (.o (.g [.h 31,.h 32,.h 33]))::.sl 83 (yh 47)::.sl 84 (yh 48)::.sl 85 (yh 48)::.sl 86 (.o (.g [.h 7,.h 8,.h 9,.h 10,.h 11,.h 12,.h 13]))::.sl 87 (yh 49)::.sl 88 (yh 50)::.sl 89 (yh 62)::.bx 0 26 [.h 0,.h 1,.h 2,.h 3,.h 4,.h 5,.h 6]::.bx 1 26 [.h 7,.h 8,.h 9,.h 10,.h 11,.h 12,.h 13]::.bx 16 31 [.h 18,.h 19,.h 20]::.bx 5003 31 [.h 31,.h 32,.h 33]::.bx 5024 31 [.h 40,.h 41,.h 42]::[]:List Atom)=true) rfl (zipA.imp ⟨z_c yy,z_c yy,z_c yy,z_c yy,z_c yy,z_c yy,z_c yy,z_c yy,z_c yy,z_c yy,z_c yy,z_c yy,z_c yy,z_c yy,z_g ⟨yy,yy,yy,trivial⟩,z_g ⟨yy,yy,yy,trivial⟩,z_c yy,z_c yy,z_c yy,z_g ⟨yy,yy,yy,trivial⟩,z_c yy,z_c yy,z_c yy,z_c yy,z_c yy,z_c yy,z_g ⟨yy,yy,yy,trivial⟩,z_c yy,z_c yy,z_c yy,z_c yy,z_g ⟨yy,yy,yy,trivial⟩,z_g ⟨yy,yy,yy,trivial⟩,z_c yy,z_c yy,z_c yy,z_c yy,z_g ⟨yy,yy,yy,trivial⟩,z_g ⟨yy,yy,yy,trivial⟩,z_c yy,z_c yy,z_c yy,z_g ⟨yy,yy,yy,yy,yy,yy,yy,trivial⟩,z_c yy,z_c yy,z_c (fun β v W h=>(zc rfl β v W).2 (by rw [← q0];exact h)),z_b ⟨yy,yy,yy,yy,yy,yy,yy,trivial⟩,z_b ⟨yy,yy,yy,yy,yy,yy,yy,trivial⟩,z_b ⟨yy,yy,yy,trivial⟩,z_b ⟨yy,yy,yy,trivial⟩,z_b ⟨yy,yy,yy,trivial⟩,trivial⟩)
theorem zpS {w0:World} (hL:LibT w0) (c:(List Int×(Int×Int×Int)×(Int×Int×Int))) (d:(List Int×(Int×Int×Int)×(Int×Int×Int))) (s:(List UInt8)) (v1:Int) (v2:Int) (n3:Nat) (v5:(List UInt8)) (v7:Xp) (v8:Bool) (v11:(List UInt8)) (v12:Bool) (v14:Bool) (v15:Bool) (v101:(List Xp)) (v103:Int) (ja:Int) (v501:Bool) (n503:Nat) (x504:Xp) (v507:(List UInt8)) (v508:Bool) (v510:Int) (v512:Bool) (v513:Bool) (v515:Bool) (v517:Xp) (v518:Bool) (v521:Bool) (v523:Bool) (v525:Bool) (v527:Bool) (v529:Bool) (v531:(List Xp)) (v533:Int) (h502:v501=true) (s514:v513=false) (h516:v515=false) (s522:v521=false) (s526:v525=false) (s530:v529=false) (jb:Int) (v1001:Bool) (n1003:Nat) (x1004:Xp) (v1007:(List UInt8)) (v1008:Bool) (v1011:Int) (e1001:(decide (jb<v533))=v1001) (e1007:(textX x1004)=v1007) (e1008:(textO x1004)=v1008) (e1011:(IntKind.i64.wrap (jb+(1:Int)))=v1011) (h1002:v1001=true) (s1005:jb=(n1003:Int)) (s1006:v531[n1003]?=some x1004) (s1009:nodes x1004≤1000000) (h1010:v1008=false) (jb':Int) (q0:(v1011)=jb') (R:Frm) (hR:R.pm=⟨ntOf Tryd.prog 4,[],[]⟩):Goes (KN w0) Tryd.prog R (lp Tryd.prog 4 1) (FL [pLs cI c.1,pI c.2.1.1,pI c.2.1.2.1,pI c.2.1.2.2,pI c.2.2.1,pI c.2.2.2.1,pI c.2.2.2.2,pLs cI d.1,pI d.2.1.1,pI d.2.1.2.1,pI d.2.1.2.2,pI d.2.2.1,pI d.2.2.2.1,pI d.2.2.2.2,pS s,pI v1,pI v2,pS v5,pI v7.op,pI v7.n,pLs cE v7.l,pB v8,pS v11,pB v12,pB v14,pB v15,pLs cE v101,pI v103,pI ja,pB v501,pP (cE x504),pI x504.op,pI x504.n,pLs cE x504.l,pS v507,pB v508,pI v510,pB v512,pB v513,pB v515,pI v517.op,pI v517.n,pLs cE v517.l,pB v518,pB v521,pB v523,pB v525,pB v527,pB v529,pLs cE v531,pI v533,pI jb] []) zpi .n (FL [pLs cI c.1,pI c.2.1.1,pI c.2.1.2.1,pI c.2.1.2.2,pI c.2.2.1,pI c.2.2.2.1,pI c.2.2.2.2,pLs cI d.1,pI d.2.1.1,pI d.2.1.2.1,pI d.2.1.2.2,pI d.2.2.1,pI d.2.2.2.1,pI d.2.2.2.2,pS s,pI v1,pI v2,pS v5,pI v7.op,pI v7.n,pLs cE v7.l,pB v8,pS v11,pB v12,pB v14,pB v15,pLs cE v101,pI v103,pI ja,pB v501,pP (cE x504),pI x504.op,pI x504.n,pLs cE x504.l,pS v507,pB v508,pI v510,pB v512,pB v513,pB v515,pI v517.op,pI v517.n,pLs cE v517.l,pB v518,pB v521,pB v523,pB v525,pB v527,pB v529,pLs cE v531,pI v533,pI jb'] []) zpi:=
 goes (x:=.n) (y:=.n) (Fb:=FL [pLs cI c.1,pI c.2.1.1,pI c.2.1.2.1,pI c.2.1.2.2,pI c.2.2.1,pI c.2.2.2.1,pI c.2.2.2.2,pLs cI d.1,pI d.2.1.1,pI d.2.1.2.1,pI d.2.1.2.2,pI d.2.2.1,pI d.2.2.2.1,pI d.2.2.2.2,pS s,pI v1,pI v2,pS v5,pI v7.op,pI v7.n,pLs cE v7.l,pB v8,pS v11,pB v12,pB v14,pB v15,pLs cE v101,pI v103,pI ja,pB v501,pP (cE x504),pI x504.op,pI x504.n,pLs cE x504.l,pS v507,pB v508,pI v510,pB v512,pB v513,pB v515,pI v517.op,pI v517.n,pLs cE v517.l,pB v518,pB v521,pB v523,pB v525,pB v527,pB v529,pLs cE v531,pI v533,pI jb,pB v1001,pP (cE x1004),pI x1004.op,pI x1004.n,pLs cE x1004.l,pS v1007,pB v1008,pI v1011] []) (stb:=zpi) (tl:=(.sl 2 (yh 17)::.sl 3 (.o (.c (.p 0 0)))::.sl 4 (.o (.c (.p 1 0)))::.sl 7 (.o (.c (.k (.bool true))))::.sl 13 (.o (.c (.p 5003 0)))::.sl 14 (yh 34)::.sl 15 (yh 35)::.sl 16 (.o (.c (.p 5024 0)))::.sl 17 (yh 43)::.sl 49 (yh 26)::.sl 50 (yh 27)::.sl 51 (yh 28)::.sl 52 (yh 29)::.sl 53 (yh 30)::.sl 54 (.o (.g [.h 31,.h 32,.h 33]))::.sl 56 (.o (.g [.h 31,.h 32,.h 33]))::.sl 58 (yh 34)::.sl 59 (yh 35)::.sl 60 (yh 35)::.sl 61 (.o (.g [.h 31,.h 32,.h 33]))::.sl 62 (yh 36)::.sl 63 (yh 37)::.sl 64 (yh 38)::.sl 65 (yh 35)::.sl 66 (yh 39)::.sl 68 (yh 34)::.sl 70 (.o (.g [.h 40,.h 41,.h 42]))::.sl 71 (yh 43)::.sl 72 (yh 43)::.sl 73 (yh 44)::.sl 74 (yh 44)::.sl 75 (.o (.g [.h 40,.h 41,.h 42]))::.sl 76 (.o (.g [.h 31,.h 32,.h 33]))::.sl 77 (yh 45)::.sl 78 (yh 46)::.sl 79 (yh 46)::.sl 80 (yh 46)::.sl 81 (.o (.g [.h 40,.h 41,.h 42]))::.sl 82 (.o (.g [.h 31,.h 32,.h 33]))::.sl 83 (yh 47)::.sl 84 (yh 48)::.sl 85 (yh 48)::.sl 86 (.o (.g [.h 7,.h 8,.h 9,.h 10,.h 11,.h 12,.h 13]))::.sl 87 (yh 49)::.sl 88 (yh 50)::.sl 89 (yh 59)::.bx 0 26 [.h 0,.h 1,.h 2,.h 3,.h 4,.h 5,.h 6]::.bx 1 26 [.h 7,.h 8,.h 9,.h 10,.h 11,.h 12,.h 13]::.bx 16 31 [.h 18,.h 19,.h 20]::.bx 5003 31 [.h 31,.h 32,.h 33]::.bx 5024 31 [.h 40,.h 41,.h 42]::[]:List Atom)) (C:=((10029,.fb 29 true) ::
  (10038,.fb 38 false) ::
  (10039,.fb 39 false) ::
  (10044,.fb 44 false) ::
  (10046,.fb 46 false) ::
  (10048,.fb 48 false) ::
  (1008000,.bin .lss 3 (yh 51) (yh 50) (yh 52)) ::
  (10052,.fb 52 true) ::
  (1008001,.op (.ia 28) [yh 49,yh 51] [] (yh 53)) ::
  (1008002,.op (.ld 31) [yh 53] [] (.o (.g [.h 54,.h 55,.h 56]))) ::
  (1008006,.call ⟨18,[.o (.g [.h 54,.h 55,.h 56])],[],.t [.c (.h 57),.c (.h 58)],[]⟩) ::
  (10058,.fb 58 false) ::
  (1008022,.bin .add 3 (yh 51) (LF (.k (.int .i64 1))) (yh 59)) ::
  []:List (Nat×Ent))) (H:=.no) 8000 (zipA.imp ⟨z_c yy,z_c yy,z_c yy,z_c yy,z_c yy,z_c yy,z_c yy,z_c yy,z_c yy,z_c yy,z_c yy,z_c yy,z_c yy,z_c yy,z_g ⟨yy,yy,yy,trivial⟩,z_g ⟨yy,yy,yy,trivial⟩,z_c yy,z_c yy,z_c yy,z_g ⟨yy,yy,yy,trivial⟩,z_c yy,z_c yy,z_c yy,z_c yy,z_c yy,z_c yy,z_g ⟨yy,yy,yy,trivial⟩,z_c yy,z_c yy,z_c yy,z_c yy,z_g ⟨yy,yy,yy,trivial⟩,z_g ⟨yy,yy,yy,trivial⟩,z_c yy,z_c yy,z_c yy,z_c yy,z_g ⟨yy,yy,yy,trivial⟩,z_g ⟨yy,yy,yy,trivial⟩,z_c yy,z_c yy,z_c yy,z_g ⟨yy,yy,yy,yy,yy,yy,yy,trivial⟩,z_c yy,z_c yy,z_c yy,z_b ⟨yy,yy,yy,yy,yy,yy,yy,trivial⟩,z_b ⟨yy,yy,yy,yy,yy,yy,yy,trivial⟩,z_b ⟨yy,yy,yy,trivial⟩,z_b ⟨yy,yy,yy,trivial⟩,z_b ⟨yy,yy,yy,trivial⟩,trivial⟩) (zg ⟨(ze zj),za,za,za,za,za,za,(ze zj),za,za,za,za,za,za,za,za,za,za,za,za,(ze (zf rfl)),za,za,za,za,za,(ze (zf rfl)),za,za,za,(zo ((zf rfl) _)),za,za,(ze (zf rfl)),za,za,za,za,za,za,za,za,(ze (zf rfl)),za,za,za,za,za,za,(ze (zf rfl)),za,za,za,(zo ((zf rfl) _)),za,za,(ze (zf rfl)),za,za,za,trivial⟩) ⟨e_fbv h502,
  e_fbv s514,
  e_fbv h516,
  e_fbv s522,
  e_fbv s526,
  e_fbv s530,
  e_bin (zb rfl) (zb rfl) (zb rfl) (r_cmp (congrArg some e1001)),
  e_fbv h1002,
  e_iaL (E:=31) (z:=3) zm (by kernel_rfl) (by kernel_rfl) (zc rfl) (zb rfl) s1005 s1006 (zc rfl),
  e_ldG (by kernel_rfl) (by kernel_rfl) (zc rfl) (cE_eq _).symm rfl (zm _),
  zh (zmS hL x1004 v1007 v1008 e1007 e1008 s1009),
  e_fbv h1010,
  e_bin (zb rfl) zd (zb rfl) (r_ar (congrArg some e1011)),
  trivial⟩ mixed hR trivial (fun _ _ _ hs=>by cases hs) (by kernel_rfl:zD (KN w0) Tryd.prog _ .no ⟨ntOf Tryd.prog 4,[],[]⟩ (lp Tryd.prog 4 1) 8000 zpi .n (.sl 2 (yh 17)::.sl 3 (.o (.c (.p 0 0)))::.sl 4 (.o (.c (.p 1 0)))::.sl 7 (.o (.c (.k (.bool true))))::.sl 13 (.o (.c (.p 5003 0)))::.sl 14 (yh 34)::.sl 15 (yh 35)::.sl 16 (.o (.c (.p 5024 0)))::.sl 17 (yh 43)::.sl 49 (yh 26)::.sl 50 (yh 27)::.sl 51 (yh 28)::.sl 52 (yh 29)::.sl 53 (yh 30)::.sl 54 (.o (.g [.h 31,.h 32,.h 33]))::.sl 56 (.o (.g [.h 31,.h 32,.h 33]))::.sl 58 (yh 34)::.sl 59 (yh 35)::.sl 60 (yh 35)::.sl 61 (.o (.g [.h 31,.h 32,.h 33]))::.sl 62 (yh 36)::.sl 63 (yh 37)::.sl 64 (yh 38)::.sl 65 (yh 35)::.sl 66 (yh 39)::.sl 68 (yh 34)::.sl 70 (.o (.g [.h 40,.h 41,.h 42]))::.sl 71 (yh 43)::.sl 72 (yh 43)::.sl 73 (yh 44)::.sl 74 (yh 44)::.sl 75 (.o (.g [.h 40,.h 41,.h 42]))::.sl 76 (.o (.g [.h 31,.h 32,.h 33]))::.sl 77 (yh 45)::.sl 78 (yh 46)::.sl 79 (yh 46)::.sl 80 (yh 46)::.sl 81 (.o (.g [.h 40,.h 41,.h 42]))::.sl 82 (.o (.g [.h 31,.h 32,.h 33]))::.sl 83 (yh 47)::.sl 84 (yh 48)::.sl 85 (yh 48)::.sl 86 (.o (.g [.h 7,.h 8,.h 9,.h 10,.h 11,.h 12,.h 13]))::.sl 87 (yh 49)::.sl 88 (yh 50)::.sl 89 (yh 59)::.bx 0 26 [.h 0,.h 1,.h 2,.h 3,.h 4,.h 5,.h 6]::.bx 1 26 [.h 7,.h 8,.h 9,.h 10,.h 11,.h 12,.h 13]::.bx 16 31 [.h 18,.h 19,.h 20]::.bx 5003 31 [.h 31,.h 32,.h 33]::.bx 5024 31 [.h 40,.h 41,.h 42]::[]:List Atom)=true) rfl (zipA.imp ⟨z_c yy,z_c yy,z_c yy,z_c yy,z_c yy,z_c yy,z_c yy,z_c yy,z_c yy,z_c yy,z_c yy,z_c yy,z_c yy,z_c yy,z_g ⟨yy,yy,yy,trivial⟩,z_g ⟨yy,yy,yy,trivial⟩,z_c yy,z_c yy,z_c yy,z_g ⟨yy,yy,yy,trivial⟩,z_c yy,z_c yy,z_c yy,z_c yy,z_c yy,z_c yy,z_g ⟨yy,yy,yy,trivial⟩,z_c yy,z_c yy,z_c yy,z_c yy,z_g ⟨yy,yy,yy,trivial⟩,z_g ⟨yy,yy,yy,trivial⟩,z_c yy,z_c yy,z_c yy,z_c yy,z_g ⟨yy,yy,yy,trivial⟩,z_g ⟨yy,yy,yy,trivial⟩,z_c yy,z_c yy,z_c yy,z_g ⟨yy,yy,yy,yy,yy,yy,yy,trivial⟩,z_c yy,z_c yy,z_c (fun β v W h=>(zc rfl β v W).2 (by rw [← q0];exact h)),z_b ⟨yy,yy,yy,yy,yy,yy,yy,trivial⟩,z_b ⟨yy,yy,yy,yy,yy,yy,yy,trivial⟩,z_b ⟨yy,yy,yy,trivial⟩,z_b ⟨yy,yy,yy,trivial⟩,z_b ⟨yy,yy,yy,trivial⟩,trivial⟩)
theorem zpT {w0:World} (hL:LibT w0) (c:(List Int×(Int×Int×Int)×(Int×Int×Int))) (d:(List Int×(Int×Int×Int)×(Int×Int×Int))) (s:(List UInt8)) (v1:Int) (v2:Int) (n3:Nat) (v5:(List UInt8)) (v7:Xp) (v8:Bool) (v11:(List UInt8)) (v12:Bool) (v14:Bool) (v15:Bool) (v101:(List Xp)) (v103:Int) (ja:Int) (v501:Bool) (n503:Nat) (x504:Xp) (v507:(List UInt8)) (v508:Bool) (v510:Int) (v512:Bool) (v513:Bool) (v515:Bool) (v517:Xp) (v518:Bool) (v521:Bool) (v523:Bool) (v525:Bool) (v527:Bool) (v529:Bool) (v531:(List Xp)) (v533:Int) (h502:v501=true) (s514:v513=false) (h516:v515=false) (s522:v521=false) (s526:v525=false) (s530:v529=false) (jb:Int) (v1001:Bool) (e1001:(decide (jb<v533))=v1001) (h1002:v1001=false) (F:Fact) (u0:F.c 0=pLs cI c.1) (u1:F.c 1=pI c.2.1.1) (u2:F.c 2=pI c.2.1.2.1) (u3:F.c 3=pI c.2.1.2.2) (u4:F.c 4=pI c.2.2.1) (u5:F.c 5=pI c.2.2.2.1) (u6:F.c 6=pI c.2.2.2.2) (u7:F.c 7=pLs cI d.1) (u8:F.c 8=pI d.2.1.1) (u9:F.c 9=pI d.2.1.2.1) (u10:F.c 10=pI d.2.1.2.2) (u11:F.c 11=pI d.2.2.1) (u12:F.c 12=pI d.2.2.2.1) (u13:F.c 13=pI d.2.2.2.2) (u17:F.c 17=pS v5) (u18:F.c 18=pI v7.op) (u19:F.c 19=pI v7.n) (u20:F.c 20=pLs cE v7.l) (u26:F.c 26=pLs cE v101) (u27:F.c 27=pI v103) (u28:F.c 28=pI ja) (u29:F.c 29=pB v501) (u30:F.c 30=pP (cE x504)) (u31:F.c 31=pI x504.op) (u32:F.c 32=pI x504.n) (u33:F.c 33=pLs cE x504.l) (u34:F.c 34=pS v507) (u35:F.c 35=pB v508) (u36:F.c 36=pI v510) (u37:F.c 37=pB v512) (u38:F.c 38=pB v513) (u39:F.c 39=pB v515) (u40:F.c 40=pI v517.op) (u41:F.c 41=pI v517.n) (u42:F.c 42=pLs cE v517.l) (u43:F.c 43=pB v518) (u44:F.c 44=pB v521) (u45:F.c 45=pB v523) (u46:F.c 46=pB v525) (u47:F.c 47=pB v527) (u48:F.c 48=pB v529) (u49:F.c 49=pLs cE v531) (u50:F.c 50=pI v533) (R:Frm) (hR:R.pm=⟨ntOf Tryd.prog 4,[],[]⟩):Goes (KN w0) Tryd.prog R (lp Tryd.prog 4 1) (FL [pLs cI c.1,pI c.2.1.1,pI c.2.1.2.1,pI c.2.1.2.2,pI c.2.2.1,pI c.2.2.2.1,pI c.2.2.2.2,pLs cI d.1,pI d.2.1.1,pI d.2.1.2.1,pI d.2.1.2.2,pI d.2.2.1,pI d.2.2.2.1,pI d.2.2.2.2,pS s,pI v1,pI v2,pS v5,pI v7.op,pI v7.n,pLs cE v7.l,pB v8,pS v11,pB v12,pB v14,pB v15,pLs cE v101,pI v103,pI ja,pB v501,pP (cE x504),pI x504.op,pI x504.n,pLs cE x504.l,pS v507,pB v508,pI v510,pB v512,pB v513,pB v515,pI v517.op,pI v517.n,pLs cE v517.l,pB v518,pB v521,pB v523,pB v525,pB v527,pB v529,pLs cE v531,pI v533,pI jb] []) zpi (.x 2) F zpl.out:=
 goes (x:=(.x 2)) (y:=(.x 2)) (Fb:=FL [pLs cI c.1,pI c.2.1.1,pI c.2.1.2.1,pI c.2.1.2.2,pI c.2.2.1,pI c.2.2.2.1,pI c.2.2.2.2,pLs cI d.1,pI d.2.1.1,pI d.2.1.2.1,pI d.2.1.2.2,pI d.2.2.1,pI d.2.2.2.1,pI d.2.2.2.2,pS s,pI v1,pI v2,pS v5,pI v7.op,pI v7.n,pLs cE v7.l,pB v8,pS v11,pB v12,pB v14,pB v15,pLs cE v101,pI v103,pI ja,pB v501,pP (cE x504),pI x504.op,pI x504.n,pLs cE x504.l,pS v507,pB v508,pI v510,pB v512,pB v513,pB v515,pI v517.op,pI v517.n,pLs cE v517.l,pB v518,pB v521,pB v523,pB v525,pB v527,pB v529,pLs cE v531,pI v533,pI jb,pB v1001] []) (stb:=zpi) (tl:=(.sl 2 (yh 17)::.sl 3 (.o (.c (.p 0 0)))::.sl 4 (.o (.c (.p 1 0)))::.sl 7 (.o (.c (.k (.bool true))))::.sl 13 (.o (.c (.p 5003 0)))::.sl 14 (yh 34)::.sl 15 (yh 35)::.sl 16 (.o (.c (.p 5024 0)))::.sl 17 (yh 43)::.sl 49 (yh 26)::.sl 50 (yh 27)::.sl 51 (yh 28)::.sl 52 (yh 29)::.sl 53 (yh 30)::.sl 54 (.o (.g [.h 31,.h 32,.h 33]))::.sl 56 (.o (.g [.h 31,.h 32,.h 33]))::.sl 58 (yh 34)::.sl 59 (yh 35)::.sl 60 (yh 35)::.sl 61 (.o (.g [.h 31,.h 32,.h 33]))::.sl 62 (yh 36)::.sl 63 (yh 37)::.sl 64 (yh 38)::.sl 65 (yh 35)::.sl 66 (yh 39)::.sl 68 (yh 34)::.sl 70 (.o (.g [.h 40,.h 41,.h 42]))::.sl 71 (yh 43)::.sl 72 (yh 43)::.sl 73 (yh 44)::.sl 74 (yh 44)::.sl 75 (.o (.g [.h 40,.h 41,.h 42]))::.sl 76 (.o (.g [.h 31,.h 32,.h 33]))::.sl 77 (yh 45)::.sl 78 (yh 46)::.sl 79 (yh 46)::.sl 80 (yh 46)::.sl 81 (.o (.g [.h 40,.h 41,.h 42]))::.sl 82 (.o (.g [.h 31,.h 32,.h 33]))::.sl 83 (yh 47)::.sl 84 (yh 48)::.sl 85 (yh 48)::.sl 86 (.o (.g [.h 7,.h 8,.h 9,.h 10,.h 11,.h 12,.h 13]))::.sl 87 (yh 49)::.sl 88 (yh 50)::.bx 0 26 [.h 0,.h 1,.h 2,.h 3,.h 4,.h 5,.h 6]::.bx 1 26 [.h 7,.h 8,.h 9,.h 10,.h 11,.h 12,.h 13]::.bx 16 31 [.h 18,.h 19,.h 20]::.bx 5003 31 [.h 31,.h 32,.h 33]::.bx 5024 31 [.h 40,.h 41,.h 42]::[]:List Atom)) (C:=((10029,.fb 29 true) ::
  (10038,.fb 38 false) ::
  (10039,.fb 39 false) ::
  (10044,.fb 44 false) ::
  (10046,.fb 46 false) ::
  (10048,.fb 48 false) ::
  (1008000,.bin .lss 3 (yh 51) (yh 50) (yh 52)) ::
  (10052,.fb 52 false) ::
  []:List (Nat×Ent))) (H:=.no) 8000 (zipA.imp ⟨z_c yy,z_c yy,z_c yy,z_c yy,z_c yy,z_c yy,z_c yy,z_c yy,z_c yy,z_c yy,z_c yy,z_c yy,z_c yy,z_c yy,z_g ⟨yy,yy,yy,trivial⟩,z_g ⟨yy,yy,yy,trivial⟩,z_c yy,z_c yy,z_c yy,z_g ⟨yy,yy,yy,trivial⟩,z_c yy,z_c yy,z_c yy,z_c yy,z_c yy,z_c yy,z_g ⟨yy,yy,yy,trivial⟩,z_c yy,z_c yy,z_c yy,z_c yy,z_g ⟨yy,yy,yy,trivial⟩,z_g ⟨yy,yy,yy,trivial⟩,z_c yy,z_c yy,z_c yy,z_c yy,z_g ⟨yy,yy,yy,trivial⟩,z_g ⟨yy,yy,yy,trivial⟩,z_c yy,z_c yy,z_c yy,z_g ⟨yy,yy,yy,yy,yy,yy,yy,trivial⟩,z_c yy,z_c yy,z_c yy,z_b ⟨yy,yy,yy,yy,yy,yy,yy,trivial⟩,z_b ⟨yy,yy,yy,yy,yy,yy,yy,trivial⟩,z_b ⟨yy,yy,yy,trivial⟩,z_b ⟨yy,yy,yy,trivial⟩,z_b ⟨yy,yy,yy,trivial⟩,trivial⟩) (zg ⟨(ze zj),za,za,za,za,za,za,(ze zj),za,za,za,za,za,za,za,za,za,za,za,za,(ze (zf rfl)),za,za,za,za,za,(ze (zf rfl)),za,za,za,(zo ((zf rfl) _)),za,za,(ze (zf rfl)),za,za,za,za,za,za,za,za,(ze (zf rfl)),za,za,za,za,za,za,(ze (zf rfl)),za,za,za,trivial⟩) ⟨e_fbv h502,
  e_fbv s514,
  e_fbv h516,
  e_fbv s522,
  e_fbv s526,
  e_fbv s530,
  e_bin (zb rfl) (zb rfl) (zb rfl) (r_cmp (congrArg some e1001)),
  e_fbv h1002,
  trivial⟩ mixed hR trivial (fun _ _ _ hs=>by cases hs) (by kernel_rfl:zD (KN w0) Tryd.prog _ .no ⟨ntOf Tryd.prog 4,[],[]⟩ (lp Tryd.prog 4 1) 8000 zpi (.x 2) (.sl 2 (yh 17)::.sl 3 (.o (.c (.p 0 0)))::.sl 4 (.o (.c (.p 1 0)))::.sl 7 (.o (.c (.k (.bool true))))::.sl 13 (.o (.c (.p 5003 0)))::.sl 14 (yh 34)::.sl 15 (yh 35)::.sl 16 (.o (.c (.p 5024 0)))::.sl 17 (yh 43)::.sl 49 (yh 26)::.sl 50 (yh 27)::.sl 51 (yh 28)::.sl 52 (yh 29)::.sl 53 (yh 30)::.sl 54 (.o (.g [.h 31,.h 32,.h 33]))::.sl 56 (.o (.g [.h 31,.h 32,.h 33]))::.sl 58 (yh 34)::.sl 59 (yh 35)::.sl 60 (yh 35)::.sl 61 (.o (.g [.h 31,.h 32,.h 33]))::.sl 62 (yh 36)::.sl 63 (yh 37)::.sl 64 (yh 38)::.sl 65 (yh 35)::.sl 66 (yh 39)::.sl 68 (yh 34)::.sl 70 (.o (.g [.h 40,.h 41,.h 42]))::.sl 71 (yh 43)::.sl 72 (yh 43)::.sl 73 (yh 44)::.sl 74 (yh 44)::.sl 75 (.o (.g [.h 40,.h 41,.h 42]))::.sl 76 (.o (.g [.h 31,.h 32,.h 33]))::.sl 77 (yh 45)::.sl 78 (yh 46)::.sl 79 (yh 46)::.sl 80 (yh 46)::.sl 81 (.o (.g [.h 40,.h 41,.h 42]))::.sl 82 (.o (.g [.h 31,.h 32,.h 33]))::.sl 83 (yh 47)::.sl 84 (yh 48)::.sl 85 (yh 48)::.sl 86 (.o (.g [.h 7,.h 8,.h 9,.h 10,.h 11,.h 12,.h 13]))::.sl 87 (yh 49)::.sl 88 (yh 50)::.bx 0 26 [.h 0,.h 1,.h 2,.h 3,.h 4,.h 5,.h 6]::.bx 1 26 [.h 7,.h 8,.h 9,.h 10,.h 11,.h 12,.h 13]::.bx 16 31 [.h 18,.h 19,.h 20]::.bx 5003 31 [.h 31,.h 32,.h 33]::.bx 5024 31 [.h 40,.h 41,.h 42]::[]:List Atom)=true) rfl (zipA.imp ⟨z_c (fun β v W h=>(zc u17 β v W).2 h),z_c yy,z_c yy,z_c yy,z_c yy,z_c (fun β v W h=>(zc u34 β v W).2 h),z_c (fun β v W h=>(zc u35 β v W).2 h),z_c yy,z_c (fun β v W h=>(zc u43 β v W).2 h),z_c (fun β v W h=>(zc u26 β v W).2 h),z_c (fun β v W h=>(zc u27 β v W).2 h),z_c (fun β v W h=>(zc u28 β v W).2 h),z_c (fun β v W h=>(zc u29 β v W).2 h),z_c (fun β v W h=>(zc u30 β v W).2 h),z_g ⟨fun β v W h=>(zc u31 β v W).2 h,fun β v W h=>(zc u32 β v W).2 h,fun β v W h=>(zc u33 β v W).2 h,trivial⟩,z_g ⟨fun β v W h=>(zc u31 β v W).2 h,fun β v W h=>(zc u32 β v W).2 h,fun β v W h=>(zc u33 β v W).2 h,trivial⟩,z_c (fun β v W h=>(zc u34 β v W).2 h),z_c (fun β v W h=>(zc u35 β v W).2 h),z_c (fun β v W h=>(zc u35 β v W).2 h),z_g ⟨fun β v W h=>(zc u31 β v W).2 h,fun β v W h=>(zc u32 β v W).2 h,fun β v W h=>(zc u33 β v W).2 h,trivial⟩,z_c (fun β v W h=>(zc u36 β v W).2 h),z_c (fun β v W h=>(zc u37 β v W).2 h),z_c (fun β v W h=>(zc u38 β v W).2 h),z_c (fun β v W h=>(zc u35 β v W).2 h),z_c (fun β v W h=>(zc u39 β v W).2 h),z_c (fun β v W h=>(zc u34 β v W).2 h),z_g ⟨fun β v W h=>(zc u40 β v W).2 h,fun β v W h=>(zc u41 β v W).2 h,fun β v W h=>(zc u42 β v W).2 h,trivial⟩,z_c (fun β v W h=>(zc u43 β v W).2 h),z_c (fun β v W h=>(zc u43 β v W).2 h),z_c (fun β v W h=>(zc u44 β v W).2 h),z_c (fun β v W h=>(zc u44 β v W).2 h),z_g ⟨fun β v W h=>(zc u40 β v W).2 h,fun β v W h=>(zc u41 β v W).2 h,fun β v W h=>(zc u42 β v W).2 h,trivial⟩,z_g ⟨fun β v W h=>(zc u31 β v W).2 h,fun β v W h=>(zc u32 β v W).2 h,fun β v W h=>(zc u33 β v W).2 h,trivial⟩,z_c (fun β v W h=>(zc u45 β v W).2 h),z_c (fun β v W h=>(zc u46 β v W).2 h),z_c (fun β v W h=>(zc u46 β v W).2 h),z_c (fun β v W h=>(zc u46 β v W).2 h),z_g ⟨fun β v W h=>(zc u40 β v W).2 h,fun β v W h=>(zc u41 β v W).2 h,fun β v W h=>(zc u42 β v W).2 h,trivial⟩,z_g ⟨fun β v W h=>(zc u31 β v W).2 h,fun β v W h=>(zc u32 β v W).2 h,fun β v W h=>(zc u33 β v W).2 h,trivial⟩,z_c (fun β v W h=>(zc u47 β v W).2 h),z_c (fun β v W h=>(zc u48 β v W).2 h),z_c (fun β v W h=>(zc u48 β v W).2 h),z_g ⟨fun β v W h=>(zc u7 β v W).2 h,fun β v W h=>(zc u8 β v W).2 h,fun β v W h=>(zc u9 β v W).2 h,fun β v W h=>(zc u10 β v W).2 h,fun β v W h=>(zc u11 β v W).2 h,fun β v W h=>(zc u12 β v W).2 h,fun β v W h=>(zc u13 β v W).2 h,trivial⟩,z_c (fun β v W h=>(zc u49 β v W).2 h),z_c (fun β v W h=>(zc u50 β v W).2 h),z_b ⟨fun β v W h=>(zc u0 β v W).2 h,fun β v W h=>(zc u1 β v W).2 h,fun β v W h=>(zc u2 β v W).2 h,fun β v W h=>(zc u3 β v W).2 h,fun β v W h=>(zc u4 β v W).2 h,fun β v W h=>(zc u5 β v W).2 h,fun β v W h=>(zc u6 β v W).2 h,trivial⟩,z_b ⟨fun β v W h=>(zc u7 β v W).2 h,fun β v W h=>(zc u8 β v W).2 h,fun β v W h=>(zc u9 β v W).2 h,fun β v W h=>(zc u10 β v W).2 h,fun β v W h=>(zc u11 β v W).2 h,fun β v W h=>(zc u12 β v W).2 h,fun β v W h=>(zc u13 β v W).2 h,trivial⟩,z_b ⟨fun β v W h=>(zc u18 β v W).2 h,fun β v W h=>(zc u19 β v W).2 h,fun β v W h=>(zc u20 β v W).2 h,trivial⟩,z_b ⟨fun β v W h=>(zc u31 β v W).2 h,fun β v W h=>(zc u32 β v W).2 h,fun β v W h=>(zc u33 β v W).2 h,trivial⟩,z_b ⟨fun β v W h=>(zc u40 β v W).2 h,fun β v W h=>(zc u41 β v W).2 h,fun β v W h=>(zc u42 β v W).2 h,trivial⟩,trivial⟩)
def zpZ (c:(List Int×(Int×Int×Int)×(Int×Int×Int))) (d:(List Int×(Int×Int×Int)×(Int×Int×Int))) (s:(List UInt8)) (v1:Int) (v2:Int) (n3:Nat) (v5:(List UInt8)) (v7:Xp) (v8:Bool) (v11:(List UInt8)) (v12:Bool) (v14:Bool) (v15:Bool) (v101:(List Xp)) (v103:Int) (ja:Int) (v501:Bool) (n503:Nat) (x504:Xp) (v507:(List UInt8)) (v508:Bool) (v510:Int) (v512:Bool) (v513:Bool) (v515:Bool) (v517:Xp) (v518:Bool) (v521:Bool) (v523:Bool) (v525:Bool) (v527:Bool) (v529:Bool) (v531:(List Xp)) (v533:Int) (t:bk_B_T):Prop:=(∃(v1001:Bool),((decide (t.jb<v533))=v1001)∧(v1001=false)∧True)
def zpY (c:(List Int×(Int×Int×Int)×(Int×Int×Int))) (d:(List Int×(Int×Int×Int)×(Int×Int×Int))) (s:(List UInt8)) (v1:Int) (v2:Int) (n3:Nat) (v5:(List UInt8)) (v7:Xp) (v8:Bool) (v11:(List UInt8)) (v12:Bool) (v14:Bool) (v15:Bool) (v101:(List Xp)) (v103:Int) (ja:Int) (v501:Bool) (n503:Nat) (x504:Xp) (v507:(List UInt8)) (v508:Bool) (v510:Int) (v512:Bool) (v513:Bool) (v515:Bool) (v517:Xp) (v518:Bool) (v521:Bool) (v523:Bool) (v525:Bool) (v527:Bool) (v529:Bool) (v531:(List Xp)) (v533:Int) (t t':bk_B_T):Prop:=(∃(v1001:Bool),∃(n1003:Nat),∃(x1004:Xp),∃(v1007:(List UInt8)),∃(v1008:Bool),∃(v1011:Bool),∃(v1012:Bool),∃(v1014:Bool),∃(v1016:Int),((decide (t.jb<v533))=v1001)∧((textX x1004)=v1007)∧((textO x1004)=v1008)∧((((v1007:List UInt8) == v507))=v1011)∧((sameX x504 x1004)=v1012)∧((!(v1011 == v1012))=v1014)∧((IntKind.i64.wrap (t.jb+(1:Int)))=v1016)∧(v1001=true)∧(t.jb=(n1003:Int))∧(v531[n1003]?=some x1004)∧(nodes x1004≤1000000)∧(v1008=true)∧(nodes x504≤1000000)∧(v1014=false)∧((v1016)=t'.jb)∧True)∨(∃(v1001:Bool),∃(n1003:Nat),∃(x1004:Xp),∃(v1007:(List UInt8)),∃(v1008:Bool),∃(v1011:Int),((decide (t.jb<v533))=v1001)∧((textX x1004)=v1007)∧((textO x1004)=v1008)∧((IntKind.i64.wrap (t.jb+(1:Int)))=v1011)∧(v1001=true)∧(t.jb=(n1003:Int))∧(v531[n1003]?=some x1004)∧(nodes x1004≤1000000)∧(v1008=false)∧((v1011)=t'.jb)∧True)
theorem zpy {w0:World} (hL:LibT w0) (c:(List Int×(Int×Int×Int)×(Int×Int×Int))) (d:(List Int×(Int×Int×Int)×(Int×Int×Int))) (s:(List UInt8)) (v1:Int) (v2:Int) (n3:Nat) (v5:(List UInt8)) (v7:Xp) (v8:Bool) (v11:(List UInt8)) (v12:Bool) (v14:Bool) (v15:Bool) (v101:(List Xp)) (v103:Int) (ja:Int) (v501:Bool) (n503:Nat) (x504:Xp) (v507:(List UInt8)) (v508:Bool) (v510:Int) (v512:Bool) (v513:Bool) (v515:Bool) (v517:Xp) (v518:Bool) (v521:Bool) (v523:Bool) (v525:Bool) (v527:Bool) (v529:Bool) (v531:(List Xp)) (v533:Int) (h502:v501=true) (s514:v513=false) (h516:v515=false) (s522:v521=false) (s526:v525=false) (s530:v529=false) {F:Fact} (u0:F.c 0=pLs cI c.1) (u1:F.c 1=pI c.2.1.1) (u2:F.c 2=pI c.2.1.2.1) (u3:F.c 3=pI c.2.1.2.2) (u4:F.c 4=pI c.2.2.1) (u5:F.c 5=pI c.2.2.2.1) (u6:F.c 6=pI c.2.2.2.2) (u7:F.c 7=pLs cI d.1) (u8:F.c 8=pI d.2.1.1) (u9:F.c 9=pI d.2.1.2.1) (u10:F.c 10=pI d.2.1.2.2) (u11:F.c 11=pI d.2.2.1) (u12:F.c 12=pI d.2.2.2.1) (u13:F.c 13=pI d.2.2.2.2) (u17:F.c 17=pS v5) (u18:F.c 18=pI v7.op) (u19:F.c 19=pI v7.n) (u20:F.c 20=pLs cE v7.l) (u26:F.c 26=pLs cE v101) (u27:F.c 27=pI v103) (u28:F.c 28=pI ja) (u29:F.c 29=pB v501) (u30:F.c 30=pP (cE x504)) (u31:F.c 31=pI x504.op) (u32:F.c 32=pI x504.n) (u33:F.c 33=pLs cE x504.l) (u34:F.c 34=pS v507) (u35:F.c 35=pB v508) (u36:F.c 36=pI v510) (u37:F.c 37=pB v512) (u38:F.c 38=pB v513) (u39:F.c 39=pB v515) (u40:F.c 40=pI v517.op) (u41:F.c 41=pI v517.n) (u42:F.c 42=pLs cE v517.l) (u43:F.c 43=pB v518) (u44:F.c 44=pB v521) (u45:F.c 45=pB v523) (u46:F.c 46=pB v525) (u47:F.c 47=pB v527) (u48:F.c 48=pB v529) (u49:F.c 49=pLs cE v531) (u50:F.c 50=pI v533) (R:Frm) (hR:R.pm=⟨ntOf Tryd.prog 4,[],[]⟩) (J:bk_B_T→Prop) (m:bk_B_T→Nat) (hJ:J { jb:=(0:Int) }) (rounds:∀t,J t→zpZ c d s v1 v2 n3 v5 v7 v8 v11 v12 v14 v15 v101 v103 ja v501 n503 x504 v507 v508 v510 v512 v513 v515 v517 v518 v521 v523 v525 v527 v529 v531 v533 t ∨∃t',zpY c d s v1 v2 n3 v5 v7 v8 v11 v12 v14 v15 v101 v103 ja v501 n503 x504 v507 v508 v510 v512 v513 v515 v517 v518 v521 v523 v525 v527 v529 v531 v533 t t'∧m t'<m t∧J t'):zl (KN w0) Tryd.prog F R zpl (lp Tryd.prog 4 1):=by
 refine zB (T:=bk_B_T) (fun t=>FL [pLs cI c.1,pI c.2.1.1,pI c.2.1.2.1,pI c.2.1.2.2,pI c.2.2.1,pI c.2.2.2.1,pI c.2.2.2.2,pLs cI d.1,pI d.2.1.1,pI d.2.1.2.1,pI d.2.1.2.2,pI d.2.2.1,pI d.2.2.2.1,pI d.2.2.2.2,pS s,pI v1,pI v2,pS v5,pI v7.op,pI v7.n,pLs cE v7.l,pB v8,pS v11,pB v12,pB v14,pB v15,pLs cE v101,pI v103,pI ja,pB v501,pP (cE x504),pI x504.op,pI x504.n,pLs cE x504.l,pS v507,pB v508,pI v510,pB v512,pB v513,pB v515,pI v517.op,pI v517.n,pLs cE v517.l,pB v518,pB v521,pB v523,pB v525,pB v527,pB v529,pLs cE v531,pI v533,pI t.jb] []) J m { jb:=(0:Int) } zpi hJ (zipA.imp ⟨z_c (fun β v W h=>(zc u17 β v W).1 h),z_c yy,z_c yy,z_c yy,z_c yy,z_c (fun β v W h=>(zc u34 β v W).1 h),z_c (fun β v W h=>(zc u35 β v W).1 h),z_c yy,z_c (fun β v W h=>(zc u43 β v W).1 h),z_c (fun β v W h=>(zc u26 β v W).1 h),z_c (fun β v W h=>(zc u27 β v W).1 h),z_c (fun β v W h=>(zc u28 β v W).1 h),z_c (fun β v W h=>(zc u29 β v W).1 h),z_c (fun β v W h=>(zc u30 β v W).1 h),z_g ⟨fun β v W h=>(zc u31 β v W).1 h,fun β v W h=>(zc u32 β v W).1 h,fun β v W h=>(zc u33 β v W).1 h,trivial⟩,z_g ⟨fun β v W h=>(zc u31 β v W).1 h,fun β v W h=>(zc u32 β v W).1 h,fun β v W h=>(zc u33 β v W).1 h,trivial⟩,z_c (fun β v W h=>(zc u34 β v W).1 h),z_c (fun β v W h=>(zc u35 β v W).1 h),z_c (fun β v W h=>(zc u35 β v W).1 h),z_g ⟨fun β v W h=>(zc u31 β v W).1 h,fun β v W h=>(zc u32 β v W).1 h,fun β v W h=>(zc u33 β v W).1 h,trivial⟩,z_c (fun β v W h=>(zc u36 β v W).1 h),z_c (fun β v W h=>(zc u37 β v W).1 h),z_c (fun β v W h=>(zc u38 β v W).1 h),z_c (fun β v W h=>(zc u35 β v W).1 h),z_c (fun β v W h=>(zc u39 β v W).1 h),z_c (fun β v W h=>(zc u34 β v W).1 h),z_g ⟨fun β v W h=>(zc u40 β v W).1 h,fun β v W h=>(zc u41 β v W).1 h,fun β v W h=>(zc u42 β v W).1 h,trivial⟩,z_c (fun β v W h=>(zc u43 β v W).1 h),z_c (fun β v W h=>(zc u43 β v W).1 h),z_c (fun β v W h=>(zc u44 β v W).1 h),z_c (fun β v W h=>(zc u44 β v W).1 h),z_g ⟨fun β v W h=>(zc u40 β v W).1 h,fun β v W h=>(zc u41 β v W).1 h,fun β v W h=>(zc u42 β v W).1 h,trivial⟩,z_g ⟨fun β v W h=>(zc u31 β v W).1 h,fun β v W h=>(zc u32 β v W).1 h,fun β v W h=>(zc u33 β v W).1 h,trivial⟩,z_c (fun β v W h=>(zc u45 β v W).1 h),z_c (fun β v W h=>(zc u46 β v W).1 h),z_c (fun β v W h=>(zc u46 β v W).1 h),z_c (fun β v W h=>(zc u46 β v W).1 h),z_g ⟨fun β v W h=>(zc u40 β v W).1 h,fun β v W h=>(zc u41 β v W).1 h,fun β v W h=>(zc u42 β v W).1 h,trivial⟩,z_g ⟨fun β v W h=>(zc u31 β v W).1 h,fun β v W h=>(zc u32 β v W).1 h,fun β v W h=>(zc u33 β v W).1 h,trivial⟩,z_c (fun β v W h=>(zc u47 β v W).1 h),z_c (fun β v W h=>(zc u48 β v W).1 h),z_c (fun β v W h=>(zc u48 β v W).1 h),z_g ⟨fun β v W h=>(zc u7 β v W).1 h,fun β v W h=>(zc u8 β v W).1 h,fun β v W h=>(zc u9 β v W).1 h,fun β v W h=>(zc u10 β v W).1 h,fun β v W h=>(zc u11 β v W).1 h,fun β v W h=>(zc u12 β v W).1 h,fun β v W h=>(zc u13 β v W).1 h,trivial⟩,z_c (fun β v W h=>(zc u49 β v W).1 h),z_c (fun β v W h=>(zc u50 β v W).1 h),z_c yy,z_b ⟨fun β v W h=>(zc u0 β v W).1 h,fun β v W h=>(zc u1 β v W).1 h,fun β v W h=>(zc u2 β v W).1 h,fun β v W h=>(zc u3 β v W).1 h,fun β v W h=>(zc u4 β v W).1 h,fun β v W h=>(zc u5 β v W).1 h,fun β v W h=>(zc u6 β v W).1 h,trivial⟩,z_b ⟨fun β v W h=>(zc u7 β v W).1 h,fun β v W h=>(zc u8 β v W).1 h,fun β v W h=>(zc u9 β v W).1 h,fun β v W h=>(zc u10 β v W).1 h,fun β v W h=>(zc u11 β v W).1 h,fun β v W h=>(zc u12 β v W).1 h,fun β v W h=>(zc u13 β v W).1 h,trivial⟩,z_b ⟨fun β v W h=>(zc u18 β v W).1 h,fun β v W h=>(zc u19 β v W).1 h,fun β v W h=>(zc u20 β v W).1 h,trivial⟩,z_b ⟨fun β v W h=>(zc u31 β v W).1 h,fun β v W h=>(zc u32 β v W).1 h,fun β v W h=>(zc u33 β v W).1 h,trivial⟩,z_b ⟨fun β v W h=>(zc u40 β v W).1 h,fun β v W h=>(zc u41 β v W).1 h,fun β v W h=>(zc u42 β v W).1 h,trivial⟩,trivial⟩) rfl fun t ht=>?_
 rcases rounds t ht with hz_ | ⟨t',hz_,hm_,hj_⟩
 ·refine .inl ?_
  rcases hz_ with ⟨v1001,e1001,h1002,_⟩
  ·exact zpT hL c d s v1 v2 n3 v5 v7 v8 v11 v12 v14 v15 v101 v103 ja v501 n503 x504 v507 v508 v510 v512 v513 v515 v517 v518 v521 v523 v525 v527 v529 v531 v533 h502 s514 h516 s522 s526 s530 t.jb v1001 e1001 h1002  F u0 u1 u2 u3 u4 u5 u6 u7 u8 u9 u10 u11 u12 u13 u17 u18 u19 u20 u26 u27 u28 u29 u30 u31 u32 u33 u34 u35 u36 u37 u38 u39 u40 u41 u42 u43 u44 u45 u46 u47 u48 u49 u50  R hR
 ·refine .inr ⟨t',hm_,hj_,?_⟩
  rcases hz_ with ⟨v1001,n1003,x1004,v1007,v1008,v1011,v1012,v1014,v1016,e1001,e1007,e1008,e1011,e1012,e1014,e1016,h1002,s1005,s1006,s1009,h1010,s1013,s1015,q0,_⟩ | ⟨v1001,n1003,x1004,v1007,v1008,v1011,e1001,e1007,e1008,e1011,h1002,s1005,s1006,s1009,h1010,q0,_⟩
  ·exact zpR hL c d s v1 v2 n3 v5 v7 v8 v11 v12 v14 v15 v101 v103 ja v501 n503 x504 v507 v508 v510 v512 v513 v515 v517 v518 v521 v523 v525 v527 v529 v531 v533 h502 s514 h516 s522 s526 s530 t.jb v1001 n1003 x1004 v1007 v1008 v1011 v1012 v1014 v1016 e1001 e1007 e1008 e1011 e1012 e1014 e1016 h1002 s1005 s1006 s1009 h1010 s1013 s1015 t'.jb q0 R hR
  ·exact zpS hL c d s v1 v2 n3 v5 v7 v8 v11 v12 v14 v15 v101 v103 ja v501 n503 x504 v507 v508 v510 v512 v513 v515 v517 v518 v521 v523 v525 v527 v529 v531 v533 h502 s514 h516 s522 s526 s530 t.jb v1001 n1003 x1004 v1007 v1008 v1011 e1001 e1007 e1008 e1011 h1002 s1005 s1006 s1009 h1010 t'.jb q0 R hR
theorem zpQ {w0:World} (hL:LibT w0) (c:(List Int×(Int×Int×Int)×(Int×Int×Int))) (d:(List Int×(Int×Int×Int)×(Int×Int×Int))) (s:(List UInt8)) (v1:Int) (v2:Int) (n3:Nat) (v5:(List UInt8)) (v7:Xp) (v8:Bool) (v11:(List UInt8)) (v12:Bool) (v14:Bool) (v15:Bool) (v101:(List Xp)) (v103:Int) (ja:Int) (v501:Bool) (n503:Nat) (x504:Xp) (v507:(List UInt8)) (v508:Bool) (v510:Int) (v512:Bool) (v513:Bool) (v515:Bool) (v517:Xp) (v518:Bool) (v521:Bool) (v523:Bool) (v525:Bool) (v527:Bool) (v529:Bool) (v531:(List Xp)) (v533:Int) (h502:v501=true) (s514:v513=false) (h516:v515=false) (s522:v521=false) (s526:v525=false) (s530:v529=false) {F:Fact} (u0:F.c 0=pLs cI c.1) (u1:F.c 1=pI c.2.1.1) (u2:F.c 2=pI c.2.1.2.1) (u3:F.c 3=pI c.2.1.2.2) (u4:F.c 4=pI c.2.2.1) (u5:F.c 5=pI c.2.2.2.1) (u6:F.c 6=pI c.2.2.2.2) (u7:F.c 7=pLs cI d.1) (u8:F.c 8=pI d.2.1.1) (u9:F.c 9=pI d.2.1.2.1) (u10:F.c 10=pI d.2.1.2.2) (u11:F.c 11=pI d.2.2.1) (u12:F.c 12=pI d.2.2.2.1) (u13:F.c 13=pI d.2.2.2.2) (u17:F.c 17=pS v5) (u18:F.c 18=pI v7.op) (u19:F.c 19=pI v7.n) (u20:F.c 20=pLs cE v7.l) (u26:F.c 26=pLs cE v101) (u27:F.c 27=pI v103) (u28:F.c 28=pI ja) (u29:F.c 29=pB v501) (u30:F.c 30=pP (cE x504)) (u31:F.c 31=pI x504.op) (u32:F.c 32=pI x504.n) (u33:F.c 33=pLs cE x504.l) (u34:F.c 34=pS v507) (u35:F.c 35=pB v508) (u36:F.c 36=pI v510) (u37:F.c 37=pB v512) (u38:F.c 38=pB v513) (u39:F.c 39=pB v515) (u40:F.c 40=pI v517.op) (u41:F.c 41=pI v517.n) (u42:F.c 42=pLs cE v517.l) (u43:F.c 43=pB v518) (u44:F.c 44=pB v521) (u45:F.c 45=pB v523) (u46:F.c 46=pB v525) (u47:F.c 47=pB v527) (u48:F.c 48=pB v529) (u49:F.c 49=pLs cE v531) (u50:F.c 50=pI v533) (R:Frm) (hR:R.pm=⟨ntOf Tryd.prog 4,[],[]⟩) (hn:(v531.length:Int)=v533) (hb:v531.length≤1000000) (hx:nodes x504≤1000) (hO:textO x504=true) (ht:textX x504=v507) (hall:∀y∈v531,nodes y≤1000):zl (KN w0) Tryd.prog F R zpl (lp Tryd.prog 4 1):=by
 refine zpy hL c d s v1 v2 n3 v5 v7 v8 v11 v12 v14 v15 v101 v103 ja v501 n503 x504 v507 v508 v510 v512 v513 v515 v517 v518 v521 v523 v525 v527 v529 v531 v533 h502 s514 h516 s522 s526 s530  u0 u1 u2 u3 u4 u5 u6 u7 u8 u9 u10 u11 u12 u13 u17 u18 u19 u20 u26 u27 u28 u29 u30 u31 u32 u33 u34 u35 u36 u37 u38 u39 u40 u41 u42 u43 u44 u45 u46 u47 u48 u49 u50 R hR (fun ⟨jb⟩=>0≤jb) (fun ⟨jb⟩=>(v533 - jb).toNat) (by decide) fun t hJ=>?_
 obtain ⟨jb⟩:=t
 dsimp only at hJ
 have hi:=hJ
 obtain ⟨v1001,e1001⟩:∃v,(decide (jb<v533))=v:=⟨_,rfl⟩
 cases h1002:v1001 with
 | true =>
  obtain ⟨n1003,x1004,s1005,s1006⟩:∃(n1003:Nat) (x1004:Xp),jb=(n1003:Int)∧v531[n1003]?=some x1004:=by (have dh1002:=of_decide_eq_true (e1001.trans h1002);have hlt:jb.toNat<v531.length:=(by omega);exact ⟨jb.toNat,_,(Int.toNat_of_nonneg (by omega)).symm,List.getElem?_eq_getElem hlt⟩)
  obtain ⟨v1007,e1007⟩:∃v,(textX x1004)=v:=⟨_,rfl⟩
  obtain ⟨v1008,e1008⟩:∃v,(textO x1004)=v:=⟨_,rfl⟩
  have s1009:nodes x1004≤1000000:=by exact Nat.le_trans (hall _ (List.mem_of_getElem? s1006)) (by decide)
  cases h1010:v1008 with
  | true =>
   obtain ⟨v1011,e1011⟩:∃v,(((v1007:List UInt8) == v507))=v:=⟨_,rfl⟩
   obtain ⟨v1012,e1012⟩:∃v,(sameX x504 x1004)=v:=⟨_,rfl⟩
   have s1013:nodes x504≤1000000:=by exact Nat.le_trans hx (by decide)
   obtain ⟨v1014,e1014⟩:∃v,(!(v1011 == v1012))=v:=⟨_,rfl⟩
   have s1015:v1014=false:=by (rw [← e1014,← e1011,← e1012,← e1007,← ht,zpz hO (e1008.trans h1010)];simp)
   obtain ⟨v1016,e1016⟩:∃v,(IntKind.i64.wrap (jb+(1:Int)))=v:=⟨_,rfl⟩
   refine .inr ⟨⟨v1016⟩,Or.inl (⟨v1001,n1003,x1004,v1007,v1008,v1011,v1012,v1014,v1016,e1001,e1007,e1008,e1011,e1012,e1014,e1016,h1002,s1005,s1006,s1009,h1010,s1013,s1015,rfl,trivial⟩),?_,?_⟩
   all_goals (have dh1002:=of_decide_eq_true (e1001.trans h1002);have x3:v1016=jb+1:=(by rw [← e1016];exact wri (by omega)))
   ·show (v533 - v1016).toNat<(v533 - jb).toNat
    omega
   ·show 0≤v1016
    omega
  | false =>
   obtain ⟨v1011,e1011⟩:∃v,(IntKind.i64.wrap (jb+(1:Int)))=v:=⟨_,rfl⟩
   refine .inr ⟨⟨v1011⟩,Or.inr (⟨v1001,n1003,x1004,v1007,v1008,v1011,e1001,e1007,e1008,e1011,h1002,s1005,s1006,s1009,h1010,rfl,trivial⟩),?_,?_⟩
   all_goals (have dh1002:=of_decide_eq_true (e1001.trans h1002);have x3:v1011=jb+1:=(by rw [← e1011];exact wri (by omega)))
   ·show (v533 - v1011).toNat<(v533 - jb).toNat
    omega
   ·show 0≤v1011
    omega
 | false =>
  refine .inl (⟨v1001,e1001,h1002,trivial⟩)
  all_goals trivial
structure bk_A_T where
 ja:Int
def zph:List Atom:=[.sl 2 (yh 17),.sl 3 (.o (.c (.p 0 0))),.sl 4 (.o (.c (.p 1 0))),.sl 7 (.o (.c (.k (.bool true)))),.sl 49 (yh 26),.sl 50 (yh 27),.sl 51 (yh 28),.bx 0 26 [.h 0,.h 1,.h 2,.h 3,.h 4,.h 5,.h 6],.bx 1 26 [.h 7,.h 8,.h 9,.h 10,.h 11,.h 12,.h 13],.bx 16 31 [.h 18,.h 19,.h 20]]
def zpk:LoopS:=⟨8,[.sl 2 (yh 17),.sl 3 (.o (.c (.p 0 0))),.sl 4 (.o (.c (.p 1 0))),.sl 7 (.o (.c (.k (.bool true)))),.sl 49 (yh 26),.sl 50 (yh 27),.sl 51 (.o (.c (.k (.int .i64 0)))),.bx 0 26 [.h 0,.h 1,.h 2,.h 3,.h 4,.h 5,.h 6],.bx 1 26 [.h 7,.h 8,.h 9,.h 10,.h 11,.h 12,.h 13],.bx 16 31 [.h 18,.h 19,.h 20]],(.x 0),[.sl 2 (yh 17),.sl 3 (.o (.c (.p 0 0))),.sl 4 (.o (.c (.p 1 0))),.sl 7 (.o (.c (.k (.bool true)))),.sl 49 (yh 26),.sl 50 (yh 27),.bx 0 26 [.h 0,.h 1,.h 2,.h 3,.h 4,.h 5,.h 6],.bx 1 26 [.h 7,.h 8,.h 9,.h 10,.h 11,.h 12,.h 13],.bx 16 31 [.h 18,.h 19,.h 20]]⟩
theorem zpN {w0:World} (hL:LibT w0) (c:(List Int×(Int×Int×Int)×(Int×Int×Int))) (d:(List Int×(Int×Int×Int)×(Int×Int×Int))) (s:(List UInt8)) (v1:Int) (v2:Int) (n3:Nat) (v5:(List UInt8)) (v7:Xp) (v8:Bool) (v11:(List UInt8)) (v12:Bool) (v14:Bool) (v15:Bool) (v101:(List Xp)) (v103:Int) (ja:Int) (v501:Bool) (n503:Nat) (x504:Xp) (v507:(List UInt8)) (v508:Bool) (v510:Int) (v512:Bool) (v513:Bool) (v515:Bool) (v517:Int) (e501:(decide (ja<v103))=v501) (e507:(textX x504)=v507) (e508:(textO x504)=v508) (e510:(zO x504 (4:Int))=v510) (e512:((v510 == (0:Int)))=v512) (e513:(!(v508 == v512))=v513) (e515:(!v508)=v515) (e517:(IntKind.i64.wrap (ja+(1:Int)))=v517) (h502:v501=true) (s505:ja=(n503:Int)) (s506:v101[n503]?=some x504) (s509:nodes x504≤1000000) (s511:nodes x504≤1000000) (s514:v513=false) (h516:v515=true) (ja':Int) (q0:(v517)=ja') (R:Frm) (hR:R.pm=⟨ntOf Tryd.prog 4,[],[]⟩):Goes (KN w0) Tryd.prog R (lp Tryd.prog 4 0) (FL [pLs cI c.1,pI c.2.1.1,pI c.2.1.2.1,pI c.2.1.2.2,pI c.2.2.1,pI c.2.2.2.1,pI c.2.2.2.2,pLs cI d.1,pI d.2.1.1,pI d.2.1.2.1,pI d.2.1.2.2,pI d.2.2.1,pI d.2.2.2.1,pI d.2.2.2.2,pS s,pI v1,pI v2,pS v5,pI v7.op,pI v7.n,pLs cE v7.l,pB v8,pS v11,pB v12,pB v14,pB v15,pLs cE v101,pI v103,pI ja] []) zph .n (FL [pLs cI c.1,pI c.2.1.1,pI c.2.1.2.1,pI c.2.1.2.2,pI c.2.2.1,pI c.2.2.2.1,pI c.2.2.2.2,pLs cI d.1,pI d.2.1.1,pI d.2.1.2.1,pI d.2.1.2.2,pI d.2.2.1,pI d.2.2.2.1,pI d.2.2.2.2,pS s,pI v1,pI v2,pS v5,pI v7.op,pI v7.n,pLs cE v7.l,pB v8,pS v11,pB v12,pB v14,pB v15,pLs cE v101,pI v103,pI ja'] []) zph:=
 goes (x:=.n) (y:=.n) (Fb:=FL [pLs cI c.1,pI c.2.1.1,pI c.2.1.2.1,pI c.2.1.2.2,pI c.2.2.1,pI c.2.2.2.1,pI c.2.2.2.2,pLs cI d.1,pI d.2.1.1,pI d.2.1.2.1,pI d.2.1.2.2,pI d.2.2.1,pI d.2.2.2.1,pI d.2.2.2.2,pS s,pI v1,pI v2,pS v5,pI v7.op,pI v7.n,pLs cE v7.l,pB v8,pS v11,pB v12,pB v14,pB v15,pLs cE v101,pI v103,pI ja,pB v501,pP (cE x504),pI x504.op,pI x504.n,pLs cE x504.l,pS v507,pB v508,pI v510,pB v512,pB v513,pB v515,pI v517] []) (stb:=zph) (tl:=[.sl 2 (yh 17),.sl 3 (.o (.c (.p 0 0))),.sl 4 (.o (.c (.p 1 0))),.sl 7 (.o (.c (.k (.bool true)))),.sl 49 (yh 26),.sl 50 (yh 27),.sl 51 (yh 40),.bx 0 26 [.h 0,.h 1,.h 2,.h 3,.h 4,.h 5,.h 6],.bx 1 26 [.h 7,.h 8,.h 9,.h 10,.h 11,.h 12,.h 13],.bx 16 31 [.h 18,.h 19,.h 20]]) (C:=((1005000,.bin .lss 3 (yh 28) (yh 27) (yh 29)) ::
  (10029,.fb 29 true) ::
  (1005001,.op (.ia 28) [yh 26,yh 28] [] (yh 30)) ::
  (1005002,.op (.ld 31) [yh 30] [] (.o (.g [.h 31,.h 32,.h 33]))) ::
  (1005006,.call ⟨18,[.o (.g [.h 31,.h 32,.h 33])],[],.t [.c (.h 34),.c (.h 35)],[]⟩) ::
  (1005014,.call ⟨11,[.o (.g [.h 31,.h 32,.h 33]),.o (.c (.k (.int .i64 4)))],[],yh 36,[]⟩) ::
  (1005015,.bin .eql 33 (yh 36) (LF (.k (.int .i64 0))) (yh 37)) ::
  (1005016,.bin .neq 4 (yh 35) (yh 37) (yh 38)) ::
  (10038,.fb 38 false) ::
  (1005018,.un .not (yh 35) (yh 39)) ::
  (10039,.fb 39 true) ::
  (1005019,.bin .add 3 (yh 28) (LF (.k (.int .i64 1))) (yh 40)) ::
  []:List (Nat×Ent))) (H:=.no) 5000 (zipA.imp ⟨z_c yy,z_c yy,z_c yy,z_c yy,z_c yy,z_c yy,z_c yy,z_b ⟨yy,yy,yy,yy,yy,yy,yy,trivial⟩,z_b ⟨yy,yy,yy,yy,yy,yy,yy,trivial⟩,z_b ⟨yy,yy,yy,trivial⟩,trivial⟩) (zg ⟨(ze zj),za,za,za,za,za,za,(ze zj),za,za,za,za,za,za,za,za,za,za,za,za,(ze (zf rfl)),za,za,za,za,za,(ze (zf rfl)),za,za,za,(zo ((zf rfl) _)),za,za,(ze (zf rfl)),za,za,za,za,za,za,za,trivial⟩) ⟨e_bin (zb rfl) (zb rfl) (zb rfl) (r_cmp (congrArg some e501)),
  e_fbv h502,
  e_iaL (E:=31) (z:=3) zm (by kernel_rfl) (by kernel_rfl) (zc rfl) (zb rfl) s505 s506 (zc rfl),
  e_ldG (by kernel_rfl) (by kernel_rfl) (zc rfl) (cE_eq _).symm rfl (zm _),
  zh (zmS hL x504 v507 v508 e507 e508 s509),
  zh (za4 x504 (4:Int) v510 e510 s511),
  e_bin (zb rfl) zd (zb rfl) (r_cmp (congrArg some e512)),
  e_bin (zb rfl) (zb rfl) (zb rfl) (fun W X Y=>by rw [← e513];exact r_bne (by kernel_rfl) W X Y),
  e_fbv s514,
  e_un (zb rfl) (zb rfl) (fun W=>by rw [← e515];exact r_not W),
  e_fbv h516,
  e_bin (zb rfl) zd (zb rfl) (r_ar (congrArg some e517)),
  trivial⟩ mixed hR trivial (fun _ _ _ hs=>by cases hs) (by kernel_rfl:zD (KN w0) Tryd.prog _ .no ⟨ntOf Tryd.prog 4,[],[]⟩ (lp Tryd.prog 4 0) 5000 zph .n [.sl 2 (yh 17),.sl 3 (.o (.c (.p 0 0))),.sl 4 (.o (.c (.p 1 0))),.sl 7 (.o (.c (.k (.bool true)))),.sl 49 (yh 26),.sl 50 (yh 27),.sl 51 (yh 40),.bx 0 26 [.h 0,.h 1,.h 2,.h 3,.h 4,.h 5,.h 6],.bx 1 26 [.h 7,.h 8,.h 9,.h 10,.h 11,.h 12,.h 13],.bx 16 31 [.h 18,.h 19,.h 20]]=true) rfl (zipA.imp ⟨z_c yy,z_c yy,z_c yy,z_c yy,z_c yy,z_c yy,z_c (fun β v W h=>(zc rfl β v W).2 (by rw [← q0];exact h)),z_b ⟨yy,yy,yy,yy,yy,yy,yy,trivial⟩,z_b ⟨yy,yy,yy,yy,yy,yy,yy,trivial⟩,z_b ⟨yy,yy,yy,trivial⟩,trivial⟩)
theorem zpO {w0:World} (hL:LibT w0) (c:(List Int×(Int×Int×Int)×(Int×Int×Int))) (d:(List Int×(Int×Int×Int)×(Int×Int×Int))) (s:(List UInt8)) (v1:Int) (v2:Int) (n3:Nat) (v5:(List UInt8)) (v7:Xp) (v8:Bool) (v11:(List UInt8)) (v12:Bool) (v14:Bool) (v15:Bool) (v101:(List Xp)) (v103:Int) (ja:Int) (v501:Bool) (n503:Nat) (x504:Xp) (v507:(List UInt8)) (v508:Bool) (v510:Int) (v512:Bool) (v513:Bool) (v515:Bool) (v517:Xp) (v518:Bool) (v521:Bool) (v523:Bool) (v525:Bool) (v527:Bool) (v529:Bool) (v531:(List Xp)) (v533:Int) (v534:Int) (e501:(decide (ja<v103))=v501) (e507:(textX x504)=v507) (e508:(textO x504)=v508) (e510:(zO x504 (4:Int))=v510) (e512:((v510 == (0:Int)))=v512) (e513:(!(v508 == v512))=v513) (e515:(!v508)=v515) (e517:(parE v507)=v517) (e518:(parO v507)=v518) (e521:(!v518)=v521) (e523:(sameX v517 x504)=v523) (e525:(!v523)=v525) (e527:(sameX v517 x504)=v527) (e529:(!v527)=v529) (e531:(allX d.1 d.2.1 d.2.2)=v531) (e533:((v531.length:Int))=v533) (e534:(IntKind.i64.wrap (ja+(1:Int)))=v534) (h502:v501=true) (s505:ja=(n503:Int)) (s506:v101[n503]?=some x504) (s509:nodes x504≤1000000) (s511:nodes x504≤1000000) (s514:v513=false) (h516:v515=false) (s519:IxAll w0 v507) (s520:(v507:List UInt8).length≤1000000) (s522:v521=false) (s524:nodes v517≤1000000) (s526:v525=false) (s528:nodes v517≤1000000) (s530:v529=false) (s532:d.1.length<9223372036854775807) (L_bk_B:∀R:Frm,R.pm=⟨ntOf Tryd.prog 4,[],[]⟩→zl (KN w0) Tryd.prog (FL [pLs cI c.1,pI c.2.1.1,pI c.2.1.2.1,pI c.2.1.2.2,pI c.2.2.1,pI c.2.2.2.1,pI c.2.2.2.2,pLs cI d.1,pI d.2.1.1,pI d.2.1.2.1,pI d.2.1.2.2,pI d.2.2.1,pI d.2.2.2.1,pI d.2.2.2.2,pS s,pI v1,pI v2,pS v5,pI v7.op,pI v7.n,pLs cE v7.l,pB v8,pS v11,pB v12,pB v14,pB v15,pLs cE v101,pI v103,pI ja,pB v501,pP (cE x504),pI x504.op,pI x504.n,pLs cE x504.l,pS v507,pB v508,pI v510,pB v512,pB v513,pB v515,pI v517.op,pI v517.n,pLs cE v517.l,pB v518,pB v521,pB v523,pB v525,pB v527,pB v529,pLs cE v531,pI v533,pI v534] []) R zpl (lp Tryd.prog 4 1)) (ja':Int) (q0:(v534)=ja') (R:Frm) (hR:R.pm=⟨ntOf Tryd.prog 4,[],[]⟩):Goes (KN w0) Tryd.prog R (lp Tryd.prog 4 0) (FL [pLs cI c.1,pI c.2.1.1,pI c.2.1.2.1,pI c.2.1.2.2,pI c.2.2.1,pI c.2.2.2.1,pI c.2.2.2.2,pLs cI d.1,pI d.2.1.1,pI d.2.1.2.1,pI d.2.1.2.2,pI d.2.2.1,pI d.2.2.2.1,pI d.2.2.2.2,pS s,pI v1,pI v2,pS v5,pI v7.op,pI v7.n,pLs cE v7.l,pB v8,pS v11,pB v12,pB v14,pB v15,pLs cE v101,pI v103,pI ja] []) zph .n (FL [pLs cI c.1,pI c.2.1.1,pI c.2.1.2.1,pI c.2.1.2.2,pI c.2.2.1,pI c.2.2.2.1,pI c.2.2.2.2,pLs cI d.1,pI d.2.1.1,pI d.2.1.2.1,pI d.2.1.2.2,pI d.2.2.1,pI d.2.2.2.1,pI d.2.2.2.2,pS s,pI v1,pI v2,pS v5,pI v7.op,pI v7.n,pLs cE v7.l,pB v8,pS v11,pB v12,pB v14,pB v15,pLs cE v101,pI v103,pI ja'] []) zph:=
 goes (x:=.n) (y:=.n) (Fb:=FL [pLs cI c.1,pI c.2.1.1,pI c.2.1.2.1,pI c.2.1.2.2,pI c.2.2.1,pI c.2.2.2.1,pI c.2.2.2.2,pLs cI d.1,pI d.2.1.1,pI d.2.1.2.1,pI d.2.1.2.2,pI d.2.2.1,pI d.2.2.2.1,pI d.2.2.2.2,pS s,pI v1,pI v2,pS v5,pI v7.op,pI v7.n,pLs cE v7.l,pB v8,pS v11,pB v12,pB v14,pB v15,pLs cE v101,pI v103,pI ja,pB v501,pP (cE x504),pI x504.op,pI x504.n,pLs cE x504.l,pS v507,pB v508,pI v510,pB v512,pB v513,pB v515,pI v517.op,pI v517.n,pLs cE v517.l,pB v518,pB v521,pB v523,pB v525,pB v527,pB v529,pLs cE v531,pI v533,pI v534] []) (stb:=zph) (tl:=[.sl 2 (yh 17),.sl 3 (.o (.c (.p 0 0))),.sl 4 (.o (.c (.p 1 0))),.sl 7 (.o (.c (.k (.bool true)))),.sl 49 (yh 26),.sl 50 (yh 27),.sl 51 (yh 51),.bx 0 26 [.h 0,.h 1,.h 2,.h 3,.h 4,.h 5,.h 6],.bx 1 26 [.h 7,.h 8,.h 9,.h 10,.h 11,.h 12,.h 13],.bx 16 31 [.h 18,.h 19,.h 20]]) (C:=((1005000,.bin .lss 3 (yh 28) (yh 27) (yh 29)) ::
  (10029,.fb 29 true) ::
  (1005001,.op (.ia 28) [yh 26,yh 28] [] (yh 30)) ::
  (1005002,.op (.ld 31) [yh 30] [] (.o (.g [.h 31,.h 32,.h 33]))) ::
  (1005006,.call ⟨18,[.o (.g [.h 31,.h 32,.h 33])],[],.t [.c (.h 34),.c (.h 35)],[]⟩) ::
  (1005014,.call ⟨11,[.o (.g [.h 31,.h 32,.h 33]),.o (.c (.k (.int .i64 4)))],[],yh 36,[]⟩) ::
  (1005015,.bin .eql 33 (yh 36) (LF (.k (.int .i64 0))) (yh 37)) ::
  (1005016,.bin .neq 4 (yh 35) (yh 37) (yh 38)) ::
  (10038,.fb 38 false) ::
  (1005018,.un .not (yh 35) (yh 39)) ::
  (10039,.fb 39 false) ::
  (1005020,.call ⟨17,[yh 34],[],.t [.g [.h 40,.h 41,.h 42],.c (.h 43)],[]⟩) ::
  (1005028,.un .not (yh 43) (yh 44)) ::
  (10044,.fb 44 false) ::
  (1005032,.call ⟨15,[.o (.g [.h 40,.h 41,.h 42]),.o (.g [.h 31,.h 32,.h 33])],[],yh 45,[]⟩) ::
  (1005033,.un .not (yh 45) (yh 46)) ::
  (10046,.fb 46 false) ::
  (1005038,.call ⟨16,[.o (.g [.h 40,.h 41,.h 42]),.o (.g [.h 31,.h 32,.h 33])],[],yh 47,[]⟩) ::
  (1005039,.un .not (yh 47) (yh 48)) ::
  (10048,.fb 48 false) ::
  (1005042,.call ⟨9,[.o (.g [.h 7,.h 8,.h 9,.h 10,.h 11,.h 12,.h 13])],[],yh 49,[]⟩) ::
  (1005043,.op (.len [28] 3) [yh 49] [] (yh 50)) ::
  (1006045,.bin .add 3 (yh 28) (LF (.k (.int .i64 1))) (yh 51)) ::
  []:List (Nat×Ent))) (H:=⟨[zpl],[],0⟩) 5000 (zipA.imp ⟨z_c yy,z_c yy,z_c yy,z_c yy,z_c yy,z_c yy,z_c yy,z_b ⟨yy,yy,yy,yy,yy,yy,yy,trivial⟩,z_b ⟨yy,yy,yy,yy,yy,yy,yy,trivial⟩,z_b ⟨yy,yy,yy,trivial⟩,trivial⟩) (zg ⟨(ze zj),za,za,za,za,za,za,(ze zj),za,za,za,za,za,za,za,za,za,za,za,za,(ze (zf rfl)),za,za,za,za,za,(ze (zf rfl)),za,za,za,(zo ((zf rfl) _)),za,za,(ze (zf rfl)),za,za,za,za,za,za,za,za,(ze (zf rfl)),za,za,za,za,za,za,(ze (zf rfl)),za,za,trivial⟩) ⟨e_bin (zb rfl) (zb rfl) (zb rfl) (r_cmp (congrArg some e501)),
  e_fbv h502,
  e_iaL (E:=31) (z:=3) zm (by kernel_rfl) (by kernel_rfl) (zc rfl) (zb rfl) s505 s506 (zc rfl),
  e_ldG (by kernel_rfl) (by kernel_rfl) (zc rfl) (cE_eq _).symm rfl (zm _),
  zh (zmS hL x504 v507 v508 e507 e508 s509),
  zh (za4 x504 (4:Int) v510 e510 s511),
  e_bin (zb rfl) zd (zb rfl) (r_cmp (congrArg some e512)),
  e_bin (zb rfl) (zb rfl) (zb rfl) (fun W X Y=>by rw [← e513];exact r_bne (by kernel_rfl) W X Y),
  e_fbv s514,
  e_un (zb rfl) (zb rfl) (fun W=>by rw [← e515];exact r_not W),
  e_fbv h516,
  zh (zcg hL v507 v517 v518 e517 e518 s519 s520),
  e_un (zb rfl) (zb rfl) (fun W=>by rw [← e521];exact r_not W),
  e_fbv s522,
  zh (zlf v517 x504 v523 e523 s524),
  e_un (zb rfl) (zb rfl) (fun W=>by rw [← e525];exact r_not W),
  e_fbv s526,
  zh (zbu v517 x504 v527 e527 s528),
  e_un (zb rfl) (zb rfl) (fun W=>by rw [← e529];exact r_not W),
  e_fbv s530,
  zh (zmT d v531 e531 s532),
  zn (E:=31) (by kernel_rfl) (zc rfl) (zb (by rw [← e533];rfl)),
  e_bin (zb rfl) zd (zb rfl) (r_ar (congrArg some e534)),
  trivial⟩ mixed hR trivial (fun p hp s hs=>by
 have hl:zH (lp Tryd.prog 4 0)=[(18,lp Tryd.prog 4 1)]:=by kernel_rfl
 rw [hl] at hp
 simp only [List.mem_cons,List.not_mem_nil,or_false] at hp
 rcases hp with rfl
 ·have e:s=zpl:=(Option.some.inj hs).symm
  subst e;exact L_bk_B R hR) (by kernel_rfl:zD (KN w0) Tryd.prog _ ⟨[zpl],[],0⟩ ⟨ntOf Tryd.prog 4,[],[]⟩ (lp Tryd.prog 4 0) 5000 zph .n [.sl 2 (yh 17),.sl 3 (.o (.c (.p 0 0))),.sl 4 (.o (.c (.p 1 0))),.sl 7 (.o (.c (.k (.bool true)))),.sl 49 (yh 26),.sl 50 (yh 27),.sl 51 (yh 51),.bx 0 26 [.h 0,.h 1,.h 2,.h 3,.h 4,.h 5,.h 6],.bx 1 26 [.h 7,.h 8,.h 9,.h 10,.h 11,.h 12,.h 13],.bx 16 31 [.h 18,.h 19,.h 20]]=true) rfl (zipA.imp ⟨z_c yy,z_c yy,z_c yy,z_c yy,z_c yy,z_c yy,z_c (fun β v W h=>(zc rfl β v W).2 (by rw [← q0];exact h)),z_b ⟨yy,yy,yy,yy,yy,yy,yy,trivial⟩,z_b ⟨yy,yy,yy,yy,yy,yy,yy,trivial⟩,z_b ⟨yy,yy,yy,trivial⟩,trivial⟩)
theorem zpP {w0:World} (hL:LibT w0) (c:(List Int×(Int×Int×Int)×(Int×Int×Int))) (d:(List Int×(Int×Int×Int)×(Int×Int×Int))) (s:(List UInt8)) (v1:Int) (v2:Int) (n3:Nat) (v5:(List UInt8)) (v7:Xp) (v8:Bool) (v11:(List UInt8)) (v12:Bool) (v14:Bool) (v15:Bool) (v101:(List Xp)) (v103:Int) (ja:Int) (v501:Bool) (e501:(decide (ja<v103))=v501) (h502:v501=false) (F:Fact) (u0:F.c 0=pLs cI c.1) (u1:F.c 1=pI c.2.1.1) (u2:F.c 2=pI c.2.1.2.1) (u3:F.c 3=pI c.2.1.2.2) (u4:F.c 4=pI c.2.2.1) (u5:F.c 5=pI c.2.2.2.1) (u6:F.c 6=pI c.2.2.2.2) (u7:F.c 7=pLs cI d.1) (u8:F.c 8=pI d.2.1.1) (u9:F.c 9=pI d.2.1.2.1) (u10:F.c 10=pI d.2.1.2.2) (u11:F.c 11=pI d.2.2.1) (u12:F.c 12=pI d.2.2.2.1) (u13:F.c 13=pI d.2.2.2.2) (u17:F.c 17=pS v5) (u18:F.c 18=pI v7.op) (u19:F.c 19=pI v7.n) (u20:F.c 20=pLs cE v7.l) (u26:F.c 26=pLs cE v101) (u27:F.c 27=pI v103) (R:Frm) (hR:R.pm=⟨ntOf Tryd.prog 4,[],[]⟩):Goes (KN w0) Tryd.prog R (lp Tryd.prog 4 0) (FL [pLs cI c.1,pI c.2.1.1,pI c.2.1.2.1,pI c.2.1.2.2,pI c.2.2.1,pI c.2.2.2.1,pI c.2.2.2.2,pLs cI d.1,pI d.2.1.1,pI d.2.1.2.1,pI d.2.1.2.2,pI d.2.2.1,pI d.2.2.2.1,pI d.2.2.2.2,pS s,pI v1,pI v2,pS v5,pI v7.op,pI v7.n,pLs cE v7.l,pB v8,pS v11,pB v12,pB v14,pB v15,pLs cE v101,pI v103,pI ja] []) zph (.x 0) F zpk.out:=
 goes (x:=(.x 0)) (y:=(.x 0)) (Fb:=FL [pLs cI c.1,pI c.2.1.1,pI c.2.1.2.1,pI c.2.1.2.2,pI c.2.2.1,pI c.2.2.2.1,pI c.2.2.2.2,pLs cI d.1,pI d.2.1.1,pI d.2.1.2.1,pI d.2.1.2.2,pI d.2.2.1,pI d.2.2.2.1,pI d.2.2.2.2,pS s,pI v1,pI v2,pS v5,pI v7.op,pI v7.n,pLs cE v7.l,pB v8,pS v11,pB v12,pB v14,pB v15,pLs cE v101,pI v103,pI ja,pB v501] []) (stb:=zph) (tl:=[.sl 2 (yh 17),.sl 3 (.o (.c (.p 0 0))),.sl 4 (.o (.c (.p 1 0))),.sl 7 (.o (.c (.k (.bool true)))),.sl 49 (yh 26),.sl 50 (yh 27),.bx 0 26 [.h 0,.h 1,.h 2,.h 3,.h 4,.h 5,.h 6],.bx 1 26 [.h 7,.h 8,.h 9,.h 10,.h 11,.h 12,.h 13],.bx 16 31 [.h 18,.h 19,.h 20]]) (C:=((1005000,.bin .lss 3 (yh 28) (yh 27) (yh 29)) ::
  (10029,.fb 29 false) ::
  []:List (Nat×Ent))) (H:=.no) 5000 (zipA.imp ⟨z_c yy,z_c yy,z_c yy,z_c yy,z_c yy,z_c yy,z_c yy,z_b ⟨yy,yy,yy,yy,yy,yy,yy,trivial⟩,z_b ⟨yy,yy,yy,yy,yy,yy,yy,trivial⟩,z_b ⟨yy,yy,yy,trivial⟩,trivial⟩) (zg ⟨(ze zj),za,za,za,za,za,za,(ze zj),za,za,za,za,za,za,za,za,za,za,za,za,(ze (zf rfl)),za,za,za,za,za,(ze (zf rfl)),za,za,za,trivial⟩) ⟨e_bin (zb rfl) (zb rfl) (zb rfl) (r_cmp (congrArg some e501)),
  e_fbv h502,
  trivial⟩ mixed hR trivial (fun _ _ _ hs=>by cases hs) (by kernel_rfl:zD (KN w0) Tryd.prog _ .no ⟨ntOf Tryd.prog 4,[],[]⟩ (lp Tryd.prog 4 0) 5000 zph (.x 0) [.sl 2 (yh 17),.sl 3 (.o (.c (.p 0 0))),.sl 4 (.o (.c (.p 1 0))),.sl 7 (.o (.c (.k (.bool true)))),.sl 49 (yh 26),.sl 50 (yh 27),.bx 0 26 [.h 0,.h 1,.h 2,.h 3,.h 4,.h 5,.h 6],.bx 1 26 [.h 7,.h 8,.h 9,.h 10,.h 11,.h 12,.h 13],.bx 16 31 [.h 18,.h 19,.h 20]]=true) rfl (zipA.imp ⟨z_c (fun β v W h=>(zc u17 β v W).2 h),z_c yy,z_c yy,z_c yy,z_c (fun β v W h=>(zc u26 β v W).2 h),z_c (fun β v W h=>(zc u27 β v W).2 h),z_b ⟨fun β v W h=>(zc u0 β v W).2 h,fun β v W h=>(zc u1 β v W).2 h,fun β v W h=>(zc u2 β v W).2 h,fun β v W h=>(zc u3 β v W).2 h,fun β v W h=>(zc u4 β v W).2 h,fun β v W h=>(zc u5 β v W).2 h,fun β v W h=>(zc u6 β v W).2 h,trivial⟩,z_b ⟨fun β v W h=>(zc u7 β v W).2 h,fun β v W h=>(zc u8 β v W).2 h,fun β v W h=>(zc u9 β v W).2 h,fun β v W h=>(zc u10 β v W).2 h,fun β v W h=>(zc u11 β v W).2 h,fun β v W h=>(zc u12 β v W).2 h,fun β v W h=>(zc u13 β v W).2 h,trivial⟩,z_b ⟨fun β v W h=>(zc u18 β v W).2 h,fun β v W h=>(zc u19 β v W).2 h,fun β v W h=>(zc u20 β v W).2 h,trivial⟩,trivial⟩)
def zpX {w0:World} (c:(List Int×(Int×Int×Int)×(Int×Int×Int))) (d:(List Int×(Int×Int×Int)×(Int×Int×Int))) (s:(List UInt8)) (v1:Int) (v2:Int) (n3:Nat) (v5:(List UInt8)) (v7:Xp) (v8:Bool) (v11:(List UInt8)) (v12:Bool) (v14:Bool) (v15:Bool) (v101:(List Xp)) (v103:Int) (t:bk_A_T):Prop:=(∃(v501:Bool),((decide (t.ja<v103))=v501)∧(v501=false)∧True)
def zpW {w0:World} (c:(List Int×(Int×Int×Int)×(Int×Int×Int))) (d:(List Int×(Int×Int×Int)×(Int×Int×Int))) (s:(List UInt8)) (v1:Int) (v2:Int) (n3:Nat) (v5:(List UInt8)) (v7:Xp) (v8:Bool) (v11:(List UInt8)) (v12:Bool) (v14:Bool) (v15:Bool) (v101:(List Xp)) (v103:Int) (t t':bk_A_T):Prop:=(∃(v501:Bool),∃(n503:Nat),∃(x504:Xp),∃(v507:(List UInt8)),∃(v508:Bool),∃(v510:Int),∃(v512:Bool),∃(v513:Bool),∃(v515:Bool),∃(v517:Int),((decide (t.ja<v103))=v501)∧((textX x504)=v507)∧((textO x504)=v508)∧((zO x504 (4:Int))=v510)∧(((v510 == (0:Int)))=v512)∧((!(v508 == v512))=v513)∧((!v508)=v515)∧((IntKind.i64.wrap (t.ja+(1:Int)))=v517)∧(v501=true)∧(t.ja=(n503:Int))∧(v101[n503]?=some x504)∧(nodes x504≤1000000)∧(nodes x504≤1000000)∧(v513=false)∧(v515=true)∧((v517)=t'.ja)∧True)∨(∃(v501:Bool),∃(n503:Nat),∃(x504:Xp),∃(v507:(List UInt8)),∃(v508:Bool),∃(v510:Int),∃(v512:Bool),∃(v513:Bool),∃(v515:Bool),∃(v517:Xp),∃(v518:Bool),∃(v521:Bool),∃(v523:Bool),∃(v525:Bool),∃(v527:Bool),∃(v529:Bool),∃(v531:(List Xp)),∃(v533:Int),∃(v534:Int),((decide (t.ja<v103))=v501)∧((textX x504)=v507)∧((textO x504)=v508)∧((zO x504 (4:Int))=v510)∧(((v510 == (0:Int)))=v512)∧((!(v508 == v512))=v513)∧((!v508)=v515)∧((parE v507)=v517)∧((parO v507)=v518)∧((!v518)=v521)∧((sameX v517 x504)=v523)∧((!v523)=v525)∧((sameX v517 x504)=v527)∧((!v527)=v529)∧((allX d.1 d.2.1 d.2.2)=v531)∧(((v531.length:Int))=v533)∧((IntKind.i64.wrap (t.ja+(1:Int)))=v534)∧(v501=true)∧(t.ja=(n503:Int))∧(v101[n503]?=some x504)∧(nodes x504≤1000000)∧(nodes x504≤1000000)∧(v513=false)∧(v515=false)∧(IxAll w0 v507)∧((v507:List UInt8).length≤1000000)∧(v521=false)∧(nodes v517≤1000000)∧(v525=false)∧(nodes v517≤1000000)∧(v529=false)∧(d.1.length<9223372036854775807)∧(∀R:Frm,R.pm=⟨ntOf Tryd.prog 4,[],[]⟩→zl (KN w0) Tryd.prog (FL [pLs cI c.1,pI c.2.1.1,pI c.2.1.2.1,pI c.2.1.2.2,pI c.2.2.1,pI c.2.2.2.1,pI c.2.2.2.2,pLs cI d.1,pI d.2.1.1,pI d.2.1.2.1,pI d.2.1.2.2,pI d.2.2.1,pI d.2.2.2.1,pI d.2.2.2.2,pS s,pI v1,pI v2,pS v5,pI v7.op,pI v7.n,pLs cE v7.l,pB v8,pS v11,pB v12,pB v14,pB v15,pLs cE v101,pI v103,pI t.ja,pB v501,pP (cE x504),pI x504.op,pI x504.n,pLs cE x504.l,pS v507,pB v508,pI v510,pB v512,pB v513,pB v515,pI v517.op,pI v517.n,pLs cE v517.l,pB v518,pB v521,pB v523,pB v525,pB v527,pB v529,pLs cE v531,pI v533,pI v534] []) R zpl (lp Tryd.prog 4 1))∧((v534)=t'.ja)∧True)
theorem zpw {w0:World} (hL:LibT w0) (c:(List Int×(Int×Int×Int)×(Int×Int×Int))) (d:(List Int×(Int×Int×Int)×(Int×Int×Int))) (s:(List UInt8)) (v1:Int) (v2:Int) (n3:Nat) (v5:(List UInt8)) (v7:Xp) (v8:Bool) (v11:(List UInt8)) (v12:Bool) (v14:Bool) (v15:Bool) (v101:(List Xp)) (v103:Int) {F:Fact} (u0:F.c 0=pLs cI c.1) (u1:F.c 1=pI c.2.1.1) (u2:F.c 2=pI c.2.1.2.1) (u3:F.c 3=pI c.2.1.2.2) (u4:F.c 4=pI c.2.2.1) (u5:F.c 5=pI c.2.2.2.1) (u6:F.c 6=pI c.2.2.2.2) (u7:F.c 7=pLs cI d.1) (u8:F.c 8=pI d.2.1.1) (u9:F.c 9=pI d.2.1.2.1) (u10:F.c 10=pI d.2.1.2.2) (u11:F.c 11=pI d.2.2.1) (u12:F.c 12=pI d.2.2.2.1) (u13:F.c 13=pI d.2.2.2.2) (u17:F.c 17=pS v5) (u18:F.c 18=pI v7.op) (u19:F.c 19=pI v7.n) (u20:F.c 20=pLs cE v7.l) (u26:F.c 26=pLs cE v101) (u27:F.c 27=pI v103) (R:Frm) (hR:R.pm=⟨ntOf Tryd.prog 4,[],[]⟩) (J:bk_A_T→Prop) (m:bk_A_T→Nat) (hJ:J { ja:=(0:Int) }) (rounds:∀t,J t→zpX (w0:=w0) c d s v1 v2 n3 v5 v7 v8 v11 v12 v14 v15 v101 v103 t ∨∃t',zpW (w0:=w0) c d s v1 v2 n3 v5 v7 v8 v11 v12 v14 v15 v101 v103 t t'∧m t'<m t∧J t'):zl (KN w0) Tryd.prog F R zpk (lp Tryd.prog 4 0):=by
 refine zB (T:=bk_A_T) (fun t=>FL [pLs cI c.1,pI c.2.1.1,pI c.2.1.2.1,pI c.2.1.2.2,pI c.2.2.1,pI c.2.2.2.1,pI c.2.2.2.2,pLs cI d.1,pI d.2.1.1,pI d.2.1.2.1,pI d.2.1.2.2,pI d.2.2.1,pI d.2.2.2.1,pI d.2.2.2.2,pS s,pI v1,pI v2,pS v5,pI v7.op,pI v7.n,pLs cE v7.l,pB v8,pS v11,pB v12,pB v14,pB v15,pLs cE v101,pI v103,pI t.ja] []) J m { ja:=(0:Int) } zph hJ (zipA.imp ⟨z_c (fun β v W h=>(zc u17 β v W).1 h),z_c yy,z_c yy,z_c yy,z_c (fun β v W h=>(zc u26 β v W).1 h),z_c (fun β v W h=>(zc u27 β v W).1 h),z_c yy,z_b ⟨fun β v W h=>(zc u0 β v W).1 h,fun β v W h=>(zc u1 β v W).1 h,fun β v W h=>(zc u2 β v W).1 h,fun β v W h=>(zc u3 β v W).1 h,fun β v W h=>(zc u4 β v W).1 h,fun β v W h=>(zc u5 β v W).1 h,fun β v W h=>(zc u6 β v W).1 h,trivial⟩,z_b ⟨fun β v W h=>(zc u7 β v W).1 h,fun β v W h=>(zc u8 β v W).1 h,fun β v W h=>(zc u9 β v W).1 h,fun β v W h=>(zc u10 β v W).1 h,fun β v W h=>(zc u11 β v W).1 h,fun β v W h=>(zc u12 β v W).1 h,fun β v W h=>(zc u13 β v W).1 h,trivial⟩,z_b ⟨fun β v W h=>(zc u18 β v W).1 h,fun β v W h=>(zc u19 β v W).1 h,fun β v W h=>(zc u20 β v W).1 h,trivial⟩,trivial⟩) rfl fun t ht=>?_
 rcases rounds t ht with hz_ | ⟨t',hz_,hm_,hj_⟩
 ·refine .inl ?_
  rcases hz_ with ⟨v501,e501,h502,_⟩
  ·exact zpP hL c d s v1 v2 n3 v5 v7 v8 v11 v12 v14 v15 v101 v103  t.ja v501 e501 h502  F u0 u1 u2 u3 u4 u5 u6 u7 u8 u9 u10 u11 u12 u13 u17 u18 u19 u20 u26 u27  R hR
 ·refine .inr ⟨t',hm_,hj_,?_⟩
  rcases hz_ with ⟨v501,n503,x504,v507,v508,v510,v512,v513,v515,v517,e501,e507,e508,e510,e512,e513,e515,e517,h502,s505,s506,s509,s511,s514,h516,q0,_⟩ | ⟨v501,n503,x504,v507,v508,v510,v512,v513,v515,v517,v518,v521,v523,v525,v527,v529,v531,v533,v534,e501,e507,e508,e510,e512,e513,e515,e517,e518,e521,e523,e525,e527,e529,e531,e533,e534,h502,s505,s506,s509,s511,s514,h516,s519,s520,s522,s524,s526,s528,s530,s532,L_bk_B,q0,_⟩
  ·exact zpN hL c d s v1 v2 n3 v5 v7 v8 v11 v12 v14 v15 v101 v103  t.ja v501 n503 x504 v507 v508 v510 v512 v513 v515 v517 e501 e507 e508 e510 e512 e513 e515 e517 h502 s505 s506 s509 s511 s514 h516 t'.ja q0 R hR
  ·exact zpO hL c d s v1 v2 n3 v5 v7 v8 v11 v12 v14 v15 v101 v103  t.ja v501 n503 x504 v507 v508 v510 v512 v513 v515 v517 v518 v521 v523 v525 v527 v529 v531 v533 v534 e501 e507 e508 e510 e512 e513 e515 e517 e518 e521 e523 e525 e527 e529 e531 e533 e534 h502 s505 s506 s509 s511 s514 h516 s519 s520 s522 s524 s526 s528 s530 s532 L_bk_B t'.ja q0 R hR
theorem zpx {w0:World} (hL:LibT w0) (c:(List Int×(Int×Int×Int)×(Int×Int×Int))) (d:(List Int×(Int×Int×Int)×(Int×Int×Int))) (s:(List UInt8)) (v1:Int) (v2:Int) (n3:Nat) (v5:(List UInt8)) (v7:Xp) (v8:Bool) (v11:(List UInt8)) (v12:Bool) (v14:Bool) (v15:Bool) (v101:(List Xp)) (v103:Int) {F:Fact} (u0:F.c 0=pLs cI c.1) (u1:F.c 1=pI c.2.1.1) (u2:F.c 2=pI c.2.1.2.1) (u3:F.c 3=pI c.2.1.2.2) (u4:F.c 4=pI c.2.2.1) (u5:F.c 5=pI c.2.2.2.1) (u6:F.c 6=pI c.2.2.2.2) (u7:F.c 7=pLs cI d.1) (u8:F.c 8=pI d.2.1.1) (u9:F.c 9=pI d.2.1.2.1) (u10:F.c 10=pI d.2.1.2.2) (u11:F.c 11=pI d.2.2.1) (u12:F.c 12=pI d.2.2.2.1) (u13:F.c 13=pI d.2.2.2.2) (u17:F.c 17=pS v5) (u18:F.c 18=pI v7.op) (u19:F.c 19=pI v7.n) (u20:F.c 20=pLs cE v7.l) (u26:F.c 26=pLs cE v101) (u27:F.c 27=pI v103) (R:Frm) (hR:R.pm=⟨ntOf Tryd.prog 4,[],[]⟩) (hn:(v101.length:Int)=v103) (hb:v101.length≤1000000) (hall:∀y∈v101,nodes y≤1000) (hdl:d.1.length<9223372036854775807):zl (KN w0) Tryd.prog F R zpk (lp Tryd.prog 4 0):=by
 refine zpw hL c d s v1 v2 n3 v5 v7 v8 v11 v12 v14 v15 v101 v103   u0 u1 u2 u3 u4 u5 u6 u7 u8 u9 u10 u11 u12 u13 u17 u18 u19 u20 u26 u27 R hR (fun ⟨ja⟩=>0≤ja) (fun ⟨ja⟩=>(v103 - ja).toNat) (by decide) fun t hJ=>?_
 obtain ⟨ja⟩:=t
 dsimp only at hJ
 have hi:=hJ
 obtain ⟨v501,e501⟩:∃v,(decide (ja<v103))=v:=⟨_,rfl⟩
 cases h502:v501 with
 | true =>
  obtain ⟨n503,x504,s505,s506⟩:∃(n503:Nat) (x504:Xp),ja=(n503:Int)∧v101[n503]?=some x504:=by (have dh502:=of_decide_eq_true (e501.trans h502);have hlt:ja.toNat<v101.length:=(by omega);exact ⟨ja.toNat,_,(Int.toNat_of_nonneg (by omega)).symm,List.getElem?_eq_getElem hlt⟩)
  obtain ⟨v507,e507⟩:∃v,(textX x504)=v:=⟨_,rfl⟩
  obtain ⟨v508,e508⟩:∃v,(textO x504)=v:=⟨_,rfl⟩
  have s509:nodes x504≤1000000:=by exact Nat.le_trans (hall _ (List.mem_of_getElem? s506)) (by decide)
  obtain ⟨v510,e510⟩:∃v,(zO x504 (4:Int))=v:=⟨_,rfl⟩
  have s511:nodes x504≤1000000:=by exact Nat.le_trans (hall _ (List.mem_of_getElem? s506)) (by decide)
  obtain ⟨v512,e512⟩:∃v,((v510 == (0:Int)))=v:=⟨_,rfl⟩
  obtain ⟨v513,e513⟩:∃v,(!(v508 == v512))=v:=⟨_,rfl⟩
  have s514:v513=false:=by (rw [← e513,← e512,← e510,← e508];unfold textO;simp)
  obtain ⟨v515,e515⟩:∃v,(!v508)=v:=⟨_,rfl⟩
  cases h516:v515 with
  | true =>
   obtain ⟨v517,e517⟩:∃v,(IntKind.i64.wrap (ja+(1:Int)))=v:=⟨_,rfl⟩
   refine .inr ⟨⟨v517⟩,Or.inl (⟨v501,n503,x504,v507,v508,v510,v512,v513,v515,v517,e501,e507,e508,e510,e512,e513,e515,e517,h502,s505,s506,s509,s511,s514,h516,rfl,trivial⟩),?_,?_⟩
   all_goals (have dh502:=of_decide_eq_true (e501.trans h502);have x3:v517=ja+1:=(by rw [← e517];exact wri (by omega)))
   ·show (v103 - v517).toNat<(v103 - ja).toNat
    omega
   ·show 0≤v517
    omega
  | false =>
   obtain ⟨v517,e517⟩:∃v,(parE v507)=v:=⟨_,rfl⟩
   obtain ⟨v518,e518⟩:∃v,(parO v507)=v:=⟨_,rfl⟩
   have s519:IxAll w0 v507:=by (rw [← e507];exact zpM (Nat.lt_of_le_of_lt (zpA _) (by decide)))
   have s520:(v507:List UInt8).length≤1000000:=by (rw [← e507];exact Nat.le_trans (zpA _) (by decide))
   obtain ⟨v521,e521⟩:∃v,(!v518)=v:=⟨_,rfl⟩
   have s522:v521=false:=by (have hO:textO x504=true:=(by rw [e508];simpa using e515.trans h516);rw [← e521,← e518,← e507,(zpp hO).1];rfl)
   obtain ⟨v523,e523⟩:∃v,(sameX v517 x504)=v:=⟨_,rfl⟩
   have s524:nodes v517≤1000000:=by (rw [← e517];exact zpn _)
   obtain ⟨v525,e525⟩:∃v,(!v523)=v:=⟨_,rfl⟩
   have s526:v525=false:=by (have hO:textO x504=true:=(by rw [e508];simpa using e515.trans h516);rw [← e525,← e523,← e517,← e507,(zpp hO).2,(zj6 _ _).2 rfl];rfl)
   obtain ⟨v527,e527⟩:∃v,(sameX v517 x504)=v:=⟨_,rfl⟩
   have s528:nodes v517≤1000000:=by (rw [← e517];exact zpn _)
   obtain ⟨v529,e529⟩:∃v,(!v527)=v:=⟨_,rfl⟩
   have s530:v529=false:=by (have hO:textO x504=true:=(by rw [e508];simpa using e515.trans h516);rw [← e529,← e527,← e517,← e507,(zpp hO).2,(zj6 _ _).2 rfl];rfl)
   obtain ⟨v531,e531⟩:∃v,(allX d.1 d.2.1 d.2.2)=v:=⟨_,rfl⟩
   have s532:d.1.length<9223372036854775807:=by exact hdl
   obtain ⟨v533,e533⟩:∃v,((v531.length:Int))=v:=⟨_,rfl⟩
   obtain ⟨v534,e534⟩:∃v,(IntKind.i64.wrap (ja+(1:Int)))=v:=⟨_,rfl⟩
   have L_bk_B:∀R:Frm,R.pm=⟨ntOf Tryd.prog 4,[],[]⟩→zl (KN w0) Tryd.prog (FL [pLs cI c.1,pI c.2.1.1,pI c.2.1.2.1,pI c.2.1.2.2,pI c.2.2.1,pI c.2.2.2.1,pI c.2.2.2.2,pLs cI d.1,pI d.2.1.1,pI d.2.1.2.1,pI d.2.1.2.2,pI d.2.2.1,pI d.2.2.2.1,pI d.2.2.2.2,pS s,pI v1,pI v2,pS v5,pI v7.op,pI v7.n,pLs cE v7.l,pB v8,pS v11,pB v12,pB v14,pB v15,pLs cE v101,pI v103,pI ja,pB v501,pP (cE x504),pI x504.op,pI x504.n,pLs cE x504.l,pS v507,pB v508,pI v510,pB v512,pB v513,pB v515,pI v517.op,pI v517.n,pLs cE v517.l,pB v518,pB v521,pB v523,pB v525,pB v527,pB v529,pLs cE v531,pI v533,pI v534] []) R zpl (lp Tryd.prog 4 1):=fun R hR=>zpQ hL c d s v1 v2 n3 v5 v7 v8 v11 v12 v14 v15 v101 v103 ja v501 n503 x504 v507 v508 v510 v512 v513 v515 v517 v518 v521 v523 v525 v527 v529 v531 v533 h502 s514 h516 s522 s526 s530  rfl rfl rfl rfl rfl rfl rfl rfl rfl rfl rfl rfl rfl rfl rfl rfl rfl rfl rfl rfl rfl rfl rfl rfl rfl rfl rfl rfl rfl rfl rfl rfl rfl rfl rfl rfl rfl rfl rfl rfl rfl rfl rfl R hR e533 (by rw [← e531];exact (Nat.le_of_ble_eq_true rfl)) (hall _ (List.mem_of_getElem? s506)) (by have hO:textO x504=true:=(by rw [e508];simpa using e515.trans h516);exact hO) e507 (by rw [← e531];exact zgY)
   refine .inr ⟨⟨v534⟩,Or.inr (⟨v501,n503,x504,v507,v508,v510,v512,v513,v515,v517,v518,v521,v523,v525,v527,v529,v531,v533,v534,e501,e507,e508,e510,e512,e513,e515,e517,e518,e521,e523,e525,e527,e529,e531,e533,e534,h502,s505,s506,s509,s511,s514,h516,s519,s520,s522,s524,s526,s528,s530,s532,L_bk_B,rfl,trivial⟩),?_,?_⟩
   all_goals (have dh502:=of_decide_eq_true (e501.trans h502);have x3:v534=ja+1:=(by rw [← e534];exact wri (by omega)))
   ·show (v103 - v534).toNat<(v103 - ja).toNat
    omega
   ·show 0≤v534
    omega
 | false =>
  refine .inl (⟨v501,e501,h502,trivial⟩)
  all_goals trivial
theorem zpC {w0:World} (c:(List Int×(Int×Int×Int)×(Int×Int×Int))) (d:(List Int×(Int×Int×Int)×(Int×Int×Int))) (s:(List UInt8)) (hL:LibT w0) (v1:Int) (v2:Int) (n3:Nat) (v5:(List UInt8)) (v7:Xp) (v8:Bool) (v11:(List UInt8)) (v12:Bool) (v14:Bool) (v15:Bool) (v101:(List Xp)) (v103:Int) (e1:(((s:List UInt8).length:Int))=v1) (e2:((if (40:Int)<v1 then (40:Int) else v1))=v2) (e5:((s:List UInt8).take n3)=v5) (e7:(parE v5)=v7) (e8:(parO v5)=v8) (e11:(textX v7)=v11) (e12:(textO v7)=v12) (e14:(!v12)=v14) (e15:(!((v11:List UInt8) == v5))=v15) (e101:(allX c.1 c.2.1 c.2.2)=v101) (e103:((v101.length:Int))=v103) (s4:v2=(n3:Int)) (s6:n3≤(s:List UInt8).length) (s9:IxAll w0 v5) (s10:(v5:List UInt8).length≤1000000) (s13:nodes v7≤1000000) (h16:v8=true) (s17:v14=false) (s18:v15=false) (s102:c.1.length<9223372036854775807) (L_bk_A:∀R:Frm,R.pm=⟨ntOf Tryd.prog 4,[],[]⟩→zl (KN w0) Tryd.prog (FL [pLs cI c.1,pI c.2.1.1,pI c.2.1.2.1,pI c.2.1.2.2,pI c.2.2.1,pI c.2.2.2.1,pI c.2.2.2.2,pLs cI d.1,pI d.2.1.1,pI d.2.1.2.1,pI d.2.1.2.2,pI d.2.2.1,pI d.2.2.2.1,pI d.2.2.2.2,pS s,pI v1,pI v2,pS v5,pI v7.op,pI v7.n,pLs cE v7.l,pB v8,pS v11,pB v12,pB v14,pB v15,pLs cE v101,pI v103] []) R zpk (lp Tryd.prog 4 0)):Fun (KN w0) Tryd.prog 4 [.o (.g [pLs cI c.1,pI c.2.1.1,pI c.2.1.2.1,pI c.2.1.2.2,pI c.2.2.1,pI c.2.2.2.1,pI c.2.2.2.2]),.o (.g [pLs cI d.1,pI d.2.1.1,pI d.2.1.2.1,pI d.2.1.2.2,pI d.2.2.1,pI d.2.2.2.1,pI d.2.2.2.2]),.o (.c (pS s))] (.o (.c (pV (.bool true)))):=
 zi (qe (F:=FL [pLs cI c.1,pI c.2.1.1,pI c.2.1.2.1,pI c.2.1.2.2,pI c.2.2.1,pI c.2.2.2.1,pI c.2.2.2.2,pLs cI d.1,pI d.2.1.1,pI d.2.1.2.1,pI d.2.1.2.2,pI d.2.2.1,pI d.2.2.2.1,pI d.2.2.2.2,pS s,pI v1,pI v2,pS v5,pI v7.op,pI v7.n,pLs cE v7.l,pB v8,pS v11,pB v12,pB v14,pB v15,pLs cE v101,pI v103] []) (C:=[(1000003,.call ⟨8,[],[],.o (.c (.k (.bool true))),[]⟩),
  (1000007,.op (.len [9] 3) [yh 14] [] (yh 15)),
  (1000008,.op (.min [3,3] 3) [yh 15,LF (.k (.int .i64 40))] [] (yh 16)),
  (1000009,.op (.sc 9 false true false) [yh 14,yh 16] [] (yh 17)),
  (1000012,.call ⟨17,[yh 17],[],.t [.g [.h 18,.h 19,.h 20],.c (.h 21)],[]⟩),
  (1000020,.call ⟨18,[.o (.g [.h 18,.h 19,.h 20])],[],.t [.c (.h 22),.c (.h 23)],[]⟩),
  (10021,.fb 21 true),
  (1000029,.un .not (yh 23) (yh 24)),
  (10024,.fb 24 false),
  (1000033,.bin .neq 9 (yh 22) (yh 17) (yh 25)),
  (10025,.fb 25 false),
  (1000037,.call ⟨9,[.o (.g [.h 0,.h 1,.h 2,.h 3,.h 4,.h 5,.h 6])],[],yh 26,[]⟩),
  (1000038,.op (.len [28] 3) [yh 26] [] (yh 27))]) (k:=⟨4,[.o (.g [.h 0,.h 1,.h 2,.h 3,.h 4,.h 5,.h 6]),.o (.g [.h 7,.h 8,.h 9,.h 10,.h 11,.h 12,.h 13]),yh 14],[],.o (.c (.k (.bool true))),[]⟩) ⟨[zpk],[],0⟩ [] 0 (zg ⟨(ze zj),za,za,za,za,za,za,(ze zj),za,za,za,za,za,za,za,za,za,za,za,za,(ze (zf rfl)),za,za,za,za,za,(ze (zf rfl)),za,trivial⟩) ⟨zh (zmu hL),
  e_op1 (zb rfl) (zb rfl) (fun W=>by rw [← e1];exact zos (by kernel_rfl) W),
  e_op2 (zb rfl) zd (zb rfl) (fun W=>by rw [← e2];exact zaB W),
  e_op2 (zb rfl) (zb rfl) (zb rfl) (fun W=>by rw [← e5];exact zmJ (by kernel_rfl) s4 s6 W),
  zh (zcg hL v5 v7 v8 e7 e8 s9 s10),
  zh (zmS hL v7 v11 v12 e11 e12 s13),
  e_fbv h16,
  e_un (zb rfl) (zb rfl) (fun W=>by rw [← e14];exact r_not W),
  e_fbv s17,
  e_bin (zb rfl) (zb rfl) (zb rfl) (fun W X Y=>by rw [← e15];exact r_sne W X Y),
  e_fbv s18,
  zh (zmT c v101 e101 s102),
  zn (E:=31) (by kernel_rfl) (zc rfl) (zb (by rw [← e103];rfl)),
  trivial⟩ mixed trivial (fun R hR p hp s hs=>by
 have hl:zH (qz Tryd.prog 4)=[(8,lp Tryd.prog 4 0),(18,lp Tryd.prog 4 1)]:=by kernel_rfl
 rw [hl] at hp
 simp only [List.mem_cons,List.not_mem_nil,or_false] at hp
 rcases hp with rfl | rfl
 ·have e:s=zpk:=(Option.some.inj hs).symm
  subst e;exact L_bk_A R hR
 ·cases hs) (by kernel_rfl))
theorem zpD {w0:World} (c:(List Int×(Int×Int×Int)×(Int×Int×Int))) (d:(List Int×(Int×Int×Int)×(Int×Int×Int))) (s:(List UInt8)) (hL:LibT w0) (v1:Int) (v2:Int) (n3:Nat) (v5:(List UInt8)) (v7:Xp) (v8:Bool) (v11:(List UInt8)) (v12:Bool) (v14:Bool) (v15:Bool) (v101:(List Xp)) (v103:Int) (e1:(((s:List UInt8).length:Int))=v1) (e2:((if (40:Int)<v1 then (40:Int) else v1))=v2) (e5:((s:List UInt8).take n3)=v5) (e7:(parE v5)=v7) (e8:(parO v5)=v8) (e11:(textX v7)=v11) (e12:(textO v7)=v12) (e14:(!v12)=v14) (e15:(!((v11:List UInt8) == v5))=v15) (e101:(allX c.1 c.2.1 c.2.2)=v101) (e103:((v101.length:Int))=v103) (s4:v2=(n3:Int)) (s6:n3≤(s:List UInt8).length) (s9:IxAll w0 v5) (s10:(v5:List UInt8).length≤1000000) (s13:nodes v7≤1000000) (h16:v8=false) (s102:c.1.length<9223372036854775807) (L_bk_A:∀R:Frm,R.pm=⟨ntOf Tryd.prog 4,[],[]⟩→zl (KN w0) Tryd.prog (FL [pLs cI c.1,pI c.2.1.1,pI c.2.1.2.1,pI c.2.1.2.2,pI c.2.2.1,pI c.2.2.2.1,pI c.2.2.2.2,pLs cI d.1,pI d.2.1.1,pI d.2.1.2.1,pI d.2.1.2.2,pI d.2.2.1,pI d.2.2.2.1,pI d.2.2.2.2,pS s,pI v1,pI v2,pS v5,pI v7.op,pI v7.n,pLs cE v7.l,pB v8,pS v11,pB v12,pB v14,pB v15,pLs cE v101,pI v103] []) R zpk (lp Tryd.prog 4 0)):Fun (KN w0) Tryd.prog 4 [.o (.g [pLs cI c.1,pI c.2.1.1,pI c.2.1.2.1,pI c.2.1.2.2,pI c.2.2.1,pI c.2.2.2.1,pI c.2.2.2.2]),.o (.g [pLs cI d.1,pI d.2.1.1,pI d.2.1.2.1,pI d.2.1.2.2,pI d.2.2.1,pI d.2.2.2.1,pI d.2.2.2.2]),.o (.c (pS s))] (.o (.c (pV (.bool true)))):=
 zi (qe (F:=FL [pLs cI c.1,pI c.2.1.1,pI c.2.1.2.1,pI c.2.1.2.2,pI c.2.2.1,pI c.2.2.2.1,pI c.2.2.2.2,pLs cI d.1,pI d.2.1.1,pI d.2.1.2.1,pI d.2.1.2.2,pI d.2.2.1,pI d.2.2.2.1,pI d.2.2.2.2,pS s,pI v1,pI v2,pS v5,pI v7.op,pI v7.n,pLs cE v7.l,pB v8,pS v11,pB v12,pB v14,pB v15,pLs cE v101,pI v103] []) (C:=[(1000003,.call ⟨8,[],[],.o (.c (.k (.bool true))),[]⟩),
  (1000007,.op (.len [9] 3) [yh 14] [] (yh 15)),
  (1000008,.op (.min [3,3] 3) [yh 15,LF (.k (.int .i64 40))] [] (yh 16)),
  (1000009,.op (.sc 9 false true false) [yh 14,yh 16] [] (yh 17)),
  (1000012,.call ⟨17,[yh 17],[],.t [.g [.h 18,.h 19,.h 20],.c (.h 21)],[]⟩),
  (1000020,.call ⟨18,[.o (.g [.h 18,.h 19,.h 20])],[],.t [.c (.h 22),.c (.h 23)],[]⟩),
  (10021,.fb 21 false),
  (1000037,.call ⟨9,[.o (.g [.h 0,.h 1,.h 2,.h 3,.h 4,.h 5,.h 6])],[],yh 26,[]⟩),
  (1000038,.op (.len [28] 3) [yh 26] [] (yh 27))]) (k:=⟨4,[.o (.g [.h 0,.h 1,.h 2,.h 3,.h 4,.h 5,.h 6]),.o (.g [.h 7,.h 8,.h 9,.h 10,.h 11,.h 12,.h 13]),yh 14],[],.o (.c (.k (.bool true))),[]⟩) ⟨[zpk],[],0⟩ [] 0 (zg ⟨(ze zj),za,za,za,za,za,za,(ze zj),za,za,za,za,za,za,za,za,za,za,za,za,(ze (zf rfl)),za,za,za,za,za,(ze (zf rfl)),za,trivial⟩) ⟨zh (zmu hL),
  e_op1 (zb rfl) (zb rfl) (fun W=>by rw [← e1];exact zos (by kernel_rfl) W),
  e_op2 (zb rfl) zd (zb rfl) (fun W=>by rw [← e2];exact zaB W),
  e_op2 (zb rfl) (zb rfl) (zb rfl) (fun W=>by rw [← e5];exact zmJ (by kernel_rfl) s4 s6 W),
  zh (zcg hL v5 v7 v8 e7 e8 s9 s10),
  zh (zmS hL v7 v11 v12 e11 e12 s13),
  e_fbv h16,
  zh (zmT c v101 e101 s102),
  zn (E:=31) (by kernel_rfl) (zc rfl) (zb (by rw [← e103];rfl)),
  trivial⟩ mixed trivial (fun R hR p hp s hs=>by
 have hl:zH (qz Tryd.prog 4)=[(8,lp Tryd.prog 4 0),(18,lp Tryd.prog 4 1)]:=by kernel_rfl
 rw [hl] at hp
 simp only [List.mem_cons,List.not_mem_nil,or_false] at hp
 rcases hp with rfl | rfl
 ·have e:s=zpk:=(Option.some.inj hs).symm
  subst e;exact L_bk_A R hR
 ·cases hs) (by kernel_rfl))
theorem zp2 {w0:World} (hL:LibT w0) (c d:List Int×(Int×Int×Int)×(Int×Int×Int)) (s:List UInt8) (hcl:c.1.length<9223372036854775807) (hdl:d.1.length<9223372036854775807) (hsl:s.length<9223372036854775807):Fun (KN w0) Tryd.prog 4 [.o (.g [pLs cI c.1,pI c.2.1.1,pI c.2.1.2.1,pI c.2.1.2.2,pI c.2.2.1,pI c.2.2.2.1,pI c.2.2.2.2]),.o (.g [pLs cI d.1,pI d.2.1.1,pI d.2.1.2.1,pI d.2.1.2.2,pI d.2.2.1,pI d.2.2.2.1,pI d.2.2.2.2]),.o (.c (pS s))] (.o (.c (pV (.bool true)))):=by
 obtain ⟨v1,e1⟩:∃v,(((s:List UInt8).length:Int))=v:=⟨_,rfl⟩
 obtain ⟨v2,e2⟩:∃v,((if (40:Int)<v1 then (40:Int) else v1))=v:=⟨_,rfl⟩
 obtain ⟨n3,s4⟩:∃(n3:Nat),v2=(n3:Int):=by (refine ⟨v2.toNat,?_⟩;have q:=e2;rw [← e1] at q;split at q<;>omega)
 obtain ⟨v5,e5⟩:∃v,((s:List UInt8).take n3)=v:=⟨_,rfl⟩
 have s6:n3≤(s:List UInt8).length:=by (have q:=e2;rw [← e1] at q;split at q<;>omega)
 obtain ⟨v7,e7⟩:∃v,(parE v5)=v:=⟨_,rfl⟩
 obtain ⟨v8,e8⟩:∃v,(parO v5)=v:=⟨_,rfl⟩
 have s9:IxAll w0 v5:=by (have q:=e2;rw [← e1] at q;rw [← e5];have l:=List.length_take_le n3 s;exact zpM (by split at q<;>omega))
 have s10:(v5:List UInt8).length≤1000000:=by (have q:=e2;rw [← e1] at q;rw [← e5];have l:=List.length_take_le n3 s;split at q<;>omega)
 obtain ⟨v11,e11⟩:∃v,(textX v7)=v:=⟨_,rfl⟩
 obtain ⟨v12,e12⟩:∃v,(textO v7)=v:=⟨_,rfl⟩
 have s13:nodes v7≤1000000:=by (rw [← e7];exact zpn _)
 obtain ⟨v14,e14⟩:∃v,(!v12)=v:=⟨_,rfl⟩
 obtain ⟨v15,e15⟩:∃v,(!((v11:List UInt8) == v5))=v:=⟨_,rfl⟩
 cases h16:v8 with
 | true =>
  have s17:v14=false:=by (have hp:=zpq (e8.trans h16);rw [← e14,← e12,← e7,hp.1];rfl)
  have s18:v15=false:=by (have hp:=zpq (e8.trans h16);rw [← e15,← e11,← e7,hp.2];simp)
  obtain ⟨v101,e101⟩:∃v,(allX c.1 c.2.1 c.2.2)=v:=⟨_,rfl⟩
  have s102:c.1.length<9223372036854775807:=by exact hcl
  obtain ⟨v103,e103⟩:∃v,((v101.length:Int))=v:=⟨_,rfl⟩
  refine Fun.imp (zpC c d s hL v1 v2 n3 v5 v7 v8 v11 v12 v14 v15 v101 v103 e1 e2 e5 e7 e8 e11 e12 e14 e15 e101 e103 s4 s6 s9 s10 s13 h16 s17 s18 s102 (fun R hR=>zpx hL c d s v1 v2 n3 v5 v7 v8 v11 v12 v14 v15 v101 v103   rfl rfl rfl rfl rfl rfl rfl rfl rfl rfl rfl rfl rfl rfl rfl rfl rfl rfl rfl rfl R hR e103 (by rw [← e101];exact (Nat.le_of_ble_eq_true rfl)) (by rw [← e101];exact zgY) hdl)) (fun _ _ _ h=>h) (fun v W D h=>?_)
  exact h
 | false =>
  obtain ⟨v101,e101⟩:∃v,(allX c.1 c.2.1 c.2.2)=v:=⟨_,rfl⟩
  have s102:c.1.length<9223372036854775807:=by exact hcl
  obtain ⟨v103,e103⟩:∃v,((v101.length:Int))=v:=⟨_,rfl⟩
  refine Fun.imp (zpD c d s hL v1 v2 n3 v5 v7 v8 v11 v12 v14 v15 v101 v103 e1 e2 e5 e7 e8 e11 e12 e14 e15 e101 e103 s4 s6 s9 s10 s13 h16 s102 (fun R hR=>zpx hL c d s v1 v2 n3 v5 v7 v8 v11 v12 v14 v15 v101 v103   rfl rfl rfl rfl rfl rfl rfl rfl rfl rfl rfl rfl rfl rfl rfl rfl rfl rfl rfl rfl R hR e103 (by rw [← e101];exact (Nat.le_of_ble_eq_true rfl)) (by rw [← e101];exact zgY) hdl)) (fun _ _ _ h=>h) (fun v W D h=>?_)
  exact h
theorem zpV {w0:World} (hL:LibT w0) (l:List Int) (a b c d e f:Int) (l2:List Int) (a2 b2 c2 d2 e2 f2:Int) (s:List UInt8) (hl:l.length<9223372036854775807) (hl2:l2.length<9223372036854775807) (hs:s.length<9223372036854775807):Fun (KN w0) Tryd.prog 4 [.o (.g [pLs cI l,pI a,pI b,pI c,pI d,pI e,pI f]),.o (.g [pLs cI l2,pI a2,pI b2,pI c2,pI d2,pI e2,pI f2]),.o (.c (pS s))] (.o (.c (pV (.bool true)))):=zp2 hL (l,(a,b,c),(d,e,f)) (l2,(a2,b2,c2),(d2,e2,f2)) s hl hl2 hs
end Go.Proofs.YtdkofaajcpcjkaaDoor
