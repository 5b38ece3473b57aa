/-
  Merged: NumBase, NumA, NumB, NumC.
-/
import Derived.Test.YtjcegdldgjphiaaGreatDoorRows
import Derived.Test.YtjcegdldgjphiaaGreatDoorGpAC
import Derived.WalkKit
import Derived.WalkSpells
import Derived.WalkLawsBesides
import Derived.Handy
import Derived.Lib.Hide
import Derived.Deep.AppendLies
import Derived.Deep.Draws
import Derived.Deep.QuietTactic
import Derived.BigQuiet
import Derived.Outline
import Derived.Laws.AppendOwn
set_option linter.unusedSimpArgs false
set_option linter.unusedVariables false
set_option maxHeartbeats 400000
namespace Go.Proofs.YtjcegdldgjphiaaGreatDoor
open Go.RowKit
theorem zaI (a:Addr) (n:Nat):(a.add n).block=a.block:=by unfold Addr.add;split<;>rfl
def Reads (w:World) (B size:Nat) (A:Option Addr) (n:Nat) (xs:List Value):Prop:=
 xs.length=n*size∧(0<n→∃ad,A=some ad∧ad.block<B∧∀j u,xs[j]?=some u→w.cell? (ad.add j)=some u)
section
variable {w w':World} {B B' size n:Nat} {A:Option Addr} {xs:List Value}
theorem Reads.none_:Reads w B size A 0 []:=⟨by simp,fun h=>absurd h (by omega)⟩
theorem Reads.at_ {k:Nat} (h:Reads w B 1 A n xs) (hk:k<n):∃ad u,A=some ad∧ad.block<B∧xs[k]?=some u∧w.cell? (ad.add k)=some u:=by
 obtain ⟨ad,e,hb,hc⟩:=h.2 (by omega)
 have hl:k<xs.length:=by have:=h.1;omega
 exact ⟨ad,xs[k],e,hb,List.getElem?_eq_getElem hl,hc k _ (List.getElem?_eq_getElem hl)⟩
theorem Reads.keep (h:Reads w B size A n xs) (hk:∀p:Addr,p.block<B→w'.cell? p=w.cell? p):Reads w' B size A n xs:=
 ⟨h.1,fun hn=>by
  obtain ⟨ad,e,hb,hc⟩:=h.2 hn
  exact ⟨ad,e,hb,fun j u hu=>(hk _ (by rw [zaI];exact hb)).trans (hc j u hu)⟩⟩
theorem Reads.more (h:Reads w B size A n xs) (hB:B≤B'):Reads w B' size A n xs:=
 ⟨h.1,fun hn=>by
  obtain ⟨ad,e,hb,hc⟩:=h.2 hn
  exact ⟨ad,e,by omega,hc⟩⟩
theorem Reads.below (h:Reads w B size A n xs) (hb:Below B w w'):Reads w' B size A n xs:=h.keep fun _ hp=>hb.cell hp
theorem Reads.drew (h:Reads w B size A n xs):Reads w.drew B size A n xs:=h
theorem Reads.drewN (h:Reads w B size A n xs) (k:Nat):Reads (w.drewN k) B size A n xs:=h
theorem Reads.alloc (h:Reads w B size A n xs) (hB:B≤w.heap.size) (o:Obj):Reads (w.alloc o) B size A n xs:=h.keep fun p hp=>World.cell?_alloc_lt w o p (by omega)
theorem Reads.setCell (h:Reads w B size A n xs) {p:Addr} (hB:B≤p.block) (u:Value):Reads (w.setCell p u) B size A n xs:=
 h.keep fun q hq=>World.cell?_setCell_other w p q u (fun e=>by subst e;omega)
end
theorem bcell {W w1:World} (hb:Below W.heap.size W w1):(∀b o,b<W.heap.size→w1.cell? ⟨b,o,none⟩=W.cell? ⟨b,o,none⟩)∧(∀b o,b<W.heap.size→w1.frozen? ⟨b,o,none⟩=W.frozen? ⟨b,o,none⟩):=
 ⟨fun b o h=>hb.cell (p:=⟨b,o,none⟩) h,fun b o h=>hb.frozen (p:=⟨b,o,none⟩) h⟩
theorem Below.via {B:Nat} {w0 w w':World} (h0:Below B w0 w) (hB:B≤w.heap.size) (h:Below w.heap.size w w'):Below B w0 w':=h0.trans (h.mono hB)
theorem zuf {k:IntKind} {a b:Int} (h:a=b):Ending.returned (.int k a)=.returned (.int k b):=by rw [h]
theorem zX {B:Nat} {a w:World} (h:Below B a w) (n:Nat):Below B a (w.drewN n):=⟨h.os,h.tape,h.output,h.size,h.block⟩
theorem zmQ {P:Program} {f:FuncId} {args:Array Value} {w:World} {n:Nat} {v:Value}
  (h:Calls P f args (w.drewN n) fun e w'=>e=.returned v∧w.drewN n=w'):Calls P f args (w.drewN n) fun e w''=>e=.returned v∧∃m,w''=w.drewN m:=
 h.mono fun _ _ ⟨he,hm⟩=>⟨he,n,hm.symm⟩
theorem zmI {a w:World} {row:Option Nat} (h:a.grownBy w row) (n:Nat):a.grownBy (w.drewN n) row:=⟨h.os,h.tape,h.output,h.size,h.block⟩
theorem zbg {a w:World} {g:Nat} (h:a.grownBy w (some g)) {p:Addr} (hp:p.block=g∨a.heap.size≤p.block) (u:Value):a.grownBy (w.setCell p u) (some g):=
 ⟨h.os,h.tape,h.output,by simpa [World.setCell] using h.size,fun i hi hne=>(Below.heap_setCell w p u i (by
  rintro rfl
  rcases hp with hp | hp
  ·exact hne (by rw [hp])
  ·omega)).trans (h.block i hi hne)⟩
theorem zI (w:World) (o:Obj) (g:Nat) (hg:g=w.heap.size):(w.alloc o).heap[g]?=some o:=by subst hg;exact heap_alloc_new w o
theorem zeH {w:World} {o o':Obj} {g:Nat} (h:w.heap[g]?=some o):(w.alloc o').heap[g]?=some o:=by
 have hl:g<w.heap.size:=by
  rcases Nat.lt_or_ge g w.heap.size with h0 | h0
  ·exact h0
  ·rw [Array.getElem?_eq_none h0] at h;cases h
 exact (Below.heap_alloc w o' g hl).trans h
theorem zaL {w:World} {g i:Nat} {cs:Array Value} {t:TypeId} (h:w.heap[g]?=some (.cells cs t (0,0))):w.cell? ⟨g,i,none⟩=cs[i]?:=cell_of_row w g i cs t (0,0) h
theorem zbn {w:World} {g i:Nat} {cs:Array Value} {t:TypeId} (h:w.heap[g]?=some (.cells cs t (0,0))):w.frozen? ⟨g,i,none⟩=false:=by simp [World.frozen?,h]
theorem zcF {B:Nat} {a w w':World} {gd:Nat} (h:Below B a w) (G:w.grownBy w' (some gd)) (hB:B≤w.heap.size) (hg:B≤gd):Below B a w':=h.grown G hB (fun k e=>by cases e;exact hg)
theorem zaB {w:World} {g:Nat} {o:Obj} (h:w.heap[g]?=some o):g<w.heap.size:=by
 rcases Nat.lt_or_ge g w.heap.size with h0 | h0
 ·exact h0
 ·rw [Array.getElem?_eq_none h0] at h;cases h
def u32s (l:List Nat):List Value:=l.map fun (d:Nat)=>Value.int .u32 (d:Int)
theorem qt (l:List Nat):(u32s l).length=l.length:=by simp [u32s]
theorem zmd {l:List Nat} {k:Nat} {u:Value} (h:(u32s l)[k]?=some u) (hk:k<l.length):u=.int .u32 (l[k]:Nat):=by
 unfold u32s at h
 rw [List.getElem?_map,List.getElem?_eq_getElem hk] at h
 simpa using h.symm
def RD (w:World) (B:Nat) (A:Option Addr) (n:Nat) (l:List Nat):Prop:=Reads w B 1 A n (u32s l)∧Dig l
theorem RD.len {w:World} {B n:Nat} {A:Option Addr} {l:List Nat} (h:RD w B A n l):l.length=n:=by have:=h.1.1;rw [qt] at this;omega
theorem RD.at_ {w:World} {B n k:Nat} {A:Option Addr} {l:List Nat} (h:RD w B A n l) (hk:k<n):∃(ad:Addr) (hl:k<l.length),A=some ad∧ad.block<B∧w.cell? (ad.add k)=some (.int .u32 (l[k]:Nat))∧l[k]<4294967296:=by
 obtain ⟨ad,u,e,hb,hu,hc⟩:=h.1.at_ hk
 have hl:k<l.length:=by have:=h.len;omega
 rw [zmd hu hl] at hc
 exact ⟨ad,hl,e,hb,hc,h.2 _ (List.getElem_mem hl)⟩
theorem RD.below {w w':World} {B n:Nat} {A:Option Addr} {l:List Nat} (h:RD w B A n l) (hb:Below B w w'):RD w' B A n l:=⟨h.1.below hb,h.2⟩
theorem RD.more {w:World} {B B' n:Nat} {A:Option Addr} {l:List Nat} (h:RD w B A n l) (hB:B≤B'):RD w B' A n l:=⟨h.1.more hB,h.2⟩
theorem RD.alloc {w:World} {B n:Nat} {A:Option Addr} {l:List Nat} (h:RD w B A n l) (hB:B≤w.heap.size) (o:Obj):RD (w.alloc o) B A n l:=⟨h.1.alloc hB o,h.2⟩
theorem RD.none_ {w:World} {B:Nat}:RD w B none 0 []:=⟨Reads.none_,zj0⟩
theorem RD.take {w:World} {B n:Nat} {A:Option Addr} {l:List Nat} (h:RD w B A n l) {k:Nat} (hk:k≤n):RD w B A k (l.take k):=by
 refine ⟨⟨by rw [qt,List.length_take,h.len];omega,fun h0=>?_⟩,zaV h.2 k⟩
 obtain ⟨ad,e,hb,hc⟩:=h.1.2 (by omega)
 refine ⟨ad,e,hb,fun j u hu=>hc j u ?_⟩
 unfold u32s at hu ⊢
 rw [List.map_take,List.getElem?_take] at hu
 split at hu
 ·exact hu
 ·cases hu
end Go.Proofs.YtjcegdldgjphiaaGreatDoor
namespace Go.Proofs.YtjcegdldgjphiaaGreatDoor
open Go.RowKit
theorem zbj (A:Option Addr) (n c B:Nat) (l:List Nat) (w:World) (h:RD w B A n l) (hn:n≤c) (hm:c≤9223372036854775807) :
  Calls Tryz.prog 119 #[.slice A n c] w fun e w'=>e=.returned (.slice A (trimL l).length c)∧w=w':=by
 have HL:=Lib.hid h.len
 have H:=Lib.hid h
 clear h
 go_enter Tryz.func119,Tryz.ntmps119
 go_wp2
 go_loop [0] (fun v=>∃k:Nat,k≤n∧v=.slice A k c∧Hid (trimL (l.take k)=trimL l)) (fun v=>match v with | .slice _ k _=>k | _=>0)
 case atStart=>exact ⟨n,Nat.le_refl _,rfl,by unfold Hid;rw [List.take_of_length_le (by have:=HL.out;omega)]⟩
 case round =>
  obtain ⟨k,hk,rfl,hT⟩:=hrel
  cases k with
  | zero =>
   go_wp2
   go_ret
   have e:(trimL l).length=0:=by rw [← hT.out];simp [trimL]
   rw [e]
   exact ⟨rfl,rfl⟩
  | succ j =>
   obtain ⟨ad,hl,rfl,hb,hc,hd⟩:=H.out.at_ (k:=j) (by omega)
   by_cases hz:l[j]=0
   ·rw [hz] at hc
    have hT':Hid (trimL (l.take j)=trimL l):=by unfold Hid;rw [← zdn hl hz];exact hT.out
    clear hz hd
    go_wp2
    go_round
    case rel=>exact ⟨j,by omega,rfl,hT'⟩
    case measure=>simp
   ·have hz':((l[j]:Int) == 0)=false:=by simp;exact hz
    go_wp2
    go_ret
    have e:(trimL l).length=j+1:=by
     rw [← hT.out,zef hl hz,List.length_take];omega
    rw [e]
    exact ⟨rfl,rfl⟩
end Go.Proofs.YtjcegdldgjphiaaGreatDoor
namespace Go.Proofs.YtjcegdldgjphiaaGreatDoor
open Go.RowKit
def zw (neg:Bool) (l:List Nat):Bool:=(l.isEmpty && !neg) || (!l.isEmpty && decide (l.length≤64) && !(l.getLast? == some 0))
theorem za5 (A:Option Addr) (n c B:Nat) (l:List Nat) (w:World) (h:RD w B A n l) (hn:n≤c) (hm:c≤9223372036854775807) :
  Calls Tryz.prog 107 #[.slice A n c] w fun e w'=>e=.returned (.slice A (trimL l).length c)∧w=w':=by
 have HL:=Lib.hid h.len
 have H:=Lib.hid h
 clear h
 go_enter Tryz.func107,Tryz.ntmps107
 go_wp2
 go_loop [3] (fun v=>∃k:Nat,k≤n∧v=.int .i64 k∧Hid (trimL (l.take k)=trimL l)) (fun v=>(intOf v).toNat)
 case atStart=>exact ⟨n,Nat.le_refl _,rfl,by unfold Hid;rw [List.take_of_length_le (by have:=HL.out;omega)]⟩
 case round =>
  obtain ⟨k,hk,rfl,hT⟩:=hrel
  cases k with
  | zero =>
   go_wp2
   go_ret
   have e:(trimL l).length=0:=by rw [← hT.out];simp [trimL]
   rw [e]
   exact ⟨rfl,rfl⟩
  | succ j =>
   obtain ⟨ad,hl,rfl,hb,hc,hd⟩:=H.out.at_ (k:=j) (by omega)
   by_cases hz:l[j]=0
   ·rw [hz] at hc
    have hT':Hid (trimL (l.take j)=trimL l):=by unfold Hid;rw [← zdn hl hz];exact hT.out
    clear hz hd
    go_wp2
    go_round
    case rel=>exact ⟨j,by omega,by simp,hT'⟩
    case measure=>simp [intOf]
   ·have hz':((l[j]:Int) == 0)=false:=by simp;exact hz
    go_wp2
    go_ret
    have e:(trimL l).length=j+1:=by
     rw [← hT.out,zef hl hz,List.length_take];omega
    rw [e]
    exact ⟨rfl,rfl⟩
theorem zgb {neg:Bool} {l:List Nat} (h:l.length=0):zw neg l=!neg:=by
 rw [List.eq_nil_of_length_eq_zero h];simp [zw]
theorem zeX {neg:Bool} {l:List Nat} {j:Nat} (h:l.length=j+1) (hj:j<l.length):zw neg l=(decide (j+1≤64) && !(l[j] == 0)):=by
 have h0:l.isEmpty=false:=by cases l with
  | nil=>simp at h
  | cons=>rfl
 have h1:l.getLast?=some l[j]:=by
  rw [List.getLast?_eq_getElem?,h];exact List.getElem?_eq_getElem hj
 unfold zw
 rw [h1,h]
 simp [h0]
theorem zbX {a b:Bool} (h:a=b):Ending.returned (.bool a)=.returned (.bool b):=by rw [h]
theorem zdj (neg:Bool) (A:Option Addr) (n c B:Nat) (l:List Nat) (w:World) (h:RD w B A n l) (hB:B≤w.heap.size) (hn:n≤c) :
  Calls Tryz.prog 96 #[.agg #[.bool neg,.slice A n c]] w fun e w'=>e=.returned (.bool (zw neg l))∧Below w.heap.size w w':=by
 have HL:=Lib.hid h.len
 have H:=Lib.hid h
 clear h
 go_enter Tryz.func96,Tryz.ntmps96
 cases n with
 | zero =>
  cases neg<;>go_wp2
  all_goals go_ret
  all_goals refine ⟨zbX ?_,by go_grown⟩
  all_goals rw [zgb HL.out]
  all_goals rfl
 | succ j =>
  obtain ⟨ad,hl,rfl,hb,hc,hd⟩:=H.out.at_ (k:=j) (by omega)
  have R:=Lib.hid (zeX (neg:=neg) HL.out hl)
  have hca:∀o,(w.alloc o).cell? (ad.add j)=some (.int .u32 (l[j]:Nat)):=fun o=>(World.cell?_alloc_lt w o _ (by rw [zaI];omega)).trans hc
  clear hc hb hd
  by_cases hz:l[j]=0
  ·rw [hz] at hca R
   go_wp2
   all_goals go_ret
   all_goals refine ⟨zbX ?_,by go_grown⟩
   all_goals rw [R.out]
   all_goals simp
   all_goals omega
  ·have hz':((l[j]:Int) != 0)=true:=by simp;exact hz
   go_wp2
   all_goals go_ret
   all_goals refine ⟨zbX ?_,by go_grown⟩
   all_goals rw [R.out]
   all_goals simp [hz]
   all_goals omega
end Go.Proofs.YtjcegdldgjphiaaGreatDoor
namespace Go.Proofs.YtjcegdldgjphiaaGreatDoor
open Go.RowKit
theorem zoZ (a:Nat) (ha:a<4294967296):(BitVec.ofInt 32 (a:Int)).toNat=a:=by
 rw [BitVec.ofInt_natCast,BitVec.toNat_ofNat];exact Nat.mod_eq_of_lt (by omega)
theorem bor32 (a b:Nat) (ha:a<4294967296) (hb:b<4294967296):bits .or .u32 (a:Int) (b:Int)=((a ||| b:Nat):Int):=by
 have hx:a ||| b<2 ^ 32:=Nat.or_lt_two_pow (by omega) (by omega)
 show IntKind.u32.wrap ((BitVec.ofInt 32 (a:Int) ||| BitVec.ofInt 32 (b:Int)).toNat:Int)=_
 rw [BitVec.toNat_or,zoZ a ha,zoZ b hb,IntKind.wrap_u32]
 omega
theorem znZ (x y c:Nat) (w:World) (hx:x<4294967296) (hy:y<4294967296) (hc:c≤1) :
  Calls Tryz.prog 149 #[.int .u32 x,.int .u32 y,.int .u32 c] w fun e w'=>e=.returned (.tuple #[.int .u32 (((x+y+c)%4294967296:Nat):Int),.int .u32 (((x+y+c) / 4294967296:Nat):Int)])∧w=w':=by
 go_enter Tryz.func149,Tryz.ntmps149
 go_wp2
 exact bodyPost_ret (v:=.tuple #[.int .u32 (((x:Int)+y+c)%4294967296),.int .u32 (((x:Int)+y+c) / 4294967296)]) (by simp [results,Tryz.results149,go_sem]) rfl ⟨by simp,rfl⟩
def adD (x y c:Nat):Nat:=(x+y+c)%4294967296
def adC (x y c:Nat):Nat:=(x+y+c) / 4294967296
def sbD (x y c:Nat):Nat:=(x+4294967296 - y - c)%4294967296
def sbB (x y c:Nat):Nat:=if x<y+c then 1 else 0
theorem zdu {x y c:Nat} (hx:x<4294967296) (hy:y<4294967296) (hc:c≤1):adD x y c+4294967296*adC x y c=x+y+c∧adD x y c<4294967296∧adC x y c≤1:=by
 unfold adD adC;omega
theorem zpI {x y c:Nat} (hx:x<4294967296) (hy:y<4294967296) (hc:c≤1):sbD x y c+y+c=x+4294967296*sbB x y c∧sbD x y c<4294967296∧sbB x y c≤1:=by
 unfold sbD sbB;split<;>omega
theorem zcr (x y c:Nat) (w:World) (hx:x<4294967296) (hy:y<4294967296) (hc:c≤1) :
  Calls Tryz.prog 149 #[.int .u32 x,.int .u32 y,.int .u32 c] w fun e w'=>e=.returned (.tuple #[.int .u32 (adD x y c:Nat),.int .u32 (adC x y c:Nat)])∧w=w':=znZ x y c w hx hy hc
end Go.Proofs.YtjcegdldgjphiaaGreatDoor
