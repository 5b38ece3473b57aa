/-
  Merged: NumFu, NumText, NumQw, NumW, NumX, NumY, NumZ, NumDa, NumGcd, NumParse, NumMade, NumRefZ, NumSame, NumVals, NumIs.
-/
import Derived.Test.YtjcegdldgjphiaaGreatDoorGpAL
import Derived.Test.YtjcegdldgjphiaaGreatDoorGpAI
import Derived.Lib.AppendIntMem
import Derived.Test.YtjcegdldgjphiaaGreatDoorGpAK
import Derived.Test.YtjcegdldgjphiaaGreatDoorGpAF
import Derived.WalkKit
import Derived.BigQuiet
set_option linter.unusedSimpArgs false
set_option linter.unusedVariables false
set_option maxRecDepth 100000
set_option maxHeartbeats 6400000
namespace Go.Proofs.YtjcegdldgjphiaaGreatDoor
open Go.RowKit Go.Shelf
def zej (n:Nat):Array Value:=Array.replicate n (.int .u8 0)
theorem zkr (w:World) (T:TypeId) (N nd:Nat) (hs:nd≤N):Sort.Holds (fun (b:UInt8)=>Value.int .u8 (b.toNat:Int)) (w.alloc (.cells (zej N) T)) w.heap.size 0 (Array.replicate nd (0:UInt8)):=fun j hj=>by
 have hj':j<nd:=by simpa using hj
 refine ⟨?_,World.frozen?_alloc_new _ _ _ _⟩
 rw [World.cell?_alloc_new,zej,Array.getElem?_replicate,if_pos (by omega),getElem!_pos _ j hj]
 simp
theorem ztG (u : Nat) (hu64 : u < 18446744073709551616) (w : World) (htab : Lib.TabIs Tryz.prog w "internal/strconv.uint64pow10" .u64 Lib.pow10Tab) :
  Calls Tryz.prog 124 #[.int .u64 u,.int .i64 10] w fun e w'=>e=.returned (.string ⟨(Lib.decDigits u).toArray⟩)∧Below w.heap.size w w':=by
 obtain ⟨x,hx⟩:∃x:Int,(u:Int)=x:=⟨_,rfl⟩
 rcases Nat.lt_or_ge u 100 with hs | hs
 ·have h100:x<100:=by omega
  have hw:IntKind.i64.wrap x=x:=by rw [IntKind.wrap_i64];omega
  have SM:=Lib.hid (Tryz.internal_strconv_small u hs)
  rw [hx] at SM ⊢
  clear hx hs
  go_enter Tryz.func124,Tryz.ntmps124
  go_wp2_with (go_at_call 150;refine (SM.out _).mono ?_;rintro e w' ⟨rfl,rfl⟩)
  go_ret
  exact ⟨rfl,Below.refl _ _⟩
 ·have h100:¬ x<100:=by omega
  have hu1:1≤u:=by omega
  have hnd20:Lib.nDigits u≤20:=by have:=Lib.numDigits_eq u hu1 hu64;split at this<;>omega
  obtain ⟨nd,hnd⟩:∃nd,Lib.nDigits u=nd:=⟨_,rfl⟩
  have hal:Tryz.prog.arrayLen 169=24:=by kernel_rfl
  have hsl1:∀W,(Instr.sliceAt 169 (.pointer (some ⟨w.heap.size,0,none⟩)) none (some (.int .i64 (nd:Int))) none).run Tryz.prog W=.ok (.slice (some ⟨w.heap.size,0,none⟩) nd 24) W:=fun W=>by
   rw [run_sliceAt_array_h W 169 ⟨w.heap.size,0,none⟩ (by kernel_rfl) .i64 (nd:Int) (by omega) (by rw [hal];omega)]
   rw [hal];rfl
  have hH0:=zkr w 169 24 nd (by omega)
  have hfmt:=Tryz.internal_strconv_formatBase10 w.heap.size 0 24 u (Array.replicate nd 0) (w.alloc (.cells (zej 24) 169)) hH0 (by rw [Array.size_replicate,← hnd];exact Lib.lt_pow_nDigits u) hu64 (by rw [Array.size_replicate];omega)
  rw [Array.size_replicate] at hfmt
  have ND:=Lib.hid (Tryz.internal_strconv_numDigits u hu1 hu64 _ (Lib.tabIs_alloc htab (.cells (zej 24) 169)))
  have FM:=Lib.hid hfmt
  have HH0:=Lib.hid hH0
  rw [hnd] at ND
  rw [hx] at ND FM ⊢
  have hx2:=Lib.hid hx
  clear hH0 hal hfmt hs hx htab hu1
  go_enter Tryz.func124,Tryz.ntmps124
  go_wp2_with (first
   | (go_at_call 151;refine (ND.out).mono ?_;rintro e w' ⟨rfl,rfl⟩)
   | (go_at_call 152;refine (FM.out).mono ?_;rintro e w' ⟨rfl,k,v',dk,rfl,hF⟩;have FF:=Lib.hid hF;clear hF)
   | fail "no arm")
  have hcv:(convert 43 9 (.slice (some ⟨w.heap.size,0,none⟩) nd 24)).run Tryz.prog ((Sort.putRow (fun (b:UInt8)=>Value.int .u8 (b.toNat:Int)) (w.alloc (.cells (zej 24) 169)) w.heap.size 0 dk).drewN k)=.ok (.string ⟨(Lib.decDigits u).toArray⟩) ((Sort.putRow (fun (b:UInt8)=>Value.int .u8 (b.toNat:Int)) (w.alloc (.cells (zej 24) 169)) w.heap.size 0 dk).drewN k):=by
   have hF:=FF.out
   rw [← hnd] at hF
   have h:=run_convert_bytes_back (P:=Tryz.prog) ((Sort.putRow (fun (b:UInt8)=>Value.int .u8 (b.toNat:Int)) (w.alloc (.cells (zej 24) 169)) w.heap.size 0 dk).drewN k) 43 9 5 ⟨w.heap.size,0,none⟩ 24 (Lib.decDigits u) Tryz.underlying43 Tryz.underlying5 Tryz.underlying9 (fun j hj=>by
    rw [Lib.row_is_numeral hF j hj,Lib.add_plain,World.cell?_drewN]
    exact Sort.cell?_putRow (fun (b:UInt8)=>Value.int .u8 (b.toNat:Int)) _ w.heap.size 0 _ dk HH0.out (by rw [hF.size,Array.size_replicate,hnd]) j (by rw [hF.size];rw [Lib.decDigits_length] at hj;exact hj))
   rw [Lib.decDigits_length,hnd] at h
   exact h
  rw [hcv]
  go_wp2
  go_ret
  refine ⟨rfl,?_⟩
  rw [Sort.alloc_eq_grow]
  obtain ⟨os',_,e⟩:=Sort.putRow_grow_new (fun (b:UInt8)=>Value.int .u8 (b.toNat:Int)) w #[(.cells (zej 24) 169)] w.heap.size 0 dk (Nat.le_refl _)
  rw [e]
  have hg:Below w.heap.size w (Sort.grow w os'):=⟨rfl,rfl,rfl,by simp,fun i hi=>Sort.heap_grow_old w os' hi⟩
  exact zX hg k
theorem zvm (u : Nat) (hu64 : u < 18446744073709551616) (w : World) (htab : Lib.TabIs Tryz.prog w "internal/strconv.uint64pow10" .u64 Lib.pow10Tab) :
  Calls Tryz.prog 103 #[.int .u64 u,.int .i64 10] w fun e w'=>e=.returned (.string ⟨(Lib.decDigits u).toArray⟩)∧Below w.heap.size w w':=by
 have F:=Lib.hid (ztG u hu64 w htab)
 obtain ⟨x,hx⟩:∃x:Int,(u:Int)=x:=⟨_,rfl⟩
 rw [hx] at F ⊢
 clear hx htab
 go_enter Tryz.func103,Tryz.ntmps103
 go_wp2_with (go_at_call 124;refine (F.out).mono ?_;rintro e w' ⟨rfl,hb⟩)
 go_ret
 exact ⟨rfl,hb⟩
end Go.Proofs.YtjcegdldgjphiaaGreatDoor
namespace Go.Proofs.YtjcegdldgjphiaaGreatDoor
open Go.RowKit Go.Shelf
def PowT (B : Nat) (w : World) : Prop := Lib.TabBelow Tryz.prog B w "internal/strconv.uint64pow10" .u64 Lib.pow10Tab
theorem PowT.below {B B':Nat} {w w':World} (h:PowT B w) (hb:Below B' w w') (hB:B≤B'):PowT B w':=fun w2 h2=>h w2 ((hb.mono hB).trans h2)
def textS (neg:Bool) (l:List Nat):List UInt8:=if zw neg l=true then Lib.itoa (sgn neg (nval l)) else []
def pz (r:Nat):List UInt8:=Lib.repeatL [48] (9 - (Lib.decDigits r).length)
theorem zvE (r:Nat):(pz r).length≤9:=by unfold pz;rw [Lib.repeatL_length];simp
theorem bapp (a b:List UInt8):((⟨a.toArray⟩:ByteArray)++(⟨b.toArray⟩:ByteArray))=⟨(a++b).toArray⟩:=by
 apply ByteArray.ext
 simp [ByteArray.data_append]
theorem zrh {k:Nat} (h:k≤9):(9 - (k:Int))=((9 - k:Nat):Int):=by omega
theorem zkE (k:Nat):Lib.repeatL [48] k=List.replicate k 48:=by
 induction k with
 | zero=>rfl
 | succ k ih=>rw [Lib.repeatL,ih];rfl
theorem zuK (neg:Bool) {A:Option Addr} {n c B:Nat} {l:List Nat} {w:World} (h:Sl w B A n c l) (hB:B≤w.heap.size) (h1:zw neg l=false) :
  Calls Tryz.prog 74 #[.agg #[.bool neg,.slice A n c]] w fun e w'=>e=.returned (.string ⟨#[]⟩)∧Below w.heap.size w w':=by
 have R1:=Lib.hid (zag neg (h.more hB) false h1)
 have s0:=S1.start (w:=w) (neg:=neg) (A:=A) (n:=n) (c:=c)
 clear h h1
 go_enter Tryz.func74,Tryz.ntmps74
 go_wp2_with (go_at_call 96;refine (R1.out _ s0.below).mono ?_;rintro e w1 ⟨rfl,hb⟩;have s1:=s0.via hb;obtain ⟨a0,a1⟩:=s1.facts)
 go_ret
 exact ⟨rfl,s1.below⟩
def TxI (W:World) (v:Nat) (A:Option Addr) (n c p:Nat) (t:List UInt8):Prop:=Sl W W.heap.size A n c (digs p)∧p<big∧dd v=dd p++t
theorem zpV {v:Nat} {d t:List UInt8} (hv:v<big) (h:dd v=d++t):t.length≤640:=by
 by_cases h0:v=0
 ·have h1:=congrArg List.length h
  rw [h0,zbl,List.length_append] at h1
  simp at h1;omega
 ·have h1:=zgz 640 v (by omega) (Nat.lt_trans hv zjS)
  rw [zb5 v h0,h,List.length_append] at h1
  omega
theorem zr2 {v p r:Nat} {t pt:List UInt8} (hp:p≠0) (hq:p / 1000000000=0) (hr:r=p%1000000000) (hpt:Lib.decDigits r=pt) (h:dd v=dd p++t):dd v=dd (p / 1000000000)++(pt++t):=by
 rw [hq,zbl,List.nil_append,← hpt,hr,show p%1000000000=p by omega,zb5 p hp];exact h
theorem zr3 {v p r:Nat} {t pt:List UInt8} (hq:p / 1000000000≠0) (hr:r=p%1000000000) (hpt:Lib.decDigits r=pt) (h:dd v=dd p++t):dd v=dd (p / 1000000000)++((Lib.repeatL [48] (9 - pt.length)++pt)++t):=by
 have h1:=zpe 9 (p%1000000000) (by omega) (Nat.mod_lt _ (by omega))
 rw [← hr,hpt] at h1
 have h2:=ztZ 9 p
 rw [show (10:Nat) ^ 9=1000000000 from rfl,← hr] at h2
 rw [zkE,h1,h2,← List.append_assoc,← zqS 9 p hq];exact h
attribute [local go_sem] bapp
theorem zr1 (neg:Bool) {A:Option Addr} {n c B:Nat} {l:List Nat} {w:World} (h:Sl w B A n c l) (hB:B≤w.heap.size) (hT:PowT B w) (h1:zw neg l=true) :
  Calls Tryz.prog 74 #[.agg #[.bool neg,.slice A n c]] w fun e w'=>e=.returned (.string ⟨(Lib.itoa (sgn neg (nval l))).toArray⟩)∧Below w.heap.size w w':=by
 have R1:=Lib.hid (zag neg (h.more hB) true h1)
 have hl:=zC h1 h.dig
 have hlb:nval l<big:=(qg hl.1).1 hl.2.1
 have hz:Hid (nval l=0→neg=false):=Lib.hid fun h0=>hl.2.2 (qD hl.1 h0)
 have H:=Lib.hid (h.more hB)
 have HT:=Lib.hid hT
 have s0:=S1.start (w:=w) (neg:=neg) (A:=A) (n:=n) (c:=c)
 have hd:l=digs (nval l):=zbm hl.1
 obtain ⟨v,hv⟩:∃v,nval l=v:=⟨_,rfl⟩
 rw [hv] at hd hz hlb ⊢
 subst hd
 clear h h1 hl hT hv
 go_enter Tryz.func74,Tryz.ntmps74
 go_wp2_with (go_at_call 96;refine (R1.out _ s0.below).mono ?_;rintro e w1 ⟨rfl,hb⟩;have s1:=s0.via hb;obtain ⟨a0,a1⟩:=s1.facts)
 go_loopw [3,4] (fun x y wr=>∃t A3 n3 c3 p,x=.string ⟨List.toArray t⟩∧y=.slice A3 n3 c3∧S1 w neg A n c wr∧Hid (TxI wr v A3 n3 c3 p t)) (fun _ y wr=>slv wr y)
 case atStart =>
  exact ⟨[],A,n,c,v,rfl,rfl,s1,Lib.hid ⟨(H.out.below s1.below).more s1.below.size,hlb,by simp⟩⟩
 case round =>
  obtain ⟨t,A3,n3,c3,p,rfl,rfl,sr,hI⟩:=hrel
  obtain ⟨a0,a1⟩:=sr.facts
  have htl:=zpV hlb hI.out.2.2
  by_cases hbr:0<n3
  ·have hp0:p≠0:=fun e=>by have:=(qG hI.out.1).2 e;omega
   have SM:=Lib.hid (ziC A3 n3 c3 wr.heap.size 1000000000 (digs p) wr hI.out.1 (Nat.le_refl _) (by have:=zat hI.out.1 hI.out.2.1;omega) (by omega) (by omega))
   rw [zn,show ((1000000000:Nat):Int)=1000000000 from rfl] at SM
   have FU:=Lib.hid (fun (W:World) (r:Nat) (hW:Below w.heap.size w W) (hr:r<1000000000)=>zvm r (by omega) W (HT.out W (hW.mono hB)))
   have hn0:(0:Int)<n3:=by omega
   by_cases hq:p / 1000000000=0
   ·go_wp2_with (first
     | (go_at_call 102;(with_reducible refine (SM.out).mono ?_);rintro e w3 ⟨A5,n5,c5,r,rfl,hr,hr2,hs5,hb3⟩;have sr2:=sr.via hb3;clear a0 a1;obtain ⟨a0,a1⟩:=sr2.facts;have hn5:¬ (0:Int)<n5:=by (have:=(qG hs5).2 hq;omega))
     | (go_at_call 103;(with_reducible refine (FU.out _ _ sr2.below hr2).mono ?_);rintro e w4 ⟨rfl,hb4⟩;have sr3:=sr2.via hb4;clear a0 a1;obtain ⟨a0,a1⟩:=sr3.facts;have hlen:=zgz 9 r (by omega) hr2)
     | fail "no arm")
    have hI2:=zr2 hp0 hq hr.out rfl hI.out.2.2
    refine ⟨⟨Lib.decDigits r++t,A5,n5,c5,p / 1000000000,rfl,rfl,sr3,Lib.hid ⟨(hs5.below hb4).more hb4.size,Nat.lt_of_le_of_lt (Nat.div_le_self _ _) hI.out.2.1,hI2⟩⟩,?_⟩
    rw [zcJ (hs5.below hb4),zcJ hI.out.1,zn,zn]
    omega
   ·have RP:=Lib.hid (fun (W:World) (r:Nat)=>show Calls Tryz.prog 104 #[.string ⟨#[48]⟩,.int .i64 ((9 - (Lib.decDigits r).length:Nat):Int)] W fun e w'=>e=.returned (.string ⟨(pz r).toArray⟩)∧Below W.heap.size W w' from Tryz.strings_Repeat ⟨#[48]⟩ (9 - (Lib.decDigits r).length) W (by omega) (by simp [ByteArray.size];omega))
    go_wp2_with (first
     | (go_at_call 102;(with_reducible refine (SM.out).mono ?_);rintro e w3 ⟨A5,n5,c5,r,rfl,hr,hr2,hs5,hb3⟩;have sr2:=sr.via hb3;clear a0 a1;obtain ⟨a0,a1⟩:=sr2.facts;have hn5:(0:Int)<n5:=by (have:=(qG hs5).1;omega))
     | (go_at_call 103;(with_reducible refine (FU.out _ _ sr2.below hr2).mono ?_);rintro e w4 ⟨rfl,hb4⟩;have sr3:=sr2.via hb4;clear a0 a1;obtain ⟨a0,a1⟩:=sr3.facts;have hlen:=zgz 9 r (by omega) hr2;have hwr:=Lib.hid (zrh hlen))
     | (go_at_call 104;rw [hwr.out];(with_reducible refine (RP.out _ r).mono ?_);rintro e w5 ⟨rfl,hb5⟩;have hpz:=zvE r;have sr4:=sr3.via hb5;clear a0 a1;obtain ⟨a0,a1⟩:=sr4.facts)
     | fail "no arm")
    have hI2:=zr3 hq hr.out rfl hI.out.2.2
    have hs6:=hs5.below (hb4.trans (hb5.mono hb4.size))
    refine ⟨⟨pz r++(Lib.decDigits r++t),A5,n5,c5,p / 1000000000,rfl,rfl,sr4,Lib.hid ⟨hs6.more (Nat.le_trans hb4.size hb5.size),Nat.lt_of_le_of_lt (Nat.div_le_self _ _) hI.out.2.1,by rw [hI2,List.append_assoc];rfl⟩⟩,?_⟩
    rw [zcJ hs6,zcJ hI.out.1,zn,zn]
    omega
  ·have hp0:p=0:=(qG hI.out.1).1 (by omega)
   have htv:Hid (t=dd v):=by
    have:=hI.out.2.2
    rw [hp0,zbl,List.nil_append] at this
    exact Lib.hid this.symm
   have hn0:¬ (0:Int)<n3:=by omega
   clear hp0 hI hbr
   by_cases hv0:v=0
   ·obtain rfl:neg=false:=hz.out hv0
    obtain rfl:t=[]:=by rw [htv.out,hv0,zbl]
    go_wp2_with fail
    go_ret
    have e0:Lib.itoa (sgn false 0)=[48]:=by rw [show sgn false 0=0 from rfl,Lib.itoa,if_neg (by omega)];exact zbc
    exact ⟨by subst hv0;rw [e0];rfl,sr.below⟩
   ·have hne:t≠[]:=by
     intro e
     have h1:=zot v
     rw [← htv.out,e] at h1
     exact hv0 h1.symm
    have hit:Hid (∀b:Bool,Lib.itoa (sgn b v)=if b then 45::t else t):=by
     intro b
     cases b
     ·rw [show sgn false v=(v:Int) from rfl,Lib.itoa,if_neg (by omega),Int.toNat_natCast,zb5 v hv0,htv.out];rfl
     ·rw [show sgn true v=-(v:Int) from rfl,Lib.itoa,if_pos (by omega),Int.natAbs_neg,Int.natAbs_natCast,zb5 v hv0,htv.out];rfl
    clear hv0 hz htv
    obtain ⟨t0,t1,rfl⟩:∃t0 t1,t=t0::t1:=by
     cases t with
     | nil=>exact absurd rfl hne
     | cons a b=>exact ⟨a,b,rfl⟩
    have htl2:t1.length+1≤640:=htl
    clear htl
    cases neg
    ·go_wp2_with fail
     go_ret
     exact ⟨by rw [hit.out];rfl,sr.below⟩
    ·go_wp2_with fail
     go_ret
     exact ⟨by rw [hit.out];rfl,sr.below⟩
theorem zmb (neg:Bool) {A:Option Addr} {n c B:Nat} {l:List Nat} {w:World} (h:Sl w B A n c l) (hB:B≤w.heap.size) (hT:PowT B w) :
  Calls Tryz.prog 74 #[.agg #[.bool neg,.slice A n c]] w fun e w'=>e=.returned (.string ⟨(textS neg l).toArray⟩)∧Below w.heap.size w w':=by
 cases h1:zw neg l with
 | false=>rw [show textS neg l=[] by unfold textS;rw [h1];rfl];exact zuK neg h hB h1
 | true=>rw [show textS neg l=Lib.itoa (sgn neg (nval l)) by unfold textS;rw [h1];rfl];exact zr1 neg h hB hT h1
end Go.Proofs.YtjcegdldgjphiaaGreatDoor
namespace Go.Proofs.YtjcegdldgjphiaaGreatDoor
open Go.RowKit Go.Shelf
attribute [local go_sem] Oper.semAt_some
theorem zrs {A A2:Option Addr} {N m c c2 B:Nat} {l v:List Nat} {w:World} (h:Sl w B A N c l) (h2:Sl w B A2 (m+1) c2 v) (hB:B≤w.heap.size) (hl:Canon l) (hm:Canon v) (hN:N≤1000) (hm1:1≤m) (hge:nval v≤nval l) :
  Calls Tryz.prog 99 #[.slice A N c,.slice A2 (m+1) c2] w (zgo (nval l) (nval v) w):=by
 have hc:=zgw hge
 have hmN:m+1≤N:=by have:=zaJ hm hl.1 hge;rw [h.len,h2.len] at this;exact this
 have H:=Lib.hid (h.more hB)
 have H2:=Lib.hid (h2.more hB)
 have htop:dg v m≠0:=by
  have hlen:=h2.len
  intro e
  refine hm.2 ?_
  rw [List.getLast?_eq_getElem?,hlen,Nat.add_sub_cancel,List.getElem?_eq_getElem (by omega),← zb2 (by omega),e]
 have HL:=Lib.hid h.len
 have HL2:=Lib.hid h2.len
 have HT:=Lib.hid htop
 have hd0:=dg_lt hm.1 m
 have hd1:((((m+1:Nat):Int)) == 1)=false:=by simp;omega
 have hd2:((((m:Nat):Int)+1) == 1)=false:=by simp;omega
 have hd3:((((m:Nat):Int)) == 0)=false:=by simp;omega
 clear h h2 hge htop
 refine (callsIn_wide (n:=3)).1 ?_
 refine callsIn_of_wp_marks Tryz.func99 rfl trivial ?_ rfl
 simp only [Tryz.ntmps99,List.size_toArray,List.length_cons,List.length_nil,Nat.reduceAdd,Nat.reduceSub,Array.replicate_succ,Array.replicate_zero,List.push_toArray,List.append_toArray,List.nil_append,List.cons_append]
 refine wpIn_wide.2 ?_
 go_upto_region 7 with (go_at_call 97;refine (zbM H.out H2.out (Nat.le_refl _) hl hm).mono ?_;rintro e w1 ⟨rfl,hb⟩)
 obtain ⟨ad,hA2,hbl,hcell⟩:=(H2.out.below hb).at_ (k:=m) (by omega)
 have hz:=hb.size
 subst hA2
 have hcell2:∀o,(w1.alloc o).cell? (ad.add m)=some (.int .u32 (dg v m:Nat)):=fun o=>(World.cell?_alloc_lt w1 o (ad.add m) (by rw [zaI];omega)).trans hcell
 clear hcell
 go_upto_region 8 with (go_at_call 120;refine (zvq (dg v m) _ HT.out hd0).mono ?_;rintro e w2 ⟨⟨s,rfl,hs,hts⟩,rfl⟩;clear hcell2)
 have hfit:Hid (nval l*2 ^ s<4294967296 ^ (N+1)∧nval v*2 ^ s<4294967296 ^ (m+1)):=⟨zrP HL.out hl.1 hs,znf HL2.out hm.1 hts (by omega)⟩
 have hW2:Below w.heap.size w (w1.alloc (.cells #[.int .i64 ((m:Int)+1)] 3)):=hb.alloc hz _
 have UL:=Lib.hid (fun (W:World) (hq:OvS w w1.heap.size (.int .i64 ((m:Int)+1)) W)=>(show Calls Tryz.prog 121 #[.slice A N c,.int .i64 (s:Nat),.int .i64 ((N:Int)+1)] W (fun e w'=>RetUp (N+1) (nval l*2 ^ s) W e w'∧OvS w w1.heap.size (.int .i64 ((m:Int)+1)) w') from (zs6 A N c w.heap.size s (N+1) l W (H.out.below hq.2.2.2) hq.2.2.1 (by omega) (by omega) hs hfit.out.1).mono fun _ _ hr=>⟨hr,hq.below (let ⟨_,_,_,_,_,_,hbb,_⟩:=hr;hbb)⟩))
 have UV:=Lib.hid (fun (W:World) (hq:OvS w w1.heap.size (.int .i64 ((m:Int)+1)) W)=>(show Calls Tryz.prog 121 #[.slice (some ad) (m+1) c2,.int .i64 (s:Nat),.int .i64 ((m:Int)+1)] W (fun e w'=>RetUp (m+1) (nval v*2 ^ s) W e w'∧OvS w w1.heap.size (.int .i64 ((m:Int)+1)) w') from (zs6 (some ad) (m+1) c2 w.heap.size s (m+1) v W (H2.out.below hq.2.2.2) hq.2.2.1 (by omega) (by omega) hs hfit.out.2).mono fun _ _ hr=>⟨hr,hq.below (let ⟨_,_,_,_,_,_,hbb,_⟩:=hr;hbb)⟩))
 obtain ⟨W2,hW2e⟩:∃W2,w1.alloc (.cells #[.int .i64 ((m:Int)+1)] 3)=W2:=⟨_,rfl⟩
 have b0:Boxed W2 w1.heap.size 3 (.int .i64 ((m:Int)+1)):=by rw [← hW2e];exact Boxed.new _ _ _
 have hz2:w1.heap.size+1≤W2.heap.size:=by rw [← hW2e];simp
 rw [hW2e] at hW2 ⊢
 clear hW2e hts hd0 hbl hb
 go_cut [10,11] from 43 to 52 (fun p10 p11 W=>∃(gu gv bu bv:Nat) (u0 v0:List Nat),p10=.pointer (some ⟨bu,0,none⟩)∧p11=.pointer (some ⟨bv,0,none⟩)∧Hid (u0.length=N+1∧Dig u0∧nval u0=nval l*2 ^ s∧v0.length=m+1∧Dig v0∧nval v0=nval v*2 ^ s)∧OvB w.heap.size w w1.heap.size (m+1) gu gv bu bv N u0 v0 W)
 case first =>
  have o0:OvS w w1.heap.size (.int .i64 ((m:Int)+1)) W2:=⟨b0,hz2,by omega,hW2⟩
  have hz4:=o0.2.2.1
  have hwr:IntKind.i64.wrap ((N:Int)+1)=(N:Int)+1:=by rw [IntKind.wrap_i64];omega
  go_region_held3 (fun W=>W.cell? ⟨w1.heap.size,0,none⟩=some (.int .i64 ((m:Int)+1))∧OvS w w1.heap.size (.int .i64 ((m:Int)+1)) W)
   ((refine OvS.pair ?_;(repeat (first | assumption | refine OvS.drew ?_ | refine OvS.alloc ?_ _ | refine OvS.setCell ?_ ?_ ?_ _ | (dsimp only;omega)))))
   (first
    | (go_at_call 121;(with_reducible refine (UL.out _ (OvS.drew o0)).mono ?_);rintro e w3 ⟨⟨u0,rfl,hDu,hlu,hdu,hvu,hbu,hzu⟩,osu⟩;have HLU:=Lib.hid hlu;have HVU:=Lib.hid hvu;have HZU:=Lib.hid hzu;have hsu:=hbu.size;(try (simp at hsu;(try rw [Nat.add_one_le_iff] at hsu)));clear hlu hvu hzu;obtain ⟨hcu,hfu⟩:=bcell hbu;have pu1:=osu.2.1;have pu2:=osu.2.2.1;(try (have xa1:W2.heap.size<w3.heap.size:=by omega));(try (have xa2:W2.heap.size+1<w3.heap.size:=by omega));(try (have xa3:W2.heap.size<w3.heap.size+1:=by omega));(try (have xa4:W2.heap.size+1<w3.heap.size+1:=by omega));(try (have xa5:W2.heap.size<w3.heap.size+1+1:=by omega));(try (have xa6:W2.heap.size+1<w3.heap.size+1+1:=by omega));(try (have xa7:W2.heap.size≤w3.heap.size:=by omega));(try (have xa8:W2.heap.size+1≤w3.heap.size:=by omega)))
    | (go_at_call 121;(with_reducible refine (UL.out _ (OvS.drew (o0.alloc _))).mono ?_);rintro e w3 ⟨⟨u0,rfl,hDu,hlu,hdu,hvu,hbu,hzu⟩,osu⟩;have HLU:=Lib.hid hlu;have HVU:=Lib.hid hvu;have HZU:=Lib.hid hzu;have hsu:=hbu.size;(try (simp at hsu;(try rw [Nat.add_one_le_iff] at hsu)));clear hlu hvu hzu;obtain ⟨hcu,hfu⟩:=bcell hbu;have pu1:=osu.2.1;have pu2:=osu.2.2.1;(try (have xa1:W2.heap.size<w3.heap.size:=by omega));(try (have xa2:W2.heap.size+1<w3.heap.size:=by omega));(try (have xa3:W2.heap.size<w3.heap.size+1:=by omega));(try (have xa4:W2.heap.size+1<w3.heap.size+1:=by omega));(try (have xa5:W2.heap.size<w3.heap.size+1+1:=by omega));(try (have xa6:W2.heap.size+1<w3.heap.size+1+1:=by omega));(try (have xa7:W2.heap.size≤w3.heap.size:=by omega));(try (have xa8:W2.heap.size+1≤w3.heap.size:=by omega)))
    | (go_at_call 121;(with_reducible refine (UL.out _ (OvS.drew ((o0.alloc _).alloc _))).mono ?_);rintro e w3 ⟨⟨u0,rfl,hDu,hlu,hdu,hvu,hbu,hzu⟩,osu⟩;have HLU:=Lib.hid hlu;have HVU:=Lib.hid hvu;have HZU:=Lib.hid hzu;have hsu:=hbu.size;(try (simp at hsu;(try rw [Nat.add_one_le_iff] at hsu)));clear hlu hvu hzu;obtain ⟨hcu,hfu⟩:=bcell hbu;have pu1:=osu.2.1;have pu2:=osu.2.2.1;(try (have xa1:W2.heap.size<w3.heap.size:=by omega));(try (have xa2:W2.heap.size+1<w3.heap.size:=by omega));(try (have xa3:W2.heap.size<w3.heap.size+1:=by omega));(try (have xa4:W2.heap.size+1<w3.heap.size+1:=by omega));(try (have xa5:W2.heap.size<w3.heap.size+1+1:=by omega));(try (have xa6:W2.heap.size+1<w3.heap.size+1+1:=by omega));(try (have xa7:W2.heap.size≤w3.heap.size:=by omega));(try (have xa8:W2.heap.size+1≤w3.heap.size:=by omega)))
    | (go_at_call 121;(with_reducible refine (UV.out _ (osu)).mono ?_);rintro e w4 ⟨⟨v0,rfl,hDv,hlv,hdv,hvv,hbv,hzv⟩,osv⟩;have HLV:=Lib.hid hlv;have HVV:=Lib.hid hvv;have HZV:=Lib.hid hzv;have hsv:=hbv.size;(try (simp at hsv;(try rw [Nat.add_one_le_iff] at hsv)));clear hlv hvv hzv;obtain ⟨hcv,hfv⟩:=bcell hbv;have pv1:=osv.2.1;have pv2:=osv.2.2.1;(try (have xb1:W2.heap.size<w4.heap.size:=by omega));(try (have xb2:W2.heap.size+1<w4.heap.size:=by omega));(try (have xb3:w3.heap.size<w4.heap.size:=by omega));(try (have xb4:w3.heap.size+1<w4.heap.size:=by omega));(try (have xb5:W2.heap.size≤w4.heap.size:=by omega));(try (have xb6:w3.heap.size≤w4.heap.size:=by omega)))
    | (go_at_call 121;(with_reducible refine (UV.out _ (osu.alloc _)).mono ?_);rintro e w4 ⟨⟨v0,rfl,hDv,hlv,hdv,hvv,hbv,hzv⟩,osv⟩;have HLV:=Lib.hid hlv;have HVV:=Lib.hid hvv;have HZV:=Lib.hid hzv;have hsv:=hbv.size;(try (simp at hsv;(try rw [Nat.add_one_le_iff] at hsv)));clear hlv hvv hzv;obtain ⟨hcv,hfv⟩:=bcell hbv;have pv1:=osv.2.1;have pv2:=osv.2.2.1;(try (have xb1:W2.heap.size<w4.heap.size:=by omega));(try (have xb2:W2.heap.size+1<w4.heap.size:=by omega));(try (have xb3:w3.heap.size<w4.heap.size:=by omega));(try (have xb4:w3.heap.size+1<w4.heap.size:=by omega));(try (have xb5:W2.heap.size≤w4.heap.size:=by omega));(try (have xb6:w3.heap.size≤w4.heap.size:=by omega)))
    | (go_at_call 121;(with_reducible refine (UV.out _ ((osu.alloc _).alloc _)).mono ?_);rintro e w4 ⟨⟨v0,rfl,hDv,hlv,hdv,hvv,hbv,hzv⟩,osv⟩;have HLV:=Lib.hid hlv;have HVV:=Lib.hid hvv;have HZV:=Lib.hid hzv;have hsv:=hbv.size;(try (simp at hsv;(try rw [Nat.add_one_le_iff] at hsv)));clear hlv hvv hzv;obtain ⟨hcv,hfv⟩:=bcell hbv;have pv1:=osv.2.1;have pv2:=osv.2.2.1;(try (have xb1:W2.heap.size<w4.heap.size:=by omega));(try (have xb2:W2.heap.size+1<w4.heap.size:=by omega));(try (have xb3:w3.heap.size<w4.heap.size:=by omega));(try (have xb4:w3.heap.size+1<w4.heap.size:=by omega));(try (have xb5:W2.heap.size≤w4.heap.size:=by omega));(try (have xb6:w3.heap.size≤w4.heap.size:=by omega)))
    | fail "no arm")
  all_goals
   go_wp2_with fail
   go_meet
   have q1:=HZU.out
   have q2:=HZV.out
   simp at q1 q2
   (try simp at hDu)
   (try simp at hDv)
   refine zro (z:=(m:Int)+1) hDu hDv rfl ⟨HLU.out,hdu,HVU.out,HLV.out,hdv,HVV.out⟩ ?_ ?_ ?_ ?_ ?_ ?_
   ·repeat (first | assumption | refine OvS.drew ?_ | refine OvS.alloc ?_ _ | refine OvS.setCell ?_ ?_ ?_ _ | exact (by first | omega | (dsimp only;omega) | (simp;done) | (simp;omega)) | fail)
   ·repeat (first | assumption | refine DBk.far ?_ ?_ _ | refine DBk.alloc ?_ _ | refine DBk.below ?_ hbv ?_ | exact (by first | omega | (dsimp only;omega) | (simp;done) | (simp;omega)) | fail)
   ·repeat (first | assumption | refine DBk.far ?_ ?_ _ | refine DBk.alloc ?_ _ | refine DBk.below ?_ hbv ?_ | exact (by first | omega | (dsimp only;omega) | (simp;done) | (simp;omega)) | fail)
   ·repeat (first | assumption | refine Boxed.set _ (v:=.slice none 0 0) ?_ | exact zI _ _ _ (by first | rfl | (simp;done) | (simp;omega)) | refine qC ?_ ?_ _ | refine Boxed.alloc ?_ _ | refine zbK ?_ hbv ?_ | refine zbK ?_ hbu ?_ | exact (by first | omega | (dsimp only;omega) | (simp;done) | (simp;omega)) | fail)
   ·repeat (first | assumption | refine Boxed.set _ (v:=.slice none 0 0) ?_ | exact zI _ _ _ (by first | rfl | (simp;done) | (simp;omega)) | refine qC ?_ ?_ _ | refine Boxed.alloc ?_ _ | refine zbK ?_ hbv ?_ | refine zbK ?_ hbu ?_ | exact (by first | omega | (dsimp only;omega) | (simp;done) | (simp;omega)) | fail)
   ·simp
    omega
 case rest =>
  obtain ⟨gu,gv,bu,bv,u0,v0,rfl,rfl,hI,⟨k1,k2,k3,k4,k5⟩,hne,hBc⟩:=hcut
  rename World=>wc
  clear UL UV b0 hz2 hW2
  have e1:=k1.cell
  obtain ⟨J,hJ⟩:∃J,N=m+J:=⟨N - m,by omega⟩
  have hmk:=q7 J (by omega)
  have ej:(J:Int)=(N:Int) - ((m:Int)+1)+1:=by omega
  rw [ej] at hmk
  have HJ:=Lib.hid hJ
  have hJ1:1≤J:=by omega
  have hJ2:J≤1000:=by omega
  clear ej hJ
  go_wp2_with (go_at_call 117;refine (callsIn_wide.1 (zgC Fence.wide 0 trivial rfl _ _ _ _)).mono ?_;rintro e w' ⟨rfl,rfl⟩)
  clear hmk
  have hJ0:=zpc (J:=J) (l:=nval l) (v:=nval v) (s:=s) hne hBc k1 k2 k3 k4 k5 ⟨hI.out.1,hI.out.2.1,hI.out.2.2.1⟩ (by have:=HJ.out;omega) (by rw [Nat.add_comm,← HJ.out,← HL.out];exact qH hl.1) (by have:=zbL hm (by intro e;have:=HL2.out;rw [e] at this;simp at this);rwa [HL2.out,Nat.add_sub_cancel] at this)
  obtain ⟨W0,hW0⟩:∃W0,((wc.alloc (.cells (madeCells #[.int .u32 0] J) 123)).alloc (.cells #[.slice (some ⟨wc.heap.size,0,none⟩) J J] 117)).alloc (.cells #[.slice (some ⟨wc.heap.size,0,none⟩) J J] 117)=W0:=⟨_,rfl⟩
  rw [hW0] at hJ0 ⊢
  obtain ⟨hbox,hsz,hJ0⟩:=hJ0
  clear hW0
  refine (wpIn_wide (n:=3)).1 ?_
  refine wpIn_rangeFunc_ownF rfl (by omega) (gf:=146) (lb:=#[.pointer (some ⟨wc.heap.size+1+1,0,none⟩)]) rfl trivial (enters_of Tryz.func146 (by kernel_rfl) rfl)
   (zj5 Fence.wide (3 - 1) trivial rfl (by omega) (wc.heap.size+1+1) w.heap.size wc.heap.size J J W0 hbox hJ0.blk (Nat.le_refl _) (by omega)) kpQ_t (kpQ_b hJ0.2.2.size (by omega) hJ0.lt) (Below.refl _ _) (fun _=>rfl)
   (fun pre W=>OvJ w w1.heap.size (m+1) gu gv bu bv wc.heap.size (wc.heap.size+1) N J (nval l*2 ^ s) (nval v*2 ^ s) v0 pre W)
   (fun _ _ _=>False)
   (ztY hJ0.2.2.size)
   (fun _ _ _ _ _ hs _ _=>hs)
   hJ0
   (fun x=>{ tmps:=#[Value.slice A N c,Value.slice (some ad) (m+1) c2,undef,undef,Value.slice none 0 0,Value.slice none 0 0,Value.pointer (some { block:=w1.heap.size,off:=0 }),undef,undef,Value.int IntKind.i64 ↑s,Value.pointer (some { block:=bu,off:=0 }),Value.pointer (some { block:=bv,off:=0 }),Value.pointer (some { block:=wc.heap.size+1,off:=0 }),Value.int IntKind.i64 (x.1.1:Nat),undef,undef,Value.slice A N c,Value.slice (some ad) (m+1) c2,Value.int IntKind.i64 (cmpv (nval l) (nval v)),Value.bool (decide (cmpv (nval l) (nval v)<0)),undef,Value.slice (some ad) (m+1) c2,Value.int IntKind.i64 (↑m+1),Value.int IntKind.i64 (↑m+1),Value.bool false,undef,undef,undef,undef,undef,undef,undef,undef,undef,undef,undef,undef,Value.slice (some ad) (m+1) c2,Value.int IntKind.i64 (↑m+1),Value.int IntKind.i64 ↑m,Value.pointer (some (ad.add m)),Value.int IntKind.u32 ↑(dg v m),Value.int IntKind.i64 ↑s,u43,u44,u45,u46,u47,u48,u49,u50,u51,u52,Value.slice A N c,Value.int IntKind.i64 ↑N,Value.int IntKind.i64 (↑m+1),Value.int IntKind.i64 (↑N - (↑m+1)),Value.int IntKind.i64 (↑N - (↑m+1)+1),Value.slice (some { block:=wc.heap.size,off:=0 }) J J,Value.slice (some { block:=wc.heap.size,off:=0 }) J J,Value.func (Fn.func 146) #[] #[Value.pointer (some { block:=wc.heap.size+1+1,off:=0 })],Value.int IntKind.i64 (x.1.1:Nat),Value.int IntKind.u32 (x.2:Nat),undef,undef,undef,undef,undef,undef,undef,undef,undef,undef,undef,undef,undef,undef,undef,undef,undef,undef,undef,undef,undef,undef,undef,undef,undef,undef,undef,undef,undef,undef,undef,undef,undef,undef,undef,undef,undef,undef,undef,undef,undef,undef],defers:=[] }) ?assign ?body ?done ?stop
  case assign =>
   intro l x W K hK
   gi_wp2
   exact hK
  case body =>
   rintro ll pre x W ⟨⟨st,ne⟩,⟨uo,qo,d1,d2,hl,inv⟩,hBW⟩ _
   have inv:=Lib.hid inv
   have hx:=x.1.2
   have hmx:Tryz.prog.follows .mixedOrders=true:=by kernel_rfl
   have HV:Hid (nval v0=nval v*2 ^ s∧nval v*2 ^ s<4294967296 ^ (m+1)∧N+1=J+(m+1)):=⟨hI.out.2.2.2.2.2,hfit.out.2,by have:=HJ.out;omega⟩
   have CALL:=Lib.hid (zrq x.1 st ne d1 ⟨hl.out.1,hl.out.2.1⟩ hI.out.2.2.2.1 hI.out.2.2.2.2.1 (by have:=HJ.out;omega) (by omega))
   have e1:=st.1.cell
   have e2:=st.2.2.1.cell
   have e3:=st.2.2.2.1.cell
   have e4:=st.2.2.2.2.1.cell
   have hkN:((x.1.1:Nat):Int)+((m:Int)+1)+1≤(N:Int)+1:=by have:=HJ.out;omega
   have w1':IntKind.i64.wrap ((x.1.1:Int)+((m:Int)+1))=(x.1.1:Int)+((m:Int)+1):=by rw [IntKind.wrap_i64];omega
   have w2':IntKind.i64.wrap ((x.1.1:Int)+((m:Int)+1)+1)=(x.1.1:Int)+((m:Int)+1)+1:=by rw [IntKind.wrap_i64];omega
   have w3':((x.1.1:Int)+((m:Int)+1)+1).toNat=x.1.1+(m+1)+1:=by omega
   have w4':(0:Int)≤(x.1.1:Int)+((m:Int)+1)+1:=by omega
   have w5':¬ N+1=x.1.1:=by omega
   have w6':x.1.1≤x.1.1+(m+1)+1:=by omega
   gi_wp2
   refine zd8 hmx rfl ?_
   repeat' first
    | (revert hK;intro hK;go_simp;first | (refine hK _ _ ?_;clear hK K) | (refine ⟨trivial,?_⟩;gi_at_call 122;refine (callsIn_wide.2 (CALL.out _ _ _ (by omega))).mono ?_;rintro e w' ⟨g,u',rfl,hg,hul,hud,hU',hgr,hS1,hS2⟩;obtain ⟨a1,a2,a3,a4⟩:=zK (k:=x.1.1) st ne d2 (by have:=hl.out.2.2.1;omega) hgr;have HUL:=Lib.hid hul;have HS1:=Lib.hid hS1;have HS2:=Lib.hid hS2;clear hul hS1 hS2;refine hK _ _ ?_;clear hK K))
    | refine AllReadyIn.cons rfl (fun K hK=>?_) ?_
    | with_reducible exact AllReadyIn.nil
    | (refine wpAnyIn_done (by decide +kernel) ?_ _;gi_wp2;exact ovR x st ne d1 d2 hl.out inv.out hBW hgr hg HUL.out hud hU' HS1.out HS2.out HV.out)
    | (refine wpAnyIn_take (i:=1) (v:=?_) rfl rfl (by kernel_rfl) (by kernel_rfl) (by decide +kernel) (fun _ _ _ h=>h) ⟨Or.inl ⟨by rfl,?_⟩,fun _=>rfl⟩ ?_;rotate_left 1;· (intro w;go_simp;try (with_reducible rfl)))
    | (refine wpAnyIn_take (i:=3) (v:=?_) rfl rfl (by kernel_rfl) (by kernel_rfl) (by decide +kernel) (fun _ _ _ h=>h) ⟨Or.inl ⟨by rfl,?_⟩,fun _=>rfl⟩ ?_;rotate_left 1;· (intro w;go_simp;try (with_reducible rfl)))
    | (refine wpAnyIn_take (i:=4) (v:=?_) rfl rfl (by kernel_rfl) (by kernel_rfl) (by decide +kernel) (fun _ _ _ h=>h) ⟨Or.inl ⟨by rfl,?_⟩,fun _=>rfl⟩ ?_;rotate_left 1;· (intro w;go_simp;try (with_reducible rfl)))
    | (refine wpAnyIn_take (i:=6) (v:=?_) rfl rfl (by kernel_rfl) (by kernel_rfl) (by decide +kernel) (fun _ _ _ h=>h) ⟨Or.inl ⟨by rfl,?_⟩,fun _=>rfl⟩ ?_;rotate_left 1;· (intro w;go_simp;try (with_reducible rfl)))
    | (refine wpAnyIn_take (i:=7) (v:=?_) rfl rfl (by kernel_rfl) (by kernel_rfl) (by decide +kernel) (fun _ _ _ h=>h) ⟨Or.inl ⟨by rfl,?_⟩,fun _=>rfl⟩ ?_;rotate_left 1;· (intro w;go_simp;try (with_reducible rfl)))
    | (refine wpAnyIn_take (i:=8) (v:=?_) rfl rfl (by kernel_rfl) (by kernel_rfl) (by decide +kernel) (fun _ _ _ h=>h) ⟨Or.inl ⟨by rfl,?_⟩,fun _=>rfl⟩ ?_;rotate_left 1;· (intro w;go_simp;try (with_reducible rfl)))
    | (refine wpAnyIn_take (i:=11) (v:=?_) rfl rfl (by kernel_rfl) (by kernel_rfl) (by decide +kernel) (fun _ _ _ h=>h) ⟨Or.inl ⟨by rfl,?_⟩,fun _=>rfl⟩ ?_;rotate_left 1;· (intro w;go_simp;try (with_reducible rfl)))
    | refine wpAnyIn_ready (rs:=[10]) (by decide +kernel) (by simp) ?_
    | refine wpAnyIn_ready (rs:=[12]) (by decide +kernel) (by simp) ?_
    | refine wpAnyIn_ready (rs:=[9]) (by decide +kernel) (by simp) ?_
    | refine wpAnyIn_ready (rs:=[5]) (by decide +kernel) (by simp) ?_
    | refine wpAnyIn_ready (rs:=[2]) (by decide +kernel) (by simp) ?_
    | refine wpAnyIn_ready (rs:=[0]) (by decide +kernel) (by simp) ?_
    | refine wpAnyIn_ready (rs:=[0,10]) (by decide +kernel) (by simp) ?_
    | refine wpAnyIn_ready (rs:=[5,9]) (by decide +kernel) (by simp) ?_
    | refine wpAnyIn_ready (rs:=[2,9]) (by decide +kernel) (by simp) ?_
    | refine wpAnyIn_ready (rs:=[2,5]) (by decide +kernel) (by simp) ?_
    | refine wpAnyIn_ready (rs:=[0,9]) (by decide +kernel) (by simp) ?_
    | refine wpAnyIn_ready (rs:=[0,5]) (by decide +kernel) (by simp) ?_
    | refine wpAnyIn_ready (rs:=[0,2]) (by decide +kernel) (by simp) ?_
    | refine wpAnyIn_ready (rs:=[2,5,9]) (by decide +kernel) (by simp) ?_
    | refine wpAnyIn_ready (rs:=[0,5,9]) (by decide +kernel) (by simp) ?_
    | refine wpAnyIn_ready (rs:=[0,2,9]) (by decide +kernel) (by simp) ?_
    | refine wpAnyIn_ready (rs:=[0,2,5]) (by decide +kernel) (by simp) ?_
    | refine wpAnyIn_ready (rs:=[0,2,5,9]) (by decide +kernel) (by simp) ?_
  case done =>
   rintro D ys W hD hys ⟨⟨st,ne⟩,⟨uo,qo,d1,d2,hl,inv⟩,hBW⟩ hK
   have hyl:ys.length=J:=by have:=congrArg List.length hys;rwa [List.length_map,zZ] at this
   have hov:=inv (by rw [hys];exact List.prefix_refl _)
   rw [hyl,Nat.sub_self] at hov
   have HO:=Lib.hid (ztX hov)
   have hDl:=zaB hK
   have hvp:0<nval v:=by
    rcases Nat.eq_zero_or_pos (nval v) with h0 | h0
    ·have:=qD hm h0;have h1:=HL2.out;rw [this] at h1;simp at h1
    ·exact h0
   have HR:Hid (nval uo<4294967296 ^ (m+1)):=by
    unfold Hid
    rw [HO.out.2]
    exact Nat.lt_trans (Nat.mul_lt_mul_of_pos_right (Nat.mod_lt _ hvp) (Nat.pow_pos (by omega))) hfit.out.2
   have hmk2:=q7 (m+1) (by omega)
   have em:((m+1:Nat):Int)=(m:Int)+1:=rfl
   rw [em] at hmk2
   have e1:=st.1.cell
   have d1l:=d1.lt
   have d2l:=d2.lt
   have b1l:=st.2.2.1.lt
   have b2l:=st.2.2.2.2.1.lt
   have hWz:w.heap.size≤W.heap.size:=hBW.size
   have hE:OvE w bu gu (wc.heap.size+1) wc.heap.size D N J uo qo (W.alloc (.cells (madeCells #[.int .u32 0] (m+1)) 123)):=OvE.alloc ⟨st.2.2.1,d1,st.2.2.2.2.1,d2,hK,hBW⟩ _
   have hR0:=DBk.new W 123 (m+1)
   clear em hyl hys hov inv hK
   go_wp2
   clear hmk2
   go_loopw [79] (fun k wr=>∃(j:Nat) (r:List Nat),j≤m+1∧k=.int .i64 j∧DBk wr W.heap.size 123 r∧Hid (RsI uo (m+1) s j r)∧OvE w bu gu (wc.heap.size+1) wc.heap.size D N J uo qo wr) (fun k _=>m+1 - (intOf k).toNat)
   case atStart=>exact ⟨0,List.replicate (m+1) 0,by omega,rfl,hR0,zpG,hE⟩
   case round =>
    obtain ⟨j,r,hj,rfl,hr,hi,hE⟩:=hrel
    have f2:=hE.1.cell
    have hmN2:N+1=uo.length:=hl.out.1.symm
    by_cases hlt:j<m+1
    ·have g1:=hE.2.1.cell (k:=j) (by omega)
     have g2:=hE.2.1.cell (k:=j+1) (by omega)
     have q1:=dg_lt hl.out.2.1 j
     have q2:=dg_lt hl.out.2.1 (j+1)
     have g3:=hr.cell (k:=j) (by rw [hi.out.1];exact hlt)
     have g4:=hr.frozen j
     have g5:=hr.lt
     have E:=Lib.hid (zvW (b:=dg uo (j+1)) q1 hs)
     have hr2:DBk (wr.setCell ⟨W.heap.size,j,none⟩ (.int .u32 (rsD (dg uo j) (dg uo (j+1)) s:Nat))).drew W.heap.size 123 (r.set j (rsD (dg uo j) (dg uo (j+1)) s)):=DBk.set (w:=wr) hr _ _
     have hi2:=Lib.hid (zrN hi.out hl.out.2.1 hs hlt)
     have hE3:∀u,OvE w bu gu (wc.heap.size+1) wc.heap.size D N J uo qo (wr.setCell ⟨W.heap.size,j,none⟩ u).drew:=fun u=>OvE.drew (OvE.store (g:=W.heap.size) hE ⟨by omega,by omega,by omega,by omega,by omega,hWz⟩ j u)
     have hj0:(0:Int)≤(j:Int):=by omega
     have hj1:(j:Int)<(N:Int)+1:=by omega
     have hj2:(j:Int)<(m:Int)+1:=by omega
     have hju:j+1<uo.length:=by omega
     have hju0:j<uo.length:=by omega
     have hjN:(j:Int)+1<(N:Int)+1:=by omega
     have s1:IntKind.i64.wrap ((j:Int)+1)=(j:Int)+1:=by rw [IntKind.wrap_i64];omega
     have s2:((j:Int)+1).toNat=j+1:=by omega
     have s3:(0:Int)≤(j:Int)+1:=by omega
     have s4:IntKind.i64.wrap (32 - (s:Int))=32 - (s:Int):=by rw [IntKind.wrap_i64];omega
     have s5:(32 - (s:Int)).toNat=32 - s:=by omega
     have s6:(0:Int)≤32 - (s:Int):=by omega
     clear hmN2 hr hi hE
     go_wp2
     go_region_held3 (fun W'=>W'.cell? ⟨bu,0,none⟩=some (.slice (some ⟨gu,0,none⟩) (N+1) (N+1))∧W'.cell? ⟨gu,j,none⟩=some (.int .u32 (dg uo j:Nat))∧W'.cell? ⟨gu,j+1,none⟩=some (.int .u32 (dg uo (j+1):Nat)))
      (first | exact ⟨f2,g1,g2⟩ | exact ⟨(hE3 _).1.cell,(hE3 _).2.1.cell hju0,(hE3 _).2.1.cell hju⟩)
      (fail)
     all_goals
      rw [IntKind.wrap_u32,E.out]
      go_wp2
      go_roundw
      case rel=>exact ⟨j+1,_,by omega,by go_num,hr2,hi2,hE3 _⟩
      case measure=>simp [intOf];omega
    ·obtain rfl:j=m+1:=by omega
     have f3:=hE.2.2.1.cell
     have hvr:nval r=nval l%nval v:=zuw hi.out (by omega) HO.out.2 HR.out
     have sr:=hr.sl hi.out.2.1 (B:=W.heap.size+1) (by omega) (by have:=hi.out.1;omega)
     rw [hi.out.1] at sr
     have sq:=hE.2.2.2.1.sl hl.out.2.2.2 (B:=W.heap.size+1) (by omega) (by have:=hl.out.2.2.1;omega)
     rw [hl.out.2.2.1] at sq
     have TR:=Lib.hid (zbj _ _ _ _ _ _ sr.1 sr.2.1 sr.2.2)
     have TQ:=Lib.hid (zbj _ _ _ _ _ _ sq.1 sq.2.1 sq.2.2)
     have VR:=Lib.hid (sr.val hvr)
     have VQ:=Lib.hid (sq.val HO.out.1)
     have hrl:=hr.lt
     clear hvr sr sq hmN2
     go_wp2_with (first
      | (go_at_call 119;(with_reducible refine TQ.out.mono ?_);rintro e w7 ⟨rfl,rfl⟩)
      | (go_at_call 119;(with_reducible refine TR.out.mono ?_);rintro e w7 ⟨rfl,rfl⟩))
     have hK':=hE.2.2.2.2.1
     have hfin:∀(A:Option Addr) (n c:Nat) (L:List Nat),Sl wr (W.heap.size+1) A n c L→Sl (wr.putObj D (.deferred none)) (wr.putObj D (.deferred none)).heap.size A n c L:=fun A n c L h=>zpL h hK' rfl (by omega)
     have hB9:Below w.heap.size w (wr.putObj D (.deferred none)):=hE.2.2.2.2.2.trans (belowK_b (w:=W0) (by have:=hBc.size;omega) wr D _ _ hD hK' rfl rfl)
     refine ⟨by simp,.inl ⟨_,_,rfl,run_takeDeferred hK',?_⟩⟩
     refine ⟨_,results_tmp2 rfl _ _ _,_,_,_,_,_,_,rfl,?_,?_,?_⟩
     ·exact hfin _ _ _ _ VQ.out
     ·exact hfin _ _ _ _ VR.out
     ·exact hB9
  case stop =>
   rintro D c pre W _ _ h _
   exact h.elim
end Go.Proofs.YtjcegdldgjphiaaGreatDoor
namespace Go.Proofs.YtjcegdldgjphiaaGreatDoor
open Go.RowKit Go.Shelf
theorem zrr {A A2:Option Addr} {n n2 c c2 B:Nat} {l m:List Nat} {w:World} (h:Sl w B A n c l) (h2:Sl w B A2 n2 c2 m) (hB:B≤w.heap.size) (hl:Canon l) (hm:Canon m) (hn:n≤1000) (h0:0<n2) :
  Calls Tryz.prog 99 #[.slice A n c,.slice A2 n2 c2] w (zgo (nval l) (nval m) w):=by
 rcases Nat.lt_or_ge (nval l) (nval m) with hv | hv
 ·exact zpd h h2 hB hl hm hv
 ·by_cases h1:n2=1
  ·exact zrt h h2 hB hl hm hn hv h1
  ·obtain ⟨k,rfl⟩:∃k,n2=k+1:=⟨n2 - 1,by omega⟩
   exact zrs h h2 hB hl hm hn (by omega) hv
def RetA (x:Int) (w:World) (e:Ending) (w':World):Prop:=
 ∃A n c,e=.returned (.agg #[.bool (decide (x<0)),.slice A n c])∧Sl w' w'.heap.size A n c (digs x.natAbs)∧Below w.heap.size w w'
theorem zhs {v:Nat} (h:v<18446744073709551616):nval [v%4294967296,v / 4294967296]=v∧Dig [v%4294967296,v / 4294967296]:=by
 refine ⟨by simp [nval];omega,fun d hd=>?_⟩
 simp at hd
 omega
theorem zid {x:Int} (h:x.natAbs<18446744073709551616):vO (fitO x)=x:=by
 rw [zlH];unfold numv
 rw [if_pos]
 exact Nat.lt_of_lt_of_le h (by unfold big;exact Nat.pow_le_pow_right (n:=4294967296) (i:=2) (j:=64) (by omega) (by omega))
theorem S1.frz {w W:World} {neg:Bool} {A:Option Addr} {n c:Nat} (h:S1 w neg A n c W):(∀i,W.frozen? ⟨w.heap.size,i,none⟩=false)∧w.heap.size<W.heap.size:=by
 have h':Below (w.heap.size+1) (w.alloc (.cells #[.bool neg,.slice A n c] 30)) W:=h
 refine ⟨fun i=>?_,by have:=S1.size h;omega⟩
 rw [h'.frozen (p:=⟨w.heap.size,i,none⟩) (by simp)];simp [go_sem]
theorem of_nn (x:Int) (w:World) (h0:0≤x) (h1:x<9223372036854775808) :
  Calls Tryz.prog 98 #[.int .i64 x] w (RetA x w):=by
 obtain ⟨hv,hd⟩:=zhs (v:=x.natAbs) (by omega)
 have hf:=zid (x:=x) (by omega)
 have hsg:sgn false x.natAbs=x:=by unfold sgn;simp;omega
 have e1:IntKind.u64.wrap x=x:=by rw [IntKind.wrap_u64];omega
 have e2:IntKind.u32.wrap x=((x.natAbs%4294967296:Nat):Int):=by rw [IntKind.wrap_u32];omega
 have e3:IntKind.u32.wrap (x / 4294967296)=((x.natAbs / 4294967296:Nat):Int):=by rw [IntKind.wrap_u32];omega
 have e4:¬ x<0:=by omega
 have hng:ngO (fitO x)=decide (x<0):=by unfold ngO;rw [hf]
 obtain ⟨v,ev⟩:∃v,x.natAbs=v:=⟨_,rfl⟩
 rw [ev] at hv hd hsg e2 e3
 obtain ⟨d0,ed0⟩:∃d0,v%4294967296=d0:=⟨_,rfl⟩
 obtain ⟨d1,ed1⟩:∃d1,v / 4294967296=d1:=⟨_,rfl⟩
 rw [ed0,ed1] at hv hd
 rw [ed0] at e2
 rw [ed1] at e3
 clear ed0 ed1 ev
 have hb1:decide (x<0)=false:=by simp;omega
 have s0:=S1.start (w:=w) (neg:=false) (A:=none) (n:=0) (c:=0)
 have hD:DBk ((w.alloc (.cells #[.bool false,.slice none 0 0] 30)).alloc (.cells #[.int .u32 (d0:Nat),.int .u32 (d1:Nat)] 123)) (w.heap.size+1) 123 [d0,d1]:=zI _ _ _ (by simp)
 have hsl:=Lib.hid (hD.sl (B:=w.heap.size+1+1) hd (by omega) (by simp))
 have s1:=s0.via ((Below.refl _ _).alloc (Nat.le_refl _) (.cells #[.int .u32 (d0:Nat),.int .u32 (d1:Nat)] 123))
 clear hD
 go_enter Tryz.func98,Tryz.ntmps98
 go_wp2_with (first
  | (go_at_call 100;(with_reducible refine (zbx _ 2 2 _ v false [d0,d1] _ hsl.out (by simp) hv).mono ?_);rw [hsg];rintro e w2 hr;obtain ⟨A4,n4,c4,rfl,hs4,hb4⟩:=zcT hr;rw [hng,hb1];rw [hf] at hs4;have s2:=s1.via hb4;obtain ⟨r0,r1⟩:=s2.facts;obtain ⟨rf,rz⟩:=s2.frz)
  | fail "no arm")
 obtain ⟨q0,q1⟩:=zJ (.bool false) (.slice A4 n4 c4) r0 r1
 refine bodyPost_ret (v:=.agg #[.bool false,.slice A4 n4 c4]) ?_ rfl ⟨_,_,_,by rw [hb1],?_,?_⟩
 ·simp [results,Tryz.f98,go_sem,q0,q1,rz]
 ·exact ((hs4.stored r0 r1 _ _).below ((Below.refl _ _).alloc (Nat.le_refl _) _)).more (by simp)
 ·exact ((s2.below.setCell (by simp) _).setCell (by simp) _).alloc (by simp [World.setCell];omega) _
theorem zvy (x:Int) (w:World) (h0:x<0) (h1:-9223372036854775808≤x) :
  Calls Tryz.prog 98 #[.int .i64 x] w (RetA x w):=by
 obtain ⟨hv,hd⟩:=zhs (v:=x.natAbs) (by omega)
 have hf:=zid (x:=x) (by omega)
 have hsg:sgn true x.natAbs=x:=by unfold sgn;simp;omega
 obtain ⟨z,ez⟩:∃z,IntKind.u64.wrap (-(IntKind.u64.wrap x))=z:=⟨_,rfl⟩
 have ez2:z=(x.natAbs:Int):=by rw [← ez,IntKind.wrap_u64,IntKind.wrap_u64];omega
 have ez3:0≤z∧z≤18446744073709551615:=by omega
 have e2:IntKind.u32.wrap z=((x.natAbs%4294967296:Nat):Int):=by rw [IntKind.wrap_u32];omega
 have e3:IntKind.u32.wrap (z / 4294967296)=((x.natAbs / 4294967296:Nat):Int):=by rw [IntKind.wrap_u32];omega
 have e4:x<0:=h0
 have hng:ngO (fitO x)=decide (x<0):=by unfold ngO;rw [hf]
 obtain ⟨v,ev⟩:∃v,x.natAbs=v:=⟨_,rfl⟩
 rw [ev] at hv hd hsg e2 e3
 obtain ⟨d0,ed0⟩:∃d0,v%4294967296=d0:=⟨_,rfl⟩
 obtain ⟨d1,ed1⟩:∃d1,v / 4294967296=d1:=⟨_,rfl⟩
 rw [ed0,ed1] at hv hd
 rw [ed0] at e2
 rw [ed1] at e3
 clear ed0 ed1 ev ez2
 have hb1:decide (x<0)=true:=by simp;omega
 have s0:=S1.start (w:=w) (neg:=false) (A:=none) (n:=0) (c:=0)
 have hD:DBk ((w.alloc (.cells #[.bool false,.slice none 0 0] 30)).alloc (.cells #[.int .u32 (d0:Nat),.int .u32 (d1:Nat)] 123)) (w.heap.size+1) 123 [d0,d1]:=zI _ _ _ (by simp)
 have hsl:=Lib.hid (hD.sl (B:=w.heap.size+1+1) hd (by omega) (by simp))
 have s1:=s0.via ((Below.refl _ _).alloc (Nat.le_refl _) (.cells #[.int .u32 (d0:Nat),.int .u32 (d1:Nat)] 123))
 clear hD
 go_enter Tryz.func98,Tryz.ntmps98
 go_wp2_with (first
  | (go_at_call 100;(with_reducible refine (zbx _ 2 2 _ v true [d0,d1] _ hsl.out (by simp) hv).mono ?_);rw [hsg];rintro e w2 hr;obtain ⟨A4,n4,c4,rfl,hs4,hb4⟩:=zcT hr;rw [hng,hb1];rw [hf] at hs4;have s2:=s1.via hb4;obtain ⟨r0,r1⟩:=s2.facts;obtain ⟨rf,rz⟩:=s2.frz)
  | fail "no arm")
 obtain ⟨q0,q1⟩:=zJ (.bool true) (.slice A4 n4 c4) r0 r1
 refine bodyPost_ret (v:=.agg #[.bool true,.slice A4 n4 c4]) ?_ rfl ⟨_,_,_,by rw [hb1],?_,?_⟩
 ·simp [results,Tryz.f98,go_sem,q0,q1,rz]
 ·exact ((hs4.stored r0 r1 _ _).below ((Below.refl _ _).alloc (Nat.le_refl _) _)).more (by simp)
 ·exact ((s2.below.setCell (by simp) _).setCell (by simp) _).alloc (by simp [World.setCell];omega) _
theorem zvx (x:Int) (w:World) (h0:-9223372036854775808≤x) (h1:x<9223372036854775808) :
  Calls Tryz.prog 98 #[.int .i64 x] w (RetA x w):=by
 rcases Int.lt_or_le x 0 with h | h
 ·exact zvy x w h h0
 ·exact of_nn x w h h1
end Go.Proofs.YtjcegdldgjphiaaGreatDoor
namespace Go.Proofs.YtjcegdldgjphiaaGreatDoor
open Go.RowKit Go.Shelf
def Sd (w:World) (neg:Bool) (A:Option Addr) (n c:Nat) (neg2:Bool) (A2:Option Addr) (n2 c2:Nat) (W:World):Prop:=
 Below (w.heap.size+1+1+1+1) ((((w.alloc (.cells #[.bool neg,.slice A n c] 30)).alloc (.cells #[.bool neg2,.slice A2 n2 c2] 30)).alloc (.cells #[.bool false,.slice none 0 0] 30)).alloc (.cells #[.bool false,.slice none 0 0] 30)) W
section
variable {w W W1:World} {neg neg2:Bool} {A A2:Option Addr} {n c n2 c2:Nat}
theorem Sd.start:Sd w neg A n c neg2 A2 n2 c2 ((((w.alloc (.cells #[.bool neg,.slice A n c] 30)).alloc (.cells #[.bool neg2,.slice A2 n2 c2] 30)).alloc (.cells #[.bool false,.slice none 0 0] 30)).alloc (.cells #[.bool false,.slice none 0 0] 30)):=Below.refl _ _
theorem Sd.size (h:Sd w neg A n c neg2 A2 n2 c2 W):w.heap.size+1+1+1+1≤W.heap.size:=by have:=Below.size h;simpa using this
theorem Sd.via (h:Sd w neg A n c neg2 A2 n2 c2 W) (hb:Below W.heap.size W W1):Sd w neg A n c neg2 A2 n2 c2 W1:=Below.trans h (hb.mono h.size)
theorem Sd.drew (h:Sd w neg A n c neg2 A2 n2 c2 W):Sd w neg A n c neg2 A2 n2 c2 W.drew:=Below.drew h
theorem Sd.drewN (h:Sd w neg A n c neg2 A2 n2 c2 W) (k:Nat):Sd w neg A n c neg2 A2 n2 c2 (W.drewN k):=zX h k
theorem Sd.alloc (h:Sd w neg A n c neg2 A2 n2 c2 W) (o:Obj):Sd w neg A n c neg2 A2 n2 c2 (W.alloc o):=h.via ((Below.refl _ _).alloc (Nat.le_refl _) o)
theorem Sd.below (h:Sd w neg A n c neg2 A2 n2 c2 W):Below w.heap.size w W:=Below.trans (by go_grown) (Below.mono h (by omega))
theorem Sd.facts (h:Sd w neg A n c neg2 A2 n2 c2 W):W.cell? ⟨w.heap.size,0,none⟩=some (.bool neg)∧W.cell? ⟨w.heap.size,1,none⟩=some (.slice A n c)∧W.cell? ⟨w.heap.size+1,0,none⟩=some (.bool neg2)∧W.cell? ⟨w.heap.size+1,1,none⟩=some (.slice A2 n2 c2) ∧
  W.cell? ⟨w.heap.size+1+1,0,none⟩=some (.bool false)∧W.cell? ⟨w.heap.size+1+1,1,none⟩=some (.slice none 0 0)∧(∀i,W.frozen? ⟨w.heap.size+1+1,i,none⟩=false) ∧
  W.cell? ⟨w.heap.size+1+1+1,0,none⟩=some (.bool false)∧W.cell? ⟨w.heap.size+1+1+1,1,none⟩=some (.slice none 0 0)∧(∀i,W.frozen? ⟨w.heap.size+1+1+1,i,none⟩=false)∧w.heap.size+1+1+1<W.heap.size:=by
 have h':Below (w.heap.size+1+1+1+1) ((((w.alloc (.cells #[.bool neg,.slice A n c] 30)).alloc (.cells #[.bool neg2,.slice A2 n2 c2] 30)).alloc (.cells #[.bool false,.slice none 0 0] 30)).alloc (.cells #[.bool false,.slice none 0 0] 30)) W:=h
 have k:=fun b o (hb:b<w.heap.size+1+1+1+1)=>h'.cell (p:=⟨b,o,none⟩) hb
 have f:=fun b o (hb:b<w.heap.size+1+1+1+1)=>h'.frozen (p:=⟨b,o,none⟩) hb
 refine ⟨?_,?_,?_,?_,?_,?_,fun i=>?_,?_,?_,fun i=>?_,by have:=Sd.size h;omega⟩
 ·rw [k _ _ (by omega)];simp [go_sem]
 ·rw [k _ _ (by omega)];simp [go_sem]
 ·rw [k _ _ (by omega)];simp [go_sem]
 ·rw [k _ _ (by omega)];simp [go_sem]
 ·rw [k _ _ (by omega)];simp [go_sem]
 ·rw [k _ _ (by omega)];simp [go_sem]
 ·rw [f _ _ (by omega)];simp [go_sem]
 ·rw [k _ _ (by omega)];simp [go_sem]
 ·rw [k _ _ (by omega)];simp [go_sem]
 ·rw [f _ _ (by omega)];simp [go_sem]
end
def dqO (r:Option (Int×Int)):Int:=(r.getD (0,0)).1
def drO (r:Option (Int×Int)):Int:=(r.getD (0,0)).2
def zfJ (r:Option (Int×Int)) (w:World) (e:Ending) (w':World):Prop:=
 ∃A n c A2 n2 c2,e=.returned (.tuple #[.agg #[.bool (decide (dqO r<0)),.slice A n c],.agg #[.bool (decide (drO r<0)),.slice A2 n2 c2],.bool r.isSome]) ∧
  Sl w' w'.heap.size A n c (digs (dqO r).natAbs)∧Sl w' w'.heap.size A2 n2 c2 (digs (drO r).natAbs)∧Below w.heap.size w w'
theorem zcv {w:World} {b b2:Nat} {u0 u1 u2 u3:Value} (v0 v1 v2 v3:Value) (g0:w.cell? ⟨b,0,none⟩=some u0) (g1:w.cell? ⟨b,1,none⟩=some u1) (g2:w.cell? ⟨b2,0,none⟩=some u2) (g3:w.cell? ⟨b2,1,none⟩=some u3) (hne:b≠b2) :
  ((((w.setCell ⟨b,0,none⟩ v0).setCell ⟨b,1,none⟩ v1).setCell ⟨b2,0,none⟩ v2).setCell ⟨b2,1,none⟩ v3).cell? ⟨b,0,none⟩=some v0∧((((w.setCell ⟨b,0,none⟩ v0).setCell ⟨b,1,none⟩ v1).setCell ⟨b2,0,none⟩ v2).setCell ⟨b2,1,none⟩ v3).cell? ⟨b,1,none⟩=some v1 ∧
  ((((w.setCell ⟨b,0,none⟩ v0).setCell ⟨b,1,none⟩ v1).setCell ⟨b2,0,none⟩ v2).setCell ⟨b2,1,none⟩ v3).cell? ⟨b2,0,none⟩=some v2∧((((w.setCell ⟨b,0,none⟩ v0).setCell ⟨b,1,none⟩ v1).setCell ⟨b2,0,none⟩ v2).setCell ⟨b2,1,none⟩ v3).cell? ⟨b2,1,none⟩=some v3:=by
 obtain ⟨q0,q1⟩:=zJ v0 v1 g0 g1
 have h2:((w.setCell ⟨b,0,none⟩ v0).setCell ⟨b,1,none⟩ v1).cell? ⟨b2,0,none⟩=some u2:=by
  rw [World.cell?_setCell_other _ _ _ _ (by simp),World.cell?_setCell_other _ _ _ _ (by simp),g2]
 have h3:((w.setCell ⟨b,0,none⟩ v0).setCell ⟨b,1,none⟩ v1).cell? ⟨b2,1,none⟩=some u3:=by
  rw [World.cell?_setCell_other _ _ _ _ (by simp),World.cell?_setCell_other _ _ _ _ (by simp),g3]
 obtain ⟨p0,p1⟩:=zJ v2 v3 h2 h3
 refine ⟨?_,?_,?_,p1⟩
 ·rw [World.cell?_setCell_other _ _ _ _ (by simp),World.cell?_setCell_other _ _ _ _ (by simp),World.cell?_setCell_other _ _ _ _ (by simp),q0]
 ·rw [World.cell?_setCell_other _ _ _ _ (by simp),World.cell?_setCell_other _ _ _ _ (by simp),q1]
 ·rw [World.cell?_setCell_other _ _ _ _ (by simp),p0]
end Go.Proofs.YtjcegdldgjphiaaGreatDoor
namespace Go.Proofs.YtjcegdldgjphiaaGreatDoor
open Go.RowKit Go.Shelf
theorem zlI {x:Int} (h:x.natAbs<big):vO (fitO x)=x∧ngO (fitO x)=decide (x<0):=by
 have h1:vO (fitO x)=x:=by rw [zlH];unfold numv;rw [if_pos h]
 exact ⟨h1,by unfold ngO;rw [h1]⟩
theorem Sl.stored4 {w:World} {b b2 n c:Nat} {A:Option Addr} {l:List Nat} {x x2:Bool} {A2 A3:Option Addr} {n2 c2 n3 c3:Nat} (h:Sl w w.heap.size A n c l) (g0:w.cell? ⟨b,0,none⟩=some (.bool x)) (g1:w.cell? ⟨b,1,none⟩=some (.slice A2 n2 c2)) (g2:w.cell? ⟨b2,0,none⟩=some (.bool x2)) (g3:w.cell? ⟨b2,1,none⟩=some (.slice A3 n3 c3)) (hne:b≠b2) (v0 v1 v2 v3:Value) :
  Sl ((((w.setCell ⟨b,0,none⟩ v0).setCell ⟨b,1,none⟩ v1).setCell ⟨b2,0,none⟩ v2).setCell ⟨b2,1,none⟩ v3) ((((w.setCell ⟨b,0,none⟩ v0).setCell ⟨b,1,none⟩ v1).setCell ⟨b2,0,none⟩ v2).setCell ⟨b2,1,none⟩ v3).heap.size A n c l:=by
 refine (h.stored g0 g1 v0 v1).stored (b:=b2) (x:=x2) (A2:=A3) (n2:=n3) (c2:=c3) ?_ ?_ v2 v3
 ·rw [World.cell?_setCell_other _ _ _ _ (by simp),World.cell?_setCell_other _ _ _ _ (by simp),g2]
 ·rw [World.cell?_setCell_other _ _ _ _ (by simp),World.cell?_setCell_other _ _ _ _ (by simp),g3]
def RetQR (q r:Nat) (w:World) (e:Ending) (w':World):Prop:=
 ∃A n c A2 n2 c2,e=.returned (.tuple #[.slice A n c,.slice A2 n2 c2])∧Sl w' w'.heap.size A n c (digs q)∧Sl w' w'.heap.size A2 n2 c2 (digs r)∧Below w.heap.size w w'
end Go.Proofs.YtjcegdldgjphiaaGreatDoor
namespace Go.Proofs.YtjcegdldgjphiaaGreatDoor
open Go.RowKit Go.Shelf
theorem zuQ {L V:Nat} (hV:0<V) (hr:0<L%V):L / V+1≤L:=by
 have h1:=Nat.div_add_mod L V
 have h2:=Nat.mod_lt L hV
 have h3:L / V*2≤L / V*V:=Nat.mul_le_mul_left _ (by omega)
 rw [Nat.mul_comm V] at h1
 omega
end Go.Proofs.YtjcegdldgjphiaaGreatDoor
namespace Go.Proofs.YtjcegdldgjphiaaGreatDoor
open Go.RowKit Go.Shelf
def divS (neg:Bool) (l:List Nat) (neg2:Bool) (m:List Nat):Option (Int×Int):=
 if zw neg l=true∧zw neg2 m=true∧m≠[] then some (sgn neg (nval l) / sgn neg2 (nval m),sgn neg (nval l)%sgn neg2 (nval m)) else none
theorem zqX (L V:Nat):(L:Int) / (V:Int)=((L / V:Nat):Int)∧(L:Int)%(V:Int)=((L%V:Nat):Int):=⟨rfl,rfl⟩
theorem zou {L V:Nat} (hV:0<V) (h:L%V=0):(-(L:Int)) / (V:Int)=-((L / V:Nat):Int)∧(-(L:Int))%(V:Int)=0:=by
 refine (Int.ediv_emod_unique (by omega)).2 ⟨?_,by omega,by omega⟩
 have h1:V*(L / V)=L:=by have:=Nat.div_add_mod L V;omega
 have h2:=congrArg (fun n:Nat=>(n:Int)) h1
 simp only [Int.natCast_mul] at h2
 rw [Int.mul_neg,h2];omega
theorem zty {L V:Nat} (hV:0<V) (h:0<L%V):(-(L:Int)) / (V:Int)=-((L / V+1:Nat):Int)∧(-(L:Int))%(V:Int)=((V - L%V:Nat):Int):=by
 have h0:=Nat.mod_lt L hV
 refine (Int.ediv_emod_unique (by omega)).2 ⟨?_,by omega,by omega⟩
 have h2:=congrArg (fun n:Nat=>(n:Int)) (Nat.div_add_mod L V)
 simp only [Int.natCast_mul,Int.natCast_add] at h2
 rw [Int.mul_neg,Int.natCast_add,Int.mul_add]
 omega
theorem zos {L V:Nat} (hV:0<V) (neg neg2:Bool) (hz:neg=false∨L%V=0):(sgn (!(neg == neg2)) (L / V),sgn false (L%V))=(sgn neg L / sgn neg2 V,sgn neg L%sgn neg2 V):=by
 have e1:=zqX L V
 cases neg with
 | false =>
  cases neg2 with
  | false=>show (((L / V:Nat):Int),((L%V:Nat):Int))=((L:Int) / (V:Int),(L:Int)%(V:Int));rw [e1.1,e1.2]
  | true=>show (-((L / V:Nat):Int),((L%V:Nat):Int))=((L:Int) / -(V:Int),(L:Int) % -(V:Int));rw [Int.ediv_neg,Int.emod_neg,e1.1,e1.2]
 | true =>
  have hz2:L%V=0:=by
   rcases hz with h | h
   ·cases h
   ·exact h
  have e2:=zou hV hz2
  cases neg2 with
  | false=>show (-((L / V:Nat):Int),((L%V:Nat):Int))=(-(L:Int) / (V:Int),-(L:Int)%(V:Int));rw [e2.1,e2.2,hz2];rfl
  | true=>show (((L / V:Nat):Int),((L%V:Nat):Int))=(-(L:Int) / -(V:Int),-(L:Int) % -(V:Int));rw [Int.ediv_neg,Int.emod_neg,e2.1,e2.2,hz2,Int.neg_neg];rfl
theorem zh6 {L V:Nat} (hV:0<V) (neg2:Bool) (hz:0<L%V):(sgn (!neg2) (L / V+1),sgn false (V - L%V))=(sgn true L / sgn neg2 V,sgn true L%sgn neg2 V):=by
 have e2:=zty hV hz
 cases neg2 with
 | false=>show (-((L / V+1:Nat):Int),((V - L%V:Nat):Int))=(-(L:Int) / (V:Int),-(L:Int)%(V:Int));rw [e2.1,e2.2]
 | true=>show (((L / V+1:Nat):Int),((V - L%V:Nat):Int))=(-(L:Int) / -(V:Int),-(L:Int) % -(V:Int));rw [Int.ediv_neg,Int.emod_neg,e2.1,e2.2,Int.neg_neg]
end Go.Proofs.YtjcegdldgjphiaaGreatDoor
namespace Go.Proofs.YtjcegdldgjphiaaGreatDoor
open Go.RowKit Go.Shelf
def gcdS (neg:Bool) (l:List Nat) (neg2:Bool) (m:List Nat):Option Int:=
 if zw neg l=true∧zw neg2 m=true then fitO ((Nat.gcd (nval l) (nval m):Nat):Int) else none
theorem ztC (neg neg2:Bool) {A A2:Option Addr} {n n2 c c2 B:Nat} {l:List Nat} {w:World} (h:Sl w B A n c l) (hB:B≤w.heap.size) (h1:zw neg l=false) :
  Calls Tryz.prog 72 #[.agg #[.bool neg,.slice A n c],.agg #[.bool neg2,.slice A2 n2 c2]] w (RetN none w):=by
 have R1:=Lib.hid (zag neg (h.more hB) false h1)
 have s0:=Sm.start (w:=w) (neg:=neg) (A:=A) (n:=n) (c:=c) (neg2:=neg2) (A2:=A2) (n2:=n2) (c2:=c2)
 clear h h1
 go_enter Tryz.func72,Tryz.ntmps72
 go_wp2_with (go_at_call 96;refine (R1.out _ s0.below).mono ?_;rintro e w1 ⟨rfl,hb⟩;have s1:=s0.via hb;obtain ⟨a0,a1,b0,b1,r0,r1,rf,rz⟩:=s1.facts)
 obtain ⟨q0,q1⟩:=zJ (.bool false) (.slice none 0 0) r0 r1
 refine bodyPost_ret (v:=.tuple #[.agg #[.bool false,.slice none 0 0],.bool false]) ?_ rfl ⟨_,_,_,rfl,by rw [show digs (vO none).natAbs=[] from zx];exact Sl.none_,?_⟩
 ·simp [results,Tryz.f72,go_sem,q0,q1]
 ·exact (s1.below.setCell (by simp;omega) _).setCell (by simp;omega) _
theorem ztD (neg neg2:Bool) {A A2:Option Addr} {n n2 c c2 B:Nat} {l m:List Nat} {w:World} (h:Sl w B A n c l) (h2:Sl w B A2 n2 c2 m) (hB:B≤w.heap.size) (h1:zw neg l=true) (k1:zw neg2 m=false) :
  Calls Tryz.prog 72 #[.agg #[.bool neg,.slice A n c],.agg #[.bool neg2,.slice A2 n2 c2]] w (RetN none w):=by
 have R1:=Lib.hid (zag neg (h.more hB) true h1)
 have R2:=Lib.hid (zag neg2 (h2.more hB) false k1)
 have s0:=Sm.start (w:=w) (neg:=neg) (A:=A) (n:=n) (c:=c) (neg2:=neg2) (A2:=A2) (n2:=n2) (c2:=c2)
 clear h h1 h2 k1
 go_enter Tryz.func72,Tryz.ntmps72
 go_wp2_with (first
  | (go_at_call 96;(with_reducible refine (R1.out _ s0.below).mono ?_);rintro e w1 ⟨rfl,hb⟩;have s1:=s0.via hb;obtain ⟨a0,a1,b0,b1,r0,r1,rf,rz⟩:=s1.facts)
  | (go_at_call 96;(with_reducible refine (R2.out _ s1.below).mono ?_);rintro e w2 ⟨rfl,hb⟩;have s2:=s1.via hb;clear a0 a1 b0 b1 r0 r1 rf rz;obtain ⟨a0,a1,b0,b1,r0,r1,rf,rz⟩:=s2.facts)
  | fail "no arm")
 obtain ⟨q0,q1⟩:=zJ (.bool false) (.slice none 0 0) r0 r1
 refine bodyPost_ret (v:=.tuple #[.agg #[.bool false,.slice none 0 0],.bool false]) ?_ rfl ⟨_,_,_,rfl,by rw [show digs (vO none).natAbs=[] from zx];exact Sl.none_,?_⟩
 ·simp [results,Tryz.f72,go_sem,q0,q1]
 ·exact (s2.below.setCell (by simp;omega) _).setCell (by simp;omega) _
theorem zgY (p q:Nat):Nat.gcd q (p%q)=Nat.gcd p q:=by rw [Nat.gcd_comm,← Nat.gcd_rec,Nat.gcd_comm]
theorem ztF (neg neg2:Bool) {A A2:Option Addr} {n n2 c c2 B:Nat} {l m:List Nat} {w:World} (h:Sl w B A n c l) (h2:Sl w B A2 n2 c2 m) (hB:B≤w.heap.size) (h1:zw neg l=true) (k1:zw neg2 m=true) :
  Calls Tryz.prog 72 #[.agg #[.bool neg,.slice A n c],.agg #[.bool neg2,.slice A2 n2 c2]] w (RetN (fitO ((Nat.gcd (nval l) (nval m):Nat):Int)) w):=by
 have R1:=Lib.hid (zag neg (h.more hB) true h1)
 have R2:=Lib.hid (zag neg2 (h2.more hB) true k1)
 have hl:=zC h1 h.dig
 have hm:=zC k1 h2.dig
 have hlb:nval l<big:=(qg hl.1).1 hl.2.1
 have hmb:nval m<big:=(qg hm.1).1 hm.2.1
 have h':=Lib.hid (h.more hB)
 have h2':=Lib.hid (h2.more hB)
 have s0:=Sm.start (w:=w) (neg:=neg) (A:=A) (n:=n) (c:=c) (neg2:=neg2) (A2:=A2) (n2:=n2) (c2:=c2)
 obtain ⟨G,hG⟩:∃G,Nat.gcd (nval l) (nval m)=G:=⟨_,rfl⟩
 rw [hG]
 have I0:Hid (∃p q,l=digs p∧m=digs q∧Nat.gcd p q=G∧p<big∧q<big):=Lib.hid ⟨nval l,nval m,zbm hl.1,zbm hm.1,hG,hlb,hmb⟩
 clear h h1 h2 k1 hl hm hlb hmb hG
 go_enter Tryz.func72,Tryz.ntmps72
 go_wp2_with (first
  | (go_at_call 96;(with_reducible refine (R1.out _ s0.below).mono ?_);rintro e w1 ⟨rfl,hb⟩;have s1:=s0.via hb;obtain ⟨a0,a1,b0,b1,r0,r1,rf,rz⟩:=s1.facts)
  | (go_at_call 96;(with_reducible refine (R2.out _ s1.below).mono ?_);rintro e w2 ⟨rfl,hb⟩;have s2:=s1.via hb;clear a0 a1 b0 b1 r0 r1 rf rz;obtain ⟨a0,a1,b0,b1,r0,r1,rf,rz⟩:=s2.facts)
  | fail "no arm")
 go_quiet (fail)
 have s3:=s2.drewN nq
 clear a0 a1 b0 b1 r0 r1 rf rz R1 R2
 go_wp2_with fail
 go_loopw [6,7] (fun x y wr=>∃A3 n3 c3 p A4 n4 c4 q,x=.slice A3 n3 c3∧y=.slice A4 n4 c4∧Sm w neg A n c neg2 A2 n2 c2 wr∧Hid (Sl wr wr.heap.size A3 n3 c3 (digs p)∧Sl wr wr.heap.size A4 n4 c4 (digs q)∧Nat.gcd p q=G∧p<big∧q<big)) (fun _ y wr=>slv wr y)
 case atStart =>
  obtain ⟨p,q,rfl,rfl,i1,i2,i3⟩:=I0.out
  exact ⟨A,n,c,p,A2,n2,c2,q,rfl,rfl,s3,Lib.hid ⟨(h'.out.below s3.below).more s3.below.size,(h2'.out.below s3.below).more s3.below.size,i1,i2,i3⟩⟩
 case round =>
  obtain ⟨A3,n3,c3,p,A4,n4,c4,q,rfl,rfl,sr,hI⟩:=hrel
  obtain ⟨a0,a1,b0,b1,r0,r1,rf,rz⟩:=sr.facts
  by_cases h6:(0:Int)<n4
  ·by_cases h5:(2:Int)<max (n3:Int) (n4:Int)
   ·have hq0:0<q:=by have:=(qG hI.out.2.1).2;omega
    have OV:Hid (Calls Tryz.prog 99 #[.slice A3 n3 c3,.slice A4 n4 c4] wr (RetQR (p / q) (p%q) wr)):=by
     obtain ⟨i1,i2,i3,i4,i5⟩:=hI.out
     have:=zrr i1 i2 (Nat.le_refl _) (zL p) (zL q) (by have:=zat i1 i4;omega) (by omega)
     rw [zn,zn] at this
     exact Lib.hid this
    go_wp2_with (first
     | (go_at_call 99;(with_reducible refine (OV.out).mono ?_);rintro e w3 ⟨A5,n5,c5,A6,n6,c6,rfl,hsq,hsr,hb3⟩;have sr2:=sr.via hb3)
     | fail "no arm")
    obtain ⟨i1,i2,i3,i4,i5⟩:=hI.out
    refine ⟨⟨A4,n4,c4,q,A6,n6,c6,p%q,rfl,rfl,sr2,Lib.hid ⟨(i2.below hb3).more hb3.size,hsr,by rw [zgY];exact i3,i5,Nat.lt_trans (Nat.mod_lt _ hq0) i5⟩⟩,?_⟩
    rw [zcJ hsr,zcJ i2,zn,zn]
    exact Nat.mod_lt _ hq0
   ·have hw3:n3≤2∧n4≤2:=by omega
    have hne:((n4:Int) == 0)=false:=by simp;omega
    have hne2:¬ (n4:Int)=0:=by omega
    obtain ⟨i1,i2,i3,i4,i5⟩:=hI.out
    have hp64:Hid (p<18446744073709551616∧q<18446744073709551616):=by
     have g1:=qH (zL p).1
     have g2:=qH (zL q).1
     rw [zn,i1.len] at g1
     rw [zn,i2.len] at g2
     have g3:4294967296 ^ n3≤4294967296 ^ 2:=Nat.pow_le_pow_right (by omega) hw3.1
     have g4:4294967296 ^ n4≤4294967296 ^ 2:=Nat.pow_le_pow_right (by omega) hw3.2
     exact Lib.hid ⟨by omega,by omega⟩
    have W1:=Lib.hid (zmh A3 n3 c3 wr.heap.size (digs p) wr i1 (Nat.le_refl _) hw3.1)
    have W2:=Lib.hid (fun (W:World) (hW:Below wr.heap.size wr W)=>zmh A4 n4 c4 wr.heap.size (digs q) W (i2.below hW) hW.size hw3.2)
    rw [zn] at W1 W2
    clear i1 i2 i4 i5 hI
    go_wp2_with (first
     | (go_at_call 101;(with_reducible refine (W1.out).mono ?_);rintro e w3 ⟨rfl,hb3⟩;have sr2:=sr.via hb3;clear a0 a1 b0 b1 r0 r1 rf rz;obtain ⟨a0,a1,b0,b1,r0,r1,rf,rz⟩:=sr2.facts)
     | (go_at_call 101;(with_reducible refine (W2.out _ hb3).mono ?_);rintro e w4 ⟨rfl,hb4⟩;have sr3:=sr2.via hb4;clear a0 a1 b0 b1 r0 r1 rf rz;obtain ⟨a0,a1,b0,b1,r0,r1,rf,rz⟩:=sr3.facts)
     | fail "no arm")
    clear a0 a1 b0 b1 r0 r1 rf rz W1 W2
    go_loopw [10,11] (fun x y W=>∃a b:Nat,x=.int .u64 a∧y=.int .u64 b∧a<18446744073709551616∧b<18446744073709551616∧Sm w neg A n c neg2 A2 n2 c2 W∧Hid (Nat.gcd a b=G)) (fun _ y _=>(intOf y).toNat)
    case atStart=>exact ⟨p,q,rfl,rfl,hp64.out.1,hp64.out.2,sr3,Lib.hid i3⟩
    case round =>
     obtain ⟨a,b,rfl,rfl,ha,hb,sq,hg⟩:=hrel
     by_cases hb0:(0:Int)<b
     ·have hbn:(b:Int)≠0:=by omega
      go_wp2_with fail
      go_quiet (fail)
      go_roundw
      case rel =>
       refine ⟨_,_,_,_,_,_,_,_,⟨b,a%b,?_,?_,hb,Nat.lt_trans (Nat.mod_lt _ (by omega)) hb,sq.drewN nq,Lib.hid (by rw [zgY];exact hg.out)⟩,rfl⟩
       ·rfl
       ·rfl
      case measure =>
       have:=Nat.mod_lt a (show 0<b by omega)
       show (((a%b:Nat):Int)).toNat<((b:Nat):Int).toNat
       rw [Int.toNat_natCast,Int.toNat_natCast]
       exact this
     ·obtain rfl:b=0:=by omega
      obtain rfl:a=G:=by have:=hg.out;rwa [Nat.gcd_zero_right] at this
      obtain ⟨hv,hd⟩:=zhs (v:=a) ha
      have e2:IntKind.u32.wrap (a:Int)=((a%4294967296:Nat):Int):=by rw [IntKind.wrap_u32];omega
      have e3:IntKind.u32.wrap ((a:Int) / 4294967296)=((a / 4294967296:Nat):Int):=by rw [IntKind.wrap_u32];omega
      obtain ⟨d0,ed0⟩:∃d0,a%4294967296=d0:=⟨_,rfl⟩
      obtain ⟨d1,ed1⟩:∃d1,a / 4294967296=d1:=⟨_,rfl⟩
      rw [ed0,ed1] at hv hd
      rw [ed0] at e2
      rw [ed1] at e3
      clear ed0 ed1 hb0 hg i3 h5 hne hne2 hw3
      have hD:DBk (wr.alloc (.cells #[.int .u32 (d0:Nat),.int .u32 (d1:Nat)] 123)) wr.heap.size 123 [d0,d1]:=zI _ _ _ rfl
      have hsl:=Lib.hid (hD.sl (B:=wr.heap.size+1) hd (by omega) (by simp))
      have s5:=sq.via ((Below.refl _ _).alloc (Nat.le_refl _) (.cells #[.int .u32 (d0:Nat),.int .u32 (d1:Nat)] 123))
      clear hD
      go_wp2_with (first
       | (go_at_call 100;(with_reducible refine (zbx _ 2 2 _ a false [d0,d1] _ hsl.out (by simp) hv).mono ?_);rintro e w2 hr;obtain ⟨A6,n6,c6,rfl,hs6,hb6⟩:=zcT hr;have s6:=s5.via hb6;obtain ⟨a0,a1,b0,b1,r0,r1,rf,rz⟩:=s6.facts)
       | fail "no arm")
      obtain ⟨q0,q1⟩:=zJ (.bool (ngO (fitO (sgn false a)))) (.slice A6 n6 c6) r0 r1
      refine bodyPost_ret (v:=.tuple #[.agg #[.bool (ngO (fitO (sgn false a))),.slice A6 n6 c6],.bool (okO (fitO (sgn false a)))]) ?_ rfl ⟨_,_,_,rfl,?_,?_⟩
      ·simp [results,Tryz.f72,go_sem,q0,q1]
      ·exact hs6.stored r0 r1 _ _
      ·exact (s6.below.setCell (by simp;omega) _).setCell (by simp;omega) _
  ·obtain rfl:n4=0:=by omega
   have hq0:q=0:=(qG hI.out.2.1).1 rfl
   obtain rfl:p=G:=by have:=hI.out.2.2.1;rwa [hq0,Nat.gcd_zero_right] at this
   have NU:=Lib.hid (zbx A3 n3 c3 wr.heap.size _ false _ wr hI.out.1 (Nat.le_refl _) (zn _))
   clear hq0 hI
   by_cases h5:(2:Int)<max (n3:Int) ((0:Nat):Int)
   ·go_wp2_with (first
     | (go_at_call 100;(with_reducible refine (NU.out).mono ?_);rintro e w2 hr;obtain ⟨A6,n6,c6,rfl,hs6,hb6⟩:=zcT hr;have s6:=sr.via hb6;clear a0 a1 b0 b1 r0 r1 rf rz;obtain ⟨a0,a1,b0,b1,r0,r1,rf,rz⟩:=s6.facts)
     | fail "no arm")
    obtain ⟨q0,q1⟩:=zJ (.bool (ngO (fitO (sgn false p)))) (.slice A6 n6 c6) r0 r1
    refine bodyPost_ret (v:=.tuple #[.agg #[.bool (ngO (fitO (sgn false p))),.slice A6 n6 c6],.bool (okO (fitO (sgn false p)))]) ?_ rfl ⟨_,_,_,rfl,?_,?_⟩
    ·simp [results,Tryz.f72,go_sem,q0,q1]
    ·exact hs6.stored r0 r1 _ _
    ·exact (s6.below.setCell (by simp;omega) _).setCell (by simp;omega) _
   ·go_wp2_with (first
     | (go_at_call 100;(with_reducible refine (NU.out).mono ?_);rintro e w2 hr;obtain ⟨A6,n6,c6,rfl,hs6,hb6⟩:=zcT hr;have s6:=sr.via hb6;clear a0 a1 b0 b1 r0 r1 rf rz;obtain ⟨a0,a1,b0,b1,r0,r1,rf,rz⟩:=s6.facts)
     | fail "no arm")
    obtain ⟨q0,q1⟩:=zJ (.bool (ngO (fitO (sgn false p)))) (.slice A6 n6 c6) r0 r1
    refine bodyPost_ret (v:=.tuple #[.agg #[.bool (ngO (fitO (sgn false p))),.slice A6 n6 c6],.bool (okO (fitO (sgn false p)))]) ?_ rfl ⟨_,_,_,rfl,?_,?_⟩
    ·simp [results,Tryz.f72,go_sem,q0,q1]
    ·exact hs6.stored r0 r1 _ _
    ·exact (s6.below.setCell (by simp;omega) _).setCell (by simp;omega) _
theorem ztB (neg neg2:Bool) {A A2:Option Addr} {n n2 c c2 B:Nat} {l m:List Nat} {w:World} (h:Sl w B A n c l) (h2:Sl w B A2 n2 c2 m) (hB:B≤w.heap.size) :
  Calls Tryz.prog 72 #[.agg #[.bool neg,.slice A n c],.agg #[.bool neg2,.slice A2 n2 c2]] w (RetN (gcdS neg l neg2 m) w):=by
 cases h1:zw neg l with
 | false=>rw [show gcdS neg l neg2 m=none by unfold gcdS;rw [if_neg (by rw [h1];simp)]];exact ztC neg neg2 h hB h1
 | true =>
  cases k1:zw neg2 m with
  | false=>rw [show gcdS neg l neg2 m=none by unfold gcdS;rw [if_neg (by rw [k1];simp)]];exact ztD neg neg2 h h2 hB h1 k1
  | true =>
   rw [show gcdS neg l neg2 m=fitO ((Nat.gcd (nval l) (nval m):Nat):Int) by unfold gcdS;rw [if_pos ⟨h1,k1⟩]]
   exact ztF neg neg2 h h2 hB h1 k1
end Go.Proofs.YtjcegdldgjphiaaGreatDoor
namespace Go.Proofs.YtjcegdldgjphiaaGreatDoor
open Go.RowKit Go.Shelf
theorem zcK (s:List UInt8):Lib.trimPrefix s [45]=cutR s∧Lib.hasPrefix s [45]=cutN s:=by
 cases s with
 | nil=>exact ⟨rfl,rfl⟩
 | cons b s =>
  by_cases h:b=45
  ·subst h;exact ⟨rfl,by simp [Lib.hasPrefix,cutN]⟩
  ·have h1:Lib.hasPrefix (b::s) [45]=false:=by simp [Lib.hasPrefix,List.isPrefixOf,Ne.symm h]
   refine ⟨?_,by rw [h1];simp [cutN,h]⟩
   unfold Lib.trimPrefix
   rw [h1];simp [cutR,h]
theorem zbN (s:List UInt8) (w:World):Calls Tryz.prog 136 #[.string ⟨s.toArray⟩,.string ⟨#[45]⟩] w fun e w'=>e=.returned (.tuple #[.string ⟨(cutR s).toArray⟩,.bool (cutN s)])∧w'=w:=by
 have:=Tryz.strings_CutPrefix ⟨s.toArray⟩ ⟨#[45]⟩ w
 rwa [show (⟨s.toArray⟩:ByteArray).data.toList=s from rfl,show (⟨#[45]⟩:ByteArray).data.toList=[45] from rfl,(zcK s).1,(zcK s).2] at this
def SynT (B:Nat) (w:World):Prop:=∀w',Below B w w'→∃ev,w'.cell? ⟨3,0,none⟩=some ev∧(ev=.nilIface∨∃te pe,ev=.iface te pe)
theorem SynT.below {B B':Nat} {w w':World} (h:SynT B w) (hb:Below B' w w') (hB:B≤B'):SynT B w':=fun w2 h2=>h w2 ((hb.mono hB).trans h2)
theorem zjR (w:World) (e:TypeId) (s:ByteArray):Below w.heap.size w (Lib.bytesWorld w e s):=
 ⟨rfl,rfl,rfl,by rw [Lib.bytesWorld_size];omega,fun i hi=>Lib.bytesWorld_at_old w e s i hi⟩
theorem zrv (t:List UInt8) (hl:t.length≤9) (h0:t≠[]) (ht:AllD t) (w:World) :
  Calls Tryz.prog 137 #[.string ⟨t.toArray⟩,.int .i64 10,.int .i64 32] w fun e w'=>e=.returned (.tuple #[.int .u64 (dval t:Nat),.nilIface])∧Below w.heap.size w w':=by
 have hp:Lib.parseUintB 32 t=.ok (dval t):=by
  unfold Lib.parseUintB
  rw [if_neg h0,show 2 ^ 32 - 1=4294967295 from rfl,zgh t 0 (by
   rw [Nat.zero_add,Nat.one_mul]
   exact Nat.pow_le_pow_right (by omega) hl),if_pos ht]
  rfl
 refine (Tryz.strconv_ParseUint_10_at32_ok ⟨t.toArray⟩ (by simp [ByteArray.size];omega) (dval t) hp w).mono ?_
 rintro e w' ⟨rfl,rfl | rfl⟩
 ·exact ⟨rfl,Below.refl _ _⟩
 ·exact ⟨rfl,zjR _ _ _⟩
theorem zpi (t:List UInt8) (hl:t.length≤9) (h0:t≠[]) (ht:¬ AllD t) (w:World) {B:Nat} (hS:SynT B w) :
  Calls Tryz.prog 137 #[.string ⟨t.toArray⟩,.int .i64 10,.int .i64 32] w fun e w'=>∃te pe,e=.returned (.tuple #[.int .u64 0,.iface te pe])∧Below w.heap.size w w':=by
 have hp:Lib.parseUintB 32 t=.syntax:=by
  unfold Lib.parseUintB
  rw [if_neg h0,show 2 ^ 32 - 1=4294967295 from rfl,zgh t 0 (by
   rw [Nat.zero_add,Nat.one_mul]
   exact Nat.pow_le_pow_right (by omega) hl),if_neg ht]
 obtain ⟨ev,h1,h2⟩:=hS w (Below.refl _ _)
 refine (Tryz.strconv_ParseUint_10_at32_syntax ⟨t.toArray⟩ (by simp [ByteArray.size];omega) hp ev w h1 h2).mono ?_
 rintro e w' ⟨N,rfl,_,_,hb⟩
 exact ⟨_,_,rfl,hb⟩
def PrI (W:World) (s:List UInt8) (A:Option Addr) (n c p:Nat) (pre r:List UInt8):Prop:=Sl W W.heap.size A n c (digs p)∧cutR s=pre++r∧AllD pre∧p=dval pre∧(pre=[]∨r.length%9=0)
theorem zt2 {k N:Nat} (h:k≤N):10 ^ k≤4294967296 ^ N:=Nat.le_trans (Nat.pow_le_pow_left (by decide) k) (Nat.pow_le_pow_right (by decide) h)
theorem zfQ {p k N:Nat} (h:p<10 ^ k) (hk:k≤N):(digs p).length≤N:=by
 have h8:p<4294967296 ^ N:=Nat.lt_of_lt_of_le h (zt2 hk)
 rcases Nat.lt_or_ge N (digs p).length with h9 | h9
 ·have h10:=zbL (zL p) (by rintro e;rw [e] at h9;simp at h9)
  rw [zn] at h10
  have h12:N≤(digs p).length - 1:=by omega
  have h11:4294967296 ^ N≤4294967296 ^ ((digs p).length - 1):=Nat.pow_le_pow_right (by decide) h12
  exact absurd (Nat.lt_of_lt_of_le h8 (Nat.le_trans h11 h10)) (Nat.lt_irrefl _)
 ·exact h9
theorem zt4 {W:World} {s:List UInt8} {A:Option Addr} {n c p:Nat} {pre r:List UInt8} (h:PrI W s A n c p pre r) (hs:(cutR s).length≤640):n≤640∧r.length≤640:=by
 obtain ⟨h1,h2,h3,h4,_⟩:=h
 have h5:=congrArg List.length h2
 rw [List.length_append] at h5
 have h6:=zj7 h3
 rw [← h4] at h6
 have h7:=zfQ h6 (N:=640) (by omega)
 rw [h1.len] at h7
 exact ⟨h7,by omega⟩
theorem zt5 {W:World} {s:List UInt8} {A:Option Addr} {n c p:Nat} {pre r:List UInt8} (h:PrI W s A n c p pre r) (hs:(cutR s).length≤640):(digs (p*1000000000)).length≤1000:=by
 obtain ⟨h1,h2,h3,h4,_⟩:=h
 have h5:=congrArg List.length h2
 rw [List.length_append] at h5
 have h6:=zj7 h3
 rw [← h4] at h6
 refine zfQ (k:=pre.length+9) ?_ (by omega)
 rw [Nat.pow_add]
 exact Nat.mul_lt_mul_of_pos_right h6 (by decide)
theorem zrx {W W2:World} {s:List UInt8} {A A2:Option Addr} {n c n2 c2 p k u:Nat} {pre r:List UInt8} {b:UInt8} (h:PrI W s A n c p pre (b::r)) (hk:r.length%9+1=k) (hD:AllD ((b::r).take k)) (hu:dval ((b::r).take k)=u)
  (h2:Sl W2 W2.heap.size A2 n2 c2 (digs (p*1000000000+u))):PrI W2 s A2 n2 c2 (p*1000000000+u) (pre++(b::r).take k) ((b::r).drop k):=by
 obtain ⟨h1,h3,h4,h5,h6⟩:=h
 have hm:=Nat.mod_le r.length 9
 refine ⟨h2,by rw [List.append_assoc,List.take_append_drop];exact h3,zaz.2 ⟨h4,hD⟩,?_,.inr (by rw [List.length_drop,List.length_cons];omega)⟩
 rw [zcO,zgD,hu,← h5,List.length_take,List.length_cons,Nat.min_eq_left (by omega)]
 rcases h6 with h6 | h6
 ·subst h6
  have:p=0:=h5
  subst this
  simp
 ·rw [List.length_cons] at h6
  rw [show k=9 by omega]
theorem PowT.mono {B B':Nat} {w:World} (h:PowT B w) (hB:B≤B'):PowT B' w:=fun w2 h2=>h w2 (h2.mono hB)
theorem SynT.mono {B B':Nat} {w:World} (h:SynT B w) (hB:B≤B'):SynT B' w:=fun w2 h2=>h w2 (h2.mono hB)
theorem Sl.alloc_ {w:World} {A:Option Addr} {n c:Nat} {l:List Nat} (h:Sl w w.heap.size A n c l) (o:Obj):Sl (w.alloc o) (w.alloc o).heap.size A n c l:=(h.below ((Below.refl _ _).alloc (Nat.le_refl _) o)).more (by simp)
theorem zpx {w w':World} {e:Ending} (h:RetN none w e w'):∃A n c,e=.returned (.tuple #[.agg #[.bool false,.slice A n c],.bool false])∧Sl w' w'.heap.size A n c (digs 0)∧Below w.heap.size w w':=h
theorem zae {x:Int} {w w':World} {e:Ending} (h:RetN (some x) w e w'):∃A n c,e=.returned (.tuple #[.agg #[.bool (decide (x<0)),.slice A n c],.bool true])∧Sl w' w'.heap.size A n c (digs x.natAbs)∧Below w.heap.size w w':=h
theorem zgc {x:Int} (h:x.natAbs<big):zw (decide (x<0)) (digs x.natAbs)=true:=by
 have h1:=(zaq x.natAbs).2 h
 have h2:=(zL x.natAbs).2
 by_cases h0:digs x.natAbs=[]
 ·have:=zcu.1 h0
  rw [h0]
  have hx:¬ x<0:=by omega
  simp [zw,hx]
 ·rcases zdW (digs x.natAbs) with h3 | ⟨a,d,h3⟩
  ·exact absurd h3 h0
  ·rw [h3] at h1 h2 ⊢
   simp at h1 h2
   simp [zw,h2]
   omega
theorem zaC (x:Int):sgn (decide (x<0)) x.natAbs=x:=by
 unfold sgn
 by_cases h:x<0
 ·simp [h];omega
 ·simp [h];omega
theorem zbD {x:Int} (h:x.natAbs<big):textS (decide (x<0)) (digs x.natAbs)=Lib.itoa x:=by
 unfold textS
 rw [if_pos (zgc h),zn,zaC]
theorem zlF (t:List UInt8) (k:Nat):(⟨t.toArray⟩:ByteArray).extract 0 k=⟨(t.take k).toArray⟩:=by
 apply ByteArray.ext
 simp [ByteArray.data_extract]
theorem zqZ (t:List UInt8) (k n:Nat) (h:n=t.length):(⟨t.toArray⟩:ByteArray).extract k n=⟨(t.drop k).toArray⟩:=by
 subst h
 apply ByteArray.ext
 simp [ByteArray.data_extract]
 exact List.take_of_length_le (by simp)
attribute [local go_sem] bapp
theorem zkx (s:List UInt8) (w:World) (h:cutR s=[]) :
  Calls Tryz.prog 109 #[.string ⟨s.toArray⟩] w (RetN none w):=by
 have CP:=Lib.hid (zbN s)
 rw [h] at CP
 have s0:=S1.start (w:=w) (neg:=false) (A:=none) (n:=0) (c:=0)
 clear h
 go_enter Tryz.func109,Tryz.ntmps109
 go_wp2_with (go_at_call 136;refine (CP.out _).mono ?_;rintro e w1 ⟨rfl,rfl⟩)
 exact bodyPost_ret (v:=.tuple #[.agg #[.bool false,.slice none 0 0],.bool false]) (by simp [results,Tryz.f109,go_sem]) rfl ⟨_,_,_,rfl,by rw [show digs (vO none).natAbs=[] from zx];exact Sl.none_,by go_grown⟩
theorem zmN (s:List UInt8) (w:World) (h:640<(cutR s).length) :
  Calls Tryz.prog 109 #[.string ⟨s.toArray⟩] w (RetN none w):=by
 have CP:=Lib.hid (zbN s)
 obtain ⟨t0,t1,ht⟩:∃t0 t1,cutR s=t0::t1:=by
  cases he:cutR s with
  | nil=>rw [he] at h;simp at h
  | cons a b=>exact ⟨a,b,rfl⟩
 rw [ht] at CP h
 have h2:(640:Int)<(t1.length:Int)+1:=by simp at h;omega
 clear h ht
 go_enter Tryz.func109,Tryz.ntmps109
 go_wp2_with (go_at_call 136;refine (CP.out _).mono ?_;rintro e w1 ⟨rfl,rfl⟩)
 exact bodyPost_ret (v:=.tuple #[.agg #[.bool false,.slice none 0 0],.bool false]) (by simp [results,Tryz.f109,go_sem]) rfl ⟨_,_,_,rfl,by rw [show digs (vO none).natAbs=[] from zx];exact Sl.none_,by go_grown⟩
theorem zmO (s:List UInt8) (w:World) {B:Nat} (hB:B≤w.heap.size) (hT:PowT B w) (hS:SynT B w) (h0:cutR s≠[]) (h:(cutR s).length≤640) :
  Calls Tryz.prog 109 #[.string ⟨s.toArray⟩] w (RetN (zp s) w):=by
 have CP:=Lib.hid (zbN s)
 have HT:=Lib.hid hT
 have HS:=Lib.hid hS
 have s0:=S1.start (w:=w) (neg:=false) (A:=none) (n:=0) (c:=0)
 obtain ⟨t0,t1,ht⟩:∃t0 t1,cutR s=t0::t1:=by
  cases he:cutR s with
  | nil=>exact absurd he h0
  | cons a b=>exact ⟨a,b,rfl⟩
 have hcr:=Lib.hid ht
 have h2:¬ (640:Int)<(t1.length:Int)+1:=by rw [ht] at h;simp at h;omega
 rw [ht] at CP
 have hlen:=Lib.hid h
 clear h ht hT hS h0
 go_enter Tryz.func109,Tryz.ntmps109
 go_wp2_with (go_at_call 136;refine (CP.out _).mono ?_;rintro e w1 ⟨rfl,rfl⟩)
 go_loopw [4,6] (fun x y W=>∃r A3 n3 c3 p pre,x=.string ⟨List.toArray r⟩∧y=.slice A3 n3 c3∧S1 w false none 0 0 W∧Hid (PrI W s A3 n3 c3 p pre r)) (fun x _ _=>match x with | .string b=>b.size | _=>0)
 case atStart=>exact ⟨t0::t1,none,0,0,0,[],rfl,rfl,s0,Lib.hid ⟨by rw [zx];exact Sl.none_,hcr.out,(fun b hb=>by cases hb),rfl,.inl rfl⟩⟩
 case round =>
  obtain ⟨r,A3,n3,c3,p,pre,rfl,rfl,sr,hI⟩:=hrel
  obtain ⟨hn3,hr3⟩:=zt4 hI.out hlen.out
  cases r with
  | nil =>
   have hpv:Hid (cutR s=pre∧p=dval (cutR s)):=by
    have h1:=hI.out.2.1
    rw [List.append_nil] at h1
    exact Lib.hid ⟨h1,by rw [h1];exact hI.out.2.2.2.1⟩
   have NU:Hid (Calls Tryz.prog 100 #[.slice A3 n3 c3,.bool (cutN s)] wr (RetN (fitO (valS s)) wr)):=by
    have:=zbx A3 n3 c3 wr.heap.size p (cutN s) _ wr hI.out.1 (Nat.le_refl _) (zn _)
    rw [show sgn (cutN s) p=valS s by unfold valS;rw [← hpv.out.2]] at this
    exact Lib.hid (this.mono fun _ _ hr=>zcT hr)
   by_cases hf:(valS s).natAbs<big
   ·have e1:fitO (valS s)=some (valS s):=by unfold fitO;rw [if_pos hf]
    rw [e1] at NU
    obtain ⟨x,hx⟩:∃x,valS s=x:=⟨_,rfl⟩
    have hps:Hid (zp s=if Lib.itoa x=s then some x else none):=Lib.hid (by
     unfold zp
     rw [hx] at hf ⊢
     by_cases h:Lib.itoa x=s
     ·rw [if_pos ⟨h,hf⟩,if_pos h]
     ·rw [if_neg (fun h2=>h h2.1),if_neg h])
    rw [hx] at NU hf
    have hrd:=Lib.hid (zbD hf)
    clear e1 hx hf
    have TX:=Lib.hid (fun (W:World) (A:Option Addr) (n c:Nat) (hW:Below w.heap.size w W) (hs:Sl W W.heap.size A n c (digs x.natAbs))=>zmb (decide (x<0)) hs (Nat.le_refl _) ((HT.out.below hW hB).mono (Nat.le_trans hB hW.size)))
    rw [hrd.out] at TX
    by_cases heq:Lib.itoa x=s
    ·rw [heq] at TX
     go_wp2_with (first
      | (go_at_call 100;(with_reducible refine (NU.out).mono ?_);rintro e w2 hr;obtain ⟨A6,n6,c6,rfl,hs6,hb6⟩:=zae hr;have s6:=sr.via hb6;have s7:=s6.via ((Below.refl _ _).alloc (Nat.le_refl _) (.cells #[.bool (decide (x<0)),.slice A6 n6 c6] 30));obtain ⟨r0,r1⟩:=s7.facts;obtain ⟨rf,rz⟩:=s7.frz)
      | (go_at_call 74;(with_reducible refine (TX.out _ _ _ _ s7.below (hs6.alloc_ _)).mono ?_);rintro e w3 ⟨rfl,hb7⟩;have s8:=s7.via hb7;obtain ⟨g0,g1⟩:=bcell hb7;clear r0 r1 rf rz;obtain ⟨r0,r1⟩:=s8.facts;obtain ⟨rf,rz⟩:=s8.frz)
      | fail "no arm")
     rw [hps.out,if_pos heq]
     obtain ⟨q0,q1⟩:=zJ (.bool (decide (x<0))) (.slice A6 n6 c6) r0 r1
     refine bodyPost_ret (v:=.tuple #[.agg #[.bool (decide (x<0)),.slice A6 n6 c6],.bool true]) ?_ rfl ⟨A6,n6,c6,rfl,?_,?_⟩
     ·simp [results,Tryz.f109,go_sem,q0,q1]
     ·exact (((hs6.alloc_ _).below hb7).more hb7.size).stored r0 r1 _ _
     ·exact (s8.below.setCell (by simp) _).setCell (by simp) _
    ·have hbq:(Lib.itoa x == s)=false:=by simp [heq]
     go_wp2_with (first
      | (go_at_call 100;(with_reducible refine (NU.out).mono ?_);rintro e w2 hr;obtain ⟨A6,n6,c6,rfl,hs6,hb6⟩:=zae hr;have s6:=sr.via hb6;have s7:=s6.via ((Below.refl _ _).alloc (Nat.le_refl _) (.cells #[.bool (decide (x<0)),.slice A6 n6 c6] 30));obtain ⟨r0,r1⟩:=s7.facts;obtain ⟨rf,rz⟩:=s7.frz)
      | (go_at_call 74;(with_reducible refine (TX.out _ _ _ _ s7.below (hs6.alloc_ _)).mono ?_);rintro e w3 ⟨rfl,hb7⟩;have s8:=s7.via hb7;obtain ⟨g0,g1⟩:=bcell hb7;clear r0 r1 rf rz;obtain ⟨r0,r1⟩:=s8.facts;obtain ⟨rf,rz⟩:=s8.frz)
      | fail "no arm")
     rw [hps.out,if_neg heq]
     obtain ⟨q0,q1⟩:=zJ (.bool false) (.slice none 0 0) r0 r1
     refine bodyPost_ret (v:=.tuple #[.agg #[.bool false,.slice none 0 0],.bool false]) ?_ rfl ⟨_,_,_,rfl,by rw [show digs (vO none).natAbs=[] from zx];exact Sl.none_,?_⟩
     ·simp [results,Tryz.f109,go_sem,q0,q1]
     ·exact (s8.below.setCell (by simp) _).setCell (by simp) _
   ·have e1:fitO (valS s)=none:=by unfold fitO;rw [if_neg hf]
    rw [e1] at NU
    have hps:Hid (zp s=none):=Lib.hid (by unfold zp;rw [if_neg (fun h=>hf h.2)])
    clear e1 hf
    go_wp2_with (first
     | (go_at_call 100;(with_reducible refine (NU.out).mono ?_);rintro e w2 hr;obtain ⟨A6,n6,c6,rfl,hs6,hb6⟩:=zpx hr;have s6:=sr.via hb6;have s7:=s6.via ((Below.refl _ _).alloc (Nat.le_refl _) (.cells #[.bool false,.slice A6 n6 c6] 30));obtain ⟨r0,r1⟩:=s7.facts;obtain ⟨rf,rz⟩:=s7.frz)
     | fail "no arm")
    rw [hps.out]
    obtain ⟨q0,q1⟩:=zJ (.bool false) (.slice none 0 0) r0 r1
    refine bodyPost_ret (v:=.tuple #[.agg #[.bool false,.slice none 0 0],.bool false]) ?_ rfl ⟨_,_,_,rfl,by rw [show digs (vO none).natAbs=[] from zx];exact Sl.none_,?_⟩
    ·simp [results,Tryz.f109,go_sem,q0,q1]
    ·exact (s7.below.setCell (by simp) _).setCell (by simp) _
  | cons b r =>
   have hrl:r.length+1≤640:=hr3
   clear hr3
   obtain ⟨k,hk⟩:∃k,r.length%9+1=k:=⟨_,rfl⟩
   have hk9:1≤k∧k≤9∧k≤r.length+1:=by have:=Nat.mod_le r.length 9;omega
   by_cases hD:AllD ((b::r).take k)
   ·have PO:=Lib.hid (zrv ((b::r).take k) (by simp;omega) (by intro e;simp at e;omega) hD)
    have hdv:=zj7 hD
    obtain ⟨u,hu⟩:∃u,dval ((b::r).take k)=u:=⟨_,rfl⟩
    rw [hu] at PO hdv
    have hu9:u<1000000000:=Nat.lt_of_lt_of_le hdv (Nat.pow_le_pow_right (n:=10) (i:=_) (j:=9) (by decide) (by simp;omega))
    have hu9i:(u:Int)<1000000000:=by omega
    clear hdv
    go_wp2_with (first
     | (go_at_call 137;rw [zlF,hk];(with_reducible refine (PO.out _).mono ?_);rintro e w3 ⟨rfl,hb3⟩;have sr2:=sr.via hb3)
     | fail "no arm")
    have TI:Hid (Calls Tryz.prog 138 #[.slice A3 n3 c3,.slice (some ⟨w3.heap.size,0,none⟩) 1 1] (w3.alloc (.cells #[.int .u32 1000000000] 123)) (RetD (p*1000000000) (w3.alloc (.cells #[.int .u32 1000000000] 123)))):=by
     have d1:DBk (w3.alloc (.cells #[.int .u32 1000000000] 123)) w3.heap.size 123 [1000000000]:=zI w3 _ _ rfl
     have b1:Below wr.heap.size wr (w3.alloc (.cells #[.int .u32 1000000000] 123)):=hb3.alloc hb3.size _
     have:=zpR A3 (some ⟨w3.heap.size,0,none⟩) n3 c3 1 1 (w3.alloc (.cells #[.int .u32 1000000000] 123)).heap.size (digs p) [1000000000] _ ((hI.out.1.below b1).more b1.size) (d1.sl (by intro d hd;simp at hd;omega) (by simp) (by simp)) (Nat.le_refl _) (by omega) (by omega)
     rw [zn,show nval [1000000000]=1000000000 from rfl] at this
     exact Lib.hid this
    have b1:Below wr.heap.size wr (w3.alloc (.cells #[.int .u32 1000000000] 123)):=hb3.alloc hb3.size _
    have PL:Hid (∀(W:World) (A4:Option Addr) (n4 c4:Nat),Sl W W.heap.size A4 n4 c4 (digs (p*1000000000))→Calls Tryz.prog 139 #[.slice A4 n4 c4,.slice (some ⟨W.heap.size,0,none⟩) 1 1] (W.alloc (.cells #[.int .u32 (u:Nat)] 123)) (RetD (p*1000000000+u) (W.alloc (.cells #[.int .u32 (u:Nat)] 123)))):=Lib.hid fun W A4 n4 c4 hs=>by
     have d1:DBk (W.alloc (.cells #[.int .u32 (u:Nat)] 123)) W.heap.size 123 [u]:=zI W _ _ rfl
     have b1:Below W.heap.size W (W.alloc (.cells #[.int .u32 (u:Nat)] 123)):=(Below.refl _ _).alloc (Nat.le_refl _) _
     have h4:=zt5 hI.out hlen.out
     rw [hs.len] at h4
     have:=zrw (B:=(W.alloc (.cells #[.int .u32 (u:Nat)] 123)).heap.size) ((hs.below b1).more b1.size) (d1.sl (by intro d hd;simp at hd;omega) (by simp) (by simp)) (Nat.le_refl _) h4 (by simp)
     rw [zn,show nval [u]=u by simp [nval]] at this
     exact this
    go_wp2_with (first
     | (go_at_call 138;(with_reducible refine (TI.out).mono ?_);rintro e w4 ⟨A4,n4,c4,rfl,hs4,hb4⟩;have sr3:=(sr2.via ((Below.refl _ _).alloc (Nat.le_refl _) (.cells #[.int .u32 1000000000] 123))).via hb4)
     | (go_at_call 139;(with_reducible refine (PL.out _ _ _ _ hs4).mono ?_);rintro e w5 ⟨A5,n5,c5,rfl,hs5,hb5⟩;have sr4:=(sr3.via ((Below.refl _ _).alloc (Nat.le_refl _) (.cells #[.int .u32 (u:Nat)] 123))).via hb5)
     | fail "no arm")
    rw [hk,zqZ _ _ _ (by simp)]
    refine ⟨⟨(b::r).drop k,A5,n5,c5,p*1000000000+u,pre++(b::r).take k,rfl,rfl,sr4,Lib.hid (zrx hI.out hk hD hu hs5)⟩,?_⟩
    simp [ByteArray.size]
    omega
   ·have PB:=Lib.hid (zpi ((b::r).take k) (by simp;omega) (by intro e;simp at e;omega) hD wr (HS.out.below sr.below hB))
    have hp:Hid (zp s=none):=Lib.hid (zf0 (by
     rw [hI.out.2.1]
     intro h
     have h1:=(zaz.1 h).2
     rw [← List.take_append_drop k (b::r)] at h1
     exact hD (zaz.1 h1).1))
    go_wp2_with (first
     | (go_at_call 137;rw [zlF];(try rw [hk]);(with_reducible refine (PB.out).mono ?_);rintro e w3 ⟨te,pe,rfl,hb3⟩;have sr2:=sr.via hb3;obtain ⟨r0,r1⟩:=sr2.facts;obtain ⟨rf,rz⟩:=sr2.frz)
     | fail "no arm")
    obtain ⟨q0,q1⟩:=zJ (.bool false) (.slice none 0 0) r0 r1
    rw [hp.out]
    refine bodyPost_ret (v:=.tuple #[.agg #[.bool false,.slice none 0 0],.bool false]) ?_ rfl ⟨_,_,_,rfl,by rw [show digs (vO none).natAbs=[] from zx];exact Sl.none_,?_⟩
    ·simp [results,Tryz.f109,go_sem,q0,q1]
    ·exact (sr2.below.setCell (by simp) _).setCell (by simp) _
theorem zpg (s:List UInt8) (w:World) {B:Nat} (hB:B≤w.heap.size) (hT:PowT B w) (hS:SynT B w) :
  Calls Tryz.prog 109 #[.string ⟨s.toArray⟩] w (RetN (zp s) w):=by
 by_cases h0:cutR s=[]
 ·rw [zio h0];exact zkx s w h0
 ·rcases Nat.lt_or_ge 640 (cutR s).length with h | h
  ·rw [zkw h];exact zmN s w h
  ·exact zmO s w hB hT hS h0 h
end Go.Proofs.YtjcegdldgjphiaaGreatDoor
namespace Go.Proofs.YtjcegdldgjphiaaGreatDoor
open Go.RowKit Go.Shelf
theorem OwnD.pushed {W w1:World} {base g cap d:Nat} {v:Value} {l:List Nat} (hO:OwnD W base v l) (hd:d<4294967296)
  (h1:w1.ownsRow base 123 1 (.slice (some ⟨g,0,none⟩) (l.length+1) cap) (l.length+1) (u32s l++[.int .u32 (d:Nat)])) (hg:W.grownBy w1 v.ownBlock) (hb:base≤W.heap.size) :
  OwnD w1 base (.slice (some ⟨g,0,none⟩) (l.length+1) cap) (l++[d])∧Below base W w1:=by
 refine ⟨⟨?_,zbt.2 ⟨hO.2,fun x hx=>by rw [List.mem_singleton.1 hx];exact hd⟩⟩,?_⟩
 ·rw [List.length_append,List.length_singleton,show u32s (l++[d])=u32s l++[.int .u32 (d:Nat)] by simp [u32s]]
  exact h1
 ·refine (Below.refl base W).grown hg hb (fun k e=>?_)
  obtain ⟨⟨_,h2⟩,_⟩:=hO
  rcases h2 with ⟨rfl,_⟩ | ⟨g',cap',cur,rfl,h4,_⟩
  ·cases e
  ·cases e;exact h4
end Go.Proofs.YtjcegdldgjphiaaGreatDoor
namespace Go.Proofs.YtjcegdldgjphiaaGreatDoor
open Go.RowKit Go.Shelf
theorem zah {A:Option Addr} {n c B v:Nat} {l:List Nat} {w:World} (h:Sl w B A n c l) (hv:nval l=v) :
  Calls Tryz.prog 107 #[.slice A n c] w fun e w'=>∃n',e=.returned (.slice A n' c)∧Sl w B A n' c (digs v)∧w=w' :=
 (za5 A n c B l w h.1 h.2.1 h.2.2).mono fun _ _ ⟨he,hw⟩=>⟨_,he,h.val hv,hw⟩
theorem zhT {A:Option Addr} {n c B k:Nat} {l:List Nat} {w:World} (h:Sl w B A n c l) :
  Calls Tryz.prog 158 #[.slice A n c,.int .i64 (k:Int)] w fun e w'=>e=.returned (.int .u64 (dg l k:Nat))∧w=w':=by
 have HL:=Lib.hid h.len
 go_enter Tryz.func158,Tryz.ntmps158
 by_cases hk:(k:Int)<n
 ·obtain ⟨ad,rfl,hb,hc⟩:=h.at_ (k:=k) (by omega)
  have hd:=dg_lt h.dig k
  have e1:IntKind.u64.wrap (dg l k:Int)=(dg l k:Nat):=by rw [IntKind.wrap_u64];omega
  clear h
  go_wp2
  go_ret
  exact ⟨zuf (by omega),rfl⟩
 ·have e:=zdA (l:=l) (k:=k) (by have:=HL.out;omega)
  clear h
  go_wp2
  go_ret
  exact ⟨rfl,rfl⟩
theorem zch (neg:Bool) (A:Option Addr) (n c B:Nat) (l:List Nat) (w:World) (h:RD w B A n l) (hB:B≤w.heap.size) (hn:n≤c) :
  Calls Tryz.prog 75 #[.agg #[.bool neg,.slice A n c]] w fun e w'=>e=.returned (.bool (zw neg l))∧Below w.heap.size w w':=by
 have HL:=Lib.hid h.len
 have H:=Lib.hid h
 clear h
 go_enter Tryz.func75,Tryz.ntmps75
 cases n with
 | zero =>
  cases neg<;>go_wp2
  all_goals go_ret
  all_goals refine ⟨zbX ?_,by go_grown⟩
  all_goals rw [zgb HL.out]
  all_goals rfl
 | succ j =>
  obtain ⟨ad,hl,rfl,hb,hc,hd⟩:=H.out.at_ (k:=j) (by omega)
  have R:=Lib.hid (zeX (neg:=neg) HL.out hl)
  have hca:∀o,(w.alloc o).cell? (ad.add j)=some (.int .u32 (l[j]:Nat)):=fun o=>(World.cell?_alloc_lt w o _ (by rw [zaI];omega)).trans hc
  clear hc hb hd
  by_cases h64:(j:Int)+1≤64
  ·by_cases hz:l[j]=0
   ·rw [hz] at hca R
    go_wp2
    all_goals go_ret
    all_goals refine ⟨zbX ?_,by go_grown⟩
    all_goals rw [R.out]
    all_goals simp
   ·have hz':((l[j]:Int) != 0)=true:=by simp;exact hz
    go_wp2
    all_goals go_ret
    all_goals refine ⟨zbX ?_,by go_grown⟩
    all_goals rw [R.out]
    all_goals simp [hz]
    all_goals omega
  ·go_wp2
   all_goals go_ret
   all_goals refine ⟨zbX ?_,by go_grown⟩
   all_goals rw [R.out]
   all_goals simp
   all_goals omega
theorem ziB {A A2:Option Addr} {n c n2 c2:Nat} (h:Value.slice A n c=.slice A2 n2 c2):A=A2∧n=n2∧c=c2:=by cases h;exact ⟨rfl,rfl,rfl⟩
theorem OwnD.sl_len {w:World} {base g n cap:Nat} {l:List Nat} {d:Nat} (h:OwnD w base (.slice (some ⟨g,0,none⟩) (n+1) cap) (l++[d])):Sl w w.heap.size (some ⟨g,0,none⟩) (n+1) cap (l++[d]):=by
 obtain ⟨A3,c3,he3,hs3,_⟩:=h.sl
 obtain ⟨rfl,h3,rfl⟩:=ziB he3
 rw [← h3] at hs3
 exact hs3
theorem zl9 {O P P' L M d cy x y cy':Nat} (hp:P'=P*4294967296) (hd:d+4294967296*cy'=cy+x+y) (h:O+P*cy=L+M):O+P*d+P'*cy'=(L+P*x)+(M+P*y):=by
 subst hp
 have h1:P*(d+4294967296*cy')=P*(cy+x+y):=by rw [hd]
 simp only [Nat.mul_add,← Nat.mul_assoc] at h1
 omega
theorem zbV (A A2:Option Addr) (n c n2 c2 B:Nat) (l m:List Nat) (w:World) (h:Sl w B A n c l) (h2:Sl w B A2 n2 c2 m) (hB:B≤w.heap.size) (hn:n≤1000) (hn2:n2≤1000) :
  Calls Tryz.prog 140 #[.slice A n c,.slice A2 n2 c2] w (RetD (nval l+nval m) w):=by
 have HL:=Lib.hid h.len
 have HL2:=Lib.hid h2.len
 have H:=Lib.hid h
 have H2:=Lib.hid h2
 clear h h2
 obtain ⟨i0,hi,hz0,hz1,hz2⟩:=info_parts Tryz.infoU32
 have AT:=Lib.hid (fun (W:World) (hW:Below w.heap.size w W) (k:Nat)=>zhT (k:=k) (H.out.below (hW.mono hB)))
 have AT2:=Lib.hid (fun (W:World) (hW:Below w.heap.size w W) (k:Nat)=>zhT (k:=k) (H2.out.below (hW.mono hB)))
 go_enter Tryz.func140,Tryz.ntmps140
 go_wp2_with fail
 go_loopw [5,6,7] (fun x y z W=>∃(k cy:Nat) (o:List Nat),k≤1000∧cy<4294967296∧y=.int .u64 cy∧z=.int .i64 k∧Below w.heap.size w W∧Hid (OwnD W w.heap.size x o∧o.length=k∧nval o+4294967296 ^ k*cy=nval (l.take k)+nval (m.take k))) (fun _ _ z _=>1000 - (intOf z).toNat)
 case atStart=>exact ⟨0,0,[],by omega,by omega,rfl,rfl,Below.refl _ _,Lib.hid ⟨OwnD.nil _ _,rfl,by simp [nval]⟩⟩
 case round =>
  obtain ⟨k,cy,o,hk,hcy,rfl,rfl,hBB,hI⟩:=hrel
  have hd1:=dg_lt H.out.dig k
  have hd2:=dg_lt H2.out.dig k
  by_cases hlt:(k:Int)<n
  ·obtain ⟨s,hs⟩:∃s,cy+dg l k+dg m k=s:=⟨_,rfl⟩
   obtain ⟨d,hsd⟩:∃d,s%4294967296=d:=⟨_,rfl⟩
   obtain ⟨c',hsc⟩:∃c',s / 4294967296=c':=⟨_,rfl⟩
   have ed:((cy:Int)+(dg l k:Nat)+(dg m k:Nat))%4294967296=(d:Int):=by omega
   have ev:((cy:Int)+(dg l k:Nat)+(dg m k:Nat)) / 4294967296=(c':Int):=by omega
   have hdl:d<4294967296:=by omega
   have hcl':c'<4294967296:=by omega
   have hdm:d+4294967296*c'=cy+dg l k+dg m k:=by omega
   obtain ⟨hO,hlo,hI2⟩:=hI.out
   have hb0:Below wr.heap.size wr (wr.alloc (.cells #[.int .u32 (d:Nat)] 123)):=(Below.refl _ _).alloc (Nat.le_refl _) _
   have hb1:=hBB.trans (hb0.mono hBB.size)
   have hO1:=Lib.hid (hO.below hb0 (Nat.le_refl _))
   have hnews:∀j u,[Value.int .u32 (d:Nat)][j]?=some u→(wr.alloc (.cells #[.int .u32 (d:Nat)] 123)).cell? ((⟨wr.heap.size,0,none⟩:Addr).add j)=some u:=by
    intro j u hj
    match j,hj with
    | 0,hj=>simp at hj;subst hj;simp [Addr.add]
   have hcl:∀u∈[Value.int .u32 (d:Nat)],u.oneCell'=true:=by intro u hu;simp at hu;subst hu;rfl
   have hmx:o.length+1≤maxLen:=by unfold maxLen;omega
   have hby2:(o.length+1)*4≤140737488355328:=by omega
   have hbs:w.heap.size≤(wr.alloc (.cells #[.int .u32 (d:Nat)] 123)).heap.size:=hb1.size
   have hst:=Lib.hid (And.intro hlo (And.intro hI2 (And.intro hs hdm)))
   have tk1:Hid True:=trivial
   have tk2:Hid True:=trivial
   clear hO hI hs hsd hsc hdm hlo hI2
   go_wp2_with (first
    | (clear tk1;go_at_call 158;(with_reducible refine (AT.out _ hBB _).mono ?_);rintro e w1 ⟨rfl,rfl⟩)
    | (clear tk2;go_at_call 158;(with_reducible refine (AT2.out _ hBB _).mono ?_);rintro e w1 ⟨rfl,rfl⟩)
    | (at_builtin;refine wpList_append_lies _ rfl _ _ 28 rfl w.heap.size 123 i0 (.int .u32 0) 1 4 Tryz.underlying28 hi hz0 hz1 hz2 rfl (by decide) _ _ _ rfl hO1.out.1 ⟨wr.heap.size,0,none⟩ 1 1 [.int .u32 (d:Nat)] rfl rfl hnews hcl (by decide) hmx hby2 hbs _ rfl ?_;intro g cap w1 hown' hgrow _ hlt;have hP:=Lib.hid (hO1.out.pushed hdl hown' hgrow hbs);clear hown' hgrow)
    | fail "no arm")
   refine ⟨⟨k+1,c',o++[d],by omega,by omega,rfl,rfl,hb1.trans (hP.out.2.mono (Nat.le_refl _)),Lib.hid ⟨hP.out.1,by rw [List.length_append,hst.out.1];rfl,?_⟩⟩,?_⟩
   ·rw [zau,hst.out.1,zA l,zA m]
    exact zl9 (Nat.pow_succ ..) hst.out.2.2.2 hst.out.2.1
   ·simp only [intOf]
    omega
  ·by_cases hlt2:(k:Int)<n2
   ·obtain ⟨s,hs⟩:∃s,cy+dg l k+dg m k=s:=⟨_,rfl⟩
    obtain ⟨d,hsd⟩:∃d,s%4294967296=d:=⟨_,rfl⟩
    obtain ⟨c',hsc⟩:∃c',s / 4294967296=c':=⟨_,rfl⟩
    have ed:((cy:Int)+(dg l k:Nat)+(dg m k:Nat))%4294967296=(d:Int):=by omega
    have ev:((cy:Int)+(dg l k:Nat)+(dg m k:Nat)) / 4294967296=(c':Int):=by omega
    have hdl:d<4294967296:=by omega
    have hcl':c'<4294967296:=by omega
    have hdm:d+4294967296*c'=cy+dg l k+dg m k:=by omega
    obtain ⟨hO,hlo,hI2⟩:=hI.out
    have hb0:Below wr.heap.size wr (wr.alloc (.cells #[.int .u32 (d:Nat)] 123)):=(Below.refl _ _).alloc (Nat.le_refl _) _
    have hb1:=hBB.trans (hb0.mono hBB.size)
    have hO1:=Lib.hid (hO.below hb0 (Nat.le_refl _))
    have hnews:∀j u,[Value.int .u32 (d:Nat)][j]?=some u→(wr.alloc (.cells #[.int .u32 (d:Nat)] 123)).cell? ((⟨wr.heap.size,0,none⟩:Addr).add j)=some u:=by
     intro j u hj
     match j,hj with
     | 0,hj=>simp at hj;subst hj;simp [Addr.add]
    have hcl:∀u∈[Value.int .u32 (d:Nat)],u.oneCell'=true:=by intro u hu;simp at hu;subst hu;rfl
    have hmx:o.length+1≤maxLen:=by unfold maxLen;omega
    have hby2:(o.length+1)*4≤140737488355328:=by omega
    have hbs:w.heap.size≤(wr.alloc (.cells #[.int .u32 (d:Nat)] 123)).heap.size:=hb1.size
    have hst:=Lib.hid (And.intro hlo (And.intro hI2 (And.intro hs hdm)))
    have tk1:Hid True:=trivial
    have tk2:Hid True:=trivial
    clear hO hI hs hsd hsc hdm hlo hI2
    go_wp2_with (first
     | (clear tk1;go_at_call 158;(with_reducible refine (AT.out _ hBB _).mono ?_);rintro e w1 ⟨rfl,rfl⟩)
     | (clear tk2;go_at_call 158;(with_reducible refine (AT2.out _ hBB _).mono ?_);rintro e w1 ⟨rfl,rfl⟩)
     | (at_builtin;refine wpList_append_lies _ rfl _ _ 28 rfl w.heap.size 123 i0 (.int .u32 0) 1 4 Tryz.underlying28 hi hz0 hz1 hz2 rfl (by decide) _ _ _ rfl hO1.out.1 ⟨wr.heap.size,0,none⟩ 1 1 [.int .u32 (d:Nat)] rfl rfl hnews hcl (by decide) hmx hby2 hbs _ rfl ?_;intro g cap w1 hown' hgrow _ hlt;have hP:=Lib.hid (hO1.out.pushed hdl hown' hgrow hbs);clear hown' hgrow)
     | fail "no arm")
    refine ⟨⟨k+1,c',o++[d],by omega,by omega,rfl,rfl,hb1.trans (hP.out.2.mono (Nat.le_refl _)),Lib.hid ⟨hP.out.1,by rw [List.length_append,hst.out.1];rfl,?_⟩⟩,?_⟩
    ·rw [zau,hst.out.1,zA l,zA m]
     exact zl9 (Nat.pow_succ ..) hst.out.2.2.2 hst.out.2.1
    ·simp only [intOf]
     omega
   ·have hend:n≤k∧n2≤k:=by omega
    have hfin:Hid (nval (l.take k)+nval (m.take k)=nval l+nval m):=by unfold Hid;rw [List.take_of_length_le (by have:=HL.out;omega),List.take_of_length_le (by have:=HL2.out;omega)]
    have ed:(cy:Int)%4294967296=(cy:Int):=by omega
    obtain ⟨hO,hlo,hI2⟩:=hI.out
    have hb0:Below wr.heap.size wr (wr.alloc (.cells #[.int .u32 (cy:Nat)] 123)):=(Below.refl _ _).alloc (Nat.le_refl _) _
    have hb1:=hBB.trans (hb0.mono hBB.size)
    have hO1:=Lib.hid (hO.below hb0 (Nat.le_refl _))
    have hnews:∀j u,[Value.int .u32 (cy:Nat)][j]?=some u→(wr.alloc (.cells #[.int .u32 (cy:Nat)] 123)).cell? ((⟨wr.heap.size,0,none⟩:Addr).add j)=some u:=by
     intro j u hj
     match j,hj with
     | 0,hj=>simp at hj;subst hj;simp [Addr.add]
    have hcl:∀u∈[Value.int .u32 (cy:Nat)],u.oneCell'=true:=by intro u hu;simp at hu;subst hu;rfl
    have hmx:o.length+1≤maxLen:=by unfold maxLen;omega
    have hby2:(o.length+1)*4≤140737488355328:=by omega
    have hbs:w.heap.size≤(wr.alloc (.cells #[.int .u32 (cy:Nat)] 123)).heap.size:=hb1.size
    have hst:=Lib.hid (And.intro hlo hI2)
    clear hO hI hlo hI2
    go_wp2_with (first
     | (at_builtin;refine wpList_append_lies _ rfl _ _ 28 rfl w.heap.size 123 i0 (.int .u32 0) 1 4 Tryz.underlying28 hi hz0 hz1 hz2 rfl (by decide) _ _ _ rfl hO1.out.1 ⟨wr.heap.size,0,none⟩ 1 1 [.int .u32 (cy:Nat)] rfl rfl hnews hcl (by decide) hmx hby2 hbs _ rfl ?_;intro g cap w1 hown' hgrow _ hlt;have hP:=Lib.hid (hO1.out.pushed hcy hown' hgrow hbs);have hs5:=Lib.hid hP.out.1.sl_len;clear hown' hgrow)
     | (go_at_call 107;(with_reducible refine (zah (v:=nval l+nval m) hs5.out (by rw [zau,hst.out.1,hst.out.2,hfin.out])).mono ?_);rintro e w2 ⟨n',rfl,hs4,rfl⟩)
     | fail "no arm")
    go_ret
    exact ⟨_,_,_,rfl,hs4,hb1.trans (hP.out.2.mono (Nat.le_refl _))⟩
theorem zec (n:Nat) (hn:n≤1000000):∀w,(Instr.makeSlice 28 (.int .i64 (n:Int)) (.int .i64 (n:Int))).run Tryz.prog w=.ok (.slice (some ⟨w.heap.size,0,none⟩) n n) (w.alloc (.cells (madeCells #[.int .u32 0] n) 123)):=
 run_make_row' (P:=Tryz.prog) 28 123 (.int .u32 0) 4 Tryz.underlying28 Tryz.infoU32 rfl .i64 .i64 n (by omega) (by omega)
theorem zvs {cy d x y:Nat} (h1:cy<4294967296) (h2:d<4294967296) (hx:x<4294967296) (hy:y<4294967296) :
  ∃s:Nat,IntKind.u64.wrap ((cy:Int)+d+IntKind.u64.wrap ((x:Int)*y))=(s:Int)∧(s:Int)%4294967296=((mcD cy d x y:Nat):Int)∧(s:Int) / 4294967296=((mcC cy d x y:Nat):Int):=by
 have h:=zda hx hy
 have e:(x:Int)*y=((x*y:Nat):Int):=by simp
 rw [e]
 unfold mcD mcC
 generalize x*y=z at *
 refine ⟨cy+(d+z),?_,?_,?_⟩
 ·rw [IntKind.wrap_u64,IntKind.wrap_u64];omega
 ·omega
 ·omega
theorem zci (A A2:Option Addr) (n c n2 c2 B:Nat) (l m:List Nat) (w:World) (h:Sl w B A n c l) (h2:Sl w B A2 n2 c2 m) (hB:B≤w.heap.size) (hn:n≤1000) (hn2:n2≤1000) :
  Calls Tryz.prog 141 #[.slice A n c,.slice A2 n2 c2] w (RetD (nval l*nval m) w):=by
 have HL:=Lib.hid h.len
 have HL2:=Lib.hid h2.len
 have H:=Lib.hid h
 have H2:=Lib.hid h2
 clear h h2
 have hmk:=zec (n+n2) (by omega)
 have ec:((n+n2:Nat):Int)=(n:Int)+n2:=by omega
 rw [ec] at hmk
 clear ec
 go_enter Tryz.func141,Tryz.ntmps141
 go_wp2
 clear hmk
 go_loopw [6] (fun k wr=>∃(i:Nat) (o:List Nat),i≤n∧k=.int .i64 i∧DBk wr w.heap.size 123 o∧Hid (o.length=n+n2∧Dig o∧nval o=nval (l.take i)*nval m∧∀p,i+n2≤p→dg o p=0)∧Below w.heap.size w wr) (fun k _=>n - (intOf k).toNat)
 case atStart=>exact ⟨0,List.replicate (n+n2) 0,by omega,rfl,DBk.new w _ (n+n2),by unfold Hid;exact ⟨by simp,zap _,by simp [nval,zbz],fun p _=>by unfold dg;simp [List.getD_eq_getElem?_getD,List.getElem?_replicate];split<;>rfl⟩,by go_grown⟩
 case round =>
  obtain ⟨i,o,hi,rfl,hO,hI,hBw⟩:=hrel
  by_cases hlt:i<n
  ·obtain ⟨ad,rfl,hb,hc⟩:=(H.out.below (hBw.mono hB)).at_ (k:=i) hlt
   have hd1:=dg_lt H.out.dig i
   have hz:=hO.lt
   obtain ⟨x,hx⟩:∃x,dg l i=x:=⟨_,rfl⟩
   rw [hx] at hc hd1
   have HX:=Lib.hid hx
   clear hx
   go_wp2
   clear hc
   obtain ⟨wo,hwo⟩:∃wo:World,wo=wr:=⟨_,rfl⟩
   subst hwo
   go_loopw [7,8] (fun b k wr=>∃(j cy:Nat) (o:List Nat),j≤n2∧cy<4294967296∧k=.int .i64 j∧b=.int .u64 cy∧DBk wr w.heap.size 123 o∧Hid (o.length=n+n2∧Dig o∧nval o+4294967296 ^ (i+j)*cy=nval (l.take i)*nval m+4294967296 ^ i*x*nval (m.take j)∧∀p,i+n2≤p→dg o p=0)∧Below w.heap.size w wr) (fun _ k _=>n2 - (intOf k).toNat)
   case atStart=>exact ⟨0,0,o,by omega,by omega,rfl,rfl,hO,by obtain ⟨i1,i2,i3,i4⟩:=hI.out;unfold Hid;exact ⟨i1,i2,by simp [nval,i3],i4⟩,hBw⟩
   case round =>
    obtain ⟨j,cy,o,hj,hcy,rfl,rfl,hO,hI,hBw⟩:=hrel
    by_cases hlt2:j<n2
    ·obtain ⟨ad2,rfl,hb2,hc2⟩:=(H2.out.below (hBw.mono hB)).at_ (k:=j) hlt2
     have hd2:=dg_lt H2.out.dig j
     obtain ⟨ad',e,_,hc⟩:=(H.out.below (hBw.mono hB)).at_ (k:=i) hlt
     cases e
     rw [HX.out] at hc
     have hcg:=hO.cell (k:=i+j) (by rw [hI.out.1];omega)
     have hfg:=hO.frozen (i+j)
     have hd3:=dg_lt hI.out.2.1 (i+j)
     have hz2:=hO.lt
     obtain ⟨d,hd⟩:∃d,dg o (i+j)=d:=⟨_,rfl⟩
     obtain ⟨y,hy⟩:∃y,dg m j=y:=⟨_,rfl⟩
     rw [hd] at hcg hd3
     rw [hy] at hc2 hd2
     have hs:=zoT hcy hd3 hd1 hd2
     have hN:Hid ((o.set (i+j) (mcD cy d x y)).length=n+n2∧Dig (o.set (i+j) (mcD cy d x y))∧nval (o.set (i+j) (mcD cy d x y))+4294967296 ^ (i+(j+1))*mcC cy d x y=nval (l.take i)*nval m+4294967296 ^ i*x*nval (m.take (j+1))∧∀p,i+n2≤p→dg (o.set (i+j) (mcD cy d x y)) p=0):=by
      obtain ⟨i1,i2,i3,i4⟩:=hI.out
      refine ⟨by simpa using i1,qM i2 hs.2.1,?_,fun p hp=>by rw [za1 (by omega)];exact i4 p hp⟩
      have hset:=zdc o (i+j) (mcD cy d x y) (by omega)
      rw [hd] at hset
      rw [zA m,hy,Nat.mul_add (4294967296 ^ i*x),← Nat.add_assoc (nval (l.take i)*nval m)]
      refine zgf (P:=4294967296 ^ i) (Nat.pow_succ (n:=4294967296) (m:=i+j)) hs.1 hset ?_ i3
      rw [Nat.pow_add,Nat.mul_assoc (4294967296 ^ i) (4294967296 ^ j),Nat.mul_assoc (4294967296 ^ i) x,Nat.mul_left_comm (4294967296 ^ j) x y]
     have hO2:=fun q=>DBk.set (show DBk (wr.drewN q) w.heap.size 123 o from hO) (i+j) (mcD cy d x y)
     obtain ⟨s,E,ed,ev⟩:=zvs hcy hd3 hd1 hd2
     have hcy2:=hs.2.2
     obtain ⟨c',hc'⟩:∃c',mcC cy d x y=c':=⟨_,rfl⟩
     obtain ⟨d',hd'⟩:∃d',mcD cy d x y=d':=⟨_,rfl⟩
     rw [hc'] at ev hcy2 hN
     rw [hd'] at ed hO2 hN
     have hij:IntKind.i64.wrap ((i:Int)+j)=(i:Int)+j:=by rw [IntKind.wrap_i64];omega
     have hij0:(0:Int)≤(i:Int)+j:=by omega
     have hijn:((i:Int)+j).toNat=i+j:=by omega
     have hijl:(i:Int)+j<(n:Int)+n2:=by omega
     have wd:IntKind.u64.wrap (d:Int)=(d:Int):=by rw [IntKind.wrap_u64];omega
     have wx:IntKind.u64.wrap (x:Int)=(x:Int):=by rw [IntKind.wrap_u64];omega
     have wy:IntKind.u64.wrap (y:Int)=(y:Int):=by rw [IntKind.wrap_u64];omega
     clear hO hI hd hy hs hc' hd'
     go_upto_region 9 with fail
     go_quiet (fail)
     go_wp2
     go_roundw
     case rel=>exact ⟨j+1,_,_,by omega,hcy2,by go_num,rfl,hO2 _,hN,(zX hBw _).setCell (by simp) _⟩
     case measure=>simp [intOf];omega
    ·have hjn:j=n2:=by omega
     have hz2:=hO.lt
     have hN:Hid ((o.set (i+n2) cy).length=n+n2∧Dig (o.set (i+n2) cy)∧nval (o.set (i+n2) cy)=nval (l.take (i+1))*nval m∧∀p,(i+1)+n2≤p→dg (o.set (i+n2) cy) p=0):=by
      obtain ⟨i1,i2,i3,i4⟩:=hI.out
      refine ⟨by simpa using i1,qM i2 hcy,?_,fun p hp=>by rw [za1 (by omega)];exact i4 p (by omega)⟩
      have hset:=zdc o (i+n2) cy (by omega)
      rw [i4 _ (Nat.le_refl _),Nat.mul_zero,Nat.add_zero] at hset
      rw [hset,zA l,HX.out,Nat.add_mul,← hjn,i3]
      rw [List.take_of_length_le (l:=m) (by have:=HL2.out;omega)]
     have hO2:=hO.set (i+n2) cy
     have hcg:=hO.cell (k:=i+n2) (by rw [hI.out.1];omega)
     have hfg:=hO.frozen (i+n2)
     have ecy:IntKind.u64.wrap (cy:Int)=cy:=by rw [IntKind.wrap_u64];omega
     have ecy2:(cy:Int)%4294967296=cy:=by omega
     clear hO hI hjn
     go_wp2
     go_roundw
     case rel=>exact ⟨i+1,_,by omega,by go_num,hO2,hN,by go_grown⟩
     case measure=>simp [intOf];omega
  ·have hin:i=n:=by omega
   have hv:Hid (nval o=nval l*nval m):=by
    obtain ⟨i1,i2,i3,i4⟩:=hI.out
    rw [List.take_of_length_le (l:=l) (by have:=HL.out;omega)] at i3
    exact i3
   have hsl:Sl wr (w.heap.size+1) (some ⟨w.heap.size,0,none⟩) (n+n2) (n+n2) o:=by
    obtain ⟨i1,i2,i3,i4⟩:=hI.out
    have:=hO.sl i2 (B:=w.heap.size+1) (by omega) (by omega)
    rwa [i1] at this
   have hz:=hO.lt
   clear hin hO hI
   go_wp2_with (go_at_call 107;refine (zah hsl hv.out).mono ?_;rintro e w' ⟨n',rfl,hs',rfl⟩)
   go_ret
   exact ⟨_,_,_,rfl,hs'.more (by omega),hBw⟩
def RetF (v:Nat) (w:World) (e:Ending) (w':World):Prop:=∃A n c,e=.returned (.slice A n c)∧Sl w' w'.heap.size A n c (digs v)∧Below w.heap.size w w'∧(∀ad,A=some ad→w.heap.size≤ad.block)
theorem OwnD.fresh {w:World} {base n c:Nat} {A:Option Addr} {l:List Nat} (h:OwnD w base (.slice A n c) l):∀ad,A=some ad→base≤ad.block:=by
 obtain ⟨A3,c3,he3,_,hf⟩:=h.sl
 obtain ⟨rfl,_,_⟩:=ziB he3
 exact hf
theorem RetF.d {v:Nat} {w w':World} {e:Ending} (h:RetF v w e w'):RetD v w e w':=by
 obtain ⟨A,n,c,h1,h2,h3,_⟩:=h
 exact ⟨A,n,c,h1,h2,h3⟩
theorem zdb {l:List Nat} {n:Nat} (h:l.length=n):nval (l.drop n)=0:=by rw [List.drop_of_length_le (by omega)];rfl
theorem zad {A A2:Option Addr} {n c n2 c2 B:Nat} {l m:List Nat} {w:World} (h:Sl w B A n c l) (h2:Sl w B A2 n2 c2 m) (hB:B≤w.heap.size) (hl:Canon l) (hm:Canon m) :
  Calls Tryz.prog 105 #[.slice A n c,.slice A2 n2 c2] w fun e w'=>e=.returned (.int .i64 (cmpv (nval l) (nval m)))∧Below w.heap.size w w':=by
 have HL:=h.len
 have HL2:=h2.len
 rcases Nat.lt_trichotomy n n2 with h3 | h3 | h3
 ·rw [zaZ (zaK hl.1 hm (by omega))]
  have h4:(n:Int)<n2:=by omega
  clear h h2 hl hm HL HL2
  go_enter Tryz.func105,Tryz.ntmps105
  go_wp2
  go_ret
  exact ⟨rfl,Below.refl _ _⟩
 ·subst h3
  have H:=Lib.hid (h.more hB)
  have H2:=Lib.hid (h2.more hB)
  have HC:=Lib.hid (And.intro hl.1 hm.1)
  have HLL:=Lib.hid (And.intro HL HL2)
  have hn63:(n:Int)≤9223372036854775807:=by have:=h.2;omega
  have H0:=Lib.hid (show nval (l.drop n)=nval (m.drop n) by rw [zdb HL,zdb HL2])
  clear h h2 hl hm HL HL2
  go_enter Tryz.func105,Tryz.ntmps105
  go_wp2_with fail
  go_loopw [5] (fun y W=>∃(j:Nat) (z:Int),j≤n∧y=.int .i64 z∧z=(j:Int) - 1∧Below w.heap.size w W∧Hid (nval (l.drop j)=nval (m.drop j))) (fun y _=>(intOf y+1).toNat)
  case atStart=>exact ⟨n,_,by omega,rfl,rfl,Below.refl _ _,H0⟩
  case round =>
   obtain ⟨j,z,hj,rfl,hz,hBB,hI⟩:=hrel
   cases j with
   | zero =>
    obtain rfl:z=-1:=by omega
    clear hz
    have h5:=hI.out
    rw [List.drop_zero,List.drop_zero] at h5
    have h6:=Lib.hid (show cmpv (nval l) (nval m)=0 by rw [h5,zgv])
    clear h5 hI
    go_wp2_with fail
    go_ret
    exact ⟨by rw [h6.out];rfl,hBB⟩
   | succ j =>
    obtain rfl:z=(j:Int):=by omega
    clear hz
    obtain ⟨ad,rfl,hb,hc⟩:=(H.out.below hBB).at_ (k:=j) (by omega)
    obtain ⟨ad2,rfl,hb2,hc2⟩:=(H2.out.below hBB).at_ (k:=j) (by omega)
    rcases Nat.lt_trichotomy (dg l j) (dg m j) with h5 | h5 | h5
    ·have HV:=Lib.hid (zgx HC.out.1 HC.out.2 (by have:=HLL.out;omega) (by have:=HLL.out;omega) hI.out (by omega))
     rw [zaZ h5] at HV
     have h6:(dg l j:Int)<dg m j:=by omega
     clear h5 hI
     go_wp2_with fail
     go_quiet (fail)
     go_wp2_with fail
     go_ret
     exact ⟨by rw [← HV.out];rfl,zX hBB nq⟩
    ·have hN:=Lib.hid (show nval (l.drop j)=nval (m.drop j) by rw [zBQ l j,zBQ m j,hI.out,h5])
     rw [h5] at hc
     have h6:¬ (dg m j:Int)<dg m j:=by omega
     clear h5 hI
     go_wp2_with fail
     go_quiet (fail)
     go_wp2_with fail
     go_quiet (fail)
     go_wp2_with fail
     refine ⟨⟨j,_,by omega,rfl,rfl,zX hBB _,hN⟩,?_⟩
     simp [intOf]
    ·have HV:=Lib.hid (zgx HC.out.1 HC.out.2 (by have:=HLL.out;omega) (by have:=HLL.out;omega) hI.out (by omega))
     rw [zb4 h5] at HV
     have h6:(dg m j:Int)<dg l j:=by omega
     have h7:¬ (dg l j:Int)<dg m j:=by omega
     clear h5 hI
     go_wp2_with fail
     go_quiet (fail)
     go_wp2_with fail
     go_quiet (fail)
     go_wp2_with fail
     go_ret
     exact ⟨by rw [← HV.out];rfl,zX (zX hBB _) _⟩
 ·rw [zb4 (zaK hm.1 hl (by omega))]
  have h4:(n2:Int)<n:=by omega
  clear h h2 hl hm HL HL2
  go_enter Tryz.func105,Tryz.ntmps105
  go_wp2
  go_ret
  exact ⟨rfl,Below.refl _ _⟩
theorem ztw {L O M P bw:Nat} (hO:O<P) (hle:M≤L) (hb:bw≤1) (h:L+P*bw=O+M):O=L - M:=by
 rcases (show bw=0∨bw=1 by omega) with rfl | rfl
 ·omega
 ·omega
theorem zf7 (A A2:Option Addr) (n c n2 c2 B:Nat) (l m:List Nat) (w:World) (h:Sl w B A n c l) (h2:Sl w B A2 n2 c2 m) (hB:B≤w.heap.size) (hn:n≤1000) (hn2:n2≤n) (hle:nval m≤nval l) :
  Calls Tryz.prog 134 #[.slice A n c,.slice A2 n2 c2] w (RetF (nval l - nval m) w):=by
 have HL:=Lib.hid h.len
 have HL2:=Lib.hid h2.len
 have H:=Lib.hid h
 have H2:=Lib.hid h2
 have HLE:=Lib.hid hle
 clear h h2 hle
 obtain ⟨i0,hi,hz0,hz1,hz2⟩:=info_parts Tryz.infoU32
 have AT:=Lib.hid (fun (W:World) (hW:Below w.heap.size w W) (k:Nat)=>zhT (k:=k) (H.out.below (hW.mono hB)))
 have AT2:=Lib.hid (fun (W:World) (hW:Below w.heap.size w W) (k:Nat)=>zhT (k:=k) (H2.out.below (hW.mono hB)))
 go_enter Tryz.func134,Tryz.ntmps134
 go_wp2_with fail
 go_loopw [5,6,7] (fun x y z W=>∃(k bw:Nat) (o:List Nat),k≤n∧bw≤1∧y=.int .u64 bw∧z=.int .i64 k∧Below w.heap.size w W∧Hid (OwnD W w.heap.size x o∧o.length=k∧nval (l.take k)+4294967296 ^ k*bw=nval o+nval (m.take k))) (fun _ _ z _=>n - (intOf z).toNat)
 case atStart=>exact ⟨0,0,[],by omega,by omega,rfl,rfl,Below.refl _ _,Lib.hid ⟨OwnD.nil _ _,rfl,by simp [nval]⟩⟩
 case round =>
  obtain ⟨k,bw,o,hk,hbw,rfl,rfl,hBB,hI⟩:=hrel
  have hd1:=dg_lt H.out.dig k
  have hd2:=dg_lt H2.out.dig k
  by_cases hlt:(k:Int)<n
  ·obtain ⟨s,hs⟩:∃s,4294967296+dg l k - dg m k - bw=s:=⟨_,rfl⟩
   have hs':s+dg m k+bw=4294967296+dg l k:=by omega
   obtain ⟨d,hsd⟩:∃d,s%4294967296=d:=⟨_,rfl⟩
   obtain ⟨b',hsb⟩:∃b',1 - s / 4294967296=b':=⟨_,rfl⟩
   have e1:(4294967296:Int)+(dg l k:Nat) - (dg m k:Nat) - (bw:Nat)=(s:Int):=by omega
   have ed:(s:Int)%4294967296=(d:Int):=by omega
   have ev:1 - (s:Int) / 4294967296=(b':Int):=by omega
   have hsl:s<8589934592:=by omega
   have hdl:d<4294967296:=by omega
   have hb1':b'≤1:=by omega
   have hdm:d+dg m k+bw=dg l k+4294967296*b':=by omega
   obtain ⟨hO,hlo,hI2⟩:=hI.out
   have hb0:Below wr.heap.size wr (wr.alloc (.cells #[.int .u32 (d:Nat)] 123)):=(Below.refl _ _).alloc (Nat.le_refl _) _
   have hb1:=hBB.trans (hb0.mono hBB.size)
   have hO1:=Lib.hid (hO.below hb0 (Nat.le_refl _))
   have hnews:∀j u,[Value.int .u32 (d:Nat)][j]?=some u→(wr.alloc (.cells #[.int .u32 (d:Nat)] 123)).cell? ((⟨wr.heap.size,0,none⟩:Addr).add j)=some u:=by
    intro j u hj
    match j,hj with
    | 0,hj=>simp at hj;subst hj;simp [Addr.add]
   have hcl:∀u∈[Value.int .u32 (d:Nat)],u.oneCell'=true:=by intro u hu;simp at hu;subst hu;rfl
   have hmx:o.length+1≤maxLen:=by unfold maxLen;omega
   have hby2:(o.length+1)*4≤140737488355328:=by omega
   have hbs:w.heap.size≤(wr.alloc (.cells #[.int .u32 (d:Nat)] 123)).heap.size:=hb1.size
   have hst:=Lib.hid (And.intro hlo (And.intro hI2 (And.intro hs hdm)))
   have tk1:Hid True:=trivial
   have tk2:Hid True:=trivial
   clear hO hI hs hsd hsb hdm hlo hI2 hs'
   go_wp2_with (first
    | (clear tk1;go_at_call 158;(with_reducible refine (AT.out _ hBB _).mono ?_);rintro e w1 ⟨rfl,rfl⟩)
    | (clear tk2;go_at_call 158;(with_reducible refine (AT2.out _ hBB _).mono ?_);rintro e w1 ⟨rfl,rfl⟩)
    | (at_builtin;go_loud (refine wpList_append_lies _ rfl _ _ 28 rfl w.heap.size 123 i0 (.int .u32 0) 1 4 Tryz.underlying28 hi hz0 hz1 hz2 rfl (by decide) _ _ _ rfl hO1.out.1 ⟨wr.heap.size,0,none⟩ 1 1 [.int .u32 (d:Nat)] rfl rfl hnews hcl (by decide) hmx hby2 hbs _ rfl ?_;intro g cap w1 hown' hgrow _ hlt;have hP:=Lib.hid (hO1.out.pushed hdl hown' hgrow hbs);clear hown' hgrow))
    | fail "no arm")
   refine ⟨⟨k+1,b',o++[d],by omega,by omega,rfl,rfl,hb1.trans (hP.out.2.mono (Nat.le_refl _)),Lib.hid ⟨hP.out.1,by rw [List.length_append,hst.out.1];rfl,?_⟩⟩,?_⟩
   ·rw [zau,hst.out.1,zA l,zA m]
    exact zmF (Nat.pow_succ ..) hst.out.2.2.2 hst.out.2.1
   ·simp only [intOf]
    omega
  ·obtain rfl:k=n:=by omega
   have hfin:Hid (nval o=nval l - nval m):=by
    obtain ⟨hO,hlo,hI2⟩:=hI.out
    rw [List.take_of_length_le (by have:=HL.out;omega),List.take_of_length_le (by have:=HL2.out;omega)] at hI2
    have h5:=qH hO.2
    rw [hlo] at h5
    exact Lib.hid (ztw h5 HLE.out hbw hI2)
   obtain ⟨A4,c4,rfl,hs4,hfr⟩:=hI.out.1.sl
   replace hfr:=Lib.hid hfr
   go_wp2_with (first
    | (go_at_call 107;(with_reducible refine (zah (v:=nval l - nval m) hs4 hfin.out).mono ?_);rintro e w2 ⟨n',rfl,hs5,rfl⟩)
    | fail "no arm")
   go_ret
   exact ⟨_,_,_,rfl,hs5,hBB,hfr.out⟩
theorem zcg (A A2:Option Addr) (n c n2 c2 B:Nat) (l m:List Nat) (w:World) (h:Sl w B A n c l) (h2:Sl w B A2 n2 c2 m) (hB:B≤w.heap.size) (hn:n≤1000) (hn2:n2≤n) (hle:nval m≤nval l) :
  Calls Tryz.prog 134 #[.slice A n c,.slice A2 n2 c2] w (RetD (nval l - nval m) w):=
 (zf7 A A2 n c n2 c2 B l m w h h2 hB hn hn2 hle).mono fun _ _ h=>h.d
end Go.Proofs.YtjcegdldgjphiaaGreatDoor
namespace Go.Proofs.YtjcegdldgjphiaaGreatDoor
def blen (v:Nat):Nat:=if v=0 then 0 else blen (v / 2)+1
theorem zbs:blen 0=0:=by rw [blen];rfl
theorem zbI {v:Nat} (h:v≠0):blen v=blen (v / 2)+1:=by rw [blen,if_neg h]
theorem zn9:∀v,v<2 ^ blen v:=by
 intro v
 induction v using Nat.strongRecOn with
 | ind v ih =>
  by_cases h:v=0
  ·subst h;rw [zbs];simp
  ·rw [zbI h,Nat.pow_succ]
   have:=ih (v / 2) (by omega)
   omega
theorem zjU:∀v,v≠0→2 ^ (blen v - 1)≤v:=by
 intro v
 induction v using Nat.strongRecOn with
 | ind v ih =>
  intro h
  rw [zbI h,Nat.add_sub_cancel]
  by_cases h2:v / 2=0
  ·rw [h2,zbs];simp;omega
  ·have h3:=ih (v / 2) (by omega) h2
   have h4:blen (v / 2)=(blen (v / 2) - 1)+1:=by rw [zbI h2];rfl
   rw [h4,Nat.pow_succ]
   omega
theorem zn7 {v k:Nat} (h:v<2 ^ k):blen v≤k:=by
 by_cases h0:v=0
 ·subst h0;rw [zbs];omega
 ·rcases Nat.lt_or_ge k (blen v) with h2 | h2
  ·have h3:=zjU v h0
   have h4:2 ^ k≤2 ^ (blen v - 1):=Nat.pow_le_pow_right (by omega) (by omega)
   omega
  ·exact h2
theorem zmp:∀(k r t:Nat),r<2 ^ k→t≠0→blen (r+2 ^ k*t)=k+blen t:=by
 intro k
 induction k with
 | zero=>(intro r t hr _;rw [Nat.pow_zero] at hr;obtain rfl:r=0:=by omega);simp
 | succ k ih =>
  intro r t hr ht
  rw [Nat.pow_succ] at hr
  have h1:2 ^ (k+1)*t=2*(2 ^ k*t):=by rw [Nat.pow_succ,Nat.mul_comm (2 ^ k) 2,Nat.mul_assoc]
  have hp:0<2 ^ k*t:=Nat.mul_pos (Nat.pow_pos (by omega)) (by omega)
  have h2:(r+2 ^ (k+1)*t) / 2=r / 2+2 ^ k*t:=by rw [h1];omega
  rw [zbI (by rw [h1];omega),h2,ih (r / 2) t (by omega) ht]
  omega
theorem p32 (k:Nat):4294967296 ^ k=2 ^ (32*k):=by rw [show (4294967296:Nat)=2 ^ 32 from rfl,← Nat.pow_mul]
theorem zn8 {l:List Nat} {n:Nat} (hl:Dig l) (hn:l.length=n+1) (ht:dg l n≠0):blen (nval l)=32*n+blen (dg l n):=by
 have h1:=zA l n
 rw [List.take_of_length_le (by omega)] at h1
 have h2:=qH (zaV hl n)
 rw [List.length_take,Nat.min_eq_left (by omega),p32] at h2
 rw [h1,p32]
 exact zmp _ _ _ h2 ht
theorem zoe {l:List Nat} {n:Nat} (h:Canon l) (hn:l.length=n+1):dg l n≠0:=by
 intro h0
 apply h.2
 rw [List.getLast?_eq_getElem?,hn]
 show l[n]?=some 0
 rw [List.getElem?_eq_getElem (by omega)]
 rw [zb2 (by omega)] at h0
 rw [h0]
theorem zly {l:List Nat} (hl:Dig l) (k:Nat):dg l k=nval l / 4294967296 ^ k%4294967296:=by
 have h1:=zBQ l k
 have h2:=dg_lt hl k
 rcases Nat.lt_or_ge l.length k with h | h
 ·rw [zdA (by omega),Nat.div_eq_of_lt (Nat.lt_of_lt_of_le (qH hl) (Nat.pow_le_pow_right (by omega) (by omega)))]
 ·have h3:=zby l h
  have h4:=qH (zaV hl k)
  rw [List.length_take,Nat.min_eq_left h] at h4
  rw [h3,Nat.add_mul_div_left _ _ (Nat.pow_pos (by omega)),Nat.div_eq_of_lt h4,Nat.zero_add,h1]
  omega
theorem zti {l:List Nat} (hl:Dig l) (k:Nat):dg l (k / 32) / 2 ^ (k%32)%2=nval l / 2 ^ k%2:=by
 rw [zly hl,p32]
 have e:2 ^ k=2 ^ (32*(k / 32))*2 ^ (k%32):=by rw [← Nat.pow_add,Nat.div_add_mod]
 rw [e,← Nat.div_div_eq_div_mul]
 obtain ⟨X,hX⟩:∃X,nval l / 2 ^ (32*(k / 32))=X:=⟨_,rfl⟩
 rw [hX]
 have h1:k%32<32:=Nat.mod_lt _ (by omega)
 obtain ⟨j,hj⟩:∃j,k%32=j:=⟨_,rfl⟩
 rw [hj] at h1 ⊢
 have e2:(4294967296:Nat)=2 ^ j*2 ^ (32 - j):=by rw [← Nat.pow_add,show j+(32 - j)=32 by omega]
 rw [e2,Nat.mod_mul_right_div_self]
 have e3:2 ^ (32 - j)=2*2 ^ (31 - j):=by rw [← Nat.pow_succ',show (31 - j).succ=32 - j by omega]
 rw [e3,Nat.mod_mul_right_mod]
theorem zv5 {l:List Nat} (hl:Dig l) (k:Nat):dg l k+dg l (k+1)*4294967296=nval l / 4294967296 ^ k%(4294967296*4294967296):=by
 rw [zly hl,zly hl,Nat.pow_succ,← Nat.div_div_eq_div_mul,Nat.mod_mul,Nat.mul_comm]
theorem znT {l:List Nat} (hl:Dig l) (k j r:Nat) (hr:r<32):(dg l (k+j)+dg l (k+j+1)*4294967296) / 2 ^ r%4294967296=nval l / 2 ^ (32*k+r) / 4294967296 ^ j%4294967296:=by
 rw [zv5 hl]
 obtain ⟨X,hX⟩:∃X,nval l / 4294967296 ^ (k+j)=X:=⟨_,rfl⟩
 have e1:nval l / 2 ^ (32*k+r) / 4294967296 ^ j=X / 2 ^ r:=by
  rw [← hX,Nat.div_div_eq_div_mul,Nat.div_div_eq_div_mul,Nat.pow_add,Nat.pow_add,p32 k,Nat.mul_assoc,Nat.mul_assoc,Nat.mul_comm (2 ^ r)]
 rw [e1,hX]
 have e2:(4294967296*4294967296:Nat)=2 ^ r*(4294967296*2 ^ (32 - r)):=by
  rw [Nat.mul_left_comm,← Nat.pow_add,show r+(32 - r)=32 by omega]
 rw [e2,Nat.mod_mul_right_div_self,Nat.mod_mul_right_mod]
theorem zre (V P:Nat):V%P+P*(V / P%4294967296)=V%(P*4294967296):=(Nat.mod_mul).symm
theorem zlj {l:List Nat} {n s r:Nat} (hl:Dig l) (hn:l.length=n):nval l / 2 ^ (32*s+r)<4294967296 ^ (n - s):=by
 have h1:=qH hl
 rw [hn] at h1
 apply Nat.div_lt_of_lt_mul
 have h2:4294967296 ^ n≤2 ^ (32*s+r)*4294967296 ^ (n - s):=by
  rw [p32,p32,← Nat.pow_add]
  exact Nat.pow_le_pow_right (by omega) (by omega)
 omega
theorem zvB (x b:Nat) (hb:b≤1):(2*x) ||| b=2*x+b:=by
 rcases (show b=0∨b=1 by omega) with rfl | rfl
 ·simp
 ·have:=Nat.shiftLeft_add_eq_or_of_lt (i:=1) (b:=1) (by omega) x
  rw [Nat.shiftLeft_eq,Nat.pow_one,Nat.mul_comm] at this
  exact this.symm
theorem zvC {x j:Nat} (h:x%2 ^ (j+1)=0):x ||| 2 ^ j=x+2 ^ j:=by
 have e:x=(x / 2 ^ (j+1))*2 ^ (j+1):=by have:=Nat.div_add_mod x (2 ^ (j+1));rw [h,Nat.add_zero,Nat.mul_comm] at this;exact this.symm
 have h2:2 ^ j<2 ^ (j+1):=Nat.pow_lt_pow_right (by omega) (by omega)
 have:=Nat.shiftLeft_add_eq_or_of_lt h2 (x / 2 ^ (j+1))
 rw [Nat.shiftLeft_eq,← e] at this
 exact this.symm
theorem zve {l:List Nat} (hl:Dig l) {Z k:Nat} (h:nval l=Z*2 ^ (k+1)):dg l (k / 32)%2 ^ (k%32+1)=0:=by
 rw [zly hl,p32,h]
 have h1:k%32<32:=Nat.mod_lt _ (by omega)
 have e:2 ^ (k+1)=2 ^ (32*(k / 32))*2 ^ (k%32+1):=by rw [← Nat.pow_add];congr 1;omega
 rw [e,Nat.mul_left_comm,Nat.mul_div_cancel_left _ (Nat.pow_pos (by omega))]
 have e2:(4294967296:Nat)=2 ^ (k%32+1)*2 ^ (31 - k%32):=by rw [← Nat.pow_add,show k%32+1+(31 - k%32)=32 by omega]
 rw [e2,Nat.mod_mul_right_mod,Nat.mul_mod_left]
theorem zrn {x k:Nat} (hx:x<4294967296) (h:x%2 ^ (k%32+1)=0):x+2 ^ (k%32)<4294967296:=by
 have h1:k%32<32:=Nat.mod_lt _ (by omega)
 obtain ⟨j,hj⟩:∃j,k%32=j:=⟨_,rfl⟩
 rw [hj] at h h1 ⊢
 have e2:(4294967296:Nat)=2 ^ (j+1)*2 ^ (31 - j):=by rw [← Nat.pow_add,show j+1+(31 - j)=32 by omega]
 have e:x=2 ^ (j+1)*(x / 2 ^ (j+1)):=by have:=Nat.div_add_mod x (2 ^ (j+1));omega
 have h3:x / 2 ^ (j+1)<2 ^ (31 - j):=by
  apply Nat.div_lt_of_lt_mul
  omega
 have h4:2 ^ (j+1)*(x / 2 ^ (j+1)+1)≤2 ^ (j+1)*2 ^ (31 - j):=Nat.mul_le_mul_left _ h3
 rw [Nat.mul_add,Nat.mul_one] at h4
 have h5:2 ^ j<2 ^ (j+1):=Nat.pow_lt_pow_right (by omega) (by omega)
 omega
theorem zpk (k:Nat):4294967296 ^ (k / 32)*2 ^ (k%32)=2 ^ k:=by rw [p32,← Nat.pow_add,Nat.div_add_mod]
theorem ztx {V k:Nat}:V / 2 ^ k=2*(V / 2 ^ (k+1))+V / 2 ^ k%2:=by
 rw [Nat.pow_succ,← Nat.div_div_eq_div_mul];omega
theorem zrA {A W b:Nat} (hb:b≤1) (hW:0<W) :
  (W≤2*(A%W)+b→(2*A+b) / W=2*(A / W)+1∧(2*A+b)%W=2*(A%W)+b - W)∧(2*(A%W)+b<W→(2*A+b) / W=2*(A / W)∧(2*A+b)%W=2*(A%W)+b):=by
 have h1:=Nat.div_add_mod A W
 have h2:=Nat.mod_lt A hW
 obtain ⟨q,hq⟩:∃q,A / W=q:=⟨_,rfl⟩
 obtain ⟨r,hr⟩:∃r,A%W=r:=⟨_,rfl⟩
 rw [hq,hr] at h1
 rw [hr] at h2
 rw [hq,hr]
 constructor
 ·intro h3
  have e:2*A+b=(2*r+b - W)+W*(2*q+1):=by
   rw [Nat.mul_add,Nat.mul_left_comm,Nat.mul_one];omega
  rw [e]
  refine ⟨?_,?_⟩
  ·rw [Nat.add_mul_div_left _ _ hW,Nat.div_eq_of_lt (by omega)];omega
  ·rw [Nat.add_mul_mod_self_left,Nat.mod_eq_of_lt (by omega)]
 ·intro h3
  have e:2*A+b=(2*r+b)+W*(2*q):=by rw [Nat.mul_left_comm];omega
  rw [e]
  refine ⟨?_,?_⟩
  ·rw [Nat.add_mul_div_left _ _ hW,Nat.div_eq_of_lt h3];omega
  ·rw [Nat.add_mul_mod_self_left,Nat.mod_eq_of_lt h3]
theorem zrX {V W f:Nat} (hW:W≠0) (h:blen V=blen W+f):V / 2 ^ (f+1)<W:=by
 apply Nat.div_lt_of_lt_mul
 have h1:=zn9 V
 have h2:=zjU W hW
 have h3:2 ^ blen V≤2 ^ (f+1)*W:=by
  have e:blen V=(f+1)+(blen W - 1):=by have:=zbI hW;omega
  rw [e,Nat.pow_add]
  exact Nat.mul_le_mul_left _ h2
 omega
theorem zmo {V W:Nat} (h:blen V<blen W):V<W:=by
 have h1:=zn9 V
 have hW:W≠0:=fun e=>by rw [e,zbs] at h;omega
 have h2:=zjU W hW
 have h3:2 ^ blen V≤2 ^ (blen W - 1):=Nat.pow_le_pow_right (by omega) (by omega)
 omega
end Go.Proofs.YtjcegdldgjphiaaGreatDoor
namespace Go.Proofs.YtjcegdldgjphiaaGreatDoor
open Go.RowKit Go.Shelf
theorem ztg (y:Nat) (hy:y<4294967296):bits .and .u32 (y:Int) 1=((y%2:Nat):Int):=by
 have e:(BitVec.ofInt 32 (y:Int)).toNat=y:=by rw [BitVec.ofInt_natCast,BitVec.toNat_ofNat];exact Nat.mod_eq_of_lt (by omega)
 show IntKind.u32.wrap ((BitVec.ofInt 32 (y:Int) &&& BitVec.ofInt 32 (1:Int)).toNat:Int)=_
 rw [BitVec.toNat_and,e,show (BitVec.ofInt 32 (1:Int)).toNat=1 from rfl,Nat.and_one_is_mod,IntKind.wrap_u32]
 omega
theorem zth {A:Option Addr} {n c B:Nat} {l:List Nat} {w:World} (k:Nat) (h:Sl w B A n c l) (hk:k / 32<n) :
  Calls Tryz.prog 133 #[.slice A n c,.int .i64 (k:Int)] w fun e w'=>e=.returned (.int .u32 ((nval l / 2 ^ k%2:Nat):Int))∧w=w':=by
 have hv:=Lib.hid (zti h.dig k)
 obtain ⟨s,hs⟩:∃s,k / 32=s:=⟨_,rfl⟩
 obtain ⟨r,hr⟩:∃r,k%32=r:=⟨_,rfl⟩
 rw [hs] at hk
 rw [hs,hr] at hv
 obtain ⟨ad,rfl,hb,hc⟩:=h.at_ (k:=s) hk
 have hd:=dg_lt h.dig s
 obtain ⟨x,hx⟩:∃x,dg l s=x:=⟨_,rfl⟩
 rw [hx] at hc hd hv
 obtain ⟨y,hy⟩:∃y,x / 2 ^ r=y:=⟨_,rfl⟩
 rw [hy] at hv
 have hyl:y<4294967296:=by rw [← hy];exact Nat.lt_of_le_of_lt (Nat.div_le_self _ _) hd
 have e0:(k:Int) / 32=(s:Int):=by omega
 have e1:(k:Int)%32=(r:Int):=by omega
 have e2:(x:Int) / 2 ^ r=(y:Int):=by rw [← hy];simp
 have e3:=ztg y hyl
 have hr32:r<32:=by omega
 have hs63:(s:Int)≤9223372036854775807:=by have:=h.2;omega
 rw [← hv.out]
 clear h hs hr hx hy hv
 go_enter Tryz.func133,Tryz.ntmps133
 go_wp2_with fail
 go_ret
 exact ⟨rfl,rfl⟩
theorem zcy {A:Option Addr} {n c B:Nat} {l:List Nat} {w:World} (h:Sl w B A n c l) (hl:Canon l) (hn:n≤1000) :
  Calls Tryz.prog 130 #[.slice A n c] w fun e w'=>e=.returned (.int .i64 (blen (nval l):Nat))∧w=w':=by
 have HL:=h.len
 cases n with
 | zero =>
  obtain rfl:=List.eq_nil_of_length_eq_zero HL
  rw [show blen (nval [])=0 from zbs]
  clear h hl HL
  go_enter Tryz.func130,Tryz.ntmps130
  go_wp2_with fail
  go_ret
  exact ⟨rfl,rfl⟩
 | succ n =>
  rw [zn8 hl.1 HL (zoe hl HL)]
  obtain ⟨ad,rfl,hb,hc⟩:=h.at_ (k:=n) (by omega)
  have hd:=dg_lt h.dig n
  obtain ⟨x,hx⟩:∃x,dg l n=x:=⟨_,rfl⟩
  rw [hx] at hc hd ⊢
  clear h hl HL hx hb
  have hbx:=zn7 (show x<2 ^ 32 from hd)
  obtain ⟨b,hbb⟩:∃b,blen x=b:=⟨_,rfl⟩
  have HBB:=Lib.hid hbb
  rw [hbb] at hbx ⊢
  clear hbb
  go_enter Tryz.func130,Tryz.ntmps130
  go_wp2_with fail
  go_loopw [3,4] (fun y z W=>∃(u v:Nat),v<4294967296∧u≤32*n+32∧y=.int .i64 u∧z=.int .u32 v∧w=W∧Hid (u+blen v=32*n+b)) (fun _ z _=>(intOf z).toNat)
  case atStart=>exact ⟨32*n,x,hd,by omega,by go_num,rfl,rfl,Lib.hid (by rw [HBB.out])⟩
  case round =>
   obtain ⟨u,v,hv,hu,rfl,rfl,rfl,hI⟩:=hrel
   by_cases h0:v=0
   ·subst h0
    have hI':=hI.out
    rw [zbs,Nat.add_zero] at hI'
    subst hI'
    go_wp2_with fail
    go_ret
    exact ⟨rfl,rfl⟩
   ·have hpos:(0:Int)<v:=by omega
    have hI':=hI.out
    rw [zbI h0] at hI'
    have hu2:u+1≤32*n+32:=by omega
    have hN:=Lib.hid (show (u+1)+blen (v / 2)=32*n+b by omega)
    obtain ⟨v2,hv2⟩:∃v2,v / 2=v2:=⟨_,rfl⟩
    rw [hv2] at hN
    have hl2:v2<4294967296:=by omega
    have hm2:v2<v:=by omega
    have e2:(v:Int) / 2=(v2:Int):=by omega
    clear hI hI' h0 hv2
    go_wp2_with fail
    refine ⟨⟨u+1,v2,hl2,hu2,by go_num,rfl,trivial,hN⟩,?_⟩
    simp [intOf];omega
theorem zeT {A:Option Addr} {n c B:Nat} {l:List Nat} {w:World} (h:Sl w B A n c l) (hn:n≤2) :
  Calls Tryz.prog 129 #[.slice A n c] w fun e w'=>e=.returned (.int .u64 (nval l:Nat))∧w=w':=by
 have H:=Lib.hid h
 have HL:=Lib.hid h.len
 clear h
 go_enter Tryz.func129,Tryz.ntmps129
 go_wp2_with fail
 go_loopw [3,4] (fun y z W=>∃(k v:Nat),k≤n∧y=.int .u64 v∧z=.int .i64 k∧w=W∧Hid (v=nval (l.take k))) (fun _ z _=>n - (intOf z).toNat)
 case atStart=>exact ⟨0,0,by omega,rfl,rfl,rfl,Lib.hid rfl⟩
 case round =>
  obtain ⟨k,v,hk,rfl,rfl,rfl,hI⟩:=hrel
  by_cases hlt:k<n
  ·obtain ⟨ad,rfl,hb,hc⟩:=H.out.at_ (k:=k) hlt
   have hd:=dg_lt H.out.dig k
   have hv:=qH (zaV H.out.dig k)
   rw [List.length_take,Nat.min_eq_left (by have:=HL.out;omega),← hI.out] at hv
   have hN:=Lib.hid (zA l k)
   obtain ⟨x,hx⟩:∃x,dg l k=x:=⟨_,rfl⟩
   rw [hx,← hI.out] at hN
   rw [hx] at hc hd
   clear hx
   obtain ⟨s,hs⟩:∃s,32*k=s:=⟨_,rfl⟩
   obtain ⟨y,hy⟩:∃y,x*2 ^ s=y:=⟨_,rfl⟩
   have hy2:4294967296 ^ k*x=y:=by rw [p32,hs,Nat.mul_comm,hy]
   rw [hy2] at hN
   have hsum:v+y<18446744073709551616:=by
    rcases (show k=0∨k=1 by omega) with rfl | rfl
    ·rw [Nat.pow_zero] at hv hy2;omega
    ·rw [Nat.pow_one] at hv hy2;omega
   have hs32:s≤32:=by omega
   have e1:(32:Int)*k=(s:Int):=by omega
   have e2:(x:Int)*2 ^ s=(y:Int):=by rw [← hy];simp
   have hm:(v:Int)+y<18446744073709551616:=by omega
   have hk2:(k:Int)<2:=by omega
   clear hs hy hy2 hv hI hsum
   go_wp2_with fail
   refine ⟨⟨k+1,v+y,by omega,by go_num,by go_num,trivial,Lib.hid hN.out.symm⟩,?_⟩
   simp only [intOf]
   omega
  ·have hv:Hid (v=nval l):=by
    have:=hI.out
    rw [List.take_of_length_le (by have:=HL.out;omega)] at this
    exact Lib.hid this
   clear hI
   go_wp2_with fail
   go_ret
   exact ⟨by rw [← hv.out];rfl,rfl⟩
theorem zbU (v:Nat) (w:World) (hv:v<18446744073709551616) :
  Calls Tryz.prog 91 #[.int .u64 v] w (RetD v w):=by
 obtain ⟨a,ha⟩:∃a,v%4294967296=a:=⟨_,rfl⟩
 obtain ⟨b,hb⟩:∃b,v / 4294967296=b:=⟨_,rfl⟩
 have e1:(v:Int)%4294967296=(a:Int):=by omega
 have e2:(v:Int) / 4294967296=(b:Int):=by omega
 have hal:a<4294967296:=by omega
 have hbl:b<4294967296:=by omega
 have d1:DBk (w.alloc (.cells #[.int .u32 (a:Nat),.int .u32 (b:Nat)] 123)) w.heap.size 123 [a,b]:=zI w _ _ rfl
 have hs:Hid (Sl _ _ (some ⟨w.heap.size,0,none⟩) 2 2 [a,b]):=Lib.hid (d1.sl (B:=(w.alloc (.cells #[.int .u32 (a:Nat),.int .u32 (b:Nat)] 123)).heap.size) (by intro x hx;simp at hx;omega) (by simp) (by simp))
 have hn:=Lib.hid (show nval [a,b]=v by simp [nval];omega)
 clear ha hb d1
 go_enter Tryz.func91,Tryz.ntmps91
 go_wp2_with (go_at_call 107;go_loud ((with_reducible refine (zah hs.out hn.out).mono ?_);rintro e w2 ⟨n',rfl,hs5,rfl⟩))
 go_ret
 exact ⟨_,_,_,rfl,hs5,by go_grown⟩
theorem zuN {O P P' T bk v d b' b:Nat} (hp:P'=P*4294967296) (hv:v+4294967296*b'=2*d+bk) (h:O+P*bk=2*T+b):O+P*v+P'*b'=2*(T+P*d)+b:=by
 subst hp
 have:P*(v+4294967296*b')=P*(2*d+bk):=by rw [hv]
 simp only [Nat.mul_add,← Nat.mul_assoc] at this
 rw [Nat.mul_add,show 2*(P*d)=P*2*d by rw [← Nat.mul_assoc,Nat.mul_comm 2 P]]
 omega
theorem ztk {u bk:Nat} (hu:u<4294967296) (h2:u%2=0) (hb:bk≤1):bits .or .u32 (u:Int) (bk:Int)=((u+bk:Nat):Int):=by
 rw [bor32 u bk hu (by omega)]
 have e:u=2*(u / 2):=by omega
 rw [e,zvB (u / 2) bk hb]
theorem zpT {A:Option Addr} {n c B:Nat} {l:List Nat} {w:World} (b:Nat) (h:Sl w B A n c l) (hB:B≤w.heap.size) (hn:n≤1000) (hb:b≤1) :
  Calls Tryz.prog 132 #[.slice A n c,.int .u32 b] w (RetF (2*nval l+b) w):=by
 have HL:=Lib.hid h.len
 have H:=Lib.hid h
 clear h
 obtain ⟨i0,hi,hz0,hz1,hz2⟩:=info_parts Tryz.infoU32
 go_enter Tryz.func132,Tryz.ntmps132
 go_wp2_with fail
 go_loopw [1,5,6] (fun y x z W=>∃(k bk:Nat) (o:List Nat),k≤n∧bk≤1∧y=.int .u32 bk∧z=.int .i64 k∧Below w.heap.size w W∧Hid (OwnD W w.heap.size x o∧o.length=k∧nval o+4294967296 ^ k*bk=2*nval (l.take k)+b)) (fun _ _ z _=>n - (intOf z).toNat)
 case atStart=>exact ⟨0,b,[],by omega,hb,rfl,rfl,Below.refl _ _,Lib.hid ⟨OwnD.nil _ _,rfl,by simp [nval]⟩⟩
 case round =>
  obtain ⟨k,bk,o,hk,hbk,rfl,rfl,hBB,hI⟩:=hrel
  by_cases hlt:(k:Int)<n
  ·obtain ⟨ad,rfl,hab,hc⟩:=(H.out.below (hBB.mono hB)).at_ (k:=k) (by omega)
   have hd1:=dg_lt H.out.dig k
   have HD:=Lib.hid (zA l k)
   have HC2:=Lib.hid (fun (W:World) (hW:Below w.heap.size w W)=>(H.out.below (hW.mono hB)).at_ (k:=k) (by omega))
   obtain ⟨d,hd⟩:∃d,dg l k=d:=⟨_,rfl⟩
   rw [hd] at hc hd1 HD HC2
   obtain ⟨u,hu⟩:∃u,2*d%4294967296=u:=⟨_,rfl⟩
   obtain ⟨v,hv⟩:∃v,u+bk=v:=⟨_,rfl⟩
   obtain ⟨b',hb'⟩:∃b',d / 2147483648=b':=⟨_,rfl⟩
   have e1:((d:Int)*2)%4294967296=(u:Int):=by omega
   have e2:=ztk (u:=u) (bk:=bk) (by omega) (by omega) hbk
   rw [hv] at e2
   have e3:(d:Int) / 2147483648=(b':Int):=by omega
   have hb1':b'≤1:=by omega
   have hdl:v<4294967296:=by omega
   have hdm:v+4294967296*b'=2*d+bk:=by omega
   obtain ⟨hO,hlo,hI2⟩:=hI.out
   have hb0:Below wr.heap.size wr (wr.alloc (.cells #[.int .u32 (v:Nat)] 123)):=(Below.refl _ _).alloc (Nat.le_refl _) _
   have hb1:=hBB.trans (hb0.mono hBB.size)
   have hO1:=Lib.hid (hO.below hb0 (Nat.le_refl _))
   have hnews:∀j u,[Value.int .u32 (v:Nat)][j]?=some u→(wr.alloc (.cells #[.int .u32 (v:Nat)] 123)).cell? ((⟨wr.heap.size,0,none⟩:Addr).add j)=some u:=by
    intro j u hj
    match j,hj with
    | 0,hj=>simp at hj;subst hj;simp [Addr.add]
   have hcl:∀u∈[Value.int .u32 (v:Nat)],u.oneCell'=true:=by intro u hu;simp at hu;subst hu;rfl
   have hmx:o.length+1≤maxLen:=by unfold maxLen;omega
   have hby2:(o.length+1)*4≤140737488355328:=by omega
   have hbs:w.heap.size≤(wr.alloc (.cells #[.int .u32 (v:Nat)] 123)).heap.size:=hb1.size
   have hst:=Lib.hid (And.intro hlo (And.intro hI2 hdm))
   clear hO hI hu hv hb' hdm hlo hI2 hd
   go_wp2_with (first
    | (at_builtin;go_loud (refine wpList_append_lies _ rfl _ _ 28 rfl w.heap.size 123 i0 (.int .u32 0) 1 4 Tryz.underlying28 hi hz0 hz1 hz2 rfl (by decide) _ _ _ rfl hO1.out.1 ⟨wr.heap.size,0,none⟩ 1 1 [.int .u32 (v:Nat)] rfl rfl hnews hcl (by decide) hmx hby2 hbs _ rfl ?_;intro g cap w1 hown' hgrow _ hlt;have hP:=Lib.hid (hO1.out.pushed hdl hown' hgrow hbs);obtain ⟨ad3,ea3,hab3,hc3⟩:=HC2.out _ (hb1.trans (hP.out.2.mono (Nat.le_refl _)));cases ea3;clear hown' hgrow))
    | fail "no arm")
   refine ⟨⟨k+1,b',o++[v],by omega,hb1',rfl,by go_num,hb1.trans (hP.out.2.mono (Nat.le_refl _)),Lib.hid ⟨hP.out.1,by rw [List.length_append,hst.out.1];rfl,?_⟩⟩,?_⟩
   ·rw [zau,hst.out.1,HD.out]
    exact zuN (Nat.pow_succ ..) hst.out.2.2 hst.out.2.1
   ·simp only [intOf]
    omega
  ·obtain rfl:k=n:=by omega
   have hfin:Hid (nval (o++[bk])=2*nval l+b):=by
    obtain ⟨hO,hlo,hI2⟩:=hI.out
    rw [List.take_of_length_le (by have:=HL.out;omega)] at hI2
    rw [zau,hlo]
    exact Lib.hid hI2
   obtain ⟨hO,hlo,hI2⟩:=hI.out
   have hbl:bk<4294967296:=by omega
   have hb0:Below wr.heap.size wr (wr.alloc (.cells #[.int .u32 (bk:Nat)] 123)):=(Below.refl _ _).alloc (Nat.le_refl _) _
   have hb1:=hBB.trans (hb0.mono hBB.size)
   have hO1:=Lib.hid (hO.below hb0 (Nat.le_refl _))
   have hnews:∀j u,[Value.int .u32 (bk:Nat)][j]?=some u→(wr.alloc (.cells #[.int .u32 (bk:Nat)] 123)).cell? ((⟨wr.heap.size,0,none⟩:Addr).add j)=some u:=by
    intro j u hj
    match j,hj with
    | 0,hj=>simp at hj;subst hj;simp [Addr.add]
   have hcl:∀u∈[Value.int .u32 (bk:Nat)],u.oneCell'=true:=by intro u hu;simp at hu;subst hu;rfl
   have hmx:o.length+1≤maxLen:=by unfold maxLen;omega
   have hby2:(o.length+1)*4≤140737488355328:=by omega
   have hbs:w.heap.size≤(wr.alloc (.cells #[.int .u32 (bk:Nat)] 123)).heap.size:=hb1.size
   clear hO hI hlo hI2
   go_wp2_with (first
    | (at_builtin;go_loud (refine wpList_append_lies _ rfl _ _ 28 rfl w.heap.size 123 i0 (.int .u32 0) 1 4 Tryz.underlying28 hi hz0 hz1 hz2 rfl (by decide) _ _ _ rfl hO1.out.1 ⟨wr.heap.size,0,none⟩ 1 1 [.int .u32 (bk:Nat)] rfl rfl hnews hcl (by decide) hmx hby2 hbs _ rfl ?_;intro g cap w1 hown' hgrow _ hlt;have hP:=Lib.hid (hO1.out.pushed hbl hown' hgrow hbs);have hs5:=Lib.hid hP.out.1.sl_len;have hfr:=Lib.hid hP.out.1.fresh;clear hown' hgrow))
    | (go_at_call 107;(with_reducible refine (zah (v:=2*nval l+b) hs5.out hfin.out).mono ?_);rintro e w2 ⟨n',rfl,hs4,rfl⟩)
    | fail "no arm")
   go_ret
   exact ⟨_,_,_,rfl,hs4,hb1.trans (hP.out.2.mono (Nat.le_refl _)),hfr.out⟩
theorem zli {A:Option Addr} {n c B:Nat} {l:List Nat} {w:World} (f:Nat) (h:Sl w B A n c l) (hB:B≤w.heap.size) (hn:n≤1000) (hf:f≤100000) :
  Calls Tryz.prog 131 #[.slice A n c,.int .i64 f] w (RetF (nval l / 2 ^ f) w):=by
 have HL:=Lib.hid h.len
 have H:=Lib.hid h
 clear h
 obtain ⟨i0,hi,hz0,hz1,hz2⟩:=info_parts Tryz.infoU32
 have AT:=Lib.hid (fun (W:World) (hW:Below w.heap.size w W) (k:Nat)=>zhT (k:=k) (H.out.below (hW.mono hB)))
 have AT2:Hid (∀(W:World) (_:Below w.heap.size w W) (k:Nat),Calls Tryz.prog 158 #[.slice A n c,.int .i64 ((k:Int)+1)] W fun e w'=>e=.returned (.int .u64 (dg l (k+1):Nat))∧W=w'):=fun W hW k=>AT.out W hW (k+1)
 obtain ⟨s,hs⟩:∃s,f / 32=s:=⟨_,rfl⟩
 obtain ⟨r,hr⟩:∃r,f%32=r:=⟨_,rfl⟩
 have hfs:f=32*s+r:=by omega
 have e0:(f:Int) / 32=(s:Int):=by omega
 have e00:(f:Int)%32=(r:Int):=by omega
 have hr32:r<32:=by omega
 have hsl:s≤4000:=by omega
 obtain ⟨V,hV⟩:∃V,nval l / 2 ^ f=V:=⟨_,rfl⟩
 rw [hV]
 have HW:=Lib.hid (fun k=>znT H.out.dig s k r hr32)
 rw [← hfs,hV] at HW
 have HE:=Lib.hid (zlj (s:=s) (r:=r) H.out.dig HL.out)
 rw [← hfs,hV] at HE
 clear hs hr hfs hV
 go_enter Tryz.func131,Tryz.ntmps131
 go_wp2_with fail
 go_loopw [5,6] (fun x z W=>∃(k:Nat) (o:List Nat),k≤5000∧z=.int .i64 k∧Below w.heap.size w W∧Hid (OwnD W w.heap.size x o∧k=s+o.length∧nval o=V%4294967296 ^ o.length)) (fun _ z _=>n - (intOf z).toNat)
 case atStart=>exact ⟨s,[],by omega,rfl,Below.refl _ _,Lib.hid ⟨OwnD.nil _ _,rfl,by simp [nval,Nat.mod_one]⟩⟩
 case round =>
  obtain ⟨k,o,hk,rfl,hBB,hI⟩:=hrel
  by_cases hlt:(k:Int)<n
  ·have hd1:=dg_lt H.out.dig k
   have hd2:=dg_lt H.out.dig (k+1)
   have hw:=HW.out o.length
   rw [← hI.out.2.1] at hw
   obtain ⟨x,hx⟩:∃x,dg l k=x:=⟨_,rfl⟩
   obtain ⟨y,hy⟩:∃y,dg l (k+1)=y:=⟨_,rfl⟩
   have AT1:=Lib.hid (fun (W:World) (hW:Below w.heap.size w W)=>AT.out W hW k)
   have AT3:=Lib.hid (fun (W:World) (hW:Below w.heap.size w W)=>AT2.out W hW k)
   rw [hx] at hd1 hw AT1
   rw [hy] at hd2 hw AT3
   obtain ⟨q,hq⟩:∃q,(x+y*4294967296) / 2 ^ r=q:=⟨_,rfl⟩
   have hql:q<18446744073709551616:=by rw [← hq];exact Nat.lt_of_le_of_lt (Nat.div_le_self _ _) (by omega)
   rw [hq] at hw
   obtain ⟨d,hd⟩:∃d,q%4294967296=d:=⟨_,rfl⟩
   rw [hd] at hw
   have e1:((x:Int)+y*4294967296) / 2 ^ r=(q:Int):=by rw [← hq];simp
   have e2:(q:Int)%4294967296=(d:Int):=by omega
   have hdl:d<4294967296:=by omega
   obtain ⟨hO,hlo,hI2⟩:=hI.out
   have hb0:Below wr.heap.size wr (wr.alloc (.cells #[.int .u32 (d:Nat)] 123)):=(Below.refl _ _).alloc (Nat.le_refl _) _
   have hb1:=hBB.trans (hb0.mono hBB.size)
   have hO1:=Lib.hid (hO.below hb0 (Nat.le_refl _))
   have hnews:∀j u,[Value.int .u32 (d:Nat)][j]?=some u→(wr.alloc (.cells #[.int .u32 (d:Nat)] 123)).cell? ((⟨wr.heap.size,0,none⟩:Addr).add j)=some u:=by
    intro j u hj
    match j,hj with
    | 0,hj=>simp at hj;subst hj;simp [Addr.add]
   have hcl:∀u∈[Value.int .u32 (d:Nat)],u.oneCell'=true:=by intro u hu;simp at hu;subst hu;rfl
   have hmx:o.length+1≤maxLen:=by unfold maxLen;omega
   have hby2:(o.length+1)*4≤140737488355328:=by omega
   have hbs:w.heap.size≤(wr.alloc (.cells #[.int .u32 (d:Nat)] 123)).heap.size:=hb1.size
   have hst:=Lib.hid (And.intro hlo (And.intro hI2 hw))
   have tk1:Hid True:=trivial
   have tk2:Hid True:=trivial
   clear hO hI hq hd hw hlo hI2 hx hy
   go_wp2_with (first
    | (clear tk1;go_at_call 158;(with_reducible refine (AT1.out _ hBB).mono ?_);rintro e w1 ⟨rfl,rfl⟩)
    | (clear tk2;go_at_call 158;(with_reducible refine (AT3.out _ hBB).mono ?_);rintro e w1 ⟨rfl,rfl⟩)
    | (at_builtin;go_loud (refine wpList_append_lies _ rfl _ _ 28 rfl w.heap.size 123 i0 (.int .u32 0) 1 4 Tryz.underlying28 hi hz0 hz1 hz2 rfl (by decide) _ _ _ rfl hO1.out.1 ⟨wr.heap.size,0,none⟩ 1 1 [.int .u32 (d:Nat)] rfl rfl hnews hcl (by decide) hmx hby2 hbs _ rfl ?_;intro g cap w1 hown' hgrow _ hlt;have hP:=Lib.hid (hO1.out.pushed hdl hown' hgrow hbs);clear hown' hgrow))
    | fail "no arm")
   refine ⟨⟨k+1,o++[d],by omega,by go_num,hb1.trans (hP.out.2.mono (Nat.le_refl _)),Lib.hid ⟨hP.out.1,by rw [List.length_append,hst.out.1];rfl,?_⟩⟩,?_⟩
   ·rw [zau,List.length_append,hst.out.2.1,hst.out.2.2]
    exact zre V _
   ·simp only [intOf]
    omega
  ·have hfin:Hid (nval o=V):=by
    obtain ⟨hO,hlo,hI2⟩:=hI.out
    rw [hI2]
    exact Lib.hid (Nat.mod_eq_of_lt (Nat.lt_of_lt_of_le HE.out (Nat.pow_le_pow_right (by omega) (by omega))))
   obtain ⟨A4,c4,rfl,hs4,hfr⟩:=hI.out.1.sl
   replace hfr:=Lib.hid hfr
   go_wp2_with (first
    | (go_at_call 107;(with_reducible refine (zah (v:=V) hs4 hfin.out).mono ?_);rintro e w2 ⟨n',rfl,hs5,rfl⟩)
    | fail "no arm")
   go_ret
   exact ⟨_,_,_,rfl,hs5,hBB,hfr.out⟩
theorem zz {w:World} {A:Option Addr} {n c:Nat} {l:List Nat} (neg:Bool) (h:Sl w w.heap.size A n c l) (b:Bool) (hb:zw neg l=b) (W:World) (hW:Below w.heap.size w W) :
  Calls Tryz.prog 75 #[.agg #[.bool neg,.slice A n c]] W fun e w'=>e=.returned (.bool b)∧Below W.heap.size W w':=by
 subst hb
 exact zch neg A n c w.heap.size l W (h.below hW).1 hW.size h.2.1
theorem zm6 (neg neg2:Bool) {A A2:Option Addr} {n n2 c c2 B:Nat} {l:List Nat} {w:World} (h:Sl w B A n c l) (hB:B≤w.heap.size) (h1:zw neg l=false) :
  Calls Tryz.prog 112 #[.agg #[.bool neg,.slice A n c],.agg #[.bool neg2,.slice A2 n2 c2]] w (RetN none w):=by
 have R1:=Lib.hid (zz neg (h.more hB) false h1)
 have s0:=Sm.start (w:=w) (neg:=neg) (A:=A) (n:=n) (c:=c) (neg2:=neg2) (A2:=A2) (n2:=n2) (c2:=c2)
 clear h h1
 go_enter Tryz.func112,Tryz.ntmps112
 go_wp2_with (go_at_call 75;refine (R1.out _ s0.below).mono ?_;rintro e w1 ⟨rfl,hb⟩;have s1:=s0.via hb;obtain ⟨a0,a1,b0,b1,r0,r1,rf,rz⟩:=s1.facts)
 obtain ⟨q0,q1⟩:=zJ (.bool false) (.slice none 0 0) r0 r1
 refine bodyPost_ret (v:=.tuple #[.agg #[.bool false,.slice none 0 0],.bool false]) ?_ rfl ⟨_,_,_,rfl,by rw [show digs (vO none).natAbs=[] from zx];exact Sl.none_,?_⟩
 ·simp [results,Tryz.f112,go_sem,q0,q1]
 ·exact (s1.below.setCell (by simp;omega) _).setCell (by simp;omega) _
theorem zm7 (neg neg2:Bool) {A A2:Option Addr} {n n2 c c2 B:Nat} {l m:List Nat} {w:World} (h:Sl w B A n c l) (h2:Sl w B A2 n2 c2 m) (hB:B≤w.heap.size) (h1:zw neg l=true) (k1:zw neg2 m=false) :
  Calls Tryz.prog 112 #[.agg #[.bool neg,.slice A n c],.agg #[.bool neg2,.slice A2 n2 c2]] w (RetN none w):=by
 have R1:=Lib.hid (zz neg (h.more hB) true h1)
 have R2:=Lib.hid (zz neg2 (h2.more hB) false k1)
 have s0:=Sm.start (w:=w) (neg:=neg) (A:=A) (n:=n) (c:=c) (neg2:=neg2) (A2:=A2) (n2:=n2) (c2:=c2)
 clear h h1 h2 k1
 go_enter Tryz.func112,Tryz.ntmps112
 go_wp2_with (first
  | (go_at_call 75;(with_reducible refine (R1.out _ s0.below).mono ?_);rintro e w1 ⟨rfl,hb⟩;have s1:=s0.via hb;obtain ⟨a0,a1,b0,b1,r0,r1,rf,rz⟩:=s1.facts)
  | (go_at_call 75;(with_reducible refine (R2.out _ s1.below).mono ?_);rintro e w2 ⟨rfl,hb⟩;have s2:=s1.via hb;clear a0 a1 b0 b1 r0 r1 rf rz;obtain ⟨a0,a1,b0,b1,r0,r1,rf,rz⟩:=s2.facts)
  | fail "no arm")
 obtain ⟨q0,q1⟩:=zJ (.bool false) (.slice none 0 0) r0 r1
 refine bodyPost_ret (v:=.tuple #[.agg #[.bool false,.slice none 0 0],.bool false]) ?_ rfl ⟨_,_,_,rfl,by rw [show digs (vO none).natAbs=[] from zx];exact Sl.none_,?_⟩
 ·simp [results,Tryz.f112,go_sem,q0,q1]
 ·exact (s2.below.setCell (by simp;omega) _).setCell (by simp;omega) _
theorem zm8 (neg neg2:Bool) {A A2:Option Addr} {n n2 c c2 B:Nat} {l m:List Nat} {w:World} (h:Sl w B A n c l) (h2:Sl w B A2 n2 c2 m) (hB:B≤w.heap.size) (h1:zw neg l=true) (k1:zw neg2 m=true) :
  Calls Tryz.prog 112 #[.agg #[.bool neg,.slice A n c],.agg #[.bool neg2,.slice A2 n2 c2]] w (RetN (fitO (sgn neg (nval l)*sgn neg2 (nval m))) w):=by
 have R1:=Lib.hid (zz neg (h.more hB) true h1)
 have R2:=Lib.hid (zz neg2 (h2.more hB) true k1)
 have hn:=(zC h1 h.dig).2.1
 have hn2:=(zC k1 h2.dig).2.1
 rw [h.len] at hn
 rw [h2.len] at hn2
 have TI:=Lib.hid (fun (W:World) (hW:Below w.heap.size w W)=>zci _ _ _ _ _ _ _ _ _ W ((h.more hB).below hW) ((h2.more hB).below hW) hW.size (by omega) (by omega))
 have s0:=Sm.start (w:=w) (neg:=neg) (A:=A) (n:=n) (c:=c) (neg2:=neg2) (A2:=A2) (n2:=n2) (c2:=c2)
 rw [zuA]
 clear h h1 h2 k1
 go_enter Tryz.func112,Tryz.ntmps112
 go_wp2_with (first
  | (go_at_call 75;(with_reducible refine (R1.out _ s0.below).mono ?_);rintro e w1 ⟨rfl,hb⟩;have s1:=s0.via hb;obtain ⟨a0,a1,b0,b1,r0,r1,rf,rz⟩:=s1.facts)
  | (go_at_call 75;(with_reducible refine (R2.out _ s1.below).mono ?_);rintro e w2 ⟨rfl,hb⟩;have s2:=s1.via hb;clear a0 a1 b0 b1 r0 r1 rf rz;obtain ⟨a0,a1,b0,b1,r0,r1,rf,rz⟩:=s2.facts)
  | fail "no arm")
 go_region_held3 (fun W=>W.cell? ⟨w.heap.size,0,none⟩=some (.bool neg)∧W.cell? ⟨w.heap.size,1,none⟩=some (.slice A n c)∧W.cell? ⟨w.heap.size+1,0,none⟩=some (.bool neg2)∧W.cell? ⟨w.heap.size+1,1,none⟩=some (.slice A2 n2 c2))
  (first | exact ⟨a0,a1,b0,b1⟩ | exact ⟨s5.facts.1,s5.facts.2.1,s5.facts.2.2.1,s5.facts.2.2.2.1⟩ | exact ⟨s6.facts.1,s6.facts.2.1,s6.facts.2.2.1,s6.facts.2.2.2.1⟩ | (simp [go_sem];exact ⟨a0,a1,b0,b1⟩))
  (first
   | (go_at_call 141;(with_reducible refine (TI.out _ s2.drew.below).mono ?_);rintro e w4 ⟨A3,n3,c3,rfl,hs3,hb4⟩;have s5:=s2.drew.via hb4)
   | (go_at_call 90;(with_reducible refine (qd A3 n3 c3 w4.heap.size _ (!(neg == neg2)) _ w4 hs3 (Nat.le_refl _) (zn _)).mono ?_);rintro e w5 ⟨A4,n4,c4,rfl,hs4,hb5⟩;have s6:=s5.via hb5;clear a0 a1 b0 b1 r0 r1 rf rz;obtain ⟨a0,a1,b0,b1,r0,r1,rf,rz⟩:=s6.facts)
   | fail "no arm")
 all_goals
  go_wp2_with fail
  obtain ⟨q0,q1⟩:=zJ (.bool (ngO (fitO (sgn (!(neg == neg2)) (nval l*nval m))))) (.slice A4 n4 c4) r0 r1
  refine bodyPost_ret (v:=.tuple #[.agg #[.bool (ngO (fitO (sgn (!(neg == neg2)) (nval l*nval m)))),.slice A4 n4 c4],.bool (okO (fitO (sgn (!(neg == neg2)) (nval l*nval m))))]) ?_ rfl ⟨_,_,_,rfl,?_,?_⟩
  ·simp [results,Tryz.f112,go_sem,q0,q1]
  ·exact hs4.stored r0 r1 _ _
  ·exact (s6.below.setCell (by simp;omega) _).setCell (by simp;omega) _
theorem zm5 (neg neg2:Bool) {A A2:Option Addr} {n n2 c c2 B:Nat} {l m:List Nat} {w:World} (h:Sl w B A n c l) (h2:Sl w B A2 n2 c2 m) (hB:B≤w.heap.size) :
  Calls Tryz.prog 112 #[.agg #[.bool neg,.slice A n c],.agg #[.bool neg2,.slice A2 n2 c2]] w (RetN (mulS neg l neg2 m) w):=by
 cases h1:zw neg l with
 | false=>rw [show mulS neg l neg2 m=none by unfold mulS;rw [if_neg (by rw [h1];simp)]];exact zm6 neg neg2 h hB h1
 | true =>
  cases k1:zw neg2 m with
  | false=>rw [show mulS neg l neg2 m=none by unfold mulS;rw [if_neg (by rw [k1];simp)]];exact zm7 neg neg2 h h2 hB h1 k1
  | true =>
   rw [show mulS neg l neg2 m=fitO (sgn neg (nval l)*sgn neg2 (nval m)) by unfold mulS;rw [if_pos ⟨h1,k1⟩]]
   exact zm8 neg neg2 h h2 hB h1 k1
theorem zmR (neg neg2:Bool) {A A2:Option Addr} {n n2 c c2 B:Nat} {l:List Nat} {w:World} (h:Sl w B A n c l) (hB:B≤w.heap.size) (h1:zw neg l=false) :
  Calls Tryz.prog 113 #[.agg #[.bool neg,.slice A n c],.agg #[.bool neg2,.slice A2 n2 c2]] w (RetN none w):=by
 have R1:=Lib.hid (zz neg (h.more hB) false h1)
 have s0:=Sm.start (w:=w) (neg:=neg) (A:=A) (n:=n) (c:=c) (neg2:=neg2) (A2:=A2) (n2:=n2) (c2:=c2)
 clear h h1
 go_enter Tryz.func113,Tryz.ntmps113
 go_wp2_with (go_at_call 75;refine (R1.out _ s0.below).mono ?_;rintro e w1 ⟨rfl,hb⟩;have s1:=s0.via hb;obtain ⟨a0,a1,b0,b1,r0,r1,rf,rz⟩:=s1.facts)
 obtain ⟨q0,q1⟩:=zJ (.bool false) (.slice none 0 0) r0 r1
 refine bodyPost_ret (v:=.tuple #[.agg #[.bool false,.slice none 0 0],.bool false]) ?_ rfl ⟨_,_,_,rfl,by rw [show digs (vO none).natAbs=[] from zx];exact Sl.none_,?_⟩
 ·simp [results,Tryz.f113,go_sem,q0,q1]
 ·exact (s1.below.setCell (by simp;omega) _).setCell (by simp;omega) _
theorem zmS (neg neg2:Bool) {A A2:Option Addr} {n n2 c c2 B:Nat} {l m:List Nat} {w:World} (h:Sl w B A n c l) (h2:Sl w B A2 n2 c2 m) (hB:B≤w.heap.size) (h1:zw neg l=true) (k1:zw neg2 m=false) :
  Calls Tryz.prog 113 #[.agg #[.bool neg,.slice A n c],.agg #[.bool neg2,.slice A2 n2 c2]] w (RetN none w):=by
 have R1:=Lib.hid (zz neg (h.more hB) true h1)
 have R2:=Lib.hid (zz neg2 (h2.more hB) false k1)
 have s0:=Sm.start (w:=w) (neg:=neg) (A:=A) (n:=n) (c:=c) (neg2:=neg2) (A2:=A2) (n2:=n2) (c2:=c2)
 clear h h1 h2 k1
 go_enter Tryz.func113,Tryz.ntmps113
 go_wp2_with (first
  | (go_at_call 75;(with_reducible refine (R1.out _ s0.below).mono ?_);rintro e w1 ⟨rfl,hb⟩;have s1:=s0.via hb;obtain ⟨a0,a1,b0,b1,r0,r1,rf,rz⟩:=s1.facts)
  | (go_at_call 75;(with_reducible refine (R2.out _ s1.below).mono ?_);rintro e w2 ⟨rfl,hb⟩;have s2:=s1.via hb;clear a0 a1 b0 b1 r0 r1 rf rz;obtain ⟨a0,a1,b0,b1,r0,r1,rf,rz⟩:=s2.facts)
  | fail "no arm")
 obtain ⟨q0,q1⟩:=zJ (.bool false) (.slice none 0 0) r0 r1
 refine bodyPost_ret (v:=.tuple #[.agg #[.bool false,.slice none 0 0],.bool false]) ?_ rfl ⟨_,_,_,rfl,by rw [show digs (vO none).natAbs=[] from zx];exact Sl.none_,?_⟩
 ·simp [results,Tryz.f113,go_sem,q0,q1]
 ·exact (s2.below.setCell (by simp;omega) _).setCell (by simp;omega) _
theorem zkC (ng:Bool) {A A2:Option Addr} {n n2 c c2 B:Nat} {l m:List Nat} {w:World} (h:Sl w B A n c l) (h2:Sl w B A2 n2 c2 m) (hB:B≤w.heap.size) (h1:zw ng l=true) (k1:zw ng m=true) :
  Calls Tryz.prog 113 #[.agg #[.bool ng,.slice A n c],.agg #[.bool ng,.slice A2 n2 c2]] w (RetN (fitO (sgn ng (nval l)+sgn ng (nval m))) w):=by
 have R1:=Lib.hid (zz ng (h.more hB) true h1)
 have R2:=Lib.hid (zz ng (h2.more hB) true k1)
 have hn:=(zC h1 h.dig).2.1
 have hn2:=(zC k1 h2.dig).2.1
 rw [h.len] at hn
 rw [h2.len] at hn2
 have PL:=Lib.hid (fun (W:World) (hW:Below w.heap.size w W)=>zbV A A2 n c n2 c2 w.heap.size l m W ((h.more hB).below hW) ((h2.more hB).below hW) hW.size (by omega) (by omega))
 have s0:=Sm.start (w:=w) (neg:=ng) (A:=A) (n:=n) (c:=c) (neg2:=ng) (A2:=A2) (n2:=n2) (c2:=c2)
 rw [zuz]
 clear h h1 h2 k1
 go_enter Tryz.func113,Tryz.ntmps113
 go_wp2_with (first
  | (go_at_call 75;(with_reducible refine (R1.out _ s0.below).mono ?_);rintro e w1 ⟨rfl,hb⟩;have s1:=s0.via hb;obtain ⟨a0,a1,b0,b1,r0,r1,rf,rz⟩:=s1.facts)
  | (go_at_call 75;(with_reducible refine (R2.out _ s1.below).mono ?_);rintro e w2 ⟨rfl,hb⟩;have s2:=s1.via hb;clear a0 a1 b0 b1 r0 r1 rf rz;obtain ⟨a0,a1,b0,b1,r0,r1,rf,rz⟩:=s2.facts)
  | fail "no arm")
 go_region_held3 (fun W=>W.cell? ⟨w.heap.size,0,none⟩=some (.bool ng)∧W.cell? ⟨w.heap.size,1,none⟩=some (.slice A n c)∧W.cell? ⟨w.heap.size+1,0,none⟩=some (.bool ng)∧W.cell? ⟨w.heap.size+1,1,none⟩=some (.slice A2 n2 c2))
  (first | exact ⟨a0,a1,b0,b1⟩ | exact ⟨s5.facts.1,s5.facts.2.1,s5.facts.2.2.1,s5.facts.2.2.2.1⟩ | exact ⟨s6.facts.1,s6.facts.2.1,s6.facts.2.2.1,s6.facts.2.2.2.1⟩ | (simp [go_sem];exact ⟨a0,a1,b0,b1⟩))
  (first
   | (go_at_call 140;(with_reducible refine (PL.out _ s2.drew.below).mono ?_);rintro e w4 ⟨A3,n3,c3,rfl,hs3,hb4⟩;have s5:=s2.drew.via hb4)
   | (go_at_call 90;(with_reducible refine (qd A3 n3 c3 w4.heap.size _ ng _ w4 hs3 (Nat.le_refl _) (zn _)).mono ?_);rintro e w5 ⟨A4,n4,c4,rfl,hs4,hb5⟩;have s6:=s5.via hb5;clear a0 a1 b0 b1 r0 r1 rf rz;obtain ⟨a0,a1,b0,b1,r0,r1,rf,rz⟩:=s6.facts)
   | fail "no arm")
 all_goals
  go_wp2_with fail
  obtain ⟨q0,q1⟩:=zJ (.bool (ngO (fitO (sgn ng (nval l+nval m))))) (.slice A4 n4 c4) r0 r1
  refine bodyPost_ret (v:=.tuple #[.agg #[.bool (ngO (fitO (sgn ng (nval l+nval m)))),.slice A4 n4 c4],.bool (okO (fitO (sgn ng (nval l+nval m))))]) ?_ rfl ⟨_,_,_,rfl,?_,?_⟩
  ·simp [results,Tryz.f113,go_sem,q0,q1]
  ·exact hs4.stored r0 r1 _ _
  ·exact (s6.below.setCell (by simp;omega) _).setCell (by simp;omega) _
theorem ziw (ng:Bool) {A A2:Option Addr} {n n2 c c2 B:Nat} {l m:List Nat} {w:World} (h:Sl w B A n c l) (h2:Sl w B A2 n2 c2 m) (hB:B≤w.heap.size) (h1:zw (!ng) l=true) (k1:zw ng m=true) (hlt:nval l<nval m) :
  Calls Tryz.prog 113 #[.agg #[.bool (!ng),.slice A n c],.agg #[.bool ng,.slice A2 n2 c2]] w (RetN (fitO (sgn (!ng) (nval l)+sgn ng (nval m))) w):=by
 have R1:=Lib.hid (zz (!ng) (h.more hB) true h1)
 have R2:=Lib.hid (zz ng (h2.more hB) true k1)
 have hl:=zC h1 h.dig
 have hm:=zC k1 h2.dig
 have hn2:=hm.2.1
 rw [h2.len] at hn2
 have hnn:n≤n2:=by have:=zaJ hl.1 hm.1.1 (Nat.le_of_lt hlt);rwa [h.len,h2.len] at this
 have hq:(Value.bool ((!ng) == ng))=.bool false:=by cases ng<;>rfl
 have hq2:((!ng) == ng)=false:=by cases ng<;>rfl
 have hc:=zaZ hlt
 have CP:=Lib.hid (fun (W:World) (hW:Below w.heap.size w W)=>zad ((h.more hB).below hW) ((h2.more hB).below hW) hW.size hl.1 hm.1)
 have MI:=Lib.hid (fun (W:World) (hW:Below w.heap.size w W)=>zcg _ _ _ _ _ _ _ _ _ W ((h2.more hB).below hW) ((h.more hB).below hW) hW.size (by omega) hnn (Nat.le_of_lt hlt))
 have s0:=Sm.start (w:=w) (neg:=!ng) (A:=A) (n:=n) (c:=c) (neg2:=ng) (A2:=A2) (n2:=n2) (c2:=c2)
 rw [zrO ng (Nat.le_of_lt hlt)]
 rw [hc] at CP
 clear h h1 h2 k1 hl hm hlt hc
 go_enter Tryz.func113,Tryz.ntmps113
 go_wp2_with (first
  | (go_at_call 75;(with_reducible refine (R1.out _ s0.below).mono ?_);rintro e w1 ⟨rfl,hb⟩;have s1:=s0.via hb;obtain ⟨a0,a1,b0,b1,r0,r1,rf,rz⟩:=s1.facts)
  | (go_at_call 75;(with_reducible refine (R2.out _ s1.below).mono ?_);rintro e w2 ⟨rfl,hb⟩;have s2:=s1.via hb;clear a0 a1 b0 b1 r0 r1 rf rz;obtain ⟨a0,a1,b0,b1,r0,r1,rf,rz⟩:=s2.facts)
  | (go_at_call 105;(with_reducible refine (CP.out _ s2.below).mono ?_);rintro e w3 ⟨rfl,hb3⟩;replace s2:=s2.via hb3;clear a0 a1 b0 b1 r0 r1 rf rz;obtain ⟨a0,a1,b0,b1,r0,r1,rf,rz⟩:=s2.facts)
  | fail "no arm")
 go_region_held3 (fun W=>W.cell? ⟨w.heap.size,0,none⟩=some (.bool (!ng))∧W.cell? ⟨w.heap.size,1,none⟩=some (.slice A n c)∧W.cell? ⟨w.heap.size+1,0,none⟩=some (.bool ng)∧W.cell? ⟨w.heap.size+1,1,none⟩=some (.slice A2 n2 c2))
  (first | exact ⟨a0,a1,b0,b1⟩ | exact ⟨s5.facts.1,s5.facts.2.1,s5.facts.2.2.1,s5.facts.2.2.2.1⟩ | exact ⟨s6.facts.1,s6.facts.2.1,s6.facts.2.2.1,s6.facts.2.2.2.1⟩ | (simp [go_sem];exact ⟨a0,a1,b0,b1⟩))
  (first
   | (go_at_call 134;(with_reducible refine (MI.out _ s2.drew.below).mono ?_);rintro e w4 ⟨A3,n3,c3,rfl,hs3,hb4⟩;have s5:=s2.drew.via hb4)
   | (go_at_call 90;(with_reducible refine (qd A3 n3 c3 w4.heap.size _ ng _ w4 hs3 (Nat.le_refl _) (zn _)).mono ?_);rintro e w5 ⟨A4,n4,c4,rfl,hs4,hb5⟩;have s6:=s5.via hb5;clear a0 a1 b0 b1 r0 r1 rf rz;obtain ⟨a0,a1,b0,b1,r0,r1,rf,rz⟩:=s6.facts)
   | fail "no arm")
 all_goals
  go_wp2_with fail
  obtain ⟨q0,q1⟩:=zJ (.bool (ngO (fitO (sgn ng (nval m - nval l))))) (.slice A4 n4 c4) r0 r1
  refine bodyPost_ret (v:=.tuple #[.agg #[.bool (ngO (fitO (sgn ng (nval m - nval l)))),.slice A4 n4 c4],.bool (okO (fitO (sgn ng (nval m - nval l))))]) ?_ rfl ⟨_,_,_,rfl,?_,?_⟩
  ·simp [results,Tryz.f113,go_sem,q0,q1]
  ·exact hs4.stored r0 r1 _ _
  ·exact (s6.below.setCell (by simp;omega) _).setCell (by simp;omega) _
theorem zix (ng:Bool) {A A2:Option Addr} {n n2 c c2 B:Nat} {l m:List Nat} {w:World} (h:Sl w B A n c l) (h2:Sl w B A2 n2 c2 m) (hB:B≤w.heap.size) (h1:zw (!ng) l=true) (k1:zw ng m=true) (hge:nval m≤nval l) :
  Calls Tryz.prog 113 #[.agg #[.bool (!ng),.slice A n c],.agg #[.bool ng,.slice A2 n2 c2]] w (RetN (fitO (sgn (!ng) (nval l)+sgn ng (nval m))) w):=by
 have R1:=Lib.hid (zz (!ng) (h.more hB) true h1)
 have R2:=Lib.hid (zz ng (h2.more hB) true k1)
 have hl:=zC h1 h.dig
 have hm:=zC k1 h2.dig
 have hn:=hl.2.1
 rw [h.len] at hn
 have hnn:n2≤n:=by have:=zaJ hm.1 hl.1.1 hge;rwa [h.len,h2.len] at this
 have hq:(Value.bool ((!ng) == ng))=.bool false:=by cases ng<;>rfl
 have hq2:((!ng) == ng)=false:=by cases ng<;>rfl
 have hc:=zgw hge
 have CP:=Lib.hid (fun (W:World) (hW:Below w.heap.size w W)=>zad ((h.more hB).below hW) ((h2.more hB).below hW) hW.size hl.1 hm.1)
 have MI:=Lib.hid (fun (W:World) (hW:Below w.heap.size w W)=>zcg _ _ _ _ _ _ _ _ _ W ((h.more hB).below hW) ((h2.more hB).below hW) hW.size (by omega) hnn hge)
 have s0:=Sm.start (w:=w) (neg:=!ng) (A:=A) (n:=n) (c:=c) (neg2:=ng) (A2:=A2) (n2:=n2) (c2:=c2)
 have eg:=zuC (!ng) hge
 rw [Bool.not_not] at eg
 rw [eg]
 clear h h1 h2 k1 hl hm hge eg
 go_enter Tryz.func113,Tryz.ntmps113
 go_wp2_with (first
  | (go_at_call 75;(with_reducible refine (R1.out _ s0.below).mono ?_);rintro e w1 ⟨rfl,hb⟩;have s1:=s0.via hb;obtain ⟨a0,a1,b0,b1,r0,r1,rf,rz⟩:=s1.facts)
  | (go_at_call 75;(with_reducible refine (R2.out _ s1.below).mono ?_);rintro e w2 ⟨rfl,hb⟩;have s2:=s1.via hb;clear a0 a1 b0 b1 r0 r1 rf rz;obtain ⟨a0,a1,b0,b1,r0,r1,rf,rz⟩:=s2.facts)
  | (go_at_call 105;(with_reducible refine (CP.out _ s2.below).mono ?_);rintro e w3 ⟨rfl,hb3⟩;replace s2:=s2.via hb3;clear a0 a1 b0 b1 r0 r1 rf rz;obtain ⟨a0,a1,b0,b1,r0,r1,rf,rz⟩:=s2.facts)
  | fail "no arm")
 go_region_held3 (fun W=>W.cell? ⟨w.heap.size,0,none⟩=some (.bool (!ng))∧W.cell? ⟨w.heap.size,1,none⟩=some (.slice A n c)∧W.cell? ⟨w.heap.size+1,0,none⟩=some (.bool ng)∧W.cell? ⟨w.heap.size+1,1,none⟩=some (.slice A2 n2 c2))
  (first | exact ⟨a0,a1,b0,b1⟩ | exact ⟨s5.facts.1,s5.facts.2.1,s5.facts.2.2.1,s5.facts.2.2.2.1⟩ | exact ⟨s6.facts.1,s6.facts.2.1,s6.facts.2.2.1,s6.facts.2.2.2.1⟩ | (simp [go_sem];exact ⟨a0,a1,b0,b1⟩))
  (first
   | (go_at_call 134;(with_reducible refine (MI.out _ s2.drew.below).mono ?_);rintro e w4 ⟨A3,n3,c3,rfl,hs3,hb4⟩;have s5:=s2.drew.via hb4)
   | (go_at_call 90;(with_reducible refine (qd A3 n3 c3 w4.heap.size _ (!ng) _ w4 hs3 (Nat.le_refl _) (zn _)).mono ?_);rintro e w5 ⟨A4,n4,c4,rfl,hs4,hb5⟩;have s6:=s5.via hb5;clear a0 a1 b0 b1 r0 r1 rf rz;obtain ⟨a0,a1,b0,b1,r0,r1,rf,rz⟩:=s6.facts)
   | fail "no arm")
 all_goals
  go_wp2_with fail
  obtain ⟨q0,q1⟩:=zJ (.bool (ngO (fitO (sgn (!ng) (nval l - nval m))))) (.slice A4 n4 c4) r0 r1
  refine bodyPost_ret (v:=.tuple #[.agg #[.bool (ngO (fitO (sgn (!ng) (nval l - nval m)))),.slice A4 n4 c4],.bool (okO (fitO (sgn (!ng) (nval l - nval m))))]) ?_ rfl ⟨_,_,_,rfl,?_,?_⟩
  ·simp [results,Tryz.f113,go_sem,q0,q1]
  ·exact hs4.stored r0 r1 _ _
  ·exact (s6.below.setCell (by simp;omega) _).setCell (by simp;omega) _
theorem zf6 (neg neg2:Bool) {A A2:Option Addr} {n n2 c c2 B:Nat} {l m:List Nat} {w:World} (h:Sl w B A n c l) (h2:Sl w B A2 n2 c2 m) (hB:B≤w.heap.size) :
  Calls Tryz.prog 113 #[.agg #[.bool neg,.slice A n c],.agg #[.bool neg2,.slice A2 n2 c2]] w (RetN (sumS neg l neg2 m neg2) w):=by
 cases h1:zw neg l with
 | false=>rw [show sumS neg l neg2 m neg2=none by unfold sumS;rw [if_neg (by rw [h1];simp)]];exact zmR neg neg2 h hB h1
 | true =>
  cases k1:zw neg2 m with
  | false=>rw [show sumS neg l neg2 m neg2=none by unfold sumS;rw [if_neg (by rw [k1];simp)]];exact zmS neg neg2 h h2 hB h1 k1
  | true =>
   rw [show sumS neg l neg2 m neg2=fitO (sgn neg (nval l)+sgn neg2 (nval m)) by unfold sumS;rw [if_pos ⟨h1,k1⟩]]
   by_cases hq:neg=neg2
   ·subst hq;exact zkC neg h h2 hB h1 k1
   ·obtain rfl:neg=!neg2:=by revert hq;cases neg<;>cases neg2<;>simp
    rcases Nat.lt_or_ge (nval l) (nval m) with hv | hv
    ·exact ziw neg2 h h2 hB h1 k1 hv
    ·exact zix neg2 h h2 hB h1 k1 hv
theorem zoj (a b:Nat):cmpv b a=-cmpv a b:=by (unfold cmpv;repeat' split);all_goals omega
theorem zmU (neg neg2:Bool) {A A2:Option Addr} {n n2 c c2 B:Nat} {l:List Nat} {w:World} (h:Sl w B A n c l) (hB:B≤w.heap.size) (h1:zw neg l=false) :
  Calls Tryz.prog 76 #[.agg #[.bool neg,.slice A n c],.agg #[.bool neg2,.slice A2 n2 c2]] w fun e w'=>e=.returned (.int .i64 0)∧Below w.heap.size w w':=by
 have R1:=Lib.hid (zz neg (h.more hB) false h1)
 have s0:=S2.start (w:=w) (neg:=neg) (A:=A) (n:=n) (c:=c) (neg2:=neg2) (A2:=A2) (n2:=n2) (c2:=c2)
 clear h h1
 go_enter Tryz.func76,Tryz.ntmps76
 go_wp2_with (go_at_call 75;refine (R1.out _ s0.below).mono ?_;rintro e w1 ⟨rfl,hb⟩;have s1:=s0.via hb;obtain ⟨a0,a1,b0,b1⟩:=s1.facts)
 go_ret
 exact ⟨rfl,s1.below⟩
theorem zmV (neg neg2:Bool) {A A2:Option Addr} {n n2 c c2 B:Nat} {l m:List Nat} {w:World} (h:Sl w B A n c l) (h2:Sl w B A2 n2 c2 m) (hB:B≤w.heap.size) (h1:zw neg l=true) (k1:zw neg2 m=false) :
  Calls Tryz.prog 76 #[.agg #[.bool neg,.slice A n c],.agg #[.bool neg2,.slice A2 n2 c2]] w fun e w'=>e=.returned (.int .i64 0)∧Below w.heap.size w w':=by
 have R1:=Lib.hid (zz neg (h.more hB) true h1)
 have R2:=Lib.hid (zz neg2 (h2.more hB) false k1)
 have s0:=S2.start (w:=w) (neg:=neg) (A:=A) (n:=n) (c:=c) (neg2:=neg2) (A2:=A2) (n2:=n2) (c2:=c2)
 clear h h1 h2 k1
 go_enter Tryz.func76,Tryz.ntmps76
 go_wp2_with (first
  | (go_at_call 75;(with_reducible refine (R1.out _ s0.below).mono ?_);rintro e w1 ⟨rfl,hb⟩;have s1:=s0.via hb;obtain ⟨a0,a1,b0,b1⟩:=s1.facts)
  | (go_at_call 75;(with_reducible refine (R2.out _ s1.below).mono ?_);rintro e w2 ⟨rfl,hb⟩;have s2:=s1.via hb;clear a0 a1 b0 b1;obtain ⟨a0,a1,b0,b1⟩:=s2.facts)
  | fail "no arm")
 go_ret
 exact ⟨rfl,s2.below⟩
theorem zmW (neg neg2:Bool) {A A2:Option Addr} {n n2 c c2 B:Nat} {l m:List Nat} {w:World} (h:Sl w B A n c l) (h2:Sl w B A2 n2 c2 m) (hB:B≤w.heap.size) (h1:zw neg l=true) (k1:zw neg2 m=true) :
  Calls Tryz.prog 76 #[.agg #[.bool neg,.slice A n c],.agg #[.bool neg2,.slice A2 n2 c2]] w fun e w'=>e=.returned (.int .i64 (cmpB neg neg2 (cmpv (nval l) (nval m))))∧Below w.heap.size w w':=by
 have R1:=Lib.hid (zz neg (h.more hB) true h1)
 have R2:=Lib.hid (zz neg2 (h2.more hB) true k1)
 have hl:=zC h1 h.dig
 have hm:=zC k1 h2.dig
 have CP:=Lib.hid (fun (W:World) (hW:Below w.heap.size w W)=>zad ((h.more hB).below hW) ((h2.more hB).below hW) hW.size hl.1 hm.1)
 have CQ:=Lib.hid (fun (W:World) (hW:Below w.heap.size w W)=>zad ((h2.more hB).below hW) ((h.more hB).below hW) hW.size hm.1 hl.1)
 rw [zoj] at CQ
 have s0:=S2.start (w:=w) (neg:=neg) (A:=A) (n:=n) (c:=c) (neg2:=neg2) (A2:=A2) (n2:=n2) (c2:=c2)
 obtain ⟨o,ho⟩:∃o,cmpv (nval l) (nval m)=o:=⟨_,rfl⟩
 obtain ⟨o1,o2⟩:=zsH (nval l) (nval m)
 rw [ho] at CP CQ o1 o2 ⊢
 have hw:IntKind.i64.wrap (-o)=-o:=by rw [IntKind.wrap_i64];omega
 clear h h1 h2 k1 hl hm ho
 cases neg<;>cases neg2
 all_goals
  go_enter Tryz.func76,Tryz.ntmps76
  go_wp2_with (first
   | (go_at_call 75;(with_reducible refine (R1.out _ s0.below).mono ?_);rintro e w1 ⟨rfl,hb⟩;have s1:=s0.via hb;obtain ⟨a0,a1,b0,b1⟩:=s1.facts)
   | (go_at_call 75;(with_reducible refine (R2.out _ s1.below).mono ?_);rintro e w2 ⟨rfl,hb⟩;have s2:=s1.via hb;clear a0 a1 b0 b1;obtain ⟨a0,a1,b0,b1⟩:=s2.facts)
   | (go_at_call 105;(with_reducible refine (CP.out _ s2.below).mono ?_);rintro e w3 ⟨rfl,hb⟩;have s3:=s2.via hb;clear a0 a1 b0 b1;obtain ⟨a0,a1,b0,b1⟩:=s3.facts)
   | (go_at_call 105;(with_reducible refine (CQ.out _ s2.below).mono ?_);rintro e w3 ⟨rfl,hb⟩;have s3:=s2.via hb;clear a0 a1 b0 b1;obtain ⟨a0,a1,b0,b1⟩:=s3.facts)
   | fail "no arm")
  go_ret
  first
   | exact ⟨by simp [cmpB],s3.below⟩
   | exact ⟨by simp [cmpB],s2.below⟩
theorem zmT (neg neg2:Bool) {A A2:Option Addr} {n n2 c c2 B:Nat} {l m:List Nat} {w:World} (h:Sl w B A n c l) (h2:Sl w B A2 n2 c2 m) (hB:B≤w.heap.size) :
  Calls Tryz.prog 76 #[.agg #[.bool neg,.slice A n c],.agg #[.bool neg2,.slice A2 n2 c2]] w fun e w'=>e=.returned (.int .i64 (cmpS neg l neg2 m))∧Below w.heap.size w w':=by
 cases h1:zw neg l with
 | false=>rw [show cmpS neg l neg2 m=0 by unfold cmpS;rw [if_neg (by rw [h1];simp)]];exact zmU neg neg2 h hB h1
 | true =>
  cases k1:zw neg2 m with
  | false=>rw [show cmpS neg l neg2 m=0 by unfold cmpS;rw [if_neg (by rw [k1];simp)]];exact zmV neg neg2 h h2 hB h1 k1
  | true =>
   have hp:∀{b:Bool} {k:List Nat},zw b k=true→Dig k→b=true→0<nval k:=fun {b k} hr hd hb=>by
    rcases Nat.eq_zero_or_pos (nval k) with h0 | h0
    ·have:=(zC hr hd).2.2 (qD (zC hr hd).1 h0);rw [hb] at this;cases this
    ·exact h0
   rw [show cmpS neg l neg2 m=cmpB neg neg2 (cmpv (nval l) (nval m)) by unfold cmpS;rw [if_pos ⟨h1,k1⟩,zoi (hp h1 h.dig) (hp k1 h2.dig)]]
   exact zmW neg neg2 h h2 hB h1 k1
theorem zkt (neg:Bool) (A:Option Addr) (n c:Nat) (g:Bool) (w:World) (hg:(!neg && decide ((0:Int)<n))=g) :
  Calls Tryz.prog 163 #[.agg #[.bool neg,.slice A n c]] w fun e w'=>e=.returned (.agg #[.bool g,.slice A n c])∧Below w.heap.size w w':=by
 subst hg
 have hA0:(w.alloc (.cells #[.bool neg,.slice A n c] 30)).heap.size=w.heap.size+1:=by simp
 cases neg
 ·by_cases hn:(0:Int)<n
  ·go_enter Tryz.func163,Tryz.ntmps163
   go_wp2_with fail
   refine bodyPost_ret (v:=.agg #[.bool true,.slice A n c]) ?_ rfl ⟨?_,?_⟩
   ·simp [results,Tryz.f163,go_sem]
    omega
   ·simp
    omega
   ·go_grown
  ·go_enter Tryz.func163,Tryz.ntmps163
   go_wp2_with fail
   refine bodyPost_ret (v:=.agg #[.bool false,.slice A n c]) ?_ rfl ⟨?_,?_⟩
   ·simp [results,Tryz.f163,go_sem]
    omega
   ·simp
    omega
   ·go_grown
 ·go_enter Tryz.func163,Tryz.ntmps163
  go_wp2_with fail
  refine bodyPost_ret (v:=.agg #[.bool false,.slice A n c]) ?_ rfl ⟨?_,?_⟩
  ·simp [results,Tryz.f163,go_sem]
  ·simp
  ·go_grown
theorem zrZ (neg neg2:Bool) {l m:List Nat} {n:Nat} {g:Bool} (hm:zw neg2 m=true) (hn:m.length=n) (hg:(!neg2 && decide ((0:Int)<n))=g):sumS neg l g m g=sumS neg l neg2 m (!neg2):=by
 subst hg
 rcases Nat.eq_zero_or_pos n with h0 | h0
 ·obtain rfl:m=[]:=List.eq_nil_of_length_eq_zero (by omega)
  have h2:neg2=false:=by cases neg2<;>simp [zw] at hm ⊢
  subst h2
  have e:(!false && decide ((0:Int)<n))=false:=by simp;omega
  rw [e]
  unfold sumS
  rw [hm]
  simp [sgn,nval]
 ·have e:(!neg2 && decide ((0:Int)<n))=!neg2:=by simp;omega
  rw [e]
  have hr:zw (!neg2) m=true:=by
   have hne:m≠[]:=fun e=>by rw [e] at hn;simp at hn;omega
   have hemp:m.isEmpty=false:=by cases m<;>simp_all
   unfold zw at hm ⊢
   rw [hemp] at hm ⊢
   simpa using hm
  unfold sumS
  rw [hm,hr]
theorem zpu (neg neg2:Bool) {A A2:Option Addr} {n n2 c c2 B:Nat} {m:List Nat} {w:World} (h2:Sl w B A2 n2 c2 m) (hB:B≤w.heap.size) (k1:zw neg2 m=false) :
  Calls Tryz.prog 144 #[.agg #[.bool neg,.slice A n c],.agg #[.bool neg2,.slice A2 n2 c2]] w (RetN none w):=by
 have R1:=Lib.hid (zz neg2 (h2.more hB) false k1)
 have s0:=Sm.start (w:=w) (neg:=neg) (A:=A) (n:=n) (c:=c) (neg2:=neg2) (A2:=A2) (n2:=n2) (c2:=c2)
 clear h2 k1
 go_enter Tryz.func144,Tryz.ntmps144
 go_wp2_with (go_at_call 75;refine (R1.out _ s0.below).mono ?_;rintro e w1 ⟨rfl,hb⟩;have s1:=s0.via hb;obtain ⟨a0,a1,b0,b1,r0,r1,rf,rz⟩:=s1.facts)
 obtain ⟨q0,q1⟩:=zJ (.bool false) (.slice none 0 0) r0 r1
 refine bodyPost_ret (v:=.tuple #[.agg #[.bool false,.slice none 0 0],.bool false]) ?_ rfl ⟨_,_,_,rfl,by rw [show digs (vO none).natAbs=[] from zx];exact Sl.none_,?_⟩
 ·simp [results,Tryz.f144,go_sem,q0,q1]
 ·exact (s1.below.setCell (by simp;omega) _).setCell (by simp;omega) _
theorem znd (neg neg2:Bool) {A A2:Option Addr} {n n2 c c2 B:Nat} {l m:List Nat} {w:World} (h:Sl w B A n c l) (h2:Sl w B A2 n2 c2 m) (hB:B≤w.heap.size) :
  Calls Tryz.prog 144 #[.agg #[.bool neg,.slice A n c],.agg #[.bool neg2,.slice A2 n2 c2]] w (RetN (sumS neg l neg2 m (!neg2)) w):=by
 cases k1:zw neg2 m with
 | false=>rw [show sumS neg l neg2 m (!neg2)=none by unfold sumS;rw [if_neg (by rw [k1];simp)]];exact zpu neg neg2 h2 hB k1
 | true =>
  obtain ⟨g,hg⟩:∃g,(!neg2 && decide ((0:Int)<n2))=g:=⟨_,rfl⟩
  rw [← zrZ neg neg2 (l:=l) k1 h2.len hg]
  have R1:=Lib.hid (zz neg2 (h2.more hB) true k1)
  have NE:=Lib.hid (fun (W:World)=>zkt neg2 A2 n2 c2 g W hg)
  have AD:=Lib.hid (fun (W:World) (hW:Below w.heap.size w W)=>zf6 neg g ((h.more hB).below hW) ((h2.more hB).below hW) hW.size)
  have s0:=Sm.start (w:=w) (neg:=neg) (A:=A) (n:=n) (c:=c) (neg2:=neg2) (A2:=A2) (n2:=n2) (c2:=c2)
  obtain ⟨r,hr⟩:∃r,sumS neg l g m g=r:=⟨_,rfl⟩
  rw [hr] at AD ⊢
  clear h h2 k1 hg hr
  go_enter Tryz.func144,Tryz.ntmps144
  go_wp2_with (go_at_call 75;refine (R1.out _ s0.below).mono ?_;rintro e w1 ⟨rfl,hb⟩;have s1:=s0.via hb;obtain ⟨a0,a1,b0,b1,r0,r1,rf,rz⟩:=s1.facts)
  go_region_held3 (fun W=>W.cell? ⟨w.heap.size,0,none⟩=some (.bool neg)∧W.cell? ⟨w.heap.size,1,none⟩=some (.slice A n c)∧W.cell? ⟨w.heap.size+1,0,none⟩=some (.bool neg2)∧W.cell? ⟨w.heap.size+1,1,none⟩=some (.slice A2 n2 c2))
   (first | exact ⟨a0,a1,b0,b1⟩ | exact ⟨s5.facts.1,s5.facts.2.1,s5.facts.2.2.1,s5.facts.2.2.2.1⟩ | exact ⟨s6.facts.1,s6.facts.2.1,s6.facts.2.2.1,s6.facts.2.2.2.1⟩ | (simp [go_sem];exact ⟨a0,a1,b0,b1⟩))
   (first
    | (go_at_call 163;(with_reducible refine (NE.out _).mono ?_);rintro e w4 ⟨rfl,hb4⟩;have s5:=s1.drew.via hb4)
    | (go_at_call 113;(with_reducible refine (AD.out _ s5.below).mono ?_);rintro e w5 ⟨A4,n4,c4,rfl,hs4,hb5⟩;have s6:=s5.via hb5;clear a0 a1 b0 b1 r0 r1 rf rz;obtain ⟨a0,a1,b0,b1,r0,r1,rf,rz⟩:=s6.facts)
    | fail "no arm")
  all_goals
   go_wp2_with fail
   obtain ⟨q0,q1⟩:=zJ (.bool (ngO r)) (.slice A4 n4 c4) r0 r1
   refine bodyPost_ret (v:=.tuple #[.agg #[.bool (ngO r),.slice A4 n4 c4],.bool (okO r)]) ?_ rfl ⟨_,_,_,rfl,?_,?_⟩
   ·simp [results,Tryz.f144,go_sem,q0,q1]
   ·exact hs4.stored r0 r1 _ _
   ·exact (s6.below.setCell (by simp;omega) _).setCell (by simp;omega) _
end Go.Proofs.YtjcegdldgjphiaaGreatDoor
namespace Go.Proofs.YtjcegdldgjphiaaGreatDoor
open Go.RowKit Go.Shelf
theorem S2.drewN {w W:World} {neg neg2:Bool} {A A2:Option Addr} {n c n2 c2:Nat} (h:S2 w neg A n c neg2 A2 n2 c2 W) (k:Nat):S2 w neg A n c neg2 A2 n2 c2 (W.drewN k):=zX h k
end Go.Proofs.YtjcegdldgjphiaaGreatDoor
namespace Go.Proofs.YtjcegdldgjphiaaGreatDoor
open Go.RowKit Go.Shelf
def Rt (neg:Bool) (v:Nat):Prop:=(v=0→neg=false)∧v<big
section
variable {neg neg2 neg3 neg4:Bool} {v v2 v3 v4:Nat}
theorem Rt.sgn_neg (r:Rt neg v):decide (sgn neg v<0)=neg:=by
 rw [Go.Proofs.YtjcegdldgjphiaaGreatDoor.zpJ]
 cases neg with
 | false=>rfl
 | true =>
  have:v≠0:=fun h=>by have:=r.1 h;cases this
  simp [this]
theorem Rt.right (r:Rt neg v):zw neg (digs v)=true:=by
 have h:=zgc (x:=sgn neg v) (by rw [qA];exact r.2)
 rwa [r.sgn_neg,qA] at h
theorem Rt.fit (r:Rt neg v):fitO (sgn neg v)=some (sgn neg v):=by unfold fitO;rw [if_pos (by rw [qA];exact r.2)]
theorem Rt.small {v:Nat} (h:v≤18446744073709551616):Rt false v:=⟨fun _=>rfl,Nat.lt_of_le_of_lt h (by unfold big;exact Nat.lt_of_lt_of_le (m:=4294967296 ^ 3) (by decide) (Nat.pow_le_pow_right (by decide) (by decide)))⟩
theorem Rt.of (x:Int) (h:x.natAbs<big):Rt (decide (x<0)) x.natAbs:=⟨fun e=>by simp;omega,h⟩
theorem Rt.zero:Rt false 0:=Rt.small (by omega)
variable {A A2:Option Addr} {n n2 c c2:Nat} {W:World}
end
def NB (W:World) (b:Nat) (neg:Bool) (v:Nat):Prop:=∃A n c,W.cell? ⟨b,0,none⟩=some (.bool neg)∧W.cell? ⟨b,1,none⟩=some (.slice A n c)∧Sl W W.heap.size A n c (digs v)∧b<W.heap.size
theorem NB.via {W W1:World} {b:Nat} {neg:Bool} {v:Nat} (h:NB W b neg v) (hb:Below W.heap.size W W1):NB W1 b neg v:=by
 obtain ⟨A,n,c,h1,h2,h3,h4⟩:=h
 exact ⟨A,n,c,(hb.cell (p:=⟨b,0,none⟩) h4).trans h1,(hb.cell (p:=⟨b,1,none⟩) h4).trans h2,(h3.below hb).more hb.size,Nat.lt_of_lt_of_le h4 hb.size⟩
theorem NB.new {W:World} {neg:Bool} {v:Nat} {A:Option Addr} {n c:Nat} (h:Sl W W.heap.size A n c (digs v)) (T:TypeId):NB (W.alloc (.cells #[.bool neg,.slice A n c] T)) W.heap.size neg v:=
 ⟨A,n,c,by simp [go_sem],by simp [go_sem],h.alloc_ _,by simp⟩
theorem Sl.via {w w':World} {A:Option Addr} {n c:Nat} {l:List Nat} (h:Sl w w.heap.size A n c l) (hb:Below w.heap.size w w'):Sl w' w'.heap.size A n c l:=(h.below hb).more hb.size
end Go.Proofs.YtjcegdldgjphiaaGreatDoor
namespace Go.Proofs.YtjcegdldgjphiaaGreatDoor
end Go.Proofs.YtjcegdldgjphiaaGreatDoor
