/-
  Merged: NumFu, NumText, NumQw, NumW, NumX, NumY, NumZ, NumDa, NumGcd, NumParse, NumMade.
-/
import Derived.Test.YtjcegdldgjphiaaGreatDoorGlAL
import Derived.Test.YtjcegdldgjphiaaGreatDoorGlAI
import Derived.Lib.AppendIntMem
import Derived.Test.YtjcegdldgjphiaaGreatDoorGlAK
set_option linter.unusedSimpArgs false
set_option linter.unusedVariables false
set_option maxRecDepth 100000
set_option maxHeartbeats 6400000
namespace Go.Proofs.YtjcegdldgjphiaaGreatDoor
open Go.RowKit Go.Shelf
def zcb (n:Nat):Array Value:=Array.replicate n (.int .u8 0)
theorem zgH (w:World) (T:TypeId) (N nd:Nat) (hs:nd≤N):Sort.Holds (fun (b:UInt8)=>Value.int .u8 (b.toNat:Int)) (w.alloc (.cells (zcb N) T)) w.heap.size 0 (Array.replicate nd (0:UInt8)):=fun j hj=>by
 have hj':j<nd:=by simpa using hj
 refine ⟨?_,World.frozen?_alloc_new _ _ _ _⟩
 rw [World.cell?_alloc_new,zcb,Array.getElem?_replicate,if_pos (by omega),getElem!_pos _ j hj]
 simp
theorem zm7 (u : Nat) (hu64 : u < 18446744073709551616) (w : World) (htab : Lib.TabIs Tryz.prog w "internal/strconv.uint64pow10" .u64 Lib.pow10Tab) :
  Calls Tryz.prog 124 #[.int .u64 u,.int .i64 10] w fun e w'=>e=.returned (.string ⟨(Lib.decDigits u).toArray⟩)∧Below w.heap.size w w':=by
 obtain ⟨x,hx⟩:∃x:Int,(u:Int)=x:=⟨_,rfl⟩
 rcases Nat.lt_or_ge u 100 with hs | hs
 ·have h100:x<100:=by omega
  have hw:IntKind.i64.wrap x=x:=by rw [IntKind.wrap_i64];omega
  have SM:=Lib.hid (Tryz.internal_strconv_small u hs)
  rw [hx] at SM ⊢
  clear hx hs
  go_enter Tryz.func124,Tryz.ntmps124
  go_wp2_with (go_at_call 150;refine (SM.out _).mono ?_;rintro e w' ⟨rfl,rfl⟩)
  go_ret
  exact ⟨rfl,Below.refl _ _⟩
 ·have h100:¬ x<100:=by omega
  have hu1:1≤u:=by omega
  have hnd20:Lib.nDigits u≤20:=by have:=Lib.numDigits_eq u hu1 hu64;split at this<;>omega
  obtain ⟨nd,hnd⟩:∃nd,Lib.nDigits u=nd:=⟨_,rfl⟩
  have hal:Tryz.prog.arrayLen 169=24:=by kernel_rfl
  have hsl1:∀W,(Instr.sliceAt 169 (.pointer (some ⟨w.heap.size,0,none⟩)) none (some (.int .i64 (nd:Int))) none).run Tryz.prog W=.ok (.slice (some ⟨w.heap.size,0,none⟩) nd 24) W:=fun W=>by
   rw [run_sliceAt_array_h W 169 ⟨w.heap.size,0,none⟩ (by kernel_rfl) .i64 (nd:Int) (by omega) (by rw [hal];omega)]
   rw [hal];rfl
  have hH0:=zgH w 169 24 nd (by omega)
  have hfmt:=Tryz.internal_strconv_formatBase10 w.heap.size 0 24 u (Array.replicate nd 0) (w.alloc (.cells (zcb 24) 169)) hH0 (by rw [Array.size_replicate,← hnd];exact Lib.lt_pow_nDigits u) hu64 (by rw [Array.size_replicate];omega)
  rw [Array.size_replicate] at hfmt
  have ND:=Lib.hid (Tryz.internal_strconv_numDigits u hu1 hu64 _ (Lib.tabIs_alloc htab (.cells (zcb 24) 169)))
  have FM:=Lib.hid hfmt
  have HH0:=Lib.hid hH0
  rw [hnd] at ND
  rw [hx] at ND FM ⊢
  have hx2:=Lib.hid hx
  clear hH0 hal hfmt hs hx htab hu1
  go_enter Tryz.func124,Tryz.ntmps124
  go_wp2_with (first
   | (go_at_call 151;refine (ND.out).mono ?_;rintro e w' ⟨rfl,rfl⟩)
   | (go_at_call 152;refine (FM.out).mono ?_;rintro e w' ⟨rfl,k,v',dk,rfl,hF⟩;have FF:=Lib.hid hF;clear hF)
   | fail "no arm")
  have hcv:(convert 43 9 (.slice (some ⟨w.heap.size,0,none⟩) nd 24)).run Tryz.prog ((Sort.putRow (fun (b:UInt8)=>Value.int .u8 (b.toNat:Int)) (w.alloc (.cells (zcb 24) 169)) w.heap.size 0 dk).drewN k)=.ok (.string ⟨(Lib.decDigits u).toArray⟩) ((Sort.putRow (fun (b:UInt8)=>Value.int .u8 (b.toNat:Int)) (w.alloc (.cells (zcb 24) 169)) w.heap.size 0 dk).drewN k):=by
   have hF:=FF.out
   rw [← hnd] at hF
   have h:=run_convert_bytes_back (P:=Tryz.prog) ((Sort.putRow (fun (b:UInt8)=>Value.int .u8 (b.toNat:Int)) (w.alloc (.cells (zcb 24) 169)) w.heap.size 0 dk).drewN k) 43 9 5 ⟨w.heap.size,0,none⟩ 24 (Lib.decDigits u) Tryz.underlying43 Tryz.underlying5 Tryz.underlying9 (fun j hj=>by
    rw [Lib.row_is_numeral hF j hj,Lib.add_plain,World.cell?_drewN]
    exact Sort.cell?_putRow (fun (b:UInt8)=>Value.int .u8 (b.toNat:Int)) _ w.heap.size 0 _ dk HH0.out (by rw [hF.size,Array.size_replicate,hnd]) j (by rw [hF.size];rw [Lib.decDigits_length] at hj;exact hj))
   rw [Lib.decDigits_length,hnd] at h
   exact h
  rw [hcv]
  go_wp2
  go_ret
  refine ⟨rfl,?_⟩
  rw [Sort.alloc_eq_grow]
  obtain ⟨os',_,e⟩:=Sort.putRow_grow_new (fun (b:UInt8)=>Value.int .u8 (b.toNat:Int)) w #[(.cells (zcb 24) 169)] w.heap.size 0 dk (Nat.le_refl _)
  rw [e]
  have hg:Below w.heap.size w (Sort.grow w os'):=⟨rfl,rfl,rfl,by simp,fun i hi=>Sort.heap_grow_old w os' hi⟩
  exact zI hg k
theorem zod (u : Nat) (hu64 : u < 18446744073709551616) (w : World) (htab : Lib.TabIs Tryz.prog w "internal/strconv.uint64pow10" .u64 Lib.pow10Tab) :
  Calls Tryz.prog 103 #[.int .u64 u,.int .i64 10] w fun e w'=>e=.returned (.string ⟨(Lib.decDigits u).toArray⟩)∧Below w.heap.size w w':=by
 have F:=Lib.hid (zm7 u hu64 w htab)
 obtain ⟨x,hx⟩:∃x:Int,(u:Int)=x:=⟨_,rfl⟩
 rw [hx] at F ⊢
 clear hx htab
 go_enter Tryz.func103,Tryz.ntmps103
 go_wp2_with (go_at_call 124;refine (F.out).mono ?_;rintro e w' ⟨rfl,hb⟩)
 go_ret
 exact ⟨rfl,hb⟩
end Go.Proofs.YtjcegdldgjphiaaGreatDoor
namespace Go.Proofs.YtjcegdldgjphiaaGreatDoor
open Go.RowKit Go.Shelf
def PowT (B : Nat) (w : World) : Prop := Lib.TabBelow Tryz.prog B w "internal/strconv.uint64pow10" .u64 Lib.pow10Tab
theorem PowT.below {B B':Nat} {w w':World} (h:PowT B w) (hb:Below B' w w') (hB:B≤B'):PowT B w':=fun w2 h2=>h w2 ((hb.mono hB).trans h2)
def textS (neg:Bool) (l:List Nat):List UInt8:=if zq neg l=true then Lib.itoa (sgn neg (nval l)) else []
def pz (r:Nat):List UInt8:=Lib.repeatL [48] (9 - (Lib.decDigits r).length)
theorem zop (r:Nat):(pz r).length≤9:=by unfold pz;rw [Lib.repeatL_length];simp
theorem bapp (a b:List UInt8):((⟨a.toArray⟩:ByteArray)++(⟨b.toArray⟩:ByteArray))=⟨(a++b).toArray⟩:=by
 apply ByteArray.ext
 simp [ByteArray.data_append]
theorem zlg {k:Nat} (h:k≤9):(9 - (k:Int))=((9 - k:Nat):Int):=by omega
theorem zgS (k:Nat):Lib.repeatL [48] k=List.replicate k 48:=by
 induction k with
 | zero=>rfl
 | succ k ih=>rw [Lib.repeatL,ih];rfl
theorem znB (neg:Bool) {A:Option Addr} {n c B:Nat} {l:List Nat} {w:World} (h:Sl w B A n c l) (hB:B≤w.heap.size) (h1:zq neg l=false) :
  Calls Tryz.prog 74 #[.agg #[.bool neg,.slice A n c]] w fun e w'=>e=.returned (.string ⟨#[]⟩)∧Below w.heap.size w w':=by
 have R1:=Lib.hid (qj neg (h.more hB) false h1)
 have s0:=S1.start (w:=w) (neg:=neg) (A:=A) (n:=n) (c:=c)
 clear h h1
 go_enter Tryz.func74,Tryz.ntmps74
 go_wp2_with (go_at_call 96;refine (R1.out _ s0.below).mono ?_;rintro e w1 ⟨rfl,hb⟩;have s1:=s0.via hb;obtain ⟨a0,a1⟩:=s1.facts)
 go_ret
 exact ⟨rfl,s1.below⟩
def TxI (W:World) (v:Nat) (A:Option Addr) (n c p:Nat) (t:List UInt8):Prop:=Sl W W.heap.size A n c (digs p)∧p<big∧dd v=dd p++t
theorem znE {v:Nat} {d t:List UInt8} (hv:v<big) (h:dd v=d++t):t.length≤640:=by
 by_cases h0:v=0
 ·have h1:=congrArg List.length h
  rw [h0,zax,List.length_append] at h1
  simp at h1;omega
 ·have h1:=zdP 640 v (by omega) (Nat.lt_trans hv zgb)
  rw [zdm v h0,h,List.length_append] at h1
  omega
theorem zlT {v p r:Nat} {t pt:List UInt8} (hp:p≠0) (hq:p / 1000000000=0) (hr:r=p%1000000000) (hpt:Lib.decDigits r=pt) (h:dd v=dd p++t):dd v=dd (p / 1000000000)++(pt++t):=by
 rw [hq,zax,List.nil_append,← hpt,hr,show p%1000000000=p by omega,zdm p hp];exact h
theorem zlU {v p r:Nat} {t pt:List UInt8} (hq:p / 1000000000≠0) (hr:r=p%1000000000) (hpt:Lib.decDigits r=pt) (h:dd v=dd p++t):dd v=dd (p / 1000000000)++((Lib.repeatL [48] (9 - pt.length)++pt)++t):=by
 have h1:=zjW 9 (p%1000000000) (by omega) (Nat.mod_lt _ (by omega))
 rw [← hr,hpt] at h1
 have h2:=zng 9 p
 rw [show (10:Nat) ^ 9=1000000000 from rfl,← hr] at h2
 rw [zgS,h1,h2,← List.append_assoc,← zkZ 9 p hq];exact h
attribute [local go_sem] bapp
theorem zlS (neg:Bool) {A:Option Addr} {n c B:Nat} {l:List Nat} {w:World} (h:Sl w B A n c l) (hB:B≤w.heap.size) (hT:PowT B w) (h1:zq neg l=true) :
  Calls Tryz.prog 74 #[.agg #[.bool neg,.slice A n c]] w fun e w'=>e=.returned (.string ⟨(Lib.itoa (sgn neg (nval l))).toArray⟩)∧Below w.heap.size w w':=by
 have R1:=Lib.hid (qj neg (h.more hB) true h1)
 have hl:=zJ h1 h.dig
 have hlb:nval l<big:=(qK hl.1).1 hl.2.1
 have hz:Hid (nval l=0→neg=false):=Lib.hid fun h0=>hl.2.2 (qL hl.1 h0)
 have H:=Lib.hid (h.more hB)
 have HT:=Lib.hid hT
 have s0:=S1.start (w:=w) (neg:=neg) (A:=A) (n:=n) (c:=c)
 have hd:l=digs (nval l):=zbz hl.1
 obtain ⟨v,hv⟩:∃v,nval l=v:=⟨_,rfl⟩
 rw [hv] at hd hz hlb ⊢
 subst hd
 clear h h1 hl hT hv
 go_enter Tryz.func74,Tryz.ntmps74
 go_wp2_with (go_at_call 96;refine (R1.out _ s0.below).mono ?_;rintro e w1 ⟨rfl,hb⟩;have s1:=s0.via hb;obtain ⟨a0,a1⟩:=s1.facts)
 go_loopw [3,4] (fun x y wr=>∃t A3 n3 c3 p,x=.string ⟨List.toArray t⟩∧y=.slice A3 n3 c3∧S1 w neg A n c wr∧Hid (TxI wr v A3 n3 c3 p t)) (fun _ y wr=>slv wr y)
 case atStart =>
  exact ⟨[],A,n,c,v,rfl,rfl,s1,Lib.hid ⟨(H.out.below s1.below).more s1.below.size,hlb,by simp⟩⟩
 case round =>
  obtain ⟨t,A3,n3,c3,p,rfl,rfl,sr,hI⟩:=hrel
  obtain ⟨a0,a1⟩:=sr.facts
  have htl:=znE hlb hI.out.2.2
  by_cases hbr:0<n3
  ·have hp0:p≠0:=fun e=>by have:=(zab hI.out.1).2 e;omega
   have SM:=Lib.hid (zfa A3 n3 c3 wr.heap.size 1000000000 (digs p) wr hI.out.1 (Nat.le_refl _) (by have:=zhy hI.out.1 hI.out.2.1;omega) (by omega) (by omega))
   rw [zp,show ((1000000000:Nat):Int)=1000000000 from rfl] at SM
   have FU:=Lib.hid (fun (W:World) (r:Nat) (hW:Below w.heap.size w W) (hr:r<1000000000)=>zod r (by omega) W (HT.out W (hW.mono hB)))
   have hn0:(0:Int)<n3:=by omega
   by_cases hq:p / 1000000000=0
   ·go_wp2_with (first
     | (go_at_call 102;(with_reducible refine (SM.out).mono ?_);rintro e w3 ⟨A5,n5,c5,r,rfl,hr,hr2,hs5,hb3⟩;have sr2:=sr.via hb3;clear a0 a1;obtain ⟨a0,a1⟩:=sr2.facts;have hn5:¬ (0:Int)<n5:=by (have:=(zab hs5).2 hq;omega))
     | (go_at_call 103;(with_reducible refine (FU.out _ _ sr2.below hr2).mono ?_);rintro e w4 ⟨rfl,hb4⟩;have sr3:=sr2.via hb4;clear a0 a1;obtain ⟨a0,a1⟩:=sr3.facts;have hlen:=zdP 9 r (by omega) hr2)
     | fail "no arm")
    have hI2:=zlT hp0 hq hr.out rfl hI.out.2.2
    refine ⟨⟨Lib.decDigits r++t,A5,n5,c5,p / 1000000000,rfl,rfl,sr3,Lib.hid ⟨(hs5.below hb4).more hb4.size,Nat.lt_of_le_of_lt (Nat.div_le_self _ _) hI.out.2.1,hI2⟩⟩,?_⟩
    rw [zdA (hs5.below hb4),zdA hI.out.1,zp,zp]
    omega
   ·have RP:=Lib.hid (fun (W:World) (r:Nat)=>show Calls Tryz.prog 104 #[.string ⟨#[48]⟩,.int .i64 ((9 - (Lib.decDigits r).length:Nat):Int)] W fun e w'=>e=.returned (.string ⟨(pz r).toArray⟩)∧Below W.heap.size W w' from Tryz.strings_Repeat ⟨#[48]⟩ (9 - (Lib.decDigits r).length) W (by omega) (by simp [ByteArray.size];omega))
    go_wp2_with (first
     | (go_at_call 102;(with_reducible refine (SM.out).mono ?_);rintro e w3 ⟨A5,n5,c5,r,rfl,hr,hr2,hs5,hb3⟩;have sr2:=sr.via hb3;clear a0 a1;obtain ⟨a0,a1⟩:=sr2.facts;have hn5:(0:Int)<n5:=by (have:=(zab hs5).1;omega))
     | (go_at_call 103;(with_reducible refine (FU.out _ _ sr2.below hr2).mono ?_);rintro e w4 ⟨rfl,hb4⟩;have sr3:=sr2.via hb4;clear a0 a1;obtain ⟨a0,a1⟩:=sr3.facts;have hlen:=zdP 9 r (by omega) hr2;have hwr:=Lib.hid (zlg hlen))
     | (go_at_call 104;rw [hwr.out];(with_reducible refine (RP.out _ r).mono ?_);rintro e w5 ⟨rfl,hb5⟩;have hpz:=zop r;have sr4:=sr3.via hb5;clear a0 a1;obtain ⟨a0,a1⟩:=sr4.facts)
     | fail "no arm")
    have hI2:=zlU hq hr.out rfl hI.out.2.2
    have hs6:=hs5.below (hb4.trans (hb5.mono hb4.size))
    refine ⟨⟨pz r++(Lib.decDigits r++t),A5,n5,c5,p / 1000000000,rfl,rfl,sr4,Lib.hid ⟨hs6.more (Nat.le_trans hb4.size hb5.size),Nat.lt_of_le_of_lt (Nat.div_le_self _ _) hI.out.2.1,by rw [hI2,List.append_assoc];rfl⟩⟩,?_⟩
    rw [zdA hs6,zdA hI.out.1,zp,zp]
    omega
  ·have hp0:p=0:=(zab hI.out.1).1 (by omega)
   have htv:Hid (t=dd v):=by
    have:=hI.out.2.2
    rw [hp0,zax,List.nil_append] at this
    exact Lib.hid this.symm
   have hn0:¬ (0:Int)<n3:=by omega
   clear hp0 hI hbr
   by_cases hv0:v=0
   ·obtain rfl:neg=false:=hz.out hv0
    obtain rfl:t=[]:=by rw [htv.out,hv0,zax]
    go_wp2_with fail
    go_ret
    have e0:Lib.itoa (sgn false 0)=[48]:=by rw [show sgn false 0=0 from rfl,Lib.itoa,if_neg (by omega)];exact zcd
    exact ⟨by subst hv0;rw [e0];rfl,sr.below⟩
   ·have hne:t≠[]:=by
     intro e
     have h1:=zmY v
     rw [← htv.out,e] at h1
     exact hv0 h1.symm
    have hit:Hid (∀b:Bool,Lib.itoa (sgn b v)=if b then 45::t else t):=by
     intro b
     cases b
     ·rw [show sgn false v=(v:Int) from rfl,Lib.itoa,if_neg (by omega),Int.toNat_natCast,zdm v hv0,htv.out];rfl
     ·rw [show sgn true v=-(v:Int) from rfl,Lib.itoa,if_pos (by omega),Int.natAbs_neg,Int.natAbs_natCast,zdm v hv0,htv.out];rfl
    clear hv0 hz htv
    obtain ⟨t0,t1,rfl⟩:∃t0 t1,t=t0::t1:=by
     cases t with
     | nil=>exact absurd rfl hne
     | cons a b=>exact ⟨a,b,rfl⟩
    have htl2:t1.length+1≤640:=htl
    clear htl
    cases neg
    ·go_wp2_with fail
     go_ret
     exact ⟨by rw [hit.out];rfl,sr.below⟩
    ·go_wp2_with fail
     go_ret
     exact ⟨by rw [hit.out];rfl,sr.below⟩
theorem zhT (neg:Bool) {A:Option Addr} {n c B:Nat} {l:List Nat} {w:World} (h:Sl w B A n c l) (hB:B≤w.heap.size) (hT:PowT B w) :
  Calls Tryz.prog 74 #[.agg #[.bool neg,.slice A n c]] w fun e w'=>e=.returned (.string ⟨(textS neg l).toArray⟩)∧Below w.heap.size w w':=by
 cases h1:zq neg l with
 | false=>rw [show textS neg l=[] by unfold textS;rw [h1];rfl];exact znB neg h hB h1
 | true=>rw [show textS neg l=Lib.itoa (sgn neg (nval l)) by unfold textS;rw [h1];rfl];exact zlS neg h hB hT h1
end Go.Proofs.YtjcegdldgjphiaaGreatDoor
namespace Go.Proofs.YtjcegdldgjphiaaGreatDoor
open Go.RowKit Go.Shelf
attribute [local go_sem] Oper.semAt_some
theorem zlt {A A2:Option Addr} {N m c c2 B:Nat} {l v:List Nat} {w:World} (h:Sl w B A N c l) (h2:Sl w B A2 (m+1) c2 v) (hB:B≤w.heap.size) (hl:Canon l) (hm:Canon v) (hN:N≤1000) (hm1:1≤m) (hge:nval v≤nval l) :
  Calls Tryz.prog 99 #[.slice A N c,.slice A2 (m+1) c2] w (zdI (nval l) (nval v) w):=by
 have hc:=zgh hge
 have hmN:m+1≤N:=by have:=zav hm hl.1 hge;rw [h.len,h2.len] at this;exact this
 have H:=Lib.hid (h.more hB)
 have H2:=Lib.hid (h2.more hB)
 have htop:dg v m≠0:=by
  have hlen:=h2.len
  intro e
  refine hm.2 ?_
  rw [List.getLast?_eq_getElem?,hlen,Nat.add_sub_cancel,List.getElem?_eq_getElem (by omega),← zay (by omega),e]
 have HL:=Lib.hid h.len
 have HL2:=Lib.hid h2.len
 have HT:=Lib.hid htop
 have hd0:=dg_lt hm.1 m
 have hd1:((((m+1:Nat):Int)) == 1)=false:=by simp;omega
 have hd2:((((m:Nat):Int)+1) == 1)=false:=by simp;omega
 have hd3:((((m:Nat):Int)) == 0)=false:=by simp;omega
 clear h h2 hge htop
 refine (callsIn_wide (n:=3)).1 ?_
 refine callsIn_of_wp_marks Tryz.func99 rfl trivial ?_ rfl
 simp only [Tryz.ntmps99,List.size_toArray,List.length_cons,List.length_nil,Nat.reduceAdd,Nat.reduceSub,Array.replicate_succ,Array.replicate_zero,List.push_toArray,List.append_toArray,List.nil_append,List.cons_append]
 refine wpIn_wide.2 ?_
 go_upto_region 7 with (go_at_call 97;refine (zak H.out H2.out (Nat.le_refl _) hl hm).mono ?_;rintro e w1 ⟨rfl,hb⟩)
 obtain ⟨ad,hA2,hbl,hcell⟩:=(H2.out.below hb).at_ (k:=m) (by omega)
 have hz:=hb.size
 subst hA2
 have hcell2:∀o,(w1.alloc o).cell? (ad.add m)=some (.int .u32 (dg v m:Nat)):=fun o=>(World.cell?_alloc_lt w1 o (ad.add m) (by rw [qD];omega)).trans hcell
 clear hcell
 go_upto_region 8 with (go_at_call 120;refine (zof (dg v m) _ HT.out hd0).mono ?_;rintro e w2 ⟨⟨s,rfl,hs,hts⟩,rfl⟩;clear hcell2)
 have hfit:Hid (nval l*2 ^ s<4294967296 ^ (N+1)∧nval v*2 ^ s<4294967296 ^ (m+1)):=⟨zlI HL.out hl.1 hs,ziy HL2.out hm.1 hts (by omega)⟩
 have hW2:Below w.heap.size w (w1.alloc (.cells #[.int .i64 ((m:Int)+1)] 3)):=hb.alloc hz _
 have UL:=Lib.hid (fun (W:World) (hq:OvS w w1.heap.size (.int .i64 ((m:Int)+1)) W)=>(show Calls Tryz.prog 121 #[.slice A N c,.int .i64 (s:Nat),.int .i64 ((N:Int)+1)] W (fun e w'=>RetUp (N+1) (nval l*2 ^ s) W e w'∧OvS w w1.heap.size (.int .i64 ((m:Int)+1)) w') from (zmF A N c w.heap.size s (N+1) l W (H.out.below hq.2.2.2) hq.2.2.1 (by omega) (by omega) hs hfit.out.1).mono fun _ _ hr=>⟨hr,hq.below (let ⟨_,_,_,_,_,_,hbb,_⟩:=hr;hbb)⟩))
 have UV:=Lib.hid (fun (W:World) (hq:OvS w w1.heap.size (.int .i64 ((m:Int)+1)) W)=>(show Calls Tryz.prog 121 #[.slice (some ad) (m+1) c2,.int .i64 (s:Nat),.int .i64 ((m:Int)+1)] W (fun e w'=>RetUp (m+1) (nval v*2 ^ s) W e w'∧OvS w w1.heap.size (.int .i64 ((m:Int)+1)) w') from (zmF (some ad) (m+1) c2 w.heap.size s (m+1) v W (H2.out.below hq.2.2.2) hq.2.2.1 (by omega) (by omega) hs hfit.out.2).mono fun _ _ hr=>⟨hr,hq.below (let ⟨_,_,_,_,_,_,hbb,_⟩:=hr;hbb)⟩))
 obtain ⟨W2,hW2e⟩:∃W2,w1.alloc (.cells #[.int .i64 ((m:Int)+1)] 3)=W2:=⟨_,rfl⟩
 have b0:Boxed W2 w1.heap.size 3 (.int .i64 ((m:Int)+1)):=by rw [← hW2e];exact Boxed.new _ _ _
 have hz2:w1.heap.size+1≤W2.heap.size:=by rw [← hW2e];simp
 rw [hW2e] at hW2 ⊢
 clear hW2e hts hd0 hbl hb
 go_cut [10,11] from 43 to 52 (fun p10 p11 W=>∃(gu gv bu bv:Nat) (u0 v0:List Nat),p10=.pointer (some ⟨bu,0,none⟩)∧p11=.pointer (some ⟨bv,0,none⟩)∧Hid (u0.length=N+1∧Dig u0∧nval u0=nval l*2 ^ s∧v0.length=m+1∧Dig v0∧nval v0=nval v*2 ^ s)∧OvB w.heap.size w w1.heap.size (m+1) gu gv bu bv N u0 v0 W)
 case first =>
  have o0:OvS w w1.heap.size (.int .i64 ((m:Int)+1)) W2:=⟨b0,hz2,by omega,hW2⟩
  have hz4:=o0.2.2.1
  have hwr:IntKind.i64.wrap ((N:Int)+1)=(N:Int)+1:=by rw [IntKind.wrap_i64];omega
  go_region_held3 (fun W=>W.cell? ⟨w1.heap.size,0,none⟩=some (.int .i64 ((m:Int)+1))∧OvS w w1.heap.size (.int .i64 ((m:Int)+1)) W)
   ((refine OvS.pair ?_;(repeat (first | assumption | refine OvS.drew ?_ | refine OvS.alloc ?_ _ | refine OvS.setCell ?_ ?_ ?_ _ | (dsimp only;omega)))))
   (first
    | (go_at_call 121;(with_reducible refine (UL.out _ (OvS.drew o0)).mono ?_);rintro e w3 ⟨⟨u0,rfl,hDu,hlu,hdu,hvu,hbu,hzu⟩,osu⟩;have HLU:=Lib.hid hlu;have HVU:=Lib.hid hvu;have HZU:=Lib.hid hzu;have hsu:=hbu.size;(try (simp at hsu;(try rw [Nat.add_one_le_iff] at hsu)));clear hlu hvu hzu;obtain ⟨hcu,hfu⟩:=bcell hbu;have pu1:=osu.2.1;have pu2:=osu.2.2.1;(try (have xa1:W2.heap.size<w3.heap.size:=by omega));(try (have xa2:W2.heap.size+1<w3.heap.size:=by omega));(try (have xa3:W2.heap.size<w3.heap.size+1:=by omega));(try (have xa4:W2.heap.size+1<w3.heap.size+1:=by omega));(try (have xa5:W2.heap.size<w3.heap.size+1+1:=by omega));(try (have xa6:W2.heap.size+1<w3.heap.size+1+1:=by omega));(try (have xa7:W2.heap.size≤w3.heap.size:=by omega));(try (have xa8:W2.heap.size+1≤w3.heap.size:=by omega)))
    | (go_at_call 121;(with_reducible refine (UL.out _ (OvS.drew (o0.alloc _))).mono ?_);rintro e w3 ⟨⟨u0,rfl,hDu,hlu,hdu,hvu,hbu,hzu⟩,osu⟩;have HLU:=Lib.hid hlu;have HVU:=Lib.hid hvu;have HZU:=Lib.hid hzu;have hsu:=hbu.size;(try (simp at hsu;(try rw [Nat.add_one_le_iff] at hsu)));clear hlu hvu hzu;obtain ⟨hcu,hfu⟩:=bcell hbu;have pu1:=osu.2.1;have pu2:=osu.2.2.1;(try (have xa1:W2.heap.size<w3.heap.size:=by omega));(try (have xa2:W2.heap.size+1<w3.heap.size:=by omega));(try (have xa3:W2.heap.size<w3.heap.size+1:=by omega));(try (have xa4:W2.heap.size+1<w3.heap.size+1:=by omega));(try (have xa5:W2.heap.size<w3.heap.size+1+1:=by omega));(try (have xa6:W2.heap.size+1<w3.heap.size+1+1:=by omega));(try (have xa7:W2.heap.size≤w3.heap.size:=by omega));(try (have xa8:W2.heap.size+1≤w3.heap.size:=by omega)))
    | (go_at_call 121;(with_reducible refine (UL.out _ (OvS.drew ((o0.alloc _).alloc _))).mono ?_);rintro e w3 ⟨⟨u0,rfl,hDu,hlu,hdu,hvu,hbu,hzu⟩,osu⟩;have HLU:=Lib.hid hlu;have HVU:=Lib.hid hvu;have HZU:=Lib.hid hzu;have hsu:=hbu.size;(try (simp at hsu;(try rw [Nat.add_one_le_iff] at hsu)));clear hlu hvu hzu;obtain ⟨hcu,hfu⟩:=bcell hbu;have pu1:=osu.2.1;have pu2:=osu.2.2.1;(try (have xa1:W2.heap.size<w3.heap.size:=by omega));(try (have xa2:W2.heap.size+1<w3.heap.size:=by omega));(try (have xa3:W2.heap.size<w3.heap.size+1:=by omega));(try (have xa4:W2.heap.size+1<w3.heap.size+1:=by omega));(try (have xa5:W2.heap.size<w3.heap.size+1+1:=by omega));(try (have xa6:W2.heap.size+1<w3.heap.size+1+1:=by omega));(try (have xa7:W2.heap.size≤w3.heap.size:=by omega));(try (have xa8:W2.heap.size+1≤w3.heap.size:=by omega)))
    | (go_at_call 121;(with_reducible refine (UV.out _ (osu)).mono ?_);rintro e w4 ⟨⟨v0,rfl,hDv,hlv,hdv,hvv,hbv,hzv⟩,osv⟩;have HLV:=Lib.hid hlv;have HVV:=Lib.hid hvv;have HZV:=Lib.hid hzv;have hsv:=hbv.size;(try (simp at hsv;(try rw [Nat.add_one_le_iff] at hsv)));clear hlv hvv hzv;obtain ⟨hcv,hfv⟩:=bcell hbv;have pv1:=osv.2.1;have pv2:=osv.2.2.1;(try (have xb1:W2.heap.size<w4.heap.size:=by omega));(try (have xb2:W2.heap.size+1<w4.heap.size:=by omega));(try (have xb3:w3.heap.size<w4.heap.size:=by omega));(try (have xb4:w3.heap.size+1<w4.heap.size:=by omega));(try (have xb5:W2.heap.size≤w4.heap.size:=by omega));(try (have xb6:w3.heap.size≤w4.heap.size:=by omega)))
    | (go_at_call 121;(with_reducible refine (UV.out _ (osu.alloc _)).mono ?_);rintro e w4 ⟨⟨v0,rfl,hDv,hlv,hdv,hvv,hbv,hzv⟩,osv⟩;have HLV:=Lib.hid hlv;have HVV:=Lib.hid hvv;have HZV:=Lib.hid hzv;have hsv:=hbv.size;(try (simp at hsv;(try rw [Nat.add_one_le_iff] at hsv)));clear hlv hvv hzv;obtain ⟨hcv,hfv⟩:=bcell hbv;have pv1:=osv.2.1;have pv2:=osv.2.2.1;(try (have xb1:W2.heap.size<w4.heap.size:=by omega));(try (have xb2:W2.heap.size+1<w4.heap.size:=by omega));(try (have xb3:w3.heap.size<w4.heap.size:=by omega));(try (have xb4:w3.heap.size+1<w4.heap.size:=by omega));(try (have xb5:W2.heap.size≤w4.heap.size:=by omega));(try (have xb6:w3.heap.size≤w4.heap.size:=by omega)))
    | (go_at_call 121;(with_reducible refine (UV.out _ ((osu.alloc _).alloc _)).mono ?_);rintro e w4 ⟨⟨v0,rfl,hDv,hlv,hdv,hvv,hbv,hzv⟩,osv⟩;have HLV:=Lib.hid hlv;have HVV:=Lib.hid hvv;have HZV:=Lib.hid hzv;have hsv:=hbv.size;(try (simp at hsv;(try rw [Nat.add_one_le_iff] at hsv)));clear hlv hvv hzv;obtain ⟨hcv,hfv⟩:=bcell hbv;have pv1:=osv.2.1;have pv2:=osv.2.2.1;(try (have xb1:W2.heap.size<w4.heap.size:=by omega));(try (have xb2:W2.heap.size+1<w4.heap.size:=by omega));(try (have xb3:w3.heap.size<w4.heap.size:=by omega));(try (have xb4:w3.heap.size+1<w4.heap.size:=by omega));(try (have xb5:W2.heap.size≤w4.heap.size:=by omega));(try (have xb6:w3.heap.size≤w4.heap.size:=by omega)))
    | fail "no arm")
  all_goals
   go_wp2_with fail
   go_meet
   have q1:=HZU.out
   have q2:=HZV.out
   simp at q1 q2
   (try simp at hDu)
   (try simp at hDv)
   refine zlp (z:=(m:Int)+1) hDu hDv rfl ⟨HLU.out,hdu,HVU.out,HLV.out,hdv,HVV.out⟩ ?_ ?_ ?_ ?_ ?_ ?_
   ·repeat (first | assumption | refine OvS.drew ?_ | refine OvS.alloc ?_ _ | refine OvS.setCell ?_ ?_ ?_ _ | exact (by first | omega | (dsimp only;omega) | (simp;done) | (simp;omega)) | fail)
   ·repeat (first | assumption | refine DBk.far ?_ ?_ _ | refine DBk.alloc ?_ _ | refine DBk.below ?_ hbv ?_ | exact (by first | omega | (dsimp only;omega) | (simp;done) | (simp;omega)) | fail)
   ·repeat (first | assumption | refine DBk.far ?_ ?_ _ | refine DBk.alloc ?_ _ | refine DBk.below ?_ hbv ?_ | exact (by first | omega | (dsimp only;omega) | (simp;done) | (simp;omega)) | fail)
   ·repeat (first | assumption | refine Boxed.set _ (v:=.slice none 0 0) ?_ | exact zy _ _ _ (by first | rfl | (simp;done) | (simp;omega)) | refine zS ?_ ?_ _ | refine Boxed.alloc ?_ _ | refine zai ?_ hbv ?_ | refine zai ?_ hbu ?_ | exact (by first | omega | (dsimp only;omega) | (simp;done) | (simp;omega)) | fail)
   ·repeat (first | assumption | refine Boxed.set _ (v:=.slice none 0 0) ?_ | exact zy _ _ _ (by first | rfl | (simp;done) | (simp;omega)) | refine zS ?_ ?_ _ | refine Boxed.alloc ?_ _ | refine zai ?_ hbv ?_ | refine zai ?_ hbu ?_ | exact (by first | omega | (dsimp only;omega) | (simp;done) | (simp;omega)) | fail)
   ·simp
    omega
 case rest =>
  obtain ⟨gu,gv,bu,bv,u0,v0,rfl,rfl,hI,⟨k1,k2,k3,k4,k5⟩,hne,hBc⟩:=hcut
  rename World=>wc
  clear UL UV b0 hz2 hW2
  have e1:=k1.cell
  obtain ⟨J,hJ⟩:∃J,N=m+J:=⟨N - m,by omega⟩
  have hmk:=qb J (by omega)
  have ej:(J:Int)=(N:Int) - ((m:Int)+1)+1:=by omega
  rw [ej] at hmk
  have HJ:=Lib.hid hJ
  have hJ1:1≤J:=by omega
  have hJ2:J≤1000:=by omega
  clear ej hJ
  go_wp2_with (go_at_call 117;refine (callsIn_wide.1 (zdS Fence.wide 0 trivial rfl _ _ _ _)).mono ?_;rintro e w' ⟨rfl,rfl⟩)
  clear hmk
  have hJ0:=zjU (J:=J) (l:=nval l) (v:=nval v) (s:=s) hne hBc k1 k2 k3 k4 k5 ⟨hI.out.1,hI.out.2.1,hI.out.2.2.1⟩ (by have:=HJ.out;omega) (by rw [Nat.add_comm,← HJ.out,← HL.out];exact qz hl.1) (by have:=za9 hm (by intro e;have:=HL2.out;rw [e] at this;simp at this);rwa [HL2.out,Nat.add_sub_cancel] at this)
  obtain ⟨W0,hW0⟩:∃W0,((wc.alloc (.cells (madeCells #[.int .u32 0] J) 123)).alloc (.cells #[.slice (some ⟨wc.heap.size,0,none⟩) J J] 117)).alloc (.cells #[.slice (some ⟨wc.heap.size,0,none⟩) J J] 117)=W0:=⟨_,rfl⟩
  rw [hW0] at hJ0 ⊢
  obtain ⟨hbox,hsz,hJ0⟩:=hJ0
  clear hW0
  refine (wpIn_wide (n:=3)).1 ?_
  refine wpIn_rangeFunc_ownF rfl (by omega) (gf:=146) (lb:=#[.pointer (some ⟨wc.heap.size+1+1,0,none⟩)]) rfl trivial (enters_of Tryz.func146 (by kernel_rfl) rfl)
   (zgk Fence.wide (3 - 1) trivial rfl (by omega) (wc.heap.size+1+1) w.heap.size wc.heap.size J J W0 hbox hJ0.blk (Nat.le_refl _) (by omega)) kpQ_t (kpQ_b hJ0.2.2.size (by omega) hJ0.lt) (Below.refl _ _) (fun _=>rfl)
   (fun pre W=>OvJ w w1.heap.size (m+1) gu gv bu bv wc.heap.size (wc.heap.size+1) N J (nval l*2 ^ s) (nval v*2 ^ s) v0 pre W)
   (fun _ _ _=>False)
   (znf hJ0.2.2.size)
   (fun _ _ _ _ _ hs _ _=>hs)
   hJ0
   (fun x=>{ tmps:=#[Value.slice A N c,Value.slice (some ad) (m+1) c2,undef,undef,Value.slice none 0 0,Value.slice none 0 0,Value.pointer (some { block:=w1.heap.size,off:=0 }),undef,undef,Value.int IntKind.i64 ↑s,Value.pointer (some { block:=bu,off:=0 }),Value.pointer (some { block:=bv,off:=0 }),Value.pointer (some { block:=wc.heap.size+1,off:=0 }),Value.int IntKind.i64 (x.1.1:Nat),undef,undef,Value.slice A N c,Value.slice (some ad) (m+1) c2,Value.int IntKind.i64 (cmpv (nval l) (nval v)),Value.bool (decide (cmpv (nval l) (nval v)<0)),undef,Value.slice (some ad) (m+1) c2,Value.int IntKind.i64 (↑m+1),Value.int IntKind.i64 (↑m+1),Value.bool false,undef,undef,undef,undef,undef,undef,undef,undef,undef,undef,undef,undef,Value.slice (some ad) (m+1) c2,Value.int IntKind.i64 (↑m+1),Value.int IntKind.i64 ↑m,Value.pointer (some (ad.add m)),Value.int IntKind.u32 ↑(dg v m),Value.int IntKind.i64 ↑s,u43,u44,u45,u46,u47,u48,u49,u50,u51,u52,Value.slice A N c,Value.int IntKind.i64 ↑N,Value.int IntKind.i64 (↑m+1),Value.int IntKind.i64 (↑N - (↑m+1)),Value.int IntKind.i64 (↑N - (↑m+1)+1),Value.slice (some { block:=wc.heap.size,off:=0 }) J J,Value.slice (some { block:=wc.heap.size,off:=0 }) J J,Value.func (Fn.func 146) #[] #[Value.pointer (some { block:=wc.heap.size+1+1,off:=0 })],Value.int IntKind.i64 (x.1.1:Nat),Value.int IntKind.u32 (x.2:Nat),undef,undef,undef,undef,undef,undef,undef,undef,undef,undef,undef,undef,undef,undef,undef,undef,undef,undef,undef,undef,undef,undef,undef,undef,undef,undef,undef,undef,undef,undef,undef,undef,undef,undef,undef,undef,undef,undef,undef,undef,undef,undef],defers:=[] }) ?assign ?body ?done ?stop
  case assign =>
   intro l x W K hK
   gi_wp2
   exact hK
  case body =>
   rintro ll pre x W ⟨⟨st,ne⟩,⟨uo,qo,d1,d2,hl,inv⟩,hBW⟩ _
   have inv:=Lib.hid inv
   have hx:=x.1.2
   have hmx:Tryz.prog.follows .mixedOrders=true:=by kernel_rfl
   have HV:Hid (nval v0=nval v*2 ^ s∧nval v*2 ^ s<4294967296 ^ (m+1)∧N+1=J+(m+1)):=⟨hI.out.2.2.2.2.2,hfit.out.2,by have:=HJ.out;omega⟩
   have CALL:=Lib.hid (zlr x.1 st ne d1 ⟨hl.out.1,hl.out.2.1⟩ hI.out.2.2.2.1 hI.out.2.2.2.2.1 (by have:=HJ.out;omega) (by omega))
   have e1:=st.1.cell
   have e2:=st.2.2.1.cell
   have e3:=st.2.2.2.1.cell
   have e4:=st.2.2.2.2.1.cell
   have hkN:((x.1.1:Nat):Int)+((m:Int)+1)+1≤(N:Int)+1:=by have:=HJ.out;omega
   have w1':IntKind.i64.wrap ((x.1.1:Int)+((m:Int)+1))=(x.1.1:Int)+((m:Int)+1):=by rw [IntKind.wrap_i64];omega
   have w2':IntKind.i64.wrap ((x.1.1:Int)+((m:Int)+1)+1)=(x.1.1:Int)+((m:Int)+1)+1:=by rw [IntKind.wrap_i64];omega
   have w3':((x.1.1:Int)+((m:Int)+1)+1).toNat=x.1.1+(m+1)+1:=by omega
   have w4':(0:Int)≤(x.1.1:Int)+((m:Int)+1)+1:=by omega
   have w5':¬ N+1=x.1.1:=by omega
   have w6':x.1.1≤x.1.1+(m+1)+1:=by omega
   gi_wp2
   refine zb3 hmx rfl ?_
   refine wpAnyIn_take (i:=1) (v:=?_) rfl rfl (by kernel_rfl) (by kernel_rfl) (by kernel_rfl) (fun _ _ _ h=>h) ⟨Or.inl ⟨by rfl,?_⟩,fun _=>rfl⟩ ?_
   rotate_left 1
   ·(intro w;go_simp;try (with_reducible rfl))
   refine wpAnyIn_take (i:=3) (v:=?_) rfl rfl (by kernel_rfl) (by kernel_rfl) (by kernel_rfl) (fun _ _ _ h=>h) ⟨Or.inl ⟨by rfl,?_⟩,fun _=>rfl⟩ ?_
   rotate_left 1
   ·(intro w;go_simp;try (with_reducible rfl))
   refine wpAnyIn_take (i:=4) (v:=?_) rfl rfl (by kernel_rfl) (by kernel_rfl) (by kernel_rfl) (fun _ _ _ h=>h) ⟨Or.inl ⟨by rfl,?_⟩,fun _=>rfl⟩ ?_
   rotate_left 1
   ·(intro w;go_simp;try (with_reducible rfl))
   refine wpAnyIn_ready (rs:=[0,2,5,9]) (by kernel_rfl) (by simp) ?_
   refine AllReadyIn.cons rfl (fun K hK=>?_) (AllReadyIn.cons rfl (fun K hK=>?_) (AllReadyIn.cons rfl (fun K hK=>?_) (AllReadyIn.cons rfl (fun K hK=>?_) AllReadyIn.nil)))
   ·go_simp;refine hK _ _ ?_;clear hK K
    refine wpAnyIn_ready (rs:=[2,5,9]) (by kernel_rfl) (by simp) ?_
    refine AllReadyIn.cons rfl (fun K hK=>?_) (AllReadyIn.cons rfl (fun K hK=>?_) (AllReadyIn.cons rfl (fun K hK=>?_) AllReadyIn.nil))
    ·go_simp;refine hK _ _ ?_;clear hK K
     refine wpAnyIn_ready (rs:=[5,9]) (by kernel_rfl) (by simp) ?_
     refine AllReadyIn.cons rfl (fun K hK=>?_) (AllReadyIn.cons rfl (fun K hK=>?_) AllReadyIn.nil)
     ·go_simp;refine hK _ _ ?_;clear hK K
      refine wpAnyIn_take (i:=6) (v:=?_) rfl rfl (by kernel_rfl) (by kernel_rfl) (by kernel_rfl) (fun _ _ _ h=>h) ⟨Or.inl ⟨by rfl,?_⟩,fun _=>rfl⟩ ?_
      rotate_left 1
      ·(intro w;go_simp;try (with_reducible rfl))
      refine wpAnyIn_take (i:=7) (v:=?_) rfl rfl (by kernel_rfl) (by kernel_rfl) (by kernel_rfl) (fun _ _ _ h=>h) ⟨Or.inl ⟨by rfl,?_⟩,fun _=>rfl⟩ ?_
      rotate_left 1
      ·(intro w;go_simp;try (with_reducible rfl))
      refine wpAnyIn_take (i:=8) (v:=?_) rfl rfl (by kernel_rfl) (by kernel_rfl) (by kernel_rfl) (fun _ _ _ h=>h) ⟨Or.inl ⟨by rfl,?_⟩,fun _=>rfl⟩ ?_
      rotate_left 1
      ·(intro w;go_simp;try (with_reducible rfl))
      refine wpAnyIn_ready (rs:=[9]) (by kernel_rfl) (by simp) ?_
      refine AllReadyIn.cons rfl (fun K hK=>?_) AllReadyIn.nil
      go_simp;refine hK _ _ ?_;clear hK K
      refine wpAnyIn_ready (rs:=[10]) (by kernel_rfl) (by simp) ?_
      refine AllReadyIn.cons rfl (fun K hK=>?_) AllReadyIn.nil
      go_simp;refine ⟨trivial,?_⟩;gi_at_call 122;refine (callsIn_wide.2 (CALL.out _ _ _ (by omega))).mono ?_;rintro e w' ⟨g,u',rfl,hg,hul,hud,hU',hgr,hS1,hS2⟩;obtain ⟨a1,a2,a3,a4⟩:=zu (k:=x.1.1) st ne d2 (by have:=hl.out.2.2.1;omega) hgr;have HUL:=Lib.hid hul;have HS1:=Lib.hid hS1;have HS2:=Lib.hid hS2;clear hul hS1 hS2;refine hK _ _ ?_;clear hK K
      refine wpAnyIn_take (i:=11) (v:=?_) rfl rfl (by kernel_rfl) (by kernel_rfl) (by kernel_rfl) (fun _ _ _ h=>h) ⟨Or.inl ⟨by rfl,?_⟩,fun _=>rfl⟩ ?_
      rotate_left 1
      ·(intro w;go_simp;try (with_reducible rfl))
      refine wpAnyIn_ready (rs:=[12]) (by kernel_rfl) (by simp) ?_
      refine AllReadyIn.cons rfl (fun K hK=>?_) AllReadyIn.nil
      go_simp;refine hK _ _ ?_;clear hK K
      refine wpAnyIn_done (by kernel_rfl) ?_ _
      gi_wp2
      exact ovR x st ne d1 d2 hl.out inv.out hBW hgr hg HUL.out hud hU' HS1.out HS2.out HV.out
     ·go_simp;refine hK _ _ ?_;clear hK K
      refine wpAnyIn_ready (rs:=[5]) (by kernel_rfl) (by simp) ?_
      refine AllReadyIn.cons rfl (fun K hK=>?_) AllReadyIn.nil
      go_simp;refine hK _ _ ?_;clear hK K
      refine wpAnyIn_take (i:=6) (v:=?_) rfl rfl (by kernel_rfl) (by kernel_rfl) (by kernel_rfl) (fun _ _ _ h=>h) ⟨Or.inl ⟨by rfl,?_⟩,fun _=>rfl⟩ ?_
      rotate_left 1
      ·(intro w;go_simp;try (with_reducible rfl))
      refine wpAnyIn_take (i:=7) (v:=?_) rfl rfl (by kernel_rfl) (by kernel_rfl) (by kernel_rfl) (fun _ _ _ h=>h) ⟨Or.inl ⟨by rfl,?_⟩,fun _=>rfl⟩ ?_
      rotate_left 1
      ·(intro w;go_simp;try (with_reducible rfl))
      refine wpAnyIn_take (i:=8) (v:=?_) rfl rfl (by kernel_rfl) (by kernel_rfl) (by kernel_rfl) (fun _ _ _ h=>h) ⟨Or.inl ⟨by rfl,?_⟩,fun _=>rfl⟩ ?_
      rotate_left 1
      ·(intro w;go_simp;try (with_reducible rfl))
      refine wpAnyIn_ready (rs:=[10]) (by kernel_rfl) (by simp) ?_
      refine AllReadyIn.cons rfl (fun K hK=>?_) AllReadyIn.nil
      go_simp;refine ⟨trivial,?_⟩;gi_at_call 122;refine (callsIn_wide.2 (CALL.out _ _ _ (by omega))).mono ?_;rintro e w' ⟨g,u',rfl,hg,hul,hud,hU',hgr,hS1,hS2⟩;obtain ⟨a1,a2,a3,a4⟩:=zu (k:=x.1.1) st ne d2 (by have:=hl.out.2.2.1;omega) hgr;have HUL:=Lib.hid hul;have HS1:=Lib.hid hS1;have HS2:=Lib.hid hS2;clear hul hS1 hS2;refine hK _ _ ?_;clear hK K
      refine wpAnyIn_take (i:=11) (v:=?_) rfl rfl (by kernel_rfl) (by kernel_rfl) (by kernel_rfl) (fun _ _ _ h=>h) ⟨Or.inl ⟨by rfl,?_⟩,fun _=>rfl⟩ ?_
      rotate_left 1
      ·(intro w;go_simp;try (with_reducible rfl))
      refine wpAnyIn_ready (rs:=[12]) (by kernel_rfl) (by simp) ?_
      refine AllReadyIn.cons rfl (fun K hK=>?_) AllReadyIn.nil
      go_simp;refine hK _ _ ?_;clear hK K
      refine wpAnyIn_done (by kernel_rfl) ?_ _
      gi_wp2
      exact ovR x st ne d1 d2 hl.out inv.out hBW hgr hg HUL.out hud hU' HS1.out HS2.out HV.out
    ·go_simp;refine hK _ _ ?_;clear hK K
     refine wpAnyIn_take (i:=6) (v:=?_) rfl rfl (by kernel_rfl) (by kernel_rfl) (by kernel_rfl) (fun _ _ _ h=>h) ⟨Or.inl ⟨by rfl,?_⟩,fun _=>rfl⟩ ?_
     rotate_left 1
     ·(intro w;go_simp;try (with_reducible rfl))
     refine wpAnyIn_take (i:=7) (v:=?_) rfl rfl (by kernel_rfl) (by kernel_rfl) (by kernel_rfl) (fun _ _ _ h=>h) ⟨Or.inl ⟨by rfl,?_⟩,fun _=>rfl⟩ ?_
     rotate_left 1
     ·(intro w;go_simp;try (with_reducible rfl))
     refine wpAnyIn_ready (rs:=[2,9]) (by kernel_rfl) (by simp) ?_
     refine AllReadyIn.cons rfl (fun K hK=>?_) (AllReadyIn.cons rfl (fun K hK=>?_) AllReadyIn.nil)
     ·go_simp;refine hK _ _ ?_;clear hK K
      refine wpAnyIn_take (i:=8) (v:=?_) rfl rfl (by kernel_rfl) (by kernel_rfl) (by kernel_rfl) (fun _ _ _ h=>h) ⟨Or.inl ⟨by rfl,?_⟩,fun _=>rfl⟩ ?_
      rotate_left 1
      ·(intro w;go_simp;try (with_reducible rfl))
      refine wpAnyIn_ready (rs:=[9]) (by kernel_rfl) (by simp) ?_
      refine AllReadyIn.cons rfl (fun K hK=>?_) AllReadyIn.nil
      go_simp;refine hK _ _ ?_;clear hK K
      refine wpAnyIn_ready (rs:=[10]) (by kernel_rfl) (by simp) ?_
      refine AllReadyIn.cons rfl (fun K hK=>?_) AllReadyIn.nil
      go_simp;refine ⟨trivial,?_⟩;gi_at_call 122;refine (callsIn_wide.2 (CALL.out _ _ _ (by omega))).mono ?_;rintro e w' ⟨g,u',rfl,hg,hul,hud,hU',hgr,hS1,hS2⟩;obtain ⟨a1,a2,a3,a4⟩:=zu (k:=x.1.1) st ne d2 (by have:=hl.out.2.2.1;omega) hgr;have HUL:=Lib.hid hul;have HS1:=Lib.hid hS1;have HS2:=Lib.hid hS2;clear hul hS1 hS2;refine hK _ _ ?_;clear hK K
      refine wpAnyIn_take (i:=11) (v:=?_) rfl rfl (by kernel_rfl) (by kernel_rfl) (by kernel_rfl) (fun _ _ _ h=>h) ⟨Or.inl ⟨by rfl,?_⟩,fun _=>rfl⟩ ?_
      rotate_left 1
      ·(intro w;go_simp;try (with_reducible rfl))
      refine wpAnyIn_ready (rs:=[12]) (by kernel_rfl) (by simp) ?_
      refine AllReadyIn.cons rfl (fun K hK=>?_) AllReadyIn.nil
      go_simp;refine hK _ _ ?_;clear hK K
      refine wpAnyIn_done (by kernel_rfl) ?_ _
      gi_wp2
      exact ovR x st ne d1 d2 hl.out inv.out hBW hgr hg HUL.out hud hU' HS1.out HS2.out HV.out
     ·go_simp;refine hK _ _ ?_;clear hK K
      refine wpAnyIn_ready (rs:=[2]) (by kernel_rfl) (by simp) ?_
      refine AllReadyIn.cons rfl (fun K hK=>?_) AllReadyIn.nil
      go_simp;refine hK _ _ ?_;clear hK K
      refine wpAnyIn_take (i:=8) (v:=?_) rfl rfl (by kernel_rfl) (by kernel_rfl) (by kernel_rfl) (fun _ _ _ h=>h) ⟨Or.inl ⟨by rfl,?_⟩,fun _=>rfl⟩ ?_
      rotate_left 1
      ·(intro w;go_simp;try (with_reducible rfl))
      refine wpAnyIn_ready (rs:=[10]) (by kernel_rfl) (by simp) ?_
      refine AllReadyIn.cons rfl (fun K hK=>?_) AllReadyIn.nil
      go_simp;refine ⟨trivial,?_⟩;gi_at_call 122;refine (callsIn_wide.2 (CALL.out _ _ _ (by omega))).mono ?_;rintro e w' ⟨g,u',rfl,hg,hul,hud,hU',hgr,hS1,hS2⟩;obtain ⟨a1,a2,a3,a4⟩:=zu (k:=x.1.1) st ne d2 (by have:=hl.out.2.2.1;omega) hgr;have HUL:=Lib.hid hul;have HS1:=Lib.hid hS1;have HS2:=Lib.hid hS2;clear hul hS1 hS2;refine hK _ _ ?_;clear hK K
      refine wpAnyIn_take (i:=11) (v:=?_) rfl rfl (by kernel_rfl) (by kernel_rfl) (by kernel_rfl) (fun _ _ _ h=>h) ⟨Or.inl ⟨by rfl,?_⟩,fun _=>rfl⟩ ?_
      rotate_left 1
      ·(intro w;go_simp;try (with_reducible rfl))
      refine wpAnyIn_ready (rs:=[12]) (by kernel_rfl) (by simp) ?_
      refine AllReadyIn.cons rfl (fun K hK=>?_) AllReadyIn.nil
      go_simp;refine hK _ _ ?_;clear hK K
      refine wpAnyIn_done (by kernel_rfl) ?_ _
      gi_wp2
      exact ovR x st ne d1 d2 hl.out inv.out hBW hgr hg HUL.out hud hU' HS1.out HS2.out HV.out
    ·go_simp;refine hK _ _ ?_;clear hK K
     refine wpAnyIn_ready (rs:=[2,5]) (by kernel_rfl) (by simp) ?_
     refine AllReadyIn.cons rfl (fun K hK=>?_) (AllReadyIn.cons rfl (fun K hK=>?_) AllReadyIn.nil)
     ·go_simp;refine hK _ _ ?_;clear hK K
      refine wpAnyIn_ready (rs:=[5]) (by kernel_rfl) (by simp) ?_
      refine AllReadyIn.cons rfl (fun K hK=>?_) AllReadyIn.nil
      go_simp;refine hK _ _ ?_;clear hK K
      refine wpAnyIn_take (i:=6) (v:=?_) rfl rfl (by kernel_rfl) (by kernel_rfl) (by kernel_rfl) (fun _ _ _ h=>h) ⟨Or.inl ⟨by rfl,?_⟩,fun _=>rfl⟩ ?_
      rotate_left 1
      ·(intro w;go_simp;try (with_reducible rfl))
      refine wpAnyIn_take (i:=7) (v:=?_) rfl rfl (by kernel_rfl) (by kernel_rfl) (by kernel_rfl) (fun _ _ _ h=>h) ⟨Or.inl ⟨by rfl,?_⟩,fun _=>rfl⟩ ?_
      rotate_left 1
      ·(intro w;go_simp;try (with_reducible rfl))
      refine wpAnyIn_take (i:=8) (v:=?_) rfl rfl (by kernel_rfl) (by kernel_rfl) (by kernel_rfl) (fun _ _ _ h=>h) ⟨Or.inl ⟨by rfl,?_⟩,fun _=>rfl⟩ ?_
      rotate_left 1
      ·(intro w;go_simp;try (with_reducible rfl))
      refine wpAnyIn_ready (rs:=[10]) (by kernel_rfl) (by simp) ?_
      refine AllReadyIn.cons rfl (fun K hK=>?_) AllReadyIn.nil
      go_simp;refine ⟨trivial,?_⟩;gi_at_call 122;refine (callsIn_wide.2 (CALL.out _ _ _ (by omega))).mono ?_;rintro e w' ⟨g,u',rfl,hg,hul,hud,hU',hgr,hS1,hS2⟩;obtain ⟨a1,a2,a3,a4⟩:=zu (k:=x.1.1) st ne d2 (by have:=hl.out.2.2.1;omega) hgr;have HUL:=Lib.hid hul;have HS1:=Lib.hid hS1;have HS2:=Lib.hid hS2;clear hul hS1 hS2;refine hK _ _ ?_;clear hK K
      refine wpAnyIn_take (i:=11) (v:=?_) rfl rfl (by kernel_rfl) (by kernel_rfl) (by kernel_rfl) (fun _ _ _ h=>h) ⟨Or.inl ⟨by rfl,?_⟩,fun _=>rfl⟩ ?_
      rotate_left 1
      ·(intro w;go_simp;try (with_reducible rfl))
      refine wpAnyIn_ready (rs:=[12]) (by kernel_rfl) (by simp) ?_
      refine AllReadyIn.cons rfl (fun K hK=>?_) AllReadyIn.nil
      go_simp;refine hK _ _ ?_;clear hK K
      refine wpAnyIn_done (by kernel_rfl) ?_ _
      gi_wp2
      exact ovR x st ne d1 d2 hl.out inv.out hBW hgr hg HUL.out hud hU' HS1.out HS2.out HV.out
     ·go_simp;refine hK _ _ ?_;clear hK K
      refine wpAnyIn_take (i:=6) (v:=?_) rfl rfl (by kernel_rfl) (by kernel_rfl) (by kernel_rfl) (fun _ _ _ h=>h) ⟨Or.inl ⟨by rfl,?_⟩,fun _=>rfl⟩ ?_
      rotate_left 1
      ·(intro w;go_simp;try (with_reducible rfl))
      refine wpAnyIn_take (i:=7) (v:=?_) rfl rfl (by kernel_rfl) (by kernel_rfl) (by kernel_rfl) (fun _ _ _ h=>h) ⟨Or.inl ⟨by rfl,?_⟩,fun _=>rfl⟩ ?_
      rotate_left 1
      ·(intro w;go_simp;try (with_reducible rfl))
      refine wpAnyIn_ready (rs:=[2]) (by kernel_rfl) (by simp) ?_
      refine AllReadyIn.cons rfl (fun K hK=>?_) AllReadyIn.nil
      go_simp;refine hK _ _ ?_;clear hK K
      refine wpAnyIn_take (i:=8) (v:=?_) rfl rfl (by kernel_rfl) (by kernel_rfl) (by kernel_rfl) (fun _ _ _ h=>h) ⟨Or.inl ⟨by rfl,?_⟩,fun _=>rfl⟩ ?_
      rotate_left 1
      ·(intro w;go_simp;try (with_reducible rfl))
      refine wpAnyIn_ready (rs:=[10]) (by kernel_rfl) (by simp) ?_
      refine AllReadyIn.cons rfl (fun K hK=>?_) AllReadyIn.nil
      go_simp;refine ⟨trivial,?_⟩;gi_at_call 122;refine (callsIn_wide.2 (CALL.out _ _ _ (by omega))).mono ?_;rintro e w' ⟨g,u',rfl,hg,hul,hud,hU',hgr,hS1,hS2⟩;obtain ⟨a1,a2,a3,a4⟩:=zu (k:=x.1.1) st ne d2 (by have:=hl.out.2.2.1;omega) hgr;have HUL:=Lib.hid hul;have HS1:=Lib.hid hS1;have HS2:=Lib.hid hS2;clear hul hS1 hS2;refine hK _ _ ?_;clear hK K
      refine wpAnyIn_take (i:=11) (v:=?_) rfl rfl (by kernel_rfl) (by kernel_rfl) (by kernel_rfl) (fun _ _ _ h=>h) ⟨Or.inl ⟨by rfl,?_⟩,fun _=>rfl⟩ ?_
      rotate_left 1
      ·(intro w;go_simp;try (with_reducible rfl))
      refine wpAnyIn_ready (rs:=[12]) (by kernel_rfl) (by simp) ?_
      refine AllReadyIn.cons rfl (fun K hK=>?_) AllReadyIn.nil
      go_simp;refine hK _ _ ?_;clear hK K
      refine wpAnyIn_done (by kernel_rfl) ?_ _
      gi_wp2
      exact ovR x st ne d1 d2 hl.out inv.out hBW hgr hg HUL.out hud hU' HS1.out HS2.out HV.out
   ·go_simp;refine hK _ _ ?_;clear hK K
    refine wpAnyIn_ready (rs:=[0,5,9]) (by kernel_rfl) (by simp) ?_
    refine AllReadyIn.cons rfl (fun K hK=>?_) (AllReadyIn.cons rfl (fun K hK=>?_) (AllReadyIn.cons rfl (fun K hK=>?_) AllReadyIn.nil))
    ·go_simp;refine hK _ _ ?_;clear hK K
     refine wpAnyIn_ready (rs:=[5,9]) (by kernel_rfl) (by simp) ?_
     refine AllReadyIn.cons rfl (fun K hK=>?_) (AllReadyIn.cons rfl (fun K hK=>?_) AllReadyIn.nil)
     ·go_simp;refine hK _ _ ?_;clear hK K
      refine wpAnyIn_take (i:=6) (v:=?_) rfl rfl (by kernel_rfl) (by kernel_rfl) (by kernel_rfl) (fun _ _ _ h=>h) ⟨Or.inl ⟨by rfl,?_⟩,fun _=>rfl⟩ ?_
      rotate_left 1
      ·(intro w;go_simp;try (with_reducible rfl))
      refine wpAnyIn_take (i:=7) (v:=?_) rfl rfl (by kernel_rfl) (by kernel_rfl) (by kernel_rfl) (fun _ _ _ h=>h) ⟨Or.inl ⟨by rfl,?_⟩,fun _=>rfl⟩ ?_
      rotate_left 1
      ·(intro w;go_simp;try (with_reducible rfl))
      refine wpAnyIn_take (i:=8) (v:=?_) rfl rfl (by kernel_rfl) (by kernel_rfl) (by kernel_rfl) (fun _ _ _ h=>h) ⟨Or.inl ⟨by rfl,?_⟩,fun _=>rfl⟩ ?_
      rotate_left 1
      ·(intro w;go_simp;try (with_reducible rfl))
      refine wpAnyIn_ready (rs:=[9]) (by kernel_rfl) (by simp) ?_
      refine AllReadyIn.cons rfl (fun K hK=>?_) AllReadyIn.nil
      go_simp;refine hK _ _ ?_;clear hK K
      refine wpAnyIn_ready (rs:=[10]) (by kernel_rfl) (by simp) ?_
      refine AllReadyIn.cons rfl (fun K hK=>?_) AllReadyIn.nil
      go_simp;refine ⟨trivial,?_⟩;gi_at_call 122;refine (callsIn_wide.2 (CALL.out _ _ _ (by omega))).mono ?_;rintro e w' ⟨g,u',rfl,hg,hul,hud,hU',hgr,hS1,hS2⟩;obtain ⟨a1,a2,a3,a4⟩:=zu (k:=x.1.1) st ne d2 (by have:=hl.out.2.2.1;omega) hgr;have HUL:=Lib.hid hul;have HS1:=Lib.hid hS1;have HS2:=Lib.hid hS2;clear hul hS1 hS2;refine hK _ _ ?_;clear hK K
      refine wpAnyIn_take (i:=11) (v:=?_) rfl rfl (by kernel_rfl) (by kernel_rfl) (by kernel_rfl) (fun _ _ _ h=>h) ⟨Or.inl ⟨by rfl,?_⟩,fun _=>rfl⟩ ?_
      rotate_left 1
      ·(intro w;go_simp;try (with_reducible rfl))
      refine wpAnyIn_ready (rs:=[12]) (by kernel_rfl) (by simp) ?_
      refine AllReadyIn.cons rfl (fun K hK=>?_) AllReadyIn.nil
      go_simp;refine hK _ _ ?_;clear hK K
      refine wpAnyIn_done (by kernel_rfl) ?_ _
      gi_wp2
      exact ovR x st ne d1 d2 hl.out inv.out hBW hgr hg HUL.out hud hU' HS1.out HS2.out HV.out
     ·go_simp;refine hK _ _ ?_;clear hK K
      refine wpAnyIn_ready (rs:=[5]) (by kernel_rfl) (by simp) ?_
      refine AllReadyIn.cons rfl (fun K hK=>?_) AllReadyIn.nil
      go_simp;refine hK _ _ ?_;clear hK K
      refine wpAnyIn_take (i:=6) (v:=?_) rfl rfl (by kernel_rfl) (by kernel_rfl) (by kernel_rfl) (fun _ _ _ h=>h) ⟨Or.inl ⟨by rfl,?_⟩,fun _=>rfl⟩ ?_
      rotate_left 1
      ·(intro w;go_simp;try (with_reducible rfl))
      refine wpAnyIn_take (i:=7) (v:=?_) rfl rfl (by kernel_rfl) (by kernel_rfl) (by kernel_rfl) (fun _ _ _ h=>h) ⟨Or.inl ⟨by rfl,?_⟩,fun _=>rfl⟩ ?_
      rotate_left 1
      ·(intro w;go_simp;try (with_reducible rfl))
      refine wpAnyIn_take (i:=8) (v:=?_) rfl rfl (by kernel_rfl) (by kernel_rfl) (by kernel_rfl) (fun _ _ _ h=>h) ⟨Or.inl ⟨by rfl,?_⟩,fun _=>rfl⟩ ?_
      rotate_left 1
      ·(intro w;go_simp;try (with_reducible rfl))
      refine wpAnyIn_ready (rs:=[10]) (by kernel_rfl) (by simp) ?_
      refine AllReadyIn.cons rfl (fun K hK=>?_) AllReadyIn.nil
      go_simp;refine ⟨trivial,?_⟩;gi_at_call 122;refine (callsIn_wide.2 (CALL.out _ _ _ (by omega))).mono ?_;rintro e w' ⟨g,u',rfl,hg,hul,hud,hU',hgr,hS1,hS2⟩;obtain ⟨a1,a2,a3,a4⟩:=zu (k:=x.1.1) st ne d2 (by have:=hl.out.2.2.1;omega) hgr;have HUL:=Lib.hid hul;have HS1:=Lib.hid hS1;have HS2:=Lib.hid hS2;clear hul hS1 hS2;refine hK _ _ ?_;clear hK K
      refine wpAnyIn_take (i:=11) (v:=?_) rfl rfl (by kernel_rfl) (by kernel_rfl) (by kernel_rfl) (fun _ _ _ h=>h) ⟨Or.inl ⟨by rfl,?_⟩,fun _=>rfl⟩ ?_
      rotate_left 1
      ·(intro w;go_simp;try (with_reducible rfl))
      refine wpAnyIn_ready (rs:=[12]) (by kernel_rfl) (by simp) ?_
      refine AllReadyIn.cons rfl (fun K hK=>?_) AllReadyIn.nil
      go_simp;refine hK _ _ ?_;clear hK K
      refine wpAnyIn_done (by kernel_rfl) ?_ _
      gi_wp2
      exact ovR x st ne d1 d2 hl.out inv.out hBW hgr hg HUL.out hud hU' HS1.out HS2.out HV.out
    ·go_simp;refine hK _ _ ?_;clear hK K
     refine wpAnyIn_take (i:=6) (v:=?_) rfl rfl (by kernel_rfl) (by kernel_rfl) (by kernel_rfl) (fun _ _ _ h=>h) ⟨Or.inl ⟨by rfl,?_⟩,fun _=>rfl⟩ ?_
     rotate_left 1
     ·(intro w;go_simp;try (with_reducible rfl))
     refine wpAnyIn_take (i:=7) (v:=?_) rfl rfl (by kernel_rfl) (by kernel_rfl) (by kernel_rfl) (fun _ _ _ h=>h) ⟨Or.inl ⟨by rfl,?_⟩,fun _=>rfl⟩ ?_
     rotate_left 1
     ·(intro w;go_simp;try (with_reducible rfl))
     refine wpAnyIn_take (i:=8) (v:=?_) rfl rfl (by kernel_rfl) (by kernel_rfl) (by kernel_rfl) (fun _ _ _ h=>h) ⟨Or.inl ⟨by rfl,?_⟩,fun _=>rfl⟩ ?_
     rotate_left 1
     ·(intro w;go_simp;try (with_reducible rfl))
     refine wpAnyIn_ready (rs:=[0,9]) (by kernel_rfl) (by simp) ?_
     refine AllReadyIn.cons rfl (fun K hK=>?_) (AllReadyIn.cons rfl (fun K hK=>?_) AllReadyIn.nil)
     ·go_simp;refine hK _ _ ?_;clear hK K
      refine wpAnyIn_ready (rs:=[9]) (by kernel_rfl) (by simp) ?_
      refine AllReadyIn.cons rfl (fun K hK=>?_) AllReadyIn.nil
      go_simp;refine hK _ _ ?_;clear hK K
      refine wpAnyIn_ready (rs:=[10]) (by kernel_rfl) (by simp) ?_
      refine AllReadyIn.cons rfl (fun K hK=>?_) AllReadyIn.nil
      go_simp;refine ⟨trivial,?_⟩;gi_at_call 122;refine (callsIn_wide.2 (CALL.out _ _ _ (by omega))).mono ?_;rintro e w' ⟨g,u',rfl,hg,hul,hud,hU',hgr,hS1,hS2⟩;obtain ⟨a1,a2,a3,a4⟩:=zu (k:=x.1.1) st ne d2 (by have:=hl.out.2.2.1;omega) hgr;have HUL:=Lib.hid hul;have HS1:=Lib.hid hS1;have HS2:=Lib.hid hS2;clear hul hS1 hS2;refine hK _ _ ?_;clear hK K
      refine wpAnyIn_take (i:=11) (v:=?_) rfl rfl (by kernel_rfl) (by kernel_rfl) (by kernel_rfl) (fun _ _ _ h=>h) ⟨Or.inl ⟨by rfl,?_⟩,fun _=>rfl⟩ ?_
      rotate_left 1
      ·(intro w;go_simp;try (with_reducible rfl))
      refine wpAnyIn_ready (rs:=[12]) (by kernel_rfl) (by simp) ?_
      refine AllReadyIn.cons rfl (fun K hK=>?_) AllReadyIn.nil
      go_simp;refine hK _ _ ?_;clear hK K
      refine wpAnyIn_done (by kernel_rfl) ?_ _
      gi_wp2
      exact ovR x st ne d1 d2 hl.out inv.out hBW hgr hg HUL.out hud hU' HS1.out HS2.out HV.out
     ·go_simp;refine hK _ _ ?_;clear hK K
      refine wpAnyIn_ready (rs:=[0,10]) (by kernel_rfl) (by simp) ?_
      refine AllReadyIn.cons rfl (fun K hK=>?_) (AllReadyIn.cons rfl (fun K hK=>?_) AllReadyIn.nil)
      ·go_simp;refine hK _ _ ?_;clear hK K
       refine wpAnyIn_ready (rs:=[10]) (by kernel_rfl) (by simp) ?_
       refine AllReadyIn.cons rfl (fun K hK=>?_) AllReadyIn.nil
       go_simp;refine ⟨trivial,?_⟩;gi_at_call 122;refine (callsIn_wide.2 (CALL.out _ _ _ (by omega))).mono ?_;rintro e w' ⟨g,u',rfl,hg,hul,hud,hU',hgr,hS1,hS2⟩;obtain ⟨a1,a2,a3,a4⟩:=zu (k:=x.1.1) st ne d2 (by have:=hl.out.2.2.1;omega) hgr;have HUL:=Lib.hid hul;have HS1:=Lib.hid hS1;have HS2:=Lib.hid hS2;clear hul hS1 hS2;refine hK _ _ ?_;clear hK K
       refine wpAnyIn_take (i:=11) (v:=?_) rfl rfl (by kernel_rfl) (by kernel_rfl) (by kernel_rfl) (fun _ _ _ h=>h) ⟨Or.inl ⟨by rfl,?_⟩,fun _=>rfl⟩ ?_
       rotate_left 1
       ·(intro w;go_simp;try (with_reducible rfl))
       refine wpAnyIn_ready (rs:=[12]) (by kernel_rfl) (by simp) ?_
       refine AllReadyIn.cons rfl (fun K hK=>?_) AllReadyIn.nil
       go_simp;refine hK _ _ ?_;clear hK K
       refine wpAnyIn_done (by kernel_rfl) ?_ _
       gi_wp2
       exact ovR x st ne d1 d2 hl.out inv.out hBW hgr hg HUL.out hud hU' HS1.out HS2.out HV.out
      ·go_simp;refine ⟨trivial,?_⟩;gi_at_call 122;refine (callsIn_wide.2 (CALL.out _ _ _ (by omega))).mono ?_;rintro e w' ⟨g,u',rfl,hg,hul,hud,hU',hgr,hS1,hS2⟩;obtain ⟨a1,a2,a3,a4⟩:=zu (k:=x.1.1) st ne d2 (by have:=hl.out.2.2.1;omega) hgr;have HUL:=Lib.hid hul;have HS1:=Lib.hid hS1;have HS2:=Lib.hid hS2;clear hul hS1 hS2;refine hK _ _ ?_;clear hK K
       refine wpAnyIn_ready (rs:=[0]) (by kernel_rfl) (by simp) ?_
       refine AllReadyIn.cons rfl (fun K hK=>?_) AllReadyIn.nil
       go_simp;refine hK _ _ ?_;clear hK K
       refine wpAnyIn_take (i:=11) (v:=?_) rfl rfl (by kernel_rfl) (by kernel_rfl) (by kernel_rfl) (fun _ _ _ h=>h) ⟨Or.inl ⟨by rfl,?_⟩,fun _=>rfl⟩ ?_
       rotate_left 1
       ·(intro w;go_simp;try (with_reducible rfl))
       refine wpAnyIn_ready (rs:=[12]) (by kernel_rfl) (by simp) ?_
       refine AllReadyIn.cons rfl (fun K hK=>?_) AllReadyIn.nil
       go_simp;refine hK _ _ ?_;clear hK K
       refine wpAnyIn_done (by kernel_rfl) ?_ _
       gi_wp2
       exact ovR x st ne d1 d2 hl.out inv.out hBW hgr hg HUL.out hud hU' HS1.out HS2.out HV.out
    ·go_simp;refine hK _ _ ?_;clear hK K
     refine wpAnyIn_ready (rs:=[0,5]) (by kernel_rfl) (by simp) ?_
     refine AllReadyIn.cons rfl (fun K hK=>?_) (AllReadyIn.cons rfl (fun K hK=>?_) AllReadyIn.nil)
     ·go_simp;refine hK _ _ ?_;clear hK K
      refine wpAnyIn_ready (rs:=[5]) (by kernel_rfl) (by simp) ?_
      refine AllReadyIn.cons rfl (fun K hK=>?_) AllReadyIn.nil
      go_simp;refine hK _ _ ?_;clear hK K
      refine wpAnyIn_take (i:=6) (v:=?_) rfl rfl (by kernel_rfl) (by kernel_rfl) (by kernel_rfl) (fun _ _ _ h=>h) ⟨Or.inl ⟨by rfl,?_⟩,fun _=>rfl⟩ ?_
      rotate_left 1
      ·(intro w;go_simp;try (with_reducible rfl))
      refine wpAnyIn_take (i:=7) (v:=?_) rfl rfl (by kernel_rfl) (by kernel_rfl) (by kernel_rfl) (fun _ _ _ h=>h) ⟨Or.inl ⟨by rfl,?_⟩,fun _=>rfl⟩ ?_
      rotate_left 1
      ·(intro w;go_simp;try (with_reducible rfl))
      refine wpAnyIn_take (i:=8) (v:=?_) rfl rfl (by kernel_rfl) (by kernel_rfl) (by kernel_rfl) (fun _ _ _ h=>h) ⟨Or.inl ⟨by rfl,?_⟩,fun _=>rfl⟩ ?_
      rotate_left 1
      ·(intro w;go_simp;try (with_reducible rfl))
      refine wpAnyIn_ready (rs:=[10]) (by kernel_rfl) (by simp) ?_
      refine AllReadyIn.cons rfl (fun K hK=>?_) AllReadyIn.nil
      go_simp;refine ⟨trivial,?_⟩;gi_at_call 122;refine (callsIn_wide.2 (CALL.out _ _ _ (by omega))).mono ?_;rintro e w' ⟨g,u',rfl,hg,hul,hud,hU',hgr,hS1,hS2⟩;obtain ⟨a1,a2,a3,a4⟩:=zu (k:=x.1.1) st ne d2 (by have:=hl.out.2.2.1;omega) hgr;have HUL:=Lib.hid hul;have HS1:=Lib.hid hS1;have HS2:=Lib.hid hS2;clear hul hS1 hS2;refine hK _ _ ?_;clear hK K
      refine wpAnyIn_take (i:=11) (v:=?_) rfl rfl (by kernel_rfl) (by kernel_rfl) (by kernel_rfl) (fun _ _ _ h=>h) ⟨Or.inl ⟨by rfl,?_⟩,fun _=>rfl⟩ ?_
      rotate_left 1
      ·(intro w;go_simp;try (with_reducible rfl))
      refine wpAnyIn_ready (rs:=[12]) (by kernel_rfl) (by simp) ?_
      refine AllReadyIn.cons rfl (fun K hK=>?_) AllReadyIn.nil
      go_simp;refine hK _ _ ?_;clear hK K
      refine wpAnyIn_done (by kernel_rfl) ?_ _
      gi_wp2
      exact ovR x st ne d1 d2 hl.out inv.out hBW hgr hg HUL.out hud hU' HS1.out HS2.out HV.out
     ·go_simp;refine hK _ _ ?_;clear hK K
      refine wpAnyIn_take (i:=6) (v:=?_) rfl rfl (by kernel_rfl) (by kernel_rfl) (by kernel_rfl) (fun _ _ _ h=>h) ⟨Or.inl ⟨by rfl,?_⟩,fun _=>rfl⟩ ?_
      rotate_left 1
      ·(intro w;go_simp;try (with_reducible rfl))
      refine wpAnyIn_take (i:=7) (v:=?_) rfl rfl (by kernel_rfl) (by kernel_rfl) (by kernel_rfl) (fun _ _ _ h=>h) ⟨Or.inl ⟨by rfl,?_⟩,fun _=>rfl⟩ ?_
      rotate_left 1
      ·(intro w;go_simp;try (with_reducible rfl))
      refine wpAnyIn_take (i:=8) (v:=?_) rfl rfl (by kernel_rfl) (by kernel_rfl) (by kernel_rfl) (fun _ _ _ h=>h) ⟨Or.inl ⟨by rfl,?_⟩,fun _=>rfl⟩ ?_
      rotate_left 1
      ·(intro w;go_simp;try (with_reducible rfl))
      refine wpAnyIn_ready (rs:=[0,10]) (by kernel_rfl) (by simp) ?_
      refine AllReadyIn.cons rfl (fun K hK=>?_) (AllReadyIn.cons rfl (fun K hK=>?_) AllReadyIn.nil)
      ·go_simp;refine hK _ _ ?_;clear hK K
       refine wpAnyIn_ready (rs:=[10]) (by kernel_rfl) (by simp) ?_
       refine AllReadyIn.cons rfl (fun K hK=>?_) AllReadyIn.nil
       go_simp;refine ⟨trivial,?_⟩;gi_at_call 122;refine (callsIn_wide.2 (CALL.out _ _ _ (by omega))).mono ?_;rintro e w' ⟨g,u',rfl,hg,hul,hud,hU',hgr,hS1,hS2⟩;obtain ⟨a1,a2,a3,a4⟩:=zu (k:=x.1.1) st ne d2 (by have:=hl.out.2.2.1;omega) hgr;have HUL:=Lib.hid hul;have HS1:=Lib.hid hS1;have HS2:=Lib.hid hS2;clear hul hS1 hS2;refine hK _ _ ?_;clear hK K
       refine wpAnyIn_take (i:=11) (v:=?_) rfl rfl (by kernel_rfl) (by kernel_rfl) (by kernel_rfl) (fun _ _ _ h=>h) ⟨Or.inl ⟨by rfl,?_⟩,fun _=>rfl⟩ ?_
       rotate_left 1
       ·(intro w;go_simp;try (with_reducible rfl))
       refine wpAnyIn_ready (rs:=[12]) (by kernel_rfl) (by simp) ?_
       refine AllReadyIn.cons rfl (fun K hK=>?_) AllReadyIn.nil
       go_simp;refine hK _ _ ?_;clear hK K
       refine wpAnyIn_done (by kernel_rfl) ?_ _
       gi_wp2
       exact ovR x st ne d1 d2 hl.out inv.out hBW hgr hg HUL.out hud hU' HS1.out HS2.out HV.out
      ·go_simp;refine ⟨trivial,?_⟩;gi_at_call 122;refine (callsIn_wide.2 (CALL.out _ _ _ (by omega))).mono ?_;rintro e w' ⟨g,u',rfl,hg,hul,hud,hU',hgr,hS1,hS2⟩;obtain ⟨a1,a2,a3,a4⟩:=zu (k:=x.1.1) st ne d2 (by have:=hl.out.2.2.1;omega) hgr;have HUL:=Lib.hid hul;have HS1:=Lib.hid hS1;have HS2:=Lib.hid hS2;clear hul hS1 hS2;refine hK _ _ ?_;clear hK K
       refine wpAnyIn_ready (rs:=[0]) (by kernel_rfl) (by simp) ?_
       refine AllReadyIn.cons rfl (fun K hK=>?_) AllReadyIn.nil
       go_simp;refine hK _ _ ?_;clear hK K
       refine wpAnyIn_take (i:=11) (v:=?_) rfl rfl (by kernel_rfl) (by kernel_rfl) (by kernel_rfl) (fun _ _ _ h=>h) ⟨Or.inl ⟨by rfl,?_⟩,fun _=>rfl⟩ ?_
       rotate_left 1
       ·(intro w;go_simp;try (with_reducible rfl))
       refine wpAnyIn_ready (rs:=[12]) (by kernel_rfl) (by simp) ?_
       refine AllReadyIn.cons rfl (fun K hK=>?_) AllReadyIn.nil
       go_simp;refine hK _ _ ?_;clear hK K
       refine wpAnyIn_done (by kernel_rfl) ?_ _
       gi_wp2
       exact ovR x st ne d1 d2 hl.out inv.out hBW hgr hg HUL.out hud hU' HS1.out HS2.out HV.out
   ·go_simp;refine hK _ _ ?_;clear hK K
    refine wpAnyIn_take (i:=6) (v:=?_) rfl rfl (by kernel_rfl) (by kernel_rfl) (by kernel_rfl) (fun _ _ _ h=>h) ⟨Or.inl ⟨by rfl,?_⟩,fun _=>rfl⟩ ?_
    rotate_left 1
    ·(intro w;go_simp;try (with_reducible rfl))
    refine wpAnyIn_take (i:=7) (v:=?_) rfl rfl (by kernel_rfl) (by kernel_rfl) (by kernel_rfl) (fun _ _ _ h=>h) ⟨Or.inl ⟨by rfl,?_⟩,fun _=>rfl⟩ ?_
    rotate_left 1
    ·(intro w;go_simp;try (with_reducible rfl))
    refine wpAnyIn_ready (rs:=[0,2,9]) (by kernel_rfl) (by simp) ?_
    refine AllReadyIn.cons rfl (fun K hK=>?_) (AllReadyIn.cons rfl (fun K hK=>?_) (AllReadyIn.cons rfl (fun K hK=>?_) AllReadyIn.nil))
    ·go_simp;refine hK _ _ ?_;clear hK K
     refine wpAnyIn_ready (rs:=[2,9]) (by kernel_rfl) (by simp) ?_
     refine AllReadyIn.cons rfl (fun K hK=>?_) (AllReadyIn.cons rfl (fun K hK=>?_) AllReadyIn.nil)
     ·go_simp;refine hK _ _ ?_;clear hK K
      refine wpAnyIn_take (i:=8) (v:=?_) rfl rfl (by kernel_rfl) (by kernel_rfl) (by kernel_rfl) (fun _ _ _ h=>h) ⟨Or.inl ⟨by rfl,?_⟩,fun _=>rfl⟩ ?_
      rotate_left 1
      ·(intro w;go_simp;try (with_reducible rfl))
      refine wpAnyIn_ready (rs:=[9]) (by kernel_rfl) (by simp) ?_
      refine AllReadyIn.cons rfl (fun K hK=>?_) AllReadyIn.nil
      go_simp;refine hK _ _ ?_;clear hK K
      refine wpAnyIn_ready (rs:=[10]) (by kernel_rfl) (by simp) ?_
      refine AllReadyIn.cons rfl (fun K hK=>?_) AllReadyIn.nil
      go_simp;refine ⟨trivial,?_⟩;gi_at_call 122;refine (callsIn_wide.2 (CALL.out _ _ _ (by omega))).mono ?_;rintro e w' ⟨g,u',rfl,hg,hul,hud,hU',hgr,hS1,hS2⟩;obtain ⟨a1,a2,a3,a4⟩:=zu (k:=x.1.1) st ne d2 (by have:=hl.out.2.2.1;omega) hgr;have HUL:=Lib.hid hul;have HS1:=Lib.hid hS1;have HS2:=Lib.hid hS2;clear hul hS1 hS2;refine hK _ _ ?_;clear hK K
      refine wpAnyIn_take (i:=11) (v:=?_) rfl rfl (by kernel_rfl) (by kernel_rfl) (by kernel_rfl) (fun _ _ _ h=>h) ⟨Or.inl ⟨by rfl,?_⟩,fun _=>rfl⟩ ?_
      rotate_left 1
      ·(intro w;go_simp;try (with_reducible rfl))
      refine wpAnyIn_ready (rs:=[12]) (by kernel_rfl) (by simp) ?_
      refine AllReadyIn.cons rfl (fun K hK=>?_) AllReadyIn.nil
      go_simp;refine hK _ _ ?_;clear hK K
      refine wpAnyIn_done (by kernel_rfl) ?_ _
      gi_wp2
      exact ovR x st ne d1 d2 hl.out inv.out hBW hgr hg HUL.out hud hU' HS1.out HS2.out HV.out
     ·go_simp;refine hK _ _ ?_;clear hK K
      refine wpAnyIn_ready (rs:=[2]) (by kernel_rfl) (by simp) ?_
      refine AllReadyIn.cons rfl (fun K hK=>?_) AllReadyIn.nil
      go_simp;refine hK _ _ ?_;clear hK K
      refine wpAnyIn_take (i:=8) (v:=?_) rfl rfl (by kernel_rfl) (by kernel_rfl) (by kernel_rfl) (fun _ _ _ h=>h) ⟨Or.inl ⟨by rfl,?_⟩,fun _=>rfl⟩ ?_
      rotate_left 1
      ·(intro w;go_simp;try (with_reducible rfl))
      refine wpAnyIn_ready (rs:=[10]) (by kernel_rfl) (by simp) ?_
      refine AllReadyIn.cons rfl (fun K hK=>?_) AllReadyIn.nil
      go_simp;refine ⟨trivial,?_⟩;gi_at_call 122;refine (callsIn_wide.2 (CALL.out _ _ _ (by omega))).mono ?_;rintro e w' ⟨g,u',rfl,hg,hul,hud,hU',hgr,hS1,hS2⟩;obtain ⟨a1,a2,a3,a4⟩:=zu (k:=x.1.1) st ne d2 (by have:=hl.out.2.2.1;omega) hgr;have HUL:=Lib.hid hul;have HS1:=Lib.hid hS1;have HS2:=Lib.hid hS2;clear hul hS1 hS2;refine hK _ _ ?_;clear hK K
      refine wpAnyIn_take (i:=11) (v:=?_) rfl rfl (by kernel_rfl) (by kernel_rfl) (by kernel_rfl) (fun _ _ _ h=>h) ⟨Or.inl ⟨by rfl,?_⟩,fun _=>rfl⟩ ?_
      rotate_left 1
      ·(intro w;go_simp;try (with_reducible rfl))
      refine wpAnyIn_ready (rs:=[12]) (by kernel_rfl) (by simp) ?_
      refine AllReadyIn.cons rfl (fun K hK=>?_) AllReadyIn.nil
      go_simp;refine hK _ _ ?_;clear hK K
      refine wpAnyIn_done (by kernel_rfl) ?_ _
      gi_wp2
      exact ovR x st ne d1 d2 hl.out inv.out hBW hgr hg HUL.out hud hU' HS1.out HS2.out HV.out
    ·go_simp;refine hK _ _ ?_;clear hK K
     refine wpAnyIn_take (i:=8) (v:=?_) rfl rfl (by kernel_rfl) (by kernel_rfl) (by kernel_rfl) (fun _ _ _ h=>h) ⟨Or.inl ⟨by rfl,?_⟩,fun _=>rfl⟩ ?_
     rotate_left 1
     ·(intro w;go_simp;try (with_reducible rfl))
     refine wpAnyIn_ready (rs:=[0,9]) (by kernel_rfl) (by simp) ?_
     refine AllReadyIn.cons rfl (fun K hK=>?_) (AllReadyIn.cons rfl (fun K hK=>?_) AllReadyIn.nil)
     ·go_simp;refine hK _ _ ?_;clear hK K
      refine wpAnyIn_ready (rs:=[9]) (by kernel_rfl) (by simp) ?_
      refine AllReadyIn.cons rfl (fun K hK=>?_) AllReadyIn.nil
      go_simp;refine hK _ _ ?_;clear hK K
      refine wpAnyIn_ready (rs:=[10]) (by kernel_rfl) (by simp) ?_
      refine AllReadyIn.cons rfl (fun K hK=>?_) AllReadyIn.nil
      go_simp;refine ⟨trivial,?_⟩;gi_at_call 122;refine (callsIn_wide.2 (CALL.out _ _ _ (by omega))).mono ?_;rintro e w' ⟨g,u',rfl,hg,hul,hud,hU',hgr,hS1,hS2⟩;obtain ⟨a1,a2,a3,a4⟩:=zu (k:=x.1.1) st ne d2 (by have:=hl.out.2.2.1;omega) hgr;have HUL:=Lib.hid hul;have HS1:=Lib.hid hS1;have HS2:=Lib.hid hS2;clear hul hS1 hS2;refine hK _ _ ?_;clear hK K
      refine wpAnyIn_take (i:=11) (v:=?_) rfl rfl (by kernel_rfl) (by kernel_rfl) (by kernel_rfl) (fun _ _ _ h=>h) ⟨Or.inl ⟨by rfl,?_⟩,fun _=>rfl⟩ ?_
      rotate_left 1
      ·(intro w;go_simp;try (with_reducible rfl))
      refine wpAnyIn_ready (rs:=[12]) (by kernel_rfl) (by simp) ?_
      refine AllReadyIn.cons rfl (fun K hK=>?_) AllReadyIn.nil
      go_simp;refine hK _ _ ?_;clear hK K
      refine wpAnyIn_done (by kernel_rfl) ?_ _
      gi_wp2
      exact ovR x st ne d1 d2 hl.out inv.out hBW hgr hg HUL.out hud hU' HS1.out HS2.out HV.out
     ·go_simp;refine hK _ _ ?_;clear hK K
      refine wpAnyIn_ready (rs:=[0,10]) (by kernel_rfl) (by simp) ?_
      refine AllReadyIn.cons rfl (fun K hK=>?_) (AllReadyIn.cons rfl (fun K hK=>?_) AllReadyIn.nil)
      ·go_simp;refine hK _ _ ?_;clear hK K
       refine wpAnyIn_ready (rs:=[10]) (by kernel_rfl) (by simp) ?_
       refine AllReadyIn.cons rfl (fun K hK=>?_) AllReadyIn.nil
       go_simp;refine ⟨trivial,?_⟩;gi_at_call 122;refine (callsIn_wide.2 (CALL.out _ _ _ (by omega))).mono ?_;rintro e w' ⟨g,u',rfl,hg,hul,hud,hU',hgr,hS1,hS2⟩;obtain ⟨a1,a2,a3,a4⟩:=zu (k:=x.1.1) st ne d2 (by have:=hl.out.2.2.1;omega) hgr;have HUL:=Lib.hid hul;have HS1:=Lib.hid hS1;have HS2:=Lib.hid hS2;clear hul hS1 hS2;refine hK _ _ ?_;clear hK K
       refine wpAnyIn_take (i:=11) (v:=?_) rfl rfl (by kernel_rfl) (by kernel_rfl) (by kernel_rfl) (fun _ _ _ h=>h) ⟨Or.inl ⟨by rfl,?_⟩,fun _=>rfl⟩ ?_
       rotate_left 1
       ·(intro w;go_simp;try (with_reducible rfl))
       refine wpAnyIn_ready (rs:=[12]) (by kernel_rfl) (by simp) ?_
       refine AllReadyIn.cons rfl (fun K hK=>?_) AllReadyIn.nil
       go_simp;refine hK _ _ ?_;clear hK K
       refine wpAnyIn_done (by kernel_rfl) ?_ _
       gi_wp2
       exact ovR x st ne d1 d2 hl.out inv.out hBW hgr hg HUL.out hud hU' HS1.out HS2.out HV.out
      ·go_simp;refine ⟨trivial,?_⟩;gi_at_call 122;refine (callsIn_wide.2 (CALL.out _ _ _ (by omega))).mono ?_;rintro e w' ⟨g,u',rfl,hg,hul,hud,hU',hgr,hS1,hS2⟩;obtain ⟨a1,a2,a3,a4⟩:=zu (k:=x.1.1) st ne d2 (by have:=hl.out.2.2.1;omega) hgr;have HUL:=Lib.hid hul;have HS1:=Lib.hid hS1;have HS2:=Lib.hid hS2;clear hul hS1 hS2;refine hK _ _ ?_;clear hK K
       refine wpAnyIn_ready (rs:=[0]) (by kernel_rfl) (by simp) ?_
       refine AllReadyIn.cons rfl (fun K hK=>?_) AllReadyIn.nil
       go_simp;refine hK _ _ ?_;clear hK K
       refine wpAnyIn_take (i:=11) (v:=?_) rfl rfl (by kernel_rfl) (by kernel_rfl) (by kernel_rfl) (fun _ _ _ h=>h) ⟨Or.inl ⟨by rfl,?_⟩,fun _=>rfl⟩ ?_
       rotate_left 1
       ·(intro w;go_simp;try (with_reducible rfl))
       refine wpAnyIn_ready (rs:=[12]) (by kernel_rfl) (by simp) ?_
       refine AllReadyIn.cons rfl (fun K hK=>?_) AllReadyIn.nil
       go_simp;refine hK _ _ ?_;clear hK K
       refine wpAnyIn_done (by kernel_rfl) ?_ _
       gi_wp2
       exact ovR x st ne d1 d2 hl.out inv.out hBW hgr hg HUL.out hud hU' HS1.out HS2.out HV.out
    ·go_simp;refine hK _ _ ?_;clear hK K
     refine wpAnyIn_ready (rs:=[0,2]) (by kernel_rfl) (by simp) ?_
     refine AllReadyIn.cons rfl (fun K hK=>?_) (AllReadyIn.cons rfl (fun K hK=>?_) AllReadyIn.nil)
     ·go_simp;refine hK _ _ ?_;clear hK K
      refine wpAnyIn_ready (rs:=[2]) (by kernel_rfl) (by simp) ?_
      refine AllReadyIn.cons rfl (fun K hK=>?_) AllReadyIn.nil
      go_simp;refine hK _ _ ?_;clear hK K
      refine wpAnyIn_take (i:=8) (v:=?_) rfl rfl (by kernel_rfl) (by kernel_rfl) (by kernel_rfl) (fun _ _ _ h=>h) ⟨Or.inl ⟨by rfl,?_⟩,fun _=>rfl⟩ ?_
      rotate_left 1
      ·(intro w;go_simp;try (with_reducible rfl))
      refine wpAnyIn_ready (rs:=[10]) (by kernel_rfl) (by simp) ?_
      refine AllReadyIn.cons rfl (fun K hK=>?_) AllReadyIn.nil
      go_simp;refine ⟨trivial,?_⟩;gi_at_call 122;refine (callsIn_wide.2 (CALL.out _ _ _ (by omega))).mono ?_;rintro e w' ⟨g,u',rfl,hg,hul,hud,hU',hgr,hS1,hS2⟩;obtain ⟨a1,a2,a3,a4⟩:=zu (k:=x.1.1) st ne d2 (by have:=hl.out.2.2.1;omega) hgr;have HUL:=Lib.hid hul;have HS1:=Lib.hid hS1;have HS2:=Lib.hid hS2;clear hul hS1 hS2;refine hK _ _ ?_;clear hK K
      refine wpAnyIn_take (i:=11) (v:=?_) rfl rfl (by kernel_rfl) (by kernel_rfl) (by kernel_rfl) (fun _ _ _ h=>h) ⟨Or.inl ⟨by rfl,?_⟩,fun _=>rfl⟩ ?_
      rotate_left 1
      ·(intro w;go_simp;try (with_reducible rfl))
      refine wpAnyIn_ready (rs:=[12]) (by kernel_rfl) (by simp) ?_
      refine AllReadyIn.cons rfl (fun K hK=>?_) AllReadyIn.nil
      go_simp;refine hK _ _ ?_;clear hK K
      refine wpAnyIn_done (by kernel_rfl) ?_ _
      gi_wp2
      exact ovR x st ne d1 d2 hl.out inv.out hBW hgr hg HUL.out hud hU' HS1.out HS2.out HV.out
     ·go_simp;refine hK _ _ ?_;clear hK K
      refine wpAnyIn_take (i:=8) (v:=?_) rfl rfl (by kernel_rfl) (by kernel_rfl) (by kernel_rfl) (fun _ _ _ h=>h) ⟨Or.inl ⟨by rfl,?_⟩,fun _=>rfl⟩ ?_
      rotate_left 1
      ·(intro w;go_simp;try (with_reducible rfl))
      refine wpAnyIn_ready (rs:=[0,10]) (by kernel_rfl) (by simp) ?_
      refine AllReadyIn.cons rfl (fun K hK=>?_) (AllReadyIn.cons rfl (fun K hK=>?_) AllReadyIn.nil)
      ·go_simp;refine hK _ _ ?_;clear hK K
       refine wpAnyIn_ready (rs:=[10]) (by kernel_rfl) (by simp) ?_
       refine AllReadyIn.cons rfl (fun K hK=>?_) AllReadyIn.nil
       go_simp;refine ⟨trivial,?_⟩;gi_at_call 122;refine (callsIn_wide.2 (CALL.out _ _ _ (by omega))).mono ?_;rintro e w' ⟨g,u',rfl,hg,hul,hud,hU',hgr,hS1,hS2⟩;obtain ⟨a1,a2,a3,a4⟩:=zu (k:=x.1.1) st ne d2 (by have:=hl.out.2.2.1;omega) hgr;have HUL:=Lib.hid hul;have HS1:=Lib.hid hS1;have HS2:=Lib.hid hS2;clear hul hS1 hS2;refine hK _ _ ?_;clear hK K
       refine wpAnyIn_take (i:=11) (v:=?_) rfl rfl (by kernel_rfl) (by kernel_rfl) (by kernel_rfl) (fun _ _ _ h=>h) ⟨Or.inl ⟨by rfl,?_⟩,fun _=>rfl⟩ ?_
       rotate_left 1
       ·(intro w;go_simp;try (with_reducible rfl))
       refine wpAnyIn_ready (rs:=[12]) (by kernel_rfl) (by simp) ?_
       refine AllReadyIn.cons rfl (fun K hK=>?_) AllReadyIn.nil
       go_simp;refine hK _ _ ?_;clear hK K
       refine wpAnyIn_done (by kernel_rfl) ?_ _
       gi_wp2
       exact ovR x st ne d1 d2 hl.out inv.out hBW hgr hg HUL.out hud hU' HS1.out HS2.out HV.out
      ·go_simp;refine ⟨trivial,?_⟩;gi_at_call 122;refine (callsIn_wide.2 (CALL.out _ _ _ (by omega))).mono ?_;rintro e w' ⟨g,u',rfl,hg,hul,hud,hU',hgr,hS1,hS2⟩;obtain ⟨a1,a2,a3,a4⟩:=zu (k:=x.1.1) st ne d2 (by have:=hl.out.2.2.1;omega) hgr;have HUL:=Lib.hid hul;have HS1:=Lib.hid hS1;have HS2:=Lib.hid hS2;clear hul hS1 hS2;refine hK _ _ ?_;clear hK K
       refine wpAnyIn_ready (rs:=[0]) (by kernel_rfl) (by simp) ?_
       refine AllReadyIn.cons rfl (fun K hK=>?_) AllReadyIn.nil
       go_simp;refine hK _ _ ?_;clear hK K
       refine wpAnyIn_take (i:=11) (v:=?_) rfl rfl (by kernel_rfl) (by kernel_rfl) (by kernel_rfl) (fun _ _ _ h=>h) ⟨Or.inl ⟨by rfl,?_⟩,fun _=>rfl⟩ ?_
       rotate_left 1
       ·(intro w;go_simp;try (with_reducible rfl))
       refine wpAnyIn_ready (rs:=[12]) (by kernel_rfl) (by simp) ?_
       refine AllReadyIn.cons rfl (fun K hK=>?_) AllReadyIn.nil
       go_simp;refine hK _ _ ?_;clear hK K
       refine wpAnyIn_done (by kernel_rfl) ?_ _
       gi_wp2
       exact ovR x st ne d1 d2 hl.out inv.out hBW hgr hg HUL.out hud hU' HS1.out HS2.out HV.out
   ·go_simp;refine hK _ _ ?_;clear hK K
    refine wpAnyIn_ready (rs:=[0,2,5]) (by kernel_rfl) (by simp) ?_
    refine AllReadyIn.cons rfl (fun K hK=>?_) (AllReadyIn.cons rfl (fun K hK=>?_) (AllReadyIn.cons rfl (fun K hK=>?_) AllReadyIn.nil))
    ·go_simp;refine hK _ _ ?_;clear hK K
     refine wpAnyIn_ready (rs:=[2,5]) (by kernel_rfl) (by simp) ?_
     refine AllReadyIn.cons rfl (fun K hK=>?_) (AllReadyIn.cons rfl (fun K hK=>?_) AllReadyIn.nil)
     ·go_simp;refine hK _ _ ?_;clear hK K
      refine wpAnyIn_ready (rs:=[5]) (by kernel_rfl) (by simp) ?_
      refine AllReadyIn.cons rfl (fun K hK=>?_) AllReadyIn.nil
      go_simp;refine hK _ _ ?_;clear hK K
      refine wpAnyIn_take (i:=6) (v:=?_) rfl rfl (by kernel_rfl) (by kernel_rfl) (by kernel_rfl) (fun _ _ _ h=>h) ⟨Or.inl ⟨by rfl,?_⟩,fun _=>rfl⟩ ?_
      rotate_left 1
      ·(intro w;go_simp;try (with_reducible rfl))
      refine wpAnyIn_take (i:=7) (v:=?_) rfl rfl (by kernel_rfl) (by kernel_rfl) (by kernel_rfl) (fun _ _ _ h=>h) ⟨Or.inl ⟨by rfl,?_⟩,fun _=>rfl⟩ ?_
      rotate_left 1
      ·(intro w;go_simp;try (with_reducible rfl))
      refine wpAnyIn_take (i:=8) (v:=?_) rfl rfl (by kernel_rfl) (by kernel_rfl) (by kernel_rfl) (fun _ _ _ h=>h) ⟨Or.inl ⟨by rfl,?_⟩,fun _=>rfl⟩ ?_
      rotate_left 1
      ·(intro w;go_simp;try (with_reducible rfl))
      refine wpAnyIn_ready (rs:=[10]) (by kernel_rfl) (by simp) ?_
      refine AllReadyIn.cons rfl (fun K hK=>?_) AllReadyIn.nil
      go_simp;refine ⟨trivial,?_⟩;gi_at_call 122;refine (callsIn_wide.2 (CALL.out _ _ _ (by omega))).mono ?_;rintro e w' ⟨g,u',rfl,hg,hul,hud,hU',hgr,hS1,hS2⟩;obtain ⟨a1,a2,a3,a4⟩:=zu (k:=x.1.1) st ne d2 (by have:=hl.out.2.2.1;omega) hgr;have HUL:=Lib.hid hul;have HS1:=Lib.hid hS1;have HS2:=Lib.hid hS2;clear hul hS1 hS2;refine hK _ _ ?_;clear hK K
      refine wpAnyIn_take (i:=11) (v:=?_) rfl rfl (by kernel_rfl) (by kernel_rfl) (by kernel_rfl) (fun _ _ _ h=>h) ⟨Or.inl ⟨by rfl,?_⟩,fun _=>rfl⟩ ?_
      rotate_left 1
      ·(intro w;go_simp;try (with_reducible rfl))
      refine wpAnyIn_ready (rs:=[12]) (by kernel_rfl) (by simp) ?_
      refine AllReadyIn.cons rfl (fun K hK=>?_) AllReadyIn.nil
      go_simp;refine hK _ _ ?_;clear hK K
      refine wpAnyIn_done (by kernel_rfl) ?_ _
      gi_wp2
      exact ovR x st ne d1 d2 hl.out inv.out hBW hgr hg HUL.out hud hU' HS1.out HS2.out HV.out
     ·go_simp;refine hK _ _ ?_;clear hK K
      refine wpAnyIn_take (i:=6) (v:=?_) rfl rfl (by kernel_rfl) (by kernel_rfl) (by kernel_rfl) (fun _ _ _ h=>h) ⟨Or.inl ⟨by rfl,?_⟩,fun _=>rfl⟩ ?_
      rotate_left 1
      ·(intro w;go_simp;try (with_reducible rfl))
      refine wpAnyIn_take (i:=7) (v:=?_) rfl rfl (by kernel_rfl) (by kernel_rfl) (by kernel_rfl) (fun _ _ _ h=>h) ⟨Or.inl ⟨by rfl,?_⟩,fun _=>rfl⟩ ?_
      rotate_left 1
      ·(intro w;go_simp;try (with_reducible rfl))
      refine wpAnyIn_ready (rs:=[2]) (by kernel_rfl) (by simp) ?_
      refine AllReadyIn.cons rfl (fun K hK=>?_) AllReadyIn.nil
      go_simp;refine hK _ _ ?_;clear hK K
      refine wpAnyIn_take (i:=8) (v:=?_) rfl rfl (by kernel_rfl) (by kernel_rfl) (by kernel_rfl) (fun _ _ _ h=>h) ⟨Or.inl ⟨by rfl,?_⟩,fun _=>rfl⟩ ?_
      rotate_left 1
      ·(intro w;go_simp;try (with_reducible rfl))
      refine wpAnyIn_ready (rs:=[10]) (by kernel_rfl) (by simp) ?_
      refine AllReadyIn.cons rfl (fun K hK=>?_) AllReadyIn.nil
      go_simp;refine ⟨trivial,?_⟩;gi_at_call 122;refine (callsIn_wide.2 (CALL.out _ _ _ (by omega))).mono ?_;rintro e w' ⟨g,u',rfl,hg,hul,hud,hU',hgr,hS1,hS2⟩;obtain ⟨a1,a2,a3,a4⟩:=zu (k:=x.1.1) st ne d2 (by have:=hl.out.2.2.1;omega) hgr;have HUL:=Lib.hid hul;have HS1:=Lib.hid hS1;have HS2:=Lib.hid hS2;clear hul hS1 hS2;refine hK _ _ ?_;clear hK K
      refine wpAnyIn_take (i:=11) (v:=?_) rfl rfl (by kernel_rfl) (by kernel_rfl) (by kernel_rfl) (fun _ _ _ h=>h) ⟨Or.inl ⟨by rfl,?_⟩,fun _=>rfl⟩ ?_
      rotate_left 1
      ·(intro w;go_simp;try (with_reducible rfl))
      refine wpAnyIn_ready (rs:=[12]) (by kernel_rfl) (by simp) ?_
      refine AllReadyIn.cons rfl (fun K hK=>?_) AllReadyIn.nil
      go_simp;refine hK _ _ ?_;clear hK K
      refine wpAnyIn_done (by kernel_rfl) ?_ _
      gi_wp2
      exact ovR x st ne d1 d2 hl.out inv.out hBW hgr hg HUL.out hud hU' HS1.out HS2.out HV.out
    ·go_simp;refine hK _ _ ?_;clear hK K
     refine wpAnyIn_ready (rs:=[0,5]) (by kernel_rfl) (by simp) ?_
     refine AllReadyIn.cons rfl (fun K hK=>?_) (AllReadyIn.cons rfl (fun K hK=>?_) AllReadyIn.nil)
     ·go_simp;refine hK _ _ ?_;clear hK K
      refine wpAnyIn_ready (rs:=[5]) (by kernel_rfl) (by simp) ?_
      refine AllReadyIn.cons rfl (fun K hK=>?_) AllReadyIn.nil
      go_simp;refine hK _ _ ?_;clear hK K
      refine wpAnyIn_take (i:=6) (v:=?_) rfl rfl (by kernel_rfl) (by kernel_rfl) (by kernel_rfl) (fun _ _ _ h=>h) ⟨Or.inl ⟨by rfl,?_⟩,fun _=>rfl⟩ ?_
      rotate_left 1
      ·(intro w;go_simp;try (with_reducible rfl))
      refine wpAnyIn_take (i:=7) (v:=?_) rfl rfl (by kernel_rfl) (by kernel_rfl) (by kernel_rfl) (fun _ _ _ h=>h) ⟨Or.inl ⟨by rfl,?_⟩,fun _=>rfl⟩ ?_
      rotate_left 1
      ·(intro w;go_simp;try (with_reducible rfl))
      refine wpAnyIn_take (i:=8) (v:=?_) rfl rfl (by kernel_rfl) (by kernel_rfl) (by kernel_rfl) (fun _ _ _ h=>h) ⟨Or.inl ⟨by rfl,?_⟩,fun _=>rfl⟩ ?_
      rotate_left 1
      ·(intro w;go_simp;try (with_reducible rfl))
      refine wpAnyIn_ready (rs:=[10]) (by kernel_rfl) (by simp) ?_
      refine AllReadyIn.cons rfl (fun K hK=>?_) AllReadyIn.nil
      go_simp;refine ⟨trivial,?_⟩;gi_at_call 122;refine (callsIn_wide.2 (CALL.out _ _ _ (by omega))).mono ?_;rintro e w' ⟨g,u',rfl,hg,hul,hud,hU',hgr,hS1,hS2⟩;obtain ⟨a1,a2,a3,a4⟩:=zu (k:=x.1.1) st ne d2 (by have:=hl.out.2.2.1;omega) hgr;have HUL:=Lib.hid hul;have HS1:=Lib.hid hS1;have HS2:=Lib.hid hS2;clear hul hS1 hS2;refine hK _ _ ?_;clear hK K
      refine wpAnyIn_take (i:=11) (v:=?_) rfl rfl (by kernel_rfl) (by kernel_rfl) (by kernel_rfl) (fun _ _ _ h=>h) ⟨Or.inl ⟨by rfl,?_⟩,fun _=>rfl⟩ ?_
      rotate_left 1
      ·(intro w;go_simp;try (with_reducible rfl))
      refine wpAnyIn_ready (rs:=[12]) (by kernel_rfl) (by simp) ?_
      refine AllReadyIn.cons rfl (fun K hK=>?_) AllReadyIn.nil
      go_simp;refine hK _ _ ?_;clear hK K
      refine wpAnyIn_done (by kernel_rfl) ?_ _
      gi_wp2
      exact ovR x st ne d1 d2 hl.out inv.out hBW hgr hg HUL.out hud hU' HS1.out HS2.out HV.out
     ·go_simp;refine hK _ _ ?_;clear hK K
      refine wpAnyIn_take (i:=6) (v:=?_) rfl rfl (by kernel_rfl) (by kernel_rfl) (by kernel_rfl) (fun _ _ _ h=>h) ⟨Or.inl ⟨by rfl,?_⟩,fun _=>rfl⟩ ?_
      rotate_left 1
      ·(intro w;go_simp;try (with_reducible rfl))
      refine wpAnyIn_take (i:=7) (v:=?_) rfl rfl (by kernel_rfl) (by kernel_rfl) (by kernel_rfl) (fun _ _ _ h=>h) ⟨Or.inl ⟨by rfl,?_⟩,fun _=>rfl⟩ ?_
      rotate_left 1
      ·(intro w;go_simp;try (with_reducible rfl))
      refine wpAnyIn_take (i:=8) (v:=?_) rfl rfl (by kernel_rfl) (by kernel_rfl) (by kernel_rfl) (fun _ _ _ h=>h) ⟨Or.inl ⟨by rfl,?_⟩,fun _=>rfl⟩ ?_
      rotate_left 1
      ·(intro w;go_simp;try (with_reducible rfl))
      refine wpAnyIn_ready (rs:=[0,10]) (by kernel_rfl) (by simp) ?_
      refine AllReadyIn.cons rfl (fun K hK=>?_) (AllReadyIn.cons rfl (fun K hK=>?_) AllReadyIn.nil)
      ·go_simp;refine hK _ _ ?_;clear hK K
       refine wpAnyIn_ready (rs:=[10]) (by kernel_rfl) (by simp) ?_
       refine AllReadyIn.cons rfl (fun K hK=>?_) AllReadyIn.nil
       go_simp;refine ⟨trivial,?_⟩;gi_at_call 122;refine (callsIn_wide.2 (CALL.out _ _ _ (by omega))).mono ?_;rintro e w' ⟨g,u',rfl,hg,hul,hud,hU',hgr,hS1,hS2⟩;obtain ⟨a1,a2,a3,a4⟩:=zu (k:=x.1.1) st ne d2 (by have:=hl.out.2.2.1;omega) hgr;have HUL:=Lib.hid hul;have HS1:=Lib.hid hS1;have HS2:=Lib.hid hS2;clear hul hS1 hS2;refine hK _ _ ?_;clear hK K
       refine wpAnyIn_take (i:=11) (v:=?_) rfl rfl (by kernel_rfl) (by kernel_rfl) (by kernel_rfl) (fun _ _ _ h=>h) ⟨Or.inl ⟨by rfl,?_⟩,fun _=>rfl⟩ ?_
       rotate_left 1
       ·(intro w;go_simp;try (with_reducible rfl))
       refine wpAnyIn_ready (rs:=[12]) (by kernel_rfl) (by simp) ?_
       refine AllReadyIn.cons rfl (fun K hK=>?_) AllReadyIn.nil
       go_simp;refine hK _ _ ?_;clear hK K
       refine wpAnyIn_done (by kernel_rfl) ?_ _
       gi_wp2
       exact ovR x st ne d1 d2 hl.out inv.out hBW hgr hg HUL.out hud hU' HS1.out HS2.out HV.out
      ·go_simp;refine ⟨trivial,?_⟩;gi_at_call 122;refine (callsIn_wide.2 (CALL.out _ _ _ (by omega))).mono ?_;rintro e w' ⟨g,u',rfl,hg,hul,hud,hU',hgr,hS1,hS2⟩;obtain ⟨a1,a2,a3,a4⟩:=zu (k:=x.1.1) st ne d2 (by have:=hl.out.2.2.1;omega) hgr;have HUL:=Lib.hid hul;have HS1:=Lib.hid hS1;have HS2:=Lib.hid hS2;clear hul hS1 hS2;refine hK _ _ ?_;clear hK K
       refine wpAnyIn_ready (rs:=[0]) (by kernel_rfl) (by simp) ?_
       refine AllReadyIn.cons rfl (fun K hK=>?_) AllReadyIn.nil
       go_simp;refine hK _ _ ?_;clear hK K
       refine wpAnyIn_take (i:=11) (v:=?_) rfl rfl (by kernel_rfl) (by kernel_rfl) (by kernel_rfl) (fun _ _ _ h=>h) ⟨Or.inl ⟨by rfl,?_⟩,fun _=>rfl⟩ ?_
       rotate_left 1
       ·(intro w;go_simp;try (with_reducible rfl))
       refine wpAnyIn_ready (rs:=[12]) (by kernel_rfl) (by simp) ?_
       refine AllReadyIn.cons rfl (fun K hK=>?_) AllReadyIn.nil
       go_simp;refine hK _ _ ?_;clear hK K
       refine wpAnyIn_done (by kernel_rfl) ?_ _
       gi_wp2
       exact ovR x st ne d1 d2 hl.out inv.out hBW hgr hg HUL.out hud hU' HS1.out HS2.out HV.out
    ·go_simp;refine hK _ _ ?_;clear hK K
     refine wpAnyIn_take (i:=6) (v:=?_) rfl rfl (by kernel_rfl) (by kernel_rfl) (by kernel_rfl) (fun _ _ _ h=>h) ⟨Or.inl ⟨by rfl,?_⟩,fun _=>rfl⟩ ?_
     rotate_left 1
     ·(intro w;go_simp;try (with_reducible rfl))
     refine wpAnyIn_take (i:=7) (v:=?_) rfl rfl (by kernel_rfl) (by kernel_rfl) (by kernel_rfl) (fun _ _ _ h=>h) ⟨Or.inl ⟨by rfl,?_⟩,fun _=>rfl⟩ ?_
     rotate_left 1
     ·(intro w;go_simp;try (with_reducible rfl))
     refine wpAnyIn_ready (rs:=[0,2]) (by kernel_rfl) (by simp) ?_
     refine AllReadyIn.cons rfl (fun K hK=>?_) (AllReadyIn.cons rfl (fun K hK=>?_) AllReadyIn.nil)
     ·go_simp;refine hK _ _ ?_;clear hK K
      refine wpAnyIn_ready (rs:=[2]) (by kernel_rfl) (by simp) ?_
      refine AllReadyIn.cons rfl (fun K hK=>?_) AllReadyIn.nil
      go_simp;refine hK _ _ ?_;clear hK K
      refine wpAnyIn_take (i:=8) (v:=?_) rfl rfl (by kernel_rfl) (by kernel_rfl) (by kernel_rfl) (fun _ _ _ h=>h) ⟨Or.inl ⟨by rfl,?_⟩,fun _=>rfl⟩ ?_
      rotate_left 1
      ·(intro w;go_simp;try (with_reducible rfl))
      refine wpAnyIn_ready (rs:=[10]) (by kernel_rfl) (by simp) ?_
      refine AllReadyIn.cons rfl (fun K hK=>?_) AllReadyIn.nil
      go_simp;refine ⟨trivial,?_⟩;gi_at_call 122;refine (callsIn_wide.2 (CALL.out _ _ _ (by omega))).mono ?_;rintro e w' ⟨g,u',rfl,hg,hul,hud,hU',hgr,hS1,hS2⟩;obtain ⟨a1,a2,a3,a4⟩:=zu (k:=x.1.1) st ne d2 (by have:=hl.out.2.2.1;omega) hgr;have HUL:=Lib.hid hul;have HS1:=Lib.hid hS1;have HS2:=Lib.hid hS2;clear hul hS1 hS2;refine hK _ _ ?_;clear hK K
      refine wpAnyIn_take (i:=11) (v:=?_) rfl rfl (by kernel_rfl) (by kernel_rfl) (by kernel_rfl) (fun _ _ _ h=>h) ⟨Or.inl ⟨by rfl,?_⟩,fun _=>rfl⟩ ?_
      rotate_left 1
      ·(intro w;go_simp;try (with_reducible rfl))
      refine wpAnyIn_ready (rs:=[12]) (by kernel_rfl) (by simp) ?_
      refine AllReadyIn.cons rfl (fun K hK=>?_) AllReadyIn.nil
      go_simp;refine hK _ _ ?_;clear hK K
      refine wpAnyIn_done (by kernel_rfl) ?_ _
      gi_wp2
      exact ovR x st ne d1 d2 hl.out inv.out hBW hgr hg HUL.out hud hU' HS1.out HS2.out HV.out
     ·go_simp;refine hK _ _ ?_;clear hK K
      refine wpAnyIn_take (i:=8) (v:=?_) rfl rfl (by kernel_rfl) (by kernel_rfl) (by kernel_rfl) (fun _ _ _ h=>h) ⟨Or.inl ⟨by rfl,?_⟩,fun _=>rfl⟩ ?_
      rotate_left 1
      ·(intro w;go_simp;try (with_reducible rfl))
      refine wpAnyIn_ready (rs:=[0,10]) (by kernel_rfl) (by simp) ?_
      refine AllReadyIn.cons rfl (fun K hK=>?_) (AllReadyIn.cons rfl (fun K hK=>?_) AllReadyIn.nil)
      ·go_simp;refine hK _ _ ?_;clear hK K
       refine wpAnyIn_ready (rs:=[10]) (by kernel_rfl) (by simp) ?_
       refine AllReadyIn.cons rfl (fun K hK=>?_) AllReadyIn.nil
       go_simp;refine ⟨trivial,?_⟩;gi_at_call 122;refine (callsIn_wide.2 (CALL.out _ _ _ (by omega))).mono ?_;rintro e w' ⟨g,u',rfl,hg,hul,hud,hU',hgr,hS1,hS2⟩;obtain ⟨a1,a2,a3,a4⟩:=zu (k:=x.1.1) st ne d2 (by have:=hl.out.2.2.1;omega) hgr;have HUL:=Lib.hid hul;have HS1:=Lib.hid hS1;have HS2:=Lib.hid hS2;clear hul hS1 hS2;refine hK _ _ ?_;clear hK K
       refine wpAnyIn_take (i:=11) (v:=?_) rfl rfl (by kernel_rfl) (by kernel_rfl) (by kernel_rfl) (fun _ _ _ h=>h) ⟨Or.inl ⟨by rfl,?_⟩,fun _=>rfl⟩ ?_
       rotate_left 1
       ·(intro w;go_simp;try (with_reducible rfl))
       refine wpAnyIn_ready (rs:=[12]) (by kernel_rfl) (by simp) ?_
       refine AllReadyIn.cons rfl (fun K hK=>?_) AllReadyIn.nil
       go_simp;refine hK _ _ ?_;clear hK K
       refine wpAnyIn_done (by kernel_rfl) ?_ _
       gi_wp2
       exact ovR x st ne d1 d2 hl.out inv.out hBW hgr hg HUL.out hud hU' HS1.out HS2.out HV.out
      ·go_simp;refine ⟨trivial,?_⟩;gi_at_call 122;refine (callsIn_wide.2 (CALL.out _ _ _ (by omega))).mono ?_;rintro e w' ⟨g,u',rfl,hg,hul,hud,hU',hgr,hS1,hS2⟩;obtain ⟨a1,a2,a3,a4⟩:=zu (k:=x.1.1) st ne d2 (by have:=hl.out.2.2.1;omega) hgr;have HUL:=Lib.hid hul;have HS1:=Lib.hid hS1;have HS2:=Lib.hid hS2;clear hul hS1 hS2;refine hK _ _ ?_;clear hK K
       refine wpAnyIn_ready (rs:=[0]) (by kernel_rfl) (by simp) ?_
       refine AllReadyIn.cons rfl (fun K hK=>?_) AllReadyIn.nil
       go_simp;refine hK _ _ ?_;clear hK K
       refine wpAnyIn_take (i:=11) (v:=?_) rfl rfl (by kernel_rfl) (by kernel_rfl) (by kernel_rfl) (fun _ _ _ h=>h) ⟨Or.inl ⟨by rfl,?_⟩,fun _=>rfl⟩ ?_
       rotate_left 1
       ·(intro w;go_simp;try (with_reducible rfl))
       refine wpAnyIn_ready (rs:=[12]) (by kernel_rfl) (by simp) ?_
       refine AllReadyIn.cons rfl (fun K hK=>?_) AllReadyIn.nil
       go_simp;refine hK _ _ ?_;clear hK K
       refine wpAnyIn_done (by kernel_rfl) ?_ _
       gi_wp2
       exact ovR x st ne d1 d2 hl.out inv.out hBW hgr hg HUL.out hud hU' HS1.out HS2.out HV.out
  case done =>
   rintro D ys W hD hys ⟨⟨st,ne⟩,⟨uo,qo,d1,d2,hl,inv⟩,hBW⟩ hK
   have hyl:ys.length=J:=by have:=congrArg List.length hys;rwa [List.length_map,zE] at this
   have hov:=inv (by rw [hys];exact List.prefix_refl _)
   rw [hyl,Nat.sub_self] at hov
   have HO:=Lib.hid (zne hov)
   have hDl:=qy hK
   have hvp:0<nval v:=by
    rcases Nat.eq_zero_or_pos (nval v) with h0 | h0
    ·have:=qL hm h0;have h1:=HL2.out;rw [this] at h1;simp at h1
    ·exact h0
   have HR:Hid (nval uo<4294967296 ^ (m+1)):=by
    unfold Hid
    rw [HO.out.2]
    exact Nat.lt_trans (Nat.mul_lt_mul_of_pos_right (Nat.mod_lt _ hvp) (Nat.pow_pos (by omega))) hfit.out.2
   have hmk2:=qb (m+1) (by omega)
   have em:((m+1:Nat):Int)=(m:Int)+1:=rfl
   rw [em] at hmk2
   have e1:=st.1.cell
   have d1l:=d1.lt
   have d2l:=d2.lt
   have b1l:=st.2.2.1.lt
   have b2l:=st.2.2.2.2.1.lt
   have hWz:w.heap.size≤W.heap.size:=hBW.size
   have hE:OvE w bu gu (wc.heap.size+1) wc.heap.size D N J uo qo (W.alloc (.cells (madeCells #[.int .u32 0] (m+1)) 123)):=OvE.alloc ⟨st.2.2.1,d1,st.2.2.2.2.1,d2,hK,hBW⟩ _
   have hR0:=DBk.new W 123 (m+1)
   clear em hyl hys hov inv hK
   go_wp2
   clear hmk2
   go_loopw [79] (fun k wr=>∃(j:Nat) (r:List Nat),j≤m+1∧k=.int .i64 j∧DBk wr W.heap.size 123 r∧Hid (RsI uo (m+1) s j r)∧OvE w bu gu (wc.heap.size+1) wc.heap.size D N J uo qo wr) (fun k _=>m+1 - (intOf k).toNat)
   case atStart=>exact ⟨0,List.replicate (m+1) 0,by omega,rfl,hR0,zj9,hE⟩
   case round =>
    obtain ⟨j,r,hj,rfl,hr,hi,hE⟩:=hrel
    have f2:=hE.1.cell
    have hmN2:N+1=uo.length:=hl.out.1.symm
    by_cases hlt:j<m+1
    ·have g1:=hE.2.1.cell (k:=j) (by omega)
     have g2:=hE.2.1.cell (k:=j+1) (by omega)
     have q1:=dg_lt hl.out.2.1 j
     have q2:=dg_lt hl.out.2.1 (j+1)
     have g3:=hr.cell (k:=j) (by rw [hi.out.1];exact hlt)
     have g4:=hr.frozen j
     have g5:=hr.lt
     have E:=Lib.hid (zov (b:=dg uo (j+1)) q1 hs)
     have hr2:DBk (wr.setCell ⟨W.heap.size,j,none⟩ (.int .u32 (rsD (dg uo j) (dg uo (j+1)) s:Nat))).drew W.heap.size 123 (r.set j (rsD (dg uo j) (dg uo (j+1)) s)):=DBk.set (w:=wr) hr _ _
     have hi2:=Lib.hid (zlG hi.out hl.out.2.1 hs hlt)
     have hE3:∀u,OvE w bu gu (wc.heap.size+1) wc.heap.size D N J uo qo (wr.setCell ⟨W.heap.size,j,none⟩ u).drew:=fun u=>OvE.drew (OvE.store (g:=W.heap.size) hE ⟨by omega,by omega,by omega,by omega,by omega,hWz⟩ j u)
     have hj0:(0:Int)≤(j:Int):=by omega
     have hj1:(j:Int)<(N:Int)+1:=by omega
     have hj2:(j:Int)<(m:Int)+1:=by omega
     have hju:j+1<uo.length:=by omega
     have hju0:j<uo.length:=by omega
     have hjN:(j:Int)+1<(N:Int)+1:=by omega
     have s1:IntKind.i64.wrap ((j:Int)+1)=(j:Int)+1:=by rw [IntKind.wrap_i64];omega
     have s2:((j:Int)+1).toNat=j+1:=by omega
     have s3:(0:Int)≤(j:Int)+1:=by omega
     have s4:IntKind.i64.wrap (32 - (s:Int))=32 - (s:Int):=by rw [IntKind.wrap_i64];omega
     have s5:(32 - (s:Int)).toNat=32 - s:=by omega
     have s6:(0:Int)≤32 - (s:Int):=by omega
     clear hmN2 hr hi hE
     go_wp2
     go_region_held3 (fun W'=>W'.cell? ⟨bu,0,none⟩=some (.slice (some ⟨gu,0,none⟩) (N+1) (N+1))∧W'.cell? ⟨gu,j,none⟩=some (.int .u32 (dg uo j:Nat))∧W'.cell? ⟨gu,j+1,none⟩=some (.int .u32 (dg uo (j+1):Nat)))
      (first | exact ⟨f2,g1,g2⟩ | exact ⟨(hE3 _).1.cell,(hE3 _).2.1.cell hju0,(hE3 _).2.1.cell hju⟩)
      (fail)
     all_goals
      rw [IntKind.wrap_u32,E.out]
      go_wp2
      go_roundw
      case rel=>exact ⟨j+1,_,by omega,by go_num,hr2,hi2,hE3 _⟩
      case measure=>simp [intOf];omega
    ·obtain rfl:j=m+1:=by omega
     have f3:=hE.2.2.1.cell
     have hvr:nval r=nval l%nval v:=znr hi.out (by omega) HO.out.2 HR.out
     have sr:=hr.sl hi.out.2.1 (B:=W.heap.size+1) (by omega) (by have:=hi.out.1;omega)
     rw [hi.out.1] at sr
     have sq:=hE.2.2.2.1.sl hl.out.2.2.2 (B:=W.heap.size+1) (by omega) (by have:=hl.out.2.2.1;omega)
     rw [hl.out.2.2.1] at sq
     have TR:=Lib.hid (qZ _ _ _ _ _ _ sr.1 sr.2.1 sr.2.2)
     have TQ:=Lib.hid (qZ _ _ _ _ _ _ sq.1 sq.2.1 sq.2.2)
     have VR:=Lib.hid (sr.val hvr)
     have VQ:=Lib.hid (sq.val HO.out.1)
     have hrl:=hr.lt
     clear hvr sr sq hmN2
     go_wp2_with (first
      | (go_at_call 119;(with_reducible refine TQ.out.mono ?_);rintro e w7 ⟨rfl,rfl⟩)
      | (go_at_call 119;(with_reducible refine TR.out.mono ?_);rintro e w7 ⟨rfl,rfl⟩))
     have hK':=hE.2.2.2.2.1
     have hfin:∀(A:Option Addr) (n c:Nat) (L:List Nat),Sl wr (W.heap.size+1) A n c L→Sl (wr.putObj D (.deferred none)) (wr.putObj D (.deferred none)).heap.size A n c L:=fun A n c L h=>zke h hK' rfl (by omega)
     have hB9:Below w.heap.size w (wr.putObj D (.deferred none)):=hE.2.2.2.2.2.trans (belowK_b (w:=W0) (by have:=hBc.size;omega) wr D _ _ hD hK' rfl rfl)
     refine ⟨by simp,.inl ⟨_,_,rfl,run_takeDeferred hK',?_⟩⟩
     refine ⟨_,results_tmp2 rfl _ _ _,_,_,_,_,_,_,rfl,?_,?_,?_⟩
     ·exact hfin _ _ _ _ VQ.out
     ·exact hfin _ _ _ _ VR.out
     ·exact hB9
  case stop =>
   rintro D c pre W _ _ h _
   exact h.elim
end Go.Proofs.YtjcegdldgjphiaaGreatDoor
namespace Go.Proofs.YtjcegdldgjphiaaGreatDoor
open Go.RowKit Go.Shelf
theorem zls {A A2:Option Addr} {n n2 c c2 B:Nat} {l m:List Nat} {w:World} (h:Sl w B A n c l) (h2:Sl w B A2 n2 c2 m) (hB:B≤w.heap.size) (hl:Canon l) (hm:Canon m) (hn:n≤1000) (h0:0<n2) :
  Calls Tryz.prog 99 #[.slice A n c,.slice A2 n2 c2] w (zdI (nval l) (nval m) w):=by
 rcases Nat.lt_or_ge (nval l) (nval m) with hv | hv
 ·exact zjV h h2 hB hl hm hv
 ·by_cases h1:n2=1
  ·exact zlu h h2 hB hl hm hn hv h1
  ·obtain ⟨k,rfl⟩:∃k,n2=k+1:=⟨n2 - 1,by omega⟩
   exact zlt h h2 hB hl hm hn (by omega) hv
def RetA (x:Int) (w:World) (e:Ending) (w':World):Prop:=
 ∃A n c,e=.returned (.agg #[.bool (decide (x<0)),.slice A n c])∧Sl w' w'.heap.size A n c (digs x.natAbs)∧Below w.heap.size w w'
theorem zen {v:Nat} (h:v<18446744073709551616):nval [v%4294967296,v / 4294967296]=v∧Dig [v%4294967296,v / 4294967296]:=by
 refine ⟨by simp [nval];omega,fun d hd=>?_⟩
 simp at hd
 omega
theorem zeT {x:Int} (h:x.natAbs<18446744073709551616):vO (fitO x)=x:=by
 rw [zjv];unfold numv
 rw [if_pos]
 exact Nat.lt_of_lt_of_le h (by unfold big;exact Nat.pow_le_pow_right (n:=4294967296) (i:=2) (j:=64) (by omega) (by omega))
theorem S1.frz {w W:World} {neg:Bool} {A:Option Addr} {n c:Nat} (h:S1 w neg A n c W):(∀i,W.frozen? ⟨w.heap.size,i,none⟩=false)∧w.heap.size<W.heap.size:=by
 have h':Below (w.heap.size+1) (w.alloc (.cells #[.bool neg,.slice A n c] 30)) W:=h
 refine ⟨fun i=>?_,by have:=S1.size h;omega⟩
 rw [h'.frozen (p:=⟨w.heap.size,i,none⟩) (by simp)];simp [go_sem]
theorem of_nn (x:Int) (w:World) (h0:0≤x) (h1:x<9223372036854775808) :
  Calls Tryz.prog 98 #[.int .i64 x] w (RetA x w):=by
 obtain ⟨hv,hd⟩:=zen (v:=x.natAbs) (by omega)
 have hf:=zeT (x:=x) (by omega)
 have hsg:sgn false x.natAbs=x:=by unfold sgn;simp;omega
 have e1:IntKind.u64.wrap x=x:=by rw [IntKind.wrap_u64];omega
 have e2:IntKind.u32.wrap x=((x.natAbs%4294967296:Nat):Int):=by rw [IntKind.wrap_u32];omega
 have e3:IntKind.u32.wrap (x / 4294967296)=((x.natAbs / 4294967296:Nat):Int):=by rw [IntKind.wrap_u32];omega
 have e4:¬ x<0:=by omega
 have hng:ngO (fitO x)=decide (x<0):=by unfold ngO;rw [hf]
 obtain ⟨v,ev⟩:∃v,x.natAbs=v:=⟨_,rfl⟩
 rw [ev] at hv hd hsg e2 e3
 obtain ⟨d0,ed0⟩:∃d0,v%4294967296=d0:=⟨_,rfl⟩
 obtain ⟨d1,ed1⟩:∃d1,v / 4294967296=d1:=⟨_,rfl⟩
 rw [ed0,ed1] at hv hd
 rw [ed0] at e2
 rw [ed1] at e3
 clear ed0 ed1 ev
 have hb1:decide (x<0)=false:=by simp;omega
 have s0:=S1.start (w:=w) (neg:=false) (A:=none) (n:=0) (c:=0)
 have hD:DBk ((w.alloc (.cells #[.bool false,.slice none 0 0] 30)).alloc (.cells #[.int .u32 (d0:Nat),.int .u32 (d1:Nat)] 123)) (w.heap.size+1) 123 [d0,d1]:=zy _ _ _ (by simp)
 have hsl:=Lib.hid (hD.sl (B:=w.heap.size+1+1) hd (by omega) (by simp))
 have s1:=s0.via ((Below.refl _ _).alloc (Nat.le_refl _) (.cells #[.int .u32 (d0:Nat),.int .u32 (d1:Nat)] 123))
 clear hD
 go_enter Tryz.func98,Tryz.ntmps98
 go_wp2_with (first
  | (go_at_call 100;(with_reducible refine (zac _ 2 2 _ v false [d0,d1] _ hsl.out (by simp) hv).mono ?_);rw [hsg];rintro e w2 hr;obtain ⟨A4,n4,c4,rfl,hs4,hb4⟩:=za6 hr;rw [hng,hb1];rw [hf] at hs4;have s2:=s1.via hb4;obtain ⟨r0,r1⟩:=s2.facts;obtain ⟨rf,rz⟩:=s2.frz)
  | fail "no arm")
 obtain ⟨q0,q1⟩:=qd (.bool false) (.slice A4 n4 c4) r0 r1
 refine bodyPost_ret (v:=.agg #[.bool false,.slice A4 n4 c4]) ?_ rfl ⟨_,_,_,by rw [hb1],?_,?_⟩
 ·simp [results,Tryz.f98,go_sem,q0,q1,rz]
 ·exact ((hs4.stored r0 r1 _ _).below ((Below.refl _ _).alloc (Nat.le_refl _) _)).more (by simp)
 ·exact ((s2.below.setCell (by simp) _).setCell (by simp) _).alloc (by simp [World.setCell];omega) _
theorem zom (x:Int) (w:World) (h0:x<0) (h1:-9223372036854775808≤x) :
  Calls Tryz.prog 98 #[.int .i64 x] w (RetA x w):=by
 obtain ⟨hv,hd⟩:=zen (v:=x.natAbs) (by omega)
 have hf:=zeT (x:=x) (by omega)
 have hsg:sgn true x.natAbs=x:=by unfold sgn;simp;omega
 obtain ⟨z,ez⟩:∃z,IntKind.u64.wrap (-(IntKind.u64.wrap x))=z:=⟨_,rfl⟩
 have ez2:z=(x.natAbs:Int):=by rw [← ez,IntKind.wrap_u64,IntKind.wrap_u64];omega
 have ez3:0≤z∧z≤18446744073709551615:=by omega
 have e2:IntKind.u32.wrap z=((x.natAbs%4294967296:Nat):Int):=by rw [IntKind.wrap_u32];omega
 have e3:IntKind.u32.wrap (z / 4294967296)=((x.natAbs / 4294967296:Nat):Int):=by rw [IntKind.wrap_u32];omega
 have e4:x<0:=h0
 have hng:ngO (fitO x)=decide (x<0):=by unfold ngO;rw [hf]
 obtain ⟨v,ev⟩:∃v,x.natAbs=v:=⟨_,rfl⟩
 rw [ev] at hv hd hsg e2 e3
 obtain ⟨d0,ed0⟩:∃d0,v%4294967296=d0:=⟨_,rfl⟩
 obtain ⟨d1,ed1⟩:∃d1,v / 4294967296=d1:=⟨_,rfl⟩
 rw [ed0,ed1] at hv hd
 rw [ed0] at e2
 rw [ed1] at e3
 clear ed0 ed1 ev ez2
 have hb1:decide (x<0)=true:=by simp;omega
 have s0:=S1.start (w:=w) (neg:=false) (A:=none) (n:=0) (c:=0)
 have hD:DBk ((w.alloc (.cells #[.bool false,.slice none 0 0] 30)).alloc (.cells #[.int .u32 (d0:Nat),.int .u32 (d1:Nat)] 123)) (w.heap.size+1) 123 [d0,d1]:=zy _ _ _ (by simp)
 have hsl:=Lib.hid (hD.sl (B:=w.heap.size+1+1) hd (by omega) (by simp))
 have s1:=s0.via ((Below.refl _ _).alloc (Nat.le_refl _) (.cells #[.int .u32 (d0:Nat),.int .u32 (d1:Nat)] 123))
 clear hD
 go_enter Tryz.func98,Tryz.ntmps98
 go_wp2_with (first
  | (go_at_call 100;(with_reducible refine (zac _ 2 2 _ v true [d0,d1] _ hsl.out (by simp) hv).mono ?_);rw [hsg];rintro e w2 hr;obtain ⟨A4,n4,c4,rfl,hs4,hb4⟩:=za6 hr;rw [hng,hb1];rw [hf] at hs4;have s2:=s1.via hb4;obtain ⟨r0,r1⟩:=s2.facts;obtain ⟨rf,rz⟩:=s2.frz)
  | fail "no arm")
 obtain ⟨q0,q1⟩:=qd (.bool true) (.slice A4 n4 c4) r0 r1
 refine bodyPost_ret (v:=.agg #[.bool true,.slice A4 n4 c4]) ?_ rfl ⟨_,_,_,by rw [hb1],?_,?_⟩
 ·simp [results,Tryz.f98,go_sem,q0,q1,rz]
 ·exact ((hs4.stored r0 r1 _ _).below ((Below.refl _ _).alloc (Nat.le_refl _) _)).more (by simp)
 ·exact ((s2.below.setCell (by simp) _).setCell (by simp) _).alloc (by simp [World.setCell];omega) _
theorem zol (x:Int) (w:World) (h0:-9223372036854775808≤x) (h1:x<9223372036854775808) :
  Calls Tryz.prog 98 #[.int .i64 x] w (RetA x w):=by
 rcases Int.lt_or_le x 0 with h | h
 ·exact zom x w h h0
 ·exact of_nn x w h h1
end Go.Proofs.YtjcegdldgjphiaaGreatDoor
namespace Go.Proofs.YtjcegdldgjphiaaGreatDoor
open Go.RowKit Go.Shelf
def Sd (w:World) (neg:Bool) (A:Option Addr) (n c:Nat) (neg2:Bool) (A2:Option Addr) (n2 c2:Nat) (W:World):Prop:=
 Below (w.heap.size+1+1+1+1) ((((w.alloc (.cells #[.bool neg,.slice A n c] 30)).alloc (.cells #[.bool neg2,.slice A2 n2 c2] 30)).alloc (.cells #[.bool false,.slice none 0 0] 30)).alloc (.cells #[.bool false,.slice none 0 0] 30)) W
section
variable {w W W1:World} {neg neg2:Bool} {A A2:Option Addr} {n c n2 c2:Nat}
theorem Sd.start:Sd w neg A n c neg2 A2 n2 c2 ((((w.alloc (.cells #[.bool neg,.slice A n c] 30)).alloc (.cells #[.bool neg2,.slice A2 n2 c2] 30)).alloc (.cells #[.bool false,.slice none 0 0] 30)).alloc (.cells #[.bool false,.slice none 0 0] 30)):=Below.refl _ _
theorem Sd.size (h:Sd w neg A n c neg2 A2 n2 c2 W):w.heap.size+1+1+1+1≤W.heap.size:=by have:=Below.size h;simpa using this
theorem Sd.via (h:Sd w neg A n c neg2 A2 n2 c2 W) (hb:Below W.heap.size W W1):Sd w neg A n c neg2 A2 n2 c2 W1:=Below.trans h (hb.mono h.size)
theorem Sd.drew (h:Sd w neg A n c neg2 A2 n2 c2 W):Sd w neg A n c neg2 A2 n2 c2 W.drew:=Below.drew h
theorem Sd.drewN (h:Sd w neg A n c neg2 A2 n2 c2 W) (k:Nat):Sd w neg A n c neg2 A2 n2 c2 (W.drewN k):=zI h k
theorem Sd.alloc (h:Sd w neg A n c neg2 A2 n2 c2 W) (o:Obj):Sd w neg A n c neg2 A2 n2 c2 (W.alloc o):=h.via ((Below.refl _ _).alloc (Nat.le_refl _) o)
theorem Sd.below (h:Sd w neg A n c neg2 A2 n2 c2 W):Below w.heap.size w W:=Below.trans (by go_grown) (Below.mono h (by omega))
theorem Sd.facts (h:Sd w neg A n c neg2 A2 n2 c2 W):W.cell? ⟨w.heap.size,0,none⟩=some (.bool neg)∧W.cell? ⟨w.heap.size,1,none⟩=some (.slice A n c)∧W.cell? ⟨w.heap.size+1,0,none⟩=some (.bool neg2)∧W.cell? ⟨w.heap.size+1,1,none⟩=some (.slice A2 n2 c2) ∧
  W.cell? ⟨w.heap.size+1+1,0,none⟩=some (.bool false)∧W.cell? ⟨w.heap.size+1+1,1,none⟩=some (.slice none 0 0)∧(∀i,W.frozen? ⟨w.heap.size+1+1,i,none⟩=false) ∧
  W.cell? ⟨w.heap.size+1+1+1,0,none⟩=some (.bool false)∧W.cell? ⟨w.heap.size+1+1+1,1,none⟩=some (.slice none 0 0)∧(∀i,W.frozen? ⟨w.heap.size+1+1+1,i,none⟩=false)∧w.heap.size+1+1+1<W.heap.size:=by
 have h':Below (w.heap.size+1+1+1+1) ((((w.alloc (.cells #[.bool neg,.slice A n c] 30)).alloc (.cells #[.bool neg2,.slice A2 n2 c2] 30)).alloc (.cells #[.bool false,.slice none 0 0] 30)).alloc (.cells #[.bool false,.slice none 0 0] 30)) W:=h
 have k:=fun b o (hb:b<w.heap.size+1+1+1+1)=>h'.cell (p:=⟨b,o,none⟩) hb
 have f:=fun b o (hb:b<w.heap.size+1+1+1+1)=>h'.frozen (p:=⟨b,o,none⟩) hb
 refine ⟨?_,?_,?_,?_,?_,?_,fun i=>?_,?_,?_,fun i=>?_,by have:=Sd.size h;omega⟩
 ·rw [k _ _ (by omega)];simp [go_sem]
 ·rw [k _ _ (by omega)];simp [go_sem]
 ·rw [k _ _ (by omega)];simp [go_sem]
 ·rw [k _ _ (by omega)];simp [go_sem]
 ·rw [k _ _ (by omega)];simp [go_sem]
 ·rw [k _ _ (by omega)];simp [go_sem]
 ·rw [f _ _ (by omega)];simp [go_sem]
 ·rw [k _ _ (by omega)];simp [go_sem]
 ·rw [k _ _ (by omega)];simp [go_sem]
 ·rw [f _ _ (by omega)];simp [go_sem]
end
def dqO (r:Option (Int×Int)):Int:=(r.getD (0,0)).1
def drO (r:Option (Int×Int)):Int:=(r.getD (0,0)).2
def zqU (r:Option (Int×Int)) (w:World) (e:Ending) (w':World):Prop:=
 ∃A n c A2 n2 c2,e=.returned (.tuple #[.agg #[.bool (decide (dqO r<0)),.slice A n c],.agg #[.bool (decide (drO r<0)),.slice A2 n2 c2],.bool r.isSome]) ∧
  Sl w' w'.heap.size A n c (digs (dqO r).natAbs)∧Sl w' w'.heap.size A2 n2 c2 (digs (drO r).natAbs)∧Below w.heap.size w w'
theorem zpy {w:World} {b b2:Nat} {u0 u1 u2 u3:Value} (v0 v1 v2 v3:Value) (g0:w.cell? ⟨b,0,none⟩=some u0) (g1:w.cell? ⟨b,1,none⟩=some u1) (g2:w.cell? ⟨b2,0,none⟩=some u2) (g3:w.cell? ⟨b2,1,none⟩=some u3) (hne:b≠b2) :
  ((((w.setCell ⟨b,0,none⟩ v0).setCell ⟨b,1,none⟩ v1).setCell ⟨b2,0,none⟩ v2).setCell ⟨b2,1,none⟩ v3).cell? ⟨b,0,none⟩=some v0∧((((w.setCell ⟨b,0,none⟩ v0).setCell ⟨b,1,none⟩ v1).setCell ⟨b2,0,none⟩ v2).setCell ⟨b2,1,none⟩ v3).cell? ⟨b,1,none⟩=some v1 ∧
  ((((w.setCell ⟨b,0,none⟩ v0).setCell ⟨b,1,none⟩ v1).setCell ⟨b2,0,none⟩ v2).setCell ⟨b2,1,none⟩ v3).cell? ⟨b2,0,none⟩=some v2∧((((w.setCell ⟨b,0,none⟩ v0).setCell ⟨b,1,none⟩ v1).setCell ⟨b2,0,none⟩ v2).setCell ⟨b2,1,none⟩ v3).cell? ⟨b2,1,none⟩=some v3:=by
 obtain ⟨q0,q1⟩:=qd v0 v1 g0 g1
 have h2:((w.setCell ⟨b,0,none⟩ v0).setCell ⟨b,1,none⟩ v1).cell? ⟨b2,0,none⟩=some u2:=by
  rw [World.cell?_setCell_other _ _ _ _ (by simp),World.cell?_setCell_other _ _ _ _ (by simp),g2]
 have h3:((w.setCell ⟨b,0,none⟩ v0).setCell ⟨b,1,none⟩ v1).cell? ⟨b2,1,none⟩=some u3:=by
  rw [World.cell?_setCell_other _ _ _ _ (by simp),World.cell?_setCell_other _ _ _ _ (by simp),g3]
 obtain ⟨p0,p1⟩:=qd v2 v3 h2 h3
 refine ⟨?_,?_,?_,p1⟩
 ·rw [World.cell?_setCell_other _ _ _ _ (by simp),World.cell?_setCell_other _ _ _ _ (by simp),World.cell?_setCell_other _ _ _ _ (by simp),q0]
 ·rw [World.cell?_setCell_other _ _ _ _ (by simp),World.cell?_setCell_other _ _ _ _ (by simp),q1]
 ·rw [World.cell?_setCell_other _ _ _ _ (by simp),p0]
end Go.Proofs.YtjcegdldgjphiaaGreatDoor
namespace Go.Proofs.YtjcegdldgjphiaaGreatDoor
open Go.RowKit Go.Shelf
theorem zsI {x:Int} (h:x.natAbs<big):vO (fitO x)=x∧ngO (fitO x)=decide (x<0):=by
 have h1:vO (fitO x)=x:=by rw [zjv];unfold numv;rw [if_pos h]
 exact ⟨h1,by unfold ngO;rw [h1]⟩
theorem Sl.stored4 {w:World} {b b2 n c:Nat} {A:Option Addr} {l:List Nat} {x x2:Bool} {A2 A3:Option Addr} {n2 c2 n3 c3:Nat} (h:Sl w w.heap.size A n c l) (g0:w.cell? ⟨b,0,none⟩=some (.bool x)) (g1:w.cell? ⟨b,1,none⟩=some (.slice A2 n2 c2)) (g2:w.cell? ⟨b2,0,none⟩=some (.bool x2)) (g3:w.cell? ⟨b2,1,none⟩=some (.slice A3 n3 c3)) (hne:b≠b2) (v0 v1 v2 v3:Value) :
  Sl ((((w.setCell ⟨b,0,none⟩ v0).setCell ⟨b,1,none⟩ v1).setCell ⟨b2,0,none⟩ v2).setCell ⟨b2,1,none⟩ v3) ((((w.setCell ⟨b,0,none⟩ v0).setCell ⟨b,1,none⟩ v1).setCell ⟨b2,0,none⟩ v2).setCell ⟨b2,1,none⟩ v3).heap.size A n c l:=by
 refine (h.stored g0 g1 v0 v1).stored (b:=b2) (x:=x2) (A2:=A3) (n2:=n3) (c2:=c3) ?_ ?_ v2 v3
 ·rw [World.cell?_setCell_other _ _ _ _ (by simp),World.cell?_setCell_other _ _ _ _ (by simp),g2]
 ·rw [World.cell?_setCell_other _ _ _ _ (by simp),World.cell?_setCell_other _ _ _ _ (by simp),g3]
def RetQR (q r:Nat) (w:World) (e:Ending) (w':World):Prop:=
 ∃A n c A2 n2 c2,e=.returned (.tuple #[.slice A n c,.slice A2 n2 c2])∧Sl w' w'.heap.size A n c (digs q)∧Sl w' w'.heap.size A2 n2 c2 (digs r)∧Below w.heap.size w w'
end Go.Proofs.YtjcegdldgjphiaaGreatDoor
namespace Go.Proofs.YtjcegdldgjphiaaGreatDoor
open Go.RowKit Go.Shelf
theorem zv0 {L V:Nat} (hV:0<V) (hr:0<L%V):L / V+1≤L:=by
 have h1:=Nat.div_add_mod L V
 have h2:=Nat.mod_lt L hV
 have h3:L / V*2≤L / V*V:=Nat.mul_le_mul_left _ (by omega)
 rw [Nat.mul_comm V] at h1
 omega
end Go.Proofs.YtjcegdldgjphiaaGreatDoor
namespace Go.Proofs.YtjcegdldgjphiaaGreatDoor
open Go.RowKit Go.Shelf
def divS (neg:Bool) (l:List Nat) (neg2:Bool) (m:List Nat):Option (Int×Int):=
 if zq neg l=true∧zq neg2 m=true∧m≠[] then some (sgn neg (nval l) / sgn neg2 (nval m),sgn neg (nval l)%sgn neg2 (nval m)) else none
theorem zuS (L V:Nat):(L:Int) / (V:Int)=((L / V:Nat):Int)∧(L:Int)%(V:Int)=((L%V:Nat):Int):=⟨rfl,rfl⟩
theorem ztU {L V:Nat} (hV:0<V) (h:L%V=0):(-(L:Int)) / (V:Int)=-((L / V:Nat):Int)∧(-(L:Int))%(V:Int)=0:=by
 refine (Int.ediv_emod_unique (by omega)).2 ⟨?_,by omega,by omega⟩
 have h1:V*(L / V)=L:=by have:=Nat.div_add_mod L V;omega
 have h2:=congrArg (fun n:Nat=>(n:Int)) h1
 simp only [Int.natCast_mul] at h2
 rw [Int.mul_neg,h2];omega
theorem zvA {L V:Nat} (hV:0<V) (h:0<L%V):(-(L:Int)) / (V:Int)=-((L / V+1:Nat):Int)∧(-(L:Int))%(V:Int)=((V - L%V:Nat):Int):=by
 have h0:=Nat.mod_lt L hV
 refine (Int.ediv_emod_unique (by omega)).2 ⟨?_,by omega,by omega⟩
 have h2:=congrArg (fun n:Nat=>(n:Int)) (Nat.div_add_mod L V)
 simp only [Int.natCast_mul,Int.natCast_add] at h2
 rw [Int.mul_neg,Int.natCast_add,Int.mul_add]
 omega
theorem ztT {L V:Nat} (hV:0<V) (neg neg2:Bool) (hz:neg=false∨L%V=0):(sgn (!(neg == neg2)) (L / V),sgn false (L%V))=(sgn neg L / sgn neg2 V,sgn neg L%sgn neg2 V):=by
 have e1:=zuS L V
 cases neg with
 | false =>
  cases neg2 with
  | false=>show (((L / V:Nat):Int),((L%V:Nat):Int))=((L:Int) / (V:Int),(L:Int)%(V:Int));rw [e1.1,e1.2]
  | true=>show (-((L / V:Nat):Int),((L%V:Nat):Int))=((L:Int) / -(V:Int),(L:Int) % -(V:Int));rw [Int.ediv_neg,Int.emod_neg,e1.1,e1.2]
 | true =>
  have hz2:L%V=0:=by
   rcases hz with h | h
   ·cases h
   ·exact h
  have e2:=ztU hV hz2
  cases neg2 with
  | false=>show (-((L / V:Nat):Int),((L%V:Nat):Int))=(-(L:Int) / (V:Int),-(L:Int)%(V:Int));rw [e2.1,e2.2,hz2];rfl
  | true=>show (((L / V:Nat):Int),((L%V:Nat):Int))=(-(L:Int) / -(V:Int),-(L:Int) % -(V:Int));rw [Int.ediv_neg,Int.emod_neg,e2.1,e2.2,hz2,Int.neg_neg];rfl
theorem zrV {L V:Nat} (hV:0<V) (neg2:Bool) (hz:0<L%V):(sgn (!neg2) (L / V+1),sgn false (V - L%V))=(sgn true L / sgn neg2 V,sgn true L%sgn neg2 V):=by
 have e2:=zvA hV hz
 cases neg2 with
 | false=>show (-((L / V+1:Nat):Int),((V - L%V:Nat):Int))=(-(L:Int) / (V:Int),-(L:Int)%(V:Int));rw [e2.1,e2.2]
 | true=>show (((L / V+1:Nat):Int),((V - L%V:Nat):Int))=(-(L:Int) / -(V:Int),-(L:Int) % -(V:Int));rw [Int.ediv_neg,Int.emod_neg,e2.1,e2.2,Int.neg_neg]
end Go.Proofs.YtjcegdldgjphiaaGreatDoor
namespace Go.Proofs.YtjcegdldgjphiaaGreatDoor
open Go.RowKit Go.Shelf
def gcdS (neg:Bool) (l:List Nat) (neg2:Bool) (m:List Nat):Option Int:=
 if zq neg l=true∧zq neg2 m=true then fitO ((Nat.gcd (nval l) (nval m):Nat):Int) else none
theorem zm4 (neg neg2:Bool) {A A2:Option Addr} {n n2 c c2 B:Nat} {l:List Nat} {w:World} (h:Sl w B A n c l) (hB:B≤w.heap.size) (h1:zq neg l=false) :
  Calls Tryz.prog 72 #[.agg #[.bool neg,.slice A n c],.agg #[.bool neg2,.slice A2 n2 c2]] w (RetN none w):=by
 have R1:=Lib.hid (qj neg (h.more hB) false h1)
 have s0:=Sm.start (w:=w) (neg:=neg) (A:=A) (n:=n) (c:=c) (neg2:=neg2) (A2:=A2) (n2:=n2) (c2:=c2)
 clear h h1
 go_enter Tryz.func72,Tryz.ntmps72
 go_wp2_with (go_at_call 96;refine (R1.out _ s0.below).mono ?_;rintro e w1 ⟨rfl,hb⟩;have s1:=s0.via hb;obtain ⟨a0,a1,b0,b1,r0,r1,rf,rz⟩:=s1.facts)
 obtain ⟨q0,q1⟩:=qd (.bool false) (.slice none 0 0) r0 r1
 refine bodyPost_ret (v:=.tuple #[.agg #[.bool false,.slice none 0 0],.bool false]) ?_ rfl ⟨_,_,_,rfl,by rw [show digs (vO none).natAbs=[] from zw];exact Sl.none_,?_⟩
 ·simp [results,Tryz.f72,go_sem,q0,q1]
 ·exact (s1.below.setCell (by simp;omega) _).setCell (by simp;omega) _
theorem zm5 (neg neg2:Bool) {A A2:Option Addr} {n n2 c c2 B:Nat} {l m:List Nat} {w:World} (h:Sl w B A n c l) (h2:Sl w B A2 n2 c2 m) (hB:B≤w.heap.size) (h1:zq neg l=true) (k1:zq neg2 m=false) :
  Calls Tryz.prog 72 #[.agg #[.bool neg,.slice A n c],.agg #[.bool neg2,.slice A2 n2 c2]] w (RetN none w):=by
 have R1:=Lib.hid (qj neg (h.more hB) true h1)
 have R2:=Lib.hid (qj neg2 (h2.more hB) false k1)
 have s0:=Sm.start (w:=w) (neg:=neg) (A:=A) (n:=n) (c:=c) (neg2:=neg2) (A2:=A2) (n2:=n2) (c2:=c2)
 clear h h1 h2 k1
 go_enter Tryz.func72,Tryz.ntmps72
 go_wp2_with (first
  | (go_at_call 96;(with_reducible refine (R1.out _ s0.below).mono ?_);rintro e w1 ⟨rfl,hb⟩;have s1:=s0.via hb;obtain ⟨a0,a1,b0,b1,r0,r1,rf,rz⟩:=s1.facts)
  | (go_at_call 96;(with_reducible refine (R2.out _ s1.below).mono ?_);rintro e w2 ⟨rfl,hb⟩;have s2:=s1.via hb;clear a0 a1 b0 b1 r0 r1 rf rz;obtain ⟨a0,a1,b0,b1,r0,r1,rf,rz⟩:=s2.facts)
  | fail "no arm")
 obtain ⟨q0,q1⟩:=qd (.bool false) (.slice none 0 0) r0 r1
 refine bodyPost_ret (v:=.tuple #[.agg #[.bool false,.slice none 0 0],.bool false]) ?_ rfl ⟨_,_,_,rfl,by rw [show digs (vO none).natAbs=[] from zw];exact Sl.none_,?_⟩
 ·simp [results,Tryz.f72,go_sem,q0,q1]
 ·exact (s2.below.setCell (by simp;omega) _).setCell (by simp;omega) _
theorem zhA (p q:Nat):Nat.gcd q (p%q)=Nat.gcd p q:=by rw [Nat.gcd_comm,← Nat.gcd_rec,Nat.gcd_comm]
theorem zm6 (neg neg2:Bool) {A A2:Option Addr} {n n2 c c2 B:Nat} {l m:List Nat} {w:World} (h:Sl w B A n c l) (h2:Sl w B A2 n2 c2 m) (hB:B≤w.heap.size) (h1:zq neg l=true) (k1:zq neg2 m=true) :
  Calls Tryz.prog 72 #[.agg #[.bool neg,.slice A n c],.agg #[.bool neg2,.slice A2 n2 c2]] w (RetN (fitO ((Nat.gcd (nval l) (nval m):Nat):Int)) w):=by
 have R1:=Lib.hid (qj neg (h.more hB) true h1)
 have R2:=Lib.hid (qj neg2 (h2.more hB) true k1)
 have hl:=zJ h1 h.dig
 have hm:=zJ k1 h2.dig
 have hlb:nval l<big:=(qK hl.1).1 hl.2.1
 have hmb:nval m<big:=(qK hm.1).1 hm.2.1
 have h':=Lib.hid (h.more hB)
 have h2':=Lib.hid (h2.more hB)
 have s0:=Sm.start (w:=w) (neg:=neg) (A:=A) (n:=n) (c:=c) (neg2:=neg2) (A2:=A2) (n2:=n2) (c2:=c2)
 obtain ⟨G,hG⟩:∃G,Nat.gcd (nval l) (nval m)=G:=⟨_,rfl⟩
 rw [hG]
 have I0:Hid (∃p q,l=digs p∧m=digs q∧Nat.gcd p q=G∧p<big∧q<big):=Lib.hid ⟨nval l,nval m,zbz hl.1,zbz hm.1,hG,hlb,hmb⟩
 clear h h1 h2 k1 hl hm hlb hmb hG
 go_enter Tryz.func72,Tryz.ntmps72
 go_wp2_with (first
  | (go_at_call 96;(with_reducible refine (R1.out _ s0.below).mono ?_);rintro e w1 ⟨rfl,hb⟩;have s1:=s0.via hb;obtain ⟨a0,a1,b0,b1,r0,r1,rf,rz⟩:=s1.facts)
  | (go_at_call 96;(with_reducible refine (R2.out _ s1.below).mono ?_);rintro e w2 ⟨rfl,hb⟩;have s2:=s1.via hb;clear a0 a1 b0 b1 r0 r1 rf rz;obtain ⟨a0,a1,b0,b1,r0,r1,rf,rz⟩:=s2.facts)
  | fail "no arm")
 go_quiet (fail)
 have s3:=s2.drewN nq
 clear a0 a1 b0 b1 r0 r1 rf rz R1 R2
 go_wp2_with fail
 go_loopw [6,7] (fun x y wr=>∃A3 n3 c3 p A4 n4 c4 q,x=.slice A3 n3 c3∧y=.slice A4 n4 c4∧Sm w neg A n c neg2 A2 n2 c2 wr∧Hid (Sl wr wr.heap.size A3 n3 c3 (digs p)∧Sl wr wr.heap.size A4 n4 c4 (digs q)∧Nat.gcd p q=G∧p<big∧q<big)) (fun _ y wr=>slv wr y)
 case atStart =>
  obtain ⟨p,q,rfl,rfl,i1,i2,i3⟩:=I0.out
  exact ⟨A,n,c,p,A2,n2,c2,q,rfl,rfl,s3,Lib.hid ⟨(h'.out.below s3.below).more s3.below.size,(h2'.out.below s3.below).more s3.below.size,i1,i2,i3⟩⟩
 case round =>
  obtain ⟨A3,n3,c3,p,A4,n4,c4,q,rfl,rfl,sr,hI⟩:=hrel
  obtain ⟨a0,a1,b0,b1,r0,r1,rf,rz⟩:=sr.facts
  by_cases h6:(0:Int)<n4
  ·by_cases h5:(2:Int)<max (n3:Int) (n4:Int)
   ·have hq0:0<q:=by have:=(zab hI.out.2.1).2;omega
    have OV:Hid (Calls Tryz.prog 99 #[.slice A3 n3 c3,.slice A4 n4 c4] wr (RetQR (p / q) (p%q) wr)):=by
     obtain ⟨i1,i2,i3,i4,i5⟩:=hI.out
     have:=zls i1 i2 (Nat.le_refl _) (z1 p) (z1 q) (by have:=zhy i1 i4;omega) (by omega)
     rw [zp,zp] at this
     exact Lib.hid this
    go_wp2_with (first
     | (go_at_call 99;(with_reducible refine (OV.out).mono ?_);rintro e w3 ⟨A5,n5,c5,A6,n6,c6,rfl,hsq,hsr,hb3⟩;have sr2:=sr.via hb3)
     | fail "no arm")
    obtain ⟨i1,i2,i3,i4,i5⟩:=hI.out
    refine ⟨⟨A4,n4,c4,q,A6,n6,c6,p%q,rfl,rfl,sr2,Lib.hid ⟨(i2.below hb3).more hb3.size,hsr,by rw [zhA];exact i3,i5,Nat.lt_trans (Nat.mod_lt _ hq0) i5⟩⟩,?_⟩
    rw [zdA hsr,zdA i2,zp,zp]
    exact Nat.mod_lt _ hq0
   ·have hw3:n3≤2∧n4≤2:=by omega
    have hne:((n4:Int) == 0)=false:=by simp;omega
    have hne2:¬ (n4:Int)=0:=by omega
    obtain ⟨i1,i2,i3,i4,i5⟩:=hI.out
    have hp64:Hid (p<18446744073709551616∧q<18446744073709551616):=by
     have g1:=qz (z1 p).1
     have g2:=qz (z1 q).1
     rw [zp,i1.len] at g1
     rw [zp,i2.len] at g2
     have g3:4294967296 ^ n3≤4294967296 ^ 2:=Nat.pow_le_pow_right (by omega) hw3.1
     have g4:4294967296 ^ n4≤4294967296 ^ 2:=Nat.pow_le_pow_right (by omega) hw3.2
     exact Lib.hid ⟨by omega,by omega⟩
    have W1:=Lib.hid (zhX A3 n3 c3 wr.heap.size (digs p) wr i1 (Nat.le_refl _) hw3.1)
    have W2:=Lib.hid (fun (W:World) (hW:Below wr.heap.size wr W)=>zhX A4 n4 c4 wr.heap.size (digs q) W (i2.below hW) hW.size hw3.2)
    rw [zp] at W1 W2
    clear i1 i2 i4 i5 hI
    go_wp2_with (first
     | (go_at_call 101;(with_reducible refine (W1.out).mono ?_);rintro e w3 ⟨rfl,hb3⟩;have sr2:=sr.via hb3;clear a0 a1 b0 b1 r0 r1 rf rz;obtain ⟨a0,a1,b0,b1,r0,r1,rf,rz⟩:=sr2.facts)
     | (go_at_call 101;(with_reducible refine (W2.out _ hb3).mono ?_);rintro e w4 ⟨rfl,hb4⟩;have sr3:=sr2.via hb4;clear a0 a1 b0 b1 r0 r1 rf rz;obtain ⟨a0,a1,b0,b1,r0,r1,rf,rz⟩:=sr3.facts)
     | fail "no arm")
    clear a0 a1 b0 b1 r0 r1 rf rz W1 W2
    go_loopw [10,11] (fun x y W=>∃a b:Nat,x=.int .u64 a∧y=.int .u64 b∧a<18446744073709551616∧b<18446744073709551616∧Sm w neg A n c neg2 A2 n2 c2 W∧Hid (Nat.gcd a b=G)) (fun _ y _=>(intOf y).toNat)
    case atStart=>exact ⟨p,q,rfl,rfl,hp64.out.1,hp64.out.2,sr3,Lib.hid i3⟩
    case round =>
     obtain ⟨a,b,rfl,rfl,ha,hb,sq,hg⟩:=hrel
     by_cases hb0:(0:Int)<b
     ·have hbn:(b:Int)≠0:=by omega
      go_wp2_with fail
      go_quiet (fail)
      go_roundw
      case rel =>
       refine ⟨_,_,_,_,_,_,_,_,⟨b,a%b,?_,?_,hb,Nat.lt_trans (Nat.mod_lt _ (by omega)) hb,sq.drewN nq,Lib.hid (by rw [zhA];exact hg.out)⟩,rfl⟩
       ·rfl
       ·rfl
      case measure =>
       have:=Nat.mod_lt a (show 0<b by omega)
       show (((a%b:Nat):Int)).toNat<((b:Nat):Int).toNat
       rw [Int.toNat_natCast,Int.toNat_natCast]
       exact this
     ·obtain rfl:b=0:=by omega
      obtain rfl:a=G:=by have:=hg.out;rwa [Nat.gcd_zero_right] at this
      obtain ⟨hv,hd⟩:=zen (v:=a) ha
      have e2:IntKind.u32.wrap (a:Int)=((a%4294967296:Nat):Int):=by rw [IntKind.wrap_u32];omega
      have e3:IntKind.u32.wrap ((a:Int) / 4294967296)=((a / 4294967296:Nat):Int):=by rw [IntKind.wrap_u32];omega
      obtain ⟨d0,ed0⟩:∃d0,a%4294967296=d0:=⟨_,rfl⟩
      obtain ⟨d1,ed1⟩:∃d1,a / 4294967296=d1:=⟨_,rfl⟩
      rw [ed0,ed1] at hv hd
      rw [ed0] at e2
      rw [ed1] at e3
      clear ed0 ed1 hb0 hg i3 h5 hne hne2 hw3
      have hD:DBk (wr.alloc (.cells #[.int .u32 (d0:Nat),.int .u32 (d1:Nat)] 123)) wr.heap.size 123 [d0,d1]:=zy _ _ _ rfl
      have hsl:=Lib.hid (hD.sl (B:=wr.heap.size+1) hd (by omega) (by simp))
      have s5:=sq.via ((Below.refl _ _).alloc (Nat.le_refl _) (.cells #[.int .u32 (d0:Nat),.int .u32 (d1:Nat)] 123))
      clear hD
      go_wp2_with (first
       | (go_at_call 100;(with_reducible refine (zac _ 2 2 _ a false [d0,d1] _ hsl.out (by simp) hv).mono ?_);rintro e w2 hr;obtain ⟨A6,n6,c6,rfl,hs6,hb6⟩:=za6 hr;have s6:=s5.via hb6;obtain ⟨a0,a1,b0,b1,r0,r1,rf,rz⟩:=s6.facts)
       | fail "no arm")
      obtain ⟨q0,q1⟩:=qd (.bool (ngO (fitO (sgn false a)))) (.slice A6 n6 c6) r0 r1
      refine bodyPost_ret (v:=.tuple #[.agg #[.bool (ngO (fitO (sgn false a))),.slice A6 n6 c6],.bool (okO (fitO (sgn false a)))]) ?_ rfl ⟨_,_,_,rfl,?_,?_⟩
      ·simp [results,Tryz.f72,go_sem,q0,q1]
      ·exact hs6.stored r0 r1 _ _
      ·exact (s6.below.setCell (by simp;omega) _).setCell (by simp;omega) _
  ·obtain rfl:n4=0:=by omega
   have hq0:q=0:=(zab hI.out.2.1).1 rfl
   obtain rfl:p=G:=by have:=hI.out.2.2.1;rwa [hq0,Nat.gcd_zero_right] at this
   have NU:=Lib.hid (zac A3 n3 c3 wr.heap.size _ false _ wr hI.out.1 (Nat.le_refl _) (zp _))
   clear hq0 hI
   by_cases h5:(2:Int)<max (n3:Int) ((0:Nat):Int)
   ·go_wp2_with (first
     | (go_at_call 100;(with_reducible refine (NU.out).mono ?_);rintro e w2 hr;obtain ⟨A6,n6,c6,rfl,hs6,hb6⟩:=za6 hr;have s6:=sr.via hb6;clear a0 a1 b0 b1 r0 r1 rf rz;obtain ⟨a0,a1,b0,b1,r0,r1,rf,rz⟩:=s6.facts)
     | fail "no arm")
    obtain ⟨q0,q1⟩:=qd (.bool (ngO (fitO (sgn false p)))) (.slice A6 n6 c6) r0 r1
    refine bodyPost_ret (v:=.tuple #[.agg #[.bool (ngO (fitO (sgn false p))),.slice A6 n6 c6],.bool (okO (fitO (sgn false p)))]) ?_ rfl ⟨_,_,_,rfl,?_,?_⟩
    ·simp [results,Tryz.f72,go_sem,q0,q1]
    ·exact hs6.stored r0 r1 _ _
    ·exact (s6.below.setCell (by simp;omega) _).setCell (by simp;omega) _
   ·go_wp2_with (first
     | (go_at_call 100;(with_reducible refine (NU.out).mono ?_);rintro e w2 hr;obtain ⟨A6,n6,c6,rfl,hs6,hb6⟩:=za6 hr;have s6:=sr.via hb6;clear a0 a1 b0 b1 r0 r1 rf rz;obtain ⟨a0,a1,b0,b1,r0,r1,rf,rz⟩:=s6.facts)
     | fail "no arm")
    obtain ⟨q0,q1⟩:=qd (.bool (ngO (fitO (sgn false p)))) (.slice A6 n6 c6) r0 r1
    refine bodyPost_ret (v:=.tuple #[.agg #[.bool (ngO (fitO (sgn false p))),.slice A6 n6 c6],.bool (okO (fitO (sgn false p)))]) ?_ rfl ⟨_,_,_,rfl,?_,?_⟩
    ·simp [results,Tryz.f72,go_sem,q0,q1]
    ·exact hs6.stored r0 r1 _ _
    ·exact (s6.below.setCell (by simp;omega) _).setCell (by simp;omega) _
theorem zm3 (neg neg2:Bool) {A A2:Option Addr} {n n2 c c2 B:Nat} {l m:List Nat} {w:World} (h:Sl w B A n c l) (h2:Sl w B A2 n2 c2 m) (hB:B≤w.heap.size) :
  Calls Tryz.prog 72 #[.agg #[.bool neg,.slice A n c],.agg #[.bool neg2,.slice A2 n2 c2]] w (RetN (gcdS neg l neg2 m) w):=by
 cases h1:zq neg l with
 | false=>rw [show gcdS neg l neg2 m=none by unfold gcdS;rw [if_neg (by rw [h1];simp)]];exact zm4 neg neg2 h hB h1
 | true =>
  cases k1:zq neg2 m with
  | false=>rw [show gcdS neg l neg2 m=none by unfold gcdS;rw [if_neg (by rw [k1];simp)]];exact zm5 neg neg2 h h2 hB h1 k1
  | true =>
   rw [show gcdS neg l neg2 m=fitO ((Nat.gcd (nval l) (nval m):Nat):Int) by unfold gcdS;rw [if_pos ⟨h1,k1⟩]]
   exact zm6 neg neg2 h h2 hB h1 k1
end Go.Proofs.YtjcegdldgjphiaaGreatDoor
namespace Go.Proofs.YtjcegdldgjphiaaGreatDoor
open Go.RowKit Go.Shelf
theorem zaZ (s:List UInt8):Lib.trimPrefix s [45]=cutR s∧Lib.hasPrefix s [45]=cutN s:=by
 cases s with
 | nil=>exact ⟨rfl,rfl⟩
 | cons b s =>
  by_cases h:b=45
  ·subst h;exact ⟨rfl,by simp [Lib.hasPrefix,cutN]⟩
  ·have h1:Lib.hasPrefix (b::s) [45]=false:=by simp [Lib.hasPrefix,List.isPrefixOf,Ne.symm h]
   refine ⟨?_,by rw [h1];simp [cutN,h]⟩
   unfold Lib.trimPrefix
   rw [h1];simp [cutR,h]
theorem zal (s:List UInt8) (w:World):Calls Tryz.prog 136 #[.string ⟨s.toArray⟩,.string ⟨#[45]⟩] w fun e w'=>e=.returned (.tuple #[.string ⟨(cutR s).toArray⟩,.bool (cutN s)])∧w'=w:=by
 have:=Tryz.strings_CutPrefix ⟨s.toArray⟩ ⟨#[45]⟩ w
 rwa [show (⟨s.toArray⟩:ByteArray).data.toList=s from rfl,show (⟨#[45]⟩:ByteArray).data.toList=[45] from rfl,(zaZ s).1,(zaZ s).2] at this
def SynT (B:Nat) (w:World):Prop:=∀w',Below B w w'→∃ev,w'.cell? ⟨3,0,none⟩=some ev∧(ev=.nilIface∨∃te pe,ev=.iface te pe)
theorem SynT.below {B B':Nat} {w w':World} (h:SynT B w) (hb:Below B' w w') (hB:B≤B'):SynT B w':=fun w2 h2=>h w2 ((hb.mono hB).trans h2)
theorem zga (w:World) (e:TypeId) (s:ByteArray):Below w.heap.size w (Lib.bytesWorld w e s):=
 ⟨rfl,rfl,rfl,by rw [Lib.bytesWorld_size];omega,fun i hi=>Lib.bytesWorld_at_old w e s i hi⟩
theorem zlw (t:List UInt8) (hl:t.length≤9) (h0:t≠[]) (ht:AllD t) (w:World) :
  Calls Tryz.prog 137 #[.string ⟨t.toArray⟩,.int .i64 10,.int .i64 32] w fun e w'=>e=.returned (.tuple #[.int .u64 (dval t:Nat),.nilIface])∧Below w.heap.size w w':=by
 have hp:Lib.parseUintB 32 t=.ok (dval t):=by
  unfold Lib.parseUintB
  rw [if_neg h0,show 2 ^ 32 - 1=4294967295 from rfl,zdD t 0 (by
   rw [Nat.zero_add,Nat.one_mul]
   exact Nat.pow_le_pow_right (by omega) hl),if_pos ht]
  rfl
 refine (Tryz.strconv_ParseUint_10_at32_ok ⟨t.toArray⟩ (by simp [ByteArray.size];omega) (dval t) hp w).mono ?_
 rintro e w' ⟨rfl,rfl | rfl⟩
 ·exact ⟨rfl,Below.refl _ _⟩
 ·exact ⟨rfl,zga _ _ _⟩
theorem zjZ (t:List UInt8) (hl:t.length≤9) (h0:t≠[]) (ht:¬ AllD t) (w:World) {B:Nat} (hS:SynT B w) :
  Calls Tryz.prog 137 #[.string ⟨t.toArray⟩,.int .i64 10,.int .i64 32] w fun e w'=>∃te pe,e=.returned (.tuple #[.int .u64 0,.iface te pe])∧Below w.heap.size w w':=by
 have hp:Lib.parseUintB 32 t=.syntax:=by
  unfold Lib.parseUintB
  rw [if_neg h0,show 2 ^ 32 - 1=4294967295 from rfl,zdD t 0 (by
   rw [Nat.zero_add,Nat.one_mul]
   exact Nat.pow_le_pow_right (by omega) hl),if_neg ht]
 obtain ⟨ev,h1,h2⟩:=hS w (Below.refl _ _)
 refine (Tryz.strconv_ParseUint_10_at32_syntax ⟨t.toArray⟩ (by simp [ByteArray.size];omega) hp ev w h1 h2).mono ?_
 rintro e w' ⟨N,rfl,_,_,hb⟩
 exact ⟨_,_,rfl,hb⟩
def PrI (W:World) (s:List UInt8) (A:Option Addr) (n c p:Nat) (pre r:List UInt8):Prop:=Sl W W.heap.size A n c (digs p)∧cutR s=pre++r∧AllD pre∧p=dval pre∧(pre=[]∨r.length%9=0)
theorem znj {k N:Nat} (h:k≤N):10 ^ k≤4294967296 ^ N:=Nat.le_trans (Nat.pow_le_pow_left (by decide) k) (Nat.pow_le_pow_right (by decide) h)
theorem zdo {p k N:Nat} (h:p<10 ^ k) (hk:k≤N):(digs p).length≤N:=by
 have h8:p<4294967296 ^ N:=Nat.lt_of_lt_of_le h (znj hk)
 rcases Nat.lt_or_ge N (digs p).length with h9 | h9
 ·have h10:=za9 (z1 p) (by rintro e;rw [e] at h9;simp at h9)
  rw [zp] at h10
  have h12:N≤(digs p).length - 1:=by omega
  have h11:4294967296 ^ N≤4294967296 ^ ((digs p).length - 1):=Nat.pow_le_pow_right (by decide) h12
  exact absurd (Nat.lt_of_lt_of_le h8 (Nat.le_trans h11 h10)) (Nat.lt_irrefl _)
 ·exact h9
theorem znl {W:World} {s:List UInt8} {A:Option Addr} {n c p:Nat} {pre r:List UInt8} (h:PrI W s A n c p pre r) (hs:(cutR s).length≤640):n≤640∧r.length≤640:=by
 obtain ⟨h1,h2,h3,h4,_⟩:=h
 have h5:=congrArg List.length h2
 rw [List.length_append] at h5
 have h6:=zgm h3
 rw [← h4] at h6
 have h7:=zdo h6 (N:=640) (by omega)
 rw [h1.len] at h7
 exact ⟨h7,by omega⟩
theorem znm {W:World} {s:List UInt8} {A:Option Addr} {n c p:Nat} {pre r:List UInt8} (h:PrI W s A n c p pre r) (hs:(cutR s).length≤640):(digs (p*1000000000)).length≤1000:=by
 obtain ⟨h1,h2,h3,h4,_⟩:=h
 have h5:=congrArg List.length h2
 rw [List.length_append] at h5
 have h6:=zgm h3
 rw [← h4] at h6
 refine zdo (k:=pre.length+9) ?_ (by omega)
 rw [Nat.pow_add]
 exact Nat.mul_lt_mul_of_pos_right h6 (by decide)
theorem zly {W W2:World} {s:List UInt8} {A A2:Option Addr} {n c n2 c2 p k u:Nat} {pre r:List UInt8} {b:UInt8} (h:PrI W s A n c p pre (b::r)) (hk:r.length%9+1=k) (hD:AllD ((b::r).take k)) (hu:dval ((b::r).take k)=u)
  (h2:Sl W2 W2.heap.size A2 n2 c2 (digs (p*1000000000+u))):PrI W2 s A2 n2 c2 (p*1000000000+u) (pre++(b::r).take k) ((b::r).drop k):=by
 obtain ⟨h1,h3,h4,h5,h6⟩:=h
 have hm:=Nat.mod_le r.length 9
 refine ⟨h2,by rw [List.append_assoc,List.take_append_drop];exact h3,zag.2 ⟨h4,hD⟩,?_,.inr (by rw [List.length_drop,List.length_cons];omega)⟩
 rw [zcs,zhs,hu,← h5,List.length_take,List.length_cons,Nat.min_eq_left (by omega)]
 rcases h6 with h6 | h6
 ·subst h6
  have:p=0:=h5
  subst this
  simp
 ·rw [List.length_cons] at h6
  rw [show k=9 by omega]
theorem PowT.mono {B B':Nat} {w:World} (h:PowT B w) (hB:B≤B'):PowT B' w:=fun w2 h2=>h w2 (h2.mono hB)
theorem SynT.mono {B B':Nat} {w:World} (h:SynT B w) (hB:B≤B'):SynT B' w:=fun w2 h2=>h w2 (h2.mono hB)
theorem Sl.alloc_ {w:World} {A:Option Addr} {n c:Nat} {l:List Nat} (h:Sl w w.heap.size A n c l) (o:Obj):Sl (w.alloc o) (w.alloc o).heap.size A n c l:=(h.below ((Below.refl _ _).alloc (Nat.le_refl _) o)).more (by simp)
theorem zj8 {w w':World} {e:Ending} (h:RetN none w e w'):∃A n c,e=.returned (.tuple #[.agg #[.bool false,.slice A n c],.bool false])∧Sl w' w'.heap.size A n c (digs 0)∧Below w.heap.size w w':=h
theorem zbp {x:Int} {w w':World} {e:Ending} (h:RetN (some x) w e w'):∃A n c,e=.returned (.tuple #[.agg #[.bool (decide (x<0)),.slice A n c],.bool true])∧Sl w' w'.heap.size A n c (digs x.natAbs)∧Below w.heap.size w w':=h
theorem zdy {x:Int} (h:x.natAbs<big):zq (decide (x<0)) (digs x.natAbs)=true:=by
 have h1:=(zaa x.natAbs).2 h
 have h2:=(z1 x.natAbs).2
 by_cases h0:digs x.natAbs=[]
 ·have:=zcf.1 h0
  rw [h0]
  have hx:¬ x<0:=by omega
  simp [zq,hx]
 ·rcases zbT (digs x.natAbs) with h3 | ⟨a,d,h3⟩
  ·exact absurd h3 h0
  ·rw [h3] at h1 h2 ⊢
   simp at h1 h2
   simp [zq,h2]
   omega
theorem zcR (x:Int):sgn (decide (x<0)) x.natAbs=x:=by
 unfold sgn
 by_cases h:x<0
 ·simp [h];omega
 ·simp [h];omega
theorem ziB {x:Int} (h:x.natAbs<big):textS (decide (x<0)) (digs x.natAbs)=Lib.itoa x:=by
 unfold textS
 rw [if_pos (zdy h),zp,zcR]
theorem zhx (t:List UInt8) (k:Nat):(⟨t.toArray⟩:ByteArray).extract 0 k=⟨(t.take k).toArray⟩:=by
 apply ByteArray.ext
 simp [ByteArray.data_extract]
theorem zk6 (t:List UInt8) (k n:Nat) (h:n=t.length):(⟨t.toArray⟩:ByteArray).extract k n=⟨(t.drop k).toArray⟩:=by
 subst h
 apply ByteArray.ext
 simp [ByteArray.data_extract]
 exact List.take_of_length_le (by simp)
attribute [local go_sem] bapp
theorem zgL (s:List UInt8) (w:World) (h:cutR s=[]) :
  Calls Tryz.prog 109 #[.string ⟨s.toArray⟩] w (RetN none w):=by
 have CP:=Lib.hid (zal s)
 rw [h] at CP
 have s0:=S1.start (w:=w) (neg:=false) (A:=none) (n:=0) (c:=0)
 clear h
 go_enter Tryz.func109,Tryz.ntmps109
 go_wp2_with (go_at_call 136;refine (CP.out _).mono ?_;rintro e w1 ⟨rfl,rfl⟩)
 exact bodyPost_ret (v:=.tuple #[.agg #[.bool false,.slice none 0 0],.bool false]) (by simp [results,Tryz.f109,go_sem]) rfl ⟨_,_,_,rfl,by rw [show digs (vO none).natAbs=[] from zw];exact Sl.none_,by go_grown⟩
theorem ziq (s:List UInt8) (w:World) (h:640<(cutR s).length) :
  Calls Tryz.prog 109 #[.string ⟨s.toArray⟩] w (RetN none w):=by
 have CP:=Lib.hid (zal s)
 obtain ⟨t0,t1,ht⟩:∃t0 t1,cutR s=t0::t1:=by
  cases he:cutR s with
  | nil=>rw [he] at h;simp at h
  | cons a b=>exact ⟨a,b,rfl⟩
 rw [ht] at CP h
 have h2:(640:Int)<(t1.length:Int)+1:=by simp at h;omega
 clear h ht
 go_enter Tryz.func109,Tryz.ntmps109
 go_wp2_with (go_at_call 136;refine (CP.out _).mono ?_;rintro e w1 ⟨rfl,rfl⟩)
 exact bodyPost_ret (v:=.tuple #[.agg #[.bool false,.slice none 0 0],.bool false]) (by simp [results,Tryz.f109,go_sem]) rfl ⟨_,_,_,rfl,by rw [show digs (vO none).natAbs=[] from zw];exact Sl.none_,by go_grown⟩
theorem zir (s:List UInt8) (w:World) {B:Nat} (hB:B≤w.heap.size) (hT:PowT B w) (hS:SynT B w) (h0:cutR s≠[]) (h:(cutR s).length≤640) :
  Calls Tryz.prog 109 #[.string ⟨s.toArray⟩] w (RetN (zn s) w):=by
 have CP:=Lib.hid (zal s)
 have HT:=Lib.hid hT
 have HS:=Lib.hid hS
 have s0:=S1.start (w:=w) (neg:=false) (A:=none) (n:=0) (c:=0)
 obtain ⟨t0,t1,ht⟩:∃t0 t1,cutR s=t0::t1:=by
  cases he:cutR s with
  | nil=>exact absurd he h0
  | cons a b=>exact ⟨a,b,rfl⟩
 have hcr:=Lib.hid ht
 have h2:¬ (640:Int)<(t1.length:Int)+1:=by rw [ht] at h;simp at h;omega
 rw [ht] at CP
 have hlen:=Lib.hid h
 clear h ht hT hS h0
 go_enter Tryz.func109,Tryz.ntmps109
 go_wp2_with (go_at_call 136;refine (CP.out _).mono ?_;rintro e w1 ⟨rfl,rfl⟩)
 go_loopw [4,6] (fun x y W=>∃r A3 n3 c3 p pre,x=.string ⟨List.toArray r⟩∧y=.slice A3 n3 c3∧S1 w false none 0 0 W∧Hid (PrI W s A3 n3 c3 p pre r)) (fun x _ _=>match x with | .string b=>b.size | _=>0)
 case atStart=>exact ⟨t0::t1,none,0,0,0,[],rfl,rfl,s0,Lib.hid ⟨by rw [zw];exact Sl.none_,hcr.out,(fun b hb=>by cases hb),rfl,.inl rfl⟩⟩
 case round =>
  obtain ⟨r,A3,n3,c3,p,pre,rfl,rfl,sr,hI⟩:=hrel
  obtain ⟨hn3,hr3⟩:=znl hI.out hlen.out
  cases r with
  | nil =>
   have hpv:Hid (cutR s=pre∧p=dval (cutR s)):=by
    have h1:=hI.out.2.1
    rw [List.append_nil] at h1
    exact Lib.hid ⟨h1,by rw [h1];exact hI.out.2.2.2.1⟩
   have NU:Hid (Calls Tryz.prog 100 #[.slice A3 n3 c3,.bool (cutN s)] wr (RetN (fitO (valS s)) wr)):=by
    have:=zac A3 n3 c3 wr.heap.size p (cutN s) _ wr hI.out.1 (Nat.le_refl _) (zp _)
    rw [show sgn (cutN s) p=valS s by unfold valS;rw [← hpv.out.2]] at this
    exact Lib.hid (this.mono fun _ _ hr=>za6 hr)
   by_cases hf:(valS s).natAbs<big
   ·have e1:fitO (valS s)=some (valS s):=by unfold fitO;rw [if_pos hf]
    rw [e1] at NU
    obtain ⟨x,hx⟩:∃x,valS s=x:=⟨_,rfl⟩
    have hps:Hid (zn s=if Lib.itoa x=s then some x else none):=Lib.hid (by
     unfold zn
     rw [hx] at hf ⊢
     by_cases h:Lib.itoa x=s
     ·rw [if_pos ⟨h,hf⟩,if_pos h]
     ·rw [if_neg (fun h2=>h h2.1),if_neg h])
    rw [hx] at NU hf
    have hrd:=Lib.hid (ziB hf)
    clear e1 hx hf
    have TX:=Lib.hid (fun (W:World) (A:Option Addr) (n c:Nat) (hW:Below w.heap.size w W) (hs:Sl W W.heap.size A n c (digs x.natAbs))=>zhT (decide (x<0)) hs (Nat.le_refl _) ((HT.out.below hW hB).mono (Nat.le_trans hB hW.size)))
    rw [hrd.out] at TX
    by_cases heq:Lib.itoa x=s
    ·rw [heq] at TX
     go_wp2_with (first
      | (go_at_call 100;(with_reducible refine (NU.out).mono ?_);rintro e w2 hr;obtain ⟨A6,n6,c6,rfl,hs6,hb6⟩:=zbp hr;have s6:=sr.via hb6;have s7:=s6.via ((Below.refl _ _).alloc (Nat.le_refl _) (.cells #[.bool (decide (x<0)),.slice A6 n6 c6] 30));obtain ⟨r0,r1⟩:=s7.facts;obtain ⟨rf,rz⟩:=s7.frz)
      | (go_at_call 74;(with_reducible refine (TX.out _ _ _ _ s7.below (hs6.alloc_ _)).mono ?_);rintro e w3 ⟨rfl,hb7⟩;have s8:=s7.via hb7;obtain ⟨g0,g1⟩:=bcell hb7;clear r0 r1 rf rz;obtain ⟨r0,r1⟩:=s8.facts;obtain ⟨rf,rz⟩:=s8.frz)
      | fail "no arm")
     rw [hps.out,if_pos heq]
     obtain ⟨q0,q1⟩:=qd (.bool (decide (x<0))) (.slice A6 n6 c6) r0 r1
     refine bodyPost_ret (v:=.tuple #[.agg #[.bool (decide (x<0)),.slice A6 n6 c6],.bool true]) ?_ rfl ⟨A6,n6,c6,rfl,?_,?_⟩
     ·simp [results,Tryz.f109,go_sem,q0,q1]
     ·exact (((hs6.alloc_ _).below hb7).more hb7.size).stored r0 r1 _ _
     ·exact (s8.below.setCell (by simp) _).setCell (by simp) _
    ·have hbq:(Lib.itoa x == s)=false:=by simp [heq]
     go_wp2_with (first
      | (go_at_call 100;(with_reducible refine (NU.out).mono ?_);rintro e w2 hr;obtain ⟨A6,n6,c6,rfl,hs6,hb6⟩:=zbp hr;have s6:=sr.via hb6;have s7:=s6.via ((Below.refl _ _).alloc (Nat.le_refl _) (.cells #[.bool (decide (x<0)),.slice A6 n6 c6] 30));obtain ⟨r0,r1⟩:=s7.facts;obtain ⟨rf,rz⟩:=s7.frz)
      | (go_at_call 74;(with_reducible refine (TX.out _ _ _ _ s7.below (hs6.alloc_ _)).mono ?_);rintro e w3 ⟨rfl,hb7⟩;have s8:=s7.via hb7;obtain ⟨g0,g1⟩:=bcell hb7;clear r0 r1 rf rz;obtain ⟨r0,r1⟩:=s8.facts;obtain ⟨rf,rz⟩:=s8.frz)
      | fail "no arm")
     rw [hps.out,if_neg heq]
     obtain ⟨q0,q1⟩:=qd (.bool false) (.slice none 0 0) r0 r1
     refine bodyPost_ret (v:=.tuple #[.agg #[.bool false,.slice none 0 0],.bool false]) ?_ rfl ⟨_,_,_,rfl,by rw [show digs (vO none).natAbs=[] from zw];exact Sl.none_,?_⟩
     ·simp [results,Tryz.f109,go_sem,q0,q1]
     ·exact (s8.below.setCell (by simp) _).setCell (by simp) _
   ·have e1:fitO (valS s)=none:=by unfold fitO;rw [if_neg hf]
    rw [e1] at NU
    have hps:Hid (zn s=none):=Lib.hid (by unfold zn;rw [if_neg (fun h=>hf h.2)])
    clear e1 hf
    go_wp2_with (first
     | (go_at_call 100;(with_reducible refine (NU.out).mono ?_);rintro e w2 hr;obtain ⟨A6,n6,c6,rfl,hs6,hb6⟩:=zj8 hr;have s6:=sr.via hb6;have s7:=s6.via ((Below.refl _ _).alloc (Nat.le_refl _) (.cells #[.bool false,.slice A6 n6 c6] 30));obtain ⟨r0,r1⟩:=s7.facts;obtain ⟨rf,rz⟩:=s7.frz)
     | fail "no arm")
    rw [hps.out]
    obtain ⟨q0,q1⟩:=qd (.bool false) (.slice none 0 0) r0 r1
    refine bodyPost_ret (v:=.tuple #[.agg #[.bool false,.slice none 0 0],.bool false]) ?_ rfl ⟨_,_,_,rfl,by rw [show digs (vO none).natAbs=[] from zw];exact Sl.none_,?_⟩
    ·simp [results,Tryz.f109,go_sem,q0,q1]
    ·exact (s7.below.setCell (by simp) _).setCell (by simp) _
  | cons b r =>
   have hrl:r.length+1≤640:=hr3
   clear hr3
   obtain ⟨k,hk⟩:∃k,r.length%9+1=k:=⟨_,rfl⟩
   have hk9:1≤k∧k≤9∧k≤r.length+1:=by have:=Nat.mod_le r.length 9;omega
   by_cases hD:AllD ((b::r).take k)
   ·have PO:=Lib.hid (zlw ((b::r).take k) (by simp;omega) (by intro e;simp at e;omega) hD)
    have hdv:=zgm hD
    obtain ⟨u,hu⟩:∃u,dval ((b::r).take k)=u:=⟨_,rfl⟩
    rw [hu] at PO hdv
    have hu9:u<1000000000:=Nat.lt_of_lt_of_le hdv (Nat.pow_le_pow_right (n:=10) (i:=_) (j:=9) (by decide) (by simp;omega))
    have hu9i:(u:Int)<1000000000:=by omega
    clear hdv
    go_wp2_with (first
     | (go_at_call 137;rw [zhx,hk];(with_reducible refine (PO.out _).mono ?_);rintro e w3 ⟨rfl,hb3⟩;have sr2:=sr.via hb3)
     | fail "no arm")
    have TI:Hid (Calls Tryz.prog 138 #[.slice A3 n3 c3,.slice (some ⟨w3.heap.size,0,none⟩) 1 1] (w3.alloc (.cells #[.int .u32 1000000000] 123)) (RetD (p*1000000000) (w3.alloc (.cells #[.int .u32 1000000000] 123)))):=by
     have d1:DBk (w3.alloc (.cells #[.int .u32 1000000000] 123)) w3.heap.size 123 [1000000000]:=zy w3 _ _ rfl
     have b1:Below wr.heap.size wr (w3.alloc (.cells #[.int .u32 1000000000] 123)):=hb3.alloc hb3.size _
     have:=zki A3 (some ⟨w3.heap.size,0,none⟩) n3 c3 1 1 (w3.alloc (.cells #[.int .u32 1000000000] 123)).heap.size (digs p) [1000000000] _ ((hI.out.1.below b1).more b1.size) (d1.sl (by intro d hd;simp at hd;omega) (by simp) (by simp)) (Nat.le_refl _) (by omega) (by omega)
     rw [zp,show nval [1000000000]=1000000000 from rfl] at this
     exact Lib.hid this
    have b1:Below wr.heap.size wr (w3.alloc (.cells #[.int .u32 1000000000] 123)):=hb3.alloc hb3.size _
    have PL:Hid (∀(W:World) (A4:Option Addr) (n4 c4:Nat),Sl W W.heap.size A4 n4 c4 (digs (p*1000000000))→Calls Tryz.prog 139 #[.slice A4 n4 c4,.slice (some ⟨W.heap.size,0,none⟩) 1 1] (W.alloc (.cells #[.int .u32 (u:Nat)] 123)) (RetD (p*1000000000+u) (W.alloc (.cells #[.int .u32 (u:Nat)] 123)))):=Lib.hid fun W A4 n4 c4 hs=>by
     have d1:DBk (W.alloc (.cells #[.int .u32 (u:Nat)] 123)) W.heap.size 123 [u]:=zy W _ _ rfl
     have b1:Below W.heap.size W (W.alloc (.cells #[.int .u32 (u:Nat)] 123)):=(Below.refl _ _).alloc (Nat.le_refl _) _
     have h4:=znm hI.out hlen.out
     rw [hs.len] at h4
     have:=zlx (B:=(W.alloc (.cells #[.int .u32 (u:Nat)] 123)).heap.size) ((hs.below b1).more b1.size) (d1.sl (by intro d hd;simp at hd;omega) (by simp) (by simp)) (Nat.le_refl _) h4 (by simp)
     rw [zp,show nval [u]=u by simp [nval]] at this
     exact this
    go_wp2_with (first
     | (go_at_call 138;(with_reducible refine (TI.out).mono ?_);rintro e w4 ⟨A4,n4,c4,rfl,hs4,hb4⟩;have sr3:=(sr2.via ((Below.refl _ _).alloc (Nat.le_refl _) (.cells #[.int .u32 1000000000] 123))).via hb4)
     | (go_at_call 139;(with_reducible refine (PL.out _ _ _ _ hs4).mono ?_);rintro e w5 ⟨A5,n5,c5,rfl,hs5,hb5⟩;have sr4:=(sr3.via ((Below.refl _ _).alloc (Nat.le_refl _) (.cells #[.int .u32 (u:Nat)] 123))).via hb5)
     | fail "no arm")
    rw [hk,zk6 _ _ _ (by simp)]
    refine ⟨⟨(b::r).drop k,A5,n5,c5,p*1000000000+u,pre++(b::r).take k,rfl,rfl,sr4,Lib.hid (zly hI.out hk hD hu hs5)⟩,?_⟩
    simp [ByteArray.size]
    omega
   ·have PB:=Lib.hid (zjZ ((b::r).take k) (by simp;omega) (by intro e;simp at e;omega) hD wr (HS.out.below sr.below hB))
    have hp:Hid (zn s=none):=Lib.hid (zio (by
     rw [hI.out.2.1]
     intro h
     have h1:=(zag.1 h).2
     rw [← List.take_append_drop k (b::r)] at h1
     exact hD (zag.1 h1).1))
    go_wp2_with (first
     | (go_at_call 137;rw [zhx];(try rw [hk]);(with_reducible refine (PB.out).mono ?_);rintro e w3 ⟨te,pe,rfl,hb3⟩;have sr2:=sr.via hb3;obtain ⟨r0,r1⟩:=sr2.facts;obtain ⟨rf,rz⟩:=sr2.frz)
     | fail "no arm")
    obtain ⟨q0,q1⟩:=qd (.bool false) (.slice none 0 0) r0 r1
    rw [hp.out]
    refine bodyPost_ret (v:=.tuple #[.agg #[.bool false,.slice none 0 0],.bool false]) ?_ rfl ⟨_,_,_,rfl,by rw [show digs (vO none).natAbs=[] from zw];exact Sl.none_,?_⟩
    ·simp [results,Tryz.f109,go_sem,q0,q1]
    ·exact (sr2.below.setCell (by simp) _).setCell (by simp) _
theorem zjX (s:List UInt8) (w:World) {B:Nat} (hB:B≤w.heap.size) (hT:PowT B w) (hS:SynT B w) :
  Calls Tryz.prog 109 #[.string ⟨s.toArray⟩] w (RetN (zn s) w):=by
 by_cases h0:cutR s=[]
 ·rw [ze0 h0];exact zgL s w h0
 ·rcases Nat.lt_or_ge 640 (cutR s).length with h | h
  ·rw [zgK h];exact ziq s w h
  ·exact zir s w hB hT hS h0 h
end Go.Proofs.YtjcegdldgjphiaaGreatDoor
namespace Go.Proofs.YtjcegdldgjphiaaGreatDoor
open Go.RowKit Go.Shelf
theorem OwnD.pushed {W w1:World} {base g cap d:Nat} {v:Value} {l:List Nat} (hO:OwnD W base v l) (hd:d<4294967296)
  (h1:w1.ownsRow base 123 1 (.slice (some ⟨g,0,none⟩) (l.length+1) cap) (l.length+1) (u32s l++[.int .u32 (d:Nat)])) (hg:W.grownBy w1 v.ownBlock) (hb:base≤W.heap.size) :
  OwnD w1 base (.slice (some ⟨g,0,none⟩) (l.length+1) cap) (l++[d])∧Below base W w1:=by
 refine ⟨⟨?_,q9.2 ⟨hO.2,fun x hx=>by rw [List.mem_singleton.1 hx];exact hd⟩⟩,?_⟩
 ·rw [List.length_append,List.length_singleton,show u32s (l++[d])=u32s l++[.int .u32 (d:Nat)] by simp [u32s]]
  exact h1
 ·refine (Below.refl base W).grown hg hb (fun k e=>?_)
  obtain ⟨⟨_,h2⟩,_⟩:=hO
  rcases h2 with ⟨rfl,_⟩ | ⟨g',cap',cur,rfl,h4,_⟩
  ·cases e
  ·cases e;exact h4
end Go.Proofs.YtjcegdldgjphiaaGreatDoor
