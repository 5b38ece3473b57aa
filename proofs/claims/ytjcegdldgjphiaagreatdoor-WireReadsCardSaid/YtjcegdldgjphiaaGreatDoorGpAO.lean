/-
  Merged: RtRefX, RtRefP, RtT, RtA, RtB, RtC, RtD, RtE, RtF, RtG, RtH.
-/
import Derived.Test.YtjcegdldgjphiaaGreatDoorGpAM
import Derived.Lib.SlBytesRow
import Derived.Test.YtjcegdldgjphiaaGreatDoorGpAA
import Derived.Test.YtjcegdldgjphiaaGreatDoorGpAN
set_option linter.unusedSimpArgs false
set_option linter.unusedVariables false
set_option maxRecDepth 100000
set_option maxHeartbeats 4000000
namespace Go.Proofs.YtjcegdldgjphiaaGreatDoor
open Go.RowKit Go.Shelf
def PB (W:World) (g:Nat) (o:List Nat):Prop:=∃rest:List Value,W.heap[g]?=some (.cells (u32s o++rest).toArray 123 (0,0))
theorem PB.lt {W:World} {g:Nat} {o:List Nat} (h:PB W g o):g<W.heap.size:=by obtain ⟨r,h⟩:=h;exact zaB h
theorem PB.cell {W:World} {g k:Nat} {o:List Nat} (h:PB W g o) (hk:k<o.length):W.cell? ⟨g,k,none⟩=some (.int .u32 (dg o k:Nat)):=by
 obtain ⟨r,h⟩:=h
 rw [zaL h,zb2 hk]
 simp [u32s,hk,List.getElem?_append]
theorem PB.frozen {W:World} {g:Nat} {o:List Nat} (h:PB W g o) (k:Nat):W.frozen? ⟨g,k,none⟩=false:=by obtain ⟨r,h⟩:=h;exact zbn h
theorem PB.set {W:World} {g k d:Nat} {o:List Nat} (h:PB W g o) (hk:k<o.length):PB (W.setCell ⟨g,k,none⟩ (.int .u32 (d:Nat))) g (o.set k d):=by
 obtain ⟨r,h⟩:=h
 refine ⟨r,?_⟩
 simp only [World.setCell,Array.getElem?_modify,h,if_true,Option.map_some]
 congr 2
 apply Array.toList_inj.1
 simp [u32s,List.map_set,hk]
theorem PB.below {W W1:World} {g:Nat} {o:List Nat} (h:PB W g o) (hb:Below W.heap.size W W1):PB W1 g o:=by
 obtain ⟨r,h2⟩:=h
 exact ⟨r,(hb.block g (zaB h2)).trans h2⟩
theorem PB.alloc_ {W:World} {g:Nat} {o:List Nat} (h:PB W g o) (x:Obj):PB (W.alloc x) g o:=h.below ((Below.refl _ _).alloc (Nat.le_refl _) x)
theorem PB.take {W:World} {g:Nat} {o:List Nat} (h:PB W g o) (k:Nat):PB W g (o.take k):=by
 obtain ⟨r,h⟩:=h
 refine ⟨u32s (o.drop k)++r,?_⟩
 rw [← List.append_assoc,show u32s (o.take k)++u32s (o.drop k)=u32s o by unfold u32s;rw [← List.map_append,List.take_append_drop]]
 exact h
theorem PB.trim {W:World} {g:Nat} {o:List Nat} (h:PB W g o) (hd:Dig o):PB W g (digs (nval o)):=by
 have:=h.take (trimL o).length
 rwa [zgg,zbE hd] at this
theorem PB.sl {W:World} {g c:Nat} {o:List Nat} (h:PB W g o) (hd:Dig o) (hc:o.length≤c) (hm:c≤9223372036854775807):Sl W W.heap.size (some ⟨g,0,none⟩) o.length c o:=by
 refine ⟨⟨⟨by simp [qt],fun _=>⟨_,rfl,h.lt,fun j u hu=>?_⟩⟩,hd⟩,hc,hm⟩
 have e:(⟨g,0,none⟩:Addr).add j=⟨g,j,none⟩:=by unfold Addr.add;split<;>simp [*]
 have hj:j<o.length:=by
  have:=(List.getElem?_eq_some_iff.1 hu).1
  rwa [qt] at this
 rw [e,h.cell hj,zmd hu hj,zb2 hj]
theorem PB.of_own {W:World} {base g n cap:Nat} {l:List Nat} (h:OwnD W base (.slice (some ⟨g,0,none⟩) n cap) l) (hn:n=l.length):PB W g l∧base≤g∧n≤cap∧cap≤9223372036854775807:=by
 subst hn
 obtain ⟨⟨h1,h2⟩,hd⟩:=h
 rcases h2 with ⟨e,_⟩ | ⟨g',cap',cur,e,hb,hg,hn,hc,hs,ht⟩
 ·cases e
 ·cases e
  refine ⟨⟨cur.toList.drop (l.length*1),?_⟩,hb,hn,hc⟩
  rw [hg]
  congr 2
  apply Array.toList_inj.1
  rw [← ht]
  simp
theorem zmu {a b:List Nat} {j:Nat} (h:a.take (j+1)=b.take (j+1)):dg a j=dg b j:=by
 unfold dg
 have h1:(a.take (j+1))[j]?=(b.take (j+1))[j]?:=by rw [h]
 rw [List.getElem?_take_of_lt (Nat.lt_succ_self j),List.getElem?_take_of_lt (Nat.lt_succ_self j)] at h1
 rw [List.getD_eq_getElem?_getD,List.getD_eq_getElem?_getD,h1]
theorem zeS {w:World} {A:Option Addr} {n c:Nat} {l:List Nat} (neg:Bool) (h:Sl w w.heap.size A n c l) (b:Bool) (hb:zw neg l=b) (W:World) (hW:Below w.heap.size w W) :
  Calls Tryz.prog 75 #[.agg #[.bool neg,.slice A n c]] W fun e w'=>e=.returned (.bool b)∧Below W.heap.size W w':=by
 subst hb
 exact zch neg A n c w.heap.size l W (h.below hW).1 hW.size h.2.1
theorem zne (neg:Bool) {A:Option Addr} {n c B:Nat} {l:List Nat} {w:World} (h:Sl w B A n c l) (hB:B≤w.heap.size) (h1:zw neg l=false) :
  Calls Tryz.prog 79 #[.agg #[.bool neg,.slice A n c]] w fun e w'=>e=.returned (.string ⟨#[]⟩)∧Below w.heap.size w w':=by
 have R1:=Lib.hid (zeS neg (h.more hB) false h1)
 have s0:=S1.start (w:=w) (neg:=neg) (A:=A) (n:=n) (c:=c)
 clear h h1
 go_enter Tryz.func79,Tryz.ntmps79
 go_wp2_with (go_at_call 75;refine (R1.out _ s0.below).mono ?_;rintro e w1 ⟨rfl,hb⟩;have s1:=s0.via hb;obtain ⟨a0,a1⟩:=s1.facts)
 go_ret
 exact ⟨rfl,s1.below⟩
attribute [local go_sem] bapp
theorem zkD (neg:Bool) {A:Option Addr} {n c B:Nat} {l:List Nat} {w:World} (h:Sl w B A n c l) (hB:B≤w.heap.size) (h1:zw neg l=true) :
  Calls Tryz.prog 79 #[.agg #[.bool neg,.slice A n c]] w fun e w'=>e=.returned (.string ⟨(Lib.itoa (sgn neg (nval l))).toArray⟩)∧Below w.heap.size w w':=by
 have R1:=Lib.hid (zeS neg (h.more hB) true h1)
 have hl:=zC h1 h.dig
 have hlb:nval l<big:=(qg hl.1).1 hl.2.1
 have hz:Hid (nval l=0→neg=false):=Lib.hid fun h0=>hl.2.2 (qD hl.1 h0)
 have H:=Lib.hid (h.more hB)
 have s0:=S1.start (w:=w) (neg:=neg) (A:=A) (n:=n) (c:=c)
 have hd:l=digs (nval l):=zbm hl.1
 obtain ⟨v,hv⟩:∃v,nval l=v:=⟨_,rfl⟩
 rw [hv] at hd hz hlb ⊢
 subst hd
 have hn64:=zat h hlb
 obtain ⟨i0,hi,hz0,hz1,hz2⟩:=info_parts Tryz.infoU32
 clear h1 hl hv
 by_cases hv0:v=0
 ·obtain rfl:neg=false:=hz.out hv0
  have hn0:((n:Int) == 0)=true:=by have:=(qG h).2 hv0;simp;omega
  clear h hz
  go_enter Tryz.func79,Tryz.ntmps79
  go_wp2_with (go_at_call 75;refine (R1.out _ s0.below).mono ?_;rintro e w1 ⟨rfl,hb⟩;have s1:=s0.via hb;obtain ⟨a0,a1⟩:=s1.facts)
  go_ret
  have e0:Lib.itoa (sgn false 0)=[48]:=by rw [show sgn false 0=0 from rfl,Lib.itoa,if_neg (by omega)];exact zbc
  exact ⟨by subst hv0;rw [e0];rfl,s1.below⟩
 ·have hn0:((n:Int) == 0)=false:=by have:=(qG h).1;simp;omega
  have hnp:0<n:=by have:=(qG h).1;omega
  obtain ⟨ad,rfl,_⟩:=h.at_ (k:=0) hnp
  have hlen:=h.len
  clear h hz
  go_enter Tryz.func79,Tryz.ntmps79
  go_upto_region 6 with (go_at_call 75;refine (R1.out _ s0.below).mono ?_;rintro e w1 ⟨rfl,hb⟩;have s1:=s0.via hb;clear hb;obtain ⟨a0,a1⟩:=s1.facts)
  have b0:Below w1.heap.size w1 (w1.alloc (.cells #[] 123)):=(Below.refl _ _).alloc (Nat.le_refl _) _
  have hs1:=s1.size
  obtain ⟨a2,a3⟩:=(s1.via b0).facts
  have hown:(w1.alloc (.cells #[] 123)).ownsRow (w.heap.size+1) 123 1 (.slice (some ⟨w1.heap.size,0,none⟩) 0 0) 0 []:=⟨rfl,.inr ⟨w1.heap.size,0,#[],rfl,hs1,zI _ _ _ rfl,Nat.le_refl _,by decide,rfl,rfl⟩⟩
  have hnews:=((H.out.below s1.below).below (b0.mono s1.below.size)).news hnp
  have hnl:(u32s (digs v)).length=n*1:=by rw [qt,hlen,Nat.mul_one]
  have hmx:0+n≤maxLen:=by unfold maxLen;omega
  have hby2:(0+n)*4≤140737488355328:=by omega
  have hbs:w.heap.size+1≤(w1.alloc (.cells #[] 123)).heap.size:=by simp;omega
  go_wp2_with (first
   | (at_builtin;go_loud (refine wpList_append_lies _ rfl _ _ 28 rfl (w.heap.size+1) 123 i0 (.int .u32 0) 1 4 Tryz.underlying28 hi hz0 hz1 hz2 rfl (by decide) _ _ _ rfl hown ad n c (u32s (digs v)) rfl hnl hnews ziE hnp hmx hby2 hbs _ rfl ?_;intro g cap w2 hown' hgrow _ hlt;have s2:S1 w neg (some ad) n c w2:=zcF (s1.via b0) hgrow hbs hs1;have hP:=Lib.hid (PB.of_own (n:=n) (l:=digs v) ⟨by rw [hlen];rw [Nat.zero_add] at hown';exact hown',(zL v).1⟩ hlen.symm);clear hown' hgrow))
   | fail "no arm")
  clear hown hnews hnl hmx hby2 hbs hs1 a0 a1 a2 a3 b0
  go_loopw [3,4] (fun x y wr=>∃t g c3 p n3,x=.string ⟨List.toArray t⟩∧y=.slice (some ⟨g,0,none⟩) n3 c3∧S1 w neg (some ad) n c wr∧w.heap.size+1≤g∧n3≤c3∧c3≤9223372036854775807∧Hid (PB wr g (digs p)∧(digs p).length=n3∧p<big∧dd v=dd p++t)) (fun _ y wr=>slv wr y)
  case atStart=>exact ⟨[],g,cap,v,n,rfl,rfl,s2,hP.out.2.1,hP.out.2.2.1,hP.out.2.2.2,Lib.hid ⟨hP.out.1,hlen,hlb,by simp⟩⟩
  case round =>
   clear hP s2 s1 s0 R1 hlen
   obtain ⟨t,g,c3,p,n3,rfl,rfl,sr,hg,hc3,hm3,hI⟩:=hrel
   have hsl:=Lib.hid (hI.out.1.sl (zL p).1 (by rw [hI.out.2.1];exact hc3) hm3)
   rw [hI.out.2.1] at hsl
   have h64:=zat hsl.out hI.out.2.2.1
   have htl:=zpV hlb hI.out.2.2.2
   by_cases hbr:(0:Int)<n3
   ·have hp0:p≠0:=fun e=>by have:=(qG hsl.out).2 e;omega
    have hmeas:Hid (slv wr (.slice (some ⟨g,0,none⟩) n3 c3)=p):=Lib.hid (by rw [zcJ hsl.out,zn])
    obtain ⟨wo,hwo⟩:∃wo:World,wo=wr:=⟨_,rfl⟩
    subst hwo
    have hIo:=hI
    go_wp2_with fail
    go_loopw [5,6] (fun x y wr=>∃(j r:Nat) (z:Int) (o:List Nat),j≤n3∧r<10∧x=.int .u64 r∧y=.int .i64 z∧z=(j:Int) - 1∧S1 w neg (some ad) n c wr∧Hid (PB wr g o∧o.length=n3∧Dig o∧o.take j=(digs p).take j∧nval ((digs p).drop j)=nval (o.drop j)*10+r)) (fun _ y _=>(intOf y+1).toNat)
    case atStart=>exact ⟨n3,0,_,digs p,by omega,by omega,rfl,rfl,rfl,sr,Lib.hid ⟨hI.out.1,hI.out.2.1,(zL p).1,rfl,by rw [← hI.out.2.1];simp [nval]⟩⟩
    case round =>
     clear sr hI hsl
     obtain ⟨j,r,z,o,hj,hr,rfl,rfl,hz,sr,hI⟩:=hrel
     cases j with
     | zero =>
      obtain rfl:z=-1:=by omega
      clear hz
      have hcv:(convert 43 9 (.slice (some ⟨wr.heap.size,0,none⟩) 1 1)).run Tryz.prog (wr.alloc (.cells #[.int .u8 (48+(r:Int))] 5))=.ok (.string ⟨#[db r]⟩) (wr.alloc (.cells #[.int .u8 (48+(r:Int))] 5)):=
       Go.Lib.run_convert_whole _ 43 5 9 (by kernel_rfl) (by kernel_rfl) (by kernel_rfl) wr.heap.size 0 ⟨#[db r]⟩ (fun i hi=>by obtain rfl:i=0:=(by have h5:i<1:=hi;omega);exact (show (wr.alloc (.cells #[.int .u8 (48+(r:Int))] 5)).cell? ⟨wr.heap.size,0+0,none⟩=some (.int .u8 (48+(r:Int))) by simp).trans (show some (Value.int .u8 (48+(r:Int)))=some (Value.int .u8 (((db r).toNat:Nat):Int)) by rw [zgy hr];rfl)) 1
      have htl2:(1:Int)+t.length≤9223372036854775807:=by omega
      have hslz:=Lib.hid ((hI.out.1.alloc_ (.cells #[.int .u8 (48+(r:Int))] 5)).sl hI.out.2.2.1 (by rw [hI.out.2.1];exact hc3) hm3)
      rw [hI.out.2.1] at hslz
      go_wp2_with (go_at_call 107;refine (za5 _ _ _ _ _ _ hslz.out.1 hslz.out.2.1 hslz.out.2.2).mono ?_;rintro e w' ⟨rfl,rfl⟩)
      obtain ⟨i1,i2,i3,_,i5⟩:=hI.out
      rw [List.drop_zero,List.drop_zero,zn] at i5
      have hle:(trimL o).length≤n3:=by rw [← i2];exact zco o
      have hpb:=(i1.alloc_ (.cells #[.int .u8 (48+(r:Int))] 5)).trim i3
      have hd10:p / 10=nval o:=by omega
      have hm10:p%10=r:=by omega
      refine ⟨⟨db r::t,g,c3,nval o,(trimL o).length,rfl,rfl,sr.via ((Below.refl _ _).alloc (Nat.le_refl _) _),hg,by omega,hm3,Lib.hid ⟨hpb,by rw [zbE i3],by have:=hIo.out.2.2.1;omega,?_⟩⟩,?_⟩
      ·rw [hIo.out.2.2.2,zd3 hp0,hd10,hm10,List.append_assoc]
       rfl
      ·rw [zbE i3,zcJ (hpb.sl (zL _).1 (by rw [← zbE i3];omega) hm3),hmeas.out,zn]
       omega
     | succ j =>
      obtain rfl:z=(j:Int):=by omega
      clear hz
      have hcg:=hI.out.1.cell (k:=j) (by rw [hI.out.2.1];omega)
      have hfg:=hI.out.1.frozen j
      have hd1:=dg_lt hI.out.2.2.1 j
      have hlt:=hI.out.1.lt
      obtain ⟨x,hx⟩:∃x,dg o j=x:=⟨_,rfl⟩
      rw [hx] at hcg hd1
      obtain ⟨q,hq⟩:∃q,(r*4294967296+x) / 10=q:=⟨_,rfl⟩
      obtain ⟨r',hr'⟩:∃r',(r*4294967296+x)%10=r':=⟨_,rfl⟩
      have hql:q<4294967296:=by omega
      have hrl:r'<10:=by omega
      have eq1:((r:Int)*4294967296+x) / 10=(q:Int):=by omega
      have er1:((r:Int)*4294967296+x)%10=(r':Int):=by omega
      have hwo:=Lib.hid hI.out
      go_wp2_with fail
      obtain ⟨i1,i2,i3,i4,i5⟩:=hwo.out
      refine ⟨⟨j,r',_,o.set j q,by omega,hrl,by rw [er1],rfl,rfl,Below.setCell sr (p:=⟨g,j,none⟩) hg _,Lib.hid ⟨i1.set (by omega),by simpa using i2,qM i3 hql,?_,?_⟩⟩,?_⟩
      ·rw [List.take_set_of_le (Nat.le_refl _)]
       have:=congrArg (List.take j) i4
       rwa [List.take_take,List.take_take,Nat.min_eq_left (Nat.le_succ j)] at this
      ·rw [zBQ,zbT _ _ _ (by omega),← zmu i4,hx,i5]
       have h10:r*4294967296+x=q*10+r':=by omega
       rw [Nat.add_mul,Nat.mul_add,Nat.mul_assoc 4294967296]
       omega
      ·simp only [intOf]
       omega
   ·have hp0:p=0:=(qG hsl.out).1 (by omega)
    have htv:Hid (t=dd v):=by
     have:=hI.out.2.2.2
     rw [hp0,zbl,List.nil_append] at this
     exact Lib.hid this.symm
    obtain ⟨a0,a1⟩:=sr.facts
    have hit:Hid (∀b:Bool,Lib.itoa (sgn b v)=if b then 45::t else t):=by
     intro b
     cases b
     ·rw [show sgn false v=(v:Int) from rfl,Lib.itoa,if_neg (by omega),Int.toNat_natCast,zb5 v hv0,htv.out];rfl
     ·rw [show sgn true v=-(v:Int) from rfl,Lib.itoa,if_pos (by omega),Int.natAbs_neg,Int.natAbs_natCast,zb5 v hv0,htv.out];rfl
    clear hv0 htv hp0 hI hsl
    cases neg
    ·go_wp2_with fail
     go_ret
     exact ⟨by rw [hit.out];rfl,sr.below⟩
    ·go_wp2_with fail
     go_ret
     exact ⟨by rw [hit.out];rfl,sr.below⟩
theorem zbW (neg:Bool) {A:Option Addr} {n c B:Nat} {l:List Nat} {w:World} (h:Sl w B A n c l) (hB:B≤w.heap.size) :
  Calls Tryz.prog 79 #[.agg #[.bool neg,.slice A n c]] w fun e w'=>e=.returned (.string ⟨(textS neg l).toArray⟩)∧Below w.heap.size w w':=by
 cases h1:zw neg l with
 | false=>rw [show textS neg l=[] by unfold textS;rw [h1];rfl];exact zne neg h hB h1
 | true=>rw [show textS neg l=Lib.itoa (sgn neg (nval l)) by unfold textS;rw [h1];rfl];exact zkD neg h hB h1
end Go.Proofs.YtjcegdldgjphiaaGreatDoor
namespace Go.Proofs.YtjcegdldgjphiaaGreatDoor
open Go.RowKit Go.Shelf
theorem qk {L:Array Bool} {i j:Nat} {b:Bool} (h:j≠i):(L.setIfInBounds i true).getD j b=L.getD j b:=by
 simp only [Array.getD_eq_getD_getElem?]
 rw [Array.getElem?_setIfInBounds_ne (fun e=>h e.symm)]
theorem qu {o:Oper} {y:Nat→Option Bool} (h:o.guard=none):Region.wanted o y=true:=by unfold Region.wanted;rw [h]
def opIsG (ops:Array Oper) (i:Nat) (dst:Option Nat) (op:Op) (g:Option (Nat×Bool)):Prop:=(ops[i]?).map (fun o=>(o.dst,o.op,o.guard))=some (dst,op,g)
def HoldsS (u:Value) (W:World) (l:List Nat):Prop:=∃A n c,u=.slice A n c∧Sl W W.heap.size A n c l
theorem HoldsS.via {u:Value} {W W1:World} {l:List Nat} (h:HoldsS u W l) (hb:Below W.heap.size W W1):HoldsS u W1 l:=by
 obtain ⟨A,n,c,e,hs⟩:=h
 exact ⟨A,n,c,e,hs.via hb⟩
theorem HoldsS.built (W:World) (d:Nat) (hd:d<4294967296):HoldsS (.slice (some ⟨W.heap.size,0,none⟩) 1 1) (W.alloc (.cells #[.int .u32 (d:Nat)] 123)) [d]:=by
 have d1:DBk (W.alloc (.cells #[.int .u32 (d:Nat)] 123)) W.heap.size 123 [d]:=zI W _ _ rfl
 exact ⟨_,_,_,rfl,d1.sl (by intro x hx;simp at hx;omega) (by simp) (by simp)⟩
def zbY (A:Option Addr) (n c p:Nat) (s:List UInt8) (k d:Nat) (j:Nat) (u:Value) (W:World):Prop:=match j with
 | 0=>u=.slice A n c
 | 1=>HoldsS u W [10]
 | 2=>HoldsS u W (digs (p*10))
 | 3=>u=.string ⟨s.toArray⟩
 | 4=>u=.int .i64 (k:Int)
 | 5=>u=.int .u8 (48+(d:Int))
 | 6=>u=.int .u8 (d:Int)
 | 7=>u=.int .u32 (d:Int)
 | 8=>HoldsS u W [d]
 | 9=>HoldsS u W (digs (p*10+d))
 | 10=>HoldsS u W (digs (p*10+d))
 | _=>True
def zcE (j:Nat):Nat:=match j with
 | 0=>35
 | 1=>36
 | 2=>37
 | 3=>38
 | 4=>39
 | 5=>40
 | 6=>41
 | 7=>42
 | 8=>43
 | 9=>44
 | 10=>5
 | _=>0
theorem zrJ {A:Option Addr} {n c p:Nat} {s:List UInt8} {k d:Nat} {j:Nat} {u:Value} {W W1:World} (h:zbY A n c p s k d j u W) (_hb:Below W.heap.size W W1):zbY A n c p s k d j u W1:=by
 unfold zbY at h ⊢
 split <;> first | exact h | exact HoldsN.via h _hb | exact HoldsS.via h _hb | trivial | fail "no"
theorem zrI:∀x,x<11→∀y,y<11→x≠y→zcE x≠zcE y:=by decide
theorem zaw {A:Option Addr} {n c p:Nat} {s:List UInt8} {k d:Nat} {f:Nat→Value} {L:Array Bool} {i:Nat} {v:Value} {W W1:World} (hi:i<11) (hF:∀j,j<11→L.getD j false=true→zbY A n c p s k d j (f (zcE j)) W) (hb:Below W.heap.size W W1) (hv:zbY A n c p s k d i v W1) :
  ∀j,j<11→(L.setIfInBounds i true).getD j false=true→zbY A n c p s k d j (upd f (zcE i) v (zcE j)) W1:=by
 intro j hj h
 by_cases hji:j=i
 ·subst hji;rw [zr6];exact hv
 ·rw [q8 (zrI j hj i hi hji)]
  rcases zgZ h with h | h
  ·exact absurd h hji
  ·exact zrJ (hF j hj h) hb
def zuj (MM:World→Prop) (t:Array Value) (df:List Deferred) (A:Option Addr) (n c p:Nat) (s:List UInt8) (k d:Nat) (L:Array Bool) (a:Act) (W:World):Prop:=
 ∃f,a=⟨patch t [35,36,37,38,39,40,41,42,43,44,5] f,df⟩∧MM W∧(∀j,j<11→L.getD j false=true→zbY A n c p s k d j (f (zcE j)) W)∧(L.getD 10 false=false→f 5=t.getD 5 undef)
theorem ze1 {ops:Array Oper} {Q:Exit→Act→World→Prop} {id:Nat} (MM:World→Prop) (t:Array Value) (df:List Deferred) (W:World) (A:Option Addr) (n c p:Nat) (s:List UInt8) (k d:Nat)
  (hsz:ops.size=11) (hback:backB ops=true) (hts:44<t.size)
  (hM0:MM W.drew) (hMV:∀W W1,MM W→Below W.heap.size W W1→MM W1)
  (hdd:d<10)
  (h5:t.getD 5 undef=.slice A n c)
  (h0:t.getD 0 undef=.string ⟨s.toArray⟩)
  (h6:t.getD 6 undef=.int .i64 (k:Int))
  (hk:(k:Int)<s.length)
  (hsk:∀h:k<s.length,(s[k].toNat:Int)=48+(d:Int))
  (hTi:∀(W:World) (A2:Option Addr) (n2 c2:Nat),MM W→Sl W W.heap.size A2 n2 c2 [10]→Calls Tryz.prog 141 #[.slice A n c,.slice A2 n2 c2] W (RetD (p*10) W))
  (hPl:∀(W:World) (A1 A2:Option Addr) (n1 c1 n2 c2:Nat),Sl W W.heap.size A1 n1 c1 (digs (p*10))→Sl W W.heap.size A2 n2 c2 [d]→Calls Tryz.prog 140 #[.slice A1 n1 c1,.slice A2 n2 c2] W (RetD (p*10+d) W))
  (o0:opIsG ops 0 (some 35) (.move (.tmp 5)) none)
  (o1:opIsG ops 1 (some 36) (.buildSlice 28 1 #[(0,.const (.int .u32 10))]) none)
  (o2:opIsG ops 2 (some 37) (.call { callee:=.value (.func 141),args:=#[.tmp 35,.tmp 36],argTypes:=#[28,28] }) none)
  (o3:opIsG ops 3 (some 38) (.move (.tmp 0)) none)
  (o4:opIsG ops 4 (some 39) (.move (.tmp 6)) none)
  (o5:opIsG ops 5 (some 40) (.index 9 (.tmp 38) (.tmp 39)) none)
  (o6:opIsG ops 6 (some 41) (.binOp .sub 5 (.tmp 40) (.const (.int .u8 48)) 5) none)
  (o7:opIsG ops 7 (some 42) (.convert 5 123 (.tmp 41)) none)
  (o8:opIsG ops 8 (some 43) (.buildSlice 28 1 #[(0,.tmp 42)]) none)
  (o9:opIsG ops 9 (some 44) (.call { callee:=.value (.func 140),args:=#[.tmp 37,.tmp 43],argTypes:=#[28,28] }) none)
  (o10:opIsG ops 10 (some 5) (.assign (.tmp 44)) none)
  (p2_0:depB ops 2 0=true)
  (p2_1:depB ops 2 1=true)
  (p5_3:depB ops 5 3=true)
  (p5_4:depB ops 5 4=true)
  (p6_5:depB ops 6 5=true)
  (p7_6:depB ops 7 6=true)
  (p8_7:depB ops 8 7=true)
  (p9_2:depB ops 9 2=true)
  (p9_8:depB ops 9 8=true)
  (p10_9:depB ops 10 9=true)
  (p10_0:depB ops 10 0=true)
  (hQ:∀f W,MM W→(HoldsS (f 5) W (digs (p*10+d)))→Q .normal ⟨patch t [35,36,37,38,39,40,41,42,43,44,5] f,df⟩ W):(Code.region id ops true).wp Tryz.prog Q ⟨t,df⟩ W:=by
 refine zdt (by kernel_rfl) hback (zuj MM t df A n c p s k d) ?_ ?_ ?_
 ·refine ⟨_,congrArg (fun x=>(⟨x,df⟩:Act)) (zky t [35,36,37,38,39,40,41,42,43,44,5]).symm,hM0,fun j _ h=>?_,fun _=>rfl⟩
  simp [Array.getD] at h
 ·rintro L a W i o ho hzz hc hl hd ⟨f,rfl,hA,hF,hK10⟩
  have hi:i<11:=by have:=(Array.getElem?_eq_some_iff.1 ho).1;omega
  obtain ⟨dst,op,ty,pos,after,guard⟩:=o
  match i,hi with
  | 0,_ =>
   have e:=o0
   unfold opIsG at e
   rw [ho] at e
   simp only [Option.map_some,Option.some.injEq,Prod.mk.injEq] at e
   obtain ⟨rfl,rfl,rfl⟩:=e
   refine wpOp_step ho (fun K hK=>?_)
   rw [if_pos (qu rfl)]
   have hj0:L.getD 10 false=false:=(by
    cases hx:L.getD 10 false with
    | false=>rfl
    | true =>
     have h9:=hc 10 0 p10_0 (by rw [zeE (c:=false) (by omega)];exact hx) (by omega)
     rw [zeE (c:=true) (by omega),hl] at h9;cases h9)
   have x9:(patch t [35,36,37,38,39,40,41,42,43,44,5] f).getD 5 undef=.slice A n c:=(qZ (by omega) (by decide)).trans ((hK10 hj0).trans h5)
   go_simp
   exact hK _ _ ⟨upd f 35 (.slice A n c),by rw [q5 (by decide)],hA,zaw (i:=0) (by omega) hF (Below.refl _ _) rfl,fun h=>(by rw [qk (by omega)] at h;rw [q8 (by decide)];exact hK10 h)⟩
  | 1,_ =>
   have e:=o1
   unfold opIsG at e
   rw [ho] at e
   simp only [Option.map_some,Option.some.injEq,Prod.mk.injEq] at e
   obtain ⟨rfl,rfl,rfl⟩:=e
   refine wpOp_step ho (fun K hK=>?_)
   rw [if_pos (qu rfl)]
   go_simp
   have hb:Below W.heap.size W (W.alloc (.cells #[.int .u32 ((10:Nat):Int)] 123)):=(Below.refl _ _).alloc (Nat.le_refl _) _
   exact hK _ _ ⟨upd f 36 (.slice (some ⟨W.heap.size,0,none⟩) 1 1),by rw [q5 (by decide)],(hMV _ _ hA hb),zaw (i:=1) (by omega) hF hb (HoldsS.built W 10 (by omega)),fun h=>(by rw [qk (by omega)] at h;rw [q8 (by decide)];exact hK10 h)⟩
  | 2,_ =>
   have e:=o2
   unfold opIsG at e
   rw [ho] at e
   simp only [Option.map_some,Option.some.injEq,Prod.mk.injEq] at e
   obtain ⟨rfl,rfl,rfl⟩:=e
   refine wpOp_step ho (fun K hK=>?_)
   rw [if_pos (qu rfl)]
   have x0:(patch t [35,36,37,38,39,40,41,42,43,44,5] f).getD 35 undef=.slice A n c:=(qZ (by omega) (by decide)).trans (hF 0 (by omega) (hd 0 p2_0))
   have y1:HoldsS (f 36) W [10]:=hF 1 (by omega) (hd 1 p2_1)
   obtain ⟨A2,n2,c2,e2,hs2⟩:=y1
   have x8:(patch t [35,36,37,38,39,40,41,42,43,44,5] f).getD 36 undef=.slice A2 n2 c2:=(qZ (by omega) (by decide)).trans e2
   go_simp
   refine (hTi W A2 n2 c2 hA hs2).mono ?_
   rintro e w1 ⟨A3,n3,c3,rfl,hs3,hb⟩
   exact hK _ _ ⟨upd f 37 (.slice A3 n3 c3),by rw [q5 (by decide)],(hMV _ _ hA hb),zaw (i:=2) (by omega) hF hb ⟨A3,n3,c3,rfl,hs3⟩,fun h=>(by rw [qk (by omega)] at h;rw [q8 (by decide)];exact hK10 h)⟩
  | 3,_ =>
   have e:=o3
   unfold opIsG at e
   rw [ho] at e
   simp only [Option.map_some,Option.some.injEq,Prod.mk.injEq] at e
   obtain ⟨rfl,rfl,rfl⟩:=e
   refine wpOp_step ho (fun K hK=>?_)
   rw [if_pos (qu rfl)]
   have x9:(patch t [35,36,37,38,39,40,41,42,43,44,5] f).getD 0 undef=.string ⟨s.toArray⟩:=(zis (by decide)).trans h0
   go_simp
   exact hK _ _ ⟨upd f 38 (.string ⟨s.toArray⟩),by rw [q5 (by decide)],hA,zaw (i:=3) (by omega) hF (Below.refl _ _) rfl,fun h=>(by rw [qk (by omega)] at h;rw [q8 (by decide)];exact hK10 h)⟩
  | 4,_ =>
   have e:=o4
   unfold opIsG at e
   rw [ho] at e
   simp only [Option.map_some,Option.some.injEq,Prod.mk.injEq] at e
   obtain ⟨rfl,rfl,rfl⟩:=e
   refine wpOp_step ho (fun K hK=>?_)
   rw [if_pos (qu rfl)]
   have x9:(patch t [35,36,37,38,39,40,41,42,43,44,5] f).getD 6 undef=.int .i64 (k:Int):=(zis (by decide)).trans h6
   go_simp
   exact hK _ _ ⟨upd f 39 (.int .i64 (k:Int)),by rw [q5 (by decide)],hA,zaw (i:=4) (by omega) hF (Below.refl _ _) rfl,fun h=>(by rw [qk (by omega)] at h;rw [q8 (by decide)];exact hK10 h)⟩
  | 5,_ =>
   have e:=o5
   unfold opIsG at e
   rw [ho] at e
   simp only [Option.map_some,Option.some.injEq,Prod.mk.injEq] at e
   obtain ⟨rfl,rfl,rfl⟩:=e
   refine wpOp_step ho (fun K hK=>?_)
   rw [if_pos (qu rfl)]
   have x3:(patch t [35,36,37,38,39,40,41,42,43,44,5] f).getD 38 undef=.string ⟨s.toArray⟩:=(qZ (by omega) (by decide)).trans (hF 3 (by omega) (hd 3 p5_3))
   have x4:(patch t [35,36,37,38,39,40,41,42,43,44,5] f).getD 39 undef=.int .i64 (k:Int):=(qZ (by omega) (by decide)).trans (hF 4 (by omega) (hd 4 p5_4))
   have hkk:k<(⟨s.toArray⟩:ByteArray).size:=(by show k<s.length;omega)
   have e4:(((⟨s.toArray⟩:ByteArray)[k]'hkk).toNat:Int)=48+(d:Int):=hsk (by omega)
   go_simp
   exact hK _ _ ⟨upd f 40 (.int .u8 (48+(d:Int))),by rw [q5 (by decide)],hA,zaw (i:=5) (by omega) hF (Below.refl _ _) rfl,fun h=>(by rw [qk (by omega)] at h;rw [q8 (by decide)];exact hK10 h)⟩
  | 6,_ =>
   have e:=o6
   unfold opIsG at e
   rw [ho] at e
   simp only [Option.map_some,Option.some.injEq,Prod.mk.injEq] at e
   obtain ⟨rfl,rfl,rfl⟩:=e
   refine wpOp_step ho (fun K hK=>?_)
   rw [if_pos (qu rfl)]
   have x5:(patch t [35,36,37,38,39,40,41,42,43,44,5] f).getD 40 undef=.int .u8 (48+(d:Int)):=(qZ (by omega) (by decide)).trans (hF 5 (by omega) (hd 5 p6_5))
   go_simp
   rw [show IntKind.u8.wrap (48+(d:Int) - 48)=(d:Int) by rw [IntKind.wrap_u8];omega]
   exact hK _ _ ⟨upd f 41 (.int .u8 (d:Int)),by rw [q5 (by decide)],hA,zaw (i:=6) (by omega) hF (Below.refl _ _) rfl,fun h=>(by rw [qk (by omega)] at h;rw [q8 (by decide)];exact hK10 h)⟩
  | 7,_ =>
   have e:=o7
   unfold opIsG at e
   rw [ho] at e
   simp only [Option.map_some,Option.some.injEq,Prod.mk.injEq] at e
   obtain ⟨rfl,rfl,rfl⟩:=e
   refine wpOp_step ho (fun K hK=>?_)
   rw [if_pos (qu rfl)]
   have x6:(patch t [35,36,37,38,39,40,41,42,43,44,5] f).getD 41 undef=.int .u8 (d:Int):=(qZ (by omega) (by decide)).trans (hF 6 (by omega) (hd 6 p7_6))
   go_simp
   rw [show IntKind.u32.wrap (d:Int)=(d:Int) by rw [IntKind.wrap_u32];omega]
   exact hK _ _ ⟨upd f 42 (.int .u32 (d:Int)),by rw [q5 (by decide)],hA,zaw (i:=7) (by omega) hF (Below.refl _ _) rfl,fun h=>(by rw [qk (by omega)] at h;rw [q8 (by decide)];exact hK10 h)⟩
  | 8,_ =>
   have e:=o8
   unfold opIsG at e
   rw [ho] at e
   simp only [Option.map_some,Option.some.injEq,Prod.mk.injEq] at e
   obtain ⟨rfl,rfl,rfl⟩:=e
   refine wpOp_step ho (fun K hK=>?_)
   rw [if_pos (qu rfl)]
   have x7:(patch t [35,36,37,38,39,40,41,42,43,44,5] f).getD 42 undef=.int .u32 (d:Int):=(qZ (by omega) (by decide)).trans (hF 7 (by omega) (hd 7 p8_7))
   rw [Array.getD_eq_getD_getElem?] at x7
   go_simp
   have hb:Below W.heap.size W (W.alloc (.cells #[.int .u32 ((d:Nat):Int)] 123)):=(Below.refl _ _).alloc (Nat.le_refl _) _
   exact hK _ _ ⟨upd f 43 (.slice (some ⟨W.heap.size,0,none⟩) 1 1),by rw [q5 (by decide)],(hMV _ _ hA hb),zaw (i:=8) (by omega) hF hb (HoldsS.built W d (by omega)),fun h=>(by rw [qk (by omega)] at h;rw [q8 (by decide)];exact hK10 h)⟩
  | 9,_ =>
   have e:=o9
   unfold opIsG at e
   rw [ho] at e
   simp only [Option.map_some,Option.some.injEq,Prod.mk.injEq] at e
   obtain ⟨rfl,rfl,rfl⟩:=e
   refine wpOp_step ho (fun K hK=>?_)
   rw [if_pos (qu rfl)]
   have y2:HoldsS (f 37) W (digs (p*10)):=hF 2 (by omega) (hd 2 p9_2)
   have y8:HoldsS (f 43) W [d]:=hF 8 (by omega) (hd 8 p9_8)
   obtain ⟨A1,n1,c1,e1,hs1⟩:=y2
   have x7:(patch t [35,36,37,38,39,40,41,42,43,44,5] f).getD 37 undef=.slice A1 n1 c1:=(qZ (by omega) (by decide)).trans e1
   obtain ⟨A2,n2,c2,e2,hs2⟩:=y8
   have x8:(patch t [35,36,37,38,39,40,41,42,43,44,5] f).getD 43 undef=.slice A2 n2 c2:=(qZ (by omega) (by decide)).trans e2
   go_simp
   refine (hPl W A1 A2 n1 c1 n2 c2 hs1 hs2).mono ?_
   rintro e w1 ⟨A3,n3,c3,rfl,hs3,hb⟩
   exact hK _ _ ⟨upd f 44 (.slice A3 n3 c3),by rw [q5 (by decide)],(hMV _ _ hA hb),zaw (i:=9) (by omega) hF hb ⟨A3,n3,c3,rfl,hs3⟩,fun h=>(by rw [qk (by omega)] at h;rw [q8 (by decide)];exact hK10 h)⟩
  | 10,_ =>
   have e:=o10
   unfold opIsG at e
   rw [ho] at e
   simp only [Option.map_some,Option.some.injEq,Prod.mk.injEq] at e
   obtain ⟨rfl,rfl,rfl⟩:=e
   refine wpOp_step ho (fun K hK=>?_)
   rw [if_pos (qu rfl)]
   have y9:HoldsS (f 44) W (digs (p*10+d)):=hF 9 (by omega) (hd 9 p10_9)
   obtain ⟨A3,n3,c3,e3,hs3⟩:=y9
   have x7:(patch t [35,36,37,38,39,40,41,42,43,44,5] f).getD 44 undef=.slice A3 n3 c3:=(qZ (by omega) (by decide)).trans e3
   go_simp
   exact hK _ _ ⟨upd f 5 (.slice A3 n3 c3),by rw [q5 (by decide)],hA,zaw (i:=10) (by omega) hF (Below.refl _ _) ⟨A3,n3,c3,rfl,hs3⟩,fun h=>(by rw [zc6 (by omega)] at h;cases h)⟩
  | k+11,h=>exact absurd h (by omega)
 ·rintro L a W hL ⟨f,rfl,hA,hF,_⟩
  exact hQ f W hA (hF 10 (by omega) (hL 10 (by omega)))
def cutF (s:List UInt8):Nat:=if s.head?=some 45 then 1 else 0
theorem zh0 (s:List UInt8):cutR s=s.drop (cutF s):=by
 unfold cutR cutF
 split
 ·cases s<;>rfl
 ·rfl
theorem ztv (s:List UInt8):cutF s≤s.length:=by
 unfold cutF
 split
 ·rename_i h;cases s with
  | nil=>cases h
  | cons a b=>simp
 ·omega
theorem zon {s:List UInt8} (h0:0<s.length):cutF s=if ((((⟨s.toArray⟩:ByteArray)[0]'h0).toNat:Int) == 45)=true then 1 else 0:=by
 cases s with
 | nil=>simp at h0
 | cons b r =>
  have e:((⟨(b::r).toArray⟩:ByteArray)[0]'h0)=b:=rfl
  rw [e]
  unfold cutF
  by_cases hb:b=45
  ·subst hb;rfl
  ·rw [if_neg (by simpa using hb),if_neg]
   intro h
   have h1:b.toNat=45:=by
    have h2:(b.toNat:Int)=45:=by simpa using h
    omega
   exact hb (UInt8.toNat_inj.1 h1)
theorem zqP {s:List UInt8} (h0:¬ 0<s.length):cutF s=0:=by
 obtain rfl:=List.eq_nil_of_length_eq_zero (show s.length=0 by omega)
 rfl
theorem zqQ {s:List UInt8} (h:cutF s=1):cutN s=true:=by
 unfold cutF at h
 unfold cutN
 split at h
 ·rename_i h2;simp [h2]
 ·omega
theorem zhZ {s:List UInt8} (h:cutF s=0):cutN s=false:=by
 unfold cutF at h
 unfold cutN
 split at h
 ·omega
 ·rename_i h2;simp [h2]
def RpI (W:World) (s:List UInt8) (A:Option Addr) (n c u k:Nat):Prop:=Sl W W.heap.size A n c (digs u)∧u<big∧u=dval ((cutR s).take (k - cutF s))∧AllD ((cutR s).take (k - cutF s))
theorem zj1 {v k:Nat} (h:v<4294967296 ^ k):(digs v).length≤k:=by
 rcases Nat.lt_or_ge k (digs v).length with h1 | h1
 ·have h2:=zbL (zL v) (by intro e;rw [e] at h1;simp at h1)
  have h3:4294967296 ^ k≤4294967296 ^ ((digs v).length - 1):=Nat.pow_le_pow_right (by decide) (by omega)
  rw [zn] at h2
  exact absurd (Nat.lt_of_lt_of_le h (Nat.le_trans h3 h2)) (Nat.lt_irrefl _)
 ·exact h1
theorem zfP {v:Nat} (h:v<big):(digs (v*10)).length≤1000:=by
 refine Nat.le_trans (zj1 (k:=65) ?_) (by decide)
 unfold big at h
 rw [Nat.pow_succ]
 omega
theorem zpD {s:List UInt8} {k u:Nat} (hk:k=s.length) (hu:u=dval ((cutR s).take (k - cutF s))):valS s=sgn (cutN s) u:=by
 subst hk
 rw [List.take_of_length_le (by rw [zh0,List.length_drop];exact Nat.le_refl _)] at hu
 unfold valS
 rw [hu]
theorem zs3 {s:List UInt8} {k:Nat} (hk:k<s.length) (hf:cutF s≤k):(cutR s)[k - cutF s]?=some s[k]:=by
 rw [zh0,List.getElem?_drop,show cutF s+(k - cutF s)=k by omega]
 exact List.getElem?_eq_getElem hk
theorem zhn {s:List UInt8} {k:Nat} (hk:k<s.length) (hf:cutF s≤k):(cutR s).take (k+1 - cutF s)=(cutR s).take (k - cutF s)++[s[k]]:=by
 rw [show k+1 - cutF s=(k - cutF s)+1 by omega,List.take_add_one,zs3 hk hf]
 rfl
theorem zs2 {s:List UInt8} {k:Nat} (hk:k<s.length) (hf:cutF s≤k) (hb:¬ (48≤s[k].toNat∧s[k].toNat≤57)):zp s=none:=
 zf0 fun h=>hb (h _ (List.mem_of_getElem? (zs3 hk hf)))
theorem zl5 {s:List UInt8} {j u:Nat} (hu:u=dval ((cutR s).take j)) (h:¬ u<big):zp s=none:=by
 refine ziq fun h2=>h ?_
 rw [← List.take_append_drop j (cutR s),zcO,zgD,← hu] at h2
 have h3:u≤u*10 ^ ((cutR s).drop j).length:=Nat.le_mul_of_pos_right _ (Nat.pos_of_ne_zero (by simp))
 omega
attribute [local go_sem] bapp
theorem ziz (s:List UInt8) (w:World) (hlen:s.length≤1000) :
  Calls Tryz.prog 110 #[.string ⟨s.toArray⟩] w (RetN (zp s) w):=by
 have s0:=S1.start (w:=w) (neg:=false) (A:=none) (n:=0) (c:=0)
 have hfle:=ztv s
 by_cases h0:(0:Int)<s.length
 ·have h0':0<s.length:=by omega
  cases h1:((((⟨s.toArray⟩:ByteArray)[0]'h0').toNat:Int) == 45) with
  | true =>
   have hf:cutF s=1:=by rw [zon h0',h1];rfl
   have hcn:=zqQ hf
   go_enter Tryz.func110,Tryz.ntmps110
   go_wp2_with fail
   go_loopw [5,6] (fun x y W=>∃k A n c u,cutF s≤k∧k≤s.length∧x=.slice A n c∧y=.int .i64 (k:Nat)∧S1 w false none 0 0 W∧Hid (RpI W s A n c u k)) (fun _ y _=>s.length - (intOf y).toNat)
   case atStart=>exact ⟨1,none,0,0,0,by omega,by omega,rfl,rfl,s0,Lib.hid ⟨by rw [zx];exact Sl.none_,by unfold big;exact Nat.pos_of_ne_zero (by simp),by rw [hf];rfl,by rw [hf];intro b hb;simp at hb⟩⟩
   case round =>
    obtain ⟨k,A,n,c,u,hk1,hk2,rfl,rfl,sr,hI⟩:=hrel
    clear s0
    have hn64:=zat hI.out.1 hI.out.2.1
    by_cases hlt:(k:Int)<s.length
    ·have hkl:k<s.length:=by omega
     have hkk:k<(⟨s.toArray⟩:ByteArray).size:=hkl
     by_cases hb:48≤s[k].toNat∧s[k].toNat≤57
     ·obtain ⟨d,hd⟩:∃d,s[k].toNat=48+d:=⟨s[k].toNat - 48,by omega⟩
      have hdd:d<10:=by omega
      have e4:(((⟨s.toArray⟩:ByteArray)[k]'hkk).toNat:Int)=48+(d:Int):=by rw [show ((⟨s.toArray⟩:ByteArray)[k]'hkk)=s[k] from rfl,hd];omega
      go_upto_region 10 with fail
      have TI:=Lib.hid (fun (W:World) (A2:Option Addr) (n2 c2:Nat) (hm:S1 w false none 0 0 W∧Sl W W.heap.size A n c (digs u)) (hs:Sl W W.heap.size A2 n2 c2 [10])=>(by
       have:=zci A A2 n c n2 c2 W.heap.size (digs u) [10] W hm.2 hs (Nat.le_refl _) (by omega) (by have:=hs.len;simp at this;omega)
       rwa [zn,show nval [10]=10 from rfl] at this:Calls Tryz.prog 141 #[.slice A n c,.slice A2 n2 c2] W (RetD (u*10) W)))
      have hub:=Lib.hid hI.out.2.1
      have PL:=Lib.hid (fun (W:World) (A1 A2:Option Addr) (n1 c1 n2 c2:Nat) (hs1:Sl W W.heap.size A1 n1 c1 (digs (u*10))) (hs:Sl W W.heap.size A2 n2 c2 [d])=>(by
       have h4:=zfP hub.out
       rw [hs1.len] at h4
       have:=zbV A1 A2 n1 c1 n2 c2 W.heap.size (digs (u*10)) [d] W hs1 hs (Nat.le_refl _) h4 (by have:=hs.len;simp at this;omega)
       rwa [zn,show nval [d]=d by simp [nval]] at this:Calls Tryz.prog 140 #[.slice A1 n1 c1,.slice A2 n2 c2] W (RetD (u*10+d) W)))
      refine ze1 (fun W=>S1 w false none 0 0 W∧Sl W W.heap.size A n c (digs u)) _ _ _ A n c u s k d rfl (by kernel_rfl) (by simp) ⟨sr.drew,hI.out.1.via (Below.refl _ _).drew⟩ (fun W W1 h hb=>⟨h.1.via hb,h.2.via hb⟩)
       hdd rfl rfl rfl hlt (fun h=>by rw [hd];omega) TI.out PL.out
       rfl rfl rfl rfl rfl rfl rfl rfl rfl rfl rfl
       (by kernel_rfl) (by kernel_rfl) (by kernel_rfl) (by kernel_rfl) (by kernel_rfl) (by kernel_rfl) (by kernel_rfl) (by kernel_rfl) (by kernel_rfl) (by kernel_rfl) (by kernel_rfl) ?_
      rintro f W9 ⟨sr2,_⟩ ⟨A5,n5,c5,e5,hs5⟩
      simp only [zf1,zir,e5]
      clear e5 TI PL
      simp only [List.setIfInBounds_toArray,List.set_cons_zero,List.set_cons_succ]
      obtain ⟨r0,r1⟩:=sr2.facts
      obtain ⟨rf,rz⟩:=sr2.frz
      have hud:u*10+d=dval ((cutR s).take (k+1 - cutF s)):=by
       rw [zhn hkl hk1,zez,← hI.out.2.2.1,hd];omega
      by_cases h64:(64:Int)<n5
      ·have hp:Hid (zp s=none):=Lib.hid (zl5 hud (fun h=>by have:=zat hs5 h;omega))
       clear hud hI hub
       go_wp2_with fail
       rw [hp.out]
       obtain ⟨q0,q1⟩:=zJ (.bool false) (.slice none 0 0) r0 r1
       refine bodyPost_ret (v:=.tuple #[.agg #[.bool false,.slice none 0 0],.bool false]) ?_ rfl ⟨_,_,_,rfl,by rw [show digs (vO none).natAbs=[] from zx];exact Sl.none_,?_⟩
       ·simp [results,Tryz.f110,go_sem,q0,q1]
       ·exact (sr2.below.setCell (by simp) _).setCell (by simp) _
      ·have hI2:Hid (RpI W9 s A5 n5 c5 (u*10+d) (k+1)):=Lib.hid ⟨hs5,(zaq _).1 (by rw [hs5.len];omega),hud,by
        rw [zhn hkl hk1,zaz]
        exact ⟨hI.out.2.2.2,fun b hb2=>by rw [List.mem_singleton.1 hb2];exact hb⟩⟩
       clear hud hI hub hs5
       go_wp2_with fail
       refine ⟨⟨k+1,A5,n5,c5,u*10+d,by omega,by omega,rfl,rfl,sr2,hI2⟩,?_⟩
       simp only [intOf]
       omega
     ·have hp:Hid (zp s=none):=Lib.hid (zs2 hkl hk1 hb)
      obtain ⟨b,hd⟩:∃b,s[k].toNat=b:=⟨_,rfl⟩
      have e4:(((⟨s.toArray⟩:ByteArray)[k]'hkk).toNat:Int)=(b:Int):=by rw [show ((⟨s.toArray⟩:ByteArray)[k]'hkk)=s[k] from rfl,hd]
      rw [hd] at hb
      obtain ⟨r0,r1⟩:=sr.facts
      obtain ⟨rf,rz⟩:=sr.frz
      clear hI hd
      by_cases hb2:(b:Int)<48
      ·clear hb
       go_wp2_with fail
       rw [hp.out]
       obtain ⟨q0,q1⟩:=zJ (.bool false) (.slice none 0 0) r0 r1
       refine bodyPost_ret (v:=.tuple #[.agg #[.bool false,.slice none 0 0],.bool false]) ?_ rfl ⟨_,_,_,rfl,by rw [show digs (vO none).natAbs=[] from zx];exact Sl.none_,?_⟩
       ·simp [results,Tryz.f110,go_sem,q0,q1]
       ·exact (sr.below.setCell (by simp) _).setCell (by simp) _
      ·have hb3:(57:Int)<b:=by omega
       clear hb
       go_wp2_with fail
       rw [hp.out]
       obtain ⟨q0,q1⟩:=zJ (.bool false) (.slice none 0 0) r0 r1
       refine bodyPost_ret (v:=.tuple #[.agg #[.bool false,.slice none 0 0],.bool false]) ?_ rfl ⟨_,_,_,rfl,by rw [show digs (vO none).natAbs=[] from zx];exact Sl.none_,?_⟩
       ·simp [results,Tryz.f110,go_sem,q0,q1]
       ·exact (sr.below.setCell (by simp) _).setCell (by simp) _
    ·have hval:=zpD (s:=s) (k:=k) (by omega) hI.out.2.2.1
     rw [hcn] at hval
     obtain ⟨x,hx⟩:∃x,sgn true u=x:=⟨_,rfl⟩
     have hxb:x.natAbs<big:=by rw [← hx,qA];exact hI.out.2.1
     have SG:Hid (Calls Tryz.prog 90 #[.bool true,.slice A n c] wr (RetN (some x) wr)):=by
      have:=qd A n c wr.heap.size u true (digs u) wr hI.out.1 (Nat.le_refl _) (zn u)
      rw [hx,show fitO x=some x by unfold fitO;rw [if_pos hxb]] at this
      exact Lib.hid this
     have hps:Hid (zp s=if Lib.itoa x=s then some x else none):=Lib.hid (by
      unfold zp
      rw [hval,hx]
      by_cases h:Lib.itoa x=s
      ·rw [if_pos ⟨h,hxb⟩,if_pos h]
      ·rw [if_neg (fun h2=>h h2.1),if_neg h])
     have hrd:=Lib.hid (zbD hxb)
     have TX:=Lib.hid (fun (W:World) (A:Option Addr) (n c:Nat) (hs:Sl W W.heap.size A n c (digs x.natAbs))=>zbW (decide (x<0)) hs (Nat.le_refl _))
     rw [hrd.out] at TX
     clear hval hx hxb hI
     by_cases heq:Lib.itoa x=s
     ·rw [heq] at TX
      go_wp2_with (first
       | (go_at_call 90;(with_reducible refine (SG.out).mono ?_);rintro e w2 hr;obtain ⟨A6,n6,c6,rfl,hs6,hb6⟩:=zae hr;have s6:=sr.via hb6;have s7:=s6.via ((Below.refl _ _).alloc (Nat.le_refl _) (.cells #[.bool (decide (x<0)),.slice A6 n6 c6] 30));obtain ⟨r0,r1⟩:=s7.facts;obtain ⟨rf,rz⟩:=s7.frz)
       | (go_at_call 79;(with_reducible refine (TX.out _ _ _ _ (hs6.alloc_ _)).mono ?_);rintro e w3 ⟨rfl,hb7⟩;have s8:=s7.via hb7;obtain ⟨g0,g1⟩:=bcell hb7;clear r0 r1 rf rz;obtain ⟨r0,r1⟩:=s8.facts;obtain ⟨rf,rz⟩:=s8.frz)
       | fail "no arm")
      rw [hps.out,if_pos heq]
      obtain ⟨q0,q1⟩:=zJ (.bool (decide (x<0))) (.slice A6 n6 c6) r0 r1
      refine bodyPost_ret (v:=.tuple #[.agg #[.bool (decide (x<0)),.slice A6 n6 c6],.bool true]) ?_ rfl ⟨A6,n6,c6,rfl,?_,?_⟩
      ·simp [results,Tryz.f110,go_sem,q0,q1]
      ·exact (((hs6.alloc_ _).below hb7).more hb7.size).stored r0 r1 _ _
      ·exact (s8.below.setCell (by simp) _).setCell (by simp) _
     ·have hbq:(Lib.itoa x == s)=false:=by simp [heq]
      go_wp2_with (first
       | (go_at_call 90;(with_reducible refine (SG.out).mono ?_);rintro e w2 hr;obtain ⟨A6,n6,c6,rfl,hs6,hb6⟩:=zae hr;have s6:=sr.via hb6;have s7:=s6.via ((Below.refl _ _).alloc (Nat.le_refl _) (.cells #[.bool (decide (x<0)),.slice A6 n6 c6] 30));obtain ⟨r0,r1⟩:=s7.facts;obtain ⟨rf,rz⟩:=s7.frz)
       | (go_at_call 79;(with_reducible refine (TX.out _ _ _ _ (hs6.alloc_ _)).mono ?_);rintro e w3 ⟨rfl,hb7⟩;have s8:=s7.via hb7;obtain ⟨g0,g1⟩:=bcell hb7;clear r0 r1 rf rz;obtain ⟨r0,r1⟩:=s8.facts;obtain ⟨rf,rz⟩:=s8.frz)
       | fail "no arm")
      rw [hps.out,if_neg heq]
      obtain ⟨q0,q1⟩:=zJ (.bool false) (.slice none 0 0) r0 r1
      refine bodyPost_ret (v:=.tuple #[.agg #[.bool false,.slice none 0 0],.bool false]) ?_ rfl ⟨_,_,_,rfl,by rw [show digs (vO none).natAbs=[] from zx];exact Sl.none_,?_⟩
      ·simp [results,Tryz.f110,go_sem,q0,q1]
      ·exact (s8.below.setCell (by simp) _).setCell (by simp) _
  | false =>
   have hf:cutF s=0:=by rw [zon h0',h1];rfl
   have hcn:=zhZ hf
   go_enter Tryz.func110,Tryz.ntmps110
   go_wp2_with fail
   go_loopw [5,6] (fun x y W=>∃k A n c u,cutF s≤k∧k≤s.length∧x=.slice A n c∧y=.int .i64 (k:Nat)∧S1 w false none 0 0 W∧Hid (RpI W s A n c u k)) (fun _ y _=>s.length - (intOf y).toNat)
   case atStart=>exact ⟨0,none,0,0,0,by omega,by omega,rfl,rfl,s0,Lib.hid ⟨by rw [zx];exact Sl.none_,by unfold big;exact Nat.pos_of_ne_zero (by simp),by rw [hf];rfl,by rw [hf];intro b hb;simp at hb⟩⟩
   case round =>
    obtain ⟨k,A,n,c,u,hk1,hk2,rfl,rfl,sr,hI⟩:=hrel
    clear s0
    have hn64:=zat hI.out.1 hI.out.2.1
    by_cases hlt:(k:Int)<s.length
    ·have hkl:k<s.length:=by omega
     have hkk:k<(⟨s.toArray⟩:ByteArray).size:=hkl
     by_cases hb:48≤s[k].toNat∧s[k].toNat≤57
     ·obtain ⟨d,hd⟩:∃d,s[k].toNat=48+d:=⟨s[k].toNat - 48,by omega⟩
      have hdd:d<10:=by omega
      have e4:(((⟨s.toArray⟩:ByteArray)[k]'hkk).toNat:Int)=48+(d:Int):=by rw [show ((⟨s.toArray⟩:ByteArray)[k]'hkk)=s[k] from rfl,hd];omega
      go_upto_region 10 with fail
      have TI:=Lib.hid (fun (W:World) (A2:Option Addr) (n2 c2:Nat) (hm:S1 w false none 0 0 W∧Sl W W.heap.size A n c (digs u)) (hs:Sl W W.heap.size A2 n2 c2 [10])=>(by
       have:=zci A A2 n c n2 c2 W.heap.size (digs u) [10] W hm.2 hs (Nat.le_refl _) (by omega) (by have:=hs.len;simp at this;omega)
       rwa [zn,show nval [10]=10 from rfl] at this:Calls Tryz.prog 141 #[.slice A n c,.slice A2 n2 c2] W (RetD (u*10) W)))
      have hub:=Lib.hid hI.out.2.1
      have PL:=Lib.hid (fun (W:World) (A1 A2:Option Addr) (n1 c1 n2 c2:Nat) (hs1:Sl W W.heap.size A1 n1 c1 (digs (u*10))) (hs:Sl W W.heap.size A2 n2 c2 [d])=>(by
       have h4:=zfP hub.out
       rw [hs1.len] at h4
       have:=zbV A1 A2 n1 c1 n2 c2 W.heap.size (digs (u*10)) [d] W hs1 hs (Nat.le_refl _) h4 (by have:=hs.len;simp at this;omega)
       rwa [zn,show nval [d]=d by simp [nval]] at this:Calls Tryz.prog 140 #[.slice A1 n1 c1,.slice A2 n2 c2] W (RetD (u*10+d) W)))
      refine ze1 (fun W=>S1 w false none 0 0 W∧Sl W W.heap.size A n c (digs u)) _ _ _ A n c u s k d rfl (by kernel_rfl) (by simp) ⟨sr.drew,hI.out.1.via (Below.refl _ _).drew⟩ (fun W W1 h hb=>⟨h.1.via hb,h.2.via hb⟩)
       hdd rfl rfl rfl hlt (fun h=>by rw [hd];omega) TI.out PL.out
       rfl rfl rfl rfl rfl rfl rfl rfl rfl rfl rfl
       (by kernel_rfl) (by kernel_rfl) (by kernel_rfl) (by kernel_rfl) (by kernel_rfl) (by kernel_rfl) (by kernel_rfl) (by kernel_rfl) (by kernel_rfl) (by kernel_rfl) (by kernel_rfl) ?_
      rintro f W9 ⟨sr2,_⟩ ⟨A5,n5,c5,e5,hs5⟩
      simp only [zf1,zir,e5]
      clear e5 TI PL
      simp only [List.setIfInBounds_toArray,List.set_cons_zero,List.set_cons_succ]
      obtain ⟨r0,r1⟩:=sr2.facts
      obtain ⟨rf,rz⟩:=sr2.frz
      have hud:u*10+d=dval ((cutR s).take (k+1 - cutF s)):=by
       rw [zhn hkl hk1,zez,← hI.out.2.2.1,hd];omega
      by_cases h64:(64:Int)<n5
      ·have hp:Hid (zp s=none):=Lib.hid (zl5 hud (fun h=>by have:=zat hs5 h;omega))
       clear hud hI hub
       go_wp2_with fail
       rw [hp.out]
       obtain ⟨q0,q1⟩:=zJ (.bool false) (.slice none 0 0) r0 r1
       refine bodyPost_ret (v:=.tuple #[.agg #[.bool false,.slice none 0 0],.bool false]) ?_ rfl ⟨_,_,_,rfl,by rw [show digs (vO none).natAbs=[] from zx];exact Sl.none_,?_⟩
       ·simp [results,Tryz.f110,go_sem,q0,q1]
       ·exact (sr2.below.setCell (by simp) _).setCell (by simp) _
      ·have hI2:Hid (RpI W9 s A5 n5 c5 (u*10+d) (k+1)):=Lib.hid ⟨hs5,(zaq _).1 (by rw [hs5.len];omega),hud,by
        rw [zhn hkl hk1,zaz]
        exact ⟨hI.out.2.2.2,fun b hb2=>by rw [List.mem_singleton.1 hb2];exact hb⟩⟩
       clear hud hI hub hs5
       go_wp2_with fail
       refine ⟨⟨k+1,A5,n5,c5,u*10+d,by omega,by omega,rfl,rfl,sr2,hI2⟩,?_⟩
       simp only [intOf]
       omega
     ·have hp:Hid (zp s=none):=Lib.hid (zs2 hkl hk1 hb)
      obtain ⟨b,hd⟩:∃b,s[k].toNat=b:=⟨_,rfl⟩
      have e4:(((⟨s.toArray⟩:ByteArray)[k]'hkk).toNat:Int)=(b:Int):=by rw [show ((⟨s.toArray⟩:ByteArray)[k]'hkk)=s[k] from rfl,hd]
      rw [hd] at hb
      obtain ⟨r0,r1⟩:=sr.facts
      obtain ⟨rf,rz⟩:=sr.frz
      clear hI hd
      by_cases hb2:(b:Int)<48
      ·clear hb
       go_wp2_with fail
       rw [hp.out]
       obtain ⟨q0,q1⟩:=zJ (.bool false) (.slice none 0 0) r0 r1
       refine bodyPost_ret (v:=.tuple #[.agg #[.bool false,.slice none 0 0],.bool false]) ?_ rfl ⟨_,_,_,rfl,by rw [show digs (vO none).natAbs=[] from zx];exact Sl.none_,?_⟩
       ·simp [results,Tryz.f110,go_sem,q0,q1]
       ·exact (sr.below.setCell (by simp) _).setCell (by simp) _
      ·have hb3:(57:Int)<b:=by omega
       clear hb
       go_wp2_with fail
       rw [hp.out]
       obtain ⟨q0,q1⟩:=zJ (.bool false) (.slice none 0 0) r0 r1
       refine bodyPost_ret (v:=.tuple #[.agg #[.bool false,.slice none 0 0],.bool false]) ?_ rfl ⟨_,_,_,rfl,by rw [show digs (vO none).natAbs=[] from zx];exact Sl.none_,?_⟩
       ·simp [results,Tryz.f110,go_sem,q0,q1]
       ·exact (sr.below.setCell (by simp) _).setCell (by simp) _
    ·have hval:=zpD (s:=s) (k:=k) (by omega) hI.out.2.2.1
     rw [hcn] at hval
     obtain ⟨x,hx⟩:∃x,sgn false u=x:=⟨_,rfl⟩
     have hxb:x.natAbs<big:=by rw [← hx,qA];exact hI.out.2.1
     have SG:Hid (Calls Tryz.prog 90 #[.bool false,.slice A n c] wr (RetN (some x) wr)):=by
      have:=qd A n c wr.heap.size u false (digs u) wr hI.out.1 (Nat.le_refl _) (zn u)
      rw [hx,show fitO x=some x by unfold fitO;rw [if_pos hxb]] at this
      exact Lib.hid this
     have hps:Hid (zp s=if Lib.itoa x=s then some x else none):=Lib.hid (by
      unfold zp
      rw [hval,hx]
      by_cases h:Lib.itoa x=s
      ·rw [if_pos ⟨h,hxb⟩,if_pos h]
      ·rw [if_neg (fun h2=>h h2.1),if_neg h])
     have hrd:=Lib.hid (zbD hxb)
     have TX:=Lib.hid (fun (W:World) (A:Option Addr) (n c:Nat) (hs:Sl W W.heap.size A n c (digs x.natAbs))=>zbW (decide (x<0)) hs (Nat.le_refl _))
     rw [hrd.out] at TX
     clear hval hx hxb hI
     by_cases heq:Lib.itoa x=s
     ·rw [heq] at TX
      go_wp2_with (first
       | (go_at_call 90;(with_reducible refine (SG.out).mono ?_);rintro e w2 hr;obtain ⟨A6,n6,c6,rfl,hs6,hb6⟩:=zae hr;have s6:=sr.via hb6;have s7:=s6.via ((Below.refl _ _).alloc (Nat.le_refl _) (.cells #[.bool (decide (x<0)),.slice A6 n6 c6] 30));obtain ⟨r0,r1⟩:=s7.facts;obtain ⟨rf,rz⟩:=s7.frz)
       | (go_at_call 79;(with_reducible refine (TX.out _ _ _ _ (hs6.alloc_ _)).mono ?_);rintro e w3 ⟨rfl,hb7⟩;have s8:=s7.via hb7;obtain ⟨g0,g1⟩:=bcell hb7;clear r0 r1 rf rz;obtain ⟨r0,r1⟩:=s8.facts;obtain ⟨rf,rz⟩:=s8.frz)
       | fail "no arm")
      rw [hps.out,if_pos heq]
      obtain ⟨q0,q1⟩:=zJ (.bool (decide (x<0))) (.slice A6 n6 c6) r0 r1
      refine bodyPost_ret (v:=.tuple #[.agg #[.bool (decide (x<0)),.slice A6 n6 c6],.bool true]) ?_ rfl ⟨A6,n6,c6,rfl,?_,?_⟩
      ·simp [results,Tryz.f110,go_sem,q0,q1]
      ·exact (((hs6.alloc_ _).below hb7).more hb7.size).stored r0 r1 _ _
      ·exact (s8.below.setCell (by simp) _).setCell (by simp) _
     ·have hbq:(Lib.itoa x == s)=false:=by simp [heq]
      go_wp2_with (first
       | (go_at_call 90;(with_reducible refine (SG.out).mono ?_);rintro e w2 hr;obtain ⟨A6,n6,c6,rfl,hs6,hb6⟩:=zae hr;have s6:=sr.via hb6;have s7:=s6.via ((Below.refl _ _).alloc (Nat.le_refl _) (.cells #[.bool (decide (x<0)),.slice A6 n6 c6] 30));obtain ⟨r0,r1⟩:=s7.facts;obtain ⟨rf,rz⟩:=s7.frz)
       | (go_at_call 79;(with_reducible refine (TX.out _ _ _ _ (hs6.alloc_ _)).mono ?_);rintro e w3 ⟨rfl,hb7⟩;have s8:=s7.via hb7;obtain ⟨g0,g1⟩:=bcell hb7;clear r0 r1 rf rz;obtain ⟨r0,r1⟩:=s8.facts;obtain ⟨rf,rz⟩:=s8.frz)
       | fail "no arm")
      rw [hps.out,if_neg heq]
      obtain ⟨q0,q1⟩:=zJ (.bool false) (.slice none 0 0) r0 r1
      refine bodyPost_ret (v:=.tuple #[.agg #[.bool false,.slice none 0 0],.bool false]) ?_ rfl ⟨_,_,_,rfl,by rw [show digs (vO none).natAbs=[] from zx];exact Sl.none_,?_⟩
      ·simp [results,Tryz.f110,go_sem,q0,q1]
      ·exact (s8.below.setCell (by simp) _).setCell (by simp) _
 ·have hf:cutF s=0:=zqP (by omega)
  have hcn:=zhZ hf
  go_enter Tryz.func110,Tryz.ntmps110
  go_wp2_with fail
  go_loopw [5,6] (fun x y W=>∃k A n c u,cutF s≤k∧k≤s.length∧x=.slice A n c∧y=.int .i64 (k:Nat)∧S1 w false none 0 0 W∧Hid (RpI W s A n c u k)) (fun _ y _=>s.length - (intOf y).toNat)
  case atStart=>exact ⟨0,none,0,0,0,by omega,by omega,rfl,rfl,s0,Lib.hid ⟨by rw [zx];exact Sl.none_,by unfold big;exact Nat.pos_of_ne_zero (by simp),by rw [hf];rfl,by rw [hf];intro b hb;simp at hb⟩⟩
  case round =>
   obtain ⟨k,A,n,c,u,hk1,hk2,rfl,rfl,sr,hI⟩:=hrel
   clear s0
   have hn64:=zat hI.out.1 hI.out.2.1
   by_cases hlt:(k:Int)<s.length
   ·exfalso;omega
   ·have hval:=zpD (s:=s) (k:=k) (by omega) hI.out.2.2.1
    rw [hcn] at hval
    obtain ⟨x,hx⟩:∃x,sgn false u=x:=⟨_,rfl⟩
    have hxb:x.natAbs<big:=by rw [← hx,qA];exact hI.out.2.1
    have SG:Hid (Calls Tryz.prog 90 #[.bool false,.slice A n c] wr (RetN (some x) wr)):=by
     have:=qd A n c wr.heap.size u false (digs u) wr hI.out.1 (Nat.le_refl _) (zn u)
     rw [hx,show fitO x=some x by unfold fitO;rw [if_pos hxb]] at this
     exact Lib.hid this
    have hps:Hid (zp s=if Lib.itoa x=s then some x else none):=Lib.hid (by
     unfold zp
     rw [hval,hx]
     by_cases h:Lib.itoa x=s
     ·rw [if_pos ⟨h,hxb⟩,if_pos h]
     ·rw [if_neg (fun h2=>h h2.1),if_neg h])
    have hrd:=Lib.hid (zbD hxb)
    have TX:=Lib.hid (fun (W:World) (A:Option Addr) (n c:Nat) (hs:Sl W W.heap.size A n c (digs x.natAbs))=>zbW (decide (x<0)) hs (Nat.le_refl _))
    rw [hrd.out] at TX
    clear hval hx hxb hI
    by_cases heq:Lib.itoa x=s
    ·rw [heq] at TX
     go_wp2_with (first
      | (go_at_call 90;(with_reducible refine (SG.out).mono ?_);rintro e w2 hr;obtain ⟨A6,n6,c6,rfl,hs6,hb6⟩:=zae hr;have s6:=sr.via hb6;have s7:=s6.via ((Below.refl _ _).alloc (Nat.le_refl _) (.cells #[.bool (decide (x<0)),.slice A6 n6 c6] 30));obtain ⟨r0,r1⟩:=s7.facts;obtain ⟨rf,rz⟩:=s7.frz)
      | (go_at_call 79;(with_reducible refine (TX.out _ _ _ _ (hs6.alloc_ _)).mono ?_);rintro e w3 ⟨rfl,hb7⟩;have s8:=s7.via hb7;obtain ⟨g0,g1⟩:=bcell hb7;clear r0 r1 rf rz;obtain ⟨r0,r1⟩:=s8.facts;obtain ⟨rf,rz⟩:=s8.frz)
      | fail "no arm")
     rw [hps.out,if_pos heq]
     obtain ⟨q0,q1⟩:=zJ (.bool (decide (x<0))) (.slice A6 n6 c6) r0 r1
     refine bodyPost_ret (v:=.tuple #[.agg #[.bool (decide (x<0)),.slice A6 n6 c6],.bool true]) ?_ rfl ⟨A6,n6,c6,rfl,?_,?_⟩
     ·simp [results,Tryz.f110,go_sem,q0,q1]
     ·exact (((hs6.alloc_ _).below hb7).more hb7.size).stored r0 r1 _ _
     ·exact (s8.below.setCell (by simp) _).setCell (by simp) _
    ·have hbq:(Lib.itoa x == s)=false:=by simp [heq]
     go_wp2_with (first
      | (go_at_call 90;(with_reducible refine (SG.out).mono ?_);rintro e w2 hr;obtain ⟨A6,n6,c6,rfl,hs6,hb6⟩:=zae hr;have s6:=sr.via hb6;have s7:=s6.via ((Below.refl _ _).alloc (Nat.le_refl _) (.cells #[.bool (decide (x<0)),.slice A6 n6 c6] 30));obtain ⟨r0,r1⟩:=s7.facts;obtain ⟨rf,rz⟩:=s7.frz)
      | (go_at_call 79;(with_reducible refine (TX.out _ _ _ _ (hs6.alloc_ _)).mono ?_);rintro e w3 ⟨rfl,hb7⟩;have s8:=s7.via hb7;obtain ⟨g0,g1⟩:=bcell hb7;clear r0 r1 rf rz;obtain ⟨r0,r1⟩:=s8.facts;obtain ⟨rf,rz⟩:=s8.frz)
      | fail "no arm")
     rw [hps.out,if_neg heq]
     obtain ⟨q0,q1⟩:=zJ (.bool false) (.slice none 0 0) r0 r1
     refine bodyPost_ret (v:=.tuple #[.agg #[.bool false,.slice none 0 0],.bool false]) ?_ rfl ⟨_,_,_,rfl,by rw [show digs (vO none).natAbs=[] from zx];exact Sl.none_,?_⟩
     ·simp [results,Tryz.f110,go_sem,q0,q1]
     ·exact (s8.below.setCell (by simp) _).setCell (by simp) _
end Go.Proofs.YtjcegdldgjphiaaGreatDoor
namespace Go.Proofs.YtjcegdldgjphiaaGreatDoor
open Go.RowKit Go.Shelf
theorem zmr {v:Nat} (h:v≠0):0<(dd v).length:=by rw [zd3 h];simp
theorem zsK:∀v:Nat,v≠0→10 ^ ((dd v).length - 1)≤v:=by
 intro v
 induction v using Nat.strongRecOn with
 | _ v ih =>
  intro h
  rw [zd3 h,List.length_append,List.length_singleton,Nat.add_sub_cancel]
  by_cases h2:v<10
  ·rw [show v / 10=0 by omega,zbl];simp;omega
  ·have h3:v / 10≠0:=by omega
   have h4:=ih (v / 10) (by omega) h3
   have h5:=zmr h3
   rw [show (dd (v / 10)).length=((dd (v / 10)).length - 1)+1 by omega,Nat.pow_succ]
   omega
theorem zms {v:Nat} (h:v<big):(Lib.decDigits v).length≤641:=by
 by_cases h0:v=0
 ·subst h0;rw [zbc];simp
 ·rw [zb5 v h0]
  have h1:=zsK v h0
  have h2:=Nat.lt_of_le_of_lt h1 (Nat.lt_trans h zjS)
  have:=(Nat.pow_lt_pow_iff_right (a:=10) (by decide)).1 h2
  omega
theorem qO {neg:Bool} {l:List Nat} (hd:Dig l):(textS neg l).length≤642:=by
 unfold textS
 split
 ·rename_i h
  have h1:=zC h hd
  have hb:nval l<big:=(qg h1.1).1 h1.2.1
  have h2:=zms hb
  cases neg
  ·rw [show sgn false (nval l)=(nval l:Int) from rfl,Lib.itoa,if_neg (by omega),Int.toNat_natCast];omega
  ·by_cases h0:nval l=0
   ·rw [h0,show sgn true 0=0 from rfl,Lib.itoa,if_neg (by omega),show (0:Int).toNat=0 from rfl,zbc];simp
   ·rw [show sgn true (nval l)=-(nval l:Int) from rfl,Lib.itoa,if_pos (by omega),Int.natAbs_neg,Int.natAbs_natCast,List.length_cons];omega
 ·simp
section
variable {K:Kit} {P:Program} {f:FuncId} {res:PSh}
theorem zsW {l:List Nat} {v:Value} {W:World} {D:Dat} (h:pD l v W D):Dig l:=by obtain ⟨_,_,_,_,hs⟩:=h;exact hs.dig
theorem zsP {x:RR} {v:Value} {W:World} {D:Dat} (h:(gR x).ok v W D):Dig x.1.2∧Dig x.2.2:=by
 obtain ⟨vs,_,h1⟩:=h
 match vs.toList,h1 with
 | [a,b,c,d],⟨_,h2,_,h4,_⟩=>exact ⟨zsW h2,zsW h4⟩
 | [],h=>exact h.elim
 | [_],h=>exact h.2.elim
 | [_,_],h=>exact h.2.2.elim
 | [_,_,_],h=>exact h.2.2.2.elim
 | _::_::_::_::_::_,h=>exact h.2.2.2.2.elim
theorem zlJ {x:RR} {r:List PSh} (h:Dig x.1.2→Dig x.2.2→Fun K P f (gR x::r) res):Fun K P f (gR x::r) res:=by
 intro W D vs hs hf
 match vs,hs with
 | v::us,hs=>exact h (zsP hs.1).1 (zsP hs.1).2 W D (v::us) hs hf
 | [],h=>exact h.elim
end
theorem oka1 {p:PSh} {vs:List Value} {W:World} {D:Dat} (h:oka [p] vs W D):∃v,vs=[v]∧p.ok v W D:=by
 match vs,h with
 | [v],h=>exact ⟨v,rfl,h.1⟩
 | [],h=>exact h.elim
 | _::_::_,h=>exact h.2.elim
theorem gN_ok {x:Raw} {v:Value} {W:World} {D:Dat} (h:(gN x).ok v W D):∃A n c,v=.agg #[.bool x.1,.slice A n c]∧Sl W W.heap.size A n c x.2:=by
 obtain ⟨vs,rfl,h1⟩:=h
 match hv:vs.toList,h1 with
 | [a,b],⟨h1,h2,_⟩ =>
  obtain ⟨A,n,c,e,hs⟩:=h2
  have e1:a=.bool x.1:=h1
  exact ⟨A,n,c,by rw [← Array.toArray_toList (xs:=vs),hv,e1,e],hs⟩
 | [],h=>exact h.elim
 | [_],h=>exact h.2.elim
 | _::_::_::_,h=>exact h.2.2.elim
theorem Kept.of {K:Kit} {W W':World} {D:Dat} (hf:Fit K W D) (h:Below W.heap.size W W'):Kept W D W' D:=⟨h,fun _ h=>h,fun _ h=>.inl h,fun q hq=>Nat.lt_of_lt_of_le (hf.dlt q hq) h.size⟩
theorem zeB {w0:World} (x:Raw) (t:List UInt8) (ht:textS x.1 x.2=t):Fun (KN w0) Tryz.prog 79 [gN x] (.o (.c (pS t))):=by
 subst ht
 intro W D vs hs hf
 obtain ⟨v,rfl,hv⟩:=oka1 hs
 obtain ⟨A,n,c,rfl,h2⟩:=gN_ok hv
 refine (zbW _ h2 (Nat.le_refl _)).mono fun e W' hr=>?_
 obtain ⟨rfl,hb⟩:=hr
 exact ⟨_,D,rfl,rfl,Kept.of hf hb⟩
theorem qh {w0:World} (s:List UInt8) (r:Raw) (o:Bool) (hr:nz (vO (zp s))=r) (ho:okO (zp s)=o) (hl:s.length≤1000):Fun (KN w0) Tryz.prog 110 [.o (.c (pS s))] (.t [.g (cN r),.c (pB o)]):=by
 subst hr;subst ho
 intro W D vs hs hf
 obtain ⟨v,rfl,hv⟩:=oka1 hs
 have e:v=.string (bs s):=hv
 subst e
 refine (ziz s W hl).mono fun e W' hr=>?_
 obtain ⟨A,n,c,rfl,h1,hb⟩:=hr
 exact ⟨_,D,rfl,⟨_,rfl,⟨_,rfl,rfl,⟨A,n,c,rfl,h1⟩,trivial⟩,rfl,trivial⟩,Kept.of hf hb⟩
end Go.Proofs.YtjcegdldgjphiaaGreatDoor
namespace Go.Proofs.YtjcegdldgjphiaaGreatDoor
open Go.RowKit Go.Shelf
theorem zaj {p:Pred} {v:Value} {W:World} {D:Dat} (h:(PSh.t [.g [pV (.bool false),pV (.slice none 0 0),pV (.bool false),pV (.slice none 0 0)],.c p]).ok v W D):(PSh.t [.g (cN (rq none).1++cN (rq none).2),.c p]).ok v W D:=by
 obtain ⟨vs,e,h1⟩:=h
 refine ⟨vs,e,?_⟩
 match vs.toList,h1 with
 | [a,b],⟨h1,h2,_⟩=>exact ⟨zqv h1,h2,trivial⟩
 | [],h=>exact h.elim
 | [_],h=>exact h.2.elim
 | _::_::_::_,h=>exact h.2.2.elim
def textR (x:RR):List UInt8:=if rrX x.1 x.2=true then (if cmpX x.2 (nz 1)=0 then textS x.1.1 x.1.2 else textS x.1.1 x.1.2++[47]++textS x.2.1 x.2.2) else []
abbrev zBB:List (Nat×Ent):=(1000003,.call ⟨46,[.o (.g [.h 0,.h 1,.h 2,.h 3])],[],yh 4,[]⟩)::(1000004,.un .not (yh 4) (yh 5))::[]
abbrev zBN:List (Nat×Ent):=(10005,.fb 5 true)::zBB
abbrev zBC:List (Nat×Ent):=(10005,.fb 5 false)::(1000008,.call ⟨73,[],[],.o (.g [.h 6,.h 7]),[]⟩)::(1000009,.call ⟨70,[.o (.g [.h 2,.h 3]),.o (.g [.h 6,.h 7])],[],yh 8,[]⟩)::(1000010,.bin .eql 3 (yh 8) (LF (.k (.int .i64 0))) (yh 9))::zBB
abbrev zBO:List (Nat×Ent):=(10009,.fb 9 true)::(1000014,.call ⟨74,[.o (.g [.h 0,.h 1])],[],yh 10,[]⟩)::zBC
abbrev zBP:List (Nat×Ent):=(10009,.fb 9 false)::(1000014,.call ⟨74,[.o (.g [.h 0,.h 1])],[],yh 10,[]⟩)::(1000015,.bin .add 9 (yh 10) (LF (.k (.string ⟨#[47]⟩))) (yh 11))::(1000018,.call ⟨74,[.o (.g [.h 2,.h 3])],[],yh 12,[]⟩)::(1000019,.bin .add 9 (yh 11) (yh 12) (yh 13))::zBC
theorem zeC {w0:World} (hT:∀W,Below w0.heap.size w0 W→PowT w0.heap.size W) (x:RR) (t:List UInt8) (ht:textR x=t):Fun (KN w0) Tryz.prog 47 [.o (.g [pB x.1.1,pD x.1.2,pB x.2.1,pD x.2.2])] (.o (.c (pS t))):=by
 refine zlJ fun d1 d2=>?_
 obtain ⟨v1,e1⟩:=LX (rrX x.1 x.2)
 obtain ⟨v2,e2⟩:=LX (!v1)
 let A1:List Pred→List Pred:=fun t=>pB x.1.1::pD x.1.2::pB x.2.1::pD x.2.2::pB v1::pB v2::t
 have f1:LA (KN w0) A1:=fun t h=>⟨zc,zm,zc,zm,zc,zc,h⟩
 have T1:LT (KN w0) Tryz.prog A1 zBB:=fun t=>⟨zh (zas x v1 e1),e_un (za rfl) (za rfl) (fun W=>by rw [← e2];exact r_not W),trivial⟩
 cases h3:v2 with
 | true =>
  have T2:LT (KN w0) Tryz.prog A1 zBN:=fun t=>⟨e_fbv h3,T1 _⟩
  refine Fun.fin (r:=.o (.c (pV (.string ⟨#[]⟩)))) (zq (zr (F:=FL (A1 []) []) (C:=zBN) (k:=⟨47,[.o (.g [.h 0,.h 1,.h 2,.h 3])],[],.o (.c (.k (.string ⟨#[]⟩))),[]⟩) 0 (zg (f1 [] trivial)) (T2 []) mixed (by kernel_rfl))) (fun v W D h=>?_)
  have r0:t=[]:=by
   subst_vars
   simp_all [textR]
  rw [r0];exact h
 | false =>
  obtain ⟨v4,e4⟩:=LX (nz 1)
  obtain ⟨v5,e5⟩:=LX (cmpX x.2 v4)
  obtain ⟨v6,e6⟩:=LX ((v5 == (0:Int)))
  let A3:=fun t=>A1 (pB v4.1::pD v4.2::pI v5::pB v6::t)
  have f3:LA (KN w0) A3:=fun t h=>f1 _ ⟨zc,zm,zc,zc,h⟩
  have T3:LT (KN w0) Tryz.prog A3 zBC:=fun t=>⟨e_fbv h3,zh (f_one  v4 e4),zh (f_cmp x.2 v4 v5 e5),e_bin (za rfl) ze (za rfl) (r_cmp (LO e6)),T1 _⟩
  cases h7:v6 with
  | true =>
   obtain ⟨v8,e8⟩:=LX (textS x.1.1 x.1.2)
   let A4:=fun t=>A3 (pS v8::t)
   have f4:LA (KN w0) A4:=fun t h=>f3 _ ⟨zc,h⟩
   have T4:LT (KN w0) Tryz.prog A4 zBO:=fun t=>⟨e_fbv h7,zh (zoG hT x.1 v8 e8),T3 _⟩
   refine Fun.fin (r:=.o (.c (pS v8))) (zq (zr (F:=FL (A4 []) []) (C:=zBO) (k:=⟨47,[.o (.g [.h 0,.h 1,.h 2,.h 3])],[],yh 10,[]⟩) 0 (zg (f4 [] trivial)) (T4 []) mixed (by kernel_rfl))) (fun v W D h=>?_)
   have r0:t=v8:=by
    subst_vars
    simp_all [textR]
   rw [r0];exact h
  | false =>
   obtain ⟨v8,e8⟩:=LX (textS x.1.1 x.1.2)
   obtain ⟨v9,e9⟩:=LX (v8++[47])
   have s10:(((v8:List UInt8).length+([47]:List UInt8).length:Nat):Int)≤9223372036854775807:=by subst_vars;have:=qO (neg:=x.1.1) d1;have:=qO (neg:=x.2.1) d2;simp only [List.length_append,List.length_cons,List.length_nil];omega
   obtain ⟨v11,e11⟩:=LX (textS x.2.1 x.2.2)
   obtain ⟨v12,e12⟩:=LX (v9++v11)
   have s13:(((v9:List UInt8).length+(v11:List UInt8).length:Nat):Int)≤9223372036854775807:=by subst_vars;have:=qO (neg:=x.1.1) d1;have:=qO (neg:=x.2.1) d2;simp only [List.length_append,List.length_cons,List.length_nil];omega
   let A5:=fun t=>A3 (pS v8::pS v9::pS v11::pS v12::t)
   have f5:LA (KN w0) A5:=fun t h=>f3 _ ⟨zc,zc,zc,zc,h⟩
   have T5:LT (KN w0) Tryz.prog A5 zBP:=fun t=>⟨e_fbv h7,zh (zoG hT x.1 v8 e8),e_bin (za rfl) ze (za rfl) (fun W X Y=>by rw [← e9];exact r_cat s10 W X Y),zh (zoG hT x.2 v11 e11),e_bin (za rfl) (za rfl) (za rfl) (fun W X Y=>by rw [← e12];exact r_cat s13 W X Y),T3 _⟩
   refine Fun.fin (r:=.o (.c (pS v12))) (zq (zr (F:=FL (A5 []) []) (C:=zBP) (k:=⟨47,[.o (.g [.h 0,.h 1,.h 2,.h 3])],[],yh 13,[]⟩) 0 (zg (f5 [] trivial)) (T5 []) mixed (by kernel_rfl))) (fun v W D h=>?_)
   have r0:t=v12:=by
    subst_vars
    simp_all [textR]
   rw [r0];exact h
abbrev zBl:List (Nat×Ent):=(1000003,.call ⟨48,[.o (.g [.h 0,.h 1,.h 2,.h 3])],[],yh 4,[]⟩)::(1000004,.un .not (yh 4) (yh 5))::[]
abbrev zBy:List (Nat×Ent):=(10005,.fb 5 true)::zBl
abbrev zBm:List (Nat×Ent):=(10005,.fb 5 false)::(1000007,.call ⟨77,[.o (.c (.k (.int .i64 1)))],[],.o (.g [.h 6,.h 7]),[]⟩)::(1000008,.call ⟨76,[.o (.g [.h 2,.h 3]),.o (.g [.h 6,.h 7])],[],yh 8,[]⟩)::(1000009,.bin .eql 3 (yh 8) (LF (.k (.int .i64 0))) (yh 9))::zBl
abbrev zBz:List (Nat×Ent):=(10009,.fb 9 true)::(1000012,.call ⟨79,[.o (.g [.h 0,.h 1])],[],yh 10,[]⟩)::zBm
abbrev zBA:List (Nat×Ent):=(10009,.fb 9 false)::(1000012,.call ⟨79,[.o (.g [.h 0,.h 1])],[],yh 10,[]⟩)::(1000013,.bin .add 9 (yh 10) (LF (.k (.string ⟨#[47]⟩))) (yh 11))::(1000016,.call ⟨79,[.o (.g [.h 2,.h 3])],[],yh 12,[]⟩)::(1000017,.bin .add 9 (yh 11) (yh 12) (yh 13))::zBm
theorem zbv {w0:World} (x:RR) (t:List UInt8) (ht:textR x=t):Fun (KN w0) Tryz.prog 49 [.o (.g [pB x.1.1,pD x.1.2,pB x.2.1,pD x.2.2])] (.o (.c (pS t))):=by
 refine zlJ fun d1 d2=>?_
 obtain ⟨v1,e1⟩:=LX (rrX x.1 x.2)
 obtain ⟨v2,e2⟩:=LX (!v1)
 let A1:List Pred→List Pred:=fun t=>pB x.1.1::pD x.1.2::pB x.2.1::pD x.2.2::pB v1::pB v2::t
 have f1:LA (KN w0) A1:=fun t h=>⟨zc,zm,zc,zm,zc,zc,h⟩
 have T1:LT (KN w0) Tryz.prog A1 zBl:=fun t=>⟨zh (za2 x v1 e1),e_un (za rfl) (za rfl) (fun W=>by rw [← e2];exact r_not W),trivial⟩
 cases h3:v2 with
 | true =>
  have T2:LT (KN w0) Tryz.prog A1 zBy:=fun t=>⟨e_fbv h3,T1 _⟩
  refine Fun.fin (r:=.o (.c (pV (.string ⟨#[]⟩)))) (zq (zr (F:=FL (A1 []) []) (C:=zBy) (k:=⟨49,[.o (.g [.h 0,.h 1,.h 2,.h 3])],[],.o (.c (.k (.string ⟨#[]⟩))),[]⟩) 0 (zg (f1 [] trivial)) (T2 []) mixed (by kernel_rfl))) (fun v W D h=>?_)
  have r0:t=[]:=by
   subst_vars
   simp_all [textR]
  rw [r0];exact h
 | false =>
  obtain ⟨v4,e4⟩:=LX (nz (1:Int))
  have s5:-9223372036854775808≤(1:Int):=by first | decide | (subst_vars;have:=qO (neg:=x.1.1) d1;have:=qO (neg:=x.2.1) d2;simp only [List.length_append,List.length_cons,List.length_nil];omega)
  have s6:(1:Int)<9223372036854775808:=by first | decide | (subst_vars;have:=qO (neg:=x.1.1) d1;have:=qO (neg:=x.2.1) d2;simp only [List.length_append,List.length_cons,List.length_nil];omega)
  obtain ⟨v7,e7⟩:=LX (cmpX x.2 v4)
  obtain ⟨v8,e8⟩:=LX ((v7 == (0:Int)))
  let A3:=fun t=>A1 (pB v4.1::pD v4.2::pI v7::pB v8::t)
  have f3:LA (KN w0) A3:=fun t h=>f1 _ ⟨zc,zm,zc,zc,h⟩
  have T3:LT (KN w0) Tryz.prog A3 zBm:=fun t=>⟨e_fbv h3,zh (qN (1:Int) v4 e4 s5 s6),zh (zeq x.2 v4 v7 e7),e_bin (za rfl) ze (za rfl) (r_cmp (LO e8)),T1 _⟩
  cases h9:v8 with
  | true =>
   obtain ⟨v10,e10⟩:=LX (textS x.1.1 x.1.2)
   let A4:=fun t=>A3 (pS v10::t)
   have f4:LA (KN w0) A4:=fun t h=>f3 _ ⟨zc,h⟩
   have T4:LT (KN w0) Tryz.prog A4 zBz:=fun t=>⟨e_fbv h9,zh (zeB x.1 v10 e10),T3 _⟩
   refine Fun.fin (r:=.o (.c (pS v10))) (zq (zr (F:=FL (A4 []) []) (C:=zBz) (k:=⟨49,[.o (.g [.h 0,.h 1,.h 2,.h 3])],[],yh 10,[]⟩) 0 (zg (f4 [] trivial)) (T4 []) mixed (by kernel_rfl))) (fun v W D h=>?_)
   have r0:t=v10:=by
    subst_vars
    simp_all [textR]
   rw [r0];exact h
  | false =>
   obtain ⟨v10,e10⟩:=LX (textS x.1.1 x.1.2)
   obtain ⟨v11,e11⟩:=LX (v10++[47])
   have s12:(((v10:List UInt8).length+([47]:List UInt8).length:Nat):Int)≤9223372036854775807:=by first | decide | (subst_vars;have:=qO (neg:=x.1.1) d1;have:=qO (neg:=x.2.1) d2;simp only [List.length_append,List.length_cons,List.length_nil];omega)
   obtain ⟨v13,e13⟩:=LX (textS x.2.1 x.2.2)
   obtain ⟨v14,e14⟩:=LX (v11++v13)
   have s15:(((v11:List UInt8).length+(v13:List UInt8).length:Nat):Int)≤9223372036854775807:=by first | decide | (subst_vars;have:=qO (neg:=x.1.1) d1;have:=qO (neg:=x.2.1) d2;simp only [List.length_append,List.length_cons,List.length_nil];omega)
   let A5:=fun t=>A3 (pS v10::pS v11::pS v13::pS v14::t)
   have f5:LA (KN w0) A5:=fun t h=>f3 _ ⟨zc,zc,zc,zc,h⟩
   have T5:LT (KN w0) Tryz.prog A5 zBA:=fun t=>⟨e_fbv h9,zh (zeB x.1 v10 e10),e_bin (za rfl) ze (za rfl) (fun W X Y=>by rw [← e11];exact r_cat s12 W X Y),zh (zeB x.2 v13 e13),e_bin (za rfl) (za rfl) (za rfl) (fun W X Y=>by rw [← e14];exact r_cat s15 W X Y),T3 _⟩
   refine Fun.fin (r:=.o (.c (pS v14))) (zq (zr (F:=FL (A5 []) []) (C:=zBA) (k:=⟨49,[.o (.g [.h 0,.h 1,.h 2,.h 3])],[],yh 13,[]⟩) 0 (zg (f5 [] trivial)) (T5 []) mixed (by kernel_rfl))) (fun v W D h=>?_)
   have r0:t=v14:=by
    subst_vars
    simp_all [textR]
   rw [r0];exact h
def fracR (n d:Int):Option Rat:=if d<1 then none else ofX (nz n) (nz d)
abbrev zBk:List (Nat×Ent):=(1000004,.bin .lss 3 (yh 1) (LF (.k (.int .i64 1))) (yh 2))::[]
abbrev zBw:List (Nat×Ent):=(10002,.fb 2 true)::zBk
abbrev zBx:List (Nat×Ent):=(10002,.fb 2 false)::(1000007,.call ⟨77,[yh 0],[],.o (.g [.h 3,.h 4]),[]⟩)::(1000010,.call ⟨77,[yh 1],[],.o (.g [.h 5,.h 6]),[]⟩)::(1000011,.call ⟨95,[.o (.g [.h 3,.h 4]),.o (.g [.h 5,.h 6])],[],.t [.g [.h 7,.h 8,.h 9,.h 10],.c (.h 11)],[]⟩)::zBk
theorem zmx {w0:World} (n d:Int) (r:RR) (hr:rq (fracR n d)=r) (h0:-9223372036854775808≤n) (h1:n<9223372036854775808) (h2:-9223372036854775808≤d) (h3:d<9223372036854775808):Fun (KN w0) Tryz.prog 93 [.o (.g [pI n,pI d])] (gR r):=by
 obtain ⟨v1,e1⟩:=LX (decide (d<(1:Int)))
 let A1:List Pred→List Pred:=fun t=>pI n::pI d::pB v1::t
 have f1:LA (KN w0) A1:=fun t h=>⟨zc,zc,zc,h⟩
 have T1:LT (KN w0) Tryz.prog A1 zBk:=fun t=>⟨e_bin (za rfl) ze (za rfl) (r_cmp (LO e1)),trivial⟩
 cases h2:v1 with
 | true =>
  have T2:LT (KN w0) Tryz.prog A1 zBw:=fun t=>⟨e_fbv h2,T1 _⟩
  refine Fun.fin (r:=.o (.g [pV (.bool false),pV (.slice none 0 0),pV (.bool false),pV (.slice none 0 0)])) (zq (zr (F:=FL (A1 []) []) (C:=zBw) (k:=⟨93,[.o (.g [.h 0,.h 1])],[],.o (.g [.k (.bool false),.k (.slice none 0 0),.k (.bool false),.k (.slice none 0 0)]),[]⟩) 0 (zg (f1 [] trivial)) (T2 []) mixed (by kernel_rfl))) (fun v W D h=>?_)
  have r0:r=rq none:=by
   unfold fracR at hr
   subst_vars
   split<;>simp_all
   try omega
  rw [r0];exact zqv h
 | false =>
  obtain ⟨v3,e3⟩:=LX (nz n)
  have s4:-9223372036854775808≤n:=by first | assumption | (exact by decide)
  have s5:n<9223372036854775808:=by first | assumption | (exact by decide)
  obtain ⟨v6,e6⟩:=LX (nz d)
  have s7:-9223372036854775808≤d:=by first | assumption | (exact by decide)
  have s8:d<9223372036854775808:=by first | assumption | (exact by decide)
  obtain ⟨v9,e9⟩:=LX (rq (ofX v3 v6))
  obtain ⟨v10,e10⟩:=LX ((ofX v3 v6).isSome)
  let A3:=fun t=>A1 (pB v3.1::pD v3.2::pB v6.1::pD v6.2::pB v9.1.1::pD v9.1.2::pB v9.2.1::pD v9.2.2::pB v10::t)
  have f3:LA (KN w0) A3:=fun t h=>f1 _ ⟨zc,zm,zc,zm,zc,zm,zc,zm,zc,h⟩
  have T3:LT (KN w0) Tryz.prog A3 zBx:=fun t=>⟨e_fbv h2,zh (qN n v3 e3 s4 s5),zh (qN d v6 e6 s7 s8),zh (zgO v3 v6 v9 v10 e9 e10),T1 _⟩
  refine Fun.fin (r:=.o (.g [pB v9.1.1,pD v9.1.2,pB v9.2.1,pD v9.2.2])) (zq (zr (F:=FL (A3 []) []) (C:=zBx) (k:=⟨93,[.o (.g [.h 0,.h 1])],[],.o (.g [.h 7,.h 8,.h 9,.h 10]),[]⟩) 0 (zg (f3 [] trivial)) (T3 []) mixed (by kernel_rfl))) (fun v W D h=>?_)
  have r0:r=v9:=by
   unfold fracR at hr
   subst_vars
   split<;>simp_all
   try omega
  rw [r0];exact h
end Go.Proofs.YtjcegdldgjphiaaGreatDoor
namespace Go.Proofs.YtjcegdldgjphiaaGreatDoor
open Go.RowKit Go.Shelf
structure rcmp_T where
 sg:Int
 n1:Raw
 d1:Raw
 n2:Raw
 d2:Raw
end Go.Proofs.YtjcegdldgjphiaaGreatDoor
namespace Go.Proofs.YtjcegdldgjphiaaGreatDoor
open Go.RowKit Go.Shelf
def pDP (d:Nat):Pred:=fun v W _=>∃ad:Addr,v=.pointer (some ad)∧W.cell? ad=some (.int .u32 (d:Int))
theorem zdJ {w0:World} {d:Nat}:FineC (KN w0) (pDP d):=by
 constructor
 ·rintro v W W' D D' S hS hO _ ⟨ad,e,hc⟩
  refine ⟨ad,e,?_⟩
  have hlt:ad.block<W.heap.size:=by
   rcases Nat.lt_or_ge ad.block W.heap.size with hlt | hlt
   ·exact hlt
   ·simp only [World.cell?,Array.getElem?_eq_none hlt] at hc;cases hc
  have hn2:¬ S ad.block:=by
   intro hs
   obtain ⟨_,_,o,ho,hm⟩:=hS _ hs
   simp only [World.cell?,ho] at hc
   cases o with
   | cells cs T z =>
    simp only [ml,mlf,Bool.and_eq_true,List.all_eq_true] at hm
    have hmem:Value.int .u32 (d:Int)∈cs.toList:=by
     revert hc
     simp only
     split
     ·intro h1;cases h1
     ·intro h1;simpa using Array.mem_of_getElem? h1
    have:=hm.2 _ hmem
    cases this
   | _=>simp [ml,mlf] at hm
  have h2:=hO.block _ hlt hn2
  simp only [World.cell?,h2] at hc ⊢
  exact hc
 ·rintro v W D ⟨ad,e,_⟩
  rw [e];rfl
section
variable {K:Kit} {P:Program} {F:Fact}
theorem zcG {T R E:TypeId} {x o:Lf} {l:List Nat} (hT:P.underlying T=some (.slice E)) (hx:Says F x (pD l)) (ho:Gives F o (.int .i64 (l.length:Int))):Ent.sound K P F (.op (.len [T] R) [LF x] [] (LF o)):=by
 intro β W vs hs _ _
 match vs,hs with
 | [v],⟨h1,_⟩ =>
  obtain ⟨A,m,c,e,hs⟩:=(hx β v W).1 h1
  subst e
  refine ⟨.int .i64 (l.length:Int),?_,(ho β _ W).2 rfl⟩
  rw [hs.len]
  simp [Sig.sem,Builtin.len_,run_underlying hT,goInt]
 | [],h=>exact h.elim
 | _::_::_,h=>exact h.2.elim
theorem e_iaD {T E:TypeId} {x y o:Lf} {l:List Nat} {k:IntKind} {i:Int} {j d:Nat} (hT:P.underlying T=some (.slice E)) (hz:szOf P E=some 1) (hx:Says F x (pD l)) (hy:Gives F y (.int k i)) (hi:i=(j:Int)) (hd:l[j]?=some d) (ho:Says F o (pDP d)):Ent.sound K P F (.op (.ia T) [LF x,LF y] [] (LF o)):=by
 subst hi
 intro β W vs hs _ _
 match vs,hs with
 | [v,v2],⟨h1,h2,_⟩ =>
  have e2:v2=.int k (j:Int):=(hy β v2 W).1 h2
  subst e2
  obtain ⟨A,m,c,e,hs⟩:=(hx β v W).1 h1
  subst e
  have hj:j<m:=by rw [← hs.len];exact (List.getElem?_eq_some_iff.1 hd).1
  obtain ⟨ad,e3,_,hc⟩:=hs.at_ hj
  subst e3
  refine ⟨.pointer (some (ad.add j)),?_,(ho β _ W).2 ⟨ad.add j,rfl,?_⟩⟩
  ·simp only [Sig.sem,Instr.indexAt,Sem.run_bind,asIntOf,run_underlying hT,Result.andThen_ok,Sem.run_pure]
   rw [if_pos ⟨Int.natCast_nonneg j,Int.ofNat_lt.2 hj⟩,Sem.run_bind,za7 hz,Result.andThen_ok,Int.toNat_natCast,Nat.mul_one];rfl
  ·rw [hc]
   have:dg l j=d:=by unfold dg;rw [List.getD_eq_getElem?_getD,hd];rfl
   rw [this]
 | [],h=>exact h.elim
 | [_],h=>exact h.2.elim
 | _::_::_::_,h=>exact h.2.2.elim
theorem e_ldD {T:TypeId} {x o:Lf} {d:Nat} (hA:aggOf P T=some false) (hx:Says F x (pDP d)) (ho:Gives F o (.int .u32 (d:Int))):Ent.sound K P F (.op (.ld T) [LF x] [] (LF o)):=by
 intro β W vs hs _ _
 match vs,hs with
 | [v],⟨h1,_⟩ =>
  obtain ⟨ad,e,hc⟩:=(hx β v W).1 h1
  subst e
  refine ⟨_,?_,(ho β _ W).2 rfl⟩
  simp only [Sig.sem,Instr.loadAt,Instr.sureAddr,Sem.run_bind,Sem.run_pure,Result.andThen_ok,loadVar,zcM hA]
  simp [run_load,hc]
 | [],h=>exact h.elim
 | _::_::_,h=>exact h.2.elim
end
end Go.Proofs.YtjcegdldgjphiaaGreatDoor
namespace Go.Proofs.YtjcegdldgjphiaaGreatDoor
open Go.RowKit Go.Shelf
theorem wr64 {n:Int} (h:-9223372036854775808≤n∧n≤9223372036854775807):IntKind.i64.wrap n=n:=by rw [IntKind.wrap_i64];omega
theorem zoq {a b:List Nat} (hl:a.length=b.length) (k:Nat) (hk:k≤a.length) (h:a.drop k≠b.drop k):k<a.length∧(a.getD k 0=b.getD k 0→a.drop (k+1)≠b.drop (k+1)):=by
 have hlt:k<a.length:=by
  rcases Nat.lt_or_ge k a.length with h2 | h2
  ·exact h2
  ·exact absurd (by rw [List.drop_of_length_le h2,List.drop_of_length_le (by omega)]) h
 refine ⟨hlt,fun he h2=>h ?_⟩
 rw [List.drop_eq_getElem_cons hlt,List.drop_eq_getElem_cons (by omega:k<b.length),h2]
 rw [List.getD_eq_getElem?_getD,List.getD_eq_getElem?_getD,List.getElem?_eq_getElem hlt,List.getElem?_eq_getElem (by omega:k<b.length)] at he
 simp only [Option.getD_some] at he
 rw [he]
structure snE_T where
 i:Int
def zcm:List Atom:=[.sl 0 (.o (.g [.h 0,.h 1])),.sl 1 (.o (.g [.h 2,.h 3])),.sl 2 (.o (.c (.p 0 0))),.sl 3 (.o (.c (.p 1 0))),.sl 5 (yh 8),.sl 6 (.o (.c (.p 0 0))),.sl 7 (yh 0),.sl 8 (.o (.c (.p 1 0))),.sl 9 (yh 2),.sl 10 (yh 4),.sl 11 (yh 4),.sl 12 (.o (.c (.p 0 1))),.sl 13 (yh 1),.sl 14 (yh 5),.sl 15 (.o (.c (.p 1 1))),.sl 16 (yh 3),.sl 17 (yh 6),.sl 18 (yh 7),.sl 19 (yh 7),.bx 0 30 [.h 0,.h 1],.bx 1 30 [.h 2,.h 3]]
def snE_S:LoopS:=⟨4,[.sl 0 (.o (.g [.h 0,.h 1])),.sl 1 (.o (.g [.h 2,.h 3])),.sl 2 (.o (.c (.p 0 0))),.sl 3 (.o (.c (.p 1 0))),.sl 5 (.o (.c (.k (.int .i64 0)))),.sl 6 (.o (.c (.p 0 0))),.sl 7 (yh 0),.sl 8 (.o (.c (.p 1 0))),.sl 9 (yh 2),.sl 10 (yh 4),.sl 11 (yh 4),.sl 12 (.o (.c (.p 0 1))),.sl 13 (yh 1),.sl 14 (yh 5),.sl 15 (.o (.c (.p 1 1))),.sl 16 (yh 3),.sl 17 (yh 6),.sl 18 (yh 7),.sl 19 (yh 7),.bx 0 30 [.h 0,.h 1],.bx 1 30 [.h 2,.h 3]],(.x 0),[.sl 0 (.o (.g [.h 0,.h 1])),.sl 1 (.o (.g [.h 2,.h 3])),.sl 2 (.o (.c (.p 0 0))),.sl 3 (.o (.c (.p 1 0))),.sl 6 (.o (.c (.p 0 0))),.sl 7 (yh 0),.sl 8 (.o (.c (.p 1 0))),.sl 9 (yh 2),.sl 10 (yh 4),.sl 11 (yh 4),.sl 12 (.o (.c (.p 0 1))),.sl 13 (yh 1),.sl 14 (yh 5),.sl 15 (.o (.c (.p 1 1))),.sl 16 (yh 3),.sl 17 (yh 6),.sl 18 (yh 7),.sl 19 (yh 7),.bx 0 30 [.h 0,.h 1],.bx 1 30 [.h 2,.h 3]]⟩
abbrev zAu:List (Nat×Ent):=(10004,.fb 4 false)::(10007,.fb 7 false)::(1005003,.op (.len [28] 3) [yh 1] [] (yh 9))::(1005004,.bin .lss 3 (yh 8) (yh 9) (yh 10))::[]
abbrev zA4:List (Nat×Ent):=(10010,.fb 10 true)::(1005008,.op (.ia 28) [yh 1,yh 8] [] (yh 11))::(1005009,.op (.ld 123) [yh 11] [] (yh 5000))::(1005013,.op (.ia 28) [yh 3,yh 8] [] (yh 12))::(1005014,.op (.ld 123) [yh 12] [] (yh 5001))::(1005015,.bin .neq 123 (yh 5000) (yh 5001) (yh 13))::zAu
abbrev zA5:List (Nat×Ent):=(10013,.fb 13 false)::(1005017,.bin .add 3 (yh 8) (LF (.k (.int .i64 1))) (yh 14))::zA4
abbrev zA6:List (Nat×Ent):=(10010,.fb 10 false)::zAu
theorem zvY {w0:World} (x:Raw) (y:Raw) (v1:Bool) (v3:Int) (v4:Int) (v5:Bool) (h2:v1=false) (h6:v5=false) {F:Fact} (u0:F.c 0=pB x.1) (u1:F.c 1=pD x.2) (u2:F.c 2=pB y.1) (u3:F.c 3=pD y.2) (u4:F.c 4=pB v1) (u5:F.c 5=pI v3) (u6:F.c 6=pI v4) (u7:F.c 7=pB v5) (R:Frm) (hR:R.pm=⟨ntOf Tryz.prog 85,[],[]⟩) (hl:x.2.length=y.2.length) (hb:x.2.length≤9223372036854775807) (he:x.2=y.2):zj (KN w0) Tryz.prog F R snE_S (lp Tryz.prog 85 0):=by
 refine zG (T:=snE_T) (fun t=>FL [pB x.1,pD x.2,pB y.1,pD y.2,pB v1,pI v3,pI v4,pB v5,pI t.i] []) (fun ⟨i⟩=>∃n:Nat,i=(n:Int)∧n≤x.2.length) (fun ⟨i⟩=>(x.2.length - i).toNat) { i:=(0:Int) } zcm ⟨0,rfl,Nat.zero_le _⟩ (LZ ⟨z_g ⟨LU u0,LU u1,trivial⟩,z_g ⟨LU u2,LU u3,trivial⟩,z_c yy,z_c yy,z_c yy,z_c yy,z_c (LU u0),z_c yy,z_c (LU u2),z_c (LU u4),z_c (LU u4),z_c yy,z_c (LU u1),z_c (LU u5),z_c yy,z_c (LU u3),z_c (LU u6),z_c (LU u7),z_c (LU u7),z_b ⟨LU u0,LU u1,trivial⟩,z_b ⟨LU u2,LU u3,trivial⟩,trivial⟩) rfl fun t hJ=>?_
 obtain ⟨i⟩:=t
 dsimp only at hJ
 obtain ⟨n,hi,hn⟩:=hJ
 obtain ⟨v501,e501⟩:=LX ((x.2.length:Int))
 obtain ⟨v502,e502⟩:=LX (decide (i<v501))
 let A1:List Pred→List Pred:=fun t=>pB x.1::pD x.2::pB y.1::pD y.2::pB v1::pI v3::pI v4::pB v5::pI i::pI v501::pB v502::t
 have f1:LA (KN w0) A1:=fun t h=>⟨zc,zm,zc,zm,zc,zc,zc,zc,zc,zc,zc,h⟩
 let Q1:List (Nat×Pred)→List (Nat×Pred):=fun t=>t
 have fq1:LQ (KN w0) Q1:=fun t h=>h
 have T1:LI (KN w0) Tryz.prog A1 Q1 zAu:=fun t qq=>⟨e_fbv h2,e_fbv h6,zcG (E:=123) (by kernel_rfl) (zd rfl) (za (by rw [e501];rfl)),e_bin (za rfl) (za rfl) (za rfl) (r_cmp (LO e502)),trivial⟩
 cases h503:v502 with
 | true =>
  obtain ⟨n504,x505,s506,s507⟩:∃(n504:Nat) (x505:Nat),i=(n504:Int)∧x.2[n504]?=some x505:=by (have hlt:n<x.2.length:=(by subst e501;subst e502;have:=of_decide_eq_true h503;omega);exact ⟨n,x.2[n],hi,List.getElem?_eq_getElem hlt⟩)
  obtain ⟨n508,x509,s510,s511⟩:∃(n508:Nat) (x509:Nat),i=(n508:Int)∧y.2[n508]?=some x509:=by (have hlt:n<x.2.length:=(by subst e501;subst e502;have:=of_decide_eq_true h503;omega);have hl2:n<y.2.length:=(by omega);exact ⟨n,y.2[n],hi,List.getElem?_eq_getElem hl2⟩)
  obtain ⟨v512,e512⟩:=LX ((((x505:Nat):Int) != ((x509:Nat):Int)))
  let A2:=fun t=>A1 (pDP x505::pDP x509::pB v512::t)
  have f2:LA (KN w0) A2:=fun t h=>f1 _ ⟨zdJ,zdJ,zc,h⟩
  let Q2:=fun t=>Q1 ((5000,pV (.int .u32 ((x505:Nat):Int)))::(5001,pV (.int .u32 ((x509:Nat):Int)))::t)
  have fq2:LQ (KN w0) Q2:=fun t h=>fq1 _ ⟨⟨rfl,zu⟩,⟨rfl,zu⟩,h⟩
  have T2:LI (KN w0) Tryz.prog A2 Q2 zA4:=fun t qq=>⟨e_fbv h503,e_iaD (E:=123) (by kernel_rfl) (by kernel_rfl) (zd rfl) (za rfl) s506 s507 (zd rfl),e_ldD (by kernel_rfl) (zd rfl) (za rfl),e_iaD (E:=123) (by kernel_rfl) (by kernel_rfl) (zd rfl) (za rfl) s510 s511 (zd rfl),e_ldD (by kernel_rfl) (zd rfl) (za rfl),e_bin (za rfl) (za rfl) (za rfl) (r_cmp (LO e512)),T1 _ _⟩
  cases h513:v512 with
  | true =>
   exfalso
   have e:n504=n508:=by omega
   subst e
   rw [he,s511] at s507
   injection s507 with s507
   subst s507;subst e512;simp at h513
  | false =>
   obtain ⟨v514,e514⟩:=LX (IntKind.i64.wrap (i+(1:Int)))
   let A3:=fun t=>A2 (pI v514::t)
   have f3:LA (KN w0) A3:=fun t h=>f2 _ ⟨zc,h⟩
   have T3:LI (KN w0) Tryz.prog A3 Q2 zA5:=fun t qq=>⟨e_fbv h513,e_bin (za rfl) ze (za rfl) (r_ar (LO e514)),T2 _ _⟩
   refine .inr ⟨⟨v514⟩,?_,?_,goes (x:=.n) (y:=.n) (Fb:=FQ (A3 []) [] (Q2 [])) (stb:=zcm) (tl:=[.sl 0 (.o (.g [.h 0,.h 1])),.sl 1 (.o (.g [.h 2,.h 3])),.sl 2 (.o (.c (.p 0 0))),.sl 3 (.o (.c (.p 1 0))),.sl 5 (yh 14),.sl 6 (.o (.c (.p 0 0))),.sl 7 (yh 0),.sl 8 (.o (.c (.p 1 0))),.sl 9 (yh 2),.sl 10 (yh 4),.sl 11 (yh 4),.sl 12 (.o (.c (.p 0 1))),.sl 13 (yh 1),.sl 14 (yh 5),.sl 15 (.o (.c (.p 1 1))),.sl 16 (yh 3),.sl 17 (yh 6),.sl 18 (yh 7),.sl 19 (yh 7),.bx 0 30 [.h 0,.h 1],.bx 1 30 [.h 2,.h 3]]) (C:=zA5) (H:=.no) 5000 (LZ ⟨z_g ⟨yy,yy,trivial⟩,z_g ⟨yy,yy,trivial⟩,z_c yy,z_c yy,z_c yy,z_c yy,z_c yy,z_c yy,z_c yy,z_c yy,z_c yy,z_c yy,z_c yy,z_c yy,z_c yy,z_c yy,z_c yy,z_c yy,z_c yy,z_b ⟨yy,yy,trivial⟩,z_b ⟨yy,yy,trivial⟩,trivial⟩) (zws (f3 [] trivial) trivial (fq2 [] trivial)) (T3 [] []) mixed hR trivial (fun _ _ _ hs=>by cases hs) (by kernel_rfl) rfl (LZ ⟨z_g ⟨yy,yy,trivial⟩,z_g ⟨yy,yy,trivial⟩,z_c yy,z_c yy,z_c (fun β v W h=>(zd rfl β v W).2 h),z_c yy,z_c yy,z_c yy,z_c yy,z_c yy,z_c yy,z_c yy,z_c yy,z_c yy,z_c yy,z_c yy,z_c yy,z_c yy,z_c yy,z_b ⟨yy,yy,trivial⟩,z_b ⟨yy,yy,trivial⟩,trivial⟩)⟩
   all_goals (subst e501;subst e502;have hlt:=of_decide_eq_true h503;subst hi;have hw:IntKind.i64.wrap ((n:Int)+1)=((n+1:Nat):Int):=wr64 (by omega);rw [hw] at e514;subst e514)
   ·show ((x.2.length:Int) - ((n+1:Nat):Int)).toNat<((x.2.length:Int) - (n:Int)).toNat
    omega
   ·exact ⟨n+1,rfl,by omega⟩
 | false =>
  have T4:LI (KN w0) Tryz.prog A1 Q1 zA6:=fun t qq=>⟨e_fbv h503,T1 _ _⟩
  exact .inl (goes (x:=(.x 0)) (y:=(.x 0)) (Fb:=FQ (A1 []) [] (Q1 [])) (stb:=zcm) (tl:=[.sl 0 (.o (.g [.h 0,.h 1])),.sl 1 (.o (.g [.h 2,.h 3])),.sl 2 (.o (.c (.p 0 0))),.sl 3 (.o (.c (.p 1 0))),.sl 6 (.o (.c (.p 0 0))),.sl 7 (yh 0),.sl 8 (.o (.c (.p 1 0))),.sl 9 (yh 2),.sl 10 (yh 4),.sl 11 (yh 4),.sl 12 (.o (.c (.p 0 1))),.sl 13 (yh 1),.sl 14 (yh 5),.sl 15 (.o (.c (.p 1 1))),.sl 16 (yh 3),.sl 17 (yh 6),.sl 18 (yh 7),.sl 19 (yh 7),.bx 0 30 [.h 0,.h 1],.bx 1 30 [.h 2,.h 3]]) (C:=zA6) (H:=.no) 5000 (LZ ⟨z_g ⟨yy,yy,trivial⟩,z_g ⟨yy,yy,trivial⟩,z_c yy,z_c yy,z_c yy,z_c yy,z_c yy,z_c yy,z_c yy,z_c yy,z_c yy,z_c yy,z_c yy,z_c yy,z_c yy,z_c yy,z_c yy,z_c yy,z_c yy,z_b ⟨yy,yy,trivial⟩,z_b ⟨yy,yy,trivial⟩,trivial⟩) (zws (f1 [] trivial) trivial (fq1 [] trivial)) (T4 [] []) mixed hR trivial (fun _ _ _ hs=>by cases hs) (by kernel_rfl) rfl (LZ ⟨z_g ⟨LV u0,LV u1,trivial⟩,z_g ⟨LV u2,LV u3,trivial⟩,z_c yy,z_c yy,z_c yy,z_c (LV u0),z_c yy,z_c (LV u2),z_c (LV u4),z_c (LV u4),z_c yy,z_c (LV u1),z_c (LV u5),z_c yy,z_c (LV u3),z_c (LV u6),z_c (LV u7),z_c (LV u7),z_b ⟨LV u0,LV u1,trivial⟩,z_b ⟨LV u2,LV u3,trivial⟩,trivial⟩))
structure snR_T where
 i:Int
def zcn:List Atom:=[.sl 0 (.o (.g [.h 0,.h 1])),.sl 1 (.o (.g [.h 2,.h 3])),.sl 2 (.o (.c (.p 0 0))),.sl 3 (.o (.c (.p 1 0))),.sl 5 (yh 8),.sl 6 (.o (.c (.p 0 0))),.sl 7 (yh 0),.sl 8 (.o (.c (.p 1 0))),.sl 9 (yh 2),.sl 10 (yh 4),.sl 11 (yh 4),.sl 12 (.o (.c (.p 0 1))),.sl 13 (yh 1),.sl 14 (yh 5),.sl 15 (.o (.c (.p 1 1))),.sl 16 (yh 3),.sl 17 (yh 6),.sl 18 (yh 7),.sl 19 (yh 7),.bx 0 30 [.h 0,.h 1],.bx 1 30 [.h 2,.h 3]]
def snR_S:LoopS:=⟨4,[.sl 0 (.o (.g [.h 0,.h 1])),.sl 1 (.o (.g [.h 2,.h 3])),.sl 2 (.o (.c (.p 0 0))),.sl 3 (.o (.c (.p 1 0))),.sl 5 (.o (.c (.k (.int .i64 0)))),.sl 6 (.o (.c (.p 0 0))),.sl 7 (yh 0),.sl 8 (.o (.c (.p 1 0))),.sl 9 (yh 2),.sl 10 (yh 4),.sl 11 (yh 4),.sl 12 (.o (.c (.p 0 1))),.sl 13 (yh 1),.sl 14 (yh 5),.sl 15 (.o (.c (.p 1 1))),.sl 16 (yh 3),.sl 17 (yh 6),.sl 18 (yh 7),.sl 19 (yh 7),.bx 0 30 [.h 0,.h 1],.bx 1 30 [.h 2,.h 3]],.r,[.sl 0 (.o (.g [.h 0,.h 1])),.sl 1 (.o (.g [.h 2,.h 3])),.sl 2 (.o (.c (.p 0 0))),.sl 3 (.o (.c (.p 1 0))),.sl 4 (yh 8),.sl 6 (.o (.c (.p 0 0))),.sl 7 (yh 0),.sl 8 (.o (.c (.p 1 0))),.sl 9 (yh 2),.sl 10 (yh 4),.sl 11 (yh 4),.sl 12 (.o (.c (.p 0 1))),.sl 13 (yh 1),.sl 14 (yh 5),.sl 15 (.o (.c (.p 1 1))),.sl 16 (yh 3),.sl 17 (yh 6),.sl 18 (yh 7),.sl 19 (yh 7),.bx 0 30 [.h 0,.h 1],.bx 1 30 [.h 2,.h 3]]⟩
abbrev zA7:List (Nat×Ent):=(10004,.fb 4 false)::(10007,.fb 7 false)::(1005003,.op (.len [28] 3) [yh 1] [] (yh 9))::(1005004,.bin .lss 3 (yh 8) (yh 9) (yh 10))::[]
abbrev zAv:List (Nat×Ent):=(10010,.fb 10 true)::(1005008,.op (.ia 28) [yh 1,yh 8] [] (yh 11))::(1005009,.op (.ld 123) [yh 11] [] (yh 5000))::(1005013,.op (.ia 28) [yh 3,yh 8] [] (yh 12))::(1005014,.op (.ld 123) [yh 12] [] (yh 5001))::(1005015,.bin .neq 123 (yh 5000) (yh 5001) (yh 13))::zA7
abbrev zA8:List (Nat×Ent):=(10013,.fb 13 true)::zAv
abbrev zA9:List (Nat×Ent):=(10013,.fb 13 false)::(1005017,.bin .add 3 (yh 8) (LF (.k (.int .i64 1))) (yh 14))::zAv
theorem zv1 {w0:World} (x:Raw) (y:Raw) (v1:Bool) (v3:Int) (v4:Int) (v5:Bool) (h2:v1=false) (h6:v5=false) (o4:Bool) {F:Fact} (u0:F.c 0=pB x.1) (u1:F.c 1=pD x.2) (u2:F.c 2=pB y.1) (u3:F.c 3=pD y.2) (u4:F.c 4=pB v1) (u5:F.c 5=pI v3) (u6:F.c 6=pI v4) (u7:F.c 7=pB v5) (u8:F.c 8=pB o4) (R:Frm) (hR:R.pm=⟨ntOf Tryz.prog 85,[],[]⟩) (hl:x.2.length=y.2.length) (hb:x.2.length≤9223372036854775807) (he:x.2≠y.2) (ho:o4=false):zj (KN w0) Tryz.prog F R snR_S (lp Tryz.prog 85 0):=by
 refine zG (T:=snR_T) (fun t=>FL [pB x.1,pD x.2,pB y.1,pD y.2,pB v1,pI v3,pI v4,pB v5,pI t.i] []) (fun ⟨i⟩=>∃n:Nat,i=(n:Int)∧n≤x.2.length∧x.2.drop n≠y.2.drop n) (fun ⟨i⟩=>(x.2.length - i).toNat) { i:=(0:Int) } zcn ⟨0,rfl,Nat.zero_le _,by simpa using he⟩ (LZ ⟨z_g ⟨LU u0,LU u1,trivial⟩,z_g ⟨LU u2,LU u3,trivial⟩,z_c yy,z_c yy,z_c yy,z_c yy,z_c (LU u0),z_c yy,z_c (LU u2),z_c (LU u4),z_c (LU u4),z_c yy,z_c (LU u1),z_c (LU u5),z_c yy,z_c (LU u3),z_c (LU u6),z_c (LU u7),z_c (LU u7),z_b ⟨LU u0,LU u1,trivial⟩,z_b ⟨LU u2,LU u3,trivial⟩,trivial⟩) rfl fun t hJ=>?_
 obtain ⟨i⟩:=t
 dsimp only at hJ
 obtain ⟨n,hi,hn,hd⟩:=hJ
 obtain ⟨v501,e501⟩:=LX ((x.2.length:Int))
 obtain ⟨v502,e502⟩:=LX (decide (i<v501))
 let A1:List Pred→List Pred:=fun t=>pB x.1::pD x.2::pB y.1::pD y.2::pB v1::pI v3::pI v4::pB v5::pI i::pI v501::pB v502::t
 have f1:LA (KN w0) A1:=fun t h=>⟨zc,zm,zc,zm,zc,zc,zc,zc,zc,zc,zc,h⟩
 let Q1:List (Nat×Pred)→List (Nat×Pred):=fun t=>t
 have fq1:LQ (KN w0) Q1:=fun t h=>h
 have T1:LI (KN w0) Tryz.prog A1 Q1 zA7:=fun t qq=>⟨e_fbv h2,e_fbv h6,zcG (E:=123) (by kernel_rfl) (zd rfl) (za (by rw [e501];rfl)),e_bin (za rfl) (za rfl) (za rfl) (r_cmp (LO e502)),trivial⟩
 cases h503:v502 with
 | true =>
  obtain ⟨n504,x505,s506,s507⟩:∃(n504:Nat) (x505:Nat),i=(n504:Int)∧x.2[n504]?=some x505:=by (have hlt:n<x.2.length:=(by subst e501;subst e502;have:=of_decide_eq_true h503;omega);exact ⟨n,x.2[n],hi,List.getElem?_eq_getElem hlt⟩)
  obtain ⟨n508,x509,s510,s511⟩:∃(n508:Nat) (x509:Nat),i=(n508:Int)∧y.2[n508]?=some x509:=by (have hlt:n<x.2.length:=(by subst e501;subst e502;have:=of_decide_eq_true h503;omega);have hl2:n<y.2.length:=(by omega);exact ⟨n,y.2[n],hi,List.getElem?_eq_getElem hl2⟩)
  obtain ⟨v512,e512⟩:=LX ((((x505:Nat):Int) != ((x509:Nat):Int)))
  let A2:=fun t=>A1 (pDP x505::pDP x509::pB v512::t)
  have f2:LA (KN w0) A2:=fun t h=>f1 _ ⟨zdJ,zdJ,zc,h⟩
  let Q2:=fun t=>Q1 ((5000,pV (.int .u32 ((x505:Nat):Int)))::(5001,pV (.int .u32 ((x509:Nat):Int)))::t)
  have fq2:LQ (KN w0) Q2:=fun t h=>fq1 _ ⟨⟨rfl,zu⟩,⟨rfl,zu⟩,h⟩
  have T2:LI (KN w0) Tryz.prog A2 Q2 zAv:=fun t qq=>⟨e_fbv h503,e_iaD (E:=123) (by kernel_rfl) (by kernel_rfl) (zd rfl) (za rfl) s506 s507 (zd rfl),e_ldD (by kernel_rfl) (zd rfl) (za rfl),e_iaD (E:=123) (by kernel_rfl) (by kernel_rfl) (zd rfl) (za rfl) s510 s511 (zd rfl),e_ldD (by kernel_rfl) (zd rfl) (za rfl),e_bin (za rfl) (za rfl) (za rfl) (r_cmp (LO e512)),T1 _ _⟩
  cases h513:v512 with
  | true =>
   have T3:LI (KN w0) Tryz.prog A2 Q2 zA8:=fun t qq=>⟨e_fbv h513,T2 _ _⟩
   have hq:((false)=o4)∧True:=by
    refine ⟨?_,trivial⟩
    exact ho.symm
   obtain ⟨q0,-⟩:=hq
   exact .inl (goes (x:=.r) (y:=.r) (Fb:=FQ (A2 []) [] (Q2 [])) (stb:=zcn) (tl:=[.sl 0 (.o (.g [.h 0,.h 1])),.sl 1 (.o (.g [.h 2,.h 3])),.sl 2 (.o (.c (.p 0 0))),.sl 3 (.o (.c (.p 1 0))),.sl 4 (.o (.c (.k (.bool false)))),.sl 6 (.o (.c (.p 0 0))),.sl 7 (yh 0),.sl 8 (.o (.c (.p 1 0))),.sl 9 (yh 2),.sl 10 (yh 4),.sl 11 (yh 4),.sl 12 (.o (.c (.p 0 1))),.sl 13 (yh 1),.sl 14 (yh 5),.sl 15 (.o (.c (.p 1 1))),.sl 16 (yh 3),.sl 17 (yh 6),.sl 18 (yh 7),.sl 19 (yh 7),.bx 0 30 [.h 0,.h 1],.bx 1 30 [.h 2,.h 3]]) (C:=zA8) (H:=.no) 5000 (LZ ⟨z_g ⟨yy,yy,trivial⟩,z_g ⟨yy,yy,trivial⟩,z_c yy,z_c yy,z_c yy,z_c yy,z_c yy,z_c yy,z_c yy,z_c yy,z_c yy,z_c yy,z_c yy,z_c yy,z_c yy,z_c yy,z_c yy,z_c yy,z_c yy,z_b ⟨yy,yy,trivial⟩,z_b ⟨yy,yy,trivial⟩,trivial⟩) (zws (f2 [] trivial) trivial (fq2 [] trivial)) (T3 [] []) mixed hR trivial (fun _ _ _ hs=>by cases hs) (by kernel_rfl) rfl (LZ ⟨z_g ⟨LV u0,LV u1,trivial⟩,z_g ⟨LV u2,LV u3,trivial⟩,z_c yy,z_c yy,z_c (fun β v W h=>(zd u8 β v W).2 (by rw [← q0];exact h)),z_c yy,z_c (LV u0),z_c yy,z_c (LV u2),z_c (LV u4),z_c (LV u4),z_c yy,z_c (LV u1),z_c (LV u5),z_c yy,z_c (LV u3),z_c (LV u6),z_c (LV u7),z_c (LV u7),z_b ⟨LV u0,LV u1,trivial⟩,z_b ⟨LV u2,LV u3,trivial⟩,trivial⟩))
  | false =>
   obtain ⟨v514,e514⟩:=LX (IntKind.i64.wrap (i+(1:Int)))
   let A4:=fun t=>A2 (pI v514::t)
   have f4:LA (KN w0) A4:=fun t h=>f2 _ ⟨zc,h⟩
   have T4:LI (KN w0) Tryz.prog A4 Q2 zA9:=fun t qq=>⟨e_fbv h513,e_bin (za rfl) ze (za rfl) (r_ar (LO e514)),T2 _ _⟩
   refine .inr ⟨⟨v514⟩,?_,?_,goes (x:=.n) (y:=.n) (Fb:=FQ (A4 []) [] (Q2 [])) (stb:=zcn) (tl:=[.sl 0 (.o (.g [.h 0,.h 1])),.sl 1 (.o (.g [.h 2,.h 3])),.sl 2 (.o (.c (.p 0 0))),.sl 3 (.o (.c (.p 1 0))),.sl 5 (yh 14),.sl 6 (.o (.c (.p 0 0))),.sl 7 (yh 0),.sl 8 (.o (.c (.p 1 0))),.sl 9 (yh 2),.sl 10 (yh 4),.sl 11 (yh 4),.sl 12 (.o (.c (.p 0 1))),.sl 13 (yh 1),.sl 14 (yh 5),.sl 15 (.o (.c (.p 1 1))),.sl 16 (yh 3),.sl 17 (yh 6),.sl 18 (yh 7),.sl 19 (yh 7),.bx 0 30 [.h 0,.h 1],.bx 1 30 [.h 2,.h 3]]) (C:=zA9) (H:=.no) 5000 (LZ ⟨z_g ⟨yy,yy,trivial⟩,z_g ⟨yy,yy,trivial⟩,z_c yy,z_c yy,z_c yy,z_c yy,z_c yy,z_c yy,z_c yy,z_c yy,z_c yy,z_c yy,z_c yy,z_c yy,z_c yy,z_c yy,z_c yy,z_c yy,z_c yy,z_b ⟨yy,yy,trivial⟩,z_b ⟨yy,yy,trivial⟩,trivial⟩) (zws (f4 [] trivial) trivial (fq2 [] trivial)) (T4 [] []) mixed hR trivial (fun _ _ _ hs=>by cases hs) (by kernel_rfl) rfl (LZ ⟨z_g ⟨yy,yy,trivial⟩,z_g ⟨yy,yy,trivial⟩,z_c yy,z_c yy,z_c (fun β v W h=>(zd rfl β v W).2 h),z_c yy,z_c yy,z_c yy,z_c yy,z_c yy,z_c yy,z_c yy,z_c yy,z_c yy,z_c yy,z_c yy,z_c yy,z_c yy,z_c yy,z_b ⟨yy,yy,trivial⟩,z_b ⟨yy,yy,trivial⟩,trivial⟩)⟩
   all_goals (subst e501;subst e502;have hlt:=of_decide_eq_true h503;subst hi;have hw:IntKind.i64.wrap ((n:Int)+1)=((n+1:Nat):Int):=wr64 (by omega);rw [hw] at e514;subst e514)
   ·show ((x.2.length:Int) - ((n+1:Nat):Int)).toNat<((x.2.length:Int) - (n:Int)).toNat
    omega
   ·refine ⟨n+1,rfl,by omega,(zoq hl n hn hd).2 ?_⟩
    have e1:n504=n:=by omega
    have e2:n508=n:=by omega
    subst e1;subst e2
    rw [List.getD_eq_getElem?_getD,List.getD_eq_getElem?_getD,s507,s511]
    subst e512;simp at h513
    simp only [Option.getD_some];omega
 | false =>
  exfalso
  subst e501;subst e502
  have:=of_decide_eq_false h503
  have:=(zoq hl n hn hd).1
  omega
theorem zq4 {K:Kit} {P:Program} {f:FuncId} {res:PSh} {x:Raw} {r:List PSh} (h:x.2.length≤9223372036854775807→Fun K P f (gN x::r) res):Fun K P f (gN x::r) res:=by
 intro W D vs hs hf
 match vs,hs with
 | v::us,hs =>
  obtain ⟨A,n,c,_,h2⟩:=gN_ok hs.1
  exact h (by rw [h2.len];exact Nat.le_trans h2.2.1 h2.2.2) W D (v::us) hs hf
 | [],h=>exact h.elim
abbrev zww:List (Nat×Ent):=(1000007,.bin .neq 4 (yh 0) (yh 2) (yh 4))::[]
abbrev zwZ:List (Nat×Ent):=(10004,.fb 4 true)::zww
abbrev zwx:List (Nat×Ent):=(10004,.fb 4 false)::(1000011,.op (.len [28] 3) [yh 1] [] (yh 5))::(1000014,.op (.len [28] 3) [yh 3] [] (yh 6))::(1000015,.bin .neq 3 (yh 5) (yh 6) (yh 7))::zww
abbrev zw0:List (Nat×Ent):=(10007,.fb 7 true)::zwx
abbrev zwy:List (Nat×Ent):=(10007,.fb 7 false)::zwx
abbrev zw1:List (Nat×Ent):=zwy
theorem zb9 {w0:World} (x y:Raw) (o:Bool) (ho:decide (x=y)=o):Fun (KN w0) Tryz.prog 85 [.o (.g [pB x.1,pD x.2]),.o (.g [pB y.1,pD y.2])] (.o (.c (pB o))):=by
 refine zq4 fun hb=>?_
 obtain ⟨v1,e1⟩:=LX (!(x.1 == y.1))
 let A1:List Pred→List Pred:=fun t=>pB x.1::pD x.2::pB y.1::pD y.2::pB v1::t
 have f1:LA (KN w0) A1:=fun t h=>⟨zc,zm,zc,zm,zc,h⟩
 have T1:LT (KN w0) Tryz.prog A1 zww:=fun t=>⟨e_bin (za rfl) (za rfl) (za rfl) (fun W X Y=>by rw [← e1];exact r_bne (by kernel_rfl) W X Y),trivial⟩
 cases h2:v1 with
 | true =>
  have T2:LT (KN w0) Tryz.prog A1 zwZ:=fun t=>⟨e_fbv h2,T1 _⟩
  refine Fun.fin (r:=.o (.c (pV (.bool false)))) (zq (zr (F:=FL (A1 []) []) (C:=zwZ) (k:=⟨85,[.o (.g [.h 0,.h 1]),.o (.g [.h 2,.h 3])],[],.o (.c (.k (.bool false))),[]⟩) 0 (zg (f1 [] trivial)) (T2 []) mixed (by kernel_rfl))) (fun v W D h=>?_)
  have r0:o=false:=by
   rw [← ho,decide_eq_false_iff_not]
   intro e
   subst e
   simp_all
  rw [r0];exact h
 | false =>
  obtain ⟨v3,e3⟩:=LX ((x.2.length:Int))
  obtain ⟨v4,e4⟩:=LX ((y.2.length:Int))
  obtain ⟨v5,e5⟩:=LX ((v3 != v4))
  let A3:=fun t=>A1 (pI v3::pI v4::pB v5::t)
  have f3:LA (KN w0) A3:=fun t h=>f1 _ ⟨zc,zc,zc,h⟩
  have T3:LT (KN w0) Tryz.prog A3 zwx:=fun t=>⟨e_fbv h2,zcG (E:=123) (by kernel_rfl) (zd rfl) (za (by rw [e3];rfl)),zcG (E:=123) (by kernel_rfl) (zd rfl) (za (by rw [e4];rfl)),e_bin (za rfl) (za rfl) (za rfl) (r_cmp (LO e5)),T1 _⟩
  cases h6:v5 with
  | true =>
   have T4:LT (KN w0) Tryz.prog A3 zw0:=fun t=>⟨e_fbv h6,T3 _⟩
   refine Fun.fin (r:=.o (.c (pV (.bool false)))) (zq (zr (F:=FL (A3 []) []) (C:=zw0) (k:=⟨85,[.o (.g [.h 0,.h 1]),.o (.g [.h 2,.h 3])],[],.o (.c (.k (.bool false))),[]⟩) 0 (zg (f3 [] trivial)) (T4 []) mixed (by kernel_rfl))) (fun v W D h=>?_)
   have r0:o=false:=by
    rw [← ho,decide_eq_false_iff_not]
    intro e
    subst e
    simp_all
   rw [r0];exact h
  | false =>
   have T5:LT (KN w0) Tryz.prog A3 zwy:=fun t=>⟨e_fbv h6,T3 _⟩
   by_cases c4:x.2=y.2
   ·
    have L_snE:∀R:Frm,R.pm=⟨ntOf Tryz.prog 85,[],[]⟩→zj (KN w0) Tryz.prog (FL (A3 []) []) R snE_S (lp Tryz.prog 85 0):=fun R hR=>zvY x y v1 v3 v4 v5 h2 h6  rfl rfl rfl rfl rfl rfl rfl rfl R hR (by have:=e5.trans h6;simp at this;omega) hb c4
    refine Fun.fin (r:=.o (.c (pV (.bool true)))) (zq (zN (F:=FL (A3 []) []) (C:=zwy) (k:=⟨85,[.o (.g [.h 0,.h 1]),.o (.g [.h 2,.h 3])],[],.o (.c (.k (.bool true))),[]⟩) ⟨[snE_S],[],0⟩ [] 0 (zg (f3 [] trivial)) (T5 []) mixed trivial (fun R hR p hp s hs=>by
     have hl:zD (zR Tryz.prog 85)=[(4,lp Tryz.prog 85 0)]:=by kernel_rfl
     rw [hl] at hp
     simp only [List.mem_cons,List.not_mem_nil,or_false] at hp
     rcases hp with rfl
     ·have e:s=snE_S:=(Option.some.inj hs).symm
      subst e;exact L_snE R hR) (by kernel_rfl))) (fun v W D h=>?_)
    have r0:o=true:=by
     rw [← ho,decide_eq_true_iff]
     exact Prod.ext (by simp_all) c4
    rw [r0];exact h
   ·
    obtain ⟨o4,hO_snR⟩:∃(o4:Bool),o4=false:=⟨_,rfl⟩
    let A6:=fun t=>A3 (pB o4::t)
    have f6:LA (KN w0) A6:=fun t h=>f3 _ ⟨zc,h⟩
    have T6:LT (KN w0) Tryz.prog A6 zw1:=fun t=>T5 _
    have L_snR:∀R:Frm,R.pm=⟨ntOf Tryz.prog 85,[],[]⟩→zj (KN w0) Tryz.prog (FL (A6 []) []) R snR_S (lp Tryz.prog 85 0):=fun R hR=>zv1 x y v1 v3 v4 v5 h2 h6 o4 rfl rfl rfl rfl rfl rfl rfl rfl rfl R hR (by have:=e5.trans h6;simp at this;omega) hb c4 hO_snR
    refine Fun.fin (r:=.o (.c (pB o4))) (zq (zN (F:=FL (A6 []) []) (C:=zw1) (k:=⟨85,[.o (.g [.h 0,.h 1]),.o (.g [.h 2,.h 3])],[],yh 8,[]⟩) ⟨[snR_S],[],0⟩ [] 0 (zg (f6 [] trivial)) (T6 []) mixed trivial (fun R hR p hp s hs=>by
     have hl:zD (zR Tryz.prog 85)=[(4,lp Tryz.prog 85 0)]:=by kernel_rfl
     rw [hl] at hp
     simp only [List.mem_cons,List.not_mem_nil,or_false] at hp
     rcases hp with rfl
     ·have e:s=snR_S:=(Option.some.inj hs).symm
      subst e;exact L_snR R hR) (by kernel_rfl))) (fun v W D h=>?_)
    have r0:o=o4:=by
     rw [← ho,hO_snR,decide_eq_false_iff_not]
     intro e
     exact c4 (by rw [e])
    rw [r0];exact h
end Go.Proofs.YtjcegdldgjphiaaGreatDoor
namespace Go.Proofs.YtjcegdldgjphiaaGreatDoor
open Go.RowKit Go.Shelf
abbrev InR (n:Int):Prop:=-9223372036854775808≤n∧n<9223372036854775808
theorem zbQ {w0:World} (a:Int×Int) (r:RR) (hr:rq (fracR a.1 a.2)=r) (h:InR a.1) (h2:InR a.2):Fun (KN w0) Tryz.prog 93 [.o (.g [pI a.1,pI a.2])] (gR r):=zmx a.1 a.2 r hr h.1 h.2 h2.1 h2.2
theorem zoE {w0:World} (x:RR) (y:RR) (v1:Bool) (v3:Bool) (e1:(decide (x.1=y.1))=v1) (e3:(decide (x.2=y.2))=v3) (h2:v1=true):Fun (KN w0) Tryz.prog 59 [.o (.g [pB x.1.1,pD x.1.2,pB x.2.1,pD x.2.2]),.o (.g [pB y.1.1,pD y.1.2,pB y.2.1,pD y.2.2])] (.o (.c (pB v3))):=
 zq (zr (F:=FL [pB x.1.1,pD x.1.2,pB x.2.1,pD x.2.2,pB y.1.1,pD y.1.2,pB y.2.1,pD y.2.2,pB v1,pB v3] []) (C:=[(1000007,.call ⟨85,[.o (.g [.h 0,.h 1]),.o (.g [.h 4,.h 5])],[],yh 8,[]⟩),
  (10008,.fb 8 true),
  (1000013,.call ⟨85,[.o (.g [.h 2,.h 3]),.o (.g [.h 6,.h 7])],[],yh 9,[]⟩)]) (k:=⟨59,[.o (.g [.h 0,.h 1,.h 2,.h 3]),.o (.g [.h 4,.h 5,.h 6,.h 7])],[],yh 9,[]⟩) 0 (zg ⟨zc,zm,zc,zm,zc,zm,zc,zm,zc,zc,trivial⟩) ⟨zh (zb9 x.1 y.1 v1 e1),
  e_fbv h2,
  zh (zb9 x.2 y.2 v3 e3),
  trivial⟩ mixed (by kernel_rfl))
theorem zoF {w0:World} (x:RR) (y:RR) (v1:Bool) (e1:(decide (x.1=y.1))=v1) (h2:v1=false):Fun (KN w0) Tryz.prog 59 [.o (.g [pB x.1.1,pD x.1.2,pB x.2.1,pD x.2.2]),.o (.g [pB y.1.1,pD y.1.2,pB y.2.1,pD y.2.2])] (.o (.c (pV (.bool false)))):=
 zq (zr (F:=FL [pB x.1.1,pD x.1.2,pB x.2.1,pD x.2.2,pB y.1.1,pD y.1.2,pB y.2.1,pD y.2.2,pB v1] []) (C:=[(1000007,.call ⟨85,[.o (.g [.h 0,.h 1]),.o (.g [.h 4,.h 5])],[],yh 8,[]⟩),
  (10008,.fb 8 false)]) (k:=⟨59,[.o (.g [.h 0,.h 1,.h 2,.h 3]),.o (.g [.h 4,.h 5,.h 6,.h 7])],[],.o (.c (.k (.bool false))),[]⟩) 0 (zg ⟨zc,zm,zc,zm,zc,zm,zc,zm,zc,trivial⟩) ⟨zh (zb9 x.1 y.1 v1 e1),
  e_fbv h2,
  trivial⟩ mixed (by kernel_rfl))
theorem zsO {w0:World} (x y:RR) (o:Bool) (ho:decide (x=y)=o):Fun (KN w0) Tryz.prog 59 [.o (.g [pB x.1.1,pD x.1.2,pB x.2.1,pD x.2.2]),.o (.g [pB y.1.1,pD y.1.2,pB y.2.1,pD y.2.2])] (.o (.c (pB o))):=by
 obtain ⟨v1,e1⟩:=LX (decide (x.1=y.1))
 cases h2:v1 with
 | true =>
  obtain ⟨v3,e3⟩:=LX (decide (x.2=y.2))
  refine Fun.imp (zoE x y v1 v3 e1 e3 h2) (fun _ _ _ h=>h) (fun v W D h=>?_)
  have r0:o=v3:=by
   rw [← ho]
   subst_vars
   cases x;cases y
   simp_all
  rw [r0];exact h
 | false =>
  refine Fun.imp (zoF x y v1 e1 h2) (fun _ _ _ h=>h) (fun v W D h=>?_)
  have r0:o=false:=by
   rw [← ho]
   subst_vars
   cases x;cases y
   simp_all
  rw [r0];exact h
def modI (n m:Int):Int:=if m<1 then 0 else (IntKind.i64.wrap (n.tmod m+m)).tmod m
theorem zq0 {w0:World} (n:Int) (m:Int) (v1:Bool) (e1:(decide (m<(1:Int)))=v1) (h2:v1=true):Fun (KN w0) Tryz.prog 92 [.o (.c (pI n)),.o (.c (pI m))] (.o (.c (pV (.int .i64 0)))):=
 zq (zr (F:=FL [pI n,pI m,pB v1] []) (C:=[(1000002,.bin .lss 3 (yh 1) (LF (.k (.int .i64 1))) (yh 2)),
  (10002,.fb 2 true)]) (k:=⟨92,[yh 0,yh 1],[],.o (.c (.k (.int .i64 0))),[]⟩) 0 (zg ⟨zc,zc,zc,trivial⟩) ⟨e_bin (za rfl) ze (za rfl) (r_cmp (LO e1)),
  e_fbv h2,
  trivial⟩ mixed (by kernel_rfl))
theorem zq1 {w0:World} (n:Int) (m:Int) (v1:Bool) (v3:Int) (v5:Int) (v6:Int) (e1:(decide (m<(1:Int)))=v1) (e3:((n:Int).tmod m)=v3) (e5:(IntKind.i64.wrap (v3+m))=v5) (e6:((v5:Int).tmod m)=v6) (h2:v1=false) (s4:m≠0) (s7:m≠0):Fun (KN w0) Tryz.prog 92 [.o (.c (pI n)),.o (.c (pI m))] (.o (.c (pI v6))):=
 zq (zr (F:=FL [pI n,pI m,pB v1,pI v3,pI v5,pI v6] []) (C:=[(1000002,.bin .lss 3 (yh 1) (LF (.k (.int .i64 1))) (yh 2)),
  (10002,.fb 2 false),
  (1000005,.bin .rem 3 (yh 0) (yh 1) (yh 3)),
  (1000007,.bin .add 3 (yh 3) (yh 1) (yh 4)),
  (1000009,.bin .rem 3 (yh 4) (yh 1) (yh 5))]) (k:=⟨92,[yh 0,yh 1],[],yh 5,[]⟩) 0 (zg ⟨zc,zc,zc,zc,zc,zc,trivial⟩) ⟨e_bin (za rfl) ze (za rfl) (r_cmp (LO e1)),
  e_fbv h2,
  e_bin (za rfl) (za rfl) (za rfl) (r_ar ((qB s4).trans (LO e3))),
  e_bin (za rfl) (za rfl) (za rfl) (r_ar (LO e5)),
  e_bin (za rfl) (za rfl) (za rfl) (r_ar ((qB s7).trans (LO e6))),
  trivial⟩ mixed (by kernel_rfl))
theorem f_mod {w0:World} (n m:Int) (o:Int) (ho:modI n m=o):Fun (KN w0) Tryz.prog 92 [.o (.c (pI n)),.o (.c (pI m))] (.o (.c (pI o))):=by
 obtain ⟨v1,e1⟩:=LX (decide (m<(1:Int)))
 cases h2:v1 with
 | true =>
  refine Fun.imp (zq0 n m v1 e1 h2) (fun _ _ _ h=>h) (fun v W D h=>?_)
  have r0:o=(0:Int):=by
   unfold modI at ho
   subst_vars
   rw [if_pos (by simp_all)]
  rw [r0];exact h
 | false =>
  obtain ⟨v3,e3⟩:=LX ((n:Int).tmod m)
  have s4:m≠0:=by first | (simp_all;done) | (simp_all;omega)
  obtain ⟨v5,e5⟩:=LX (IntKind.i64.wrap (v3+m))
  obtain ⟨v6,e6⟩:=LX ((v5:Int).tmod m)
  have s7:m≠0:=by first | (simp_all;done) | (simp_all;omega)
  refine Fun.imp (zq1 n m v1 v3 v5 v6 e1 e3 e5 e6 h2 s4 s7) (fun _ _ _ h=>h) (fun v W D h=>?_)
  have r0:o=v6:=by
   unfold modI at ho
   subst_vars
   rw [if_neg (by simp_all)]
  rw [r0];exact h
end Go.Proofs.YtjcegdldgjphiaaGreatDoor
namespace Go.Proofs.YtjcegdldgjphiaaGreatDoor
open Go.RowKit Go.Shelf
def cI (x:Int):List Pred:=[pI x]
theorem zl {w0:World} (x:Int):FineAll (KN w0) (cI x):=⟨zc,trivial⟩
def numL:List Int→Int
 | l=>l.foldl (fun a x=>a*4294967296+x.tmod 4294967296) 0
theorem zik (l:List Int) (x:Int):numL (l++[x])=numL l*4294967296+x.tmod 4294967296:=by
 unfold numL;rw [List.foldl_append];rfl
theorem zdm (x:Int):-4294967295≤x.tmod 4294967296∧x.tmod 4294967296≤4294967295:=by
 have h1:=Int.tmod_lt_of_pos x (show (0:Int)<4294967296 by decide)
 have h2:=Int.lt_tmod_of_pos x (show (0:Int)<4294967296 by decide)
 omega
theorem zg6:∀(l:List Int),l.length≤3→(numL l).natAbs≤79228162532711081667253501951
 | [],_=>by decide
 | [a],_=>by have:=zdm a;show (0*4294967296+_:Int).natAbs≤_;omega
 | [a,b],_=>by have:=zdm a;have:=zdm b;show ((0*4294967296+a.tmod 4294967296)*4294967296+b.tmod 4294967296:Int).natAbs≤_;omega
 | [a,b,c],_=>by have:=zdm a;have:=zdm b;have:=zdm c;show (((0*4294967296+a.tmod 4294967296)*4294967296+b.tmod 4294967296)*4294967296+c.tmod 4294967296:Int).natAbs≤_;omega
 | _::_::_::_::_,h=>by simp at h
theorem zeN {l:List Int} (h:l.length≤3):(numL l).natAbs<big:=Nat.lt_of_le_of_lt (zg6 l h) (by unfold big;decide +kernel)
theorem zpP {l:List Int} {f k:Nat} {x:Int} (h:l[f+k]?=some x):(l.drop f).take (k+1)=(l.drop f).take k++[x]:=by
 rw [List.take_add_one,List.getElem?_drop,h];rfl
structure nb_T where
 i:Int
 acc:Raw
def zcc:List Atom:=[.sl 0 (yh 0),.sl 1 (yh 1),.sl 4 (.o (.c (.p 0 0))),.sl 5 (.o (.c (.p 2 0))),.sl 6 (.o (.c (.p 5 0))),.sl 7 (yh 6),.sl 8 (.o (.g [.h 2,.h 3])),.sl 9 (.o (.g [.h 4,.h 5])),.sl 10 (yh 1),.bx 0 30 [.k (.bool false),.k (.slice none 0 0)],.bx 2 30 [.h 7,.h 8],.bx 5 30 [.h 4,.h 5]]
def nb_S:LoopS:=⟨4,[.sl 0 (yh 0),.sl 1 (yh 1),.sl 4 (.o (.c (.p 0 0))),.sl 5 (.o (.c (.p 2 0))),.sl 6 (.o (.c (.p 5 0))),.sl 7 (yh 1),.sl 8 (.o (.g [.h 2,.h 3])),.sl 9 (.o (.g [.h 4,.h 5])),.sl 10 (yh 1),.bx 0 30 [.k (.bool false),.k (.slice none 0 0)],.bx 2 30 [.h 2,.h 3],.bx 5 30 [.h 4,.h 5]],(.x 0),[.sl 0 (yh 0),.sl 1 (yh 1),.sl 4 (.o (.c (.p 0 0))),.sl 5 (.o (.c (.p 2 0))),.sl 6 (.o (.c (.p 5 0))),.sl 8 (.o (.g [.h 2,.h 3])),.sl 9 (.o (.g [.h 4,.h 5])),.sl 10 (yh 1),.bx 0 30 [.k (.bool false),.k (.slice none 0 0)],.bx 2 30 [.h 6,.h 7],.bx 5 30 [.h 4,.h 5]]⟩
abbrev nb_D1:List (Nat×Ent):=(1005002,.op (.len [22] 3) [yh 0] [] (yh 9))::(1005003,.bin .lss 3 (yh 6) (yh 9) (yh 10))::[]
abbrev nb_D2:List (Nat×Ent):=(10010,.fb 10 true)::(1005007,.bin .add 3 (yh 1) (LF (.k (.int .i64 3))) (yh 11))::(1005008,.bin .lss 3 (yh 6) (yh 11) (yh 12))::nb_D1
abbrev nb_D3:List (Nat×Ent):=(10012,.fb 12 true)::(1005012,.call ⟨112,[.o (.g [.h 7,.h 8]),.o (.g [.h 4,.h 5])],[],.t [.g [.h 13,.h 14],.c (.h 15)],[]⟩)::(1005020,.op (.ia 22) [yh 0,yh 6] [] (yh 16))::(1005021,.op (.ld 3) [yh 16] [] (yh 17))::(1005022,.bin .rem 3 (yh 17) (LF (.k (.int .i64 4294967296))) (yh 18))::(1005023,.call ⟨77,[yh 18],[],.o (.g [.h 19,.h 20]),[]⟩)::(1005024,.call ⟨113,[.o (.g [.h 13,.h 14]),.o (.g [.h 19,.h 20])],[],.t [.g [.h 21,.h 22],.c (.h 23)],[]⟩)::(1005030,.bin .add 3 (yh 6) (LF (.k (.int .i64 1))) (yh 24))::nb_D2
abbrev nb_D4:List (Nat×Ent):=(10012,.fb 12 false)::nb_D2
abbrev nb_D5:List (Nat×Ent):=(10010,.fb 10 false)::nb_D1
theorem nb_ok {w0:World} (l:(List Int)) (f:Int) (v1:Raw) (v4:Raw) (acc2:Raw) {F:Fact} (u0:F.c 0=pLs cI l) (u1:F.c 1=pI f) (u2:F.c 2=pB v1.1) (u3:F.c 3=pD v1.2) (u4:F.c 4=pB v4.1) (u5:F.c 5=pD v4.2) (u6:F.c 6=pB acc2.1) (u7:F.c 7=pD acc2.2) (R:Frm) (hR:R.pm=⟨ntOf Tryz.prog 94,[],[]⟩) (g:Nat) (hf:f=(g:Int)) (hg:g≤100) (hv2:v1=nz 0) (hv5:v4=nz 4294967296) (ho:nz (numL ((l.drop g).take 3))=acc2):zj (KN w0) Tryz.prog F R nb_S (lp Tryz.prog 94 0):=by
 refine zG (T:=nb_T) (fun t=>FL [pLs cI l,pI f,pB v1.1,pD v1.2,pB v4.1,pD v4.2,pI t.i,pB t.acc.1,pD t.acc.2] []) (fun ⟨i,acc⟩=>∃k:Nat,i=((g+k:Nat):Int)∧k≤3∧(k=0∨g+k≤l.length)∧acc=nz (numL ((l.drop g).take k))) (fun ⟨i,acc⟩=>(g+3 - i).toNat) { i:=f,acc:=v1 } zcc ⟨0,by rw [hf];simp,by omega,.inl rfl,by rw [hv2,List.take_zero];rfl⟩ (LZ ⟨z_c (LU u0),z_c (LU u1),z_c yy,z_c yy,z_c yy,z_c (LU u1),z_g ⟨LU u2,LU u3,trivial⟩,z_g ⟨LU u4,LU u5,trivial⟩,z_c (LU u1),z_b ⟨yy,yy,trivial⟩,z_b ⟨LU u2,LU u3,trivial⟩,z_b ⟨LU u4,LU u5,trivial⟩,trivial⟩) rfl fun t hJ=>?_
 obtain ⟨i,acc⟩:=t
 dsimp only at hJ
 obtain ⟨k,hi,hk,hkl,ha⟩:=hJ
 obtain ⟨v501,e501⟩:=LX ((l.length:Int))
 obtain ⟨v502,e502⟩:=LX (decide (i<v501))
 let A1:List Pred→List Pred:=fun t=>pLs cI l::pI f::pB v1.1::pD v1.2::pB v4.1::pD v4.2::pI i::pB acc.1::pD acc.2::pI v501::pB v502::t
 have f1:LA (KN w0) A1:=fun t h=>⟨(zi zl),zc,zc,zm,zc,zm,zc,zc,zm,zc,zc,h⟩
 have T1:LT (KN w0) Tryz.prog A1 nb_D1:=fun t=>⟨zH (E:=3) (by kernel_rfl) (zd rfl) (za (by rw [e501];rfl)),e_bin (za rfl) (za rfl) (za rfl) (r_cmp (LO e502)),trivial⟩
 cases h503:v502 with
 | true =>
  obtain ⟨v504,e504⟩:=LX (IntKind.i64.wrap (f+(3:Int)))
  obtain ⟨v505,e505⟩:=LX (decide (i<v504))
  let A2:=fun t=>A1 (pI v504::pB v505::t)
  have f2:LA (KN w0) A2:=fun t h=>f1 _ ⟨zc,zc,h⟩
  have T2:LT (KN w0) Tryz.prog A2 nb_D2:=fun t=>⟨e_fbv h503,e_bin (za rfl) ze (za rfl) (r_ar (LO e504)),e_bin (za rfl) (za rfl) (za rfl) (r_cmp (LO e505)),T1 _⟩
  cases h506:v505 with
  | true =>
   obtain ⟨v507,e507⟩:=LX (nz (vO (mulX acc v4)))
   obtain ⟨v508,e508⟩:=LX (okO (mulX acc v4))
   obtain ⟨n509,x510,s511,s512⟩:∃(n509:Nat) (x510:Int),i=(n509:Int)∧l[n509]?=some x510:=by (have hlt:g+k<l.length:=(by subst e501;subst e502;have:=of_decide_eq_true h503;omega);exact ⟨g+k,l[g+k],hi,List.getElem?_eq_getElem hlt⟩)
   obtain ⟨v513,e513⟩:=LX ((x510:Int).tmod (4294967296:Int))
   obtain ⟨v514,e514⟩:=LX (nz v513)
   have s515:-9223372036854775808≤v513:=by (have:=zdm x510;omega)
   have s516:v513<9223372036854775808:=by (have:=zdm x510;omega)
   obtain ⟨v517,e517⟩:=LX (nz (vO (addX v507 v514)))
   obtain ⟨v518,e518⟩:=LX (okO (addX v507 v514))
   obtain ⟨v519,e519⟩:=LX (IntKind.i64.wrap (i+(1:Int)))
   let A3:=fun t=>A2 (pB v507.1::pD v507.2::pB v508::pP (cI x510)::pI x510::pI v513::pB v514.1::pD v514.2::pB v517.1::pD v517.2::pB v518::pI v519::t)
   have f3:LA (KN w0) A3:=fun t h=>f2 _ ⟨zc,zm,zc,(qw (zl _)),zc,zc,zc,zm,zc,zm,zc,zc,h⟩
   have T3:LT (KN w0) Tryz.prog A3 nb_D3:=fun t=>⟨e_fbv h506,zh (zq3 acc v4 v507 v508 e507 e508),e_iaL (E:=3) (z:=1) (fun _=>rfl) (by kernel_rfl) (by kernel_rfl) (zd rfl) (za rfl) s511 s512 (zd rfl),e_ldP (by kernel_rfl) (zd rfl) (zd rfl),e_bin (za rfl) ze (za rfl) (r_ar ((qB (by decide)).trans (LO e513))),zh (qN v513 v514 e514 s515 s516),zh (zq2 v507 v514 v517 v518 e517 e518),e_bin (za rfl) ze (za rfl) (r_ar (LO e519)),T2 _⟩
   refine .inr ⟨⟨v519,v517⟩,?_,?_,goes (x:=.n) (y:=.n) (Fb:=FL (A3 []) []) (stb:=zcc) (tl:=[.sl 0 (yh 0),.sl 1 (yh 1),.sl 4 (.o (.c (.p 0 0))),.sl 5 (.o (.c (.p 2 0))),.sl 6 (.o (.c (.p 5 0))),.sl 7 (yh 24),.sl 8 (.o (.g [.h 2,.h 3])),.sl 9 (.o (.g [.h 4,.h 5])),.sl 10 (yh 1),.bx 0 30 [.k (.bool false),.k (.slice none 0 0)],.bx 2 30 [.h 21,.h 22],.bx 5 30 [.h 4,.h 5]]) (C:=nb_D3) (H:=.no) 5000 (LZ ⟨z_c yy,z_c yy,z_c yy,z_c yy,z_c yy,z_c yy,z_g ⟨yy,yy,trivial⟩,z_g ⟨yy,yy,trivial⟩,z_c yy,z_b ⟨yy,yy,trivial⟩,z_b ⟨yy,yy,trivial⟩,z_b ⟨yy,yy,trivial⟩,trivial⟩) (zg (f3 [] trivial)) (T3 []) mixed hR trivial (fun _ _ _ hs=>by cases hs) (by kernel_rfl) rfl (LZ ⟨z_c yy,z_c yy,z_c yy,z_c yy,z_c yy,z_c (fun β v W h=>(zd rfl β v W).2 h),z_g ⟨yy,yy,trivial⟩,z_g ⟨yy,yy,trivial⟩,z_c yy,z_b ⟨yy,yy,trivial⟩,z_b ⟨fun β v W h=>(zd rfl β v W).2 h,fun β v W h=>(zd rfl β v W).2 h,trivial⟩,z_b ⟨yy,yy,trivial⟩,trivial⟩)⟩
   all_goals (subst hf;have h5:=LD e502 h503;have h6:=LD e505 h506;rw [wr64 (by omega)] at e504;rw [wr64 (by omega)] at e519)
   ·show ((g:Int)+3 - v519).toNat<((g:Int)+3 - i).toNat
    omega
   ·have en:n509=g+k:=by omega
    subst en
    have hs:=zpP s512
    have hb1:=zeN (l:=(l.drop g).take k) (by rw [List.length_take];omega)
    have hb2:=zg6 ((l.drop g).take k) (by rw [List.length_take];omega)
    have hx:=zdm x510
    have hl3:=zg6 ((l.drop g).take (k+1)) (by rw [List.length_take];omega)
    rw [hs,zik] at hl3
    have hk2:((l.drop g).take k).length≤2:=by rw [List.length_take];omega
    refine ⟨k+1,by omega,by omega,.inr (by omega),?_⟩
    rw [hs,zik,← e517,← e514,← e513,← e507,ha,hv5]
    have hbb:∀z:Int,z.natAbs≤79228162532711081667253501951*4294967296→z.natAbs<big:=fun z hz=>Nat.lt_of_le_of_lt hz (by unfold big;decide +kernel)
    rw [ztP hb1 (hbb _ (by decide)),zc4 (hbb _ (by omega))]
    show nz (vO (addX (nz (numL ((l.drop g).take k)*4294967296)) (nz (x510.tmod 4294967296))))=_
    rw [ztd (hbb _ (by omega)) (hbb _ (by omega)),zc4 (hbb _ (by omega))];rfl
  | false =>
   have T4:LT (KN w0) Tryz.prog A2 nb_D4:=fun t=>⟨e_fbv h506,T2 _⟩
   have hq:((acc)=acc2)∧True:=by
    refine ⟨?_,trivial⟩
    have h5:=LD e502 h503
    have h6:=LE e505 h506
    subst hf
    rw [wr64 (by omega)] at e504
    have:k=3:=by omega
    subst this
    rw [ha,← ho]
   obtain ⟨q0,-⟩:=hq
   exact .inl (goes (x:=(.x 0)) (y:=(.x 0)) (Fb:=FL (A2 []) []) (stb:=zcc) (tl:=[.sl 0 (yh 0),.sl 1 (yh 1),.sl 4 (.o (.c (.p 0 0))),.sl 5 (.o (.c (.p 2 0))),.sl 6 (.o (.c (.p 5 0))),.sl 8 (.o (.g [.h 2,.h 3])),.sl 9 (.o (.g [.h 4,.h 5])),.sl 10 (yh 1),.bx 0 30 [.k (.bool false),.k (.slice none 0 0)],.bx 2 30 [.h 7,.h 8],.bx 5 30 [.h 4,.h 5]]) (C:=nb_D4) (H:=.no) 5000 (LZ ⟨z_c yy,z_c yy,z_c yy,z_c yy,z_c yy,z_c yy,z_g ⟨yy,yy,trivial⟩,z_g ⟨yy,yy,trivial⟩,z_c yy,z_b ⟨yy,yy,trivial⟩,z_b ⟨yy,yy,trivial⟩,z_b ⟨yy,yy,trivial⟩,trivial⟩) (zg (f2 [] trivial)) (T4 []) mixed hR trivial (fun _ _ _ hs=>by cases hs) (by kernel_rfl) rfl (LZ ⟨z_c (LV u0),z_c (LV u1),z_c yy,z_c yy,z_c yy,z_g ⟨LV u2,LV u3,trivial⟩,z_g ⟨LV u4,LV u5,trivial⟩,z_c (LV u1),z_b ⟨yy,yy,trivial⟩,z_b ⟨fun β v W h=>(zd u6 β v W).2 (by rw [← q0];exact h),fun β v W h=>(zd u7 β v W).2 (by rw [← q0];exact h),trivial⟩,z_b ⟨LV u4,LV u5,trivial⟩,trivial⟩))
 | false =>
  have T5:LT (KN w0) Tryz.prog A1 nb_D5:=fun t=>⟨e_fbv h503,T1 _⟩
  have hq:((acc)=acc2)∧True:=by
   refine ⟨?_,trivial⟩
   have h5:=LE e502 h503
   rw [ha,← ho]
   have e:((l.drop g).take 3)=(l.drop g).take k:=by
    rw [List.take_of_length_le (by rw [List.length_drop];omega),List.take_of_length_le (by rw [List.length_drop];omega)]
   rw [e]
  obtain ⟨q0,-⟩:=hq
  exact .inl (goes (x:=(.x 0)) (y:=(.x 0)) (Fb:=FL (A1 []) []) (stb:=zcc) (tl:=[.sl 0 (yh 0),.sl 1 (yh 1),.sl 4 (.o (.c (.p 0 0))),.sl 5 (.o (.c (.p 2 0))),.sl 6 (.o (.c (.p 5 0))),.sl 8 (.o (.g [.h 2,.h 3])),.sl 9 (.o (.g [.h 4,.h 5])),.sl 10 (yh 1),.bx 0 30 [.k (.bool false),.k (.slice none 0 0)],.bx 2 30 [.h 7,.h 8],.bx 5 30 [.h 4,.h 5]]) (C:=nb_D5) (H:=.no) 5000 (LZ ⟨z_c yy,z_c yy,z_c yy,z_c yy,z_c yy,z_c yy,z_g ⟨yy,yy,trivial⟩,z_g ⟨yy,yy,trivial⟩,z_c yy,z_b ⟨yy,yy,trivial⟩,z_b ⟨yy,yy,trivial⟩,z_b ⟨yy,yy,trivial⟩,trivial⟩) (zg (f1 [] trivial)) (T5 []) mixed hR trivial (fun _ _ _ hs=>by cases hs) (by kernel_rfl) rfl (LZ ⟨z_c (LV u0),z_c (LV u1),z_c yy,z_c yy,z_c yy,z_g ⟨LV u2,LV u3,trivial⟩,z_g ⟨LV u4,LV u5,trivial⟩,z_c (LV u1),z_b ⟨yy,yy,trivial⟩,z_b ⟨fun β v W h=>(zd u6 β v W).2 (by rw [← q0];exact h),fun β v W h=>(zd u7 β v W).2 (by rw [← q0];exact h),trivial⟩,z_b ⟨LV u4,LV u5,trivial⟩,trivial⟩))
abbrev zx8:List (Nat×Ent):=(1000001,.call ⟨77,[.o (.c (.k (.int .i64 0)))],[],.o (.g [.h 2,.h 3]),[]⟩)::(1000004,.call ⟨77,[.o (.c (.k (.int .i64 4294967296)))],[],.o (.g [.h 4,.h 5]),[]⟩)::[]
theorem zoC {w0:World} (l:List Int) (f:Int) (g:Nat) (hf:f=(g:Int)) (hg:g≤100) (r:Raw) (hr:nz (numL ((l.drop g).take 3))=r):Fun (KN w0) Tryz.prog 94 [.o (.c (pLs cI l)),.o (.c (pI f))] (gN r):=by
 obtain ⟨v1,e1⟩:=LX (nz (0:Int))
 have s2:-9223372036854775808≤(0:Int):=by decide
 have s3:(0:Int)<9223372036854775808:=by decide
 obtain ⟨v4,e4⟩:=LX (nz (4294967296:Int))
 have s5:-9223372036854775808≤(4294967296:Int):=by decide
 have s6:(4294967296:Int)<9223372036854775808:=by decide
 obtain ⟨acc2,hO_nb⟩:∃(acc2:Raw),nz (numL ((l.drop g).take 3))=acc2:=⟨_,rfl⟩
 let A1:List Pred→List Pred:=fun t=>pLs cI l::pI f::pB v1.1::pD v1.2::pB v4.1::pD v4.2::pB acc2.1::pD acc2.2::t
 have f1:LA (KN w0) A1:=fun t h=>⟨(zi zl),zc,zc,zm,zc,zm,zc,zm,h⟩
 have T1:LT (KN w0) Tryz.prog A1 zx8:=fun t=>⟨zh (qN (0:Int) v1 e1 s2 s3),zh (qN (4294967296:Int) v4 e4 s5 s6),trivial⟩
 have L_nb:∀R:Frm,R.pm=⟨ntOf Tryz.prog 94,[],[]⟩→zj (KN w0) Tryz.prog (FL (A1 []) []) R nb_S (lp Tryz.prog 94 0):=fun R hR=>nb_ok l f v1 v4  acc2 rfl rfl rfl rfl rfl rfl rfl rfl R hR g hf hg e1.symm e4.symm hO_nb
 refine Fun.fin (r:=.o (.g [pB acc2.1,pD acc2.2])) (zq (zN (F:=FL (A1 []) []) (C:=zx8) (k:=⟨94,[yh 0,yh 1],[],.o (.g [.h 6,.h 7]),[]⟩) ⟨[nb_S],[],0⟩ [] 0 (zg (f1 [] trivial)) (T1 []) mixed trivial (fun R hR p hp s hs=>by
  have hl:zD (zR Tryz.prog 94)=[(4,lp Tryz.prog 94 0)]:=by kernel_rfl
  rw [hl] at hp
  simp only [List.mem_cons,List.not_mem_nil,or_false] at hp
  rcases hp with rfl
  ·have e:s=nb_S:=(Option.some.inj hs).symm
   subst e;exact L_nb R hR) (by kernel_rfl))) (fun v W D h=>?_)
 have r0:r=acc2:=by
  rw [← hr];exact hO_nb
 rw [r0];exact h
theorem zep {w0:World} (l:List Int) (f:Int) (r:Raw) (hr:nz (numL ((l.drop (f:Int).toNat).take 3))=r) (h:0≤f∧f≤100):Fun (KN w0) Tryz.prog 94 [.o (.c (pLs cI l)),.o (.c (pI f))] (gN r):=zoC l f f.toNat (by omega) (by omega) r hr
end Go.Proofs.YtjcegdldgjphiaaGreatDoor
namespace Go.Proofs.YtjcegdldgjphiaaGreatDoor
open Go.RowKit Go.Shelf
theorem zoU {n m:Int} (h1:1≤m) (h2:m≤4611686018427387904):modI n m=n%m:=by
 have a:=Int.tmod_lt_of_pos n (show 0<m by omega)
 have b:=Int.lt_tmod_of_pos n (show 0<m by omega)
 unfold modI
 rw [if_neg (by omega),wr64 (by omega),Int.tmod_eq_emod_of_nonneg (by omega),Int.add_emod_right,Int.tmod_eq_emod]
 split
 ·simp
 ·have e:(m.natAbs:Int)=m:=by omega
  rw [e,Int.sub_emod,Int.emod_self];simp
def madeR (l:List Int):Option Rat:=
 if l.length<3 then ofR (if 0<l.length then (l.getD 0 0).tmod 50 else 0) (if 1<l.length then 1+l.getD 1 0%30 else 1)
 else ofR (numL (l.take 3)) (if numL ((l.drop 3).take 3)=0 then 1 else numL ((l.drop 3).take 3))
theorem zgW {n d:Int} (h1:1≤d) (h2:d≤100) (h3:-100≤n) (h4:n≤100):fracR n d=ofR n d:=by
 unfold fracR
 rw [if_neg (by omega),zlP (qF (by omega)) (qF (by omega))]
theorem ze3 (x:Int):-49≤x.tmod 50∧x.tmod 50≤49:=by
 have h1:=Int.tmod_lt_of_pos x (show (0:Int)<50 by decide)
 have h2:=Int.lt_tmod_of_pos x (show (0:Int)<50 by decide)
 omega
theorem zlt {d:Int} (h:d.natAbs<big):(cmpX (nz d) (nz 0) == 0)=decide (d=0):=zke h
theorem zfX (x:Int):0≤modI x 30∧modI x 30≤29:=by rw [zoU (by decide) (by decide)];omega
abbrev zyr:List (Nat×Ent):=(1000002,.op (.len [22] 3) [yh 0] [] (yh 1))::(1000003,.bin .lss 3 (yh 1) (LF (.k (.int .i64 3))) (yh 2))::[]
abbrev zys:List (Nat×Ent):=(10002,.fb 2 true)::(1000008,.op (.len [22] 3) [yh 0] [] (yh 3))::(1000009,.bin .gtr 3 (yh 3) (LF (.k (.int .i64 0))) (yh 4))::zyr
abbrev zyt:List (Nat×Ent):=(10004,.fb 4 true)::(1000011,.op (.ia 22) [yh 0,LF (.k (.int .i64 0))] [] (yh 5))::(1000012,.op (.ld 3) [yh 5] [] (yh 6))::(1000013,.bin .rem 3 (yh 6) (LF (.k (.int .i64 50))) (yh 7))::(1000017,.op (.len [22] 3) [yh 0] [] (yh 8))::(1000018,.bin .gtr 3 (yh 8) (LF (.k (.int .i64 1))) (yh 9))::zys
abbrev zzt:List (Nat×Ent):=(10009,.fb 9 true)::(1000020,.op (.ia 22) [yh 0,LF (.k (.int .i64 1))] [] (yh 10))::(1000021,.op (.ld 3) [yh 10] [] (yh 11))::(1000022,.call ⟨92,[yh 11,.o (.c (.k (.int .i64 30)))],[],yh 12,[]⟩)::(1000023,.bin .add 3 (LF (.k (.int .i64 1))) (yh 12) (yh 13))::(1000027,.call ⟨93,[.o (.g [.h 7,.h 13])],[],.o (.g [.h 14,.h 15,.h 16,.h 17]),[]⟩)::zyt
abbrev zzu:List (Nat×Ent):=(10009,.fb 9 false)::(1000020,.call ⟨93,[.o (.g [.h 7,.k (.int .i64 1)])],[],.o (.g [.h 10,.h 11,.h 12,.h 13]),[]⟩)::zyt
abbrev zyu:List (Nat×Ent):=(10004,.fb 4 false)::(1000011,.op (.len [22] 3) [yh 0] [] (yh 5))::(1000012,.bin .gtr 3 (yh 5) (LF (.k (.int .i64 1))) (yh 6))::zys
abbrev zzv:List (Nat×Ent):=(10006,.fb 6 true)::(1000014,.op (.ia 22) [yh 0,LF (.k (.int .i64 1))] [] (yh 7))::(1000015,.op (.ld 3) [yh 7] [] (yh 8))::(1000016,.call ⟨92,[yh 8,.o (.c (.k (.int .i64 30)))],[],yh 9,[]⟩)::(1000017,.bin .add 3 (LF (.k (.int .i64 1))) (yh 9) (yh 10))::(1000021,.call ⟨93,[.o (.g [.k (.int .i64 0),.h 10])],[],.o (.g [.h 11,.h 12,.h 13,.h 14]),[]⟩)::zyu
abbrev zzw:List (Nat×Ent):=(10006,.fb 6 false)::(1000014,.call ⟨93,[.o (.g [.k (.int .i64 0),.k (.int .i64 1)])],[],.o (.g [.h 7,.h 8,.h 9,.h 10]),[]⟩)::zyu
abbrev zyv:List (Nat×Ent):=(10002,.fb 2 false)::(1000005,.call ⟨94,[yh 0,.o (.c (.k (.int .i64 3)))],[],.o (.g [.h 3,.h 4]),[]⟩)::(1000009,.call ⟨77,[.o (.c (.k (.int .i64 0)))],[],.o (.g [.h 5,.h 6]),[]⟩)::(1000010,.call ⟨76,[.o (.g [.h 3,.h 4]),.o (.g [.h 5,.h 6])],[],yh 7,[]⟩)::(1000011,.bin .eql 3 (yh 7) (LF (.k (.int .i64 0))) (yh 8))::zyr
abbrev zyW:List (Nat×Ent):=(10008,.fb 8 true)::(1000012,.call ⟨77,[.o (.c (.k (.int .i64 1)))],[],.o (.g [.h 9,.h 10]),[]⟩)::(1000015,.call ⟨94,[yh 0,.o (.c (.k (.int .i64 0)))],[],.o (.g [.h 11,.h 12]),[]⟩)::(1000017,.call ⟨95,[.o (.g [.h 11,.h 12]),.o (.g [.h 9,.h 10])],[],.t [.g [.h 13,.h 14,.h 15,.h 16],.c (.h 17)],[]⟩)::zyv
abbrev zyX:List (Nat×Ent):=(10008,.fb 8 false)::(1000013,.call ⟨94,[yh 0,.o (.c (.k (.int .i64 0)))],[],.o (.g [.h 9,.h 10]),[]⟩)::(1000015,.call ⟨95,[.o (.g [.h 9,.h 10]),.o (.g [.h 3,.h 4])],[],.t [.g [.h 11,.h 12,.h 13,.h 14],.c (.h 15)],[]⟩)::zyv
theorem zvk {w0:World} (l:List Int) (r:RR) (hr:rq (madeR l)=r):Fun (KN w0) Tryz.prog 68 [.o (.c (pLs cI l))] (gR r):=by
 obtain ⟨v1,e1⟩:=LX ((l.length:Int))
 obtain ⟨v2,e2⟩:=LX (decide (v1<(3:Int)))
 let A1:List Pred→List Pred:=fun t=>pLs cI l::pI v1::pB v2::t
 have f1:LA (KN w0) A1:=fun t h=>⟨(zi zl),zc,zc,h⟩
 have T1:LT (KN w0) Tryz.prog A1 zyr:=fun t=>⟨zH (E:=3) (by kernel_rfl) (zd rfl) (za (by rw [e1];rfl)),e_bin (za rfl) ze (za rfl) (r_cmp (LO e2)),trivial⟩
 cases h3:v2 with
 | true =>
  obtain ⟨v4,e4⟩:=LX ((l.length:Int))
  obtain ⟨v5,e5⟩:=LX (decide (v4 > (0:Int)))
  let A2:=fun t=>A1 (pI v4::pB v5::t)
  have f2:LA (KN w0) A2:=fun t h=>f1 _ ⟨zc,zc,h⟩
  have T2:LT (KN w0) Tryz.prog A2 zys:=fun t=>⟨e_fbv h3,zH (E:=3) (by kernel_rfl) (zd rfl) (za (by rw [e4];rfl)),e_bin (za rfl) ze (za rfl) (r_cmp (LO e5)),T1 _⟩
  cases h6:v5 with
  | true =>
   obtain ⟨n7,x8,s9,s10⟩:∃(n7:Nat) (x8:Int),(0:Int)=(n7:Int)∧l[n7]?=some x8:=by (have dh3:=LD e2 h3;have dh6:=LD e5 h6;have hlt:0<l.length:=(by omega);exact ⟨0,l[0],rfl,List.getElem?_eq_getElem hlt⟩)
   obtain ⟨v11,e11⟩:=LX ((x8:Int).tmod (50:Int))
   obtain ⟨v12,e12⟩:=LX ((l.length:Int))
   obtain ⟨v13,e13⟩:=LX (decide (v12 > (1:Int)))
   let A3:=fun t=>A2 (pP (cI x8)::pI x8::pI v11::pI v12::pB v13::t)
   have f3:LA (KN w0) A3:=fun t h=>f2 _ ⟨(qw (zl _)),zc,zc,zc,zc,h⟩
   have T3:LT (KN w0) Tryz.prog A3 zyt:=fun t=>⟨e_fbv h6,e_iaL (E:=3) (z:=1) (fun _=>rfl) (by kernel_rfl) (by kernel_rfl) (zd rfl) ze s9 s10 (zd rfl),e_ldP (by kernel_rfl) (zd rfl) (zd rfl),e_bin (za rfl) ze (za rfl) (r_ar ((qB (by decide)).trans (LO e11))),zH (E:=3) (by kernel_rfl) (zd rfl) (za (by rw [e12];rfl)),e_bin (za rfl) ze (za rfl) (r_cmp (LO e13)),T2 _⟩
   cases h14:v13 with
   | true =>
    obtain ⟨n15,x16,s17,s18⟩:∃(n15:Nat) (x16:Int),(1:Int)=(n15:Int)∧l[n15]?=some x16:=by (have dh3:=LD e2 h3;have dh6:=LD e5 h6;have dh14:=LD e13 h14;have hlt:1<l.length:=(by omega);exact ⟨1,l[1],rfl,List.getElem?_eq_getElem hlt⟩)
    obtain ⟨v19,e19⟩:=LX (modI x16 (30:Int))
    obtain ⟨v20,e20⟩:=LX (IntKind.i64.wrap ((1:Int)+v19))
    obtain ⟨v21,e21⟩:=LX (rq (fracR (v11,v20).1 (v11,v20).2))
    have s22:InR (v11,v20).1:=by first | (exact by decide) | (have:=ze3 x8;have:=zfX x16;rw [wr64 (by omega)] at e20;exact ⟨by simp only;omega,by simp only;omega⟩)
    have s23:InR (v11,v20).2:=by first | (exact by decide) | (have:=ze3 x8;have:=zfX x16;rw [wr64 (by omega)] at e20;exact ⟨by simp only;omega,by simp only;omega⟩)
    let A4:=fun t=>A3 (pP (cI x16)::pI x16::pI v19::pI v20::pB v21.1.1::pD v21.1.2::pB v21.2.1::pD v21.2.2::t)
    have f4:LA (KN w0) A4:=fun t h=>f3 _ ⟨(qw (zl _)),zc,zc,zc,zc,zm,zc,zm,h⟩
    have T4:LT (KN w0) Tryz.prog A4 zzt:=fun t=>⟨e_fbv h14,e_iaL (E:=3) (z:=1) (fun _=>rfl) (by kernel_rfl) (by kernel_rfl) (zd rfl) ze s17 s18 (zd rfl),e_ldP (by kernel_rfl) (zd rfl) (zd rfl),zh (f_mod x16 (30:Int) v19 e19),e_bin ze (za rfl) (za rfl) (r_ar (LO e20)),zh (zbQ (v11,v20) v21 e21 s22 s23),T3 _⟩
    refine Fun.fin (r:=.o (.g [pB v21.1.1,pD v21.1.2,pB v21.2.1,pD v21.2.2])) (zq (zr (F:=FL (A4 []) []) (C:=zzt) (k:=⟨68,[yh 0],[],.o (.g [.h 14,.h 15,.h 16,.h 17]),[]⟩) 0 (zg (f4 [] trivial)) (T4 []) mixed (by kernel_rfl))) (fun v W D h=>?_)
    have r0:r=v21:=by
     rw [← hr]
     unfold madeR
     have dh3:=LD e2 h3
     have dh6:=LD e5 h6
     have dh14:=LD e13 h14
     have hl3:l.length<3:=(by omega)
     rw [if_pos hl3]
     have:=ze3 x8
     have:=zfX x16
     rw [wr64 (by omega)] at e20
     have en7:n7=0:=by omega
     have en15:n15=1:=by omega
     subst en7;subst en15
     have h0:0<l.length:=(List.getElem?_eq_some_iff.1 s10).1
     have h1:1<l.length:=(List.getElem?_eq_some_iff.1 s18).1
     rw [if_pos h0,if_pos h1,List.getD_eq_getElem?_getD,List.getD_eq_getElem?_getD,s10,s18,← e21]
     simp only [Option.getD_some]
     rw [zgW (by omega) (by omega) (by omega) (by omega),e11,← e20,← e19,zoU (by decide) (by decide)]
    rw [r0];exact h
   | false =>
    obtain ⟨v15,e15⟩:=LX (rq (fracR (v11,(1:Int)).1 (v11,(1:Int)).2))
    have s16:InR (v11,(1:Int)).1:=by first | (exact by decide) | (have:=ze3 x8;exact ⟨by simp only;omega,by simp only;omega⟩)
    have s17:InR (v11,(1:Int)).2:=by first | (exact by decide) | (have:=ze3 x8;exact ⟨by simp only;omega,by simp only;omega⟩)
    let A5:=fun t=>A3 (pB v15.1.1::pD v15.1.2::pB v15.2.1::pD v15.2.2::t)
    have f5:LA (KN w0) A5:=fun t h=>f3 _ ⟨zc,zm,zc,zm,h⟩
    have T5:LT (KN w0) Tryz.prog A5 zzu:=fun t=>⟨e_fbv h14,zh (zbQ (v11,(1:Int)) v15 e15 s16 s17),T3 _⟩
    refine Fun.fin (r:=.o (.g [pB v15.1.1,pD v15.1.2,pB v15.2.1,pD v15.2.2])) (zq (zr (F:=FL (A5 []) []) (C:=zzu) (k:=⟨68,[yh 0],[],.o (.g [.h 10,.h 11,.h 12,.h 13]),[]⟩) 0 (zg (f5 [] trivial)) (T5 []) mixed (by kernel_rfl))) (fun v W D h=>?_)
    have r0:r=v15:=by
     rw [← hr]
     unfold madeR
     have dh3:=LD e2 h3
     have dh6:=LD e5 h6
     have dh14:=LE e13 h14
     have hl3:l.length<3:=(by omega)
     rw [if_pos hl3]
     have:=ze3 x8
     have en7:n7=0:=by omega
     subst en7
     have h0:0<l.length:=(List.getElem?_eq_some_iff.1 s10).1
     have h1:¬ 1<l.length:=(by omega)
     rw [if_pos h0,if_neg h1,List.getD_eq_getElem?_getD,s10,← e15]
     simp only [Option.getD_some]
     rw [zgW (by omega) (by omega) (by omega) (by omega),e11]
    rw [r0];exact h
  | false =>
   obtain ⟨v7,e7⟩:=LX ((l.length:Int))
   obtain ⟨v8,e8⟩:=LX (decide (v7 > (1:Int)))
   let A6:=fun t=>A2 (pI v7::pB v8::t)
   have f6:LA (KN w0) A6:=fun t h=>f2 _ ⟨zc,zc,h⟩
   have T6:LT (KN w0) Tryz.prog A6 zyu:=fun t=>⟨e_fbv h6,zH (E:=3) (by kernel_rfl) (zd rfl) (za (by rw [e7];rfl)),e_bin (za rfl) ze (za rfl) (r_cmp (LO e8)),T2 _⟩
   cases h9:v8 with
   | true =>
    obtain ⟨n10,x11,s12,s13⟩:∃(n10:Nat) (x11:Int),(1:Int)=(n10:Int)∧l[n10]?=some x11:=by (have dh3:=LD e2 h3;have dh6:=LE e5 h6;have dh9:=LD e8 h9;have hlt:1<l.length:=(by omega);exact ⟨1,l[1],rfl,List.getElem?_eq_getElem hlt⟩)
    obtain ⟨v14,e14⟩:=LX (modI x11 (30:Int))
    obtain ⟨v15,e15⟩:=LX (IntKind.i64.wrap ((1:Int)+v14))
    obtain ⟨v16,e16⟩:=LX (rq (fracR ((0:Int),v15).1 ((0:Int),v15).2))
    have s17:InR ((0:Int),v15).1:=by first | (exact by decide) | (have:=zfX x11;rw [wr64 (by omega)] at e15;exact ⟨by simp only;omega,by simp only;omega⟩)
    have s18:InR ((0:Int),v15).2:=by first | (exact by decide) | (have:=zfX x11;rw [wr64 (by omega)] at e15;exact ⟨by simp only;omega,by simp only;omega⟩)
    let A7:=fun t=>A6 (pP (cI x11)::pI x11::pI v14::pI v15::pB v16.1.1::pD v16.1.2::pB v16.2.1::pD v16.2.2::t)
    have f7:LA (KN w0) A7:=fun t h=>f6 _ ⟨(qw (zl _)),zc,zc,zc,zc,zm,zc,zm,h⟩
    have T7:LT (KN w0) Tryz.prog A7 zzv:=fun t=>⟨e_fbv h9,e_iaL (E:=3) (z:=1) (fun _=>rfl) (by kernel_rfl) (by kernel_rfl) (zd rfl) ze s12 s13 (zd rfl),e_ldP (by kernel_rfl) (zd rfl) (zd rfl),zh (f_mod x11 (30:Int) v14 e14),e_bin ze (za rfl) (za rfl) (r_ar (LO e15)),zh (zbQ ((0:Int),v15) v16 e16 s17 s18),T6 _⟩
    refine Fun.fin (r:=.o (.g [pB v16.1.1,pD v16.1.2,pB v16.2.1,pD v16.2.2])) (zq (zr (F:=FL (A7 []) []) (C:=zzv) (k:=⟨68,[yh 0],[],.o (.g [.h 11,.h 12,.h 13,.h 14]),[]⟩) 0 (zg (f7 [] trivial)) (T7 []) mixed (by kernel_rfl))) (fun v W D h=>?_)
    have r0:r=v16:=by
     rw [← hr]
     unfold madeR
     have dh3:=LD e2 h3
     have dh6:=LE e5 h6
     have dh9:=LD e8 h9
     have hl3:l.length<3:=(by omega)
     rw [if_pos hl3]
     have:=zfX x11
     rw [wr64 (by omega)] at e15
     exfalso
     omega
    rw [r0];exact h
   | false =>
    obtain ⟨v10,e10⟩:=LX (rq (fracR ((0:Int),(1:Int)).1 ((0:Int),(1:Int)).2))
    have s11:InR ((0:Int),(1:Int)).1:=by first | (exact by decide) | (exact ⟨by simp only;omega,by simp only;omega⟩)
    have s12:InR ((0:Int),(1:Int)).2:=by first | (exact by decide) | (exact ⟨by simp only;omega,by simp only;omega⟩)
    let A8:=fun t=>A6 (pB v10.1.1::pD v10.1.2::pB v10.2.1::pD v10.2.2::t)
    have f8:LA (KN w0) A8:=fun t h=>f6 _ ⟨zc,zm,zc,zm,h⟩
    have T8:LT (KN w0) Tryz.prog A8 zzw:=fun t=>⟨e_fbv h9,zh (zbQ ((0:Int),(1:Int)) v10 e10 s11 s12),T6 _⟩
    refine Fun.fin (r:=.o (.g [pB v10.1.1,pD v10.1.2,pB v10.2.1,pD v10.2.2])) (zq (zr (F:=FL (A8 []) []) (C:=zzw) (k:=⟨68,[yh 0],[],.o (.g [.h 7,.h 8,.h 9,.h 10]),[]⟩) 0 (zg (f8 [] trivial)) (T8 []) mixed (by kernel_rfl))) (fun v W D h=>?_)
    have r0:r=v10:=by
     rw [← hr]
     unfold madeR
     have dh3:=LD e2 h3
     have dh6:=LE e5 h6
     have dh9:=LE e8 h9
     have hl3:l.length<3:=(by omega)
     rw [if_pos hl3]
     have h0:¬ 0<l.length:=(by omega)
     have h1:¬ 1<l.length:=(by omega)
     rw [if_neg h0,if_neg h1,← e10]
     rw [zgW (by decide) (by decide) (by decide) (by decide)]
    rw [r0];exact h
 | false =>
  obtain ⟨v4,e4⟩:=LX (nz (numL ((l.drop ((3:Int):Int).toNat).take 3)))
  have s5:0≤(3:Int)∧(3:Int)≤100:=by first | decide | omega
  obtain ⟨v6,e6⟩:=LX (nz (0:Int))
  have s7:-9223372036854775808≤(0:Int):=by first | decide | omega
  have s8:(0:Int)<9223372036854775808:=by first | decide | omega
  obtain ⟨v9,e9⟩:=LX (cmpX v4 v6)
  obtain ⟨v10,e10⟩:=LX ((v9 == (0:Int)))
  let A9:=fun t=>A1 (pB v4.1::pD v4.2::pB v6.1::pD v6.2::pI v9::pB v10::t)
  have f9:LA (KN w0) A9:=fun t h=>f1 _ ⟨zc,zm,zc,zm,zc,zc,h⟩
  have T9:LT (KN w0) Tryz.prog A9 zyv:=fun t=>⟨e_fbv h3,zh (zep l (3:Int) v4 e4 s5),zh (qN (0:Int) v6 e6 s7 s8),zh (zeq v4 v6 v9 e9),e_bin (za rfl) ze (za rfl) (r_cmp (LO e10)),T1 _⟩
  cases h11:v10 with
  | true =>
   obtain ⟨v12,e12⟩:=LX (nz (1:Int))
   have s13:-9223372036854775808≤(1:Int):=by first | decide | omega
   have s14:(1:Int)<9223372036854775808:=by first | decide | omega
   obtain ⟨v15,e15⟩:=LX (nz (numL ((l.drop ((0:Int):Int).toNat).take 3)))
   have s16:0≤(0:Int)∧(0:Int)≤100:=by first | decide | omega
   obtain ⟨v17,e17⟩:=LX (rq (ofX v15 v12))
   obtain ⟨v18,e18⟩:=LX ((ofX v15 v12).isSome)
   let A10:=fun t=>A9 (pB v12.1::pD v12.2::pB v15.1::pD v15.2::pB v17.1.1::pD v17.1.2::pB v17.2.1::pD v17.2.2::pB v18::t)
   have f10:LA (KN w0) A10:=fun t h=>f9 _ ⟨zc,zm,zc,zm,zc,zm,zc,zm,zc,h⟩
   have T10:LT (KN w0) Tryz.prog A10 zyW:=fun t=>⟨e_fbv h11,zh (qN (1:Int) v12 e12 s13 s14),zh (zep l (0:Int) v15 e15 s16),zh (zgO v15 v12 v17 v18 e17 e18),T9 _⟩
   refine Fun.fin (r:=.o (.g [pB v17.1.1,pD v17.1.2,pB v17.2.1,pD v17.2.2])) (zq (zr (F:=FL (A10 []) []) (C:=zyW) (k:=⟨68,[yh 0],[],.o (.g [.h 13,.h 14,.h 15,.h 16]),[]⟩) 0 (zg (f10 [] trivial)) (T10 []) mixed (by kernel_rfl))) (fun v W D h=>?_)
   have r0:r=v17:=by
    rw [← hr]
    unfold madeR
    have dh3:=LE e2 h3
    have hl3:¬ l.length<3:=(by omega)
    rw [if_neg hl3]
    have b1:=zeN (l:=l.take 3) (by rw [List.length_take];omega)
    have b2:=zeN (l:=(l.drop 3).take 3) (by rw [List.length_take];omega)
    have e4':nz (numL ((l.drop 3).take 3))=v4:=e4
    have e15':nz (numL (l.take 3))=v15:=e15
    rw [← e4',← e6] at e9
    have hz:numL ((l.drop 3).take 3)=0:=by
     have:=(zlt b2).symm.trans ((congrArg (· == (0:Int)) e9).trans (e10.trans h11))
     simpa using this
    rw [if_pos hz,← e17,← e15',← e12,zlP b1 (qF (by decide))]
   rw [r0];exact h
  | false =>
   obtain ⟨v12,e12⟩:=LX (nz (numL ((l.drop ((0:Int):Int).toNat).take 3)))
   have s13:0≤(0:Int)∧(0:Int)≤100:=by first | decide | omega
   obtain ⟨v14,e14⟩:=LX (rq (ofX v12 v4))
   obtain ⟨v15,e15⟩:=LX ((ofX v12 v4).isSome)
   let A11:=fun t=>A9 (pB v12.1::pD v12.2::pB v14.1.1::pD v14.1.2::pB v14.2.1::pD v14.2.2::pB v15::t)
   have f11:LA (KN w0) A11:=fun t h=>f9 _ ⟨zc,zm,zc,zm,zc,zm,zc,h⟩
   have T11:LT (KN w0) Tryz.prog A11 zyX:=fun t=>⟨e_fbv h11,zh (zep l (0:Int) v12 e12 s13),zh (zgO v12 v4 v14 v15 e14 e15),T9 _⟩
   refine Fun.fin (r:=.o (.g [pB v14.1.1,pD v14.1.2,pB v14.2.1,pD v14.2.2])) (zq (zr (F:=FL (A11 []) []) (C:=zyX) (k:=⟨68,[yh 0],[],.o (.g [.h 11,.h 12,.h 13,.h 14]),[]⟩) 0 (zg (f11 [] trivial)) (T11 []) mixed (by kernel_rfl))) (fun v W D h=>?_)
   have r0:r=v14:=by
    rw [← hr]
    unfold madeR
    have dh3:=LE e2 h3
    have hl3:¬ l.length<3:=(by omega)
    rw [if_neg hl3]
    have b1:=zeN (l:=l.take 3) (by rw [List.length_take];omega)
    have b2:=zeN (l:=(l.drop 3).take 3) (by rw [List.length_take];omega)
    have e4':nz (numL ((l.drop 3).take 3))=v4:=e4
    have e12':nz (numL (l.take 3))=v12:=e12
    rw [← e4',← e6] at e9
    have hz:numL ((l.drop 3).take 3)≠0:=by
     have:=(zlt b2).symm.trans ((congrArg (· == (0:Int)) e9).trans (e10.trans h11))
     simpa using this
    rw [if_neg hz,← e14,← e12',← e4',zlP b1 b2]
   rw [r0];exact h
end Go.Proofs.YtjcegdldgjphiaaGreatDoor
namespace Go.Proofs.YtjcegdldgjphiaaGreatDoor
open Go.RowKit Go.Shelf
end Go.Proofs.YtjcegdldgjphiaaGreatDoor
