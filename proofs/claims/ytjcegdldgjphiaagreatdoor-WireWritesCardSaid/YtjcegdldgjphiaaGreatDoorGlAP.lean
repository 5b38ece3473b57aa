/-
  Merged: RtRefX, RtRefP, RtT, RtA, RtB, RtC, RtD, RtE, RtF, RtG, RtH.
-/
import Derived.Test.YtjcegdldgjphiaaGreatDoorGlAN
import Derived.Lib.SlBytesRow
import Derived.Test.YtjcegdldgjphiaaGreatDoorGlAA
import Derived.Test.YtjcegdldgjphiaaGreatDoorGlAO
set_option linter.unusedSimpArgs false
set_option linter.unusedVariables false
set_option maxRecDepth 100000
set_option maxHeartbeats 4000000
namespace Go.Proofs.YtjcegdldgjphiaaGreatDoor
open Go.RowKit Go.Shelf
def PB (W:World) (g:Nat) (o:List Nat):Prop:=∃rest:List Value,W.heap[g]?=some (.cells (u32s o++rest).toArray 123 (0,0))
theorem PB.lt {W:World} {g:Nat} {o:List Nat} (h:PB W g o):g<W.heap.size:=by obtain ⟨r,h⟩:=h;exact qy h
theorem PB.cell {W:World} {g k:Nat} {o:List Nat} (h:PB W g o) (hk:k<o.length):W.cell? ⟨g,k,none⟩=some (.int .u32 (dg o k:Nat)):=by
 obtain ⟨r,h⟩:=h
 rw [qF h,zay hk]
 simp [u32s,hk,List.getElem?_append]
theorem PB.frozen {W:World} {g:Nat} {o:List Nat} (h:PB W g o) (k:Nat):W.frozen? ⟨g,k,none⟩=false:=by obtain ⟨r,h⟩:=h;exact q7 h
theorem PB.set {W:World} {g k d:Nat} {o:List Nat} (h:PB W g o) (hk:k<o.length):PB (W.setCell ⟨g,k,none⟩ (.int .u32 (d:Nat))) g (o.set k d):=by
 obtain ⟨r,h⟩:=h
 refine ⟨r,?_⟩
 simp only [World.setCell,Array.getElem?_modify,h,if_true,Option.map_some]
 congr 2
 apply Array.toList_inj.1
 simp [u32s,List.map_set,hk]
theorem PB.below {W W1:World} {g:Nat} {o:List Nat} (h:PB W g o) (hb:Below W.heap.size W W1):PB W1 g o:=by
 obtain ⟨r,h2⟩:=h
 exact ⟨r,(hb.block g (qy h2)).trans h2⟩
theorem PB.alloc_ {W:World} {g:Nat} {o:List Nat} (h:PB W g o) (x:Obj):PB (W.alloc x) g o:=h.below ((Below.refl _ _).alloc (Nat.le_refl _) x)
theorem PB.take {W:World} {g:Nat} {o:List Nat} (h:PB W g o) (k:Nat):PB W g (o.take k):=by
 obtain ⟨r,h⟩:=h
 refine ⟨u32s (o.drop k)++r,?_⟩
 rw [← List.append_assoc,show u32s (o.take k)++u32s (o.drop k)=u32s o by unfold u32s;rw [← List.map_append,List.take_append_drop]]
 exact h
theorem PB.trim {W:World} {g:Nat} {o:List Nat} (h:PB W g o) (hd:Dig o):PB W g (digs (nval o)):=by
 have:=h.take (trimL o).length
 rwa [zdC,zdB hd] at this
theorem PB.sl {W:World} {g c:Nat} {o:List Nat} (h:PB W g o) (hd:Dig o) (hc:o.length≤c) (hm:c≤9223372036854775807):Sl W W.heap.size (some ⟨g,0,none⟩) o.length c o:=by
 refine ⟨⟨⟨by simp [zR],fun _=>⟨_,rfl,h.lt,fun j u hu=>?_⟩⟩,hd⟩,hc,hm⟩
 have e:(⟨g,0,none⟩:Addr).add j=⟨g,j,none⟩:=by unfold Addr.add;split<;>simp [*]
 have hj:j<o.length:=by
  have:=(List.getElem?_eq_some_iff.1 hu).1
  rwa [zR] at this
 rw [e,h.cell hj,zhU hu hj,zay hj]
theorem PB.of_own {W:World} {base g n cap:Nat} {l:List Nat} (h:OwnD W base (.slice (some ⟨g,0,none⟩) n cap) l) (hn:n=l.length):PB W g l∧base≤g∧n≤cap∧cap≤9223372036854775807:=by
 subst hn
 obtain ⟨⟨h1,h2⟩,hd⟩:=h
 rcases h2 with ⟨e,_⟩ | ⟨g',cap',cur,e,hb,hg,hn,hc,hs,ht⟩
 ·cases e
 ·cases e
  refine ⟨⟨cur.toList.drop (l.length*1),?_⟩,hb,hn,hc⟩
  rw [hg]
  congr 2
  apply Array.toList_inj.1
  rw [← ht]
  simp
theorem zsV {a b:List Nat} {j:Nat} (h:a.take (j+1)=b.take (j+1)):dg a j=dg b j:=by
 unfold dg
 have h1:(a.take (j+1))[j]?=(b.take (j+1))[j]?:=by rw [h]
 rw [List.getElem?_take_of_lt (Nat.lt_succ_self j),List.getElem?_take_of_lt (Nat.lt_succ_self j)] at h1
 rw [List.getD_eq_getElem?_getD,List.getD_eq_getElem?_getD,h1]
theorem zqw {w:World} {A:Option Addr} {n c:Nat} {l:List Nat} (neg:Bool) (h:Sl w w.heap.size A n c l) (b:Bool) (hb:zq neg l=b) (W:World) (hW:Below w.heap.size w W) :
  Calls Tryz.prog 75 #[.agg #[.bool neg,.slice A n c]] W fun e w'=>e=.returned (.bool b)∧Below W.heap.size W w':=by
 subst hb
 exact ze6 neg A n c w.heap.size l W (h.below hW).1 hW.size h.2.1
theorem ztm (neg:Bool) {A:Option Addr} {n c B:Nat} {l:List Nat} {w:World} (h:Sl w B A n c l) (hB:B≤w.heap.size) (h1:zq neg l=false) :
  Calls Tryz.prog 79 #[.agg #[.bool neg,.slice A n c]] w fun e w'=>e=.returned (.string ⟨#[]⟩)∧Below w.heap.size w w':=by
 have R1:=Lib.hid (zqw neg (h.more hB) false h1)
 have s0:=S1.start (w:=w) (neg:=neg) (A:=A) (n:=n) (c:=c)
 clear h h1
 go_enter Tryz.func79,Tryz.ntmps79
 go_wp2_with (go_at_call 75;refine (R1.out _ s0.below).mono ?_;rintro e w1 ⟨rfl,hb⟩;have s1:=s0.via hb;obtain ⟨a0,a1⟩:=s1.facts)
 go_ret
 exact ⟨rfl,s1.below⟩
attribute [local go_sem] bapp
theorem zso (neg:Bool) {A:Option Addr} {n c B:Nat} {l:List Nat} {w:World} (h:Sl w B A n c l) (hB:B≤w.heap.size) (h1:zq neg l=true) :
  Calls Tryz.prog 79 #[.agg #[.bool neg,.slice A n c]] w fun e w'=>e=.returned (.string ⟨(Lib.itoa (sgn neg (nval l))).toArray⟩)∧Below w.heap.size w w':=by
 have R1:=Lib.hid (zqw neg (h.more hB) true h1)
 have hl:=zJ h1 h.dig
 have hlb:nval l<big:=(qK hl.1).1 hl.2.1
 have hz:Hid (nval l=0→neg=false):=Lib.hid fun h0=>hl.2.2 (qL hl.1 h0)
 have H:=Lib.hid (h.more hB)
 have s0:=S1.start (w:=w) (neg:=neg) (A:=A) (n:=n) (c:=c)
 have hd:l=digs (nval l):=zbz hl.1
 obtain ⟨v,hv⟩:∃v,nval l=v:=⟨_,rfl⟩
 rw [hv] at hd hz hlb ⊢
 subst hd
 have hn64:=zhy h hlb
 obtain ⟨i0,hi,hz0,hz1,hz2⟩:=info_parts Tryz.infoU32
 clear h1 hl hv
 by_cases hv0:v=0
 ·obtain rfl:neg=false:=hz.out hv0
  have hn0:((n:Int) == 0)=true:=by have:=(zab h).2 hv0;simp;omega
  clear h hz
  go_enter Tryz.func79,Tryz.ntmps79
  go_wp2_with (go_at_call 75;refine (R1.out _ s0.below).mono ?_;rintro e w1 ⟨rfl,hb⟩;have s1:=s0.via hb;obtain ⟨a0,a1⟩:=s1.facts)
  go_ret
  have e0:Lib.itoa (sgn false 0)=[48]:=by rw [show sgn false 0=0 from rfl,Lib.itoa,if_neg (by omega)];exact zcd
  exact ⟨by subst hv0;rw [e0];rfl,s1.below⟩
 ·have hn0:((n:Int) == 0)=false:=by have:=(zab h).1;simp;omega
  have hnp:0<n:=by have:=(zab h).1;omega
  obtain ⟨ad,rfl,_⟩:=h.at_ (k:=0) hnp
  have hlen:=h.len
  clear h hz
  go_enter Tryz.func79,Tryz.ntmps79
  go_upto_region 6 with (go_at_call 75;refine (R1.out _ s0.below).mono ?_;rintro e w1 ⟨rfl,hb⟩;have s1:=s0.via hb;clear hb;obtain ⟨a0,a1⟩:=s1.facts)
  have b0:Below w1.heap.size w1 (w1.alloc (.cells #[] 123)):=(Below.refl _ _).alloc (Nat.le_refl _) _
  have hs1:=s1.size
  obtain ⟨a2,a3⟩:=(s1.via b0).facts
  have hown:(w1.alloc (.cells #[] 123)).ownsRow (w.heap.size+1) 123 1 (.slice (some ⟨w1.heap.size,0,none⟩) 0 0) 0 []:=⟨rfl,.inr ⟨w1.heap.size,0,#[],rfl,hs1,zy _ _ _ rfl,Nat.le_refl _,by decide,rfl,rfl⟩⟩
  have hnews:=((H.out.below s1.below).below (b0.mono s1.below.size)).news hnp
  have hnl:(u32s (digs v)).length=n*1:=by rw [zR,hlen,Nat.mul_one]
  have hmx:0+n≤maxLen:=by unfold maxLen;omega
  have hby2:(0+n)*4≤140737488355328:=by omega
  have hbs:w.heap.size+1≤(w1.alloc (.cells #[] 123)).heap.size:=by simp;omega
  go_wp2_with (first
   | (at_builtin;go_loud (refine wpList_append_lies _ rfl _ _ 28 rfl (w.heap.size+1) 123 i0 (.int .u32 0) 1 4 Tryz.underlying28 hi hz0 hz1 hz2 rfl (by decide) _ _ _ rfl hown ad n c (u32s (digs v)) rfl hnl hnews zkl hnp hmx hby2 hbs _ rfl ?_;intro g cap w2 hown' hgrow _ hlt;have s2:S1 w neg (some ad) n c w2:=zc4 (s1.via b0) hgrow hbs hs1;have hP:=Lib.hid (PB.of_own (n:=n) (l:=digs v) ⟨by rw [hlen];rw [Nat.zero_add] at hown';exact hown',(z1 v).1⟩ hlen.symm);clear hown' hgrow))
   | fail "no arm")
  clear hown hnews hnl hmx hby2 hbs hs1 a0 a1 a2 a3 b0
  go_loopw [3,4] (fun x y wr=>∃t g c3 p n3,x=.string ⟨List.toArray t⟩∧y=.slice (some ⟨g,0,none⟩) n3 c3∧S1 w neg (some ad) n c wr∧w.heap.size+1≤g∧n3≤c3∧c3≤9223372036854775807∧Hid (PB wr g (digs p)∧(digs p).length=n3∧p<big∧dd v=dd p++t)) (fun _ y wr=>slv wr y)
  case atStart=>exact ⟨[],g,cap,v,n,rfl,rfl,s2,hP.out.2.1,hP.out.2.2.1,hP.out.2.2.2,Lib.hid ⟨hP.out.1,hlen,hlb,by simp⟩⟩
  case round =>
   clear hP s2 s1 s0 R1 hlen
   obtain ⟨t,g,c3,p,n3,rfl,rfl,sr,hg,hc3,hm3,hI⟩:=hrel
   have hsl:=Lib.hid (hI.out.1.sl (z1 p).1 (by rw [hI.out.2.1];exact hc3) hm3)
   rw [hI.out.2.1] at hsl
   have h64:=zhy hsl.out hI.out.2.2.1
   have htl:=znE hlb hI.out.2.2.2
   by_cases hbr:(0:Int)<n3
   ·have hp0:p≠0:=fun e=>by have:=(zab hsl.out).2 e;omega
    have hmeas:Hid (slv wr (.slice (some ⟨g,0,none⟩) n3 c3)=p):=Lib.hid (by rw [zdA hsl.out,zp])
    obtain ⟨wo,hwo⟩:∃wo:World,wo=wr:=⟨_,rfl⟩
    subst hwo
    have hIo:=hI
    go_wp2_with fail
    go_loopw [5,6] (fun x y wr=>∃(j r:Nat) (z:Int) (o:List Nat),j≤n3∧r<10∧x=.int .u64 r∧y=.int .i64 z∧z=(j:Int) - 1∧S1 w neg (some ad) n c wr∧Hid (PB wr g o∧o.length=n3∧Dig o∧o.take j=(digs p).take j∧nval ((digs p).drop j)=nval (o.drop j)*10+r)) (fun _ y _=>(intOf y+1).toNat)
    case atStart=>exact ⟨n3,0,_,digs p,by omega,by omega,rfl,rfl,rfl,sr,Lib.hid ⟨hI.out.1,hI.out.2.1,(z1 p).1,rfl,by rw [← hI.out.2.1];simp [nval]⟩⟩
    case round =>
     clear sr hI hsl
     obtain ⟨j,r,z,o,hj,hr,rfl,rfl,hz,sr,hI⟩:=hrel
     cases j with
     | zero =>
      obtain rfl:z=-1:=by omega
      clear hz
      have hcv:(convert 43 9 (.slice (some ⟨wr.heap.size,0,none⟩) 1 1)).run Tryz.prog (wr.alloc (.cells #[.int .u8 (48+(r:Int))] 5))=.ok (.string ⟨#[db r]⟩) (wr.alloc (.cells #[.int .u8 (48+(r:Int))] 5)):=
       Go.Lib.run_convert_whole _ 43 5 9 (by kernel_rfl) (by kernel_rfl) (by kernel_rfl) wr.heap.size 0 ⟨#[db r]⟩ (fun i hi=>by obtain rfl:i=0:=(by have h5:i<1:=hi;omega);exact (show (wr.alloc (.cells #[.int .u8 (48+(r:Int))] 5)).cell? ⟨wr.heap.size,0+0,none⟩=some (.int .u8 (48+(r:Int))) by simp).trans (show some (Value.int .u8 (48+(r:Int)))=some (Value.int .u8 (((db r).toNat:Nat):Int)) by rw [zho hr];rfl)) 1
      have htl2:(1:Int)+t.length≤9223372036854775807:=by omega
      have hslz:=Lib.hid ((hI.out.1.alloc_ (.cells #[.int .u8 (48+(r:Int))] 5)).sl hI.out.2.2.1 (by rw [hI.out.2.1];exact hc3) hm3)
      rw [hI.out.2.1] at hslz
      go_wp2_with (go_at_call 107;refine (zao _ _ _ _ _ _ hslz.out.1 hslz.out.2.1 hslz.out.2.2).mono ?_;rintro e w' ⟨rfl,rfl⟩)
      obtain ⟨i1,i2,i3,_,i5⟩:=hI.out
      rw [List.drop_zero,List.drop_zero,zp] at i5
      have hle:(trimL o).length≤n3:=by rw [← i2];exact zb5 o
      have hpb:=(i1.alloc_ (.cells #[.int .u8 (48+(r:Int))] 5)).trim i3
      have hd10:p / 10=nval o:=by omega
      have hm10:p%10=r:=by omega
      refine ⟨⟨db r::t,g,c3,nval o,(trimL o).length,rfl,rfl,sr.via ((Below.refl _ _).alloc (Nat.le_refl _) _),hg,by omega,hm3,Lib.hid ⟨hpb,by rw [zdB i3],by have:=hIo.out.2.2.1;omega,?_⟩⟩,?_⟩
      ·rw [hIo.out.2.2.2,zdn hp0,hd10,hm10,List.append_assoc]
       rfl
      ·rw [zdB i3,zdA (hpb.sl (z1 _).1 (by rw [← zdB i3];omega) hm3),hmeas.out,zp]
       omega
     | succ j =>
      obtain rfl:z=(j:Int):=by omega
      clear hz
      have hcg:=hI.out.1.cell (k:=j) (by rw [hI.out.2.1];omega)
      have hfg:=hI.out.1.frozen j
      have hd1:=dg_lt hI.out.2.2.1 j
      have hlt:=hI.out.1.lt
      obtain ⟨x,hx⟩:∃x,dg o j=x:=⟨_,rfl⟩
      rw [hx] at hcg hd1
      obtain ⟨q,hq⟩:∃q,(r*4294967296+x) / 10=q:=⟨_,rfl⟩
      obtain ⟨r',hr'⟩:∃r',(r*4294967296+x)%10=r':=⟨_,rfl⟩
      have hql:q<4294967296:=by omega
      have hrl:r'<10:=by omega
      have eq1:((r:Int)*4294967296+x) / 10=(q:Int):=by omega
      have er1:((r:Int)*4294967296+x)%10=(r':Int):=by omega
      have hwo:=Lib.hid hI.out
      go_wp2_with fail
      obtain ⟨i1,i2,i3,i4,i5⟩:=hwo.out
      refine ⟨⟨j,r',_,o.set j q,by omega,hrl,by rw [er1],rfl,rfl,Below.setCell sr (p:=⟨g,j,none⟩) hg _,Lib.hid ⟨i1.set (by omega),by simpa using i2,qk i3 hql,?_,?_⟩⟩,?_⟩
      ·rw [List.take_set_of_le (Nat.le_refl _)]
       have:=congrArg (List.take j) i4
       rwa [List.take_take,List.take_take,Nat.min_eq_left (Nat.le_succ j)] at this
      ·rw [zU,zbm _ _ _ (by omega),← zsV i4,hx,i5]
       have h10:r*4294967296+x=q*10+r':=by omega
       rw [Nat.add_mul,Nat.mul_add,Nat.mul_assoc 4294967296]
       omega
      ·simp only [intOf]
       omega
   ·have hp0:p=0:=(zab hsl.out).1 (by omega)
    have htv:Hid (t=dd v):=by
     have:=hI.out.2.2.2
     rw [hp0,zax,List.nil_append] at this
     exact Lib.hid this.symm
    obtain ⟨a0,a1⟩:=sr.facts
    have hit:Hid (∀b:Bool,Lib.itoa (sgn b v)=if b then 45::t else t):=by
     intro b
     cases b
     ·rw [show sgn false v=(v:Int) from rfl,Lib.itoa,if_neg (by omega),Int.toNat_natCast,zdm v hv0,htv.out];rfl
     ·rw [show sgn true v=-(v:Int) from rfl,Lib.itoa,if_pos (by omega),Int.natAbs_neg,Int.natAbs_natCast,zdm v hv0,htv.out];rfl
    clear hv0 htv hp0 hI hsl
    cases neg
    ·go_wp2_with fail
     go_ret
     exact ⟨by rw [hit.out];rfl,sr.below⟩
    ·go_wp2_with fail
     go_ret
     exact ⟨by rw [hit.out];rfl,sr.below⟩
theorem zsn (neg:Bool) {A:Option Addr} {n c B:Nat} {l:List Nat} {w:World} (h:Sl w B A n c l) (hB:B≤w.heap.size) :
  Calls Tryz.prog 79 #[.agg #[.bool neg,.slice A n c]] w fun e w'=>e=.returned (.string ⟨(textS neg l).toArray⟩)∧Below w.heap.size w w':=by
 cases h1:zq neg l with
 | false=>rw [show textS neg l=[] by unfold textS;rw [h1];rfl];exact ztm neg h hB h1
 | true=>rw [show textS neg l=Lib.itoa (sgn neg (nval l)) by unfold textS;rw [h1];rfl];exact zso neg h hB h1
end Go.Proofs.YtjcegdldgjphiaaGreatDoor
namespace Go.Proofs.YtjcegdldgjphiaaGreatDoor
open Go.RowKit Go.Shelf
def HoldsS (u:Value) (W:World) (l:List Nat):Prop:=∃A n c,u=.slice A n c∧Sl W W.heap.size A n c l
theorem HoldsS.via {u:Value} {W W1:World} {l:List Nat} (h:HoldsS u W l) (hb:Below W.heap.size W W1):HoldsS u W1 l:=by
 obtain ⟨A,n,c,e,hs⟩:=h
 exact ⟨A,n,c,e,hs.via hb⟩
attribute [local go_sem] bapp
end Go.Proofs.YtjcegdldgjphiaaGreatDoor
namespace Go.Proofs.YtjcegdldgjphiaaGreatDoor
open Go.RowKit Go.Shelf
theorem zh6 {v:Nat} (h:v≠0):0<(dd v).length:=by rw [zdn h];simp
theorem zn7:∀v:Nat,v≠0→10 ^ ((dd v).length - 1)≤v:=by
 intro v
 induction v using Nat.strongRecOn with
 | _ v ih =>
  intro h
  rw [zdn h,List.length_append,List.length_singleton,Nat.add_sub_cancel]
  by_cases h2:v<10
  ·rw [show v / 10=0 by omega,zax];simp;omega
  ·have h3:v / 10≠0:=by omega
   have h4:=ih (v / 10) (by omega) h3
   have h5:=zh6 h3
   rw [show (dd (v / 10)).length=((dd (v / 10)).length - 1)+1 by omega,Nat.pow_succ]
   omega
theorem zh7 {v:Nat} (h:v<big):(Lib.decDigits v).length≤641:=by
 by_cases h0:v=0
 ·subst h0;rw [zcd];simp
 ·rw [zdm v h0]
  have h1:=zn7 v h0
  have h2:=Nat.lt_of_le_of_lt h1 (Nat.lt_trans h zgb)
  have:=(Nat.pow_lt_pow_iff_right (a:=10) (by decide)).1 h2
  omega
theorem zbr {neg:Bool} {l:List Nat} (hd:Dig l):(textS neg l).length≤642:=by
 unfold textS
 split
 ·rename_i h
  have h1:=zJ h hd
  have hb:nval l<big:=(qK h1.1).1 h1.2.1
  have h2:=zh7 hb
  cases neg
  ·rw [show sgn false (nval l)=(nval l:Int) from rfl,Lib.itoa,if_neg (by omega),Int.toNat_natCast];omega
  ·by_cases h0:nval l=0
   ·rw [h0,show sgn true 0=0 from rfl,Lib.itoa,if_neg (by omega),show (0:Int).toNat=0 from rfl,zcd];simp
   ·rw [show sgn true (nval l)=-(nval l:Int) from rfl,Lib.itoa,if_pos (by omega),Int.natAbs_neg,Int.natAbs_natCast,List.length_cons];omega
 ·simp
section
variable {K:Kit} {P:Program} {f:FuncId} {res:PSh}
theorem zmw {l:List Nat} {v:Value} {W:World} {D:Dat} (h:pD l v W D):Dig l:=by obtain ⟨_,_,_,_,hs⟩:=h;exact hs.dig
theorem zmr {x:RR} {v:Value} {W:World} {D:Dat} (h:(gR x).ok v W D):Dig x.1.2∧Dig x.2.2:=by
 obtain ⟨vs,_,h1⟩:=h
 match vs.toList,h1 with
 | [a,b,c,d],⟨_,h2,_,h4,_⟩=>exact ⟨zmw h2,zmw h4⟩
 | [],h=>exact h.elim
 | [_],h=>exact h.2.elim
 | [_,_],h=>exact h.2.2.elim
 | [_,_,_],h=>exact h.2.2.2.elim
 | _::_::_::_::_::_,h=>exact h.2.2.2.2.elim
theorem zk7 {x:RR} {r:List PSh} (h:Dig x.1.2→Dig x.2.2→Fun K P f (gR x::r) res):Fun K P f (gR x::r) res:=by
 intro W D vs hs hf
 match vs,hs with
 | v::us,hs=>exact h (zmr hs.1).1 (zmr hs.1).2 W D (v::us) hs hf
 | [],h=>exact h.elim
end
theorem oka1 {p:PSh} {vs:List Value} {W:World} {D:Dat} (h:oka [p] vs W D):∃v,vs=[v]∧p.ok v W D:=by
 match vs,h with
 | [v],h=>exact ⟨v,rfl,h.1⟩
 | [],h=>exact h.elim
 | _::_::_,h=>exact h.2.elim
theorem gN_ok {x:Raw} {v:Value} {W:World} {D:Dat} (h:(gN x).ok v W D):∃A n c,v=.agg #[.bool x.1,.slice A n c]∧Sl W W.heap.size A n c x.2:=by
 obtain ⟨vs,rfl,h1⟩:=h
 match hv:vs.toList,h1 with
 | [a,b],⟨h1,h2,_⟩ =>
  obtain ⟨A,n,c,e,hs⟩:=h2
  have e1:a=.bool x.1:=h1
  exact ⟨A,n,c,by rw [← Array.toArray_toList (xs:=vs),hv,e1,e],hs⟩
 | [],h=>exact h.elim
 | [_],h=>exact h.2.elim
 | _::_::_::_,h=>exact h.2.2.elim
theorem Kept.of {K:Kit} {W W':World} {D:Dat} (hf:Fit K W D) (h:Below W.heap.size W W'):Kept W D W' D:=⟨h,fun _ h=>h,fun _ h=>.inl h,fun q hq=>Nat.lt_of_lt_of_le (hf.dlt q hq) h.size⟩
theorem zqn {w0:World} (x:Raw) (t:List UInt8) (ht:textS x.1 x.2=t):Fun (KN w0) Tryz.prog 79 [gN x] (.o (.c (pS t))):=by
 subst ht
 intro W D vs hs hf
 obtain ⟨v,rfl,hv⟩:=oka1 hs
 obtain ⟨A,n,c,rfl,h2⟩:=gN_ok hv
 refine (zsn _ h2 (Nat.le_refl _)).mono fun e W' hr=>?_
 obtain ⟨rfl,hb⟩:=hr
 exact ⟨_,D,rfl,rfl,Kept.of hf hb⟩
end Go.Proofs.YtjcegdldgjphiaaGreatDoor
namespace Go.Proofs.YtjcegdldgjphiaaGreatDoor
open Go.RowKit Go.Shelf
theorem zaL {p:Pred} {v:Value} {W:World} {D:Dat} (h:(PSh.t [.g [pV (.bool false),pV (.slice none 0 0),pV (.bool false),pV (.slice none 0 0)],.c p]).ok v W D):(PSh.t [.g (cN (rq none).1++cN (rq none).2),.c p]).ok v W D:=by
 obtain ⟨vs,e,h1⟩:=h
 refine ⟨vs,e,?_⟩
 match vs.toList,h1 with
 | [a,b],⟨h1,h2,_⟩=>exact ⟨zhZ h1,h2,trivial⟩
 | [],h=>exact h.elim
 | [_],h=>exact h.2.elim
 | _::_::_::_,h=>exact h.2.2.elim
def textR (x:RR):List UInt8:=if rrX x.1 x.2=true then (if cmpX x.2 (nz 1)=0 then textS x.1.1 x.1.2 else textS x.1.1 x.1.2++[47]++textS x.2.1 x.2.2) else []
theorem zib {w0:World} (x:RR) (hT:∀W,Below w0.heap.size w0 W→PowT w0.heap.size W) (v1:Bool) (v2:Bool) (e1:(rrX x.1 x.2)=v1) (e2:(!v1)=v2) (h3:v2=true):Fun (KN w0) Tryz.prog 47 [.o (.g [pB x.1.1,pD x.1.2,pB x.2.1,pD x.2.2])] (.o (.c (pV (.string ⟨#[]⟩)))):=
 zi (zl (F:=FL [pB x.1.1,pD x.1.2,pB x.2.1,pD x.2.2,pB v1,pB v2] []) (C:=[(1000003,.call ⟨46,[.o (.g [.h 0,.h 1,.h 2,.h 3])],[],yh 4,[]⟩),
  (1000004,.un .not (yh 4) (yh 5)),
  (10005,.fb 5 true)]) (k:=⟨47,[.o (.g [.h 0,.h 1,.h 2,.h 3])],[],.o (.c (.k (.string ⟨#[]⟩))),[]⟩) 0 (zf ⟨zb,zj,zb,zj,zb,zb,trivial⟩) ⟨ze (qq x v1 e1),
  e_un (za rfl) (za rfl) (fun W=>by rw [← e2];exact r_not W),
  e_fbv h3,
  trivial⟩ mixed (by kernel_rfl))
theorem zic {w0:World} (x:RR) (hT:∀W,Below w0.heap.size w0 W→PowT w0.heap.size W) (v1:Bool) (v2:Bool) (v4:Raw) (v5:Int) (v6:Bool) (v8:(List UInt8)) (e1:(rrX x.1 x.2)=v1) (e2:(!v1)=v2) (e4:(nz 1)=v4) (e5:(cmpX x.2 v4)=v5) (e6:((v5 == (0:Int)))=v6) (e8:(textS x.1.1 x.1.2)=v8) (h3:v2=false) (h7:v6=true):Fun (KN w0) Tryz.prog 47 [.o (.g [pB x.1.1,pD x.1.2,pB x.2.1,pD x.2.2])] (.o (.c (pS v8))):=
 zi (zl (F:=FL [pB x.1.1,pD x.1.2,pB x.2.1,pD x.2.2,pB v1,pB v2,pB v4.1,pD v4.2,pI v5,pB v6,pS v8] []) (C:=[(1000003,.call ⟨46,[.o (.g [.h 0,.h 1,.h 2,.h 3])],[],yh 4,[]⟩),
  (1000004,.un .not (yh 4) (yh 5)),
  (10005,.fb 5 false),
  (1000008,.call ⟨73,[],[],.o (.g [.h 6,.h 7]),[]⟩),
  (1000009,.call ⟨70,[.o (.g [.h 2,.h 3]),.o (.g [.h 6,.h 7])],[],yh 8,[]⟩),
  (1000010,.bin .eql 3 (yh 8) (LF (.k (.int .i64 0))) (yh 9)),
  (10009,.fb 9 true),
  (1000014,.call ⟨74,[.o (.g [.h 0,.h 1])],[],yh 10,[]⟩)]) (k:=⟨47,[.o (.g [.h 0,.h 1,.h 2,.h 3])],[],yh 10,[]⟩) 0 (zf ⟨zb,zj,zb,zj,zb,zb,zb,zj,zb,zb,zb,trivial⟩) ⟨ze (qq x v1 e1),
  e_un (za rfl) (za rfl) (fun W=>by rw [← e2];exact r_not W),
  e_fbv h3,
  ze (f_one  v4 e4),
  ze (f_cmp x.2 v4 v5 e5),
  e_bin (za rfl) zd (za rfl) (r_cmp (congrArg some e6)),
  e_fbv h7,
  ze (zju hT x.1 v8 e8),
  trivial⟩ mixed (by kernel_rfl))
theorem zid {w0:World} (x:RR) (hT:∀W,Below w0.heap.size w0 W→PowT w0.heap.size W) (v1:Bool) (v2:Bool) (v4:Raw) (v5:Int) (v6:Bool) (v8:(List UInt8)) (v9:(List UInt8)) (v11:(List UInt8)) (v12:(List UInt8)) (e1:(rrX x.1 x.2)=v1) (e2:(!v1)=v2) (e4:(nz 1)=v4) (e5:(cmpX x.2 v4)=v5) (e6:((v5 == (0:Int)))=v6) (e8:(textS x.1.1 x.1.2)=v8) (e9:(v8++[47])=v9) (e11:(textS x.2.1 x.2.2)=v11) (e12:(v9++v11)=v12) (h3:v2=false) (h7:v6=false) (s10:(((v8:List UInt8).length+([47]:List UInt8).length:Nat):Int)≤9223372036854775807) (s13:(((v9:List UInt8).length+(v11:List UInt8).length:Nat):Int)≤9223372036854775807):Fun (KN w0) Tryz.prog 47 [.o (.g [pB x.1.1,pD x.1.2,pB x.2.1,pD x.2.2])] (.o (.c (pS v12))):=
 zi (zl (F:=FL [pB x.1.1,pD x.1.2,pB x.2.1,pD x.2.2,pB v1,pB v2,pB v4.1,pD v4.2,pI v5,pB v6,pS v8,pS v9,pS v11,pS v12] []) (C:=[(1000003,.call ⟨46,[.o (.g [.h 0,.h 1,.h 2,.h 3])],[],yh 4,[]⟩),
  (1000004,.un .not (yh 4) (yh 5)),
  (10005,.fb 5 false),
  (1000008,.call ⟨73,[],[],.o (.g [.h 6,.h 7]),[]⟩),
  (1000009,.call ⟨70,[.o (.g [.h 2,.h 3]),.o (.g [.h 6,.h 7])],[],yh 8,[]⟩),
  (1000010,.bin .eql 3 (yh 8) (LF (.k (.int .i64 0))) (yh 9)),
  (10009,.fb 9 false),
  (1000014,.call ⟨74,[.o (.g [.h 0,.h 1])],[],yh 10,[]⟩),
  (1000015,.bin .add 9 (yh 10) (LF (.k (.string ⟨#[47]⟩))) (yh 11)),
  (1000018,.call ⟨74,[.o (.g [.h 2,.h 3])],[],yh 12,[]⟩),
  (1000019,.bin .add 9 (yh 11) (yh 12) (yh 13))]) (k:=⟨47,[.o (.g [.h 0,.h 1,.h 2,.h 3])],[],yh 13,[]⟩) 0 (zf ⟨zb,zj,zb,zj,zb,zb,zb,zj,zb,zb,zb,zb,zb,zb,trivial⟩) ⟨ze (qq x v1 e1),
  e_un (za rfl) (za rfl) (fun W=>by rw [← e2];exact r_not W),
  e_fbv h3,
  ze (f_one  v4 e4),
  ze (f_cmp x.2 v4 v5 e5),
  e_bin (za rfl) zd (za rfl) (r_cmp (congrArg some e6)),
  e_fbv h7,
  ze (zju hT x.1 v8 e8),
  e_bin (za rfl) zd (za rfl) (fun W X Y=>by rw [← e9];exact r_cat s10 W X Y),
  ze (zju hT x.2 v11 e11),
  e_bin (za rfl) (za rfl) (za rfl) (fun W X Y=>by rw [← e12];exact r_cat s13 W X Y),
  trivial⟩ mixed (by kernel_rfl))
theorem zcu {w0:World} (hT:∀W,Below w0.heap.size w0 W→PowT w0.heap.size W) (x:RR) (t:List UInt8) (ht:textR x=t):Fun (KN w0) Tryz.prog 47 [.o (.g [pB x.1.1,pD x.1.2,pB x.2.1,pD x.2.2])] (.o (.c (pS t))):=by
 refine zk7 fun d1 d2=>?_
 obtain ⟨v1,e1⟩:∃v,(rrX x.1 x.2)=v:=⟨_,rfl⟩
 obtain ⟨v2,e2⟩:∃v,(!v1)=v:=⟨_,rfl⟩
 cases h3:v2 with
 | true =>
  refine Fun.imp (zib x hT v1 v2 e1 e2 h3) (fun _ _ _ h=>h) (fun v W D h=>?_)
  have r0:t=[]:=by
   subst_vars
   simp_all [textR]
  rw [r0];exact h
 | false =>
  obtain ⟨v4,e4⟩:∃v,(nz 1)=v:=⟨_,rfl⟩
  obtain ⟨v5,e5⟩:∃v,(cmpX x.2 v4)=v:=⟨_,rfl⟩
  obtain ⟨v6,e6⟩:∃v,((v5 == (0:Int)))=v:=⟨_,rfl⟩
  cases h7:v6 with
  | true =>
   obtain ⟨v8,e8⟩:∃v,(textS x.1.1 x.1.2)=v:=⟨_,rfl⟩
   refine Fun.imp (zic x hT v1 v2 v4 v5 v6 v8 e1 e2 e4 e5 e6 e8 h3 h7) (fun _ _ _ h=>h) (fun v W D h=>?_)
   have r0:t=v8:=by
    subst_vars
    simp_all [textR]
   rw [r0];exact h
  | false =>
   obtain ⟨v8,e8⟩:∃v,(textS x.1.1 x.1.2)=v:=⟨_,rfl⟩
   obtain ⟨v9,e9⟩:∃v,(v8++[47])=v:=⟨_,rfl⟩
   have s10:(((v8:List UInt8).length+([47]:List UInt8).length:Nat):Int)≤9223372036854775807:=by subst_vars;have:=zbr (neg:=x.1.1) d1;have:=zbr (neg:=x.2.1) d2;simp only [List.length_append,List.length_cons,List.length_nil];omega
   obtain ⟨v11,e11⟩:∃v,(textS x.2.1 x.2.2)=v:=⟨_,rfl⟩
   obtain ⟨v12,e12⟩:∃v,(v9++v11)=v:=⟨_,rfl⟩
   have s13:(((v9:List UInt8).length+(v11:List UInt8).length:Nat):Int)≤9223372036854775807:=by subst_vars;have:=zbr (neg:=x.1.1) d1;have:=zbr (neg:=x.2.1) d2;simp only [List.length_append,List.length_cons,List.length_nil];omega
   refine Fun.imp (zid x hT v1 v2 v4 v5 v6 v8 v9 v11 v12 e1 e2 e4 e5 e6 e8 e9 e11 e12 h3 h7 s10 s13) (fun _ _ _ h=>h) (fun v W D h=>?_)
   have r0:t=v12:=by
    subst_vars
    simp_all [textR]
   rw [r0];exact h
theorem zrd {w0:World} (x:RR) (v1:Bool) (v2:Bool) (e1:(rrX x.1 x.2)=v1) (e2:(!v1)=v2) (h3:v2=true):Fun (KN w0) Tryz.prog 49 [.o (.g [pB x.1.1,pD x.1.2,pB x.2.1,pD x.2.2])] (.o (.c (pV (.string ⟨#[]⟩)))):=
 zi (zl (F:=FL [pB x.1.1,pD x.1.2,pB x.2.1,pD x.2.2,pB v1,pB v2] []) (C:=[(1000003,.call ⟨48,[.o (.g [.h 0,.h 1,.h 2,.h 3])],[],yh 4,[]⟩),
  (1000004,.un .not (yh 4) (yh 5)),
  (10005,.fb 5 true)]) (k:=⟨49,[.o (.g [.h 0,.h 1,.h 2,.h 3])],[],.o (.c (.k (.string ⟨#[]⟩))),[]⟩) 0 (zf ⟨zb,zj,zb,zj,zb,zb,trivial⟩) ⟨ze (zpg x v1 e1),
  e_un (za rfl) (za rfl) (fun W=>by rw [← e2];exact r_not W),
  e_fbv h3,
  trivial⟩ mixed (by kernel_rfl))
theorem zre {w0:World} (x:RR) (v1:Bool) (v2:Bool) (v4:Raw) (v7:Int) (v8:Bool) (v10:(List UInt8)) (e1:(rrX x.1 x.2)=v1) (e2:(!v1)=v2) (e4:(nz (1:Int))=v4) (e7:(cmpX x.2 v4)=v7) (e8:((v7 == (0:Int)))=v8) (e10:(textS x.1.1 x.1.2)=v10) (h3:v2=false) (s5:-9223372036854775808≤(1:Int)) (s6:(1:Int)<9223372036854775808) (h9:v8=true):Fun (KN w0) Tryz.prog 49 [.o (.g [pB x.1.1,pD x.1.2,pB x.2.1,pD x.2.2])] (.o (.c (pS v10))):=
 zi (zl (F:=FL [pB x.1.1,pD x.1.2,pB x.2.1,pD x.2.2,pB v1,pB v2,pB v4.1,pD v4.2,pI v7,pB v8,pS v10] []) (C:=[(1000003,.call ⟨48,[.o (.g [.h 0,.h 1,.h 2,.h 3])],[],yh 4,[]⟩),
  (1000004,.un .not (yh 4) (yh 5)),
  (10005,.fb 5 false),
  (1000007,.call ⟨77,[.o (.c (.k (.int .i64 1)))],[],.o (.g [.h 6,.h 7]),[]⟩),
  (1000008,.call ⟨76,[.o (.g [.h 2,.h 3]),.o (.g [.h 6,.h 7])],[],yh 8,[]⟩),
  (1000009,.bin .eql 3 (yh 8) (LF (.k (.int .i64 0))) (yh 9)),
  (10009,.fb 9 true),
  (1000012,.call ⟨79,[.o (.g [.h 0,.h 1])],[],yh 10,[]⟩)]) (k:=⟨49,[.o (.g [.h 0,.h 1,.h 2,.h 3])],[],yh 10,[]⟩) 0 (zf ⟨zb,zj,zb,zj,zb,zb,zb,zj,zb,zb,zb,trivial⟩) ⟨ze (zpg x v1 e1),
  e_un (za rfl) (za rfl) (fun W=>by rw [← e2];exact r_not W),
  e_fbv h3,
  ze (zpo (1:Int) v4 e4 s5 s6),
  ze (zqi x.2 v4 v7 e7),
  e_bin (za rfl) zd (za rfl) (r_cmp (congrArg some e8)),
  e_fbv h9,
  ze (zqn x.1 v10 e10),
  trivial⟩ mixed (by kernel_rfl))
theorem zrf {w0:World} (x:RR) (v1:Bool) (v2:Bool) (v4:Raw) (v7:Int) (v8:Bool) (v10:(List UInt8)) (v11:(List UInt8)) (v13:(List UInt8)) (v14:(List UInt8)) (e1:(rrX x.1 x.2)=v1) (e2:(!v1)=v2) (e4:(nz (1:Int))=v4) (e7:(cmpX x.2 v4)=v7) (e8:((v7 == (0:Int)))=v8) (e10:(textS x.1.1 x.1.2)=v10) (e11:(v10++[47])=v11) (e13:(textS x.2.1 x.2.2)=v13) (e14:(v11++v13)=v14) (h3:v2=false) (s5:-9223372036854775808≤(1:Int)) (s6:(1:Int)<9223372036854775808) (h9:v8=false) (s12:(((v10:List UInt8).length+([47]:List UInt8).length:Nat):Int)≤9223372036854775807) (s15:(((v11:List UInt8).length+(v13:List UInt8).length:Nat):Int)≤9223372036854775807):Fun (KN w0) Tryz.prog 49 [.o (.g [pB x.1.1,pD x.1.2,pB x.2.1,pD x.2.2])] (.o (.c (pS v14))):=
 zi (zl (F:=FL [pB x.1.1,pD x.1.2,pB x.2.1,pD x.2.2,pB v1,pB v2,pB v4.1,pD v4.2,pI v7,pB v8,pS v10,pS v11,pS v13,pS v14] []) (C:=[(1000003,.call ⟨48,[.o (.g [.h 0,.h 1,.h 2,.h 3])],[],yh 4,[]⟩),
  (1000004,.un .not (yh 4) (yh 5)),
  (10005,.fb 5 false),
  (1000007,.call ⟨77,[.o (.c (.k (.int .i64 1)))],[],.o (.g [.h 6,.h 7]),[]⟩),
  (1000008,.call ⟨76,[.o (.g [.h 2,.h 3]),.o (.g [.h 6,.h 7])],[],yh 8,[]⟩),
  (1000009,.bin .eql 3 (yh 8) (LF (.k (.int .i64 0))) (yh 9)),
  (10009,.fb 9 false),
  (1000012,.call ⟨79,[.o (.g [.h 0,.h 1])],[],yh 10,[]⟩),
  (1000013,.bin .add 9 (yh 10) (LF (.k (.string ⟨#[47]⟩))) (yh 11)),
  (1000016,.call ⟨79,[.o (.g [.h 2,.h 3])],[],yh 12,[]⟩),
  (1000017,.bin .add 9 (yh 11) (yh 12) (yh 13))]) (k:=⟨49,[.o (.g [.h 0,.h 1,.h 2,.h 3])],[],yh 13,[]⟩) 0 (zf ⟨zb,zj,zb,zj,zb,zb,zb,zj,zb,zb,zb,zb,zb,zb,trivial⟩) ⟨ze (zpg x v1 e1),
  e_un (za rfl) (za rfl) (fun W=>by rw [← e2];exact r_not W),
  e_fbv h3,
  ze (zpo (1:Int) v4 e4 s5 s6),
  ze (zqi x.2 v4 v7 e7),
  e_bin (za rfl) zd (za rfl) (r_cmp (congrArg some e8)),
  e_fbv h9,
  ze (zqn x.1 v10 e10),
  e_bin (za rfl) zd (za rfl) (fun W X Y=>by rw [← e11];exact r_cat s12 W X Y),
  ze (zqn x.2 v13 e13),
  e_bin (za rfl) (za rfl) (za rfl) (fun W X Y=>by rw [← e14];exact r_cat s15 W X Y),
  trivial⟩ mixed (by kernel_rfl))
theorem zsY {w0:World} (x:RR) (t:List UInt8) (ht:textR x=t):Fun (KN w0) Tryz.prog 49 [.o (.g [pB x.1.1,pD x.1.2,pB x.2.1,pD x.2.2])] (.o (.c (pS t))):=by
 refine zk7 fun d1 d2=>?_
 obtain ⟨v1,e1⟩:∃v,(rrX x.1 x.2)=v:=⟨_,rfl⟩
 obtain ⟨v2,e2⟩:∃v,(!v1)=v:=⟨_,rfl⟩
 cases h3:v2 with
 | true =>
  refine Fun.imp (zrd x v1 v2 e1 e2 h3) (fun _ _ _ h=>h) (fun v W D h=>?_)
  have r0:t=[]:=by
   subst_vars
   simp_all [textR]
  rw [r0];exact h
 | false =>
  obtain ⟨v4,e4⟩:∃v,(nz (1:Int))=v:=⟨_,rfl⟩
  have s5:-9223372036854775808≤(1:Int):=by first | decide | (subst_vars;have:=zbr (neg:=x.1.1) d1;have:=zbr (neg:=x.2.1) d2;simp only [List.length_append,List.length_cons,List.length_nil];omega)
  have s6:(1:Int)<9223372036854775808:=by first | decide | (subst_vars;have:=zbr (neg:=x.1.1) d1;have:=zbr (neg:=x.2.1) d2;simp only [List.length_append,List.length_cons,List.length_nil];omega)
  obtain ⟨v7,e7⟩:∃v,(cmpX x.2 v4)=v:=⟨_,rfl⟩
  obtain ⟨v8,e8⟩:∃v,((v7 == (0:Int)))=v:=⟨_,rfl⟩
  cases h9:v8 with
  | true =>
   obtain ⟨v10,e10⟩:∃v,(textS x.1.1 x.1.2)=v:=⟨_,rfl⟩
   refine Fun.imp (zre x v1 v2 v4 v7 v8 v10 e1 e2 e4 e7 e8 e10 h3 s5 s6 h9) (fun _ _ _ h=>h) (fun v W D h=>?_)
   have r0:t=v10:=by
    subst_vars
    simp_all [textR]
   rw [r0];exact h
  | false =>
   obtain ⟨v10,e10⟩:∃v,(textS x.1.1 x.1.2)=v:=⟨_,rfl⟩
   obtain ⟨v11,e11⟩:∃v,(v10++[47])=v:=⟨_,rfl⟩
   have s12:(((v10:List UInt8).length+([47]:List UInt8).length:Nat):Int)≤9223372036854775807:=by first | decide | (subst_vars;have:=zbr (neg:=x.1.1) d1;have:=zbr (neg:=x.2.1) d2;simp only [List.length_append,List.length_cons,List.length_nil];omega)
   obtain ⟨v13,e13⟩:∃v,(textS x.2.1 x.2.2)=v:=⟨_,rfl⟩
   obtain ⟨v14,e14⟩:∃v,(v11++v13)=v:=⟨_,rfl⟩
   have s15:(((v11:List UInt8).length+(v13:List UInt8).length:Nat):Int)≤9223372036854775807:=by first | decide | (subst_vars;have:=zbr (neg:=x.1.1) d1;have:=zbr (neg:=x.2.1) d2;simp only [List.length_append,List.length_cons,List.length_nil];omega)
   refine Fun.imp (zrf x v1 v2 v4 v7 v8 v10 v11 v13 v14 e1 e2 e4 e7 e8 e10 e11 e13 e14 h3 s5 s6 h9 s12 s15) (fun _ _ _ h=>h) (fun v W D h=>?_)
   have r0:t=v14:=by
    subst_vars
    simp_all [textR]
   rw [r0];exact h
def fracR (n d:Int):Option Rat:=if d<1 then none else ofX (nz n) (nz d)
theorem zra {w0:World} (n:Int) (d:Int) (v1:Bool) (e1:(decide (d<(1:Int)))=v1) (h2:v1=true):Fun (KN w0) Tryz.prog 93 [.o (.g [pI n,pI d])] (.o (.g [pV (.bool false),pV (.slice none 0 0),pV (.bool false),pV (.slice none 0 0)])):=
 zi (zl (F:=FL [pI n,pI d,pB v1] []) (C:=[(1000004,.bin .lss 3 (yh 1) (LF (.k (.int .i64 1))) (yh 2)),
  (10002,.fb 2 true)]) (k:=⟨93,[.o (.g [.h 0,.h 1])],[],.o (.g [.k (.bool false),.k (.slice none 0 0),.k (.bool false),.k (.slice none 0 0)]),[]⟩) 0 (zf ⟨zb,zb,zb,trivial⟩) ⟨e_bin (za rfl) zd (za rfl) (r_cmp (congrArg some e1)),
  e_fbv h2,
  trivial⟩ mixed (by kernel_rfl))
theorem zrb {w0:World} (n:Int) (d:Int) (v1:Bool) (v3:Raw) (v6:Raw) (v9:RR) (v10:Bool) (e1:(decide (d<(1:Int)))=v1) (e3:(nz n)=v3) (e6:(nz d)=v6) (e9:(rq (ofX v3 v6))=v9) (e10:((ofX v3 v6).isSome)=v10) (h2:v1=false) (s4:-9223372036854775808≤n) (s5:n<9223372036854775808) (s7:-9223372036854775808≤d) (s8:d<9223372036854775808):Fun (KN w0) Tryz.prog 93 [.o (.g [pI n,pI d])] (.o (.g [pB v9.1.1,pD v9.1.2,pB v9.2.1,pD v9.2.2])):=
 zi (zl (F:=FL [pI n,pI d,pB v1,pB v3.1,pD v3.2,pB v6.1,pD v6.2,pB v9.1.1,pD v9.1.2,pB v9.2.1,pD v9.2.2,pB v10] []) (C:=[(1000004,.bin .lss 3 (yh 1) (LF (.k (.int .i64 1))) (yh 2)),
  (10002,.fb 2 false),
  (1000007,.call ⟨77,[yh 0],[],.o (.g [.h 3,.h 4]),[]⟩),
  (1000010,.call ⟨77,[yh 1],[],.o (.g [.h 5,.h 6]),[]⟩),
  (1000011,.call ⟨95,[.o (.g [.h 3,.h 4]),.o (.g [.h 5,.h 6])],[],.t [.g [.h 7,.h 8,.h 9,.h 10],.c (.h 11)],[]⟩)]) (k:=⟨93,[.o (.g [.h 0,.h 1])],[],.o (.g [.h 7,.h 8,.h 9,.h 10]),[]⟩) 0 (zf ⟨zb,zb,zb,zb,zj,zb,zj,zb,zj,zb,zj,zb,trivial⟩) ⟨e_bin (za rfl) zd (za rfl) (r_cmp (congrArg some e1)),
  e_fbv h2,
  ze (zpo n v3 e3 s4 s5),
  ze (zpo d v6 e6 s7 s8),
  ze (zrc v3 v6 v9 v10 e9 e10),
  trivial⟩ mixed (by kernel_rfl))
theorem zsX {w0:World} (n d:Int) (r:RR) (hr:rq (fracR n d)=r) (h0:-9223372036854775808≤n) (h1:n<9223372036854775808) (h2:-9223372036854775808≤d) (h3:d<9223372036854775808):Fun (KN w0) Tryz.prog 93 [.o (.g [pI n,pI d])] (gR r):=by
 obtain ⟨v1,e1⟩:∃v,(decide (d<(1:Int)))=v:=⟨_,rfl⟩
 cases h2:v1 with
 | true =>
  refine Fun.imp (zra n d v1 e1 h2) (fun _ _ _ h=>h) (fun v W D h=>?_)
  have r0:r=rq none:=by
   unfold fracR at hr
   subst_vars
   split<;>simp_all
   try omega
  rw [r0];exact zhZ h
 | false =>
  obtain ⟨v3,e3⟩:∃v,(nz n)=v:=⟨_,rfl⟩
  have s4:-9223372036854775808≤n:=by first | assumption | (exact by decide)
  have s5:n<9223372036854775808:=by first | assumption | (exact by decide)
  obtain ⟨v6,e6⟩:∃v,(nz d)=v:=⟨_,rfl⟩
  have s7:-9223372036854775808≤d:=by first | assumption | (exact by decide)
  have s8:d<9223372036854775808:=by first | assumption | (exact by decide)
  obtain ⟨v9,e9⟩:∃v,(rq (ofX v3 v6))=v:=⟨_,rfl⟩
  obtain ⟨v10,e10⟩:∃v,((ofX v3 v6).isSome)=v:=⟨_,rfl⟩
  refine Fun.imp (zrb n d v1 v3 v6 v9 v10 e1 e3 e6 e9 e10 h2 s4 s5 s7 s8) (fun _ _ _ h=>h) (fun v W D h=>?_)
  have r0:r=v9:=by
   unfold fracR at hr
   subst_vars
   split<;>simp_all
   try omega
  rw [r0];exact h
end Go.Proofs.YtjcegdldgjphiaaGreatDoor
namespace Go.Proofs.YtjcegdldgjphiaaGreatDoor
open Go.RowKit Go.Shelf
structure rcmp_T where
 sg:Int
 n1:Raw
 d1:Raw
 n2:Raw
 d2:Raw
end Go.Proofs.YtjcegdldgjphiaaGreatDoor
namespace Go.Proofs.YtjcegdldgjphiaaGreatDoor
open Go.RowKit Go.Shelf
def pDP (d:Nat):Pred:=fun v W _=>∃ad:Addr,v=.pointer (some ad)∧W.cell? ad=some (.int .u32 (d:Int))
theorem zbG {w0:World} {d:Nat}:FineC (KN w0) (pDP d):=by
 constructor
 ·rintro v W W' D D' S hS hO _ ⟨ad,e,hc⟩
  refine ⟨ad,e,?_⟩
  have hlt:ad.block<W.heap.size:=by
   rcases Nat.lt_or_ge ad.block W.heap.size with hlt | hlt
   ·exact hlt
   ·simp only [World.cell?,Array.getElem?_eq_none hlt] at hc;cases hc
  have hn2:¬ S ad.block:=by
   intro hs
   obtain ⟨_,_,o,ho,hm⟩:=hS _ hs
   simp only [World.cell?,ho] at hc
   cases o with
   | cells cs T z =>
    simp only [ml,mlf,Bool.and_eq_true,List.all_eq_true] at hm
    have hmem:Value.int .u32 (d:Int)∈cs.toList:=by
     revert hc
     simp only
     split
     ·intro h1;cases h1
     ·intro h1;simpa using Array.mem_of_getElem? h1
    have:=hm.2 _ hmem
    cases this
   | _=>simp [ml,mlf] at hm
  have h2:=hO.block _ hlt hn2
  simp only [World.cell?,h2] at hc ⊢
  exact hc
 ·rintro v W D ⟨ad,e,_⟩
  rw [e];rfl
section
variable {K:Kit} {P:Program} {F:Fact}
theorem zaW {T R E:TypeId} {x o:Lf} {l:List Nat} (hT:P.underlying T=some (.slice E)) (hx:Says F x (pD l)) (ho:Gives F o (.int .i64 (l.length:Int))):Ent.sound K P F (.op (.len [T] R) [LF x] [] (LF o)):=by
 intro β W vs hs _ _
 match vs,hs with
 | [v],⟨h1,_⟩ =>
  obtain ⟨A,m,c,e,hs⟩:=(hx β v W).1 h1
  subst e
  refine ⟨.int .i64 (l.length:Int),?_,(ho β _ W).2 rfl⟩
  rw [hs.len]
  simp [Sig.sem,Builtin.len_,run_underlying hT,goInt]
 | [],h=>exact h.elim
 | _::_::_,h=>exact h.2.elim
theorem e_iaD {T E:TypeId} {x y o:Lf} {l:List Nat} {k:IntKind} {i:Int} {j d:Nat} (hT:P.underlying T=some (.slice E)) (hz:szOf P E=some 1) (hx:Says F x (pD l)) (hy:Gives F y (.int k i)) (hi:i=(j:Int)) (hd:l[j]?=some d) (ho:Says F o (pDP d)):Ent.sound K P F (.op (.ia T) [LF x,LF y] [] (LF o)):=by
 subst hi
 intro β W vs hs _ _
 match vs,hs with
 | [v,v2],⟨h1,h2,_⟩ =>
  have e2:v2=.int k (j:Int):=(hy β v2 W).1 h2
  subst e2
  obtain ⟨A,m,c,e,hs⟩:=(hx β v W).1 h1
  subst e
  have hj:j<m:=by rw [← hs.len];exact (List.getElem?_eq_some_iff.1 hd).1
  obtain ⟨ad,e3,_,hc⟩:=hs.at_ hj
  subst e3
  refine ⟨.pointer (some (ad.add j)),?_,(ho β _ W).2 ⟨ad.add j,rfl,?_⟩⟩
  ·simp only [Sig.sem,Instr.indexAt,Sem.run_bind,asIntOf,run_underlying hT,Result.andThen_ok,Sem.run_pure]
   rw [if_pos ⟨Int.natCast_nonneg j,Int.ofNat_lt.2 hj⟩,Sem.run_bind,zar hz,Result.andThen_ok,Int.toNat_natCast,Nat.mul_one];rfl
  ·rw [hc]
   have:dg l j=d:=by unfold dg;rw [List.getD_eq_getElem?_getD,hd];rfl
   rw [this]
 | [],h=>exact h.elim
 | [_],h=>exact h.2.elim
 | _::_::_::_,h=>exact h.2.2.elim
theorem e_ldD {T:TypeId} {x o:Lf} {d:Nat} (hA:aggOf P T=some false) (hx:Says F x (pDP d)) (ho:Gives F o (.int .u32 (d:Int))):Ent.sound K P F (.op (.ld T) [LF x] [] (LF o)):=by
 intro β W vs hs _ _
 match vs,hs with
 | [v],⟨h1,_⟩ =>
  obtain ⟨ad,e,hc⟩:=(hx β v W).1 h1
  subst e
  refine ⟨_,?_,(ho β _ W).2 rfl⟩
  simp only [Sig.sem,Instr.loadAt,Instr.sureAddr,Sem.run_bind,Sem.run_pure,Result.andThen_ok,loadVar,za1 hA]
  simp [run_load,hc]
 | [],h=>exact h.elim
 | _::_::_,h=>exact h.2.elim
theorem e_slD {T E:TypeId} {x y o:Lf} {l:List Nat} {k:IntKind} {i:Int} {j:Nat} (hT:P.underlying T=some (.slice E)) (hz:szOf P E=some 1) (hx:Says F x (pD l)) (hy:Gives F y (.int k i)) (hi:i=(j:Int)) (hj:j≤l.length) (ho:Says F o (pD (l.take j))):Ent.sound K P F (.op (.sc T false true false) [LF x,LF y] [] (LF o)):=by
 subst hi
 intro β W vs hs _ _
 match vs,hs with
 | [v,v2],⟨h1,h2,_⟩ =>
  have e2:v2=.int k (j:Int):=(hy β v2 W).1 h2
  subst e2
  obtain ⟨A,m,c,e,hs⟩:=(hx β v W).1 h1
  subst e
  have hjm:j≤m:=by rw [← hs.len];exact hj
  have hjc:j≤c:=Nat.le_trans hjm hs.2.1
  refine ⟨.slice A j c,?_,(ho β _ W).2 ⟨A,j,c,rfl,hs.take hjm⟩⟩
  cases A with
  | none=>simp [Sig.sem,Instr.sliceAt,Instr.slice,Instr.sliceBounds,Instr.sliceBound,asIntOf,run_underlying hT,zar hz,hjc]
  | some ad=>simp [Sig.sem,Instr.sliceAt,Instr.slice,Instr.sliceBounds,Instr.sliceBound,asIntOf,run_underlying hT,zar hz,hjc,Addr.add]
 | [],h=>exact h.elim
 | [_],h=>exact h.2.elim
 | _::_::_::_,h=>exact h.2.2.elim
end
end Go.Proofs.YtjcegdldgjphiaaGreatDoor
namespace Go.Proofs.YtjcegdldgjphiaaGreatDoor
open Go.RowKit Go.Shelf
theorem wr64 {n:Int} (h:-9223372036854775808≤n∧n≤9223372036854775807):IntKind.i64.wrap n=n:=by rw [IntKind.wrap_i64];omega
theorem zjd {a b:List Nat} (hl:a.length=b.length) (k:Nat) (hk:k≤a.length) (h:a.drop k≠b.drop k):k<a.length∧(a.getD k 0=b.getD k 0→a.drop (k+1)≠b.drop (k+1)):=by
 have hlt:k<a.length:=by
  rcases Nat.lt_or_ge k a.length with h2 | h2
  ·exact h2
  ·exact absurd (by rw [List.drop_of_length_le h2,List.drop_of_length_le (by omega)]) h
 refine ⟨hlt,fun he h2=>h ?_⟩
 rw [List.drop_eq_getElem_cons hlt,List.drop_eq_getElem_cons (by omega:k<b.length),h2]
 rw [List.getD_eq_getElem?_getD,List.getD_eq_getElem?_getD,List.getElem?_eq_getElem hlt,List.getElem?_eq_getElem (by omega:k<b.length)] at he
 simp only [Option.getD_some] at he
 rw [he]
structure snE_T where
 i:Int
def zaH:List Atom:=[.sl 0 (.o (.g [.h 0,.h 1])),.sl 1 (.o (.g [.h 2,.h 3])),.sl 2 (.o (.c (.p 0 0))),.sl 3 (.o (.c (.p 1 0))),.sl 5 (yh 8),.sl 6 (.o (.c (.p 0 0))),.sl 7 (yh 0),.sl 8 (.o (.c (.p 1 0))),.sl 9 (yh 2),.sl 10 (yh 4),.sl 11 (yh 4),.sl 12 (.o (.c (.p 0 1))),.sl 13 (yh 1),.sl 14 (yh 5),.sl 15 (.o (.c (.p 1 1))),.sl 16 (yh 3),.sl 17 (yh 6),.sl 18 (yh 7),.sl 19 (yh 7),.bx 0 30 [.h 0,.h 1],.bx 1 30 [.h 2,.h 3]]
def snE_S:LoopS:=⟨4,[.sl 0 (.o (.g [.h 0,.h 1])),.sl 1 (.o (.g [.h 2,.h 3])),.sl 2 (.o (.c (.p 0 0))),.sl 3 (.o (.c (.p 1 0))),.sl 5 (.o (.c (.k (.int .i64 0)))),.sl 6 (.o (.c (.p 0 0))),.sl 7 (yh 0),.sl 8 (.o (.c (.p 1 0))),.sl 9 (yh 2),.sl 10 (yh 4),.sl 11 (yh 4),.sl 12 (.o (.c (.p 0 1))),.sl 13 (yh 1),.sl 14 (yh 5),.sl 15 (.o (.c (.p 1 1))),.sl 16 (yh 3),.sl 17 (yh 6),.sl 18 (yh 7),.sl 19 (yh 7),.bx 0 30 [.h 0,.h 1],.bx 1 30 [.h 2,.h 3]],(.x 0),[.sl 0 (.o (.g [.h 0,.h 1])),.sl 1 (.o (.g [.h 2,.h 3])),.sl 2 (.o (.c (.p 0 0))),.sl 3 (.o (.c (.p 1 0))),.sl 6 (.o (.c (.p 0 0))),.sl 7 (yh 0),.sl 8 (.o (.c (.p 1 0))),.sl 9 (yh 2),.sl 10 (yh 4),.sl 11 (yh 4),.sl 12 (.o (.c (.p 0 1))),.sl 13 (yh 1),.sl 14 (yh 5),.sl 15 (.o (.c (.p 1 1))),.sl 16 (yh 3),.sl 17 (yh 6),.sl 18 (yh 7),.sl 19 (yh 7),.bx 0 30 [.h 0,.h 1],.bx 1 30 [.h 2,.h 3]]⟩
theorem zoy {w0:World} (x:Raw) (y:Raw) (v1:Bool) (v3:Int) (v4:Int) (v5:Bool) (h2:v1=false) (h6:v5=false) (i:Int) (v501:Int) (v502:Bool) (n504:Nat) (x505:Nat) (n508:Nat) (x509:Nat) (v512:Bool) (v514:Int) (e501:((x.2.length:Int))=v501) (e502:(decide (i<v501))=v502) (e512:((((x505:Nat):Int) != ((x509:Nat):Int)))=v512) (e514:(IntKind.i64.wrap (i+(1:Int)))=v514) (h503:v502=true) (s506:i=(n504:Int)) (s507:x.2[n504]?=some x505) (s510:i=(n508:Int)) (s511:y.2[n508]?=some x509) (h513:v512=false) (i':Int) (q0:(v514)=i') (R:Frm) (hR:R.pm=⟨ntOf Tryz.prog 85,[],[]⟩):Goes (KN w0) Tryz.prog R (lp Tryz.prog 85 0) (FL [pB x.1,pD x.2,pB y.1,pD y.2,pB v1,pI v3,pI v4,pB v5,pI i] []) zaH .n (FL [pB x.1,pD x.2,pB y.1,pD y.2,pB v1,pI v3,pI v4,pB v5,pI i'] []) zaH:=
 goes (x:=.n) (y:=.n) (Fb:=FL [pB x.1,pD x.2,pB y.1,pD y.2,pB v1,pI v3,pI v4,pB v5,pI i,pI v501,pB v502,pDP x505,pDP x509,pB v512,pI v514] [] [(5000,pV (.int .u32 ((x505:Nat):Int))),(5001,pV (.int .u32 ((x509:Nat):Int)))]) (stb:=zaH) (tl:=[.sl 0 (.o (.g [.h 0,.h 1])),.sl 1 (.o (.g [.h 2,.h 3])),.sl 2 (.o (.c (.p 0 0))),.sl 3 (.o (.c (.p 1 0))),.sl 5 (yh 14),.sl 6 (.o (.c (.p 0 0))),.sl 7 (yh 0),.sl 8 (.o (.c (.p 1 0))),.sl 9 (yh 2),.sl 10 (yh 4),.sl 11 (yh 4),.sl 12 (.o (.c (.p 0 1))),.sl 13 (yh 1),.sl 14 (yh 5),.sl 15 (.o (.c (.p 1 1))),.sl 16 (yh 3),.sl 17 (yh 6),.sl 18 (yh 7),.sl 19 (yh 7),.bx 0 30 [.h 0,.h 1],.bx 1 30 [.h 2,.h 3]]) (C:=((10004,.fb 4 false) ::
  (10007,.fb 7 false) ::
  (1005003,.op (.len [28] 3) [yh 1] [] (yh 9)) ::
  (1005004,.bin .lss 3 (yh 8) (yh 9) (yh 10)) ::
  (10010,.fb 10 true) ::
  (1005008,.op (.ia 28) [yh 1,yh 8] [] (yh 11)) ::
  (1005009,.op (.ld 123) [yh 11] [] (yh 5000)) ::
  (1005013,.op (.ia 28) [yh 3,yh 8] [] (yh 12)) ::
  (1005014,.op (.ld 123) [yh 12] [] (yh 5001)) ::
  (1005015,.bin .neq 123 (yh 5000) (yh 5001) (yh 13)) ::
  (10013,.fb 13 false) ::
  (1005017,.bin .add 3 (yh 8) (LF (.k (.int .i64 1))) (yh 14)) ::
  []:List (Nat×Ent))) (H:=.no) 5000 (zipA.imp ⟨z_g ⟨yy,yy,trivial⟩,z_g ⟨yy,yy,trivial⟩,z_c yy,z_c yy,z_c yy,z_c yy,z_c yy,z_c yy,z_c yy,z_c yy,z_c yy,z_c yy,z_c yy,z_c yy,z_c yy,z_c yy,z_c yy,z_c yy,z_c yy,z_b ⟨yy,yy,trivial⟩,z_b ⟨yy,yy,trivial⟩,trivial⟩) (zf ⟨zb,zj,zb,zj,zb,zb,zb,zb,zb,zb,zb,zbG,zbG,zb,zb,trivial⟩ trivial ⟨⟨rfl,zh⟩,⟨rfl,zh⟩,trivial⟩) ⟨e_fbv h2,
  e_fbv h6,
  zaW (E:=123) (by kernel_rfl) (zc rfl) (za (by rw [← e501];rfl)),
  e_bin (za rfl) (za rfl) (za rfl) (r_cmp (congrArg some e502)),
  e_fbv h503,
  e_iaD (E:=123) (by kernel_rfl) (by kernel_rfl) (zc rfl) (za rfl) s506 s507 (zc rfl),
  e_ldD (by kernel_rfl) (zc rfl) (za rfl),
  e_iaD (E:=123) (by kernel_rfl) (by kernel_rfl) (zc rfl) (za rfl) s510 s511 (zc rfl),
  e_ldD (by kernel_rfl) (zc rfl) (za rfl),
  e_bin (za rfl) (za rfl) (za rfl) (r_cmp (congrArg some e512)),
  e_fbv h513,
  e_bin (za rfl) zd (za rfl) (r_ar (congrArg some e514)),
  trivial⟩ mixed hR trivial (fun _ _ _ hs=>by cases hs) (by kernel_rfl:zz (KN w0) Tryz.prog _ .no ⟨ntOf Tryz.prog 85,[],[]⟩ (lp Tryz.prog 85 0) 5000 zaH .n [.sl 0 (.o (.g [.h 0,.h 1])),.sl 1 (.o (.g [.h 2,.h 3])),.sl 2 (.o (.c (.p 0 0))),.sl 3 (.o (.c (.p 1 0))),.sl 5 (yh 14),.sl 6 (.o (.c (.p 0 0))),.sl 7 (yh 0),.sl 8 (.o (.c (.p 1 0))),.sl 9 (yh 2),.sl 10 (yh 4),.sl 11 (yh 4),.sl 12 (.o (.c (.p 0 1))),.sl 13 (yh 1),.sl 14 (yh 5),.sl 15 (.o (.c (.p 1 1))),.sl 16 (yh 3),.sl 17 (yh 6),.sl 18 (yh 7),.sl 19 (yh 7),.bx 0 30 [.h 0,.h 1],.bx 1 30 [.h 2,.h 3]]=true) rfl (zipA.imp ⟨z_g ⟨yy,yy,trivial⟩,z_g ⟨yy,yy,trivial⟩,z_c yy,z_c yy,z_c (fun β v W h=>(zc rfl β v W).2 (by rw [← q0];exact h)),z_c yy,z_c yy,z_c yy,z_c yy,z_c yy,z_c yy,z_c yy,z_c yy,z_c yy,z_c yy,z_c yy,z_c yy,z_c yy,z_c yy,z_b ⟨yy,yy,trivial⟩,z_b ⟨yy,yy,trivial⟩,trivial⟩)
theorem zoz {w0:World} (x:Raw) (y:Raw) (v1:Bool) (v3:Int) (v4:Int) (v5:Bool) (h2:v1=false) (h6:v5=false) (i:Int) (v501:Int) (v502:Bool) (e501:((x.2.length:Int))=v501) (e502:(decide (i<v501))=v502) (h503:v502=false) (F:Fact) (u0:F.c 0=pB x.1) (u1:F.c 1=pD x.2) (u2:F.c 2=pB y.1) (u3:F.c 3=pD y.2) (u4:F.c 4=pB v1) (u5:F.c 5=pI v3) (u6:F.c 6=pI v4) (u7:F.c 7=pB v5) (R:Frm) (hR:R.pm=⟨ntOf Tryz.prog 85,[],[]⟩):Goes (KN w0) Tryz.prog R (lp Tryz.prog 85 0) (FL [pB x.1,pD x.2,pB y.1,pD y.2,pB v1,pI v3,pI v4,pB v5,pI i] []) zaH (.x 0) F snE_S.out:=
 goes (x:=(.x 0)) (y:=(.x 0)) (Fb:=FL [pB x.1,pD x.2,pB y.1,pD y.2,pB v1,pI v3,pI v4,pB v5,pI i,pI v501,pB v502] []) (stb:=zaH) (tl:=[.sl 0 (.o (.g [.h 0,.h 1])),.sl 1 (.o (.g [.h 2,.h 3])),.sl 2 (.o (.c (.p 0 0))),.sl 3 (.o (.c (.p 1 0))),.sl 6 (.o (.c (.p 0 0))),.sl 7 (yh 0),.sl 8 (.o (.c (.p 1 0))),.sl 9 (yh 2),.sl 10 (yh 4),.sl 11 (yh 4),.sl 12 (.o (.c (.p 0 1))),.sl 13 (yh 1),.sl 14 (yh 5),.sl 15 (.o (.c (.p 1 1))),.sl 16 (yh 3),.sl 17 (yh 6),.sl 18 (yh 7),.sl 19 (yh 7),.bx 0 30 [.h 0,.h 1],.bx 1 30 [.h 2,.h 3]]) (C:=((10004,.fb 4 false) ::
  (10007,.fb 7 false) ::
  (1005003,.op (.len [28] 3) [yh 1] [] (yh 9)) ::
  (1005004,.bin .lss 3 (yh 8) (yh 9) (yh 10)) ::
  (10010,.fb 10 false) ::
  []:List (Nat×Ent))) (H:=.no) 5000 (zipA.imp ⟨z_g ⟨yy,yy,trivial⟩,z_g ⟨yy,yy,trivial⟩,z_c yy,z_c yy,z_c yy,z_c yy,z_c yy,z_c yy,z_c yy,z_c yy,z_c yy,z_c yy,z_c yy,z_c yy,z_c yy,z_c yy,z_c yy,z_c yy,z_c yy,z_b ⟨yy,yy,trivial⟩,z_b ⟨yy,yy,trivial⟩,trivial⟩) (zf ⟨zb,zj,zb,zj,zb,zb,zb,zb,zb,zb,zb,trivial⟩) ⟨e_fbv h2,
  e_fbv h6,
  zaW (E:=123) (by kernel_rfl) (zc rfl) (za (by rw [← e501];rfl)),
  e_bin (za rfl) (za rfl) (za rfl) (r_cmp (congrArg some e502)),
  e_fbv h503,
  trivial⟩ mixed hR trivial (fun _ _ _ hs=>by cases hs) (by kernel_rfl:zz (KN w0) Tryz.prog _ .no ⟨ntOf Tryz.prog 85,[],[]⟩ (lp Tryz.prog 85 0) 5000 zaH (.x 0) [.sl 0 (.o (.g [.h 0,.h 1])),.sl 1 (.o (.g [.h 2,.h 3])),.sl 2 (.o (.c (.p 0 0))),.sl 3 (.o (.c (.p 1 0))),.sl 6 (.o (.c (.p 0 0))),.sl 7 (yh 0),.sl 8 (.o (.c (.p 1 0))),.sl 9 (yh 2),.sl 10 (yh 4),.sl 11 (yh 4),.sl 12 (.o (.c (.p 0 1))),.sl 13 (yh 1),.sl 14 (yh 5),.sl 15 (.o (.c (.p 1 1))),.sl 16 (yh 3),.sl 17 (yh 6),.sl 18 (yh 7),.sl 19 (yh 7),.bx 0 30 [.h 0,.h 1],.bx 1 30 [.h 2,.h 3]]=true) rfl (zipA.imp ⟨z_g ⟨fun β v W h=>(zc u0 β v W).2 h,fun β v W h=>(zc u1 β v W).2 h,trivial⟩,z_g ⟨fun β v W h=>(zc u2 β v W).2 h,fun β v W h=>(zc u3 β v W).2 h,trivial⟩,z_c yy,z_c yy,z_c yy,z_c (fun β v W h=>(zc u0 β v W).2 h),z_c yy,z_c (fun β v W h=>(zc u2 β v W).2 h),z_c (fun β v W h=>(zc u4 β v W).2 h),z_c (fun β v W h=>(zc u4 β v W).2 h),z_c yy,z_c (fun β v W h=>(zc u1 β v W).2 h),z_c (fun β v W h=>(zc u5 β v W).2 h),z_c yy,z_c (fun β v W h=>(zc u3 β v W).2 h),z_c (fun β v W h=>(zc u6 β v W).2 h),z_c (fun β v W h=>(zc u7 β v W).2 h),z_c (fun β v W h=>(zc u7 β v W).2 h),z_b ⟨fun β v W h=>(zc u0 β v W).2 h,fun β v W h=>(zc u1 β v W).2 h,trivial⟩,z_b ⟨fun β v W h=>(zc u2 β v W).2 h,fun β v W h=>(zc u3 β v W).2 h,trivial⟩,trivial⟩)
def snE_X (x:Raw) (y:Raw) (v1:Bool) (v3:Int) (v4:Int) (v5:Bool) (t:snE_T):Prop:=(∃(v501:Int),∃(v502:Bool),(((x.2.length:Int))=v501)∧((decide (t.i<v501))=v502)∧(v502=false)∧True)
def snE_N (x:Raw) (y:Raw) (v1:Bool) (v3:Int) (v4:Int) (v5:Bool) (t t':snE_T):Prop:=(∃(v501:Int),∃(v502:Bool),∃(n504:Nat),∃(x505:Nat),∃(n508:Nat),∃(x509:Nat),∃(v512:Bool),∃(v514:Int),(((x.2.length:Int))=v501)∧((decide (t.i<v501))=v502)∧(((((x505:Nat):Int) != ((x509:Nat):Int)))=v512)∧((IntKind.i64.wrap (t.i+(1:Int)))=v514)∧(v502=true)∧(t.i=(n504:Int))∧(x.2[n504]?=some x505)∧(t.i=(n508:Int))∧(y.2[n508]?=some x509)∧(v512=false)∧((v514)=t'.i)∧True)
theorem zlM {w0:World} (x:Raw) (y:Raw) (v1:Bool) (v3:Int) (v4:Int) (v5:Bool) (h2:v1=false) (h6:v5=false) {F:Fact} (u0:F.c 0=pB x.1) (u1:F.c 1=pD x.2) (u2:F.c 2=pB y.1) (u3:F.c 3=pD y.2) (u4:F.c 4=pB v1) (u5:F.c 5=pI v3) (u6:F.c 6=pI v4) (u7:F.c 7=pB v5) (R:Frm) (hR:R.pm=⟨ntOf Tryz.prog 85,[],[]⟩) (J:snE_T→Prop) (m:snE_T→Nat) (hJ:J { i:=(0:Int) }) (rounds:∀t,J t→snE_X x y v1 v3 v4 v5 t ∨∃t',snE_N x y v1 v3 v4 v5 t t'∧m t'<m t∧J t'):zg (KN w0) Tryz.prog F R snE_S (lp Tryz.prog 85 0):=by
 refine zP (T:=snE_T) (fun t=>FL [pB x.1,pD x.2,pB y.1,pD y.2,pB v1,pI v3,pI v4,pB v5,pI t.i] []) J m { i:=(0:Int) } zaH hJ (zipA.imp ⟨z_g ⟨fun β v W h=>(zc u0 β v W).1 h,fun β v W h=>(zc u1 β v W).1 h,trivial⟩,z_g ⟨fun β v W h=>(zc u2 β v W).1 h,fun β v W h=>(zc u3 β v W).1 h,trivial⟩,z_c yy,z_c yy,z_c yy,z_c yy,z_c (fun β v W h=>(zc u0 β v W).1 h),z_c yy,z_c (fun β v W h=>(zc u2 β v W).1 h),z_c (fun β v W h=>(zc u4 β v W).1 h),z_c (fun β v W h=>(zc u4 β v W).1 h),z_c yy,z_c (fun β v W h=>(zc u1 β v W).1 h),z_c (fun β v W h=>(zc u5 β v W).1 h),z_c yy,z_c (fun β v W h=>(zc u3 β v W).1 h),z_c (fun β v W h=>(zc u6 β v W).1 h),z_c (fun β v W h=>(zc u7 β v W).1 h),z_c (fun β v W h=>(zc u7 β v W).1 h),z_b ⟨fun β v W h=>(zc u0 β v W).1 h,fun β v W h=>(zc u1 β v W).1 h,trivial⟩,z_b ⟨fun β v W h=>(zc u2 β v W).1 h,fun β v W h=>(zc u3 β v W).1 h,trivial⟩,trivial⟩) rfl fun t ht=>?_
 rcases rounds t ht with hz_ | ⟨t',hz_,hm_,hj_⟩
 ·refine .inl ?_
  rcases hz_ with ⟨v501,v502,e501,e502,h503,_⟩
  ·exact zoz  x y v1 v3 v4 v5 h2 h6 t.i v501 v502 e501 e502 h503  F u0 u1 u2 u3 u4 u5 u6 u7  R hR
 ·refine .inr ⟨t',hm_,hj_,?_⟩
  rcases hz_ with ⟨v501,v502,n504,x505,n508,x509,v512,v514,e501,e502,e512,e514,h503,s506,s507,s510,s511,h513,q0,_⟩
  ·exact zoy  x y v1 v3 v4 v5 h2 h6 t.i v501 v502 n504 x505 n508 x509 v512 v514 e501 e502 e512 e514 h503 s506 s507 s510 s511 h513 t'.i q0 R hR
theorem zox {w0:World} (x:Raw) (y:Raw) (v1:Bool) (v3:Int) (v4:Int) (v5:Bool) (h2:v1=false) (h6:v5=false) {F:Fact} (u0:F.c 0=pB x.1) (u1:F.c 1=pD x.2) (u2:F.c 2=pB y.1) (u3:F.c 3=pD y.2) (u4:F.c 4=pB v1) (u5:F.c 5=pI v3) (u6:F.c 6=pI v4) (u7:F.c 7=pB v5) (R:Frm) (hR:R.pm=⟨ntOf Tryz.prog 85,[],[]⟩) (hl:x.2.length=y.2.length) (hb:x.2.length≤9223372036854775807) (he:x.2=y.2):zg (KN w0) Tryz.prog F R snE_S (lp Tryz.prog 85 0):=by
 refine zlM  x y v1 v3 v4 v5 h2 h6  u0 u1 u2 u3 u4 u5 u6 u7 R hR (fun ⟨i⟩=>∃n:Nat,i=(n:Int)∧n≤x.2.length) (fun ⟨i⟩=>(x.2.length - i).toNat) ⟨0,rfl,Nat.zero_le _⟩ fun t hJ=>?_
 obtain ⟨i⟩:=t
 dsimp only at hJ
 obtain ⟨n,hi,hn⟩:=hJ
 obtain ⟨v501,e501⟩:∃v,((x.2.length:Int))=v:=⟨_,rfl⟩
 obtain ⟨v502,e502⟩:∃v,(decide (i<v501))=v:=⟨_,rfl⟩
 cases h503:v502 with
 | true =>
  obtain ⟨n504,x505,s506,s507⟩:∃(n504:Nat) (x505:Nat),i=(n504:Int)∧x.2[n504]?=some x505:=by (have hlt:n<x.2.length:=(by subst e501;subst e502;have:=of_decide_eq_true h503;omega);exact ⟨n,x.2[n],hi,List.getElem?_eq_getElem hlt⟩)
  obtain ⟨n508,x509,s510,s511⟩:∃(n508:Nat) (x509:Nat),i=(n508:Int)∧y.2[n508]?=some x509:=by (have hlt:n<x.2.length:=(by subst e501;subst e502;have:=of_decide_eq_true h503;omega);have hl2:n<y.2.length:=(by omega);exact ⟨n,y.2[n],hi,List.getElem?_eq_getElem hl2⟩)
  obtain ⟨v512,e512⟩:∃v,((((x505:Nat):Int) != ((x509:Nat):Int)))=v:=⟨_,rfl⟩
  cases h513:v512 with
  | true =>
   exfalso
   have e:n504=n508:=by omega
   subst e
   rw [he,s511] at s507
   injection s507 with s507
   subst s507;subst e512;simp at h513
  | false =>
   obtain ⟨v514,e514⟩:∃v,(IntKind.i64.wrap (i+(1:Int)))=v:=⟨_,rfl⟩
   refine .inr ⟨⟨v514⟩,⟨v501,v502,n504,x505,n508,x509,v512,v514,e501,e502,e512,e514,h503,s506,s507,s510,s511,h513,rfl,trivial⟩,?_,?_⟩
   all_goals (subst e501;subst e502;have hlt:=of_decide_eq_true h503;subst hi;have hw:IntKind.i64.wrap ((n:Int)+1)=((n+1:Nat):Int):=wr64 (by omega);rw [hw] at e514;subst e514)
   ·show ((x.2.length:Int) - ((n+1:Nat):Int)).toNat<((x.2.length:Int) - (n:Int)).toNat
    omega
   ·exact ⟨n+1,rfl,by omega⟩
 | false =>
  refine .inl (⟨v501,v502,e501,e502,h503,trivial⟩)
structure snR_T where
 i:Int
def zaI:List Atom:=[.sl 0 (.o (.g [.h 0,.h 1])),.sl 1 (.o (.g [.h 2,.h 3])),.sl 2 (.o (.c (.p 0 0))),.sl 3 (.o (.c (.p 1 0))),.sl 5 (yh 8),.sl 6 (.o (.c (.p 0 0))),.sl 7 (yh 0),.sl 8 (.o (.c (.p 1 0))),.sl 9 (yh 2),.sl 10 (yh 4),.sl 11 (yh 4),.sl 12 (.o (.c (.p 0 1))),.sl 13 (yh 1),.sl 14 (yh 5),.sl 15 (.o (.c (.p 1 1))),.sl 16 (yh 3),.sl 17 (yh 6),.sl 18 (yh 7),.sl 19 (yh 7),.bx 0 30 [.h 0,.h 1],.bx 1 30 [.h 2,.h 3]]
def snR_S:LoopS:=⟨4,[.sl 0 (.o (.g [.h 0,.h 1])),.sl 1 (.o (.g [.h 2,.h 3])),.sl 2 (.o (.c (.p 0 0))),.sl 3 (.o (.c (.p 1 0))),.sl 5 (.o (.c (.k (.int .i64 0)))),.sl 6 (.o (.c (.p 0 0))),.sl 7 (yh 0),.sl 8 (.o (.c (.p 1 0))),.sl 9 (yh 2),.sl 10 (yh 4),.sl 11 (yh 4),.sl 12 (.o (.c (.p 0 1))),.sl 13 (yh 1),.sl 14 (yh 5),.sl 15 (.o (.c (.p 1 1))),.sl 16 (yh 3),.sl 17 (yh 6),.sl 18 (yh 7),.sl 19 (yh 7),.bx 0 30 [.h 0,.h 1],.bx 1 30 [.h 2,.h 3]],.r,[.sl 0 (.o (.g [.h 0,.h 1])),.sl 1 (.o (.g [.h 2,.h 3])),.sl 2 (.o (.c (.p 0 0))),.sl 3 (.o (.c (.p 1 0))),.sl 4 (yh 8),.sl 6 (.o (.c (.p 0 0))),.sl 7 (yh 0),.sl 8 (.o (.c (.p 1 0))),.sl 9 (yh 2),.sl 10 (yh 4),.sl 11 (yh 4),.sl 12 (.o (.c (.p 0 1))),.sl 13 (yh 1),.sl 14 (yh 5),.sl 15 (.o (.c (.p 1 1))),.sl 16 (yh 3),.sl 17 (yh 6),.sl 18 (yh 7),.sl 19 (yh 7),.bx 0 30 [.h 0,.h 1],.bx 1 30 [.h 2,.h 3]]⟩
theorem zoB {w0:World} (x:Raw) (y:Raw) (v1:Bool) (v3:Int) (v4:Int) (v5:Bool) (h2:v1=false) (h6:v5=false) (i:Int) (v501:Int) (v502:Bool) (n504:Nat) (x505:Nat) (n508:Nat) (x509:Nat) (v512:Bool) (e501:((x.2.length:Int))=v501) (e502:(decide (i<v501))=v502) (e512:((((x505:Nat):Int) != ((x509:Nat):Int)))=v512) (h503:v502=true) (s506:i=(n504:Int)) (s507:x.2[n504]?=some x505) (s510:i=(n508:Int)) (s511:y.2[n508]?=some x509) (h513:v512=true) (o4:Bool) (F:Fact) (u0:F.c 0=pB x.1) (u1:F.c 1=pD x.2) (u2:F.c 2=pB y.1) (u3:F.c 3=pD y.2) (u4:F.c 4=pB v1) (u5:F.c 5=pI v3) (u6:F.c 6=pI v4) (u7:F.c 7=pB v5) (u8:F.c 8=pB o4) (q0:(false)=o4) (R:Frm) (hR:R.pm=⟨ntOf Tryz.prog 85,[],[]⟩):Goes (KN w0) Tryz.prog R (lp Tryz.prog 85 0) (FL [pB x.1,pD x.2,pB y.1,pD y.2,pB v1,pI v3,pI v4,pB v5,pI i] []) zaI .r F snR_S.out:=
 goes (x:=.r) (y:=.r) (Fb:=FL [pB x.1,pD x.2,pB y.1,pD y.2,pB v1,pI v3,pI v4,pB v5,pI i,pI v501,pB v502,pDP x505,pDP x509,pB v512] [] [(5000,pV (.int .u32 ((x505:Nat):Int))),(5001,pV (.int .u32 ((x509:Nat):Int)))]) (stb:=zaI) (tl:=[.sl 0 (.o (.g [.h 0,.h 1])),.sl 1 (.o (.g [.h 2,.h 3])),.sl 2 (.o (.c (.p 0 0))),.sl 3 (.o (.c (.p 1 0))),.sl 4 (.o (.c (.k (.bool false)))),.sl 6 (.o (.c (.p 0 0))),.sl 7 (yh 0),.sl 8 (.o (.c (.p 1 0))),.sl 9 (yh 2),.sl 10 (yh 4),.sl 11 (yh 4),.sl 12 (.o (.c (.p 0 1))),.sl 13 (yh 1),.sl 14 (yh 5),.sl 15 (.o (.c (.p 1 1))),.sl 16 (yh 3),.sl 17 (yh 6),.sl 18 (yh 7),.sl 19 (yh 7),.bx 0 30 [.h 0,.h 1],.bx 1 30 [.h 2,.h 3]]) (C:=((10004,.fb 4 false) ::
  (10007,.fb 7 false) ::
  (1005003,.op (.len [28] 3) [yh 1] [] (yh 9)) ::
  (1005004,.bin .lss 3 (yh 8) (yh 9) (yh 10)) ::
  (10010,.fb 10 true) ::
  (1005008,.op (.ia 28) [yh 1,yh 8] [] (yh 11)) ::
  (1005009,.op (.ld 123) [yh 11] [] (yh 5000)) ::
  (1005013,.op (.ia 28) [yh 3,yh 8] [] (yh 12)) ::
  (1005014,.op (.ld 123) [yh 12] [] (yh 5001)) ::
  (1005015,.bin .neq 123 (yh 5000) (yh 5001) (yh 13)) ::
  (10013,.fb 13 true) ::
  []:List (Nat×Ent))) (H:=.no) 5000 (zipA.imp ⟨z_g ⟨yy,yy,trivial⟩,z_g ⟨yy,yy,trivial⟩,z_c yy,z_c yy,z_c yy,z_c yy,z_c yy,z_c yy,z_c yy,z_c yy,z_c yy,z_c yy,z_c yy,z_c yy,z_c yy,z_c yy,z_c yy,z_c yy,z_c yy,z_b ⟨yy,yy,trivial⟩,z_b ⟨yy,yy,trivial⟩,trivial⟩) (zf ⟨zb,zj,zb,zj,zb,zb,zb,zb,zb,zb,zb,zbG,zbG,zb,trivial⟩ trivial ⟨⟨rfl,zh⟩,⟨rfl,zh⟩,trivial⟩) ⟨e_fbv h2,
  e_fbv h6,
  zaW (E:=123) (by kernel_rfl) (zc rfl) (za (by rw [← e501];rfl)),
  e_bin (za rfl) (za rfl) (za rfl) (r_cmp (congrArg some e502)),
  e_fbv h503,
  e_iaD (E:=123) (by kernel_rfl) (by kernel_rfl) (zc rfl) (za rfl) s506 s507 (zc rfl),
  e_ldD (by kernel_rfl) (zc rfl) (za rfl),
  e_iaD (E:=123) (by kernel_rfl) (by kernel_rfl) (zc rfl) (za rfl) s510 s511 (zc rfl),
  e_ldD (by kernel_rfl) (zc rfl) (za rfl),
  e_bin (za rfl) (za rfl) (za rfl) (r_cmp (congrArg some e512)),
  e_fbv h513,
  trivial⟩ mixed hR trivial (fun _ _ _ hs=>by cases hs) (by kernel_rfl:zz (KN w0) Tryz.prog _ .no ⟨ntOf Tryz.prog 85,[],[]⟩ (lp Tryz.prog 85 0) 5000 zaI .r [.sl 0 (.o (.g [.h 0,.h 1])),.sl 1 (.o (.g [.h 2,.h 3])),.sl 2 (.o (.c (.p 0 0))),.sl 3 (.o (.c (.p 1 0))),.sl 4 (.o (.c (.k (.bool false)))),.sl 6 (.o (.c (.p 0 0))),.sl 7 (yh 0),.sl 8 (.o (.c (.p 1 0))),.sl 9 (yh 2),.sl 10 (yh 4),.sl 11 (yh 4),.sl 12 (.o (.c (.p 0 1))),.sl 13 (yh 1),.sl 14 (yh 5),.sl 15 (.o (.c (.p 1 1))),.sl 16 (yh 3),.sl 17 (yh 6),.sl 18 (yh 7),.sl 19 (yh 7),.bx 0 30 [.h 0,.h 1],.bx 1 30 [.h 2,.h 3]]=true) rfl (zipA.imp ⟨z_g ⟨fun β v W h=>(zc u0 β v W).2 h,fun β v W h=>(zc u1 β v W).2 h,trivial⟩,z_g ⟨fun β v W h=>(zc u2 β v W).2 h,fun β v W h=>(zc u3 β v W).2 h,trivial⟩,z_c yy,z_c yy,z_c (fun β v W h=>(zc u8 β v W).2 (by rw [← q0];exact h)),z_c yy,z_c (fun β v W h=>(zc u0 β v W).2 h),z_c yy,z_c (fun β v W h=>(zc u2 β v W).2 h),z_c (fun β v W h=>(zc u4 β v W).2 h),z_c (fun β v W h=>(zc u4 β v W).2 h),z_c yy,z_c (fun β v W h=>(zc u1 β v W).2 h),z_c (fun β v W h=>(zc u5 β v W).2 h),z_c yy,z_c (fun β v W h=>(zc u3 β v W).2 h),z_c (fun β v W h=>(zc u6 β v W).2 h),z_c (fun β v W h=>(zc u7 β v W).2 h),z_c (fun β v W h=>(zc u7 β v W).2 h),z_b ⟨fun β v W h=>(zc u0 β v W).2 h,fun β v W h=>(zc u1 β v W).2 h,trivial⟩,z_b ⟨fun β v W h=>(zc u2 β v W).2 h,fun β v W h=>(zc u3 β v W).2 h,trivial⟩,trivial⟩)
theorem zoC {w0:World} (x:Raw) (y:Raw) (v1:Bool) (v3:Int) (v4:Int) (v5:Bool) (h2:v1=false) (h6:v5=false) (i:Int) (v501:Int) (v502:Bool) (n504:Nat) (x505:Nat) (n508:Nat) (x509:Nat) (v512:Bool) (v514:Int) (e501:((x.2.length:Int))=v501) (e502:(decide (i<v501))=v502) (e512:((((x505:Nat):Int) != ((x509:Nat):Int)))=v512) (e514:(IntKind.i64.wrap (i+(1:Int)))=v514) (h503:v502=true) (s506:i=(n504:Int)) (s507:x.2[n504]?=some x505) (s510:i=(n508:Int)) (s511:y.2[n508]?=some x509) (h513:v512=false) (i':Int) (q0:(v514)=i') (R:Frm) (hR:R.pm=⟨ntOf Tryz.prog 85,[],[]⟩):Goes (KN w0) Tryz.prog R (lp Tryz.prog 85 0) (FL [pB x.1,pD x.2,pB y.1,pD y.2,pB v1,pI v3,pI v4,pB v5,pI i] []) zaI .n (FL [pB x.1,pD x.2,pB y.1,pD y.2,pB v1,pI v3,pI v4,pB v5,pI i'] []) zaI:=
 goes (x:=.n) (y:=.n) (Fb:=FL [pB x.1,pD x.2,pB y.1,pD y.2,pB v1,pI v3,pI v4,pB v5,pI i,pI v501,pB v502,pDP x505,pDP x509,pB v512,pI v514] [] [(5000,pV (.int .u32 ((x505:Nat):Int))),(5001,pV (.int .u32 ((x509:Nat):Int)))]) (stb:=zaI) (tl:=[.sl 0 (.o (.g [.h 0,.h 1])),.sl 1 (.o (.g [.h 2,.h 3])),.sl 2 (.o (.c (.p 0 0))),.sl 3 (.o (.c (.p 1 0))),.sl 5 (yh 14),.sl 6 (.o (.c (.p 0 0))),.sl 7 (yh 0),.sl 8 (.o (.c (.p 1 0))),.sl 9 (yh 2),.sl 10 (yh 4),.sl 11 (yh 4),.sl 12 (.o (.c (.p 0 1))),.sl 13 (yh 1),.sl 14 (yh 5),.sl 15 (.o (.c (.p 1 1))),.sl 16 (yh 3),.sl 17 (yh 6),.sl 18 (yh 7),.sl 19 (yh 7),.bx 0 30 [.h 0,.h 1],.bx 1 30 [.h 2,.h 3]]) (C:=((10004,.fb 4 false) ::
  (10007,.fb 7 false) ::
  (1005003,.op (.len [28] 3) [yh 1] [] (yh 9)) ::
  (1005004,.bin .lss 3 (yh 8) (yh 9) (yh 10)) ::
  (10010,.fb 10 true) ::
  (1005008,.op (.ia 28) [yh 1,yh 8] [] (yh 11)) ::
  (1005009,.op (.ld 123) [yh 11] [] (yh 5000)) ::
  (1005013,.op (.ia 28) [yh 3,yh 8] [] (yh 12)) ::
  (1005014,.op (.ld 123) [yh 12] [] (yh 5001)) ::
  (1005015,.bin .neq 123 (yh 5000) (yh 5001) (yh 13)) ::
  (10013,.fb 13 false) ::
  (1005017,.bin .add 3 (yh 8) (LF (.k (.int .i64 1))) (yh 14)) ::
  []:List (Nat×Ent))) (H:=.no) 5000 (zipA.imp ⟨z_g ⟨yy,yy,trivial⟩,z_g ⟨yy,yy,trivial⟩,z_c yy,z_c yy,z_c yy,z_c yy,z_c yy,z_c yy,z_c yy,z_c yy,z_c yy,z_c yy,z_c yy,z_c yy,z_c yy,z_c yy,z_c yy,z_c yy,z_c yy,z_b ⟨yy,yy,trivial⟩,z_b ⟨yy,yy,trivial⟩,trivial⟩) (zf ⟨zb,zj,zb,zj,zb,zb,zb,zb,zb,zb,zb,zbG,zbG,zb,zb,trivial⟩ trivial ⟨⟨rfl,zh⟩,⟨rfl,zh⟩,trivial⟩) ⟨e_fbv h2,
  e_fbv h6,
  zaW (E:=123) (by kernel_rfl) (zc rfl) (za (by rw [← e501];rfl)),
  e_bin (za rfl) (za rfl) (za rfl) (r_cmp (congrArg some e502)),
  e_fbv h503,
  e_iaD (E:=123) (by kernel_rfl) (by kernel_rfl) (zc rfl) (za rfl) s506 s507 (zc rfl),
  e_ldD (by kernel_rfl) (zc rfl) (za rfl),
  e_iaD (E:=123) (by kernel_rfl) (by kernel_rfl) (zc rfl) (za rfl) s510 s511 (zc rfl),
  e_ldD (by kernel_rfl) (zc rfl) (za rfl),
  e_bin (za rfl) (za rfl) (za rfl) (r_cmp (congrArg some e512)),
  e_fbv h513,
  e_bin (za rfl) zd (za rfl) (r_ar (congrArg some e514)),
  trivial⟩ mixed hR trivial (fun _ _ _ hs=>by cases hs) (by kernel_rfl:zz (KN w0) Tryz.prog _ .no ⟨ntOf Tryz.prog 85,[],[]⟩ (lp Tryz.prog 85 0) 5000 zaI .n [.sl 0 (.o (.g [.h 0,.h 1])),.sl 1 (.o (.g [.h 2,.h 3])),.sl 2 (.o (.c (.p 0 0))),.sl 3 (.o (.c (.p 1 0))),.sl 5 (yh 14),.sl 6 (.o (.c (.p 0 0))),.sl 7 (yh 0),.sl 8 (.o (.c (.p 1 0))),.sl 9 (yh 2),.sl 10 (yh 4),.sl 11 (yh 4),.sl 12 (.o (.c (.p 0 1))),.sl 13 (yh 1),.sl 14 (yh 5),.sl 15 (.o (.c (.p 1 1))),.sl 16 (yh 3),.sl 17 (yh 6),.sl 18 (yh 7),.sl 19 (yh 7),.bx 0 30 [.h 0,.h 1],.bx 1 30 [.h 2,.h 3]]=true) rfl (zipA.imp ⟨z_g ⟨yy,yy,trivial⟩,z_g ⟨yy,yy,trivial⟩,z_c yy,z_c yy,z_c (fun β v W h=>(zc rfl β v W).2 (by rw [← q0];exact h)),z_c yy,z_c yy,z_c yy,z_c yy,z_c yy,z_c yy,z_c yy,z_c yy,z_c yy,z_c yy,z_c yy,z_c yy,z_c yy,z_c yy,z_b ⟨yy,yy,trivial⟩,z_b ⟨yy,yy,trivial⟩,trivial⟩)
def snR_X (x:Raw) (y:Raw) (v1:Bool) (v3:Int) (v4:Int) (v5:Bool) (t:snR_T) (o4:Bool):Prop:=(∃(v501:Int),∃(v502:Bool),∃(n504:Nat),∃(x505:Nat),∃(n508:Nat),∃(x509:Nat),∃(v512:Bool),(((x.2.length:Int))=v501)∧((decide (t.i<v501))=v502)∧(((((x505:Nat):Int) != ((x509:Nat):Int)))=v512)∧(v502=true)∧(t.i=(n504:Int))∧(x.2[n504]?=some x505)∧(t.i=(n508:Int))∧(y.2[n508]?=some x509)∧(v512=true)∧((false)=o4)∧True)
def snR_N (x:Raw) (y:Raw) (v1:Bool) (v3:Int) (v4:Int) (v5:Bool) (t t':snR_T):Prop:=(∃(v501:Int),∃(v502:Bool),∃(n504:Nat),∃(x505:Nat),∃(n508:Nat),∃(x509:Nat),∃(v512:Bool),∃(v514:Int),(((x.2.length:Int))=v501)∧((decide (t.i<v501))=v502)∧(((((x505:Nat):Int) != ((x509:Nat):Int)))=v512)∧((IntKind.i64.wrap (t.i+(1:Int)))=v514)∧(v502=true)∧(t.i=(n504:Int))∧(x.2[n504]?=some x505)∧(t.i=(n508:Int))∧(y.2[n508]?=some x509)∧(v512=false)∧((v514)=t'.i)∧True)
theorem zlN {w0:World} (x:Raw) (y:Raw) (v1:Bool) (v3:Int) (v4:Int) (v5:Bool) (h2:v1=false) (h6:v5=false) (o4:Bool) {F:Fact} (u0:F.c 0=pB x.1) (u1:F.c 1=pD x.2) (u2:F.c 2=pB y.1) (u3:F.c 3=pD y.2) (u4:F.c 4=pB v1) (u5:F.c 5=pI v3) (u6:F.c 6=pI v4) (u7:F.c 7=pB v5) (u8:F.c 8=pB o4) (R:Frm) (hR:R.pm=⟨ntOf Tryz.prog 85,[],[]⟩) (J:snR_T→Prop) (m:snR_T→Nat) (hJ:J { i:=(0:Int) }) (rounds:∀t,J t→snR_X x y v1 v3 v4 v5 t o4∨∃t',snR_N x y v1 v3 v4 v5 t t'∧m t'<m t∧J t'):zg (KN w0) Tryz.prog F R snR_S (lp Tryz.prog 85 0):=by
 refine zP (T:=snR_T) (fun t=>FL [pB x.1,pD x.2,pB y.1,pD y.2,pB v1,pI v3,pI v4,pB v5,pI t.i] []) J m { i:=(0:Int) } zaI hJ (zipA.imp ⟨z_g ⟨fun β v W h=>(zc u0 β v W).1 h,fun β v W h=>(zc u1 β v W).1 h,trivial⟩,z_g ⟨fun β v W h=>(zc u2 β v W).1 h,fun β v W h=>(zc u3 β v W).1 h,trivial⟩,z_c yy,z_c yy,z_c yy,z_c yy,z_c (fun β v W h=>(zc u0 β v W).1 h),z_c yy,z_c (fun β v W h=>(zc u2 β v W).1 h),z_c (fun β v W h=>(zc u4 β v W).1 h),z_c (fun β v W h=>(zc u4 β v W).1 h),z_c yy,z_c (fun β v W h=>(zc u1 β v W).1 h),z_c (fun β v W h=>(zc u5 β v W).1 h),z_c yy,z_c (fun β v W h=>(zc u3 β v W).1 h),z_c (fun β v W h=>(zc u6 β v W).1 h),z_c (fun β v W h=>(zc u7 β v W).1 h),z_c (fun β v W h=>(zc u7 β v W).1 h),z_b ⟨fun β v W h=>(zc u0 β v W).1 h,fun β v W h=>(zc u1 β v W).1 h,trivial⟩,z_b ⟨fun β v W h=>(zc u2 β v W).1 h,fun β v W h=>(zc u3 β v W).1 h,trivial⟩,trivial⟩) rfl fun t ht=>?_
 rcases rounds t ht with hz_ | ⟨t',hz_,hm_,hj_⟩
 ·refine .inl ?_
  rcases hz_ with ⟨v501,v502,n504,x505,n508,x509,v512,e501,e502,e512,h503,s506,s507,s510,s511,h513,q0,_⟩
  ·exact zoB  x y v1 v3 v4 v5 h2 h6 t.i v501 v502 n504 x505 n508 x509 v512 e501 e502 e512 h503 s506 s507 s510 s511 h513 o4 F u0 u1 u2 u3 u4 u5 u6 u7 u8 q0 R hR
 ·refine .inr ⟨t',hm_,hj_,?_⟩
  rcases hz_ with ⟨v501,v502,n504,x505,n508,x509,v512,v514,e501,e502,e512,e514,h503,s506,s507,s510,s511,h513,q0,_⟩
  ·exact zoC  x y v1 v3 v4 v5 h2 h6 t.i v501 v502 n504 x505 n508 x509 v512 v514 e501 e502 e512 e514 h503 s506 s507 s510 s511 h513 t'.i q0 R hR
theorem zoA {w0:World} (x:Raw) (y:Raw) (v1:Bool) (v3:Int) (v4:Int) (v5:Bool) (h2:v1=false) (h6:v5=false) (o4:Bool) {F:Fact} (u0:F.c 0=pB x.1) (u1:F.c 1=pD x.2) (u2:F.c 2=pB y.1) (u3:F.c 3=pD y.2) (u4:F.c 4=pB v1) (u5:F.c 5=pI v3) (u6:F.c 6=pI v4) (u7:F.c 7=pB v5) (u8:F.c 8=pB o4) (R:Frm) (hR:R.pm=⟨ntOf Tryz.prog 85,[],[]⟩) (hl:x.2.length=y.2.length) (hb:x.2.length≤9223372036854775807) (he:x.2≠y.2) (ho:o4=false):zg (KN w0) Tryz.prog F R snR_S (lp Tryz.prog 85 0):=by
 refine zlN  x y v1 v3 v4 v5 h2 h6 o4 u0 u1 u2 u3 u4 u5 u6 u7 u8 R hR (fun ⟨i⟩=>∃n:Nat,i=(n:Int)∧n≤x.2.length∧x.2.drop n≠y.2.drop n) (fun ⟨i⟩=>(x.2.length - i).toNat) ⟨0,rfl,Nat.zero_le _,by simpa using he⟩ fun t hJ=>?_
 obtain ⟨i⟩:=t
 dsimp only at hJ
 obtain ⟨n,hi,hn,hd⟩:=hJ
 obtain ⟨v501,e501⟩:∃v,((x.2.length:Int))=v:=⟨_,rfl⟩
 obtain ⟨v502,e502⟩:∃v,(decide (i<v501))=v:=⟨_,rfl⟩
 cases h503:v502 with
 | true =>
  obtain ⟨n504,x505,s506,s507⟩:∃(n504:Nat) (x505:Nat),i=(n504:Int)∧x.2[n504]?=some x505:=by (have hlt:n<x.2.length:=(by subst e501;subst e502;have:=of_decide_eq_true h503;omega);exact ⟨n,x.2[n],hi,List.getElem?_eq_getElem hlt⟩)
  obtain ⟨n508,x509,s510,s511⟩:∃(n508:Nat) (x509:Nat),i=(n508:Int)∧y.2[n508]?=some x509:=by (have hlt:n<x.2.length:=(by subst e501;subst e502;have:=of_decide_eq_true h503;omega);have hl2:n<y.2.length:=(by omega);exact ⟨n,y.2[n],hi,List.getElem?_eq_getElem hl2⟩)
  obtain ⟨v512,e512⟩:∃v,((((x505:Nat):Int) != ((x509:Nat):Int)))=v:=⟨_,rfl⟩
  cases h513:v512 with
  | true =>
   refine .inl (⟨v501,v502,n504,x505,n508,x509,v512,e501,e502,e512,h503,s506,s507,s510,s511,h513,?_,trivial⟩)
   exact ho.symm
  | false =>
   obtain ⟨v514,e514⟩:∃v,(IntKind.i64.wrap (i+(1:Int)))=v:=⟨_,rfl⟩
   refine .inr ⟨⟨v514⟩,⟨v501,v502,n504,x505,n508,x509,v512,v514,e501,e502,e512,e514,h503,s506,s507,s510,s511,h513,rfl,trivial⟩,?_,?_⟩
   all_goals (subst e501;subst e502;have hlt:=of_decide_eq_true h503;subst hi;have hw:IntKind.i64.wrap ((n:Int)+1)=((n+1:Nat):Int):=wr64 (by omega);rw [hw] at e514;subst e514)
   ·show ((x.2.length:Int) - ((n+1:Nat):Int)).toNat<((x.2.length:Int) - (n:Int)).toNat
    omega
   ·refine ⟨n+1,rfl,by omega,(zjd hl n hn hd).2 ?_⟩
    have e1:n504=n:=by omega
    have e2:n508=n:=by omega
    subst e1;subst e2
    rw [List.getD_eq_getElem?_getD,List.getD_eq_getElem?_getD,s507,s511]
    subst e512;simp at h513
    simp only [Option.getD_some];omega
 | false =>
  exfalso
  subst e501;subst e502
  have:=of_decide_eq_false h503
  have:=(zjd hl n hn hd).1
  omega
theorem sn_p0 {w0:World} (x:Raw) (y:Raw) (v1:Bool) (e1:(!(x.1 == y.1))=v1) (h2:v1=true):Fun (KN w0) Tryz.prog 85 [.o (.g [pB x.1,pD x.2]),.o (.g [pB y.1,pD y.2])] (.o (.c (pV (.bool false)))):=
 zi (zl (F:=FL [pB x.1,pD x.2,pB y.1,pD y.2,pB v1] []) (C:=[(1000007,.bin .neq 4 (yh 0) (yh 2) (yh 4)),
  (10004,.fb 4 true)]) (k:=⟨85,[.o (.g [.h 0,.h 1]),.o (.g [.h 2,.h 3])],[],.o (.c (.k (.bool false))),[]⟩) 0 (zf ⟨zb,zj,zb,zj,zb,trivial⟩) ⟨e_bin (za rfl) (za rfl) (za rfl) (fun W X Y=>by rw [← e1];exact r_bne (by kernel_rfl) W X Y),
  e_fbv h2,
  trivial⟩ mixed (by kernel_rfl))
theorem sn_p1 {w0:World} (x:Raw) (y:Raw) (v1:Bool) (v3:Int) (v4:Int) (v5:Bool) (e1:(!(x.1 == y.1))=v1) (e3:((x.2.length:Int))=v3) (e4:((y.2.length:Int))=v4) (e5:((v3 != v4))=v5) (h2:v1=false) (h6:v5=true):Fun (KN w0) Tryz.prog 85 [.o (.g [pB x.1,pD x.2]),.o (.g [pB y.1,pD y.2])] (.o (.c (pV (.bool false)))):=
 zi (zl (F:=FL [pB x.1,pD x.2,pB y.1,pD y.2,pB v1,pI v3,pI v4,pB v5] []) (C:=[(1000007,.bin .neq 4 (yh 0) (yh 2) (yh 4)),
  (10004,.fb 4 false),
  (1000011,.op (.len [28] 3) [yh 1] [] (yh 5)),
  (1000014,.op (.len [28] 3) [yh 3] [] (yh 6)),
  (1000015,.bin .neq 3 (yh 5) (yh 6) (yh 7)),
  (10007,.fb 7 true)]) (k:=⟨85,[.o (.g [.h 0,.h 1]),.o (.g [.h 2,.h 3])],[],.o (.c (.k (.bool false))),[]⟩) 0 (zf ⟨zb,zj,zb,zj,zb,zb,zb,zb,trivial⟩) ⟨e_bin (za rfl) (za rfl) (za rfl) (fun W X Y=>by rw [← e1];exact r_bne (by kernel_rfl) W X Y),
  e_fbv h2,
  zaW (E:=123) (by kernel_rfl) (zc rfl) (za (by rw [← e3];rfl)),
  zaW (E:=123) (by kernel_rfl) (zc rfl) (za (by rw [← e4];rfl)),
  e_bin (za rfl) (za rfl) (za rfl) (r_cmp (congrArg some e5)),
  e_fbv h6,
  trivial⟩ mixed (by kernel_rfl))
theorem sn_p2 {w0:World} (x:Raw) (y:Raw) (v1:Bool) (v3:Int) (v4:Int) (v5:Bool) (o4:Bool) (e1:(!(x.1 == y.1))=v1) (e3:((x.2.length:Int))=v3) (e4:((y.2.length:Int))=v4) (e5:((v3 != v4))=v5) (h2:v1=false) (h6:v5=false) (L_snR:∀R:Frm,R.pm=⟨ntOf Tryz.prog 85,[],[]⟩→zg (KN w0) Tryz.prog (FL [pB x.1,pD x.2,pB y.1,pD y.2,pB v1,pI v3,pI v4,pB v5,pB o4] []) R snR_S (lp Tryz.prog 85 0)):Fun (KN w0) Tryz.prog 85 [.o (.g [pB x.1,pD x.2]),.o (.g [pB y.1,pD y.2])] (.o (.c (pB o4))):=
 zi (z8 (F:=FL [pB x.1,pD x.2,pB y.1,pD y.2,pB v1,pI v3,pI v4,pB v5,pB o4] []) (C:=[(1000007,.bin .neq 4 (yh 0) (yh 2) (yh 4)),
  (10004,.fb 4 false),
  (1000011,.op (.len [28] 3) [yh 1] [] (yh 5)),
  (1000014,.op (.len [28] 3) [yh 3] [] (yh 6)),
  (1000015,.bin .neq 3 (yh 5) (yh 6) (yh 7)),
  (10007,.fb 7 false)]) (k:=⟨85,[.o (.g [.h 0,.h 1]),.o (.g [.h 2,.h 3])],[],yh 8,[]⟩) ⟨[snR_S],[],0⟩ [] 0 (zf ⟨zb,zj,zb,zj,zb,zb,zb,zb,zb,trivial⟩) ⟨e_bin (za rfl) (za rfl) (za rfl) (fun W X Y=>by rw [← e1];exact r_bne (by kernel_rfl) W X Y),
  e_fbv h2,
  zaW (E:=123) (by kernel_rfl) (zc rfl) (za (by rw [← e3];rfl)),
  zaW (E:=123) (by kernel_rfl) (zc rfl) (za (by rw [← e4];rfl)),
  e_bin (za rfl) (za rfl) (za rfl) (r_cmp (congrArg some e5)),
  e_fbv h6,
  trivial⟩ mixed trivial (fun R hR p hp s hs=>by
 have hl:zH (qg Tryz.prog 85)=[(4,lp Tryz.prog 85 0)]:=by kernel_rfl
 rw [hl] at hp
 simp only [List.mem_cons,List.not_mem_nil,or_false] at hp
 rcases hp with rfl
 ·have e:s=snR_S:=(Option.some.inj hs).symm
  subst e;exact L_snR R hR) (by kernel_rfl))
theorem sn_p3 {w0:World} (x:Raw) (y:Raw) (v1:Bool) (v3:Int) (v4:Int) (v5:Bool) (e1:(!(x.1 == y.1))=v1) (e3:((x.2.length:Int))=v3) (e4:((y.2.length:Int))=v4) (e5:((v3 != v4))=v5) (h2:v1=false) (h6:v5=false) (L_snE:∀R:Frm,R.pm=⟨ntOf Tryz.prog 85,[],[]⟩→zg (KN w0) Tryz.prog (FL [pB x.1,pD x.2,pB y.1,pD y.2,pB v1,pI v3,pI v4,pB v5] []) R snE_S (lp Tryz.prog 85 0)):Fun (KN w0) Tryz.prog 85 [.o (.g [pB x.1,pD x.2]),.o (.g [pB y.1,pD y.2])] (.o (.c (pV (.bool true)))):=
 zi (z8 (F:=FL [pB x.1,pD x.2,pB y.1,pD y.2,pB v1,pI v3,pI v4,pB v5] []) (C:=[(1000007,.bin .neq 4 (yh 0) (yh 2) (yh 4)),
  (10004,.fb 4 false),
  (1000011,.op (.len [28] 3) [yh 1] [] (yh 5)),
  (1000014,.op (.len [28] 3) [yh 3] [] (yh 6)),
  (1000015,.bin .neq 3 (yh 5) (yh 6) (yh 7)),
  (10007,.fb 7 false)]) (k:=⟨85,[.o (.g [.h 0,.h 1]),.o (.g [.h 2,.h 3])],[],.o (.c (.k (.bool true))),[]⟩) ⟨[snE_S],[],0⟩ [] 0 (zf ⟨zb,zj,zb,zj,zb,zb,zb,zb,trivial⟩) ⟨e_bin (za rfl) (za rfl) (za rfl) (fun W X Y=>by rw [← e1];exact r_bne (by kernel_rfl) W X Y),
  e_fbv h2,
  zaW (E:=123) (by kernel_rfl) (zc rfl) (za (by rw [← e3];rfl)),
  zaW (E:=123) (by kernel_rfl) (zc rfl) (za (by rw [← e4];rfl)),
  e_bin (za rfl) (za rfl) (za rfl) (r_cmp (congrArg some e5)),
  e_fbv h6,
  trivial⟩ mixed trivial (fun R hR p hp s hs=>by
 have hl:zH (qg Tryz.prog 85)=[(4,lp Tryz.prog 85 0)]:=by kernel_rfl
 rw [hl] at hp
 simp only [List.mem_cons,List.not_mem_nil,or_false] at hp
 rcases hp with rfl
 ·have e:s=snE_S:=(Option.some.inj hs).symm
  subst e;exact L_snE R hR) (by kernel_rfl))
theorem zk8 {K:Kit} {P:Program} {f:FuncId} {res:PSh} {x:Raw} {r:List PSh} (h:x.2.length≤9223372036854775807→Fun K P f (gN x::r) res):Fun K P f (gN x::r) res:=by
 intro W D vs hs hf
 match vs,hs with
 | v::us,hs =>
  obtain ⟨A,n,c,_,h2⟩:=gN_ok hs.1
  exact h (by rw [h2.len];exact Nat.le_trans h2.2.1 h2.2.2) W D (v::us) hs hf
 | [],h=>exact h.elim
theorem zaD {w0:World} (x y:Raw) (o:Bool) (ho:decide (x=y)=o):Fun (KN w0) Tryz.prog 85 [.o (.g [pB x.1,pD x.2]),.o (.g [pB y.1,pD y.2])] (.o (.c (pB o))):=by
 refine zk8 fun hb=>?_
 obtain ⟨v1,e1⟩:∃v,(!(x.1 == y.1))=v:=⟨_,rfl⟩
 cases h2:v1 with
 | true =>
  refine Fun.imp (sn_p0 x y v1 e1 h2) (fun _ _ _ h=>h) (fun v W D h=>?_)
  have r0:o=false:=by
   rw [← ho,decide_eq_false_iff_not]
   intro e
   subst e
   simp_all
  rw [r0];exact h
 | false =>
  obtain ⟨v3,e3⟩:∃v,((x.2.length:Int))=v:=⟨_,rfl⟩
  obtain ⟨v4,e4⟩:∃v,((y.2.length:Int))=v:=⟨_,rfl⟩
  obtain ⟨v5,e5⟩:∃v,((v3 != v4))=v:=⟨_,rfl⟩
  cases h6:v5 with
  | true =>
   refine Fun.imp (sn_p1 x y v1 v3 v4 v5 e1 e3 e4 e5 h2 h6) (fun _ _ _ h=>h) (fun v W D h=>?_)
   have r0:o=false:=by
    rw [← ho,decide_eq_false_iff_not]
    intro e
    subst e
    simp_all
   rw [r0];exact h
  | false =>
   by_cases c4:x.2=y.2
   ·
    refine Fun.imp (sn_p3 x y v1 v3 v4 v5 e1 e3 e4 e5 h2 h6 (fun R hR=>zox x y v1 v3 v4 v5 h2 h6  rfl rfl rfl rfl rfl rfl rfl rfl R hR (by have:=e5.trans h6;simp at this;omega) hb c4)) (fun _ _ _ h=>h) (fun v W D h=>?_)
    have r0:o=true:=by
     rw [← ho,decide_eq_true_iff]
     exact Prod.ext (by simp_all) c4
    rw [r0];exact h
   ·
    obtain ⟨o4,hO_snR⟩:∃(o4:Bool),o4=false:=⟨_,rfl⟩
    refine Fun.imp (sn_p2 x y v1 v3 v4 v5 o4 e1 e3 e4 e5 h2 h6 (fun R hR=>zoA x y v1 v3 v4 v5 h2 h6 o4 rfl rfl rfl rfl rfl rfl rfl rfl rfl R hR (by have:=e5.trans h6;simp at this;omega) hb c4 hO_snR)) (fun _ _ _ h=>h) (fun v W D h=>?_)
    have r0:o=o4:=by
     rw [← ho,hO_snR,decide_eq_false_iff_not]
     intro e
     exact c4 (by rw [e])
    rw [r0];exact h
end Go.Proofs.YtjcegdldgjphiaaGreatDoor
namespace Go.Proofs.YtjcegdldgjphiaaGreatDoor
open Go.RowKit Go.Shelf
abbrev InR (n:Int):Prop:=-9223372036854775808≤n∧n<9223372036854775808
theorem zpr {w0:World} (a:Int×Int) (r:RR) (hr:rq (fracR a.1 a.2)=r) (h:InR a.1) (h2:InR a.2):Fun (KN w0) Tryz.prog 93 [.o (.g [pI a.1,pI a.2])] (gR r):=zsX a.1 a.2 r hr h.1 h.2 h2.1 h2.2
theorem zjs {w0:World} (x:RR) (y:RR) (v1:Bool) (v3:Bool) (e1:(decide (x.1=y.1))=v1) (e3:(decide (x.2=y.2))=v3) (h2:v1=true):Fun (KN w0) Tryz.prog 59 [.o (.g [pB x.1.1,pD x.1.2,pB x.2.1,pD x.2.2]),.o (.g [pB y.1.1,pD y.1.2,pB y.2.1,pD y.2.2])] (.o (.c (pB v3))):=
 zi (zl (F:=FL [pB x.1.1,pD x.1.2,pB x.2.1,pD x.2.2,pB y.1.1,pD y.1.2,pB y.2.1,pD y.2.2,pB v1,pB v3] []) (C:=[(1000007,.call ⟨85,[.o (.g [.h 0,.h 1]),.o (.g [.h 4,.h 5])],[],yh 8,[]⟩),
  (10008,.fb 8 true),
  (1000013,.call ⟨85,[.o (.g [.h 2,.h 3]),.o (.g [.h 6,.h 7])],[],yh 9,[]⟩)]) (k:=⟨59,[.o (.g [.h 0,.h 1,.h 2,.h 3]),.o (.g [.h 4,.h 5,.h 6,.h 7])],[],yh 9,[]⟩) 0 (zf ⟨zb,zj,zb,zj,zb,zj,zb,zj,zb,zb,trivial⟩) ⟨ze (zaD x.1 y.1 v1 e1),
  e_fbv h2,
  ze (zaD x.2 y.2 v3 e3),
  trivial⟩ mixed (by kernel_rfl))
theorem zjt {w0:World} (x:RR) (y:RR) (v1:Bool) (e1:(decide (x.1=y.1))=v1) (h2:v1=false):Fun (KN w0) Tryz.prog 59 [.o (.g [pB x.1.1,pD x.1.2,pB x.2.1,pD x.2.2]),.o (.g [pB y.1.1,pD y.1.2,pB y.2.1,pD y.2.2])] (.o (.c (pV (.bool false)))):=
 zi (zl (F:=FL [pB x.1.1,pD x.1.2,pB x.2.1,pD x.2.2,pB y.1.1,pD y.1.2,pB y.2.1,pD y.2.2,pB v1] []) (C:=[(1000007,.call ⟨85,[.o (.g [.h 0,.h 1]),.o (.g [.h 4,.h 5])],[],yh 8,[]⟩),
  (10008,.fb 8 false)]) (k:=⟨59,[.o (.g [.h 0,.h 1,.h 2,.h 3]),.o (.g [.h 4,.h 5,.h 6,.h 7])],[],.o (.c (.k (.bool false))),[]⟩) 0 (zf ⟨zb,zj,zb,zj,zb,zj,zb,zj,zb,trivial⟩) ⟨ze (zaD x.1 y.1 v1 e1),
  e_fbv h2,
  trivial⟩ mixed (by kernel_rfl))
theorem zmq {w0:World} (x y:RR) (o:Bool) (ho:decide (x=y)=o):Fun (KN w0) Tryz.prog 59 [.o (.g [pB x.1.1,pD x.1.2,pB x.2.1,pD x.2.2]),.o (.g [pB y.1.1,pD y.1.2,pB y.2.1,pD y.2.2])] (.o (.c (pB o))):=by
 obtain ⟨v1,e1⟩:∃v,(decide (x.1=y.1))=v:=⟨_,rfl⟩
 cases h2:v1 with
 | true =>
  obtain ⟨v3,e3⟩:∃v,(decide (x.2=y.2))=v:=⟨_,rfl⟩
  refine Fun.imp (zjs x y v1 v3 e1 e3 h2) (fun _ _ _ h=>h) (fun v W D h=>?_)
  have r0:o=v3:=by
   rw [← ho]
   subst_vars
   cases x;cases y
   simp_all
  rw [r0];exact h
 | false =>
  refine Fun.imp (zjt x y v1 e1 h2) (fun _ _ _ h=>h) (fun v W D h=>?_)
  have r0:o=false:=by
   rw [← ho]
   subst_vars
   cases x;cases y
   simp_all
  rw [r0];exact h
def modI (n m:Int):Int:=if m<1 then 0 else (IntKind.i64.wrap (n.tmod m+m)).tmod m
theorem zuT {w0:World} (n:Int) (m:Int) (v1:Bool) (e1:(decide (m<(1:Int)))=v1) (h2:v1=true):Fun (KN w0) Tryz.prog 92 [.o (.c (pI n)),.o (.c (pI m))] (.o (.c (pV (.int .i64 0)))):=
 zi (zl (F:=FL [pI n,pI m,pB v1] []) (C:=[(1000002,.bin .lss 3 (yh 1) (LF (.k (.int .i64 1))) (yh 2)),
  (10002,.fb 2 true)]) (k:=⟨92,[yh 0,yh 1],[],.o (.c (.k (.int .i64 0))),[]⟩) 0 (zf ⟨zb,zb,zb,trivial⟩) ⟨e_bin (za rfl) zd (za rfl) (r_cmp (congrArg some e1)),
  e_fbv h2,
  trivial⟩ mixed (by kernel_rfl))
theorem zuU {w0:World} (n:Int) (m:Int) (v1:Bool) (v3:Int) (v5:Int) (v6:Int) (e1:(decide (m<(1:Int)))=v1) (e3:((n:Int).tmod m)=v3) (e5:(IntKind.i64.wrap (v3+m))=v5) (e6:((v5:Int).tmod m)=v6) (h2:v1=false) (s4:m≠0) (s7:m≠0):Fun (KN w0) Tryz.prog 92 [.o (.c (pI n)),.o (.c (pI m))] (.o (.c (pI v6))):=
 zi (zl (F:=FL [pI n,pI m,pB v1,pI v3,pI v5,pI v6] []) (C:=[(1000002,.bin .lss 3 (yh 1) (LF (.k (.int .i64 1))) (yh 2)),
  (10002,.fb 2 false),
  (1000005,.bin .rem 3 (yh 0) (yh 1) (yh 3)),
  (1000007,.bin .add 3 (yh 3) (yh 1) (yh 4)),
  (1000009,.bin .rem 3 (yh 4) (yh 1) (yh 5))]) (k:=⟨92,[yh 0,yh 1],[],yh 5,[]⟩) 0 (zf ⟨zb,zb,zb,zb,zb,zb,trivial⟩) ⟨e_bin (za rfl) zd (za rfl) (r_cmp (congrArg some e1)),
  e_fbv h2,
  e_bin (za rfl) (za rfl) (za rfl) (r_ar ((zn2 s4).trans (congrArg some e3))),
  e_bin (za rfl) (za rfl) (za rfl) (r_ar (congrArg some e5)),
  e_bin (za rfl) (za rfl) (za rfl) (r_ar ((zn2 s7).trans (congrArg some e6))),
  trivial⟩ mixed (by kernel_rfl))
theorem f_mod {w0:World} (n m:Int) (o:Int) (ho:modI n m=o):Fun (KN w0) Tryz.prog 92 [.o (.c (pI n)),.o (.c (pI m))] (.o (.c (pI o))):=by
 obtain ⟨v1,e1⟩:∃v,(decide (m<(1:Int)))=v:=⟨_,rfl⟩
 cases h2:v1 with
 | true =>
  refine Fun.imp (zuT n m v1 e1 h2) (fun _ _ _ h=>h) (fun v W D h=>?_)
  have r0:o=(0:Int):=by
   unfold modI at ho
   subst_vars
   rw [if_pos (by simp_all)]
  rw [r0];exact h
 | false =>
  obtain ⟨v3,e3⟩:∃v,((n:Int).tmod m)=v:=⟨_,rfl⟩
  have s4:m≠0:=by first | (simp_all;done) | (simp_all;omega)
  obtain ⟨v5,e5⟩:∃v,(IntKind.i64.wrap (v3+m))=v:=⟨_,rfl⟩
  obtain ⟨v6,e6⟩:∃v,((v5:Int).tmod m)=v:=⟨_,rfl⟩
  have s7:m≠0:=by first | (simp_all;done) | (simp_all;omega)
  refine Fun.imp (zuU n m v1 v3 v5 v6 e1 e3 e5 e6 h2 s4 s7) (fun _ _ _ h=>h) (fun v W D h=>?_)
  have r0:o=v6:=by
   unfold modI at ho
   subst_vars
   rw [if_neg (by simp_all)]
  rw [r0];exact h
end Go.Proofs.YtjcegdldgjphiaaGreatDoor
namespace Go.Proofs.YtjcegdldgjphiaaGreatDoor
open Go.RowKit Go.Shelf
def cI (x:Int):List Pred:=[pI x]
theorem zo {w0:World} (x:Int):FineAll (KN w0) (cI x):=⟨zb,trivial⟩
def numL:List Int→Int
 | l=>l.foldl (fun a x=>a*4294967296+x.tmod 4294967296) 0
theorem zrY (l:List Int) (x:Int):numL (l++[x])=numL l*4294967296+x.tmod 4294967296:=by
 unfold numL;rw [List.foldl_append];rfl
theorem zpG (x:Int):-4294967295≤x.tmod 4294967296∧x.tmod 4294967296≤4294967295:=by
 have h1:=Int.tmod_lt_of_pos x (show (0:Int)<4294967296 by decide)
 have h2:=Int.lt_tmod_of_pos x (show (0:Int)<4294967296 by decide)
 omega
theorem zri:∀(l:List Int),l.length≤3→(numL l).natAbs≤79228162532711081667253501951
 | [],_=>by decide
 | [a],_=>by have:=zpG a;show (0*4294967296+_:Int).natAbs≤_;omega
 | [a,b],_=>by have:=zpG a;have:=zpG b;show ((0*4294967296+a.tmod 4294967296)*4294967296+b.tmod 4294967296:Int).natAbs≤_;omega
 | [a,b,c],_=>by have:=zpG a;have:=zpG b;have:=zpG c;show (((0*4294967296+a.tmod 4294967296)*4294967296+b.tmod 4294967296)*4294967296+c.tmod 4294967296:Int).natAbs≤_;omega
 | _::_::_::_::_,h=>by simp at h
theorem zqr {l:List Int} (h:l.length≤3):(numL l).natAbs<big:=Nat.lt_of_le_of_lt (zri l h) (by unfold big;decide +kernel)
theorem zub {l:List Int} {f k:Nat} {x:Int} (h:l[f+k]?=some x):(l.drop f).take (k+1)=(l.drop f).take k++[x]:=by
 rw [List.take_add_one,List.getElem?_drop,h];rfl
structure nb_T where
 i:Int
 acc:Raw
def zpv:List Atom:=[.sl 0 (yh 0),.sl 1 (yh 1),.sl 4 (.o (.c (.p 0 0))),.sl 5 (.o (.c (.p 2 0))),.sl 6 (.o (.c (.p 5 0))),.sl 7 (yh 6),.sl 8 (.o (.g [.h 2,.h 3])),.sl 9 (.o (.g [.h 4,.h 5])),.sl 10 (yh 1),.bx 0 30 [.k (.bool false),.k (.slice none 0 0)],.bx 2 30 [.h 7,.h 8],.bx 5 30 [.h 4,.h 5]]
def nb_S:LoopS:=⟨4,[.sl 0 (yh 0),.sl 1 (yh 1),.sl 4 (.o (.c (.p 0 0))),.sl 5 (.o (.c (.p 2 0))),.sl 6 (.o (.c (.p 5 0))),.sl 7 (yh 1),.sl 8 (.o (.g [.h 2,.h 3])),.sl 9 (.o (.g [.h 4,.h 5])),.sl 10 (yh 1),.bx 0 30 [.k (.bool false),.k (.slice none 0 0)],.bx 2 30 [.h 2,.h 3],.bx 5 30 [.h 4,.h 5]],(.x 0),[.sl 0 (yh 0),.sl 1 (yh 1),.sl 4 (.o (.c (.p 0 0))),.sl 5 (.o (.c (.p 2 0))),.sl 6 (.o (.c (.p 5 0))),.sl 8 (.o (.g [.h 2,.h 3])),.sl 9 (.o (.g [.h 4,.h 5])),.sl 10 (yh 1),.bx 0 30 [.k (.bool false),.k (.slice none 0 0)],.bx 2 30 [.h 6,.h 7],.bx 5 30 [.h 4,.h 5]]⟩
theorem nb_r0 {w0:World} (l:(List Int)) (f:Int) (v1:Raw) (v4:Raw) (i:Int) (acc:Raw) (v501:Int) (v502:Bool) (v504:Int) (v505:Bool) (v507:Raw) (v508:Bool) (n509:Nat) (x510:Int) (v513:Int) (v514:Raw) (v517:Raw) (v518:Bool) (v519:Int) (e501:((l.length:Int))=v501) (e502:(decide (i<v501))=v502) (e504:(IntKind.i64.wrap (f+(3:Int)))=v504) (e505:(decide (i<v504))=v505) (e507:(nz (vO (mulX acc v4)))=v507) (e508:(okO (mulX acc v4))=v508) (e513:((x510:Int).tmod (4294967296:Int))=v513) (e514:(nz v513)=v514) (e517:(nz (vO (addX v507 v514)))=v517) (e518:(okO (addX v507 v514))=v518) (e519:(IntKind.i64.wrap (i+(1:Int)))=v519) (h503:v502=true) (h506:v505=true) (s511:i=(n509:Int)) (s512:l[n509]?=some x510) (s515:-9223372036854775808≤v513) (s516:v513<9223372036854775808) (i':Int) (acc':Raw) (q0:(v519)=i') (q1:(v517)=acc') (R:Frm) (hR:R.pm=⟨ntOf Tryz.prog 94,[],[]⟩):Goes (KN w0) Tryz.prog R (lp Tryz.prog 94 0) (FL [pLs cI l,pI f,pB v1.1,pD v1.2,pB v4.1,pD v4.2,pI i,pB acc.1,pD acc.2] []) zpv .n (FL [pLs cI l,pI f,pB v1.1,pD v1.2,pB v4.1,pD v4.2,pI i',pB acc'.1,pD acc'.2] []) zpv:=
 goes (x:=.n) (y:=.n) (Fb:=FL [pLs cI l,pI f,pB v1.1,pD v1.2,pB v4.1,pD v4.2,pI i,pB acc.1,pD acc.2,pI v501,pB v502,pI v504,pB v505,pB v507.1,pD v507.2,pB v508,pP (cI x510),pI x510,pI v513,pB v514.1,pD v514.2,pB v517.1,pD v517.2,pB v518,pI v519] []) (stb:=zpv) (tl:=[.sl 0 (yh 0),.sl 1 (yh 1),.sl 4 (.o (.c (.p 0 0))),.sl 5 (.o (.c (.p 2 0))),.sl 6 (.o (.c (.p 5 0))),.sl 7 (yh 24),.sl 8 (.o (.g [.h 2,.h 3])),.sl 9 (.o (.g [.h 4,.h 5])),.sl 10 (yh 1),.bx 0 30 [.k (.bool false),.k (.slice none 0 0)],.bx 2 30 [.h 21,.h 22],.bx 5 30 [.h 4,.h 5]]) (C:=((1005002,.op (.len [22] 3) [yh 0] [] (yh 9)) ::
  (1005003,.bin .lss 3 (yh 6) (yh 9) (yh 10)) ::
  (10010,.fb 10 true) ::
  (1005007,.bin .add 3 (yh 1) (LF (.k (.int .i64 3))) (yh 11)) ::
  (1005008,.bin .lss 3 (yh 6) (yh 11) (yh 12)) ::
  (10012,.fb 12 true) ::
  (1005012,.call ⟨112,[.o (.g [.h 7,.h 8]),.o (.g [.h 4,.h 5])],[],.t [.g [.h 13,.h 14],.c (.h 15)],[]⟩) ::
  (1005020,.op (.ia 22) [yh 0,yh 6] [] (yh 16)) ::
  (1005021,.op (.ld 3) [yh 16] [] (yh 17)) ::
  (1005022,.bin .rem 3 (yh 17) (LF (.k (.int .i64 4294967296))) (yh 18)) ::
  (1005023,.call ⟨77,[yh 18],[],.o (.g [.h 19,.h 20]),[]⟩) ::
  (1005024,.call ⟨113,[.o (.g [.h 13,.h 14]),.o (.g [.h 19,.h 20])],[],.t [.g [.h 21,.h 22],.c (.h 23)],[]⟩) ::
  (1005030,.bin .add 3 (yh 6) (LF (.k (.int .i64 1))) (yh 24)) ::
  []:List (Nat×Ent))) (H:=.no) 5000 (zipA.imp ⟨z_c yy,z_c yy,z_c yy,z_c yy,z_c yy,z_c yy,z_g ⟨yy,yy,trivial⟩,z_g ⟨yy,yy,trivial⟩,z_c yy,z_b ⟨yy,yy,trivial⟩,z_b ⟨yy,yy,trivial⟩,z_b ⟨yy,yy,trivial⟩,trivial⟩) (zf ⟨(zt zo),zb,zb,zj,zb,zj,zb,zb,zj,zb,zb,zb,zb,zb,zj,zb,(zbf (zo _)),zb,zb,zb,zj,zb,zj,zb,zb,trivial⟩) ⟨qp (E:=3) (by kernel_rfl) (zc rfl) (za (by rw [← e501];rfl)),
  e_bin (za rfl) (za rfl) (za rfl) (r_cmp (congrArg some e502)),
  e_fbv h503,
  e_bin (za rfl) zd (za rfl) (r_ar (congrArg some e504)),
  e_bin (za rfl) (za rfl) (za rfl) (r_cmp (congrArg some e505)),
  e_fbv h506,
  ze (zuW acc v4 v507 v508 e507 e508),
  e_iaL (E:=3) (z:=1) (fun _=>rfl) (by kernel_rfl) (by kernel_rfl) (zc rfl) (za rfl) s511 s512 (zc rfl),
  e_ldP (by kernel_rfl) (zc rfl) (zc rfl),
  e_bin (za rfl) zd (za rfl) (r_ar ((zn2 (by decide)).trans (congrArg some e513))),
  ze (zpo v513 v514 e514 s515 s516),
  ze (zuV v507 v514 v517 v518 e517 e518),
  e_bin (za rfl) zd (za rfl) (r_ar (congrArg some e519)),
  trivial⟩ mixed hR trivial (fun _ _ _ hs=>by cases hs) (by kernel_rfl:zz (KN w0) Tryz.prog _ .no ⟨ntOf Tryz.prog 94,[],[]⟩ (lp Tryz.prog 94 0) 5000 zpv .n [.sl 0 (yh 0),.sl 1 (yh 1),.sl 4 (.o (.c (.p 0 0))),.sl 5 (.o (.c (.p 2 0))),.sl 6 (.o (.c (.p 5 0))),.sl 7 (yh 24),.sl 8 (.o (.g [.h 2,.h 3])),.sl 9 (.o (.g [.h 4,.h 5])),.sl 10 (yh 1),.bx 0 30 [.k (.bool false),.k (.slice none 0 0)],.bx 2 30 [.h 21,.h 22],.bx 5 30 [.h 4,.h 5]]=true) rfl (zipA.imp ⟨z_c yy,z_c yy,z_c yy,z_c yy,z_c yy,z_c (fun β v W h=>(zc rfl β v W).2 (by rw [← q0];exact h)),z_g ⟨yy,yy,trivial⟩,z_g ⟨yy,yy,trivial⟩,z_c yy,z_b ⟨yy,yy,trivial⟩,z_b ⟨fun β v W h=>(zc rfl β v W).2 (by rw [← q1];exact h),fun β v W h=>(zc rfl β v W).2 (by rw [← q1];exact h),trivial⟩,z_b ⟨yy,yy,trivial⟩,trivial⟩)
theorem nb_r1 {w0:World} (l:(List Int)) (f:Int) (v1:Raw) (v4:Raw) (i:Int) (acc:Raw) (v501:Int) (v502:Bool) (v504:Int) (v505:Bool) (e501:((l.length:Int))=v501) (e502:(decide (i<v501))=v502) (e504:(IntKind.i64.wrap (f+(3:Int)))=v504) (e505:(decide (i<v504))=v505) (h503:v502=true) (h506:v505=false) (acc2:Raw) (F:Fact) (u0:F.c 0=pLs cI l) (u1:F.c 1=pI f) (u2:F.c 2=pB v1.1) (u3:F.c 3=pD v1.2) (u4:F.c 4=pB v4.1) (u5:F.c 5=pD v4.2) (u6:F.c 6=pB acc2.1) (u7:F.c 7=pD acc2.2) (q0:(acc)=acc2) (R:Frm) (hR:R.pm=⟨ntOf Tryz.prog 94,[],[]⟩):Goes (KN w0) Tryz.prog R (lp Tryz.prog 94 0) (FL [pLs cI l,pI f,pB v1.1,pD v1.2,pB v4.1,pD v4.2,pI i,pB acc.1,pD acc.2] []) zpv (.x 0) F nb_S.out:=
 goes (x:=(.x 0)) (y:=(.x 0)) (Fb:=FL [pLs cI l,pI f,pB v1.1,pD v1.2,pB v4.1,pD v4.2,pI i,pB acc.1,pD acc.2,pI v501,pB v502,pI v504,pB v505] []) (stb:=zpv) (tl:=[.sl 0 (yh 0),.sl 1 (yh 1),.sl 4 (.o (.c (.p 0 0))),.sl 5 (.o (.c (.p 2 0))),.sl 6 (.o (.c (.p 5 0))),.sl 8 (.o (.g [.h 2,.h 3])),.sl 9 (.o (.g [.h 4,.h 5])),.sl 10 (yh 1),.bx 0 30 [.k (.bool false),.k (.slice none 0 0)],.bx 2 30 [.h 7,.h 8],.bx 5 30 [.h 4,.h 5]]) (C:=((1005002,.op (.len [22] 3) [yh 0] [] (yh 9)) ::
  (1005003,.bin .lss 3 (yh 6) (yh 9) (yh 10)) ::
  (10010,.fb 10 true) ::
  (1005007,.bin .add 3 (yh 1) (LF (.k (.int .i64 3))) (yh 11)) ::
  (1005008,.bin .lss 3 (yh 6) (yh 11) (yh 12)) ::
  (10012,.fb 12 false) ::
  []:List (Nat×Ent))) (H:=.no) 5000 (zipA.imp ⟨z_c yy,z_c yy,z_c yy,z_c yy,z_c yy,z_c yy,z_g ⟨yy,yy,trivial⟩,z_g ⟨yy,yy,trivial⟩,z_c yy,z_b ⟨yy,yy,trivial⟩,z_b ⟨yy,yy,trivial⟩,z_b ⟨yy,yy,trivial⟩,trivial⟩) (zf ⟨(zt zo),zb,zb,zj,zb,zj,zb,zb,zj,zb,zb,zb,zb,trivial⟩) ⟨qp (E:=3) (by kernel_rfl) (zc rfl) (za (by rw [← e501];rfl)),
  e_bin (za rfl) (za rfl) (za rfl) (r_cmp (congrArg some e502)),
  e_fbv h503,
  e_bin (za rfl) zd (za rfl) (r_ar (congrArg some e504)),
  e_bin (za rfl) (za rfl) (za rfl) (r_cmp (congrArg some e505)),
  e_fbv h506,
  trivial⟩ mixed hR trivial (fun _ _ _ hs=>by cases hs) (by kernel_rfl:zz (KN w0) Tryz.prog _ .no ⟨ntOf Tryz.prog 94,[],[]⟩ (lp Tryz.prog 94 0) 5000 zpv (.x 0) [.sl 0 (yh 0),.sl 1 (yh 1),.sl 4 (.o (.c (.p 0 0))),.sl 5 (.o (.c (.p 2 0))),.sl 6 (.o (.c (.p 5 0))),.sl 8 (.o (.g [.h 2,.h 3])),.sl 9 (.o (.g [.h 4,.h 5])),.sl 10 (yh 1),.bx 0 30 [.k (.bool false),.k (.slice none 0 0)],.bx 2 30 [.h 7,.h 8],.bx 5 30 [.h 4,.h 5]]=true) rfl (zipA.imp ⟨z_c (fun β v W h=>(zc u0 β v W).2 h),z_c (fun β v W h=>(zc u1 β v W).2 h),z_c yy,z_c yy,z_c yy,z_g ⟨fun β v W h=>(zc u2 β v W).2 h,fun β v W h=>(zc u3 β v W).2 h,trivial⟩,z_g ⟨fun β v W h=>(zc u4 β v W).2 h,fun β v W h=>(zc u5 β v W).2 h,trivial⟩,z_c (fun β v W h=>(zc u1 β v W).2 h),z_b ⟨yy,yy,trivial⟩,z_b ⟨fun β v W h=>(zc u6 β v W).2 (by rw [← q0];exact h),fun β v W h=>(zc u7 β v W).2 (by rw [← q0];exact h),trivial⟩,z_b ⟨fun β v W h=>(zc u4 β v W).2 h,fun β v W h=>(zc u5 β v W).2 h,trivial⟩,trivial⟩)
theorem nb_r2 {w0:World} (l:(List Int)) (f:Int) (v1:Raw) (v4:Raw) (i:Int) (acc:Raw) (v501:Int) (v502:Bool) (e501:((l.length:Int))=v501) (e502:(decide (i<v501))=v502) (h503:v502=false) (acc2:Raw) (F:Fact) (u0:F.c 0=pLs cI l) (u1:F.c 1=pI f) (u2:F.c 2=pB v1.1) (u3:F.c 3=pD v1.2) (u4:F.c 4=pB v4.1) (u5:F.c 5=pD v4.2) (u6:F.c 6=pB acc2.1) (u7:F.c 7=pD acc2.2) (q0:(acc)=acc2) (R:Frm) (hR:R.pm=⟨ntOf Tryz.prog 94,[],[]⟩):Goes (KN w0) Tryz.prog R (lp Tryz.prog 94 0) (FL [pLs cI l,pI f,pB v1.1,pD v1.2,pB v4.1,pD v4.2,pI i,pB acc.1,pD acc.2] []) zpv (.x 0) F nb_S.out:=
 goes (x:=(.x 0)) (y:=(.x 0)) (Fb:=FL [pLs cI l,pI f,pB v1.1,pD v1.2,pB v4.1,pD v4.2,pI i,pB acc.1,pD acc.2,pI v501,pB v502] []) (stb:=zpv) (tl:=[.sl 0 (yh 0),.sl 1 (yh 1),.sl 4 (.o (.c (.p 0 0))),.sl 5 (.o (.c (.p 2 0))),.sl 6 (.o (.c (.p 5 0))),.sl 8 (.o (.g [.h 2,.h 3])),.sl 9 (.o (.g [.h 4,.h 5])),.sl 10 (yh 1),.bx 0 30 [.k (.bool false),.k (.slice none 0 0)],.bx 2 30 [.h 7,.h 8],.bx 5 30 [.h 4,.h 5]]) (C:=((1005002,.op (.len [22] 3) [yh 0] [] (yh 9)) ::
  (1005003,.bin .lss 3 (yh 6) (yh 9) (yh 10)) ::
  (10010,.fb 10 false) ::
  []:List (Nat×Ent))) (H:=.no) 5000 (zipA.imp ⟨z_c yy,z_c yy,z_c yy,z_c yy,z_c yy,z_c yy,z_g ⟨yy,yy,trivial⟩,z_g ⟨yy,yy,trivial⟩,z_c yy,z_b ⟨yy,yy,trivial⟩,z_b ⟨yy,yy,trivial⟩,z_b ⟨yy,yy,trivial⟩,trivial⟩) (zf ⟨(zt zo),zb,zb,zj,zb,zj,zb,zb,zj,zb,zb,trivial⟩) ⟨qp (E:=3) (by kernel_rfl) (zc rfl) (za (by rw [← e501];rfl)),
  e_bin (za rfl) (za rfl) (za rfl) (r_cmp (congrArg some e502)),
  e_fbv h503,
  trivial⟩ mixed hR trivial (fun _ _ _ hs=>by cases hs) (by kernel_rfl:zz (KN w0) Tryz.prog _ .no ⟨ntOf Tryz.prog 94,[],[]⟩ (lp Tryz.prog 94 0) 5000 zpv (.x 0) [.sl 0 (yh 0),.sl 1 (yh 1),.sl 4 (.o (.c (.p 0 0))),.sl 5 (.o (.c (.p 2 0))),.sl 6 (.o (.c (.p 5 0))),.sl 8 (.o (.g [.h 2,.h 3])),.sl 9 (.o (.g [.h 4,.h 5])),.sl 10 (yh 1),.bx 0 30 [.k (.bool false),.k (.slice none 0 0)],.bx 2 30 [.h 7,.h 8],.bx 5 30 [.h 4,.h 5]]=true) rfl (zipA.imp ⟨z_c (fun β v W h=>(zc u0 β v W).2 h),z_c (fun β v W h=>(zc u1 β v W).2 h),z_c yy,z_c yy,z_c yy,z_g ⟨fun β v W h=>(zc u2 β v W).2 h,fun β v W h=>(zc u3 β v W).2 h,trivial⟩,z_g ⟨fun β v W h=>(zc u4 β v W).2 h,fun β v W h=>(zc u5 β v W).2 h,trivial⟩,z_c (fun β v W h=>(zc u1 β v W).2 h),z_b ⟨yy,yy,trivial⟩,z_b ⟨fun β v W h=>(zc u6 β v W).2 (by rw [← q0];exact h),fun β v W h=>(zc u7 β v W).2 (by rw [← q0];exact h),trivial⟩,z_b ⟨fun β v W h=>(zc u4 β v W).2 h,fun β v W h=>(zc u5 β v W).2 h,trivial⟩,trivial⟩)
def nb_X (l:(List Int)) (f:Int) (v1:Raw) (v4:Raw) (t:nb_T) (acc2:Raw):Prop:=(∃(v501:Int),∃(v502:Bool),∃(v504:Int),∃(v505:Bool),(((l.length:Int))=v501)∧((decide (t.i<v501))=v502)∧((IntKind.i64.wrap (f+(3:Int)))=v504)∧((decide (t.i<v504))=v505)∧(v502=true)∧(v505=false)∧((t.acc)=acc2)∧True)∨(∃(v501:Int),∃(v502:Bool),(((l.length:Int))=v501)∧((decide (t.i<v501))=v502)∧(v502=false)∧((t.acc)=acc2)∧True)
def nb_N (l:(List Int)) (f:Int) (v1:Raw) (v4:Raw) (t t':nb_T):Prop:=(∃(v501:Int),∃(v502:Bool),∃(v504:Int),∃(v505:Bool),∃(v507:Raw),∃(v508:Bool),∃(n509:Nat),∃(x510:Int),∃(v513:Int),∃(v514:Raw),∃(v517:Raw),∃(v518:Bool),∃(v519:Int),(((l.length:Int))=v501)∧((decide (t.i<v501))=v502)∧((IntKind.i64.wrap (f+(3:Int)))=v504)∧((decide (t.i<v504))=v505)∧((nz (vO (mulX t.acc v4)))=v507)∧((okO (mulX t.acc v4))=v508)∧(((x510:Int).tmod (4294967296:Int))=v513)∧((nz v513)=v514)∧((nz (vO (addX v507 v514)))=v517)∧((okO (addX v507 v514))=v518)∧((IntKind.i64.wrap (t.i+(1:Int)))=v519)∧(v502=true)∧(v505=true)∧(t.i=(n509:Int))∧(l[n509]?=some x510)∧(-9223372036854775808≤v513)∧(v513<9223372036854775808)∧((v519)=t'.i)∧((v517)=t'.acc)∧True)
theorem zvM {w0:World} (l:(List Int)) (f:Int) (v1:Raw) (v4:Raw) (acc2:Raw) {F:Fact} (u0:F.c 0=pLs cI l) (u1:F.c 1=pI f) (u2:F.c 2=pB v1.1) (u3:F.c 3=pD v1.2) (u4:F.c 4=pB v4.1) (u5:F.c 5=pD v4.2) (u6:F.c 6=pB acc2.1) (u7:F.c 7=pD acc2.2) (R:Frm) (hR:R.pm=⟨ntOf Tryz.prog 94,[],[]⟩) (J:nb_T→Prop) (m:nb_T→Nat) (hJ:J { i:=f,acc:=v1 }) (rounds:∀t,J t→nb_X l f v1 v4 t acc2∨∃t',nb_N l f v1 v4 t t'∧m t'<m t∧J t'):zg (KN w0) Tryz.prog F R nb_S (lp Tryz.prog 94 0):=by
 refine zP (T:=nb_T) (fun t=>FL [pLs cI l,pI f,pB v1.1,pD v1.2,pB v4.1,pD v4.2,pI t.i,pB t.acc.1,pD t.acc.2] []) J m { i:=f,acc:=v1 } zpv hJ (zipA.imp ⟨z_c (fun β v W h=>(zc u0 β v W).1 h),z_c (fun β v W h=>(zc u1 β v W).1 h),z_c yy,z_c yy,z_c yy,z_c (fun β v W h=>(zc u1 β v W).1 h),z_g ⟨fun β v W h=>(zc u2 β v W).1 h,fun β v W h=>(zc u3 β v W).1 h,trivial⟩,z_g ⟨fun β v W h=>(zc u4 β v W).1 h,fun β v W h=>(zc u5 β v W).1 h,trivial⟩,z_c (fun β v W h=>(zc u1 β v W).1 h),z_b ⟨yy,yy,trivial⟩,z_b ⟨fun β v W h=>(zc u2 β v W).1 h,fun β v W h=>(zc u3 β v W).1 h,trivial⟩,z_b ⟨fun β v W h=>(zc u4 β v W).1 h,fun β v W h=>(zc u5 β v W).1 h,trivial⟩,trivial⟩) rfl fun t ht=>?_
 rcases rounds t ht with hz_ | ⟨t',hz_,hm_,hj_⟩
 ·refine .inl ?_
  rcases hz_ with ⟨v501,v502,v504,v505,e501,e502,e504,e505,h503,h506,q0,_⟩ | ⟨v501,v502,e501,e502,h503,q0,_⟩
  ·exact nb_r1  l f v1 v4  t.i t.acc v501 v502 v504 v505 e501 e502 e504 e505 h503 h506 acc2 F u0 u1 u2 u3 u4 u5 u6 u7 q0 R hR
  ·exact nb_r2  l f v1 v4  t.i t.acc v501 v502 e501 e502 h503 acc2 F u0 u1 u2 u3 u4 u5 u6 u7 q0 R hR
 ·refine .inr ⟨t',hm_,hj_,?_⟩
  rcases hz_ with ⟨v501,v502,v504,v505,v507,v508,n509,x510,v513,v514,v517,v518,v519,e501,e502,e504,e505,e507,e508,e513,e514,e517,e518,e519,h503,h506,s511,s512,s515,s516,q0,q1,_⟩
  ·exact nb_r0  l f v1 v4  t.i t.acc v501 v502 v504 v505 v507 v508 n509 x510 v513 v514 v517 v518 v519 e501 e502 e504 e505 e507 e508 e513 e514 e517 e518 e519 h503 h506 s511 s512 s515 s516 t'.i t'.acc q0 q1 R hR
theorem nb_ok {w0:World} (l:(List Int)) (f:Int) (v1:Raw) (v4:Raw) (acc2:Raw) {F:Fact} (u0:F.c 0=pLs cI l) (u1:F.c 1=pI f) (u2:F.c 2=pB v1.1) (u3:F.c 3=pD v1.2) (u4:F.c 4=pB v4.1) (u5:F.c 5=pD v4.2) (u6:F.c 6=pB acc2.1) (u7:F.c 7=pD acc2.2) (R:Frm) (hR:R.pm=⟨ntOf Tryz.prog 94,[],[]⟩) (g:Nat) (hf:f=(g:Int)) (hg:g≤100) (hv2:v1=nz 0) (hv5:v4=nz 4294967296) (ho:nz (numL ((l.drop g).take 3))=acc2):zg (KN w0) Tryz.prog F R nb_S (lp Tryz.prog 94 0):=by
 refine zvM  l f v1 v4  acc2 u0 u1 u2 u3 u4 u5 u6 u7 R hR (fun ⟨i,acc⟩=>∃k:Nat,i=((g+k:Nat):Int)∧k≤3∧(k=0∨g+k≤l.length)∧acc=nz (numL ((l.drop g).take k))) (fun ⟨i,acc⟩=>(g+3 - i).toNat) ⟨0,by rw [hf];simp,by omega,.inl rfl,by rw [hv2,List.take_zero];rfl⟩ fun t hJ=>?_
 obtain ⟨i,acc⟩:=t
 dsimp only at hJ
 obtain ⟨k,hi,hk,hkl,ha⟩:=hJ
 obtain ⟨v501,e501⟩:∃v,((l.length:Int))=v:=⟨_,rfl⟩
 obtain ⟨v502,e502⟩:∃v,(decide (i<v501))=v:=⟨_,rfl⟩
 cases h503:v502 with
 | true =>
  obtain ⟨v504,e504⟩:∃v,(IntKind.i64.wrap (f+(3:Int)))=v:=⟨_,rfl⟩
  obtain ⟨v505,e505⟩:∃v,(decide (i<v504))=v:=⟨_,rfl⟩
  cases h506:v505 with
  | true =>
   obtain ⟨v507,e507⟩:∃v,(nz (vO (mulX acc v4)))=v:=⟨_,rfl⟩
   obtain ⟨v508,e508⟩:∃v,(okO (mulX acc v4))=v:=⟨_,rfl⟩
   obtain ⟨n509,x510,s511,s512⟩:∃(n509:Nat) (x510:Int),i=(n509:Int)∧l[n509]?=some x510:=by (have hlt:g+k<l.length:=(by subst e501;subst e502;have:=of_decide_eq_true h503;omega);exact ⟨g+k,l[g+k],hi,List.getElem?_eq_getElem hlt⟩)
   obtain ⟨v513,e513⟩:∃v,((x510:Int).tmod (4294967296:Int))=v:=⟨_,rfl⟩
   obtain ⟨v514,e514⟩:∃v,(nz v513)=v:=⟨_,rfl⟩
   have s515:-9223372036854775808≤v513:=by (have:=zpG x510;omega)
   have s516:v513<9223372036854775808:=by (have:=zpG x510;omega)
   obtain ⟨v517,e517⟩:∃v,(nz (vO (addX v507 v514)))=v:=⟨_,rfl⟩
   obtain ⟨v518,e518⟩:∃v,(okO (addX v507 v514))=v:=⟨_,rfl⟩
   obtain ⟨v519,e519⟩:∃v,(IntKind.i64.wrap (i+(1:Int)))=v:=⟨_,rfl⟩
   refine .inr ⟨⟨v519,v517⟩,⟨v501,v502,v504,v505,v507,v508,n509,x510,v513,v514,v517,v518,v519,e501,e502,e504,e505,e507,e508,e513,e514,e517,e518,e519,h503,h506,s511,s512,s515,s516,rfl,rfl,trivial⟩,?_,?_⟩
   all_goals (subst hf;have h5:=of_decide_eq_true (e502.trans h503);have h6:=of_decide_eq_true (e505.trans h506);rw [wr64 (by omega)] at e504;rw [wr64 (by omega)] at e519)
   ·show ((g:Int)+3 - v519).toNat<((g:Int)+3 - i).toNat
    omega
   ·have en:n509=g+k:=by omega
    subst en
    have hs:=zub s512
    have hb1:=zqr (l:=(l.drop g).take k) (by rw [List.length_take];omega)
    have hb2:=zri ((l.drop g).take k) (by rw [List.length_take];omega)
    have hx:=zpG x510
    have hl3:=zri ((l.drop g).take (k+1)) (by rw [List.length_take];omega)
    rw [hs,zrY] at hl3
    have hk2:((l.drop g).take k).length≤2:=by rw [List.length_take];omega
    refine ⟨k+1,by omega,by omega,.inr (by omega),?_⟩
    rw [hs,zrY,← e517,← e514,← e513,← e507,ha,hv5]
    have hbb:∀z:Int,z.natAbs≤79228162532711081667253501951*4294967296→z.natAbs<big:=fun z hz=>Nat.lt_of_le_of_lt hz (by unfold big;decide +kernel)
    rw [zvL hb1 (hbb _ (by decide)),zhz (hbb _ (by omega))]
    show nz (vO (addX (nz (numL ((l.drop g).take k)*4294967296)) (nz (x510.tmod 4294967296))))=_
    rw [zvn (hbb _ (by omega)) (hbb _ (by omega)),zhz (hbb _ (by omega))];rfl
  | false =>
   refine .inl (Or.inl (⟨v501,v502,v504,v505,e501,e502,e504,e505,h503,h506,?_,trivial⟩))
   have h5:=of_decide_eq_true (e502.trans h503)
   have h6:=of_decide_eq_false (e505.trans h506)
   subst hf
   rw [wr64 (by omega)] at e504
   have:k=3:=by omega
   subst this
   rw [ha,← ho]
 | false =>
  refine .inl (Or.inr (⟨v501,v502,e501,e502,h503,?_,trivial⟩))
  have h5:=of_decide_eq_false (e502.trans h503)
  rw [ha,← ho]
  have e:((l.drop g).take 3)=(l.drop g).take k:=by
   rw [List.take_of_length_le (by rw [List.length_drop];omega),List.take_of_length_le (by rw [List.length_drop];omega)]
  rw [e]
theorem nb_p0 {w0:World} (l:(List Int)) (f:Int) (v1:Raw) (v4:Raw) (acc2:Raw) (e1:(nz (0:Int))=v1) (e4:(nz (4294967296:Int))=v4) (s2:-9223372036854775808≤(0:Int)) (s3:(0:Int)<9223372036854775808) (s5:-9223372036854775808≤(4294967296:Int)) (s6:(4294967296:Int)<9223372036854775808) (L_nb:∀R:Frm,R.pm=⟨ntOf Tryz.prog 94,[],[]⟩→zg (KN w0) Tryz.prog (FL [pLs cI l,pI f,pB v1.1,pD v1.2,pB v4.1,pD v4.2,pB acc2.1,pD acc2.2] []) R nb_S (lp Tryz.prog 94 0)):Fun (KN w0) Tryz.prog 94 [.o (.c (pLs cI l)),.o (.c (pI f))] (.o (.g [pB acc2.1,pD acc2.2])):=
 zi (z8 (F:=FL [pLs cI l,pI f,pB v1.1,pD v1.2,pB v4.1,pD v4.2,pB acc2.1,pD acc2.2] []) (C:=[(1000001,.call ⟨77,[.o (.c (.k (.int .i64 0)))],[],.o (.g [.h 2,.h 3]),[]⟩),
  (1000004,.call ⟨77,[.o (.c (.k (.int .i64 4294967296)))],[],.o (.g [.h 4,.h 5]),[]⟩)]) (k:=⟨94,[yh 0,yh 1],[],.o (.g [.h 6,.h 7]),[]⟩) ⟨[nb_S],[],0⟩ [] 0 (zf ⟨(zt zo),zb,zb,zj,zb,zj,zb,zj,trivial⟩) ⟨ze (zpo (0:Int) v1 e1 s2 s3),
  ze (zpo (4294967296:Int) v4 e4 s5 s6),
  trivial⟩ mixed trivial (fun R hR p hp s hs=>by
 have hl:zH (qg Tryz.prog 94)=[(4,lp Tryz.prog 94 0)]:=by kernel_rfl
 rw [hl] at hp
 simp only [List.mem_cons,List.not_mem_nil,or_false] at hp
 rcases hp with rfl
 ·have e:s=nb_S:=(Option.some.inj hs).symm
  subst e;exact L_nb R hR) (by kernel_rfl))
theorem ztW {w0:World} (l:List Int) (f:Int) (g:Nat) (hf:f=(g:Int)) (hg:g≤100) (r:Raw) (hr:nz (numL ((l.drop g).take 3))=r):Fun (KN w0) Tryz.prog 94 [.o (.c (pLs cI l)),.o (.c (pI f))] (gN r):=by
 obtain ⟨v1,e1⟩:∃v,(nz (0:Int))=v:=⟨_,rfl⟩
 have s2:-9223372036854775808≤(0:Int):=by decide
 have s3:(0:Int)<9223372036854775808:=by decide
 obtain ⟨v4,e4⟩:∃v,(nz (4294967296:Int))=v:=⟨_,rfl⟩
 have s5:-9223372036854775808≤(4294967296:Int):=by decide
 have s6:(4294967296:Int)<9223372036854775808:=by decide
 obtain ⟨acc2,hO_nb⟩:∃(acc2:Raw),nz (numL ((l.drop g).take 3))=acc2:=⟨_,rfl⟩
 refine Fun.imp (nb_p0 l f v1 v4 acc2 e1 e4 s2 s3 s5 s6 (fun R hR=>nb_ok l f v1 v4  acc2 rfl rfl rfl rfl rfl rfl rfl rfl R hR g hf hg e1.symm e4.symm hO_nb)) (fun _ _ _ h=>h) (fun v W D h=>?_)
 have r0:r=acc2:=by
  rw [← hr];exact hO_nb
 rw [r0];exact h
theorem zqh {w0:World} (l:List Int) (f:Int) (r:Raw) (hr:nz (numL ((l.drop (f:Int).toNat).take 3))=r) (h:0≤f∧f≤100):Fun (KN w0) Tryz.prog 94 [.o (.c (pLs cI l)),.o (.c (pI f))] (gN r):=ztW l f f.toNat (by omega) (by omega) r hr
end Go.Proofs.YtjcegdldgjphiaaGreatDoor
namespace Go.Proofs.YtjcegdldgjphiaaGreatDoor
open Go.RowKit Go.Shelf
theorem zt1 {n m:Int} (h1:1≤m) (h2:m≤4611686018427387904):modI n m=n%m:=by
 have a:=Int.tmod_lt_of_pos n (show 0<m by omega)
 have b:=Int.lt_tmod_of_pos n (show 0<m by omega)
 unfold modI
 rw [if_neg (by omega),wr64 (by omega),Int.tmod_eq_emod_of_nonneg (by omega),Int.add_emod_right,Int.tmod_eq_emod]
 split
 ·simp
 ·have e:(m.natAbs:Int)=m:=by omega
  rw [e,Int.sub_emod,Int.emod_self];simp
def madeR (l:List Int):Option Rat:=
 if l.length<3 then ofR (if 0<l.length then (l.getD 0 0).tmod 50 else 0) (if 1<l.length then 1+l.getD 1 0%30 else 1)
 else ofR (numL (l.take 3)) (if numL ((l.drop 3).take 3)=0 then 1 else numL ((l.drop 3).take 3))
theorem zrg {n d:Int} (h1:1≤d) (h2:d≤100) (h3:-100≤n) (h4:n≤100):fracR n d=ofR n d:=by
 unfold fracR
 rw [if_neg (by omega),zsM (zdq (by omega)) (zdq (by omega))]
theorem zqy (x:Int):-49≤x.tmod 50∧x.tmod 50≤49:=by
 have h1:=Int.tmod_lt_of_pos x (show (0:Int)<50 by decide)
 have h2:=Int.lt_tmod_of_pos x (show (0:Int)<50 by decide)
 omega
theorem zsB {d:Int} (h:d.natAbs<big):(cmpX (nz d) (nz 0) == 0)=decide (d=0):=zsl h
theorem zqY (x:Int):0≤modI x 30∧modI x 30≤29:=by rw [zt1 (by decide) (by decide)];omega
theorem zvE {w0:World} (l:(List Int)) (v1:Int) (v2:Bool) (v4:Int) (v5:Bool) (n7:Nat) (x8:Int) (v11:Int) (v12:Int) (v13:Bool) (n15:Nat) (x16:Int) (v19:Int) (v20:Int) (v21:RR) (e1:((l.length:Int))=v1) (e2:(decide (v1<(3:Int)))=v2) (e4:((l.length:Int))=v4) (e5:(decide (v4 > (0:Int)))=v5) (e11:((x8:Int).tmod (50:Int))=v11) (e12:((l.length:Int))=v12) (e13:(decide (v12 > (1:Int)))=v13) (e19:(modI x16 (30:Int))=v19) (e20:(IntKind.i64.wrap ((1:Int)+v19))=v20) (e21:(rq (fracR (v11,v20).1 (v11,v20).2))=v21) (h3:v2=true) (h6:v5=true) (s9:(0:Int)=(n7:Int)) (s10:l[n7]?=some x8) (h14:v13=true) (s17:(1:Int)=(n15:Int)) (s18:l[n15]?=some x16) (s22:InR (v11,v20).1) (s23:InR (v11,v20).2):Fun (KN w0) Tryz.prog 68 [.o (.c (pLs cI l))] (.o (.g [pB v21.1.1,pD v21.1.2,pB v21.2.1,pD v21.2.2])):=
 zi (zl (F:=FL [pLs cI l,pI v1,pB v2,pI v4,pB v5,pP (cI x8),pI x8,pI v11,pI v12,pB v13,pP (cI x16),pI x16,pI v19,pI v20,pB v21.1.1,pD v21.1.2,pB v21.2.1,pD v21.2.2] []) (C:=[(1000002,.op (.len [22] 3) [yh 0] [] (yh 1)),
  (1000003,.bin .lss 3 (yh 1) (LF (.k (.int .i64 3))) (yh 2)),
  (10002,.fb 2 true),
  (1000008,.op (.len [22] 3) [yh 0] [] (yh 3)),
  (1000009,.bin .gtr 3 (yh 3) (LF (.k (.int .i64 0))) (yh 4)),
  (10004,.fb 4 true),
  (1000011,.op (.ia 22) [yh 0,LF (.k (.int .i64 0))] [] (yh 5)),
  (1000012,.op (.ld 3) [yh 5] [] (yh 6)),
  (1000013,.bin .rem 3 (yh 6) (LF (.k (.int .i64 50))) (yh 7)),
  (1000017,.op (.len [22] 3) [yh 0] [] (yh 8)),
  (1000018,.bin .gtr 3 (yh 8) (LF (.k (.int .i64 1))) (yh 9)),
  (10009,.fb 9 true),
  (1000020,.op (.ia 22) [yh 0,LF (.k (.int .i64 1))] [] (yh 10)),
  (1000021,.op (.ld 3) [yh 10] [] (yh 11)),
  (1000022,.call ⟨92,[yh 11,.o (.c (.k (.int .i64 30)))],[],yh 12,[]⟩),
  (1000023,.bin .add 3 (LF (.k (.int .i64 1))) (yh 12) (yh 13)),
  (1000027,.call ⟨93,[.o (.g [.h 7,.h 13])],[],.o (.g [.h 14,.h 15,.h 16,.h 17]),[]⟩)]) (k:=⟨68,[yh 0],[],.o (.g [.h 14,.h 15,.h 16,.h 17]),[]⟩) 0 (zf ⟨(zt zo),zb,zb,zb,zb,(zbf (zo _)),zb,zb,zb,zb,(zbf (zo _)),zb,zb,zb,zb,zj,zb,zj,trivial⟩) ⟨qp (E:=3) (by kernel_rfl) (zc rfl) (za (by rw [← e1];rfl)),
  e_bin (za rfl) zd (za rfl) (r_cmp (congrArg some e2)),
  e_fbv h3,
  qp (E:=3) (by kernel_rfl) (zc rfl) (za (by rw [← e4];rfl)),
  e_bin (za rfl) zd (za rfl) (r_cmp (congrArg some e5)),
  e_fbv h6,
  e_iaL (E:=3) (z:=1) (fun _=>rfl) (by kernel_rfl) (by kernel_rfl) (zc rfl) zd s9 s10 (zc rfl),
  e_ldP (by kernel_rfl) (zc rfl) (zc rfl),
  e_bin (za rfl) zd (za rfl) (r_ar ((zn2 (by decide)).trans (congrArg some e11))),
  qp (E:=3) (by kernel_rfl) (zc rfl) (za (by rw [← e12];rfl)),
  e_bin (za rfl) zd (za rfl) (r_cmp (congrArg some e13)),
  e_fbv h14,
  e_iaL (E:=3) (z:=1) (fun _=>rfl) (by kernel_rfl) (by kernel_rfl) (zc rfl) zd s17 s18 (zc rfl),
  e_ldP (by kernel_rfl) (zc rfl) (zc rfl),
  ze (f_mod x16 (30:Int) v19 e19),
  e_bin zd (za rfl) (za rfl) (r_ar (congrArg some e20)),
  ze (zpr (v11,v20) v21 e21 s22 s23),
  trivial⟩ mixed (by kernel_rfl))
theorem zvF {w0:World} (l:(List Int)) (v1:Int) (v2:Bool) (v4:Int) (v5:Bool) (n7:Nat) (x8:Int) (v11:Int) (v12:Int) (v13:Bool) (v15:RR) (e1:((l.length:Int))=v1) (e2:(decide (v1<(3:Int)))=v2) (e4:((l.length:Int))=v4) (e5:(decide (v4 > (0:Int)))=v5) (e11:((x8:Int).tmod (50:Int))=v11) (e12:((l.length:Int))=v12) (e13:(decide (v12 > (1:Int)))=v13) (e15:(rq (fracR (v11,(1:Int)).1 (v11,(1:Int)).2))=v15) (h3:v2=true) (h6:v5=true) (s9:(0:Int)=(n7:Int)) (s10:l[n7]?=some x8) (h14:v13=false) (s16:InR (v11,(1:Int)).1) (s17:InR (v11,(1:Int)).2):Fun (KN w0) Tryz.prog 68 [.o (.c (pLs cI l))] (.o (.g [pB v15.1.1,pD v15.1.2,pB v15.2.1,pD v15.2.2])):=
 zi (zl (F:=FL [pLs cI l,pI v1,pB v2,pI v4,pB v5,pP (cI x8),pI x8,pI v11,pI v12,pB v13,pB v15.1.1,pD v15.1.2,pB v15.2.1,pD v15.2.2] []) (C:=[(1000002,.op (.len [22] 3) [yh 0] [] (yh 1)),
  (1000003,.bin .lss 3 (yh 1) (LF (.k (.int .i64 3))) (yh 2)),
  (10002,.fb 2 true),
  (1000008,.op (.len [22] 3) [yh 0] [] (yh 3)),
  (1000009,.bin .gtr 3 (yh 3) (LF (.k (.int .i64 0))) (yh 4)),
  (10004,.fb 4 true),
  (1000011,.op (.ia 22) [yh 0,LF (.k (.int .i64 0))] [] (yh 5)),
  (1000012,.op (.ld 3) [yh 5] [] (yh 6)),
  (1000013,.bin .rem 3 (yh 6) (LF (.k (.int .i64 50))) (yh 7)),
  (1000017,.op (.len [22] 3) [yh 0] [] (yh 8)),
  (1000018,.bin .gtr 3 (yh 8) (LF (.k (.int .i64 1))) (yh 9)),
  (10009,.fb 9 false),
  (1000020,.call ⟨93,[.o (.g [.h 7,.k (.int .i64 1)])],[],.o (.g [.h 10,.h 11,.h 12,.h 13]),[]⟩)]) (k:=⟨68,[yh 0],[],.o (.g [.h 10,.h 11,.h 12,.h 13]),[]⟩) 0 (zf ⟨(zt zo),zb,zb,zb,zb,(zbf (zo _)),zb,zb,zb,zb,zb,zj,zb,zj,trivial⟩) ⟨qp (E:=3) (by kernel_rfl) (zc rfl) (za (by rw [← e1];rfl)),
  e_bin (za rfl) zd (za rfl) (r_cmp (congrArg some e2)),
  e_fbv h3,
  qp (E:=3) (by kernel_rfl) (zc rfl) (za (by rw [← e4];rfl)),
  e_bin (za rfl) zd (za rfl) (r_cmp (congrArg some e5)),
  e_fbv h6,
  e_iaL (E:=3) (z:=1) (fun _=>rfl) (by kernel_rfl) (by kernel_rfl) (zc rfl) zd s9 s10 (zc rfl),
  e_ldP (by kernel_rfl) (zc rfl) (zc rfl),
  e_bin (za rfl) zd (za rfl) (r_ar ((zn2 (by decide)).trans (congrArg some e11))),
  qp (E:=3) (by kernel_rfl) (zc rfl) (za (by rw [← e12];rfl)),
  e_bin (za rfl) zd (za rfl) (r_cmp (congrArg some e13)),
  e_fbv h14,
  ze (zpr (v11,(1:Int)) v15 e15 s16 s17),
  trivial⟩ mixed (by kernel_rfl))
theorem zvG {w0:World} (l:(List Int)) (v1:Int) (v2:Bool) (v4:Int) (v5:Bool) (v7:Int) (v8:Bool) (n10:Nat) (x11:Int) (v14:Int) (v15:Int) (v16:RR) (e1:((l.length:Int))=v1) (e2:(decide (v1<(3:Int)))=v2) (e4:((l.length:Int))=v4) (e5:(decide (v4 > (0:Int)))=v5) (e7:((l.length:Int))=v7) (e8:(decide (v7 > (1:Int)))=v8) (e14:(modI x11 (30:Int))=v14) (e15:(IntKind.i64.wrap ((1:Int)+v14))=v15) (e16:(rq (fracR ((0:Int),v15).1 ((0:Int),v15).2))=v16) (h3:v2=true) (h6:v5=false) (h9:v8=true) (s12:(1:Int)=(n10:Int)) (s13:l[n10]?=some x11) (s17:InR ((0:Int),v15).1) (s18:InR ((0:Int),v15).2):Fun (KN w0) Tryz.prog 68 [.o (.c (pLs cI l))] (.o (.g [pB v16.1.1,pD v16.1.2,pB v16.2.1,pD v16.2.2])):=
 zi (zl (F:=FL [pLs cI l,pI v1,pB v2,pI v4,pB v5,pI v7,pB v8,pP (cI x11),pI x11,pI v14,pI v15,pB v16.1.1,pD v16.1.2,pB v16.2.1,pD v16.2.2] []) (C:=[(1000002,.op (.len [22] 3) [yh 0] [] (yh 1)),
  (1000003,.bin .lss 3 (yh 1) (LF (.k (.int .i64 3))) (yh 2)),
  (10002,.fb 2 true),
  (1000008,.op (.len [22] 3) [yh 0] [] (yh 3)),
  (1000009,.bin .gtr 3 (yh 3) (LF (.k (.int .i64 0))) (yh 4)),
  (10004,.fb 4 false),
  (1000011,.op (.len [22] 3) [yh 0] [] (yh 5)),
  (1000012,.bin .gtr 3 (yh 5) (LF (.k (.int .i64 1))) (yh 6)),
  (10006,.fb 6 true),
  (1000014,.op (.ia 22) [yh 0,LF (.k (.int .i64 1))] [] (yh 7)),
  (1000015,.op (.ld 3) [yh 7] [] (yh 8)),
  (1000016,.call ⟨92,[yh 8,.o (.c (.k (.int .i64 30)))],[],yh 9,[]⟩),
  (1000017,.bin .add 3 (LF (.k (.int .i64 1))) (yh 9) (yh 10)),
  (1000021,.call ⟨93,[.o (.g [.k (.int .i64 0),.h 10])],[],.o (.g [.h 11,.h 12,.h 13,.h 14]),[]⟩)]) (k:=⟨68,[yh 0],[],.o (.g [.h 11,.h 12,.h 13,.h 14]),[]⟩) 0 (zf ⟨(zt zo),zb,zb,zb,zb,zb,zb,(zbf (zo _)),zb,zb,zb,zb,zj,zb,zj,trivial⟩) ⟨qp (E:=3) (by kernel_rfl) (zc rfl) (za (by rw [← e1];rfl)),
  e_bin (za rfl) zd (za rfl) (r_cmp (congrArg some e2)),
  e_fbv h3,
  qp (E:=3) (by kernel_rfl) (zc rfl) (za (by rw [← e4];rfl)),
  e_bin (za rfl) zd (za rfl) (r_cmp (congrArg some e5)),
  e_fbv h6,
  qp (E:=3) (by kernel_rfl) (zc rfl) (za (by rw [← e7];rfl)),
  e_bin (za rfl) zd (za rfl) (r_cmp (congrArg some e8)),
  e_fbv h9,
  e_iaL (E:=3) (z:=1) (fun _=>rfl) (by kernel_rfl) (by kernel_rfl) (zc rfl) zd s12 s13 (zc rfl),
  e_ldP (by kernel_rfl) (zc rfl) (zc rfl),
  ze (f_mod x11 (30:Int) v14 e14),
  e_bin zd (za rfl) (za rfl) (r_ar (congrArg some e15)),
  ze (zpr ((0:Int),v15) v16 e16 s17 s18),
  trivial⟩ mixed (by kernel_rfl))
theorem zvH {w0:World} (l:(List Int)) (v1:Int) (v2:Bool) (v4:Int) (v5:Bool) (v7:Int) (v8:Bool) (v10:RR) (e1:((l.length:Int))=v1) (e2:(decide (v1<(3:Int)))=v2) (e4:((l.length:Int))=v4) (e5:(decide (v4 > (0:Int)))=v5) (e7:((l.length:Int))=v7) (e8:(decide (v7 > (1:Int)))=v8) (e10:(rq (fracR ((0:Int),(1:Int)).1 ((0:Int),(1:Int)).2))=v10) (h3:v2=true) (h6:v5=false) (h9:v8=false) (s11:InR ((0:Int),(1:Int)).1) (s12:InR ((0:Int),(1:Int)).2):Fun (KN w0) Tryz.prog 68 [.o (.c (pLs cI l))] (.o (.g [pB v10.1.1,pD v10.1.2,pB v10.2.1,pD v10.2.2])):=
 zi (zl (F:=FL [pLs cI l,pI v1,pB v2,pI v4,pB v5,pI v7,pB v8,pB v10.1.1,pD v10.1.2,pB v10.2.1,pD v10.2.2] []) (C:=[(1000002,.op (.len [22] 3) [yh 0] [] (yh 1)),
  (1000003,.bin .lss 3 (yh 1) (LF (.k (.int .i64 3))) (yh 2)),
  (10002,.fb 2 true),
  (1000008,.op (.len [22] 3) [yh 0] [] (yh 3)),
  (1000009,.bin .gtr 3 (yh 3) (LF (.k (.int .i64 0))) (yh 4)),
  (10004,.fb 4 false),
  (1000011,.op (.len [22] 3) [yh 0] [] (yh 5)),
  (1000012,.bin .gtr 3 (yh 5) (LF (.k (.int .i64 1))) (yh 6)),
  (10006,.fb 6 false),
  (1000014,.call ⟨93,[.o (.g [.k (.int .i64 0),.k (.int .i64 1)])],[],.o (.g [.h 7,.h 8,.h 9,.h 10]),[]⟩)]) (k:=⟨68,[yh 0],[],.o (.g [.h 7,.h 8,.h 9,.h 10]),[]⟩) 0 (zf ⟨(zt zo),zb,zb,zb,zb,zb,zb,zb,zj,zb,zj,trivial⟩) ⟨qp (E:=3) (by kernel_rfl) (zc rfl) (za (by rw [← e1];rfl)),
  e_bin (za rfl) zd (za rfl) (r_cmp (congrArg some e2)),
  e_fbv h3,
  qp (E:=3) (by kernel_rfl) (zc rfl) (za (by rw [← e4];rfl)),
  e_bin (za rfl) zd (za rfl) (r_cmp (congrArg some e5)),
  e_fbv h6,
  qp (E:=3) (by kernel_rfl) (zc rfl) (za (by rw [← e7];rfl)),
  e_bin (za rfl) zd (za rfl) (r_cmp (congrArg some e8)),
  e_fbv h9,
  ze (zpr ((0:Int),(1:Int)) v10 e10 s11 s12),
  trivial⟩ mixed (by kernel_rfl))
theorem zvI {w0:World} (l:(List Int)) (v1:Int) (v2:Bool) (v4:Raw) (v6:Raw) (v9:Int) (v10:Bool) (v12:Raw) (v15:Raw) (v17:RR) (v18:Bool) (e1:((l.length:Int))=v1) (e2:(decide (v1<(3:Int)))=v2) (e4:(nz (numL ((l.drop ((3:Int):Int).toNat).take 3)))=v4) (e6:(nz (0:Int))=v6) (e9:(cmpX v4 v6)=v9) (e10:((v9 == (0:Int)))=v10) (e12:(nz (1:Int))=v12) (e15:(nz (numL ((l.drop ((0:Int):Int).toNat).take 3)))=v15) (e17:(rq (ofX v15 v12))=v17) (e18:((ofX v15 v12).isSome)=v18) (h3:v2=false) (s5:0≤(3:Int)∧(3:Int)≤100) (s7:-9223372036854775808≤(0:Int)) (s8:(0:Int)<9223372036854775808) (h11:v10=true) (s13:-9223372036854775808≤(1:Int)) (s14:(1:Int)<9223372036854775808) (s16:0≤(0:Int)∧(0:Int)≤100):Fun (KN w0) Tryz.prog 68 [.o (.c (pLs cI l))] (.o (.g [pB v17.1.1,pD v17.1.2,pB v17.2.1,pD v17.2.2])):=
 zi (zl (F:=FL [pLs cI l,pI v1,pB v2,pB v4.1,pD v4.2,pB v6.1,pD v6.2,pI v9,pB v10,pB v12.1,pD v12.2,pB v15.1,pD v15.2,pB v17.1.1,pD v17.1.2,pB v17.2.1,pD v17.2.2,pB v18] []) (C:=[(1000002,.op (.len [22] 3) [yh 0] [] (yh 1)),
  (1000003,.bin .lss 3 (yh 1) (LF (.k (.int .i64 3))) (yh 2)),
  (10002,.fb 2 false),
  (1000005,.call ⟨94,[yh 0,.o (.c (.k (.int .i64 3)))],[],.o (.g [.h 3,.h 4]),[]⟩),
  (1000009,.call ⟨77,[.o (.c (.k (.int .i64 0)))],[],.o (.g [.h 5,.h 6]),[]⟩),
  (1000010,.call ⟨76,[.o (.g [.h 3,.h 4]),.o (.g [.h 5,.h 6])],[],yh 7,[]⟩),
  (1000011,.bin .eql 3 (yh 7) (LF (.k (.int .i64 0))) (yh 8)),
  (10008,.fb 8 true),
  (1000012,.call ⟨77,[.o (.c (.k (.int .i64 1)))],[],.o (.g [.h 9,.h 10]),[]⟩),
  (1000015,.call ⟨94,[yh 0,.o (.c (.k (.int .i64 0)))],[],.o (.g [.h 11,.h 12]),[]⟩),
  (1000017,.call ⟨95,[.o (.g [.h 11,.h 12]),.o (.g [.h 9,.h 10])],[],.t [.g [.h 13,.h 14,.h 15,.h 16],.c (.h 17)],[]⟩)]) (k:=⟨68,[yh 0],[],.o (.g [.h 13,.h 14,.h 15,.h 16]),[]⟩) 0 (zf ⟨(zt zo),zb,zb,zb,zj,zb,zj,zb,zb,zb,zj,zb,zj,zb,zj,zb,zj,zb,trivial⟩) ⟨qp (E:=3) (by kernel_rfl) (zc rfl) (za (by rw [← e1];rfl)),
  e_bin (za rfl) zd (za rfl) (r_cmp (congrArg some e2)),
  e_fbv h3,
  ze (zqh l (3:Int) v4 e4 s5),
  ze (zpo (0:Int) v6 e6 s7 s8),
  ze (zqi v4 v6 v9 e9),
  e_bin (za rfl) zd (za rfl) (r_cmp (congrArg some e10)),
  e_fbv h11,
  ze (zpo (1:Int) v12 e12 s13 s14),
  ze (zqh l (0:Int) v15 e15 s16),
  ze (zrc v15 v12 v17 v18 e17 e18),
  trivial⟩ mixed (by kernel_rfl))
theorem zvJ {w0:World} (l:(List Int)) (v1:Int) (v2:Bool) (v4:Raw) (v6:Raw) (v9:Int) (v10:Bool) (v12:Raw) (v14:RR) (v15:Bool) (e1:((l.length:Int))=v1) (e2:(decide (v1<(3:Int)))=v2) (e4:(nz (numL ((l.drop ((3:Int):Int).toNat).take 3)))=v4) (e6:(nz (0:Int))=v6) (e9:(cmpX v4 v6)=v9) (e10:((v9 == (0:Int)))=v10) (e12:(nz (numL ((l.drop ((0:Int):Int).toNat).take 3)))=v12) (e14:(rq (ofX v12 v4))=v14) (e15:((ofX v12 v4).isSome)=v15) (h3:v2=false) (s5:0≤(3:Int)∧(3:Int)≤100) (s7:-9223372036854775808≤(0:Int)) (s8:(0:Int)<9223372036854775808) (h11:v10=false) (s13:0≤(0:Int)∧(0:Int)≤100):Fun (KN w0) Tryz.prog 68 [.o (.c (pLs cI l))] (.o (.g [pB v14.1.1,pD v14.1.2,pB v14.2.1,pD v14.2.2])):=
 zi (zl (F:=FL [pLs cI l,pI v1,pB v2,pB v4.1,pD v4.2,pB v6.1,pD v6.2,pI v9,pB v10,pB v12.1,pD v12.2,pB v14.1.1,pD v14.1.2,pB v14.2.1,pD v14.2.2,pB v15] []) (C:=[(1000002,.op (.len [22] 3) [yh 0] [] (yh 1)),
  (1000003,.bin .lss 3 (yh 1) (LF (.k (.int .i64 3))) (yh 2)),
  (10002,.fb 2 false),
  (1000005,.call ⟨94,[yh 0,.o (.c (.k (.int .i64 3)))],[],.o (.g [.h 3,.h 4]),[]⟩),
  (1000009,.call ⟨77,[.o (.c (.k (.int .i64 0)))],[],.o (.g [.h 5,.h 6]),[]⟩),
  (1000010,.call ⟨76,[.o (.g [.h 3,.h 4]),.o (.g [.h 5,.h 6])],[],yh 7,[]⟩),
  (1000011,.bin .eql 3 (yh 7) (LF (.k (.int .i64 0))) (yh 8)),
  (10008,.fb 8 false),
  (1000013,.call ⟨94,[yh 0,.o (.c (.k (.int .i64 0)))],[],.o (.g [.h 9,.h 10]),[]⟩),
  (1000015,.call ⟨95,[.o (.g [.h 9,.h 10]),.o (.g [.h 3,.h 4])],[],.t [.g [.h 11,.h 12,.h 13,.h 14],.c (.h 15)],[]⟩)]) (k:=⟨68,[yh 0],[],.o (.g [.h 11,.h 12,.h 13,.h 14]),[]⟩) 0 (zf ⟨(zt zo),zb,zb,zb,zj,zb,zj,zb,zb,zb,zj,zb,zj,zb,zj,zb,trivial⟩) ⟨qp (E:=3) (by kernel_rfl) (zc rfl) (za (by rw [← e1];rfl)),
  e_bin (za rfl) zd (za rfl) (r_cmp (congrArg some e2)),
  e_fbv h3,
  ze (zqh l (3:Int) v4 e4 s5),
  ze (zpo (0:Int) v6 e6 s7 s8),
  ze (zqi v4 v6 v9 e9),
  e_bin (za rfl) zd (za rfl) (r_cmp (congrArg some e10)),
  e_fbv h11,
  ze (zqh l (0:Int) v12 e12 s13),
  ze (zrc v12 v4 v14 v15 e14 e15),
  trivial⟩ mixed (by kernel_rfl))
theorem zwo {w0:World} (l:List Int) (r:RR) (hr:rq (madeR l)=r):Fun (KN w0) Tryz.prog 68 [.o (.c (pLs cI l))] (gR r):=by
 obtain ⟨v1,e1⟩:∃v,((l.length:Int))=v:=⟨_,rfl⟩
 obtain ⟨v2,e2⟩:∃v,(decide (v1<(3:Int)))=v:=⟨_,rfl⟩
 cases h3:v2 with
 | true =>
  obtain ⟨v4,e4⟩:∃v,((l.length:Int))=v:=⟨_,rfl⟩
  obtain ⟨v5,e5⟩:∃v,(decide (v4 > (0:Int)))=v:=⟨_,rfl⟩
  cases h6:v5 with
  | true =>
   obtain ⟨n7,x8,s9,s10⟩:∃(n7:Nat) (x8:Int),(0:Int)=(n7:Int)∧l[n7]?=some x8:=by (have dh3:=of_decide_eq_true (e2.trans h3);have dh6:=of_decide_eq_true (e5.trans h6);have hlt:0<l.length:=(by omega);exact ⟨0,l[0],rfl,List.getElem?_eq_getElem hlt⟩)
   obtain ⟨v11,e11⟩:∃v,((x8:Int).tmod (50:Int))=v:=⟨_,rfl⟩
   obtain ⟨v12,e12⟩:∃v,((l.length:Int))=v:=⟨_,rfl⟩
   obtain ⟨v13,e13⟩:∃v,(decide (v12 > (1:Int)))=v:=⟨_,rfl⟩
   cases h14:v13 with
   | true =>
    obtain ⟨n15,x16,s17,s18⟩:∃(n15:Nat) (x16:Int),(1:Int)=(n15:Int)∧l[n15]?=some x16:=by (have dh3:=of_decide_eq_true (e2.trans h3);have dh6:=of_decide_eq_true (e5.trans h6);have dh14:=of_decide_eq_true (e13.trans h14);have hlt:1<l.length:=(by omega);exact ⟨1,l[1],rfl,List.getElem?_eq_getElem hlt⟩)
    obtain ⟨v19,e19⟩:∃v,(modI x16 (30:Int))=v:=⟨_,rfl⟩
    obtain ⟨v20,e20⟩:∃v,(IntKind.i64.wrap ((1:Int)+v19))=v:=⟨_,rfl⟩
    obtain ⟨v21,e21⟩:∃v,(rq (fracR (v11,v20).1 (v11,v20).2))=v:=⟨_,rfl⟩
    have s22:InR (v11,v20).1:=by first | (exact by decide) | (have:=zqy x8;have:=zqY x16;rw [wr64 (by omega)] at e20;exact ⟨by simp only;omega,by simp only;omega⟩)
    have s23:InR (v11,v20).2:=by first | (exact by decide) | (have:=zqy x8;have:=zqY x16;rw [wr64 (by omega)] at e20;exact ⟨by simp only;omega,by simp only;omega⟩)
    refine Fun.imp (zvE l v1 v2 v4 v5 n7 x8 v11 v12 v13 n15 x16 v19 v20 v21 e1 e2 e4 e5 e11 e12 e13 e19 e20 e21 h3 h6 s9 s10 h14 s17 s18 s22 s23) (fun _ _ _ h=>h) (fun v W D h=>?_)
    have r0:r=v21:=by
     rw [← hr]
     unfold madeR
     have dh3:=of_decide_eq_true (e2.trans h3)
     have dh6:=of_decide_eq_true (e5.trans h6)
     have dh14:=of_decide_eq_true (e13.trans h14)
     have hl3:l.length<3:=(by omega)
     rw [if_pos hl3]
     have:=zqy x8
     have:=zqY x16
     rw [wr64 (by omega)] at e20
     have en7:n7=0:=by omega
     have en15:n15=1:=by omega
     subst en7;subst en15
     have h0:0<l.length:=(List.getElem?_eq_some_iff.1 s10).1
     have h1:1<l.length:=(List.getElem?_eq_some_iff.1 s18).1
     rw [if_pos h0,if_pos h1,List.getD_eq_getElem?_getD,List.getD_eq_getElem?_getD,s10,s18,← e21]
     simp only [Option.getD_some]
     rw [zrg (by omega) (by omega) (by omega) (by omega),e11,← e20,← e19,zt1 (by decide) (by decide)]
    rw [r0];exact h
   | false =>
    obtain ⟨v15,e15⟩:∃v,(rq (fracR (v11,(1:Int)).1 (v11,(1:Int)).2))=v:=⟨_,rfl⟩
    have s16:InR (v11,(1:Int)).1:=by first | (exact by decide) | (have:=zqy x8;exact ⟨by simp only;omega,by simp only;omega⟩)
    have s17:InR (v11,(1:Int)).2:=by first | (exact by decide) | (have:=zqy x8;exact ⟨by simp only;omega,by simp only;omega⟩)
    refine Fun.imp (zvF l v1 v2 v4 v5 n7 x8 v11 v12 v13 v15 e1 e2 e4 e5 e11 e12 e13 e15 h3 h6 s9 s10 h14 s16 s17) (fun _ _ _ h=>h) (fun v W D h=>?_)
    have r0:r=v15:=by
     rw [← hr]
     unfold madeR
     have dh3:=of_decide_eq_true (e2.trans h3)
     have dh6:=of_decide_eq_true (e5.trans h6)
     have dh14:=of_decide_eq_false (e13.trans h14)
     have hl3:l.length<3:=(by omega)
     rw [if_pos hl3]
     have:=zqy x8
     have en7:n7=0:=by omega
     subst en7
     have h0:0<l.length:=(List.getElem?_eq_some_iff.1 s10).1
     have h1:¬ 1<l.length:=(by omega)
     rw [if_pos h0,if_neg h1,List.getD_eq_getElem?_getD,s10,← e15]
     simp only [Option.getD_some]
     rw [zrg (by omega) (by omega) (by omega) (by omega),e11]
    rw [r0];exact h
  | false =>
   obtain ⟨v7,e7⟩:∃v,((l.length:Int))=v:=⟨_,rfl⟩
   obtain ⟨v8,e8⟩:∃v,(decide (v7 > (1:Int)))=v:=⟨_,rfl⟩
   cases h9:v8 with
   | true =>
    obtain ⟨n10,x11,s12,s13⟩:∃(n10:Nat) (x11:Int),(1:Int)=(n10:Int)∧l[n10]?=some x11:=by (have dh3:=of_decide_eq_true (e2.trans h3);have dh6:=of_decide_eq_false (e5.trans h6);have dh9:=of_decide_eq_true (e8.trans h9);have hlt:1<l.length:=(by omega);exact ⟨1,l[1],rfl,List.getElem?_eq_getElem hlt⟩)
    obtain ⟨v14,e14⟩:∃v,(modI x11 (30:Int))=v:=⟨_,rfl⟩
    obtain ⟨v15,e15⟩:∃v,(IntKind.i64.wrap ((1:Int)+v14))=v:=⟨_,rfl⟩
    obtain ⟨v16,e16⟩:∃v,(rq (fracR ((0:Int),v15).1 ((0:Int),v15).2))=v:=⟨_,rfl⟩
    have s17:InR ((0:Int),v15).1:=by first | (exact by decide) | (have:=zqY x11;rw [wr64 (by omega)] at e15;exact ⟨by simp only;omega,by simp only;omega⟩)
    have s18:InR ((0:Int),v15).2:=by first | (exact by decide) | (have:=zqY x11;rw [wr64 (by omega)] at e15;exact ⟨by simp only;omega,by simp only;omega⟩)
    refine Fun.imp (zvG l v1 v2 v4 v5 v7 v8 n10 x11 v14 v15 v16 e1 e2 e4 e5 e7 e8 e14 e15 e16 h3 h6 h9 s12 s13 s17 s18) (fun _ _ _ h=>h) (fun v W D h=>?_)
    have r0:r=v16:=by
     rw [← hr]
     unfold madeR
     have dh3:=of_decide_eq_true (e2.trans h3)
     have dh6:=of_decide_eq_false (e5.trans h6)
     have dh9:=of_decide_eq_true (e8.trans h9)
     have hl3:l.length<3:=(by omega)
     rw [if_pos hl3]
     have:=zqY x11
     rw [wr64 (by omega)] at e15
     exfalso
     omega
    rw [r0];exact h
   | false =>
    obtain ⟨v10,e10⟩:∃v,(rq (fracR ((0:Int),(1:Int)).1 ((0:Int),(1:Int)).2))=v:=⟨_,rfl⟩
    have s11:InR ((0:Int),(1:Int)).1:=by first | (exact by decide) | (exact ⟨by simp only;omega,by simp only;omega⟩)
    have s12:InR ((0:Int),(1:Int)).2:=by first | (exact by decide) | (exact ⟨by simp only;omega,by simp only;omega⟩)
    refine Fun.imp (zvH l v1 v2 v4 v5 v7 v8 v10 e1 e2 e4 e5 e7 e8 e10 h3 h6 h9 s11 s12) (fun _ _ _ h=>h) (fun v W D h=>?_)
    have r0:r=v10:=by
     rw [← hr]
     unfold madeR
     have dh3:=of_decide_eq_true (e2.trans h3)
     have dh6:=of_decide_eq_false (e5.trans h6)
     have dh9:=of_decide_eq_false (e8.trans h9)
     have hl3:l.length<3:=(by omega)
     rw [if_pos hl3]
     have h0:¬ 0<l.length:=(by omega)
     have h1:¬ 1<l.length:=(by omega)
     rw [if_neg h0,if_neg h1,← e10]
     rw [zrg (by decide) (by decide) (by decide) (by decide)]
    rw [r0];exact h
 | false =>
  obtain ⟨v4,e4⟩:∃v,(nz (numL ((l.drop ((3:Int):Int).toNat).take 3)))=v:=⟨_,rfl⟩
  have s5:0≤(3:Int)∧(3:Int)≤100:=by first | decide | omega
  obtain ⟨v6,e6⟩:∃v,(nz (0:Int))=v:=⟨_,rfl⟩
  have s7:-9223372036854775808≤(0:Int):=by first | decide | omega
  have s8:(0:Int)<9223372036854775808:=by first | decide | omega
  obtain ⟨v9,e9⟩:∃v,(cmpX v4 v6)=v:=⟨_,rfl⟩
  obtain ⟨v10,e10⟩:∃v,((v9 == (0:Int)))=v:=⟨_,rfl⟩
  cases h11:v10 with
  | true =>
   obtain ⟨v12,e12⟩:∃v,(nz (1:Int))=v:=⟨_,rfl⟩
   have s13:-9223372036854775808≤(1:Int):=by first | decide | omega
   have s14:(1:Int)<9223372036854775808:=by first | decide | omega
   obtain ⟨v15,e15⟩:∃v,(nz (numL ((l.drop ((0:Int):Int).toNat).take 3)))=v:=⟨_,rfl⟩
   have s16:0≤(0:Int)∧(0:Int)≤100:=by first | decide | omega
   obtain ⟨v17,e17⟩:∃v,(rq (ofX v15 v12))=v:=⟨_,rfl⟩
   obtain ⟨v18,e18⟩:∃v,((ofX v15 v12).isSome)=v:=⟨_,rfl⟩
   refine Fun.imp (zvI l v1 v2 v4 v6 v9 v10 v12 v15 v17 v18 e1 e2 e4 e6 e9 e10 e12 e15 e17 e18 h3 s5 s7 s8 h11 s13 s14 s16) (fun _ _ _ h=>h) (fun v W D h=>?_)
   have r0:r=v17:=by
    rw [← hr]
    unfold madeR
    have dh3:=of_decide_eq_false (e2.trans h3)
    have hl3:¬ l.length<3:=(by omega)
    rw [if_neg hl3]
    have b1:=zqr (l:=l.take 3) (by rw [List.length_take];omega)
    have b2:=zqr (l:=(l.drop 3).take 3) (by rw [List.length_take];omega)
    have e4':nz (numL ((l.drop 3).take 3))=v4:=e4
    have e15':nz (numL (l.take 3))=v15:=e15
    rw [← e4',← e6] at e9
    have hz:numL ((l.drop 3).take 3)=0:=by
     have:=(zsB b2).symm.trans ((congrArg (· == (0:Int)) e9).trans (e10.trans h11))
     simpa using this
    rw [if_pos hz,← e17,← e15',← e12,zsM b1 (zdq (by decide))]
   rw [r0];exact h
  | false =>
   obtain ⟨v12,e12⟩:∃v,(nz (numL ((l.drop ((0:Int):Int).toNat).take 3)))=v:=⟨_,rfl⟩
   have s13:0≤(0:Int)∧(0:Int)≤100:=by first | decide | omega
   obtain ⟨v14,e14⟩:∃v,(rq (ofX v12 v4))=v:=⟨_,rfl⟩
   obtain ⟨v15,e15⟩:∃v,((ofX v12 v4).isSome)=v:=⟨_,rfl⟩
   refine Fun.imp (zvJ l v1 v2 v4 v6 v9 v10 v12 v14 v15 e1 e2 e4 e6 e9 e10 e12 e14 e15 h3 s5 s7 s8 h11 s13) (fun _ _ _ h=>h) (fun v W D h=>?_)
   have r0:r=v14:=by
    rw [← hr]
    unfold madeR
    have dh3:=of_decide_eq_false (e2.trans h3)
    have hl3:¬ l.length<3:=(by omega)
    rw [if_neg hl3]
    have b1:=zqr (l:=l.take 3) (by rw [List.length_take];omega)
    have b2:=zqr (l:=(l.drop 3).take 3) (by rw [List.length_take];omega)
    have e4':nz (numL ((l.drop 3).take 3))=v4:=e4
    have e12':nz (numL (l.take 3))=v12:=e12
    rw [← e4',← e6] at e9
    have hz:numL ((l.drop 3).take 3)≠0:=by
     have:=(zsB b2).symm.trans ((congrArg (· == (0:Int)) e9).trans (e10.trans h11))
     simpa using this
    rw [if_neg hz,← e14,← e12',← e4',zsM b1 b2]
   rw [r0];exact h
end Go.Proofs.YtjcegdldgjphiaaGreatDoor
namespace Go.Proofs.YtjcegdldgjphiaaGreatDoor
open Go.RowKit Go.Shelf
end Go.Proofs.YtjcegdldgjphiaaGreatDoor
