/-
  Merged: RtRefX, RtRefP, RtT, RtA, RtB, RtC, RtD.
-/
import Derived.Test.YtccjiodohphgnaaGreatDoorMgAN
import Derived.Lib.SlBytesRow
import Derived.Test.YtccjiodohphgnaaGreatDoorMgAA
import Derived.Test.YtccjiodohphgnaaGreatDoorMgAO
set_option linter.unusedSimpArgs false
set_option linter.unusedVariables false
set_option maxRecDepth 100000
set_option maxHeartbeats 4000000
namespace Go.Proofs.YtccjiodohphgnaaGreatDoor
open Go.RowKit Go.Shelf
def PB (W:World) (g:Nat) (o:List Nat):Prop:=∃rest:List Value,W.heap[g]?=some (.cells (u32s o++rest).toArray 84 (0,0))
theorem PB.lt {W:World} {g:Nat} {o:List Nat} (h:PB W g o):g<W.heap.size:=by obtain ⟨r,h⟩:=h;exact zbi h
theorem PB.cell {W:World} {g k:Nat} {o:List Nat} (h:PB W g o) (hk:k<o.length):W.cell? ⟨g,k,none⟩=some (.int .u32 (dg o k:Nat)):=by
 obtain ⟨r,h⟩:=h
 rw [zbm h,zcB hk]
 simp [u32s,hk,List.getElem?_append]
theorem PB.frozen {W:World} {g:Nat} {o:List Nat} (h:PB W g o) (k:Nat):W.frozen? ⟨g,k,none⟩=false:=by obtain ⟨r,h⟩:=h;exact zb1 h
theorem PB.set {W:World} {g k d:Nat} {o:List Nat} (h:PB W g o) (hk:k<o.length):PB (W.setCell ⟨g,k,none⟩ (.int .u32 (d:Nat))) g (o.set k d):=by
 obtain ⟨r,h⟩:=h
 refine ⟨r,?_⟩
 simp only [World.setCell,Array.getElem?_modify,h,if_true,Option.map_some]
 congr 2
 apply Array.toList_inj.1
 simp [u32s,List.map_set,hk]
theorem PB.below {W W1:World} {g:Nat} {o:List Nat} (h:PB W g o) (hb:Below W.heap.size W W1):PB W1 g o:=by
 obtain ⟨r,h2⟩:=h
 exact ⟨r,(hb.block g (zbi h2)).trans h2⟩
theorem PB.alloc_ {W:World} {g:Nat} {o:List Nat} (h:PB W g o) (x:Obj):PB (W.alloc x) g o:=h.below ((Below.refl _ _).alloc (Nat.le_refl _) x)
theorem PB.take {W:World} {g:Nat} {o:List Nat} (h:PB W g o) (k:Nat):PB W g (o.take k):=by
 obtain ⟨r,h⟩:=h
 refine ⟨u32s (o.drop k)++r,?_⟩
 rw [← List.append_assoc,show u32s (o.take k)++u32s (o.drop k)=u32s o by unfold u32s;rw [← List.map_append,List.take_append_drop]]
 exact h
theorem PB.trim {W:World} {g:Nat} {o:List Nat} (h:PB W g o) (hd:Dig o):PB W g (digs (nval o)):=by
 have:=h.take (trimL o).length
 rwa [zhs,zcb hd] at this
theorem PB.sl {W:World} {g c:Nat} {o:List Nat} (h:PB W g o) (hd:Dig o) (hc:o.length≤c) (hm:c≤9223372036854775807):Sl W W.heap.size (some ⟨g,0,none⟩) o.length c o:=by
 refine ⟨⟨⟨by simp [qJ],fun _=>⟨_,rfl,h.lt,fun j u hu=>?_⟩⟩,hd⟩,hc,hm⟩
 have e:(⟨g,0,none⟩:Addr).add j=⟨g,j,none⟩:=by unfold Addr.add;split<;>simp [*]
 have hj:j<o.length:=by
  have:=(List.getElem?_eq_some_iff.1 hu).1
  rwa [qJ] at this
 rw [e,h.cell hj,zmw hu hj,zcB hj]
theorem PB.of_own {W:World} {base g n cap:Nat} {l:List Nat} (h:OwnD W base (.slice (some ⟨g,0,none⟩) n cap) l) (hn:n=l.length):PB W g l∧base≤g∧n≤cap∧cap≤9223372036854775807:=by
 subst hn
 obtain ⟨⟨h1,h2⟩,hd⟩:=h
 rcases h2 with ⟨e,_⟩ | ⟨g',cap',cur,e,hb,hg,hn,hc,hs,ht⟩
 ·cases e
 ·cases e
  refine ⟨⟨cur.toList.drop (l.length*1),?_⟩,hb,hn,hc⟩
  rw [hg]
  congr 2
  apply Array.toList_inj.1
  rw [← ht]
  simp
theorem zmK {a b:List Nat} {j:Nat} (h:a.take (j+1)=b.take (j+1)):dg a j=dg b j:=by
 unfold dg
 have h1:(a.take (j+1))[j]?=(b.take (j+1))[j]?:=by rw [h]
 rw [List.getElem?_take_of_lt (Nat.lt_succ_self j),List.getElem?_take_of_lt (Nat.lt_succ_self j)] at h1
 rw [List.getD_eq_getElem?_getD,List.getD_eq_getElem?_getD,h1]
theorem zf1 {w:World} {A:Option Addr} {n c:Nat} {l:List Nat} (neg:Bool) (h:Sl w w.heap.size A n c l) (b:Bool) (hb:zj neg l=b) (W:World) (hW:Below w.heap.size w W) :
  Calls Tryz.prog 84 #[.agg #[.bool neg,.slice A n c]] W fun e w'=>e=.returned (.bool b)∧Below W.heap.size W w':=by
 subst hb
 exact zcW neg A n c w.heap.size l W (h.below hW).1 hW.size h.2.1
theorem znE (neg:Bool) {A:Option Addr} {n c B:Nat} {l:List Nat} {w:World} (h:Sl w B A n c l) (hB:B≤w.heap.size) (h1:zj neg l=false) :
  Calls Tryz.prog 71 #[.agg #[.bool neg,.slice A n c]] w fun e w'=>e=.returned (.string ⟨#[]⟩)∧Below w.heap.size w w':=by
 have R1:=Lib.hid (zf1 neg (h.more hB) false h1)
 have s0:=S1.start (w:=w) (neg:=neg) (A:=A) (n:=n) (c:=c)
 clear h h1
 go_enter Tryz.func71,Tryz.ntmps71
 go_wp2_with (go_at_call 84;refine (R1.out _ s0.below).mono ?_;rintro e w1 ⟨rfl,hb⟩;have s1:=s0.via hb;obtain ⟨a0,a1⟩:=s1.facts)
 go_ret
 exact ⟨rfl,s1.below⟩
attribute [local go_sem] bapp
theorem zlL (neg:Bool) {A:Option Addr} {n c B:Nat} {l:List Nat} {w:World} (h:Sl w B A n c l) (hB:B≤w.heap.size) (h1:zj neg l=true) :
  Calls Tryz.prog 71 #[.agg #[.bool neg,.slice A n c]] w fun e w'=>e=.returned (.string ⟨(Lib.itoa (sgn neg (nval l))).toArray⟩)∧Below w.heap.size w w':=by
 have R1:=Lib.hid (zf1 neg (h.more hB) true h1)
 have hl:=zr h1 h.dig
 have hlb:nval l<big:=(zX hl.1).1 hl.2.1
 have hz:Hid (nval l=0→neg=false):=Lib.hid fun h0=>hl.2.2 (qr hl.1 h0)
 have H:=Lib.hid (h.more hB)
 have s0:=S1.start (w:=w) (neg:=neg) (A:=A) (n:=n) (c:=c)
 have hd:l=digs (nval l):=zbh hl.1
 obtain ⟨v,hv⟩:∃v,nval l=v:=⟨_,rfl⟩
 rw [hv] at hd hz hlb ⊢
 subst hd
 have hn64:=za7 h hlb
 obtain ⟨i0,hi,hz0,hz1,hz2⟩:=info_parts Tryz.infoU32
 clear h1 hl hv
 by_cases hv0:v=0
 ·obtain rfl:neg=false:=hz.out hv0
  have hn0:((n:Int) == 0)=true:=by have:=(qT h).2 hv0;simp;omega
  clear h hz
  go_enter Tryz.func71,Tryz.ntmps71
  go_wp2_with (go_at_call 84;refine (R1.out _ s0.below).mono ?_;rintro e w1 ⟨rfl,hb⟩;have s1:=s0.via hb;obtain ⟨a0,a1⟩:=s1.facts)
  go_ret
  have e0:Lib.itoa (sgn false 0)=[48]:=by rw [show sgn false 0=0 from rfl,Lib.itoa,if_neg (by omega)];exact zbN
  exact ⟨by subst hv0;rw [e0];rfl,s1.below⟩
 ·have hn0:((n:Int) == 0)=false:=by have:=(qT h).1;simp;omega
  have hnp:0<n:=by have:=(qT h).1;omega
  obtain ⟨ad,rfl,_⟩:=h.at_ (k:=0) hnp
  have hlen:=h.len
  clear h hz
  go_enter Tryz.func71,Tryz.ntmps71
  go_upto_region 6 with (go_at_call 84;refine (R1.out _ s0.below).mono ?_;rintro e w1 ⟨rfl,hb⟩;have s1:=s0.via hb;clear hb;obtain ⟨a0,a1⟩:=s1.facts)
  have b0:Below w1.heap.size w1 (w1.alloc (.cells #[] 84)):=(Below.refl _ _).alloc (Nat.le_refl _) _
  have hs1:=s1.size
  obtain ⟨a2,a3⟩:=(s1.via b0).facts
  have hown:(w1.alloc (.cells #[] 84)).ownsRow (w.heap.size+1) 84 1 (.slice (some ⟨w1.heap.size,0,none⟩) 0 0) 0 []:=⟨rfl,.inr ⟨w1.heap.size,0,#[],rfl,hs1,zO _ _ _ rfl,Nat.le_refl _,by decide,rfl,rfl⟩⟩
  have hnews:=((H.out.below s1.below).below (b0.mono s1.below.size)).news hnp
  have hnl:(u32s (digs v)).length=n*1:=by rw [qJ,hlen,Nat.mul_one]
  have hmx:0+n≤maxLen:=by unfold maxLen;omega
  have hby2:(0+n)*4≤140737488355328:=by omega
  have hbs:w.heap.size+1≤(w1.alloc (.cells #[] 84)).heap.size:=by simp;omega
  go_wp2_with (first
   | (at_builtin;go_loud (refine wpList_append_lies _ rfl _ _ 24 rfl (w.heap.size+1) 84 i0 (.int .u32 0) 1 4 Tryz.underlying24 hi hz0 hz1 hz2 rfl (by decide) _ _ _ rfl hown ad n c (u32s (digs v)) rfl hnl hnews zkP hnp hmx hby2 hbs _ rfl ?_;intro g cap w2 hown' hgrow _ hlt;have s2:S1 w neg (some ad) n c w2:=zdf (s1.via b0) hgrow hbs hs1;have hP:=Lib.hid (PB.of_own (n:=n) (l:=digs v) ⟨by rw [hlen];rw [Nat.zero_add] at hown';exact hown',(zR v).1⟩ hlen.symm);clear hown' hgrow))
   | fail "no arm")
  clear hown hnews hnl hmx hby2 hbs hs1 a0 a1 a2 a3 b0
  go_loopw [3,4] (fun x y wr=>∃t g c3 p n3,x=.string ⟨List.toArray t⟩∧y=.slice (some ⟨g,0,none⟩) n3 c3∧S1 w neg (some ad) n c wr∧w.heap.size+1≤g∧n3≤c3∧c3≤9223372036854775807∧Hid (PB wr g (digs p)∧(digs p).length=n3∧p<big∧dd v=dd p++t)) (fun _ y wr=>slv wr y)
  case atStart=>exact ⟨[],g,cap,v,n,rfl,rfl,s2,hP.out.2.1,hP.out.2.2.1,hP.out.2.2.2,Lib.hid ⟨hP.out.1,hlen,hlb,by simp⟩⟩
  case round =>
   clear hP s2 s1 s0 R1 hlen
   obtain ⟨t,g,c3,p,n3,rfl,rfl,sr,hg,hc3,hm3,hI⟩:=hrel
   have hsl:=Lib.hid (hI.out.1.sl (zR p).1 (by rw [hI.out.2.1];exact hc3) hm3)
   rw [hI.out.2.1] at hsl
   have h64:=za7 hsl.out hI.out.2.2.1
   have htl:=zp3 hlb hI.out.2.2.2
   by_cases hbr:(0:Int)<n3
   ·have hp0:p≠0:=fun e=>by have:=(qT hsl.out).2 e;omega
    have hmeas:Hid (slv wr (.slice (some ⟨g,0,none⟩) n3 c3)=p):=Lib.hid (by rw [zdn hsl.out,zh])
    obtain ⟨wo,hwo⟩:∃wo:World,wo=wr:=⟨_,rfl⟩
    subst hwo
    have hIo:=hI
    go_wp2_with fail
    go_loopw [5,6] (fun x y wr=>∃(j r:Nat) (z:Int) (o:List Nat),j≤n3∧r<10∧x=.int .u64 r∧y=.int .i64 z∧z=(j:Int) - 1∧S1 w neg (some ad) n c wr∧Hid (PB wr g o∧o.length=n3∧Dig o∧o.take j=(digs p).take j∧nval ((digs p).drop j)=nval (o.drop j)*10+r)) (fun _ y _=>(intOf y+1).toNat)
    case atStart=>exact ⟨n3,0,_,digs p,by omega,by omega,rfl,rfl,rfl,sr,Lib.hid ⟨hI.out.1,hI.out.2.1,(zR p).1,rfl,by rw [← hI.out.2.1];simp [nval]⟩⟩
    case round =>
     clear sr hI hsl
     obtain ⟨j,r,z,o,hj,hr,rfl,rfl,hz,sr,hI⟩:=hrel
     cases j with
     | zero =>
      obtain rfl:z=-1:=by omega
      clear hz
      have hcv:(convert 114 9 (.slice (some ⟨wr.heap.size,0,none⟩) 1 1)).run Tryz.prog (wr.alloc (.cells #[.int .u8 (48+(r:Int))] 5))=.ok (.string ⟨#[db r]⟩) (wr.alloc (.cells #[.int .u8 (48+(r:Int))] 5)):=
       Go.Lib.run_convert_whole _ 114 5 9 (by kernel_rfl) (by kernel_rfl) (by kernel_rfl) wr.heap.size 0 ⟨#[db r]⟩ (fun i hi=>by obtain rfl:i=0:=(by have h5:i<1:=hi;omega);exact (show (wr.alloc (.cells #[.int .u8 (48+(r:Int))] 5)).cell? ⟨wr.heap.size,0+0,none⟩=some (.int .u8 (48+(r:Int))) by simp).trans (show some (Value.int .u8 (48+(r:Int)))=some (Value.int .u8 (((db r).toNat:Nat):Int)) by rw [zhG hr];rfl)) 1
      have htl2:(1:Int)+t.length≤9223372036854775807:=by omega
      have hslz:=Lib.hid ((hI.out.1.alloc_ (.cells #[.int .u8 (48+(r:Int))] 5)).sl hI.out.2.2.1 (by rw [hI.out.2.1];exact hc3) hm3)
      rw [hI.out.2.1] at hslz
      go_wp2_with (go_at_call 105;refine (zbK _ _ _ _ _ _ hslz.out.1 hslz.out.2.1 hslz.out.2.2).mono ?_;rintro e w' ⟨rfl,rfl⟩)
      obtain ⟨i1,i2,i3,_,i5⟩:=hI.out
      rw [List.drop_zero,List.drop_zero,zh] at i5
      have hle:(trimL o).length≤n3:=by rw [← i2];exact zc2 o
      have hpb:=(i1.alloc_ (.cells #[.int .u8 (48+(r:Int))] 5)).trim i3
      have hd10:p / 10=nval o:=by omega
      have hm10:p%10=r:=by omega
      refine ⟨⟨db r::t,g,c3,nval o,(trimL o).length,rfl,rfl,sr.via ((Below.refl _ _).alloc (Nat.le_refl _) _),hg,by omega,hm3,Lib.hid ⟨hpb,by rw [zcb i3],by have:=hIo.out.2.2.1;omega,?_⟩⟩,?_⟩
      ·rw [hIo.out.2.2.2,zeJ hp0,hd10,hm10,List.append_assoc]
       rfl
      ·rw [zcb i3,zdn (hpb.sl (zR _).1 (by rw [← zcb i3];omega) hm3),hmeas.out,zh]
       omega
     | succ j =>
      obtain rfl:z=(j:Int):=by omega
      clear hz
      have hcg:=hI.out.1.cell (k:=j) (by rw [hI.out.2.1];omega)
      have hfg:=hI.out.1.frozen j
      have hd1:=dg_lt hI.out.2.2.1 j
      have hlt:=hI.out.1.lt
      obtain ⟨x,hx⟩:∃x,dg o j=x:=⟨_,rfl⟩
      rw [hx] at hcg hd1
      obtain ⟨q,hq⟩:∃q,(r*4294967296+x) / 10=q:=⟨_,rfl⟩
      obtain ⟨r',hr'⟩:∃r',(r*4294967296+x)%10=r':=⟨_,rfl⟩
      have hql:q<4294967296:=by omega
      have hrl:r'<10:=by omega
      have eq1:((r:Int)*4294967296+x) / 10=(q:Int):=by omega
      have er1:((r:Int)*4294967296+x)%10=(r':Int):=by omega
      have hwo:=Lib.hid hI.out
      go_wp2_with fail
      obtain ⟨i1,i2,i3,i4,i5⟩:=hwo.out
      refine ⟨⟨j,r',_,o.set j q,by omega,hrl,by rw [er1],rfl,rfl,Below.setCell sr (p:=⟨g,j,none⟩) hg _,Lib.hid ⟨i1.set (by omega),by simpa using i2,qQ i3 hql,?_,?_⟩⟩,?_⟩
      ·rw [List.take_set_of_le (Nat.le_refl _)]
       have:=congrArg (List.take j) i4
       rwa [List.take_take,List.take_take,Nat.min_eq_left (Nat.le_succ j)] at this
      ·rw [qH,zcr _ _ _ (by omega),← zmK i4,hx,i5]
       have h10:r*4294967296+x=q*10+r':=by omega
       rw [Nat.add_mul,Nat.mul_add,Nat.mul_assoc 4294967296]
       omega
      ·simp only [intOf]
       omega
   ·have hp0:p=0:=(qT hsl.out).1 (by omega)
    have htv:Hid (t=dd v):=by
     have:=hI.out.2.2.2
     rw [hp0,zbZ,List.nil_append] at this
     exact Lib.hid this.symm
    obtain ⟨a0,a1⟩:=sr.facts
    have hit:Hid (∀b:Bool,Lib.itoa (sgn b v)=if b then 45::t else t):=by
     intro b
     cases b
     ·rw [show sgn false v=(v:Int) from rfl,Lib.itoa,if_neg (by omega),Int.toNat_natCast,zcJ v hv0,htv.out];rfl
     ·rw [show sgn true v=-(v:Int) from rfl,Lib.itoa,if_pos (by omega),Int.natAbs_neg,Int.natAbs_natCast,zcJ v hv0,htv.out];rfl
    clear hv0 htv hp0 hI hsl
    cases neg
    ·go_wp2_with fail
     go_ret
     exact ⟨by rw [hit.out];rfl,sr.below⟩
    ·go_wp2_with fail
     go_ret
     exact ⟨by rw [hit.out];rfl,sr.below⟩
theorem zcu (neg:Bool) {A:Option Addr} {n c B:Nat} {l:List Nat} {w:World} (h:Sl w B A n c l) (hB:B≤w.heap.size) :
  Calls Tryz.prog 71 #[.agg #[.bool neg,.slice A n c]] w fun e w'=>e=.returned (.string ⟨(textS neg l).toArray⟩)∧Below w.heap.size w w':=by
 cases h1:zj neg l with
 | false=>rw [show textS neg l=[] by unfold textS;rw [h1];rfl];exact znE neg h hB h1
 | true=>rw [show textS neg l=Lib.itoa (sgn neg (nval l)) by unfold textS;rw [h1];rfl];exact zlL neg h hB h1
end Go.Proofs.YtccjiodohphgnaaGreatDoor
namespace Go.Proofs.YtccjiodohphgnaaGreatDoor
open Go.RowKit Go.Shelf
theorem qF {L:Array Bool} {i j:Nat} {b:Bool} (h:j≠i):(L.setIfInBounds i true).getD j b=L.getD j b:=by
 simp only [Array.getD_eq_getD_getElem?]
 rw [Array.getElem?_setIfInBounds_ne (fun e=>h e.symm)]
theorem qK {o:Oper} {y:Nat→Option Bool} (h:o.guard=none):Region.wanted o y=true:=by unfold Region.wanted;rw [h]
def opIsG (ops:Array Oper) (i:Nat) (dst:Option Nat) (op:Op) (g:Option (Nat×Bool)):Prop:=(ops[i]?).map (fun o=>(o.dst,o.op,o.guard))=some (dst,op,g)
def HoldsS (u:Value) (W:World) (l:List Nat):Prop:=∃A n c,u=.slice A n c∧Sl W W.heap.size A n c l
theorem HoldsS.via {u:Value} {W W1:World} {l:List Nat} (h:HoldsS u W l) (hb:Below W.heap.size W W1):HoldsS u W1 l:=by
 obtain ⟨A,n,c,e,hs⟩:=h
 exact ⟨A,n,c,e,hs.via hb⟩
theorem HoldsS.built (W:World) (d:Nat) (hd:d<4294967296):HoldsS (.slice (some ⟨W.heap.size,0,none⟩) 1 1) (W.alloc (.cells #[.int .u32 (d:Nat)] 84)) [d]:=by
 have d1:DBk (W.alloc (.cells #[.int .u32 (d:Nat)] 84)) W.heap.size 84 [d]:=zO W _ _ rfl
 exact ⟨_,_,_,rfl,d1.sl (by intro x hx;simp at hx;omega) (by simp) (by simp)⟩
def zcw (A:Option Addr) (n c p:Nat) (s:List UInt8) (k d:Nat) (j:Nat) (u:Value) (W:World):Prop:=match j with
 | 0=>u=.slice A n c
 | 1=>HoldsS u W [10]
 | 2=>HoldsS u W (digs (p*10))
 | 3=>u=.string ⟨s.toArray⟩
 | 4=>u=.int .i64 (k:Int)
 | 5=>u=.int .u8 (48+(d:Int))
 | 6=>u=.int .u8 (d:Int)
 | 7=>u=.int .u32 (d:Int)
 | 8=>HoldsS u W [d]
 | 9=>HoldsS u W (digs (p*10+d))
 | 10=>HoldsS u W (digs (p*10+d))
 | _=>True
def zde (j:Nat):Nat:=match j with
 | 0=>35
 | 1=>36
 | 2=>37
 | 3=>38
 | 4=>39
 | 5=>40
 | 6=>41
 | 7=>42
 | 8=>43
 | 9=>44
 | 10=>5
 | _=>0
theorem zru {A:Option Addr} {n c p:Nat} {s:List UInt8} {k d:Nat} {j:Nat} {u:Value} {W W1:World} (h:zcw A n c p s k d j u W) (_hb:Below W.heap.size W W1):zcw A n c p s k d j u W1:=by
 unfold zcw at h ⊢
 split <;> first | exact h | exact HoldsN.via h _hb | exact HoldsS.via h _hb | trivial | fail "no"
theorem zrt:∀x,x<11→∀y,y<11→x≠y→zde x≠zde y:=by decide
theorem za9 {A:Option Addr} {n c p:Nat} {s:List UInt8} {k d:Nat} {f:Nat→Value} {L:Array Bool} {i:Nat} {v:Value} {W W1:World} (hi:i<11) (hF:∀j,j<11→L.getD j false=true→zcw A n c p s k d j (f (zde j)) W) (hb:Below W.heap.size W W1) (hv:zcw A n c p s k d i v W1) :
  ∀j,j<11→(L.setIfInBounds i true).getD j false=true→zcw A n c p s k d j (upd f (zde i) v (zde j)) W1:=by
 intro j hj h
 by_cases hji:j=i
 ·subst hji;rw [zsI];exact hv
 ·rw [zam (zrt j hj i hi hji)]
  rcases zh2 h with h | h
  ·exact absurd h hji
  ·exact zru (hF j hj h) hb
def zuL (MM:World→Prop) (t:Array Value) (df:List Deferred) (A:Option Addr) (n c p:Nat) (s:List UInt8) (k d:Nat) (L:Array Bool) (a:Act) (W:World):Prop:=
 ∃f,a=⟨patch t [35,36,37,38,39,40,41,42,43,44,5] f,df⟩∧MM W∧(∀j,j<11→L.getD j false=true→zcw A n c p s k d j (f (zde j)) W)∧(L.getD 10 false=false→f 5=t.getD 5 undef)
theorem zf7 {ops:Array Oper} {Q:Exit→Act→World→Prop} {id:Nat} (MM:World→Prop) (t:Array Value) (df:List Deferred) (W:World) (A:Option Addr) (n c p:Nat) (s:List UInt8) (k d:Nat)
  (hsz:ops.size=11) (hback:backB ops=true) (hts:44<t.size)
  (hM0:MM W.drew) (hMV:∀W W1,MM W→Below W.heap.size W W1→MM W1)
  (hdd:d<10)
  (h5:t.getD 5 undef=.slice A n c)
  (h0:t.getD 0 undef=.string ⟨s.toArray⟩)
  (h6:t.getD 6 undef=.int .i64 (k:Int))
  (hk:(k:Int)<s.length)
  (hsk:∀h:k<s.length,(s[k].toNat:Int)=48+(d:Int))
  (hTi:∀(W:World) (A2:Option Addr) (n2 c2:Nat),MM W→Sl W W.heap.size A2 n2 c2 [10]→Calls Tryz.prog 89 #[.slice A n c,.slice A2 n2 c2] W (RetD (p*10) W))
  (hPl:∀(W:World) (A1 A2:Option Addr) (n1 c1 n2 c2:Nat),Sl W W.heap.size A1 n1 c1 (digs (p*10))→Sl W W.heap.size A2 n2 c2 [d]→Calls Tryz.prog 90 #[.slice A1 n1 c1,.slice A2 n2 c2] W (RetD (p*10+d) W))
  (o0:opIsG ops 0 (some 35) (.move (.tmp 5)) none)
  (o1:opIsG ops 1 (some 36) (.buildSlice 24 1 #[(0,.const (.int .u32 10))]) none)
  (o2:opIsG ops 2 (some 37) (.call { callee:=.value (.func 89),args:=#[.tmp 35,.tmp 36],argTypes:=#[24,24] }) none)
  (o3:opIsG ops 3 (some 38) (.move (.tmp 0)) none)
  (o4:opIsG ops 4 (some 39) (.move (.tmp 6)) none)
  (o5:opIsG ops 5 (some 40) (.index 9 (.tmp 38) (.tmp 39)) none)
  (o6:opIsG ops 6 (some 41) (.binOp .sub 5 (.tmp 40) (.const (.int .u8 48)) 5) none)
  (o7:opIsG ops 7 (some 42) (.convert 5 84 (.tmp 41)) none)
  (o8:opIsG ops 8 (some 43) (.buildSlice 24 1 #[(0,.tmp 42)]) none)
  (o9:opIsG ops 9 (some 44) (.call { callee:=.value (.func 90),args:=#[.tmp 37,.tmp 43],argTypes:=#[24,24] }) none)
  (o10:opIsG ops 10 (some 5) (.assign (.tmp 44)) none)
  (p2_0:depB ops 2 0=true)
  (p2_1:depB ops 2 1=true)
  (p5_3:depB ops 5 3=true)
  (p5_4:depB ops 5 4=true)
  (p6_5:depB ops 6 5=true)
  (p7_6:depB ops 7 6=true)
  (p8_7:depB ops 8 7=true)
  (p9_2:depB ops 9 2=true)
  (p9_8:depB ops 9 8=true)
  (p10_9:depB ops 10 9=true)
  (p10_0:depB ops 10 0=true)
  (hQ:∀f W,MM W→(HoldsS (f 5) W (digs (p*10+d)))→Q .normal ⟨patch t [35,36,37,38,39,40,41,42,43,44,5] f,df⟩ W):(Code.region id ops true).wp Tryz.prog Q ⟨t,df⟩ W:=by
 refine zea (by kernel_rfl) hback (zuL MM t df A n c p s k d) ?_ ?_ ?_
 ·refine ⟨_,congrArg (fun x=>(⟨x,df⟩:Act)) (zlH t [35,36,37,38,39,40,41,42,43,44,5]).symm,hM0,fun j _ h=>?_,fun _=>rfl⟩
  simp [Array.getD] at h
 ·rintro L a W i o ho hzz hc hl hd ⟨f,rfl,hA,hF,hK10⟩
  have hi:i<11:=by have:=(Array.getElem?_eq_some_iff.1 ho).1;omega
  obtain ⟨dst,op,ty,pos,after,guard⟩:=o
  match i,hi with
  | 0,_ =>
   have e:=o0
   unfold opIsG at e
   rw [ho] at e
   simp only [Option.map_some,Option.some.injEq,Prod.mk.injEq] at e
   obtain ⟨rfl,rfl,rfl⟩:=e
   refine wpOp_step ho (fun K hK=>?_)
   rw [if_pos (qK rfl)]
   have hj0:L.getD 10 false=false:=(by
    cases hx:L.getD 10 false with
    | false=>rfl
    | true =>
     have h9:=hc 10 0 p10_0 (by rw [zfH (c:=false) (by omega)];exact hx) (by omega)
     rw [zfH (c:=true) (by omega),hl] at h9;cases h9)
   have x9:(patch t [35,36,37,38,39,40,41,42,43,44,5] f).getD 5 undef=.slice A n c:=(zaj (by omega) (by decide)).trans ((hK10 hj0).trans h5)
   go_simp
   exact hK _ _ ⟨upd f 35 (.slice A n c),by rw [zak (by decide)],hA,za9 (i:=0) (by omega) hF (Below.refl _ _) rfl,fun h=>(by rw [qF (by omega)] at h;rw [zam (by decide)];exact hK10 h)⟩
  | 1,_ =>
   have e:=o1
   unfold opIsG at e
   rw [ho] at e
   simp only [Option.map_some,Option.some.injEq,Prod.mk.injEq] at e
   obtain ⟨rfl,rfl,rfl⟩:=e
   refine wpOp_step ho (fun K hK=>?_)
   rw [if_pos (qK rfl)]
   go_simp
   have hb:Below W.heap.size W (W.alloc (.cells #[.int .u32 ((10:Nat):Int)] 84)):=(Below.refl _ _).alloc (Nat.le_refl _) _
   exact hK _ _ ⟨upd f 36 (.slice (some ⟨W.heap.size,0,none⟩) 1 1),by rw [zak (by decide)],(hMV _ _ hA hb),za9 (i:=1) (by omega) hF hb (HoldsS.built W 10 (by omega)),fun h=>(by rw [qF (by omega)] at h;rw [zam (by decide)];exact hK10 h)⟩
  | 2,_ =>
   have e:=o2
   unfold opIsG at e
   rw [ho] at e
   simp only [Option.map_some,Option.some.injEq,Prod.mk.injEq] at e
   obtain ⟨rfl,rfl,rfl⟩:=e
   refine wpOp_step ho (fun K hK=>?_)
   rw [if_pos (qK rfl)]
   have x0:(patch t [35,36,37,38,39,40,41,42,43,44,5] f).getD 35 undef=.slice A n c:=(zaj (by omega) (by decide)).trans (hF 0 (by omega) (hd 0 p2_0))
   have y1:HoldsS (f 36) W [10]:=hF 1 (by omega) (hd 1 p2_1)
   obtain ⟨A2,n2,c2,e2,hs2⟩:=y1
   have x8:(patch t [35,36,37,38,39,40,41,42,43,44,5] f).getD 36 undef=.slice A2 n2 c2:=(zaj (by omega) (by decide)).trans e2
   go_simp
   refine (hTi W A2 n2 c2 hA hs2).mono ?_
   rintro e w1 ⟨A3,n3,c3,rfl,hs3,hb⟩
   exact hK _ _ ⟨upd f 37 (.slice A3 n3 c3),by rw [zak (by decide)],(hMV _ _ hA hb),za9 (i:=2) (by omega) hF hb ⟨A3,n3,c3,rfl,hs3⟩,fun h=>(by rw [qF (by omega)] at h;rw [zam (by decide)];exact hK10 h)⟩
  | 3,_ =>
   have e:=o3
   unfold opIsG at e
   rw [ho] at e
   simp only [Option.map_some,Option.some.injEq,Prod.mk.injEq] at e
   obtain ⟨rfl,rfl,rfl⟩:=e
   refine wpOp_step ho (fun K hK=>?_)
   rw [if_pos (qK rfl)]
   have x9:(patch t [35,36,37,38,39,40,41,42,43,44,5] f).getD 0 undef=.string ⟨s.toArray⟩:=(zkC (by decide)).trans h0
   go_simp
   exact hK _ _ ⟨upd f 38 (.string ⟨s.toArray⟩),by rw [zak (by decide)],hA,za9 (i:=3) (by omega) hF (Below.refl _ _) rfl,fun h=>(by rw [qF (by omega)] at h;rw [zam (by decide)];exact hK10 h)⟩
  | 4,_ =>
   have e:=o4
   unfold opIsG at e
   rw [ho] at e
   simp only [Option.map_some,Option.some.injEq,Prod.mk.injEq] at e
   obtain ⟨rfl,rfl,rfl⟩:=e
   refine wpOp_step ho (fun K hK=>?_)
   rw [if_pos (qK rfl)]
   have x9:(patch t [35,36,37,38,39,40,41,42,43,44,5] f).getD 6 undef=.int .i64 (k:Int):=(zkC (by decide)).trans h6
   go_simp
   exact hK _ _ ⟨upd f 39 (.int .i64 (k:Int)),by rw [zak (by decide)],hA,za9 (i:=4) (by omega) hF (Below.refl _ _) rfl,fun h=>(by rw [qF (by omega)] at h;rw [zam (by decide)];exact hK10 h)⟩
  | 5,_ =>
   have e:=o5
   unfold opIsG at e
   rw [ho] at e
   simp only [Option.map_some,Option.some.injEq,Prod.mk.injEq] at e
   obtain ⟨rfl,rfl,rfl⟩:=e
   refine wpOp_step ho (fun K hK=>?_)
   rw [if_pos (qK rfl)]
   have x3:(patch t [35,36,37,38,39,40,41,42,43,44,5] f).getD 38 undef=.string ⟨s.toArray⟩:=(zaj (by omega) (by decide)).trans (hF 3 (by omega) (hd 3 p5_3))
   have x4:(patch t [35,36,37,38,39,40,41,42,43,44,5] f).getD 39 undef=.int .i64 (k:Int):=(zaj (by omega) (by decide)).trans (hF 4 (by omega) (hd 4 p5_4))
   have hkk:k<(⟨s.toArray⟩:ByteArray).size:=(by show k<s.length;omega)
   have e4:(((⟨s.toArray⟩:ByteArray)[k]'hkk).toNat:Int)=48+(d:Int):=hsk (by omega)
   go_simp
   exact hK _ _ ⟨upd f 40 (.int .u8 (48+(d:Int))),by rw [zak (by decide)],hA,za9 (i:=5) (by omega) hF (Below.refl _ _) rfl,fun h=>(by rw [qF (by omega)] at h;rw [zam (by decide)];exact hK10 h)⟩
  | 6,_ =>
   have e:=o6
   unfold opIsG at e
   rw [ho] at e
   simp only [Option.map_some,Option.some.injEq,Prod.mk.injEq] at e
   obtain ⟨rfl,rfl,rfl⟩:=e
   refine wpOp_step ho (fun K hK=>?_)
   rw [if_pos (qK rfl)]
   have x5:(patch t [35,36,37,38,39,40,41,42,43,44,5] f).getD 40 undef=.int .u8 (48+(d:Int)):=(zaj (by omega) (by decide)).trans (hF 5 (by omega) (hd 5 p6_5))
   go_simp
   rw [show IntKind.u8.wrap (48+(d:Int) - 48)=(d:Int) by rw [IntKind.wrap_u8];omega]
   exact hK _ _ ⟨upd f 41 (.int .u8 (d:Int)),by rw [zak (by decide)],hA,za9 (i:=6) (by omega) hF (Below.refl _ _) rfl,fun h=>(by rw [qF (by omega)] at h;rw [zam (by decide)];exact hK10 h)⟩
  | 7,_ =>
   have e:=o7
   unfold opIsG at e
   rw [ho] at e
   simp only [Option.map_some,Option.some.injEq,Prod.mk.injEq] at e
   obtain ⟨rfl,rfl,rfl⟩:=e
   refine wpOp_step ho (fun K hK=>?_)
   rw [if_pos (qK rfl)]
   have x6:(patch t [35,36,37,38,39,40,41,42,43,44,5] f).getD 41 undef=.int .u8 (d:Int):=(zaj (by omega) (by decide)).trans (hF 6 (by omega) (hd 6 p7_6))
   go_simp
   rw [show IntKind.u32.wrap (d:Int)=(d:Int) by rw [IntKind.wrap_u32];omega]
   exact hK _ _ ⟨upd f 42 (.int .u32 (d:Int)),by rw [zak (by decide)],hA,za9 (i:=7) (by omega) hF (Below.refl _ _) rfl,fun h=>(by rw [qF (by omega)] at h;rw [zam (by decide)];exact hK10 h)⟩
  | 8,_ =>
   have e:=o8
   unfold opIsG at e
   rw [ho] at e
   simp only [Option.map_some,Option.some.injEq,Prod.mk.injEq] at e
   obtain ⟨rfl,rfl,rfl⟩:=e
   refine wpOp_step ho (fun K hK=>?_)
   rw [if_pos (qK rfl)]
   have x7:(patch t [35,36,37,38,39,40,41,42,43,44,5] f).getD 42 undef=.int .u32 (d:Int):=(zaj (by omega) (by decide)).trans (hF 7 (by omega) (hd 7 p8_7))
   rw [Array.getD_eq_getD_getElem?] at x7
   go_simp
   have hb:Below W.heap.size W (W.alloc (.cells #[.int .u32 ((d:Nat):Int)] 84)):=(Below.refl _ _).alloc (Nat.le_refl _) _
   exact hK _ _ ⟨upd f 43 (.slice (some ⟨W.heap.size,0,none⟩) 1 1),by rw [zak (by decide)],(hMV _ _ hA hb),za9 (i:=8) (by omega) hF hb (HoldsS.built W d (by omega)),fun h=>(by rw [qF (by omega)] at h;rw [zam (by decide)];exact hK10 h)⟩
  | 9,_ =>
   have e:=o9
   unfold opIsG at e
   rw [ho] at e
   simp only [Option.map_some,Option.some.injEq,Prod.mk.injEq] at e
   obtain ⟨rfl,rfl,rfl⟩:=e
   refine wpOp_step ho (fun K hK=>?_)
   rw [if_pos (qK rfl)]
   have y2:HoldsS (f 37) W (digs (p*10)):=hF 2 (by omega) (hd 2 p9_2)
   have y8:HoldsS (f 43) W [d]:=hF 8 (by omega) (hd 8 p9_8)
   obtain ⟨A1,n1,c1,e1,hs1⟩:=y2
   have x7:(patch t [35,36,37,38,39,40,41,42,43,44,5] f).getD 37 undef=.slice A1 n1 c1:=(zaj (by omega) (by decide)).trans e1
   obtain ⟨A2,n2,c2,e2,hs2⟩:=y8
   have x8:(patch t [35,36,37,38,39,40,41,42,43,44,5] f).getD 43 undef=.slice A2 n2 c2:=(zaj (by omega) (by decide)).trans e2
   go_simp
   refine (hPl W A1 A2 n1 c1 n2 c2 hs1 hs2).mono ?_
   rintro e w1 ⟨A3,n3,c3,rfl,hs3,hb⟩
   exact hK _ _ ⟨upd f 44 (.slice A3 n3 c3),by rw [zak (by decide)],(hMV _ _ hA hb),za9 (i:=9) (by omega) hF hb ⟨A3,n3,c3,rfl,hs3⟩,fun h=>(by rw [qF (by omega)] at h;rw [zam (by decide)];exact hK10 h)⟩
  | 10,_ =>
   have e:=o10
   unfold opIsG at e
   rw [ho] at e
   simp only [Option.map_some,Option.some.injEq,Prod.mk.injEq] at e
   obtain ⟨rfl,rfl,rfl⟩:=e
   refine wpOp_step ho (fun K hK=>?_)
   rw [if_pos (qK rfl)]
   have y9:HoldsS (f 44) W (digs (p*10+d)):=hF 9 (by omega) (hd 9 p10_9)
   obtain ⟨A3,n3,c3,e3,hs3⟩:=y9
   have x7:(patch t [35,36,37,38,39,40,41,42,43,44,5] f).getD 44 undef=.slice A3 n3 c3:=(zaj (by omega) (by decide)).trans e3
   go_simp
   exact hK _ _ ⟨upd f 5 (.slice A3 n3 c3),by rw [zak (by decide)],hA,za9 (i:=10) (by omega) hF (Below.refl _ _) ⟨A3,n3,c3,rfl,hs3⟩,fun h=>(by rw [zdJ (by omega)] at h;cases h)⟩
  | k+11,h=>exact absurd h (by omega)
 ·rintro L a W hL ⟨f,rfl,hA,hF,_⟩
  exact hQ f W hA (hF 10 (by omega) (hL 10 (by omega)))
def cutF (s:List UInt8):Nat:=if s.head?=some 45 then 1 else 0
theorem zjy (s:List UInt8):cutR s=s.drop (cutF s):=by
 unfold cutR cutF
 split
 ·cases s<;>rfl
 ·rfl
theorem ztG (s:List UInt8):cutF s≤s.length:=by
 unfold cutF
 split
 ·rename_i h;cases s with
  | nil=>cases h
  | cons a b=>simp
 ·omega
theorem zoh {s:List UInt8} (h0:0<s.length):cutF s=if ((((⟨s.toArray⟩:ByteArray)[0]'h0).toNat:Int) == 45)=true then 1 else 0:=by
 cases s with
 | nil=>simp at h0
 | cons b r =>
  have e:((⟨(b::r).toArray⟩:ByteArray)[0]'h0)=b:=rfl
  rw [e]
  unfold cutF
  by_cases hb:b=45
  ·subst hb;rfl
  ·rw [if_neg (by simpa using hb),if_neg]
   intro h
   have h1:b.toNat=45:=by
    have h2:(b.toNat:Int)=45:=by simpa using h
    omega
   exact hb (UInt8.toNat_inj.1 h1)
theorem zqp {s:List UInt8} (h0:¬ 0<s.length):cutF s=0:=by
 obtain rfl:=List.eq_nil_of_length_eq_zero (show s.length=0 by omega)
 rfl
theorem zqq {s:List UInt8} (h:cutF s=1):cutN s=true:=by
 unfold cutF at h
 unfold cutN
 split at h
 ·rename_i h2;simp [h2]
 ·omega
theorem zjx {s:List UInt8} (h:cutF s=0):cutN s=false:=by
 unfold cutF at h
 unfold cutN
 split at h
 ·omega
 ·rename_i h2;simp [h2]
def RpI (W:World) (s:List UInt8) (A:Option Addr) (n c u k:Nat):Prop:=Sl W W.heap.size A n c (digs u)∧u<big∧u=dval ((cutR s).take (k - cutF s))∧AllD ((cutR s).take (k - cutF s))
theorem zk1 {v k:Nat} (h:v<4294967296 ^ k):(digs v).length≤k:=by
 rcases Nat.lt_or_ge k (digs v).length with h1 | h1
 ·have h2:=zch (zR v) (by intro e;rw [e] at h1;simp at h1)
  have h3:4294967296 ^ k≤4294967296 ^ ((digs v).length - 1):=Nat.pow_le_pow_right (by decide) (by omega)
  rw [zh] at h2
  exact absurd (Nat.lt_of_lt_of_le h (Nat.le_trans h3 h2)) (Nat.lt_irrefl _)
 ·exact h1
theorem zg2 {v:Nat} (h:v<big):(digs (v*10)).length≤1000:=by
 refine Nat.le_trans (zk1 (k:=65) ?_) (by decide)
 unfold big at h
 rw [Nat.pow_succ]
 omega
theorem zpF {s:List UInt8} {k u:Nat} (hk:k=s.length) (hu:u=dval ((cutR s).take (k - cutF s))):valS s=sgn (cutN s) u:=by
 subst hk
 rw [List.take_of_length_le (by rw [zjy,List.length_drop];exact Nat.le_refl _)] at hu
 unfold valS
 rw [hu]
theorem zta {s:List UInt8} {k:Nat} (hk:k<s.length) (hf:cutF s≤k):(cutR s)[k - cutF s]?=some s[k]:=by
 rw [zjy,List.getElem?_drop,show cutF s+(k - cutF s)=k by omega]
 exact List.getElem?_eq_getElem hk
theorem zjg {s:List UInt8} {k:Nat} (hk:k<s.length) (hf:cutF s≤k):(cutR s).take (k+1 - cutF s)=(cutR s).take (k - cutF s)++[s[k]]:=by
 rw [show k+1 - cutF s=(k - cutF s)+1 by omega,List.take_add_one,zta hk hf]
 rfl
theorem zs9 {s:List UInt8} {k:Nat} (hk:k<s.length) (hf:cutF s≤k) (hb:¬ (48≤s[k].toNat∧s[k].toNat≤57)):zk s=none:=
 zhg fun h=>hb (h _ (List.mem_of_getElem? (zta hk hf)))
theorem zml {s:List UInt8} {j u:Nat} (hu:u=dval ((cutR s).take j)) (h:¬ u<big):zk s=none:=by
 refine zkA fun h2=>h ?_
 rw [← List.take_append_drop j (cutR s),zds,zhM,← hu] at h2
 have h3:u≤u*10 ^ ((cutR s).drop j).length:=Nat.le_mul_of_pos_right _ (Nat.pos_of_ne_zero (by simp))
 omega
attribute [local go_sem] bapp
theorem zkJ (s:List UInt8) (w:World) (hlen:s.length≤1000) :
  Calls Tryz.prog 72 #[.string ⟨s.toArray⟩] w (RetN (zk s) w):=by
 have s0:=S1.start (w:=w) (neg:=false) (A:=none) (n:=0) (c:=0)
 have hfle:=ztG s
 by_cases h0:(0:Int)<s.length
 ·have h0':0<s.length:=by omega
  cases h1:((((⟨s.toArray⟩:ByteArray)[0]'h0').toNat:Int) == 45) with
  | true =>
   have hf:cutF s=1:=by rw [zoh h0',h1];rfl
   have hcn:=zqq hf
   go_enter Tryz.func72,Tryz.ntmps72
   go_wp2_with fail
   go_loopw [5,6] (fun x y W=>∃k A n c u,cutF s≤k∧k≤s.length∧x=.slice A n c∧y=.int .i64 (k:Nat)∧S1 w false none 0 0 W∧Hid (RpI W s A n c u k)) (fun _ y _=>s.length - (intOf y).toNat)
   case atStart=>exact ⟨1,none,0,0,0,by omega,by omega,rfl,rfl,s0,Lib.hid ⟨by rw [zo];exact Sl.none_,by unfold big;exact Nat.pos_of_ne_zero (by simp),by rw [hf];rfl,by rw [hf];intro b hb;simp at hb⟩⟩
   case round =>
    obtain ⟨k,A,n,c,u,hk1,hk2,rfl,rfl,sr,hI⟩:=hrel
    clear s0
    have hn64:=za7 hI.out.1 hI.out.2.1
    by_cases hlt:(k:Int)<s.length
    ·have hkl:k<s.length:=by omega
     have hkk:k<(⟨s.toArray⟩:ByteArray).size:=hkl
     by_cases hb:48≤s[k].toNat∧s[k].toNat≤57
     ·obtain ⟨d,hd⟩:∃d,s[k].toNat=48+d:=⟨s[k].toNat - 48,by omega⟩
      have hdd:d<10:=by omega
      have e4:(((⟨s.toArray⟩:ByteArray)[k]'hkk).toNat:Int)=48+(d:Int):=by rw [show ((⟨s.toArray⟩:ByteArray)[k]'hkk)=s[k] from rfl,hd];omega
      go_upto_region 10 with fail
      have TI:=Lib.hid (fun (W:World) (A2:Option Addr) (n2 c2:Nat) (hm:S1 w false none 0 0 W∧Sl W W.heap.size A n c (digs u)) (hs:Sl W W.heap.size A2 n2 c2 [10])=>(by
       have:=zcX A A2 n c n2 c2 W.heap.size (digs u) [10] W hm.2 hs (Nat.le_refl _) (by omega) (by have:=hs.len;simp at this;omega)
       rwa [zh,show nval [10]=10 from rfl] at this:Calls Tryz.prog 89 #[.slice A n c,.slice A2 n2 c2] W (RetD (u*10) W)))
      have hub:=Lib.hid hI.out.2.1
      have PL:=Lib.hid (fun (W:World) (A1 A2:Option Addr) (n1 c1 n2 c2:Nat) (hs1:Sl W W.heap.size A1 n1 c1 (digs (u*10))) (hs:Sl W W.heap.size A2 n2 c2 [d])=>(by
       have h4:=zg2 hub.out
       rw [hs1.len] at h4
       have:=zct A1 A2 n1 c1 n2 c2 W.heap.size (digs (u*10)) [d] W hs1 hs (Nat.le_refl _) h4 (by have:=hs.len;simp at this;omega)
       rwa [zh,show nval [d]=d by simp [nval]] at this:Calls Tryz.prog 90 #[.slice A1 n1 c1,.slice A2 n2 c2] W (RetD (u*10+d) W)))
      refine zf7 (fun W=>S1 w false none 0 0 W∧Sl W W.heap.size A n c (digs u)) _ _ _ A n c u s k d rfl (by kernel_rfl) (by simp) ⟨sr.drew,hI.out.1.via (Below.refl _ _).drew⟩ (fun W W1 h hb=>⟨h.1.via hb,h.2.via hb⟩)
       hdd rfl rfl rfl hlt (fun h=>by rw [hd];omega) TI.out PL.out
       rfl rfl rfl rfl rfl rfl rfl rfl rfl rfl rfl
       (by kernel_rfl) (by kernel_rfl) (by kernel_rfl) (by kernel_rfl) (by kernel_rfl) (by kernel_rfl) (by kernel_rfl) (by kernel_rfl) (by kernel_rfl) (by kernel_rfl) (by kernel_rfl) ?_
      rintro f W9 ⟨sr2,_⟩ ⟨A5,n5,c5,e5,hs5⟩
      simp only [zhh,zkB,e5]
      clear e5 TI PL
      simp only [List.setIfInBounds_toArray,List.set_cons_zero,List.set_cons_succ]
      obtain ⟨r0,r1⟩:=sr2.facts
      obtain ⟨rf,rz⟩:=sr2.frz
      have hud:u*10+d=dval ((cutR s).take (k+1 - cutF s)):=by
       rw [zjg hkl hk1,zfB,← hI.out.2.2.1,hd];omega
      by_cases h64:(64:Int)<n5
      ·have hp:Hid (zk s=none):=Lib.hid (zml hud (fun h=>by have:=za7 hs5 h;omega))
       clear hud hI hub
       go_wp2_with fail
       rw [hp.out]
       obtain ⟨q0,q1⟩:=zL (.bool false) (.slice none 0 0) r0 r1
       refine bodyPost_ret (v:=.tuple #[.agg #[.bool false,.slice none 0 0],.bool false]) ?_ rfl ⟨_,_,_,rfl,by rw [show digs (vO none).natAbs=[] from zo];exact Sl.none_,?_⟩
       ·simp [results,Tryz.f72,go_sem,q0,q1]
       ·exact (sr2.below.setCell (by simp) _).setCell (by simp) _
      ·have hI2:Hid (RpI W9 s A5 n5 c5 (u*10+d) (k+1)):=Lib.hid ⟨hs5,(zav _).1 (by rw [hs5.len];omega),hud,by
        rw [zjg hkl hk1,zbe]
        exact ⟨hI.out.2.2.2,fun b hb2=>by rw [List.mem_singleton.1 hb2];exact hb⟩⟩
       clear hud hI hub hs5
       go_wp2_with fail
       refine ⟨⟨k+1,A5,n5,c5,u*10+d,by omega,by omega,rfl,rfl,sr2,hI2⟩,?_⟩
       simp only [intOf]
       omega
     ·have hp:Hid (zk s=none):=Lib.hid (zs9 hkl hk1 hb)
      obtain ⟨b,hd⟩:∃b,s[k].toNat=b:=⟨_,rfl⟩
      have e4:(((⟨s.toArray⟩:ByteArray)[k]'hkk).toNat:Int)=(b:Int):=by rw [show ((⟨s.toArray⟩:ByteArray)[k]'hkk)=s[k] from rfl,hd]
      rw [hd] at hb
      obtain ⟨r0,r1⟩:=sr.facts
      obtain ⟨rf,rz⟩:=sr.frz
      clear hI hd
      by_cases hb2:(b:Int)<48
      ·clear hb
       go_wp2_with fail
       rw [hp.out]
       obtain ⟨q0,q1⟩:=zL (.bool false) (.slice none 0 0) r0 r1
       refine bodyPost_ret (v:=.tuple #[.agg #[.bool false,.slice none 0 0],.bool false]) ?_ rfl ⟨_,_,_,rfl,by rw [show digs (vO none).natAbs=[] from zo];exact Sl.none_,?_⟩
       ·simp [results,Tryz.f72,go_sem,q0,q1]
       ·exact (sr.below.setCell (by simp) _).setCell (by simp) _
      ·have hb3:(57:Int)<b:=by omega
       clear hb
       go_wp2_with fail
       rw [hp.out]
       obtain ⟨q0,q1⟩:=zL (.bool false) (.slice none 0 0) r0 r1
       refine bodyPost_ret (v:=.tuple #[.agg #[.bool false,.slice none 0 0],.bool false]) ?_ rfl ⟨_,_,_,rfl,by rw [show digs (vO none).natAbs=[] from zo];exact Sl.none_,?_⟩
       ·simp [results,Tryz.f72,go_sem,q0,q1]
       ·exact (sr.below.setCell (by simp) _).setCell (by simp) _
    ·have hval:=zpF (s:=s) (k:=k) (by omega) hI.out.2.2.1
     rw [hcn] at hval
     obtain ⟨x,hx⟩:∃x,sgn true u=x:=⟨_,rfl⟩
     have hxb:x.natAbs<big:=by rw [← hx,qN];exact hI.out.2.1
     have SG:Hid (Calls Tryz.prog 76 #[.bool true,.slice A n c] wr (RetN (some x) wr)):=by
      have:=qx A n c wr.heap.size u true (digs u) wr hI.out.1 (Nat.le_refl _) (zh u)
      rw [hx,show fitO x=some x by unfold fitO;rw [if_pos hxb]] at this
      exact Lib.hid this
     have hps:Hid (zk s=if Lib.itoa x=s then some x else none):=Lib.hid (by
      unfold zk
      rw [hval,hx]
      by_cases h:Lib.itoa x=s
      ·rw [if_pos ⟨h,hxb⟩,if_pos h]
      ·rw [if_neg (fun h2=>h h2.1),if_neg h])
     have hrd:=Lib.hid (zca hxb)
     have TX:=Lib.hid (fun (W:World) (A:Option Addr) (n c:Nat) (hs:Sl W W.heap.size A n c (digs x.natAbs))=>zcu (decide (x<0)) hs (Nat.le_refl _))
     rw [hrd.out] at TX
     clear hval hx hxb hI
     by_cases heq:Lib.itoa x=s
     ·rw [heq] at TX
      go_wp2_with (first
       | (go_at_call 76;(with_reducible refine (SG.out).mono ?_);rintro e w2 hr;obtain ⟨A6,n6,c6,rfl,hs6,hb6⟩:=zax hr;have s6:=sr.via hb6;have s7:=s6.via ((Below.refl _ _).alloc (Nat.le_refl _) (.cells #[.bool (decide (x<0)),.slice A6 n6 c6] 26));obtain ⟨r0,r1⟩:=s7.facts;obtain ⟨rf,rz⟩:=s7.frz)
       | (go_at_call 71;(with_reducible refine (TX.out _ _ _ _ (hs6.alloc_ _)).mono ?_);rintro e w3 ⟨rfl,hb7⟩;have s8:=s7.via hb7;obtain ⟨g0,g1⟩:=bcell hb7;clear r0 r1 rf rz;obtain ⟨r0,r1⟩:=s8.facts;obtain ⟨rf,rz⟩:=s8.frz)
       | fail "no arm")
      rw [hps.out,if_pos heq]
      obtain ⟨q0,q1⟩:=zL (.bool (decide (x<0))) (.slice A6 n6 c6) r0 r1
      refine bodyPost_ret (v:=.tuple #[.agg #[.bool (decide (x<0)),.slice A6 n6 c6],.bool true]) ?_ rfl ⟨A6,n6,c6,rfl,?_,?_⟩
      ·simp [results,Tryz.f72,go_sem,q0,q1]
      ·exact (((hs6.alloc_ _).below hb7).more hb7.size).stored r0 r1 _ _
      ·exact (s8.below.setCell (by simp) _).setCell (by simp) _
     ·have hbq:(Lib.itoa x == s)=false:=by simp [heq]
      go_wp2_with (first
       | (go_at_call 76;(with_reducible refine (SG.out).mono ?_);rintro e w2 hr;obtain ⟨A6,n6,c6,rfl,hs6,hb6⟩:=zax hr;have s6:=sr.via hb6;have s7:=s6.via ((Below.refl _ _).alloc (Nat.le_refl _) (.cells #[.bool (decide (x<0)),.slice A6 n6 c6] 26));obtain ⟨r0,r1⟩:=s7.facts;obtain ⟨rf,rz⟩:=s7.frz)
       | (go_at_call 71;(with_reducible refine (TX.out _ _ _ _ (hs6.alloc_ _)).mono ?_);rintro e w3 ⟨rfl,hb7⟩;have s8:=s7.via hb7;obtain ⟨g0,g1⟩:=bcell hb7;clear r0 r1 rf rz;obtain ⟨r0,r1⟩:=s8.facts;obtain ⟨rf,rz⟩:=s8.frz)
       | fail "no arm")
      rw [hps.out,if_neg heq]
      obtain ⟨q0,q1⟩:=zL (.bool false) (.slice none 0 0) r0 r1
      refine bodyPost_ret (v:=.tuple #[.agg #[.bool false,.slice none 0 0],.bool false]) ?_ rfl ⟨_,_,_,rfl,by rw [show digs (vO none).natAbs=[] from zo];exact Sl.none_,?_⟩
      ·simp [results,Tryz.f72,go_sem,q0,q1]
      ·exact (s8.below.setCell (by simp) _).setCell (by simp) _
  | false =>
   have hf:cutF s=0:=by rw [zoh h0',h1];rfl
   have hcn:=zjx hf
   go_enter Tryz.func72,Tryz.ntmps72
   go_wp2_with fail
   go_loopw [5,6] (fun x y W=>∃k A n c u,cutF s≤k∧k≤s.length∧x=.slice A n c∧y=.int .i64 (k:Nat)∧S1 w false none 0 0 W∧Hid (RpI W s A n c u k)) (fun _ y _=>s.length - (intOf y).toNat)
   case atStart=>exact ⟨0,none,0,0,0,by omega,by omega,rfl,rfl,s0,Lib.hid ⟨by rw [zo];exact Sl.none_,by unfold big;exact Nat.pos_of_ne_zero (by simp),by rw [hf];rfl,by rw [hf];intro b hb;simp at hb⟩⟩
   case round =>
    obtain ⟨k,A,n,c,u,hk1,hk2,rfl,rfl,sr,hI⟩:=hrel
    clear s0
    have hn64:=za7 hI.out.1 hI.out.2.1
    by_cases hlt:(k:Int)<s.length
    ·have hkl:k<s.length:=by omega
     have hkk:k<(⟨s.toArray⟩:ByteArray).size:=hkl
     by_cases hb:48≤s[k].toNat∧s[k].toNat≤57
     ·obtain ⟨d,hd⟩:∃d,s[k].toNat=48+d:=⟨s[k].toNat - 48,by omega⟩
      have hdd:d<10:=by omega
      have e4:(((⟨s.toArray⟩:ByteArray)[k]'hkk).toNat:Int)=48+(d:Int):=by rw [show ((⟨s.toArray⟩:ByteArray)[k]'hkk)=s[k] from rfl,hd];omega
      go_upto_region 10 with fail
      have TI:=Lib.hid (fun (W:World) (A2:Option Addr) (n2 c2:Nat) (hm:S1 w false none 0 0 W∧Sl W W.heap.size A n c (digs u)) (hs:Sl W W.heap.size A2 n2 c2 [10])=>(by
       have:=zcX A A2 n c n2 c2 W.heap.size (digs u) [10] W hm.2 hs (Nat.le_refl _) (by omega) (by have:=hs.len;simp at this;omega)
       rwa [zh,show nval [10]=10 from rfl] at this:Calls Tryz.prog 89 #[.slice A n c,.slice A2 n2 c2] W (RetD (u*10) W)))
      have hub:=Lib.hid hI.out.2.1
      have PL:=Lib.hid (fun (W:World) (A1 A2:Option Addr) (n1 c1 n2 c2:Nat) (hs1:Sl W W.heap.size A1 n1 c1 (digs (u*10))) (hs:Sl W W.heap.size A2 n2 c2 [d])=>(by
       have h4:=zg2 hub.out
       rw [hs1.len] at h4
       have:=zct A1 A2 n1 c1 n2 c2 W.heap.size (digs (u*10)) [d] W hs1 hs (Nat.le_refl _) h4 (by have:=hs.len;simp at this;omega)
       rwa [zh,show nval [d]=d by simp [nval]] at this:Calls Tryz.prog 90 #[.slice A1 n1 c1,.slice A2 n2 c2] W (RetD (u*10+d) W)))
      refine zf7 (fun W=>S1 w false none 0 0 W∧Sl W W.heap.size A n c (digs u)) _ _ _ A n c u s k d rfl (by kernel_rfl) (by simp) ⟨sr.drew,hI.out.1.via (Below.refl _ _).drew⟩ (fun W W1 h hb=>⟨h.1.via hb,h.2.via hb⟩)
       hdd rfl rfl rfl hlt (fun h=>by rw [hd];omega) TI.out PL.out
       rfl rfl rfl rfl rfl rfl rfl rfl rfl rfl rfl
       (by kernel_rfl) (by kernel_rfl) (by kernel_rfl) (by kernel_rfl) (by kernel_rfl) (by kernel_rfl) (by kernel_rfl) (by kernel_rfl) (by kernel_rfl) (by kernel_rfl) (by kernel_rfl) ?_
      rintro f W9 ⟨sr2,_⟩ ⟨A5,n5,c5,e5,hs5⟩
      simp only [zhh,zkB,e5]
      clear e5 TI PL
      simp only [List.setIfInBounds_toArray,List.set_cons_zero,List.set_cons_succ]
      obtain ⟨r0,r1⟩:=sr2.facts
      obtain ⟨rf,rz⟩:=sr2.frz
      have hud:u*10+d=dval ((cutR s).take (k+1 - cutF s)):=by
       rw [zjg hkl hk1,zfB,← hI.out.2.2.1,hd];omega
      by_cases h64:(64:Int)<n5
      ·have hp:Hid (zk s=none):=Lib.hid (zml hud (fun h=>by have:=za7 hs5 h;omega))
       clear hud hI hub
       go_wp2_with fail
       rw [hp.out]
       obtain ⟨q0,q1⟩:=zL (.bool false) (.slice none 0 0) r0 r1
       refine bodyPost_ret (v:=.tuple #[.agg #[.bool false,.slice none 0 0],.bool false]) ?_ rfl ⟨_,_,_,rfl,by rw [show digs (vO none).natAbs=[] from zo];exact Sl.none_,?_⟩
       ·simp [results,Tryz.f72,go_sem,q0,q1]
       ·exact (sr2.below.setCell (by simp) _).setCell (by simp) _
      ·have hI2:Hid (RpI W9 s A5 n5 c5 (u*10+d) (k+1)):=Lib.hid ⟨hs5,(zav _).1 (by rw [hs5.len];omega),hud,by
        rw [zjg hkl hk1,zbe]
        exact ⟨hI.out.2.2.2,fun b hb2=>by rw [List.mem_singleton.1 hb2];exact hb⟩⟩
       clear hud hI hub hs5
       go_wp2_with fail
       refine ⟨⟨k+1,A5,n5,c5,u*10+d,by omega,by omega,rfl,rfl,sr2,hI2⟩,?_⟩
       simp only [intOf]
       omega
     ·have hp:Hid (zk s=none):=Lib.hid (zs9 hkl hk1 hb)
      obtain ⟨b,hd⟩:∃b,s[k].toNat=b:=⟨_,rfl⟩
      have e4:(((⟨s.toArray⟩:ByteArray)[k]'hkk).toNat:Int)=(b:Int):=by rw [show ((⟨s.toArray⟩:ByteArray)[k]'hkk)=s[k] from rfl,hd]
      rw [hd] at hb
      obtain ⟨r0,r1⟩:=sr.facts
      obtain ⟨rf,rz⟩:=sr.frz
      clear hI hd
      by_cases hb2:(b:Int)<48
      ·clear hb
       go_wp2_with fail
       rw [hp.out]
       obtain ⟨q0,q1⟩:=zL (.bool false) (.slice none 0 0) r0 r1
       refine bodyPost_ret (v:=.tuple #[.agg #[.bool false,.slice none 0 0],.bool false]) ?_ rfl ⟨_,_,_,rfl,by rw [show digs (vO none).natAbs=[] from zo];exact Sl.none_,?_⟩
       ·simp [results,Tryz.f72,go_sem,q0,q1]
       ·exact (sr.below.setCell (by simp) _).setCell (by simp) _
      ·have hb3:(57:Int)<b:=by omega
       clear hb
       go_wp2_with fail
       rw [hp.out]
       obtain ⟨q0,q1⟩:=zL (.bool false) (.slice none 0 0) r0 r1
       refine bodyPost_ret (v:=.tuple #[.agg #[.bool false,.slice none 0 0],.bool false]) ?_ rfl ⟨_,_,_,rfl,by rw [show digs (vO none).natAbs=[] from zo];exact Sl.none_,?_⟩
       ·simp [results,Tryz.f72,go_sem,q0,q1]
       ·exact (sr.below.setCell (by simp) _).setCell (by simp) _
    ·have hval:=zpF (s:=s) (k:=k) (by omega) hI.out.2.2.1
     rw [hcn] at hval
     obtain ⟨x,hx⟩:∃x,sgn false u=x:=⟨_,rfl⟩
     have hxb:x.natAbs<big:=by rw [← hx,qN];exact hI.out.2.1
     have SG:Hid (Calls Tryz.prog 76 #[.bool false,.slice A n c] wr (RetN (some x) wr)):=by
      have:=qx A n c wr.heap.size u false (digs u) wr hI.out.1 (Nat.le_refl _) (zh u)
      rw [hx,show fitO x=some x by unfold fitO;rw [if_pos hxb]] at this
      exact Lib.hid this
     have hps:Hid (zk s=if Lib.itoa x=s then some x else none):=Lib.hid (by
      unfold zk
      rw [hval,hx]
      by_cases h:Lib.itoa x=s
      ·rw [if_pos ⟨h,hxb⟩,if_pos h]
      ·rw [if_neg (fun h2=>h h2.1),if_neg h])
     have hrd:=Lib.hid (zca hxb)
     have TX:=Lib.hid (fun (W:World) (A:Option Addr) (n c:Nat) (hs:Sl W W.heap.size A n c (digs x.natAbs))=>zcu (decide (x<0)) hs (Nat.le_refl _))
     rw [hrd.out] at TX
     clear hval hx hxb hI
     by_cases heq:Lib.itoa x=s
     ·rw [heq] at TX
      go_wp2_with (first
       | (go_at_call 76;(with_reducible refine (SG.out).mono ?_);rintro e w2 hr;obtain ⟨A6,n6,c6,rfl,hs6,hb6⟩:=zax hr;have s6:=sr.via hb6;have s7:=s6.via ((Below.refl _ _).alloc (Nat.le_refl _) (.cells #[.bool (decide (x<0)),.slice A6 n6 c6] 26));obtain ⟨r0,r1⟩:=s7.facts;obtain ⟨rf,rz⟩:=s7.frz)
       | (go_at_call 71;(with_reducible refine (TX.out _ _ _ _ (hs6.alloc_ _)).mono ?_);rintro e w3 ⟨rfl,hb7⟩;have s8:=s7.via hb7;obtain ⟨g0,g1⟩:=bcell hb7;clear r0 r1 rf rz;obtain ⟨r0,r1⟩:=s8.facts;obtain ⟨rf,rz⟩:=s8.frz)
       | fail "no arm")
      rw [hps.out,if_pos heq]
      obtain ⟨q0,q1⟩:=zL (.bool (decide (x<0))) (.slice A6 n6 c6) r0 r1
      refine bodyPost_ret (v:=.tuple #[.agg #[.bool (decide (x<0)),.slice A6 n6 c6],.bool true]) ?_ rfl ⟨A6,n6,c6,rfl,?_,?_⟩
      ·simp [results,Tryz.f72,go_sem,q0,q1]
      ·exact (((hs6.alloc_ _).below hb7).more hb7.size).stored r0 r1 _ _
      ·exact (s8.below.setCell (by simp) _).setCell (by simp) _
     ·have hbq:(Lib.itoa x == s)=false:=by simp [heq]
      go_wp2_with (first
       | (go_at_call 76;(with_reducible refine (SG.out).mono ?_);rintro e w2 hr;obtain ⟨A6,n6,c6,rfl,hs6,hb6⟩:=zax hr;have s6:=sr.via hb6;have s7:=s6.via ((Below.refl _ _).alloc (Nat.le_refl _) (.cells #[.bool (decide (x<0)),.slice A6 n6 c6] 26));obtain ⟨r0,r1⟩:=s7.facts;obtain ⟨rf,rz⟩:=s7.frz)
       | (go_at_call 71;(with_reducible refine (TX.out _ _ _ _ (hs6.alloc_ _)).mono ?_);rintro e w3 ⟨rfl,hb7⟩;have s8:=s7.via hb7;obtain ⟨g0,g1⟩:=bcell hb7;clear r0 r1 rf rz;obtain ⟨r0,r1⟩:=s8.facts;obtain ⟨rf,rz⟩:=s8.frz)
       | fail "no arm")
      rw [hps.out,if_neg heq]
      obtain ⟨q0,q1⟩:=zL (.bool false) (.slice none 0 0) r0 r1
      refine bodyPost_ret (v:=.tuple #[.agg #[.bool false,.slice none 0 0],.bool false]) ?_ rfl ⟨_,_,_,rfl,by rw [show digs (vO none).natAbs=[] from zo];exact Sl.none_,?_⟩
      ·simp [results,Tryz.f72,go_sem,q0,q1]
      ·exact (s8.below.setCell (by simp) _).setCell (by simp) _
 ·have hf:cutF s=0:=zqp (by omega)
  have hcn:=zjx hf
  go_enter Tryz.func72,Tryz.ntmps72
  go_wp2_with fail
  go_loopw [5,6] (fun x y W=>∃k A n c u,cutF s≤k∧k≤s.length∧x=.slice A n c∧y=.int .i64 (k:Nat)∧S1 w false none 0 0 W∧Hid (RpI W s A n c u k)) (fun _ y _=>s.length - (intOf y).toNat)
  case atStart=>exact ⟨0,none,0,0,0,by omega,by omega,rfl,rfl,s0,Lib.hid ⟨by rw [zo];exact Sl.none_,by unfold big;exact Nat.pos_of_ne_zero (by simp),by rw [hf];rfl,by rw [hf];intro b hb;simp at hb⟩⟩
  case round =>
   obtain ⟨k,A,n,c,u,hk1,hk2,rfl,rfl,sr,hI⟩:=hrel
   clear s0
   have hn64:=za7 hI.out.1 hI.out.2.1
   by_cases hlt:(k:Int)<s.length
   ·exfalso;omega
   ·have hval:=zpF (s:=s) (k:=k) (by omega) hI.out.2.2.1
    rw [hcn] at hval
    obtain ⟨x,hx⟩:∃x,sgn false u=x:=⟨_,rfl⟩
    have hxb:x.natAbs<big:=by rw [← hx,qN];exact hI.out.2.1
    have SG:Hid (Calls Tryz.prog 76 #[.bool false,.slice A n c] wr (RetN (some x) wr)):=by
     have:=qx A n c wr.heap.size u false (digs u) wr hI.out.1 (Nat.le_refl _) (zh u)
     rw [hx,show fitO x=some x by unfold fitO;rw [if_pos hxb]] at this
     exact Lib.hid this
    have hps:Hid (zk s=if Lib.itoa x=s then some x else none):=Lib.hid (by
     unfold zk
     rw [hval,hx]
     by_cases h:Lib.itoa x=s
     ·rw [if_pos ⟨h,hxb⟩,if_pos h]
     ·rw [if_neg (fun h2=>h h2.1),if_neg h])
    have hrd:=Lib.hid (zca hxb)
    have TX:=Lib.hid (fun (W:World) (A:Option Addr) (n c:Nat) (hs:Sl W W.heap.size A n c (digs x.natAbs))=>zcu (decide (x<0)) hs (Nat.le_refl _))
    rw [hrd.out] at TX
    clear hval hx hxb hI
    by_cases heq:Lib.itoa x=s
    ·rw [heq] at TX
     go_wp2_with (first
      | (go_at_call 76;(with_reducible refine (SG.out).mono ?_);rintro e w2 hr;obtain ⟨A6,n6,c6,rfl,hs6,hb6⟩:=zax hr;have s6:=sr.via hb6;have s7:=s6.via ((Below.refl _ _).alloc (Nat.le_refl _) (.cells #[.bool (decide (x<0)),.slice A6 n6 c6] 26));obtain ⟨r0,r1⟩:=s7.facts;obtain ⟨rf,rz⟩:=s7.frz)
      | (go_at_call 71;(with_reducible refine (TX.out _ _ _ _ (hs6.alloc_ _)).mono ?_);rintro e w3 ⟨rfl,hb7⟩;have s8:=s7.via hb7;obtain ⟨g0,g1⟩:=bcell hb7;clear r0 r1 rf rz;obtain ⟨r0,r1⟩:=s8.facts;obtain ⟨rf,rz⟩:=s8.frz)
      | fail "no arm")
     rw [hps.out,if_pos heq]
     obtain ⟨q0,q1⟩:=zL (.bool (decide (x<0))) (.slice A6 n6 c6) r0 r1
     refine bodyPost_ret (v:=.tuple #[.agg #[.bool (decide (x<0)),.slice A6 n6 c6],.bool true]) ?_ rfl ⟨A6,n6,c6,rfl,?_,?_⟩
     ·simp [results,Tryz.f72,go_sem,q0,q1]
     ·exact (((hs6.alloc_ _).below hb7).more hb7.size).stored r0 r1 _ _
     ·exact (s8.below.setCell (by simp) _).setCell (by simp) _
    ·have hbq:(Lib.itoa x == s)=false:=by simp [heq]
     go_wp2_with (first
      | (go_at_call 76;(with_reducible refine (SG.out).mono ?_);rintro e w2 hr;obtain ⟨A6,n6,c6,rfl,hs6,hb6⟩:=zax hr;have s6:=sr.via hb6;have s7:=s6.via ((Below.refl _ _).alloc (Nat.le_refl _) (.cells #[.bool (decide (x<0)),.slice A6 n6 c6] 26));obtain ⟨r0,r1⟩:=s7.facts;obtain ⟨rf,rz⟩:=s7.frz)
      | (go_at_call 71;(with_reducible refine (TX.out _ _ _ _ (hs6.alloc_ _)).mono ?_);rintro e w3 ⟨rfl,hb7⟩;have s8:=s7.via hb7;obtain ⟨g0,g1⟩:=bcell hb7;clear r0 r1 rf rz;obtain ⟨r0,r1⟩:=s8.facts;obtain ⟨rf,rz⟩:=s8.frz)
      | fail "no arm")
     rw [hps.out,if_neg heq]
     obtain ⟨q0,q1⟩:=zL (.bool false) (.slice none 0 0) r0 r1
     refine bodyPost_ret (v:=.tuple #[.agg #[.bool false,.slice none 0 0],.bool false]) ?_ rfl ⟨_,_,_,rfl,by rw [show digs (vO none).natAbs=[] from zo];exact Sl.none_,?_⟩
     ·simp [results,Tryz.f72,go_sem,q0,q1]
     ·exact (s8.below.setCell (by simp) _).setCell (by simp) _
end Go.Proofs.YtccjiodohphgnaaGreatDoor
namespace Go.Proofs.YtccjiodohphgnaaGreatDoor
open Go.RowKit Go.Shelf
theorem zmH {v:Nat} (h:v≠0):0<(dd v).length:=by rw [zeJ h];simp
theorem zsU:∀v:Nat,v≠0→10 ^ ((dd v).length - 1)≤v:=by
 intro v
 induction v using Nat.strongRecOn with
 | _ v ih =>
  intro h
  rw [zeJ h,List.length_append,List.length_singleton,Nat.add_sub_cancel]
  by_cases h2:v<10
  ·rw [show v / 10=0 by omega,zbZ];simp;omega
  ·have h3:v / 10≠0:=by omega
   have h4:=ih (v / 10) (by omega) h3
   have h5:=zmH h3
   rw [show (dd (v / 10)).length=((dd (v / 10)).length - 1)+1 by omega,Nat.pow_succ]
   omega
theorem zmI {v:Nat} (h:v<big):(Lib.decDigits v).length≤641:=by
 by_cases h0:v=0
 ·subst h0;rw [zbN];simp
 ·rw [zcJ v h0]
  have h1:=zsU v h0
  have h2:=Nat.lt_of_le_of_lt h1 (Nat.lt_trans h zkS)
  have:=(Nat.pow_lt_pow_iff_right (a:=10) (by decide)).1 h2
  omega
theorem zab {neg:Bool} {l:List Nat} (hd:Dig l):(textS neg l).length≤642:=by
 unfold textS
 split
 ·rename_i h
  have h1:=zr h hd
  have hb:nval l<big:=(zX h1.1).1 h1.2.1
  have h2:=zmI hb
  cases neg
  ·rw [show sgn false (nval l)=(nval l:Int) from rfl,Lib.itoa,if_neg (by omega),Int.toNat_natCast];omega
  ·by_cases h0:nval l=0
   ·rw [h0,show sgn true 0=0 from rfl,Lib.itoa,if_neg (by omega),show (0:Int).toNat=0 from rfl,zbN];simp
   ·rw [show sgn true (nval l)=-(nval l:Int) from rfl,Lib.itoa,if_pos (by omega),Int.natAbs_neg,Int.natAbs_natCast,List.length_cons];omega
 ·simp
section
variable {K:Kit} {P:Program} {f:FuncId} {res:PSh}
theorem zs5 {l:List Nat} {v:Value} {W:World} {D:Dat} (h:pD l v W D):Dig l:=by obtain ⟨_,_,_,_,hs⟩:=h;exact hs.dig
theorem zg7 {x:RR} {v:Value} {W:World} {D:Dat} (h:(gR x).ok v W D):Dig x.1.2∧Dig x.2.2:=by
 obtain ⟨vs,_,h1⟩:=h
 match vs.toList,h1 with
 | [a,b,c,d],⟨_,h2,_,h4,_⟩=>exact ⟨zs5 h2,zs5 h4⟩
 | [],h=>exact h.elim
 | [_],h=>exact h.2.elim
 | [_,_],h=>exact h.2.2.elim
 | [_,_,_],h=>exact h.2.2.2.elim
 | _::_::_::_::_::_,h=>exact h.2.2.2.2.elim
theorem zma {x:RR} {r:List PSh} (h:Dig x.1.2→Dig x.2.2→Fun K P f (gR x::r) res):Fun K P f (gR x::r) res:=by
 intro W D vs hs hf
 match vs,hs with
 | v::us,hs=>exact h (zg7 hs.1).1 (zg7 hs.1).2 W D (v::us) hs hf
 | [],h=>exact h.elim
theorem zqG {x y:RR} (h:Dig x.1.2→Dig x.2.2→Dig y.1.2→Dig y.2.2→Fun K P f [gR x,gR y] res):Fun K P f [gR x,gR y] res:=by
 intro W D vs hs hf
 match vs,hs with
 | [v,u],hs=>exact h (zg7 hs.1).1 (zg7 hs.1).2 (zg7 hs.2.1).1 (zg7 hs.2.1).2 W D [v,u] hs hf
 | [],h=>exact h.elim
 | [_],h=>exact h.2.elim
 | _::_::_::_,h=>exact h.2.2.elim
end
theorem oka1 {p:PSh} {vs:List Value} {W:World} {D:Dat} (h:oka [p] vs W D):∃v,vs=[v]∧p.ok v W D:=by
 match vs,h with
 | [v],h=>exact ⟨v,rfl,h.1⟩
 | [],h=>exact h.elim
 | _::_::_,h=>exact h.2.elim
theorem gN_ok {x:Raw} {v:Value} {W:World} {D:Dat} (h:(gN x).ok v W D):∃A n c,v=.agg #[.bool x.1,.slice A n c]∧Sl W W.heap.size A n c x.2:=by
 obtain ⟨vs,rfl,h1⟩:=h
 match hv:vs.toList,h1 with
 | [a,b],⟨h1,h2,_⟩ =>
  obtain ⟨A,n,c,e,hs⟩:=h2
  have e1:a=.bool x.1:=h1
  exact ⟨A,n,c,by rw [← Array.toArray_toList (xs:=vs),hv,e1,e],hs⟩
 | [],h=>exact h.elim
 | [_],h=>exact h.2.elim
 | _::_::_::_,h=>exact h.2.2.elim
theorem Kept.of {K:Kit} {W W':World} {D:Dat} (hf:Fit K W D) (h:Below W.heap.size W W'):Kept W D W' D:=⟨h,fun _ h=>h,fun _ h=>.inl h,fun q hq=>Nat.lt_of_lt_of_le (hf.dlt q hq) h.size⟩
theorem zfE {w0:World} (x:Raw) (t:List UInt8) (ht:textS x.1 x.2=t):Fun (KN w0) Tryz.prog 71 [gN x] (.o (.c (pS t))):=by
 subst ht
 intro W D vs hs hf
 obtain ⟨v,rfl,hv⟩:=oka1 hs
 obtain ⟨A,n,c,rfl,h2⟩:=gN_ok hv
 refine (zcu _ h2 (Nat.le_refl _)).mono fun e W' hr=>?_
 obtain ⟨rfl,hb⟩:=hr
 exact ⟨_,D,rfl,rfl,Kept.of hf hb⟩
theorem qz {w0:World} (s:List UInt8) (r:Raw) (o:Bool) (hr:nz (vO (zk s))=r) (ho:okO (zk s)=o) (hl:s.length≤1000):Fun (KN w0) Tryz.prog 72 [.o (.c (pS s))] (.t [.g (cN r),.c (pB o)]):=by
 subst hr;subst ho
 intro W D vs hs hf
 obtain ⟨v,rfl,hv⟩:=oka1 hs
 have e:v=.string (bs s):=hv
 subst e
 refine (zkJ s W hl).mono fun e W' hr=>?_
 obtain ⟨A,n,c,rfl,h1,hb⟩:=hr
 exact ⟨_,D,rfl,⟨_,rfl,⟨_,rfl,rfl,⟨A,n,c,rfl,h1⟩,trivial⟩,rfl,trivial⟩,Kept.of hf hb⟩
end Go.Proofs.YtccjiodohphgnaaGreatDoor
namespace Go.Proofs.YtccjiodohphgnaaGreatDoor
open Go.RowKit Go.Shelf
theorem zaN {p:Pred} {v:Value} {W:World} {D:Dat} (h:(PSh.t [.g [pV (.bool false),pV (.slice none 0 0),pV (.bool false),pV (.slice none 0 0)],.c p]).ok v W D):(PSh.t [.g (cN (rq none).1++cN (rq none).2),.c p]).ok v W D:=by
 obtain ⟨vs,e,h1⟩:=h
 refine ⟨vs,e,?_⟩
 match vs.toList,h1 with
 | [a,b],⟨h1,h2,_⟩=>exact ⟨zga h1,h2,trivial⟩
 | [],h=>exact h.elim
 | [_],h=>exact h.2.elim
 | _::_::_::_,h=>exact h.2.2.elim
def textR (x:RR):List UInt8:=if rrX x.1 x.2=true then (if cmpX x.2 (nz 1)=0 then textS x.1.1 x.1.2 else textS x.1.1 x.1.2++[47]++textS x.2.1 x.2.2) else []
theorem zmR {w0:World} (x:RR) (hT:∀W,Below w0.heap.size w0 W→PowT w0.heap.size W) (v1:Bool) (v2:Bool) (e1:(rrX x.1 x.2)=v1) (e2:(!v1)=v2) (h3:v2=true):Fun (KN w0) Tryz.prog 27 [.o (.g [pB x.1.1,pD x.1.2,pB x.2.1,pD x.2.2])] (.o (.c (pV (.string ⟨#[]⟩)))):=
 zi (zl (F:=FL [pB x.1.1,pD x.1.2,pB x.2.1,pD x.2.2,pB v1,pB v2] []) (C:=[(1000003,.call ⟨43,[.o (.g [.h 0,.h 1,.h 2,.h 3])],[],.o (.c (.h 4)),[]⟩),
  (1000004,.un .not (LF (.h 4)) (LF (.h 5))),
  (10005,.fb 5 true)]) (k:=⟨27,[.o (.g [.h 0,.h 1,.h 2,.h 3])],[],.o (.c (.k (.string ⟨#[]⟩))),[]⟩) 0 (zm ⟨za rfl,ze,za rfl,ze,za rfl,za rfl,trivial⟩) ⟨zc (qO x v1 e1) rfl rfl rfl rfl,
  e_un (zb rfl) (zb rfl) (fun W=>by rw [← e2];exact r_not W),
  e_fb (show pV (.bool v2)=_ by rw [h3]),
  trivial⟩ mixed (by kernel_rfl)) rfl rfl rfl rfl
theorem zmS {w0:World} (x:RR) (hT:∀W,Below w0.heap.size w0 W→PowT w0.heap.size W) (v1:Bool) (v2:Bool) (v4:Raw) (v5:Int) (v6:Bool) (v8:(List UInt8)) (e1:(rrX x.1 x.2)=v1) (e2:(!v1)=v2) (e4:(nz 1)=v4) (e5:(cmpX x.2 v4)=v5) (e6:((v5 == (0:Int)))=v6) (e8:(textS x.1.1 x.1.2)=v8) (h3:v2=false) (h7:v6=true):Fun (KN w0) Tryz.prog 27 [.o (.g [pB x.1.1,pD x.1.2,pB x.2.1,pD x.2.2])] (.o (.c (pS v8))):=
 zi (zl (F:=FL [pB x.1.1,pD x.1.2,pB x.2.1,pD x.2.2,pB v1,pB v2,pB v4.1,pD v4.2,pI v5,pB v6,pS v8] []) (C:=[(1000003,.call ⟨43,[.o (.g [.h 0,.h 1,.h 2,.h 3])],[],.o (.c (.h 4)),[]⟩),
  (1000004,.un .not (LF (.h 4)) (LF (.h 5))),
  (10005,.fb 5 false),
  (1000008,.call ⟨67,[],[],.o (.g [.h 6,.h 7]),[]⟩),
  (1000009,.call ⟨33,[.o (.g [.h 2,.h 3]),.o (.g [.h 6,.h 7])],[],.o (.c (.h 8)),[]⟩),
  (1000010,.bin .eql 3 (LF (.h 8)) (LF (.k (.int .i64 0))) (LF (.h 9))),
  (10009,.fb 9 true),
  (1000014,.call ⟨68,[.o (.g [.h 0,.h 1])],[],.o (.c (.h 10)),[]⟩)]) (k:=⟨27,[.o (.g [.h 0,.h 1,.h 2,.h 3])],[],.o (.c (.h 10)),[]⟩) 0 (zm ⟨za rfl,ze,za rfl,ze,za rfl,za rfl,za rfl,ze,za rfl,za rfl,za rfl,trivial⟩) ⟨zc (qO x v1 e1) rfl rfl rfl rfl,
  e_un (zb rfl) (zb rfl) (fun W=>by rw [← e2];exact r_not W),
  e_fb (show pV (.bool v2)=_ by rw [h3]),
  zc (f_one  v4 e4) rfl rfl rfl rfl,
  zc (f_cmp x.2 v4 v5 e5) rfl rfl rfl rfl,
  e_bin (zb rfl) zg (zb rfl) (r_cmp (congrArg some e6)),
  e_fb (show pV (.bool v6)=_ by rw [h7]),
  zc (zoD hT x.1 v8 e8) rfl rfl rfl rfl,
  trivial⟩ mixed (by kernel_rfl)) rfl rfl rfl rfl
theorem zmT {w0:World} (x:RR) (hT:∀W,Below w0.heap.size w0 W→PowT w0.heap.size W) (v1:Bool) (v2:Bool) (v4:Raw) (v5:Int) (v6:Bool) (v8:(List UInt8)) (v9:(List UInt8)) (v11:(List UInt8)) (v12:(List UInt8)) (e1:(rrX x.1 x.2)=v1) (e2:(!v1)=v2) (e4:(nz 1)=v4) (e5:(cmpX x.2 v4)=v5) (e6:((v5 == (0:Int)))=v6) (e8:(textS x.1.1 x.1.2)=v8) (e9:(v8++[47])=v9) (e11:(textS x.2.1 x.2.2)=v11) (e12:(v9++v11)=v12) (h3:v2=false) (h7:v6=false) (s10:(((v8:List UInt8).length+([47]:List UInt8).length:Nat):Int)≤9223372036854775807) (s13:(((v9:List UInt8).length+(v11:List UInt8).length:Nat):Int)≤9223372036854775807):Fun (KN w0) Tryz.prog 27 [.o (.g [pB x.1.1,pD x.1.2,pB x.2.1,pD x.2.2])] (.o (.c (pS v12))):=
 zi (zl (F:=FL [pB x.1.1,pD x.1.2,pB x.2.1,pD x.2.2,pB v1,pB v2,pB v4.1,pD v4.2,pI v5,pB v6,pS v8,pS v9,pS v11,pS v12] []) (C:=[(1000003,.call ⟨43,[.o (.g [.h 0,.h 1,.h 2,.h 3])],[],.o (.c (.h 4)),[]⟩),
  (1000004,.un .not (LF (.h 4)) (LF (.h 5))),
  (10005,.fb 5 false),
  (1000008,.call ⟨67,[],[],.o (.g [.h 6,.h 7]),[]⟩),
  (1000009,.call ⟨33,[.o (.g [.h 2,.h 3]),.o (.g [.h 6,.h 7])],[],.o (.c (.h 8)),[]⟩),
  (1000010,.bin .eql 3 (LF (.h 8)) (LF (.k (.int .i64 0))) (LF (.h 9))),
  (10009,.fb 9 false),
  (1000014,.call ⟨68,[.o (.g [.h 0,.h 1])],[],.o (.c (.h 10)),[]⟩),
  (1000015,.bin .add 9 (LF (.h 10)) (LF (.k (.string ⟨#[47]⟩))) (LF (.h 11))),
  (1000018,.call ⟨68,[.o (.g [.h 2,.h 3])],[],.o (.c (.h 12)),[]⟩),
  (1000019,.bin .add 9 (LF (.h 11)) (LF (.h 12)) (LF (.h 13)))]) (k:=⟨27,[.o (.g [.h 0,.h 1,.h 2,.h 3])],[],.o (.c (.h 13)),[]⟩) 0 (zm ⟨za rfl,ze,za rfl,ze,za rfl,za rfl,za rfl,ze,za rfl,za rfl,za rfl,za rfl,za rfl,za rfl,trivial⟩) ⟨zc (qO x v1 e1) rfl rfl rfl rfl,
  e_un (zb rfl) (zb rfl) (fun W=>by rw [← e2];exact r_not W),
  e_fb (show pV (.bool v2)=_ by rw [h3]),
  zc (f_one  v4 e4) rfl rfl rfl rfl,
  zc (f_cmp x.2 v4 v5 e5) rfl rfl rfl rfl,
  e_bin (zb rfl) zg (zb rfl) (r_cmp (congrArg some e6)),
  e_fb (show pV (.bool v6)=_ by rw [h7]),
  zc (zoD hT x.1 v8 e8) rfl rfl rfl rfl,
  e_bin (zb rfl) zg (zb rfl) (fun W X Y=>by rw [← e9];exact r_cat s10 W X Y),
  zc (zoD hT x.2 v11 e11) rfl rfl rfl rfl,
  e_bin (zb rfl) (zb rfl) (zb rfl) (fun W X Y=>by rw [← e12];exact r_cat s13 W X Y),
  trivial⟩ mixed (by kernel_rfl)) rfl rfl rfl rfl
theorem zcn {w0:World} (hT:∀W,Below w0.heap.size w0 W→PowT w0.heap.size W) (x:RR) (t:List UInt8) (ht:textR x=t):Fun (KN w0) Tryz.prog 27 [.o (.g [pB x.1.1,pD x.1.2,pB x.2.1,pD x.2.2])] (.o (.c (pS t))):=by
 refine zma fun d1 d2=>?_
 obtain ⟨v1,e1⟩:∃v,(rrX x.1 x.2)=v:=⟨_,rfl⟩
 obtain ⟨v2,e2⟩:∃v,(!v1)=v:=⟨_,rfl⟩
 cases h3:v2 with
 | true =>
  refine Fun.imp (zmR x hT v1 v2 e1 e2 h3) (fun _ _ _ h=>h) (fun v W D h=>?_)
  have r0:t=[]:=by
   subst_vars
   simp_all [textR]
  rw [r0];exact h
 | false =>
  obtain ⟨v4,e4⟩:∃v,(nz 1)=v:=⟨_,rfl⟩
  obtain ⟨v5,e5⟩:∃v,(cmpX x.2 v4)=v:=⟨_,rfl⟩
  obtain ⟨v6,e6⟩:∃v,((v5 == (0:Int)))=v:=⟨_,rfl⟩
  cases h7:v6 with
  | true =>
   obtain ⟨v8,e8⟩:∃v,(textS x.1.1 x.1.2)=v:=⟨_,rfl⟩
   refine Fun.imp (zmS x hT v1 v2 v4 v5 v6 v8 e1 e2 e4 e5 e6 e8 h3 h7) (fun _ _ _ h=>h) (fun v W D h=>?_)
   have r0:t=v8:=by
    subst_vars
    simp_all [textR]
   rw [r0];exact h
  | false =>
   obtain ⟨v8,e8⟩:∃v,(textS x.1.1 x.1.2)=v:=⟨_,rfl⟩
   obtain ⟨v9,e9⟩:∃v,(v8++[47])=v:=⟨_,rfl⟩
   have s10:(((v8:List UInt8).length+([47]:List UInt8).length:Nat):Int)≤9223372036854775807:=by subst_vars;have:=zab (neg:=x.1.1) d1;have:=zab (neg:=x.2.1) d2;simp only [List.length_append,List.length_cons,List.length_nil];omega
   obtain ⟨v11,e11⟩:∃v,(textS x.2.1 x.2.2)=v:=⟨_,rfl⟩
   obtain ⟨v12,e12⟩:∃v,(v9++v11)=v:=⟨_,rfl⟩
   have s13:(((v9:List UInt8).length+(v11:List UInt8).length:Nat):Int)≤9223372036854775807:=by subst_vars;have:=zab (neg:=x.1.1) d1;have:=zab (neg:=x.2.1) d2;simp only [List.length_append,List.length_cons,List.length_nil];omega
   refine Fun.imp (zmT x hT v1 v2 v4 v5 v6 v8 v9 v11 v12 e1 e2 e4 e5 e6 e8 e9 e11 e12 h3 h7 s10 s13) (fun _ _ _ h=>h) (fun v W D h=>?_)
   have r0:t=v12:=by
    subst_vars
    simp_all [textR]
   rw [r0];exact h
theorem zhU {w0:World} (x:RR) (v1:Bool) (v2:Bool) (e1:(rrX x.1 x.2)=v1) (e2:(!v1)=v2) (h3:v2=true):Fun (KN w0) Tryz.prog 29 [.o (.g [pB x.1.1,pD x.1.2,pB x.2.1,pD x.2.2])] (.o (.c (pV (.string ⟨#[]⟩)))):=
 zi (zl (F:=FL [pB x.1.1,pD x.1.2,pB x.2.1,pD x.2.2,pB v1,pB v2] []) (C:=[(1000003,.call ⟨44,[.o (.g [.h 0,.h 1,.h 2,.h 3])],[],.o (.c (.h 4)),[]⟩),
  (1000004,.un .not (LF (.h 4)) (LF (.h 5))),
  (10005,.fb 5 true)]) (k:=⟨29,[.o (.g [.h 0,.h 1,.h 2,.h 3])],[],.o (.c (.k (.string ⟨#[]⟩))),[]⟩) 0 (zm ⟨za rfl,ze,za rfl,ze,za rfl,za rfl,trivial⟩) ⟨zc (qv x v1 e1) rfl rfl rfl rfl,
  e_un (zb rfl) (zb rfl) (fun W=>by rw [← e2];exact r_not W),
  e_fb (show pV (.bool v2)=_ by rw [h3]),
  trivial⟩ mixed (by kernel_rfl)) rfl rfl rfl rfl
theorem zhV {w0:World} (x:RR) (v1:Bool) (v2:Bool) (v4:Raw) (v7:Int) (v8:Bool) (v10:(List UInt8)) (e1:(rrX x.1 x.2)=v1) (e2:(!v1)=v2) (e4:(nz (1:Int))=v4) (e7:(cmpX x.2 v4)=v7) (e8:((v7 == (0:Int)))=v8) (e10:(textS x.1.1 x.1.2)=v10) (h3:v2=false) (s5:-9223372036854775808≤(1:Int)) (s6:(1:Int)<9223372036854775808) (h9:v8=true):Fun (KN w0) Tryz.prog 29 [.o (.g [pB x.1.1,pD x.1.2,pB x.2.1,pD x.2.2])] (.o (.c (pS v10))):=
 zi (zl (F:=FL [pB x.1.1,pD x.1.2,pB x.2.1,pD x.2.2,pB v1,pB v2,pB v4.1,pD v4.2,pI v7,pB v8,pS v10] []) (C:=[(1000003,.call ⟨44,[.o (.g [.h 0,.h 1,.h 2,.h 3])],[],.o (.c (.h 4)),[]⟩),
  (1000004,.un .not (LF (.h 4)) (LF (.h 5))),
  (10005,.fb 5 false),
  (1000007,.call ⟨55,[.o (.c (.k (.int .i64 1)))],[],.o (.g [.h 6,.h 7]),[]⟩),
  (1000008,.call ⟨54,[.o (.g [.h 2,.h 3]),.o (.g [.h 6,.h 7])],[],.o (.c (.h 8)),[]⟩),
  (1000009,.bin .eql 3 (LF (.h 8)) (LF (.k (.int .i64 0))) (LF (.h 9))),
  (10009,.fb 9 true),
  (1000012,.call ⟨71,[.o (.g [.h 0,.h 1])],[],.o (.c (.h 10)),[]⟩)]) (k:=⟨29,[.o (.g [.h 0,.h 1,.h 2,.h 3])],[],.o (.c (.h 10)),[]⟩) 0 (zm ⟨za rfl,ze,za rfl,ze,za rfl,za rfl,za rfl,ze,za rfl,za rfl,za rfl,trivial⟩) ⟨zc (qv x v1 e1) rfl rfl rfl rfl,
  e_un (zb rfl) (zb rfl) (fun W=>by rw [← e2];exact r_not W),
  e_fb (show pV (.bool v2)=_ by rw [h3]),
  zc (qy (1:Int) v4 e4 s5 s6) rfl rfl rfl rfl,
  zc (q8 x.2 v4 v7 e7) rfl rfl rfl rfl,
  e_bin (zb rfl) zg (zb rfl) (r_cmp (congrArg some e8)),
  e_fb (show pV (.bool v8)=_ by rw [h9]),
  zc (zfE x.1 v10 e10) rfl rfl rfl rfl,
  trivial⟩ mixed (by kernel_rfl)) rfl rfl rfl rfl
theorem zhW {w0:World} (x:RR) (v1:Bool) (v2:Bool) (v4:Raw) (v7:Int) (v8:Bool) (v10:(List UInt8)) (v11:(List UInt8)) (v13:(List UInt8)) (v14:(List UInt8)) (e1:(rrX x.1 x.2)=v1) (e2:(!v1)=v2) (e4:(nz (1:Int))=v4) (e7:(cmpX x.2 v4)=v7) (e8:((v7 == (0:Int)))=v8) (e10:(textS x.1.1 x.1.2)=v10) (e11:(v10++[47])=v11) (e13:(textS x.2.1 x.2.2)=v13) (e14:(v11++v13)=v14) (h3:v2=false) (s5:-9223372036854775808≤(1:Int)) (s6:(1:Int)<9223372036854775808) (h9:v8=false) (s12:(((v10:List UInt8).length+([47]:List UInt8).length:Nat):Int)≤9223372036854775807) (s15:(((v11:List UInt8).length+(v13:List UInt8).length:Nat):Int)≤9223372036854775807):Fun (KN w0) Tryz.prog 29 [.o (.g [pB x.1.1,pD x.1.2,pB x.2.1,pD x.2.2])] (.o (.c (pS v14))):=
 zi (zl (F:=FL [pB x.1.1,pD x.1.2,pB x.2.1,pD x.2.2,pB v1,pB v2,pB v4.1,pD v4.2,pI v7,pB v8,pS v10,pS v11,pS v13,pS v14] []) (C:=[(1000003,.call ⟨44,[.o (.g [.h 0,.h 1,.h 2,.h 3])],[],.o (.c (.h 4)),[]⟩),
  (1000004,.un .not (LF (.h 4)) (LF (.h 5))),
  (10005,.fb 5 false),
  (1000007,.call ⟨55,[.o (.c (.k (.int .i64 1)))],[],.o (.g [.h 6,.h 7]),[]⟩),
  (1000008,.call ⟨54,[.o (.g [.h 2,.h 3]),.o (.g [.h 6,.h 7])],[],.o (.c (.h 8)),[]⟩),
  (1000009,.bin .eql 3 (LF (.h 8)) (LF (.k (.int .i64 0))) (LF (.h 9))),
  (10009,.fb 9 false),
  (1000012,.call ⟨71,[.o (.g [.h 0,.h 1])],[],.o (.c (.h 10)),[]⟩),
  (1000013,.bin .add 9 (LF (.h 10)) (LF (.k (.string ⟨#[47]⟩))) (LF (.h 11))),
  (1000016,.call ⟨71,[.o (.g [.h 2,.h 3])],[],.o (.c (.h 12)),[]⟩),
  (1000017,.bin .add 9 (LF (.h 11)) (LF (.h 12)) (LF (.h 13)))]) (k:=⟨29,[.o (.g [.h 0,.h 1,.h 2,.h 3])],[],.o (.c (.h 13)),[]⟩) 0 (zm ⟨za rfl,ze,za rfl,ze,za rfl,za rfl,za rfl,ze,za rfl,za rfl,za rfl,za rfl,za rfl,za rfl,trivial⟩) ⟨zc (qv x v1 e1) rfl rfl rfl rfl,
  e_un (zb rfl) (zb rfl) (fun W=>by rw [← e2];exact r_not W),
  e_fb (show pV (.bool v2)=_ by rw [h3]),
  zc (qy (1:Int) v4 e4 s5 s6) rfl rfl rfl rfl,
  zc (q8 x.2 v4 v7 e7) rfl rfl rfl rfl,
  e_bin (zb rfl) zg (zb rfl) (r_cmp (congrArg some e8)),
  e_fb (show pV (.bool v8)=_ by rw [h9]),
  zc (zfE x.1 v10 e10) rfl rfl rfl rfl,
  e_bin (zb rfl) zg (zb rfl) (fun W X Y=>by rw [← e11];exact r_cat s12 W X Y),
  zc (zfE x.2 v13 e13) rfl rfl rfl rfl,
  e_bin (zb rfl) (zb rfl) (zb rfl) (fun W X Y=>by rw [← e14];exact r_cat s15 W X Y),
  trivial⟩ mixed (by kernel_rfl)) rfl rfl rfl rfl
theorem zbD {w0:World} (x:RR) (t:List UInt8) (ht:textR x=t):Fun (KN w0) Tryz.prog 29 [.o (.g [pB x.1.1,pD x.1.2,pB x.2.1,pD x.2.2])] (.o (.c (pS t))):=by
 refine zma fun d1 d2=>?_
 obtain ⟨v1,e1⟩:∃v,(rrX x.1 x.2)=v:=⟨_,rfl⟩
 obtain ⟨v2,e2⟩:∃v,(!v1)=v:=⟨_,rfl⟩
 cases h3:v2 with
 | true =>
  refine Fun.imp (zhU x v1 v2 e1 e2 h3) (fun _ _ _ h=>h) (fun v W D h=>?_)
  have r0:t=[]:=by
   subst_vars
   simp_all [textR]
  rw [r0];exact h
 | false =>
  obtain ⟨v4,e4⟩:∃v,(nz (1:Int))=v:=⟨_,rfl⟩
  have s5:-9223372036854775808≤(1:Int):=by first | decide | (subst_vars;have:=zab (neg:=x.1.1) d1;have:=zab (neg:=x.2.1) d2;simp only [List.length_append,List.length_cons,List.length_nil];omega)
  have s6:(1:Int)<9223372036854775808:=by first | decide | (subst_vars;have:=zab (neg:=x.1.1) d1;have:=zab (neg:=x.2.1) d2;simp only [List.length_append,List.length_cons,List.length_nil];omega)
  obtain ⟨v7,e7⟩:∃v,(cmpX x.2 v4)=v:=⟨_,rfl⟩
  obtain ⟨v8,e8⟩:∃v,((v7 == (0:Int)))=v:=⟨_,rfl⟩
  cases h9:v8 with
  | true =>
   obtain ⟨v10,e10⟩:∃v,(textS x.1.1 x.1.2)=v:=⟨_,rfl⟩
   refine Fun.imp (zhV x v1 v2 v4 v7 v8 v10 e1 e2 e4 e7 e8 e10 h3 s5 s6 h9) (fun _ _ _ h=>h) (fun v W D h=>?_)
   have r0:t=v10:=by
    subst_vars
    simp_all [textR]
   rw [r0];exact h
  | false =>
   obtain ⟨v10,e10⟩:∃v,(textS x.1.1 x.1.2)=v:=⟨_,rfl⟩
   obtain ⟨v11,e11⟩:∃v,(v10++[47])=v:=⟨_,rfl⟩
   have s12:(((v10:List UInt8).length+([47]:List UInt8).length:Nat):Int)≤9223372036854775807:=by first | decide | (subst_vars;have:=zab (neg:=x.1.1) d1;have:=zab (neg:=x.2.1) d2;simp only [List.length_append,List.length_cons,List.length_nil];omega)
   obtain ⟨v13,e13⟩:∃v,(textS x.2.1 x.2.2)=v:=⟨_,rfl⟩
   obtain ⟨v14,e14⟩:∃v,(v11++v13)=v:=⟨_,rfl⟩
   have s15:(((v11:List UInt8).length+(v13:List UInt8).length:Nat):Int)≤9223372036854775807:=by first | decide | (subst_vars;have:=zab (neg:=x.1.1) d1;have:=zab (neg:=x.2.1) d2;simp only [List.length_append,List.length_cons,List.length_nil];omega)
   refine Fun.imp (zhW x v1 v2 v4 v7 v8 v10 v11 v13 v14 e1 e2 e4 e7 e8 e10 e11 e13 e14 h3 s5 s6 h9 s12 s15) (fun _ _ _ h=>h) (fun v W D h=>?_)
   have r0:t=v14:=by
    subst_vars
    simp_all [textR]
   rw [r0];exact h
theorem zoA {w0:World} (n:Int) (v1:Raw) (v4:Raw) (e1:(nz n)=v1) (e4:(nz 1)=v4) (s2:-9223372036854775808≤n) (s3:n<9223372036854775808):Fun (KN w0) Tryz.prog 49 [.o (.c (pI n))] (.o (.g [pB v1.1,pD v1.2,pB v4.1,pD v4.2])):=
 zi (zl (F:=FL [pI n,pB v1.1,pD v1.2,pB v4.1,pD v4.2] []) (C:=[(1000002,.call ⟨34,[.o (.c (.h 0))],[],.o (.g [.h 1,.h 2]),[]⟩),
  (1000003,.call ⟨67,[],[],.o (.g [.h 3,.h 4]),[]⟩)]) (k:=⟨49,[.o (.c (.h 0))],[],.o (.g [.h 1,.h 2,.h 3,.h 4]),[]⟩) 0 (zm ⟨za rfl,za rfl,ze,za rfl,ze,trivial⟩) ⟨zc (f_of n v1 e1 s2 s3) rfl rfl rfl rfl,
  zc (f_one  v4 e4) rfl rfl rfl rfl,
  trivial⟩ mixed (by kernel_rfl)) rfl rfl rfl rfl
theorem zfF {w0:World} (n:Int) (r:RR) (hr:(nz n,nz 1)=r) (h0:-9223372036854775808≤n) (h1:n<9223372036854775808):Fun (KN w0) Tryz.prog 49 [.o (.c (pI n))] (gR r):=by
 obtain ⟨v1,e1⟩:∃v,(nz n)=v:=⟨_,rfl⟩
 have s2:-9223372036854775808≤n:=by first | assumption | (exact by decide)
 have s3:n<9223372036854775808:=by first | assumption | (exact by decide)
 obtain ⟨v4,e4⟩:∃v,(nz 1)=v:=⟨_,rfl⟩
 refine Fun.imp (zoA n v1 v4 e1 e4 s2 s3) (fun _ _ _ h=>h) (fun v W D h=>?_)
 have r0:r=(v1,v4):=by
  subst_vars;rfl
 rw [r0];exact h
theorem zjN {w0:World} (n:Int) (v1:Raw) (v4:Raw) (e1:(nz n)=v1) (e4:(nz (1:Int))=v4) (s2:-9223372036854775808≤n) (s3:n<9223372036854775808) (s5:-9223372036854775808≤(1:Int)) (s6:(1:Int)<9223372036854775808):Fun (KN w0) Tryz.prog 38 [.o (.c (pI n))] (.o (.g [pB v1.1,pD v1.2,pB v4.1,pD v4.2])):=
 zi (zl (F:=FL [pI n,pB v1.1,pD v1.2,pB v4.1,pD v4.2] []) (C:=[(1000002,.call ⟨55,[.o (.c (.h 0))],[],.o (.g [.h 1,.h 2]),[]⟩),
  (1000003,.call ⟨55,[.o (.c (.k (.int .i64 1)))],[],.o (.g [.h 3,.h 4]),[]⟩)]) (k:=⟨38,[.o (.c (.h 0))],[],.o (.g [.h 1,.h 2,.h 3,.h 4]),[]⟩) 0 (zm ⟨za rfl,za rfl,ze,za rfl,ze,trivial⟩) ⟨zc (qy n v1 e1 s2 s3) rfl rfl rfl rfl,
  zc (qy (1:Int) v4 e4 s5 s6) rfl rfl rfl rfl,
  trivial⟩ mixed (by kernel_rfl)) rfl rfl rfl rfl
theorem zjM {w0:World} (n:Int) (r:RR) (hr:(nz n,nz 1)=r) (h0:-9223372036854775808≤n) (h1:n<9223372036854775808):Fun (KN w0) Tryz.prog 38 [.o (.c (pI n))] (gR r):=by
 obtain ⟨v1,e1⟩:∃v,(nz n)=v:=⟨_,rfl⟩
 have s2:-9223372036854775808≤n:=by first | assumption | (exact by decide)
 have s3:n<9223372036854775808:=by first | assumption | (exact by decide)
 obtain ⟨v4,e4⟩:∃v,(nz (1:Int))=v:=⟨_,rfl⟩
 have s5:-9223372036854775808≤(1:Int):=by first | assumption | (exact by decide)
 have s6:(1:Int)<9223372036854775808:=by first | assumption | (exact by decide)
 refine Fun.imp (zjN n v1 v4 e1 e4 s2 s3 s5 s6) (fun _ _ _ h=>h) (fun v W D h=>?_)
 have r0:r=(v1,v4):=by
  subst_vars;rfl
 rw [r0];exact h
def fracR (n d:Int):Option Rat:=if d<1 then none else ofX (nz n) (nz d)
theorem zmP {w0:World} (n:Int) (d:Int) (v1:Bool) (e1:(decide (d<(1:Int)))=v1) (h2:v1=true):Fun (KN w0) Tryz.prog 48 [.o (.g [pI n,pI d])] (.o (.g [pV (.bool false),pV (.slice none 0 0),pV (.bool false),pV (.slice none 0 0)])):=
 zi (zl (F:=FL [pI n,pI d,pB v1] []) (C:=[(1000004,.bin .lss 3 (LF (.h 1)) (LF (.k (.int .i64 1))) (LF (.h 2))),
  (10002,.fb 2 true)]) (k:=⟨48,[.o (.g [.h 0,.h 1])],[],.o (.g [.k (.bool false),.k (.slice none 0 0),.k (.bool false),.k (.slice none 0 0)]),[]⟩) 0 (zm ⟨za rfl,za rfl,za rfl,trivial⟩) ⟨e_bin (zb rfl) zg (zb rfl) (r_cmp (congrArg some e1)),
  e_fb (show pV (.bool v1)=_ by rw [h2]),
  trivial⟩ mixed (by kernel_rfl)) rfl rfl rfl rfl
theorem zmQ {w0:World} (n:Int) (d:Int) (v1:Bool) (v3:Raw) (v6:Raw) (v9:RR) (v10:Bool) (e1:(decide (d<(1:Int)))=v1) (e3:(nz n)=v3) (e6:(nz d)=v6) (e9:(rq (ofX v3 v6))=v9) (e10:((ofX v3 v6).isSome)=v10) (h2:v1=false) (s4:-9223372036854775808≤n) (s5:n<9223372036854775808) (s7:-9223372036854775808≤d) (s8:d<9223372036854775808):Fun (KN w0) Tryz.prog 48 [.o (.g [pI n,pI d])] (.o (.g [pB v9.1.1,pD v9.1.2,pB v9.2.1,pD v9.2.2])):=
 zi (zl (F:=FL [pI n,pI d,pB v1,pB v3.1,pD v3.2,pB v6.1,pD v6.2,pB v9.1.1,pD v9.1.2,pB v9.2.1,pD v9.2.2,pB v10] []) (C:=[(1000004,.bin .lss 3 (LF (.h 1)) (LF (.k (.int .i64 1))) (LF (.h 2))),
  (10002,.fb 2 false),
  (1000007,.call ⟨34,[.o (.c (.h 0))],[],.o (.g [.h 3,.h 4]),[]⟩),
  (1000010,.call ⟨34,[.o (.c (.h 1))],[],.o (.g [.h 5,.h 6]),[]⟩),
  (1000011,.call ⟨46,[.o (.g [.h 3,.h 4]),.o (.g [.h 5,.h 6])],[],.t [.g [.h 7,.h 8,.h 9,.h 10],.c (.h 11)],[]⟩)]) (k:=⟨48,[.o (.g [.h 0,.h 1])],[],.o (.g [.h 7,.h 8,.h 9,.h 10]),[]⟩) 0 (zm ⟨za rfl,za rfl,za rfl,za rfl,ze,za rfl,ze,za rfl,ze,za rfl,ze,za rfl,trivial⟩) ⟨e_bin (zb rfl) zg (zb rfl) (r_cmp (congrArg some e1)),
  e_fb (show pV (.bool v1)=_ by rw [h2]),
  zc (f_of n v3 e3 s4 s5) rfl rfl rfl rfl,
  zc (f_of d v6 e6 s7 s8) rfl rfl rfl rfl,
  zc (f_rof v3 v6 v9 v10 e9 e10) rfl rfl rfl rfl,
  trivial⟩ mixed (by kernel_rfl)) rfl rfl rfl rfl
theorem ztQ {w0:World} (n d:Int) (r:RR) (hr:rq (fracR n d)=r) (h0:-9223372036854775808≤n) (h1:n<9223372036854775808) (h2:-9223372036854775808≤d) (h3:d<9223372036854775808):Fun (KN w0) Tryz.prog 48 [.o (.g [pI n,pI d])] (gR r):=by
 obtain ⟨v1,e1⟩:∃v,(decide (d<(1:Int)))=v:=⟨_,rfl⟩
 cases h2:v1 with
 | true =>
  refine Fun.imp (zmP n d v1 e1 h2) (fun _ _ _ h=>h) (fun v W D h=>?_)
  have r0:r=rq none:=by
   unfold fracR at hr
   subst_vars
   split<;>simp_all
   try omega
  rw [r0];exact zga h
 | false =>
  obtain ⟨v3,e3⟩:∃v,(nz n)=v:=⟨_,rfl⟩
  have s4:-9223372036854775808≤n:=by first | assumption | (exact by decide)
  have s5:n<9223372036854775808:=by first | assumption | (exact by decide)
  obtain ⟨v6,e6⟩:∃v,(nz d)=v:=⟨_,rfl⟩
  have s7:-9223372036854775808≤d:=by first | assumption | (exact by decide)
  have s8:d<9223372036854775808:=by first | assumption | (exact by decide)
  obtain ⟨v9,e9⟩:∃v,(rq (ofX v3 v6))=v:=⟨_,rfl⟩
  obtain ⟨v10,e10⟩:∃v,((ofX v3 v6).isSome)=v:=⟨_,rfl⟩
  refine Fun.imp (zmQ n d v1 v3 v6 v9 v10 e1 e3 e6 e9 e10 h2 s4 s5 s7 s8) (fun _ _ _ h=>h) (fun v W D h=>?_)
  have r0:r=v9:=by
   unfold fracR at hr
   subst_vars
   split<;>simp_all
   try omega
  rw [r0];exact h
theorem zhS {w0:World} (n:Int) (d:Int) (v1:Bool) (e1:(decide (d<(1:Int)))=v1) (h2:v1=true):Fun (KN w0) Tryz.prog 37 [.o (.g [pI n,pI d])] (.o (.g [pV (.bool false),pV (.slice none 0 0),pV (.bool false),pV (.slice none 0 0)])):=
 zi (zl (F:=FL [pI n,pI d,pB v1] []) (C:=[(1000004,.bin .lss 3 (LF (.h 1)) (LF (.k (.int .i64 1))) (LF (.h 2))),
  (10002,.fb 2 true)]) (k:=⟨37,[.o (.g [.h 0,.h 1])],[],.o (.g [.k (.bool false),.k (.slice none 0 0),.k (.bool false),.k (.slice none 0 0)]),[]⟩) 0 (zm ⟨za rfl,za rfl,za rfl,trivial⟩) ⟨e_bin (zb rfl) zg (zb rfl) (r_cmp (congrArg some e1)),
  e_fb (show pV (.bool v1)=_ by rw [h2]),
  trivial⟩ mixed (by kernel_rfl)) rfl rfl rfl rfl
theorem zhT {w0:World} (n:Int) (d:Int) (v1:Bool) (v3:Raw) (v6:Raw) (v9:RR) (v10:Bool) (e1:(decide (d<(1:Int)))=v1) (e3:(nz n)=v3) (e6:(nz d)=v6) (e9:(rq (ofX v3 v6))=v9) (e10:((ofX v3 v6).isSome)=v10) (h2:v1=false) (s4:-9223372036854775808≤n) (s5:n<9223372036854775808) (s7:-9223372036854775808≤d) (s8:d<9223372036854775808):Fun (KN w0) Tryz.prog 37 [.o (.g [pI n,pI d])] (.o (.g [pB v9.1.1,pD v9.1.2,pB v9.2.1,pD v9.2.2])):=
 zi (zl (F:=FL [pI n,pI d,pB v1,pB v3.1,pD v3.2,pB v6.1,pD v6.2,pB v9.1.1,pD v9.1.2,pB v9.2.1,pD v9.2.2,pB v10] []) (C:=[(1000004,.bin .lss 3 (LF (.h 1)) (LF (.k (.int .i64 1))) (LF (.h 2))),
  (10002,.fb 2 false),
  (1000007,.call ⟨55,[.o (.c (.h 0))],[],.o (.g [.h 3,.h 4]),[]⟩),
  (1000010,.call ⟨55,[.o (.c (.h 1))],[],.o (.g [.h 5,.h 6]),[]⟩),
  (1000011,.call ⟨47,[.o (.g [.h 3,.h 4]),.o (.g [.h 5,.h 6])],[],.t [.g [.h 7,.h 8,.h 9,.h 10],.c (.h 11)],[]⟩)]) (k:=⟨37,[.o (.g [.h 0,.h 1])],[],.o (.g [.h 7,.h 8,.h 9,.h 10]),[]⟩) 0 (zm ⟨za rfl,za rfl,za rfl,za rfl,ze,za rfl,ze,za rfl,ze,za rfl,ze,za rfl,trivial⟩) ⟨e_bin (zb rfl) zg (zb rfl) (r_cmp (congrArg some e1)),
  e_fb (show pV (.bool v1)=_ by rw [h2]),
  zc (qy n v3 e3 s4 s5) rfl rfl rfl rfl,
  zc (qy d v6 e6 s7 s8) rfl rfl rfl rfl,
  zc (zby v3 v6 v9 v10 e9 e10) rfl rfl rfl rfl,
  trivial⟩ mixed (by kernel_rfl)) rfl rfl rfl rfl
theorem zmO {w0:World} (n d:Int) (r:RR) (hr:rq (fracR n d)=r) (h0:-9223372036854775808≤n) (h1:n<9223372036854775808) (h2:-9223372036854775808≤d) (h3:d<9223372036854775808):Fun (KN w0) Tryz.prog 37 [.o (.g [pI n,pI d])] (gR r):=by
 obtain ⟨v1,e1⟩:∃v,(decide (d<(1:Int)))=v:=⟨_,rfl⟩
 cases h2:v1 with
 | true =>
  refine Fun.imp (zhS n d v1 e1 h2) (fun _ _ _ h=>h) (fun v W D h=>?_)
  have r0:r=rq none:=by
   unfold fracR at hr
   subst_vars
   split<;>simp_all
   try omega
  rw [r0];exact zga h
 | false =>
  obtain ⟨v3,e3⟩:∃v,(nz n)=v:=⟨_,rfl⟩
  have s4:-9223372036854775808≤n:=by first | assumption | (exact by decide)
  have s5:n<9223372036854775808:=by first | assumption | (exact by decide)
  obtain ⟨v6,e6⟩:∃v,(nz d)=v:=⟨_,rfl⟩
  have s7:-9223372036854775808≤d:=by first | assumption | (exact by decide)
  have s8:d<9223372036854775808:=by first | assumption | (exact by decide)
  obtain ⟨v9,e9⟩:∃v,(rq (ofX v3 v6))=v:=⟨_,rfl⟩
  obtain ⟨v10,e10⟩:∃v,((ofX v3 v6).isSome)=v:=⟨_,rfl⟩
  refine Fun.imp (zhT n d v1 v3 v6 v9 v10 e1 e3 e6 e9 e10 h2 s4 s5 s7 s8) (fun _ _ _ h=>h) (fun v W D h=>?_)
  have r0:r=v9:=by
   unfold fracR at hr
   subst_vars
   split<;>simp_all
   try omega
  rw [r0];exact h
end Go.Proofs.YtccjiodohphgnaaGreatDoor
namespace Go.Proofs.YtccjiodohphgnaaGreatDoor
open Go.RowKit Go.Shelf
structure rcmp_T where
 sg:Int
 n1:Raw
 d1:Raw
 n2:Raw
 d2:Raw
def zae:List Atom:=[.sl 0 (.o (.g [.h 0,.h 1,.h 2,.h 3])),.sl 1 (.o (.g [.h 4,.h 5,.h 6,.h 7])),.sl 2 (.o (.c (.p 0 0))),.sl 3 (.o (.c (.p 1 0))),.sl 5 (.o (.c (.h 12))),.sl 13 (.o (.g [.h 0,.h 1,.h 2,.h 3])),.sl 14 (.o (.c (.h 8))),.sl 15 (.o (.c (.h 9))),.sl 16 (.o (.c (.h 9))),.sl 17 (.o (.g [.h 4,.h 5,.h 6,.h 7])),.sl 18 (.o (.c (.h 10))),.sl 19 (.o (.c (.h 11))),.sl 20 (.o (.c (.h 11))),.bx 0 28 [.h 13,.h 14,.h 15,.h 16],.bx 1 28 [.h 17,.h 18,.h 19,.h 20]]
def ze6:LoopS:=⟨4,[.sl 0 (.o (.g [.h 0,.h 1,.h 2,.h 3])),.sl 1 (.o (.g [.h 4,.h 5,.h 6,.h 7])),.sl 2 (.o (.c (.p 0 0))),.sl 3 (.o (.c (.p 1 0))),.sl 5 (.o (.c (.k (.int .i64 1)))),.sl 13 (.o (.g [.h 0,.h 1,.h 2,.h 3])),.sl 14 (.o (.c (.h 8))),.sl 15 (.o (.c (.h 9))),.sl 16 (.o (.c (.h 9))),.sl 17 (.o (.g [.h 4,.h 5,.h 6,.h 7])),.sl 18 (.o (.c (.h 10))),.sl 19 (.o (.c (.h 11))),.sl 20 (.o (.c (.h 11))),.bx 0 28 [.h 0,.h 1,.h 2,.h 3],.bx 1 28 [.h 4,.h 5,.h 6,.h 7]],.r,[.sl 0 (.o (.g [.h 0,.h 1,.h 2,.h 3])),.sl 1 (.o (.g [.h 4,.h 5,.h 6,.h 7])),.sl 2 (.o (.c (.p 0 0))),.sl 3 (.o (.c (.p 1 0))),.sl 4 (.o (.c (.h 12))),.sl 13 (.o (.g [.h 0,.h 1,.h 2,.h 3])),.sl 14 (.o (.c (.h 8))),.sl 15 (.o (.c (.h 9))),.sl 16 (.o (.c (.h 9))),.sl 17 (.o (.g [.h 4,.h 5,.h 6,.h 7])),.sl 18 (.o (.c (.h 10))),.sl 19 (.o (.c (.h 11))),.sl 20 (.o (.c (.h 11)))]⟩
theorem zuB {w0:World} (x:RR) (y:RR) (v1:Bool) (v2:Bool) (v4:Bool) (v5:Bool) (h3:v2=false) (h6:v5=false) (sg:Int) (n1:Raw) (d1:Raw) (n2:Raw) (d2:Raw) (v501:Raw) (v502:Raw) (v503:Bool) (v504:Raw) (v505:Raw) (v506:Bool) (v507:Int) (v508:Bool) (v510:Int) (e501:(nz (dqO (divX n1 d1)))=v501) (e502:(nz (drO (divX n1 d1)))=v502) (e503:((divX n1 d1).isSome)=v503) (e504:(nz (dqO (divX n2 d2)))=v504) (e505:(nz (drO (divX n2 d2)))=v505) (e506:((divX n2 d2).isSome)=v506) (e507:(cmpX v501 v504)=v507) (e508:((v507 != (0:Int)))=v508) (e510:(IntKind.i64.wrap (sg*v507))=v510) (h509:v508=true) (o:Int) (F:Fact) (u0:F.c 0=pB x.1.1) (u1:F.c 1=pD x.1.2) (u2:F.c 2=pB x.2.1) (u3:F.c 3=pD x.2.2) (u4:F.c 4=pB y.1.1) (u5:F.c 5=pD y.1.2) (u6:F.c 6=pB y.2.1) (u7:F.c 7=pD y.2.2) (u8:F.c 8=pB v1) (u9:F.c 9=pB v2) (u10:F.c 10=pB v4) (u11:F.c 11=pB v5) (u12:F.c 12=pI o) (q0:(v510)=o) (R:Frm) (hR:R.pm=⟨ntOf Tryz.prog 23,[],[]⟩):Goes (KN w0) Tryz.prog R (lp Tryz.prog 23 0) (FL [pB x.1.1,pD x.1.2,pB x.2.1,pD x.2.2,pB y.1.1,pD y.1.2,pB y.2.1,pD y.2.2,pB v1,pB v2,pB v4,pB v5,pI sg,pB n1.1,pD n1.2,pB d1.1,pD d1.2,pB n2.1,pD n2.2,pB d2.1,pD d2.2] []) zae .r F ze6.out:=
 goes (Fb:=FL [pB x.1.1,pD x.1.2,pB x.2.1,pD x.2.2,pB y.1.1,pD y.1.2,pB y.2.1,pD y.2.2,pB v1,pB v2,pB v4,pB v5,pI sg,pB n1.1,pD n1.2,pB d1.1,pD d1.2,pB n2.1,pD n2.2,pB d2.1,pD d2.2,pB v501.1,pD v501.2,pB v502.1,pD v502.2,pB v503,pB v504.1,pD v504.2,pB v505.1,pD v505.2,pB v506,pI v507,pB v508,pI v510] []) (stb:=zae) (tl:=[.sl 0 (.o (.g [.h 0,.h 1,.h 2,.h 3])),.sl 1 (.o (.g [.h 4,.h 5,.h 6,.h 7])),.sl 2 (.o (.c (.p 0 0))),.sl 3 (.o (.c (.p 1 0))),.sl 4 (.o (.c (.h 33))),.sl 13 (.o (.g [.h 0,.h 1,.h 2,.h 3])),.sl 14 (.o (.c (.h 8))),.sl 15 (.o (.c (.h 9))),.sl 16 (.o (.c (.h 9))),.sl 17 (.o (.g [.h 4,.h 5,.h 6,.h 7])),.sl 18 (.o (.c (.h 10))),.sl 19 (.o (.c (.h 11))),.sl 20 (.o (.c (.h 11)))]) (C:=[(10009,.fb 9 false),
  (10011,.fb 11 false),
  (1005004,.call ⟨66,[.o (.g [.h 13,.h 14]),.o (.g [.h 15,.h 16])],[],.t [.g [.h 21,.h 22],.g [.h 23,.h 24],.c (.h 25)],[]⟩),
  (1005018,.call ⟨66,[.o (.g [.h 17,.h 18]),.o (.g [.h 19,.h 20])],[],.t [.g [.h 26,.h 27],.g [.h 28,.h 29],.c (.h 30)],[]⟩),
  (1005030,.call ⟨54,[.o (.g [.h 21,.h 22]),.o (.g [.h 26,.h 27])],[],.o (.c (.h 31)),[]⟩),
  (1005033,.bin .neq 3 (LF (.h 31)) (LF (.k (.int .i64 0))) (LF (.h 32))),
  (10032,.fb 32 true),
  (1005036,.bin .mul 3 (LF (.h 12)) (LF (.h 31)) (LF (.h 33)))]) (H:=.no) 5000 (zipA.imp ⟨z_g ⟨fun _ _ _ h=>h,fun _ _ _ h=>h,fun _ _ _ h=>h,fun _ _ _ h=>h,trivial⟩,z_g ⟨fun _ _ _ h=>h,fun _ _ _ h=>h,fun _ _ _ h=>h,fun _ _ _ h=>h,trivial⟩,z_c (fun _ _ _ h=>h),z_c (fun _ _ _ h=>h),z_c (fun _ _ _ h=>h),z_g ⟨fun _ _ _ h=>h,fun _ _ _ h=>h,fun _ _ _ h=>h,fun _ _ _ h=>h,trivial⟩,z_c (fun _ _ _ h=>h),z_c (fun _ _ _ h=>h),z_c (fun _ _ _ h=>h),z_g ⟨fun _ _ _ h=>h,fun _ _ _ h=>h,fun _ _ _ h=>h,fun _ _ _ h=>h,trivial⟩,z_c (fun _ _ _ h=>h),z_c (fun _ _ _ h=>h),z_c (fun _ _ _ h=>h),z_b ⟨fun _ _ _ h=>h,fun _ _ _ h=>h,fun _ _ _ h=>h,fun _ _ _ h=>h,trivial⟩,z_b ⟨fun _ _ _ h=>h,fun _ _ _ h=>h,fun _ _ _ h=>h,fun _ _ _ h=>h,trivial⟩,trivial⟩) (zm ⟨za rfl,ze,za rfl,ze,za rfl,ze,za rfl,ze,za rfl,za rfl,za rfl,za rfl,za rfl,za rfl,ze,za rfl,ze,za rfl,ze,za rfl,ze,za rfl,ze,za rfl,ze,za rfl,za rfl,ze,za rfl,ze,za rfl,za rfl,za rfl,za rfl,trivial⟩) ⟨e_fb (show pV (.bool v2)=_ by rw [h3]),
  e_fb (show pV (.bool v5)=_ by rw [h6]),
  zc (zbP n1 d1 v501 v502 v503 e501 e502 e503) rfl rfl rfl rfl,
  zc (zbP n2 d2 v504 v505 v506 e504 e505 e506) rfl rfl rfl rfl,
  zc (q8 v501 v504 v507 e507) rfl rfl rfl rfl,
  e_bin (zb rfl) zg (zb rfl) (r_cmp (congrArg some e508)),
  e_fb (show pV (.bool v508)=_ by rw [h509]),
  e_bin (zb rfl) (zb rfl) (zb rfl) (r_ar (congrArg some e510)),
  trivial⟩ mixed hR trivial (fun _ _ _ hs=>by cases hs) (by kernel_rfl:q7 (KN w0) Tryz.prog _ .no ⟨ntOf Tryz.prog 23,[],[]⟩ (lp Tryz.prog 23 0) 5000 zae .r [.sl 0 (.o (.g [.h 0,.h 1,.h 2,.h 3])),.sl 1 (.o (.g [.h 4,.h 5,.h 6,.h 7])),.sl 2 (.o (.c (.p 0 0))),.sl 3 (.o (.c (.p 1 0))),.sl 4 (.o (.c (.h 33))),.sl 13 (.o (.g [.h 0,.h 1,.h 2,.h 3])),.sl 14 (.o (.c (.h 8))),.sl 15 (.o (.c (.h 9))),.sl 16 (.o (.c (.h 9))),.sl 17 (.o (.g [.h 4,.h 5,.h 6,.h 7])),.sl 18 (.o (.c (.h 10))),.sl 19 (.o (.c (.h 11))),.sl 20 (.o (.c (.h 11)))]=true) rfl (zipA.imp ⟨z_g ⟨fun β v W h=>(zd u0 β v W).2 h,fun β v W h=>(zd u1 β v W).2 h,fun β v W h=>(zd u2 β v W).2 h,fun β v W h=>(zd u3 β v W).2 h,trivial⟩,z_g ⟨fun β v W h=>(zd u4 β v W).2 h,fun β v W h=>(zd u5 β v W).2 h,fun β v W h=>(zd u6 β v W).2 h,fun β v W h=>(zd u7 β v W).2 h,trivial⟩,z_c (fun _ _ _ h=>h),z_c (fun _ _ _ h=>h),z_c (fun β v W h=>(zd u12 β v W).2 (by rw [← q0];exact h)),z_g ⟨fun β v W h=>(zd u0 β v W).2 h,fun β v W h=>(zd u1 β v W).2 h,fun β v W h=>(zd u2 β v W).2 h,fun β v W h=>(zd u3 β v W).2 h,trivial⟩,z_c (fun β v W h=>(zd u8 β v W).2 h),z_c (fun β v W h=>(zd u9 β v W).2 h),z_c (fun β v W h=>(zd u9 β v W).2 h),z_g ⟨fun β v W h=>(zd u4 β v W).2 h,fun β v W h=>(zd u5 β v W).2 h,fun β v W h=>(zd u6 β v W).2 h,fun β v W h=>(zd u7 β v W).2 h,trivial⟩,z_c (fun β v W h=>(zd u10 β v W).2 h),z_c (fun β v W h=>(zd u11 β v W).2 h),z_c (fun β v W h=>(zd u11 β v W).2 h),trivial⟩)
theorem zuC {w0:World} (x:RR) (y:RR) (v1:Bool) (v2:Bool) (v4:Bool) (v5:Bool) (h3:v2=false) (h6:v5=false) (sg:Int) (n1:Raw) (d1:Raw) (n2:Raw) (d2:Raw) (v501:Raw) (v502:Raw) (v503:Bool) (v504:Raw) (v505:Raw) (v506:Bool) (v507:Int) (v508:Bool) (v510:Raw) (v513:Int) (v514:Bool) (v516:Int) (v517:Int) (e501:(nz (dqO (divX n1 d1)))=v501) (e502:(nz (drO (divX n1 d1)))=v502) (e503:((divX n1 d1).isSome)=v503) (e504:(nz (dqO (divX n2 d2)))=v504) (e505:(nz (drO (divX n2 d2)))=v505) (e506:((divX n2 d2).isSome)=v506) (e507:(cmpX v501 v504)=v507) (e508:((v507 != (0:Int)))=v508) (e510:(nz (0:Int))=v510) (e513:(cmpX v502 v510)=v513) (e514:((v513 == (0:Int)))=v514) (e516:(cmpX v502 v505)=v516) (e517:(IntKind.i64.wrap (sg*v516))=v517) (h509:v508=false) (s511:-9223372036854775808≤(0:Int)) (s512:(0:Int)<9223372036854775808) (h515:v514=true) (o:Int) (F:Fact) (u0:F.c 0=pB x.1.1) (u1:F.c 1=pD x.1.2) (u2:F.c 2=pB x.2.1) (u3:F.c 3=pD x.2.2) (u4:F.c 4=pB y.1.1) (u5:F.c 5=pD y.1.2) (u6:F.c 6=pB y.2.1) (u7:F.c 7=pD y.2.2) (u8:F.c 8=pB v1) (u9:F.c 9=pB v2) (u10:F.c 10=pB v4) (u11:F.c 11=pB v5) (u12:F.c 12=pI o) (q0:(v517)=o) (R:Frm) (hR:R.pm=⟨ntOf Tryz.prog 23,[],[]⟩):Goes (KN w0) Tryz.prog R (lp Tryz.prog 23 0) (FL [pB x.1.1,pD x.1.2,pB x.2.1,pD x.2.2,pB y.1.1,pD y.1.2,pB y.2.1,pD y.2.2,pB v1,pB v2,pB v4,pB v5,pI sg,pB n1.1,pD n1.2,pB d1.1,pD d1.2,pB n2.1,pD n2.2,pB d2.1,pD d2.2] []) zae .r F ze6.out:=
 goes (Fb:=FL [pB x.1.1,pD x.1.2,pB x.2.1,pD x.2.2,pB y.1.1,pD y.1.2,pB y.2.1,pD y.2.2,pB v1,pB v2,pB v4,pB v5,pI sg,pB n1.1,pD n1.2,pB d1.1,pD d1.2,pB n2.1,pD n2.2,pB d2.1,pD d2.2,pB v501.1,pD v501.2,pB v502.1,pD v502.2,pB v503,pB v504.1,pD v504.2,pB v505.1,pD v505.2,pB v506,pI v507,pB v508,pB v510.1,pD v510.2,pI v513,pB v514,pI v516,pI v517] []) (stb:=zae) (tl:=[.sl 0 (.o (.g [.h 0,.h 1,.h 2,.h 3])),.sl 1 (.o (.g [.h 4,.h 5,.h 6,.h 7])),.sl 2 (.o (.c (.p 0 0))),.sl 3 (.o (.c (.p 1 0))),.sl 4 (.o (.c (.h 38))),.sl 13 (.o (.g [.h 0,.h 1,.h 2,.h 3])),.sl 14 (.o (.c (.h 8))),.sl 15 (.o (.c (.h 9))),.sl 16 (.o (.c (.h 9))),.sl 17 (.o (.g [.h 4,.h 5,.h 6,.h 7])),.sl 18 (.o (.c (.h 10))),.sl 19 (.o (.c (.h 11))),.sl 20 (.o (.c (.h 11)))]) (C:=[(10009,.fb 9 false),
  (10011,.fb 11 false),
  (1005004,.call ⟨66,[.o (.g [.h 13,.h 14]),.o (.g [.h 15,.h 16])],[],.t [.g [.h 21,.h 22],.g [.h 23,.h 24],.c (.h 25)],[]⟩),
  (1005018,.call ⟨66,[.o (.g [.h 17,.h 18]),.o (.g [.h 19,.h 20])],[],.t [.g [.h 26,.h 27],.g [.h 28,.h 29],.c (.h 30)],[]⟩),
  (1005030,.call ⟨54,[.o (.g [.h 21,.h 22]),.o (.g [.h 26,.h 27])],[],.o (.c (.h 31)),[]⟩),
  (1005033,.bin .neq 3 (LF (.h 31)) (LF (.k (.int .i64 0))) (LF (.h 32))),
  (10032,.fb 32 false),
  (1005035,.call ⟨55,[.o (.c (.k (.int .i64 0)))],[],.o (.g [.h 33,.h 34]),[]⟩),
  (1005036,.call ⟨54,[.o (.g [.h 23,.h 24]),.o (.g [.h 33,.h 34])],[],.o (.c (.h 35)),[]⟩),
  (1005037,.bin .eql 3 (LF (.h 35)) (LF (.k (.int .i64 0))) (LF (.h 36))),
  (10036,.fb 36 true),
  (1005047,.call ⟨54,[.o (.g [.h 23,.h 24]),.o (.g [.h 28,.h 29])],[],.o (.c (.h 37)),[]⟩),
  (1005048,.bin .mul 3 (LF (.h 12)) (LF (.h 37)) (LF (.h 38)))]) (H:=.no) 5000 (zipA.imp ⟨z_g ⟨fun _ _ _ h=>h,fun _ _ _ h=>h,fun _ _ _ h=>h,fun _ _ _ h=>h,trivial⟩,z_g ⟨fun _ _ _ h=>h,fun _ _ _ h=>h,fun _ _ _ h=>h,fun _ _ _ h=>h,trivial⟩,z_c (fun _ _ _ h=>h),z_c (fun _ _ _ h=>h),z_c (fun _ _ _ h=>h),z_g ⟨fun _ _ _ h=>h,fun _ _ _ h=>h,fun _ _ _ h=>h,fun _ _ _ h=>h,trivial⟩,z_c (fun _ _ _ h=>h),z_c (fun _ _ _ h=>h),z_c (fun _ _ _ h=>h),z_g ⟨fun _ _ _ h=>h,fun _ _ _ h=>h,fun _ _ _ h=>h,fun _ _ _ h=>h,trivial⟩,z_c (fun _ _ _ h=>h),z_c (fun _ _ _ h=>h),z_c (fun _ _ _ h=>h),z_b ⟨fun _ _ _ h=>h,fun _ _ _ h=>h,fun _ _ _ h=>h,fun _ _ _ h=>h,trivial⟩,z_b ⟨fun _ _ _ h=>h,fun _ _ _ h=>h,fun _ _ _ h=>h,fun _ _ _ h=>h,trivial⟩,trivial⟩) (zm ⟨za rfl,ze,za rfl,ze,za rfl,ze,za rfl,ze,za rfl,za rfl,za rfl,za rfl,za rfl,za rfl,ze,za rfl,ze,za rfl,ze,za rfl,ze,za rfl,ze,za rfl,ze,za rfl,za rfl,ze,za rfl,ze,za rfl,za rfl,za rfl,za rfl,ze,za rfl,za rfl,za rfl,za rfl,trivial⟩) ⟨e_fb (show pV (.bool v2)=_ by rw [h3]),
  e_fb (show pV (.bool v5)=_ by rw [h6]),
  zc (zbP n1 d1 v501 v502 v503 e501 e502 e503) rfl rfl rfl rfl,
  zc (zbP n2 d2 v504 v505 v506 e504 e505 e506) rfl rfl rfl rfl,
  zc (q8 v501 v504 v507 e507) rfl rfl rfl rfl,
  e_bin (zb rfl) zg (zb rfl) (r_cmp (congrArg some e508)),
  e_fb (show pV (.bool v508)=_ by rw [h509]),
  zc (qy (0:Int) v510 e510 s511 s512) rfl rfl rfl rfl,
  zc (q8 v502 v510 v513 e513) rfl rfl rfl rfl,
  e_bin (zb rfl) zg (zb rfl) (r_cmp (congrArg some e514)),
  e_fb (show pV (.bool v514)=_ by rw [h515]),
  zc (q8 v502 v505 v516 e516) rfl rfl rfl rfl,
  e_bin (zb rfl) (zb rfl) (zb rfl) (r_ar (congrArg some e517)),
  trivial⟩ mixed hR trivial (fun _ _ _ hs=>by cases hs) (by kernel_rfl:q7 (KN w0) Tryz.prog _ .no ⟨ntOf Tryz.prog 23,[],[]⟩ (lp Tryz.prog 23 0) 5000 zae .r [.sl 0 (.o (.g [.h 0,.h 1,.h 2,.h 3])),.sl 1 (.o (.g [.h 4,.h 5,.h 6,.h 7])),.sl 2 (.o (.c (.p 0 0))),.sl 3 (.o (.c (.p 1 0))),.sl 4 (.o (.c (.h 38))),.sl 13 (.o (.g [.h 0,.h 1,.h 2,.h 3])),.sl 14 (.o (.c (.h 8))),.sl 15 (.o (.c (.h 9))),.sl 16 (.o (.c (.h 9))),.sl 17 (.o (.g [.h 4,.h 5,.h 6,.h 7])),.sl 18 (.o (.c (.h 10))),.sl 19 (.o (.c (.h 11))),.sl 20 (.o (.c (.h 11)))]=true) rfl (zipA.imp ⟨z_g ⟨fun β v W h=>(zd u0 β v W).2 h,fun β v W h=>(zd u1 β v W).2 h,fun β v W h=>(zd u2 β v W).2 h,fun β v W h=>(zd u3 β v W).2 h,trivial⟩,z_g ⟨fun β v W h=>(zd u4 β v W).2 h,fun β v W h=>(zd u5 β v W).2 h,fun β v W h=>(zd u6 β v W).2 h,fun β v W h=>(zd u7 β v W).2 h,trivial⟩,z_c (fun _ _ _ h=>h),z_c (fun _ _ _ h=>h),z_c (fun β v W h=>(zd u12 β v W).2 (by rw [← q0];exact h)),z_g ⟨fun β v W h=>(zd u0 β v W).2 h,fun β v W h=>(zd u1 β v W).2 h,fun β v W h=>(zd u2 β v W).2 h,fun β v W h=>(zd u3 β v W).2 h,trivial⟩,z_c (fun β v W h=>(zd u8 β v W).2 h),z_c (fun β v W h=>(zd u9 β v W).2 h),z_c (fun β v W h=>(zd u9 β v W).2 h),z_g ⟨fun β v W h=>(zd u4 β v W).2 h,fun β v W h=>(zd u5 β v W).2 h,fun β v W h=>(zd u6 β v W).2 h,fun β v W h=>(zd u7 β v W).2 h,trivial⟩,z_c (fun β v W h=>(zd u10 β v W).2 h),z_c (fun β v W h=>(zd u11 β v W).2 h),z_c (fun β v W h=>(zd u11 β v W).2 h),trivial⟩)
theorem zuD {w0:World} (x:RR) (y:RR) (v1:Bool) (v2:Bool) (v4:Bool) (v5:Bool) (h3:v2=false) (h6:v5=false) (sg:Int) (n1:Raw) (d1:Raw) (n2:Raw) (d2:Raw) (v501:Raw) (v502:Raw) (v503:Bool) (v504:Raw) (v505:Raw) (v506:Bool) (v507:Int) (v508:Bool) (v510:Raw) (v513:Int) (v514:Bool) (v516:Raw) (v519:Int) (v520:Bool) (v522:Int) (v523:Int) (e501:(nz (dqO (divX n1 d1)))=v501) (e502:(nz (drO (divX n1 d1)))=v502) (e503:((divX n1 d1).isSome)=v503) (e504:(nz (dqO (divX n2 d2)))=v504) (e505:(nz (drO (divX n2 d2)))=v505) (e506:((divX n2 d2).isSome)=v506) (e507:(cmpX v501 v504)=v507) (e508:((v507 != (0:Int)))=v508) (e510:(nz (0:Int))=v510) (e513:(cmpX v502 v510)=v513) (e514:((v513 == (0:Int)))=v514) (e516:(nz (0:Int))=v516) (e519:(cmpX v505 v516)=v519) (e520:((v519 == (0:Int)))=v520) (e522:(cmpX v502 v505)=v522) (e523:(IntKind.i64.wrap (sg*v522))=v523) (h509:v508=false) (s511:-9223372036854775808≤(0:Int)) (s512:(0:Int)<9223372036854775808) (h515:v514=false) (s517:-9223372036854775808≤(0:Int)) (s518:(0:Int)<9223372036854775808) (h521:v520=true) (o:Int) (F:Fact) (u0:F.c 0=pB x.1.1) (u1:F.c 1=pD x.1.2) (u2:F.c 2=pB x.2.1) (u3:F.c 3=pD x.2.2) (u4:F.c 4=pB y.1.1) (u5:F.c 5=pD y.1.2) (u6:F.c 6=pB y.2.1) (u7:F.c 7=pD y.2.2) (u8:F.c 8=pB v1) (u9:F.c 9=pB v2) (u10:F.c 10=pB v4) (u11:F.c 11=pB v5) (u12:F.c 12=pI o) (q0:(v523)=o) (R:Frm) (hR:R.pm=⟨ntOf Tryz.prog 23,[],[]⟩):Goes (KN w0) Tryz.prog R (lp Tryz.prog 23 0) (FL [pB x.1.1,pD x.1.2,pB x.2.1,pD x.2.2,pB y.1.1,pD y.1.2,pB y.2.1,pD y.2.2,pB v1,pB v2,pB v4,pB v5,pI sg,pB n1.1,pD n1.2,pB d1.1,pD d1.2,pB n2.1,pD n2.2,pB d2.1,pD d2.2] []) zae .r F ze6.out:=
 goes (Fb:=FL [pB x.1.1,pD x.1.2,pB x.2.1,pD x.2.2,pB y.1.1,pD y.1.2,pB y.2.1,pD y.2.2,pB v1,pB v2,pB v4,pB v5,pI sg,pB n1.1,pD n1.2,pB d1.1,pD d1.2,pB n2.1,pD n2.2,pB d2.1,pD d2.2,pB v501.1,pD v501.2,pB v502.1,pD v502.2,pB v503,pB v504.1,pD v504.2,pB v505.1,pD v505.2,pB v506,pI v507,pB v508,pB v510.1,pD v510.2,pI v513,pB v514,pB v516.1,pD v516.2,pI v519,pB v520,pI v522,pI v523] []) (stb:=zae) (tl:=[.sl 0 (.o (.g [.h 0,.h 1,.h 2,.h 3])),.sl 1 (.o (.g [.h 4,.h 5,.h 6,.h 7])),.sl 2 (.o (.c (.p 0 0))),.sl 3 (.o (.c (.p 1 0))),.sl 4 (.o (.c (.h 42))),.sl 13 (.o (.g [.h 0,.h 1,.h 2,.h 3])),.sl 14 (.o (.c (.h 8))),.sl 15 (.o (.c (.h 9))),.sl 16 (.o (.c (.h 9))),.sl 17 (.o (.g [.h 4,.h 5,.h 6,.h 7])),.sl 18 (.o (.c (.h 10))),.sl 19 (.o (.c (.h 11))),.sl 20 (.o (.c (.h 11)))]) (C:=[(10009,.fb 9 false),
  (10011,.fb 11 false),
  (1005004,.call ⟨66,[.o (.g [.h 13,.h 14]),.o (.g [.h 15,.h 16])],[],.t [.g [.h 21,.h 22],.g [.h 23,.h 24],.c (.h 25)],[]⟩),
  (1005018,.call ⟨66,[.o (.g [.h 17,.h 18]),.o (.g [.h 19,.h 20])],[],.t [.g [.h 26,.h 27],.g [.h 28,.h 29],.c (.h 30)],[]⟩),
  (1005030,.call ⟨54,[.o (.g [.h 21,.h 22]),.o (.g [.h 26,.h 27])],[],.o (.c (.h 31)),[]⟩),
  (1005033,.bin .neq 3 (LF (.h 31)) (LF (.k (.int .i64 0))) (LF (.h 32))),
  (10032,.fb 32 false),
  (1005035,.call ⟨55,[.o (.c (.k (.int .i64 0)))],[],.o (.g [.h 33,.h 34]),[]⟩),
  (1005036,.call ⟨54,[.o (.g [.h 23,.h 24]),.o (.g [.h 33,.h 34])],[],.o (.c (.h 35)),[]⟩),
  (1005037,.bin .eql 3 (LF (.h 35)) (LF (.k (.int .i64 0))) (LF (.h 36))),
  (10036,.fb 36 false),
  (1005040,.call ⟨55,[.o (.c (.k (.int .i64 0)))],[],.o (.g [.h 37,.h 38]),[]⟩),
  (1005041,.call ⟨54,[.o (.g [.h 28,.h 29]),.o (.g [.h 37,.h 38])],[],.o (.c (.h 39)),[]⟩),
  (1005042,.bin .eql 3 (LF (.h 39)) (LF (.k (.int .i64 0))) (LF (.h 40))),
  (10040,.fb 40 true),
  (1005047,.call ⟨54,[.o (.g [.h 23,.h 24]),.o (.g [.h 28,.h 29])],[],.o (.c (.h 41)),[]⟩),
  (1005048,.bin .mul 3 (LF (.h 12)) (LF (.h 41)) (LF (.h 42)))]) (H:=.no) 5000 (zipA.imp ⟨z_g ⟨fun _ _ _ h=>h,fun _ _ _ h=>h,fun _ _ _ h=>h,fun _ _ _ h=>h,trivial⟩,z_g ⟨fun _ _ _ h=>h,fun _ _ _ h=>h,fun _ _ _ h=>h,fun _ _ _ h=>h,trivial⟩,z_c (fun _ _ _ h=>h),z_c (fun _ _ _ h=>h),z_c (fun _ _ _ h=>h),z_g ⟨fun _ _ _ h=>h,fun _ _ _ h=>h,fun _ _ _ h=>h,fun _ _ _ h=>h,trivial⟩,z_c (fun _ _ _ h=>h),z_c (fun _ _ _ h=>h),z_c (fun _ _ _ h=>h),z_g ⟨fun _ _ _ h=>h,fun _ _ _ h=>h,fun _ _ _ h=>h,fun _ _ _ h=>h,trivial⟩,z_c (fun _ _ _ h=>h),z_c (fun _ _ _ h=>h),z_c (fun _ _ _ h=>h),z_b ⟨fun _ _ _ h=>h,fun _ _ _ h=>h,fun _ _ _ h=>h,fun _ _ _ h=>h,trivial⟩,z_b ⟨fun _ _ _ h=>h,fun _ _ _ h=>h,fun _ _ _ h=>h,fun _ _ _ h=>h,trivial⟩,trivial⟩) (zm ⟨za rfl,ze,za rfl,ze,za rfl,ze,za rfl,ze,za rfl,za rfl,za rfl,za rfl,za rfl,za rfl,ze,za rfl,ze,za rfl,ze,za rfl,ze,za rfl,ze,za rfl,ze,za rfl,za rfl,ze,za rfl,ze,za rfl,za rfl,za rfl,za rfl,ze,za rfl,za rfl,za rfl,ze,za rfl,za rfl,za rfl,za rfl,trivial⟩) ⟨e_fb (show pV (.bool v2)=_ by rw [h3]),
  e_fb (show pV (.bool v5)=_ by rw [h6]),
  zc (zbP n1 d1 v501 v502 v503 e501 e502 e503) rfl rfl rfl rfl,
  zc (zbP n2 d2 v504 v505 v506 e504 e505 e506) rfl rfl rfl rfl,
  zc (q8 v501 v504 v507 e507) rfl rfl rfl rfl,
  e_bin (zb rfl) zg (zb rfl) (r_cmp (congrArg some e508)),
  e_fb (show pV (.bool v508)=_ by rw [h509]),
  zc (qy (0:Int) v510 e510 s511 s512) rfl rfl rfl rfl,
  zc (q8 v502 v510 v513 e513) rfl rfl rfl rfl,
  e_bin (zb rfl) zg (zb rfl) (r_cmp (congrArg some e514)),
  e_fb (show pV (.bool v514)=_ by rw [h515]),
  zc (qy (0:Int) v516 e516 s517 s518) rfl rfl rfl rfl,
  zc (q8 v505 v516 v519 e519) rfl rfl rfl rfl,
  e_bin (zb rfl) zg (zb rfl) (r_cmp (congrArg some e520)),
  e_fb (show pV (.bool v520)=_ by rw [h521]),
  zc (q8 v502 v505 v522 e522) rfl rfl rfl rfl,
  e_bin (zb rfl) (zb rfl) (zb rfl) (r_ar (congrArg some e523)),
  trivial⟩ mixed hR trivial (fun _ _ _ hs=>by cases hs) (by kernel_rfl:q7 (KN w0) Tryz.prog _ .no ⟨ntOf Tryz.prog 23,[],[]⟩ (lp Tryz.prog 23 0) 5000 zae .r [.sl 0 (.o (.g [.h 0,.h 1,.h 2,.h 3])),.sl 1 (.o (.g [.h 4,.h 5,.h 6,.h 7])),.sl 2 (.o (.c (.p 0 0))),.sl 3 (.o (.c (.p 1 0))),.sl 4 (.o (.c (.h 42))),.sl 13 (.o (.g [.h 0,.h 1,.h 2,.h 3])),.sl 14 (.o (.c (.h 8))),.sl 15 (.o (.c (.h 9))),.sl 16 (.o (.c (.h 9))),.sl 17 (.o (.g [.h 4,.h 5,.h 6,.h 7])),.sl 18 (.o (.c (.h 10))),.sl 19 (.o (.c (.h 11))),.sl 20 (.o (.c (.h 11)))]=true) rfl (zipA.imp ⟨z_g ⟨fun β v W h=>(zd u0 β v W).2 h,fun β v W h=>(zd u1 β v W).2 h,fun β v W h=>(zd u2 β v W).2 h,fun β v W h=>(zd u3 β v W).2 h,trivial⟩,z_g ⟨fun β v W h=>(zd u4 β v W).2 h,fun β v W h=>(zd u5 β v W).2 h,fun β v W h=>(zd u6 β v W).2 h,fun β v W h=>(zd u7 β v W).2 h,trivial⟩,z_c (fun _ _ _ h=>h),z_c (fun _ _ _ h=>h),z_c (fun β v W h=>(zd u12 β v W).2 (by rw [← q0];exact h)),z_g ⟨fun β v W h=>(zd u0 β v W).2 h,fun β v W h=>(zd u1 β v W).2 h,fun β v W h=>(zd u2 β v W).2 h,fun β v W h=>(zd u3 β v W).2 h,trivial⟩,z_c (fun β v W h=>(zd u8 β v W).2 h),z_c (fun β v W h=>(zd u9 β v W).2 h),z_c (fun β v W h=>(zd u9 β v W).2 h),z_g ⟨fun β v W h=>(zd u4 β v W).2 h,fun β v W h=>(zd u5 β v W).2 h,fun β v W h=>(zd u6 β v W).2 h,fun β v W h=>(zd u7 β v W).2 h,trivial⟩,z_c (fun β v W h=>(zd u10 β v W).2 h),z_c (fun β v W h=>(zd u11 β v W).2 h),z_c (fun β v W h=>(zd u11 β v W).2 h),trivial⟩)
theorem zuE {w0:World} (x:RR) (y:RR) (v1:Bool) (v2:Bool) (v4:Bool) (v5:Bool) (h3:v2=false) (h6:v5=false) (sg:Int) (n1:Raw) (d1:Raw) (n2:Raw) (d2:Raw) (v501:Raw) (v502:Raw) (v503:Bool) (v504:Raw) (v505:Raw) (v506:Bool) (v507:Int) (v508:Bool) (v510:Raw) (v513:Int) (v514:Bool) (v516:Raw) (v519:Int) (v520:Bool) (v522:Int) (e501:(nz (dqO (divX n1 d1)))=v501) (e502:(nz (drO (divX n1 d1)))=v502) (e503:((divX n1 d1).isSome)=v503) (e504:(nz (dqO (divX n2 d2)))=v504) (e505:(nz (drO (divX n2 d2)))=v505) (e506:((divX n2 d2).isSome)=v506) (e507:(cmpX v501 v504)=v507) (e508:((v507 != (0:Int)))=v508) (e510:(nz (0:Int))=v510) (e513:(cmpX v502 v510)=v513) (e514:((v513 == (0:Int)))=v514) (e516:(nz (0:Int))=v516) (e519:(cmpX v505 v516)=v519) (e520:((v519 == (0:Int)))=v520) (e522:(IntKind.i64.wrap (0 - sg))=v522) (h509:v508=false) (s511:-9223372036854775808≤(0:Int)) (s512:(0:Int)<9223372036854775808) (h515:v514=false) (s517:-9223372036854775808≤(0:Int)) (s518:(0:Int)<9223372036854775808) (h521:v520=false) (sg':Int) (n1':Raw) (d1':Raw) (n2':Raw) (d2':Raw) (q0:(v522)=sg') (q1:(d1)=n1') (q2:(v502)=d1') (q3:(d2)=n2') (q4:(v505)=d2') (R:Frm) (hR:R.pm=⟨ntOf Tryz.prog 23,[],[]⟩):Goes (KN w0) Tryz.prog R (lp Tryz.prog 23 0) (FL [pB x.1.1,pD x.1.2,pB x.2.1,pD x.2.2,pB y.1.1,pD y.1.2,pB y.2.1,pD y.2.2,pB v1,pB v2,pB v4,pB v5,pI sg,pB n1.1,pD n1.2,pB d1.1,pD d1.2,pB n2.1,pD n2.2,pB d2.1,pD d2.2] []) zae .n (FL [pB x.1.1,pD x.1.2,pB x.2.1,pD x.2.2,pB y.1.1,pD y.1.2,pB y.2.1,pD y.2.2,pB v1,pB v2,pB v4,pB v5,pI sg',pB n1'.1,pD n1'.2,pB d1'.1,pD d1'.2,pB n2'.1,pD n2'.2,pB d2'.1,pD d2'.2] []) zae:=
 goes (Fb:=FL [pB x.1.1,pD x.1.2,pB x.2.1,pD x.2.2,pB y.1.1,pD y.1.2,pB y.2.1,pD y.2.2,pB v1,pB v2,pB v4,pB v5,pI sg,pB n1.1,pD n1.2,pB d1.1,pD d1.2,pB n2.1,pD n2.2,pB d2.1,pD d2.2,pB v501.1,pD v501.2,pB v502.1,pD v502.2,pB v503,pB v504.1,pD v504.2,pB v505.1,pD v505.2,pB v506,pI v507,pB v508,pB v510.1,pD v510.2,pI v513,pB v514,pB v516.1,pD v516.2,pI v519,pB v520,pI v522] []) (stb:=zae) (tl:=[.sl 0 (.o (.g [.h 0,.h 1,.h 2,.h 3])),.sl 1 (.o (.g [.h 4,.h 5,.h 6,.h 7])),.sl 2 (.o (.c (.p 0 0))),.sl 3 (.o (.c (.p 1 0))),.sl 5 (.o (.c (.h 41))),.sl 13 (.o (.g [.h 0,.h 1,.h 2,.h 3])),.sl 14 (.o (.c (.h 8))),.sl 15 (.o (.c (.h 9))),.sl 16 (.o (.c (.h 9))),.sl 17 (.o (.g [.h 4,.h 5,.h 6,.h 7])),.sl 18 (.o (.c (.h 10))),.sl 19 (.o (.c (.h 11))),.sl 20 (.o (.c (.h 11))),.bx 0 28 [.h 15,.h 16,.h 23,.h 24],.bx 1 28 [.h 19,.h 20,.h 28,.h 29]]) (C:=[(10009,.fb 9 false),
  (10011,.fb 11 false),
  (1005004,.call ⟨66,[.o (.g [.h 13,.h 14]),.o (.g [.h 15,.h 16])],[],.t [.g [.h 21,.h 22],.g [.h 23,.h 24],.c (.h 25)],[]⟩),
  (1005018,.call ⟨66,[.o (.g [.h 17,.h 18]),.o (.g [.h 19,.h 20])],[],.t [.g [.h 26,.h 27],.g [.h 28,.h 29],.c (.h 30)],[]⟩),
  (1005030,.call ⟨54,[.o (.g [.h 21,.h 22]),.o (.g [.h 26,.h 27])],[],.o (.c (.h 31)),[]⟩),
  (1005033,.bin .neq 3 (LF (.h 31)) (LF (.k (.int .i64 0))) (LF (.h 32))),
  (10032,.fb 32 false),
  (1005035,.call ⟨55,[.o (.c (.k (.int .i64 0)))],[],.o (.g [.h 33,.h 34]),[]⟩),
  (1005036,.call ⟨54,[.o (.g [.h 23,.h 24]),.o (.g [.h 33,.h 34])],[],.o (.c (.h 35)),[]⟩),
  (1005037,.bin .eql 3 (LF (.h 35)) (LF (.k (.int .i64 0))) (LF (.h 36))),
  (10036,.fb 36 false),
  (1005040,.call ⟨55,[.o (.c (.k (.int .i64 0)))],[],.o (.g [.h 37,.h 38]),[]⟩),
  (1005041,.call ⟨54,[.o (.g [.h 28,.h 29]),.o (.g [.h 37,.h 38])],[],.o (.c (.h 39)),[]⟩),
  (1005042,.bin .eql 3 (LF (.h 39)) (LF (.k (.int .i64 0))) (LF (.h 40))),
  (10040,.fb 40 false),
  (1005055,.un .neg (LF (.h 12)) (LF (.h 41)))]) (H:=.no) 5000 (zipA.imp ⟨z_g ⟨fun _ _ _ h=>h,fun _ _ _ h=>h,fun _ _ _ h=>h,fun _ _ _ h=>h,trivial⟩,z_g ⟨fun _ _ _ h=>h,fun _ _ _ h=>h,fun _ _ _ h=>h,fun _ _ _ h=>h,trivial⟩,z_c (fun _ _ _ h=>h),z_c (fun _ _ _ h=>h),z_c (fun _ _ _ h=>h),z_g ⟨fun _ _ _ h=>h,fun _ _ _ h=>h,fun _ _ _ h=>h,fun _ _ _ h=>h,trivial⟩,z_c (fun _ _ _ h=>h),z_c (fun _ _ _ h=>h),z_c (fun _ _ _ h=>h),z_g ⟨fun _ _ _ h=>h,fun _ _ _ h=>h,fun _ _ _ h=>h,fun _ _ _ h=>h,trivial⟩,z_c (fun _ _ _ h=>h),z_c (fun _ _ _ h=>h),z_c (fun _ _ _ h=>h),z_b ⟨fun _ _ _ h=>h,fun _ _ _ h=>h,fun _ _ _ h=>h,fun _ _ _ h=>h,trivial⟩,z_b ⟨fun _ _ _ h=>h,fun _ _ _ h=>h,fun _ _ _ h=>h,fun _ _ _ h=>h,trivial⟩,trivial⟩) (zm ⟨za rfl,ze,za rfl,ze,za rfl,ze,za rfl,ze,za rfl,za rfl,za rfl,za rfl,za rfl,za rfl,ze,za rfl,ze,za rfl,ze,za rfl,ze,za rfl,ze,za rfl,ze,za rfl,za rfl,ze,za rfl,ze,za rfl,za rfl,za rfl,za rfl,ze,za rfl,za rfl,za rfl,ze,za rfl,za rfl,za rfl,trivial⟩) ⟨e_fb (show pV (.bool v2)=_ by rw [h3]),
  e_fb (show pV (.bool v5)=_ by rw [h6]),
  zc (zbP n1 d1 v501 v502 v503 e501 e502 e503) rfl rfl rfl rfl,
  zc (zbP n2 d2 v504 v505 v506 e504 e505 e506) rfl rfl rfl rfl,
  zc (q8 v501 v504 v507 e507) rfl rfl rfl rfl,
  e_bin (zb rfl) zg (zb rfl) (r_cmp (congrArg some e508)),
  e_fb (show pV (.bool v508)=_ by rw [h509]),
  zc (qy (0:Int) v510 e510 s511 s512) rfl rfl rfl rfl,
  zc (q8 v502 v510 v513 e513) rfl rfl rfl rfl,
  e_bin (zb rfl) zg (zb rfl) (r_cmp (congrArg some e514)),
  e_fb (show pV (.bool v514)=_ by rw [h515]),
  zc (qy (0:Int) v516 e516 s517 s518) rfl rfl rfl rfl,
  zc (q8 v505 v516 v519 e519) rfl rfl rfl rfl,
  e_bin (zb rfl) zg (zb rfl) (r_cmp (congrArg some e520)),
  e_fb (show pV (.bool v520)=_ by rw [h521]),
  e_un (zb rfl) (zb rfl) (fun W=>by rw [← e522];exact r_neg W),
  trivial⟩ mixed hR trivial (fun _ _ _ hs=>by cases hs) (by kernel_rfl:q7 (KN w0) Tryz.prog _ .no ⟨ntOf Tryz.prog 23,[],[]⟩ (lp Tryz.prog 23 0) 5000 zae .n [.sl 0 (.o (.g [.h 0,.h 1,.h 2,.h 3])),.sl 1 (.o (.g [.h 4,.h 5,.h 6,.h 7])),.sl 2 (.o (.c (.p 0 0))),.sl 3 (.o (.c (.p 1 0))),.sl 5 (.o (.c (.h 41))),.sl 13 (.o (.g [.h 0,.h 1,.h 2,.h 3])),.sl 14 (.o (.c (.h 8))),.sl 15 (.o (.c (.h 9))),.sl 16 (.o (.c (.h 9))),.sl 17 (.o (.g [.h 4,.h 5,.h 6,.h 7])),.sl 18 (.o (.c (.h 10))),.sl 19 (.o (.c (.h 11))),.sl 20 (.o (.c (.h 11))),.bx 0 28 [.h 15,.h 16,.h 23,.h 24],.bx 1 28 [.h 19,.h 20,.h 28,.h 29]]=true) rfl (zipA.imp ⟨z_g ⟨fun _ _ _ h=>h,fun _ _ _ h=>h,fun _ _ _ h=>h,fun _ _ _ h=>h,trivial⟩,z_g ⟨fun _ _ _ h=>h,fun _ _ _ h=>h,fun _ _ _ h=>h,fun _ _ _ h=>h,trivial⟩,z_c (fun _ _ _ h=>h),z_c (fun _ _ _ h=>h),z_c (fun β v W h=>(zd rfl β v W).2 (by rw [← q0];exact h)),z_g ⟨fun _ _ _ h=>h,fun _ _ _ h=>h,fun _ _ _ h=>h,fun _ _ _ h=>h,trivial⟩,z_c (fun _ _ _ h=>h),z_c (fun _ _ _ h=>h),z_c (fun _ _ _ h=>h),z_g ⟨fun _ _ _ h=>h,fun _ _ _ h=>h,fun _ _ _ h=>h,fun _ _ _ h=>h,trivial⟩,z_c (fun _ _ _ h=>h),z_c (fun _ _ _ h=>h),z_c (fun _ _ _ h=>h),z_b ⟨fun β v W h=>(zd rfl β v W).2 (by rw [← q1];exact h),fun β v W h=>(zd rfl β v W).2 (by rw [← q1];exact h),fun β v W h=>(zd rfl β v W).2 (by rw [← q2];exact h),fun β v W h=>(zd rfl β v W).2 (by rw [← q2];exact h),trivial⟩,z_b ⟨fun β v W h=>(zd rfl β v W).2 (by rw [← q3];exact h),fun β v W h=>(zd rfl β v W).2 (by rw [← q3];exact h),fun β v W h=>(zd rfl β v W).2 (by rw [← q4];exact h),fun β v W h=>(zd rfl β v W).2 (by rw [← q4];exact h),trivial⟩,trivial⟩)
def zwM (x:RR) (y:RR) (v1:Bool) (v2:Bool) (v4:Bool) (v5:Bool) (t:rcmp_T) (o:Int):Prop:=(∃(v501:Raw),∃(v502:Raw),∃(v503:Bool),∃(v504:Raw),∃(v505:Raw),∃(v506:Bool),∃(v507:Int),∃(v508:Bool),∃(v510:Int),((nz (dqO (divX t.n1 t.d1)))=v501)∧((nz (drO (divX t.n1 t.d1)))=v502)∧(((divX t.n1 t.d1).isSome)=v503)∧((nz (dqO (divX t.n2 t.d2)))=v504)∧((nz (drO (divX t.n2 t.d2)))=v505)∧(((divX t.n2 t.d2).isSome)=v506)∧((cmpX v501 v504)=v507)∧(((v507 != (0:Int)))=v508)∧((IntKind.i64.wrap (t.sg*v507))=v510)∧(v508=true)∧((v510)=o)∧True)∨(∃(v501:Raw),∃(v502:Raw),∃(v503:Bool),∃(v504:Raw),∃(v505:Raw),∃(v506:Bool),∃(v507:Int),∃(v508:Bool),∃(v510:Raw),∃(v513:Int),∃(v514:Bool),∃(v516:Int),∃(v517:Int),((nz (dqO (divX t.n1 t.d1)))=v501)∧((nz (drO (divX t.n1 t.d1)))=v502)∧(((divX t.n1 t.d1).isSome)=v503)∧((nz (dqO (divX t.n2 t.d2)))=v504)∧((nz (drO (divX t.n2 t.d2)))=v505)∧(((divX t.n2 t.d2).isSome)=v506)∧((cmpX v501 v504)=v507)∧(((v507 != (0:Int)))=v508)∧((nz (0:Int))=v510)∧((cmpX v502 v510)=v513)∧(((v513 == (0:Int)))=v514)∧((cmpX v502 v505)=v516)∧((IntKind.i64.wrap (t.sg*v516))=v517)∧(v508=false)∧(-9223372036854775808≤(0:Int))∧((0:Int)<9223372036854775808)∧(v514=true)∧((v517)=o)∧True)∨(∃(v501:Raw),∃(v502:Raw),∃(v503:Bool),∃(v504:Raw),∃(v505:Raw),∃(v506:Bool),∃(v507:Int),∃(v508:Bool),∃(v510:Raw),∃(v513:Int),∃(v514:Bool),∃(v516:Raw),∃(v519:Int),∃(v520:Bool),∃(v522:Int),∃(v523:Int),((nz (dqO (divX t.n1 t.d1)))=v501)∧((nz (drO (divX t.n1 t.d1)))=v502)∧(((divX t.n1 t.d1).isSome)=v503)∧((nz (dqO (divX t.n2 t.d2)))=v504)∧((nz (drO (divX t.n2 t.d2)))=v505)∧(((divX t.n2 t.d2).isSome)=v506)∧((cmpX v501 v504)=v507)∧(((v507 != (0:Int)))=v508)∧((nz (0:Int))=v510)∧((cmpX v502 v510)=v513)∧(((v513 == (0:Int)))=v514)∧((nz (0:Int))=v516)∧((cmpX v505 v516)=v519)∧(((v519 == (0:Int)))=v520)∧((cmpX v502 v505)=v522)∧((IntKind.i64.wrap (t.sg*v522))=v523)∧(v508=false)∧(-9223372036854775808≤(0:Int))∧((0:Int)<9223372036854775808)∧(v514=false)∧(-9223372036854775808≤(0:Int))∧((0:Int)<9223372036854775808)∧(v520=true)∧((v523)=o)∧True)
def zwL (x:RR) (y:RR) (v1:Bool) (v2:Bool) (v4:Bool) (v5:Bool) (t t':rcmp_T):Prop:=(∃(v501:Raw),∃(v502:Raw),∃(v503:Bool),∃(v504:Raw),∃(v505:Raw),∃(v506:Bool),∃(v507:Int),∃(v508:Bool),∃(v510:Raw),∃(v513:Int),∃(v514:Bool),∃(v516:Raw),∃(v519:Int),∃(v520:Bool),∃(v522:Int),((nz (dqO (divX t.n1 t.d1)))=v501)∧((nz (drO (divX t.n1 t.d1)))=v502)∧(((divX t.n1 t.d1).isSome)=v503)∧((nz (dqO (divX t.n2 t.d2)))=v504)∧((nz (drO (divX t.n2 t.d2)))=v505)∧(((divX t.n2 t.d2).isSome)=v506)∧((cmpX v501 v504)=v507)∧(((v507 != (0:Int)))=v508)∧((nz (0:Int))=v510)∧((cmpX v502 v510)=v513)∧(((v513 == (0:Int)))=v514)∧((nz (0:Int))=v516)∧((cmpX v505 v516)=v519)∧(((v519 == (0:Int)))=v520)∧((IntKind.i64.wrap (0 - t.sg))=v522)∧(v508=false)∧(-9223372036854775808≤(0:Int))∧((0:Int)<9223372036854775808)∧(v514=false)∧(-9223372036854775808≤(0:Int))∧((0:Int)<9223372036854775808)∧(v520=false)∧((v522)=t'.sg)∧((t.d1)=t'.n1)∧((v502)=t'.d1)∧((t.d2)=t'.n2)∧((v505)=t'.d2)∧True)
theorem zpr {w0:World} (x:RR) (y:RR) (v1:Bool) (v2:Bool) (v4:Bool) (v5:Bool) (h3:v2=false) (h6:v5=false) (o:Int) {F:Fact} (u0:F.c 0=pB x.1.1) (u1:F.c 1=pD x.1.2) (u2:F.c 2=pB x.2.1) (u3:F.c 3=pD x.2.2) (u4:F.c 4=pB y.1.1) (u5:F.c 5=pD y.1.2) (u6:F.c 6=pB y.2.1) (u7:F.c 7=pD y.2.2) (u8:F.c 8=pB v1) (u9:F.c 9=pB v2) (u10:F.c 10=pB v4) (u11:F.c 11=pB v5) (u12:F.c 12=pI o) (R:Frm) (hR:R.pm=⟨ntOf Tryz.prog 23,[],[]⟩) (J:rcmp_T→Prop) (m:rcmp_T→Nat) (hJ:J { sg:=(1:Int),n1:=x.1,d1:=x.2,n2:=y.1,d2:=y.2 }) (rounds:∀t,J t→zwM x y v1 v2 v4 v5 t o∨∃t',zwL x y v1 v2 v4 v5 t t'∧m t'<m t∧J t'):zB (KN w0) Tryz.prog F R ze6 (lp Tryz.prog 23 0):=by
 refine za1 (T:=rcmp_T) (fun t=>FL [pB x.1.1,pD x.1.2,pB x.2.1,pD x.2.2,pB y.1.1,pD y.1.2,pB y.2.1,pD y.2.2,pB v1,pB v2,pB v4,pB v5,pI t.sg,pB t.n1.1,pD t.n1.2,pB t.d1.1,pD t.d1.2,pB t.n2.1,pD t.n2.2,pB t.d2.1,pD t.d2.2] []) J m { sg:=(1:Int),n1:=x.1,d1:=x.2,n2:=y.1,d2:=y.2 } zae hJ (zipA.imp ⟨z_g ⟨fun β v W h=>(zd u0 β v W).1 h,fun β v W h=>(zd u1 β v W).1 h,fun β v W h=>(zd u2 β v W).1 h,fun β v W h=>(zd u3 β v W).1 h,trivial⟩,z_g ⟨fun β v W h=>(zd u4 β v W).1 h,fun β v W h=>(zd u5 β v W).1 h,fun β v W h=>(zd u6 β v W).1 h,fun β v W h=>(zd u7 β v W).1 h,trivial⟩,z_c (fun _ _ _ h=>h),z_c (fun _ _ _ h=>h),z_c (fun _ _ _ h=>h),z_g ⟨fun β v W h=>(zd u0 β v W).1 h,fun β v W h=>(zd u1 β v W).1 h,fun β v W h=>(zd u2 β v W).1 h,fun β v W h=>(zd u3 β v W).1 h,trivial⟩,z_c (fun β v W h=>(zd u8 β v W).1 h),z_c (fun β v W h=>(zd u9 β v W).1 h),z_c (fun β v W h=>(zd u9 β v W).1 h),z_g ⟨fun β v W h=>(zd u4 β v W).1 h,fun β v W h=>(zd u5 β v W).1 h,fun β v W h=>(zd u6 β v W).1 h,fun β v W h=>(zd u7 β v W).1 h,trivial⟩,z_c (fun β v W h=>(zd u10 β v W).1 h),z_c (fun β v W h=>(zd u11 β v W).1 h),z_c (fun β v W h=>(zd u11 β v W).1 h),z_b ⟨fun β v W h=>(zd u0 β v W).1 h,fun β v W h=>(zd u1 β v W).1 h,fun β v W h=>(zd u2 β v W).1 h,fun β v W h=>(zd u3 β v W).1 h,trivial⟩,z_b ⟨fun β v W h=>(zd u4 β v W).1 h,fun β v W h=>(zd u5 β v W).1 h,fun β v W h=>(zd u6 β v W).1 h,fun β v W h=>(zd u7 β v W).1 h,trivial⟩,trivial⟩) rfl fun t ht=>?_
 rcases rounds t ht with hz_ | ⟨t',hz_,hm_,hj_⟩
 ·refine .inl ?_
  rcases hz_ with ⟨v501,v502,v503,v504,v505,v506,v507,v508,v510,e501,e502,e503,e504,e505,e506,e507,e508,e510,h509,q0,_⟩ | ⟨v501,v502,v503,v504,v505,v506,v507,v508,v510,v513,v514,v516,v517,e501,e502,e503,e504,e505,e506,e507,e508,e510,e513,e514,e516,e517,h509,s511,s512,h515,q0,_⟩ | ⟨v501,v502,v503,v504,v505,v506,v507,v508,v510,v513,v514,v516,v519,v520,v522,v523,e501,e502,e503,e504,e505,e506,e507,e508,e510,e513,e514,e516,e519,e520,e522,e523,h509,s511,s512,h515,s517,s518,h521,q0,_⟩
  ·exact zuB  x y v1 v2 v4 v5 h3 h6 t.sg t.n1 t.d1 t.n2 t.d2 v501 v502 v503 v504 v505 v506 v507 v508 v510 e501 e502 e503 e504 e505 e506 e507 e508 e510 h509 o F u0 u1 u2 u3 u4 u5 u6 u7 u8 u9 u10 u11 u12 q0 R hR
  ·exact zuC  x y v1 v2 v4 v5 h3 h6 t.sg t.n1 t.d1 t.n2 t.d2 v501 v502 v503 v504 v505 v506 v507 v508 v510 v513 v514 v516 v517 e501 e502 e503 e504 e505 e506 e507 e508 e510 e513 e514 e516 e517 h509 s511 s512 h515 o F u0 u1 u2 u3 u4 u5 u6 u7 u8 u9 u10 u11 u12 q0 R hR
  ·exact zuD  x y v1 v2 v4 v5 h3 h6 t.sg t.n1 t.d1 t.n2 t.d2 v501 v502 v503 v504 v505 v506 v507 v508 v510 v513 v514 v516 v519 v520 v522 v523 e501 e502 e503 e504 e505 e506 e507 e508 e510 e513 e514 e516 e519 e520 e522 e523 h509 s511 s512 h515 s517 s518 h521 o F u0 u1 u2 u3 u4 u5 u6 u7 u8 u9 u10 u11 u12 q0 R hR
 ·refine .inr ⟨t',hm_,hj_,?_⟩
  rcases hz_ with ⟨v501,v502,v503,v504,v505,v506,v507,v508,v510,v513,v514,v516,v519,v520,v522,e501,e502,e503,e504,e505,e506,e507,e508,e510,e513,e514,e516,e519,e520,e522,h509,s511,s512,h515,s517,s518,h521,q0,q1,q2,q3,q4,_⟩
  ·exact zuE  x y v1 v2 v4 v5 h3 h6 t.sg t.n1 t.d1 t.n2 t.d2 v501 v502 v503 v504 v505 v506 v507 v508 v510 v513 v514 v516 v519 v520 v522 e501 e502 e503 e504 e505 e506 e507 e508 e510 e513 e514 e516 e519 e520 e522 h509 s511 s512 h515 s517 s518 h521 t'.sg t'.n1 t'.d1 t'.n2 t'.d2 q0 q1 q2 q3 q4 R hR
theorem zux {w0:World} (x:RR) (y:RR) (v1:Bool) (v2:Bool) (v4:Bool) (v5:Bool) (h3:v2=false) (h6:v5=false) (o:Int) {F:Fact} (u0:F.c 0=pB x.1.1) (u1:F.c 1=pD x.1.2) (u2:F.c 2=pB x.2.1) (u3:F.c 3=pD x.2.2) (u4:F.c 4=pB y.1.1) (u5:F.c 5=pD y.1.2) (u6:F.c 6=pB y.2.1) (u7:F.c 7=pD y.2.2) (u8:F.c 8=pB v1) (u9:F.c 9=pB v2) (u10:F.c 10=pB v4) (u11:F.c 11=pB v5) (u12:F.c 12=pI o) (R:Frm) (hR:R.pm=⟨ntOf Tryz.prog 23,[],[]⟩) (a b c d:Int) (hx:x=(nz a,nz b)) (hy:y=(nz c,nz d)) (z:Int×Int) (k:Nat) (hJ:CT.J z ⟨a,b,c,d,1,k⟩) (hz:IntKind.i64.wrap (z.2*z.1)=o):zB (KN w0) Tryz.prog F R ze6 (lp Tryz.prog 23 0):=by
 refine zpr  x y v1 v2 v4 v5 h3 h6 o u0 u1 u2 u3 u4 u5 u6 u7 u8 u9 u10 u11 u12 R hR (fun ⟨sg,n1,d1,n2,d2⟩=>∃s:CT,CT.J z s∧(sg=s.s∧n1=nz s.n1∧d1=nz s.d1∧n2=nz s.n2∧d2=nz s.d2)) (fun ⟨sg,n1,d1,n2,d2⟩=>nval d1.2) ⟨⟨a,b,c,d,1,k⟩,hJ,rfl,congrArg Prod.fst hx,congrArg Prod.snd hx,congrArg Prod.fst hy,congrArg Prod.snd hy⟩ fun t hJ=>?_
 obtain ⟨sg,n1,d1,n2,d2⟩:=t
 dsimp only at hJ
 obtain ⟨⟨a',b',c',d',s,k'⟩,⟨h1,h2,b1,b2,b3,b4,hs,hk,hcf⟩,t1,t2,t3,t4,t5⟩:=hJ
 simp only at h1 h2 b1 b2 b3 b4 hs hk hcf
 obtain ⟨k'',rfl⟩:∃k'',k'=k''+1:=⟨k' - 1,by omega⟩
 have r0:=Int.emod_nonneg a' (show b'≠0 by omega)
 have r1:=Int.emod_lt_of_pos a' h1
 have s0:=Int.emod_nonneg c' (show d'≠0 by omega)
 have s1:=Int.emod_lt_of_pos c' h2
 have dv1:=za5 b1 b2 (by omega)
 have dv2:=za5 b3 b4 (by omega)
 have bq:(a' / b').natAbs<big:=by have:=zeg (v:=b'.toNat) b1;rwa [Int.toNat_of_nonneg (by omega)] at this
 have bq2:(c' / d').natAbs<big:=by have:=zeg (v:=d'.toNat) b3;rwa [Int.toNat_of_nonneg (by omega)] at this
 have br:(a'%b').natAbs<big:=by omega
 have br2:(c'%d').natAbs<big:=by omega
 have bz:(0:Int).natAbs<big:=qd (by decide)
 have c3:=zaq bq bq2
 have c4:=zaq br bz
 have c5:=zaq br2 bz
 have c6:=zaq br br2
 have E1:nz (dqO (divX (nz a') (nz b')))=nz (a' / b'):=by rw [dv1];rfl
 have E2:nz (drO (divX (nz a') (nz b')))=nz (a'%b'):=by rw [dv1];rfl
 have E3:nz (dqO (divX (nz c') (nz d')))=nz (c' / d'):=by rw [dv2];rfl
 have E4:nz (drO (divX (nz c') (nz d')))=nz (c'%d'):=by rw [dv2];rfl
 unfold cf at hcf
 obtain ⟨v501,e501⟩:∃v,(nz (dqO (divX n1 d1)))=v:=⟨_,rfl⟩
 obtain ⟨v502,e502⟩:∃v,(nz (drO (divX n1 d1)))=v:=⟨_,rfl⟩
 obtain ⟨v503,e503⟩:∃v,((divX n1 d1).isSome)=v:=⟨_,rfl⟩
 obtain ⟨v504,e504⟩:∃v,(nz (dqO (divX n2 d2)))=v:=⟨_,rfl⟩
 obtain ⟨v505,e505⟩:∃v,(nz (drO (divX n2 d2)))=v:=⟨_,rfl⟩
 obtain ⟨v506,e506⟩:∃v,((divX n2 d2).isSome)=v:=⟨_,rfl⟩
 obtain ⟨v507,e507⟩:∃v,(cmpX v501 v504)=v:=⟨_,rfl⟩
 obtain ⟨v508,e508⟩:∃v,((v507 != (0:Int)))=v:=⟨_,rfl⟩
 cases h509:v508 with
 | true =>
  obtain ⟨v510,e510⟩:∃v,(IntKind.i64.wrap (sg*v507))=v:=⟨_,rfl⟩
  refine .inl (Or.inl (⟨v501,v502,v503,v504,v505,v506,v507,v508,v510,e501,e502,e503,e504,e505,e506,e507,e508,e510,h509,?_,trivial⟩))
  subst t1 t2 t3 t4 t5
  subst_vars
  simp only [E1,E2,E3,E4,c3,c4,c5,c6,bne_iff_ne,ne_eq,beq_iff_eq,bne_eq_false_iff_eq,beq_eq_false_iff_ne,Bool.not_eq_true,zdC] at *
  rw [if_pos e508]
 | false =>
  obtain ⟨v510,e510⟩:∃v,(nz (0:Int))=v:=⟨_,rfl⟩
  have s511:-9223372036854775808≤(0:Int):=by decide
  have s512:(0:Int)<9223372036854775808:=by decide
  obtain ⟨v513,e513⟩:∃v,(cmpX v502 v510)=v:=⟨_,rfl⟩
  obtain ⟨v514,e514⟩:∃v,((v513 == (0:Int)))=v:=⟨_,rfl⟩
  cases h515:v514 with
  | true =>
   obtain ⟨v516,e516⟩:∃v,(cmpX v502 v505)=v:=⟨_,rfl⟩
   obtain ⟨v517,e517⟩:∃v,(IntKind.i64.wrap (sg*v516))=v:=⟨_,rfl⟩
   refine .inl (Or.inr (Or.inl (⟨v501,v502,v503,v504,v505,v506,v507,v508,v510,v513,v514,v516,v517,e501,e502,e503,e504,e505,e506,e507,e508,e510,e513,e514,e516,e517,h509,s511,s512,h515,?_,trivial⟩)))
   subst t1 t2 t3 t4 t5
   subst_vars
   simp only [E1,E2,E3,E4,c3,c4,c5,c6,bne_iff_ne,ne_eq,beq_iff_eq,bne_eq_false_iff_eq,beq_eq_false_iff_ne,Bool.not_eq_true,zdC] at *
   rw [if_neg (fun h=>h e508),if_pos (.inl e514)]
  | false =>
   obtain ⟨v516,e516⟩:∃v,(nz (0:Int))=v:=⟨_,rfl⟩
   have s517:-9223372036854775808≤(0:Int):=by decide
   have s518:(0:Int)<9223372036854775808:=by decide
   obtain ⟨v519,e519⟩:∃v,(cmpX v505 v516)=v:=⟨_,rfl⟩
   obtain ⟨v520,e520⟩:∃v,((v519 == (0:Int)))=v:=⟨_,rfl⟩
   cases h521:v520 with
   | true =>
    obtain ⟨v522,e522⟩:∃v,(cmpX v502 v505)=v:=⟨_,rfl⟩
    obtain ⟨v523,e523⟩:∃v,(IntKind.i64.wrap (sg*v522))=v:=⟨_,rfl⟩
    refine .inl (Or.inr (Or.inr (⟨v501,v502,v503,v504,v505,v506,v507,v508,v510,v513,v514,v516,v519,v520,v522,v523,e501,e502,e503,e504,e505,e506,e507,e508,e510,e513,e514,e516,e519,e520,e522,e523,h509,s511,s512,h515,s517,s518,h521,?_,trivial⟩)))
    subst t1 t2 t3 t4 t5
    subst_vars
    simp only [E1,E2,E3,E4,c3,c4,c5,c6,bne_iff_ne,ne_eq,beq_iff_eq,bne_eq_false_iff_eq,beq_eq_false_iff_ne,Bool.not_eq_true,zdC] at *
    rw [if_neg (fun h=>h e508),if_pos (.inr e520)]
   | false =>
    obtain ⟨v522,e522⟩:∃v,(IntKind.i64.wrap (0 - sg))=v:=⟨_,rfl⟩
    refine .inr ⟨⟨v522,d1,v502,d2,v505⟩,⟨v501,v502,v503,v504,v505,v506,v507,v508,v510,v513,v514,v516,v519,v520,v522,e501,e502,e503,e504,e505,e506,e507,e508,e510,e513,e514,e516,e519,e520,e522,h509,s511,s512,h515,s517,s518,h521,rfl,rfl,rfl,rfl,rfl,trivial⟩,?_,?_⟩
    subst t1 t2 t3 t4 t5
    all_goals (subst_vars;simp only [E1,E2,E3,E4,c3,c4,c5,c6,bne_iff_ne,ne_eq,beq_iff_eq,bne_eq_false_iff_eq,beq_eq_false_iff_ne,Bool.not_eq_true,zdC] at *)
    ·show nval (digs (a'%b').natAbs)<nval (digs b'.natAbs)
     rw [zh,zh];omega
    ·exact ⟨⟨b',a'%b',d',c'%d',-s,k''⟩,⟨by simp only;omega,by simp only;omega,b2,br,b4,br2,by simp only;omega,by simp only;omega,by rw [if_neg (fun h=>h e508),if_neg (fun h=>h.elim e514 e520)]⟩,zmx hs,rfl,rfl,rfl,rfl⟩
theorem zuy {w0:World} (x:RR) (y:RR) (v1:Bool) (v2:Bool) (e1:(rrX x.1 x.2)=v1) (e2:(!v1)=v2) (h3:v2=true):Fun (KN w0) Tryz.prog 23 [.o (.g [pB x.1.1,pD x.1.2,pB x.2.1,pD x.2.2]),.o (.g [pB y.1.1,pD y.1.2,pB y.2.1,pD y.2.2])] (.o (.c (pV (.int .i64 0)))):=
 zi (zl (F:=FL [pB x.1.1,pD x.1.2,pB x.2.1,pD x.2.2,pB y.1.1,pD y.1.2,pB y.2.1,pD y.2.2,pB v1,pB v2] []) (C:=[(1000004,.call ⟨44,[.o (.g [.h 0,.h 1,.h 2,.h 3])],[],.o (.c (.h 8)),[]⟩),
  (1000005,.un .not (LF (.h 8)) (LF (.h 9))),
  (10009,.fb 9 true)]) (k:=⟨23,[.o (.g [.h 0,.h 1,.h 2,.h 3]),.o (.g [.h 4,.h 5,.h 6,.h 7])],[],.o (.c (.k (.int .i64 0))),[]⟩) 0 (zm ⟨za rfl,ze,za rfl,ze,za rfl,ze,za rfl,ze,za rfl,za rfl,trivial⟩) ⟨zc (qv x v1 e1) rfl rfl rfl rfl,
  e_un (zb rfl) (zb rfl) (fun W=>by rw [← e2];exact r_not W),
  e_fb (show pV (.bool v2)=_ by rw [h3]),
  trivial⟩ mixed (by kernel_rfl)) rfl rfl rfl rfl
theorem zuz {w0:World} (x:RR) (y:RR) (v1:Bool) (v2:Bool) (v4:Bool) (v5:Bool) (e1:(rrX x.1 x.2)=v1) (e2:(!v1)=v2) (e4:(rrX y.1 y.2)=v4) (e5:(!v4)=v5) (h3:v2=false) (h6:v5=true):Fun (KN w0) Tryz.prog 23 [.o (.g [pB x.1.1,pD x.1.2,pB x.2.1,pD x.2.2]),.o (.g [pB y.1.1,pD y.1.2,pB y.2.1,pD y.2.2])] (.o (.c (pV (.int .i64 0)))):=
 zi (zl (F:=FL [pB x.1.1,pD x.1.2,pB x.2.1,pD x.2.2,pB y.1.1,pD y.1.2,pB y.2.1,pD y.2.2,pB v1,pB v2,pB v4,pB v5] []) (C:=[(1000004,.call ⟨44,[.o (.g [.h 0,.h 1,.h 2,.h 3])],[],.o (.c (.h 8)),[]⟩),
  (1000005,.un .not (LF (.h 8)) (LF (.h 9))),
  (10009,.fb 9 false),
  (1000008,.call ⟨44,[.o (.g [.h 4,.h 5,.h 6,.h 7])],[],.o (.c (.h 10)),[]⟩),
  (1000009,.un .not (LF (.h 10)) (LF (.h 11))),
  (10011,.fb 11 true)]) (k:=⟨23,[.o (.g [.h 0,.h 1,.h 2,.h 3]),.o (.g [.h 4,.h 5,.h 6,.h 7])],[],.o (.c (.k (.int .i64 0))),[]⟩) 0 (zm ⟨za rfl,ze,za rfl,ze,za rfl,ze,za rfl,ze,za rfl,za rfl,za rfl,za rfl,trivial⟩) ⟨zc (qv x v1 e1) rfl rfl rfl rfl,
  e_un (zb rfl) (zb rfl) (fun W=>by rw [← e2];exact r_not W),
  e_fb (show pV (.bool v2)=_ by rw [h3]),
  zc (qv y v4 e4) rfl rfl rfl rfl,
  e_un (zb rfl) (zb rfl) (fun W=>by rw [← e5];exact r_not W),
  e_fb (show pV (.bool v5)=_ by rw [h6]),
  trivial⟩ mixed (by kernel_rfl)) rfl rfl rfl rfl
theorem zuA {w0:World} (x:RR) (y:RR) (v1:Bool) (v2:Bool) (v4:Bool) (v5:Bool) (o:Int) (e1:(rrX x.1 x.2)=v1) (e2:(!v1)=v2) (e4:(rrX y.1 y.2)=v4) (e5:(!v4)=v5) (h3:v2=false) (h6:v5=false) (L_rcmp:∀R:Frm,R.pm=⟨ntOf Tryz.prog 23,[],[]⟩→zB (KN w0) Tryz.prog (FL [pB x.1.1,pD x.1.2,pB x.2.1,pD x.2.2,pB y.1.1,pD y.1.2,pB y.2.1,pD y.2.2,pB v1,pB v2,pB v4,pB v5,pI o] []) R ze6 (lp Tryz.prog 23 0)):Fun (KN w0) Tryz.prog 23 [.o (.g [pB x.1.1,pD x.1.2,pB x.2.1,pD x.2.2]),.o (.g [pB y.1.1,pD y.1.2,pB y.2.1,pD y.2.2])] (.o (.c (pI o))):=
 zi (zac (F:=FL [pB x.1.1,pD x.1.2,pB x.2.1,pD x.2.2,pB y.1.1,pD y.1.2,pB y.2.1,pD y.2.2,pB v1,pB v2,pB v4,pB v5,pI o] []) (C:=[(1000004,.call ⟨44,[.o (.g [.h 0,.h 1,.h 2,.h 3])],[],.o (.c (.h 8)),[]⟩),
  (1000005,.un .not (LF (.h 8)) (LF (.h 9))),
  (10009,.fb 9 false),
  (1000008,.call ⟨44,[.o (.g [.h 4,.h 5,.h 6,.h 7])],[],.o (.c (.h 10)),[]⟩),
  (1000009,.un .not (LF (.h 10)) (LF (.h 11))),
  (10011,.fb 11 false)]) (k:=⟨23,[.o (.g [.h 0,.h 1,.h 2,.h 3]),.o (.g [.h 4,.h 5,.h 6,.h 7])],[],.o (.c (.h 12)),[]⟩) ⟨[ze6],[],0⟩ [] 0 (zm ⟨za rfl,ze,za rfl,ze,za rfl,ze,za rfl,ze,za rfl,za rfl,za rfl,za rfl,za rfl,trivial⟩) ⟨zc (qv x v1 e1) rfl rfl rfl rfl,
  e_un (zb rfl) (zb rfl) (fun W=>by rw [← e2];exact r_not W),
  e_fb (show pV (.bool v2)=_ by rw [h3]),
  zc (qv y v4 e4) rfl rfl rfl rfl,
  e_un (zb rfl) (zb rfl) (fun W=>by rw [← e5];exact r_not W),
  e_fb (show pV (.bool v5)=_ by rw [h6]),
  trivial⟩ mixed trivial (fun R hR p hp s hs=>by
 have hl:qm (zat Tryz.prog 23)=[(4,lp Tryz.prog 23 0)]:=by kernel_rfl
 rw [hl] at hp
 simp only [List.mem_cons,List.not_mem_nil,or_false] at hp
 rcases hp with rfl
 ·have e:s=ze6:=(Option.some.inj hs).symm
  subst e;exact L_rcmp R hR) (by kernel_rfl)) rfl rfl rfl rfl
theorem zow {w0:World} (x y:RR) (o:Int) (ho:cmpO (qq x) (qq y)=o):Fun (KN w0) Tryz.prog 23 [gR x,gR y] (.o (.c (pI o))):=by
 refine zqG fun d1 d2 d3 d4=>?_
 cases h3:rrX x.1 x.2 with
 | false =>
  have e:o=0:=by rw [← ho];unfold qq;rw [qU h3];rfl
  rw [e]
  exact zuy x y false true h3 rfl rfl
 | true =>
  obtain ⟨p,ep,ea,eb,hp,hp2⟩:=qV h3 d1 d2
  cases h4:rrX y.1 y.2 with
  | false =>
   have e:o=0:=by rw [← ho];unfold qq;rw [qU h4,ep];rfl
   rw [e]
   exact zuz x y true false false true h3 rfl h4 rfl rfl rfl
  | true =>
   obtain ⟨r,er,ec,ed,hr,hr2⟩:=qV h4 d3 d4
   have ho2:cmpQ p r=o:=by rw [← ho];unfold qq;rw [ep,er];rfl
   have hp2':((p.den:Nat):Int).natAbs<big:=by simpa using hp2
   have hr2':((r.den:Nat):Int).natAbs<big:=by simpa using hr2
   have n1:=p.den_nz
   have n2:=r.den_nz
   have hJ:CT.J (cf (p.den+1) p.num p.den r.num r.den 1) ⟨p.num,p.den,r.num,r.den,1,p.den+1⟩:=⟨by simp only;omega,by simp only;omega,hp,hp2',hr,hr2',.inl rfl,by simp,rfl⟩
   have hv:=zoc (p.den+1) (n1:=p.num) (d1:=p.den) (n2:=r.num) (d2:=r.den) (s:=1) (by omega) (by omega) (by simp)
   have hw:IntKind.i64.wrap ((cf (p.den+1) p.num p.den r.num r.den 1).2*(cf (p.den+1) p.num p.den r.num r.den 1).1)=o:=by
    rw [hv,Int.one_mul,← zhD,← ho2]
    unfold cmpQ
    split
    ·decide
    ·split<;>decide
   exact zuA x y true false true false o h3 rfl h4 rfl rfl rfl (fun R hR=>zux x y true false true false rfl rfl o rfl rfl rfl rfl rfl rfl rfl rfl rfl rfl rfl rfl rfl R hR p.num p.den r.num r.den (Prod.ext ea eb) (Prod.ext ec ed) _ _ hJ hw)
end Go.Proofs.YtccjiodohphgnaaGreatDoor
namespace Go.Proofs.YtccjiodohphgnaaGreatDoor
open Go.RowKit Go.Shelf
def pDP (d:Nat):Pred:=fun v W _=>∃ad:Addr,v=.pointer (some ad)∧W.cell? ad=some (.int .u32 (d:Int))
theorem zeo {w0:World} {d:Nat}:FineC (KN w0) (pDP d):=by
 constructor
 ·rintro v W W' D D' S hS hO _ ⟨ad,e,hc⟩
  refine ⟨ad,e,?_⟩
  have hlt:ad.block<W.heap.size:=by
   rcases Nat.lt_or_ge ad.block W.heap.size with hlt | hlt
   ·exact hlt
   ·simp only [World.cell?,Array.getElem?_eq_none hlt] at hc;cases hc
  have hn2:¬ S ad.block:=by
   intro hs
   obtain ⟨_,_,o,ho,hm⟩:=hS _ hs
   simp only [World.cell?,ho] at hc
   cases o with
   | cells cs T z =>
    simp only [ml,mlf,Bool.and_eq_true,List.all_eq_true] at hm
    have hmem:Value.int .u32 (d:Int)∈cs.toList:=by
     revert hc
     simp only
     split
     ·intro h1;cases h1
     ·intro h1;simpa using Array.mem_of_getElem? h1
    have:=hm.2 _ hmem
    cases this
   | _=>simp [ml,mlf] at hm
  have h2:=hO.block _ hlt hn2
  simp only [World.cell?,h2] at hc ⊢
  exact hc
 ·rintro v W D ⟨ad,e,_⟩
  rw [e];rfl
section
variable {K:Kit} {P:Program} {F:Fact}
theorem zcC {T R E:TypeId} {x o:Lf} {l:List Nat} (hT:P.underlying T=some (.slice E)) (hx:Says F x (pD l)) (ho:Gives F o (.int .i64 (l.length:Int))):Ent.sound K P F (.op (.len [T] R) [LF x] [] (LF o)):=by
 intro β W vs hs _ _
 match vs,hs with
 | [v],⟨h1,_⟩ =>
  obtain ⟨A,m,c,e,hs⟩:=(hx β v W).1 h1
  subst e
  refine ⟨.int .i64 (l.length:Int),?_,(ho β _ W).2 rfl⟩
  rw [hs.len]
  simp [Sig.sem,Builtin.len_,run_underlying hT,goInt]
 | [],h=>exact h.elim
 | _::_::_,h=>exact h.2.elim
theorem e_iaD {T E:TypeId} {x y o:Lf} {l:List Nat} {k:IntKind} {i:Int} {j d:Nat} (hT:P.underlying T=some (.slice E)) (hz:szOf P E=some 1) (hx:Says F x (pD l)) (hy:Gives F y (.int k i)) (hi:i=(j:Int)) (hd:l[j]?=some d) (ho:Says F o (pDP d)):Ent.sound K P F (.op (.ia T) [LF x,LF y] [] (LF o)):=by
 subst hi
 intro β W vs hs _ _
 match vs,hs with
 | [v,v2],⟨h1,h2,_⟩ =>
  have e2:v2=.int k (j:Int):=(hy β v2 W).1 h2
  subst e2
  obtain ⟨A,m,c,e,hs⟩:=(hx β v W).1 h1
  subst e
  have hj:j<m:=by rw [← hs.len];exact (List.getElem?_eq_some_iff.1 hd).1
  obtain ⟨ad,e3,_,hc⟩:=hs.at_ hj
  subst e3
  refine ⟨.pointer (some (ad.add j)),?_,(ho β _ W).2 ⟨ad.add j,rfl,?_⟩⟩
  ·simp only [Sig.sem,Instr.indexAt,Sem.run_bind,asIntOf,run_underlying hT,Result.andThen_ok,Sem.run_pure]
   rw [if_pos ⟨Int.natCast_nonneg j,Int.ofNat_lt.2 hj⟩,Sem.run_bind,zbw hz,Result.andThen_ok,Int.toNat_natCast,Nat.mul_one];rfl
  ·rw [hc]
   have:dg l j=d:=by unfold dg;rw [List.getD_eq_getElem?_getD,hd];rfl
   rw [this]
 | [],h=>exact h.elim
 | [_],h=>exact h.2.elim
 | _::_::_::_,h=>exact h.2.2.elim
theorem e_ldD {T:TypeId} {x o:Lf} {d:Nat} (hA:aggOf P T=some false) (hx:Says F x (pDP d)) (ho:Gives F o (.int .u32 (d:Int))):Ent.sound K P F (.op (.ld T) [LF x] [] (LF o)):=by
 intro β W vs hs _ _
 match vs,hs with
 | [v],⟨h1,_⟩ =>
  obtain ⟨ad,e,hc⟩:=(hx β v W).1 h1
  subst e
  refine ⟨_,?_,(ho β _ W).2 rfl⟩
  simp only [Sig.sem,Instr.loadAt,Instr.sureAddr,Sem.run_bind,Sem.run_pure,Result.andThen_ok,loadVar,zdq hA]
  simp [run_load,hc]
 | [],h=>exact h.elim
 | _::_::_,h=>exact h.2.elim
theorem e_slD {T E:TypeId} {x y o:Lf} {l:List Nat} {k:IntKind} {i:Int} {j:Nat} (hT:P.underlying T=some (.slice E)) (hz:szOf P E=some 1) (hx:Says F x (pD l)) (hy:Gives F y (.int k i)) (hi:i=(j:Int)) (hj:j≤l.length) (ho:Says F o (pD (l.take j))):Ent.sound K P F (.op (.sc T false true false) [LF x,LF y] [] (LF o)):=by
 subst hi
 intro β W vs hs _ _
 match vs,hs with
 | [v,v2],⟨h1,h2,_⟩ =>
  have e2:v2=.int k (j:Int):=(hy β v2 W).1 h2
  subst e2
  obtain ⟨A,m,c,e,hs⟩:=(hx β v W).1 h1
  subst e
  have hjm:j≤m:=by rw [← hs.len];exact hj
  have hjc:j≤c:=Nat.le_trans hjm hs.2.1
  refine ⟨.slice A j c,?_,(ho β _ W).2 ⟨A,j,c,rfl,hs.take hjm⟩⟩
  cases A with
  | none=>simp [Sig.sem,Instr.sliceAt,Instr.slice,Instr.sliceBounds,Instr.sliceBound,asIntOf,run_underlying hT,zbw hz,hjc]
  | some ad=>simp [Sig.sem,Instr.sliceAt,Instr.slice,Instr.sliceBounds,Instr.sliceBound,asIntOf,run_underlying hT,zbw hz,hjc,Addr.add]
 | [],h=>exact h.elim
 | [_],h=>exact h.2.elim
 | _::_::_::_,h=>exact h.2.2.elim
end
end Go.Proofs.YtccjiodohphgnaaGreatDoor
namespace Go.Proofs.YtccjiodohphgnaaGreatDoor
open Go.RowKit Go.Shelf
theorem wr64 {n:Int} (h:-9223372036854775808≤n∧n≤9223372036854775807):IntKind.i64.wrap n=n:=by rw [IntKind.wrap_i64];omega
theorem zoi {a b:List Nat} (hl:a.length=b.length) (k:Nat) (hk:k≤a.length) (h:a.drop k≠b.drop k):k<a.length∧(a.getD k 0=b.getD k 0→a.drop (k+1)≠b.drop (k+1)):=by
 have hlt:k<a.length:=by
  rcases Nat.lt_or_ge k a.length with h2 | h2
  ·exact h2
  ·exact absurd (by rw [List.drop_of_length_le h2,List.drop_of_length_le (by omega)]) h
 refine ⟨hlt,fun he h2=>h ?_⟩
 rw [List.drop_eq_getElem_cons hlt,List.drop_eq_getElem_cons (by omega:k<b.length),h2]
 rw [List.getD_eq_getElem?_getD,List.getD_eq_getElem?_getD,List.getElem?_eq_getElem hlt,List.getElem?_eq_getElem (by omega:k<b.length)] at he
 simp only [Option.getD_some] at he
 rw [he]
structure snE_T where
 i:Int
def zc0:List Atom:=[.sl 0 (.o (.g [.h 0,.h 1])),.sl 1 (.o (.g [.h 2,.h 3])),.sl 2 (.o (.c (.p 0 0))),.sl 3 (.o (.c (.p 1 0))),.sl 5 (.o (.c (.h 8))),.sl 6 (.o (.c (.p 0 0))),.sl 7 (.o (.c (.h 0))),.sl 8 (.o (.c (.p 1 0))),.sl 9 (.o (.c (.h 2))),.sl 10 (.o (.c (.h 4))),.sl 11 (.o (.c (.h 4))),.sl 12 (.o (.c (.p 0 1))),.sl 13 (.o (.c (.h 1))),.sl 14 (.o (.c (.h 5))),.sl 15 (.o (.c (.p 1 1))),.sl 16 (.o (.c (.h 3))),.sl 17 (.o (.c (.h 6))),.sl 18 (.o (.c (.h 7))),.sl 19 (.o (.c (.h 7))),.bx 0 26 [.h 0,.h 1],.bx 1 26 [.h 2,.h 3]]
def snE_S:LoopS:=⟨4,[.sl 0 (.o (.g [.h 0,.h 1])),.sl 1 (.o (.g [.h 2,.h 3])),.sl 2 (.o (.c (.p 0 0))),.sl 3 (.o (.c (.p 1 0))),.sl 5 (.o (.c (.k (.int .i64 0)))),.sl 6 (.o (.c (.p 0 0))),.sl 7 (.o (.c (.h 0))),.sl 8 (.o (.c (.p 1 0))),.sl 9 (.o (.c (.h 2))),.sl 10 (.o (.c (.h 4))),.sl 11 (.o (.c (.h 4))),.sl 12 (.o (.c (.p 0 1))),.sl 13 (.o (.c (.h 1))),.sl 14 (.o (.c (.h 5))),.sl 15 (.o (.c (.p 1 1))),.sl 16 (.o (.c (.h 3))),.sl 17 (.o (.c (.h 6))),.sl 18 (.o (.c (.h 7))),.sl 19 (.o (.c (.h 7))),.bx 0 26 [.h 0,.h 1],.bx 1 26 [.h 2,.h 3]],(.x 0),[.sl 0 (.o (.g [.h 0,.h 1])),.sl 1 (.o (.g [.h 2,.h 3])),.sl 2 (.o (.c (.p 0 0))),.sl 3 (.o (.c (.p 1 0))),.sl 6 (.o (.c (.p 0 0))),.sl 7 (.o (.c (.h 0))),.sl 8 (.o (.c (.p 1 0))),.sl 9 (.o (.c (.h 2))),.sl 10 (.o (.c (.h 4))),.sl 11 (.o (.c (.h 4))),.sl 12 (.o (.c (.p 0 1))),.sl 13 (.o (.c (.h 1))),.sl 14 (.o (.c (.h 5))),.sl 15 (.o (.c (.p 1 1))),.sl 16 (.o (.c (.h 3))),.sl 17 (.o (.c (.h 6))),.sl 18 (.o (.c (.h 7))),.sl 19 (.o (.c (.h 7))),.bx 0 26 [.h 0,.h 1],.bx 1 26 [.h 2,.h 3]]⟩
theorem zwZ {w0:World} (x:Raw) (y:Raw) (v1:Bool) (v3:Int) (v4:Int) (v5:Bool) (h2:v1=false) (h6:v5=false) (i:Int) (v501:Int) (v502:Bool) (n504:Nat) (x505:Nat) (n508:Nat) (x509:Nat) (v512:Bool) (v514:Int) (e501:((x.2.length:Int))=v501) (e502:(decide (i<v501))=v502) (e512:((((x505:Nat):Int) != ((x509:Nat):Int)))=v512) (e514:(IntKind.i64.wrap (i+(1:Int)))=v514) (h503:v502=true) (s506:i=(n504:Int)) (s507:x.2[n504]?=some x505) (s510:i=(n508:Int)) (s511:y.2[n508]?=some x509) (h513:v512=false) (i':Int) (q0:(v514)=i') (R:Frm) (hR:R.pm=⟨ntOf Tryz.prog 63,[],[]⟩):Goes (KN w0) Tryz.prog R (lp Tryz.prog 63 0) (FL [pB x.1,pD x.2,pB y.1,pD y.2,pB v1,pI v3,pI v4,pB v5,pI i] []) zc0 .n (FL [pB x.1,pD x.2,pB y.1,pD y.2,pB v1,pI v3,pI v4,pB v5,pI i'] []) zc0:=
 goes (Fb:=FL [pB x.1,pD x.2,pB y.1,pD y.2,pB v1,pI v3,pI v4,pB v5,pI i,pI v501,pB v502,pDP x505,pDP x509,pB v512,pI v514] [] [(5000,pV (.int .u32 ((x505:Nat):Int))),(5001,pV (.int .u32 ((x509:Nat):Int)))]) (stb:=zc0) (tl:=[.sl 0 (.o (.g [.h 0,.h 1])),.sl 1 (.o (.g [.h 2,.h 3])),.sl 2 (.o (.c (.p 0 0))),.sl 3 (.o (.c (.p 1 0))),.sl 5 (.o (.c (.h 14))),.sl 6 (.o (.c (.p 0 0))),.sl 7 (.o (.c (.h 0))),.sl 8 (.o (.c (.p 1 0))),.sl 9 (.o (.c (.h 2))),.sl 10 (.o (.c (.h 4))),.sl 11 (.o (.c (.h 4))),.sl 12 (.o (.c (.p 0 1))),.sl 13 (.o (.c (.h 1))),.sl 14 (.o (.c (.h 5))),.sl 15 (.o (.c (.p 1 1))),.sl 16 (.o (.c (.h 3))),.sl 17 (.o (.c (.h 6))),.sl 18 (.o (.c (.h 7))),.sl 19 (.o (.c (.h 7))),.bx 0 26 [.h 0,.h 1],.bx 1 26 [.h 2,.h 3]]) (C:=[(10004,.fb 4 false),
  (10007,.fb 7 false),
  (1005003,.op (.len [24] 3) [LF (.h 1)] [] (LF (.h 9))),
  (1005004,.bin .lss 3 (LF (.h 8)) (LF (.h 9)) (LF (.h 10))),
  (10010,.fb 10 true),
  (1005008,.op (.ia 24) [LF (.h 1),LF (.h 8)] [] (LF (.h 11))),
  (1005009,.op (.ld 84) [LF (.h 11)] [] (LF (.h 5000))),
  (1005013,.op (.ia 24) [LF (.h 3),LF (.h 8)] [] (LF (.h 12))),
  (1005014,.op (.ld 84) [LF (.h 12)] [] (LF (.h 5001))),
  (1005015,.bin .neq 84 (LF (.h 5000)) (LF (.h 5001)) (LF (.h 13))),
  (10013,.fb 13 false),
  (1005017,.bin .add 3 (LF (.h 8)) (LF (.k (.int .i64 1))) (LF (.h 14)))]) (H:=.no) 5000 (zipA.imp ⟨z_g ⟨fun _ _ _ h=>h,fun _ _ _ h=>h,trivial⟩,z_g ⟨fun _ _ _ h=>h,fun _ _ _ h=>h,trivial⟩,z_c (fun _ _ _ h=>h),z_c (fun _ _ _ h=>h),z_c (fun _ _ _ h=>h),z_c (fun _ _ _ h=>h),z_c (fun _ _ _ h=>h),z_c (fun _ _ _ h=>h),z_c (fun _ _ _ h=>h),z_c (fun _ _ _ h=>h),z_c (fun _ _ _ h=>h),z_c (fun _ _ _ h=>h),z_c (fun _ _ _ h=>h),z_c (fun _ _ _ h=>h),z_c (fun _ _ _ h=>h),z_c (fun _ _ _ h=>h),z_c (fun _ _ _ h=>h),z_c (fun _ _ _ h=>h),z_c (fun _ _ _ h=>h),z_b ⟨fun _ _ _ h=>h,fun _ _ _ h=>h,trivial⟩,z_b ⟨fun _ _ _ h=>h,fun _ _ _ h=>h,trivial⟩,trivial⟩) (zm ⟨za rfl,ze,za rfl,ze,za rfl,za rfl,za rfl,za rfl,za rfl,za rfl,za rfl,zeo,zeo,za rfl,za rfl,trivial⟩ trivial ⟨⟨rfl,zg6⟩,⟨rfl,zg6⟩,trivial⟩) ⟨e_fb (show pV (.bool v1)=_ by rw [h2]),
  e_fb (show pV (.bool v5)=_ by rw [h6]),
  zcC (E:=84) (by kernel_rfl) (zd rfl) (zb (by rw [← e501];rfl)),
  e_bin (zb rfl) (zb rfl) (zb rfl) (r_cmp (congrArg some e502)),
  e_fb (show pV (.bool v502)=_ by rw [h503]),
  e_iaD (E:=84) (by kernel_rfl) (by kernel_rfl) (zd rfl) (zb rfl) s506 s507 (zd rfl),
  e_ldD (by kernel_rfl) (zd rfl) (zb rfl),
  e_iaD (E:=84) (by kernel_rfl) (by kernel_rfl) (zd rfl) (zb rfl) s510 s511 (zd rfl),
  e_ldD (by kernel_rfl) (zd rfl) (zb rfl),
  e_bin (zb rfl) (zb rfl) (zb rfl) (r_cmp (congrArg some e512)),
  e_fb (show pV (.bool v512)=_ by rw [h513]),
  e_bin (zb rfl) zg (zb rfl) (r_ar (congrArg some e514)),
  trivial⟩ mixed hR trivial (fun _ _ _ hs=>by cases hs) (by kernel_rfl:q7 (KN w0) Tryz.prog _ .no ⟨ntOf Tryz.prog 63,[],[]⟩ (lp Tryz.prog 63 0) 5000 zc0 .n [.sl 0 (.o (.g [.h 0,.h 1])),.sl 1 (.o (.g [.h 2,.h 3])),.sl 2 (.o (.c (.p 0 0))),.sl 3 (.o (.c (.p 1 0))),.sl 5 (.o (.c (.h 14))),.sl 6 (.o (.c (.p 0 0))),.sl 7 (.o (.c (.h 0))),.sl 8 (.o (.c (.p 1 0))),.sl 9 (.o (.c (.h 2))),.sl 10 (.o (.c (.h 4))),.sl 11 (.o (.c (.h 4))),.sl 12 (.o (.c (.p 0 1))),.sl 13 (.o (.c (.h 1))),.sl 14 (.o (.c (.h 5))),.sl 15 (.o (.c (.p 1 1))),.sl 16 (.o (.c (.h 3))),.sl 17 (.o (.c (.h 6))),.sl 18 (.o (.c (.h 7))),.sl 19 (.o (.c (.h 7))),.bx 0 26 [.h 0,.h 1],.bx 1 26 [.h 2,.h 3]]=true) rfl (zipA.imp ⟨z_g ⟨fun _ _ _ h=>h,fun _ _ _ h=>h,trivial⟩,z_g ⟨fun _ _ _ h=>h,fun _ _ _ h=>h,trivial⟩,z_c (fun _ _ _ h=>h),z_c (fun _ _ _ h=>h),z_c (fun β v W h=>(zd rfl β v W).2 (by rw [← q0];exact h)),z_c (fun _ _ _ h=>h),z_c (fun _ _ _ h=>h),z_c (fun _ _ _ h=>h),z_c (fun _ _ _ h=>h),z_c (fun _ _ _ h=>h),z_c (fun _ _ _ h=>h),z_c (fun _ _ _ h=>h),z_c (fun _ _ _ h=>h),z_c (fun _ _ _ h=>h),z_c (fun _ _ _ h=>h),z_c (fun _ _ _ h=>h),z_c (fun _ _ _ h=>h),z_c (fun _ _ _ h=>h),z_c (fun _ _ _ h=>h),z_b ⟨fun _ _ _ h=>h,fun _ _ _ h=>h,trivial⟩,z_b ⟨fun _ _ _ h=>h,fun _ _ _ h=>h,trivial⟩,trivial⟩)
theorem zw0 {w0:World} (x:Raw) (y:Raw) (v1:Bool) (v3:Int) (v4:Int) (v5:Bool) (h2:v1=false) (h6:v5=false) (i:Int) (v501:Int) (v502:Bool) (e501:((x.2.length:Int))=v501) (e502:(decide (i<v501))=v502) (h503:v502=false) (F:Fact) (u0:F.c 0=pB x.1) (u1:F.c 1=pD x.2) (u2:F.c 2=pB y.1) (u3:F.c 3=pD y.2) (u4:F.c 4=pB v1) (u5:F.c 5=pI v3) (u6:F.c 6=pI v4) (u7:F.c 7=pB v5) (R:Frm) (hR:R.pm=⟨ntOf Tryz.prog 63,[],[]⟩):Goes (KN w0) Tryz.prog R (lp Tryz.prog 63 0) (FL [pB x.1,pD x.2,pB y.1,pD y.2,pB v1,pI v3,pI v4,pB v5,pI i] []) zc0 (.x 0) F snE_S.out:=
 goes (Fb:=FL [pB x.1,pD x.2,pB y.1,pD y.2,pB v1,pI v3,pI v4,pB v5,pI i,pI v501,pB v502] []) (stb:=zc0) (tl:=[.sl 0 (.o (.g [.h 0,.h 1])),.sl 1 (.o (.g [.h 2,.h 3])),.sl 2 (.o (.c (.p 0 0))),.sl 3 (.o (.c (.p 1 0))),.sl 6 (.o (.c (.p 0 0))),.sl 7 (.o (.c (.h 0))),.sl 8 (.o (.c (.p 1 0))),.sl 9 (.o (.c (.h 2))),.sl 10 (.o (.c (.h 4))),.sl 11 (.o (.c (.h 4))),.sl 12 (.o (.c (.p 0 1))),.sl 13 (.o (.c (.h 1))),.sl 14 (.o (.c (.h 5))),.sl 15 (.o (.c (.p 1 1))),.sl 16 (.o (.c (.h 3))),.sl 17 (.o (.c (.h 6))),.sl 18 (.o (.c (.h 7))),.sl 19 (.o (.c (.h 7))),.bx 0 26 [.h 0,.h 1],.bx 1 26 [.h 2,.h 3]]) (C:=[(10004,.fb 4 false),
  (10007,.fb 7 false),
  (1005003,.op (.len [24] 3) [LF (.h 1)] [] (LF (.h 9))),
  (1005004,.bin .lss 3 (LF (.h 8)) (LF (.h 9)) (LF (.h 10))),
  (10010,.fb 10 false)]) (H:=.no) 5000 (zipA.imp ⟨z_g ⟨fun _ _ _ h=>h,fun _ _ _ h=>h,trivial⟩,z_g ⟨fun _ _ _ h=>h,fun _ _ _ h=>h,trivial⟩,z_c (fun _ _ _ h=>h),z_c (fun _ _ _ h=>h),z_c (fun _ _ _ h=>h),z_c (fun _ _ _ h=>h),z_c (fun _ _ _ h=>h),z_c (fun _ _ _ h=>h),z_c (fun _ _ _ h=>h),z_c (fun _ _ _ h=>h),z_c (fun _ _ _ h=>h),z_c (fun _ _ _ h=>h),z_c (fun _ _ _ h=>h),z_c (fun _ _ _ h=>h),z_c (fun _ _ _ h=>h),z_c (fun _ _ _ h=>h),z_c (fun _ _ _ h=>h),z_c (fun _ _ _ h=>h),z_c (fun _ _ _ h=>h),z_b ⟨fun _ _ _ h=>h,fun _ _ _ h=>h,trivial⟩,z_b ⟨fun _ _ _ h=>h,fun _ _ _ h=>h,trivial⟩,trivial⟩) (zm ⟨za rfl,ze,za rfl,ze,za rfl,za rfl,za rfl,za rfl,za rfl,za rfl,za rfl,trivial⟩) ⟨e_fb (show pV (.bool v1)=_ by rw [h2]),
  e_fb (show pV (.bool v5)=_ by rw [h6]),
  zcC (E:=84) (by kernel_rfl) (zd rfl) (zb (by rw [← e501];rfl)),
  e_bin (zb rfl) (zb rfl) (zb rfl) (r_cmp (congrArg some e502)),
  e_fb (show pV (.bool v502)=_ by rw [h503]),
  trivial⟩ mixed hR trivial (fun _ _ _ hs=>by cases hs) (by kernel_rfl:q7 (KN w0) Tryz.prog _ .no ⟨ntOf Tryz.prog 63,[],[]⟩ (lp Tryz.prog 63 0) 5000 zc0 (.x 0) [.sl 0 (.o (.g [.h 0,.h 1])),.sl 1 (.o (.g [.h 2,.h 3])),.sl 2 (.o (.c (.p 0 0))),.sl 3 (.o (.c (.p 1 0))),.sl 6 (.o (.c (.p 0 0))),.sl 7 (.o (.c (.h 0))),.sl 8 (.o (.c (.p 1 0))),.sl 9 (.o (.c (.h 2))),.sl 10 (.o (.c (.h 4))),.sl 11 (.o (.c (.h 4))),.sl 12 (.o (.c (.p 0 1))),.sl 13 (.o (.c (.h 1))),.sl 14 (.o (.c (.h 5))),.sl 15 (.o (.c (.p 1 1))),.sl 16 (.o (.c (.h 3))),.sl 17 (.o (.c (.h 6))),.sl 18 (.o (.c (.h 7))),.sl 19 (.o (.c (.h 7))),.bx 0 26 [.h 0,.h 1],.bx 1 26 [.h 2,.h 3]]=true) rfl (zipA.imp ⟨z_g ⟨fun β v W h=>(zd u0 β v W).2 h,fun β v W h=>(zd u1 β v W).2 h,trivial⟩,z_g ⟨fun β v W h=>(zd u2 β v W).2 h,fun β v W h=>(zd u3 β v W).2 h,trivial⟩,z_c (fun _ _ _ h=>h),z_c (fun _ _ _ h=>h),z_c (fun _ _ _ h=>h),z_c (fun β v W h=>(zd u0 β v W).2 h),z_c (fun _ _ _ h=>h),z_c (fun β v W h=>(zd u2 β v W).2 h),z_c (fun β v W h=>(zd u4 β v W).2 h),z_c (fun β v W h=>(zd u4 β v W).2 h),z_c (fun _ _ _ h=>h),z_c (fun β v W h=>(zd u1 β v W).2 h),z_c (fun β v W h=>(zd u5 β v W).2 h),z_c (fun _ _ _ h=>h),z_c (fun β v W h=>(zd u3 β v W).2 h),z_c (fun β v W h=>(zd u6 β v W).2 h),z_c (fun β v W h=>(zd u7 β v W).2 h),z_c (fun β v W h=>(zd u7 β v W).2 h),z_b ⟨fun β v W h=>(zd u0 β v W).2 h,fun β v W h=>(zd u1 β v W).2 h,trivial⟩,z_b ⟨fun β v W h=>(zd u2 β v W).2 h,fun β v W h=>(zd u3 β v W).2 h,trivial⟩,trivial⟩)
def snE_X (x:Raw) (y:Raw) (v1:Bool) (v3:Int) (v4:Int) (v5:Bool) (t:snE_T):Prop:=(∃(v501:Int),∃(v502:Bool),(((x.2.length:Int))=v501)∧((decide (t.i<v501))=v502)∧(v502=false)∧True)
def snE_N (x:Raw) (y:Raw) (v1:Bool) (v3:Int) (v4:Int) (v5:Bool) (t t':snE_T):Prop:=(∃(v501:Int),∃(v502:Bool),∃(n504:Nat),∃(x505:Nat),∃(n508:Nat),∃(x509:Nat),∃(v512:Bool),∃(v514:Int),(((x.2.length:Int))=v501)∧((decide (t.i<v501))=v502)∧(((((x505:Nat):Int) != ((x509:Nat):Int)))=v512)∧((IntKind.i64.wrap (t.i+(1:Int)))=v514)∧(v502=true)∧(t.i=(n504:Int))∧(x.2[n504]?=some x505)∧(t.i=(n508:Int))∧(y.2[n508]?=some x509)∧(v512=false)∧((v514)=t'.i)∧True)
theorem zss {w0:World} (x:Raw) (y:Raw) (v1:Bool) (v3:Int) (v4:Int) (v5:Bool) (h2:v1=false) (h6:v5=false) {F:Fact} (u0:F.c 0=pB x.1) (u1:F.c 1=pD x.2) (u2:F.c 2=pB y.1) (u3:F.c 3=pD y.2) (u4:F.c 4=pB v1) (u5:F.c 5=pI v3) (u6:F.c 6=pI v4) (u7:F.c 7=pB v5) (R:Frm) (hR:R.pm=⟨ntOf Tryz.prog 63,[],[]⟩) (J:snE_T→Prop) (m:snE_T→Nat) (hJ:J { i:=(0:Int) }) (rounds:∀t,J t→snE_X x y v1 v3 v4 v5 t ∨∃t',snE_N x y v1 v3 v4 v5 t t'∧m t'<m t∧J t'):zB (KN w0) Tryz.prog F R snE_S (lp Tryz.prog 63 0):=by
 refine za1 (T:=snE_T) (fun t=>FL [pB x.1,pD x.2,pB y.1,pD y.2,pB v1,pI v3,pI v4,pB v5,pI t.i] []) J m { i:=(0:Int) } zc0 hJ (zipA.imp ⟨z_g ⟨fun β v W h=>(zd u0 β v W).1 h,fun β v W h=>(zd u1 β v W).1 h,trivial⟩,z_g ⟨fun β v W h=>(zd u2 β v W).1 h,fun β v W h=>(zd u3 β v W).1 h,trivial⟩,z_c (fun _ _ _ h=>h),z_c (fun _ _ _ h=>h),z_c (fun _ _ _ h=>h),z_c (fun _ _ _ h=>h),z_c (fun β v W h=>(zd u0 β v W).1 h),z_c (fun _ _ _ h=>h),z_c (fun β v W h=>(zd u2 β v W).1 h),z_c (fun β v W h=>(zd u4 β v W).1 h),z_c (fun β v W h=>(zd u4 β v W).1 h),z_c (fun _ _ _ h=>h),z_c (fun β v W h=>(zd u1 β v W).1 h),z_c (fun β v W h=>(zd u5 β v W).1 h),z_c (fun _ _ _ h=>h),z_c (fun β v W h=>(zd u3 β v W).1 h),z_c (fun β v W h=>(zd u6 β v W).1 h),z_c (fun β v W h=>(zd u7 β v W).1 h),z_c (fun β v W h=>(zd u7 β v W).1 h),z_b ⟨fun β v W h=>(zd u0 β v W).1 h,fun β v W h=>(zd u1 β v W).1 h,trivial⟩,z_b ⟨fun β v W h=>(zd u2 β v W).1 h,fun β v W h=>(zd u3 β v W).1 h,trivial⟩,trivial⟩) rfl fun t ht=>?_
 rcases rounds t ht with hz_ | ⟨t',hz_,hm_,hj_⟩
 ·refine .inl ?_
  rcases hz_ with ⟨v501,v502,e501,e502,h503,_⟩
  ·exact zw0  x y v1 v3 v4 v5 h2 h6 t.i v501 v502 e501 e502 h503  F u0 u1 u2 u3 u4 u5 u6 u7  R hR
 ·refine .inr ⟨t',hm_,hj_,?_⟩
  rcases hz_ with ⟨v501,v502,n504,x505,n508,x509,v512,v514,e501,e502,e512,e514,h503,s506,s507,s510,s511,h513,q0,_⟩
  ·exact zwZ  x y v1 v3 v4 v5 h2 h6 t.i v501 v502 n504 x505 n508 x509 v512 v514 e501 e502 e512 e514 h503 s506 s507 s510 s511 h513 t'.i q0 R hR
theorem zwY {w0:World} (x:Raw) (y:Raw) (v1:Bool) (v3:Int) (v4:Int) (v5:Bool) (h2:v1=false) (h6:v5=false) {F:Fact} (u0:F.c 0=pB x.1) (u1:F.c 1=pD x.2) (u2:F.c 2=pB y.1) (u3:F.c 3=pD y.2) (u4:F.c 4=pB v1) (u5:F.c 5=pI v3) (u6:F.c 6=pI v4) (u7:F.c 7=pB v5) (R:Frm) (hR:R.pm=⟨ntOf Tryz.prog 63,[],[]⟩) (hl:x.2.length=y.2.length) (hb:x.2.length≤9223372036854775807) (he:x.2=y.2):zB (KN w0) Tryz.prog F R snE_S (lp Tryz.prog 63 0):=by
 refine zss  x y v1 v3 v4 v5 h2 h6  u0 u1 u2 u3 u4 u5 u6 u7 R hR (fun ⟨i⟩=>∃n:Nat,i=(n:Int)∧n≤x.2.length) (fun ⟨i⟩=>(x.2.length - i).toNat) ⟨0,rfl,Nat.zero_le _⟩ fun t hJ=>?_
 obtain ⟨i⟩:=t
 dsimp only at hJ
 obtain ⟨n,hi,hn⟩:=hJ
 obtain ⟨v501,e501⟩:∃v,((x.2.length:Int))=v:=⟨_,rfl⟩
 obtain ⟨v502,e502⟩:∃v,(decide (i<v501))=v:=⟨_,rfl⟩
 cases h503:v502 with
 | true =>
  obtain ⟨n504,x505,s506,s507⟩:∃(n504:Nat) (x505:Nat),i=(n504:Int)∧x.2[n504]?=some x505:=by (have hlt:n<x.2.length:=(by subst e501;subst e502;have:=of_decide_eq_true h503;omega);exact ⟨n,x.2[n],hi,List.getElem?_eq_getElem hlt⟩)
  obtain ⟨n508,x509,s510,s511⟩:∃(n508:Nat) (x509:Nat),i=(n508:Int)∧y.2[n508]?=some x509:=by (have hlt:n<x.2.length:=(by subst e501;subst e502;have:=of_decide_eq_true h503;omega);have hl2:n<y.2.length:=(by omega);exact ⟨n,y.2[n],hi,List.getElem?_eq_getElem hl2⟩)
  obtain ⟨v512,e512⟩:∃v,((((x505:Nat):Int) != ((x509:Nat):Int)))=v:=⟨_,rfl⟩
  cases h513:v512 with
  | true =>
   exfalso
   have e:n504=n508:=by omega
   subst e
   rw [he,s511] at s507
   injection s507 with s507
   subst s507;subst e512;simp at h513
  | false =>
   obtain ⟨v514,e514⟩:∃v,(IntKind.i64.wrap (i+(1:Int)))=v:=⟨_,rfl⟩
   refine .inr ⟨⟨v514⟩,⟨v501,v502,n504,x505,n508,x509,v512,v514,e501,e502,e512,e514,h503,s506,s507,s510,s511,h513,rfl,trivial⟩,?_,?_⟩
   all_goals (subst e501;subst e502;have hlt:=of_decide_eq_true h503;subst hi;have hw:IntKind.i64.wrap ((n:Int)+1)=((n+1:Nat):Int):=wr64 (by omega);rw [hw] at e514;subst e514)
   ·show ((x.2.length:Int) - ((n+1:Nat):Int)).toNat<((x.2.length:Int) - (n:Int)).toNat
    omega
   ·exact ⟨n+1,rfl,by omega⟩
 | false =>
  refine .inl (⟨v501,v502,e501,e502,h503,trivial⟩)
structure snR_T where
 i:Int
def zc1:List Atom:=[.sl 0 (.o (.g [.h 0,.h 1])),.sl 1 (.o (.g [.h 2,.h 3])),.sl 2 (.o (.c (.p 0 0))),.sl 3 (.o (.c (.p 1 0))),.sl 5 (.o (.c (.h 8))),.sl 6 (.o (.c (.p 0 0))),.sl 7 (.o (.c (.h 0))),.sl 8 (.o (.c (.p 1 0))),.sl 9 (.o (.c (.h 2))),.sl 10 (.o (.c (.h 4))),.sl 11 (.o (.c (.h 4))),.sl 12 (.o (.c (.p 0 1))),.sl 13 (.o (.c (.h 1))),.sl 14 (.o (.c (.h 5))),.sl 15 (.o (.c (.p 1 1))),.sl 16 (.o (.c (.h 3))),.sl 17 (.o (.c (.h 6))),.sl 18 (.o (.c (.h 7))),.sl 19 (.o (.c (.h 7))),.bx 0 26 [.h 0,.h 1],.bx 1 26 [.h 2,.h 3]]
def snR_S:LoopS:=⟨4,[.sl 0 (.o (.g [.h 0,.h 1])),.sl 1 (.o (.g [.h 2,.h 3])),.sl 2 (.o (.c (.p 0 0))),.sl 3 (.o (.c (.p 1 0))),.sl 5 (.o (.c (.k (.int .i64 0)))),.sl 6 (.o (.c (.p 0 0))),.sl 7 (.o (.c (.h 0))),.sl 8 (.o (.c (.p 1 0))),.sl 9 (.o (.c (.h 2))),.sl 10 (.o (.c (.h 4))),.sl 11 (.o (.c (.h 4))),.sl 12 (.o (.c (.p 0 1))),.sl 13 (.o (.c (.h 1))),.sl 14 (.o (.c (.h 5))),.sl 15 (.o (.c (.p 1 1))),.sl 16 (.o (.c (.h 3))),.sl 17 (.o (.c (.h 6))),.sl 18 (.o (.c (.h 7))),.sl 19 (.o (.c (.h 7))),.bx 0 26 [.h 0,.h 1],.bx 1 26 [.h 2,.h 3]],.r,[.sl 0 (.o (.g [.h 0,.h 1])),.sl 1 (.o (.g [.h 2,.h 3])),.sl 2 (.o (.c (.p 0 0))),.sl 3 (.o (.c (.p 1 0))),.sl 4 (.o (.c (.h 8))),.sl 6 (.o (.c (.p 0 0))),.sl 7 (.o (.c (.h 0))),.sl 8 (.o (.c (.p 1 0))),.sl 9 (.o (.c (.h 2))),.sl 10 (.o (.c (.h 4))),.sl 11 (.o (.c (.h 4))),.sl 12 (.o (.c (.p 0 1))),.sl 13 (.o (.c (.h 1))),.sl 14 (.o (.c (.h 5))),.sl 15 (.o (.c (.p 1 1))),.sl 16 (.o (.c (.h 3))),.sl 17 (.o (.c (.h 6))),.sl 18 (.o (.c (.h 7))),.sl 19 (.o (.c (.h 7))),.bx 0 26 [.h 0,.h 1],.bx 1 26 [.h 2,.h 3]]⟩
theorem zw2 {w0:World} (x:Raw) (y:Raw) (v1:Bool) (v3:Int) (v4:Int) (v5:Bool) (h2:v1=false) (h6:v5=false) (i:Int) (v501:Int) (v502:Bool) (n504:Nat) (x505:Nat) (n508:Nat) (x509:Nat) (v512:Bool) (e501:((x.2.length:Int))=v501) (e502:(decide (i<v501))=v502) (e512:((((x505:Nat):Int) != ((x509:Nat):Int)))=v512) (h503:v502=true) (s506:i=(n504:Int)) (s507:x.2[n504]?=some x505) (s510:i=(n508:Int)) (s511:y.2[n508]?=some x509) (h513:v512=true) (o4:Bool) (F:Fact) (u0:F.c 0=pB x.1) (u1:F.c 1=pD x.2) (u2:F.c 2=pB y.1) (u3:F.c 3=pD y.2) (u4:F.c 4=pB v1) (u5:F.c 5=pI v3) (u6:F.c 6=pI v4) (u7:F.c 7=pB v5) (u8:F.c 8=pB o4) (q0:(false)=o4) (R:Frm) (hR:R.pm=⟨ntOf Tryz.prog 63,[],[]⟩):Goes (KN w0) Tryz.prog R (lp Tryz.prog 63 0) (FL [pB x.1,pD x.2,pB y.1,pD y.2,pB v1,pI v3,pI v4,pB v5,pI i] []) zc1 .r F snR_S.out:=
 goes (Fb:=FL [pB x.1,pD x.2,pB y.1,pD y.2,pB v1,pI v3,pI v4,pB v5,pI i,pI v501,pB v502,pDP x505,pDP x509,pB v512] [] [(5000,pV (.int .u32 ((x505:Nat):Int))),(5001,pV (.int .u32 ((x509:Nat):Int)))]) (stb:=zc1) (tl:=[.sl 0 (.o (.g [.h 0,.h 1])),.sl 1 (.o (.g [.h 2,.h 3])),.sl 2 (.o (.c (.p 0 0))),.sl 3 (.o (.c (.p 1 0))),.sl 4 (.o (.c (.k (.bool false)))),.sl 6 (.o (.c (.p 0 0))),.sl 7 (.o (.c (.h 0))),.sl 8 (.o (.c (.p 1 0))),.sl 9 (.o (.c (.h 2))),.sl 10 (.o (.c (.h 4))),.sl 11 (.o (.c (.h 4))),.sl 12 (.o (.c (.p 0 1))),.sl 13 (.o (.c (.h 1))),.sl 14 (.o (.c (.h 5))),.sl 15 (.o (.c (.p 1 1))),.sl 16 (.o (.c (.h 3))),.sl 17 (.o (.c (.h 6))),.sl 18 (.o (.c (.h 7))),.sl 19 (.o (.c (.h 7))),.bx 0 26 [.h 0,.h 1],.bx 1 26 [.h 2,.h 3]]) (C:=[(10004,.fb 4 false),
  (10007,.fb 7 false),
  (1005003,.op (.len [24] 3) [LF (.h 1)] [] (LF (.h 9))),
  (1005004,.bin .lss 3 (LF (.h 8)) (LF (.h 9)) (LF (.h 10))),
  (10010,.fb 10 true),
  (1005008,.op (.ia 24) [LF (.h 1),LF (.h 8)] [] (LF (.h 11))),
  (1005009,.op (.ld 84) [LF (.h 11)] [] (LF (.h 5000))),
  (1005013,.op (.ia 24) [LF (.h 3),LF (.h 8)] [] (LF (.h 12))),
  (1005014,.op (.ld 84) [LF (.h 12)] [] (LF (.h 5001))),
  (1005015,.bin .neq 84 (LF (.h 5000)) (LF (.h 5001)) (LF (.h 13))),
  (10013,.fb 13 true)]) (H:=.no) 5000 (zipA.imp ⟨z_g ⟨fun _ _ _ h=>h,fun _ _ _ h=>h,trivial⟩,z_g ⟨fun _ _ _ h=>h,fun _ _ _ h=>h,trivial⟩,z_c (fun _ _ _ h=>h),z_c (fun _ _ _ h=>h),z_c (fun _ _ _ h=>h),z_c (fun _ _ _ h=>h),z_c (fun _ _ _ h=>h),z_c (fun _ _ _ h=>h),z_c (fun _ _ _ h=>h),z_c (fun _ _ _ h=>h),z_c (fun _ _ _ h=>h),z_c (fun _ _ _ h=>h),z_c (fun _ _ _ h=>h),z_c (fun _ _ _ h=>h),z_c (fun _ _ _ h=>h),z_c (fun _ _ _ h=>h),z_c (fun _ _ _ h=>h),z_c (fun _ _ _ h=>h),z_c (fun _ _ _ h=>h),z_b ⟨fun _ _ _ h=>h,fun _ _ _ h=>h,trivial⟩,z_b ⟨fun _ _ _ h=>h,fun _ _ _ h=>h,trivial⟩,trivial⟩) (zm ⟨za rfl,ze,za rfl,ze,za rfl,za rfl,za rfl,za rfl,za rfl,za rfl,za rfl,zeo,zeo,za rfl,trivial⟩ trivial ⟨⟨rfl,zg6⟩,⟨rfl,zg6⟩,trivial⟩) ⟨e_fb (show pV (.bool v1)=_ by rw [h2]),
  e_fb (show pV (.bool v5)=_ by rw [h6]),
  zcC (E:=84) (by kernel_rfl) (zd rfl) (zb (by rw [← e501];rfl)),
  e_bin (zb rfl) (zb rfl) (zb rfl) (r_cmp (congrArg some e502)),
  e_fb (show pV (.bool v502)=_ by rw [h503]),
  e_iaD (E:=84) (by kernel_rfl) (by kernel_rfl) (zd rfl) (zb rfl) s506 s507 (zd rfl),
  e_ldD (by kernel_rfl) (zd rfl) (zb rfl),
  e_iaD (E:=84) (by kernel_rfl) (by kernel_rfl) (zd rfl) (zb rfl) s510 s511 (zd rfl),
  e_ldD (by kernel_rfl) (zd rfl) (zb rfl),
  e_bin (zb rfl) (zb rfl) (zb rfl) (r_cmp (congrArg some e512)),
  e_fb (show pV (.bool v512)=_ by rw [h513]),
  trivial⟩ mixed hR trivial (fun _ _ _ hs=>by cases hs) (by kernel_rfl:q7 (KN w0) Tryz.prog _ .no ⟨ntOf Tryz.prog 63,[],[]⟩ (lp Tryz.prog 63 0) 5000 zc1 .r [.sl 0 (.o (.g [.h 0,.h 1])),.sl 1 (.o (.g [.h 2,.h 3])),.sl 2 (.o (.c (.p 0 0))),.sl 3 (.o (.c (.p 1 0))),.sl 4 (.o (.c (.k (.bool false)))),.sl 6 (.o (.c (.p 0 0))),.sl 7 (.o (.c (.h 0))),.sl 8 (.o (.c (.p 1 0))),.sl 9 (.o (.c (.h 2))),.sl 10 (.o (.c (.h 4))),.sl 11 (.o (.c (.h 4))),.sl 12 (.o (.c (.p 0 1))),.sl 13 (.o (.c (.h 1))),.sl 14 (.o (.c (.h 5))),.sl 15 (.o (.c (.p 1 1))),.sl 16 (.o (.c (.h 3))),.sl 17 (.o (.c (.h 6))),.sl 18 (.o (.c (.h 7))),.sl 19 (.o (.c (.h 7))),.bx 0 26 [.h 0,.h 1],.bx 1 26 [.h 2,.h 3]]=true) rfl (zipA.imp ⟨z_g ⟨fun β v W h=>(zd u0 β v W).2 h,fun β v W h=>(zd u1 β v W).2 h,trivial⟩,z_g ⟨fun β v W h=>(zd u2 β v W).2 h,fun β v W h=>(zd u3 β v W).2 h,trivial⟩,z_c (fun _ _ _ h=>h),z_c (fun _ _ _ h=>h),z_c (fun β v W h=>(zd u8 β v W).2 (by rw [← q0];exact h)),z_c (fun _ _ _ h=>h),z_c (fun β v W h=>(zd u0 β v W).2 h),z_c (fun _ _ _ h=>h),z_c (fun β v W h=>(zd u2 β v W).2 h),z_c (fun β v W h=>(zd u4 β v W).2 h),z_c (fun β v W h=>(zd u4 β v W).2 h),z_c (fun _ _ _ h=>h),z_c (fun β v W h=>(zd u1 β v W).2 h),z_c (fun β v W h=>(zd u5 β v W).2 h),z_c (fun _ _ _ h=>h),z_c (fun β v W h=>(zd u3 β v W).2 h),z_c (fun β v W h=>(zd u6 β v W).2 h),z_c (fun β v W h=>(zd u7 β v W).2 h),z_c (fun β v W h=>(zd u7 β v W).2 h),z_b ⟨fun β v W h=>(zd u0 β v W).2 h,fun β v W h=>(zd u1 β v W).2 h,trivial⟩,z_b ⟨fun β v W h=>(zd u2 β v W).2 h,fun β v W h=>(zd u3 β v W).2 h,trivial⟩,trivial⟩)
theorem zw3 {w0:World} (x:Raw) (y:Raw) (v1:Bool) (v3:Int) (v4:Int) (v5:Bool) (h2:v1=false) (h6:v5=false) (i:Int) (v501:Int) (v502:Bool) (n504:Nat) (x505:Nat) (n508:Nat) (x509:Nat) (v512:Bool) (v514:Int) (e501:((x.2.length:Int))=v501) (e502:(decide (i<v501))=v502) (e512:((((x505:Nat):Int) != ((x509:Nat):Int)))=v512) (e514:(IntKind.i64.wrap (i+(1:Int)))=v514) (h503:v502=true) (s506:i=(n504:Int)) (s507:x.2[n504]?=some x505) (s510:i=(n508:Int)) (s511:y.2[n508]?=some x509) (h513:v512=false) (i':Int) (q0:(v514)=i') (R:Frm) (hR:R.pm=⟨ntOf Tryz.prog 63,[],[]⟩):Goes (KN w0) Tryz.prog R (lp Tryz.prog 63 0) (FL [pB x.1,pD x.2,pB y.1,pD y.2,pB v1,pI v3,pI v4,pB v5,pI i] []) zc1 .n (FL [pB x.1,pD x.2,pB y.1,pD y.2,pB v1,pI v3,pI v4,pB v5,pI i'] []) zc1:=
 goes (Fb:=FL [pB x.1,pD x.2,pB y.1,pD y.2,pB v1,pI v3,pI v4,pB v5,pI i,pI v501,pB v502,pDP x505,pDP x509,pB v512,pI v514] [] [(5000,pV (.int .u32 ((x505:Nat):Int))),(5001,pV (.int .u32 ((x509:Nat):Int)))]) (stb:=zc1) (tl:=[.sl 0 (.o (.g [.h 0,.h 1])),.sl 1 (.o (.g [.h 2,.h 3])),.sl 2 (.o (.c (.p 0 0))),.sl 3 (.o (.c (.p 1 0))),.sl 5 (.o (.c (.h 14))),.sl 6 (.o (.c (.p 0 0))),.sl 7 (.o (.c (.h 0))),.sl 8 (.o (.c (.p 1 0))),.sl 9 (.o (.c (.h 2))),.sl 10 (.o (.c (.h 4))),.sl 11 (.o (.c (.h 4))),.sl 12 (.o (.c (.p 0 1))),.sl 13 (.o (.c (.h 1))),.sl 14 (.o (.c (.h 5))),.sl 15 (.o (.c (.p 1 1))),.sl 16 (.o (.c (.h 3))),.sl 17 (.o (.c (.h 6))),.sl 18 (.o (.c (.h 7))),.sl 19 (.o (.c (.h 7))),.bx 0 26 [.h 0,.h 1],.bx 1 26 [.h 2,.h 3]]) (C:=[(10004,.fb 4 false),
  (10007,.fb 7 false),
  (1005003,.op (.len [24] 3) [LF (.h 1)] [] (LF (.h 9))),
  (1005004,.bin .lss 3 (LF (.h 8)) (LF (.h 9)) (LF (.h 10))),
  (10010,.fb 10 true),
  (1005008,.op (.ia 24) [LF (.h 1),LF (.h 8)] [] (LF (.h 11))),
  (1005009,.op (.ld 84) [LF (.h 11)] [] (LF (.h 5000))),
  (1005013,.op (.ia 24) [LF (.h 3),LF (.h 8)] [] (LF (.h 12))),
  (1005014,.op (.ld 84) [LF (.h 12)] [] (LF (.h 5001))),
  (1005015,.bin .neq 84 (LF (.h 5000)) (LF (.h 5001)) (LF (.h 13))),
  (10013,.fb 13 false),
  (1005017,.bin .add 3 (LF (.h 8)) (LF (.k (.int .i64 1))) (LF (.h 14)))]) (H:=.no) 5000 (zipA.imp ⟨z_g ⟨fun _ _ _ h=>h,fun _ _ _ h=>h,trivial⟩,z_g ⟨fun _ _ _ h=>h,fun _ _ _ h=>h,trivial⟩,z_c (fun _ _ _ h=>h),z_c (fun _ _ _ h=>h),z_c (fun _ _ _ h=>h),z_c (fun _ _ _ h=>h),z_c (fun _ _ _ h=>h),z_c (fun _ _ _ h=>h),z_c (fun _ _ _ h=>h),z_c (fun _ _ _ h=>h),z_c (fun _ _ _ h=>h),z_c (fun _ _ _ h=>h),z_c (fun _ _ _ h=>h),z_c (fun _ _ _ h=>h),z_c (fun _ _ _ h=>h),z_c (fun _ _ _ h=>h),z_c (fun _ _ _ h=>h),z_c (fun _ _ _ h=>h),z_c (fun _ _ _ h=>h),z_b ⟨fun _ _ _ h=>h,fun _ _ _ h=>h,trivial⟩,z_b ⟨fun _ _ _ h=>h,fun _ _ _ h=>h,trivial⟩,trivial⟩) (zm ⟨za rfl,ze,za rfl,ze,za rfl,za rfl,za rfl,za rfl,za rfl,za rfl,za rfl,zeo,zeo,za rfl,za rfl,trivial⟩ trivial ⟨⟨rfl,zg6⟩,⟨rfl,zg6⟩,trivial⟩) ⟨e_fb (show pV (.bool v1)=_ by rw [h2]),
  e_fb (show pV (.bool v5)=_ by rw [h6]),
  zcC (E:=84) (by kernel_rfl) (zd rfl) (zb (by rw [← e501];rfl)),
  e_bin (zb rfl) (zb rfl) (zb rfl) (r_cmp (congrArg some e502)),
  e_fb (show pV (.bool v502)=_ by rw [h503]),
  e_iaD (E:=84) (by kernel_rfl) (by kernel_rfl) (zd rfl) (zb rfl) s506 s507 (zd rfl),
  e_ldD (by kernel_rfl) (zd rfl) (zb rfl),
  e_iaD (E:=84) (by kernel_rfl) (by kernel_rfl) (zd rfl) (zb rfl) s510 s511 (zd rfl),
  e_ldD (by kernel_rfl) (zd rfl) (zb rfl),
  e_bin (zb rfl) (zb rfl) (zb rfl) (r_cmp (congrArg some e512)),
  e_fb (show pV (.bool v512)=_ by rw [h513]),
  e_bin (zb rfl) zg (zb rfl) (r_ar (congrArg some e514)),
  trivial⟩ mixed hR trivial (fun _ _ _ hs=>by cases hs) (by kernel_rfl:q7 (KN w0) Tryz.prog _ .no ⟨ntOf Tryz.prog 63,[],[]⟩ (lp Tryz.prog 63 0) 5000 zc1 .n [.sl 0 (.o (.g [.h 0,.h 1])),.sl 1 (.o (.g [.h 2,.h 3])),.sl 2 (.o (.c (.p 0 0))),.sl 3 (.o (.c (.p 1 0))),.sl 5 (.o (.c (.h 14))),.sl 6 (.o (.c (.p 0 0))),.sl 7 (.o (.c (.h 0))),.sl 8 (.o (.c (.p 1 0))),.sl 9 (.o (.c (.h 2))),.sl 10 (.o (.c (.h 4))),.sl 11 (.o (.c (.h 4))),.sl 12 (.o (.c (.p 0 1))),.sl 13 (.o (.c (.h 1))),.sl 14 (.o (.c (.h 5))),.sl 15 (.o (.c (.p 1 1))),.sl 16 (.o (.c (.h 3))),.sl 17 (.o (.c (.h 6))),.sl 18 (.o (.c (.h 7))),.sl 19 (.o (.c (.h 7))),.bx 0 26 [.h 0,.h 1],.bx 1 26 [.h 2,.h 3]]=true) rfl (zipA.imp ⟨z_g ⟨fun _ _ _ h=>h,fun _ _ _ h=>h,trivial⟩,z_g ⟨fun _ _ _ h=>h,fun _ _ _ h=>h,trivial⟩,z_c (fun _ _ _ h=>h),z_c (fun _ _ _ h=>h),z_c (fun β v W h=>(zd rfl β v W).2 (by rw [← q0];exact h)),z_c (fun _ _ _ h=>h),z_c (fun _ _ _ h=>h),z_c (fun _ _ _ h=>h),z_c (fun _ _ _ h=>h),z_c (fun _ _ _ h=>h),z_c (fun _ _ _ h=>h),z_c (fun _ _ _ h=>h),z_c (fun _ _ _ h=>h),z_c (fun _ _ _ h=>h),z_c (fun _ _ _ h=>h),z_c (fun _ _ _ h=>h),z_c (fun _ _ _ h=>h),z_c (fun _ _ _ h=>h),z_c (fun _ _ _ h=>h),z_b ⟨fun _ _ _ h=>h,fun _ _ _ h=>h,trivial⟩,z_b ⟨fun _ _ _ h=>h,fun _ _ _ h=>h,trivial⟩,trivial⟩)
def snR_X (x:Raw) (y:Raw) (v1:Bool) (v3:Int) (v4:Int) (v5:Bool) (t:snR_T) (o4:Bool):Prop:=(∃(v501:Int),∃(v502:Bool),∃(n504:Nat),∃(x505:Nat),∃(n508:Nat),∃(x509:Nat),∃(v512:Bool),(((x.2.length:Int))=v501)∧((decide (t.i<v501))=v502)∧(((((x505:Nat):Int) != ((x509:Nat):Int)))=v512)∧(v502=true)∧(t.i=(n504:Int))∧(x.2[n504]?=some x505)∧(t.i=(n508:Int))∧(y.2[n508]?=some x509)∧(v512=true)∧((false)=o4)∧True)
def snR_N (x:Raw) (y:Raw) (v1:Bool) (v3:Int) (v4:Int) (v5:Bool) (t t':snR_T):Prop:=(∃(v501:Int),∃(v502:Bool),∃(n504:Nat),∃(x505:Nat),∃(n508:Nat),∃(x509:Nat),∃(v512:Bool),∃(v514:Int),(((x.2.length:Int))=v501)∧((decide (t.i<v501))=v502)∧(((((x505:Nat):Int) != ((x509:Nat):Int)))=v512)∧((IntKind.i64.wrap (t.i+(1:Int)))=v514)∧(v502=true)∧(t.i=(n504:Int))∧(x.2[n504]?=some x505)∧(t.i=(n508:Int))∧(y.2[n508]?=some x509)∧(v512=false)∧((v514)=t'.i)∧True)
theorem zst {w0:World} (x:Raw) (y:Raw) (v1:Bool) (v3:Int) (v4:Int) (v5:Bool) (h2:v1=false) (h6:v5=false) (o4:Bool) {F:Fact} (u0:F.c 0=pB x.1) (u1:F.c 1=pD x.2) (u2:F.c 2=pB y.1) (u3:F.c 3=pD y.2) (u4:F.c 4=pB v1) (u5:F.c 5=pI v3) (u6:F.c 6=pI v4) (u7:F.c 7=pB v5) (u8:F.c 8=pB o4) (R:Frm) (hR:R.pm=⟨ntOf Tryz.prog 63,[],[]⟩) (J:snR_T→Prop) (m:snR_T→Nat) (hJ:J { i:=(0:Int) }) (rounds:∀t,J t→snR_X x y v1 v3 v4 v5 t o4∨∃t',snR_N x y v1 v3 v4 v5 t t'∧m t'<m t∧J t'):zB (KN w0) Tryz.prog F R snR_S (lp Tryz.prog 63 0):=by
 refine za1 (T:=snR_T) (fun t=>FL [pB x.1,pD x.2,pB y.1,pD y.2,pB v1,pI v3,pI v4,pB v5,pI t.i] []) J m { i:=(0:Int) } zc1 hJ (zipA.imp ⟨z_g ⟨fun β v W h=>(zd u0 β v W).1 h,fun β v W h=>(zd u1 β v W).1 h,trivial⟩,z_g ⟨fun β v W h=>(zd u2 β v W).1 h,fun β v W h=>(zd u3 β v W).1 h,trivial⟩,z_c (fun _ _ _ h=>h),z_c (fun _ _ _ h=>h),z_c (fun _ _ _ h=>h),z_c (fun _ _ _ h=>h),z_c (fun β v W h=>(zd u0 β v W).1 h),z_c (fun _ _ _ h=>h),z_c (fun β v W h=>(zd u2 β v W).1 h),z_c (fun β v W h=>(zd u4 β v W).1 h),z_c (fun β v W h=>(zd u4 β v W).1 h),z_c (fun _ _ _ h=>h),z_c (fun β v W h=>(zd u1 β v W).1 h),z_c (fun β v W h=>(zd u5 β v W).1 h),z_c (fun _ _ _ h=>h),z_c (fun β v W h=>(zd u3 β v W).1 h),z_c (fun β v W h=>(zd u6 β v W).1 h),z_c (fun β v W h=>(zd u7 β v W).1 h),z_c (fun β v W h=>(zd u7 β v W).1 h),z_b ⟨fun β v W h=>(zd u0 β v W).1 h,fun β v W h=>(zd u1 β v W).1 h,trivial⟩,z_b ⟨fun β v W h=>(zd u2 β v W).1 h,fun β v W h=>(zd u3 β v W).1 h,trivial⟩,trivial⟩) rfl fun t ht=>?_
 rcases rounds t ht with hz_ | ⟨t',hz_,hm_,hj_⟩
 ·refine .inl ?_
  rcases hz_ with ⟨v501,v502,n504,x505,n508,x509,v512,e501,e502,e512,h503,s506,s507,s510,s511,h513,q0,_⟩
  ·exact zw2  x y v1 v3 v4 v5 h2 h6 t.i v501 v502 n504 x505 n508 x509 v512 e501 e502 e512 h503 s506 s507 s510 s511 h513 o4 F u0 u1 u2 u3 u4 u5 u6 u7 u8 q0 R hR
 ·refine .inr ⟨t',hm_,hj_,?_⟩
  rcases hz_ with ⟨v501,v502,n504,x505,n508,x509,v512,v514,e501,e502,e512,e514,h503,s506,s507,s510,s511,h513,q0,_⟩
  ·exact zw3  x y v1 v3 v4 v5 h2 h6 t.i v501 v502 n504 x505 n508 x509 v512 v514 e501 e502 e512 e514 h503 s506 s507 s510 s511 h513 t'.i q0 R hR
theorem zw1 {w0:World} (x:Raw) (y:Raw) (v1:Bool) (v3:Int) (v4:Int) (v5:Bool) (h2:v1=false) (h6:v5=false) (o4:Bool) {F:Fact} (u0:F.c 0=pB x.1) (u1:F.c 1=pD x.2) (u2:F.c 2=pB y.1) (u3:F.c 3=pD y.2) (u4:F.c 4=pB v1) (u5:F.c 5=pI v3) (u6:F.c 6=pI v4) (u7:F.c 7=pB v5) (u8:F.c 8=pB o4) (R:Frm) (hR:R.pm=⟨ntOf Tryz.prog 63,[],[]⟩) (hl:x.2.length=y.2.length) (hb:x.2.length≤9223372036854775807) (he:x.2≠y.2) (ho:o4=false):zB (KN w0) Tryz.prog F R snR_S (lp Tryz.prog 63 0):=by
 refine zst  x y v1 v3 v4 v5 h2 h6 o4 u0 u1 u2 u3 u4 u5 u6 u7 u8 R hR (fun ⟨i⟩=>∃n:Nat,i=(n:Int)∧n≤x.2.length∧x.2.drop n≠y.2.drop n) (fun ⟨i⟩=>(x.2.length - i).toNat) ⟨0,rfl,Nat.zero_le _,by simpa using he⟩ fun t hJ=>?_
 obtain ⟨i⟩:=t
 dsimp only at hJ
 obtain ⟨n,hi,hn,hd⟩:=hJ
 obtain ⟨v501,e501⟩:∃v,((x.2.length:Int))=v:=⟨_,rfl⟩
 obtain ⟨v502,e502⟩:∃v,(decide (i<v501))=v:=⟨_,rfl⟩
 cases h503:v502 with
 | true =>
  obtain ⟨n504,x505,s506,s507⟩:∃(n504:Nat) (x505:Nat),i=(n504:Int)∧x.2[n504]?=some x505:=by (have hlt:n<x.2.length:=(by subst e501;subst e502;have:=of_decide_eq_true h503;omega);exact ⟨n,x.2[n],hi,List.getElem?_eq_getElem hlt⟩)
  obtain ⟨n508,x509,s510,s511⟩:∃(n508:Nat) (x509:Nat),i=(n508:Int)∧y.2[n508]?=some x509:=by (have hlt:n<x.2.length:=(by subst e501;subst e502;have:=of_decide_eq_true h503;omega);have hl2:n<y.2.length:=(by omega);exact ⟨n,y.2[n],hi,List.getElem?_eq_getElem hl2⟩)
  obtain ⟨v512,e512⟩:∃v,((((x505:Nat):Int) != ((x509:Nat):Int)))=v:=⟨_,rfl⟩
  cases h513:v512 with
  | true =>
   refine .inl (⟨v501,v502,n504,x505,n508,x509,v512,e501,e502,e512,h503,s506,s507,s510,s511,h513,?_,trivial⟩)
   exact ho.symm
  | false =>
   obtain ⟨v514,e514⟩:∃v,(IntKind.i64.wrap (i+(1:Int)))=v:=⟨_,rfl⟩
   refine .inr ⟨⟨v514⟩,⟨v501,v502,n504,x505,n508,x509,v512,v514,e501,e502,e512,e514,h503,s506,s507,s510,s511,h513,rfl,trivial⟩,?_,?_⟩
   all_goals (subst e501;subst e502;have hlt:=of_decide_eq_true h503;subst hi;have hw:IntKind.i64.wrap ((n:Int)+1)=((n+1:Nat):Int):=wr64 (by omega);rw [hw] at e514;subst e514)
   ·show ((x.2.length:Int) - ((n+1:Nat):Int)).toNat<((x.2.length:Int) - (n:Int)).toNat
    omega
   ·refine ⟨n+1,rfl,by omega,(zoi hl n hn hd).2 ?_⟩
    have e1:n504=n:=by omega
    have e2:n508=n:=by omega
    subst e1;subst e2
    rw [List.getD_eq_getElem?_getD,List.getD_eq_getElem?_getD,s507,s511]
    subst e512;simp at h513
    simp only [Option.getD_some];omega
 | false =>
  exfalso
  subst e501;subst e502
  have:=of_decide_eq_false h503
  have:=(zoi hl n hn hd).1
  omega
theorem sn_p0 {w0:World} (x:Raw) (y:Raw) (v1:Bool) (e1:(!(x.1 == y.1))=v1) (h2:v1=true):Fun (KN w0) Tryz.prog 63 [.o (.g [pB x.1,pD x.2]),.o (.g [pB y.1,pD y.2])] (.o (.c (pV (.bool false)))):=
 zi (zl (F:=FL [pB x.1,pD x.2,pB y.1,pD y.2,pB v1] []) (C:=[(1000007,.bin .neq 4 (LF (.h 0)) (LF (.h 2)) (LF (.h 4))),
  (10004,.fb 4 true)]) (k:=⟨63,[.o (.g [.h 0,.h 1]),.o (.g [.h 2,.h 3])],[],.o (.c (.k (.bool false))),[]⟩) 0 (zm ⟨za rfl,ze,za rfl,ze,za rfl,trivial⟩) ⟨e_bin (zb rfl) (zb rfl) (zb rfl) (fun W X Y=>by rw [← e1];exact r_bne (by kernel_rfl) W X Y),
  e_fb (show pV (.bool v1)=_ by rw [h2]),
  trivial⟩ mixed (by kernel_rfl)) rfl rfl rfl rfl
theorem sn_p1 {w0:World} (x:Raw) (y:Raw) (v1:Bool) (v3:Int) (v4:Int) (v5:Bool) (e1:(!(x.1 == y.1))=v1) (e3:((x.2.length:Int))=v3) (e4:((y.2.length:Int))=v4) (e5:((v3 != v4))=v5) (h2:v1=false) (h6:v5=true):Fun (KN w0) Tryz.prog 63 [.o (.g [pB x.1,pD x.2]),.o (.g [pB y.1,pD y.2])] (.o (.c (pV (.bool false)))):=
 zi (zl (F:=FL [pB x.1,pD x.2,pB y.1,pD y.2,pB v1,pI v3,pI v4,pB v5] []) (C:=[(1000007,.bin .neq 4 (LF (.h 0)) (LF (.h 2)) (LF (.h 4))),
  (10004,.fb 4 false),
  (1000011,.op (.len [24] 3) [LF (.h 1)] [] (LF (.h 5))),
  (1000014,.op (.len [24] 3) [LF (.h 3)] [] (LF (.h 6))),
  (1000015,.bin .neq 3 (LF (.h 5)) (LF (.h 6)) (LF (.h 7))),
  (10007,.fb 7 true)]) (k:=⟨63,[.o (.g [.h 0,.h 1]),.o (.g [.h 2,.h 3])],[],.o (.c (.k (.bool false))),[]⟩) 0 (zm ⟨za rfl,ze,za rfl,ze,za rfl,za rfl,za rfl,za rfl,trivial⟩) ⟨e_bin (zb rfl) (zb rfl) (zb rfl) (fun W X Y=>by rw [← e1];exact r_bne (by kernel_rfl) W X Y),
  e_fb (show pV (.bool v1)=_ by rw [h2]),
  zcC (E:=84) (by kernel_rfl) (zd rfl) (zb (by rw [← e3];rfl)),
  zcC (E:=84) (by kernel_rfl) (zd rfl) (zb (by rw [← e4];rfl)),
  e_bin (zb rfl) (zb rfl) (zb rfl) (r_cmp (congrArg some e5)),
  e_fb (show pV (.bool v5)=_ by rw [h6]),
  trivial⟩ mixed (by kernel_rfl)) rfl rfl rfl rfl
theorem sn_p2 {w0:World} (x:Raw) (y:Raw) (v1:Bool) (v3:Int) (v4:Int) (v5:Bool) (o4:Bool) (e1:(!(x.1 == y.1))=v1) (e3:((x.2.length:Int))=v3) (e4:((y.2.length:Int))=v4) (e5:((v3 != v4))=v5) (h2:v1=false) (h6:v5=false) (L_snR:∀R:Frm,R.pm=⟨ntOf Tryz.prog 63,[],[]⟩→zB (KN w0) Tryz.prog (FL [pB x.1,pD x.2,pB y.1,pD y.2,pB v1,pI v3,pI v4,pB v5,pB o4] []) R snR_S (lp Tryz.prog 63 0)):Fun (KN w0) Tryz.prog 63 [.o (.g [pB x.1,pD x.2]),.o (.g [pB y.1,pD y.2])] (.o (.c (pB o4))):=
 zi (zac (F:=FL [pB x.1,pD x.2,pB y.1,pD y.2,pB v1,pI v3,pI v4,pB v5,pB o4] []) (C:=[(1000007,.bin .neq 4 (LF (.h 0)) (LF (.h 2)) (LF (.h 4))),
  (10004,.fb 4 false),
  (1000011,.op (.len [24] 3) [LF (.h 1)] [] (LF (.h 5))),
  (1000014,.op (.len [24] 3) [LF (.h 3)] [] (LF (.h 6))),
  (1000015,.bin .neq 3 (LF (.h 5)) (LF (.h 6)) (LF (.h 7))),
  (10007,.fb 7 false)]) (k:=⟨63,[.o (.g [.h 0,.h 1]),.o (.g [.h 2,.h 3])],[],.o (.c (.h 8)),[]⟩) ⟨[snR_S],[],0⟩ [] 0 (zm ⟨za rfl,ze,za rfl,ze,za rfl,za rfl,za rfl,za rfl,za rfl,trivial⟩) ⟨e_bin (zb rfl) (zb rfl) (zb rfl) (fun W X Y=>by rw [← e1];exact r_bne (by kernel_rfl) W X Y),
  e_fb (show pV (.bool v1)=_ by rw [h2]),
  zcC (E:=84) (by kernel_rfl) (zd rfl) (zb (by rw [← e3];rfl)),
  zcC (E:=84) (by kernel_rfl) (zd rfl) (zb (by rw [← e4];rfl)),
  e_bin (zb rfl) (zb rfl) (zb rfl) (r_cmp (congrArg some e5)),
  e_fb (show pV (.bool v5)=_ by rw [h6]),
  trivial⟩ mixed trivial (fun R hR p hp s hs=>by
 have hl:qm (zat Tryz.prog 63)=[(4,lp Tryz.prog 63 0)]:=by kernel_rfl
 rw [hl] at hp
 simp only [List.mem_cons,List.not_mem_nil,or_false] at hp
 rcases hp with rfl
 ·have e:s=snR_S:=(Option.some.inj hs).symm
  subst e;exact L_snR R hR) (by kernel_rfl)) rfl rfl rfl rfl
theorem sn_p3 {w0:World} (x:Raw) (y:Raw) (v1:Bool) (v3:Int) (v4:Int) (v5:Bool) (e1:(!(x.1 == y.1))=v1) (e3:((x.2.length:Int))=v3) (e4:((y.2.length:Int))=v4) (e5:((v3 != v4))=v5) (h2:v1=false) (h6:v5=false) (L_snE:∀R:Frm,R.pm=⟨ntOf Tryz.prog 63,[],[]⟩→zB (KN w0) Tryz.prog (FL [pB x.1,pD x.2,pB y.1,pD y.2,pB v1,pI v3,pI v4,pB v5] []) R snE_S (lp Tryz.prog 63 0)):Fun (KN w0) Tryz.prog 63 [.o (.g [pB x.1,pD x.2]),.o (.g [pB y.1,pD y.2])] (.o (.c (pV (.bool true)))):=
 zi (zac (F:=FL [pB x.1,pD x.2,pB y.1,pD y.2,pB v1,pI v3,pI v4,pB v5] []) (C:=[(1000007,.bin .neq 4 (LF (.h 0)) (LF (.h 2)) (LF (.h 4))),
  (10004,.fb 4 false),
  (1000011,.op (.len [24] 3) [LF (.h 1)] [] (LF (.h 5))),
  (1000014,.op (.len [24] 3) [LF (.h 3)] [] (LF (.h 6))),
  (1000015,.bin .neq 3 (LF (.h 5)) (LF (.h 6)) (LF (.h 7))),
  (10007,.fb 7 false)]) (k:=⟨63,[.o (.g [.h 0,.h 1]),.o (.g [.h 2,.h 3])],[],.o (.c (.k (.bool true))),[]⟩) ⟨[snE_S],[],0⟩ [] 0 (zm ⟨za rfl,ze,za rfl,ze,za rfl,za rfl,za rfl,za rfl,trivial⟩) ⟨e_bin (zb rfl) (zb rfl) (zb rfl) (fun W X Y=>by rw [← e1];exact r_bne (by kernel_rfl) W X Y),
  e_fb (show pV (.bool v1)=_ by rw [h2]),
  zcC (E:=84) (by kernel_rfl) (zd rfl) (zb (by rw [← e3];rfl)),
  zcC (E:=84) (by kernel_rfl) (zd rfl) (zb (by rw [← e4];rfl)),
  e_bin (zb rfl) (zb rfl) (zb rfl) (r_cmp (congrArg some e5)),
  e_fb (show pV (.bool v5)=_ by rw [h6]),
  trivial⟩ mixed trivial (fun R hR p hp s hs=>by
 have hl:qm (zat Tryz.prog 63)=[(4,lp Tryz.prog 63 0)]:=by kernel_rfl
 rw [hl] at hp
 simp only [List.mem_cons,List.not_mem_nil,or_false] at hp
 rcases hp with rfl
 ·have e:s=snE_S:=(Option.some.inj hs).symm
  subst e;exact L_snE R hR) (by kernel_rfl)) rfl rfl rfl rfl
theorem zqH {K:Kit} {P:Program} {f:FuncId} {res:PSh} {x:Raw} {r:List PSh} (h:x.2.length≤9223372036854775807→Fun K P f (gN x::r) res):Fun K P f (gN x::r) res:=by
 intro W D vs hs hf
 match vs,hs with
 | v::us,hs =>
  obtain ⟨A,n,c,_,h2⟩:=gN_ok hs.1
  exact h (by rw [h2.len];exact Nat.le_trans h2.2.1 h2.2.2) W D (v::us) hs hf
 | [],h=>exact h.elim
theorem zcM {w0:World} (x y:Raw) (o:Bool) (ho:decide (x=y)=o):Fun (KN w0) Tryz.prog 63 [.o (.g [pB x.1,pD x.2]),.o (.g [pB y.1,pD y.2])] (.o (.c (pB o))):=by
 refine zqH fun hb=>?_
 obtain ⟨v1,e1⟩:∃v,(!(x.1 == y.1))=v:=⟨_,rfl⟩
 cases h2:v1 with
 | true =>
  refine Fun.imp (sn_p0 x y v1 e1 h2) (fun _ _ _ h=>h) (fun v W D h=>?_)
  have r0:o=false:=by
   rw [← ho,decide_eq_false_iff_not]
   intro e
   subst e
   simp_all
  rw [r0];exact h
 | false =>
  obtain ⟨v3,e3⟩:∃v,((x.2.length:Int))=v:=⟨_,rfl⟩
  obtain ⟨v4,e4⟩:∃v,((y.2.length:Int))=v:=⟨_,rfl⟩
  obtain ⟨v5,e5⟩:∃v,((v3 != v4))=v:=⟨_,rfl⟩
  cases h6:v5 with
  | true =>
   refine Fun.imp (sn_p1 x y v1 v3 v4 v5 e1 e3 e4 e5 h2 h6) (fun _ _ _ h=>h) (fun v W D h=>?_)
   have r0:o=false:=by
    rw [← ho,decide_eq_false_iff_not]
    intro e
    subst e
    simp_all
   rw [r0];exact h
  | false =>
   by_cases c4:x.2=y.2
   ·
    refine Fun.imp (sn_p3 x y v1 v3 v4 v5 e1 e3 e4 e5 h2 h6 (fun R hR=>zwY x y v1 v3 v4 v5 h2 h6  rfl rfl rfl rfl rfl rfl rfl rfl R hR (by have:=e5.trans h6;simp at this;omega) hb c4)) (fun _ _ _ h=>h) (fun v W D h=>?_)
    have r0:o=true:=by
     rw [← ho,decide_eq_true_iff]
     exact Prod.ext (by simp_all) c4
    rw [r0];exact h
   ·
    obtain ⟨o4,hO_snR⟩:∃(o4:Bool),o4=false:=⟨_,rfl⟩
    refine Fun.imp (sn_p2 x y v1 v3 v4 v5 o4 e1 e3 e4 e5 h2 h6 (fun R hR=>zw1 x y v1 v3 v4 v5 h2 h6 o4 rfl rfl rfl rfl rfl rfl rfl rfl rfl R hR (by have:=e5.trans h6;simp at this;omega) hb c4 hO_snR)) (fun _ _ _ h=>h) (fun v W D h=>?_)
    have r0:o=o4:=by
     rw [← ho,hO_snR,decide_eq_false_iff_not]
     intro e
     exact c4 (by rw [e])
    rw [r0];exact h
end Go.Proofs.YtccjiodohphgnaaGreatDoor
