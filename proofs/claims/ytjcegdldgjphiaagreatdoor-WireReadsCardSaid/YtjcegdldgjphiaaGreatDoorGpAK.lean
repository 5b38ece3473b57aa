/-
  Merged: NumQ, NumS, NumT, NumU, NumV, NumSlv, NumSig.
-/
import Derived.Test.YtjcegdldgjphiaaGreatDoorGpAJ
import Derived.StillTailTactics
import Derived.Deep.AppendLies
set_option linter.unusedSimpArgs false
set_option linter.unusedVariables false
set_option maxRecDepth 100000
set_option maxHeartbeats 2000000
namespace Go.Proofs.YtjcegdldgjphiaaGreatDoor
open Go.RowKit Go.Shelf
attribute [local go_sem] Oper.semAt_some
def OvB (h0:Nat) (w:World) (bn n gu gv bu bv N:Nat) (u v:List Nat) (W:World):Prop:=
 (Boxed W bn 3 (.int .i64 (n:Nat))∧DBk W gu 123 u∧DBk W gv 123 v∧Boxed W bu 117 (.slice (some ⟨gu,0,none⟩) (N+1) (N+1))∧Boxed W bv 117 (.slice (some ⟨gv,0,none⟩) n n)) ∧
 (h0≤bn∧h0≤gu∧h0≤gv∧h0≤bu∧h0≤bv∧bn≠gu∧bn≠gv∧bn≠bu∧bn≠bv∧gu≠gv∧gu≠bu∧gu≠bv∧gv≠bu∧gv≠bv∧bu≠bv)∧Below h0 w W
theorem zbK {W W':World} {B C:Nat} {t:TypeId} {v:Value} (h:Boxed W B t v) (hb:Below C W W') (hg:B<C):Boxed W' B t v:=(hb.block B hg).trans h
def OvS (w:World) (bn:Nat) (z:Value) (W:World):Prop:=Boxed W bn 3 z∧bn+1≤W.heap.size∧w.heap.size≤W.heap.size∧Below w.heap.size w W
section
variable {w W W':World} {bn:Nat} {z:Value}
theorem OvS.pair (h:OvS w bn z W):W.cell? ⟨bn,0,none⟩=some z∧OvS w bn z W:=⟨h.1.cell,h⟩
theorem OvS.drew (h:OvS w bn z W):OvS w bn z W.drew:=⟨h.1,h.2.1,h.2.2.1,h.2.2.2.drew⟩
theorem OvS.alloc (h:OvS w bn z W) (o:Obj):OvS w bn z (W.alloc o):=⟨h.1.alloc o,by simp;have:=h.2.1;omega,by simp;have:=h.2.2.1;omega,h.2.2.2.alloc h.2.2.1 o⟩
theorem OvS.below (h:OvS w bn z W) (hb:Below W.heap.size W W'):OvS w bn z W':=⟨(hb.block bn h.1.lt).trans h.1,Nat.le_trans h.2.1 hb.size,Nat.le_trans h.2.2.1 hb.size,h.2.2.2.trans (hb.mono h.2.2.1)⟩
theorem OvS.setCell (h:OvS w bn z W) {p:Addr} (h1:bn≠p.block) (h2:w.heap.size≤p.block) (u:Value):OvS w bn z (W.setCell p u):=⟨qC h.1 h1 u,by simpa [World.setCell] using h.2.1,by simpa [World.setCell] using h.2.2.1,h.2.2.2.setCell h2 u⟩
theorem ovs_b {n gu gv bu bv N:Nat} {u v:List Nat} (h:OvS w bn (.int .i64 (n:Nat)) W) (h1:DBk W gu 123 u) (h2:DBk W gv 123 v) (h3:Boxed W bu 117 (.slice (some ⟨gu,0,none⟩) (N+1) (N+1))) (h4:Boxed W bv 117 (.slice (some ⟨gv,0,none⟩) n n))
  (h5:w.heap.size≤bn∧w.heap.size≤gu∧w.heap.size≤gv∧w.heap.size≤bu∧w.heap.size≤bv∧bn≠gu∧bn≠gv∧bn≠bu∧bn≠bv∧gu≠gv∧gu≠bu∧gu≠bv∧gv≠bu∧gv≠bv∧bu≠bv):OvB w.heap.size w bn n gu gv bu bv N u v W:=⟨⟨h.1,h1,h2,h3,h4⟩,h5,h.2.2.2⟩
end
theorem zro {w w3 w4 F:World} {bn n gu gv bu bv N U V:Nat} {z:Int} {u v:List Nat} (_h3:DBk w3 gu 123 u) (_h4:DBk w4 gv 123 v) (hz:z=(n:Nat)) (hI:u.length=N+1∧Dig u∧nval u=U∧v.length=n∧Dig v∧nval v=V) (o:OvS w bn (.int .i64 z) F) (h1:DBk F gu 123 u) (h2:DBk F gv 123 v) (b1:Boxed F bu 117 (.slice (some ⟨gu,0,none⟩) (N+1) (N+1))) (b2:Boxed F bv 117 (.slice (some ⟨gv,0,none⟩) n n))
  (h5:w.heap.size≤bn∧w.heap.size≤gu∧w.heap.size≤gv∧w.heap.size≤bu∧w.heap.size≤bv∧bn≠gu∧bn≠gv∧bn≠bu∧bn≠bv∧gu≠gv∧gu≠bu∧gu≠bv∧gv≠bu∧gv≠bv∧bu≠bv) :
  ∃(gu' gv' bu' bv':Nat) (u0 v0:List Nat),Value.pointer (some ⟨bu,0,none⟩)=Value.pointer (some ⟨bu',0,none⟩)∧Value.pointer (some ⟨bv,0,none⟩)=Value.pointer (some ⟨bv',0,none⟩)∧Hid (u0.length=N+1∧Dig u0∧nval u0=U∧v0.length=n∧Dig v0∧nval v0=V)∧OvB w.heap.size w bn n gu' gv' bu' bv' N u0 v0 F:=by
 subst hz
 exact ⟨gu,gv,bu,bv,u,v,rfl,rfl,hI,ovs_b o h1 h2 b1 b2 h5⟩
def OvSt (bn n gu gv bu bv gq bq N J:Nat) (v0:List Nat) (W:World):Prop:=
 Boxed W bn 3 (.int .i64 (n:Nat))∧DBk W gv 123 v0∧Boxed W bu 117 (.slice (some ⟨gu,0,none⟩) (N+1) (N+1))∧Boxed W bv 117 (.slice (some ⟨gv,0,none⟩) n n)∧Boxed W bq 117 (.slice (some ⟨gq,0,none⟩) J J)∧Boxed W (bq+1) 117 (.slice (some ⟨gq,0,none⟩) J J)
def OvNe (h0 bn gu gv bu bv gq bq:Nat):Prop:=
 (bn≠gu∧gv≠gu∧bu≠gu∧bv≠gu∧bq≠gu∧gq≠gu∧bq+1≠gu)∧(bn≠gq∧gv≠gq∧bu≠gq∧bv≠gq∧bq≠gq∧bq+1≠gq)∧h0≤gu∧h0≤gq
def OvI (gu gq N J U V:Nat) (pre:List ({k:Nat // k<J}×Nat)) (W:World):Prop:=
 ∃uo qo:List Nat,DBk W gu 123 uo∧DBk W gq 123 qo∧Hid (uo.length=N+1∧Dig uo∧qo.length=J∧Dig qo)∧(pre.map (·.1) <+: downs J→OvG U V (J - pre.length) uo qo)
def OvJ (w:World) (bn n gu gv bu bv gq bq N J U V:Nat) (v0:List Nat) (pre:List ({k:Nat // k<J}×Nat)) (W:World):Prop:=
 (OvSt bn n gu gv bu bv gq bq N J v0 W∧OvNe w.heap.size bn gu gv bu bv gq bq)∧OvI gu gq N J U V pre W∧Below w.heap.size w W
section
variable {w W W':World} {bn n gu gv bu bv gq bq N J U V:Nat} {v0:List Nat} {pre:List ({k:Nat // k<J}×Nat)}
theorem OvJ.blk (h:OvJ w bn n gu gv bu bv gq bq N J U V v0 pre W):zhR W gq J:=let ⟨_,⟨_,qo,_,h2,h3,_⟩,_⟩:=h;⟨qo,h2,h3.out.2.2.1,h3.out.2.2.2⟩
theorem OvJ.lt (h:OvJ w bn n gu gv bu bv gq bq N J U V v0 pre W):gq<W.heap.size:=let ⟨_,h1,_⟩:=h.blk;h1.lt
theorem ztY {B:Nat} (hB:w.heap.size≤B):OwnFrom B (OvJ w bn n gu gv bu bv gq bq N J U V v0):=
 OwnFrom.and (Own.from (fun _ _ _ _ hs hg hr=>⟨⟨qi hs.1.1 rfl hg hr,qi hs.1.2.1 rfl hg hr,qi hs.1.2.2.1 rfl hg hr,qi hs.1.2.2.2.1 rfl hg hr,qi hs.1.2.2.2.2.1 rfl hg hr,qi hs.1.2.2.2.2.2 rfl hg hr⟩,hs.2⟩) _)
  (OwnFrom.and (Own.from (fun _ _ _ _ ⟨uo,qo,h1,h2,h3⟩ hg hr=>⟨uo,qo,qi h1 rfl hg hr,qi h2 rfl hg hr,h3⟩) _) (ownFrom_below (Nat.le_refl _) hB))
theorem OvSt.grown (h:OvSt bn n gu gv bu bv gq bq N J v0 W) (k:OvNe w.heap.size bn gu gv bu bv gq bq) (hg:W.grownBy W' (some gu)):OvSt bn n gu gv bu bv gq bq N J v0 W' :=
 ⟨h.1.kept hg (by have:=k.1.1;simpa using this),(hg.block gv h.2.1.lt (by have:=k.1.2.1;simpa using this)).trans h.2.1,h.2.2.1.kept hg (by have:=k.1.2.2.1;simpa using this),h.2.2.2.1.kept hg (by have:=k.1.2.2.2.1;simpa using this),h.2.2.2.2.1.kept hg (by have:=k.1.2.2.2.2.1;simpa using this),h.2.2.2.2.2.kept hg (by have:=k.1.2.2.2.2.2.2;simpa using this)⟩
theorem OvSt.store (h:OvSt bn n gu gv bu bv gq bq N J v0 W) (k:OvNe w.heap.size bn gu gv bu bv gq bq) (i:Nat) (u:Value):OvSt bn n gu gv bu bv gq bq N J v0 (W.setCell ⟨gq,i,none⟩ u):=
 ⟨qC h.1 (p:=⟨gq,i,none⟩) k.2.1.1 u,h.2.1.far (p:=⟨gq,i,none⟩) k.2.1.2.1 u,qC h.2.2.1 (p:=⟨gq,i,none⟩) k.2.1.2.2.1 u,qC h.2.2.2.1 (p:=⟨gq,i,none⟩) k.2.1.2.2.2.1 u,qC h.2.2.2.2.1 (p:=⟨gq,i,none⟩) k.2.1.2.2.2.2.1 u,qC h.2.2.2.2.2 (p:=⟨gq,i,none⟩) k.2.1.2.2.2.2.2 u⟩
theorem zK {qo:List Nat} {k:Nat} (hs:OvSt bn n gu gv bu bv gq bq N J v0 W) (hn:OvNe w.heap.size bn gu gv bu bv gq bq) (hq:DBk W gq 123 qo) (hk:k<qo.length) (hg:W.drew.grownBy W' (some gu)) :
  W'.cell? ⟨bq,0,none⟩=some (.slice (some ⟨gq,0,none⟩) J J)∧W'.cell? ⟨gq,k,none⟩=some (.int .u32 (dg qo k:Nat))∧W'.frozen? ⟨gq,k,none⟩=false∧gq<W'.heap.size:=by
 have h1:=OvSt.grown (W:=W.drew) (w:=w) hs hn hg
 have h2:DBk W' gq 123 qo:=(hg.block gq (by exact hq.lt) (by have:=hn.1.2.2.2.2.2.1;simpa using this)).trans hq
 exact ⟨h1.2.2.2.2.1.cell,h2.cell hk,h2.frozen k,h2.lt⟩
theorem ovR {m g:Nat} {uo qo u':List Nat} (x:{k:Nat // k<J}×Nat) (hs:OvSt bn n gu gv bu bv gq bq N J v0 W) (hn:OvNe w.heap.size bn gu gv bu bv gq bq) (hU:DBk W gu 123 uo) (hq:DBk W gq 123 qo) (hl:uo.length=N+1∧Dig uo∧qo.length=J∧Dig qo) (hI:pre.map (·.1) <+: downs J→OvG U V (J - pre.length) uo qo) (hBW:Below w.heap.size w W)
  (hg:W.drew.grownBy W' (some gu)) (hgl:g<4294967296) (hul:u'.length=((uo.drop x.1.1).take (m+1+1)).length) (hud:Dig u') (hU':DBk W' gu 123 (uo.take x.1.1++u'++uo.drop (x.1.1+(m+1+1)))) (h1:nval ((uo.drop x.1.1).take (m+1+1))=nval u'+g*nval v0) (h2:nval ((uo.drop x.1.1).take (m+1+1))<nval v0*4294967296→nval u'<nval v0)
  (hV:nval v0=V∧V<4294967296 ^ (m+1)∧N+1=J+(m+1)) :
  KeepsOthers W (W'.setCell ⟨gq,x.1.1,none⟩ (.int .u32 (g:Nat)))∧KpQ w.heap.size (bq+1) gq J W (W'.setCell ⟨gq,x.1.1,none⟩ (.int .u32 (g:Nat)))∧OvJ w bn n gu gv bu bv gq bq N J U V v0 (pre++[x]) (W'.setCell ⟨gq,x.1.1,none⟩ (.int .u32 (g:Nat))):=by
 have hx:=x.1.2
 obtain ⟨l1,l2,l3,l4⟩:=hl
 obtain ⟨hv1,hv2,hv3⟩:=hV
 have hq':DBk W' gq 123 qo:=(hg.block gq hq.lt (by have:=hn.1.2.2.2.2.2.1;simpa using this)).trans hq
 have hsz:W.heap.size≤W'.heap.size:=hg.size
 have hBW':Below w.heap.size w W':=hBW.drew.grown hg hBW.size (fun k e=>by cases e;exact hn.2.2.1)
 have hko:KeepsOthers W W':=(zeQ (W:=W) (W':=W.drew) rfl).trans (KeepsOthers.of_grownBy hg (fun j o e ho=>by cases e;rw [show W.drew.heap[gu]?=_ from hU] at ho;cases ho;rfl))
 have hlen:(uo.take x.1.1).length=x.1.1:=by rw [List.length_take];omega
 have hlen2:((uo.drop x.1.1).take (m+1+1)).length=m+1+1:=by rw [List.length_take,List.length_drop];omega
 have hsplit:uo=uo.take x.1.1++(uo.drop x.1.1).take (m+1+1)++uo.drop (x.1.1+(m+1+1)):=by
  rw [List.append_assoc,← List.drop_drop,List.take_append_drop,List.take_append_drop]
 refine ⟨hko.trans (KeepsOthers.setCell _ _ _),⟨⟨(Below.refl _ _).drew.grown hg (Nat.le_trans hBW.size (Nat.le_refl _)) (fun k e=>by cases e;exact hn.2.2.1) |>.setCell (p:=⟨gq,x.1.1,none⟩) hn.2.2.2 _,?_⟩,fun _=>⟨_,hq'.set _ _,by simpa using l3,qM l4 hgl⟩⟩,⟨OvSt.store (OvSt.grown (W:=W.drew) (w:=w) hs hn hg) hn _ _,hn⟩,⟨_,_,hU'.far (p:=⟨gq,x.1.1,none⟩) (Ne.symm hn.1.2.2.2.2.2.1) _,hq'.set _ _,⟨?_,?_,by simpa using l3,qM l4 hgl⟩,fun hp=>?_⟩,hBW'.setCell (p:=⟨gq,x.1.1,none⟩) hn.2.2.2 _⟩
 ·exact (Below.heap_setCell _ ⟨gq,x.1.1,none⟩ _ (bq+1) hn.2.1.2.2.2.2.2).trans (hg.block (bq+1) hs.2.2.2.2.2.lt (by have:=hn.1.2.2.2.2.2.2;simpa using this))
 ·simp only [List.length_append,hlen,hul,hlen2,List.length_drop];omega
 ·exact zbt.2 ⟨zbt.2 ⟨zaV l2 _,hud⟩,zem l2 _⟩
 ·rw [List.map_append] at hp
  obtain ⟨p1,p2,p3⟩:=zaM hp
  rw [List.length_map] at p2 p3
  have p4:x.1.1=J - 1 - pre.length:=p3
  have h7:=hI p1
  have e:J - pre.length=x.1.1+1:=by omega
  have e2:J - (pre++[x]).length=x.1.1:=by rw [List.length_append];simp only [List.length_cons,List.length_nil];omega
  rw [e] at h7
  rw [e2]
  rw [hv1] at h1 h2
  exact zrp h7 hsplit hlen hlen2 (by rw [hul,hlen2]) hv2 l2 (by omega) h1 h2
theorem zpc {l v s m:Nat} {u0:List Nat} {wc:World} (hne:w.heap.size≤bn∧w.heap.size≤gu∧w.heap.size≤gv∧w.heap.size≤bu∧w.heap.size≤bv∧bn≠gu∧bn≠gv∧bn≠bu∧bn≠bv∧gu≠gv∧gu≠bu∧gu≠bv∧gv≠bu∧gv≠bv∧bu≠bv) (hB:Below w.heap.size w wc)
  (k1:Boxed wc bn 3 (.int .i64 (n:Nat))) (k2:DBk wc gu 123 u0) (k3:DBk wc gv 123 v0) (k4:Boxed wc bu 117 (.slice (some ⟨gu,0,none⟩) (N+1) (N+1))) (k5:Boxed wc bv 117 (.slice (some ⟨gv,0,none⟩) n n))
  (hI:u0.length=N+1∧Dig u0∧nval u0=l*2 ^ s) (hJ:J≤N+1) (hl:l<4294967296 ^ (J+m)) (hv:4294967296 ^ m≤v) :
  Boxed (((wc.alloc (.cells (madeCells #[.int .u32 0] J) 123)).alloc (.cells #[.slice (some ⟨wc.heap.size,0,none⟩) J J] 117)).alloc (.cells #[.slice (some ⟨wc.heap.size,0,none⟩) J J] 117)) (wc.heap.size+1+1) 117 (.slice (some ⟨wc.heap.size,0,none⟩) J J) ∧
   (((wc.alloc (.cells (madeCells #[.int .u32 0] J) 123)).alloc (.cells #[.slice (some ⟨wc.heap.size,0,none⟩) J J] 117)).alloc (.cells #[.slice (some ⟨wc.heap.size,0,none⟩) J J] 117)).heap.size=wc.heap.size+1+1+1 ∧
   OvJ w bn n gu gv bu bv wc.heap.size (wc.heap.size+1) N J (l*2 ^ s) (v*2 ^ s) v0 [] (((wc.alloc (.cells (madeCells #[.int .u32 0] J) 123)).alloc (.cells #[.slice (some ⟨wc.heap.size,0,none⟩) J J] 117)).alloc (.cells #[.slice (some ⟨wc.heap.size,0,none⟩) J J] 117)):=by
 have hz:=hB.size
 have hx:Boxed (((wc.alloc (.cells (madeCells #[.int .u32 0] J) 123)).alloc (.cells #[.slice (some ⟨wc.heap.size,0,none⟩) J J] 117)).alloc (.cells #[.slice (some ⟨wc.heap.size,0,none⟩) J J] 117)) (wc.heap.size+1+1) 117 (.slice (some ⟨wc.heap.size,0,none⟩) J J):=zI _ _ _ (by simp)
 have hy:Boxed ((wc.alloc (.cells (madeCells #[.int .u32 0] J) 123)).alloc (.cells #[.slice (some ⟨wc.heap.size,0,none⟩) J J] 117)) (wc.heap.size+1) 117 (.slice (some ⟨wc.heap.size,0,none⟩) J J):=zI _ _ _ (by simp)
 have l1:=k1.lt
 have l2:=k2.lt
 have l3:=k3.lt
 have l4:=k4.lt
 have l5:=k5.lt
 refine ⟨hx,by simp,⟨⟨((k1.alloc _).alloc _).alloc _,((k3.alloc _).alloc _).alloc _,((k4.alloc _).alloc _).alloc _,((k5.alloc _).alloc _).alloc _,hy.alloc _,hx⟩,?_⟩,⟨u0,List.replicate J 0,((k2.alloc _).alloc _).alloc _,((DBk.new wc _ J).alloc _).alloc _,⟨hI.1,hI.2.1,by simp,zap J⟩,fun _=>zpb hl hv hI.2.2 (by omega) (by simp)⟩,((hB.alloc (by omega) _).alloc (by simp;omega) _).alloc (by simp;omega) _⟩
 unfold OvNe
 omega
theorem zrq {m:Nat} {uo:List Nat} (x:{k:Nat // k<J}) (hs:OvSt bn (m+1) gu gv bu bv gq bq N J v0 W) (hn:OvNe w.heap.size bn gu gv bu bv gq bq) (hU:DBk W gu 123 uo) (hl:uo.length=N+1∧Dig uo) (hv:v0.length=m+1) (dv:Dig v0) (hJ:N+1=J+(m+1)) (hm:m≤1000) (L cu cv:Nat) (hL:L=m+1+1) :
  Calls Tryz.prog 122 #[.slice (some ⟨gu,x.1,none⟩) L cu,.slice (some ⟨gv,0,none⟩) (m+1) cv] W.drew (znX gu (uo.take x.1) ((uo.drop x.1).take (m+1+1)) (uo.drop (x.1+(m+1+1))) v0 W.drew):=by
 subst hL
 have hx:=x.2
 obtain ⟨l1,l2⟩:=hl
 have hsplit:uo.take x.1++(uo.drop x.1).take (m+1+1)++uo.drop (x.1+(m+1+1))=uo:=by
  rw [List.append_assoc,← List.drop_drop,List.take_append_drop,List.take_append_drop]
 exact zrY gu gv x.1 m cu cv _ _ _ v0 W.drew (by rw [List.length_take];omega) (by rw [List.length_take,List.length_drop];omega) hv (zaV (zem l2 _) _) dv (by rw [hsplit];exact hU) hs.2.1 hn.1.2.1 hm
end
theorem zpL {W:World} {B n c D:Nat} {A:Option Addr} {L:List Nat} {o o':Obj} (h:Sl W B A n c L) (hD:W.heap[D]?=some o) (hc:o.isCells=false) (hB:B≤W.heap.size):Sl (W.putObj D o') (W.putObj D o').heap.size A n c L:=by
 have hg:=grownBy_putObj' W D o'
 have hsz:W.heap.size≤(W.putObj D o').heap.size:=hg.size
 refine ⟨⟨⟨h.1.1.1,fun hn=>?_⟩,h.1.2⟩,h.2⟩
 obtain ⟨ad,e,hb,hcell⟩:=h.1.1.2 hn
 exact ⟨ad,e,by omega,fun j u hu=>cell_kept (hcell j u hu) hg (fun r e=>by cases e;exact ⟨o,hD,hc⟩)⟩
def OvE (w:World) (bu gu bq gq D N J:Nat) (uo qo:List Nat) (W:World):Prop:=
 Boxed W bu 117 (.slice (some ⟨gu,0,none⟩) (N+1) (N+1))∧DBk W gu 123 uo∧Boxed W bq 117 (.slice (some ⟨gq,0,none⟩) J J)∧DBk W gq 123 qo∧W.heap[D]?=some (.deferred (some []))∧Below w.heap.size w W
theorem OvE.drew {w W:World} {bu gu bq gq D N J:Nat} {uo qo:List Nat} (h:OvE w bu gu bq gq D N J uo qo W):OvE w bu gu bq gq D N J uo qo W.drew:=⟨h.1,h.2.1,h.2.2.1,h.2.2.2.1,h.2.2.2.2.1,h.2.2.2.2.2.drew⟩
theorem OvE.alloc {w W:World} {bu gu bq gq D N J:Nat} {uo qo:List Nat} (h:OvE w bu gu bq gq D N J uo qo W) (o:Obj):OvE w bu gu bq gq D N J uo qo (W.alloc o):=
 ⟨h.1.alloc o,h.2.1.alloc o,h.2.2.1.alloc o,h.2.2.2.1.alloc o,zeH h.2.2.2.2.1,h.2.2.2.2.2.alloc h.2.2.2.2.2.size o⟩
theorem OvE.store {w W:World} {bu gu bq gq D N J g:Nat} {uo qo:List Nat} (h:OvE w bu gu bq gq D N J uo qo W) (h1:bu≠g∧gu≠g∧bq≠g∧gq≠g∧D≠g∧w.heap.size≤g) (i:Nat) (u:Value):OvE w bu gu bq gq D N J uo qo (W.setCell ⟨g,i,none⟩ u):=
 ⟨qC h.1 (p:=⟨g,i,none⟩) h1.1 u,h.2.1.far (p:=⟨g,i,none⟩) h1.2.1 u,qC h.2.2.1 (p:=⟨g,i,none⟩) h1.2.2.1 u,h.2.2.2.1.far (p:=⟨g,i,none⟩) h1.2.2.2.1 u,(Below.heap_setCell _ ⟨g,i,none⟩ u D h1.2.2.2.2.1).trans h.2.2.2.2.1,h.2.2.2.2.2.setCell h1.2.2.2.2.2 u⟩
end Go.Proofs.YtjcegdldgjphiaaGreatDoor
namespace Go.Proofs.YtjcegdldgjphiaaGreatDoor
open Go.RowKit Go.Shelf
def vO (r:Option Int):Int:=r.getD 0
def ngO (r:Option Int):Bool:=decide (vO r<0)
def okO (r:Option Int):Bool:=r.isSome
def fitO (x:Int):Option Int:=if x.natAbs<big then some x else none
def RetN (r:Option Int) (w:World) (e:Ending) (w':World):Prop:=
 ∃A n c,e=.returned (.tuple #[.agg #[.bool (ngO r),.slice A n c],.bool (okO r)])∧Sl w' w'.heap.size A n c (digs (vO r).natAbs)∧Below w.heap.size w w'
theorem zlH (x:Int):vO (fitO x)=numv x:=by unfold vO fitO numv;split<;>rfl
theorem ztA (x:Int):okO (fitO x)=okv x:=by unfold okO fitO okv;split<;>simp [*]
theorem ztz (x:Int):ngO (fitO x)=negv x:=by unfold ngO negv;rw [zlH]
theorem zcT {x:Int} {w w':World} {e:Ending} (h:znW x w e w'):RetN (fitO x) w e w':=by
 obtain ⟨A,n,c,he,hs,hb⟩:=h
 exact ⟨A,n,c,by rw [he,ztz,ztA],by rw [zlH];exact hs,hb⟩
theorem zC {neg:Bool} {l:List Nat} (h:zw neg l=true) (hd:Dig l):Canon l∧l.length≤64∧(l=[]→neg=false):=by
 rcases zdW l with rfl | ⟨a,d,rfl⟩
 ·exact ⟨zhV,by simp,fun _=>by simpa [zw] using h⟩
 ·simp [zw] at h
  exact ⟨⟨hd,by simp;exact h.2⟩,by simp;omega,fun e=>by simp at e⟩
theorem zJ {w:World} {b:Nat} {u0 u1:Value} (v0 v1:Value) (g0:w.cell? ⟨b,0,none⟩=some u0) (g1:w.cell? ⟨b,1,none⟩=some u1) :
  (w.setCell ⟨b,0,none⟩ v0).cell? ⟨b,0,none⟩=some v0∧((w.setCell ⟨b,0,none⟩ v0).setCell ⟨b,1,none⟩ v1).cell? ⟨b,1,none⟩=some v1:=
 ⟨World.cell?_setCell_same' w ⟨b,0,none⟩ v0 (by rw [g0];rfl),World.cell?_setCell_same' (w.setCell ⟨b,0,none⟩ v0) ⟨b,1,none⟩ v1 (by rw [World.cell?_setCell_other _ _ _ _ (by simp),g1];rfl)⟩
theorem Sl.other {w:World} {B n c:Nat} {A:Option Addr} {l:List Nat} (h:Sl w B A n c l) {p:Addr} {v:Value} (g:w.cell? p=some v) (hv:∀d:Int,v≠.int .u32 d) (u:Value):Sl (w.setCell p u) B A n c l:=by
 refine ⟨⟨⟨h.1.1.1,fun hn=>?_⟩,h.1.2⟩,h.2⟩
 obtain ⟨ad,e,hb,hc⟩:=h.1.1.2 hn
 refine ⟨ad,e,hb,fun j x hx=>?_⟩
 have h1:=hc j x hx
 rw [World.cell?_setCell_other w p (ad.add j) u ?_]
 ·exact h1
 ·intro e
  rw [← e,g] at h1
  obtain ⟨d,_,hd⟩:=List.mem_map.1 (List.mem_of_getElem? hx)
  exact hv d ((Option.some.inj h1).trans hd.symm)
theorem Sl.stored {w:World} {b n c:Nat} {A:Option Addr} {l:List Nat} {x:Bool} {A2:Option Addr} {n2 c2:Nat} (h:Sl w w.heap.size A n c l) (r0:w.cell? ⟨b,0,none⟩=some (.bool x)) (r1:w.cell? ⟨b,1,none⟩=some (.slice A2 n2 c2)) (v0 v1:Value) :
  Sl ((w.setCell ⟨b,0,none⟩ v0).setCell ⟨b,1,none⟩ v1) ((w.setCell ⟨b,0,none⟩ v0).setCell ⟨b,1,none⟩ v1).heap.size A n c l:=by
 have hz:((w.setCell ⟨b,0,none⟩ v0).setCell ⟨b,1,none⟩ v1).heap.size=w.heap.size:=by simp [World.setCell]
 rw [hz]
 exact (h.other r0 (fun d e=>by cases e) v0).other (p:=⟨b,1,none⟩) (v:=.slice A2 n2 c2) (by rw [World.cell?_setCell_other _ _ _ _ (by simp),r1]) (fun d e=>by cases e) v1
def sumS (neg:Bool) (l:List Nat) (neg2:Bool) (m:List Nat) (ng:Bool):Option Int:=
 if zw neg l=true∧zw neg2 m=true then fitO (sgn neg (nval l)+sgn ng (nval m)) else none
section
variable {w:World} {A A2:Option Addr} {n n2 c c2:Nat} {l m:List Nat}
theorem zag (neg:Bool) (h:Sl w w.heap.size A n c l) (b:Bool) (hb:zw neg l=b) (W:World) (hW:Below w.heap.size w W) :
  Calls Tryz.prog 96 #[.agg #[.bool neg,.slice A n c]] W fun e w'=>e=.returned (.bool b)∧Below W.heap.size W w':=by
 subst hb
 exact zdj neg A n c w.heap.size l W (h.below hW).1 hW.size h.2.1
end
def Sm (w:World) (neg:Bool) (A:Option Addr) (n c:Nat) (neg2:Bool) (A2:Option Addr) (n2 c2:Nat) (W:World):Prop:=
 Below (w.heap.size+1+1+1) (((w.alloc (.cells #[.bool neg,.slice A n c] 30)).alloc (.cells #[.bool neg2,.slice A2 n2 c2] 30)).alloc (.cells #[.bool false,.slice none 0 0] 30)) W
section
variable {w W W1:World} {neg neg2:Bool} {A A2:Option Addr} {n c n2 c2:Nat}
theorem Sm.start:Sm w neg A n c neg2 A2 n2 c2 (((w.alloc (.cells #[.bool neg,.slice A n c] 30)).alloc (.cells #[.bool neg2,.slice A2 n2 c2] 30)).alloc (.cells #[.bool false,.slice none 0 0] 30)):=Below.refl _ _
theorem Sm.size (h:Sm w neg A n c neg2 A2 n2 c2 W):w.heap.size+1+1+1≤W.heap.size:=by have:=Below.size h;simpa using this
theorem Sm.via (h:Sm w neg A n c neg2 A2 n2 c2 W) (hb:Below W.heap.size W W1):Sm w neg A n c neg2 A2 n2 c2 W1:=Below.trans h (hb.mono h.size)
theorem Sm.drew (h:Sm w neg A n c neg2 A2 n2 c2 W):Sm w neg A n c neg2 A2 n2 c2 W.drew:=Below.drew h
theorem Sm.drewN (h:Sm w neg A n c neg2 A2 n2 c2 W) (k:Nat):Sm w neg A n c neg2 A2 n2 c2 (W.drewN k):=zX h k
theorem Sm.below (h:Sm w neg A n c neg2 A2 n2 c2 W):Below w.heap.size w W:=Below.trans (by go_grown) (Below.mono h (by omega))
theorem Sm.facts (h:Sm w neg A n c neg2 A2 n2 c2 W):W.cell? ⟨w.heap.size,0,none⟩=some (.bool neg)∧W.cell? ⟨w.heap.size,1,none⟩=some (.slice A n c)∧W.cell? ⟨w.heap.size+1,0,none⟩=some (.bool neg2)∧W.cell? ⟨w.heap.size+1,1,none⟩=some (.slice A2 n2 c2) ∧
  W.cell? ⟨w.heap.size+1+1,0,none⟩=some (.bool false)∧W.cell? ⟨w.heap.size+1+1,1,none⟩=some (.slice none 0 0)∧(∀i,W.frozen? ⟨w.heap.size+1+1,i,none⟩=false)∧w.heap.size+1+1<W.heap.size:=by
 have h':Below (w.heap.size+1+1+1) (((w.alloc (.cells #[.bool neg,.slice A n c] 30)).alloc (.cells #[.bool neg2,.slice A2 n2 c2] 30)).alloc (.cells #[.bool false,.slice none 0 0] 30)) W:=h
 have k:∀b o,b<w.heap.size+1+1+1→W.cell? ⟨b,o,none⟩=(((w.alloc (.cells #[.bool neg,.slice A n c] 30)).alloc (.cells #[.bool neg2,.slice A2 n2 c2] 30)).alloc (.cells #[.bool false,.slice none 0 0] 30)).cell? ⟨b,o,none⟩:=fun b o hb=>h'.cell (p:=⟨b,o,none⟩) hb
 have f:∀b o,b<w.heap.size+1+1+1→W.frozen? ⟨b,o,none⟩=(((w.alloc (.cells #[.bool neg,.slice A n c] 30)).alloc (.cells #[.bool neg2,.slice A2 n2 c2] 30)).alloc (.cells #[.bool false,.slice none 0 0] 30)).frozen? ⟨b,o,none⟩:=fun b o hb=>h'.frozen (p:=⟨b,o,none⟩) hb
 refine ⟨?_,?_,?_,?_,?_,?_,fun i=>?_,by have:=Sm.size h;omega⟩
 ·rw [k _ _ (by omega)];simp [go_sem]
 ·rw [k _ _ (by omega)];simp [go_sem]
 ·rw [k _ _ (by omega)];simp [go_sem]
 ·rw [k _ _ (by omega)];simp [go_sem]
 ·rw [k _ _ (by omega)];simp [go_sem]
 ·rw [k _ _ (by omega)];simp [go_sem]
 ·rw [f _ _ (by omega)];simp [go_sem]
end
theorem zuz (b:Bool) (x y:Nat):sgn b x+sgn b y=sgn b (x+y):=by
 cases b<;>simp [sgn];omega
theorem zuC (b:Bool) {x y:Nat} (h:y≤x):sgn b x+sgn (!b) y=sgn b (x - y):=by
 cases b<;>simp [sgn]<;>omega
theorem zrO (b:Bool) {x y:Nat} (h:x≤y):sgn (!b) x+sgn b y=sgn b (y - x):=by
 cases b<;>simp [sgn]<;>omega
end Go.Proofs.YtjcegdldgjphiaaGreatDoor
namespace Go.Proofs.YtjcegdldgjphiaaGreatDoor
open Go.RowKit Go.Shelf
def mulS (neg:Bool) (l:List Nat) (neg2:Bool) (m:List Nat):Option Int:=
 if zw neg l=true∧zw neg2 m=true then fitO (sgn neg (nval l)*sgn neg2 (nval m)) else none
theorem zuA (a b:Bool) (x y:Nat):sgn a x*sgn b y=sgn (!(a == b)) (x*y):=by
 cases a<;>cases b<;>simp [sgn,Int.neg_mul,Int.mul_neg]
end Go.Proofs.YtjcegdldgjphiaaGreatDoor
namespace Go.Proofs.YtjcegdldgjphiaaGreatDoor
open Go.RowKit Go.Shelf
def S2 (w:World) (neg:Bool) (A:Option Addr) (n c:Nat) (neg2:Bool) (A2:Option Addr) (n2 c2:Nat) (W:World):Prop:=
 Below (w.heap.size+1+1) ((w.alloc (.cells #[.bool neg,.slice A n c] 30)).alloc (.cells #[.bool neg2,.slice A2 n2 c2] 30)) W
section
variable {w W W1:World} {neg neg2:Bool} {A A2:Option Addr} {n c n2 c2:Nat}
theorem S2.start:S2 w neg A n c neg2 A2 n2 c2 ((w.alloc (.cells #[.bool neg,.slice A n c] 30)).alloc (.cells #[.bool neg2,.slice A2 n2 c2] 30)):=Below.refl _ _
theorem S2.size (h:S2 w neg A n c neg2 A2 n2 c2 W):w.heap.size+1+1≤W.heap.size:=by have:=Below.size h;simpa using this
theorem S2.via (h:S2 w neg A n c neg2 A2 n2 c2 W) (hb:Below W.heap.size W W1):S2 w neg A n c neg2 A2 n2 c2 W1:=Below.trans h (hb.mono h.size)
theorem S2.below (h:S2 w neg A n c neg2 A2 n2 c2 W):Below w.heap.size w W:=Below.trans (by go_grown) (Below.mono h (by omega))
theorem S2.facts (h:S2 w neg A n c neg2 A2 n2 c2 W):W.cell? ⟨w.heap.size,0,none⟩=some (.bool neg)∧W.cell? ⟨w.heap.size,1,none⟩=some (.slice A n c)∧W.cell? ⟨w.heap.size+1,0,none⟩=some (.bool neg2)∧W.cell? ⟨w.heap.size+1,1,none⟩=some (.slice A2 n2 c2):=by
 have h':Below (w.heap.size+1+1) ((w.alloc (.cells #[.bool neg,.slice A n c] 30)).alloc (.cells #[.bool neg2,.slice A2 n2 c2] 30)) W:=h
 have k:∀b o,b<w.heap.size+1+1→W.cell? ⟨b,o,none⟩=((w.alloc (.cells #[.bool neg,.slice A n c] 30)).alloc (.cells #[.bool neg2,.slice A2 n2 c2] 30)).cell? ⟨b,o,none⟩:=fun b o hb=>h'.cell (p:=⟨b,o,none⟩) hb
 refine ⟨?_,?_,?_,?_⟩
 ·rw [k _ _ (by omega)];simp [go_sem]
 ·rw [k _ _ (by omega)];simp [go_sem]
 ·rw [k _ _ (by omega)];simp [go_sem]
 ·rw [k _ _ (by omega)];simp [go_sem]
end
def cmpI (x y:Int):Int:=if x<y then -1 else if y<x then 1 else 0
def cmpS (neg:Bool) (l:List Nat) (neg2:Bool) (m:List Nat):Int:=
 if zw neg l=true∧zw neg2 m=true then cmpI (sgn neg (nval l)) (sgn neg2 (nval m)) else 0
def cmpB (neg neg2:Bool) (o:Int):Int:=if neg && neg2 then -o else if neg then -1 else if neg2 then 1 else o
theorem zoi {neg neg2:Bool} {a b:Nat} (ha:neg=true→0<a) (hb:neg2=true→0<b):cmpB neg neg2 (cmpv a b)=cmpI (sgn neg a) (sgn neg2 b):=by
 cases neg<;>cases neg2<;>simp [cmpB,sgn,cmpI,cmpv] at *<;>(repeat' split)<;>omega
theorem zsH (a b:Nat):-1≤cmpv a b∧cmpv a b≤1:=by unfold cmpv;split<;>(try split)<;>omega
theorem ztq (neg neg2:Bool) {A A2:Option Addr} {n n2 c c2 B:Nat} {l:List Nat} {w:World} (h:Sl w B A n c l) (hB:B≤w.heap.size) (h1:zw neg l=false) :
  Calls Tryz.prog 70 #[.agg #[.bool neg,.slice A n c],.agg #[.bool neg2,.slice A2 n2 c2]] w fun e w'=>e=.returned (.int .i64 0)∧Below w.heap.size w w':=by
 have R1:=Lib.hid (zag neg (h.more hB) false h1)
 have s0:=S2.start (w:=w) (neg:=neg) (A:=A) (n:=n) (c:=c) (neg2:=neg2) (A2:=A2) (n2:=n2) (c2:=c2)
 clear h h1
 go_enter Tryz.func70,Tryz.ntmps70
 go_wp2_with (go_at_call 96;refine (R1.out _ s0.below).mono ?_;rintro e w1 ⟨rfl,hb⟩;have s1:=s0.via hb;obtain ⟨a0,a1,b0,b1⟩:=s1.facts)
 go_ret
 exact ⟨rfl,s1.below⟩
theorem ztr (neg neg2:Bool) {A A2:Option Addr} {n n2 c c2 B:Nat} {l m:List Nat} {w:World} (h:Sl w B A n c l) (h2:Sl w B A2 n2 c2 m) (hB:B≤w.heap.size) (h1:zw neg l=true) (k1:zw neg2 m=false) :
  Calls Tryz.prog 70 #[.agg #[.bool neg,.slice A n c],.agg #[.bool neg2,.slice A2 n2 c2]] w fun e w'=>e=.returned (.int .i64 0)∧Below w.heap.size w w':=by
 have R1:=Lib.hid (zag neg (h.more hB) true h1)
 have R2:=Lib.hid (zag neg2 (h2.more hB) false k1)
 have s0:=S2.start (w:=w) (neg:=neg) (A:=A) (n:=n) (c:=c) (neg2:=neg2) (A2:=A2) (n2:=n2) (c2:=c2)
 clear h h1 h2 k1
 go_enter Tryz.func70,Tryz.ntmps70
 go_wp2_with (first
  | (go_at_call 96;(with_reducible refine (R1.out _ s0.below).mono ?_);rintro e w1 ⟨rfl,hb⟩;have s1:=s0.via hb;obtain ⟨a0,a1,b0,b1⟩:=s1.facts)
  | (go_at_call 96;(with_reducible refine (R2.out _ s1.below).mono ?_);rintro e w2 ⟨rfl,hb⟩;have s2:=s1.via hb;clear a0 a1 b0 b1;obtain ⟨a0,a1,b0,b1⟩:=s2.facts)
  | fail "no arm")
 go_ret
 exact ⟨rfl,s2.below⟩
theorem zts (neg neg2:Bool) {A A2:Option Addr} {n n2 c c2 B:Nat} {l m:List Nat} {w:World} (h:Sl w B A n c l) (h2:Sl w B A2 n2 c2 m) (hB:B≤w.heap.size) (h1:zw neg l=true) (k1:zw neg2 m=true) :
  Calls Tryz.prog 70 #[.agg #[.bool neg,.slice A n c],.agg #[.bool neg2,.slice A2 n2 c2]] w fun e w'=>e=.returned (.int .i64 (cmpB neg neg2 (cmpv (nval l) (nval m))))∧Below w.heap.size w w':=by
 have R1:=Lib.hid (zag neg (h.more hB) true h1)
 have R2:=Lib.hid (zag neg2 (h2.more hB) true k1)
 have hl:=zC h1 h.dig
 have hm:=zC k1 h2.dig
 have CP:=Lib.hid (fun (W:World) (hW:Below w.heap.size w W)=>zbM ((h.more hB).below hW) ((h2.more hB).below hW) hW.size hl.1 hm.1)
 have s0:=S2.start (w:=w) (neg:=neg) (A:=A) (n:=n) (c:=c) (neg2:=neg2) (A2:=A2) (n2:=n2) (c2:=c2)
 obtain ⟨o,ho⟩:∃o,cmpv (nval l) (nval m)=o:=⟨_,rfl⟩
 obtain ⟨o1,o2⟩:=zsH (nval l) (nval m)
 rw [ho] at CP o1 o2 ⊢
 have hw:IntKind.i64.wrap (-o)=-o:=by rw [IntKind.wrap_i64];omega
 clear h h1 h2 k1 hl hm ho
 cases neg<;>cases neg2
 all_goals
  go_enter Tryz.func70,Tryz.ntmps70
  go_wp2_with (first
   | (go_at_call 96;(with_reducible refine (R1.out _ s0.below).mono ?_);rintro e w1 ⟨rfl,hb⟩;have s1:=s0.via hb;obtain ⟨a0,a1,b0,b1⟩:=s1.facts)
   | (go_at_call 96;(with_reducible refine (R2.out _ s1.below).mono ?_);rintro e w2 ⟨rfl,hb⟩;have s2:=s1.via hb;clear a0 a1 b0 b1;obtain ⟨a0,a1,b0,b1⟩:=s2.facts)
   | (go_at_call 97;(with_reducible refine (CP.out _ s2.below).mono ?_);rintro e w3 ⟨rfl,hb⟩;have s3:=s2.via hb;clear a0 a1 b0 b1;obtain ⟨a0,a1,b0,b1⟩:=s3.facts)
   | fail "no arm")
  go_ret
  exact ⟨by simp [cmpB],s3.below⟩
theorem ztp (neg neg2:Bool) {A A2:Option Addr} {n n2 c c2 B:Nat} {l m:List Nat} {w:World} (h:Sl w B A n c l) (h2:Sl w B A2 n2 c2 m) (hB:B≤w.heap.size) :
  Calls Tryz.prog 70 #[.agg #[.bool neg,.slice A n c],.agg #[.bool neg2,.slice A2 n2 c2]] w fun e w'=>e=.returned (.int .i64 (cmpS neg l neg2 m))∧Below w.heap.size w w':=by
 cases h1:zw neg l with
 | false=>rw [show cmpS neg l neg2 m=0 by unfold cmpS;rw [if_neg (by rw [h1];simp)]];exact ztq neg neg2 h hB h1
 | true =>
  cases k1:zw neg2 m with
  | false=>rw [show cmpS neg l neg2 m=0 by unfold cmpS;rw [if_neg (by rw [k1];simp)]];exact ztr neg neg2 h h2 hB h1 k1
  | true =>
   have hp:∀{b:Bool} {k:List Nat},zw b k=true→Dig k→b=true→0<nval k:=fun {b k} hr hd hb=>by
    rcases Nat.eq_zero_or_pos (nval k) with h0 | h0
    ·have:=(zC hr hd).2.2 (qD (zC hr hd).1 h0);rw [hb] at this;cases this
    ·exact h0
   rw [show cmpS neg l neg2 m=cmpB neg neg2 (cmpv (nval l) (nval m)) by unfold cmpS;rw [if_pos ⟨h1,k1⟩,zoi (hp h1 h.dig) (hp k1 h2.dig)]]
   exact zts neg neg2 h h2 hB h1 k1
end Go.Proofs.YtjcegdldgjphiaaGreatDoor
namespace Go.Proofs.YtjcegdldgjphiaaGreatDoor
open Go.RowKit Go.Shelf
def S1 (w:World) (neg:Bool) (A:Option Addr) (n c:Nat) (W:World):Prop:=
 Below (w.heap.size+1) (w.alloc (.cells #[.bool neg,.slice A n c] 30)) W
section
variable {w W W1:World} {neg:Bool} {A:Option Addr} {n c:Nat}
theorem S1.start:S1 w neg A n c (w.alloc (.cells #[.bool neg,.slice A n c] 30)):=Below.refl _ _
theorem S1.size (h:S1 w neg A n c W):w.heap.size+1≤W.heap.size:=by have:=Below.size h;simpa using this
theorem S1.via (h:S1 w neg A n c W) (hb:Below W.heap.size W W1):S1 w neg A n c W1:=Below.trans h (hb.mono h.size)
theorem S1.drew (h:S1 w neg A n c W):S1 w neg A n c W.drew:=Below.drew h
theorem S1.drewN (h:S1 w neg A n c W) (k:Nat):S1 w neg A n c (W.drewN k):=zX h k
theorem S1.below (h:S1 w neg A n c W):Below w.heap.size w W:=Below.trans (by go_grown) (Below.mono h (by omega))
theorem S1.facts (h:S1 w neg A n c W):W.cell? ⟨w.heap.size,0,none⟩=some (.bool neg)∧W.cell? ⟨w.heap.size,1,none⟩=some (.slice A n c):=by
 have h':Below (w.heap.size+1) (w.alloc (.cells #[.bool neg,.slice A n c] 30)) W:=h
 have k:∀b o,b<w.heap.size+1→W.cell? ⟨b,o,none⟩=(w.alloc (.cells #[.bool neg,.slice A n c] 30)).cell? ⟨b,o,none⟩:=fun b o hb=>h'.cell (p:=⟨b,o,none⟩) hb
 refine ⟨?_,?_⟩
 ·rw [k _ _ (by omega)];simp [go_sem]
 ·rw [k _ _ (by omega)];simp [go_sem]
end
end Go.Proofs.YtjcegdldgjphiaaGreatDoor
namespace Go.Proofs.YtjcegdldgjphiaaGreatDoor
open Go.RowKit Go.Shelf
theorem zat {W:World} {B p n c:Nat} {A:Option Addr} (h:Sl W B A n c (digs p)) (hp:p<big):n≤64:=by
 have h1:=(zaq p).2 hp
 rw [h.len] at h1;exact h1
theorem qG {W:World} {B p n c:Nat} {A:Option Addr} (h:Sl W B A n c (digs p)):n=0↔p=0:=by
 rw [← zcu (v:=p),← h.len]
 exact List.length_eq_zero_iff
def cellN (W:World) (p:Addr):Nat:=match W.cell? p with
 | some (.int _ d)=>d.toNat
 | _=>0
def slv (W:World) (v:Value):Nat:=match v with
 | .slice (some ad) n _=>nval ((List.range n).map fun j=>cellN W (ad.add j))
 | _=>0
theorem zcJ {W:World} {B n c:Nat} {A:Option Addr} {l:List Nat} (h:Sl W B A n c l):slv W (.slice A n c)=nval l:=by
 have hl:=h.len
 cases A with
 | none =>
  have h0:n=0:=by
   rcases Nat.eq_zero_or_pos n with h0 | h0
   ·exact h0
   ·obtain ⟨ad,e,_⟩:=h.at_ h0;cases e
  rw [h0] at hl
  rw [List.eq_nil_of_length_eq_zero hl];rfl
 | some ad =>
  have e:(List.range n).map (fun j=>cellN W (ad.add j))=l:=by
   refine List.ext_getElem (by simp [hl]) fun j h1 h2=>?_
   obtain ⟨ad',e,_,hc⟩:=h.at_ (k:=j) (by simpa using h1)
   cases e
   simp only [List.getElem_map,List.getElem_range,cellN,hc]
   rw [zb2 h2];rfl
  show nval ((List.range n).map fun j=>cellN W (ad.add j))=nval l
  rw [e]
end Go.Proofs.YtjcegdldgjphiaaGreatDoor
namespace Go.Proofs.YtjcegdldgjphiaaGreatDoor
open Go.RowKit Go.Shelf
def OwnD (w:World) (base:Nat) (v:Value) (l:List Nat):Prop:=w.ownsRow base 123 1 v l.length (u32s l)∧Dig l
theorem OwnD.nil (w:World) (base:Nat):OwnD w base (.slice none 0 0) []:=⟨⟨rfl,.inl ⟨rfl,rfl⟩⟩,zj0⟩
theorem OwnD.sl {w:World} {base:Nat} {v:Value} {l:List Nat} (h:OwnD w base v l):∃A c,v=.slice A l.length c∧Sl w w.heap.size A l.length c l∧(∀ad,A=some ad→base≤ad.block):=by
 obtain ⟨⟨h1,h2⟩,hd⟩:=h
 rcases h2 with ⟨rfl,h0⟩ | ⟨g,cap,cur,rfl,hb,hg,hn,hc,hs,ht⟩
 ·obtain rfl:=List.eq_nil_of_length_eq_zero h0
  exact ⟨none,0,rfl,Sl.none_,fun ad e=>by cases e⟩
 ·refine ⟨_,_,rfl,⟨⟨⟨by simp [qt],fun _=>⟨_,rfl,zaB hg,fun j u hu=>?_⟩⟩,hd⟩,hn,hc⟩,fun ad e=>by cases e;exact hb⟩
  have e:(⟨g,0,none⟩:Addr).add j=⟨g,j,none⟩:=by unfold Addr.add;split<;>simp [*]
  rw [e,zaL hg,← Array.getElem?_toList]
  rw [← ht,List.getElem?_take] at hu
  split at hu
  ·exact hu
  ·cases hu
theorem ziE {l:List Nat}:∀u∈u32s l,u.oneCell'=true:=by
 intro u hu
 obtain ⟨d,_,rfl⟩:=List.mem_map.1 hu
 rfl
theorem Sl.news {w:World} {B n c:Nat} {ad:Addr} {l:List Nat} (h:Sl w B (some ad) n c l) (hn:0<n):∀j u,(u32s l)[j]?=some u→w.cell? (ad.add j)=some u:=by
 obtain ⟨ad',e,_,hc⟩:=h.1.1.2 hn
 cases e
 exact hc
theorem OwnD.below {w w':World} {base B:Nat} {v:Value} {l:List Nat} (h:OwnD w base v l) (hb:Below B w w') (hB:w.heap.size≤B):OwnD w' base v l:=by
 obtain ⟨⟨h1,h2⟩,hd⟩:=h
 refine ⟨⟨h1,?_⟩,hd⟩
 rcases h2 with h2 | ⟨g,cap,cur,h3,h4,h5,h6⟩
 ·exact .inl h2
 ·exact .inr ⟨g,cap,cur,h3,h4,(hb.block g (Nat.lt_of_lt_of_le (zaB h5) hB)).trans h5,h6⟩
theorem zvX {w W:World} {neg:Bool} {A:Option Addr} {n c:Nat} (h:S1 w neg A n c W):(∀i,W.frozen? ⟨w.heap.size,i,none⟩=false)∧w.heap.size<W.heap.size:=by
 have h':Below (w.heap.size+1) (w.alloc (.cells #[.bool neg,.slice A n c] 30)) W:=h
 refine ⟨fun i=>?_,by have:=S1.size h;omega⟩
 rw [h'.frozen (p:=⟨w.heap.size,i,none⟩) (by simp)];simp [go_sem]
theorem qd (A:Option Addr) (n c B v:Nat) (neg:Bool) (l:List Nat) (w:World) (h:Sl w B A n c l) (hB:B≤w.heap.size) (hv:nval l=v) :
  Calls Tryz.prog 90 #[.bool neg,.slice A n c] w (RetN (fitO (sgn neg v)) w):=by
 refine (show Calls Tryz.prog 90 #[.bool neg,.slice A n c] w (znW (sgn neg v) w) from ?_).mono fun _ _ hr=>zcT hr
 have hS:=(h.below (w':=w.alloc (.cells #[.bool false,.slice none 0 0] 30)) ((Below.refl _ _).alloc hB _)).val hv
 have hS0:=Lib.hid ((h.below (w':=w.alloc (.cells #[.bool false,.slice none 0 0] 30)) ((Below.refl _ _).alloc hB _)))
 have hlen:=hS.len
 obtain ⟨n',hn'⟩:∃n',(trimL l).length=n':=⟨_,rfl⟩
 have HV:=Lib.hid hv
 have HN:=Lib.hid hn'
 rw [hn'] at hS hlen
 clear h hn' hv
 rcases Nat.lt_or_ge 64 n' with h64 | h64
 ·have hf:¬ v<big:=fun hlt=>by have:=(zaq v).2 hlt;omega
  have e1:numv (sgn neg v)=0:=by unfold numv;rw [qA,if_neg hf]
  have e2:Hid (negv (sgn neg v)=false∧okv (sgn neg v)=false∧numv (sgn neg v)=0):=⟨by unfold negv;rw [e1];rfl,by unfold okv;rw [qA];exact decide_eq_false hf,e1⟩
  clear hS hlen e1 hf
  go_enter Tryz.func90,Tryz.ntmps90
  go_wp2_with (go_at_call 107;refine (za5 _ _ _ _ _ _ hS0.out.1 hS0.out.2.1 hS0.out.2.2).mono ?_;rw [HN.out];rintro e w' ⟨rfl,rfl⟩)
  exact bodyPost_ret (v:=.tuple #[.agg #[.bool false,.slice none 0 0],.bool false]) (by simp [results,Tryz.f90,go_sem]) rfl ⟨_,_,_,zbF e2.out.1.symm e2.out.2.1.symm,by rw [e2.out.2.2];exact ⟨by rw [show digs (Int.natAbs 0)=[] from zx];exact RD.none_,Nat.le_refl _,by omega⟩,by go_grown⟩
 ·have hf:v<big:=(zaq v).1 (by omega)
  have e1:numv (sgn neg v)=sgn neg v:=by unfold numv;rw [qA,if_pos hf]
  have e3:okv (sgn neg v)=true:=by unfold okv;rw [qA];exact decide_eq_true hf
  have e4:negv (sgn neg v)=(neg && decide (v≠0)):=by unfold negv;rw [e1];exact zpJ neg v
  rcases Nat.eq_zero_or_pos n' with h0 | h0
  ·have hv0:v=0:=zcu.1 (List.eq_nil_of_length_eq_zero (by omega))
   subst h0
   have e2:Hid (negv (sgn neg v)=false∧okv (sgn neg v)=true∧(numv (sgn neg v)).natAbs=0):=⟨by rw [e4,hv0];simp,e3,by rw [e1,qA,hv0]⟩
   clear hS hlen e1 hf e3 e4 hv0 h64
   go_enter Tryz.func90,Tryz.ntmps90
   go_wp2_with (go_at_call 107;refine (za5 _ _ _ _ _ _ hS0.out.1 hS0.out.2.1 hS0.out.2.2).mono ?_;rw [HN.out];rintro e w' ⟨rfl,rfl⟩)
   exact bodyPost_ret (v:=.tuple #[.agg #[.bool false,.slice none 0 0],.bool true]) (by simp [results,Tryz.f90,go_sem]) rfl ⟨_,_,_,zbF e2.out.1.symm e2.out.2.1.symm,by rw [e2.out.2.2];exact ⟨by rw [zx];exact RD.none_,Nat.le_refl _,by omega⟩,by go_grown⟩
  ·have hv0:v≠0:=fun e=>by rw [e,zx] at hlen;simp at hlen;omega
   have e2:Hid (negv (sgn neg v)=neg∧okv (sgn neg v)=true∧(numv (sgn neg v)).natAbs=v):=⟨by rw [e4];simp [hv0],e3,by rw [e1,qA]⟩
   clear e1 hf e3 e4 hv0
   obtain ⟨ad,rfl,_⟩:=hS.at_ (k:=0) h0
   obtain ⟨i0,hi,hz0,hz1,hz2⟩:=info_parts Tryz.infoU32
   have b0:Below B ((w.alloc (.cells #[.bool false,.slice none 0 0] 30))) ((w.alloc (.cells #[.bool false,.slice none 0 0] 30)).alloc (.cells #[] 123)):=(Below.refl _ _).alloc (by simp;omega) _
   have hown:((w.alloc (.cells #[.bool false,.slice none 0 0] 30)).alloc (.cells #[] 123)).ownsRow (w.heap.size+1) 123 1 (.slice (some ⟨w.heap.size+1,0,none⟩) 0 0) 0 []:=⟨rfl,.inr ⟨w.heap.size+1,0,#[],rfl,Nat.le_refl _,zI _ _ _ (by simp),Nat.le_refl _,by decide,rfl,rfl⟩⟩
   have hnews:=(hS.below b0).news h0
   have hnl:(u32s (digs v)).length=n'*1:=by rw [qt,hlen,Nat.mul_one]
   have hmx:0+n'≤maxLen:=by unfold maxLen;omega
   have hby2:(0+n')*4≤140737488355328:=by omega
   have hbs:w.heap.size+1≤((w.alloc (.cells #[.bool false,.slice none 0 0] 30)).alloc (.cells #[] 123)).heap.size:=by simp
   go_enter Tryz.func90,Tryz.ntmps90
   go_wp2_with (first
    | (go_at_call 107;refine (za5 _ _ _ _ _ _ hS0.out.1 hS0.out.2.1 hS0.out.2.2).mono ?_;rw [HN.out];rintro e w' ⟨rfl,rfl⟩)
    | (at_builtin;refine wpList_append_lies _ rfl _ _ 28 rfl (w.heap.size+1) 123 i0 (.int .u32 0) 1 4 Tryz.underlying28 hi hz0 hz1 hz2 rfl (by decide) _ _ _ rfl hown ad n' c (u32s (digs v)) rfl hnl hnews ziE h0 hmx hby2 hbs _ rfl ?_;intro g cap w1 hown' hgrow _ hlt;have s1:S1 w false none 0 0 w1:=zcF ((Below.refl _ _).alloc (by simp) _) hgrow hbs (Nat.le_refl _);obtain ⟨r0,r1⟩:=s1.facts;obtain ⟨rf,rz⟩:=zvX s1;have hO:OwnD w1 (w.heap.size+1) (.slice (some ⟨g,0,none⟩) n' cap) (digs v):=⟨by rw [hlen];rw [Nat.zero_add] at hown';exact hown',(zL v).1⟩;have HO:=Lib.hid hO;clear hO hown' hgrow)
    | fail "no arm")
   obtain ⟨A2,c2,e,hsl,_⟩:=HO.out.sl
   rw [hlen] at e hsl
   cases e
   obtain ⟨q0,q1⟩:=zJ (.bool neg) (.slice (some ⟨g,0,none⟩) n' cap) r0 r1
   refine bodyPost_ret (v:=.tuple #[.agg #[.bool neg,.slice (some ⟨g,0,none⟩) n' cap],.bool true]) ?_ rfl ⟨_,_,_,zbF e2.out.1.symm e2.out.2.1.symm,by rw [e2.out.2.2];exact hsl.stored r0 r1 _ _,(s1.below.setCell (by simp) _).setCell (by simp) _⟩
   simp [results,Tryz.f90,go_sem,q0,q1]
end Go.Proofs.YtjcegdldgjphiaaGreatDoor
