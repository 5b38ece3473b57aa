/-
  Merged: NumG, NumR, NumH, NumI.
-/
import Derived.Test.YtjcegdldgjphiaaGreatDoorGpAE
import Derived.RangeFuncNested
import Derived.RangeFuncBound
import Derived.RangeFuncCalls
import Derived.RangeFuncLeaves
import Derived.RangeFuncBox
import Derived.Shelf.Abstract
import Derived.Shelf.RegionOpen
import Derived.OwnWalkIn
import Derived.TacticsInMore
import Derived.LoopNIn
import Derived.LoopIn
set_option linter.unusedSimpArgs false
set_option linter.unusedVariables false
set_option maxRecDepth 100000
set_option maxHeartbeats 2000000
namespace Go.Proofs.YtjcegdldgjphiaaGreatDoor
open Go.RowKit Go.Shelf
attribute [local go_sem] Oper.semAt_some
def downs (n:Nat):List {k:Nat // k<n}:=List.ofFn (n:=n) fun j=>⟨n - 1 - j,by omega⟩
theorem zZ (n:Nat):(downs n).length=n:=by simp [downs]
theorem zdE {n r:Nat} (h:r<n):(downs n).take (n - r)=(downs n).take (n - (r+1))++[⟨r,h⟩]:=by
 have e:n - r=(n - (r+1))+1:=by omega
 rw [e,List.take_succ_eq_append_getElem (by rw [zZ];omega)]
 congr 2
 simp only [downs,List.getElem_ofFn,Subtype.mk.injEq]
 omega
theorem zaM {n:Nat} {pre:List {k:Nat // k<n}} {x:{k:Nat // k<n}} (h:pre++[x] <+: downs n):pre <+: downs n∧pre.length<n∧x.1=n - 1 - pre.length:=by
 refine ⟨(List.prefix_append _ _).trans h,?_,?_⟩
 ·have:=h.length_le;rw [zZ] at this;simp at this;omega
 ·have hl:pre.length<n:=by have:=h.length_le;rw [zZ] at this;simp at this;omega
  have h1:(pre++[x])[pre.length]?=some x:=by simp
  obtain ⟨t,ht⟩:=h
  have h2:(downs n)[pre.length]?=some x:=by rw [← ht,List.getElem?_append_left (by simp),h1]
  rw [List.getElem?_eq_getElem (by rw [zZ];exact hl)] at h2
  have:=Option.some.inj h2
  rw [← this]
  simp [downs]
def KpD (n₀ Bs:Nat) (A B:World):Prop:=Below n₀ A B∧B.heap[Bs]?=A.heap[Bs]?
theorem kpD_t {n₀ Bs:Nat} {A B C:World} (h:KpD n₀ Bs A B) (k:KpD n₀ Bs B C):KpD n₀ Bs A C:=⟨h.1.trans k.1,k.2.trans h.2⟩
theorem kpD_b {n₀ Bs:Nat} {w:World} (hn:n₀≤w.heap.size) (hs:Bs<w.heap.size) (W:World) (l:Nat) (o o':Obj) (hl:w.heap.size≤l) (h:W.heap[l]?=some o) (hc:o.isCells=false) (hw:o.isWalk=false):KpD n₀ Bs W (W.putObj l o'):=
 ⟨belowK_b hn W l o o' hl h hc hw,(grownBy_putObj' W l o').block Bs (by have:=(Array.getElem?_eq_some_iff.1 h).1;omega) (fun e=>by cases e;omega)⟩
theorem zg0 (n₀ Bs:Nat) (A:World):KpD n₀ Bs A A:=⟨Below.refl _ _,rfl⟩
theorem zgC (F:Fence) (n:Nat) (h45:F.fn 117) (hro:F.round=none) (A:Option Addr) (len cap:Nat) (w:World) :
  CallsIn F n Tryz.prog 117 #[.slice A len cap] w fun e w'=>e=.returned (.func (.func 146) #[] #[.pointer (some ⟨w.heap.size,0,none⟩)])∧w'=w.alloc (.cells #[.slice A len cap] 117):=by
 refine callsIn_of_wp Tryz.func117 rfl h45 ?_ hro
 simp only [Tryz.ntmps117,List.size_toArray,List.length_cons,List.length_nil,Nat.reduceAdd,Nat.reduceSub,Array.replicate_succ,Array.replicate_zero,List.push_toArray,List.append_toArray,List.nil_append,List.cons_append]
 gi_wp2
 go_ret
 exact ⟨rfl,rfl⟩
theorem zqU (F:Fence) (n:Nat) (h66:F.fn 146) (hro:F.round=none) (hn:1≤n) (ll Bs n₀:Nat) (A:Option Addr) (len cap:Nat) (l:List Nat) (J Jx:List {k:Nat // k<len}→World→Prop)
  (hY:∀pre x W,J pre W→pre.length<len→YieldAt F (n - 1) Tryz.prog ll #[.int .i64 (x.1:Nat),.int .u32 (dg l x.1:Nat)] W fun e W' =>
   (e=.returned (.bool true)∧J (pre++[x]) W'∧KpD n₀ Bs W W')∨(e=.returned (.bool false)∧Jx (pre++[x]) W'))
  (W:World) (hBs:Boxed W Bs 117 (.slice A len cap)) (hS:Sl W n₀ A len cap l) (h0:J [] W) :
  CallsIn F n Tryz.prog 146 #[.func (.yield ll) #[] #[],.pointer (some ⟨Bs,0,none⟩)] W fun e W'=>(∃v,e=.returned v) ∧
   ((∃ys,ys=downs len∧J ys W')∨(∃pre,pre <+: downs len∧Jx pre W')):=by
 refine callsIn_of_wp Tryz.func146 rfl h66 ?_ hro
 simp only [Tryz.ntmps146,List.size_toArray,List.length_cons,List.length_nil,Nat.reduceAdd,Nat.reduceSub,Array.replicate_succ,Array.replicate_zero,List.push_toArray,List.append_toArray,List.nil_append,List.cons_append]
 have HS:=Lib.hid hS
 have hlen:len≤9223372036854775807:=by have:=hS.2;omega
 clear hS
 have hbc:=hBs.cell
 gi_wp2
 gi_loopw [3] (fun i wr=>∃r:Nat,r≤len∧i=.int .i64 ((r:Int) - 1)∧J ((downs len).take (len - r)) wr∧KpD n₀ Bs W wr)
  (fun i _=>(intOf i+1).toNat)
 case atStart=>exact ⟨len,Nat.le_refl _,rfl,by simpa using h0,zg0 _ _ _⟩
 case round =>
  obtain ⟨r,hr,rfl,hJs,hK⟩:=hrel
  have hbc2:wr.cell? ⟨Bs,0,none⟩=some (.slice A len cap):=((Boxed.cell (hK.2.trans hBs)))
  clear hbc
  cases r with
  | zero =>
   gi_wp2
   go_end0
   exact ⟨⟨_,rfl⟩,.inl ⟨_,List.take_of_length_le (by rw [zZ];omega),hJs⟩⟩
  | succ r =>
   obtain ⟨ad,rfl,hb,hc⟩:=(HS.out.below hK.1).at_ (k:=r) (by omega)
   obtain ⟨fn,tmps,assign,body,hy,hR⟩:=hY _ ⟨r,by omega⟩ wr hJs (by rw [List.length_take,zZ];omega)
   dsimp only at hy
   have er:((r+1:Nat):Int) - 1=r:=by omega
   rw [er]
   clear er
   gi_wp2
   refine hR.mono ?_
   rintro e W3 (⟨rfl,hJ3,hk3⟩ | ⟨rfl,hJx3⟩)
   ·gi_wp2
    go_roundw
    case rel=>exact ⟨r,by omega,rfl,by rw [zdE (by omega)];exact hJ3,kpD_t hK hk3⟩
    case measure=>simp [intOf]
   ·gi_wp2
    refine bodyPost_ret (results_none rfl _ _ _) rfl ?_
    exact ⟨⟨_,rfl⟩,.inr ⟨_,by rw [← zdE (by omega)];exact List.take_prefix _ _,hJx3⟩⟩
theorem zdD (F:Fence) (n:Nat) (h66:F.fn 146) (hro:F.round=none) (hn:1≤n) (Bs n₀:Nat) (A:Option Addr) (len cap:Nat) (l:List Nat) (w:World) (hBs:Boxed w Bs 117 (.slice A len cap)) (hn₀:n₀≤w.heap.size) (hS:Sl w n₀ A len cap l) :
  SeqStopsK F n Tryz.prog 146 #[.pointer (some ⟨Bs,0,none⟩)] (fun x:{k:Nat // k<len}=>#[Value.int .i64 (x.1:Nat),Value.int .u32 (dg l x.1:Nat)]) (KpD n₀ Bs) (fun ys=>ys=downs len) (fun pre=>pre <+: downs len) len w:=fun ll J Jx W hW _ _ hY h0 =>
 zqU F n h66 hro hn ll Bs n₀ A len cap l J Jx hY W ((hW.block Bs hBs.lt).trans hBs) (hS.below (hW.mono hn₀)) h0
end Go.Proofs.YtjcegdldgjphiaaGreatDoor
namespace Go.Proofs.YtjcegdldgjphiaaGreatDoor
open Go.RowKit Go.Shelf
section
variable {F:Fence} {n:Nat} {P:Program} {md:Region.Mode} {ops:Array Oper} {Q:Exit→Act→World→Prop} {l:Nat}
theorem zmJ {o:Oper} {a:Act} {w:World} {K:Act→World→Prop} (hd:∀c,o.op≠.defer c) (h:o.wpIn F n P a w K Q):o.wpIn (F.inRound l) n P a w K Q:=by
 refine ⟨h.1,?_⟩
 have h2:=h.2
 rw [Oper.semAt_eq _ _ _ hd] at h2 ⊢
 exact h2
theorem zn0 (hd:∀(i:Nat) (o:Oper) (c:Call),ops[i]?=some o→o.op≠.defer c):∀(fuel:Nat) (listed:Array Bool) (a:Act) (w:World),wpAnyIn F n P md ops Q fuel listed a w→wpAnyIn (F.inRound l) n P md ops Q fuel listed a w:=by
 intro fuel
 induction fuel with
 | zero=>intro listed a w h;exact h
 | succ fuel ih =>
  intro listed a w h
  refine ⟨h.1,fun i hi=>?_⟩
  have h2:=wpOpIn_mono (fun a' w'=>ih _ a' w') (h.2 i hi)
  unfold wpOpIn at h2 ⊢
  split
  ·rename_i ho;simpa [ho] using h2
  ·rename_i o ho
   simp only [ho] at h2
   split
   ·rename_i hw
    simp only [hw,if_true] at h2
    exact zmJ (fun c=>hd i o c ho) h2
   ·rename_i hw
    simp only [hw] at h2
    exact h2
def zoX (ops:Array Oper):Bool:=ops.toList.all fun o=>match o.op with | .defer _=>false | _=>true
theorem zd8 {id:Nat} {a:Act} {w:World} (hm:P.follows .mixedOrders=true) (hd:zoX ops=true)
  (h:wpAnyIn F n P .any ops Q ops.size (Array.replicate ops.size false) a w.drew):(Code.region id ops true).wpIn (F.inRound l) n P Q a w:=by
 refine wpIn_region_any hm (zn0 (fun i o c ho e=>?_) _ _ _ _ h)
 have hm2:o∈ops.toList:=by
  have:=Array.mem_of_getElem? ho
  simpa using this
 unfold zoX at hd
 have:=List.all_eq_true.1 hd o hm2
 rw [e] at this
 cases this
end
end Go.Proofs.YtjcegdldgjphiaaGreatDoor
namespace Go.Proofs.YtjcegdldgjphiaaGreatDoor
open Go.RowKit Go.Shelf
attribute [local go_sem] Oper.semAt_some
theorem zg7 (a:Nat) (ha:a<18446744073709551616):(BitVec.ofInt 64 (a:Int)).toNat=a:=by
 rw [BitVec.ofInt_natCast,BitVec.toNat_ofNat];exact Nat.mod_eq_of_lt (by omega)
theorem bor64 (a b:Nat) (ha:a<18446744073709551616) (hb:b<18446744073709551616):bits .or .u64 (a:Int) (b:Int)=((a ||| b:Nat):Int):=by
 have hx:a ||| b<2 ^ 64:=Nat.or_lt_two_pow (by omega) (by omega)
 show IntKind.u64.wrap ((BitVec.ofInt 64 (a:Int) ||| BitVec.ofInt 64 (b:Int)).toNat:Int)=_
 rw [BitVec.toNat_or,zg7 a ha,zg7 b hb,IntKind.wrap_u64]
 omega
theorem zsR (h l:Nat) (hh:h<4294967296) (hl:l<4294967296):bits .or .u64 ((h:Int)*4294967296) (l:Int)=((h*4294967296+l:Nat):Int):=by
 have e:(h:Int)*4294967296=((h*4294967296:Nat):Int):=by omega
 rw [e,bor64 _ _ (by omega) (by omega)]
 have:=Nat.shiftLeft_add_eq_or_of_lt (i:=32) (b:=l) (by omega) h
 rw [Nat.shiftLeft_eq] at this
 simp only [Nat.reducePow] at this
 rw [this]
def dvQ (h l y:Nat):Nat:=(h*4294967296+l) / y
def dvR (h l y:Nat):Nat:=(h*4294967296+l)%y
theorem zj6 {h l y:Nat} (hh:h<y) (hl:l<4294967296):dvQ h l y*y+dvR h l y=h*4294967296+l∧dvQ h l y<4294967296∧dvR h l y<y:=by
 unfold dvQ dvR
 refine ⟨by rw [Nat.mul_comm];exact Nat.div_add_mod _ _,?_,Nat.mod_lt _ (by omega)⟩
 rw [Nat.div_lt_iff_lt_mul (by omega)]
 have:(h+1)*4294967296≤y*4294967296:=Nat.mul_le_mul_right _ hh
 omega
theorem zvg {h l y:Nat} (hh:h<y) (hl:l<4294967296) (hy:y<4294967296) :
  IntKind.u64.wrap ((bits BinOp.or IntKind.u64 (↑h*4294967296) ↑l).tdiv ↑y)%4294967296=((dvQ h l y:Nat):Int)∧(bits BinOp.or IntKind.u64 (↑h*4294967296) ↑l).tmod ↑y%4294967296=((dvR h l y:Nat):Int):=by
 have s:=zj6 hh hl
 rw [zsR h l (by omega) hl,← Int.ofNat_tdiv,IntKind.wrap_u64]
 have e:((h*4294967296+l:Nat):Int).tmod (y:Int)=((dvR h l y:Nat):Int):=by
  rw [Int.tmod_eq_emod_of_nonneg (by omega)];unfold dvR;omega
 rw [e]
 have e2:(h*4294967296+l) / y=dvQ h l y:=rfl
 rw [e2]
 omega
theorem zar (h l y:Nat) (w:World) (hh:h<y) (hl:l<4294967296) (hy:y<4294967296) :
  Calls Tryz.prog 123 #[.int .u32 h,.int .u32 l,.int .u32 y] w fun e w'=>e=.returned (.tuple #[.int .u32 (dvQ h l y:Nat),.int .u32 (dvR h l y:Nat)])∧∃n,w'=w.drewN n:=by
 have E:=Lib.hid (zvg hh hl hy)
 have hy0:((y:Int) != 0)=true:=by simp;omega
 have hd:decide ((y:Int)≤(h:Int))=false:=by simp;omega
 go_enter Tryz.func123,Tryz.ntmps123
 go_wp2
 go_quiet (fail)
 go_wp2
 rw [E.out.1,E.out.2]
 go_ret2
 exact ⟨rfl,_,rfl⟩
theorem qi {W W':World} {row:Option Nat} {g:Nat} {o:Obj} (h:W.heap[g]?=some o) (hc:o.isCells=true) (hg:W.grownBy W' row) (hr:∀r,row=some r→∃o:Obj,W.heap[r]?=some o∧o.isCells=false):W'.heap[g]?=some o:=
 (grownBy_keeps_cells hg hr h hc).trans h
theorem zeQ {W W':World} (h:W'.heap=W.heap):KeepsOthers W W':=⟨by rw [h];exact Nat.le_refl _,fun k o hk _=>by rw [h];exact hk⟩
theorem DBk.far {w:World} {g T:Nat} {l:List Nat} (h:DBk w g T l) {p:Addr} (hp:g≠p.block) (u:Value):DBk (w.setCell p u) g T l:=(Below.heap_setCell w p u g hp).trans h
theorem qC {W:World} {B:Nat} {t:TypeId} {v:Value} (h:Boxed W B t v) {p:Addr} (hp:B≠p.block) (u:Value):Boxed (W.setCell p u) B t v:=(Below.heap_setCell W p u B hp).trans h
theorem zBQ (l:List Nat) (k:Nat):nval (l.drop k)=dg l k+4294967296*nval (l.drop (k+1)):=by
 rcases Nat.lt_or_ge k l.length with h | h
 ·rw [List.drop_eq_getElem_cons h,nval,zb2 h]
 ·rw [List.drop_of_length_le h,List.drop_of_length_le (by omega),zdA h];rfl
theorem zbT (o:List Nat) (k d:Nat) (h:k<o.length):nval ((o.set k d).drop k)=d+4294967296*nval (o.drop (k+1)):=by
 rw [zBQ,zb2 (by simpa using h),List.getElem_set_self,List.drop_set_of_lt (Nat.lt_succ_self k)]
def SmI (g b n y:Nat) (l:List Nat) (pre:List {k:Nat // k<n}) (W:World):Prop:=
 ∃(r:Nat) (o:List Nat),r<y∧DBk W g 123 o∧Boxed W b 123 (.int .u32 (r:Nat))∧o.length=n∧Dig o∧(pre <+: downs n→nval (l.drop (n - pre.length))=nval (o.drop (n - pre.length))*y+r)
theorem zuE (g b n y:Nat) (l:List Nat):Own (SmI g b n y l):=fun _ _ _ _ ⟨r,o,h1,h2,h3,h4⟩ hg hr=>⟨r,o,h1,qi h2 rfl hg hr,qi h3 rfl hg hr,h4⟩
theorem zrQ {g b n y r:Nat} {l o:List Nat} {pre:List {k:Nat // k<n}} {x:{k:Nat // k<n}} {W:World} (hgb:g≠b) (hr:r<y) (hl:Dig l) (h2:DBk W g 123 o) (h3:Boxed W b 123 (.int .u32 (r:Nat))) (h4:o.length=n) (h5:Dig o)
  (h6:pre <+: downs n→nval (l.drop (n - pre.length))=nval (o.drop (n - pre.length))*y+r) :
  SmI g b n y l (pre++[x]) ((W.setCell ⟨g,x.1,none⟩ (.int .u32 (dvQ r (dg l x.1) y:Nat))).setCell ⟨b,0,none⟩ (.int .u32 (dvR r (dg l x.1) y:Nat))):=by
 have hd:=dg_lt hl x.1
 have s:=zj6 hr hd
 refine ⟨_,_,s.2.2,(h2.set _ _).far hgb _,(qC h3 (Ne.symm hgb) _).set _,by simpa using h4,qM h5 s.2.1,fun hp=>?_⟩
 obtain ⟨p1,p2,p3⟩:=zaM hp
 have h7:=h6 p1
 have e:n - pre.length=x.1+1:=by omega
 rw [e] at h7
 have e2:n - (pre++[x]).length=x.1:=by simp;omega
 rw [e2,zBQ,zbT _ _ _ (by rw [h4];exact x.2),h7]
 have s1:=s.1
 rw [Nat.add_mul,Nat.mul_add,Nat.mul_assoc 4294967296]
 omega
theorem zpU {W:World} {B a b i:Nat} {t:TypeId} {v:Value} (h:Boxed W B t v) (h1:B≠a) (h2:B≠b) (m:Nat) (u u':Value):Boxed (((W.drewN m).setCell ⟨a,i,none⟩ u).setCell ⟨b,0,none⟩ u') B t v:=
 qC (qC (show Boxed (W.drewN m) B t v from h) (p:=⟨a,i,none⟩) h1 u) (p:=⟨b,0,none⟩) h2 u'
theorem zrR {n₀ Bs a b i:Nat} {W:World} (h1:n₀≤a) (h2:n₀≤b) (h3:Bs≠a) (h4:Bs≠b) (m:Nat) (u u':Value):KpD n₀ Bs W (((W.drewN m).setCell ⟨a,i,none⟩ u).setCell ⟨b,0,none⟩ u'):=
 ⟨((zX (Below.refl _ _) m).setCell (p:=⟨a,i,none⟩) h1 u).setCell (p:=⟨b,0,none⟩) h2 u',(Below.heap_setCell _ ⟨b,0,none⟩ u' Bs h4).trans (Below.heap_setCell _ ⟨a,i,none⟩ u Bs h3)⟩
theorem zam (W:World) (m:Nat) (p q:Addr) (u u':Value):KeepsOthers W (((W.drewN m).setCell p u).setCell q u'):=
 ((zeQ (W:=W) (W':=W.drewN m) rfl).trans (KeepsOthers.setCell _ p u)).trans (KeepsOthers.setCell _ q u')
def zqx (v y:Nat) (w:World) (e:Ending) (w':World):Prop:=∃A n c r,e=.returned (.tuple #[.slice A n c,.int .u32 (r:Nat)])∧Hid (r=v%y)∧r<y∧Sl w' w'.heap.size A n c (digs (v / y))∧Below w.heap.size w w'
theorem ziC (A:Option Addr) (n c B y:Nat) (l:List Nat) (w:World) (h:Sl w B A n c l) (hB:B≤w.heap.size) (hn:n≤1000) (hy:0<y) (hy2:y<4294967296) :
  Calls Tryz.prog 102 #[.slice A n c,.int .u32 y] w (zqx (nval l) y w):=by
 have H:=Lib.hid (h.more hB)
 have HL:=Lib.hid h.len
 clear h
 have hmk:=q7 n (by omega)
 refine (callsIn_wide (n:=3)).1 ?_
 refine callsIn_of_wp_marks Tryz.func102 rfl trivial ?_ rfl
 simp only [Tryz.ntmps102,List.size_toArray,List.length_cons,List.length_nil,Nat.reduceAdd,Nat.reduceSub,Array.replicate_succ,Array.replicate_zero,List.push_toArray,List.append_toArray,List.nil_append,List.cons_append]
 gi_wp2_with (refine ⟨trivial,?_⟩;gi_at_call 117;refine (zgC _ _ trivial rfl _ _ _ _).mono ?_;rintro e w' ⟨rfl,rfl⟩)
 clear hmk
 have b0:=Boxed.new w 123 (.int .u32 (y:Nat))
 have b1:=DBk.new (w.alloc (.cells #[.int .u32 (y:Nat)] 123)) 123 n
 rw [World.size_alloc] at b1
 have b2:=Boxed.new ((w.alloc (.cells #[.int .u32 (y:Nat)] 123)).alloc (.cells (madeCells #[.int .u32 0] n) 123)) 117 (.slice (some ⟨w.heap.size+1,0,none⟩) n n)
 rw [World.size_alloc,World.size_alloc] at b2
 have b3:=Boxed.new (((w.alloc (.cells #[.int .u32 (y:Nat)] 123)).alloc (.cells (madeCells #[.int .u32 0] n) 123)).alloc (.cells #[.slice (some ⟨w.heap.size+1,0,none⟩) n n] 117)) 123 (.int .u32 0)
 rw [World.size_alloc,World.size_alloc,World.size_alloc] at b3
 have b4:=Boxed.new ((((w.alloc (.cells #[.int .u32 (y:Nat)] 123)).alloc (.cells (madeCells #[.int .u32 0] n) 123)).alloc (.cells #[.slice (some ⟨w.heap.size+1,0,none⟩) n n] 117)).alloc (.cells #[.int .u32 0] 123)) 117 (.slice A n c)
 rw [World.size_alloc,World.size_alloc,World.size_alloc,World.size_alloc] at b4
 have hB0:Below w.heap.size w (((((w.alloc (.cells #[.int .u32 (y:Nat)] 123)).alloc (.cells (madeCells #[.int .u32 0] n) 123)).alloc (.cells #[.slice (some ⟨w.heap.size+1,0,none⟩) n n] 117)).alloc (.cells #[.int .u32 0] 123)).alloc (.cells #[.slice A n c] 117)):=by go_grown
 have c0:=(((b0.alloc (.cells (madeCells #[.int .u32 0] n) 123)).alloc (.cells #[.slice (some ⟨w.heap.size+1,0,none⟩) n n] 117)).alloc (.cells #[.int .u32 0] 123)).alloc (.cells #[.slice A n c] 117)
 have c1:=((b1.alloc (.cells #[.slice (some ⟨w.heap.size+1,0,none⟩) n n] 117)).alloc (.cells #[.int .u32 0] 123)).alloc (.cells #[.slice A n c] 117)
 have c2:=(b2.alloc (.cells #[.int .u32 0] 123)).alloc (.cells #[.slice A n c] 117)
 have c3:=b3.alloc (.cells #[.slice A n c] 117)
 clear b0 b1 b2 b3
 have hz:(((((w.alloc (.cells #[.int .u32 (y:Nat)] 123)).alloc (.cells (madeCells #[.int .u32 0] n) 123)).alloc (.cells #[.slice (some ⟨w.heap.size+1,0,none⟩) n n] 117)).alloc (.cells #[.int .u32 0] 123)).alloc (.cells #[.slice A n c] 117)).heap.size=w.heap.size+1+1+1+1+1:=by simp
 obtain ⟨W0,hW0⟩:∃W0,(((((w.alloc (.cells #[.int .u32 (y:Nat)] 123)).alloc (.cells (madeCells #[.int .u32 0] n) 123)).alloc (.cells #[.slice (some ⟨w.heap.size+1,0,none⟩) n n] 117)).alloc (.cells #[.int .u32 0] 123)).alloc (.cells #[.slice A n c] 117))=W0:=⟨_,rfl⟩
 rw [hW0] at hB0 b4 c0 c1 c2 c3 hz ⊢
 clear hW0
 refine wpIn_rangeFunc_ownF rfl (by omega) (gf:=146) (lb:=#[.pointer (some ⟨w.heap.size+1+1+1+1,0,none⟩)]) rfl trivial (enters_of Tryz.func146 (by kernel_rfl) rfl)
  (zdD Fence.wide (3 - 1) trivial rfl (by omega) (w.heap.size+1+1+1+1) w.heap.size A n c l W0 b4 (by omega) (H.out.below hB0)) kpD_t (kpD_b (by omega) (by omega)) (Below.refl _ _) (fun _=>rfl)
  (fun pre W=>((Boxed W w.heap.size 123 (.int .u32 (y:Nat))∧Boxed W (w.heap.size+1+1) 117 (.slice (some ⟨w.heap.size+1,0,none⟩) n n))∧SmI (w.heap.size+1) (w.heap.size+1+1+1) n y l pre W)∧Below w.heap.size w W)
  (fun _ _ _=>False)
  (OwnFrom.and (Own.from (fun _ _ _ _ hs hg hr=>⟨⟨qi hs.1.1 rfl hg hr,qi hs.1.2 rfl hg hr⟩,zuE _ _ _ _ _ _ _ _ _ hs.2 hg hr⟩) _) (ownFrom_below (Nat.le_refl _) (by omega)))
  (fun _ _ _ _ _ hs _ _=>hs)
  ⟨⟨⟨c0,c2⟩,⟨0,List.replicate n 0,hy,c1,c3,by simp,zap n,fun _=>by have:=HL.out;simp [nval,← this]⟩⟩,hB0⟩
  (fun x=>{ tmps:=#[.slice A n c,.int .u32 (y:Nat),undef,.pointer (some ⟨w.heap.size,0,none⟩),.slice none 0 0,.int .u32 0,.pointer (some ⟨w.heap.size+1+1,0,none⟩),.pointer (some ⟨w.heap.size+1+1+1,0,none⟩),.int .i64 (x.1:Nat),.int .u32 (dg l x.1:Nat),.slice A n c,.int .i64 (n:Nat),.slice (some ⟨w.heap.size+1,0,none⟩) n n,.slice A n c,.func (.func 146) #[] #[.pointer (some ⟨w.heap.size+1+1+1+1,0,none⟩)],.int .i64 (x.1:Nat),.int .u32 (dg l x.1:Nat),undef,undef,undef,undef,undef,undef,undef,undef,undef,undef,undef,undef,undef],defers:=[] }) ?assign ?body ?done ?stop
 case assign =>
  intro l x W K hK
  gi_wp2
  exact hK
 case body =>
  rintro ll pre x W ⟨⟨⟨c0,c2⟩,⟨r,o,h1,h2,h3,h4,h5,h6⟩⟩,hBW⟩ _
  have hx:=x.2
  have e0:=c0.cell
  have e2:=c2.cell
  have e3:=h3.cell
  have f3:=h3.frozen
  have e1:=h2.cell (k:=x.1) (by omega)
  have f1:=h2.frozen x.1
  have hdl:=dg_lt H.out.dig x.1
  have hz1:=h2.lt
  have hz3:=h3.lt
  have HS:=Lib.hid (fun m=>@zrQ _ _ n y r l o pre x (W.drewN m) (by omega) h1 H.out.dig h2 h3 h4 h5 h6)
  have KD:=Lib.hid (fun m=>zrR (n₀:=w.heap.size) (Bs:=w.heap.size+1+1+1+1) (a:=w.heap.size+1) (b:=w.heap.size+1+1+1) (W:=W) (i:=x.1) (by omega) (by omega) (by omega) (by omega) m (.int .u32 (dvQ r (dg l x.1) y:Nat)) (.int .u32 (dvR r (dg l x.1) y:Nat)))
  have BW:=Lib.hid (fun m=>hBW.trans (KD.out m).1)
  have C0:=Lib.hid (fun m=>zpU (i:=x.1) c0 (a:=w.heap.size+1) (b:=w.heap.size+1+1+1) (by omega) (by omega) m (.int .u32 (dvQ r (dg l x.1) y:Nat)) (.int .u32 (dvR r (dg l x.1) y:Nat)))
  have C2:=Lib.hid (fun m=>zpU (i:=x.1) c2 (a:=w.heap.size+1) (b:=w.heap.size+1+1+1) (by omega) (by omega) m (.int .u32 (dvQ r (dg l x.1) y:Nat)) (.int .u32 (dvR r (dg l x.1) y:Nat)))
  have hmx:Tryz.prog.follows .mixedOrders=true:=by kernel_rfl
  clear h2 h3 h4 h5 h6
  gi_wp2
  refine zd8 hmx rfl ?_
  repeat' first
   | (revert hK;intro hK;go_simp;first | (refine hK _ _ ?_;clear hK K) | (refine ⟨trivial,?_⟩;gi_at_call 123;refine (callsIn_wide.2 (zar r (dg l x.1) y _ h1 hdl hy2)).mono ?_;rintro e w' ⟨rfl,m,rfl⟩;refine hK _ _ ?_;clear hK K))
   | refine AllReadyIn.cons rfl (fun K hK=>?_) ?_
   | with_reducible exact AllReadyIn.nil
   | (refine wpAnyIn_done (by decide +kernel) ?_ _;gi_wp2;exact ⟨zam _ _ _ _ _ _,KD.out _,⟨⟨C0.out _,C2.out _⟩,HS.out _⟩,BW.out _⟩)
   | (refine wpAnyIn_take (i:=1) (v:=?_) rfl rfl (by kernel_rfl) (by kernel_rfl) (by decide +kernel) (fun _ _ _ h=>h) ⟨Or.inl ⟨by rfl,?_⟩,fun _=>rfl⟩ ?_;rotate_left 1;· (intro w;go_simp;try (with_reducible rfl)))
   | (refine wpAnyIn_take (i:=3) (v:=?_) rfl rfl (by kernel_rfl) (by kernel_rfl) (by decide +kernel) (fun _ _ _ h=>h) ⟨Or.inl ⟨by rfl,?_⟩,fun _=>rfl⟩ ?_;rotate_left 1;· (intro w;go_simp;try (with_reducible rfl)))
   | (refine wpAnyIn_take (i:=6) (v:=?_) rfl rfl (by kernel_rfl) (by kernel_rfl) (by decide +kernel) (fun _ _ _ h=>h) ⟨Or.inl ⟨by rfl,?_⟩,fun _=>rfl⟩ ?_;rotate_left 1;· (intro w;go_simp;try (with_reducible rfl)))
   | (refine wpAnyIn_take (i:=7) (v:=?_) rfl rfl (by kernel_rfl) (by kernel_rfl) (by decide +kernel) (fun _ _ _ h=>h) ⟨Or.inl ⟨by rfl,?_⟩,fun _=>rfl⟩ ?_;rotate_left 1;· (intro w;go_simp;try (with_reducible rfl)))
   | (refine wpAnyIn_take (i:=8) (v:=?_) rfl rfl (by kernel_rfl) (by kernel_rfl) (by decide +kernel) (fun _ _ _ h=>h) ⟨Or.inl ⟨by rfl,?_⟩,fun _=>rfl⟩ ?_;rotate_left 1;· (intro w;go_simp;try (with_reducible rfl)))
   | (refine wpAnyIn_take (i:=9) (v:=?_) rfl rfl (by kernel_rfl) (by kernel_rfl) (by decide +kernel) (fun _ _ _ h=>h) ⟨Or.inl ⟨by rfl,?_⟩,fun _=>rfl⟩ ?_;rotate_left 1;· (intro w;go_simp;try (with_reducible rfl)))
   | refine wpAnyIn_ready (rs:=[4]) (by decide +kernel) (by simp) ?_
   | refine wpAnyIn_ready (rs:=[5]) (by decide +kernel) (by simp) ?_
   | refine wpAnyIn_ready (rs:=[2]) (by decide +kernel) (by simp) ?_
   | refine wpAnyIn_ready (rs:=[0]) (by decide +kernel) (by simp) ?_
   | refine wpAnyIn_ready (rs:=[10]) (by decide +kernel) (by simp) ?_
   | refine wpAnyIn_ready (rs:=[11]) (by decide +kernel) (by simp) ?_
   | refine wpAnyIn_ready (rs:=[2,4]) (by decide +kernel) (by simp) ?_
   | refine wpAnyIn_ready (rs:=[0,4]) (by decide +kernel) (by simp) ?_
   | refine wpAnyIn_ready (rs:=[0,5]) (by decide +kernel) (by simp) ?_
   | refine wpAnyIn_ready (rs:=[0,2]) (by decide +kernel) (by simp) ?_
   | refine wpAnyIn_ready (rs:=[0,2,4]) (by decide +kernel) (by simp) ?_
 case done =>
  rintro D ys W hD rfl ⟨⟨⟨c0,c2⟩,⟨r,o,h1,h2,h3,h4,h5,h6⟩⟩,hBW⟩ hK
  have e2:=c2.cell
  have e3:=h3.cell
  have hv:nval l=nval o*y+r:=by have:=h6 (List.prefix_refl _);rwa [zZ,Nat.sub_self] at this
  have hq:nval o=nval l / y:=by rw [hv,Nat.add_comm,Nat.add_mul_div_right _ _ hy,Nat.div_eq_of_lt h1,Nat.zero_add]
  have hr:r=nval l%y:=by rw [hv,Nat.add_comm,Nat.add_mul_mod_self_right,Nat.mod_eq_of_lt h1]
  have hsl:=h2.sl h5 (B:=w.heap.size+1+1) (by omega) (by omega)
  rw [h4] at hsl
  have HS:=Lib.hid hsl
  have HV:=Lib.hid (hsl.val hq)
  have HR:=Lib.hid hr
  clear hv hq hr hsl h2 h6 h3 c0 c2 h4
  gi_wp2
  refine wpIn_wide.2 ?_
  go_quiet ((go_at_call 119;exact zmQ (zbj _ _ _ _ _ _ HS.out.1 HS.out.2.1 HS.out.2.2)))
  gi_wp2
  have hK':(W.drewN nq).heap[D]?=some (.deferred (some [])):=hK
  have hBD:=belowK_b (n₀:=w.heap.size+1+1) (w:=W0) (by omega) (W.drewN nq) D _ (.deferred none) hD hK' rfl rfl
  refine ⟨by simp,.inl ⟨_,_,rfl,run_takeDeferred hK',?_⟩⟩
  refine ⟨_,results_tmp2 rfl _ _ _,_,_,_,r,rfl,HR,h1,(HV.out.below ((zX (Below.refl _ _) nq).trans hBD)).more ?_,(zX hBW nq).trans (hBD.mono (by omega))⟩
  have:=hBD.size
  have:=zaB hK'
  omega
 case stop =>
  rintro D c pre W _ _ h _
  exact h.elim
end Go.Proofs.YtjcegdldgjphiaaGreatDoor
namespace Go.Proofs.YtjcegdldgjphiaaGreatDoor
open Go.RowKit Go.Shelf
attribute [local go_sem] Oper.semAt_some
theorem zqt {l:List Nat} {k:Nat} (hl:Dig l) (hn:l.length≤k+2):bits BinOp.or IntKind.u64 (IntKind.u64.wrap ((nval (l.drop (k+1)):Nat)*4294967296)) (dg l k:Nat)=((nval (l.drop k):Nat):Int):=by
 have h1:nval (l.drop (k+1))<4294967296:=by
  have h2:=qH (zem hl (k+1))
  have h3:(l.drop (k+1)).length≤1:=by rw [List.length_drop];omega
  have h4:4294967296 ^ (l.drop (k+1)).length≤4294967296 ^ 1:=Nat.pow_le_pow_right (by omega) h3
  omega
 have e:IntKind.u64.wrap ((nval (l.drop (k+1)):Int)*4294967296)=(nval (l.drop (k+1)):Int)*4294967296:=by rw [IntKind.wrap_u64];omega
 rw [e,zsR _ _ h1 (dg_lt hl k),zBQ l k]
 omega
def WdI (b n:Nat) (l:List Nat) (pre:List {k:Nat // k<n}) (W:World):Prop:=∃z:Int,Boxed W b 72 (.int .u64 z)∧(pre <+: downs n→z=(nval (l.drop (n - pre.length)):Nat))
theorem zu2 (b n:Nat) (l:List Nat):Own (WdI b n l):=fun _ _ _ _ ⟨z,h1,h2⟩ hg hr=>⟨z,qi h1 rfl hg hr,h2⟩
theorem zsp {b n:Nat} {l:List Nat} {pre:List {k:Nat // k<n}} {x:{k:Nat // k<n}} {W:World} {z:Int} (hl:Dig l) (hn:l.length≤2) (h1:Boxed W b 72 (.int .u64 z)) (h2:pre <+: downs n→z=(nval (l.drop (n - pre.length)):Nat)) :
  WdI b n l (pre++[x]) (W.setCell ⟨b,0,none⟩ (.int .u64 (bits BinOp.or IntKind.u64 (IntKind.u64.wrap (z*4294967296)) (dg l x.1:Nat)))):=by
 refine ⟨_,h1.set _,fun hp=>?_⟩
 obtain ⟨p1,p2,p3⟩:=zaM hp
 have h7:=h2 p1
 have e:n - pre.length=x.1+1:=by omega
 have e2:n - (pre++[x]).length=x.1:=by simp;omega
 rw [e] at h7
 rw [e2,h7]
 exact zqt hl (by omega)
theorem zmh (A:Option Addr) (n c B:Nat) (l:List Nat) (w:World) (h:Sl w B A n c l) (hB:B≤w.heap.size) (hn:n≤2) :
  Calls Tryz.prog 101 #[.slice A n c] w fun e w'=>e=.returned (.int .u64 (nval l:Nat))∧Below w.heap.size w w':=by
 have H:=Lib.hid (h.more hB)
 have HL:=Lib.hid h.len
 clear h
 refine (callsIn_wide (n:=3)).1 ?_
 refine callsIn_of_wp_marks Tryz.func101 rfl trivial ?_ rfl
 simp only [Tryz.ntmps101,List.size_toArray,List.length_cons,List.length_nil,Nat.reduceAdd,Nat.reduceSub,Array.replicate_succ,Array.replicate_zero,List.push_toArray,List.append_toArray,List.nil_append,List.cons_append]
 gi_wp2_with (refine ⟨trivial,?_⟩;gi_at_call 117;refine (zgC _ _ trivial rfl _ _ _ _).mono ?_;rintro e w' ⟨rfl,rfl⟩)
 have b0:=(Boxed.new w 72 (.int .u64 0)).alloc (.cells #[.slice A n c] 117)
 have b1:=Boxed.new (w.alloc (.cells #[.int .u64 0] 72)) 117 (.slice A n c)
 rw [World.size_alloc] at b1
 have hB0:Below w.heap.size w ((w.alloc (.cells #[.int .u64 0] 72)).alloc (.cells #[.slice A n c] 117)):=by go_grown
 have hz:((w.alloc (.cells #[.int .u64 0] 72)).alloc (.cells #[.slice A n c] 117)).heap.size=w.heap.size+1+1:=by simp
 obtain ⟨W0,hW0⟩:∃W0,((w.alloc (.cells #[.int .u64 0] 72)).alloc (.cells #[.slice A n c] 117))=W0:=⟨_,rfl⟩
 rw [hW0] at hB0 b0 b1 hz ⊢
 clear hW0
 refine wpIn_rangeFunc_ownF rfl (by omega) (gf:=146) (lb:=#[.pointer (some ⟨w.heap.size+1,0,none⟩)]) rfl trivial (enters_of Tryz.func146 (by kernel_rfl) rfl)
  (zdD Fence.wide (3 - 1) trivial rfl (by omega) (w.heap.size+1) w.heap.size A n c l W0 b1 (by omega) (H.out.below hB0)) kpD_t (kpD_b (by omega) (by omega)) (Below.refl _ _) (fun _=>rfl)
  (fun pre W=>WdI w.heap.size n l pre W∧Below w.heap.size w W)
  (fun _ _ _=>False)
  (OwnFrom.and (Own.from (zu2 _ _ _) _) (ownFrom_below (Nat.le_refl _) (by omega)))
  (fun _ _ _ _ _ hs _ _=>hs)
  ⟨⟨0,b0,fun _=>by have:=HL.out;simp [nval,← this]⟩,hB0⟩
  (fun x=>{ tmps:=#[.slice A n c,undef,.int .u64 0,.pointer (some ⟨w.heap.size,0,none⟩),undef,.int .u32 (dg l x.1:Nat),.slice A n c,.func (.func 146) #[] #[.pointer (some ⟨w.heap.size+1,0,none⟩)],.int .i64 (x.1:Nat),.int .u32 (dg l x.1:Nat),undef,undef,undef,undef,undef,undef],defers:=[] }) ?assign ?body ?done ?stop
 case assign =>
  intro l x W K hK
  gi_wp2
  exact hK
 case body =>
  rintro ll pre x W ⟨⟨z,h1,h2⟩,hBW⟩ _
  have e1:=h1.cell
  have f1:=h1.frozen
  have hz1:=h1.lt
  have HS:=Lib.hid (@zsp w.heap.size n l pre x W z H.out.dig (by have:=HL.out;omega) h1 h2)
  have hdl:=dg_lt H.out.dig x.1
  clear h2 h1
  gi_wp2
  exact ⟨KeepsOthers.setCell _ _ _,⟨by go_grown,Below.heap_setCell _ ⟨w.heap.size,0,none⟩ _ _ (by simp)⟩,HS.out,by go_grown⟩
 case done =>
  rintro D ys W hD rfl ⟨⟨z,h1,h2⟩,hBW⟩ hK
  have e1:=h1.cell
  have hv:z=(nval l:Nat):=by have:=h2 (List.prefix_refl _);rwa [zZ,Nat.sub_self] at this
  have HV:=Lib.hid hv
  clear hv h2
  gi_wp2
  have hBD:=belowK_b (n₀:=w.heap.size) (w:=W0) (by omega) W D _ (.deferred none) hD hK rfl rfl
  refine ⟨by simp,.inl ⟨_,_,rfl,run_takeDeferred hK,?_⟩⟩
  exact ⟨_,results_tmp rfl _ _ _,by rw [HV.out];rfl,hBW.trans hBD⟩
 case stop =>
  rintro D c pre W _ _ h _
  exact h.elim
def cmpv (a b:Nat):Int:=if a<b then -1 else if b<a then 1 else 0
theorem zaZ {a b:Nat} (h:a<b):cmpv a b=-1:=if_pos h
theorem zb4 {a b:Nat} (h:b<a):cmpv a b=1:=by unfold cmpv;rw [if_neg (by omega),if_pos h]
theorem zgv (a:Nat):cmpv a a=0:=by unfold cmpv;rw [if_neg (by omega),if_neg (by omega)]
theorem zqO (a b:Nat) (w:World):Calls Tryz.prog 118 #[.int .u32 a,.int .u32 b] w fun e w'=>e=.returned (.int .i64 (cmpv a b))∧w=w':=by
 rcases Nat.lt_trichotomy a b with h | h | h
 ·rw [zaZ h]
  go_enter Tryz.func118,Tryz.ntmps118
  go_wp2
  go_ret
  exact ⟨rfl,rfl⟩
 ·subst h
  rw [zgv]
  go_enter Tryz.func118,Tryz.ntmps118
  go_wp2
  go_ret
  exact ⟨rfl,rfl⟩
 ·rw [zb4 h]
  have h2:¬ a<b:=by omega
  go_enter Tryz.func118,Tryz.ntmps118
  go_wp2
  go_ret
  exact ⟨rfl,rfl⟩
theorem zqN (a b:Nat) (w:World):Calls Tryz.prog 116 #[.int .i64 a,.int .i64 b] w fun e w'=>e=.returned (.int .i64 (cmpv a b))∧w=w':=by
 rcases Nat.lt_trichotomy a b with h | h | h
 ·rw [zaZ h]
  go_enter Tryz.func116,Tryz.ntmps116
  go_wp2
  go_ret
  exact ⟨rfl,rfl⟩
 ·subst h
  rw [zgv]
  go_enter Tryz.func116,Tryz.ntmps116
  go_wp2
  go_ret
  exact ⟨rfl,rfl⟩
 ·rw [zb4 h]
  have h2:¬ a<b:=by omega
  go_enter Tryz.func116,Tryz.ntmps116
  go_wp2
  go_ret
  exact ⟨rfl,rfl⟩
theorem zby (l:List Nat) {k:Nat} (hk:k≤l.length):nval l=nval (l.take k)+4294967296 ^ k*nval (l.drop k):=by
 have:=qp (l.take k) (l.drop k)
 rw [List.take_append_drop,List.length_take,Nat.min_eq_left hk] at this
 exact this
theorem zeO {l m:List Nat} {k:Nat} (hl:Dig l) (hk:k≤l.length) (hk2:k≤m.length) (h:nval (l.drop k)<nval (m.drop k)):nval l<nval m:=by
 rw [zby l hk,zby m hk2]
 have h1:=qH (zaV hl k)
 rw [List.length_take,Nat.min_eq_left hk] at h1
 have h2:4294967296 ^ k*(nval (l.drop k)+1)≤4294967296 ^ k*nval (m.drop k):=Nat.mul_le_mul_left _ h
 rw [Nat.mul_add] at h2
 omega
theorem zgx {l m:List Nat} {k:Nat} (hl:Dig l) (hm:Dig m) (hk:k<l.length) (hk2:k<m.length) (he:nval (l.drop (k+1))=nval (m.drop (k+1))) (hne:dg l k≠dg m k):cmpv (dg l k) (dg m k)=cmpv (nval l) (nval m):=by
 rcases Nat.lt_or_gt_of_ne hne with h | h
 ·rw [zaZ h,zaZ (zeO hl (Nat.le_of_lt hk) (Nat.le_of_lt hk2) (by rw [zBQ l k,zBQ m k,he];omega))]
 ·rw [zb4 h,zb4 (zeO hm (Nat.le_of_lt hk2) (Nat.le_of_lt hk) (by rw [zBQ l k,zBQ m k,he];omega))]
def CpI (n:Nat) (l m:List Nat) (pre:List {k:Nat // k<n}):Prop:=pre <+: downs n→nval (l.drop (n - pre.length))=nval (m.drop (n - pre.length))
def CpX (b n:Nat) (l m:List Nat) (pre:List {k:Nat // k<n}) (W:World):Prop:=∃z:Int,Boxed W b 3 (.int .i64 z)∧(pre <+: downs n→z=cmpv (nval l) (nval m))
theorem zhX (A A2:Option Addr) (n c c2 B:Nat) (l m:List Nat) (w:World) (h:Sl w B A n c l) (h2:Sl w B A2 n c2 m) (hB:B≤w.heap.size) :
  Calls Tryz.prog 97 #[.slice A n c,.slice A2 n c2] w fun e w'=>e=.returned (.int .i64 (cmpv (nval l) (nval m)))∧Below w.heap.size w w':=by
 have H:=Lib.hid (h.more hB)
 have HL:=Lib.hid h.len
 have H2:=Lib.hid (h2.more hB)
 have HL2:=Lib.hid h2.len
 clear h h2
 refine (callsIn_wide (n:=3)).1 ?_
 refine callsIn_of_wp_marks Tryz.func97 rfl trivial ?_ rfl
 simp only [Tryz.ntmps97,List.size_toArray,List.length_cons,List.length_nil,Nat.reduceAdd,Nat.reduceSub,Array.replicate_succ,Array.replicate_zero,List.push_toArray,List.append_toArray,List.nil_append,List.cons_append]
 gi_wp2_with (refine ⟨trivial,?_⟩;gi_at_call 117;refine (zgC _ _ trivial rfl _ _ _ _).mono ?_;rintro e w' ⟨rfl,rfl⟩)
 have b0:=((Boxed.new w 117 (.slice A2 n c2)).alloc (.cells #[.int .i64 0] 3)).alloc (.cells #[.slice A n c] 117)
 have b1:=(Boxed.new (w.alloc (.cells #[.slice A2 n c2] 117)) 3 (.int .i64 0)).alloc (.cells #[.slice A n c] 117)
 have b2:=Boxed.new ((w.alloc (.cells #[.slice A2 n c2] 117)).alloc (.cells #[.int .i64 0] 3)) 117 (.slice A n c)
 rw [World.size_alloc] at b1
 rw [World.size_alloc,World.size_alloc] at b2
 have hB0:Below w.heap.size w (((w.alloc (.cells #[.slice A2 n c2] 117)).alloc (.cells #[.int .i64 0] 3)).alloc (.cells #[.slice A n c] 117)):=by go_grown
 have hz:(((w.alloc (.cells #[.slice A2 n c2] 117)).alloc (.cells #[.int .i64 0] 3)).alloc (.cells #[.slice A n c] 117)).heap.size=w.heap.size+1+1+1:=by simp
 obtain ⟨W0,hW0⟩:∃W0,(((w.alloc (.cells #[.slice A2 n c2] 117)).alloc (.cells #[.int .i64 0] 3)).alloc (.cells #[.slice A n c] 117))=W0:=⟨_,rfl⟩
 rw [hW0] at hB0 b0 b1 b2 hz ⊢
 clear hW0
 refine wpIn_rangeFunc_ownF rfl (by omega) (gf:=146) (lb:=#[.pointer (some ⟨w.heap.size+1+1,0,none⟩)]) rfl trivial (enters_of Tryz.func146 (by kernel_rfl) rfl)
  (zdD Fence.wide (3 - 1) trivial rfl (by omega) (w.heap.size+1+1) w.heap.size A n c l W0 b2 (by omega) (H.out.below hB0)) kpD_t (kpD_b (by omega) (by omega)) (Below.refl _ _) (fun _=>rfl)
  (fun pre W=>((Boxed W w.heap.size 117 (.slice A2 n c2)∧Boxed W (w.heap.size+1) 3 (.int .i64 0))∧CpI n l m pre)∧Below w.heap.size w W)
  (fun c pre W=>(c=.ret∧CpX (w.heap.size+1) n l m pre W)∧Below w.heap.size w W)
  (OwnFrom.and (Own.from (fun _ _ _ _ hs hg hr=>⟨⟨qi hs.1.1 rfl hg hr,qi hs.1.2 rfl hg hr⟩,hs.2⟩) _) (ownFrom_below (Nat.le_refl _) (by omega)))
  (fun c=>OwnFrom.and (Own.from (fun _ _ _ _ ⟨h1,z,h2,h3⟩ hg hr=>⟨h1,z,qi h2 rfl hg hr,h3⟩) _) (ownFrom_below (Nat.le_refl _) (by omega)))
  ⟨⟨⟨b0,b1⟩,fun _=>by have:=HL.out;have:=HL2.out;rw [List.drop_of_length_le (by simp;omega),List.drop_of_length_le (by simp;omega)]⟩,hB0⟩
  (fun x=>{ tmps:=#[.slice A n c,.slice A2 n c2,undef,.pointer (some ⟨w.heap.size,0,none⟩),.pointer (some ⟨w.heap.size+1,0,none⟩),.int .i64 (x.1:Nat),.int .u32 (dg l x.1:Nat),.slice A n c,.int .i64 (n:Nat),.slice A2 n c2,.int .i64 (n:Nat),.bool false,undef,undef,undef,undef,undef,.slice A n c,.func (.func 146) #[] #[.pointer (some ⟨w.heap.size+1+1,0,none⟩)],.int .i64 (x.1:Nat),.int .u32 (dg l x.1:Nat),undef,undef,undef,undef,undef,undef,undef,undef,undef,undef,undef,undef],defers:=[] }) ?assign ?body ?done ?stop
 case assign =>
  intro l x W K hK
  gi_wp2
  exact hK
 case body =>
  rintro ll pre x W ⟨⟨⟨h1,h2⟩,h3⟩,hBW⟩ _
  obtain ⟨ad,rfl,hb,hc⟩:=(H2.out.below hBW).at_ (k:=x.1) x.2
  have hx:=x.2
  have e1:=h1.cell
  have e2:=h2.cell
  have f2:=h2.frozen
  have hz2:=h2.lt
  by_cases heq:dg l x.1=dg m x.1
  ·have hq:((dg l x.1:Int) != (dg m x.1:Int))=false:=by rw [heq];simp
   have H3:Hid (CpI n l m (pre++[x])):=by
    intro hp
    obtain ⟨p1,p2,p3⟩:=zaM hp
    have h7:=h3 p1
    have ee:n - pre.length=x.1+1:=by omega
    have ee2:n - (pre++[x]).length=x.1:=by simp;omega
    rw [ee] at h7
    rw [ee2,zBQ l,zBQ m,h7,heq]
   clear heq h3
   gi_wp2
   exact ⟨KeepsOthers.refl _,zg0 _ _ _,⟨⟨h1,h2⟩,H3⟩,hBW⟩
  ·have hq:((dg l x.1:Int) != (dg m x.1:Int))=true:=by simp;omega
   have H3:Hid (∀z,z=cmpv (dg l x.1) (dg m x.1)→CpX (w.heap.size+1) n l m (pre++[x]) (W.setCell ⟨w.heap.size+1,0,none⟩ (.int .i64 z))):=by
    rintro z rfl
    refine ⟨_,h2.set _,fun hp=>?_⟩
    obtain ⟨p1,p2,p3⟩:=zaM hp
    have h7:=h3 p1
    have ee:n - pre.length=x.1+1:=by omega
    rw [ee] at h7
    exact zgx H.out.dig H2.out.dig (by have:=HL.out;omega) (by have:=HL2.out;omega) h7 heq
   clear heq h3
   gi_wp2_with (refine ⟨trivial,?_⟩;gi_at_call 118;refine (CallsIn.inRound ll (callsIn_wide.2 (zqO (dg l x.1) (dg m x.1) _))).mono ?_;rintro e w' ⟨rfl,rfl⟩)
   exact ⟨KeepsOthers.setCell _ _ _,⟨rfl,H3.out _ rfl⟩,by go_grown⟩
 case done =>
  rintro D ys W hD rfl ⟨⟨⟨h1,h2⟩,h3⟩,hBW⟩ hK
  have e2:=h2.cell
  have f2:=h2.frozen
  have hz2:=h2.lt
  have HV:Hid (cmpv (nval l) (nval m)=0):=by
   have:=h3 (List.prefix_refl _)
   rw [zZ,Nat.sub_self,List.drop_zero,List.drop_zero] at this
   unfold Hid
   rw [this];exact zgv _
  clear h3
  gi_wp2
  have hK':=(KeepsOthers.setCell W ⟨w.heap.size+1,0,none⟩ (.int .i64 0)).same D _ hK rfl
  refine ⟨by simp,.inl ⟨_,_,rfl,run_takeDeferred hK',?_⟩⟩
  have hc5:=cell_kept (World.cell?_setCell_same' W ⟨w.heap.size+1,0,none⟩ (.int .i64 0) (by rw [e2];rfl)) (grownBy_putObj' _ D (.deferred none)) (fun r e=>by cases e;exact ⟨_,hK',rfl⟩)
  refine ⟨.int .i64 0,?_,by rw [HV.out],(hBW.setCell (p:=⟨w.heap.size+1,0,none⟩) (by simp) _).trans (belowK_b (w:=w) (Nat.le_refl _) _ D _ _ (by omega) hK' rfl rfl)⟩
  simp [results,Tryz.f97,go_sem,hc5]
 case stop =>
  rintro D c pre W hD hpre ⟨⟨rfl,z,h1,h2⟩,hBW⟩ hK
  have HV:=Lib.hid (h2 hpre)
  clear h2
  gi_wp2
  refine ⟨by simp,.inl ⟨_,_,rfl,run_takeDeferred hK,?_⟩⟩
  have hc5:=cell_kept h1.cell (grownBy_putObj' _ D (.deferred none)) (fun r e=>by cases e;exact ⟨_,hK,rfl⟩)
  refine ⟨.int .i64 z,?_,by rw [HV.out],hBW.trans (belowK_b (w:=w) (Nat.le_refl _) _ D _ _ (by omega) hK rfl rfl)⟩
  simp [results,Tryz.f97,go_sem,hc5]
theorem zjZ (A A2:Option Addr) (n n2 c c2:Nat) (w:World) (hn:n≠n2) :
  Calls Tryz.prog 97 #[.slice A n c,.slice A2 n2 c2] w fun e w'=>e=.returned (.int .i64 (cmpv n n2))∧Below w.heap.size w w':=by
 have hd:((n:Int) != (n2:Int))=true:=by simp;omega
 have hd2:(n != n2)=true:=by simp;omega
 clear hn
 go_enter Tryz.func97,Tryz.ntmps97
 go_wp2_with (go_at_call 116;refine (zqN n n2 _).mono ?_;rintro e w' ⟨rfl,rfl⟩)
 exact bodyPost_ret (v:=.int .i64 (cmpv n n2)) (by simp [results,Tryz.f97,go_sem]) rfl ⟨rfl,by go_grown⟩
theorem zbM {A A2:Option Addr} {n n2 c c2 B:Nat} {l m:List Nat} {w:World} (h:Sl w B A n c l) (h2:Sl w B A2 n2 c2 m) (hB:B≤w.heap.size) (hl:Canon l) (hm:Canon m) :
  Calls Tryz.prog 97 #[.slice A n c,.slice A2 n2 c2] w fun e w'=>e=.returned (.int .i64 (cmpv (nval l) (nval m)))∧Below w.heap.size w w':=by
 by_cases hn:n=n2
 ·subst hn;exact zhX A A2 n c c2 B l m w h h2 hB
 ·have e:cmpv (nval l) (nval m)=cmpv n n2:=by
   rcases Nat.lt_or_gt_of_ne hn with h0 | h0
   ·rw [zaZ h0,zaZ (zaK hl.1 hm (by rw [h.len,h2.len];exact h0))]
   ·rw [zb4 h0,zb4 (zaK hm.1 hl (by rw [h.len,h2.len];exact h0))]
  rw [e]
  exact zjZ A A2 n n2 c c2 w hn
end Go.Proofs.YtjcegdldgjphiaaGreatDoor
