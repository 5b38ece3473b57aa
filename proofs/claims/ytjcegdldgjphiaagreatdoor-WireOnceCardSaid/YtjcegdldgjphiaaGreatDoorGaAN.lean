/-
  Merged: RatMem, RatR, SymN, SymR, SymM, RatF, SymS, SymU, SymV, SymW, RtX.
-/
import Derived.Test.YtjcegdldgjphiaaGreatDoorGaAK
import Derived.Test.YtjcegdldgjphiaaGreatDoorGaAB
import Derived.Test.YtjcegdldgjphiaaGreatDoorGaAM
set_option linter.unusedSimpArgs false
set_option linter.unusedVariables false
set_option maxRecDepth 100000
set_option maxHeartbeats 2000000
namespace Go.Proofs.YtjcegdldgjphiaaGreatDoor
open Go.RowKit Go.Shelf
def allocs (w:World):List (Array Value×TypeId)→World
 | []=>w
 | o::r=>allocs (w.alloc (.cells o.1 o.2)) r
theorem zco:∀(os:List (Array Value×TypeId)) (w:World),(allocs w os).heap.size=w.heap.size+os.length
 | [],w=>rfl
 | o::r,w=>by
  rw [allocs,zco r,World.size_alloc,List.length_cons];omega
theorem zau:∀(os:List (Array Value×TypeId)) (w:World),Below w.heap.size w (allocs w os)
 | [],w=>Below.refl _ _
 | o::r,w=>((Below.refl _ _).alloc (Nat.le_refl _) _).trans ((zau r _).mono (by simp))
theorem zbx:∀(os:List (Array Value×TypeId)) (w:World) (i:Nat) (cs:Array Value) (T:TypeId),os[i]?=some (cs,T)→(allocs w os).heap[w.heap.size+i]?=some (.cells cs T (0,0))
 | [],w,i,cs,T,h=>by simp at h
 | o::r,w,0,cs,T,h=>by
  simp at h
  subst h
  have h2:=(zau r (w.alloc (.cells cs T))).block w.heap.size (by simp)
  exact h2.trans (heap_alloc_new w _)
 | o::r,w,i+1,cs,T,h=>by
  have h2:=zbx r (w.alloc (.cells o.1 o.2)) i cs T (by simpa using h)
  rw [World.size_alloc] at h2
  rw [allocs,show w.heap.size+(i+1)=w.heap.size+1+i by omega]
  exact h2
def MX (w:World) (os:List (Array Value×TypeId)) (W:World):Prop:=Below (w.heap.size+os.length) (allocs w os) W
section
variable {w W W1:World} {os:List (Array Value×TypeId)}
theorem MX.start:MX w os (allocs w os):=Below.refl _ _
theorem MX.size (h:MX w os W):w.heap.size+os.length≤W.heap.size:=by have:=Below.size h;rwa [zco] at this
theorem MX.via (h:MX w os W) (hb:Below W.heap.size W W1):MX w os W1:=Below.trans h (hb.mono h.size)
theorem MX.drew (h:MX w os W):MX w os W.drew:=Below.drew h
theorem MX.drewN (h:MX w os W) (k:Nat):MX w os (W.drewN k):=zI h k
theorem MX.below (h:MX w os W):Below w.heap.size w W:=(zau os w).trans (Below.mono h (by omega))
theorem MX.cell (h:MX w os W) {i j:Nat} {cs:Array Value} {T:TypeId} {u:Value} (hi:os[i]?=some (cs,T)) (hu:cs[j]?=some u):W.cell? ⟨w.heap.size+i,j,none⟩=some u:=by
 have h':Below (w.heap.size+os.length) (allocs w os) W:=h
 have hl:i<os.length:=(List.getElem?_eq_some_iff.1 hi).1
 rw [h'.cell (p:=⟨w.heap.size+i,j,none⟩) (by simp;omega),qF (zbx os w i cs T hi)]
 exact hu
theorem MX.frozen (h:MX w os W) {i:Nat} {cs:Array Value} {T:TypeId} (hi:os[i]?=some (cs,T)) (j:Nat):W.frozen? ⟨w.heap.size+i,j,none⟩=false:=by
 have h':Below (w.heap.size+os.length) (allocs w os) W:=h
 have hl:i<os.length:=(List.getElem?_eq_some_iff.1 hi).1
 rw [h'.frozen (p:=⟨w.heap.size+i,j,none⟩) (by simp;omega),q7 (zbx os w i cs T hi)]
theorem MX.lt (h:MX w os W) {i:Nat} (hi:i<os.length):w.heap.size+i<W.heap.size:=by have:=h.size;omega
end
def put4 (W:World) (b:Nat) (v0 v1 v2 v3:Value):World:=(((W.setCell ⟨b,0,none⟩ v0).setCell ⟨b,1,none⟩ v1).setCell ⟨b,2,none⟩ v2).setCell ⟨b,3,none⟩ v3
theorem znZ {W:World} {b:Nat} {u0 u1 u2 u3:Value} (v0 v1 v2 v3:Value) (g0:W.cell? ⟨b,0,none⟩=some u0) (g1:W.cell? ⟨b,1,none⟩=some u1) (g2:W.cell? ⟨b,2,none⟩=some u2) (g3:W.cell? ⟨b,3,none⟩=some u3) :
  (put4 W b v0 v1 v2 v3).cell? ⟨b,0,none⟩=some v0∧(put4 W b v0 v1 v2 v3).cell? ⟨b,1,none⟩=some v1∧(put4 W b v0 v1 v2 v3).cell? ⟨b,2,none⟩=some v2∧(put4 W b v0 v1 v2 v3).cell? ⟨b,3,none⟩=some v3:=by
 unfold put4
 refine ⟨?_,?_,?_,?_⟩
 ·rw [World.cell?_setCell_other _ _ _ _ (by simp),World.cell?_setCell_other _ _ _ _ (by simp),World.cell?_setCell_other _ _ _ _ (by simp),World.cell?_setCell_same' _ _ _ (by rw [g0];rfl)]
 ·rw [World.cell?_setCell_other _ _ _ _ (by simp),World.cell?_setCell_other _ _ _ _ (by simp),World.cell?_setCell_same' _ _ _ (by rw [World.cell?_setCell_other _ _ _ _ (by simp),g1];rfl)]
 ·rw [World.cell?_setCell_other _ _ _ _ (by simp),World.cell?_setCell_same' _ _ _ (by rw [World.cell?_setCell_other _ _ _ _ (by simp),World.cell?_setCell_other _ _ _ _ (by simp),g2];rfl)]
 ·rw [World.cell?_setCell_same' _ _ _ (by rw [World.cell?_setCell_other _ _ _ _ (by simp),World.cell?_setCell_other _ _ _ _ (by simp),World.cell?_setCell_other _ _ _ _ (by simp),g3];rfl)]
theorem zdv {W:World} {b:Nat} {u0 u1:Value} (v0 v1:Value) (g0:W.cell? ⟨b,0,none⟩=some u0) (g1:W.cell? ⟨b,1,none⟩=some u1) :
  ((W.setCell ⟨b,0,none⟩ v0).setCell ⟨b,1,none⟩ v1).cell? ⟨b,0,none⟩=some v0∧((W.setCell ⟨b,0,none⟩ v0).setCell ⟨b,1,none⟩ v1).cell? ⟨b,1,none⟩=some v1:=by
 refine ⟨?_,?_⟩
 ·rw [World.cell?_setCell_other _ _ _ _ (by simp),World.cell?_setCell_same' _ _ _ (by rw [g0];rfl)]
 ·rw [World.cell?_setCell_same' _ _ _ (by rw [World.cell?_setCell_other _ _ _ _ (by simp),g1];rfl)]
end Go.Proofs.YtjcegdldgjphiaaGreatDoor
namespace Go.Proofs.YtjcegdldgjphiaaGreatDoor
open Go.RowKit Go.Shelf
def N2 (W:World) (b:Nat) (g1:Bool) (A1:Option Addr) (n1 c1:Nat) (g2:Bool) (A2:Option Addr) (n2 c2:Nat):Prop:=
 W.cell? ⟨b,0,none⟩=some (.bool g1)∧W.cell? ⟨b,1,none⟩=some (.slice A1 n1 c1)∧W.cell? ⟨b,2,none⟩=some (.bool g2)∧W.cell? ⟨b,3,none⟩=some (.slice A2 n2 c2)∧b<W.heap.size
theorem N2.via {W W1:World} {b n1 c1 n2 c2:Nat} {g1 g2:Bool} {A1 A2:Option Addr} (h:N2 W b g1 A1 n1 c1 g2 A2 n2 c2) (hb:Below W.heap.size W W1):N2 W1 b g1 A1 n1 c1 g2 A2 n2 c2:=
 ⟨(hb.cell (p:=⟨b,0,none⟩) h.2.2.2.2).trans h.1,(hb.cell (p:=⟨b,1,none⟩) h.2.2.2.2).trans h.2.1,(hb.cell (p:=⟨b,2,none⟩) h.2.2.2.2).trans h.2.2.1,(hb.cell (p:=⟨b,3,none⟩) h.2.2.2.2).trans h.2.2.2.1,Nat.lt_of_lt_of_le h.2.2.2.2 hb.size⟩
theorem ze2 {g1 g2:Bool} {A1 A2:Option Addr} {n1 c1 n2 c2 b:Nat} {l m:List Nat} {w:World} (hn:N2 w b g1 A1 n1 c1 g2 A2 n2 c2) (h:Sl w w.heap.size A1 n1 c1 l) (h2:Sl w w.heap.size A2 n2 c2 m) :
  Calls Tryz.prog 69 #[.slice (some ⟨b,0,none⟩) 2 2] w fun e w'=>e=.returned (.bool (zq g1 l && zq g2 m))∧Below w.heap.size w w':=by
 have R1:=Lib.hid (fun (W:World) (hW:Below w.heap.size w W)=>zbq g1 A1 n1 c1 w.heap.size l W (h.below hW).1 hW.size h.2.1)
 have R2:=Lib.hid (fun (W:World) (hW:Below w.heap.size w W)=>zbq g2 A2 n2 c2 w.heap.size m W (h2.below hW).1 hW.size h2.2.1)
 have HN:=Lib.hid hn
 obtain ⟨r1,hr1⟩:∃r,zq g1 l=r:=⟨_,rfl⟩
 obtain ⟨r2,hr2⟩:∃r,zq g2 m=r:=⟨_,rfl⟩
 rw [hr1] at R1 ⊢
 rw [hr2] at R2 ⊢
 clear h h2 hn hr1 hr2
 go_enter Tryz.func69,Tryz.ntmps69
 go_wp2_with fail
 go_loopw [7] (fun i W=>∃k:Nat,k≤2∧i=.int .i64 k∧Below w.heap.size w W∧Hid ((0<k→r1=true)∧(1<k→r2=true))) (fun i _=>2 - (intOf i).toNat)
 case atStart=>exact ⟨0,by omega,rfl,Below.refl _ _,Lib.hid ⟨fun h=>by omega,fun h=>by omega⟩⟩
 case round =>
  obtain ⟨k,hk,rfl,hBB,hI⟩:=hrel
  obtain ⟨x0,x1,x2,x3,xz⟩:=HN.out.via hBB
  rcases (show k=0∨k=1∨k=2 by omega) with rfl | rfl | rfl
  ·have hbb:Below w.heap.size w (wr.alloc (.cells #[.bool g1,.slice A1 n1 c1] 30)):=hBB.alloc hBB.size _
   cases r1
   ·go_wp2_with (go_at_call 96;go_loud ((with_reducible refine (R1.out _ hbb).mono ?_);rintro e w1 ⟨rfl,hb⟩))
    go_ret
    exact ⟨rfl,hbb.trans (hb.mono hbb.size)⟩
   ·go_wp2_with (go_at_call 96;go_loud ((with_reducible refine (R1.out _ hbb).mono ?_);rintro e w1 ⟨rfl,hb⟩))
    go_roundw
    case rel=>exact ⟨1,by omega,rfl,hbb.trans (hb.mono hbb.size),Lib.hid ⟨by simp,by simp⟩⟩
    case measure=>simp [intOf]
  ·have hbb:Below w.heap.size w (wr.alloc (.cells #[.bool g2,.slice A2 n2 c2] 30)):=hBB.alloc hBB.size _
   have h1:=hI.out.1 (by omega)
   subst h1
   cases r2
   ·go_wp2_with (go_at_call 96;go_loud ((with_reducible refine (R2.out _ hbb).mono ?_);rintro e w1 ⟨rfl,hb⟩))
    go_ret
    exact ⟨rfl,hbb.trans (hb.mono hbb.size)⟩
   ·go_wp2_with (go_at_call 96;go_loud ((with_reducible refine (R2.out _ hbb).mono ?_);rintro e w1 ⟨rfl,hb⟩))
    go_roundw
    case rel=>exact ⟨2,by omega,rfl,hbb.trans (hb.mono hbb.size),Lib.hid ⟨by simp,by simp⟩⟩
    case measure=>simp [intOf]
  ·have h1:=hI.out.1 (by omega)
   have h2:=hI.out.2 (by omega)
   subst h1 h2
   go_wp2_with fail
   go_ret
   exact ⟨rfl,hBB⟩
end Go.Proofs.YtjcegdldgjphiaaGreatDoor
namespace Go.Proofs.YtjcegdldgjphiaaGreatDoor
open Go.RowKit Go.Shelf
abbrev Raw:=Bool×List Nat
def X (xs:List Raw) (i:Nat):Raw:=xs.getD i (false,[])
def nz (x:Int):Raw:=(decide (x<0),digs x.natAbs)
def FNc (xs:List Raw) (es:List Value) (n:Nat):Pred:=fun v W _=>if 100≤n then v=es.getD (n - 100) (.bool false) else if n%2=0 then v=.bool (X xs (n / 2)).1 else ∃A m c,v=.slice A m c∧Sl W W.heap.size A m c (X xs (n / 2)).2
def FN (xs:List Raw) (es:List Value):Fact:=⟨FNc xs es,fun _ vs _ _=>vs=[]⟩
def nm (i:Nat):List Lf:=[.h (2*i),.h (2*i+1)]
def NM (i:Nat):Sh:=.o (.g (nm i))
def RA (i j:Nat):Sh:=.o (.g (nm i++nm j))
def KN (w0:World):Kit:=⟨fun T=>!([123].contains T),fun k=>match k with
 | .u32=>true
 | .u64=>true
 | _=>false,w0⟩
def IsN (x:Raw) (v:Value) (W:World):Prop:=∃A n c,v=.agg #[.bool x.1,.slice A n c]∧Sl W W.heap.size A n c x.2
def IsR (x y:Raw) (v:Value) (W:World):Prop:=∃A n c A2 n2 c2,v=.agg #[.bool x.1,.slice A n c,.bool y.1,.slice A2 n2 c2]∧Sl W W.heap.size A n c x.2∧Sl W W.heap.size A2 n2 c2 y.2
section
variable {xs:List Raw} {es:List Value} {β:Loc} {W W':World} {v:Value}
theorem Sl.oth {w0:World} {D:Dat} {S:Nat→Prop} {B n c:Nat} {A:Option Addr} {l:List Nat} (hS:∀q,S q→Mlq (KN w0) D W q) (hO:Oth S W W') (h:Sl W B A n c l):Sl W' B A n c l:=by
 refine ⟨⟨⟨h.1.1.1,fun hn=>?_⟩,h.1.2⟩,h.2⟩
 obtain ⟨ad,e,hb,hc⟩:=h.1.1.2 hn
 refine ⟨ad,e,hb,fun j u hj=>?_⟩
 have h1:=hc j u hj
 obtain ⟨d,_,hd⟩:=List.mem_map.1 (List.mem_of_getElem? hj)
 have hlt:(ad.add j).block<W.heap.size:=by
  rcases Nat.lt_or_ge (ad.add j).block W.heap.size with hlt | hlt
  ·exact hlt
  ·simp only [World.cell?,Array.getElem?_eq_none hlt] at h1
   cases h1
 have hn2:¬ S (ad.add j).block:=by
  intro hs
  obtain ⟨_,_,o,ho,hm⟩:=hS _ hs
  simp only [World.cell?,ho] at h1
  cases o with
  | cells cs T z =>
   simp only [ml,mlf,Bool.and_eq_true,List.all_eq_true] at hm
   have hmem:u∈cs.toList:=by
    revert h1
    simp only
    split
    ·intro h1;cases h1
    ·intro h1;simpa using Array.mem_of_getElem? h1
   have:=hm.2 u hmem
   rw [← hd] at this
   cases this
  | _=>simp [ml,mlf] at hm
 have h2:=hO.block _ hlt hn2
 simp only [World.cell?,h2] at h1 ⊢
 exact h1
theorem zbH {w0:World} (hes:es.all (KN w0).ck=true):Fine (KN w0) (FN xs es):=by
 refine ⟨fun n=>?_,fun n _=>?_,fun n=>⟨fun _ _ _ h=>h,fun h=>by rw [show _=[] from h];rfl⟩⟩
 ·intro v W W' D D' S hS hO _ h
  change FNc xs es n v W D at h
  show FNc xs es n v W' D'
  unfold FNc at h ⊢
  split at h
  ·rename_i hc
   rw [if_pos hc];exact h
  ·rename_i hc
   rw [if_neg hc]
   split at h
   ·rename_i hc
    rw [if_pos hc];exact h
   ·rename_i hc
    rw [if_neg hc]
    obtain ⟨A,m,c,e,hs⟩:=h
    exact ⟨A,m,c,e,(Sl.oth hS hO hs).more hO.size⟩
 ·intro v W D h
  change FNc xs es n v W D at h
  unfold FNc at h
  split at h
  ·rw [h,List.getD_eq_getElem?_getD]
   cases he:es[n - 100]? with
   | none=>rfl
   | some u=>exact List.all_eq_true.1 hes u (List.mem_of_getElem? he)
  ·split at h
   ·rw [h];rfl
   ·obtain ⟨A,m,c,e,_⟩:=h
    rw [e];rfl
theorem zb0 {i:Nat} (hi:i<50) {vs:List Value} {ls:List Lf}:oks (FN xs es) β (nm i++ls) vs W↔∃A n c us,vs=.bool (X xs i).1::.slice A n c::us∧Sl W W.heap.size A n c (X xs i).2∧oks (FN xs es) β ls us W:=by
 have h0:∀v,FN xs es (2*i) v W β.D↔v=.bool (X xs i).1:=fun v=>by
  show FNc xs es (2*i) v W β.D↔_
  unfold FNc;rw [if_neg (by omega),if_pos (by omega),show 2*i / 2=i by omega]
 have h1:∀v,FN xs es (2*i+1) v W β.D↔∃A m c,v=.slice A m c∧Sl W W.heap.size A m c (X xs i).2:=fun v=>by
  show FNc xs es (2*i+1) v W β.D↔_
  unfold FNc;rw [if_neg (by omega),if_neg (by omega),show (2*i+1) / 2=i by omega]
 constructor
 ·intro h
  match vs,h with
  | v0::v1::us,⟨e0,e1,e2⟩ =>
   obtain ⟨A,m,c,e,hs⟩:=(h1 v1).1 e1
   exact ⟨A,m,c,us,by rw [(h0 v0).1 e0,e],hs,e2⟩
  | [_],⟨_,h⟩=>exact h.elim
  | [],h=>exact h.elim
 ·rintro ⟨A,n,c,us,rfl,hs,h⟩
  exact ⟨(h0 _).2 rfl,(h1 _).2 ⟨A,n,c,rfl,hs⟩,h⟩
theorem zgJ {us:List Value} {F:Fact}:oks F β [] us W↔us=[]:=by cases us<;>simp [oks]
theorem NM_is {i:Nat} (hi:i<50):(NM i).ok (FN xs es) β v W↔IsN (X xs i) v W:=by
 constructor
 ·rintro ⟨vs,rfl,h⟩
  rw [show nm i=nm i++[] by simp,zb0 hi] at h
  obtain ⟨A,n,c,us,e,hs,h⟩:=h
  rw [zgJ] at h
  subst h
  exact ⟨A,n,c,by rw [← Array.toArray_toList (xs:=vs),e],hs⟩
 ·rintro ⟨A,n,c,rfl,hs⟩
  exact ⟨_,rfl,by rw [show nm i=nm i++[] by simp,zb0 hi];exact ⟨A,n,c,[],rfl,hs,trivial⟩⟩
theorem RA_is {i j:Nat} (hi:i<50) (hj:j<50):(RA i j).ok (FN xs es) β v W↔IsR (X xs i) (X xs j) v W:=by
 constructor
 ·rintro ⟨vs,rfl,h⟩
  rw [zb0 hi,show nm j=nm j++[] by simp] at h
  obtain ⟨A,n,c,us,e,hs,h⟩:=h
  rw [zb0 hj] at h
  obtain ⟨A2,n2,c2,us2,e2,hs2,h⟩:=h
  rw [zgJ] at h
  subst h;subst e2
  exact ⟨A,n,c,A2,n2,c2,by rw [← Array.toArray_toList (xs:=vs),e],hs,hs2⟩
 ·rintro ⟨A,n,c,A2,n2,c2,rfl,hs,hs2⟩
  refine ⟨_,rfl,?_⟩
  rw [zb0 hi,show nm j=nm j++[] by simp]
  refine ⟨A,n,c,_,rfl,hs,?_⟩
  rw [zb0 hj]
  exact ⟨A2,n2,c2,[],rfl,hs2,trivial⟩
theorem zQ {k:Nat} {u:Value} (h:es.getD k (.bool false)=u):Gives (FN xs es) (.h (100+k)) u:=fun β v W=>by
 subst h
 show FNc xs es (100+k) v W β.D↔_
 unfold FNc
 rw [if_pos (by omega),show 100+k - 100=k by omega]
end
theorem zba {K:Kit} {P:Program} {F:Fact} {f:FuncId} {ag:List Sh} {res:Sh} (h:∀(β:Loc) (W:World) (vs:List Value),shs F β ag vs W→Below K.w0.heap.size K.w0 W→Calls P f vs.toArray W fun e W'=>∃v,e=.returned v∧res.ok F β v W'∧Below W.heap.size W W'):Con.sound K P F ⟨f,ag,[],res,[]⟩:=by
 refine ⟨rfl,fun β W vs hs _ hg=>(h β W vs hs hg.bel).mono fun e W' hr=>?_⟩
 obtain ⟨v,rfl,h1,h2⟩:=hr
 have hO:Oth (fun _=>False) W W':=Oth.ofBelow h2
 exact ⟨v,β,rfl,h1,hO.mono fun _ h=>h.elim,fun x h=>(by cases h),fun b _=>Loc.same.rfl,fun _ h=>h,fun _ h=>.inl h,fun b h=>(by cases h),hg.mono (fun _ h=>h.elim) hO⟩
def β0:Loc:=⟨fun _=>none,fun _=>(0,0),fun _=>False⟩
theorem zmW {K:Kit} {P:Program} {F:Fact} {f:FuncId} {ag:List Sh} {res:Sh} {W:World} {vs:List Value} (h:Con.sound K P F ⟨f,ag,[],res,[]⟩) (hs:shs F β0 ag vs W) (hw:Below K.w0.heap.size K.w0 W):Calls P f vs.toArray W fun e W'=>∃v β',e=.returned v∧res.ok F β' v W'∧Below W.heap.size W W':=by
 refine (h.2 _ W vs hs (fun x h=>(by cases h)) ⟨fun b q h=>(by cases h),fun b c q h=>(by cases h),hw,fun b q h=>(by cases h),fun q h=>h.elim⟩).mono fun e W' hr=>?_
 obtain ⟨v,β',rfl,hb⟩:=hr
 exact ⟨v,β',rfl,hb.res,hb.oth.below (fun q ⟨b,h,_⟩=>by cases h)⟩
def addX (x y:Raw):Option Int:=sumS x.1 x.2 y.1 y.2 y.1
def gcdX (x y:Raw):Option Int:=gcdS x.1 x.2 y.1 y.2
def cmpX (x y:Raw):Int:=cmpS x.1 x.2 y.1 y.2
def qi (x:Raw):Bool:=zq x.1 x.2
section
variable {xs:List Raw} {es:List Value} {w0:World}
theorem zo2 {i j k:Nat} {o:Lf} (h:X xs k=nz (vO (addX (X xs i) (X xs j)))) (ho:Gives (FN xs es) o (.bool (okO (addX (X xs i) (X xs j))))) (hi:i<50:=by first | assumption | decide) (hj:j<50:=by first | assumption | decide) (hk:k<50:=by first | assumption | decide):Con.sound (KN w0) Tryz.prog (FN xs es) ⟨113,[NM i,NM j],[],.t [.g (nm k),.c o],[]⟩:=by
 refine zba fun β W vs hs _=>?_
 match vs,hs with
 | [a,b],⟨ha,hb,_⟩ =>
  obtain ⟨A,n,c,rfl,s1⟩:=(NM_is hi).1 ha
  obtain ⟨A2,n2,c2,rfl,s2⟩:=(NM_is hj).1 hb
  refine (ziu _ _ s1 s2 (Nat.le_refl _)).mono fun e W' hr=>?_
  obtain ⟨A3,n3,c3,rfl,s3,hb⟩:=hr
  refine ⟨_,rfl,⟨_,rfl,(NM_is hk (v:=.agg #[_,_])).2 ?_,(ho β _ W').2 rfl,trivial⟩,hb⟩
  rw [h]
  exact ⟨A3,n3,c3,rfl,s3⟩
 | [],h=>exact h.elim
 | [_],h=>exact h.2.elim
 | _::_::_::_,h=>exact h.2.2.elim
theorem c_gcd {i j k:Nat} {o:Lf} (h:X xs k=nz (vO (gcdX (X xs i) (X xs j)))) (ho:Gives (FN xs es) o (.bool (okO (gcdX (X xs i) (X xs j))))) (hi:i<50:=by first | assumption | decide) (hj:j<50:=by first | assumption | decide) (hk:k<50:=by first | assumption | decide):Con.sound (KN w0) Tryz.prog (FN xs es) ⟨72,[NM i,NM j],[],.t [.g (nm k),.c o],[]⟩:=by
 refine zba fun β W vs hs _=>?_
 match vs,hs with
 | [a,b],⟨ha,hb,_⟩ =>
  obtain ⟨A,n,c,rfl,s1⟩:=(NM_is hi).1 ha
  obtain ⟨A2,n2,c2,rfl,s2⟩:=(NM_is hj).1 hb
  refine (zm3 _ _ s1 s2 (Nat.le_refl _)).mono fun e W' hr=>?_
  obtain ⟨A3,n3,c3,rfl,s3,hb⟩:=hr
  refine ⟨_,rfl,⟨_,rfl,(NM_is hk (v:=.agg #[_,_])).2 ?_,(ho β _ W').2 rfl,trivial⟩,hb⟩
  rw [h]
  exact ⟨A3,n3,c3,rfl,s3⟩
 | [],h=>exact h.elim
 | [_],h=>exact h.2.elim
 | _::_::_::_,h=>exact h.2.2.elim
theorem c_cmp {i j:Nat} {o:Lf} (ho:Gives (FN xs es) o (.int .i64 (cmpX (X xs i) (X xs j)))) (hi:i<50:=by first | assumption | decide) (hj:j<50:=by first | assumption | decide):Con.sound (KN w0) Tryz.prog (FN xs es) ⟨70,[NM i,NM j],[],LF o,[]⟩:=by
 refine zba fun β W vs hs _=>?_
 match vs,hs with
 | [a,b],⟨ha,hb,_⟩ =>
  obtain ⟨A,n,c,rfl,s1⟩:=(NM_is hi).1 ha
  obtain ⟨A2,n2,c2,rfl,s2⟩:=(NM_is hj).1 hb
  refine (zmQ _ _ s1 s2 (Nat.le_refl _)).mono fun e W' hr=>?_
  obtain ⟨rfl,hb⟩:=hr
  exact ⟨_,rfl,(ho β _ W').2 rfl,hb⟩
 | [],h=>exact h.elim
 | [_],h=>exact h.2.elim
 | _::_::_::_,h=>exact h.2.2.elim
theorem zo4 {i:Nat} {o:Lf} (ho:Gives (FN xs es) o (.bool (qi (X xs i)))) (hi:i<50:=by first | assumption | decide):Con.sound (KN w0) Tryz.prog (FN xs es) ⟨96,[NM i],[],LF o,[]⟩:=by
 refine zba fun β W vs hs _=>?_
 match vs,hs with
 | [a],⟨ha,_⟩ =>
  obtain ⟨A,n,c,rfl,s1⟩:=(NM_is hi).1 ha
  refine (zbq _ A n c W.heap.size _ W s1.1 (Nat.le_refl _) s1.2.1).mono fun e W' hr=>?_
  obtain ⟨rfl,hb⟩:=hr
  exact ⟨_,rfl,(ho β _ W').2 rfl,hb⟩
 | [],h=>exact h.elim
 | _::_::_,h=>exact h.2.elim
theorem zn5 {i:Nat} {o:Lf} (hT:∀W,Below w0.heap.size w0 W→PowT w0.heap.size W) (ho:Gives (FN xs es) o (.string ⟨(textS (X xs i).1 (X xs i).2).toArray⟩)) (hi:i<50:=by first | assumption | decide):Con.sound (KN w0) Tryz.prog (FN xs es) ⟨74,[NM i],[],LF o,[]⟩:=by
 refine zba fun β W vs hs hw=>?_
 match vs,hs with
 | [a],⟨ha,_⟩ =>
  obtain ⟨A,n,c,rfl,s1⟩:=(NM_is hi).1 ha
  refine (zhT _ s1 (Nat.le_refl _) ((hT W hw).mono hw.size)).mono fun e W' hr=>?_
  obtain ⟨rfl,hb⟩:=hr
  exact ⟨_,rfl,(ho β _ W').2 rfl,hb⟩
 | [],h=>exact h.elim
 | _::_::_,h=>exact h.2.elim
theorem c_of {k:Nat} {a:Lf} {x:Int} (ha:Gives (FN xs es) a (.int .i64 x)) (h0:-9223372036854775808≤x) (h1:x<9223372036854775808) (h:X xs k=nz x) (hk:k<50:=by first | assumption | decide):Con.sound (KN w0) Tryz.prog (FN xs es) ⟨98,[LF a],[],NM k,[]⟩:=by
 refine zba fun β W vs hs _=>?_
 match vs,hs with
 | [v],⟨hv,_⟩ =>
  have:=(ha β v W).1 hv
  subst this
  refine (zol x W h0 h1).mono fun e W' hr=>?_
  obtain ⟨A,n,c,rfl,s,hb⟩:=hr
  exact ⟨_,rfl,(NM_is hk).2 (by rw [h];exact ⟨A,n,c,rfl,s⟩),hb⟩
 | [],h=>exact h.elim
 | _::_::_,h=>exact h.2.elim
theorem zmN {k:Nat} {a o:Lf} {s:List UInt8} (hT:∀W,Below w0.heap.size w0 W→PowT w0.heap.size W∧SynT w0.heap.size W) (ha:Gives (FN xs es) a (.string ⟨s.toArray⟩)) (h:X xs k=nz (vO (zn s))) (ho:Gives (FN xs es) o (.bool (okO (zn s)))) (hk:k<50:=by first | assumption | decide):Con.sound (KN w0) Tryz.prog (FN xs es) ⟨109,[LF a],[],.t [.g (nm k),.c o],[]⟩:=by
 refine zba fun β W vs hs hw=>?_
 match vs,hs with
 | [v],⟨hv,_⟩ =>
  have:=(ha β v W).1 hv
  subst this
  refine (zjX s W hw.size (hT W hw).1 (hT W hw).2).mono fun e W' hr=>?_
  obtain ⟨A,n,c,rfl,s,hb⟩:=hr
  exact ⟨_,rfl,⟨_,rfl,(NM_is hk (v:=.agg #[_,_])).2 (by rw [h];exact ⟨A,n,c,rfl,s⟩),(ho β _ W').2 rfl,trivial⟩,hb⟩
 | [],h=>exact h.elim
 | _::_::_,h=>exact h.2.elim
end
end Go.Proofs.YtjcegdldgjphiaaGreatDoor
namespace Go.Proofs.YtjcegdldgjphiaaGreatDoor
open Go.RowKit Go.Shelf
theorem tr {K:Kit} {P:Program} {F F':Fact} {f:FuncId} {ag ag':List Sh} {res res':Sh} (h:Con.sound K P F' ⟨f,ag',[],res',[]⟩) (ha:∀β vs W,shs F β ag vs W→shs F' β0 ag' vs W) (hr:∀β β' v W,res'.ok F' β' v W→res.ok F β v W):Con.sound K P F ⟨f,ag,[],res,[]⟩ :=
 zba fun β W _ hs hw=>(zmW h (ha β _ W hs) hw).mono fun _ _ ⟨v,β',e,h1,h2⟩=>⟨v,e,hr β β' v _ h1,h2⟩
section
variable {F F':Fact} {β β':Loc} {W:World}
theorem sh0:∀(β:Loc) vs W,shs F β [] vs W→shs F' β0 [] vs W
 | _,[],_,_=>trivial
 | _,_::_,_,h=>h.elim
theorem sh1 {a a':Sh} (h:∀β v W,a.ok F β v W→a'.ok F' β0 v W):∀(β:Loc) vs W,shs F β [a] vs W→shs F' β0 [a'] vs W
 | _,[_],_,hs=>⟨h _ _ _ hs.1,trivial⟩
 | _,[],_,h=>h.elim
 | _,_::_::_,_,h=>h.2.elim
end
section
variable {xs xs':List Raw} {es es':List Value} {w0:World} {i j k l i' j' k' l':Nat}
theorem NM_bk (h:X xs' i'=X xs i) (hi:i<50:=by first | assumption | decide) (hi':i'<50:=by first | assumption | decide):∀β β' v W,(NM i').ok (FN xs' es') β' v W→(NM i).ok (FN xs es) β v W:=fun _ _ _ _ hv=>by
 rw [NM_is hi',h] at hv;rw [NM_is hi];exact hv
theorem RA_mv (h:X xs' i'=X xs i) (h2:X xs' j'=X xs j) (hi:i<50:=by first | assumption | decide) (hj:j<50:=by first | assumption | decide) (hi':i'<50:=by first | assumption | decide) (hj':j'<50:=by first | assumption | decide):∀β v W,(RA i j).ok (FN xs es) β v W→(RA i' j').ok (FN xs' es') β0 v W:=fun _ _ _ hv=>by
 rw [RA_is hi hj] at hv;rw [RA_is hi' hj',h,h2];exact hv
theorem LF_bk {F F':Fact} {L L':Lf} {u:Value} (hL:Gives F L u) (hL':Gives F' L' u):∀(β β':Loc) v W,(LF L').ok F' β' v W→(LF L).ok F β v W:=fun β β' v W hv=>(hL β v W).2 ((hL' β' v W).1 hv)
end
theorem c_bin {K:Kit} {P:Program} {F:Fact} {op:BinOp} {T:TypeId} {x y o:Lf} {k:IntKind} {a b:Int} {r:Bool} (hx:Gives F x (.int k a)) (hy:Gives F y (.int k b)) (hr:binK op a b=some r) (ho:Gives F o (.bool r)):Ent.sound K P F (.bin op T (LF x) (LF y) (LF o)):=by
 intro β W vx vy h1 h2
 rw [(hx β vx W).1 h1,(hy β vy W).1 h2]
 exact ⟨.bool r,fun X Y=>zgc hr T X Y,(ho β _ W).2 rfl⟩
theorem c_fb {K:Kit} {P:Program} {F:Fact} {n:Nat} {b:Bool} (h:Gives F (.h n) (.bool b)):Ent.sound K P F (.fb n b):=fun v W D hv=>(h ⟨fun _=>none,fun _=>(0,0),D⟩ v W).1 hv
end Go.Proofs.YtjcegdldgjphiaaGreatDoor
namespace Go.Proofs.YtjcegdldgjphiaaGreatDoor
open Go.RowKit Go.Shelf
section
variable {x y:Int}
theorem ze8 (hx:x.natAbs<big):qi (nz x)=true:=(Rt.of x hx).right
theorem zm2 (hx:x.natAbs<big) (hy:y.natAbs<big):gcdX (nz x) (nz y)=some ((Nat.gcd x.natAbs y.natAbs:Nat):Int):=by
 show gcdS (decide (x<0)) (digs x.natAbs) (decide (y<0)) (digs y.natAbs)=_
 unfold gcdS;rw [if_pos ⟨(Rt.of x hx).right,(Rt.of y hy).right⟩,zp,zp]
 exact zhz (by simpa using zjA hx hy)
theorem zi9 (hx:x.natAbs<big) (hy:y.natAbs<big):cmpX (nz x) (nz y)=cmpI x y:=by
 show cmpS (decide (x<0)) (digs x.natAbs) (decide (y<0)) (digs y.natAbs)=_
 unfold cmpS;rw [if_pos ⟨(Rt.of x hx).right,(Rt.of y hy).right⟩,zp,zp,zcR,zcR]
theorem nz_v:sgn (nz x).1 (nval (nz x).2)=x:=by
 show sgn (decide (x<0)) (nval (digs x.natAbs))=x
 rw [zp,zcR]
theorem nz_a:nval (nz x).2=x.natAbs:=zp _
theorem zmA {x:Raw} (h:qi x=true) (hd:Dig x.2):∃a:Int,x=nz a∧a.natAbs<big:=by
 obtain ⟨g,l⟩:=x
 obtain ⟨hc,hl,h0⟩:=zJ h hd
 refine ⟨sgn g (nval l),?_,by rw [qc];exact (qK hc).1 hl⟩
 unfold nz
 rw [qc,← zbz hc]
 congr 1
 cases g
 ·simp [sgn]
 ·have:nval l≠0:=fun h=>by have:=h0 (qL hc h);cases this
  simp [sgn];omega
theorem zdq {x:Int} (h:x.natAbs≤18446744073709551616):x.natAbs<big:=(Rt.small h).2
def vX (x:Raw):Int:=sgn x.1 (nval x.2)
theorem vX_nz:vX (nz x)=x:=nz_v
def rrX (x y:Raw):Bool:=zor x.1 x.2 y.1 y.2
theorem zmC (a b:Raw):rrX a b=(qi a && (qi b && (decide (0<vX b) && decide (Nat.gcd (nval a.2) (nval b.2)=1)))):=rfl
theorem zot (hx:x.natAbs<big) (hy:y.natAbs<big):rrX (nz x) (nz y)=(decide (0<y) && decide (Nat.gcd x.natAbs y.natAbs=1)):=by
 rw [zmC,ze8 hx,ze8 hy,vX_nz,nz_a,nz_a,Bool.true_and,Bool.true_and]
end
section
variable {K:Kit} {P:Program} {F:Fact} {xs:List Raw} {es:List Value} {w0:World} {f:FuncId} {res:Sh} {i j k l:Nat}
theorem dgR1 (h:Dig (X xs i).2→Dig (X xs j).2→Con.sound K P (FN xs es) ⟨f,[RA i j],[],res,[]⟩) (hi:i<50:=by first | assumption | decide) (hj:j<50:=by first | assumption | decide):Con.sound K P (FN xs es) ⟨f,[RA i j],[],res,[]⟩:=by
 refine ⟨rfl,fun β W vs hs=>?_⟩
 match vs,hs with
 | [a],hs =>
  obtain ⟨A,n,c,_,_,_,_,s1,s2⟩:=(RA_is hi hj).1 hs.1
  exact (h s1.dig s2.dig).2 β W [a] hs
 | [],h=>exact h.elim
 | _::_::_,h=>exact h.2.elim
theorem zna:nz 0=(false,[]):=by unfold nz;rw [show Int.natAbs 0=0 from rfl,zw];rfl
end
theorem mixed:Tryz.prog.follows .mixedOrders=true:=by kernel_rfl
end Go.Proofs.YtjcegdldgjphiaaGreatDoor
namespace Go.Proofs.YtjcegdldgjphiaaGreatDoor
open Go.RowKit Go.Shelf
theorem zj5 (x:Int) (w:World) (h0:-9223372036854775808≤x) (h1:x<9223372036854775808):Calls Tryz.prog 65 #[.int .i64 x] w (RetA x w):=by
 have m0:MX w [(#[.bool false,.slice none 0 0],30)] (w.alloc (.cells #[.bool false,.slice none 0 0] 30)):=MX.start
 obtain ⟨v,hv⟩:∃v,x.natAbs=v:=⟨_,rfl⟩
 have hvl:v<18446744073709551616:=by omega
 have hxb:x.natAbs<big:=(Rt.small (show x.natAbs≤18446744073709551616 by omega)).2
 have e9:fitO (sgn (decide (x<0)) v)=some x:=by rw [← hv,zcR,zhz hxb]
 have DI:=Lib.hid (fun (W:World)=>zeh v W hvl)
 have SI:=Lib.hid (fun (W:World) (A:Option Addr) (n c:Nat) (hs:Sl W W.heap.size A n c (digs v))=>zaU A n c W.heap.size v (decide (x<0)) _ W hs (Nat.le_refl _) (zp v))
 rw [e9] at SI
 rcases Int.lt_or_le x 0 with hn | hn
 ·have hd:decide (x<0)=true:=decide_eq_true hn
  have e1:IntKind.u64.wrap (-IntKind.u64.wrap x)=(v:Int):=by rw [IntKind.wrap_u64,IntKind.wrap_u64];omega
  rw [hd] at SI
  clear e9
  go_enter Tryz.func65,Tryz.ntmps65
  go_wp2_with (first
   | (go_at_call 91;go_loud ((first | rw [e1] | skip);refine (DI.out _).mono ?_;rintro e w1 ⟨A,n,c,rfl,hs,hb⟩;have m1:=m0.via hb))
   | (go_at_call 90;go_loud ((with_reducible refine (SI.out _ _ _ _ hs).mono ?_);rintro e w2 hr;obtain ⟨A2,n2,c2,rfl,hs2,hb2⟩:=zbp hr;have m2:=m1.via hb2;have r0:w2.cell? ⟨w.heap.size,0,none⟩=some (.bool false):=m2.cell (i:=0) rfl rfl;have r1:w2.cell? ⟨w.heap.size,1,none⟩=some (.slice none 0 0):=m2.cell (i:=0) rfl rfl;have rf:∀j,w2.frozen? ⟨w.heap.size,j,none⟩=false:=(fun j=>m2.frozen (i:=0) rfl j);have rz:w.heap.size<w2.heap.size:=m2.lt (i:=0) (by simp)))
   | fail "no arm")
  obtain ⟨q0,q1⟩:=zdv (.bool true) (.slice A2 n2 c2) r0 r1
  have s3:=hs2.stored r0 r1 (.bool true) (.slice A2 n2 c2)
  have b3:=(m2.below.setCell (p:=⟨w.heap.size,0,none⟩) (Nat.le_refl _) (.bool true)).setCell (p:=⟨w.heap.size,1,none⟩) (Nat.le_refl _) (.slice A2 n2 c2)
  have hz3:w.heap.size<((w2.setCell ⟨w.heap.size,0,none⟩ (.bool true)).setCell ⟨w.heap.size,1,none⟩ (.slice A2 n2 c2)).heap.size:=by simp [World.setCell];omega
  obtain ⟨W3,hW3⟩:∃W3,(w2.setCell ⟨w.heap.size,0,none⟩ (.bool true)).setCell ⟨w.heap.size,1,none⟩ (.slice A2 n2 c2)=W3:=⟨_,rfl⟩
  rw [hW3] at q0 q1 s3 b3 hz3 ⊢
  have k0:=(World.cell?_alloc_lt W3 (.cells #[.bool true,.slice A2 n2 c2] 30) ⟨w.heap.size,0,none⟩ hz3).trans q0
  have k1:=(World.cell?_alloc_lt W3 (.cells #[.bool true,.slice A2 n2 c2] 30) ⟨w.heap.size,1,none⟩ hz3).trans q1
  refine bodyPost_ret (v:=.agg #[.bool true,.slice A2 n2 c2]) ?_ rfl ⟨A2,n2,c2,by rw [hd],s3.via ((Below.refl _ _).alloc (Nat.le_refl _) _),b3.alloc b3.size _⟩
  clear k0 k1
  simp [results,Tryz.f65,go_sem,q0,q1,hz3]
 ·have hd:decide (x<0)=false:=decide_eq_false (by omega)
  have e1:IntKind.u64.wrap x=(v:Int):=by rw [IntKind.wrap_u64];omega
  have hn2:¬ x<0:=by omega
  rw [hd] at SI
  clear e9
  go_enter Tryz.func65,Tryz.ntmps65
  go_wp2_with (first
   | (go_at_call 91;go_loud ((first | rw [e1] | skip);refine (DI.out _).mono ?_;rintro e w1 ⟨A,n,c,rfl,hs,hb⟩;have m1:=m0.via hb))
   | (go_at_call 90;go_loud ((with_reducible refine (SI.out _ _ _ _ hs).mono ?_);rintro e w2 hr;obtain ⟨A2,n2,c2,rfl,hs2,hb2⟩:=zbp hr;have m2:=m1.via hb2;have r0:w2.cell? ⟨w.heap.size,0,none⟩=some (.bool false):=m2.cell (i:=0) rfl rfl;have r1:w2.cell? ⟨w.heap.size,1,none⟩=some (.slice none 0 0):=m2.cell (i:=0) rfl rfl;have rf:∀j,w2.frozen? ⟨w.heap.size,j,none⟩=false:=(fun j=>m2.frozen (i:=0) rfl j);have rz:w.heap.size<w2.heap.size:=m2.lt (i:=0) (by simp)))
   | fail "no arm")
  obtain ⟨q0,q1⟩:=zdv (.bool false) (.slice A2 n2 c2) r0 r1
  have s3:=hs2.stored r0 r1 (.bool false) (.slice A2 n2 c2)
  have b3:=(m2.below.setCell (p:=⟨w.heap.size,0,none⟩) (Nat.le_refl _) (.bool false)).setCell (p:=⟨w.heap.size,1,none⟩) (Nat.le_refl _) (.slice A2 n2 c2)
  have hz3:w.heap.size<((w2.setCell ⟨w.heap.size,0,none⟩ (.bool false)).setCell ⟨w.heap.size,1,none⟩ (.slice A2 n2 c2)).heap.size:=by simp [World.setCell];omega
  obtain ⟨W3,hW3⟩:∃W3,(w2.setCell ⟨w.heap.size,0,none⟩ (.bool false)).setCell ⟨w.heap.size,1,none⟩ (.slice A2 n2 c2)=W3:=⟨_,rfl⟩
  rw [hW3] at q0 q1 s3 b3 hz3 ⊢
  have k0:=(World.cell?_alloc_lt W3 (.cells #[.bool false,.slice A2 n2 c2] 30) ⟨w.heap.size,0,none⟩ hz3).trans q0
  have k1:=(World.cell?_alloc_lt W3 (.cells #[.bool false,.slice A2 n2 c2] 30) ⟨w.heap.size,1,none⟩ hz3).trans q1
  refine bodyPost_ret (v:=.agg #[.bool false,.slice A2 n2 c2]) ?_ rfl ⟨A2,n2,c2,by rw [hd],s3.via ((Below.refl _ _).alloc (Nat.le_refl _) _),b3.alloc b3.size _⟩
  clear k0 k1
  simp [results,Tryz.f65,go_sem,q0,q1,hz3]
end Go.Proofs.YtjcegdldgjphiaaGreatDoor
namespace Go.Proofs.YtjcegdldgjphiaaGreatDoor
open Go.RowKit Go.Shelf
theorem zo1 {w0:World} :Con.sound (KN w0) Tryz.prog (FN [nz 0] []) ⟨71,[],[],NM 0,[]⟩ :=
 zl (C:=[(1,.call ⟨98,[LF (.k (.int .i64 0))],[],NM 0,[]⟩)]) 0 (zbH rfl) ⟨c_of zd (by decide) (by decide) rfl,trivial⟩ mixed (by kernel_rfl)
theorem zmi {xs:List Raw} {es:List Value} {w0:World} {k:Nat} (h:X xs k=nz 0) (hk:k<50:=by first | assumption | decide):Con.sound (KN w0) Tryz.prog (FN xs es) ⟨71,[],[],NM k,[]⟩:=tr zo1 sh0 (NM_bk h.symm)
theorem one_p {w0:World} :Con.sound (KN w0) Tryz.prog (FN [nz 1] []) ⟨73,[],[],NM 0,[]⟩ :=
 zl (C:=[(1,.call ⟨98,[LF (.k (.int .i64 1))],[],NM 0,[]⟩)]) 0 (zbH rfl) ⟨c_of zd (by decide) (by decide) rfl,trivial⟩ mixed (by kernel_rfl)
theorem c_one {xs:List Raw} {es:List Value} {w0:World} {k:Nat} (h:X xs k=nz 1) (hk:k<50:=by first | assumption | decide):Con.sound (KN w0) Tryz.prog (FN xs es) ⟨73,[],[],NM k,[]⟩:=tr one_p sh0 (NM_bk h.symm)
theorem zmO {xs:List Raw} {es:List Value} {w0:World} {k:Nat} {a:Lf} {x:Int} (ha:Gives (FN xs es) a (.int .i64 x)) (h0:-9223372036854775808≤x) (h1:x<9223372036854775808) (h:X xs k=nz x) (hk:k<50:=by first | assumption | decide):Con.sound (KN w0) Tryz.prog (FN xs es) ⟨65,[LF a],[],NM k,[]⟩:=by
 refine zba fun β W vs hs _=>?_
 match vs,hs with
 | [v],⟨hv,_⟩ =>
  have:=(ha β v W).1 hv
  subst this
  refine (zj5 x W h0 h1).mono fun e W' hr=>?_
  obtain ⟨A,n,c,rfl,s,hb⟩:=hr
  exact ⟨_,rfl,(NM_is hk).2 (by rw [h];exact ⟨A,n,c,rfl,s⟩),hb⟩
 | [],h=>exact h.elim
 | _::_::_,h=>exact h.2.elim
theorem zdL {xs:List Raw} {es:List Value} {w0:World} {b i j:Nat} {o:Lf} (hes:es.all (KN w0).ck=true) (ho:Gives (FN xs es) o (.bool (qi (X xs i) && qi (X xs j)))) (hi:i<50:=by first | assumption | decide) (hj:j<50:=by first | assumption | decide):Con.sound (KN w0) Tryz.prog (FN xs es) ⟨69,[LF (.s b 0 2 2)],[.bx b 30 (nm i++nm j)],LF o,[.bx b 30 (nm i++nm j)]⟩:=by
 refine ⟨rfl,fun β W vs hs hb hg=>?_⟩
 match vs,hs with
 | [v],⟨⟨q,hq,hv⟩,_⟩ =>
  subst hv
  have hbox:=hb _ (List.mem_cons_self ..)
  have hbox2:=hbox
  obtain ⟨q',cs,hq',hh,hl,_,_,_⟩:=hbox2
  have e:q'=q:=by rw [hq] at hq';exact (Option.some.inj hq').symm
  subst e
  rw [zb0 hi,show nm j=nm j++[] by simp] at hl
  obtain ⟨A,n,c,us,e1,s1,hl⟩:=hl
  rw [zb0 hj] at hl
  obtain ⟨A2,n2,c2,us2,e2,s2,hl⟩:=hl
  rw [zgJ] at hl
  subst hl;subst e2
  have hc:∀k u,cs.toList[k]?=some u→W.cell? ⟨q',k,none⟩=some u:=fun k u hu=>by rw [zaj hh];simpa using hu
  rw [e1] at hc
  refine (ze2 ⟨hc 0 _ rfl,hc 1 _ rfl,hc 2 _ rfl,hc 3 _ rfl,hg.lt b q' hq⟩ s1 s2).mono fun e W' hr=>?_
  obtain ⟨rfl,hbl⟩:=hr
  have hO:Oth (fun _=>False) W W':=Oth.ofBelow hbl
  refine ⟨_,β,rfl,(ho β _ W').2 rfl,hO.mono fun _ h=>h.elim,fun x hx=>?_,fun b _=>Loc.same.rfl,fun _ h=>h,fun _ h=>.inl h,fun b h=>(by cases h),hg.mono (fun _ h=>h.elim) hO⟩
  rw [List.mem_singleton] at hx
  subst hx
  exact Box.mv (zbH hes) (fun _ h=>h.elim) hO (fun _ h=>h) (fun _ _=>Loc.same.rfl) hbox (fun _ _ h=>h.elim)
 | [],h=>exact h.elim
 | _::_::_,h=>exact h.2.elim
theorem zlD {w0:World} (x y:Raw) (h:(qi x && qi y)=false):Con.sound (KN w0) Tryz.prog (FN [x,y] [.bool (qi x && qi y)]) ⟨46,[RA 0 1],[],LF (.k (.bool false)),[]⟩ :=
 zl (C:=[(10,.call ⟨69,[LF (.s 6 0 2 2)],[.bx 6 30 (nm 0++nm 1)],LF (.h 100),[.bx 6 30 (nm 0++nm 1)]⟩),
  (10100,.fb 100 false)]) 0 (zbH rfl) ⟨zdL rfl (zQ (k:=0) rfl),c_fb (zQ (k:=0) (congrArg Value.bool h)),trivial⟩ mixed (by kernel_rfl)
theorem zlE {w0:World} (x y:Raw) (h:(qi x && qi y)=true) (h2:decide (cmpX y (nz 0)≤0)=true):Con.sound (KN w0) Tryz.prog (FN [x,y,nz 0] [.bool (qi x && qi y),.int .i64 (cmpX y (nz 0))]) ⟨46,[RA 0 1],[],LF (.k (.bool false)),[]⟩ :=
 zl (C:=[(10,.call ⟨69,[LF (.s 6 0 2 2)],[.bx 6 30 (nm 0++nm 1)],LF (.h 100),[.bx 6 30 (nm 0++nm 1)]⟩),
  (10100,.fb 100 true),
  (15,.call ⟨71,[],[],NM 2,[]⟩),
  (16,.call ⟨70,[NM 1,NM 2],[],LF (.h 101),[]⟩),
  (17,.bin .leq 3 (LF (.h 101)) (LF (.k (.int .i64 0))) (LF (.k (.bool true))))]) 0 (zbH rfl) ⟨zdL rfl (zQ (k:=0) rfl),c_fb (zQ (k:=0) (congrArg Value.bool h)),zmi rfl,c_cmp (zQ (k:=1) rfl),c_bin (zQ (k:=1) rfl) zd (congrArg some h2) zd,trivial⟩ mixed (by kernel_rfl)
theorem zlF {w0:World} (x y:Raw) (h:(qi x && qi y)=true) (h2:decide (cmpX y (nz 0)≤0)=false):Con.sound (KN w0) Tryz.prog (FN [x,y,nz 0,nz (vO (gcdX x y)),nz 1] [.bool (qi x && qi y),.int .i64 (cmpX y (nz 0)),.bool (okO (gcdX x y)),.int .i64 (cmpX (nz (vO (gcdX x y))) (nz 1)),.bool (cmpX (nz (vO (gcdX x y))) (nz 1) == 0)]) ⟨46,[RA 0 1],[],LF (.h 104),[]⟩ :=
 zl (C:=[(10,.call ⟨69,[LF (.s 6 0 2 2)],[.bx 6 30 (nm 0++nm 1)],LF (.h 100),[.bx 6 30 (nm 0++nm 1)]⟩),
  (10100,.fb 100 true),
  (15,.call ⟨71,[],[],NM 2,[]⟩),
  (16,.call ⟨70,[NM 1,NM 2],[],LF (.h 101),[]⟩),
  (17,.bin .leq 3 (LF (.h 101)) (LF (.k (.int .i64 0))) (LF (.k (.bool false)))),
  (24,.call ⟨72,[NM 0,NM 1],[],.t [.g (nm 3),.c (.h 102)],[]⟩),
  (28,.call ⟨73,[],[],NM 4,[]⟩),
  (29,.call ⟨70,[NM 3,NM 4],[],LF (.h 103),[]⟩),
  (30,.bin .eql 3 (LF (.h 103)) (LF (.k (.int .i64 0))) (LF (.h 104)))]) 0 (zbH rfl) ⟨zdL rfl (zQ (k:=0) rfl),c_fb (zQ (k:=0) (congrArg Value.bool h)),zmi rfl,c_cmp (zQ (k:=1) rfl),c_bin (zQ (k:=1) rfl) zd (congrArg some h2) zd,c_gcd rfl (zQ (k:=2) rfl),c_one rfl,c_cmp (zQ (k:=3) rfl),c_bin (zQ (k:=3) rfl) zd rfl (zQ (k:=4) rfl),trivial⟩ mixed (by kernel_rfl)
theorem zjF {b:Int} (hb:b.natAbs<big):decide (cmpX (nz b) (nz 0)≤0)=!decide (0<b):=by
 rw [zi9 hb (zdq (by decide))]
 unfold cmpI
 by_cases h:b<0
 ·rw [if_pos h];simp;omega
 ·rw [if_neg h]
  by_cases h2:0<b
  ·rw [if_pos h2];simp [h2]
  ·rw [if_neg h2];simp;omega
theorem zon {v:Nat} (hv:v<big):(cmpX (nz (v:Int)) (nz 1) == 0)=decide (v=1):=by
 rw [zi9 (by simpa using hv) (zdq (by decide))]
 unfold cmpI
 by_cases h:(v:Int)<1
 ·rw [if_pos h,decide_eq_false (by omega)];rfl
 ·rw [if_neg h]
  by_cases h2:1<(v:Int)
  ·rw [if_pos h2,decide_eq_false (by omega)];rfl
  ·rw [if_neg h2,decide_eq_true (by omega)];rfl
theorem zkU {xs:List Raw} {es:List Value} {w0:World} {i j:Nat} {o:Lf} (ho:Gives (FN xs es) o (.bool (rrX (X xs i) (X xs j)))) (hi:i<50:=by first | assumption | decide) (hj:j<50:=by first | assumption | decide):Con.sound (KN w0) Tryz.prog (FN xs es) ⟨46,[RA i j],[],LF o,[]⟩:=by
 refine dgR1 (fun d1 d2=>?_) hi hj
 cases h:qi (X xs i) && qi (X xs j) with
 | false =>
  have e:rrX (X xs i) (X xs j)=false:=by rw [zmC,← Bool.and_assoc,h];rfl
  rw [e] at ho
  exact tr (zlD _ _ h) (sh1 (RA_mv rfl rfl hi hj)) (LF_bk ho zd)
 | true =>
  have h':=h
  rw [Bool.and_eq_true] at h'
  obtain ⟨a,ea,ha⟩:=zmA h'.1 d1
  obtain ⟨b,eb,hb⟩:=zmA h'.2 d2
  rw [ea,eb,zot ha hb] at ho
  cases h2:decide (cmpX (X xs j) (nz 0)≤0) with
  | true =>
   have h3:=h2
   rw [eb,zjF hb] at h3
   have e:decide (0<b)=false:=by simpa using h3
   rw [e,Bool.false_and] at ho
   exact tr (zlE _ _ h h2) (sh1 (RA_mv rfl rfl hi hj)) (LF_bk ho zd)
  | false =>
   have h3:=h2
   rw [eb,zjF hb] at h3
   have e:decide (0<b)=true:=by simpa using h3
   rw [e,Bool.true_and,← zon (zjA ha hb)] at ho
   refine tr (zlF _ _ h h2) (sh1 (RA_mv rfl rfl hi hj)) (LF_bk ho (zQ (k:=4) ?_))
   show Value.bool (cmpX (nz (vO (gcdX (X xs i) (X xs j)))) (nz 1) == 0)=_
   rw [ea,eb,zm2 ha hb];rfl
end Go.Proofs.YtjcegdldgjphiaaGreatDoor
namespace Go.Proofs.YtjcegdldgjphiaaGreatDoor
open Go.RowKit Go.Shelf
end Go.Proofs.YtjcegdldgjphiaaGreatDoor
namespace Go.Proofs.YtjcegdldgjphiaaGreatDoor
open Go.RowKit Go.Shelf
section
variable (a b c d:Raw)
end
section
variable {p r:Rat}
end
end Go.Proofs.YtjcegdldgjphiaaGreatDoor
namespace Go.Proofs.YtjcegdldgjphiaaGreatDoor
open Go.RowKit Go.Shelf
def cf:Nat→Int→Int→Int→Int→Int→Int×Int
 | 0,_,_,_,_,s=>(0,s)
 | k+1,n1,d1,n2,d2,s=>if cmpI (n1 / d1) (n2 / d2)≠0 then (cmpI (n1 / d1) (n2 / d2),s) else if n1%d1=0∨n2%d2=0 then (cmpI (n1%d1) (n2%d2),s) else cf k d1 (n1%d1) d2 (n2%d2) (-s)
structure CT where
 n1:Int
 d1:Int
 n2:Int
 d2:Int
 s:Int
 k:Nat
def CT.F (t:CT):Fact:=FN [nz t.n1,nz t.d1,nz t.n2,nz t.d2] [.int .i64 t.s]
def CT.J (o:Int×Int) (t:CT):Prop:=0<t.d1∧0<t.d2∧t.n1.natAbs<big∧t.d1.natAbs<big∧t.n2.natAbs<big∧t.d2.natAbs<big∧(t.s=1∨t.s=-1)∧t.d1.toNat<t.k∧cf t.k t.n1 t.d1 t.n2 t.d2 t.s=o
end Go.Proofs.YtjcegdldgjphiaaGreatDoor
namespace Go.Proofs.YtjcegdldgjphiaaGreatDoor
open Go.RowKit Go.Shelf
def pD (l:List Nat):Pred:=fun v W _=>∃A m c,v=.slice A m c∧Sl W W.heap.size A m c l
abbrev cN (x:Raw):List Pred:=[pB x.1,pD x.2]
abbrev gN (x:Raw):PSh:=.o (.g [pB x.1,pD x.2])
abbrev RR:=Raw×Raw
abbrev gR (x:RR):PSh:=.o (.g [pB x.1.1,pD x.1.2,pB x.2.1,pD x.2.2])
def rq (o:Option Rat):RR:=(nz (nO o),nz ((dO o:Nat):Int))
theorem zj {w0:World} {l:List Nat}:FineC (KN w0) (pD l):=by
 constructor
 ·rintro v W W' D D' S hS hO _ ⟨A,m,c,e,hs⟩
  exact ⟨A,m,c,e,(Sl.oth hS hO hs).more hO.size⟩
 ·rintro v W D ⟨A,m,c,e,_⟩
  rw [e];rfl
theorem nil_D {v:Value} {W:World} {D:Dat} (h:pV (.slice none 0 0) v W D):pD [] v W D:=⟨none,0,0,h,Sl.none_⟩
theorem zhZ {v:Value} {W:World} {D:Dat} (h:(PSh.o (.g [pV (.bool false),pV (.slice none 0 0),pV (.bool false),pV (.slice none 0 0)])).ok v W D):(gR (rq none)).ok v W D:=by
 obtain ⟨vs,e,h1⟩:=h
 refine ⟨vs,e,?_⟩
 have e0:rq none=((false,[]),(false,[])):=by show (nz 0,nz 0)=_;rw [zna]
 rw [e0]
 match vs.toList,h1 with
 | [a,b,c,d],⟨h1,h2,h3,h4,_⟩=>exact ⟨h1,nil_D h2,h3,nil_D h4,trivial⟩
 | [],h=>exact h.elim
 | [_],h=>exact h.2.elim
 | [_,_],h=>exact h.2.2.elim
 | [_,_,_],h=>exact h.2.2.2.elim
 | _::_::_::_::_::_,h=>exact h.2.2.2.2.elim
theorem f_cmp {w0:World} (x y:Raw) (o:Int) (ho:cmpX x y=o):Fun (KN w0) Tryz.prog 70 [gN x,gN y] (.o (.c (pI o))):=
 zi (c_cmp (xs:=[x,y]) (es:=[.int .i64 o]) (i:=0) (j:=1) (o:=.h 100) (zQ (k:=0) (congrArg (Value.int .i64) ho.symm))) (by kernel_rfl) (by kernel_rfl) rfl rfl
theorem zjr {w0:World} (x:Int) (r:Raw) (hr:nz x=r) (h0:-9223372036854775808≤x) (h1:x<9223372036854775808):Fun (KN w0) Tryz.prog 65 [.o (.c (pI x))] (gN r):=
 zi (zmO (xs:=[r]) (es:=[.int .i64 x]) (k:=0) (a:=.h 100) (zQ (k:=0) rfl) h0 h1 hr.symm) (by kernel_rfl) (by kernel_rfl) rfl rfl
theorem f_one {w0:World} (r:Raw) (hr:nz 1=r):Fun (KN w0) Tryz.prog 73 [] (gN r):=
 zi (c_one (xs:=[r]) (es:=[]) (k:=0) hr.symm) (by kernel_rfl) (by kernel_rfl) rfl rfl
theorem qq {w0:World} (x:RR) (o:Bool) (ho:rrX x.1 x.2=o):Fun (KN w0) Tryz.prog 46 [gR x] (.o (.c (pB o))):=
 zi (zkU (xs:=[x.1,x.2]) (es:=[.bool o]) (i:=0) (j:=1) (o:=.h 100) (zQ (k:=0) (congrArg Value.bool ho.symm))) (by kernel_rfl) (by kernel_rfl) rfl rfl
theorem zju {w0:World} (hT:∀W,Below w0.heap.size w0 W→PowT w0.heap.size W) (x:Raw) (t:List UInt8) (ht:textS x.1 x.2=t):Fun (KN w0) Tryz.prog 74 [gN x] (.o (.c (pS t))):=
 zi (zn5 (xs:=[x]) (es:=[.string ⟨t.toArray⟩]) (i:=0) (o:=.h 100) hT (zQ (k:=0) (by rw [← ht];rfl))) (by kernel_rfl) (by kernel_rfl) rfl rfl
theorem zT {w0:World} (hT:∀W,Below w0.heap.size w0 W→PowT w0.heap.size W∧SynT w0.heap.size W) (s:List UInt8) (r:Raw) (o:Bool) (hr:nz (vO (zn s))=r) (ho:okO (zn s)=o):Fun (KN w0) Tryz.prog 109 [.o (.c (pS s))] (.t [.g (cN r),.c (pB o)]):=
 zi (zmN (xs:=[r]) (es:=[.string ⟨s.toArray⟩,.bool o]) (k:=0) (a:=.h 100) (o:=.h 101) hT (zQ (k:=0) rfl) hr.symm (zQ (k:=1) (congrArg Value.bool ho.symm))) (by kernel_rfl) (by kernel_rfl) rfl rfl
end Go.Proofs.YtjcegdldgjphiaaGreatDoor
