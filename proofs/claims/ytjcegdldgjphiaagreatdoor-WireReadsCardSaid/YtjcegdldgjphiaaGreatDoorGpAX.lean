/-
  Merged: SymBl, SymBw, WrN, WrQ, WrCall.
-/
import Derived.Test.YtjcegdldgjphiaaGreatDoorGpAV
import Derived.Lib.AppendStr
import Derived.Test.YtjcegdldgjphiaaGreatDoorGpAN
import Derived.Shelf.Strings.Builder1
import Derived.Test.YtjcegdldgjphiaaGreatDoorGpAW
set_option linter.unusedSimpArgs false
set_option linter.unusedVariables false
set_option maxRecDepth 100000
set_option maxHeartbeats 1000000
namespace Go.Proofs.YtjcegdldgjphiaaGreatDoor
open Go.RowKit
section
variable {K:Kit} {P:Program} {F:Fact} {W:World}
theorem zmm {t u ty T:TypeId} {i:TypeInfo} {n:Nat} {v:Value} {xs:List Value} {base:Nat} (s:ByteArray) (ht:P.underlying t=some (.slice T)) (hu:P.underlying u=some .string) (hi:P.info? T=some i) (hz:i.zero=some (.int .u8 0)) (hs1:i.size=1) (hb1:i.bytes=1) (hck:K.bad .u8=false) (hbt:K.bt T=true)
  (hown:W.ownsRow base T 1 v n xs) (hb:base≤W.heap.size) (hlen:xs.length+s.size≤1099511627776) (hml:∀q,v.ownBlock=some q→∃o,W.heap[q]?=some o∧ml K o=true) :
  ∃v' W',(Builtin.append_ #[t,u] ty #[v,.string s]).run P W=.ok v' W'∧W'.ownsRow base T 1 v' (n+s.size) (xs++Lib.strCells s)∧W.grownBy W' v.ownBlock∧(∀q,v'.ownBlock=some q→(v.ownBlock=some q∨W.heap.size≤q)∧∃o,W'.heap[q]?=some o∧ml K o=true):=by
 have hcs:∀x∈Lib.strCells s,K.ck x=true:=by
  intro x hx
  obtain ⟨b,_,rfl⟩:=List.mem_map.1 hx
  simp [Kit.ck,ckf,hck]
 have hzc:(#[Value.int .u8 0]:Array Value).toList.all K.ck=true:=by simp [Kit.ck,ckf,hck]
 have hxl:=hown.1
 rw [Nat.mul_one] at hxl
 have hns:n+s.size≤1099511627776:=by omega
 obtain ⟨v',W',hrun,ho2,hgb,hnil⟩:=Lib.run_append_own_string (P:=P) W base t u ty T i ht hu hi hz hs1 hb1 v n xs hown s (by unfold maxLen;omega) (by omega) hb
 refine ⟨v',W',hrun,ho2,hgb,fun q hq=>?_⟩
 rcases hown.2 with ⟨rfl,rfl⟩ | ⟨g,cap,cur,rfl,hbg,hg,hnc,hcm,hcs2,htake⟩
 ·by_cases hm:s.size=0
  ·have:=hnil.2 ⟨rfl,hm⟩
   rw [this] at hq;cases hq
  ·have hr:=run_append_nil_string (P:=P) W t u ty T i (.int .u8 0) ht hu hi hz s (by omega) (by omega) (by rw [hb1];omega)
   rw [hr] at hrun
   injection hrun with e1 e2
   subst e1;subst e2
   simp only [Value.ownBlock,Option.some.injEq] at hq
   subst hq
   refine ⟨.inr (Nat.le_refl _),_,heap_alloc_new W.drew _,?_⟩
   simp only [ml,mlf,hbt,Bool.true_and,Array.toList_append,List.all_append,Bool.and_eq_true]
   refine ⟨List.all_eq_true.2 fun x hx=>?_,zmj _ (by simp [Value.cells]) hzc⟩
   rw [Array.toList_map] at hx
   exact hcs x hx
 ·obtain ⟨o,hbo,hmo⟩:=hml g rfl
  have hcur:cur.toList.all K.ck=true:=by
   rw [hg] at hbo
   injection hbo with hbo
   subst hbo
   simp only [ml,mlf,hbt,Bool.true_and] at hmo
   exact hmo
  rw [List.all_eq_true] at hcur
  by_cases hroom:n+s.size≤cap
  ·have hr:=Lib.run_append_room_string (P:=P) W t u ty T i ht hu hi hs1 g n cap cur hg s hroom (by rw [hcs2];omega)
   rw [hr] at hrun
   injection hrun with e1 e2
   subst e1;subst e2
   simp only [Value.ownBlock,Option.some.injEq] at hq
   subst hq
   refine ⟨.inl rfl,_,setRow_heap W g cur _ T _ hg,?_⟩
   simp only [ml,mlf,hbt,Bool.true_and,List.all_append,Bool.and_eq_true]
   exact ⟨⟨List.all_eq_true.2 fun x hx=>hcur x (List.mem_of_mem_take hx),List.all_eq_true.2 hcs⟩,List.all_eq_true.2 fun x hx=>hcur x (List.mem_of_mem_drop hx)⟩
  ·have holds:∀j u,xs[j]?=some u→W.cell? ((⟨g,0,none⟩:Addr).add j)=some u:=hown.cells (g:=g) rfl
   have hr:=Lib.run_append_grow_string (P:=P) W t u ty T i (.int .u8 0) ht hu hi hz ⟨g,0,none⟩ n cap xs (by rw [hs1,Nat.mul_one];exact hxl) holds s (by omega) (by omega) (by rw [hb1];exact growslice_fits (by omega) (by omega))
   rw [hr] at hrun
   injection hrun with e1 e2
   subst e1;subst e2
   simp only [Value.ownBlock,Option.some.injEq] at hq
   subst hq
   refine ⟨.inr (Nat.le_refl _),_,heap_alloc_new W.drew _,?_⟩
   simp only [ml,mlf,hbt,Bool.true_and,Array.toList_append,List.all_append,Bool.and_eq_true]
   refine ⟨⟨List.all_eq_true.2 fun x hx=>?_,List.all_eq_true.2 fun x hx=>hcs x (by simpa using hx)⟩,zmj _ (by simp [Value.cells]) hzc⟩
   rw [← htake] at hx
   exact hcur x (List.mem_of_mem_take (by simpa using hx))
def zlG (P:Program) (T:TypeId):Array Field:=match P.underlying T with
 | some (.struct fs)=>fs
 | _=>#[]
theorem e_faD {T:TypeId} {i off m:Nat} {x o:Lf} {ps:List Pred} (hT:P.underlying T=some (.struct (zlG P T))) (hd:((zlG P T)[i]?).map (fun d=>(d.offset,szOf P d.type))=some (off,some (m+1))) (hx:Says F x (pP ps)) (ho:Says F o (pP (ps.drop off))) (hl:off≤ps.length):Ent.sound K P F (.op (.fa T i) [LF x] [] (LF o)):=by
 obtain ⟨d,h1,h2⟩:=Option.map_eq_some_iff.1 hd
 injection h2 with h2 h3
 exact e_fa (us:=ps.take off) hT h1 h3 hx (List.take_append_drop off ps).symm (by rw [List.length_take,h2];omega) ho
theorem zic {ps:List Pred} (h:FineAll K ps) (n:Nat):FineAll K (ps.drop n):=FineAll.of fun p hp=>h.mem p (List.mem_of_mem_drop hp)
theorem zif {α:Type} {c:α→List Pred} {z b g n id:Nat} {T U:TypeId} {x:Lf} (hn:F.g n=pG c ([]:List α)):Gh.sound K F ⟨id,[.bx b U [x,.k (.slice none 0 0)],.gn g],[.bx b U [x,.gr g],.gl g T z n],[]⟩:=by
 intro β a W hg hA
 obtain ⟨q,us,h1,h2,h3,h4⟩:=hA _ (List.mem_cons_self ..)
 have hb:β g=none:=hA _ (List.mem_cons_of_mem _ (List.mem_cons_self ..))
 refine ⟨β,hg,fun _ _=>Loc.same.rfl,fun _ h=>h,fun _ h=>.inl h,fun c hc=>(by cases hc),fun A hAm=>?_⟩
 simp only [List.mem_cons,List.not_mem_nil,or_false] at hAm
 rcases hAm with rfl | rfl
 ·refine ⟨q,us,h1,h2,?_,h4⟩
  match hu:us.toList,h3 with
  | [v1,v2],h3 =>
   refine ⟨h3.1,?_,trivial⟩
   have:v2=.slice none 0 0:=h3.2.1
   show v2=gv β g
   rw [this];unfold gv;rw [hb]
  | [],h3=>exact h3.elim
  | [_],h3=>exact h3.2.elim
  | _::_::_::_,h3=>exact h3.2.2.elim
 ·exact zoL hb hn
end
end Go.Proofs.YtjcegdldgjphiaaGreatDoor
namespace Go.Proofs.YtjcegdldgjphiaaGreatDoor
open Go.RowKit Go.Shelf
theorem zln:(Tryz.prog.info? 103).map (·.size)=some 2:=by kernel_rfl
theorem zqC:liesAt Tryz.prog Tryz.prog.depth 103 (2 / Tryz.prog.cellsOf 103) 0 103 1=true:=by kernel_rfl
theorem zoa:(Tryz.prog.info? 5).map (fun i=>(i.zero,i.size,i.bytes))=some (some (.int .u8 0),1,1):=by kernel_rfl
theorem zqD (b:Nat) (w:World) (h0:w.cell? ⟨b,0,none⟩=some (.pointer (some ⟨b,0,none⟩))) :
  Calls Tryz.prog 111 #[.pointer (some ⟨b,0,none⟩)] w fun e w'=>e=.returned (.tuple #[])∧w'=w:=by
 obtain ⟨j,hj,_⟩:=Option.map_eq_some_iff.1 zln
 go_enter Tryz.func111,Tryz.ntmps111
 go_wp2
 rw [Lib.run_neq_ptr_same w _ Tryz.underlying101 hj]
 go_wp2
 go_end0
 exact ⟨rfl,rfl⟩
theorem zn5 (b:Nat) (w:World) (h0:w.cell? ⟨b,0,none⟩=some (.pointer none)) (hsh:w.shape? b=some (103,2)) (hfz:w.frozen? ⟨b,0,none⟩=false) :
  Calls Tryz.prog 111 #[.pointer (some ⟨b,0,none⟩)] w fun e w'=>e=.returned (.tuple #[])∧w'=w.setCell ⟨b,0,none⟩ (.pointer (some ⟨b,0,none⟩)):=by
 obtain ⟨j,hj,hjs⟩:=Option.map_eq_some_iff.1 zln
 go_enter Tryz.func111,Tryz.ntmps111
 go_wp2
 rw [Lib.run_to_unsafe w ⟨b,0,none⟩ Tryz.underlying101 Tryz.underlying162 hj (by rw [hjs];decide) hsh (Nat.zero_lt_succ 1)]
 simp only [Result.andThen]
 rw [Oper.upon_value]
 go_wp2
 rw [run_callFunc_extern Tryz.func142 (by kernel_rfl) (by kernel_rfl) (by kernel_rfl) (e:=Extern.AbiNoEscape.same) (by kernel_rfl)]
 rw [Lib.run_noEscape]
 simp only [Result.andThen]
 rw [Oper.upon_value]
 go_wp2
 rw [Lib.run_from_unsafe w ⟨b,0,none⟩ Tryz.underlying162 Tryz.underlying101 hj hsh zqC]
 simp only [Result.andThen]
 rw [Oper.upon_value]
 go_wp2
 go_end0
 exact ⟨rfl,rfl⟩
theorem znU {P:Program} {ops:Array Oper} {rest:List Oper} {o:Oper} {a:Act} {W W':World} {Q:Exit→Act→World→Prop} (hgd:o.guard=none) (sl x:Operand) (t u:TypeId)
  (ho:o.op=.call { callee:=.builtin .append,args:=#[sl,x],argTypes:=#[t,u] }) {v vx v':Value} (hs:a.eval sl=v) (hx:a.eval x=vx)
  (hr:(Builtin.append_ #[t,u] o.type #[v,vx]).run P W=.ok v' W') (h:wpList P ops Q rest (a.put o.dst v') W'):wpList P ops Q (o::rest) a W:=by
 refine wpList_plain hgd fun K hK=>?_
 unfold Oper.wp execOp
 simp only [ho,resolve,invoke,builtin,Sem.run_bind,Sem.run_pure,Result.andThen_ok,List.map_toArray,List.map_cons,List.map_nil,hs,hx,hr]
 exact hK _ _ h
theorem zn6 (q:Nat) (p v:Value) (s:ByteArray) (w:World) (R:World→Value→World→Prop) (hp:p=.pointer none∨p=.pointer (some ⟨q,0,none⟩)) (hb:w.heap[q]?=some (.cells #[p,v] 103 (0,0))) (hne:v.ownBlock≠some q)
  (app:∀w1,Oth (fun k=>k=q) w w1→∃v' w2,(∃ao n c,v'=.slice ao n c)∧(Builtin.append_ #[43,9] 43 #[v,.string s]).run Tryz.prog w1=.ok v' w2∧w1.grownBy w2 v.ownBlock∧R w1 v' w2) :
  Calls Tryz.prog 88 #[.pointer (some ⟨q,0,none⟩),.string s] w fun e w'=>e=.returned (.tuple #[.int .i64 s.size,.nilIface])∧∃w1 v' w2,Oth (fun k=>k=q) w w1∧w1.grownBy w2 v.ownBlock∧w2.heap[q]?=some (.cells #[.pointer (some ⟨q,0,none⟩),v] 103 (0,0))∧R w1 v' w2∧w'=w2.setCell ⟨q,1,none⟩ v':=by
 have hlt:q<w.heap.size:=by
  rcases Nat.lt_or_ge q w.heap.size with h' | h'
  ·exact h'
  ·simp [Array.getElem?_eq_none h'] at hb
 have hchk:Calls Tryz.prog 111 #[.pointer (some ⟨q,0,none⟩)] w fun e w'=>e=.returned (.tuple #[])∧Oth (fun k=>k=q) w w'∧w'.heap[q]?=some (.cells #[.pointer (some ⟨q,0,none⟩),v] 103 (0,0)):=by
  rcases hp with rfl | rfl
  ·refine (zn5 q w (by rw [Lib.cell_of_heap hb];rfl) (by simp [World.shape?,hb]) (Lib.frozen_of_heap hb 0)).mono ?_
   rintro e w' ⟨rfl,rfl⟩
   refine ⟨rfl,⟨rfl,rfl,rfl,by simp [World.setCell],fun k _ hk=>Below.heap_setCell _ _ _ _ (fun e=>hk e)⟩,?_⟩
   simp [World.setCell,Array.getElem?_modify,hb]
  ·refine (zqD q w (by rw [Lib.cell_of_heap hb];rfl)).mono ?_
   rintro e w' ⟨rfl,rfl⟩
   exact ⟨rfl,Oth.refl _ _,hb⟩
 go_enter Tryz.func88,Tryz.ntmps88
 go_wp2_with (go_at_call 111;refine hchk.mono ?_)
 rintro e w1 ⟨rfl,hO,hbk⟩
 obtain ⟨v',w2,⟨ao,n',cap,rfl⟩,hrun,hgrow,hR⟩:=app w1 hO
 have c0:w1.cell? ⟨q,0,none⟩=some (.pointer (some ⟨q,0,none⟩)):=by rw [Lib.cell_of_heap hbk];rfl
 have c1:w1.cell? ⟨q,1,none⟩=some v:=by rw [Lib.cell_of_heap hbk];rfl
 have hb2:w2.heap[q]?=some (.cells #[.pointer (some ⟨q,0,none⟩),v] 103 (0,0)):=by
  rw [hgrow.block q (Nat.lt_of_lt_of_le hlt hO.size) (fun e=>hne e.symm)]
  exact hbk
 have d0:w2.cell? ⟨q,0,none⟩=some (.pointer (some ⟨q,0,none⟩)):=by rw [Lib.cell_of_heap hb2];rfl
 have d1:w2.cell? ⟨q,1,none⟩=some v:=by rw [Lib.cell_of_heap hb2];rfl
 have f1:w2.frozen? ⟨q,1,none⟩=false:=Lib.frozen_of_heap hb2 1
 go_wp2_with (at_builtin;refine znU rfl _ _ 43 9 rfl rfl rfl hrun ?_)
 go_ret2
 exact ⟨rfl,w1,_,w2,hO,hgrow,hb2,hR,rfl⟩
theorem zvo {K:Kit} {β:Loc} {W W':World} {g:Nat} {nb:Option Nat} {ln:Nat×Nat} (hg:Geo K β W) (hO:Below K.w0.heap.size W W') (hnew:∀q,nb=some q→β g=some q∨W.heap.size≤q) (hlt:∀q,nb=some q→q<W'.heap.size) :
  Geo K ⟨fun c=>if c=g then nb else β c,fun c=>if c=g then ln else β.len c,β.D⟩ W':=by
 have hb:∀c q,(if c=g then nb else β c)=some q→(c=g∧nb=some q)∨(c≠g∧β c=some q):=by
  intro c q h
  split at h
  ·exact .inl ⟨‹_›,h⟩
  ·exact .inr ⟨‹_›,h⟩
 refine ⟨fun c q hc=>?_,fun c d q hc hd=>?_,hg.bel.trans hO,fun c q hc hD=>?_,fun q hq=>Nat.lt_of_lt_of_le (hg.dlt q hq) hO.size⟩
 ·rcases hb c q hc with ⟨_,h⟩ | ⟨_,h⟩
  ·exact hlt q h
  ·exact Nat.lt_of_lt_of_le (hg.lt c q h) hO.size
 ·rcases hb c q hc with ⟨rfl,h⟩ | ⟨h0,h⟩
  ·rcases hb d q hd with ⟨rfl,k⟩ | ⟨k0,k⟩
   ·rfl
   ·rcases hnew q h with h | h
    ·exact absurd (hg.inj d c q k h) k0
    ·have:=hg.lt d q k;omega
  ·rcases hb d q hd with ⟨rfl,k⟩ | ⟨k0,k⟩
   ·rcases hnew q k with k | k
    ·exact absurd (hg.inj c d q h k) h0
    ·have:=hg.lt c q h;omega
   ·exact hg.inj c d q h k
 ·rcases hb c q hc with ⟨_,h⟩ | ⟨_,h⟩
  ·rcases hnew q h with h | h
   ·exact hg.dis g q h hD
   ·have:=hg.dlt q hD;omega
  ·exact hg.dis c q h hD
theorem zlT (s:List UInt8) (W:World) (D:Dat):okl (s.flatMap cB) (Lib.strCells ⟨s.toArray⟩) W D:=by
 show okl (s.flatMap cB) (s.map _) W D
 induction s with
 | nil=>trivial
 | cons b r ih=>exact ⟨rfl,ih⟩
theorem zlL (β:Loc) (g:Nat):(gv β g).ownBlock=β g:=by
 unfold gv
 split
 ·rename_i e;rw [e];rfl
 ·rename_i q e;rw [e];rfl
theorem zcZ {w0:World} {F:Fact} {b g n m:Nat} {x lx o:Lf} {bs s:List UInt8} (hx:x=.k (.pointer none)∨x=.p b 0) (hbg:b≠g) (hl:Gives F lx (.string ⟨s.toArray⟩)) (hn:F.g n=pG cB bs) (hm:F.g m=pG cB (bs++s)) (ho:Gives F o (.int .i64 (s.length:Int))) (hlen:bs.length+s.length≤1099511627776) :
  Con.sound (KN w0) Tryz.prog F ⟨88,[.o (.c (.p b 0)),.o (.c lx)],[.bx b 103 [x,.gr g],.gl g 5 1 n],.t [.c o,.c (.k .nilIface)],[.bx b 103 [.p b 0,.gr g],.gl g 5 1 m]⟩:=by
 refine ⟨rfl,fun β W vs hs hpre hg=>?_⟩
 match vs,hs with
 | [v1,v2],⟨h1,h2,_⟩ =>
  obtain ⟨q,hq,rfl⟩:=h1
  have e2:v2=.string ⟨s.toArray⟩:=(hl β v2 W).1 h2
  subst e2
  have hmls:=zo1 hg hpre rfl
  obtain ⟨q',us,hq',hh,hoks,hck,hbt,hge⟩:=hpre _ (List.mem_cons_self ..)
  obtain ⟨xs,hown,hgn,hml⟩:=hpre _ (List.mem_cons_of_mem _ (List.mem_cons_self ..))
  have e:q'=q:=Option.some.inj (hq'.symm.trans hq)
  subst e
  have hqlt:=hg.lt b q' hq
  obtain ⟨p,rfl,hp⟩:∃p,us=#[p,gv β g]∧(p=.pointer none∨p=.pointer (some ⟨q',0,none⟩)):=by
   match hu:us.toList,hoks with
   | [p,v],hk =>
    have ev:v=gv β g:=hk.2.1
    refine ⟨p,by rw [← ev,← hu],?_⟩
    rcases hx with rfl | rfl
    ·exact .inl hk.1
    ·obtain ⟨r,hr,e⟩:=hk.1
     rw [hq'] at hr
     injection hr with hr
     subst hr
     exact .inr e
   | [],hk=>exact hk.elim
   | [_],hk=>exact hk.2.elim
   | _::_::_::_,hk=>exact hk.2.2.elim
  rw [hn] at hgn
  have hxl:xs.length=bs.length:=by rw [zaa hgn,zbR zc9,Nat.mul_one]
  have hne:(gv β g).ownBlock≠some q':=fun e=>hbg (hg.inj b g q' hq (by rw [zlL] at e;exact e))
  obtain ⟨i0,hi,hz0,hz1,hz2⟩:=info_parts zoa
  have hsz:(⟨s.toArray⟩:ByteArray).size=s.length:=by simp [ByteArray.size]
  refine (zn6 q' p (gv β g) ⟨s.toArray⟩ W (fun w1 v' w2=>w2.ownsRow w0.heap.size 5 1 v' (glen β g+s.length) (xs++Lib.strCells ⟨s.toArray⟩)∧∀r,v'.ownBlock=some r→(β g=some r∨W.heap.size≤r)∧∃o,w2.heap[r]?=some o∧ml (KN w0) o=true) hp hh hne (fun w1 hO=>?_)).mono ?_
  ·have hown1:w1.ownsRow w0.heap.size 5 1 (gv β g) (glen β g) xs:=hown.kept (row:=some q') ⟨hO.os,hO.tape,hO.output,hO.size,fun k hk hne=>hO.block k hk fun e=>hne (by rw [e])⟩ (Or.inr hne)
   have hml1:∀r,(gv β g).ownBlock=some r→∃o,w1.heap[r]?=some o∧ml (KN w0) o=true:=fun r hr=>by
    have hr2:β g=some r:=by rw [zlL] at hr;exact hr
    obtain ⟨o,h3,h4⟩:=hml r hr2
    exact ⟨o,by rw [hO.block r (hg.lt g r hr2) (fun e=>hne (by rw [hr,e]))];exact h3,h4⟩
   obtain ⟨v',W2,hrun,ho2,hgb,hblk⟩:=zmm (K:=KN w0) (ty:=43) ⟨s.toArray⟩ Tryz.underlying43 Tryz.underlying9 hi hz0 hz1 hz2 rfl (by kernel_rfl) hown1 (Nat.le_trans hg.bel.size hO.size) (by rw [hxl,hsz];exact hlen) hml1
   rw [hsz] at ho2
   refine ⟨v',W2,?_,hrun,hgb,ho2,fun r hr=>?_⟩
   ·rcases ho2.2 with ⟨rfl,_⟩ | ⟨_,_,_,rfl,_⟩
    ·exact ⟨_,_,_,rfl⟩
    ·exact ⟨_,_,_,rfl⟩
   ·obtain ⟨h3,h4⟩:=hblk r hr
    rw [zlL] at h3
    exact ⟨h3.imp_right fun h=>Nat.le_trans hO.size h,h4⟩
  ·rintro e W' ⟨rfl,w1,v',w2,hO,hgrow,hb2,⟨ho2,hblk⟩,rfl⟩
   have hne2:v'.ownBlock≠some q':=fun e=>by
    rcases (hblk q' e).1 with h | h
    ·exact hbg (hg.inj b g q' hq h)
    ·omega
   have hOth:Oth (fun k=>∃c∈[b,g],β c=some k) W (w2.setCell ⟨q',1,none⟩ v'):=by
    refine ⟨hgrow.os.trans hO.os,hgrow.tape.trans hO.tape,hgrow.output.trans hO.output,?_,fun k hk hS=>?_⟩
    ·have:=hgrow.size
     have:=hO.size
     simp only [World.setCell,Array.size_modify]
     omega
    ·have hkq:k≠q':=fun e=>hS ⟨b,by simp,by rw [e];exact hq⟩
     have hkg:(gv β g).ownBlock≠some k:=fun e=>hS ⟨g,by simp,by rw [zlL] at e;exact e⟩
     rw [Below.heap_setCell _ _ _ _ hkq,hgrow.block k (Nat.lt_of_lt_of_le hk hO.size) (fun e=>hkg e.symm),hO.block k hk hkq]
   have hW':(w2.setCell ⟨q',1,none⟩ v').heap[q']?=some (.cells #[.pointer (some ⟨q',0,none⟩),v'] 103 (0,0)):=by
    simp [World.setCell,Array.getElem?_modify,hb2]
   have hgrow2:w2.grownBy (w2.setCell ⟨q',1,none⟩ v') (some q'):=⟨rfl,rfl,rfl,by simp [World.setCell],fun k _ hk=>Below.heap_setCell _ _ _ _ (fun e=>hk (by simp [e]))⟩
   have ho3:(w2.setCell ⟨q',1,none⟩ v').ownsRow w0.heap.size 5 1 v' (glen β g+s.length) (xs++Lib.strCells ⟨s.toArray⟩):=ho2.kept (row:=some q') hgrow2 (Or.inr hne2)
   obtain ⟨cap,hcap⟩:∃cap,(v'=.slice none 0 0∧glen β g+s.length=0)∨∃r,v'=.slice (some ⟨r,0,none⟩) (glen β g+s.length) cap:=by
    rcases ho3.2 with ⟨e1,e2⟩ | ⟨r,cp,cur,e1,_⟩
    ·exact ⟨0,.inl ⟨e1,e2⟩⟩
    ·exact ⟨cp,.inr ⟨r,e1⟩⟩
   let β':Loc:=⟨fun c=>if c=g then v'.ownBlock else β c,fun c=>if c=g then (glen β g+s.length,cap) else β.len c,β.D⟩
   have hbb:β' g=v'.ownBlock:=if_pos rfl
   have hlb:β'.len g=(glen β g+s.length,cap):=if_pos rfl
   have hsm:∀c,c≠g→β.same β' c:=fun c hc=>⟨if_neg hc,if_neg hc⟩
   have hgv:gv β' g=v'∧glen β' g=glen β g+s.length:=by
    unfold gv glen
    rw [hbb,hlb]
    rcases hcap with ⟨rfl,e2⟩ | ⟨r,rfl⟩
    ·exact ⟨rfl,e2.symm⟩
    ·exact ⟨rfl,rfl⟩
   have hgeo:Geo (KN w0) β' (w2.setCell ⟨q',1,none⟩ v'):=zvo hg (hOth.ofOth (fun k hk=>(hmls k hk).1) hg.bel.size) (fun r hr=>(hblk r hr).1) (fun r hr=>(ho3.lt r hr).2)
   refine ⟨_,β',rfl,⟨⟨_,rfl,?_,rfl,trivial⟩,hOth,fun y hy=>?_,fun c hc=>hsm c fun e=>hc (by rw [e];exact List.mem_cons_self ..),fun _ h=>h,fun _ h=>.inl h,fun c hc r hr=>?_,hgeo⟩⟩
   ·show o.ok F β' _ _
    refine (ho β' _ _).2 ?_
    rw [hsz]
   ·simp only [List.mem_cons,List.not_mem_nil,or_false] at hy
    rcases hy with rfl | rfl
    ·refine ⟨q',_,(hsm b hbg).1.trans hq,hW',⟨⟨q',(hsm b hbg).1.trans hq,rfl⟩,hgv.1.symm,trivial⟩,?_,hbt,hge⟩
     rw [← hgv.1]
     simp only [List.all_cons,List.all_nil,Bool.and_true,Bool.and_eq_true]
     refine ⟨rfl,?_⟩
     unfold gv
     split<;>rfl
    ·refine ⟨xs++Lib.strCells ⟨s.toArray⟩,?_,?_,fun r hr=>?_⟩
     ·rw [hgv.1,hgv.2];exact ho3
     ·rw [hm]
      show okl ((bs++s).flatMap cB) _ _ _
      rw [List.flatMap_append]
      exact zbA (zd6 (S:=fun k=>∃c∈[b,g],β c=some k) hmls hOth (fun _ h=>h) (zc3 (zE rfl) bs) hgn) (zlT s _ _)
     ·rw [hbb] at hr
      obtain ⟨o,h3,h4⟩:=(hblk r hr).2
      exact ⟨o,by rw [Below.heap_setCell _ _ _ _ (fun e=>hne2 (by rw [hr];exact congrArg some e))];exact h3,h4⟩
   ·have hc':c=g:=by simpa [qY] using hc
    subst hc'
    rw [hbb] at hr
    exact (hblk r hr).1
 | [],hs=>exact hs.elim
 | [_],hs=>exact hs.2.elim
 | _::_::_::_,hs=>exact hs.2.2.elim
theorem zmL (w:World) (g n:Nat):Oth (fun k=>k=g) w (w.freeze ⟨g,0,none⟩ n):=by
 unfold World.freeze
 split
 ·exact Oth.refl _ w
 ·exact ⟨rfl,rfl,rfl,by simp,fun k hk hne=>by
   simp only [Array.getElem?_modify]
   rw [if_neg (fun e=>hne e.symm)]⟩
theorem ztj (q g cap:Nat) (p:Value) (cur:Array Value) (l:List UInt8) (w:World) (h0:l≠[]) (hb:w.heap[q]?=some (.cells #[p,.slice (some ⟨g,0,none⟩) l.length cap] 103 (0,0))) (hg:w.heap[g]?=some (.cells cur 5 (0,0))) (hnc:l.length≤cap) (hcm:cap≤maxLen) (hcs:cur.size=cap) (htake:cur.toList.take l.length=Lib.byteCells l) :
  Calls Tryz.prog 89 #[.pointer (some ⟨q,0,none⟩)] w fun e w'=>e=.returned (.string ⟨l.toArray⟩)∧Oth (fun k=>k=g) w w':=by
 have hl0:l.length≠0:=by simpa using h0
 have c1:w.drew.cell? ⟨q,1,none⟩=some (.slice (some ⟨g,0,none⟩) l.length cap):=by
  have:w.drew.heap[q]?=some (.cells #[p,.slice (some ⟨g,0,none⟩) l.length cap] 103 (0,0)):=hb
  rw [Lib.cell_of_heap this];rfl
 have hSD:(Builtin.unsafeSliceData_ #[43] 135 #[.slice (some ⟨g,0,none⟩) l.length cap]).run Tryz.prog w.drew=.ok (.pointer (some ⟨g,0,none⟩)) w.drew:=
  Lib.run_unsafeSliceData_row _ _ _ _ _ _ (by omega)
 have hUS:(Builtin.unsafeString_ #[135,3] 9 #[.pointer (some ⟨g,0,none⟩),.int .i64 l.length]).run Tryz.prog w.drew=.ok (.string ⟨l.toArray⟩) (w.drew.freeze ⟨g,0,none⟩ l.length):=by
  refine Lib.run_unsafeString_row w.drew 135 3 9 5 Tryz.underlying135 (by kernel_rfl) g cur.size (by have hg':w.drew.heap[g]?=some (.cells cur 5 (0,0)):=hg;simp [World.shape?,hg']) l h0 (by omega) (by unfold maxLen at hcm;omega) ?_
  intro j x hx
  have hg':w.drew.heap[g]?=some (.cells cur 5 (0,0)):=hg
  have h1:(Lib.byteCells l)[j]?=some (.int .u8 x.toNat):=by simp [Lib.byteCells,hx]
  rw [← htake,List.getElem?_take_of_lt (List.getElem?_eq_some_iff.1 hx).1] at h1
  rw [show (⟨g,0,none⟩:Addr).add j=⟨g,0+j,none⟩ from zbr ..,Nat.zero_add,zao hg']
  simpa using h1
 have hO:Oth (fun k=>k=g) w (w.drew.freeze ⟨g,0,none⟩ l.length):=(Oth.drew _ w).trans (zmL w.drew g l.length) (fun _ h _=>h)
 have hmx:Tryz.prog.follows .mixedOrders=true:=by kernel_rfl
 go_enter Tryz.func89,Tryz.ntmps89
 go_wp2
 go_region_o
 all_goals (go_wp2;go_ret;exact ⟨rfl,hO⟩)
theorem zfO {w0:World} {F:Fact} {b g n:Nat} {x o:Lf} {bs:List UInt8} (hbg:b≠g) (hn:F.g n=pG cB bs) (h0:bs≠[]) (ho:Gives F o (.string ⟨bs.toArray⟩)) :
  Con.sound (KN w0) Tryz.prog F ⟨89,[.o (.c (.p b 0))],[.bx b 103 [x,.gr g],.gl g 5 1 n],.o (.c o),[]⟩:=by
 refine ⟨rfl,fun β W vs hs hpre hg=>?_⟩
 match vs,hs with
 | [v1],⟨h1,_⟩ =>
  obtain ⟨q,hq,rfl⟩:=h1
  have hmls:=zo1 hg hpre rfl
  obtain ⟨q',us,hq',hh,hoks,hck,hbt,hge⟩:=hpre _ (List.mem_cons_self ..)
  have hgl:=hpre _ (List.mem_cons_of_mem _ (List.mem_cons_self ..))
  have hmx:∀g' m cap cur,gv β g=.slice (some ⟨g',0,none⟩) m cap→W.heap[g']?=some (.cells cur 5 (0,0))→cap≤maxLen∧cur.size=cap:=by
   intro g' m cap cur e1 e2
   obtain ⟨xs,hown,_,_⟩:=hgl
   rcases hown.2 with ⟨e3,_⟩ | ⟨r,cp,cr,e3,_,h5,_,h7,h8,_⟩
   ·rw [e1] at e3;cases e3
   ·rw [e1] at e3
    simp only [Value.slice.injEq,Option.some.injEq,Addr.mk.injEq] at e3
    obtain ⟨⟨rfl,_⟩,rfl,rfl⟩:=e3
    rw [e2] at h5
    injection h5 with h5
    injection h5 with h5
    subst h5
    exact ⟨h7,by simpa using h8⟩
  obtain ⟨cap,hcase⟩:=zlK zc9 (by decide) hn hgl
  have e:q'=q:=Option.some.inj (hq'.symm.trans hq)
  subst e
  rcases hcase with ⟨_,_,rfl⟩ | ⟨g',cur,hbg',hgv,hcu,hnc,hok⟩
  ·exact absurd rfl h0
  ·obtain ⟨p,rfl⟩:∃p,us=#[p,gv β g]:=by
    match hu:us.toList,hoks with
    | [p,v],hk =>
     have ev:v=gv β g:=hk.2.1
     exact ⟨p,by rw [← ev,← hu]⟩
    | [],hk=>exact hk.elim
    | [_],hk=>exact hk.2.elim
    | _::_::_::_,hk=>exact hk.2.2.elim
   rw [hgv] at hh
   obtain ⟨hcm,hcs⟩:=hmx _ _ _ _ hgv hcu
   rw [Nat.mul_one] at hok
   refine (ztj q' g' cap p cur bs W h0 hh hcu hnc hcm hcs (zcd hok)).mono ?_
   rintro e W' ⟨rfl,hO⟩
   have hO2:Oth (fun k=>∃c∈[b,g],β c=some k) W W':=hO.mono fun k hk=>⟨g,by simp,by rw [hk];exact hbg'⟩
   refine ⟨_,β,rfl,⟨?_,hO2,fun y hy=>(by cases hy),fun c _=>Loc.same.rfl,fun _ h=>h,fun _ h=>.inl h,fun c _ r hr=>.inl hr,⟨fun c r hc=>Nat.lt_of_lt_of_le (hg.lt c r hc) hO.size,hg.inj,hg.bel.trans (hO2.ofOth (fun k hk=>(hmls k hk).1) hg.bel.size),hg.dis,fun r hr=>Nat.lt_of_lt_of_le (hg.dlt r hr) hO.size⟩⟩⟩
   exact (ho β _ _).2 rfl
 | [],hs=>exact hs.elim
 | _::_::_,hs=>exact hs.2.elim
end Go.Proofs.YtjcegdldgjphiaaGreatDoor
namespace Go.Proofs.YtjcegdldgjphiaaGreatDoor
open Go.RowKit Go.Shelf
theorem zgV {α:Type} {f:α→List UInt8} {k:Nat}:∀{l:List α},(∀x∈l,(f x).length≤k)→(l.flatMap f).length≤k*l.length
 | [],_=>by simp
 | x::l,h=>by
  have h1:=h x (List.mem_cons_self ..)
  have h2:=zgV (l:=l) fun y hy=>h y (List.mem_cons_of_mem _ hy)
  rw [List.flatMap_cons,List.length_append,List.length_cons,Nat.mul_add,Nat.mul_one];omega
theorem zc5 {α:Type} {f:α→List UInt8} {l:List α} {n:Nat} {x:α} (h:l[n]?=some x):(l.take (n+1)).flatMap f=(l.take n).flatMap f++f x:=by
 rw [List.take_add_one,h,List.flatMap_append];simp
theorem zcR {n:Nat} (h:n≤1000000):InI (n:Int):=by unfold InI;omega
theorem zmi {α:Type} {f:α→List UInt8} {k n:Nat} {l:List α} {o:List UInt8} (hl:l.length≤1000000) (hf:∀x∈l,(f x).length≤k) (ho:o=encI (l.length:Int)++(l.take n).flatMap f):o.length≤10+k*1000000:=by
 have h1:=zv (zcR hl)
 have h2:=zgV (f:=f) (k:=k) (l:=l.take n) fun x hx=>hf x (List.mem_of_mem_take hx)
 have h3:(l.take n).length≤1000000:=by rw [List.length_take];omega
 have h4:k*(l.take n).length≤k*1000000:=Nat.mul_le_mul_left _ h3
 rw [ho,List.length_append];omega
theorem zgK {α:Type} (f:α→List UInt8) (l:List α):encL f l≠[]:=by
 unfold encL
 intro h
 exact zgJ _ (List.append_eq_nil_iff.1 h).1
structure w_alli_l_T where
 i:Int
 o:(List UInt8)
def qK:List Atom:=[.sl 0 (yh 0),.sl 1 (.o (.c (.q 12 []))),.sl 4 (.o (.c (.k (.string ⟨#[]⟩)))),.sl 5 (.o (.c (.p 1 0))),.sl 8 (yh 0),.sl 9 (yh 1),.sl 10 (yh 2),.sl 12 (yh 0),.sl 13 (yh 4),.sl 14 (yh 5),.bx 1 103 [.p 1 0,.gr 901],.gl 901 5 1 2]
def zaX:LoopS:=⟨4,[.sl 0 (yh 0),.sl 1 (.o (.c (.q 12 []))),.sl 4 (.o (.c (.k (.string ⟨#[]⟩)))),.sl 5 (.o (.c (.p 1 0))),.sl 8 (yh 0),.sl 9 (yh 1),.sl 10 (yh 2),.sl 12 (yh 0),.sl 13 (yh 4),.sl 14 (.o (.c (.k (.int .i64 0)))),.bx 1 103 [.p 1 0,.gr 901],.gl 901 5 1 1],(.x 0),[.sl 0 (yh 0),.sl 1 (.o (.c (.q 12 []))),.sl 4 (.o (.c (.k (.string ⟨#[]⟩)))),.sl 5 (.o (.c (.p 1 0))),.sl 8 (yh 0),.sl 9 (yh 1),.sl 10 (yh 2),.sl 12 (yh 0),.sl 13 (yh 4),.bx 1 103 [.p 1 0,.gr 901],.gl 901 5 1 2]⟩
abbrev zxB:List (Nat×Ent):=(1005000,.bin .lss 3 (yh 5) (yh 4) (yh 6))::[]
abbrev zyy:List (Nat×Ent):=(10006,.fb 6 true)::(1005001,.op (.ia 22) [yh 0,yh 5] [] (yh 7))::(1005002,.op (.ld 3) [yh 7] [] (yh 8))::(1005006,.call ⟨12,[yh 8],[],yh 9,[]⟩)::(1005007,.call ⟨88,[.o (.c (.p 1 0)),yh 9],[.bx 1 103 [.p 1 0,.gr 901],.gl 901 5 1 2],.t [.c (.h 10),.c (.k .nilIface)],[.bx 1 103 [.p 1 0,.gr 901],.gl 901 5 1 3]⟩)::(1005008,.bin .add 3 (yh 5) (LF (.k (.int .i64 1))) (yh 11))::zxB
abbrev zyz:List (Nat×Ent):=(10006,.fb 6 false)::zxB
theorem zkL {w0:World} (l:(List Int)) (v1:Int) (v2:(List UInt8)) (v4:(List UInt8)) (v6:Int) (v7:Int) (o2:(List UInt8)) {F:Fact} (u0:F.c 0=pLs cI l) (u1:F.c 1=pI v1) (u2:F.c 2=pS v2) (u4:F.c 4=pI v7) (ug1:F.g 1=pG cB v4) (ug2:F.g 2=pG cB o2) (R:Frm) (hR:R.pm=⟨ntOf Tryz.prog 62,[],[]⟩) (h7:(l.length:Int)=v7) (h4:v4=encI (l.length:Int)) (hok:∀x∈l,InI x) (hl:l.length≤1000000) (hO:encL encI l=o2):zj (KN w0) Tryz.prog F R zaX (lp Tryz.prog 62 0):=by
 refine zG (T:=w_alli_l_T) (fun t=>FL [pLs cI l,pI v1,pS v2,pI v6,pI v7,pI t.i] [pG cB ([]:List UInt8),pG cB v4,pG cB t.o]) (fun ⟨i,o⟩=>∃n:Nat,i=(n:Int)∧n≤l.length∧o=encI (l.length:Int)++(l.take n).flatMap encI) (fun ⟨i,o⟩=>((l.length:Int) - i).toNat) { i:=(0:Int),o:=v4 } qK ⟨0,rfl,Nat.zero_le _,by rw [h4];simp⟩ (LZ ⟨z_c (LU u0),z_c yy,z_c yy,z_c yy,z_c (LU u0),z_c (LU u1),z_c (LU u2),z_c (LU u0),z_c (LU u4),z_c yy,z_b ⟨yy,yy,trivial⟩,z_gq ug1 rfl,trivial⟩) rfl fun t hJ=>?_
 obtain ⟨i,o⟩:=t
 dsimp only at hJ
 obtain ⟨n,hi,hn,ho⟩:=hJ
 have hob:=zmi (k:=10) hl (fun x hx=>zv (hok x hx)) ho
 obtain ⟨v501,e501⟩:=LX (decide (i<v7))
 let A1:List Pred→List Pred:=fun t=>pLs cI l::pI v1::pS v2::pI v6::pI v7::pI i::pB v501::t
 have f1:LA (KN w0) A1:=fun t h=>⟨(zi zl),zc,zc,zc,zc,zc,zc,h⟩
 let G1:List LPred→List LPred:=fun t=>pG cB ([]:List UInt8)::pG cB v4::pG cB o::t
 have g1:LG (KN w0) G1:=fun t h=>⟨(zy (zE rfl)),(zy (zE rfl)),(zy (zE rfl)),h⟩
 have T1:LH (KN w0) Tryz.prog A1 G1 zxB:=fun t u=>⟨e_bin (za rfl) (za rfl) (za rfl) (r_cmp (LO e501)),trivial⟩
 cases h502:v501 with
 | true =>
  obtain ⟨n503,x504,s505,s506⟩:∃(n503:Nat) (x504:Int),i=(n503:Int)∧l[n503]?=some x504:=by (have d:=LD e501 h502;have hlt:n<l.length:=(by omega);exact ⟨n,l[n],hi,List.getElem?_eq_getElem hlt⟩)
  obtain ⟨v507,e507⟩:=LX (encI x504)
  have s508:InI x504:=by exact hok _ (List.mem_of_getElem? s506)
  obtain ⟨v509,e509⟩:=LX (o++v507)
  have s510:o.length+(v507:List UInt8).length≤1099511627776:=by (have q:=zv (hok _ (List.mem_of_getElem? s506));rw [e507] at q;omega)
  obtain ⟨v511,e511⟩:=LX (((v507:List UInt8).length:Int))
  obtain ⟨v512,e512⟩:=LX (IntKind.i64.wrap (i+(1:Int)))
  let A2:=fun t=>A1 (pP (cI x504)::pI x504::pS v507::pI v511::pI v512::t)
  have f2:LA (KN w0) A2:=fun t h=>f1 _ ⟨(qw (zl _)),zc,zc,zc,zc,h⟩
  let G2:=fun t=>G1 (pG cB v509::t)
  have g2:LG (KN w0) G2:=fun t h=>g1 _ ⟨(zy (zE rfl)),h⟩
  have T2:LH (KN w0) Tryz.prog A2 G2 zyy:=fun t u=>⟨e_fbv h502,e_iaL (E:=3) (z:=1) (fun _=>rfl) (by kernel_rfl) (by kernel_rfl) (zd rfl) (za rfl) s505 s506 (zd rfl),e_ldP (by kernel_rfl) (zd rfl) (zd rfl),zh (w_int x504 v507 e507 s508),zcZ (bs:=o) (s:=v507) (.inr rfl) (by decide) (za rfl) rfl (by rw [e509];rfl) (za (by rw [e511];rfl)) s510,e_bin (za rfl) ze (za rfl) (r_ar (LO e512)),T1 _ _⟩
  refine .inr ⟨⟨v512,v509⟩,?_,?_,goes (x:=.n) (y:=.n) (Fb:=FL (A2 []) (G2 [])) (stb:=qK) (tl:=[.sl 0 (yh 0),.sl 1 (.o (.c (.q 12 []))),.sl 4 (.o (.c (.k (.string ⟨#[]⟩)))),.sl 5 (.o (.c (.p 1 0))),.sl 8 (yh 0),.sl 9 (yh 1),.sl 10 (yh 2),.sl 12 (yh 0),.sl 13 (yh 4),.sl 14 (yh 11),.bx 1 103 [.p 1 0,.gr 901],.gl 901 5 1 3]) (C:=zyy) (H:=.no) 5000 (LZ ⟨z_c yy,z_c yy,z_c yy,z_c yy,z_c yy,z_c yy,z_c yy,z_c yy,z_c yy,z_c yy,z_b ⟨yy,yy,trivial⟩,z_gl (fun _ _ _ h=>h),trivial⟩) (zg (f2 [] trivial) (g2 [] trivial)) (T2 [] []) mixed hR trivial (fun _ _ _ hs=>by cases hs) (by kernel_rfl) rfl (LZ ⟨z_c yy,z_c yy,z_c yy,z_c yy,z_c yy,z_c yy,z_c yy,z_c yy,z_c yy,z_c (fun β v W h=>(zd rfl β v W).2 h),z_b ⟨yy,yy,trivial⟩,z_gq rfl rfl,trivial⟩)⟩
  all_goals (have d:=LD e501 h502;have x4:v512=((n503+1:Nat):Int):=(by rw [← e512,s505,wri (by omega)];omega);have hnn:n503=n:=(by omega);subst hnn)
  ·show ((l.length:Int) - v512).toNat<((l.length:Int) - i).toNat
   omega
  ·exact ⟨n503+1,x4,by omega,by rw [← e509,ho,zc5 s506,e507,List.append_assoc]⟩
 | false =>
  have T3:LH (KN w0) Tryz.prog A1 G1 zyz:=fun t u=>⟨e_fbv h502,T1 _ _⟩
  have hq:((o)=o2)∧True:=by
   refine ⟨?_,trivial⟩
   (have d:=LE e501 h502;have hnn:n=l.length:=(by omega);rw [ho,← hO,hnn,List.take_length];rfl)
  obtain ⟨q0,-⟩:=hq
  exact .inl (goes (x:=(.x 0)) (y:=(.x 0)) (Fb:=FL (A1 []) (G1 [])) (stb:=qK) (tl:=[.sl 0 (yh 0),.sl 1 (.o (.c (.q 12 []))),.sl 4 (.o (.c (.k (.string ⟨#[]⟩)))),.sl 5 (.o (.c (.p 1 0))),.sl 8 (yh 0),.sl 9 (yh 1),.sl 10 (yh 2),.sl 12 (yh 0),.sl 13 (yh 4),.bx 1 103 [.p 1 0,.gr 901],.gl 901 5 1 2]) (C:=zyz) (H:=.no) 5000 (LZ ⟨z_c yy,z_c yy,z_c yy,z_c yy,z_c yy,z_c yy,z_c yy,z_c yy,z_c yy,z_c yy,z_b ⟨yy,yy,trivial⟩,z_gl (fun _ _ _ h=>h),trivial⟩) (zg (f1 [] trivial) (g1 [] trivial)) (T3 [] []) mixed hR trivial (fun _ _ _ hs=>by cases hs) (by kernel_rfl) rfl (LZ ⟨z_c (LV u0),z_c yy,z_c yy,z_c yy,z_c (LV u0),z_c (LV u1),z_c (LV u2),z_c (LV u0),z_c (LV u4),z_b ⟨yy,yy,trivial⟩,z_gq rfl (by rw [ug2,← q0];rfl),trivial⟩))
abbrev zzC:List (Nat×Ent):=(1000003,.op (.len [22] 3) [yh 0] [] (yh 1))::(1000004,.call ⟨12,[yh 1],[],yh 2,[]⟩)::(1000005,.call ⟨88,[.o (.c (.p 1 0)),yh 2],[.bx 1 103 [.k (.pointer none),.gr 901],.gl 901 5 1 0],.t [.c (.h 3),.c (.k .nilIface)],[.bx 1 103 [.p 1 0,.gr 901],.gl 901 5 1 1]⟩)::(1000007,.op (.len [22] 3) [yh 0] [] (yh 4))::(1001009,.call ⟨89,[.o (.c (.p 1 0))],[.bx 1 103 [.p 1 0,.gr 901],.gl 901 5 1 2],yh 5,[]⟩)::[]
theorem zwc {w0:World} (l:List Int) (r:List UInt8) (hr:encL encI l=r) (hok:∀x∈l,InI x) (hl:l.length≤1000000):Fun (KN w0) Tryz.prog 62 [.o (.c (pLs cI l)),.o (.c ((fun v _ _=>∃cs:Array Value,v=.func (.func 12) #[] cs∧cs.toList=[])))] (.o (.c (pS r))):=by
 obtain ⟨v1,e1⟩:=LX ((l.length:Int))
 obtain ⟨v2,e2⟩:=LX (encI v1)
 have s3:InI v1:=by (subst_vars;exact zcR hl)
 obtain ⟨v4,e4⟩:=LX (([]:List UInt8)++v2)
 have s5:([]:List UInt8).length+(v2:List UInt8).length≤1099511627776:=by (subst_vars;have q:=zv (zcR hl);simp only [List.length_nil];omega)
 obtain ⟨v6,e6⟩:=LX (((v2:List UInt8).length:Int))
 obtain ⟨v7,e7⟩:=LX ((l.length:Int))
 obtain ⟨o2,hO_w_alli_l⟩:∃(o2:(List UInt8)),encL encI l=o2:=⟨_,rfl⟩
 have s8:o2≠[]:=by (have q:=zgK (encI) l;simp_all)
 obtain ⟨v9,e9⟩:=LX (o2)
 let A1:List Pred→List Pred:=fun t=>pLs cI l::pI v1::pS v2::pI v6::pI v7::pS v9::t
 have f1:LA (KN w0) A1:=fun t h=>⟨(zi zl),zc,zc,zc,zc,zc,h⟩
 let G1:List LPred→List LPred:=fun t=>pG cB ([]:List UInt8)::pG cB v4::pG cB o2::t
 have g1:LG (KN w0) G1:=fun t h=>⟨(zy (zE rfl)),(zy (zE rfl)),(zy (zE rfl)),h⟩
 have T1:LH (KN w0) Tryz.prog A1 G1 zzC:=fun t u=>⟨zH (E:=3) (by kernel_rfl) (zd rfl) (za (by rw [e1];rfl)),zh (w_int v1 v2 e2 s3),zcZ (bs:=([]:List UInt8)) (s:=v2) (.inl rfl) (by decide) (za rfl) rfl (by rw [e4];rfl) (za (by rw [e6];rfl)) s5,zH (E:=3) (by kernel_rfl) (zd rfl) (za (by rw [e7];rfl)),zfO (bs:=o2) (by decide) rfl s8 (za (by rw [e9];rfl)),trivial⟩
 have L_w_alli_l:∀R:Frm,R.pm=⟨ntOf Tryz.prog 62,[],[]⟩→zj (KN w0) Tryz.prog (FL (A1 []) (G1 [])) R zaX (lp Tryz.prog 62 0):=fun R hR=>zkL l v1 v2 v4 v6 v7  o2 rfl rfl rfl rfl rfl rfl R hR e7 (by rw [← e4,← e2,← e1];rfl) hok hl hO_w_alli_l
 refine Fun.fin (r:=.o (.c (pS v9))) (zq (zN (F:=FL (A1 []) (G1 [])) (C:=zzC) (k:=⟨62,[yh 0,.o (.c (.q 12 []))],[],yh 5,[]⟩) ⟨[zaX],[⟨1,[.bx 1 103 [.k (.pointer none),.k (.slice none 0 0)],.gn 901],[.bx 1 103 [.k (.pointer none),.gr 901],.gl 901 5 1 0],[]⟩],0⟩ [901] 0 (zg (f1 [] trivial) (g1 [] trivial)) (T1 [] []) mixed ⟨zif (c:=cB) rfl,trivial⟩ (fun R hR p hp s hs=>by
  have hl:zD (zR Tryz.prog 62)=[(4,lp Tryz.prog 62 0)]:=by kernel_rfl
  rw [hl] at hp
  simp only [List.mem_cons,List.not_mem_nil,or_false] at hp
  rcases hp with rfl
  ·have e:s=zaX:=(Option.some.inj hs).symm
   subst e;exact L_w_alli_l R hR) (by kernel_rfl))) (fun v W D h=>?_)
 have r0:r=v9:=by
  rw [← hr,hO_w_alli_l,e9]
 rw [r0];exact h
structure w_allp_l_T where
 i:Int
 o:(List UInt8)
def qL:List Atom:=[.sl 0 (yh 0),.sl 1 (.o (.c (.q 64 []))),.sl 4 (.o (.c (.k (.string ⟨#[]⟩)))),.sl 5 (.o (.c (.p 1 0))),.sl 8 (yh 0),.sl 9 (yh 1),.sl 10 (yh 2),.sl 12 (yh 0),.sl 13 (yh 4),.sl 14 (yh 5),.bx 1 103 [.p 1 0,.gr 901],.gl 901 5 1 2]
def zaY:LoopS:=⟨4,[.sl 0 (yh 0),.sl 1 (.o (.c (.q 64 []))),.sl 4 (.o (.c (.k (.string ⟨#[]⟩)))),.sl 5 (.o (.c (.p 1 0))),.sl 8 (yh 0),.sl 9 (yh 1),.sl 10 (yh 2),.sl 12 (yh 0),.sl 13 (yh 4),.sl 14 (.o (.c (.k (.int .i64 0)))),.bx 1 103 [.p 1 0,.gr 901],.gl 901 5 1 1],(.x 0),[.sl 0 (yh 0),.sl 1 (.o (.c (.q 64 []))),.sl 4 (.o (.c (.k (.string ⟨#[]⟩)))),.sl 5 (.o (.c (.p 1 0))),.sl 8 (yh 0),.sl 9 (yh 1),.sl 10 (yh 2),.sl 12 (yh 0),.sl 13 (yh 4),.bx 1 103 [.p 1 0,.gr 901],.gl 901 5 1 2]⟩
abbrev zxC:List (Nat×Ent):=(1005000,.bin .lss 3 (yh 5) (yh 4) (yh 6))::[]
abbrev zyA:List (Nat×Ent):=(10006,.fb 6 true)::(1005001,.op (.ia 25) [yh 0,yh 5] [] (yh 7))::(1005002,.op (.ld 69) [yh 7] [] (.o (.g [.h 8,.h 9,.h 10,.h 11])))::(1005007,.call ⟨64,[.o (.g [.h 8,.h 9,.h 10,.h 11])],[],yh 12,[]⟩)::(1005008,.call ⟨88,[.o (.c (.p 1 0)),yh 12],[.bx 1 103 [.p 1 0,.gr 901],.gl 901 5 1 2],.t [.c (.h 13),.c (.k .nilIface)],[.bx 1 103 [.p 1 0,.gr 901],.gl 901 5 1 3]⟩)::(1005009,.bin .add 3 (yh 5) (LF (.k (.int .i64 1))) (yh 14))::zxC
abbrev zyB:List (Nat×Ent):=(10006,.fb 6 false)::zxC
theorem zkO {w0:World} (l:(List Pl)) (v1:Int) (v2:(List UInt8)) (v4:(List UInt8)) (v6:Int) (v7:Int) (o2:(List UInt8)) {F:Fact} (u0:F.c 0=pLs cPl l) (u1:F.c 1=pI v1) (u2:F.c 2=pS v2) (u4:F.c 4=pI v7) (ug1:F.g 1=pG cB v4) (ug2:F.g 2=pG cB o2) (R:Frm) (hR:R.pm=⟨ntOf Tryz.prog 63,[],[]⟩) (h7:(l.length:Int)=v7) (h4:v4=encI (l.length:Int)) (hok:∀x∈l,InP x) (hl:l.length≤1000000) (hO:encL encP l=o2):zj (KN w0) Tryz.prog F R zaY (lp Tryz.prog 63 0):=by
 refine zG (T:=w_allp_l_T) (fun t=>FL [pLs cPl l,pI v1,pS v2,pI v6,pI v7,pI t.i] [pG cB ([]:List UInt8),pG cB v4,pG cB t.o]) (fun ⟨i,o⟩=>∃n:Nat,i=(n:Int)∧n≤l.length∧o=encI (l.length:Int)++(l.take n).flatMap encP) (fun ⟨i,o⟩=>((l.length:Int) - i).toNat) { i:=(0:Int),o:=v4 } qL ⟨0,rfl,Nat.zero_le _,by rw [h4];simp⟩ (LZ ⟨z_c (LU u0),z_c yy,z_c yy,z_c yy,z_c (LU u0),z_c (LU u1),z_c (LU u2),z_c (LU u0),z_c (LU u4),z_c yy,z_b ⟨yy,yy,trivial⟩,z_gq ug1 rfl,trivial⟩) rfl fun t hJ=>?_
 obtain ⟨i,o⟩:=t
 dsimp only at hJ
 obtain ⟨n,hi,hn,ho⟩:=hJ
 have hob:=zmi (k:=40) hl (fun x hx=>zen (hok x hx)) ho
 obtain ⟨v501,e501⟩:=LX (decide (i<v7))
 let A1:List Pred→List Pred:=fun t=>pLs cPl l::pI v1::pS v2::pI v6::pI v7::pI i::pB v501::t
 have f1:LA (KN w0) A1:=fun t h=>⟨(zi zo),zc,zc,zc,zc,zc,zc,h⟩
 let G1:List LPred→List LPred:=fun t=>pG cB ([]:List UInt8)::pG cB v4::pG cB o::t
 have g1:LG (KN w0) G1:=fun t h=>⟨(zy (zE rfl)),(zy (zE rfl)),(zy (zE rfl)),h⟩
 have T1:LH (KN w0) Tryz.prog A1 G1 zxC:=fun t u=>⟨e_bin (za rfl) (za rfl) (za rfl) (r_cmp (LO e501)),trivial⟩
 cases h502:v501 with
 | true =>
  obtain ⟨n503,x504,s505,s506⟩:∃(n503:Nat) (x504:Pl),i=(n503:Int)∧l[n503]?=some x504:=by (have d:=LD e501 h502;have hlt:n<l.length:=(by omega);exact ⟨n,l[n],hi,List.getElem?_eq_getElem hlt⟩)
  obtain ⟨v507,e507⟩:=LX (encP x504)
  have s508:InP x504:=by exact hok _ (List.mem_of_getElem? s506)
  obtain ⟨v509,e509⟩:=LX (o++v507)
  have s510:o.length+(v507:List UInt8).length≤1099511627776:=by (have q:=zen (hok _ (List.mem_of_getElem? s506));rw [e507] at q;omega)
  obtain ⟨v511,e511⟩:=LX (((v507:List UInt8).length:Int))
  obtain ⟨v512,e512⟩:=LX (IntKind.i64.wrap (i+(1:Int)))
  let A2:=fun t=>A1 (pP (cPl x504)::pI x504.1.1::pI x504.1.2.1::pI x504.1.2.2::pI x504.2::pS v507::pI v511::pI v512::t)
  have f2:LA (KN w0) A2:=fun t h=>f1 _ ⟨(qw (zo _)),zc,zc,zc,zc,zc,zc,zc,h⟩
  let G2:=fun t=>G1 (pG cB v509::t)
  have g2:LG (KN w0) G2:=fun t h=>g1 _ ⟨(zy (zE rfl)),h⟩
  have T2:LH (KN w0) Tryz.prog A2 G2 zyA:=fun t u=>⟨e_fbv h502,e_iaL (E:=69) (z:=4) (fun _=>rfl) (by kernel_rfl) (by kernel_rfl) (zd rfl) (za rfl) s505 s506 (zd rfl),e_ldG (by kernel_rfl) (by kernel_rfl) (zd rfl) rfl rfl rfl,zh (zuY x504 v507 e507 s508),zcZ (bs:=o) (s:=v507) (.inr rfl) (by decide) (za rfl) rfl (by rw [e509];rfl) (za (by rw [e511];rfl)) s510,e_bin (za rfl) ze (za rfl) (r_ar (LO e512)),T1 _ _⟩
  refine .inr ⟨⟨v512,v509⟩,?_,?_,goes (x:=.n) (y:=.n) (Fb:=FL (A2 []) (G2 [])) (stb:=qL) (tl:=[.sl 0 (yh 0),.sl 1 (.o (.c (.q 64 []))),.sl 4 (.o (.c (.k (.string ⟨#[]⟩)))),.sl 5 (.o (.c (.p 1 0))),.sl 8 (yh 0),.sl 9 (yh 1),.sl 10 (yh 2),.sl 12 (yh 0),.sl 13 (yh 4),.sl 14 (yh 14),.bx 1 103 [.p 1 0,.gr 901],.gl 901 5 1 3]) (C:=zyA) (H:=.no) 5000 (LZ ⟨z_c yy,z_c yy,z_c yy,z_c yy,z_c yy,z_c yy,z_c yy,z_c yy,z_c yy,z_c yy,z_b ⟨yy,yy,trivial⟩,z_gl (fun _ _ _ h=>h),trivial⟩) (zg (f2 [] trivial) (g2 [] trivial)) (T2 [] []) mixed hR trivial (fun _ _ _ hs=>by cases hs) (by kernel_rfl) rfl (LZ ⟨z_c yy,z_c yy,z_c yy,z_c yy,z_c yy,z_c yy,z_c yy,z_c yy,z_c yy,z_c (fun β v W h=>(zd rfl β v W).2 h),z_b ⟨yy,yy,trivial⟩,z_gq rfl rfl,trivial⟩)⟩
  all_goals (have d:=LD e501 h502;have x4:v512=((n503+1:Nat):Int):=(by rw [← e512,s505,wri (by omega)];omega);have hnn:n503=n:=(by omega);subst hnn)
  ·show ((l.length:Int) - v512).toNat<((l.length:Int) - i).toNat
   omega
  ·exact ⟨n503+1,x4,by omega,by rw [← e509,ho,zc5 s506,e507,List.append_assoc]⟩
 | false =>
  have T3:LH (KN w0) Tryz.prog A1 G1 zyB:=fun t u=>⟨e_fbv h502,T1 _ _⟩
  have hq:((o)=o2)∧True:=by
   refine ⟨?_,trivial⟩
   (have d:=LE e501 h502;have hnn:n=l.length:=(by omega);rw [ho,← hO,hnn,List.take_length];rfl)
  obtain ⟨q0,-⟩:=hq
  exact .inl (goes (x:=(.x 0)) (y:=(.x 0)) (Fb:=FL (A1 []) (G1 [])) (stb:=qL) (tl:=[.sl 0 (yh 0),.sl 1 (.o (.c (.q 64 []))),.sl 4 (.o (.c (.k (.string ⟨#[]⟩)))),.sl 5 (.o (.c (.p 1 0))),.sl 8 (yh 0),.sl 9 (yh 1),.sl 10 (yh 2),.sl 12 (yh 0),.sl 13 (yh 4),.bx 1 103 [.p 1 0,.gr 901],.gl 901 5 1 2]) (C:=zyB) (H:=.no) 5000 (LZ ⟨z_c yy,z_c yy,z_c yy,z_c yy,z_c yy,z_c yy,z_c yy,z_c yy,z_c yy,z_c yy,z_b ⟨yy,yy,trivial⟩,z_gl (fun _ _ _ h=>h),trivial⟩) (zg (f1 [] trivial) (g1 [] trivial)) (T3 [] []) mixed hR trivial (fun _ _ _ hs=>by cases hs) (by kernel_rfl) rfl (LZ ⟨z_c (LV u0),z_c yy,z_c yy,z_c yy,z_c (LV u0),z_c (LV u1),z_c (LV u2),z_c (LV u0),z_c (LV u4),z_b ⟨yy,yy,trivial⟩,z_gq rfl (by rw [ug2,← q0];rfl),trivial⟩))
abbrev zzD:List (Nat×Ent):=(1000003,.op (.len [25] 3) [yh 0] [] (yh 1))::(1000004,.call ⟨12,[yh 1],[],yh 2,[]⟩)::(1000005,.call ⟨88,[.o (.c (.p 1 0)),yh 2],[.bx 1 103 [.k (.pointer none),.gr 901],.gl 901 5 1 0],.t [.c (.h 3),.c (.k .nilIface)],[.bx 1 103 [.p 1 0,.gr 901],.gl 901 5 1 1]⟩)::(1000007,.op (.len [25] 3) [yh 0] [] (yh 4))::(1001009,.call ⟨89,[.o (.c (.p 1 0))],[.bx 1 103 [.p 1 0,.gr 901],.gl 901 5 1 2],yh 5,[]⟩)::[]
theorem zwd {w0:World} (l:List Pl) (r:List UInt8) (hr:encL encP l=r) (hok:∀x∈l,InP x) (hl:l.length≤1000000):Fun (KN w0) Tryz.prog 63 [.o (.c (pLs cPl l)),.o (.c ((fun v _ _=>∃cs:Array Value,v=.func (.func 64) #[] cs∧cs.toList=[])))] (.o (.c (pS r))):=by
 obtain ⟨v1,e1⟩:=LX ((l.length:Int))
 obtain ⟨v2,e2⟩:=LX (encI v1)
 have s3:InI v1:=by (subst_vars;exact zcR hl)
 obtain ⟨v4,e4⟩:=LX (([]:List UInt8)++v2)
 have s5:([]:List UInt8).length+(v2:List UInt8).length≤1099511627776:=by (subst_vars;have q:=zv (zcR hl);simp only [List.length_nil];omega)
 obtain ⟨v6,e6⟩:=LX (((v2:List UInt8).length:Int))
 obtain ⟨v7,e7⟩:=LX ((l.length:Int))
 obtain ⟨o2,hO_w_allp_l⟩:∃(o2:(List UInt8)),encL encP l=o2:=⟨_,rfl⟩
 have s8:o2≠[]:=by (have q:=zgK (encP) l;simp_all)
 obtain ⟨v9,e9⟩:=LX (o2)
 let A1:List Pred→List Pred:=fun t=>pLs cPl l::pI v1::pS v2::pI v6::pI v7::pS v9::t
 have f1:LA (KN w0) A1:=fun t h=>⟨(zi zo),zc,zc,zc,zc,zc,h⟩
 let G1:List LPred→List LPred:=fun t=>pG cB ([]:List UInt8)::pG cB v4::pG cB o2::t
 have g1:LG (KN w0) G1:=fun t h=>⟨(zy (zE rfl)),(zy (zE rfl)),(zy (zE rfl)),h⟩
 have T1:LH (KN w0) Tryz.prog A1 G1 zzD:=fun t u=>⟨zH (E:=69) (by kernel_rfl) (zd rfl) (za (by rw [e1];rfl)),zh (w_int v1 v2 e2 s3),zcZ (bs:=([]:List UInt8)) (s:=v2) (.inl rfl) (by decide) (za rfl) rfl (by rw [e4];rfl) (za (by rw [e6];rfl)) s5,zH (E:=69) (by kernel_rfl) (zd rfl) (za (by rw [e7];rfl)),zfO (bs:=o2) (by decide) rfl s8 (za (by rw [e9];rfl)),trivial⟩
 have L_w_allp_l:∀R:Frm,R.pm=⟨ntOf Tryz.prog 63,[],[]⟩→zj (KN w0) Tryz.prog (FL (A1 []) (G1 [])) R zaY (lp Tryz.prog 63 0):=fun R hR=>zkO l v1 v2 v4 v6 v7  o2 rfl rfl rfl rfl rfl rfl R hR e7 (by rw [← e4,← e2,← e1];rfl) hok hl hO_w_allp_l
 refine Fun.fin (r:=.o (.c (pS v9))) (zq (zN (F:=FL (A1 []) (G1 [])) (C:=zzD) (k:=⟨63,[yh 0,.o (.c (.q 64 []))],[],yh 5,[]⟩) ⟨[zaY],[⟨1,[.bx 1 103 [.k (.pointer none),.k (.slice none 0 0)],.gn 901],[.bx 1 103 [.k (.pointer none),.gr 901],.gl 901 5 1 0],[]⟩],0⟩ [901] 0 (zg (f1 [] trivial) (g1 [] trivial)) (T1 [] []) mixed ⟨zif (c:=cB) rfl,trivial⟩ (fun R hR p hp s hs=>by
  have hl:zD (zR Tryz.prog 63)=[(4,lp Tryz.prog 63 0)]:=by kernel_rfl
  rw [hl] at hp
  simp only [List.mem_cons,List.not_mem_nil,or_false] at hp
  rcases hp with rfl
  ·have e:s=zaY:=(Option.some.inj hs).symm
   subst e;exact L_w_allp_l R hR) (by kernel_rfl))) (fun v W D h=>?_)
 have r0:r=v9:=by
  rw [← hr,hO_w_allp_l,e9]
 rw [r0];exact h
abbrev zzH:List (Nat×Ent):=(1000002,.call ⟨62,[yh 0,.o (.c (.q 12 []))],[],yh 1,[]⟩)::[]
theorem zwf {w0:World} (l:List Int) (r:List UInt8) (hr:encL encI l=r) (hok:∀x∈l,InI x) (hl:l.length≤1000000):Fun (KN w0) Tryz.prog 31 [.o (.c (pLs cI l))] (.o (.c (pS r))):=by
 obtain ⟨v1,e1⟩:=LX (encL encI l)
 have s2:∀x∈l,InI x:=by exact hok
 have s3:l.length≤1000000:=by exact hl
 let A1:List Pred→List Pred:=fun t=>pLs cI l::pS v1::t
 have f1:LA (KN w0) A1:=fun t h=>⟨(zi zl),zc,h⟩
 have T1:LT (KN w0) Tryz.prog A1 zzH:=fun t=>⟨zh (zwc l v1 e1 s2 s3),trivial⟩
 refine Fun.fin (r:=.o (.c (pS v1))) (zq (zr (F:=FL (A1 []) []) (C:=zzH) (k:=⟨31,[yh 0],[],yh 1,[]⟩) 0 (zg (f1 [] trivial)) (T1 []) mixed (by kernel_rfl))) (fun v W D h=>?_)
 have r0:r=v1:=by
  rw [← hr,e1]
 rw [r0];exact h
abbrev zzE:List (Nat×Ent):=(1000002,.call ⟨63,[yh 0,.o (.c (.q 64 []))],[],yh 1,[]⟩)::[]
theorem zs7 {w0:World} (l:List Pl) (r:List UInt8) (hr:encL encP l=r) (hok:∀x∈l,InP x) (hl:l.length≤1000000):Fun (KN w0) Tryz.prog 33 [.o (.c (pLs cPl l))] (.o (.c (pS r))):=by
 obtain ⟨v1,e1⟩:=LX (encL encP l)
 have s2:∀x∈l,InP x:=by exact hok
 have s3:l.length≤1000000:=by exact hl
 let A1:List Pred→List Pred:=fun t=>pLs cPl l::pS v1::t
 have f1:LA (KN w0) A1:=fun t h=>⟨(zi zo),zc,h⟩
 have T1:LT (KN w0) Tryz.prog A1 zzE:=fun t=>⟨zh (zwd l v1 e1 s2 s3),trivial⟩
 refine Fun.fin (r:=.o (.c (pS v1))) (zq (zr (F:=FL (A1 []) []) (C:=zzE) (k:=⟨33,[yh 0],[],yh 1,[]⟩) 0 (zg (f1 [] trivial)) (T1 []) mixed (by kernel_rfl))) (fun v W D h=>?_)
 have r0:r=v1:=by
  rw [← hr,e1]
 rw [r0];exact h
structure w_rints_l_T where
 o:(List UInt8)
 i:Int
def qz:List Atom:=[.sl 0 (yh 0),.sl 2 (.o (.c (.k (.string ⟨#[]⟩)))),.sl 3 (yh 3),.sl 4 (yh 4),.sl 5 (yh 0),.sl 6 (yh 1),.sl 7 (yh 2)]
def zaE:LoopS:=⟨3,[.sl 0 (yh 0),.sl 2 (.o (.c (.k (.string ⟨#[]⟩)))),.sl 3 (yh 2),.sl 4 (.o (.c (.k (.int .i64 0)))),.sl 5 (yh 0),.sl 6 (yh 1),.sl 7 (yh 2)],(.x 0),[.sl 0 (yh 0),.sl 2 (.o (.c (.k (.string ⟨#[]⟩)))),.sl 3 (yh 3),.sl 5 (yh 0),.sl 6 (yh 1),.sl 7 (yh 2)]⟩
abbrev zxe:List (Nat×Ent):=(1005002,.op (.len [22] 3) [yh 0] [] (yh 5))::(1005003,.bin .lss 3 (yh 4) (yh 5) (yh 6))::[]
abbrev zyp:List (Nat×Ent):=(10006,.fb 6 true)::(1005007,.op (.ia 22) [yh 0,yh 4] [] (yh 7))::(1005008,.op (.ld 3) [yh 7] [] (yh 8))::(1005009,.call ⟨13,[yh 8],[],yh 9,[]⟩)::(1005010,.bin .add 9 (yh 3) (yh 9) (yh 10))::(1005013,.bin .add 3 (yh 4) (LF (.k (.int .i64 1))) (yh 11))::zxe
abbrev zyq:List (Nat×Ent):=(10006,.fb 6 false)::zxe
theorem zi6 {w0:World} (l:(List Int)) (v1:Int) (v2:(List UInt8)) (o2:(List UInt8)) {F:Fact} (u0:F.c 0=pLs cI l) (u1:F.c 1=pI v1) (u2:F.c 2=pS v2) (u3:F.c 3=pS o2) (R:Frm) (hR:R.pm=⟨ntOf Tryz.prog 43,[],[]⟩) (h4:v2=encI (l.length:Int)) (hok:∀x∈l,InI x) (hl:l.length≤1000000) (hO:encL encI l=o2):zj (KN w0) Tryz.prog F R zaE (lp Tryz.prog 43 0):=by
 refine zG (T:=w_rints_l_T) (fun t=>FL [pLs cI l,pI v1,pS v2,pS t.o,pI t.i] []) (fun ⟨o,i⟩=>∃n:Nat,i=(n:Int)∧n≤l.length∧o=encI (l.length:Int)++(l.take n).flatMap encI) (fun ⟨o,i⟩=>((l.length:Int) - i).toNat) { o:=v2,i:=(0:Int) } qz ⟨0,rfl,Nat.zero_le _,by rw [h4];simp⟩ (LZ ⟨z_c (LU u0),z_c yy,z_c (LU u2),z_c yy,z_c (LU u0),z_c (LU u1),z_c (LU u2),trivial⟩) rfl fun t hJ=>?_
 obtain ⟨o,i⟩:=t
 dsimp only at hJ
 obtain ⟨n,hi,hn,ho⟩:=hJ
 have hob:=zmi (k:=10) hl (fun x hx=>zv (hok x hx)) ho
 obtain ⟨v501,e501⟩:=LX ((l.length:Int))
 obtain ⟨v502,e502⟩:=LX (decide (i<v501))
 let A1:List Pred→List Pred:=fun t=>pLs cI l::pI v1::pS v2::pS o::pI i::pI v501::pB v502::t
 have f1:LA (KN w0) A1:=fun t h=>⟨(zi zl),zc,zc,zc,zc,zc,zc,h⟩
 have T1:LT (KN w0) Tryz.prog A1 zxe:=fun t=>⟨zH (E:=3) (by kernel_rfl) (zd rfl) (za (by rw [e501];rfl)),e_bin (za rfl) (za rfl) (za rfl) (r_cmp (LO e502)),trivial⟩
 cases h503:v502 with
 | true =>
  obtain ⟨n504,x505,s506,s507⟩:∃(n504:Nat) (x505:Int),i=(n504:Int)∧l[n504]?=some x505:=by (have hz:=e501;have d:=LD e502 h503;have hlt:n<l.length:=(by omega);exact ⟨n,l[n],hi,List.getElem?_eq_getElem hlt⟩)
  obtain ⟨v508,e508⟩:=LX (encI x505)
  have s509:InI x505:=by exact (hok _ (List.mem_of_getElem? s507))
  obtain ⟨v510,e510⟩:=LX (o++v508)
  have s511:(((o:List UInt8).length+(v508:List UInt8).length:Nat):Int)≤9223372036854775807:=by (have q0:=zv (hok _ (List.mem_of_getElem? s507));simp only [← e508,← e510,List.length_append];omega)
  obtain ⟨v512,e512⟩:=LX (IntKind.i64.wrap (i+(1:Int)))
  let A2:=fun t=>A1 (pP (cI x505)::pI x505::pS v508::pS v510::pI v512::t)
  have f2:LA (KN w0) A2:=fun t h=>f1 _ ⟨(qw (zl _)),zc,zc,zc,zc,h⟩
  have T2:LT (KN w0) Tryz.prog A2 zyp:=fun t=>⟨e_fbv h503,e_iaL (E:=3) (z:=1) (fun _=>rfl) (by kernel_rfl) (by kernel_rfl) (zd rfl) (za rfl) s506 s507 (zd rfl),e_ldP (by kernel_rfl) (zd rfl) (zd rfl),zh (zbH x505 v508 e508 s509),e_bin (za rfl) (za rfl) (za rfl) (fun W X Y=>by rw [← e510];exact r_cat s511 W X Y),e_bin (za rfl) ze (za rfl) (r_ar (LO e512)),T1 _⟩
  refine .inr ⟨⟨v510,v512⟩,?_,?_,goes (x:=.n) (y:=.n) (Fb:=FL (A2 []) []) (stb:=qz) (tl:=[.sl 0 (yh 0),.sl 2 (.o (.c (.k (.string ⟨#[]⟩)))),.sl 3 (yh 10),.sl 4 (yh 11),.sl 5 (yh 0),.sl 6 (yh 1),.sl 7 (yh 2)]) (C:=zyp) (H:=.no) 5000 (LZ ⟨z_c yy,z_c yy,z_c yy,z_c yy,z_c yy,z_c yy,z_c yy,trivial⟩) (zg (f2 [] trivial)) (T2 []) mixed hR trivial (fun _ _ _ hs=>by cases hs) (by kernel_rfl) rfl (LZ ⟨z_c yy,z_c yy,z_c (fun β v W h=>(zd rfl β v W).2 h),z_c (fun β v W h=>(zd rfl β v W).2 h),z_c yy,z_c yy,z_c yy,trivial⟩)⟩
  all_goals (have hz:=e501;have d:=LD e502 h503;have hnn:n504=n:=(by omega);have x4:v512=((n+1:Nat):Int):=(by rw [← e512,hi,wri (by omega)];omega);have g0:l[n]?=some x505:=(by rw [← hnn];exact s507))
  ·show ((l.length:Int) - v512).toNat<((l.length:Int) - i).toNat
   omega
  ·exact ⟨n+1,x4,by omega,by rw [← e510,← e508,ho,zc5 g0];simp only [List.append_assoc]⟩
 | false =>
  have T3:LT (KN w0) Tryz.prog A1 zyq:=fun t=>⟨e_fbv h503,T1 _⟩
  have hq:((o)=o2)∧True:=by
   refine ⟨?_,trivial⟩
   (have hz:=e501;have d:=LE e502 h503;have hnn:n=l.length:=(by omega);rw [ho,← hO,hnn,List.take_length];rfl)
  obtain ⟨q0,-⟩:=hq
  exact .inl (goes (x:=(.x 0)) (y:=(.x 0)) (Fb:=FL (A1 []) []) (stb:=qz) (tl:=[.sl 0 (yh 0),.sl 2 (.o (.c (.k (.string ⟨#[]⟩)))),.sl 3 (yh 3),.sl 5 (yh 0),.sl 6 (yh 1),.sl 7 (yh 2)]) (C:=zyq) (H:=.no) 5000 (LZ ⟨z_c yy,z_c yy,z_c yy,z_c yy,z_c yy,z_c yy,z_c yy,trivial⟩) (zg (f1 [] trivial)) (T3 []) mixed hR trivial (fun _ _ _ hs=>by cases hs) (by kernel_rfl) rfl (LZ ⟨z_c (LV u0),z_c yy,z_c (fun β v W h=>(zd u3 β v W).2 (by rw [← q0];exact h)),z_c (LV u0),z_c (LV u1),z_c (LV u2),trivial⟩))
abbrev zzg:List (Nat×Ent):=(1000002,.op (.len [22] 3) [yh 0] [] (yh 1))::(1000003,.call ⟨13,[yh 1],[],yh 2,[]⟩)::[]
theorem zu1 {w0:World} (l:List Int) (r:List UInt8) (hr:encL encI l=r) (hok:∀x∈l,InI x) (hl:l.length≤1000000):Fun (KN w0) Tryz.prog 43 [.o (.c (pLs cI l))] (.o (.c (pS r))):=by
 obtain ⟨v1,e1⟩:=LX ((l.length:Int))
 obtain ⟨v2,e2⟩:=LX (encI v1)
 have s3:InI v1:=by (subst_vars;exact zcR hl)
 obtain ⟨o2,hO_w_rints_l⟩:∃(o2:(List UInt8)),encL encI l=o2:=⟨_,rfl⟩
 let A1:List Pred→List Pred:=fun t=>pLs cI l::pI v1::pS v2::pS o2::t
 have f1:LA (KN w0) A1:=fun t h=>⟨(zi zl),zc,zc,zc,h⟩
 have T1:LT (KN w0) Tryz.prog A1 zzg:=fun t=>⟨zH (E:=3) (by kernel_rfl) (zd rfl) (za (by rw [e1];rfl)),zh (zbH v1 v2 e2 s3),trivial⟩
 have L_w_rints_l:∀R:Frm,R.pm=⟨ntOf Tryz.prog 43,[],[]⟩→zj (KN w0) Tryz.prog (FL (A1 []) []) R zaE (lp Tryz.prog 43 0):=fun R hR=>zi6 l v1 v2  o2 rfl rfl rfl rfl R hR (by rw [← e2,← e1]) hok hl hO_w_rints_l
 refine Fun.fin (r:=.o (.c (pS o2))) (zq (zN (F:=FL (A1 []) []) (C:=zzg) (k:=⟨43,[yh 0],[],yh 3,[]⟩) ⟨[zaE],[],0⟩ [] 0 (zg (f1 [] trivial)) (T1 []) mixed trivial (fun R hR p hp s hs=>by
  have hl:zD (zR Tryz.prog 43)=[(3,lp Tryz.prog 43 0)]:=by kernel_rfl
  rw [hl] at hp
  simp only [List.mem_cons,List.not_mem_nil,or_false] at hp
  rcases hp with rfl
  ·have e:s=zaE:=(Option.some.inj hs).symm
   subst e;exact L_w_rints_l R hR) (by kernel_rfl))) (fun v W D h=>?_)
 have r0:r=o2:=by
  rw [← hr,hO_w_rints_l]
 rw [r0];exact h
structure w_rcell_l_T where
 o:(List UInt8)
 i:Int
def qy:List Atom:=[.sl 0 (yh 0),.sl 2 (.o (.c (.k (.string ⟨#[]⟩)))),.sl 3 (yh 3),.sl 4 (yh 4),.sl 5 (yh 0),.sl 6 (yh 1),.sl 7 (yh 2)]
def zaD:LoopS:=⟨3,[.sl 0 (yh 0),.sl 2 (.o (.c (.k (.string ⟨#[]⟩)))),.sl 3 (yh 2),.sl 4 (.o (.c (.k (.int .i64 0)))),.sl 5 (yh 0),.sl 6 (yh 1),.sl 7 (yh 2)],(.x 0),[.sl 0 (yh 0),.sl 2 (.o (.c (.k (.string ⟨#[]⟩)))),.sl 3 (yh 3),.sl 5 (yh 0),.sl 6 (yh 1),.sl 7 (yh 2)]⟩
abbrev zw7:List (Nat×Ent):=(1005002,.op (.len [25] 3) [yh 0] [] (yh 5))::(1005003,.bin .lss 3 (yh 4) (yh 5) (yh 6))::[]
abbrev zyd:List (Nat×Ent):=(10006,.fb 6 true)::(1005007,.op (.ia 25) [yh 0,yh 4] [] (yh 7))::(1005008,.op (.fa 69 0) [yh 7] [] (yh 8))::(1005009,.op (.ld 24) [yh 8] [] (.o (.g [.h 9,.h 10,.h 11])))::(1005010,.call ⟨44,[.o (.g [.h 9,.h 10,.h 11])],[],yh 12,[]⟩)::(1005011,.bin .add 9 (yh 3) (yh 12) (yh 13))::(1005014,.op (.ia 25) [yh 0,yh 4] [] (yh 14))::(1005015,.op (.fa 69 1) [yh 14] [] (yh 15))::(1005016,.op (.ld 3) [yh 15] [] (yh 16))::(1005017,.call ⟨13,[yh 16],[],yh 17,[]⟩)::(1005018,.bin .add 9 (yh 13) (yh 17) (yh 18))::(1005021,.bin .add 3 (yh 4) (LF (.k (.int .i64 1))) (yh 19))::zw7
abbrev zye:List (Nat×Ent):=(10006,.fb 6 false)::zw7
theorem ziO {w0:World} (l:(List Pl)) (v1:Int) (v2:(List UInt8)) (o2:(List UInt8)) {F:Fact} (u0:F.c 0=pLs cPl l) (u1:F.c 1=pI v1) (u2:F.c 2=pS v2) (u3:F.c 3=pS o2) (R:Frm) (hR:R.pm=⟨ntOf Tryz.prog 45,[],[]⟩) (h4:v2=encI (l.length:Int)) (hok:∀x∈l,InP x) (hl:l.length≤1000000) (hO:encL encP l=o2):zj (KN w0) Tryz.prog F R zaD (lp Tryz.prog 45 0):=by
 refine zG (T:=w_rcell_l_T) (fun t=>FL [pLs cPl l,pI v1,pS v2,pS t.o,pI t.i] []) (fun ⟨o,i⟩=>∃n:Nat,i=(n:Int)∧n≤l.length∧o=encI (l.length:Int)++(l.take n).flatMap encP) (fun ⟨o,i⟩=>((l.length:Int) - i).toNat) { o:=v2,i:=(0:Int) } qy ⟨0,rfl,Nat.zero_le _,by rw [h4];simp⟩ (LZ ⟨z_c (LU u0),z_c yy,z_c (LU u2),z_c yy,z_c (LU u0),z_c (LU u1),z_c (LU u2),trivial⟩) rfl fun t hJ=>?_
 obtain ⟨o,i⟩:=t
 dsimp only at hJ
 obtain ⟨n,hi,hn,ho⟩:=hJ
 have hob:=zmi (k:=40) hl (fun x hx=>zen (hok x hx)) ho
 obtain ⟨v501,e501⟩:=LX ((l.length:Int))
 obtain ⟨v502,e502⟩:=LX (decide (i<v501))
 let A1:List Pred→List Pred:=fun t=>pLs cPl l::pI v1::pS v2::pS o::pI i::pI v501::pB v502::t
 have f1:LA (KN w0) A1:=fun t h=>⟨(zi zo),zc,zc,zc,zc,zc,zc,h⟩
 have T1:LT (KN w0) Tryz.prog A1 zw7:=fun t=>⟨zH (E:=69) (by kernel_rfl) (zd rfl) (za (by rw [e501];rfl)),e_bin (za rfl) (za rfl) (za rfl) (r_cmp (LO e502)),trivial⟩
 cases h503:v502 with
 | true =>
  obtain ⟨n504,x505,s506,s507⟩:∃(n504:Nat) (x505:Pl),i=(n504:Int)∧l[n504]?=some x505:=by (have hz:=e501;have d:=LD e502 h503;have hlt:n<l.length:=(by omega);exact ⟨n,l[n],hi,List.getElem?_eq_getElem hlt⟩)
  obtain ⟨v508,e508⟩:=LX (encV x505.1)
  have s509:InV x505.1:=by exact (hok _ (List.mem_of_getElem? s507)).1
  obtain ⟨v510,e510⟩:=LX (o++v508)
  have s511:(((o:List UInt8).length+(v508:List UInt8).length:Nat):Int)≤9223372036854775807:=by (have q0:=zbP (hok _ (List.mem_of_getElem? s507)).1;simp only [← e508,← e510,List.length_append];omega)
  obtain ⟨n512,x513,s514,s515⟩:∃(n512:Nat) (x513:Pl),i=(n512:Int)∧l[n512]?=some x513:=by (have hz:=e501;have d:=LD e502 h503;have hlt:n<l.length:=(by omega);exact ⟨n,l[n],hi,List.getElem?_eq_getElem hlt⟩)
  obtain ⟨v516,e516⟩:=LX (encI x513.2)
  have s517:InI x513.2:=by exact (hok _ (List.mem_of_getElem? s515)).2
  obtain ⟨v518,e518⟩:=LX (v510++v516)
  have s519:(((v510:List UInt8).length+(v516:List UInt8).length:Nat):Int)≤9223372036854775807:=by (have q0:=zbP (hok _ (List.mem_of_getElem? s507)).1;have q1:=zv (hok _ (List.mem_of_getElem? s515)).2;simp only [← e508,← e510,← e516,← e518,List.length_append];omega)
  obtain ⟨v520,e520⟩:=LX (IntKind.i64.wrap (i+(1:Int)))
  let A2:=fun t=>A1 (pP (cPl x505)::pP ((cPl x505).drop 0)::pI x505.1.1::pI x505.1.2.1::pI x505.1.2.2::pS v508::pS v510::pP (cPl x513)::pP ((cPl x513).drop 3)::pI x513.2::pS v516::pS v518::pI v520::t)
  have f2:LA (KN w0) A2:=fun t h=>f1 _ ⟨(qw (zo _)),(qw (zic (zo _) 0)),zc,zc,zc,zc,zc,(qw (zo _)),(qw (zic (zo _) 3)),zc,zc,zc,zc,h⟩
  have T2:LT (KN w0) Tryz.prog A2 zyd:=fun t=>⟨e_fbv h503,e_iaL (E:=69) (z:=4) (fun _=>rfl) (by kernel_rfl) (by kernel_rfl) (zd rfl) (za rfl) s506 s507 (zd rfl),e_faD (off:=0) (m:=2) (ps:=(cPl x505)) (by kernel_rfl) (by kernel_rfl) (zd rfl) (zd rfl) (Nat.le_of_ble_eq_true rfl),e_ldn (ps:=[pI x505.1.1,pI x505.1.2.1,pI x505.1.2.2]) (rs:=[pI x505.2]) (by kernel_rfl) (by kernel_rfl) (zd rfl) rfl rfl rfl,zh (zs8 x505.1 v508 e508 s509),e_bin (za rfl) (za rfl) (za rfl) (fun W X Y=>by rw [← e510];exact r_cat s511 W X Y),e_iaL (E:=69) (z:=4) (fun _=>rfl) (by kernel_rfl) (by kernel_rfl) (zd rfl) (za rfl) s514 s515 (zd rfl),e_faD (off:=3) (m:=0) (ps:=(cPl x513)) (by kernel_rfl) (by kernel_rfl) (zd rfl) (zd rfl) (Nat.le_of_ble_eq_true rfl),e_ld1 (by kernel_rfl) (zd rfl) (zd rfl),zh (zbH x513.2 v516 e516 s517),e_bin (za rfl) (za rfl) (za rfl) (fun W X Y=>by rw [← e518];exact r_cat s519 W X Y),e_bin (za rfl) ze (za rfl) (r_ar (LO e520)),T1 _⟩
  refine .inr ⟨⟨v518,v520⟩,?_,?_,goes (x:=.n) (y:=.n) (Fb:=FL (A2 []) []) (stb:=qy) (tl:=[.sl 0 (yh 0),.sl 2 (.o (.c (.k (.string ⟨#[]⟩)))),.sl 3 (yh 18),.sl 4 (yh 19),.sl 5 (yh 0),.sl 6 (yh 1),.sl 7 (yh 2)]) (C:=zyd) (H:=.no) 5000 (LZ ⟨z_c yy,z_c yy,z_c yy,z_c yy,z_c yy,z_c yy,z_c yy,trivial⟩) (zg (f2 [] trivial)) (T2 []) mixed hR trivial (fun _ _ _ hs=>by cases hs) (by kernel_rfl) rfl (LZ ⟨z_c yy,z_c yy,z_c (fun β v W h=>(zd rfl β v W).2 h),z_c (fun β v W h=>(zd rfl β v W).2 h),z_c yy,z_c yy,z_c yy,trivial⟩)⟩
  all_goals (have hz:=e501;have d:=LD e502 h503;have hnn:n504=n:=(by omega);have x4:v520=((n+1:Nat):Int):=(by rw [← e520,hi,wri (by omega)];omega);have g0:l[n]?=some x505:=(by rw [← hnn];exact s507);have hnn2:n512=n:=(by omega);have g1:l[n]?=some x513:=(by rw [← hnn2];exact s515);have gx:x505=x513:=Option.some.inj (g0.symm.trans g1))
  ·show ((l.length:Int) - v520).toNat<((l.length:Int) - i).toNat
   omega
  ·exact ⟨n+1,x4,by omega,by rw [← e518,← e510,← e508,← e516,ho,zc5 g0,gx];simp only [List.append_assoc];rfl⟩
 | false =>
  have T3:LT (KN w0) Tryz.prog A1 zye:=fun t=>⟨e_fbv h503,T1 _⟩
  have hq:((o)=o2)∧True:=by
   refine ⟨?_,trivial⟩
   (have hz:=e501;have d:=LE e502 h503;have hnn:n=l.length:=(by omega);rw [ho,← hO,hnn,List.take_length];rfl)
  obtain ⟨q0,-⟩:=hq
  exact .inl (goes (x:=(.x 0)) (y:=(.x 0)) (Fb:=FL (A1 []) []) (stb:=qy) (tl:=[.sl 0 (yh 0),.sl 2 (.o (.c (.k (.string ⟨#[]⟩)))),.sl 3 (yh 3),.sl 5 (yh 0),.sl 6 (yh 1),.sl 7 (yh 2)]) (C:=zye) (H:=.no) 5000 (LZ ⟨z_c yy,z_c yy,z_c yy,z_c yy,z_c yy,z_c yy,z_c yy,trivial⟩) (zg (f1 [] trivial)) (T3 []) mixed hR trivial (fun _ _ _ hs=>by cases hs) (by kernel_rfl) rfl (LZ ⟨z_c (LV u0),z_c yy,z_c (fun β v W h=>(zd u3 β v W).2 (by rw [← q0];exact h)),z_c (LV u0),z_c (LV u1),z_c (LV u2),trivial⟩))
abbrev zy6:List (Nat×Ent):=(1000002,.op (.len [25] 3) [yh 0] [] (yh 1))::(1000003,.call ⟨13,[yh 1],[],yh 2,[]⟩)::[]
theorem zuZ {w0:World} (l:List Pl) (r:List UInt8) (hr:encL encP l=r) (hok:∀x∈l,InP x) (hl:l.length≤1000000):Fun (KN w0) Tryz.prog 45 [.o (.c (pLs cPl l))] (.o (.c (pS r))):=by
 obtain ⟨v1,e1⟩:=LX ((l.length:Int))
 obtain ⟨v2,e2⟩:=LX (encI v1)
 have s3:InI v1:=by (subst_vars;exact zcR hl)
 obtain ⟨o2,hO_w_rcell_l⟩:∃(o2:(List UInt8)),encL encP l=o2:=⟨_,rfl⟩
 let A1:List Pred→List Pred:=fun t=>pLs cPl l::pI v1::pS v2::pS o2::t
 have f1:LA (KN w0) A1:=fun t h=>⟨(zi zo),zc,zc,zc,h⟩
 have T1:LT (KN w0) Tryz.prog A1 zy6:=fun t=>⟨zH (E:=69) (by kernel_rfl) (zd rfl) (za (by rw [e1];rfl)),zh (zbH v1 v2 e2 s3),trivial⟩
 have L_w_rcell_l:∀R:Frm,R.pm=⟨ntOf Tryz.prog 45,[],[]⟩→zj (KN w0) Tryz.prog (FL (A1 []) []) R zaD (lp Tryz.prog 45 0):=fun R hR=>ziO l v1 v2  o2 rfl rfl rfl rfl R hR (by rw [← e2,← e1]) hok hl hO_w_rcell_l
 refine Fun.fin (r:=.o (.c (pS o2))) (zq (zN (F:=FL (A1 []) []) (C:=zy6) (k:=⟨45,[yh 0],[],yh 3,[]⟩) ⟨[zaD],[],0⟩ [] 0 (zg (f1 [] trivial)) (T1 []) mixed trivial (fun R hR p hp s hs=>by
  have hl:zD (zR Tryz.prog 45)=[(3,lp Tryz.prog 45 0)]:=by kernel_rfl
  rw [hl] at hp
  simp only [List.mem_cons,List.not_mem_nil,or_false] at hp
  rcases hp with rfl
  ·have e:s=zaD:=(Option.some.inj hs).symm
   subst e;exact L_w_rcell_l R hR) (by kernel_rfl))) (fun v W D h=>?_)
 have r0:r=o2:=by
  rw [← hr,hO_w_rcell_l]
 rw [r0];exact h
end Go.Proofs.YtjcegdldgjphiaaGreatDoor
namespace Go.Proofs.YtjcegdldgjphiaaGreatDoor
open Go.RowKit Go.Shelf
def encRS (x:RR):List UInt8:=if rrX x.1 x.2=true then encT (textR x) else []
abbrev zx1:List (Nat×Ent):=(1000003,.call ⟨46,[.o (.g [.h 0,.h 1,.h 2,.h 3])],[],yh 4,[]⟩)::(1000004,.un .not (yh 4) (yh 5))::[]
abbrev zy4:List (Nat×Ent):=(10005,.fb 5 true)::zx1
abbrev zy5:List (Nat×Ent):=(10005,.fb 5 false)::(1000006,.call ⟨47,[.o (.g [.h 0,.h 1,.h 2,.h 3])],[],yh 6,[]⟩)::(1000007,.call ⟨30,[yh 6],[],yh 7,[]⟩)::zx1
theorem zqh {w0:World} (hM:LM w0) (hTS:LS w0) (x:RR) (r:List UInt8) (hr:encRS x=r) (ht:TxW (textR x)):Fun (KN w0) Tryz.prog 16 [.o (.g [pB x.1.1,pD x.1.2,pB x.2.1,pD x.2.2])] (.o (.c (pS r))):=by
 obtain ⟨v1,e1⟩:=LX (rrX x.1 x.2)
 obtain ⟨v2,e2⟩:=LX (!v1)
 let A1:List Pred→List Pred:=fun t=>pB x.1.1::pD x.1.2::pB x.2.1::pD x.2.2::pB v1::pB v2::t
 have f1:LA (KN w0) A1:=fun t h=>⟨zc,zm,zc,zm,zc,zc,h⟩
 have T1:LT (KN w0) Tryz.prog A1 zx1:=fun t=>⟨zh (zas x v1 e1),e_un (za rfl) (za rfl) (fun W=>by rw [← e2];exact r_not W),trivial⟩
 cases h3:v2 with
 | true =>
  have T2:LT (KN w0) Tryz.prog A1 zy4:=fun t=>⟨e_fbv h3,T1 _⟩
  refine Fun.fin (r:=.o (.c (pV (.string ⟨#[]⟩)))) (zq (zr (F:=FL (A1 []) []) (C:=zy4) (k:=⟨16,[.o (.g [.h 0,.h 1,.h 2,.h 3])],[],.o (.c (.k (.string ⟨#[]⟩))),[]⟩) 0 (zg (f1 [] trivial)) (T2 []) mixed (by kernel_rfl))) (fun v W D h=>?_)
  have r0:r=[]:=by
   rw [← hr];unfold encRS;rw [e1];rw [if_neg (by cases v1<;>simp_all)]
  rw [r0];exact h
 | false =>
  obtain ⟨v4,e4⟩:=LX (textR x)
  obtain ⟨v5,e5⟩:=LX (encT v4)
  have s6:TxW v4:=by (subst_vars;exact ht)
  let A3:=fun t=>A1 (pS v4::pS v5::t)
  have f3:LA (KN w0) A3:=fun t h=>f1 _ ⟨zc,zc,h⟩
  have T3:LT (KN w0) Tryz.prog A3 zy5:=fun t=>⟨e_fbv h3,zh (zeC (fun W h=>(hTS W h).1) x v4 e4),zh (zs9 v4 v5 e5 s6),T1 _⟩
  refine Fun.fin (r:=.o (.c (pS v5))) (zq (zr (F:=FL (A3 []) []) (C:=zy5) (k:=⟨16,[.o (.g [.h 0,.h 1,.h 2,.h 3])],[],yh 7,[]⟩) 0 (zg (f3 [] trivial)) (T3 []) mixed (by kernel_rfl))) (fun v W D h=>?_)
  have r0:r=v5:=by
   rw [← hr];unfold encRS;rw [e1,if_pos (by cases v1<;>simp_all)];simp_all
  rw [r0];exact h
abbrev zxH:List (Nat×Ent):=(1000003,.call ⟨48,[.o (.g [.h 0,.h 1,.h 2,.h 3])],[],yh 4,[]⟩)::(1000004,.un .not (yh 4) (yh 5))::[]
abbrev zyS:List (Nat×Ent):=(10005,.fb 5 true)::zxH
abbrev zyT:List (Nat×Ent):=(10005,.fb 5 false)::(1000006,.call ⟨49,[.o (.g [.h 0,.h 1,.h 2,.h 3])],[],yh 6,[]⟩)::(1000007,.call ⟨42,[yh 6],[],yh 7,[]⟩)::zxH
theorem zsm {w0:World}  (x:RR) (r:List UInt8) (hr:encRS x=r) (ht:TxW (textR x)):Fun (KN w0) Tryz.prog 17 [.o (.g [pB x.1.1,pD x.1.2,pB x.2.1,pD x.2.2])] (.o (.c (pS r))):=by
 obtain ⟨v1,e1⟩:=LX (rrX x.1 x.2)
 obtain ⟨v2,e2⟩:=LX (!v1)
 let A1:List Pred→List Pred:=fun t=>pB x.1.1::pD x.1.2::pB x.2.1::pD x.2.2::pB v1::pB v2::t
 have f1:LA (KN w0) A1:=fun t h=>⟨zc,zm,zc,zm,zc,zc,h⟩
 have T1:LT (KN w0) Tryz.prog A1 zxH:=fun t=>⟨zh (za2 x v1 e1),e_un (za rfl) (za rfl) (fun W=>by rw [← e2];exact r_not W),trivial⟩
 cases h3:v2 with
 | true =>
  have T2:LT (KN w0) Tryz.prog A1 zyS:=fun t=>⟨e_fbv h3,T1 _⟩
  refine Fun.fin (r:=.o (.c (pV (.string ⟨#[]⟩)))) (zq (zr (F:=FL (A1 []) []) (C:=zyS) (k:=⟨17,[.o (.g [.h 0,.h 1,.h 2,.h 3])],[],.o (.c (.k (.string ⟨#[]⟩))),[]⟩) 0 (zg (f1 [] trivial)) (T2 []) mixed (by kernel_rfl))) (fun v W D h=>?_)
  have r0:r=[]:=by
   rw [← hr];unfold encRS;rw [e1];rw [if_neg (by cases v1<;>simp_all)]
  rw [r0];exact h
 | false =>
  obtain ⟨v4,e4⟩:=LX (textR x)
  obtain ⟨v5,e5⟩:=LX (encT v4)
  have s6:TxW v4:=by (subst_vars;exact ht)
  let A3:=fun t=>A1 (pS v4::pS v5::t)
  have f3:LA (KN w0) A3:=fun t h=>f1 _ ⟨zc,zc,h⟩
  have T3:LT (KN w0) Tryz.prog A3 zyT:=fun t=>⟨e_fbv h3,zh (zbv x v4 e4),zh (zqm v4 v5 e5 s6),T1 _⟩
  refine Fun.fin (r:=.o (.c (pS v5))) (zq (zr (F:=FL (A3 []) []) (C:=zyT) (k:=⟨17,[.o (.g [.h 0,.h 1,.h 2,.h 3])],[],yh 7,[]⟩) 0 (zg (f3 [] trivial)) (T3 []) mixed (by kernel_rfl))) (fun v W D h=>?_)
  have r0:r=v5:=by
   rw [← hr];unfold encRS;rw [e1,if_pos (by cases v1<;>simp_all)];simp_all
  rw [r0];exact h
end Go.Proofs.YtjcegdldgjphiaaGreatDoor
namespace Go.Proofs.YtjcegdldgjphiaaGreatDoor
theorem CodE.left {α:Type} {ok:α→Prop} {enc:α→List UInt8} {rd:St→α×St} (h:CodE ok enc rd) (st:St):leftN (rd st).2≤leftN st:=by
 cases st with
 | none=>rw [h.bad];exact Nat.le_refl _
 | some s =>
  cases hr:rd (some s) with
  | mk v q =>
   cases q with
   | none=>exact Nat.zero_le _
   | some r =>
    obtain ⟨e,_⟩:=h.once s v r hr
    show r.length≤s.length
    rw [e,List.length_append];omega
theorem zcx (st:St):leftN (rdC st).2≤leftN st:=by
 unfold rdC
 split
 ·exact Nat.zero_le _
 ·exact codI.toCodE.left st
theorem zpp (st:St):(rdT st).1.length≤leftN st:=by
 have h:=zcx st
 unfold rdT
 split
 ·exact Nat.zero_le _
 ·rename_i l hl
  rw [hl] at h
  show (l.take _).length≤_
  rw [List.length_take]
  have:l.length≤leftN st:=h
  omega
def callS (c:Int) (st:St):St:=if c=0 then (rdI st).2 else if c=1 then (rdT st).2 else if c=2 then (rdL rdI st).2 else if c=3 then (rdV st).2 else if c=4 then (rdL rdP st).2 else (rdR st).2
def nthB (c:Int) (st:St):Bool:=if c=0 then decide ((rdI st).1=0) else if c=1 then decide ((rdT st).1=[]) else if c=2 then decide ((rdL rdI st).1=[]) else if c=3 then decide ((rdV st).1=(0,0,0)) else if c=4 then decide ((rdL rdP st).1=[]) else decide ((rdR st).1=rq none)
theorem zpn (st:St):InI (rdI st).1:=by
 cases st with
 | none=>exact ⟨by decide,by decide⟩
 | some s =>
  cases hr:rdI (some s) with
  | mk v q =>
   cases q with
   | none=>rw [codI.nul s v hr];exact ⟨by decide,by decide⟩
   | some r=>exact (codI.once s v r hr).2
theorem zvG (st:St):InV (rdV st).1:=by
 cases st with
 | none=>exact ⟨⟨by decide,by decide⟩,⟨by decide,by decide⟩,⟨by decide,by decide⟩⟩
 | some s =>
  cases hr:rdV (some s) with
  | mk v q =>
   cases q with
   | none=>rw [codV.nul s v hr];exact ⟨⟨by decide,by decide⟩,⟨by decide,by decide⟩,⟨by decide,by decide⟩⟩
   | some r=>exact (codV.once s v r hr).2
theorem zsZ (st:St):InP (rdP st).1:=⟨zvG st,zpn _⟩
theorem zpo {α:Type} {rd:St→α×St} {p:α→Prop} (h:∀st,p (rd st).1):∀(n:Nat) (o:List α) (st:St),(∀x∈o,p x)→(∀x∈(rdN rd n o st).1,p x)∧(rdN rd n o st).1.length≤o.length+n
 | 0,o,st,ho=>⟨ho,Nat.le_refl _⟩
 | n+1,o,none,ho=>⟨ho,by show o.length≤_;omega⟩
 | n+1,o,some s,ho=>by
  rw [rdN]
  obtain ⟨h1,h2⟩:=zpo h n (o++[(rd (some s)).1]) (rd (some s)).2 fun x hx=>by
   rcases List.mem_append.1 hx with hx | hx
   ·exact ho x hx
   ·rw [List.mem_singleton.1 hx];exact h _
  refine ⟨h1,?_⟩
  rw [List.length_append,List.length_singleton] at h2
  omega
theorem zhi {α:Type} {rd:St→α×St} {p:α→Prop} (h:∀st,p (rd st).1) (st:St):(∀x∈(rdL rd st).1,p x)∧(rdL rd st).1.length≤leftN st:=by
 obtain ⟨h1,h2⟩:=zpo h (rdC st).1.toNat [] (rdC st).2 fun x hx=>by cases hx
 have h3:=zcI st
 have h4:=zcx st
 unfold rdL
 split
 ·exact ⟨fun x hx=>(by cases hx),Nat.zero_le _⟩
 ·refine ⟨h1,?_⟩
  show (rdN rd (rdC st).1.toNat [] (rdC st).2).1.length≤_
  rw [List.length_nil] at h2
  omega
theorem zqY {x:RR} (h:OkF x):encRS x=encR x:=by
 obtain ⟨h1,h2,_⟩:=h
 unfold encRS encR
 rw [if_pos]
 unfold okP at h1
 simp only [Bool.and_eq_true] at h1
 have h3:=h1.1.2
 unfold parR at h2
 rw [if_pos (by unfold okP;simp only [Bool.and_eq_true];exact h1)] at h2
 rw [h2] at h3
 exact h3
def callR (c:Int) (x:RS):RS:=if c=0 then (rfI x).2 else if c=1 then (rfT x).2 else if c=2 then (rfL rfI x).2 else if c=3 then (rfV x).2 else if c=4 then (rfL rfP x).2 else (rfR x).2
theorem zak (c:Int) {x:RS} (h:OkR x):OkR (callR c x)∧(callR c x).1=x.1:=by
 unfold callR
 split
 ·exact zlZ x h
 split
 ·exact ⟨zo2 h,zkF x h.1⟩
 split
 ·exact zpy zlZ h
 split
 ·exact ⟨zdP h,zkG x h.1⟩
 split
 ·exact zpy zrF h
 ·exact zrG x h
theorem zck (x:RS) (hx:okRS x):((rfI x).1,rst (rfI x).2)=rdI (rst x)∧okRS (rfI x).2:=⟨(zbh x hx).1,(zbh x hx).2.1⟩
theorem zbb (c:Int) {x:RS} (h:OkR x):rst (callR c x)=callS c (rst x):=by
 unfold callR callS
 split
 ·rw [← (zck x h.1).1]
 split
 ·rw [← (zf9 x h.1).1]
 split
 ·rw [← (zd9 zck x h.1).1]
 split
 ·rw [← (zga x h.1).1]
 split
 ·rw [← (zd9 zl2 x h.1).1]
 ·rw [← (zl3 x h.1).1]
end Go.Proofs.YtjcegdldgjphiaaGreatDoor
