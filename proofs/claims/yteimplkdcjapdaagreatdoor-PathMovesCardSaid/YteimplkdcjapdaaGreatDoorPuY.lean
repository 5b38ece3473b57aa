/-
  Merged: PvG, PvK.
-/
import Derived.Test.YteimplkdcjapdaaGreatDoorPuX
import Derived.Laws.MakeOwn
import Derived.Test.YteimplkdcjapdaaGreatDoorPuV
import Derived.Test.YteimplkdcjapdaaGreatDoorPuW
set_option linter.unusedSimpArgs false
set_option linter.unusedVariables false
set_option linter.unusedSectionVars false
set_option maxRecDepth 100000
set_option maxHeartbeats 4000000
namespace Go.Proofs.YteimplkdcjapdaaGreatDoor
open Go.RowKit
section
variable {w0:World} {K:Kit} {P:Program} {F:Fact}
theorem e_iaG {α:Type} {c:α→List Pred} {T E:TypeId} {y:Lf} {b z n k j:Nat} {i:Int} {l:List α} {a:α} (hT:P.underlying T=some (.slice E)) (hzz:szOf P E=some z) (hz:∀x,(c x).length=z) (h0:0<z) (hn:F.g n=pG c l) (hy:Gives F y (.int .i64 i)) (hi:i=(j:Int)) (hj:l[j]?=some a) (hk:F.c k=pI ((j*z:Nat):Int)):Ent.sound K P F (.op (.ia T) [LF (.gr b),LF y] [.gl b E z n] (LF (.pf b k))):=by
 subst hi
 have hj:=(List.getElem?_eq_some_iff.1 hj).1
 intro β W ws hs hp _
 match ws,hs with
 | [v,w],⟨g1,g2,_⟩ =>
  have g1:v=gv β b:=g1
  have g2:w=.int .i64 (j:Int):=(hy β w W).1 g2
  obtain ⟨cap,h⟩:=zlb hz h0 hn (hp _ (List.mem_cons_self ..))
  rcases h with ⟨_,_,rfl⟩ | ⟨g,cur,hb,hv,_⟩
  ·simp at hj
  ·rw [g1,g2,hv]
   refine ⟨.pointer (some ⟨g,j*z,none⟩),?_,g,j*z,hb,rfl,by rw [hk];rfl⟩
   simp only [Sig.sem,Instr.indexAt,Sem.run_bind,asIntOf,run_underlying hT,Result.andThen_ok,Sem.run_pure]
   rw [if_pos ⟨Int.natCast_nonneg j,Int.ofNat_lt.2 hj⟩,Sem.run_bind,qn hzz,Result.andThen_ok,Int.toNat_natCast,qW,Nat.zero_add];rfl
 | [],h=>exact h.elim
 | [_],h=>exact h.2.elim
 | _::_::_::_,h=>exact h.2.2.elim
theorem e_faF {T:TypeId} {b k k' m i off d0:Nat} (hT:P.underlying T=some (.struct (zbP P T))) (hd:((zbP P T)[i]?).map (fun d=>(d.offset,szOf P d.type))=some (d0,some (m+1))) (hk:F.c k=pI (off:Int)) (ho:F.c k'=pI ((off+d0:Nat):Int)):Ent.sound K P F (.op (.fa T i) [LF (.pf b k)] [] (LF (.pf b k'))):=by
 obtain ⟨d,h1,h2⟩:=Option.map_eq_some_iff.1 hd
 injection h2 with h2 h3
 intro β W vs hs _ _
 match vs,hs with
 | [v],⟨g1,_⟩ =>
  obtain ⟨q,o,g2,rfl,g3⟩:=g1
  rw [hk] at g3
  have g3:Value.int .i64 (o:Int)=.int .i64 (off:Int):=g3
  have e:o=off:=by injection g3 with _ g3;omega
  subst e
  refine ⟨.pointer (some ⟨q,o+d0,none⟩),?_,q,o+d0,g2,rfl,?_⟩
  ·simp only [Sig.sem,Instr.fieldAt,Sem.run_bind,run_underlying hT,Result.andThen_ok,h1,Instr.sureAddr,Sem.run_pure,fieldPlace,qn h3]
   rw [if_neg (by omega),qW,h2];rfl
  ·rw [ho];rfl
 | [],h=>exact h.elim
 | _::_::_,h=>exact h.2.elim
theorem pf_at {β:Loc} {W:World} {b k off:Nat} {v:Value} (hk:F.c k=pI (off:Int)) (h:(LF (.pf b k)).ok F β v W):∃q,β b=some q∧v=.pointer (some ⟨q,off,none⟩):=by
 obtain ⟨q,o,g2,rfl,g3⟩:=h
 rw [hk] at g3
 have g3:Value.int .i64 (o:Int)=.int .i64 (off:Int):=g3
 have e:o=off:=by injection g3 with _ g3;omega
 subst e
 exact ⟨q,g2,rfl⟩
theorem zvN {W:World} {T U:TypeId} {q i:Nat} {us:List Value} {vs:Array Value} (hz:szOf P T=some us.length) (hck:us.all K.ck=true) (hh:W.heap[q]?=some (.cells vs U (0,0))) (hl:i+us.length≤vs.size):∃W',(Instr.storeAt T (.pointer (some ⟨q,i,none⟩)) (.agg us.toArray)).run P W=.ok () W'∧Put q (.cells (spl vs.toList i us).toArray U (0,0)) W W':=by
 obtain ⟨W',hrun,hput⟩:=zgd (P:=P) (o:=i) us 0 W vs hh (by simpa using hl) (fun u hu=>zoY (List.all_eq_true.1 hck u hu))
 refine ⟨W',?_,hput⟩
 simp only [Instr.storeAt,Instr.sureAddr,Sem.run_bind,Sem.run_pure,Result.andThen_ok,storeVar,qn hz]
 have hc:(Value.agg us.toArray).cells=us.toArray:=rfl
 rw [hc,if_neg (by simp)]
 exact hrun
def m4 (m:Mov):List Pred:=[pI m.1,pI m.2.1.1,pI m.2.1.2.1,pI m.2.1.2.2]
def m3 (t:Vec):List Pred:=[pI t.1,pI t.2.1,pI t.2.2]
def mR (m:Mov):List Pred:=[pI m.2.2.2.1.1,pI m.2.2.2.1.2.1,pI m.2.2.2.1.2.2,pI m.2.2.2.2]
def toM (m:Mov) (t:Vec):Mov:=(m.1,m.2.1,t,m.2.2.2.1,m.2.2.2.2)
theorem zvj (m:Mov):cM m=m4 m++(m3 m.2.2.1++mR m):=rfl
theorem zvm {l:List Mov} {j:Nat} {m:Mov} (h:l[j]?=some m) (t:Vec):∃ps qs:List Pred,ps.length=j*11+4∧l.flatMap cM=ps++(m3 m.2.2.1++qs)∧(l.set j (toM m t)).flatMap cM=ps++(m3 t++qs):=by
 obtain ⟨hj,rfl⟩:=List.getElem?_eq_some_iff.1 h
 have e1:l=l.take j++l[j]::l.drop (j+1):=by rw [List.getElem_cons_drop,List.take_append_drop]
 have e2:l.set j (toM l[j] t)=l.take j++toM l[j] t::l.drop (j+1):=by rw [List.set_eq_take_append_cons_drop,if_pos hj]
 refine ⟨(l.take j).flatMap cM++m4 l[j],mR l[j]++(l.drop (j+1)).flatMap cM,?_,?_,?_⟩
 ·rw [List.length_append,qC (z:=11) (fun _=>rfl),List.length_take,Nat.min_eq_left (by omega)];rfl
 ·conv=>lhs;rw [e1]
  rw [List.flatMap_append,List.flatMap_cons,zvj]
  simp only [List.append_assoc]
 ·rw [e2,List.flatMap_append,List.flatMap_cons,zvj]
  simp only [List.append_assoc];rfl
theorem okl3 {W:World} {D:Dat} {t:Vec} {us:List Value} (h:okl (m3 t) us W D):us=[.int .i64 t.1,.int .i64 t.2.1,.int .i64 t.2.2]:=by
 match us,h with
 | [a,b,c],⟨h1,h2,h3,_⟩ =>
  have h1:a=.int .i64 t.1:=h1
  have h2:b=.int .i64 t.2.1:=h2
  have h3:c=.int .i64 t.2.2:=h3
  rw [h1,h2,h3]
theorem e_ldV {T E:TypeId} {b n k j r1 r2 r3:Nat} {l:List Mov} {m:Mov} (hz:szOf P T=some 3) (hA:aggOf P T=some true) (hn:F.g n=pG cM l) (hj:l[j]?=some m) (hk:F.c k=pI ((j*11+4:Nat):Int)) (h1:F.c r1=pI m.2.2.1.1) (h2:F.c r2=pI m.2.2.1.2.1) (h3:F.c r3=pI m.2.2.1.2.2):Ent.sound K P F (.op (.ld T) [LF (.pf b k)] [.gl b E 11 n] (.o (.g [.h r1,.h r2,.h r3]))):=by
 intro β W ws hs hp _
 match ws,hs with
 | [v],⟨g1,_⟩ =>
  obtain ⟨q,g2,rfl⟩:=pf_at hk g1
  obtain ⟨cap,h⟩:=zlb (z:=11) (fun _=>rfl) (by decide) hn (hp _ (List.mem_cons_self ..))
  have hjl:=(List.getElem?_eq_some_iff.1 hj).1
  rcases h with ⟨_,h4,_⟩ | ⟨g,cur,h4,_,h5,_,h6⟩
  ·rw [h4] at g2;cases g2
  rw [g2] at h4;injection h4 with h4;subst h4
  obtain ⟨ps,qs,p1,p2,_⟩:=zvm hj (0,0,0)
  rw [p2] at h6
  have h7:=(zfW (zfW h6).2).1
  have h8:((m3 m.2.2.1).length)=3:=rfl
  have hxl:=zK h6
  rw [← p2,qC (z:=11) (fun _=>rfl),List.length_take] at hxl
  have hcs:cur.toList.length=cur.size:=Array.length_toList
  rw [p1,h8,List.drop_take,List.take_take,Nat.min_eq_left (by omega)] at h7
  refine ⟨.agg ((cur.toList.drop (j*11+4)).take 3).toArray,?_,_,rfl,?_⟩
  ·simp only [Sig.sem,Instr.loadAt,Instr.sureAddr,Sem.run_bind,Sem.run_pure,Result.andThen_ok]
   exact zda hz hA h5 (by omega)
  ·rw [List.toList_toArray,okl3 h7]
   exact ⟨by show F.c r1 _ W β.D;rw [h1];rfl,by show F.c r2 _ W β.D;rw [h2];rfl,by show F.c r3 _ W β.D;rw [h3];rfl,trivial⟩
 | [],h=>exact h.elim
 | _::_::_,h=>exact h.2.elim
theorem zvW {α:Type} {l m:List α} {o N:Nat} (h:o+m.length≤N) (h2:o≤l.length):(spl l o m).take N=spl (l.take N) o m:=by
 unfold spl
 have hl1:(l.take o).length=o:=by rw [List.length_take];exact Nat.min_eq_left h2
 rw [List.take_append,hl1,List.take_append,List.take_of_length_le (l:=m) (by omega),List.take_of_length_le (l:=l.take o) (by omega),List.take_take,Nat.min_eq_left (by omega),List.drop_take,Nat.sub_sub]
theorem zwd {W:World} {D:Dat} {ps qs rs qs':List Pred} {vs us:List Value} (h:okl (ps++(qs++rs)) vs W D) (h2:okl qs' us W D) (hl:qs.length=qs'.length):okl (ps++(qs'++rs)) (spl vs ps.length us) W D:=by
 obtain ⟨a,b⟩:=zfW h
 obtain ⟨_,c⟩:=zfW b
 rw [List.drop_drop] at c
 refine qB a (qB h2 ?_)
 rw [zK h2,← hl];exact c
theorem e_stV {T E:TypeId} {b n n' k j r1 r2 r3:Nat} {l:List Mov} {m:Mov} {t:Vec} (hz:szOf P T=some 3) (hn:F.g n=pG cM l) (hj:l[j]?=some m) (hn':F.g n'=pG cM (l.set j (toM m t))) (hk:F.c k=pI ((j*11+4:Nat):Int)) (h1:F.c r1=pI t.1) (h2:F.c r2=pI t.2.1) (h3:F.c r3=pI t.2.2):Ent.sound (KN w0) P F (.st T [b] (LF (.pf b k)) (.o (.g [.h r1,.h r2,.h r3])) [.gl b E 11 n] [.gl b E 11 n']):=by
 intro β W vx vy hx hyv hp hg
 obtain ⟨q,g2,rfl⟩:=pf_at hk hx
 obtain ⟨us,rfl,hus⟩:=hyv
 have hul:us=[.int .i64 t.1,.int .i64 t.2.1,.int .i64 t.2.2].toArray:=by
  apply Array.ext'
  match hu:us.toList,hus with
  | [v1,v2,v3],⟨j1,j2,j3,_⟩ =>
   have j1:F.c r1 v1 W β.D:=j1
   have j2:F.c r2 v2 W β.D:=j2
   have j3:F.c r3 v3 W β.D:=j3
   rw [h1] at j1;rw [h2] at j2;rw [h3] at j3
   have j1:v1=.int .i64 t.1:=j1
   have j2:v2=.int .i64 t.2.1:=j2
   have j3:v3=.int .i64 t.2.2:=j3
   rw [j1,j2,j3]
 subst hul
 have hjl:=(List.getElem?_eq_some_iff.1 hj).1
 have hgl:GL (KN w0) F β b E 11 n W:=hp _ (List.mem_cons_self ..)
 obtain ⟨xs,k3,k4,k5⟩:=hgl
 rw [hn] at k4
 have hxl:=zK k4
 rw [qC (z:=11) (fun _=>rfl)] at hxl
 rcases k3.2 with ⟨_,h0⟩ | ⟨g,cap,cr,hv,hbb,hh,c1,c2,c3,c4⟩
 ·have:=k3.1;rw [h0] at this;omega
 have egq:g=q:=Option.some.inj ((show β b=some g by have:=zad (β:=β) (b:=b);rw [hv] at this;exact this.symm).symm.trans g2)
 subst egq
 obtain ⟨o,ho,hml⟩:=k5 _ g2
 rw [hh] at ho;injection ho with ho;subst ho
 simp only [ml,mlf,Bool.and_eq_true] at hml
 have hk1:=k3.1
 have hbs:glen β b*11≤cap*11:=Nat.mul_le_mul_right _ c1
 obtain ⟨W',hrun,hput⟩:=zvN (K:=KN w0) (P:=P) (T:=T) (us:=[.int .i64 t.1,.int .i64 t.2.1,.int .i64 t.2.2]) hz rfl hh (i:=j*11+4) (by simp only [List.length_cons,List.length_nil];omega)
 have hsl:(spl cr.toList (j*11+4) [Value.int .i64 t.1,.int .i64 t.2.1,.int .i64 t.2.2]).length=cr.toList.length:=zjL (by simp only [List.length_cons,List.length_nil,Array.length_toList];omega)
 have hmlq:∀r,r=g→Mlq (KN w0) β.D W r:=by
  rintro r rfl
  exact ⟨hbb,hg.dis b r g2,_,hh,by simp only [ml,mlf,hml.1,hml.2,Bool.and_true]⟩
 have htk:(spl cr.toList (j*11+4) [Value.int .i64 t.1,.int .i64 t.2.1,.int .i64 t.2.2]).take (glen β b*11)=spl xs (j*11+4) [.int .i64 t.1,.int .i64 t.2.1,.int .i64 t.2.2]:=by
  rw [← c4];exact zvW (by simp only [List.length_cons,List.length_nil];omega) (by simp only [Array.length_toList];omega)
 refine ⟨W',hrun,hput.oth.mono (fun r hr=>⟨b,by simp,by rw [hr];exact g2⟩),fun z hz=>?_⟩
 obtain rfl:=List.mem_singleton.1 hz
 refine ⟨spl xs (j*11+4) [.int .i64 t.1,.int .i64 t.2.1,.int .i64 t.2.2],⟨?_,.inr ⟨g,cap,_,hv,hbb,hput.here,c1,c2,by rw [List.size_toArray,hsl,Array.length_toList];exact c3,htk⟩⟩,?_,fun r hr=>?_⟩
 ·rw [← hk1];exact zjL (by simp only [List.length_cons,List.length_nil];omega)
 ·rw [hn']
  have k6:=(qc (K:=KN w0) (fun x=>qK x) (l:=l)).mv hmlq hput.oth (fun _ h=>h) k4
  obtain ⟨ps,qs,p1,p2,p3⟩:=zvm hj t
  show okl ((l.set j (toM m t)).flatMap cM) _ W' β.D
  have k6:okl (l.flatMap cM) xs W' β.D:=k6
  rw [p2] at k6
  rw [p3,← p1]
  exact zwd k6 ⟨rfl,rfl,rfl,trivial⟩ rfl
 ·have er:g=r:=Option.some.inj (g2.symm.trans hr)
  subst er
  exact ⟨_,hput.here,by simp only [ml,mlf,hml.1,Bool.true_and];exact zqK hml.2 rfl⟩
end
section
variable {F:Fact} {K:Kit}
def cLM (x:List Mov):List Pred:=[pLs cM x]
def kLM (x:List Mov):List SV:=[.ls 11 cM kM x]
instance {w0:World} {x:List Mov}:FiL (KN w0) (kLM x):=inferInstanceAs (FiL (KN w0) [_])
instance {w0:World} {xs:List (List Mov)}:Fi (KN w0) (.ls 1 cLM kLM xs):=fi_ls (fun _=>rfl) (fun _=>inferInstance) (fun _=>rfl)
def zM:Mov:=(0,(0,0,0),(0,0,0),(0,0,0),0)
theorem zvC {W:World} {D:Dat} {p:Pred} {v:Value} (h:p v W D):∀n,okl (List.replicate n p) (List.replicate n v) W D
 | 0=>trivial
 | n+1=>⟨h,zvC h n⟩
theorem zvy:∀n,(List.replicate n zM).flatMap cM=List.replicate (n*11) (pI 0)
 | 0=>rfl
 | n+1=>by
  rw [List.replicate_succ,List.flatMap_cons,zvy n,Nat.add_mul,Nat.add_comm,← List.replicate_append_replicate];rfl
theorem zvU (v:Value) (m n:Nat) (h0:0<m):(madeCells (List.replicate m v).toArray n).toList=List.replicate n v:=by
 apply List.ext_getElem?
 intro i
 rw [List.getElem?_replicate]
 by_cases h:i<n
 ·have h2:i%m<m:=Nat.mod_lt _ h0
  simp [madeCells,h,h2]
 ·rw [if_neg h,List.getElem?_eq_none (by rw [Array.length_toList,size_madeCells];omega)]
theorem zv8 {n:Nat} (hn:F.c n=pLs cM (List.replicate 41 zM)):Ent.sound K Tryz.prog F (.mks 36 (LF (.k (.int .i64 41))) (LF (.k (.int .i64 41))) (LF (.h n))):=by
 intro β W vl vc hl hc hg
 have hl:vl=.int .i64 41:=hl
 have hc:vc=.int .i64 41:=hc
 subst hl hc
 have hi:(Tryz.prog.info? 45).map (fun i=>(i.zero.map (fun z=>z.cells.toList),i.size,i.bytes))=some (some (List.replicate 11 (.int .i64 0)),11,88):=by kernel_rfl
 obtain ⟨i,hi,hzz⟩:=Option.map_eq_some_iff.1 hi
 simp only [Prod.mk.injEq] at hzz
 obtain ⟨h1,h2,h3⟩:=hzz
 obtain ⟨z,hz,hzc⟩:=Option.map_eq_some_iff.1 h1
 have hzc:z.cells=(List.replicate 11 (Value.int .i64 0)).toArray:=Array.ext' (by rw [hzc])
 have hrun:=run_make (P:=Tryz.prog) W 36 45 i z (by kernel_rfl) hi hz .i64 .i64 41 41 (by omega) (by omega) (by rw [h3];decide) (by omega)
 rw [h2,hzc] at hrun
 refine ⟨_,fun q=>β.D q∨q=W.heap.size,_,hrun,?_,fun q hq=>.inl hq,fun q hq=>hq.imp id fun e=>?_,?_⟩
 ·exact ⟨rfl,rfl,rfl,by show W.heap.size≤(W.heap.push _).size;rw [Array.size_push];omega,fun k hk _=>by show (W.heap.push _)[k]?=_;rw [Array.getElem?_push,if_neg (Nat.ne_of_lt hk)]⟩
 ·subst e;exact ⟨Nat.le_refl _,by show _<(W.heap.push _).size;rw [Array.size_push];omega⟩
 ·show F.c n _ _ _
  rw [hn]
  refine .inr ⟨W.heap.size,0,41,45,_,_,rfl,.inr rfl,heap_alloc_new W _,?_,by decide⟩
  rw [zvy,List.drop_zero]
  unfold okp
  rw [show (41:Int).toNat*11=451 from rfl,zvU _ _ _ (by decide),List.length_replicate,List.take_replicate]
  exact zvC rfl _
end
end Go.Proofs.YteimplkdcjapdaaGreatDoor
set_option synthInstance.maxSize 2000
set_option synthInstance.maxHeartbeats 400000
namespace Go.Proofs.YteimplkdcjapdaaGreatDoor
open Go.RowKit
theorem lp_of {K:Kit} {P:Program} {f:FuncId} {pm:Pm} {S:LoopS} {i:Nat} {E E':Ev} (h:LpH K P f pm S i E) (e:E'=E):LpH K P f pm S i E':=e ▸ h
theorem zuk {l:List (List Int)} {p:Vec} {r:List Mov} (e:zui (l.take 6) p=r):r.length≤6:=by
 rw [← e];exact Nat.le_trans zuz (by rw [List.length_take];omega)
theorem zuB {raw r:List Mov} {n:Nat} {v5 v6:Int} (e5:(raw.length:Int)=v5) (e6:(if (4:Int)<v5 then (4:Int) else v5)=v6) (s8:v6=(n:Int)) (e9:raw.take n=r):r.length≤4:=by
 rw [← e9,List.length_take]
 split at e6<;>omega
theorem zuq {a b c:List Mov} {n m:Nat} (e:a++b=c) (ha:a.length≤n) (hb:b.length≤m):c.length≤n+m:=by
 rw [← e,List.length_append];omega
theorem all5 {a b c d:List Mov} {v:List (List Mov)} (h:[a,b,c,d,List.replicate 41 zM]=v) (ha:a.length≤6) (hb:b.length≤6) (hc:c.length≤4) (hd:d.length≤10):v.length≤5∧∀x∈v,x.length≤41:=by
 subst h
 refine ⟨Nat.le_refl _,fun x hx=>?_⟩
 simp only [List.mem_cons,List.not_mem_nil,or_false] at hx
 rcases hx with rfl | rfl | rfl | rfl | rfl
 ·omega
 ·omega
 ·omega
 ·omega
 ·rw [List.length_replicate];omega
theorem zvz {st a b:Int} {x:List Mov} {v:List Int} (hst:st<9223372036854775808) (hx:x.length≤41) (ea:modX st 60=a) (eb:zjl x=b) (e:[st,a,b,0]=v):(∀y∈v,y<9223372036854775808)∧v.length=4:=by
 subst e
 refine ⟨fun y hy=>?_,rfl⟩
 have h1:=zql (n:=st) (m:=60) (by decide) (by decide)
 have h2:=ztq x
 have h3:b≤48*(x.length:Int):=by
  rw [← eb];unfold zjl
  split<;>omega
 simp only [List.mem_cons,List.not_mem_nil,or_false] at hy
 rcases hy with rfl | rfl | rfl | rfl
 ·exact hst
 ·omega
 ·omega
 ·omega
theorem neI {a b x:Int} {v:Bool} (e:(a != b)=v) (h1:x=a) (h2:x=b):v=false:=by
 rw [← e,← h1,← h2];exact bne_self_eq_false _
theorem neB {a b x:Bool} {v:Bool} (e:(!(a == b))=v) (h1:x=a) (h2:x=b):v=false:=by
 rw [← e,← h1,← h2,beq_self_eq_true];rfl
theorem at_of {a w u q:Int} {l:List Mov} (ha:0≤a∧a<256) (e1:IntKind.i64.wrap a=w) (e2:(l.length:Int)=u) (e3:w.tmod u=q) (h:u≠0):∃(n:Nat) (x:Mov),q=(n:Int)∧l[n]?=some x:=by
 rw [← e1,wri (by omega),Int.tmod_eq_emod_of_nonneg ha.1] at e3
 have h1:=Int.emod_nonneg a h
 have h2:=Int.emod_lt_of_pos a (show 0<u by omega)
 rw [e3] at h1 h2
 have hlt:q.toNat<l.length:=by omega
 exact ⟨q.toNat,_,by omega,List.getElem?_eq_getElem hlt⟩
def zuR:List Atom:=[.sl 3 3,.sl 9 (.o (.c (.k (.bool true)))),.sl 14 38,.sl 68 33,.sl 69 34,.sl 70 35,.sl 91 47,.sl 92 48,.sl 93 49]
def zvJ:LoopS:=⟨14,zuR.map (tnA (jf (hZ 49 [kI 0])) (kf [0,1,2,3,4,5]) (kf [])),(.x 2),(drs [8] zuR)⟩
def zwA:Tr:=.s [(0,.fb 10 true),(0,.fb 36 true),(0,.fb 41 false),(0,.fb 44 false),(7000,.bin .lss 3 49 48)] (.b 50 (.s [(7001,.ia 24 3 1 47 49),(7002,.ld 3 0 51),(7006,.call 26 [38,52] (.t [.c,.c,.c])),(7016,.call 27 [38,52] (.t [.c,.c,.c])),(7026,.bin .neq 3 53 56),(0,.fb 59 false),(7030,.bin .neq 3 54 57),(0,.fb 60 false),(0,.raw [(1007035,.bin .neq 4 55 58 61)] 1),(0,.fb 61 false),(7037,.bin .add 3 49 (kI 1))] (.z (.nx (hZ 49 [62]) [0,1,2,3,4,5] []))) (.z (.xt (.x 2) (hZ 49 []) [0,1,2,3,4,5] [])))
theorem zwj {w0:World} (l:(List (List Int))) (a8:Int) (raw:(List Mov)) (st:Int) (v1:(List (List Int))) (v3:(List Mov)) (v5:Int) (v6:Int) (n7:Nat) (v9:(List Mov)) (v11:(List Mov)) (v13:Int) (v14:Bool) (v16:Int) (v17:Int) (v18:Int) (n20:Nat) (x21:Mov) (v24:Int) (v25:Int) (v26:Int) (v27:Vec) (v28:Vec) (v29:(List Mov)) (v30:(List Mov)) (v32:(List Mov)) (v34:(List (List Mov))) (v35:Int) (i:Int) (v501:Bool) (n503:Nat) (x504:(List Mov)) (v507:Int) (v509:Int) (v511:Bool) (v513:Int) (v516:Int) (v518:Bool) (v520:Int) (v521:Int) (v523:(List Int)) (v524:Int) (h15:v14=true) (h502:v501=true) (s512:v511=false) (s519:v518=false) (hx:x504.length≤41) (hs:(∀y∈v523,y<9223372036854775808)∧v523.length=4) (hlen2:(v523.length:Int)=v524):LpH (KN w0) Tryz.prog 4 ⟨ntOf Tryz.prog 4,[],[]⟩ zvJ 1 ⟨49,[sI v524,.ls 1 cI kIc v523,sI v521,sI v520,sB v518,sI v516,sI v513,sB v511,sI v509,sI v507,.ls 11 cM kM x504,.p (kLM x504),sB v501,sI i,sI v35,.ls 1 cLM kLM v34,.ls 11 cM kM (List.replicate 41 zM),.ls 11 cM kM v32,.ls 11 cM kM v29,sI ((n20*11+4:Nat):Int),sI ((n20*11:Nat):Int),sI v28.2.2,sI v28.2.1,sI v28.1,sI v27.2.2,sI v27.2.1,sI v27.1,sI v26,sI v25,sI v24,sI x21.2.2.1.2.2,sI x21.2.2.1.2.1,sI x21.2.2.1.1,sI ((n20*11+4:Nat):Int),sI ((n20*11:Nat):Int),sI v18,sI v17,sI v16,sB v14,sI v13,.ls 11 cM kM v9,sI v6,sI v5,.ls 11 cM kM v3,.ls 1 cLI kLI v1,sI st,.ls 11 cM kM raw,.v (.int .u8 a8),.ls 1 cLI kLI l],[pG cM ([]:List Mov),pG cM v11,pG cM v29,pG cM ([]:List Mov),pG cM v30,pG cM v32],[]⟩:=by
 refine zi _ ⟨zuR,zvJ,(50,6,0),(49,6,0),7000⟩ (T:=Int) (fun t=>⟨50,[sI t,sI v524,.ls 1 cI kIc v523,sI v521,sI v520,sB v518,sI v516,sI v513,sB v511,sI v509,sI v507,.ls 11 cM kM x504,.p (kLM x504),sB v501,sI i,sI v35,.ls 1 cLM kLM v34,.ls 11 cM kM (List.replicate 41 zM),.ls 11 cM kM v32,.ls 11 cM kM v29,sI ((n20*11+4:Nat):Int),sI ((n20*11:Nat):Int),sI v28.2.2,sI v28.2.1,sI v28.1,sI v27.2.2,sI v27.2.1,sI v27.1,sI v26,sI v25,sI v24,sI x21.2.2.1.2.2,sI x21.2.2.1.2.1,sI x21.2.2.1.1,sI ((n20*11+4:Nat):Int),sI ((n20*11:Nat):Int),sI v18,sI v17,sI v16,sB v14,sI v13,.ls 11 cM kM v9,sI v6,sI v5,.ls 11 cM kM v3,.ls 1 cLI kLI v1,sI st,.ls 11 cM kM raw,.v (.int .u8 a8),.ls 1 cLI kLI l],[pG cM ([]:List Mov),pG cM v11,pG cM v29,pG cM ([]:List Mov),pG cM v30,pG cM v32],[]⟩) (fun j=>∃k:Nat,j=(k:Int)∧k≤v523.length) (fun j=>((v523.length:Int) - j).toNat) (0:Int) (hZ 49 [kI 0]) [0,1,2,3,4,5] [] zwA mixed ⟨0,rfl,Nat.zero_le _⟩ rfl rfl rfl rfl (fun _=>rfl) rfl rfl (by kernel_rfl) ?_
 intro j hJ
 obtain ⟨k,hi,hk⟩:=hJ
 refine ai h15 ?_
 refine ai h502 ?_
 refine ai s512 ?_
 refine ai s519 ?_
 intro v1001 e1001
 refine ai (fun h1002=>?_) fun h1002=>?_
 ·
  have dh1002:=LD e1001 h1002
  refine ai (by (have hz:=hlen2;have hlt:k<v523.length:=(by omega);exact ⟨k,_,hi,List.getElem?_eq_getElem hlt⟩)) fun n1003 x1004 s1005 s1006=>?_
  obtain ⟨v1007,e1007⟩:=LX ((findP x504 x1004).1)
  obtain ⟨v1008,e1008⟩:=LX ((findP x504 x1004).2.1)
  obtain ⟨v1009,e1009⟩:=LX ((findP x504 x1004).2.2)
  have s1010:x504.length<9223372036854775808:=by omega
  have s1011:∀x∈x504,goodM x:=by exact fun _ _=>trivial
  have s1012:x1004<9223372036854775808:=by exact hs.1 _ (List.mem_of_getElem? s1006)
  refine cx (.t [.c (sI v1007),.c (sI v1008),.c (sB v1009)]) (zmy x504 x1004 v1007 v1008 v1009 e1007 e1008 e1009 s1010 s1011 s1012) rfl ?_
  obtain ⟨v1013,e1013⟩:=LX ((findP x504 x1004).1)
  obtain ⟨v1014,e1014⟩:=LX ((findP x504 x1004).2.1)
  obtain ⟨v1015,e1015⟩:=LX ((findP x504 x1004).2.2)
  have s1016:x504.length<9223372036854775808:=by omega
  have s1017:x1004<9223372036854775808:=by exact hs.1 _ (List.mem_of_getElem? s1006)
  refine cx (.t [.c (sI v1013),.c (sI v1014),.c (sB v1015)]) (zvr x504 x1004 v1013 v1014 v1015 e1013 e1014 e1015 s1016 s1017) rfl ?_
  intro v1018 e1018
  have s1019:v1018=false:=by exact neI e1018 e1007 e1013
  refine ai s1019 ?_
  intro v1020 e1020
  have s1021:v1020=false:=by exact neI e1020 e1008 e1014
  refine ai s1021 ?_
  obtain ⟨v1022,e1022⟩:=LX (!(v1009 == v1015))
  refine rx [sB v1022] [] [] (fun t u w=>⟨e_bin (za rfl) (za rfl) (za rfl) (fun W X Y=>by rw [← e1022];exact r_bne (by kernel_rfl) W X Y),trivial⟩) ?_
  have s1023:v1022=false:=by exact neB e1022 e1009 e1015
  refine ai s1023 ?_
  intro v1024 e1024
  refine nxl v1024 ?_ ?_ rfl
  all_goals (have hz:=hlen2;have hq:=hs.2;have x3:v1024=((k+1:Nat):Int):=(by rw [← e1024,hi,wri (by omega)];omega))
  ·show ((v523.length:Int) - v1024).toNat<((v523.length:Int) - j).toNat
   omega
  ·exact ⟨k+1,x3,by omega⟩
 ·
  rfl
def zuQ:List Atom:=[.sl 3 3,.sl 9 (.o (.c (.k (.bool true)))),.sl 68 33,.sl 69 34,.sl 70 35]
def zvI:LoopS:=⟨9,zuQ.map (tnA (jf (hZ 35 [kI 0])) (kf [0,1,2,3,4,5]) (kf [])),(.x 0),(drs [4] zuQ)⟩
def zwz:Tr:=.s [(0,.fb 10 true),(5000,.bin .lss 3 35 34)] (.b 36 (.s [(5001,.ia 47 36 1 33 35),(5002,.ld 36 0 37),(5005,.call 22 [38] (.o .c)),(5007,.call 23 [38] (.o .c)),(5008,.bin .neq 37 39 40),(0,.fb 41 false),(5011,.call 24 [38] (.o .c)),(5013,.call 25 [38] (.o .c)),(5014,.bin .neq 3 42 43),(0,.fb 44 false),(5018,.call 14 [3,LF (kI 60)] (.o .c)),(5020,.call 25 [38] (.o .c)),(0,.raw [(1005021,.dat 3 4 [.h 3,.h 45,.h 46,.k (.int .i64 0)] 47)] 1),(5022,.ln 24 3 47),(0,.lp zvJ 1 0),(6024,.bin .add 3 35 (kI 1))] (.z (.nx (hZ 35 [49]) [0,1,2,3,4,5] []))) (.z (.xt (.x 0) (hZ 35 []) [0,1,2,3,4,5] [])))
theorem zwi {w0:World} (l:(List (List Int))) (a8:Int) (raw:(List Mov)) (st:Int) (v1:(List (List Int))) (v3:(List Mov)) (v5:Int) (v6:Int) (n7:Nat) (v9:(List Mov)) (v11:(List Mov)) (v13:Int) (v14:Bool) (v16:Int) (v17:Int) (v18:Int) (n20:Nat) (x21:Mov) (v24:Int) (v25:Int) (v26:Int) (v27:Vec) (v28:Vec) (v29:(List Mov)) (v30:(List Mov)) (v32:(List Mov)) (v34:(List (List Mov))) (v35:Int) (h15:v14=true) (hlen:(v34.length:Int)=v35) (hb:v34.length≤5∧∀x∈v34,x.length≤41) (hst:st<9223372036854775808):LpH (KN w0) Tryz.prog 4 ⟨ntOf Tryz.prog 4,[],[]⟩ zvI 0 ⟨35,[sI v35,.ls 1 cLM kLM v34,.ls 11 cM kM (List.replicate 41 zM),.ls 11 cM kM v32,.ls 11 cM kM v29,sI ((n20*11+4:Nat):Int),sI ((n20*11:Nat):Int),sI v28.2.2,sI v28.2.1,sI v28.1,sI v27.2.2,sI v27.2.1,sI v27.1,sI v26,sI v25,sI v24,sI x21.2.2.1.2.2,sI x21.2.2.1.2.1,sI x21.2.2.1.1,sI ((n20*11+4:Nat):Int),sI ((n20*11:Nat):Int),sI v18,sI v17,sI v16,sB v14,sI v13,.ls 11 cM kM v9,sI v6,sI v5,.ls 11 cM kM v3,.ls 1 cLI kLI v1,sI st,.ls 11 cM kM raw,.v (.int .u8 a8),.ls 1 cLI kLI l],[pG cM ([]:List Mov),pG cM v11,pG cM v29,pG cM ([]:List Mov),pG cM v30,pG cM v32],[]⟩:=by
 refine zi _ ⟨zuQ,zvI,(36,6,0),(35,6,0),5000⟩ (T:=Int) (fun t=>⟨36,[sI t,sI v35,.ls 1 cLM kLM v34,.ls 11 cM kM (List.replicate 41 zM),.ls 11 cM kM v32,.ls 11 cM kM v29,sI ((n20*11+4:Nat):Int),sI ((n20*11:Nat):Int),sI v28.2.2,sI v28.2.1,sI v28.1,sI v27.2.2,sI v27.2.1,sI v27.1,sI v26,sI v25,sI v24,sI x21.2.2.1.2.2,sI x21.2.2.1.2.1,sI x21.2.2.1.1,sI ((n20*11+4:Nat):Int),sI ((n20*11:Nat):Int),sI v18,sI v17,sI v16,sB v14,sI v13,.ls 11 cM kM v9,sI v6,sI v5,.ls 11 cM kM v3,.ls 1 cLI kLI v1,sI st,.ls 11 cM kM raw,.v (.int .u8 a8),.ls 1 cLI kLI l],[pG cM ([]:List Mov),pG cM v11,pG cM v29,pG cM ([]:List Mov),pG cM v30,pG cM v32],[]⟩) (fun i=>∃k:Nat,i=(k:Int)∧k≤v34.length) (fun i=>((v34.length:Int) - i).toNat) (0:Int) (hZ 35 [kI 0]) [0,1,2,3,4,5] [] zwz mixed ⟨0,rfl,Nat.zero_le _⟩ rfl rfl rfl rfl (fun _=>rfl) rfl rfl (by kernel_rfl) ?_
 intro i hJ
 obtain ⟨k,hi,hk⟩:=hJ
 refine ai h15 ?_
 intro v501 e501
 refine ai (fun h502=>?_) fun h502=>?_
 ·
  have dh502:=LD e501 h502
  refine ai (by (have hz:=hlen;have hlt:k<v34.length:=(by omega);exact ⟨k,_,hi,List.getElem?_eq_getElem hlt⟩)) fun n503 x504 s505 s506=>?_
  obtain ⟨v507,e507⟩:=LX (chkP x504)
  have s508:x504.length<9223372036854775808:=by (have:=hb.2 _ (List.mem_of_getElem? s506);omega)
  refine cx (.o (.c (sI v507))) (zpL x504 v507 e507 s508) rfl ?_
  obtain ⟨v509,e509⟩:=LX (chkP x504)
  have s510:x504.length<9223372036854775808:=by (have:=hb.2 _ (List.mem_of_getElem? s506);omega)
  refine cx (.o (.c (sI v509))) (zuU x504 v509 e509 s510) rfl ?_
  intro v511 e511
  have s512:v511=false:=by exact neI e511 e507 e509
  refine ai s512 ?_
  obtain ⟨v513,e513⟩:=LX (zjl x504)
  have s514:x504.length<9223372036854775808:=by (have:=hb.2 _ (List.mem_of_getElem? s506);omega)
  have s515:∀x∈x504,goodM x:=by exact fun _ _=>trivial
  refine cx (.o (.c (sI v513))) (zou x504 v513 e513 s514 s515) rfl ?_
  obtain ⟨v516,e516⟩:=LX (zjl x504)
  have s517:x504.length<9223372036854775808:=by (have:=hb.2 _ (List.mem_of_getElem? s506);omega)
  refine cx (.o (.c (sI v516))) (zux x504 v516 e516 s517) rfl ?_
  intro v518 e518
  have s519:v518=false:=by exact neI e518 e513 e516
  refine ai s519 ?_
  obtain ⟨v520,e520⟩:=LX (modX st (60:Int))
  refine cx (.o (.c (sI v520))) (x_mod st (60:Int) v520 e520) rfl ?_
  obtain ⟨v521,e521⟩:=LX (zjl x504)
  have s522:x504.length<9223372036854775808:=by (have:=hb.2 _ (List.mem_of_getElem? s506);omega)
  refine cx (.o (.c (sI v521))) (zux x504 v521 e521 s522) rfl ?_
  obtain ⟨v523,e523⟩:=LX (([st,v520,v521,(0:Int)]:List Int))
  refine rx [.ls 1 cI kIc v523] [] [] (fun t u w=>⟨e_dat (c:=cI) (l:=([st,v520,v521,(0:Int)]:List Int)) (ps:=(pI st::pI v520::pI v521::pV (.int .i64 0)::[])) (qs:=(pI st::pI v520::pI v521::pI (0:Int)::[])) (by rw [e523];kernel_rfl) rfl (by kernel_rfl) rfl (pimps (fun _ _ _ h=>h) <| pimps (fun _ _ _ h=>h) <| pimps (fun _ _ _ h=>h) <| pimps (fun _ _ _ h=>h) <| ze) rfl,trivial⟩) ?_
  intro v524 e524
  refine rx [] [] [] (zwj l a8 raw st v1 v3 v5 v6 n7 v9 v11 v13 v14 v16 v17 v18 n20 x21 v24 v25 v26 v27 v28 v29 v30 v32 v34 v35 i v501 n503 x504 v507 v509 v511 v513 v516 v518 v520 v521 v523 v524 h15 h502 s512 s519   (hb.2 _ (List.mem_of_getElem? s506)) (zvz hst (hb.2 _ (List.mem_of_getElem? s506)) e520 e521 e523) e524) ?_
  intro v525 e525
  refine nxl v525 ?_ ?_ rfl
  all_goals (have hz:=hlen;have hq:=hb.1;have x3:v525=((k+1:Nat):Int):=(by rw [← e525,hi,wri (by omega)];omega))
  ·show ((v34.length:Int) - v525).toNat<((v34.length:Int) - i).toNat
   omega
  ·exact ⟨k+1,x3,by omega⟩
 ·
  rfl
def zuM:List Atom:=[.sl 3 3,.sl 9 (.o (.c (.k (.bool true)))),.sl 14 19,.sl 68 14,.sl 69 15,.sl 70 16,.sl 91 28,.sl 92 29,.sl 93 30]
def zvE:LoopS:=⟨14,zuM.map (tnA (jf (hZ 30 [kI 0])) (kf [0,1,2,3,4]) (kf [])),(.x 2),(drs [8] zuM)⟩
def zwt:Tr:=.s [(0,.fb 10 false),(0,.fb 17 true),(0,.fb 22 false),(0,.fb 25 false),(10000,.bin .lss 3 30 29)] (.b 31 (.s [(10001,.ia 24 3 1 28 30),(10002,.ld 3 0 32),(10006,.call 26 [19,33] (.t [.c,.c,.c])),(10016,.call 27 [19,33] (.t [.c,.c,.c])),(10026,.bin .neq 3 34 37),(0,.fb 40 false),(10030,.bin .neq 3 35 38),(0,.fb 41 false),(0,.raw [(1010035,.bin .neq 4 36 39 42)] 1),(0,.fb 42 false),(10037,.bin .add 3 30 (kI 1))] (.z (.nx (hZ 30 [43]) [0,1,2,3,4] []))) (.z (.xt (.x 2) (hZ 30 []) [0,1,2,3,4] [])))
theorem zwh {w0:World} (l:(List (List Int))) (a8:Int) (raw:(List Mov)) (st:Int) (v1:(List (List Int))) (v3:(List Mov)) (v5:Int) (v6:Int) (n7:Nat) (v9:(List Mov)) (v11:(List Mov)) (v13:Int) (v14:Bool) (v16:(List Mov)) (v18:(List Mov)) (v20:(List (List Mov))) (v21:Int) (i:Int) (v501:Bool) (n503:Nat) (x504:(List Mov)) (v507:Int) (v509:Int) (v511:Bool) (v513:Int) (v516:Int) (v518:Bool) (v520:Int) (v521:Int) (v523:(List Int)) (v524:Int) (h15:v14=false) (h502:v501=true) (s512:v511=false) (s519:v518=false) (hx:x504.length≤41) (hs:(∀y∈v523,y<9223372036854775808)∧v523.length=4) (hlen2:(v523.length:Int)=v524):LpH (KN w0) Tryz.prog 4 ⟨ntOf Tryz.prog 4,[],[]⟩ zvE 1 ⟨30,[sI v524,.ls 1 cI kIc v523,sI v521,sI v520,sB v518,sI v516,sI v513,sB v511,sI v509,sI v507,.ls 11 cM kM x504,.p (kLM x504),sB v501,sI i,sI v21,.ls 1 cLM kLM v20,.ls 11 cM kM (List.replicate 41 zM),.ls 11 cM kM v18,.ls 11 cM kM v11,sB v14,sI v13,.ls 11 cM kM v9,sI v6,sI v5,.ls 11 cM kM v3,.ls 1 cLI kLI v1,sI st,.ls 11 cM kM raw,.v (.int .u8 a8),.ls 1 cLI kLI l],[pG cM ([]:List Mov),pG cM v11,pG cM ([]:List Mov),pG cM v16,pG cM v18],[]⟩:=by
 refine zi _ ⟨zuM,zvE,(31,5,0),(30,5,0),10000⟩ (T:=Int) (fun t=>⟨31,[sI t,sI v524,.ls 1 cI kIc v523,sI v521,sI v520,sB v518,sI v516,sI v513,sB v511,sI v509,sI v507,.ls 11 cM kM x504,.p (kLM x504),sB v501,sI i,sI v21,.ls 1 cLM kLM v20,.ls 11 cM kM (List.replicate 41 zM),.ls 11 cM kM v18,.ls 11 cM kM v11,sB v14,sI v13,.ls 11 cM kM v9,sI v6,sI v5,.ls 11 cM kM v3,.ls 1 cLI kLI v1,sI st,.ls 11 cM kM raw,.v (.int .u8 a8),.ls 1 cLI kLI l],[pG cM ([]:List Mov),pG cM v11,pG cM ([]:List Mov),pG cM v16,pG cM v18],[]⟩) (fun j=>∃k:Nat,j=(k:Int)∧k≤v523.length) (fun j=>((v523.length:Int) - j).toNat) (0:Int) (hZ 30 [kI 0]) [0,1,2,3,4] [] zwt mixed ⟨0,rfl,Nat.zero_le _⟩ rfl rfl rfl rfl (fun _=>rfl) rfl rfl (by kernel_rfl) ?_
 intro j hJ
 obtain ⟨k,hi,hk⟩:=hJ
 refine ai h15 ?_
 refine ai h502 ?_
 refine ai s512 ?_
 refine ai s519 ?_
 intro v1001 e1001
 refine ai (fun h1002=>?_) fun h1002=>?_
 ·
  have dh1002:=LD e1001 h1002
  refine ai (by (have hz:=hlen2;have hlt:k<v523.length:=(by omega);exact ⟨k,_,hi,List.getElem?_eq_getElem hlt⟩)) fun n1003 x1004 s1005 s1006=>?_
  obtain ⟨v1007,e1007⟩:=LX ((findP x504 x1004).1)
  obtain ⟨v1008,e1008⟩:=LX ((findP x504 x1004).2.1)
  obtain ⟨v1009,e1009⟩:=LX ((findP x504 x1004).2.2)
  have s1010:x504.length<9223372036854775808:=by omega
  have s1011:∀x∈x504,goodM x:=by exact fun _ _=>trivial
  have s1012:x1004<9223372036854775808:=by exact hs.1 _ (List.mem_of_getElem? s1006)
  refine cx (.t [.c (sI v1007),.c (sI v1008),.c (sB v1009)]) (zmy x504 x1004 v1007 v1008 v1009 e1007 e1008 e1009 s1010 s1011 s1012) rfl ?_
  obtain ⟨v1013,e1013⟩:=LX ((findP x504 x1004).1)
  obtain ⟨v1014,e1014⟩:=LX ((findP x504 x1004).2.1)
  obtain ⟨v1015,e1015⟩:=LX ((findP x504 x1004).2.2)
  have s1016:x504.length<9223372036854775808:=by omega
  have s1017:x1004<9223372036854775808:=by exact hs.1 _ (List.mem_of_getElem? s1006)
  refine cx (.t [.c (sI v1013),.c (sI v1014),.c (sB v1015)]) (zvr x504 x1004 v1013 v1014 v1015 e1013 e1014 e1015 s1016 s1017) rfl ?_
  intro v1018 e1018
  have s1019:v1018=false:=by exact neI e1018 e1007 e1013
  refine ai s1019 ?_
  intro v1020 e1020
  have s1021:v1020=false:=by exact neI e1020 e1008 e1014
  refine ai s1021 ?_
  obtain ⟨v1022,e1022⟩:=LX (!(v1009 == v1015))
  refine rx [sB v1022] [] [] (fun t u w=>⟨e_bin (za rfl) (za rfl) (za rfl) (fun W X Y=>by rw [← e1022];exact r_bne (by kernel_rfl) W X Y),trivial⟩) ?_
  have s1023:v1022=false:=by exact neB e1022 e1009 e1015
  refine ai s1023 ?_
  intro v1024 e1024
  refine nxl v1024 ?_ ?_ rfl
  all_goals (have hz:=hlen2;have hq:=hs.2;have x3:v1024=((k+1:Nat):Int):=(by rw [← e1024,hi,wri (by omega)];omega))
  ·show ((v523.length:Int) - v1024).toNat<((v523.length:Int) - j).toNat
   omega
  ·exact ⟨k+1,x3,by omega⟩
 ·
  rfl
def zuL:List Atom:=[.sl 3 3,.sl 9 (.o (.c (.k (.bool true)))),.sl 68 14,.sl 69 15,.sl 70 16]
def zvD:LoopS:=⟨9,zuL.map (tnA (jf (hZ 16 [kI 0])) (kf [0,1,2,3,4]) (kf [])),(.x 0),(drs [4] zuL)⟩
def zws:Tr:=.s [(0,.fb 10 false),(8000,.bin .lss 3 16 15)] (.b 17 (.s [(8001,.ia 47 36 1 14 16),(8002,.ld 36 0 18),(8005,.call 22 [19] (.o .c)),(8007,.call 23 [19] (.o .c)),(8008,.bin .neq 37 20 21),(0,.fb 22 false),(8011,.call 24 [19] (.o .c)),(8013,.call 25 [19] (.o .c)),(8014,.bin .neq 3 23 24),(0,.fb 25 false),(8018,.call 14 [3,LF (kI 60)] (.o .c)),(8020,.call 25 [19] (.o .c)),(0,.raw [(1008021,.dat 3 4 [.h 3,.h 26,.h 27,.k (.int .i64 0)] 28)] 1),(8022,.ln 24 3 28),(0,.lp zvE 1 0),(9024,.bin .add 3 16 (kI 1))] (.z (.nx (hZ 16 [30]) [0,1,2,3,4] []))) (.z (.xt (.x 0) (hZ 16 []) [0,1,2,3,4] [])))
theorem zwg {w0:World} (l:(List (List Int))) (a8:Int) (raw:(List Mov)) (st:Int) (v1:(List (List Int))) (v3:(List Mov)) (v5:Int) (v6:Int) (n7:Nat) (v9:(List Mov)) (v11:(List Mov)) (v13:Int) (v14:Bool) (v16:(List Mov)) (v18:(List Mov)) (v20:(List (List Mov))) (v21:Int) (h15:v14=false) (hlen:(v20.length:Int)=v21) (hb:v20.length≤5∧∀x∈v20,x.length≤41) (hst:st<9223372036854775808):LpH (KN w0) Tryz.prog 4 ⟨ntOf Tryz.prog 4,[],[]⟩ zvD 0 ⟨16,[sI v21,.ls 1 cLM kLM v20,.ls 11 cM kM (List.replicate 41 zM),.ls 11 cM kM v18,.ls 11 cM kM v11,sB v14,sI v13,.ls 11 cM kM v9,sI v6,sI v5,.ls 11 cM kM v3,.ls 1 cLI kLI v1,sI st,.ls 11 cM kM raw,.v (.int .u8 a8),.ls 1 cLI kLI l],[pG cM ([]:List Mov),pG cM v11,pG cM ([]:List Mov),pG cM v16,pG cM v18],[]⟩:=by
 refine zi _ ⟨zuL,zvD,(17,5,0),(16,5,0),8000⟩ (T:=Int) (fun t=>⟨17,[sI t,sI v21,.ls 1 cLM kLM v20,.ls 11 cM kM (List.replicate 41 zM),.ls 11 cM kM v18,.ls 11 cM kM v11,sB v14,sI v13,.ls 11 cM kM v9,sI v6,sI v5,.ls 11 cM kM v3,.ls 1 cLI kLI v1,sI st,.ls 11 cM kM raw,.v (.int .u8 a8),.ls 1 cLI kLI l],[pG cM ([]:List Mov),pG cM v11,pG cM ([]:List Mov),pG cM v16,pG cM v18],[]⟩) (fun i=>∃k:Nat,i=(k:Int)∧k≤v20.length) (fun i=>((v20.length:Int) - i).toNat) (0:Int) (hZ 16 [kI 0]) [0,1,2,3,4] [] zws mixed ⟨0,rfl,Nat.zero_le _⟩ rfl rfl rfl rfl (fun _=>rfl) rfl rfl (by kernel_rfl) ?_
 intro i hJ
 obtain ⟨k,hi,hk⟩:=hJ
 refine ai h15 ?_
 intro v501 e501
 refine ai (fun h502=>?_) fun h502=>?_
 ·
  have dh502:=LD e501 h502
  refine ai (by (have hz:=hlen;have hlt:k<v20.length:=(by omega);exact ⟨k,_,hi,List.getElem?_eq_getElem hlt⟩)) fun n503 x504 s505 s506=>?_
  obtain ⟨v507,e507⟩:=LX (chkP x504)
  have s508:x504.length<9223372036854775808:=by (have:=hb.2 _ (List.mem_of_getElem? s506);omega)
  refine cx (.o (.c (sI v507))) (zpL x504 v507 e507 s508) rfl ?_
  obtain ⟨v509,e509⟩:=LX (chkP x504)
  have s510:x504.length<9223372036854775808:=by (have:=hb.2 _ (List.mem_of_getElem? s506);omega)
  refine cx (.o (.c (sI v509))) (zuU x504 v509 e509 s510) rfl ?_
  intro v511 e511
  have s512:v511=false:=by exact neI e511 e507 e509
  refine ai s512 ?_
  obtain ⟨v513,e513⟩:=LX (zjl x504)
  have s514:x504.length<9223372036854775808:=by (have:=hb.2 _ (List.mem_of_getElem? s506);omega)
  have s515:∀x∈x504,goodM x:=by exact fun _ _=>trivial
  refine cx (.o (.c (sI v513))) (zou x504 v513 e513 s514 s515) rfl ?_
  obtain ⟨v516,e516⟩:=LX (zjl x504)
  have s517:x504.length<9223372036854775808:=by (have:=hb.2 _ (List.mem_of_getElem? s506);omega)
  refine cx (.o (.c (sI v516))) (zux x504 v516 e516 s517) rfl ?_
  intro v518 e518
  have s519:v518=false:=by exact neI e518 e513 e516
  refine ai s519 ?_
  obtain ⟨v520,e520⟩:=LX (modX st (60:Int))
  refine cx (.o (.c (sI v520))) (x_mod st (60:Int) v520 e520) rfl ?_
  obtain ⟨v521,e521⟩:=LX (zjl x504)
  have s522:x504.length<9223372036854775808:=by (have:=hb.2 _ (List.mem_of_getElem? s506);omega)
  refine cx (.o (.c (sI v521))) (zux x504 v521 e521 s522) rfl ?_
  obtain ⟨v523,e523⟩:=LX (([st,v520,v521,(0:Int)]:List Int))
  refine rx [.ls 1 cI kIc v523] [] [] (fun t u w=>⟨e_dat (c:=cI) (l:=([st,v520,v521,(0:Int)]:List Int)) (ps:=(pI st::pI v520::pI v521::pV (.int .i64 0)::[])) (qs:=(pI st::pI v520::pI v521::pI (0:Int)::[])) (by rw [e523];kernel_rfl) rfl (by kernel_rfl) rfl (pimps (fun _ _ _ h=>h) <| pimps (fun _ _ _ h=>h) <| pimps (fun _ _ _ h=>h) <| pimps (fun _ _ _ h=>h) <| ze) rfl,trivial⟩) ?_
  intro v524 e524
  refine rx [] [] [] (zwh l a8 raw st v1 v3 v5 v6 n7 v9 v11 v13 v14 v16 v18 v20 v21 i v501 n503 x504 v507 v509 v511 v513 v516 v518 v520 v521 v523 v524 h15 h502 s512 s519   (hb.2 _ (List.mem_of_getElem? s506)) (zvz hst (hb.2 _ (List.mem_of_getElem? s506)) e520 e521 e523) e524) ?_
  intro v525 e525
  refine nxl v525 ?_ ?_ rfl
  all_goals (have hz:=hlen;have hq:=hb.1;have x3:v525=((k+1:Nat):Int):=(by rw [← e525,hi,wri (by omega)];omega))
  ·show ((v20.length:Int) - v525).toNat<((v20.length:Int) - i).toNat
   omega
  ·exact ⟨k+1,x3,by omega⟩
 ·
  rfl
def zuT:Tr:=.s [(0,.raw [(1000001,.call ⟨9,[],[],.o (.c (.k (.bool true))),[]⟩)] 0),(4,.call 11 [0,LF (kI 6)] (.o .c)),(6,.call 19 [4,.o (.g [kI 0,kI 0,kI 0])] (.o .c)),(10,.ln 36 3 2),(0,.raw [(1000011,.op (.min [3,3] 3) [6,LF (.k (.int .i64 4))] [] 7)] 1),(0,.raw [(1000012,.op (.sc 36 false true false) [2,7] [] 8)] 1),(0,.raw [(1000014,.glt 45 11 [] 0)] 0),(0,.raw [(1000016,.app 45 11 14 0 1 5 [] false)] 0),(0,.raw [(1000019,.op (.len [36] 3) [LF (.gr 14)] [.gl 14 45 11 1] 9)] 1),(20,.bin .gtr 3 9 (kI 0))] (.b 10 (.s [(0,.raw [(1000022,.op (.cv 5 3) [1] [] 11)] 1),(0,.raw [(1000024,.op (.len [36] 3) [LF (.gr 14)] [.gl 14 45 11 1] 12)] 1),(25,.dv .rem 3 11 12),(0,.raw [(1000031,.op (.ia 36) [LF (.gr 14),13] [.gl 14 45 11 1] (LF (.pf 14 14)))] 1),(0,.raw [(1000032,.op (.fa 45 2) [LF (.pf 14 14)] [] (LF (.pf 14 15)))] 1),(0,.raw [(1000033,.op (.ld 26) [LF (.pf 14 15)] [.gl 14 45 11 1] (.o (.g [16,17,18])))] 3),(0,.raw [(1000035,.op (.cv 5 3) [1] [] 19)] 1),(36,.dv .rem 3 19 (kI 3)),(37,.bin .sub 3 20 (kI 1)),(38,.call 21 [LF (kI 0),LF (kI 0),21] (.o (.g 3))),(39,.call 20 [.o (.g [16,17,18]),.o (.g [22,23,24])] (.o (.g 3))),(0,.raw [(1000040,.op (.ia 36) [LF (.gr 14),13] [.gl 14 45 11 1] (LF (.pf 14 28)))] 1),(0,.raw [(1000041,.op (.fa 45 2) [LF (.pf 14 28)] [] (LF (.pf 14 29)))] 1),(0,.raw [(1000042,.st 26 [14] (LF (.pf 14 29)) (.o (.g [25,26,27])) [.gl 14 45 11 1] [.gl 14 45 11 2])] 0),(0,.gh ⟨7,.gl 14 45 11 2::[11].map (fun s=>.sl s (.o (.c (.gr 14)))),[11].map (fun s=>.sl s 30),[14]⟩ 1),(0,.raw [(1000046,.glt 45 11 [] 3)] 0),(0,.raw [(1000048,.app 45 11 46 3 4 5 [] false)] 0),(0,.raw [(1000050,.ap 36 [46] (LF (.gr 46)) 8 31 [.gl 46 45 11 4] [])] 1),(0,.raw [(1000051,.mks 36 (LF (.k (.int .i64 41))) (LF (.k (.int .i64 41))) 32)] 1),(0,.raw [(1000052,.dat 36 5 [.h 5,.h 30,.h 8,.h 31,.h 32] 33)] 1),(53,.ln 47 3 33),(0,.lp zvI 0 0)] (.z (.ret false (LF (kB true)) []))) (.s [(0,.gh ⟨5,.gl 14 45 11 1::[11].map (fun s=>.sl s (.o (.c (.gr 14)))),[11].map (fun s=>.sl s 11),[14]⟩ 1),(0,.raw [(1000024,.glt 45 11 [] 2)] 0),(0,.raw [(1000026,.app 45 11 24 2 3 5 [] false)] 0),(0,.raw [(1000028,.ap 36 [24] (LF (.gr 24)) 8 12 [.gl 24 45 11 3] [])] 1),(0,.raw [(1000029,.mks 36 (LF (.k (.int .i64 41))) (LF (.k (.int .i64 41))) 13)] 1),(0,.raw [(1000030,.dat 36 5 [.h 5,.h 11,.h 8,.h 12,.h 13] 14)] 1),(31,.ln 47 3 14),(0,.lp zvD 0 0)] (.z (.ret false (LF (kB true)) []))))
theorem zvd {w0:World} (hL:LibP w0) (l:List (List Int)) (a8:Int) (raw:List Mov) (st:Int) (ha:0≤a8∧a8<256) (hst:st<9223372036854775808):Fun (KN w0) Tryz.prog 4 [.o (.c (pLs cLI l)),.o (.c (pV (.int .u8 a8))),.o (.c (pLs cM raw)),.o (.c (pI st))] (.o (.c (pB true))):=by
 refine tfn w0 4 ⟨[0,1,2,3],[],[],0,0⟩ ⟨4,[sI st,.ls 11 cM kM raw,.v (.int .u8 a8),.ls 1 cLI kLI l],[],[]⟩ zuT (by kernel_rfl) ?_
 refine rx [] [] [] (fun t u w=>⟨zE (zoy hL),trivial⟩) ?_
 obtain ⟨v1,e1⟩:=LX (zlq l (6:Int))
 have s2:0≤(6:Int)∧(6:Int)≤100:=by omega
 refine cx (.o (.c (.ls 1 cLI kLI v1))) (zq4 l (6:Int) v1 e1 s2) rfl ?_
 obtain ⟨v3,e3⟩:=LX (zui (v1.take 6) ((0:Int),(0:Int),(0:Int)))
 have s4:∀x∈v1,x.length≤100:=by (rw [← e1];exact znD)
 refine cx (.o (.c (.ls 11 cM kM v3))) (zwl v1 ((0:Int),(0:Int),(0:Int)) v3 e3 s4) rfl ?_
 intro v5 e5
 obtain ⟨v6,e6⟩:=LX ((if (4:Int)<v5 then (4:Int) else v5))
 refine rx [sI v6] [] [] (fun t u w=>⟨e_op2 (za rfl) zf (za rfl) (fun W=>by rw [← e6];exact zlW W),trivial⟩) ?_
 have h6:0≤v6:=(by rw [← e6];split<;>omega)
 obtain ⟨n7,s8⟩:∃(n7:Nat),v6=(n7:Int):=by (exact ⟨v6.toNat,by omega⟩)
 obtain ⟨v9,e9⟩:=LX (raw.take n7)
 have h6:=e6
 have s10:n7≤raw.length:=by (split at h6<;>omega)
 refine rx [.ls 11 cM kM v9] [] [] (fun t u w=>⟨zak (E:=45) (z:=11) (fun _=>rfl) (by kernel_rfl) (by kernel_rfl) (zm rfl) (za rfl) s8 s10 (zm (by rw [e9];rfl)),trivial⟩) ?_
 refine rx [] [pG cM ([]:List Mov)] [] (fun t u w=>⟨e_glt (c:=cM) (l:=([]:List Mov)) rfl rfl (fun _ _ _ h=>h) rfl qK (by decide),trivial⟩) ?_
 obtain ⟨v11,e11⟩:=LX (([]:List Mov)++v3)
 have s12:(([]:List Mov).length+v3.length)*11≤1099511627776:=by (have q:=zuk e3;simp only [List.length_nil];omega)
 refine rx [] [pG cM v11] [] (fun t u w=>⟨zV (c:=cM) (l:=([]:List Mov)) (l2:=v3) qK (fun _=>rfl) (by kernel_rfl) (by rw [e11];kernel_rfl) (by kernel_rfl) s12,trivial⟩) ?_
 obtain ⟨v13,e13⟩:=LX ((v11.length:Int))
 refine rx [sI v13] [] [] (fun t u w=>⟨zdV (c:=cM) (by kernel_rfl) (fun _=>rfl) (by decide) rfl (za (by rw [e13];rfl)),trivial⟩) ?_
 intro v14 e14
 refine ai (fun h15=>?_) fun h15=>?_
 ·
  obtain ⟨v16,e16⟩:=LX (IntKind.i64.wrap a8)
  refine rx [sI v16] [] [] (fun t u w=>⟨e_op1 (za rfl) (za rfl) (fun W=>by rw [← e16];exact r_cvi (by kernel_rfl) (by kernel_rfl) W),trivial⟩) ?_
  obtain ⟨v17,e17⟩:=LX ((v11.length:Int))
  refine rx [sI v17] [] [] (fun t u w=>⟨zdV (c:=cM) (by kernel_rfl) (fun _=>rfl) (by decide) rfl (za (by rw [e17];rfl)),trivial⟩) ?_
  have dh15:=LD e14 h15
  have s19:v17≠0:=by (omega)
  refine ai s19 fun v18 e18=>?_
  obtain ⟨n20,x21,s22,s23⟩:∃(n20:Nat) (x21:Mov),v18=(n20:Int)∧v11[n20]?=some x21:=by exact at_of ha e16 e17 e18 s19
  refine rx [sI ((n20*11:Nat):Int)] [] [] (fun t u w=>⟨e_iaG (c:=cM) (E:=45) (by kernel_rfl) (by kernel_rfl) (fun _=>rfl) (by decide) rfl (za rfl) s22 s23 rfl,trivial⟩) ?_
  refine rx [sI ((n20*11+4:Nat):Int)] [] [] (fun t u w=>⟨e_faF (m:=2) (off:=n20*11) (d0:=4) (by kernel_rfl) (by kernel_rfl) rfl rfl,trivial⟩) ?_
  refine rx [sI x21.2.2.1.1,sI x21.2.2.1.2.1,sI x21.2.2.1.2.2] [] [] (fun t u w=>⟨e_ldV (by kernel_rfl) (by kernel_rfl) rfl s23 rfl rfl rfl rfl,trivial⟩) ?_
  obtain ⟨v24,e24⟩:=LX (IntKind.i64.wrap a8)
  refine rx [sI v24] [] [] (fun t u w=>⟨e_op1 (za rfl) (za rfl) (fun W=>by rw [← e24];exact r_cvi (by kernel_rfl) (by kernel_rfl) W),trivial⟩) ?_
  refine ai (by decide) fun v25 e25=>?_
  intro v26 e26
  obtain ⟨v27,e27⟩:=LX (((0:Int),(0:Int),v26))
  refine cx (.o (.g [sI v27.1,sI v27.2.1,sI v27.2.2])) (qI (0:Int) (0:Int) v26 v27 e27) rfl ?_
  obtain ⟨v28,e28⟩:=LX (addV x21.2.2.1 v27)
  refine cx (.o (.g [sI v28.1,sI v28.2.1,sI v28.2.2])) (t_add x21.2.2.1 v27 v28 e28) rfl ?_
  refine rx [sI ((n20*11:Nat):Int)] [] [] (fun t u w=>⟨e_iaG (c:=cM) (E:=45) (by kernel_rfl) (by kernel_rfl) (fun _=>rfl) (by decide) rfl (za rfl) s22 s23 rfl,trivial⟩) ?_
  refine rx [sI ((n20*11+4:Nat):Int)] [] [] (fun t u w=>⟨e_faF (m:=2) (off:=n20*11) (d0:=4) (by kernel_rfl) (by kernel_rfl) rfl rfl,trivial⟩) ?_
  obtain ⟨v29,e29⟩:=LX (v11.set n20 (toM x21 v28))
  refine rx [] [pG cM v29] [] (fun t u w=>⟨e_stV (l:=v11) (m:=x21) (t:=v28) (by kernel_rfl) (by kernel_rfl) s23 (by rw [e29];kernel_rfl) rfl (by kernel_rfl) (by kernel_rfl) (by kernel_rfl),trivial⟩) ?_
  refine rx [.ls 11 cM kM v29] [] [] (fun t u w _=>qS (c:=cM) (fun _=>rfl) (by decide) qK rfl rfl) ?_
  refine rx [] [pG cM ([]:List Mov)] [] (fun t u w=>⟨e_glt (c:=cM) (l:=([]:List Mov)) rfl rfl (fun _ _ _ h=>h) rfl qK (by decide),trivial⟩) ?_
  obtain ⟨v30,e30⟩:=LX (([]:List Mov)++v3)
  have s31:(([]:List Mov).length+v3.length)*11≤1099511627776:=by (have q:=zuk e3;simp only [List.length_nil];omega)
  refine rx [] [pG cM v30] [] (fun t u w=>⟨zV (c:=cM) (l:=([]:List Mov)) (l2:=v3) qK (fun _=>rfl) (by kernel_rfl) (by rw [e30];kernel_rfl) (by kernel_rfl) s31,trivial⟩) ?_
  obtain ⟨v32,e32⟩:=LX (v30++v9)
  have s33:(v30.length+v9.length)*11≤1099511627776:=by (have q:=zuk e3;have q2:=zuq e30 (Nat.le_refl _) q;have q3:=zuB e5 e6 s8 e9;simp only [List.length_nil] at q2;omega)
  refine rx [.ls 11 cM kM v32] [pG cM v32] [] (fun t u w=>⟨e_apZ (c:=cM) (m:=5) (l:=v32) (zs:=(zah Tryz.prog 45).getD []) (kb:=(zaD Tryz.prog 45).getD 0) (by kernel_rfl) (by kernel_rfl) (by kernel_rfl) (by kernel_rfl) (by decide) (by decide +kernel) (by kernel_rfl) (by kernel_rfl) (by kernel_rfl) (fun _=>rfl) qK (by kernel_rfl) rfl (zV (c:=cM) (l:=v30) (l2:=v9) qK (fun _=>rfl) (by kernel_rfl) (by rw [e32];kernel_rfl) (by kernel_rfl) s33),trivial⟩) ?_
  refine rx [.ls 11 cM kM (List.replicate 41 zM)] [] [] (fun t u w=>⟨zv8 (by kernel_rfl),trivial⟩) ?_
  obtain ⟨v34,e34⟩:=LX (([v3,v29,v9,v32,List.replicate 41 zM]:List (List Mov)))
  refine rx [.ls 1 cLM kLM v34] [] [] (fun t u w=>⟨e_dat (c:=cLM) (l:=([v3,v29,v9,v32,List.replicate 41 zM]:List (List Mov))) (ps:=(pLs cM v3::pLs cM v29::pLs cM v9::pLs cM v32::pLs cM (List.replicate 41 zM)::[])) (qs:=(pLs cM v3::pLs cM v29::pLs cM v9::pLs cM v32::pLs cM (List.replicate 41 zM)::[])) (by rw [e34];kernel_rfl) rfl (by kernel_rfl) rfl (pimps (fun _ _ _ h=>h) <| pimps (fun _ _ _ h=>h) <| pimps (fun _ _ _ h=>h) <| pimps (fun _ _ _ h=>h) <| pimps (fun _ _ _ h=>h) <| ze) rfl,trivial⟩) ?_
  intro v35 e35
  refine rx [] [] [] (lp_of (zwi l a8 raw st v1 v3 v5 v6 n7 v9 v11 v13 v14 v16 v17 v18 n20 x21 v24 v25 v26 v27 v28 v29 v30 v32 v34 v35 h15   e35 (all5 e34 (zuk e3) (by rw [← e29,List.length_set];exact (Nat.le_trans (zuq e11 (Nat.le_refl _) (zuk e3)) (by decide))) (zuB e5 e6 s8 e9) (zuq e32 (Nat.le_trans (zuq e30 (Nat.le_refl _) (zuk e3)) (by decide)) (zuB e5 e6 s8 e9))) hst) (by kernel_rfl)) ?_
  intro hc
  refine Fun.fin (r:=.o (.c (pV (.bool true)))) (zc (hc)) (fun v W D h=>?_)
  first | exact h | rfl | trivial
 ·
  refine rx [.ls 11 cM kM v11] [] [] (fun t u w _=>qS (c:=cM) (fun _=>rfl) (by decide) qK rfl rfl) ?_
  refine rx [] [pG cM ([]:List Mov)] [] (fun t u w=>⟨e_glt (c:=cM) (l:=([]:List Mov)) rfl rfl (fun _ _ _ h=>h) rfl qK (by decide),trivial⟩) ?_
  obtain ⟨v16,e16⟩:=LX (([]:List Mov)++v3)
  have s17:(([]:List Mov).length+v3.length)*11≤1099511627776:=by (have q:=zuk e3;simp only [List.length_nil];omega)
  refine rx [] [pG cM v16] [] (fun t u w=>⟨zV (c:=cM) (l:=([]:List Mov)) (l2:=v3) qK (fun _=>rfl) (by kernel_rfl) (by rw [e16];kernel_rfl) (by kernel_rfl) s17,trivial⟩) ?_
  obtain ⟨v18,e18⟩:=LX (v16++v9)
  have s19:(v16.length+v9.length)*11≤1099511627776:=by (have q:=zuk e3;have q2:=zuq e16 (Nat.le_refl _) q;have q3:=zuB e5 e6 s8 e9;simp only [List.length_nil] at q2;omega)
  refine rx [.ls 11 cM kM v18] [pG cM v18] [] (fun t u w=>⟨e_apZ (c:=cM) (m:=4) (l:=v18) (zs:=(zah Tryz.prog 45).getD []) (kb:=(zaD Tryz.prog 45).getD 0) (by kernel_rfl) (by kernel_rfl) (by kernel_rfl) (by kernel_rfl) (by decide) (by decide +kernel) (by kernel_rfl) (by kernel_rfl) (by kernel_rfl) (fun _=>rfl) qK (by kernel_rfl) rfl (zV (c:=cM) (l:=v16) (l2:=v9) qK (fun _=>rfl) (by kernel_rfl) (by rw [e18];kernel_rfl) (by kernel_rfl) s19),trivial⟩) ?_
  refine rx [.ls 11 cM kM (List.replicate 41 zM)] [] [] (fun t u w=>⟨zv8 (by kernel_rfl),trivial⟩) ?_
  obtain ⟨v20,e20⟩:=LX (([v3,v11,v9,v18,List.replicate 41 zM]:List (List Mov)))
  refine rx [.ls 1 cLM kLM v20] [] [] (fun t u w=>⟨e_dat (c:=cLM) (l:=([v3,v11,v9,v18,List.replicate 41 zM]:List (List Mov))) (ps:=(pLs cM v3::pLs cM v11::pLs cM v9::pLs cM v18::pLs cM (List.replicate 41 zM)::[])) (qs:=(pLs cM v3::pLs cM v11::pLs cM v9::pLs cM v18::pLs cM (List.replicate 41 zM)::[])) (by rw [e20];kernel_rfl) rfl (by kernel_rfl) rfl (pimps (fun _ _ _ h=>h) <| pimps (fun _ _ _ h=>h) <| pimps (fun _ _ _ h=>h) <| pimps (fun _ _ _ h=>h) <| pimps (fun _ _ _ h=>h) <| ze) rfl,trivial⟩) ?_
  intro v21 e21
  refine rx [] [] [] (lp_of (zwg l a8 raw st v1 v3 v5 v6 n7 v9 v11 v13 v14 v16 v18 v20 v21 h15   e21 (all5 e20 (zuk e3) (Nat.le_trans (zuq e11 (Nat.le_refl _) (zuk e3)) (by decide)) (zuB e5 e6 s8 e9) (zuq e18 (Nat.le_trans (zuq e16 (Nat.le_refl _) (zuk e3)) (by decide)) (zuB e5 e6 s8 e9))) hst) (by kernel_rfl)) ?_
  intro hc
  refine Fun.fin (r:=.o (.c (pV (.bool true)))) (zc (hc)) (fun v W D h=>?_)
  first | exact h | rfl | trivial
end Go.Proofs.YteimplkdcjapdaaGreatDoor
