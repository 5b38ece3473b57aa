/-
  RatioField is proved: whatever the input, the law returns true and each argument reads az it did, where the listed variables read az listed; and the card, which ties it to the program's text.
-/
import Derived.Test.YtccjiodohphgnaaGreatDoorMgAB
import Derived.Test.YtccjiodohphgnaaGreatDoorMgAR
import Derived.Test.YtccjiodohphgnaaGreatDoorMgAV
import Derived.Test.YtccjiodohphgnaaGreatDoorCards
import Derived.Test.YtccjiodohphgnaaGreatDoorTie
import Derived.SevenTiedAt
set_option linter.unusedSimpArgs false
set_option linter.unusedVariables false
set_option maxRecDepth 100000
set_option maxHeartbeats 4000000
namespace Go.Proofs.YtccjiodohphgnaaGreatDoor
open Go.RowKit
inductive ALf where
 | d (p:Pred)
 | p (i o:Nat)
 | q (f:FuncId) (l:List (Nat×Nat))
inductive ACm where
 | c (l:ALf)
 | g (l:List ALf)
inductive ASh where
 | o (c:ACm)
 | t (l:List ACm)
def apts (qs:List Nat):List (Nat×Nat)→List Value→Prop
 | [],[]=>True
 | x::xs,v::vs=>(∃q,qs[x.1]?=some q∧v=.pointer (some ⟨q,x.2,none⟩))∧apts qs xs vs
 | _,_=>False
def ALf.ok (qs:List Nat):ALf→Value→World→Dat→Prop
 | .d x,v,W,D=>x v W D
 | .p i o,v,_,_=>∃q,qs[i]?=some q∧v=.pointer (some ⟨q,o,none⟩)
 | .q f l,v,_,_=>∃cs:Array Value,v=.func (.func f) #[] cs∧apts qs l cs.toList
def aokl (qs:List Nat):List ALf→List Value→World→Dat→Prop
 | [],[],_,_=>True
 | p::ps,v::vs,W,D=>p.ok qs v W D∧aokl qs ps vs W D
 | _,_,_,_=>False
def ACm.ok (qs:List Nat):ACm→Value→World→Dat→Prop
 | .c l,v,W,D=>l.ok qs v W D
 | .g ls,v,W,D=>∃vs:Array Value,v=.agg vs∧aokl qs ls vs.toList W D
def aokc (qs:List Nat):List ACm→List Value→World→Dat→Prop
 | [],[],_,_=>True
 | p::ps,v::vs,W,D=>p.ok qs v W D∧aokc qs ps vs W D
 | _,_,_,_=>False
def ASh.ok (qs:List Nat):ASh→Value→World→Dat→Prop
 | .o c,v,W,D=>c.ok qs v W D
 | .t l,v,W,D=>∃vs:Array Value,v=.tuple vs∧aokc qs l vs.toList W D
def aoka (qs:List Nat):List ASh→List Value→World→Dat→Prop
 | [],[],_,_=>True
 | p::ps,v::vs,W,D=>p.ok qs v W D∧aoka qs ps vs W D
 | _,_,_,_=>False
def okX (K:Kit) (qs:List Nat):List (TypeId×List ALf)→List Nat→World→Dat→Prop
 | [],[],_,_=>True
 | x::xs,q::r,W,D=>(K.w0.heap.size≤q∧¬ D q∧K.bt x.1=true∧∃us:Array Value,W.heap[q]?=some (.cells us x.1 (0,0))∧us.toList.all K.ck=true∧aokl qs x.2 us.toList W D)∧okX K qs xs r W D
 | _,_,_,_=>False
def ixOf:List Nat→Nat→Nat
 | [],_=>0
 | c::r,b=>match Nat.beq b c with
  | true=>0
  | false=>ixOf r b+1
def Lf.toA (bs:List Nat) (F:Fact):Lf→ALf
 | .k v=>.d (pV v)
 | .h n=>.d (F.c n)
 | .p b o=>.p (ixOf bs b) o
 | .q f l=>.q f (l.map fun x=>(ixOf bs x.1,x.2))
 | _=>.d fun _ _ _=>False
def Cm.toA (bs:List Nat) (F:Fact):Cm→ACm
 | .c l=>.c (l.toA bs F)
 | .g l=>.g (l.map (Lf.toA bs F))
def Sh.toA (bs:List Nat) (F:Fact):Sh→ASh
 | .o c=>.o (c.toA bs F)
 | .t l=>.t (l.map (Cm.toA bs F))
def Atom.toX (bs:List Nat) (F:Fact):Atom→TypeId×List ALf
 | .bx _ T ls=>(T,ls.map (Lf.toA bs F))
 | _=>(0,[])
def Lf.lowX (bs:List Nat):Lf→Bool
 | .p b _=>bs.contains b
 | .q _ l=>l.all fun x=>bs.contains x.1
 | .s _ _ _ _=>false
 | .gr _=>false
 | _=>true
def Cm.lowX (bs:List Nat):Cm→Bool
 | .c l=>l.lowX bs
 | .g l=>l.all (Lf.lowX bs)
def Sh.lowX (bs:List Nat):Sh→Bool
 | .o c=>c.lowX bs
 | .t l=>l.all (Cm.lowX bs)
def Atom.lowX (bs:List Nat):Atom→Bool
 | .bx _ _ ls=>ls.all (Lf.lowX bs)
 | _=>false
theorem zdL:∀{bs:List Nat} {b:Nat},b∈bs→bs[ixOf bs b]?=some b
 | c::r,b,h=>by
  show (c::r)[(match Nat.beq b c with | true=>0 | false=>ixOf r b+1)]?=some b
  cases hb:Nat.beq b c with
  | true=>rw [Nat.eq_of_beq_eq_true hb];rfl
  | false =>
   have:b≠c:=Nat.ne_of_beq_eq_false hb
   rcases List.mem_cons.1 h with h | h
   ·exact absurd h this
   ·simpa using zdL h
section
variable {K:Kit} {F:Fact} {β:Loc} {W:World} {bs qs:List Nat} (H:∀b∈bs,β b=qs[ixOf bs b]?)
include H
theorem zlX:∀{l:List (Nat×Nat)} {vs:List Value},(l.all fun x=>bs.contains x.1)=true→(pts β l vs↔apts qs (l.map fun x=>(ixOf bs x.1,x.2)) vs)
 | [],[],_=>Iff.rfl
 | x::xs,v::vs,h=>by
  rw [List.all_cons,Bool.and_eq_true] at h
  refine and_congr ?_ (zlX h.2)
  rw [H x.1 (by simpa using h.1)]
 | [],_::_,_=>Iff.rfl
 | _::_,[],_=>Iff.rfl
theorem zp0 {l:Lf} {v:Value} (h:l.lowX bs=true):l.ok F β v W↔(l.toA bs F).ok qs v W β.D:=by
 cases l with
 | k x=>exact Iff.rfl
 | h n=>exact Iff.rfl
 | p b o =>
  show (∃q,β b=some q∧_)↔∃q,qs[ixOf bs b]?=some q∧_
  rw [H b (by simpa [Lf.lowX] using h)]
 | s b o n c=>cases h
 | q f l=>exact exists_congr fun cs=>and_congr_right fun _=>zlX H h
 | gr b=>cases h
theorem zfn:∀{ls:List Lf} {vs:List Value},ls.all (Lf.lowX bs)=true→(oks F β ls vs W↔aokl qs (ls.map (Lf.toA bs F)) vs W β.D)
 | [],[],_=>Iff.rfl
 | l::ls,v::vs,h=>by
  rw [List.all_cons,Bool.and_eq_true] at h
  exact and_congr (zp0 H h.1) (zfn h.2)
 | [],_::_,_=>Iff.rfl
 | _::_,[],_=>Iff.rfl
theorem znN {c:Cm} {v:Value} (h:c.lowX bs=true):c.ok F β v W↔(c.toA bs F).ok qs v W β.D:=by
 cases c with
 | c l=>exact zp0 H h
 | g l=>exact exists_congr fun vs=>and_congr_right fun _=>zfn H h
theorem zl3:∀{ls:List Cm} {vs:List Value},ls.all (Cm.lowX bs)=true→(cms F β ls vs W↔aokc qs (ls.map (Cm.toA bs F)) vs W β.D)
 | [],[],_=>Iff.rfl
 | l::ls,v::vs,h=>by
  rw [List.all_cons,Bool.and_eq_true] at h
  exact and_congr (znN H h.1) (zl3 h.2)
 | [],_::_,_=>Iff.rfl
 | _::_,[],_=>Iff.rfl
theorem zkQ {s:Sh} {v:Value} (h:s.lowX bs=true):s.ok F β v W↔(s.toA bs F).ok qs v W β.D:=by
 cases s with
 | o c=>exact znN H h
 | t l=>exact exists_congr fun vs=>and_congr_right fun _=>zl3 H h
theorem zjj:∀{ls:List Sh} {vs:List Value},ls.all (Sh.lowX bs)=true→(shs F β ls vs W↔aoka qs (ls.map (Sh.toA bs F)) vs W β.D)
 | [],[],_=>Iff.rfl
 | l::ls,v::vs,h=>by
  rw [List.all_cons,Bool.and_eq_true] at h
  exact and_congr (zkQ H h.1) (zjj h.2)
 | [],_::_,_=>Iff.rfl
 | _::_,[],_=>Iff.rfl
theorem zo4:∀{pre:List Atom} {rs:List Nat},pre.all (Atom.lowX bs)=true→(names pre).map β.bx=rs.map some→(∀q∈rs,¬ β.D q)→(∀x∈pre,x.okB K F β W)→okX K qs (pre.map (Atom.toX bs F)) rs W β.D
 | [],[],_,_,_,_=>trivial
 | .bx b T ls::r,q::rs,hl,hn,hd,h=>by
  rw [List.all_cons,Bool.and_eq_true] at hl
  simp only [names,List.map_cons,List.cons.injEq] at hn
  obtain ⟨q',us,h1,h2,h3,h4,h5,h6⟩:=h _ (List.mem_cons_self ..)
  have e:q'=q:=Option.some.inj (h1.symm.trans hn.1)
  subst e
  exact ⟨⟨h6,hd _ (List.mem_cons_self ..),h5,us,h2,h4,(zfn H hl.1).1 h3⟩,zo4 hl.2 hn.2 (fun q hq=>hd q (List.mem_cons_of_mem _ hq)) fun x hx=>h x (List.mem_cons_of_mem _ hx)⟩
 | [],_::_,_,hn,_,_=>by simp [names] at hn
 | _::_,[],_,hn,_,_=>by simp [names] at hn
 | .sl _ _::_,_::_,hl,_,_,_=>by simp [Atom.lowX] at hl
 | .gl _ _ _ _::_,_::_,hl,_,_,_=>by simp [Atom.lowX] at hl
 | .gn _::_,_::_,hl,_,_,_=>by simp [Atom.lowX] at hl
theorem zfT:∀{pre:List Atom} {rs:List Nat},pre.all (Atom.lowX bs)=true→(names pre).map β.bx=rs.map some→okX K qs (pre.map (Atom.toX bs F)) rs W β.D→∀x∈pre,x.okB K F β W
 | [],[],_,_,_=>fun x hx=>by cases hx
 | .bx b T ls::r,q::rs,hl,hn,h=>by
  rw [List.all_cons,Bool.and_eq_true] at hl
  simp only [names,List.map_cons,List.cons.injEq] at hn
  obtain ⟨⟨h6,_,h5,us,h2,h4,h3⟩,h7⟩:=h
  intro x hx
  rcases List.mem_cons.1 hx with rfl | hx
  ·exact ⟨q,us,hn.1,h2,(zfn H hl.1).2 h3,h4,h5,h6⟩
  ·exact zfT hl.2 hn.2 h7 x hx
 | [],_::_,_,hn,_=>by simp [names] at hn
 | _::_,[],_,hn,_=>by simp [names] at hn
 | .sl _ _::_,_::_,hl,_,_=>by simp [Atom.lowX] at hl
 | .gl _ _ _ _::_,_::_,hl,_,_=>by simp [Atom.lowX] at hl
 | .gn _::_,_::_,hl,_,_=>by simp [Atom.lowX] at hl
end
theorem zo3 {K:Kit} {qs:List Nat} {W:World} {D:Dat}:∀{l:List (TypeId×List ALf)} {rs:List Nat},okX K qs l rs W D→rs.length=l.length
 | [],[],_=>rfl
 | _::_,_::_,h=>by rw [List.length_cons,List.length_cons,zo3 h.2]
 | [],_::_,h=>h.elim
 | _::_,[],h=>h.elim
theorem zi6 {K:Kit} {qs:List Nat} {W:World} {D:Dat}:∀{l:List (TypeId×List ALf)} {rs:List Nat},okX K qs l rs W D→∀q∈rs,K.w0.heap.size≤q∧¬ D q∧q<W.heap.size
 | [],[],_,q,hq=>by cases hq
 | _::_,_::_,h,q,hq=>by
  rcases List.mem_cons.1 hq with rfl | hq
  ·obtain ⟨h1,h2,_,us,h3,_⟩:=h.1
   exact ⟨h1,h2,(Array.getElem?_eq_some_iff.1 h3).1⟩
  ·exact zi6 h.2 q hq
 | [],_::_,h,_,_=>h.elim
 | _::_,[],h,_,_=>h.elim
structure KeptX (qs:List Nat) (W:World) (D:Dat) (W':World) (D':Dat):Prop where
 oth:Oth (fun q=>q∈qs) W W'
 dm:∀q,D q→D' q
 dn:∀q,D' q→D q∨W.heap.size≤q
 dlt:∀q,D' q→q<W'.heap.size
def endOf (pan:Bool) (v:Value):Ending:=if pan=true then .panicked [{ v,recovered:=false }] else .returned v
def BFun (pan:Bool) (K:Kit) (P:Program) (f:FuncId) (az:List ASh) (pre:List (TypeId×List ALf)) (res:ASh) (post:List (TypeId×List ALf)):Prop:=
 ∀(W:World) (D:Dat) (vs:List Value) (qs:List Nat),qs.Nodup→aoka qs az vs W D→okX K qs pre qs W D→Fit K W D →
  Calls P f vs.toArray W fun e W'=>∃v D',e=endOf pan v∧res.ok qs v W' D'∧okX K qs post qs W' D'∧KeptX qs W D W' D'
theorem zes {bs:List Nat}:∀{l:List Atom},l.all (Atom.lowX bs)=true→zar l=[]
 | [],_=>rfl
 | .bx b T ls::r,h=>by
  rw [List.all_cons,Bool.and_eq_true] at h
  exact zes (l:=r) h.2
 | .sl _ _::_,h=>by simp [Atom.lowX] at h
 | .gl _ _ _ _::_,h=>by simp [Atom.lowX] at h
 | .gn _::_,h=>by simp [Atom.lowX] at h
theorem zoL {bs:List Nat}:∀{l:List Atom},l.all (Atom.lowX bs)=true→l.all Atom.isB=true
 | [],_=>rfl
 | .bx b T ls::r,h=>by
  rw [List.all_cons,Bool.and_eq_true] at h
  rw [List.all_cons,zoL (l:=r) h.2];rfl
 | .sl _ _::_,h=>by simp [Atom.lowX] at h
 | .gl _ _ _ _::_,h=>by simp [Atom.lowX] at h
 | .gn _::_,h=>by simp [Atom.lowX] at h
def lowB (az:List Sh) (pre:List Atom) (res:Sh) (post:List Atom):Bool:=decide (names pre).Nodup && (names post == names pre) && az.all (Sh.lowX (names pre)) && pre.all (Atom.lowX (names pre)) && res.lowX (names pre) && post.all (Atom.lowX (names pre))
theorem zcS {bs qs:List Nat} {g:Nat→Option Nat} (hl:qs.length=bs.length) (hn:bs.Nodup) (H:∀b∈bs,g b=qs[ixOf bs b]?):bs.map g=qs.map some:=by
 apply List.ext_getElem?
 intro i
 rw [List.getElem?_map,List.getElem?_map]
 cases hb:bs[i]? with
 | none =>
  have:bs.length≤i:=List.getElem?_eq_none_iff.1 hb
  rw [List.getElem?_eq_none (by omega)];rfl
 | some b =>
  have hm:b∈bs:=List.mem_of_getElem? hb
  have h1:=zdL hm
  have hi:i<bs.length:=(List.getElem?_eq_some_iff.1 hb).1
  have h2:ixOf bs b=i:=by
   have hj:ixOf bs b<bs.length:=(List.getElem?_eq_some_iff.1 h1).1
   exact (List.getElem?_inj hj hn).1 (h1.trans hb.symm)
  rw [Option.map_some,H b hm,h2,List.getElem?_eq_getElem (show i<qs.length by omega)];rfl
section
variable {K:Kit} {P:Program} {F:Fact} {f:FuncId} {az:List Sh} {pre:List Atom} {res:Sh} {post:List Atom} {pan:Bool}
theorem con_b {as0:List ASh} {pre0:List (TypeId×List ALf)} {res0:ASh} {post0:List (TypeId×List ALf)} (h:zfs K P F pan ⟨f,az,pre,res,post⟩) (hl:lowB az pre res post=true)
  (ha:az.map (Sh.toA (names pre) F)=as0) (hp:pre.map (Atom.toX (names pre) F)=pre0) (hr:res.toA (names pre) F=res0) (hq:post.map (Atom.toX (names pre) F)=post0):BFun pan K P f as0 pre0 res0 post0:=by
 subst ha;subst hp;subst hr;subst hq
 unfold lowB at hl
 simp only [Bool.and_eq_true,beq_iff_eq,decide_eq_true_eq] at hl
 obtain ⟨⟨⟨⟨⟨hnd,hnames⟩,hla⟩,hlp⟩,hlr⟩,hlq⟩:=hl
 obtain ⟨bs,hbs⟩:∃bs,names pre=bs:=⟨_,rfl⟩
 rw [hbs] at hnd hnames hla hlp hlr hlq ⊢
 intro W D vs qs hqn hargs hpre hfit
 let β:Loc:=⟨fun b=>if b∈bs then qs[ixOf bs b]? else none,fun _=>(0,0),D⟩
 have H:∀b∈bs,β b=qs[ixOf bs b]?:=fun b hb=>if_pos hb
 have H':∀b q,β b=some q→b∈bs∧qs[ixOf bs b]?=some q:=by
  intro b q hq
  by_cases hb:b∈bs
  ·exact ⟨hb,by rw [← H b hb];exact hq⟩
  ·have:β b=none:=if_neg hb
   rw [this] at hq;cases hq
 have hlen:qs.length=bs.length:=by rw [zo3 hpre,List.length_map,← hbs,names,List.length_map]
 have hmap:(names pre).map β.bx=qs.map some:=by rw [hbs];exact zcS hlen hnd H
 have hmem:∀b q,β b=some q→q∈qs:=fun b q hq=>List.mem_of_getElem? (H' b q hq).2
 have hg:Geo K β W:=by
  refine ⟨fun b q hq=>(zi6 hpre q (hmem b q hq)).2.2,fun b c q hb hc=>?_,hfit.bel,fun b q hq=>(zi6 hpre q (hmem b q hq)).2.1,hfit.dlt⟩
  obtain ⟨b1,b2⟩:=H' b q hb
  obtain ⟨c1,c2⟩:=H' c q hc
  have e:ixOf bs b=ixOf bs c:=(List.getElem?_inj (List.getElem?_eq_some_iff.1 b2).1 hqn).1 (b2.trans c2.symm)
  have:=zdL b1
  rw [e,zdL c1] at this
  exact (Option.some.inj this).symm
 have hs:Calls P f vs.toArray W fun e W'=>∃v β',e=endOf pan v∧Back K F ⟨f,az,pre,res,post⟩ β W v β' W':=by
  have h1:=(zjj (F:=F) (W:=W) H hla).2 hargs
  have h2:=zfT (F:=F) H hlp hmap hpre
  cases pan with
  | true=>exact h.2 β W vs h1 h2 hg
  | false=>exact h.2 β W vs h1 h2 hg
 refine hs.mono fun e W' hr=>?_
 obtain ⟨v,β',rfl,hb⟩:=hr
 have hgl:zar pre=[]:=zes hlp
 have hsame:∀b,β' b=β b:=fun b=>(hb.eqv b (by show b ∉ zar pre;rw [hgl];simp)).1
 have H2:∀b∈bs,β' b=qs[ixOf bs b]?:=fun b hb=>(hsame b).trans (H b hb)
 have hmap2:(names post).map β'.bx=qs.map some:=by rw [hnames];exact zcS hlen hnd H2
 refine ⟨v,β'.D,rfl,(zkQ H2 hlr).1 hb.res,zo4 H2 hlq hmap2 (fun q hq=>?_) hb.post,⟨hb.oth.mono fun q ⟨b,_,hq⟩=>hmem b q hq,hb.dm,hb.dn,hb.geo.dlt⟩⟩
 have:some q∈(names post).map β'.bx:=by rw [hmap2];exact List.mem_map_of_mem hq
 obtain ⟨b,_,hbq⟩:=List.mem_map.1 this
 exact hb.geo.dis b q hbq
theorem b_con {as0:List ASh} {pre0:List (TypeId×List ALf)} {res0:ASh} {post0:List (TypeId×List ALf)} (h:BFun pan K P f as0 pre0 res0 post0) (hl:lowB az pre res post=true)
  (ha:az.map (Sh.toA (names pre) F)=as0) (hp:pre.map (Atom.toX (names pre) F)=pre0) (hr:res.toA (names pre) F=res0) (hq:post.map (Atom.toX (names pre) F)=post0):zfs K P F pan ⟨f,az,pre,res,post⟩:=by
 subst ha;subst hp;subst hr;subst hq
 unfold lowB at hl
 simp only [Bool.and_eq_true,beq_iff_eq,decide_eq_true_eq] at hl
 obtain ⟨⟨⟨⟨⟨hnd,hnames⟩,hla⟩,hlp⟩,hlr⟩,hlq⟩:=hl
 obtain ⟨bs,hbs⟩:∃bs,names pre=bs:=⟨_,rfl⟩
 rw [hbs] at hnd hnames hla hlp hlr hlq h
 have hgl:zar pre=[]:=zes hlp
 have key:∀(β:Loc) (W:World) (vs:List Value),shs F β az vs W→(∀x∈pre,x.okB K F β W)→Geo K β W→Calls P f vs.toArray W fun e W'=>∃v β',e=endOf pan v∧Back K F ⟨f,az,pre,res,post⟩ β W v β' W':=by
  intro β W vs hargs hboxes hg
  let qs:List Nat:=bs.map fun b=>(β b).getD 0
  have hlen:qs.length=bs.length:=by simp [qs]
  have hat:∀b∈bs,∃q,β b=some q:=by
   intro b hb
   rw [← hbs] at hb
   obtain ⟨A,hA,rfl⟩:=List.mem_map.1 hb
   have h1:=hboxes A hA
   have h2:=List.all_eq_true.1 hlp A hA
   cases A with
   | bx b T ls=>obtain ⟨q,_,hq,_⟩:=h1;exact ⟨q,hq⟩
   | _=>simp [Atom.lowX] at h2
  have H:∀b∈bs,β b=qs[ixOf bs b]?:=by
   intro b hb
   obtain ⟨q,hq⟩:=hat b hb
   simp only [qs,List.getElem?_map,zdL hb,Option.map_some,hq,Option.getD_some]
  have hmap:(names pre).map β.bx=qs.map some:=by rw [hbs];exact zcS hlen hnd H
  have hback:∀q∈qs,∃b∈names pre,β b=some q:=by
   intro q hq
   have:some q∈(names pre).map β.bx:=by rw [hmap];exact List.mem_map_of_mem hq
   obtain ⟨b,hb,hbq⟩:=List.mem_map.1 this
   exact ⟨b,hb,hbq⟩
  have hqn:qs.Nodup:=by
   rw [List.Nodup,List.pairwise_map]
   refine hnd.imp_of_mem ?_
   intro b c hb hc hne e
   obtain ⟨q,hq⟩:=hat b hb
   obtain ⟨r,hr⟩:=hat c hc
   rw [hq,hr,Option.getD_some,Option.getD_some] at e
   subst e
   exact hne (hg.inj b c q hq hr)
  refine (h W β.D vs qs hqn ((zjj (F:=F) (W:=W) H hla).1 hargs) (zo4 (F:=F) H hlp hmap (fun q hq=>?_) hboxes) ⟨hg.bel,hg.dlt⟩).mono fun e W' hr=>?_
  ·obtain ⟨b,_,hb⟩:=hback q hq
   exact hg.dis b q hb
  ·obtain ⟨v,D',rfl,hres,hpost,hk⟩:=hr
   let β':Loc:=⟨β.bx,β.len,D'⟩
   have H2:∀b∈bs,β' b=qs[ixOf bs b]?:=H
   have hmap2:(names post).map β'.bx=qs.map some:=by rw [hnames,← hbs];exact hmap
   have hge:∀q,q∈qs→K.w0.heap.size≤q:=fun q hq=>(zi6 hpost q hq).1
   refine ⟨v,β',rfl,(zkQ (β:=β') H2 hlr).2 hres,hk.oth.mono fun q hq=>hback q hq,zfT (β:=β') H2 hlq hmap2 hpost,fun b _=>⟨rfl,rfl⟩,hk.dm,hk.dn,fun b hb=>by (rw [show zar (Con.mk f az pre res post).pre=[] from hgl] at hb;cases hb),⟨fun b q hq=>Nat.lt_of_lt_of_le (hg.lt b q hq) hk.oth.size,hg.inj,hg.bel.trans (hk.oth.ofOth hge hg.bel.size),fun b q hq hD=>?_,hk.dlt⟩⟩
   rcases hk.dn q hD with h1 | h1
   ·exact hg.dis b q hq h1
   ·have:=hg.lt b q hq;omega
 unfold zfs
 split
 ·rename_i hp
  subst hp
  exact ⟨zoL hlp,key⟩
 ·rename_i hp
  have hp:pan=false:=by simpa using hp
  subst hp
  exact ⟨zoL hlp,key⟩
theorem BFun.imp {as0:List ASh} {pre0:List (TypeId×List ALf)} {res0 res1:ASh} {post0 post1:List (TypeId×List ALf)} (h:BFun pan K P f as0 pre0 res0 post0) (hr:∀qs v W D,res0.ok qs v W D→res1.ok qs v W D) (hq:∀qs W D,okX K qs post0 qs W D→okX K qs post1 qs W D):BFun pan K P f as0 pre0 res1 post1:=
 fun W D vs qs h0 h1 h2 h3=>(h W D vs qs h0 h1 h2 h3).mono fun _ _ ⟨v,D',e,a1,a2,a3⟩=>⟨v,D',e,hr _ _ _ _ a1,hq _ _ _ a2,a3⟩
end
end Go.Proofs.YtccjiodohphgnaaGreatDoor
namespace Go.Proofs.YtccjiodohphgnaaGreatDoor
open Go.RowKit Go.Shelf
theorem zqC {w0:World} (x y r:RR) (hr:rq (addR (qq x) (qq y))=r) (hs:(addR (qq x) (qq y)).isSome=true):Fun (KN w0) Tryz.prog 13 [gR x,gR y] (.t [.g [pB r.1.1,pD r.1.2,pB r.2.1,pD r.2.2],.c (pV (.bool true))]):=zao x y r true hr hs
theorem zqF {w0:World} (x y r:RR) (hr:rq (mulR (qq x) (qq y))=r) (hs:(mulR (qq x) (qq y)).isSome=true):Fun (KN w0) Tryz.prog 18 [gR x,gR y] (.t [.g [pB r.1.1,pD r.1.2,pB r.2.1,pD r.2.2],.c (pV (.bool true))]):=zap x y r true hr hs
theorem fadd {w0:World} (x:RR) (y:RR) (v1:RR) (e1:(rq (addR (qq x) (qq y)))=v1) (s2:(addR (qq x) (qq y)).isSome=true):BFun false (KN w0) Tryz.prog 24 [.o (.g [.d (pB x.1.1),.d (pD x.1.2),.d (pB x.2.1),.d (pD x.2.2)]),.o (.g [.d (pB y.1.1),.d (pD y.1.2),.d (pB y.2.1),.d (pD y.2.2)]),.o (.c (.p 0 0))] [(4,[.d (pV (.bool true))])] (.o (.g [.d (pB v1.1.1),.d (pD v1.1.2),.d (pB v1.2.1),.d (pD v1.2.2)])) [(4,[.d (pV (.bool true))])] :=
 con_b (pan:=false) (zl (F:=FL [pB x.1.1,pD x.1.2,pB x.2.1,pD x.2.2,pB y.1.1,pD y.1.2,pB y.2.1,pD y.2.2,pB v1.1.1,pD v1.1.2,pB v1.2.1,pD v1.2.2] []) (C:=[(1000015,.call ⟨13,[.o (.g [.h 0,.h 1,.h 2,.h 3]),.o (.g [.h 4,.h 5,.h 6,.h 7])],[],.t [.g [.h 8,.h 9,.h 10,.h 11],.c (.k (.bool true))],[]⟩)]) (k:=⟨24,[.o (.g [.h 0,.h 1,.h 2,.h 3]),.o (.g [.h 4,.h 5,.h 6,.h 7]),.o (.c (.p 0 0))],[.bx 0 4 [.k (.bool true)]],.o (.g [.h 8,.h 9,.h 10,.h 11]),[.bx 0 4 [.k (.bool true)]]⟩) 10 (zm ⟨za rfl,ze,za rfl,ze,za rfl,ze,za rfl,ze,za rfl,ze,za rfl,ze,trivial⟩) ⟨zc (zqC x y v1 e1 s2) rfl rfl rfl rfl,
  trivial⟩ mixed (by kernel_rfl)) (by kernel_rfl) rfl rfl rfl rfl
theorem zbc {w0:World} (x y r:RR) (hr:rq (addR (qq x) (qq y))=r) (hs:(addR (qq x) (qq y)).isSome=true):BFun false (KN w0) Tryz.prog 24 [.o (.g [.d (pB x.1.1),.d (pD x.1.2),.d (pB x.2.1),.d (pD x.2.2)]),.o (.g [.d (pB y.1.1),.d (pD y.1.2),.d (pB y.2.1),.d (pD y.2.2)]),.o (.c (.p 0 0))] [(4,[.d (pV (.bool true))])] (.o (.g [.d (pB r.1.1),.d (pD r.1.2),.d (pB r.2.1),.d (pD r.2.2)])) [(4,[.d (pV (.bool true))])] :=
 fadd x y _ hr hs
theorem fmul {w0:World} (x:RR) (y:RR) (v1:RR) (e1:(rq (mulR (qq x) (qq y)))=v1) (s2:(mulR (qq x) (qq y)).isSome=true):BFun false (KN w0) Tryz.prog 25 [.o (.g [.d (pB x.1.1),.d (pD x.1.2),.d (pB x.2.1),.d (pD x.2.2)]),.o (.g [.d (pB y.1.1),.d (pD y.1.2),.d (pB y.2.1),.d (pD y.2.2)]),.o (.c (.p 0 0))] [(4,[.d (pV (.bool true))])] (.o (.g [.d (pB v1.1.1),.d (pD v1.1.2),.d (pB v1.2.1),.d (pD v1.2.2)])) [(4,[.d (pV (.bool true))])] :=
 con_b (pan:=false) (zl (F:=FL [pB x.1.1,pD x.1.2,pB x.2.1,pD x.2.2,pB y.1.1,pD y.1.2,pB y.2.1,pD y.2.2,pB v1.1.1,pD v1.1.2,pB v1.2.1,pD v1.2.2] []) (C:=[(1000015,.call ⟨18,[.o (.g [.h 0,.h 1,.h 2,.h 3]),.o (.g [.h 4,.h 5,.h 6,.h 7])],[],.t [.g [.h 8,.h 9,.h 10,.h 11],.c (.k (.bool true))],[]⟩)]) (k:=⟨25,[.o (.g [.h 0,.h 1,.h 2,.h 3]),.o (.g [.h 4,.h 5,.h 6,.h 7]),.o (.c (.p 0 0))],[.bx 0 4 [.k (.bool true)]],.o (.g [.h 8,.h 9,.h 10,.h 11]),[.bx 0 4 [.k (.bool true)]]⟩) 10 (zm ⟨za rfl,ze,za rfl,ze,za rfl,ze,za rfl,ze,za rfl,ze,za rfl,ze,trivial⟩) ⟨zc (zqF x y v1 e1 s2) rfl rfl rfl rfl,
  trivial⟩ mixed (by kernel_rfl)) (by kernel_rfl) rfl rfl rfl rfl
theorem zaQ {w0:World} (x y r:RR) (hr:rq (mulR (qq x) (qq y))=r) (hs:(mulR (qq x) (qq y)).isSome=true):BFun false (KN w0) Tryz.prog 25 [.o (.g [.d (pB x.1.1),.d (pD x.1.2),.d (pB x.2.1),.d (pD x.2.2)]),.o (.g [.d (pB y.1.1),.d (pD y.1.2),.d (pB y.2.1),.d (pD y.2.2)]),.o (.c (.p 0 0))] [(4,[.d (pV (.bool true))])] (.o (.g [.d (pB r.1.1),.d (pD r.1.2),.d (pB r.2.1),.d (pD r.2.2)])) [(4,[.d (pV (.bool true))])] :=
 fmul x y _ hr hs
theorem zz (l:List Int×List Int×List Int):∃p q z:Rat,madeR l.1=some p∧madeR l.2.1=some q∧madeR l.2.2=some z∧(qq (rq (some p))=some p)∧(qq (rq (some q))=some q)∧(qq (rq (some z))=some z)∧(addR (some p) (some q)=some (p+q))∧(addR (some q) (some p)=some (q+p))∧(mulR (some p) (some q)=some (p*q))∧(mulR (some q) (some p)=some (q*p))∧(qq (rq (some (p+q)))=some (p+q))∧(qq (rq (some (p*q)))=some (p*q))∧(addR (some (p+q)) (some z)=some (p+q+z))∧(addR (some q) (some z)=some (q+z))∧(qq (rq (some (q+z)))=some (q+z))∧(addR (some p) (some (q+z))=some (p+(q+z)))∧(mulR (some (p*q)) (some z)=some (p*q*z))∧(mulR (some q) (some z)=some (q*z))∧(qq (rq (some (q*z)))=some (q*z))∧(mulR (some p) (some (q*z))=some (p*(q*z)))∧(mulR (some p) (some (q+z))=some (p*(q+z)))∧(mulR (some p) (some z)=some (p*z))∧(qq (rq (some (p*z)))=some (p*z))∧(addR (some (p*q)) (some (p*z))=some (p*q+p*z))∧(subR (some (p+q)) (some q)=some (p+q - q))∧(sgX (rq (some q)).1 (rq (some q)).2=cmpQ q 0)∧(q+p=p+q)∧(q*p=p*q)∧(p+q+z=p+(q+z))∧(p*q*z=p*(q*z))∧(p*(q+z)=p*q+p*z)∧(p+q - q=p)∧(cmpQ q 0=0→divR (some (p*q)) (some q)=none)∧(cmpQ q 0≠0→divR (some (p*q)) (some q)=some p):=by
 obtain ⟨p,ep,hp⟩:=zdx l.1
 obtain ⟨q,eq,hq⟩:=zdx l.2.1
 obtain ⟨z,ez,hz⟩:=zdx l.2.2
 exact ⟨p,q,z,ep,eq,ez,qq_sz hp (by decide),qq_sz hq (by decide),qq_sz hz (by decide),zy hp hq (by decide),zy hq hp (by decide),zA hp hq (by decide),zA hq hp (by decide),qq_sz (hp.add hq) (by decide),qq_sz (hp.mul hq) (by decide),zy (hp.add hq) hz (by decide),zy hq hz (by decide),qq_sz (hq.add hz) (by decide),zy hp (hq.add hz) (by decide),zA (hp.mul hq) hz (by decide),zA hq hz (by decide),qq_sz (hq.mul hz) (by decide),zA hp (hq.mul hz) (by decide),zA hp (hq.add hz) (by decide),zA hp hz (by decide),qq_sz (hp.mul hz) (by decide),zy (hp.mul hq) (hp.mul hz) (by decide),zK (hp.add hq) hq (by decide),sg_sz hq (by decide),Rat.add_comm q p,Rat.mul_comm q p,Rat.add_assoc p q z,Rat.mul_assoc p q z,Rat.mul_add p q z,(by grind),(fun h=>by rw [qc h];exact zoj),(fun h=>by have e0:q≠0:=fun e=>h (by rw [e];exact zG);rw [ztI (hp.mul hq) hq e0 (by decide),show p*q / q=p by grind])⟩
theorem zjQ {w0:World} (l:(List Int×List Int×List Int)) (hM:∀W,Below w0.heap.size w0 W→MaxT W) (hTS:∀W,Below w0.heap.size w0 W→PowT w0.heap.size W∧SynT w0.heap.size W) (v1:Bool) (v2:RR) (v3:RR) (v4:RR) (v5:RR) (v7:RR) (v9:Bool) (v10:Bool) (v12:RR) (v14:RR) (v16:Bool) (v17:Bool) (v19:RR) (v21:RR) (v23:RR) (v25:RR) (v27:Bool) (v28:Bool) (v30:RR) (v32:RR) (v34:RR) (v36:RR) (v38:Bool) (v39:Bool) (v41:RR) (v43:RR) (v45:RR) (v47:RR) (v49:RR) (v51:Bool) (v52:Bool) (v54:RR) (v56:RR) (v57:Bool) (v58:RR) (v60:RR) (v61:Bool) (v62:Int) (v63:Bool) (v67:Bool) (v69:Bool) (e1:(true)=v1) (e2:(rq (madeR l.1))=v2) (e3:(rq (madeR l.2.1))=v3) (e4:(rq (madeR l.2.2))=v4) (e5:(rq (addR (qq v2) (qq v3)))=v5) (e7:(rq (addR (qq v3) (qq v2)))=v7) (e9:(decide (v5=v7))=v9) (e10:(!v9)=v10) (e12:(rq (mulR (qq v2) (qq v3)))=v12) (e14:(rq (mulR (qq v3) (qq v2)))=v14) (e16:(decide (v12=v14))=v16) (e17:(!v16)=v17) (e19:(rq (addR (qq v2) (qq v3)))=v19) (e21:(rq (addR (qq v19) (qq v4)))=v21) (e23:(rq (addR (qq v3) (qq v4)))=v23) (e25:(rq (addR (qq v2) (qq v23)))=v25) (e27:(decide (v21=v25))=v27) (e28:(!v27)=v28) (e30:(rq (mulR (qq v2) (qq v3)))=v30) (e32:(rq (mulR (qq v30) (qq v4)))=v32) (e34:(rq (mulR (qq v3) (qq v4)))=v34) (e36:(rq (mulR (qq v2) (qq v34)))=v36) (e38:(decide (v32=v36))=v38) (e39:(!v38)=v39) (e41:(rq (addR (qq v3) (qq v4)))=v41) (e43:(rq (mulR (qq v2) (qq v41)))=v43) (e45:(rq (mulR (qq v2) (qq v3)))=v45) (e47:(rq (mulR (qq v2) (qq v4)))=v47) (e49:(rq (addR (qq v45) (qq v47)))=v49) (e51:(decide (v43=v49))=v51) (e52:(!v51)=v52) (e54:(rq (addR (qq v2) (qq v3)))=v54) (e56:(rq (subR (qq v54) (qq v3)))=v56) (e57:((subR (qq v54) (qq v3)).isSome)=v57) (e58:(rq (mulR (qq v2) (qq v3)))=v58) (e60:(rq (divR (qq v58) (qq v3)))=v60) (e61:((divR (qq v58) (qq v3)).isSome)=v61) (e62:(sgX v3.1 v3.2)=v62) (e63:((v62 == (0:Int)))=v63) (e67:(!v61)=v67) (e69:(decide (v56=v2))=v69) (s6:(addR (qq v2) (qq v3)).isSome=true) (s8:(addR (qq v3) (qq v2)).isSome=true) (h11:v10=false) (s13:(mulR (qq v2) (qq v3)).isSome=true) (s15:(mulR (qq v3) (qq v2)).isSome=true) (h18:v17=false) (s20:(addR (qq v2) (qq v3)).isSome=true) (s22:(addR (qq v19) (qq v4)).isSome=true) (s24:(addR (qq v3) (qq v4)).isSome=true) (s26:(addR (qq v2) (qq v23)).isSome=true) (h29:v28=false) (s31:(mulR (qq v2) (qq v3)).isSome=true) (s33:(mulR (qq v30) (qq v4)).isSome=true) (s35:(mulR (qq v3) (qq v4)).isSome=true) (s37:(mulR (qq v2) (qq v34)).isSome=true) (h40:v39=false) (s42:(addR (qq v3) (qq v4)).isSome=true) (s44:(mulR (qq v2) (qq v41)).isSome=true) (s46:(mulR (qq v2) (qq v3)).isSome=true) (s48:(mulR (qq v2) (qq v4)).isSome=true) (s50:(addR (qq v45) (qq v47)).isSome=true) (h53:v52=false) (s55:(addR (qq v2) (qq v3)).isSome=true) (s59:(mulR (qq v2) (qq v3)).isSome=true) (h64:v63=true) (h65:v1=true) (h66:v57=true) (h68:v67=true):Fun (KN w0) Tryz.prog 4 [.o (.g [pLs cI l.1,pLs cI l.2.1,pLs cI l.2.2])] (.o (.c (pB v69))):=
 zi (zl (F:=FL (pLs cI l.1::pLs cI l.2.1::pLs cI l.2.2::pB v1::pB v2.1.1::pD v2.1.2::pB v2.2.1::pD v2.2.2::pB v3.1.1::pD v3.1.2::pB v3.2.1::pD v3.2.2::pB v4.1.1::pD v4.1.2::pB v4.2.1::pD v4.2.2::pB v5.1.1::pD v5.1.2::pB v5.2.1::pD v5.2.2::pB v7.1.1::pD v7.1.2::pB v7.2.1::pD v7.2.2::pB v9::pB v10::pB v12.1.1::pD v12.1.2::pB v12.2.1::pD v12.2.2::pB v14.1.1::pD v14.1.2::pB v14.2.1::pD v14.2.2::pB v16::pB v17::pB v19.1.1::pD v19.1.2::pB v19.2.1::pD v19.2.2::pB v21.1.1::pD v21.1.2::pB v21.2.1::pD v21.2.2::pB v23.1.1::pD v23.1.2::pB v23.2.1::pD v23.2.2::pB v25.1.1::pD v25.1.2::pB v25.2.1::pD v25.2.2::pB v27::pB v28::pB v30.1.1::pD v30.1.2::pB v30.2.1::pD v30.2.2::pB v32.1.1::pD v32.1.2::pB v32.2.1::pD v32.2.2::pB v34.1.1::pD v34.1.2::pB v34.2.1::pD v34.2.2::pB v36.1.1::pD v36.1.2::pB v36.2.1::pD v36.2.2::pB v38::pB v39::pB v41.1.1::pD v41.1.2::pB v41.2.1::pD v41.2.2::pB v43.1.1::pD v43.1.2::pB v43.2.1::pD v43.2.2::pB v45.1.1::pD v45.1.2::pB v45.2.1::pD v45.2.2::pB v47.1.1::pD v47.1.2::pB v47.2.1::pD v47.2.2::pB v49.1.1::pD v49.1.2::pB v49.2.1::pD v49.2.2::pB v51::pB v52::pB v54.1.1::pD v54.1.2::pB v54.2.1::pD v54.2.2::pB v56.1.1::pD v56.1.2::pB v56.2.1::pD v56.2.2::pB v57::pB v58.1.1::pD v58.1.2::pB v58.2.1::pD v58.2.2::pB v60.1.1::pD v60.1.2::pB v60.2.1::pD v60.2.2::pB v61::pI v62::pB v63::pB v67::pB v69::[]) []) (C:=((1000002,.call ⟨10,[],[],.o (.c (.h 3)),[]⟩) ::
  (1000006,.call ⟨12,[.o (.c (.h 0))],[],.o (.g [.h 4,.h 5,.h 6,.h 7]),[]⟩) ::
  (1000009,.call ⟨12,[.o (.c (.h 1))],[],.o (.g [.h 8,.h 9,.h 10,.h 11]),[]⟩) ::
  (1000012,.call ⟨12,[.o (.c (.h 2))],[],.o (.g [.h 12,.h 13,.h 14,.h 15]),[]⟩) ::
  (1000028,.call ⟨24,[.o (.g [.h 4,.h 5,.h 6,.h 7]),.o (.g [.h 8,.h 9,.h 10,.h 11]),.o (.c (.p 19 0))],[.bx 19 4 [.k (.bool true)]],.o (.g [.h 16,.h 17,.h 18,.h 19]),[.bx 19 4 [.k (.bool true)]]⟩) ::
  (1000032,.call ⟨24,[.o (.g [.h 8,.h 9,.h 10,.h 11]),.o (.g [.h 4,.h 5,.h 6,.h 7]),.o (.c (.p 19 0))],[.bx 19 4 [.k (.bool true)]],.o (.g [.h 20,.h 21,.h 22,.h 23]),[.bx 19 4 [.k (.bool true)]]⟩) ::
  (1000033,.call ⟨17,[.o (.g [.h 16,.h 17,.h 18,.h 19]),.o (.g [.h 20,.h 21,.h 22,.h 23])],[],.o (.c (.h 24)),[]⟩) ::
  (1000034,.un .not (LF (.h 24)) (LF (.h 25))) ::
  (10025,.fb 25 false) ::
  (1000039,.call ⟨25,[.o (.g [.h 4,.h 5,.h 6,.h 7]),.o (.g [.h 8,.h 9,.h 10,.h 11]),.o (.c (.p 19 0))],[.bx 19 4 [.k (.bool true)]],.o (.g [.h 26,.h 27,.h 28,.h 29]),[.bx 19 4 [.k (.bool true)]]⟩) ::
  (1000043,.call ⟨25,[.o (.g [.h 8,.h 9,.h 10,.h 11]),.o (.g [.h 4,.h 5,.h 6,.h 7]),.o (.c (.p 19 0))],[.bx 19 4 [.k (.bool true)]],.o (.g [.h 30,.h 31,.h 32,.h 33]),[.bx 19 4 [.k (.bool true)]]⟩) ::
  (1000044,.call ⟨17,[.o (.g [.h 26,.h 27,.h 28,.h 29]),.o (.g [.h 30,.h 31,.h 32,.h 33])],[],.o (.c (.h 34)),[]⟩) ::
  (1000045,.un .not (LF (.h 34)) (LF (.h 35))) ::
  (10035,.fb 35 false) ::
  (1000052,.call ⟨24,[.o (.g [.h 4,.h 5,.h 6,.h 7]),.o (.g [.h 8,.h 9,.h 10,.h 11]),.o (.c (.p 19 0))],[.bx 19 4 [.k (.bool true)]],.o (.g [.h 36,.h 37,.h 38,.h 39]),[.bx 19 4 [.k (.bool true)]]⟩) ::
  (1000054,.call ⟨24,[.o (.g [.h 36,.h 37,.h 38,.h 39]),.o (.g [.h 12,.h 13,.h 14,.h 15]),.o (.c (.p 19 0))],[.bx 19 4 [.k (.bool true)]],.o (.g [.h 40,.h 41,.h 42,.h 43]),[.bx 19 4 [.k (.bool true)]]⟩) ::
  (1000060,.call ⟨24,[.o (.g [.h 8,.h 9,.h 10,.h 11]),.o (.g [.h 12,.h 13,.h 14,.h 15]),.o (.c (.p 19 0))],[.bx 19 4 [.k (.bool true)]],.o (.g [.h 44,.h 45,.h 46,.h 47]),[.bx 19 4 [.k (.bool true)]]⟩) ::
  (1000061,.call ⟨24,[.o (.g [.h 4,.h 5,.h 6,.h 7]),.o (.g [.h 44,.h 45,.h 46,.h 47]),.o (.c (.p 19 0))],[.bx 19 4 [.k (.bool true)]],.o (.g [.h 48,.h 49,.h 50,.h 51]),[.bx 19 4 [.k (.bool true)]]⟩) ::
  (1000062,.call ⟨17,[.o (.g [.h 40,.h 41,.h 42,.h 43]),.o (.g [.h 48,.h 49,.h 50,.h 51])],[],.o (.c (.h 52)),[]⟩) ::
  (1000063,.un .not (LF (.h 52)) (LF (.h 53))) ::
  (10053,.fb 53 false) ::
  (1000070,.call ⟨25,[.o (.g [.h 4,.h 5,.h 6,.h 7]),.o (.g [.h 8,.h 9,.h 10,.h 11]),.o (.c (.p 19 0))],[.bx 19 4 [.k (.bool true)]],.o (.g [.h 54,.h 55,.h 56,.h 57]),[.bx 19 4 [.k (.bool true)]]⟩) ::
  (1000072,.call ⟨25,[.o (.g [.h 54,.h 55,.h 56,.h 57]),.o (.g [.h 12,.h 13,.h 14,.h 15]),.o (.c (.p 19 0))],[.bx 19 4 [.k (.bool true)]],.o (.g [.h 58,.h 59,.h 60,.h 61]),[.bx 19 4 [.k (.bool true)]]⟩) ::
  (1000078,.call ⟨25,[.o (.g [.h 8,.h 9,.h 10,.h 11]),.o (.g [.h 12,.h 13,.h 14,.h 15]),.o (.c (.p 19 0))],[.bx 19 4 [.k (.bool true)]],.o (.g [.h 62,.h 63,.h 64,.h 65]),[.bx 19 4 [.k (.bool true)]]⟩) ::
  (1000079,.call ⟨25,[.o (.g [.h 4,.h 5,.h 6,.h 7]),.o (.g [.h 62,.h 63,.h 64,.h 65]),.o (.c (.p 19 0))],[.bx 19 4 [.k (.bool true)]],.o (.g [.h 66,.h 67,.h 68,.h 69]),[.bx 19 4 [.k (.bool true)]]⟩) ::
  (1000080,.call ⟨17,[.o (.g [.h 58,.h 59,.h 60,.h 61]),.o (.g [.h 66,.h 67,.h 68,.h 69])],[],.o (.c (.h 70)),[]⟩) ::
  (1000081,.un .not (LF (.h 70)) (LF (.h 71))) ::
  (10071,.fb 71 false) ::
  (1000089,.call ⟨24,[.o (.g [.h 8,.h 9,.h 10,.h 11]),.o (.g [.h 12,.h 13,.h 14,.h 15]),.o (.c (.p 19 0))],[.bx 19 4 [.k (.bool true)]],.o (.g [.h 72,.h 73,.h 74,.h 75]),[.bx 19 4 [.k (.bool true)]]⟩) ::
  (1000090,.call ⟨25,[.o (.g [.h 4,.h 5,.h 6,.h 7]),.o (.g [.h 72,.h 73,.h 74,.h 75]),.o (.c (.p 19 0))],[.bx 19 4 [.k (.bool true)]],.o (.g [.h 76,.h 77,.h 78,.h 79]),[.bx 19 4 [.k (.bool true)]]⟩) ::
  (1000095,.call ⟨25,[.o (.g [.h 4,.h 5,.h 6,.h 7]),.o (.g [.h 8,.h 9,.h 10,.h 11]),.o (.c (.p 19 0))],[.bx 19 4 [.k (.bool true)]],.o (.g [.h 80,.h 81,.h 82,.h 83]),[.bx 19 4 [.k (.bool true)]]⟩) ::
  (1000099,.call ⟨25,[.o (.g [.h 4,.h 5,.h 6,.h 7]),.o (.g [.h 12,.h 13,.h 14,.h 15]),.o (.c (.p 19 0))],[.bx 19 4 [.k (.bool true)]],.o (.g [.h 84,.h 85,.h 86,.h 87]),[.bx 19 4 [.k (.bool true)]]⟩) ::
  (1000100,.call ⟨24,[.o (.g [.h 80,.h 81,.h 82,.h 83]),.o (.g [.h 84,.h 85,.h 86,.h 87]),.o (.c (.p 19 0))],[.bx 19 4 [.k (.bool true)]],.o (.g [.h 88,.h 89,.h 90,.h 91]),[.bx 19 4 [.k (.bool true)]]⟩) ::
  (1000101,.call ⟨17,[.o (.g [.h 76,.h 77,.h 78,.h 79]),.o (.g [.h 88,.h 89,.h 90,.h 91])],[],.o (.c (.h 92)),[]⟩) ::
  (1000102,.un .not (LF (.h 92)) (LF (.h 93))) ::
  (10093,.fb 93 false) ::
  (1000107,.call ⟨24,[.o (.g [.h 4,.h 5,.h 6,.h 7]),.o (.g [.h 8,.h 9,.h 10,.h 11]),.o (.c (.p 19 0))],[.bx 19 4 [.k (.bool true)]],.o (.g [.h 94,.h 95,.h 96,.h 97]),[.bx 19 4 [.k (.bool true)]]⟩) ::
  (1000109,.call ⟨15,[.o (.g [.h 94,.h 95,.h 96,.h 97]),.o (.g [.h 8,.h 9,.h 10,.h 11])],[],.t [.g [.h 98,.h 99,.h 100,.h 101],.c (.h 102)],[]⟩) ::
  (1000119,.call ⟨25,[.o (.g [.h 4,.h 5,.h 6,.h 7]),.o (.g [.h 8,.h 9,.h 10,.h 11]),.o (.c (.p 19 0))],[.bx 19 4 [.k (.bool true)]],.o (.g [.h 103,.h 104,.h 105,.h 106]),[.bx 19 4 [.k (.bool true)]]⟩) ::
  (1000121,.call ⟨20,[.o (.g [.h 103,.h 104,.h 105,.h 106]),.o (.g [.h 8,.h 9,.h 10,.h 11])],[],.t [.g [.h 107,.h 108,.h 109,.h 110],.c (.h 111)],[]⟩) ::
  (1000129,.call ⟨26,[.o (.g [.h 8,.h 9,.h 10,.h 11])],[],.o (.c (.h 112)),[]⟩) ::
  (1000130,.bin .eql 3 (LF (.h 112)) (LF (.k (.int .i64 0))) (LF (.h 113))) ::
  (10113,.fb 113 true) ::
  (10003,.fb 3 true) ::
  (10102,.fb 102 true) ::
  (1000140,.un .not (LF (.h 111)) (LF (.h 114))) ::
  (10114,.fb 114 true) ::
  (1000145,.call ⟨17,[.o (.g [.h 98,.h 99,.h 100,.h 101]),.o (.g [.h 4,.h 5,.h 6,.h 7])],[],.o (.c (.h 115)),[]⟩)::[]:List (Nat×Ent))) (k:=⟨4,[.o (.g [.h 0,.h 1,.h 2])],[],.o (.c (.h 115)),[]⟩) 0 (zm ⟨(zC zE),(zC zE),(zC zE),za rfl,za rfl,ze,za rfl,ze,za rfl,ze,za rfl,ze,za rfl,ze,za rfl,ze,za rfl,ze,za rfl,ze,za rfl,ze,za rfl,ze,za rfl,za rfl,za rfl,ze,za rfl,ze,za rfl,ze,za rfl,ze,za rfl,za rfl,za rfl,ze,za rfl,ze,za rfl,ze,za rfl,ze,za rfl,ze,za rfl,ze,za rfl,ze,za rfl,ze,za rfl,za rfl,za rfl,ze,za rfl,ze,za rfl,ze,za rfl,ze,za rfl,ze,za rfl,ze,za rfl,ze,za rfl,ze,za rfl,za rfl,za rfl,ze,za rfl,ze,za rfl,ze,za rfl,ze,za rfl,ze,za rfl,ze,za rfl,ze,za rfl,ze,za rfl,ze,za rfl,ze,za rfl,za rfl,za rfl,ze,za rfl,ze,za rfl,ze,za rfl,ze,za rfl,za rfl,ze,za rfl,ze,za rfl,ze,za rfl,ze,za rfl,za rfl,za rfl,za rfl,za rfl,trivial⟩) ⟨zc (qE hM hTS  v1 e1) rfl rfl rfl rfl,
  zc (qL l.1 v2 e2) rfl rfl rfl rfl,
  zc (qL l.2.1 v3 e3) rfl rfl rfl rfl,
  zc (qL l.2.2 v4 e4) rfl rfl rfl rfl,
  b_con (pan:=false) (zbc v2 v3 v5 e5 s6) (by kernel_rfl) rfl rfl rfl rfl,
  b_con (pan:=false) (zbc v3 v2 v7 e7 s8) (by kernel_rfl) rfl rfl rfl rfl,
  zc (zY v5 v7 v9 e9) rfl rfl rfl rfl,
  e_un (zb rfl) (zb rfl) (fun W=>by rw [← e10];exact r_not W),
  e_fb (show pV (.bool v10)=_ by rw [h11]),
  b_con (pan:=false) (zaQ v2 v3 v12 e12 s13) (by kernel_rfl) rfl rfl rfl rfl,
  b_con (pan:=false) (zaQ v3 v2 v14 e14 s15) (by kernel_rfl) rfl rfl rfl rfl,
  zc (zY v12 v14 v16 e16) rfl rfl rfl rfl,
  e_un (zb rfl) (zb rfl) (fun W=>by rw [← e17];exact r_not W),
  e_fb (show pV (.bool v17)=_ by rw [h18]),
  b_con (pan:=false) (zbc v2 v3 v19 e19 s20) (by kernel_rfl) rfl rfl rfl rfl,
  b_con (pan:=false) (zbc v19 v4 v21 e21 s22) (by kernel_rfl) rfl rfl rfl rfl,
  b_con (pan:=false) (zbc v3 v4 v23 e23 s24) (by kernel_rfl) rfl rfl rfl rfl,
  b_con (pan:=false) (zbc v2 v23 v25 e25 s26) (by kernel_rfl) rfl rfl rfl rfl,
  zc (zY v21 v25 v27 e27) rfl rfl rfl rfl,
  e_un (zb rfl) (zb rfl) (fun W=>by rw [← e28];exact r_not W),
  e_fb (show pV (.bool v28)=_ by rw [h29]),
  b_con (pan:=false) (zaQ v2 v3 v30 e30 s31) (by kernel_rfl) rfl rfl rfl rfl,
  b_con (pan:=false) (zaQ v30 v4 v32 e32 s33) (by kernel_rfl) rfl rfl rfl rfl,
  b_con (pan:=false) (zaQ v3 v4 v34 e34 s35) (by kernel_rfl) rfl rfl rfl rfl,
  b_con (pan:=false) (zaQ v2 v34 v36 e36 s37) (by kernel_rfl) rfl rfl rfl rfl,
  zc (zY v32 v36 v38 e38) rfl rfl rfl rfl,
  e_un (zb rfl) (zb rfl) (fun W=>by rw [← e39];exact r_not W),
  e_fb (show pV (.bool v39)=_ by rw [h40]),
  b_con (pan:=false) (zbc v3 v4 v41 e41 s42) (by kernel_rfl) rfl rfl rfl rfl,
  b_con (pan:=false) (zaQ v2 v41 v43 e43 s44) (by kernel_rfl) rfl rfl rfl rfl,
  b_con (pan:=false) (zaQ v2 v3 v45 e45 s46) (by kernel_rfl) rfl rfl rfl rfl,
  b_con (pan:=false) (zaQ v2 v4 v47 e47 s48) (by kernel_rfl) rfl rfl rfl rfl,
  b_con (pan:=false) (zbc v45 v47 v49 e49 s50) (by kernel_rfl) rfl rfl rfl rfl,
  zc (zY v43 v49 v51 e51) rfl rfl rfl rfl,
  e_un (zb rfl) (zb rfl) (fun W=>by rw [← e52];exact r_not W),
  e_fb (show pV (.bool v52)=_ by rw [h53]),
  b_con (pan:=false) (zbc v2 v3 v54 e54 s55) (by kernel_rfl) rfl rfl rfl rfl,
  zc (zcN v54 v3 v56 v57 e56 e57) rfl rfl rfl rfl,
  b_con (pan:=false) (zaQ v2 v3 v58 e58 s59) (by kernel_rfl) rfl rfl rfl rfl,
  zc (zcD v58 v3 v60 v61 e60 e61) rfl rfl rfl rfl,
  zc (qS v3 v62 e62) rfl rfl rfl rfl,
  e_bin (zb rfl) zg (zb rfl) (r_cmp (congrArg some e63)),
  e_fb (show pV (.bool v63)=_ by rw [h64]),
  e_fb (show pV (.bool v1)=_ by rw [h65]),
  e_fb (show pV (.bool v57)=_ by rw [h66]),
  e_un (zb rfl) (zb rfl) (fun W=>by rw [← e67];exact r_not W),
  e_fb (show pV (.bool v67)=_ by rw [h68]),
  zc (zY v56 v2 v69 e69) rfl rfl rfl rfl,
  trivial⟩ mixed (by kernel_rfl)) rfl rfl rfl rfl
theorem zjR {w0:World} (l:(List Int×List Int×List Int)) (hM:∀W,Below w0.heap.size w0 W→MaxT W) (hTS:∀W,Below w0.heap.size w0 W→PowT w0.heap.size W∧SynT w0.heap.size W) (v1:Bool) (v2:RR) (v3:RR) (v4:RR) (v5:RR) (v7:RR) (v9:Bool) (v10:Bool) (v12:RR) (v14:RR) (v16:Bool) (v17:Bool) (v19:RR) (v21:RR) (v23:RR) (v25:RR) (v27:Bool) (v28:Bool) (v30:RR) (v32:RR) (v34:RR) (v36:RR) (v38:Bool) (v39:Bool) (v41:RR) (v43:RR) (v45:RR) (v47:RR) (v49:RR) (v51:Bool) (v52:Bool) (v54:RR) (v56:RR) (v57:Bool) (v58:RR) (v60:RR) (v61:Bool) (v62:Int) (v63:Bool) (v68:Bool) (v70:Bool) (e1:(true)=v1) (e2:(rq (madeR l.1))=v2) (e3:(rq (madeR l.2.1))=v3) (e4:(rq (madeR l.2.2))=v4) (e5:(rq (addR (qq v2) (qq v3)))=v5) (e7:(rq (addR (qq v3) (qq v2)))=v7) (e9:(decide (v5=v7))=v9) (e10:(!v9)=v10) (e12:(rq (mulR (qq v2) (qq v3)))=v12) (e14:(rq (mulR (qq v3) (qq v2)))=v14) (e16:(decide (v12=v14))=v16) (e17:(!v16)=v17) (e19:(rq (addR (qq v2) (qq v3)))=v19) (e21:(rq (addR (qq v19) (qq v4)))=v21) (e23:(rq (addR (qq v3) (qq v4)))=v23) (e25:(rq (addR (qq v2) (qq v23)))=v25) (e27:(decide (v21=v25))=v27) (e28:(!v27)=v28) (e30:(rq (mulR (qq v2) (qq v3)))=v30) (e32:(rq (mulR (qq v30) (qq v4)))=v32) (e34:(rq (mulR (qq v3) (qq v4)))=v34) (e36:(rq (mulR (qq v2) (qq v34)))=v36) (e38:(decide (v32=v36))=v38) (e39:(!v38)=v39) (e41:(rq (addR (qq v3) (qq v4)))=v41) (e43:(rq (mulR (qq v2) (qq v41)))=v43) (e45:(rq (mulR (qq v2) (qq v3)))=v45) (e47:(rq (mulR (qq v2) (qq v4)))=v47) (e49:(rq (addR (qq v45) (qq v47)))=v49) (e51:(decide (v43=v49))=v51) (e52:(!v51)=v52) (e54:(rq (addR (qq v2) (qq v3)))=v54) (e56:(rq (subR (qq v54) (qq v3)))=v56) (e57:((subR (qq v54) (qq v3)).isSome)=v57) (e58:(rq (mulR (qq v2) (qq v3)))=v58) (e60:(rq (divR (qq v58) (qq v3)))=v60) (e61:((divR (qq v58) (qq v3)).isSome)=v61) (e62:(sgX v3.1 v3.2)=v62) (e63:((v62 == (0:Int)))=v63) (e68:(decide (v56=v2))=v68) (e70:(decide (v60=v2))=v70) (s6:(addR (qq v2) (qq v3)).isSome=true) (s8:(addR (qq v3) (qq v2)).isSome=true) (h11:v10=false) (s13:(mulR (qq v2) (qq v3)).isSome=true) (s15:(mulR (qq v3) (qq v2)).isSome=true) (h18:v17=false) (s20:(addR (qq v2) (qq v3)).isSome=true) (s22:(addR (qq v19) (qq v4)).isSome=true) (s24:(addR (qq v3) (qq v4)).isSome=true) (s26:(addR (qq v2) (qq v23)).isSome=true) (h29:v28=false) (s31:(mulR (qq v2) (qq v3)).isSome=true) (s33:(mulR (qq v30) (qq v4)).isSome=true) (s35:(mulR (qq v3) (qq v4)).isSome=true) (s37:(mulR (qq v2) (qq v34)).isSome=true) (h40:v39=false) (s42:(addR (qq v3) (qq v4)).isSome=true) (s44:(mulR (qq v2) (qq v41)).isSome=true) (s46:(mulR (qq v2) (qq v3)).isSome=true) (s48:(mulR (qq v2) (qq v4)).isSome=true) (s50:(addR (qq v45) (qq v47)).isSome=true) (h53:v52=false) (s55:(addR (qq v2) (qq v3)).isSome=true) (s59:(mulR (qq v2) (qq v3)).isSome=true) (h64:v63=false) (h65:v1=true) (h66:v57=true) (h67:v61=true) (h69:v68=true):Fun (KN w0) Tryz.prog 4 [.o (.g [pLs cI l.1,pLs cI l.2.1,pLs cI l.2.2])] (.o (.c (pB v70))):=
 zi (zl (F:=FL (pLs cI l.1::pLs cI l.2.1::pLs cI l.2.2::pB v1::pB v2.1.1::pD v2.1.2::pB v2.2.1::pD v2.2.2::pB v3.1.1::pD v3.1.2::pB v3.2.1::pD v3.2.2::pB v4.1.1::pD v4.1.2::pB v4.2.1::pD v4.2.2::pB v5.1.1::pD v5.1.2::pB v5.2.1::pD v5.2.2::pB v7.1.1::pD v7.1.2::pB v7.2.1::pD v7.2.2::pB v9::pB v10::pB v12.1.1::pD v12.1.2::pB v12.2.1::pD v12.2.2::pB v14.1.1::pD v14.1.2::pB v14.2.1::pD v14.2.2::pB v16::pB v17::pB v19.1.1::pD v19.1.2::pB v19.2.1::pD v19.2.2::pB v21.1.1::pD v21.1.2::pB v21.2.1::pD v21.2.2::pB v23.1.1::pD v23.1.2::pB v23.2.1::pD v23.2.2::pB v25.1.1::pD v25.1.2::pB v25.2.1::pD v25.2.2::pB v27::pB v28::pB v30.1.1::pD v30.1.2::pB v30.2.1::pD v30.2.2::pB v32.1.1::pD v32.1.2::pB v32.2.1::pD v32.2.2::pB v34.1.1::pD v34.1.2::pB v34.2.1::pD v34.2.2::pB v36.1.1::pD v36.1.2::pB v36.2.1::pD v36.2.2::pB v38::pB v39::pB v41.1.1::pD v41.1.2::pB v41.2.1::pD v41.2.2::pB v43.1.1::pD v43.1.2::pB v43.2.1::pD v43.2.2::pB v45.1.1::pD v45.1.2::pB v45.2.1::pD v45.2.2::pB v47.1.1::pD v47.1.2::pB v47.2.1::pD v47.2.2::pB v49.1.1::pD v49.1.2::pB v49.2.1::pD v49.2.2::pB v51::pB v52::pB v54.1.1::pD v54.1.2::pB v54.2.1::pD v54.2.2::pB v56.1.1::pD v56.1.2::pB v56.2.1::pD v56.2.2::pB v57::pB v58.1.1::pD v58.1.2::pB v58.2.1::pD v58.2.2::pB v60.1.1::pD v60.1.2::pB v60.2.1::pD v60.2.2::pB v61::pI v62::pB v63::pB v68::pB v70::[]) []) (C:=((1000002,.call ⟨10,[],[],.o (.c (.h 3)),[]⟩) ::
  (1000006,.call ⟨12,[.o (.c (.h 0))],[],.o (.g [.h 4,.h 5,.h 6,.h 7]),[]⟩) ::
  (1000009,.call ⟨12,[.o (.c (.h 1))],[],.o (.g [.h 8,.h 9,.h 10,.h 11]),[]⟩) ::
  (1000012,.call ⟨12,[.o (.c (.h 2))],[],.o (.g [.h 12,.h 13,.h 14,.h 15]),[]⟩) ::
  (1000028,.call ⟨24,[.o (.g [.h 4,.h 5,.h 6,.h 7]),.o (.g [.h 8,.h 9,.h 10,.h 11]),.o (.c (.p 19 0))],[.bx 19 4 [.k (.bool true)]],.o (.g [.h 16,.h 17,.h 18,.h 19]),[.bx 19 4 [.k (.bool true)]]⟩) ::
  (1000032,.call ⟨24,[.o (.g [.h 8,.h 9,.h 10,.h 11]),.o (.g [.h 4,.h 5,.h 6,.h 7]),.o (.c (.p 19 0))],[.bx 19 4 [.k (.bool true)]],.o (.g [.h 20,.h 21,.h 22,.h 23]),[.bx 19 4 [.k (.bool true)]]⟩) ::
  (1000033,.call ⟨17,[.o (.g [.h 16,.h 17,.h 18,.h 19]),.o (.g [.h 20,.h 21,.h 22,.h 23])],[],.o (.c (.h 24)),[]⟩) ::
  (1000034,.un .not (LF (.h 24)) (LF (.h 25))) ::
  (10025,.fb 25 false) ::
  (1000039,.call ⟨25,[.o (.g [.h 4,.h 5,.h 6,.h 7]),.o (.g [.h 8,.h 9,.h 10,.h 11]),.o (.c (.p 19 0))],[.bx 19 4 [.k (.bool true)]],.o (.g [.h 26,.h 27,.h 28,.h 29]),[.bx 19 4 [.k (.bool true)]]⟩) ::
  (1000043,.call ⟨25,[.o (.g [.h 8,.h 9,.h 10,.h 11]),.o (.g [.h 4,.h 5,.h 6,.h 7]),.o (.c (.p 19 0))],[.bx 19 4 [.k (.bool true)]],.o (.g [.h 30,.h 31,.h 32,.h 33]),[.bx 19 4 [.k (.bool true)]]⟩) ::
  (1000044,.call ⟨17,[.o (.g [.h 26,.h 27,.h 28,.h 29]),.o (.g [.h 30,.h 31,.h 32,.h 33])],[],.o (.c (.h 34)),[]⟩) ::
  (1000045,.un .not (LF (.h 34)) (LF (.h 35))) ::
  (10035,.fb 35 false) ::
  (1000052,.call ⟨24,[.o (.g [.h 4,.h 5,.h 6,.h 7]),.o (.g [.h 8,.h 9,.h 10,.h 11]),.o (.c (.p 19 0))],[.bx 19 4 [.k (.bool true)]],.o (.g [.h 36,.h 37,.h 38,.h 39]),[.bx 19 4 [.k (.bool true)]]⟩) ::
  (1000054,.call ⟨24,[.o (.g [.h 36,.h 37,.h 38,.h 39]),.o (.g [.h 12,.h 13,.h 14,.h 15]),.o (.c (.p 19 0))],[.bx 19 4 [.k (.bool true)]],.o (.g [.h 40,.h 41,.h 42,.h 43]),[.bx 19 4 [.k (.bool true)]]⟩) ::
  (1000060,.call ⟨24,[.o (.g [.h 8,.h 9,.h 10,.h 11]),.o (.g [.h 12,.h 13,.h 14,.h 15]),.o (.c (.p 19 0))],[.bx 19 4 [.k (.bool true)]],.o (.g [.h 44,.h 45,.h 46,.h 47]),[.bx 19 4 [.k (.bool true)]]⟩) ::
  (1000061,.call ⟨24,[.o (.g [.h 4,.h 5,.h 6,.h 7]),.o (.g [.h 44,.h 45,.h 46,.h 47]),.o (.c (.p 19 0))],[.bx 19 4 [.k (.bool true)]],.o (.g [.h 48,.h 49,.h 50,.h 51]),[.bx 19 4 [.k (.bool true)]]⟩) ::
  (1000062,.call ⟨17,[.o (.g [.h 40,.h 41,.h 42,.h 43]),.o (.g [.h 48,.h 49,.h 50,.h 51])],[],.o (.c (.h 52)),[]⟩) ::
  (1000063,.un .not (LF (.h 52)) (LF (.h 53))) ::
  (10053,.fb 53 false) ::
  (1000070,.call ⟨25,[.o (.g [.h 4,.h 5,.h 6,.h 7]),.o (.g [.h 8,.h 9,.h 10,.h 11]),.o (.c (.p 19 0))],[.bx 19 4 [.k (.bool true)]],.o (.g [.h 54,.h 55,.h 56,.h 57]),[.bx 19 4 [.k (.bool true)]]⟩) ::
  (1000072,.call ⟨25,[.o (.g [.h 54,.h 55,.h 56,.h 57]),.o (.g [.h 12,.h 13,.h 14,.h 15]),.o (.c (.p 19 0))],[.bx 19 4 [.k (.bool true)]],.o (.g [.h 58,.h 59,.h 60,.h 61]),[.bx 19 4 [.k (.bool true)]]⟩) ::
  (1000078,.call ⟨25,[.o (.g [.h 8,.h 9,.h 10,.h 11]),.o (.g [.h 12,.h 13,.h 14,.h 15]),.o (.c (.p 19 0))],[.bx 19 4 [.k (.bool true)]],.o (.g [.h 62,.h 63,.h 64,.h 65]),[.bx 19 4 [.k (.bool true)]]⟩) ::
  (1000079,.call ⟨25,[.o (.g [.h 4,.h 5,.h 6,.h 7]),.o (.g [.h 62,.h 63,.h 64,.h 65]),.o (.c (.p 19 0))],[.bx 19 4 [.k (.bool true)]],.o (.g [.h 66,.h 67,.h 68,.h 69]),[.bx 19 4 [.k (.bool true)]]⟩) ::
  (1000080,.call ⟨17,[.o (.g [.h 58,.h 59,.h 60,.h 61]),.o (.g [.h 66,.h 67,.h 68,.h 69])],[],.o (.c (.h 70)),[]⟩) ::
  (1000081,.un .not (LF (.h 70)) (LF (.h 71))) ::
  (10071,.fb 71 false) ::
  (1000089,.call ⟨24,[.o (.g [.h 8,.h 9,.h 10,.h 11]),.o (.g [.h 12,.h 13,.h 14,.h 15]),.o (.c (.p 19 0))],[.bx 19 4 [.k (.bool true)]],.o (.g [.h 72,.h 73,.h 74,.h 75]),[.bx 19 4 [.k (.bool true)]]⟩) ::
  (1000090,.call ⟨25,[.o (.g [.h 4,.h 5,.h 6,.h 7]),.o (.g [.h 72,.h 73,.h 74,.h 75]),.o (.c (.p 19 0))],[.bx 19 4 [.k (.bool true)]],.o (.g [.h 76,.h 77,.h 78,.h 79]),[.bx 19 4 [.k (.bool true)]]⟩) ::
  (1000095,.call ⟨25,[.o (.g [.h 4,.h 5,.h 6,.h 7]),.o (.g [.h 8,.h 9,.h 10,.h 11]),.o (.c (.p 19 0))],[.bx 19 4 [.k (.bool true)]],.o (.g [.h 80,.h 81,.h 82,.h 83]),[.bx 19 4 [.k (.bool true)]]⟩) ::
  (1000099,.call ⟨25,[.o (.g [.h 4,.h 5,.h 6,.h 7]),.o (.g [.h 12,.h 13,.h 14,.h 15]),.o (.c (.p 19 0))],[.bx 19 4 [.k (.bool true)]],.o (.g [.h 84,.h 85,.h 86,.h 87]),[.bx 19 4 [.k (.bool true)]]⟩) ::
  (1000100,.call ⟨24,[.o (.g [.h 80,.h 81,.h 82,.h 83]),.o (.g [.h 84,.h 85,.h 86,.h 87]),.o (.c (.p 19 0))],[.bx 19 4 [.k (.bool true)]],.o (.g [.h 88,.h 89,.h 90,.h 91]),[.bx 19 4 [.k (.bool true)]]⟩) ::
  (1000101,.call ⟨17,[.o (.g [.h 76,.h 77,.h 78,.h 79]),.o (.g [.h 88,.h 89,.h 90,.h 91])],[],.o (.c (.h 92)),[]⟩) ::
  (1000102,.un .not (LF (.h 92)) (LF (.h 93))) ::
  (10093,.fb 93 false) ::
  (1000107,.call ⟨24,[.o (.g [.h 4,.h 5,.h 6,.h 7]),.o (.g [.h 8,.h 9,.h 10,.h 11]),.o (.c (.p 19 0))],[.bx 19 4 [.k (.bool true)]],.o (.g [.h 94,.h 95,.h 96,.h 97]),[.bx 19 4 [.k (.bool true)]]⟩) ::
  (1000109,.call ⟨15,[.o (.g [.h 94,.h 95,.h 96,.h 97]),.o (.g [.h 8,.h 9,.h 10,.h 11])],[],.t [.g [.h 98,.h 99,.h 100,.h 101],.c (.h 102)],[]⟩) ::
  (1000119,.call ⟨25,[.o (.g [.h 4,.h 5,.h 6,.h 7]),.o (.g [.h 8,.h 9,.h 10,.h 11]),.o (.c (.p 19 0))],[.bx 19 4 [.k (.bool true)]],.o (.g [.h 103,.h 104,.h 105,.h 106]),[.bx 19 4 [.k (.bool true)]]⟩) ::
  (1000121,.call ⟨20,[.o (.g [.h 103,.h 104,.h 105,.h 106]),.o (.g [.h 8,.h 9,.h 10,.h 11])],[],.t [.g [.h 107,.h 108,.h 109,.h 110],.c (.h 111)],[]⟩) ::
  (1000129,.call ⟨26,[.o (.g [.h 8,.h 9,.h 10,.h 11])],[],.o (.c (.h 112)),[]⟩) ::
  (1000130,.bin .eql 3 (LF (.h 112)) (LF (.k (.int .i64 0))) (LF (.h 113))) ::
  (10113,.fb 113 false) ::
  (10003,.fb 3 true) ::
  (10102,.fb 102 true) ::
  (10111,.fb 111 true) ::
  (1000144,.call ⟨17,[.o (.g [.h 98,.h 99,.h 100,.h 101]),.o (.g [.h 4,.h 5,.h 6,.h 7])],[],.o (.c (.h 114)),[]⟩) ::
  (10114,.fb 114 true) ::
  (1000149,.call ⟨17,[.o (.g [.h 107,.h 108,.h 109,.h 110]),.o (.g [.h 4,.h 5,.h 6,.h 7])],[],.o (.c (.h 115)),[]⟩)::[]:List (Nat×Ent))) (k:=⟨4,[.o (.g [.h 0,.h 1,.h 2])],[],.o (.c (.h 115)),[]⟩) 0 (zm ⟨(zC zE),(zC zE),(zC zE),za rfl,za rfl,ze,za rfl,ze,za rfl,ze,za rfl,ze,za rfl,ze,za rfl,ze,za rfl,ze,za rfl,ze,za rfl,ze,za rfl,ze,za rfl,za rfl,za rfl,ze,za rfl,ze,za rfl,ze,za rfl,ze,za rfl,za rfl,za rfl,ze,za rfl,ze,za rfl,ze,za rfl,ze,za rfl,ze,za rfl,ze,za rfl,ze,za rfl,ze,za rfl,za rfl,za rfl,ze,za rfl,ze,za rfl,ze,za rfl,ze,za rfl,ze,za rfl,ze,za rfl,ze,za rfl,ze,za rfl,za rfl,za rfl,ze,za rfl,ze,za rfl,ze,za rfl,ze,za rfl,ze,za rfl,ze,za rfl,ze,za rfl,ze,za rfl,ze,za rfl,ze,za rfl,za rfl,za rfl,ze,za rfl,ze,za rfl,ze,za rfl,ze,za rfl,za rfl,ze,za rfl,ze,za rfl,ze,za rfl,ze,za rfl,za rfl,za rfl,za rfl,za rfl,trivial⟩) ⟨zc (qE hM hTS  v1 e1) rfl rfl rfl rfl,
  zc (qL l.1 v2 e2) rfl rfl rfl rfl,
  zc (qL l.2.1 v3 e3) rfl rfl rfl rfl,
  zc (qL l.2.2 v4 e4) rfl rfl rfl rfl,
  b_con (pan:=false) (zbc v2 v3 v5 e5 s6) (by kernel_rfl) rfl rfl rfl rfl,
  b_con (pan:=false) (zbc v3 v2 v7 e7 s8) (by kernel_rfl) rfl rfl rfl rfl,
  zc (zY v5 v7 v9 e9) rfl rfl rfl rfl,
  e_un (zb rfl) (zb rfl) (fun W=>by rw [← e10];exact r_not W),
  e_fb (show pV (.bool v10)=_ by rw [h11]),
  b_con (pan:=false) (zaQ v2 v3 v12 e12 s13) (by kernel_rfl) rfl rfl rfl rfl,
  b_con (pan:=false) (zaQ v3 v2 v14 e14 s15) (by kernel_rfl) rfl rfl rfl rfl,
  zc (zY v12 v14 v16 e16) rfl rfl rfl rfl,
  e_un (zb rfl) (zb rfl) (fun W=>by rw [← e17];exact r_not W),
  e_fb (show pV (.bool v17)=_ by rw [h18]),
  b_con (pan:=false) (zbc v2 v3 v19 e19 s20) (by kernel_rfl) rfl rfl rfl rfl,
  b_con (pan:=false) (zbc v19 v4 v21 e21 s22) (by kernel_rfl) rfl rfl rfl rfl,
  b_con (pan:=false) (zbc v3 v4 v23 e23 s24) (by kernel_rfl) rfl rfl rfl rfl,
  b_con (pan:=false) (zbc v2 v23 v25 e25 s26) (by kernel_rfl) rfl rfl rfl rfl,
  zc (zY v21 v25 v27 e27) rfl rfl rfl rfl,
  e_un (zb rfl) (zb rfl) (fun W=>by rw [← e28];exact r_not W),
  e_fb (show pV (.bool v28)=_ by rw [h29]),
  b_con (pan:=false) (zaQ v2 v3 v30 e30 s31) (by kernel_rfl) rfl rfl rfl rfl,
  b_con (pan:=false) (zaQ v30 v4 v32 e32 s33) (by kernel_rfl) rfl rfl rfl rfl,
  b_con (pan:=false) (zaQ v3 v4 v34 e34 s35) (by kernel_rfl) rfl rfl rfl rfl,
  b_con (pan:=false) (zaQ v2 v34 v36 e36 s37) (by kernel_rfl) rfl rfl rfl rfl,
  zc (zY v32 v36 v38 e38) rfl rfl rfl rfl,
  e_un (zb rfl) (zb rfl) (fun W=>by rw [← e39];exact r_not W),
  e_fb (show pV (.bool v39)=_ by rw [h40]),
  b_con (pan:=false) (zbc v3 v4 v41 e41 s42) (by kernel_rfl) rfl rfl rfl rfl,
  b_con (pan:=false) (zaQ v2 v41 v43 e43 s44) (by kernel_rfl) rfl rfl rfl rfl,
  b_con (pan:=false) (zaQ v2 v3 v45 e45 s46) (by kernel_rfl) rfl rfl rfl rfl,
  b_con (pan:=false) (zaQ v2 v4 v47 e47 s48) (by kernel_rfl) rfl rfl rfl rfl,
  b_con (pan:=false) (zbc v45 v47 v49 e49 s50) (by kernel_rfl) rfl rfl rfl rfl,
  zc (zY v43 v49 v51 e51) rfl rfl rfl rfl,
  e_un (zb rfl) (zb rfl) (fun W=>by rw [← e52];exact r_not W),
  e_fb (show pV (.bool v52)=_ by rw [h53]),
  b_con (pan:=false) (zbc v2 v3 v54 e54 s55) (by kernel_rfl) rfl rfl rfl rfl,
  zc (zcN v54 v3 v56 v57 e56 e57) rfl rfl rfl rfl,
  b_con (pan:=false) (zaQ v2 v3 v58 e58 s59) (by kernel_rfl) rfl rfl rfl rfl,
  zc (zcD v58 v3 v60 v61 e60 e61) rfl rfl rfl rfl,
  zc (qS v3 v62 e62) rfl rfl rfl rfl,
  e_bin (zb rfl) zg (zb rfl) (r_cmp (congrArg some e63)),
  e_fb (show pV (.bool v63)=_ by rw [h64]),
  e_fb (show pV (.bool v1)=_ by rw [h65]),
  e_fb (show pV (.bool v57)=_ by rw [h66]),
  e_fb (show pV (.bool v61)=_ by rw [h67]),
  zc (zY v56 v2 v68 e68) rfl rfl rfl rfl,
  e_fb (show pV (.bool v68)=_ by rw [h69]),
  zc (zY v60 v2 v70 e70) rfl rfl rfl rfl,
  trivial⟩ mixed (by kernel_rfl)) rfl rfl rfl rfl
theorem zaR (l:(List Int×List Int×List Int))  :(addR (qq (rq (madeR l.1))) (qq (rq (madeR l.2.1)))).isSome=true:=by
 obtain ⟨p,q,z,ep,eq,ez,k1,k2,k3,a1,a2,a3,a4,k4,k5,a5,a6,k6,a7,a8,a9,k7,b1,b2,b3,k8,b4,b5,g1,c1,c2,c3,c4,c5,c6,z2,z3⟩:=zz l
 simp only [ep,eq,ez,k1,k2,k3,a1,a2,a3,a4,k4,k5,a5,a6,k6,a7,a8,a9,k7,b1,b2,b3,k8,b4,b5,g1,c1,c2,c3,c4,c5,c6,Option.isSome_some,decide_true,Bool.not_true,beq_iff_eq,beq_eq_false_iff_ne]
 try (first | (rw [z2 (by assumption)];rfl) | (rw [z3 (by assumption)];simp))
theorem zeO (l:(List Int×List Int×List Int))  :(addR (qq (rq (madeR l.2.1))) (qq (rq (madeR l.1)))).isSome=true:=by
 obtain ⟨p,q,z,ep,eq,ez,k1,k2,k3,a1,a2,a3,a4,k4,k5,a5,a6,k6,a7,a8,a9,k7,b1,b2,b3,k8,b4,b5,g1,c1,c2,c3,c4,c5,c6,z2,z3⟩:=zz l
 simp only [ep,eq,ez,k1,k2,k3,a1,a2,a3,a4,k4,k5,a5,a6,k6,a7,a8,a9,k7,b1,b2,b3,k8,b4,b5,g1,c1,c2,c3,c4,c5,c6,Option.isSome_some,decide_true,Bool.not_true,beq_iff_eq,beq_eq_false_iff_ne]
 try (first | (rw [z2 (by assumption)];rfl) | (rw [z3 (by assumption)];simp))
theorem zeP (l:(List Int×List Int×List Int))  :((!(decide ((rq (addR (qq (rq (madeR l.1))) (qq (rq (madeR l.2.1)))))=(rq (addR (qq (rq (madeR l.2.1))) (qq (rq (madeR l.1)))))))))=false:=by
 obtain ⟨p,q,z,ep,eq,ez,k1,k2,k3,a1,a2,a3,a4,k4,k5,a5,a6,k6,a7,a8,a9,k7,b1,b2,b3,k8,b4,b5,g1,c1,c2,c3,c4,c5,c6,z2,z3⟩:=zz l
 simp only [ep,eq,ez,k1,k2,k3,a1,a2,a3,a4,k4,k5,a5,a6,k6,a7,a8,a9,k7,b1,b2,b3,k8,b4,b5,g1,c1,c2,c3,c4,c5,c6,Option.isSome_some,decide_true,Bool.not_true,beq_iff_eq,beq_eq_false_iff_ne]
 try (first | (rw [z2 (by assumption)];rfl) | (rw [z3 (by assumption)];simp))
theorem qY (l:(List Int×List Int×List Int))  :(mulR (qq (rq (madeR l.1))) (qq (rq (madeR l.2.1)))).isSome=true:=by
 obtain ⟨p,q,z,ep,eq,ez,k1,k2,k3,a1,a2,a3,a4,k4,k5,a5,a6,k6,a7,a8,a9,k7,b1,b2,b3,k8,b4,b5,g1,c1,c2,c3,c4,c5,c6,z2,z3⟩:=zz l
 simp only [ep,eq,ez,k1,k2,k3,a1,a2,a3,a4,k4,k5,a5,a6,k6,a7,a8,a9,k7,b1,b2,b3,k8,b4,b5,g1,c1,c2,c3,c4,c5,c6,Option.isSome_some,decide_true,Bool.not_true,beq_iff_eq,beq_eq_false_iff_ne]
 try (first | (rw [z2 (by assumption)];rfl) | (rw [z3 (by assumption)];simp))
theorem zeQ (l:(List Int×List Int×List Int))  :(mulR (qq (rq (madeR l.2.1))) (qq (rq (madeR l.1)))).isSome=true:=by
 obtain ⟨p,q,z,ep,eq,ez,k1,k2,k3,a1,a2,a3,a4,k4,k5,a5,a6,k6,a7,a8,a9,k7,b1,b2,b3,k8,b4,b5,g1,c1,c2,c3,c4,c5,c6,z2,z3⟩:=zz l
 simp only [ep,eq,ez,k1,k2,k3,a1,a2,a3,a4,k4,k5,a5,a6,k6,a7,a8,a9,k7,b1,b2,b3,k8,b4,b5,g1,c1,c2,c3,c4,c5,c6,Option.isSome_some,decide_true,Bool.not_true,beq_iff_eq,beq_eq_false_iff_ne]
 try (first | (rw [z2 (by assumption)];rfl) | (rw [z3 (by assumption)];simp))
theorem zeR (l:(List Int×List Int×List Int))  :((!(decide ((rq (mulR (qq (rq (madeR l.1))) (qq (rq (madeR l.2.1)))))=(rq (mulR (qq (rq (madeR l.2.1))) (qq (rq (madeR l.1)))))))))=false:=by
 obtain ⟨p,q,z,ep,eq,ez,k1,k2,k3,a1,a2,a3,a4,k4,k5,a5,a6,k6,a7,a8,a9,k7,b1,b2,b3,k8,b4,b5,g1,c1,c2,c3,c4,c5,c6,z2,z3⟩:=zz l
 simp only [ep,eq,ez,k1,k2,k3,a1,a2,a3,a4,k4,k5,a5,a6,k6,a7,a8,a9,k7,b1,b2,b3,k8,b4,b5,g1,c1,c2,c3,c4,c5,c6,Option.isSome_some,decide_true,Bool.not_true,beq_iff_eq,beq_eq_false_iff_ne]
 try (first | (rw [z2 (by assumption)];rfl) | (rw [z3 (by assumption)];simp))
theorem zeS (l:(List Int×List Int×List Int))  :(addR (qq (rq (addR (qq (rq (madeR l.1))) (qq (rq (madeR l.2.1)))))) (qq (rq (madeR l.2.2)))).isSome=true:=by
 obtain ⟨p,q,z,ep,eq,ez,k1,k2,k3,a1,a2,a3,a4,k4,k5,a5,a6,k6,a7,a8,a9,k7,b1,b2,b3,k8,b4,b5,g1,c1,c2,c3,c4,c5,c6,z2,z3⟩:=zz l
 simp only [ep,eq,ez,k1,k2,k3,a1,a2,a3,a4,k4,k5,a5,a6,k6,a7,a8,a9,k7,b1,b2,b3,k8,b4,b5,g1,c1,c2,c3,c4,c5,c6,Option.isSome_some,decide_true,Bool.not_true,beq_iff_eq,beq_eq_false_iff_ne]
 try (first | (rw [z2 (by assumption)];rfl) | (rw [z3 (by assumption)];simp))
theorem zbR (l:(List Int×List Int×List Int))  :(addR (qq (rq (madeR l.2.1))) (qq (rq (madeR l.2.2)))).isSome=true:=by
 obtain ⟨p,q,z,ep,eq,ez,k1,k2,k3,a1,a2,a3,a4,k4,k5,a5,a6,k6,a7,a8,a9,k7,b1,b2,b3,k8,b4,b5,g1,c1,c2,c3,c4,c5,c6,z2,z3⟩:=zz l
 simp only [ep,eq,ez,k1,k2,k3,a1,a2,a3,a4,k4,k5,a5,a6,k6,a7,a8,a9,k7,b1,b2,b3,k8,b4,b5,g1,c1,c2,c3,c4,c5,c6,Option.isSome_some,decide_true,Bool.not_true,beq_iff_eq,beq_eq_false_iff_ne]
 try (first | (rw [z2 (by assumption)];rfl) | (rw [z3 (by assumption)];simp))
theorem zeT (l:(List Int×List Int×List Int))  :(addR (qq (rq (madeR l.1))) (qq (rq (addR (qq (rq (madeR l.2.1))) (qq (rq (madeR l.2.2))))))).isSome=true:=by
 obtain ⟨p,q,z,ep,eq,ez,k1,k2,k3,a1,a2,a3,a4,k4,k5,a5,a6,k6,a7,a8,a9,k7,b1,b2,b3,k8,b4,b5,g1,c1,c2,c3,c4,c5,c6,z2,z3⟩:=zz l
 simp only [ep,eq,ez,k1,k2,k3,a1,a2,a3,a4,k4,k5,a5,a6,k6,a7,a8,a9,k7,b1,b2,b3,k8,b4,b5,g1,c1,c2,c3,c4,c5,c6,Option.isSome_some,decide_true,Bool.not_true,beq_iff_eq,beq_eq_false_iff_ne]
 try (first | (rw [z2 (by assumption)];rfl) | (rw [z3 (by assumption)];simp))
theorem zeU (l:(List Int×List Int×List Int))  :((!(decide ((rq (addR (qq (rq (addR (qq (rq (madeR l.1))) (qq (rq (madeR l.2.1)))))) (qq (rq (madeR l.2.2)))))=(rq (addR (qq (rq (madeR l.1))) (qq (rq (addR (qq (rq (madeR l.2.1))) (qq (rq (madeR l.2.2))))))))))))=false:=by
 obtain ⟨p,q,z,ep,eq,ez,k1,k2,k3,a1,a2,a3,a4,k4,k5,a5,a6,k6,a7,a8,a9,k7,b1,b2,b3,k8,b4,b5,g1,c1,c2,c3,c4,c5,c6,z2,z3⟩:=zz l
 simp only [ep,eq,ez,k1,k2,k3,a1,a2,a3,a4,k4,k5,a5,a6,k6,a7,a8,a9,k7,b1,b2,b3,k8,b4,b5,g1,c1,c2,c3,c4,c5,c6,Option.isSome_some,decide_true,Bool.not_true,beq_iff_eq,beq_eq_false_iff_ne]
 try (first | (rw [z2 (by assumption)];rfl) | (rw [z3 (by assumption)];simp))
theorem zdM (l:(List Int×List Int×List Int))  :(mulR (qq (rq (mulR (qq (rq (madeR l.1))) (qq (rq (madeR l.2.1)))))) (qq (rq (madeR l.2.2)))).isSome=true:=by
 obtain ⟨p,q,z,ep,eq,ez,k1,k2,k3,a1,a2,a3,a4,k4,k5,a5,a6,k6,a7,a8,a9,k7,b1,b2,b3,k8,b4,b5,g1,c1,c2,c3,c4,c5,c6,z2,z3⟩:=zz l
 simp only [ep,eq,ez,k1,k2,k3,a1,a2,a3,a4,k4,k5,a5,a6,k6,a7,a8,a9,k7,b1,b2,b3,k8,b4,b5,g1,c1,c2,c3,c4,c5,c6,Option.isSome_some,decide_true,Bool.not_true,beq_iff_eq,beq_eq_false_iff_ne]
 try (first | (rw [z2 (by assumption)];rfl) | (rw [z3 (by assumption)];simp))
theorem zdN (l:(List Int×List Int×List Int))  :(mulR (qq (rq (madeR l.2.1))) (qq (rq (madeR l.2.2)))).isSome=true:=by
 obtain ⟨p,q,z,ep,eq,ez,k1,k2,k3,a1,a2,a3,a4,k4,k5,a5,a6,k6,a7,a8,a9,k7,b1,b2,b3,k8,b4,b5,g1,c1,c2,c3,c4,c5,c6,z2,z3⟩:=zz l
 simp only [ep,eq,ez,k1,k2,k3,a1,a2,a3,a4,k4,k5,a5,a6,k6,a7,a8,a9,k7,b1,b2,b3,k8,b4,b5,g1,c1,c2,c3,c4,c5,c6,Option.isSome_some,decide_true,Bool.not_true,beq_iff_eq,beq_eq_false_iff_ne]
 try (first | (rw [z2 (by assumption)];rfl) | (rw [z3 (by assumption)];simp))
theorem zdO (l:(List Int×List Int×List Int))  :(mulR (qq (rq (madeR l.1))) (qq (rq (mulR (qq (rq (madeR l.2.1))) (qq (rq (madeR l.2.2))))))).isSome=true:=by
 obtain ⟨p,q,z,ep,eq,ez,k1,k2,k3,a1,a2,a3,a4,k4,k5,a5,a6,k6,a7,a8,a9,k7,b1,b2,b3,k8,b4,b5,g1,c1,c2,c3,c4,c5,c6,z2,z3⟩:=zz l
 simp only [ep,eq,ez,k1,k2,k3,a1,a2,a3,a4,k4,k5,a5,a6,k6,a7,a8,a9,k7,b1,b2,b3,k8,b4,b5,g1,c1,c2,c3,c4,c5,c6,Option.isSome_some,decide_true,Bool.not_true,beq_iff_eq,beq_eq_false_iff_ne]
 try (first | (rw [z2 (by assumption)];rfl) | (rw [z3 (by assumption)];simp))
theorem zdP (l:(List Int×List Int×List Int))  :((!(decide ((rq (mulR (qq (rq (mulR (qq (rq (madeR l.1))) (qq (rq (madeR l.2.1)))))) (qq (rq (madeR l.2.2)))))=(rq (mulR (qq (rq (madeR l.1))) (qq (rq (mulR (qq (rq (madeR l.2.1))) (qq (rq (madeR l.2.2))))))))))))=false:=by
 obtain ⟨p,q,z,ep,eq,ez,k1,k2,k3,a1,a2,a3,a4,k4,k5,a5,a6,k6,a7,a8,a9,k7,b1,b2,b3,k8,b4,b5,g1,c1,c2,c3,c4,c5,c6,z2,z3⟩:=zz l
 simp only [ep,eq,ez,k1,k2,k3,a1,a2,a3,a4,k4,k5,a5,a6,k6,a7,a8,a9,k7,b1,b2,b3,k8,b4,b5,g1,c1,c2,c3,c4,c5,c6,Option.isSome_some,decide_true,Bool.not_true,beq_iff_eq,beq_eq_false_iff_ne]
 try (first | (rw [z2 (by assumption)];rfl) | (rw [z3 (by assumption)];simp))
theorem zdQ (l:(List Int×List Int×List Int))  :(mulR (qq (rq (madeR l.1))) (qq (rq (addR (qq (rq (madeR l.2.1))) (qq (rq (madeR l.2.2))))))).isSome=true:=by
 obtain ⟨p,q,z,ep,eq,ez,k1,k2,k3,a1,a2,a3,a4,k4,k5,a5,a6,k6,a7,a8,a9,k7,b1,b2,b3,k8,b4,b5,g1,c1,c2,c3,c4,c5,c6,z2,z3⟩:=zz l
 simp only [ep,eq,ez,k1,k2,k3,a1,a2,a3,a4,k4,k5,a5,a6,k6,a7,a8,a9,k7,b1,b2,b3,k8,b4,b5,g1,c1,c2,c3,c4,c5,c6,Option.isSome_some,decide_true,Bool.not_true,beq_iff_eq,beq_eq_false_iff_ne]
 try (first | (rw [z2 (by assumption)];rfl) | (rw [z3 (by assumption)];simp))
theorem zdR (l:(List Int×List Int×List Int))  :(mulR (qq (rq (madeR l.1))) (qq (rq (madeR l.2.2)))).isSome=true:=by
 obtain ⟨p,q,z,ep,eq,ez,k1,k2,k3,a1,a2,a3,a4,k4,k5,a5,a6,k6,a7,a8,a9,k7,b1,b2,b3,k8,b4,b5,g1,c1,c2,c3,c4,c5,c6,z2,z3⟩:=zz l
 simp only [ep,eq,ez,k1,k2,k3,a1,a2,a3,a4,k4,k5,a5,a6,k6,a7,a8,a9,k7,b1,b2,b3,k8,b4,b5,g1,c1,c2,c3,c4,c5,c6,Option.isSome_some,decide_true,Bool.not_true,beq_iff_eq,beq_eq_false_iff_ne]
 try (first | (rw [z2 (by assumption)];rfl) | (rw [z3 (by assumption)];simp))
theorem zdS (l:(List Int×List Int×List Int))  :(addR (qq (rq (mulR (qq (rq (madeR l.1))) (qq (rq (madeR l.2.1)))))) (qq (rq (mulR (qq (rq (madeR l.1))) (qq (rq (madeR l.2.2))))))).isSome=true:=by
 obtain ⟨p,q,z,ep,eq,ez,k1,k2,k3,a1,a2,a3,a4,k4,k5,a5,a6,k6,a7,a8,a9,k7,b1,b2,b3,k8,b4,b5,g1,c1,c2,c3,c4,c5,c6,z2,z3⟩:=zz l
 simp only [ep,eq,ez,k1,k2,k3,a1,a2,a3,a4,k4,k5,a5,a6,k6,a7,a8,a9,k7,b1,b2,b3,k8,b4,b5,g1,c1,c2,c3,c4,c5,c6,Option.isSome_some,decide_true,Bool.not_true,beq_iff_eq,beq_eq_false_iff_ne]
 try (first | (rw [z2 (by assumption)];rfl) | (rw [z3 (by assumption)];simp))
theorem zdT (l:(List Int×List Int×List Int))  :((!(decide ((rq (mulR (qq (rq (madeR l.1))) (qq (rq (addR (qq (rq (madeR l.2.1))) (qq (rq (madeR l.2.2))))))))=(rq (addR (qq (rq (mulR (qq (rq (madeR l.1))) (qq (rq (madeR l.2.1)))))) (qq (rq (mulR (qq (rq (madeR l.1))) (qq (rq (madeR l.2.2))))))))))))=false:=by
 obtain ⟨p,q,z,ep,eq,ez,k1,k2,k3,a1,a2,a3,a4,k4,k5,a5,a6,k6,a7,a8,a9,k7,b1,b2,b3,k8,b4,b5,g1,c1,c2,c3,c4,c5,c6,z2,z3⟩:=zz l
 simp only [ep,eq,ez,k1,k2,k3,a1,a2,a3,a4,k4,k5,a5,a6,k6,a7,a8,a9,k7,b1,b2,b3,k8,b4,b5,g1,c1,c2,c3,c4,c5,c6,Option.isSome_some,decide_true,Bool.not_true,beq_iff_eq,beq_eq_false_iff_ne]
 try (first | (rw [z2 (by assumption)];rfl) | (rw [z3 (by assumption)];simp))
theorem zh4 (l:(List Int×List Int×List Int))  (d1:((((sgX (rq (madeR l.2.1)).1 (rq (madeR l.2.1)).2) == (0:Int))))=true):((true))=true:=by
 obtain ⟨p,q,z,ep,eq,ez,k1,k2,k3,a1,a2,a3,a4,k4,k5,a5,a6,k6,a7,a8,a9,k7,b1,b2,b3,k8,b4,b5,g1,c1,c2,c3,c4,c5,c6,z2,z3⟩:=zz l
 simp only [ep,eq,ez,k1,k2,k3,a1,a2,a3,a4,k4,k5,a5,a6,k6,a7,a8,a9,k7,b1,b2,b3,k8,b4,b5,g1,c1,c2,c3,c4,c5,c6,Option.isSome_some,decide_true,Bool.not_true,beq_iff_eq,beq_eq_false_iff_ne] at d1 ⊢
 try (first | (rw [z2 (by assumption)];rfl) | (rw [z3 (by assumption)];simp))
theorem zh5 (l:(List Int×List Int×List Int))  (d1:((((sgX (rq (madeR l.2.1)).1 (rq (madeR l.2.1)).2) == (0:Int))))=true):(((subR (qq (rq (addR (qq (rq (madeR l.1))) (qq (rq (madeR l.2.1)))))) (qq (rq (madeR l.2.1)))).isSome))=true:=by
 obtain ⟨p,q,z,ep,eq,ez,k1,k2,k3,a1,a2,a3,a4,k4,k5,a5,a6,k6,a7,a8,a9,k7,b1,b2,b3,k8,b4,b5,g1,c1,c2,c3,c4,c5,c6,z2,z3⟩:=zz l
 simp only [ep,eq,ez,k1,k2,k3,a1,a2,a3,a4,k4,k5,a5,a6,k6,a7,a8,a9,k7,b1,b2,b3,k8,b4,b5,g1,c1,c2,c3,c4,c5,c6,Option.isSome_some,decide_true,Bool.not_true,beq_iff_eq,beq_eq_false_iff_ne] at d1 ⊢
 try (first | (rw [z2 (by assumption)];rfl) | (rw [z3 (by assumption)];simp))
theorem zh6 (l:(List Int×List Int×List Int))  (d1:((((sgX (rq (madeR l.2.1)).1 (rq (madeR l.2.1)).2) == (0:Int))))=true):((!((divR (qq (rq (mulR (qq (rq (madeR l.1))) (qq (rq (madeR l.2.1)))))) (qq (rq (madeR l.2.1)))).isSome)))=true:=by
 obtain ⟨p,q,z,ep,eq,ez,k1,k2,k3,a1,a2,a3,a4,k4,k5,a5,a6,k6,a7,a8,a9,k7,b1,b2,b3,k8,b4,b5,g1,c1,c2,c3,c4,c5,c6,z2,z3⟩:=zz l
 simp only [ep,eq,ez,k1,k2,k3,a1,a2,a3,a4,k4,k5,a5,a6,k6,a7,a8,a9,k7,b1,b2,b3,k8,b4,b5,g1,c1,c2,c3,c4,c5,c6,Option.isSome_some,decide_true,Bool.not_true,beq_iff_eq,beq_eq_false_iff_ne] at d1 ⊢
 try (first | (rw [z2 (by assumption)];rfl) | (rw [z3 (by assumption)];simp))
theorem zh7 (l:(List Int×List Int×List Int))  (d1:((((sgX (rq (madeR l.2.1)).1 (rq (madeR l.2.1)).2) == (0:Int))))=true):decide ((rq (subR (qq (rq (addR (qq (rq (madeR l.1))) (qq (rq (madeR l.2.1)))))) (qq (rq (madeR l.2.1)))))=(rq (madeR l.1)))=true:=by
 obtain ⟨p,q,z,ep,eq,ez,k1,k2,k3,a1,a2,a3,a4,k4,k5,a5,a6,k6,a7,a8,a9,k7,b1,b2,b3,k8,b4,b5,g1,c1,c2,c3,c4,c5,c6,z2,z3⟩:=zz l
 simp only [ep,eq,ez,k1,k2,k3,a1,a2,a3,a4,k4,k5,a5,a6,k6,a7,a8,a9,k7,b1,b2,b3,k8,b4,b5,g1,c1,c2,c3,c4,c5,c6,Option.isSome_some,decide_true,Bool.not_true,beq_iff_eq,beq_eq_false_iff_ne] at d1 ⊢
 try (first | (rw [z2 (by assumption)];rfl) | (rw [z3 (by assumption)];simp))
theorem zh8 (l:(List Int×List Int×List Int))  (d1:((((sgX (rq (madeR l.2.1)).1 (rq (madeR l.2.1)).2) == (0:Int))))=false):((true))=true:=by
 obtain ⟨p,q,z,ep,eq,ez,k1,k2,k3,a1,a2,a3,a4,k4,k5,a5,a6,k6,a7,a8,a9,k7,b1,b2,b3,k8,b4,b5,g1,c1,c2,c3,c4,c5,c6,z2,z3⟩:=zz l
 simp only [ep,eq,ez,k1,k2,k3,a1,a2,a3,a4,k4,k5,a5,a6,k6,a7,a8,a9,k7,b1,b2,b3,k8,b4,b5,g1,c1,c2,c3,c4,c5,c6,Option.isSome_some,decide_true,Bool.not_true,beq_iff_eq,beq_eq_false_iff_ne] at d1 ⊢
 try (first | (rw [z2 (by assumption)];rfl) | (rw [z3 (by assumption)];simp))
theorem zh9 (l:(List Int×List Int×List Int))  (d1:((((sgX (rq (madeR l.2.1)).1 (rq (madeR l.2.1)).2) == (0:Int))))=false):(((subR (qq (rq (addR (qq (rq (madeR l.1))) (qq (rq (madeR l.2.1)))))) (qq (rq (madeR l.2.1)))).isSome))=true:=by
 obtain ⟨p,q,z,ep,eq,ez,k1,k2,k3,a1,a2,a3,a4,k4,k5,a5,a6,k6,a7,a8,a9,k7,b1,b2,b3,k8,b4,b5,g1,c1,c2,c3,c4,c5,c6,z2,z3⟩:=zz l
 simp only [ep,eq,ez,k1,k2,k3,a1,a2,a3,a4,k4,k5,a5,a6,k6,a7,a8,a9,k7,b1,b2,b3,k8,b4,b5,g1,c1,c2,c3,c4,c5,c6,Option.isSome_some,decide_true,Bool.not_true,beq_iff_eq,beq_eq_false_iff_ne] at d1 ⊢
 try (first | (rw [z2 (by assumption)];rfl) | (rw [z3 (by assumption)];simp))
theorem zia (l:(List Int×List Int×List Int))  (d1:((((sgX (rq (madeR l.2.1)).1 (rq (madeR l.2.1)).2) == (0:Int))))=false):(((divR (qq (rq (mulR (qq (rq (madeR l.1))) (qq (rq (madeR l.2.1)))))) (qq (rq (madeR l.2.1)))).isSome))=true:=by
 obtain ⟨p,q,z,ep,eq,ez,k1,k2,k3,a1,a2,a3,a4,k4,k5,a5,a6,k6,a7,a8,a9,k7,b1,b2,b3,k8,b4,b5,g1,c1,c2,c3,c4,c5,c6,z2,z3⟩:=zz l
 simp only [ep,eq,ez,k1,k2,k3,a1,a2,a3,a4,k4,k5,a5,a6,k6,a7,a8,a9,k7,b1,b2,b3,k8,b4,b5,g1,c1,c2,c3,c4,c5,c6,Option.isSome_some,decide_true,Bool.not_true,beq_iff_eq,beq_eq_false_iff_ne] at d1 ⊢
 try (first | (rw [z2 (by assumption)];rfl) | (rw [z3 (by assumption)];simp))
theorem zib (l:(List Int×List Int×List Int))  (d1:((((sgX (rq (madeR l.2.1)).1 (rq (madeR l.2.1)).2) == (0:Int))))=false):((decide ((rq (subR (qq (rq (addR (qq (rq (madeR l.1))) (qq (rq (madeR l.2.1)))))) (qq (rq (madeR l.2.1)))))=(rq (madeR l.1)))))=true:=by
 obtain ⟨p,q,z,ep,eq,ez,k1,k2,k3,a1,a2,a3,a4,k4,k5,a5,a6,k6,a7,a8,a9,k7,b1,b2,b3,k8,b4,b5,g1,c1,c2,c3,c4,c5,c6,z2,z3⟩:=zz l
 simp only [ep,eq,ez,k1,k2,k3,a1,a2,a3,a4,k4,k5,a5,a6,k6,a7,a8,a9,k7,b1,b2,b3,k8,b4,b5,g1,c1,c2,c3,c4,c5,c6,Option.isSome_some,decide_true,Bool.not_true,beq_iff_eq,beq_eq_false_iff_ne] at d1 ⊢
 try (first | (rw [z2 (by assumption)];rfl) | (rw [z3 (by assumption)];simp))
theorem zic (l:(List Int×List Int×List Int))  (d1:((((sgX (rq (madeR l.2.1)).1 (rq (madeR l.2.1)).2) == (0:Int))))=false):decide ((rq (divR (qq (rq (mulR (qq (rq (madeR l.1))) (qq (rq (madeR l.2.1)))))) (qq (rq (madeR l.2.1)))))=(rq (madeR l.1)))=true:=by
 obtain ⟨p,q,z,ep,eq,ez,k1,k2,k3,a1,a2,a3,a4,k4,k5,a5,a6,k6,a7,a8,a9,k7,b1,b2,b3,k8,b4,b5,g1,c1,c2,c3,c4,c5,c6,z2,z3⟩:=zz l
 simp only [ep,eq,ez,k1,k2,k3,a1,a2,a3,a4,k4,k5,a5,a6,k6,a7,a8,a9,k7,b1,b2,b3,k8,b4,b5,g1,c1,c2,c3,c4,c5,c6,Option.isSome_some,decide_true,Bool.not_true,beq_iff_eq,beq_eq_false_iff_ne] at d1 ⊢
 try (first | (rw [z2 (by assumption)];rfl) | (rw [z3 (by assumption)];simp))
theorem zoN {w0:World} (hM:∀W,Below w0.heap.size w0 W→MaxT W) (hTS:∀W,Below w0.heap.size w0 W→PowT w0.heap.size W∧SynT w0.heap.size W) (l:(List Int×List Int×List Int)) :Fun (KN w0) Tryz.prog 4 [.o (.g [pLs cI l.1,pLs cI l.2.1,pLs cI l.2.2])] (.o (.c (pV (.bool true)))):=by
 rcases Bool.eq_false_or_eq_true ((((sgX (rq (madeR l.2.1)).1 (rq (madeR l.2.1)).2) == (0:Int)))) with d1 | d1
 ·
  exact zjQ l hM hTS _ _ _ _ _ _ _ _ _ _ _ _ _ _ _ _ _ _ _ _ _ _ _ _ _ _ _ _ _ _ _ _ _ _ _ _ _ _ _ _ _ rfl rfl rfl rfl rfl rfl rfl rfl rfl rfl rfl rfl rfl rfl rfl rfl rfl rfl rfl rfl rfl rfl rfl rfl rfl rfl rfl rfl rfl rfl rfl rfl rfl rfl rfl rfl rfl rfl rfl rfl (zh7 l  d1) (zaR l  ) (zeO l  ) (zeP l  ) (qY l  ) (zeQ l  ) (zeR l  ) (zaR l  ) (zeS l  ) (zbR l  ) (zeT l  ) (zeU l  ) (qY l  ) (zdM l  ) (zdN l  ) (zdO l  ) (zdP l  ) (zbR l  ) (zdQ l  ) (qY l  ) (zdR l  ) (zdS l  ) (zdT l  ) (zaR l  ) (qY l  ) d1 (zh4 l  d1) (zh5 l  d1) (zh6 l  d1)
 ·
  exact zjR l hM hTS _ _ _ _ _ _ _ _ _ _ _ _ _ _ _ _ _ _ _ _ _ _ _ _ _ _ _ _ _ _ _ _ _ _ _ _ _ _ _ _ _ rfl rfl rfl rfl rfl rfl rfl rfl rfl rfl rfl rfl rfl rfl rfl rfl rfl rfl rfl rfl rfl rfl rfl rfl rfl rfl rfl rfl rfl rfl rfl rfl rfl rfl rfl rfl rfl rfl rfl rfl (zic l  d1) (zaR l  ) (zeO l  ) (zeP l  ) (qY l  ) (zeQ l  ) (zeR l  ) (zaR l  ) (zeS l  ) (zbR l  ) (zeT l  ) (zeU l  ) (qY l  ) (zdM l  ) (zdN l  ) (zdO l  ) (zdP l  ) (zbR l  ) (zdQ l  ) (qY l  ) (zdR l  ) (zdS l  ) (zdT l  ) (zaR l  ) (qY l  ) d1 (zh8 l  d1) (zh9 l  d1) (zia l  d1) (zib l  d1)
end Go.Proofs.YtccjiodohphgnaaGreatDoor
namespace Go.Proofs.YtccjiodohphgnaaGreatDoor
open Go.ChangeShapes Go.WideShapes Go.ChangeAt Go.RowKit Go.Joins Go.Deep
theorem zeC (os:Os) (started:os.Started) (H:Type) (enc:TypeId×Value→H) :
  ReturnsInHanded {} Tryz.checked os 4 .any (fun w args=>(Rows.ratioFieldSpec.pre enc Tryz.prog Tryz.f4 [] false w args∧laidMetH Tryz.prog laidL w)∧sizedMet enc Tryz.prog Tryz.f4 (OpenSpec.ofChange Rows.ratioFieldSpec) false w args)
   (Rows.ratioFieldSpec.post enc Tryz.prog Tryz.f4 false true false false):=by
 refine zaM (C:=Tryz.checked) (X:=fun w _=>laidMetH Tryz.prog laidL w) (fun _ _ _ hh h=>h.of_heap hh) Tryz.own started (by kernel_rfl) Tryz.func4
  (ChangeSpec.witness_shaped (enc:=enc) (C:=Tryz.checked) (os:=os) (X:=fun w _=>laidMetH Tryz.prog laidL w) false (World.doorLaid Tryz.prog 400 os) #[.agg #[.slice none 0 0,.slice none 0 0,.slice none 0 0]] 8 rfl (World.shaped_of_RefB (by kernel_rfl) (by kernel_rfl)) (by kernel_rfl) (by kernel_rfl) (by kernel_rfl) (zck os _)) ?_
 intro W base args ds gs before hval0 hW hL hsh
 have hval:∀(j:Nat) t v,Tryz.f4.params[j]?=some t→args[j]?=some v→Value.okWide Tryz.prog W .any base t v:=hval0
 have hW':=hW
 obtain ⟨p,q,hA0,hV,rfl,hfz,hnd⟩:=hW
 have hA:DataW.TrodAll enc Tryz.prog W 0 (fun _=>true) true Tryz.f4.params.toList args.toList ds p:=hA0
 rw [Tryz.params4] at hA hval
 obtain ⟨v0,d0,rfl,rfl,h0⟩:=trodAll_one hA
 obtain ⟨x0,s0⟩:=zpb (hval 0 39 v0 rfl rfl) h0
 refine (zdv (args:=#[v0]) (zoN (zcq hsh) (zcp hL) x0 ) ⟨s0,trivial⟩).mono fun e W' ⟨he,hb⟩=>?_
 subst he
 exact ⟨_,rfl,zaK rfl Tryz.laidOut (by decide +kernel) 4 (by kernel_rfl) Tryz.underlying4 (fun d hd=>by match d,hd with | [_],_=>rfl) hW' hb⟩
theorem zfc:Rows.RatioFieldSaid:=
 OpenClaim.holds_of_wide 4 Tryz.f4 rfl rfl rfl rfl rfl rfl rfl ⟨rfl,rfl,rfl,rfl,rfl⟩ rfl rfl rfl rfl rfl (by kernel_rfl) Tryz.func4 (by kernel_rfl)
  (of_decide_eq_true (by kernel_rfl)) (by unfold Func.isWrapper;rw [if_neg (of_decide_eq_false (by kernel_rfl))];exact ⟨rfl,rfl⟩)
  (fun os started H enc _=>zeC os started H enc)
theorem ratioField_card:Rows.RatioFieldCardSaid:=
 Claim7.holds_tied_plain_at .later [] [.data, .data, .data, .sentinel, .sentinel] true (true, "23681dedaca0e9c3ad04b644738b2c5c66df0499f44a887a8592b9d18a9871d5") true
  zfc (fun _ h=>by cases h) (by kernel_rfl) (fun _ h=>by cases h) ratioField_row_tie rfl ⟨rfl,rfl⟩ (by kernel_rfl) rfl
  (fun f fn hf hfn=>by
   obtain rfl : f = 4 := Option.some.inj ((show Tryz.prog.funcNamed "collet/colletlaw03.RatioField" = some 4 by kernel_rfl).symm.trans hf) |>.symm
   obtain rfl:fn=Tryz.f4:=(Option.some.inj (Tryz.func4.symm.trans hfn)).symm
   exact ⟨by kernel_rfl,fun j t ht=>by
    rw [Tryz.params4] at ht
    have hm:t∈[39]:=by simpa using Array.mem_of_getElem? ht
    have hall:([39].all fun u=>!Tryz.prog.wantsStandIn u)=true:=by kernel_rfl
    exact (show Tryz.prog.wantsStandIn t=false by simpa using List.all_eq_true.1 hall t hm)⟩)
  (by kernel_rfl)
end Go.Proofs.YtccjiodohphgnaaGreatDoor
