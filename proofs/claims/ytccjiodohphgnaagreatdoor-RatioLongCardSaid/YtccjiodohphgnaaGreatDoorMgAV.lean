/-
  Merged: RtLift, RtDat, RtV.
-/
import Derived.Test.YtccjiodohphgnaaGreatDoorMgAR
import Derived.Test.YtccjiodohphgnaaGreatDoorMgAT
import Derived.Test.YtccjiodohphgnaaGreatDoorMgAU
import Derived.ChangeMaps5
import Derived.Test.YtccjiodohphgnaaGreatDoorMgAQ
set_option linter.unusedSimpArgs false
set_option linter.unusedVariables false
set_option maxRecDepth 100000
namespace Go.Proofs.YtccjiodohphgnaaGreatDoor
open Go.ChangeShapes Go.WideShapes Go.ChangeAt Go.RowKit Go.Joins Go.Deep
theorem zcq {W:World} (h:W.ShapedOpen Tryz.prog):∀W2,Below W.heap.size W W2→MaxT W2:=by
 obtain ⟨m,hm⟩:=Tryz.laysM145.s1_3 W h
 have hm':W.cell? ⟨1,0,none⟩=some (.int .i64 m):=hm
 intro W2 hb
 exact ⟨m,(hb.cell (p:=⟨1,0,none⟩) (zha hm')).trans hm'⟩
theorem zcp {W:World} (h:laidMetH Tryz.prog laidL W):∀W2,Below W.heap.size W W2→PowT W.heap.size W2∧SynT W.heap.size W2:=by
 intro W2 hb
 exact ⟨fun w3 h3=>(zmd h).1 w3 (hb.trans h3),(zmd h).2.below hb (Nat.le_refl _)⟩
section
variable {H:Type} {enc:TypeId×Value→H}
theorem zaM {a:Assume} {C:Checked} {os:Os} {f:FuncId} {fn:Func} {s:ChangeSpec} {conds:List PathCond} {apart fresh handsOn again:Bool} {X:World→Array Value→Prop}
  (hX:∀(w w':World) (args:Array Value),w.heap=w'.heap→X w args→X w' args)
  (own:ownKnob C.prog.godebug=none) (started:os.Started) (noInit:C.prog.inits.idxOf? f=none) (hfn:C.prog.funcs[f]?=some fn)
  (witness:∃(w:World) (tape:Tape) (i:Input),w.os=os∧(w.forCall tape i).Shaped C.prog∧i.vars=[]∧Input.okWide C.prog (w.forCall tape i) .any w.heap.size f i ∧
   ((s.pre enc C.prog fn conds apart (w.forCall tape i).memory i.args∧X (w.forCall tape i).memory i.args)∧sizedMet enc C.prog fn (OpenSpec.ofChange s) apart (w.forCall tape i).memory i.args)∧a.holds C.prog (lone (Frame.enter C.prog f i.args .normal) [] (w.forCall tape i)))
  (contract:∀(W:World) (base:Nat) (args:Array Value) (ds gs:List (DataW H)) (before:List MemPlace),
   (∀(j:Nat) t v,fn.params[j]?=some t→args[j]?=some v→Value.okWide C.prog W .any base t v) →
   DataW.Whole enc C.prog fn.params.toList s.vars apart W args.toList ds gs before→X W args→W.ShapedOpen C.prog →
   Calls C.prog f args W fun e W'=>∃v,e=.returned v∧s.post enc C.prog fn apart fresh handsOn again W args v W') :
  ReturnsInHanded a C os f .any (fun w args=>(s.pre enc C.prog fn conds apart w args∧X w args)∧sizedMet enc C.prog fn (OpenSpec.ofChange s) apart w args) (s.post enc C.prog fn apart fresh handsOn again):=by
 refine returnsInHanded_of_calls own started noInit witness ?_
 intro w tape i _ hsh _ hok hpre _
 obtain ⟨_,_,_,fn',hfn',_,_,_,_,hval⟩:=hok
 have e:fn'=fn:=Option.some.inj (hfn'.symm.trans hfn)
 subst e
 obtain ⟨⟨⟨ds,gs,before,hw,_⟩,hx⟩,_⟩:=hpre
 have hw':=DataW.Whole.of_heap (w':=w.forCall tape i) (by rfl) hw
 refine (contract (w.forCall tape i) w.heap.size i.args ds gs before hval hw' (hX _ _ _ (by rfl) hx) hsh).mono fun e W' ⟨v,he,hp⟩=>?_
 subst he
 exact ChangeSpec.post_blind hp
end
def old (W:World):Dat:=fun q=>q<W.heap.size
theorem zdv {W:World} {f:FuncId} {sh:List PSh} {args:Array Value} (hF:Fun (KN W) Tryz.prog f sh (.o (.c (pV (.bool true))))) (hs:oka sh args.toList W (old W)) :
  Calls Tryz.prog f args W fun e W'=>e=.returned (.bool true)∧Below W.heap.size W W':=by
 have:=hF W (old W) args.toList hs ⟨Below.refl _ _,fun q h=>h⟩
 rw [Array.toArray_toList] at this
 refine this.mono fun e W' hr=>?_
 obtain ⟨v,D',rfl,hv,hk⟩:=hr
 have hv':v=.bool true:=hv
 subst hv'
 exact ⟨rfl,hk.bel⟩
theorem zmh {W:World} {D:Dat} {vs:Array Value}:∀{zs:List Int} {o:Nat},(∀j z,zs[j]?=some z→vs[o+j]?=some (.int .i64 z))→okp (zs.flatMap cI) (vs.toList.drop o) W D
 | [],_,_=>trivial
 | z::zs,o,h=>by
  have h0:=h 0 z rfl
  have h1:vs.toList[o]?=some (.int .i64 z):=by rw [Array.getElem?_toList];simpa using h0
  have hl:=(List.getElem?_eq_some_iff.1 h1)
  obtain ⟨hlt,he⟩:=hl
  rw [List.drop_eq_getElem_cons hlt,he]
  have ih:=zmh (W:=W) (D:=D) (zs:=zs) (o:=o+1) (fun j z' hj=>by
   have:=h (j+1) z' (by simpa using hj)
   rwa [show o+(j+1)=o+1+j by omega] at this)
  exact ⟨rfl,ih⟩
theorem zt5 {W:World} {A:Option Addr} {n c:Nat} {zs:List Int} (h:Reads W W.heap.size 1 A n (zs.map (Value.int .i64))) (hc:n≤c):pLs cI zs (.slice A n c) W (old W):=by
 have hl:zs.length=n:=by simpa using h.1
 rcases Nat.eq_zero_or_pos n with h0 | h0
 ·have e:zs=[]:=List.eq_nil_of_length_eq_zero (by omega)
  subst e
  exact .inl ⟨⟨A,c,by rw [h0]⟩,rfl,rfl⟩
 ·obtain ⟨ad,rfl,hb,hcell⟩:=h.2 h0
  obtain ⟨q,o,sp⟩:=ad
  have h1:W.cell? ⟨q,o,sp⟩=some (.int .i64 zs[0]):=by
   have:=hcell 0 (.int .i64 zs[0]) (by rw [List.getElem?_map,List.getElem?_eq_getElem (by omega)];rfl)
   simpa [Addr.add] using this
  have hsp:sp=none:=by
   cases sp with
   | none=>rfl
   | some x =>
    unfold World.cell? at h1
    dsimp only at h1
    split at h1<;>simp at h1
  subst hsp
  have hz:∀j z,zs[j]?=some z→W.cell? ⟨q,o+j,none⟩=some (.int .i64 z):=fun j z hj=>by
   have:=hcell j (.int .i64 z) (by rw [List.getElem?_map,hj];rfl)
   unfold Addr.add at this
   split at this
   ·rename_i e;subst e;exact this
   ·exact this
  unfold World.cell? at h1 hz
  dsimp only at h1 hz
  split at h1
  case h_2=>cases h1
  rename_i cs T fz hh
  simp only [hh] at hz
  simp only [Option.isSome_none,Bool.false_eq_true,if_false] at hz
  exact .inr ⟨q,o,c,T,cs,fz,by rw [hl],hb,hh,zmh (fun j z hj=>hz j z hj),by omega⟩
theorem ztx:Tryz.prog.cellsOf 28=4:=by kernel_rfl
theorem ztw:Tryz.prog.cellsOf 54=2:=by kernel_rfl
section
variable {H:Type} {enc:TypeId×Value→H} {w:World} {base:Nat} {v:Value} {d:DataW H} {p:List MemPlace}
theorem zhf {m:Nat} {y:Option (DataW H×List MemPlace)} {u:Value} (h:DataW.trod enc Tryz.prog w 0 (fun _=>true) true m 22 [u]=y) (hy:y.isSome=true) :
  ∃zs:List Int,pLs cI zs u w (old w):=by
 obtain ⟨y',rfl⟩:=Option.isSome_iff_exists.1 hy
 obtain ⟨A,n,c,zs,rfl,hl,hm,hr,_⟩:=zd4 Tryz.underlying22 Tryz.underlying3 zkY h
 exact ⟨zs,zt5 hr hl⟩
theorem zpa (hv:Value.okWide Tryz.prog w .any base 22 v) (h:DataW.Trod enc Tryz.prog w 0 (fun _=>true) true 22 v d p):∃zs:List Int,pLs cI zs v w (old w):=by
 obtain ⟨A1,k1,x1,rfl⟩:=okWide_slice Tryz.underlying22 hv
 obtain ⟨fuel,hf⟩:=h
 exact zhf (u:=.slice A1 k1 x1) hf rfl
theorem zuk (hv:Value.okWide Tryz.prog w .any base 23 v) (h:DataW.Trod enc Tryz.prog w 0 (fun _=>true) true 23 v d p) :
  ∃l:List Int×List Int,(PSh.o (.g [pLs cI l.1,pLs cI l.2])).ok v w (old w):=by
 obtain ⟨cs,rfl,hsz⟩:=ze4 Tryz.underlying23 hv
 obtain ⟨c0,c1,rfl⟩:=array2 (hsz.trans zqj)
 obtain ⟨fuel,hf⟩:=h
 obtain ⟨xs,m,rfl,_,_,hn,hel⟩:=DataW.trod_array Tryz.underlying23 hf
 have h0:=hel 0 (by omega)
 have h1:=hel 1 (by omega)
 rw [zl1] at h0 h1
 obtain ⟨z1,r1⟩:=zhf (u:=c0) (by simpa [Value.cells] using h0) (by simp [hn])
 obtain ⟨z2,r2⟩:=zhf (u:=c1) (by simpa [Value.cells] using h1) (by simp [hn])
 exact ⟨(z1,z2),_,rfl,r1,r2,trivial⟩
theorem zpb (hv:Value.okWide Tryz.prog w .any base 39 v) (h:DataW.Trod enc Tryz.prog w 0 (fun _=>true) true 39 v d p) :
  ∃l:List Int×List Int×List Int,(PSh.o (.g [pLs cI l.1,pLs cI l.2.1,pLs cI l.2.2])).ok v w (old w):=by
 obtain ⟨cs,rfl,hsz⟩:=ze4 Tryz.underlying39 hv
 obtain ⟨c0,c1,c2,rfl⟩:=array3 (hsz.trans zqk)
 obtain ⟨fuel,hf⟩:=h
 obtain ⟨xs,m,rfl,_,_,hn,hel⟩:=DataW.trod_array Tryz.underlying39 hf
 have h0:=hel 0 (by omega)
 have h1:=hel 1 (by omega)
 have h2:=hel 2 (by omega)
 rw [zl1] at h0 h1 h2
 obtain ⟨z1,r1⟩:=zhf (u:=c0) (by simpa [Value.cells] using h0) (by simp [hn])
 obtain ⟨z2,r2⟩:=zhf (u:=c1) (by simpa [Value.cells] using h1) (by simp [hn])
 obtain ⟨z3,r3⟩:=zhf (u:=c2) (by simpa [Value.cells] using h2) (by simp [hn])
 exact ⟨(z1,z2,z3),_,rfl,r1,r2,r3,trivial⟩
theorem ztU {cs:Array Value} (h:cs.size=4):∃a b c d,cs=#[a,b,c,d]:=by
 obtain ⟨l⟩:=cs
 match l,h with
 | [a,b,c,d],_=>exact ⟨a,b,c,d,rfl⟩
theorem zw6 {cs:Array Value} (h:cs.size=2):∃a b,cs=#[a,b]:=by
 obtain ⟨l⟩:=cs
 match l,h with
 | [a,b],_=>exact ⟨a,b,rfl⟩
theorem zpc (hv:Value.okWide Tryz.prog w .any base 28 v) (h:DataW.Trod enc Tryz.prog w 0 (fun _=>true) true 28 v d p) :
  ∃x:RR,(gR x).ok v w (old w):=by
 obtain ⟨cs,rfl,hsz⟩:=zd0 Tryz.underlying28 hv
 obtain ⟨u0,u1,u2,u3,rfl⟩:=ztU (hsz.trans ztx)
 obtain ⟨fuel,hf⟩:=h
 obtain ⟨y0,y1,m,_,hl,h0,h1⟩:=trod_struct2 Tryz.underlying28 hf
 obtain ⟨g1,A1,n1,c1,l1,e1,s1⟩:=zfQ (cs:=[u0,u1]) (by simpa [Value.cells,zfy] using h0) (by simp)
 obtain ⟨g2,A2,n2,c2,l2,e2,s2⟩:=zfQ (cs:=[u2,u3]) (by simpa [Value.cells,zfy] using h1) (by simp)
 simp at e1 e2
 obtain ⟨rfl,rfl⟩:=e1
 obtain ⟨rfl,rfl⟩:=e2
 exact ⟨((g1,l1),(g2,l2)),_,rfl,rfl,⟨_,_,_,rfl,s1⟩,rfl,⟨_,_,_,rfl,s2⟩,trivial⟩
theorem zwD (hv:Value.okWide Tryz.prog w .any base 54 v) (h:DataW.Trod enc Tryz.prog w 0 (fun _=>true) true 54 v d p) :
  ∃x:Int×Int,(PSh.o (.g [pI x.1,pI x.2])).ok v w (old w)∧InR x.1∧InR x.2:=by
 obtain ⟨cs,rfl,hsz⟩:=zd0 Tryz.underlying54 hv
 obtain ⟨u0,u1,rfl⟩:=zw6 (hsz.trans ztw)
 obtain ⟨fuel,hf⟩:=h
 obtain ⟨y0,y1,m,_,hl,h0,h1⟩:=trod_struct2 Tryz.underlying54 hf
 have h0':DataW.trod enc Tryz.prog w 0 (fun _=>true) true m 3 [u0]=some y0:=by simpa [Value.cells,zkY] using h0
 have h1':DataW.trod enc Tryz.prog w 0 (fun _=>true) true m 3 [u1]=some y1:=by simpa [Value.cells,zkY] using h1
 obtain ⟨a,ha,_,wa⟩:=DataW.trod_int Tryz.underlying3 h0'
 obtain ⟨b,hb,_,wb⟩:=DataW.trod_int Tryz.underlying3 h1'
 simp at ha hb
 subst ha;subst hb
 have ba:=bounds_i64 wa
 have bb:=bounds_i64 wb
 exact ⟨(a,b),⟨_,rfl,rfl,rfl,trivial⟩,⟨ba.1,by omega⟩,⟨bb.1,by omega⟩⟩
end
end Go.Proofs.YtccjiodohphgnaaGreatDoor
namespace Go.Proofs.YtccjiodohphgnaaGreatDoor
open Go.RowKit Go.Shelf
def PImps:List Pred→List Pred→Prop
 | [],[]=>True
 | p::ps,q::qs=>(∀v W D,p v W D→q v W D)∧PImps ps qs
 | _,_=>False
theorem pimps {p q:Pred} {ps qs:List Pred} (h:∀v W D,p v W D→q v W D) (t:PImps ps qs):PImps (p::ps) (q::qs):=⟨h,t⟩
theorem zkD:PImps [] []:=trivial
section
variable {K:Kit} {P:Program} {F:Fact} {W:World} {D:Dat}
theorem zmf:∀{ps qs:List Pred} {vs:List Value},PImps ps qs→okl ps vs W D→okl qs vs W D
 | [],[],[],_,_=>trivial
 | _::_,_::_,_::_,h,h2=>⟨h.1 _ _ _ h2.1,zmf h.2 h2.2⟩
 | [],_::_,_,h,_=>h.elim
 | _::_,[],_,h,_=>h.elim
 | [],[],_::_,_,h=>h.elim
 | _::_,_::_,[],_,h=>h.elim
theorem zmg:∀{ps:List Pred} {vs:List Value},okl ps vs W D→vs.length=ps.length
 | [],[],_=>rfl
 | _::_,_::_,h=>congrArg (·+1) (zmg h.2)
 | [],_::_,h=>h.elim
 | _::_,[],h=>h.elim
theorem e_dat {α:Type} {c:α→List Pred} {E:TypeId} {len n:Nat} {ls:List Lf} {l:List α} {ps qs:List Pred} (hn:F.c n=pLs c l) (hp:ls.map (Lf.pr F)=ps) (hlow:ls.all (Lf.low [])=true) (hqs:l.flatMap c=qs) (hq:PImps ps qs) (hl:l.length=len):(Ent.dat E len ls n).sound K P F:=by
 intro β W q vs hv hh hD
 rw [hn]
 have h1:=(zi8 hlow).1 hv
 rw [hp] at h1
 have h2:=zmf hq h1
 have h3:=zmg h2
 refine .inr ⟨q,0,len,E,vs.toArray,(0,0),by rw [hl],hD,hh,?_,Nat.le_of_eq hl⟩
 show okl _ ((vs.toArray.toList.drop 0).take _) W β.D
 rw [hqs,List.drop_zero,List.take_of_length_le (by simp;omega)]
 exact h2
end
def cR2 (x:RR×RR):List Pred:=[pB x.1.1.1,pD x.1.1.2,pB x.1.2.1,pD x.1.2.2,pB x.2.1.1,pD x.2.1.2,pB x.2.2.1,pD x.2.2.2]
theorem zfm {w0:World} (x:RR×RR):FineAll (KN w0) (cR2 x):=⟨za rfl,ze,za rfl,ze,za rfl,ze,za rfl,ze,trivial⟩
theorem nz0:nz 0=(false,[]):=by
 show (decide ((0:Int)<0),digs 0)=_
 rw [zo];rfl
theorem zn_b {v:Value} {W:World} {D:Dat} (h:pV (.bool false) v W D):pB (rq none).1.1 v W D∧pB (rq none).2.1 v W D:=by
 show pB (nz 0).1 v W D∧pB (nz 0).1 v W D
 rw [nz0];exact ⟨h,h⟩
theorem zn_d {v:Value} {W:World} {D:Dat} (h:pV (.slice none 0 0) v W D):pD (rq none).1.2 v W D∧pD (rq none).2.2 v W D:=by
 show pD (nz 0).2 v W D∧pD (nz 0).2 v W D
 rw [nz0];exact ⟨nil_D h,nil_D h⟩
end Go.Proofs.YtccjiodohphgnaaGreatDoor
namespace Go.Proofs.YtccjiodohphgnaaGreatDoor
structure Sz (k:Nat) (p:Rat):Prop where
 n:p.num.natAbs<2 ^ k
 d:p.den<2 ^ k
theorem zfp {j k:Nat} (h:j≤k):2 ^ j≤2 ^ k:=Nat.pow_le_pow_right (by decide) h
theorem zur {a b n k:Nat} (e:n=a*b) (h:k≤n):2 ^ k≤(2 ^ a) ^ b:=by rw [← Nat.pow_mul,← e];exact zfp h
theorem zhx {k:Nat} (h:k≤2048):2 ^ k≤big:=by
 have:=zur (a:=32) (b:=64) rfl h
 rw [show (2:Nat) ^ 32=4294967296 from rfl] at this
 exact this
theorem za2 {a b j k:Nat} (ha:a<2 ^ j) (hb:b<2 ^ k):a*b<2 ^ (j+k):=by
 rw [Nat.pow_add]
 exact Nat.mul_lt_mul'' ha hb
section
variable {j k m:Nat} {p q:Rat}
theorem Sz.mono (h:Sz k p) (hk:k≤m):Sz m p:=⟨Nat.lt_of_lt_of_le h.n (zfp hk),Nat.lt_of_lt_of_le h.d (zfp hk)⟩
theorem Sz.nb (h:Sz k p) (hk:k≤2048):p.num.natAbs<big:=Nat.lt_of_lt_of_le h.n (zhx hk)
theorem Sz.db (h:Sz k p) (hk:k≤2048):p.den<big:=Nat.lt_of_lt_of_le h.d (zhx hk)
theorem zdG {x:Int} {d:Nat} (hd:d≠0) (hx:x.natAbs<2 ^ k) (hd2:d<2 ^ k):Sz k (Rat.divInt x d):=by
 obtain ⟨h1,h2⟩:=zc7 (x:=x) hd
 refine ⟨?_,?_⟩
 ·rw [h1,Int.natAbs_ediv_of_dvd zjD,Int.natAbs_natCast]
  exact Nat.lt_of_le_of_lt (Nat.div_le_self _ _) hx
 ·rw [h2];exact Nat.lt_of_le_of_lt (Nat.div_le_self _ _) hd2
theorem zg4 {x y:Int} (hy:y≠0) (hx:x.natAbs<2 ^ k) (hy2:y.natAbs<2 ^ k):Sz k (Rat.divInt x y):=by
 rcases Int.natAbs_eq y with h | h
 ·rw [h];exact zdG (by omega) hx hy2
 ·rw [h,Rat.divInt_neg',]
  exact zdG (by omega) (by rwa [Int.natAbs_neg]) hy2
theorem zlR {x y:Int} (hy:y≠0) (h:ofR x y=some p):p=Rat.divInt x y:=by
 unfold ofR at h;rw [if_neg hy] at h;exact (Option.some.inj h).symm
theorem zg1 (p:Rat):(p.den:Int)≠0:=by have:=p.den_nz;omega
theorem zdE (hp:Sz j p) (hq:Sz k q):(p.num*q.den).natAbs<2 ^ (j+k):=by rw [Int.natAbs_mul,Int.natAbs_natCast];exact za2 hp.n hq.d
theorem Sz.add (hp:Sz j p) (hq:Sz k q):Sz (j+k+1) (p+q):=by
 rw [zlR (Int.mul_ne_zero (zg1 p) (zg1 q)) (zsL p q),← Int.natCast_mul]
 have h1:=zdE hp hq
 have h2:=zdE hq hp
 rw [Nat.add_comm] at h2
 have h3:=za2 hp.d hq.d
 refine zdG (Nat.mul_ne_zero p.den_nz q.den_nz) ?_ ?_
 ·rw [Nat.pow_succ];omega
 ·rw [Nat.pow_succ];omega
theorem Sz.mul (hp:Sz j p) (hq:Sz k q):Sz (j+k) (p*q):=by
 rw [zlR (Int.mul_ne_zero (zg1 p) (zg1 q)) (zoZ p q),← Int.natCast_mul]
 exact zdG (Nat.mul_ne_zero p.den_nz q.den_nz) (by rw [Int.natAbs_mul];exact za2 hp.n hq.n) (za2 hp.d hq.d)
theorem Sz.neg (hp:Sz k p):Sz k (-p):=⟨by rw [Rat.neg_num,Int.natAbs_neg];exact hp.n,by rw [Rat.neg_den];exact hp.d⟩
theorem zwz (h:q≠0):q.num≠0:=fun e=>h (Rat.num_eq_zero.1 e)
theorem Sz.sub (hp:Sz j p) (hq:Sz k q):Sz (j+k+1) (p - q):=by rw [Rat.sub_eq_add_neg];exact hp.add hq.neg
theorem zdI {x:Int} (h:x.natAbs<2 ^ k) (hk:k≤2048):fitB x=true:=decide_eq_true (Nat.lt_of_lt_of_le h (zhx hk))
theorem zy (hp:Sz j p) (hq:Sz k q) (h:j+k+1≤2048):addR (some p) (some q)=some (p+q):=by
 have h1:=zdE hp hq
 have h2:=zdE hq hp
 have h3:=za2 hp.d hq.d
 have h4:(p.num*q.den+q.num*p.den).natAbs<2 ^ (j+k+1):=by
  rw [Nat.add_comm] at h2
  rw [Nat.pow_succ];omega
 unfold addR
 dsimp only
 rw [zdI h1 (by omega),zdI h2 (by omega),zdI (k:=j+k) (by rw [Int.natAbs_mul,Int.natAbs_natCast,Int.natAbs_natCast];exact h3) (by omega),zdI h4 h];rfl
theorem zK (hp:Sz j p) (hq:Sz k q) (h:j+k+1≤2048):subR (some p) (some q)=some (p - q):=by
 rw [Rat.sub_eq_add_neg];exact zy hp hq.neg h
theorem zA (hp:Sz j p) (hq:Sz k q) (h:j+k≤2048):mulR (some p) (some q)=some (p*q):=by
 unfold mulR
 dsimp only
 rw [zdI (k:=j+k) (by rw [Int.natAbs_mul];exact za2 hp.n hq.n) h,zdI (k:=j+k) (by rw [Int.natAbs_mul,Int.natAbs_natCast,Int.natAbs_natCast];exact za2 hp.d hq.d) h];rfl
theorem ztI (hp:Sz j p) (hq:Sz k q) (h0:q≠0) (h:j+k≤2048):divR (some p) (some q)=some (p / q):=by
 unfold divR
 dsimp only
 rw [if_neg (zwz h0),zdI (zdE hp hq) h,zdI (k:=j+k) (by rw [Int.natAbs_mul,Int.natAbs_natCast];exact za2 hp.d hq.n) h];rfl
theorem zoj:divR (some p) (some 0)=none:=by unfold divR;dsimp only;exact if_pos rfl
theorem qq_sz (h:Sz k p) (hk:k≤2048):qq (rq (some p))=some p:=qX_q (h.nb hk) (h.db hk)
theorem rr_sz (h:Sz k p) (hk:k≤2048):rrX (rq (some p)).1 (rq (some p)).2=true:=rrX_q (h.nb hk) (h.db hk)
theorem sg_sz (h:Sz k p) (hk:k≤2048):sgX (rq (some p)).1 (rq (some p)).2=cmpQ p 0:=by
 unfold sgX
 rw [if_pos (rr_sz h hk)]
 show cmpX (nz p.num) (nz 0)=_
 rw [zaq (h.nb hk) (qd (by decide)),zhD]
 show cmpI p.num 0=cmpI (p.num*(1:Int)) (0*(p.den:Int))
 rw [Int.mul_one,Int.zero_mul]
theorem num97 {l:List Int} (h:l.length≤3):(numL l).natAbs<2 ^ 97:=Nat.lt_of_le_of_lt (zi4 l h) (by decide +kernel)
theorem zdx (l:List Int):∃p,madeR l=some p∧Sz 97 p:=by
 have h:∃x y:Int,madeR l=ofR x y∧y≠0∧x.natAbs<2 ^ 97∧y.natAbs<2 ^ 97:=by
  have s1:∀x:Int,x.natAbs≤100→x.natAbs<2 ^ 97:=fun x hx=>Nat.lt_of_le_of_lt hx (by decide +kernel)
  unfold madeR
  split
  ·refine ⟨_,_,rfl,?_,s1 _ ?_,s1 _ ?_⟩
   ·split
    ·have:=Int.emod_nonneg (l.getD 1 0) (show (30:Int)≠0 by decide);omega
    ·decide
   ·split
    ·have:=ze8 (l.getD 0 0);omega
    ·decide
   ·split
    ·have:=Int.emod_nonneg (l.getD 1 0) (show (30:Int)≠0 by decide)
     have:=Int.emod_lt_of_pos (l.getD 1 0) (show (0:Int)<30 by decide)
     omega
    ·decide
  ·refine ⟨_,_,rfl,?_,num97 (by rw [List.length_take];omega),?_⟩
   ·split
    ·decide
    ·assumption
   ·split
    ·exact s1 _ (by decide)
    ·exact num97 (by rw [List.length_take];omega)
 obtain ⟨x,y,e,hy,h1,h2⟩:=h
 exact ⟨Rat.divInt x y,by rw [e];unfold ofR;rw [if_neg hy],zg4 hy h1 h2⟩
end
section
variable {p q r:Rat}
theorem zG:cmpQ p p=0:=by unfold cmpQ;rw [if_neg (Rat.lt_irrefl),if_neg (Rat.lt_irrefl)]
theorem zee (h:p<q):cmpQ p q=-1:=if_pos h
theorem zed (h:q<p):cmpQ p q=1:=by unfold cmpQ;rw [if_neg (by grind),if_pos h]
theorem zv (p q:Rat):(p<q∧cmpQ p q=-1)∨(p=q∧cmpQ p q=0)∨(q<p∧cmpQ p q=1):=by
 by_cases h:p<q
 ·exact .inl ⟨h,zee h⟩
 ·by_cases h2:q<p
  ·exact .inr (.inr ⟨h2,zed h2⟩)
  ·have e:p=q:=by grind
   exact .inr (.inl ⟨e,by rw [e];exact zG⟩)
theorem zW:cmpQ q p=-cmpQ p q:=by
 rcases zv p q with ⟨h,e⟩ | ⟨h,e⟩ | ⟨h,e⟩
 ·rw [e,zed h];rfl
 ·rw [e,h,zG];rfl
 ·rw [e,zee h]
theorem qj:cmpQ (p - q) 0=cmpQ p q:=by
 rcases zv p q with ⟨h,e⟩ | ⟨h,e⟩ | ⟨h,e⟩
 ·rw [e,zee (by grind)]
 ·rw [e,h,show q - q=0 by grind,zG]
 ·rw [e,zed (by grind)]
theorem qh:cmpQ (p+r) (q+r)=cmpQ p q:=by
 rcases zv p q with ⟨h,e⟩ | ⟨h,e⟩ | ⟨h,e⟩
 ·rw [e,zee (by grind)]
 ·rw [e,h,zG]
 ·rw [e,zed (by grind)]
theorem qi:cmpQ (p*r) (q*r)=cmpQ p q*cmpQ r 0:=by
 rcases zv r 0 with ⟨h,e⟩ | ⟨h,e⟩ | ⟨h,e⟩
 ·have h':0 < -r:=by grind
  rcases zv p q with ⟨h2,e2⟩ | ⟨h2,e2⟩ | ⟨h2,e2⟩
  ·have:=(Rat.mul_lt_mul_right (a:=p) (b:=q) h').2 h2
   rw [e,e2,zed (by grind)];rfl
  ·rw [e2,h2,zG,Int.zero_mul]
  ·have:=(Rat.mul_lt_mul_right (a:=q) (b:=p) h').2 h2
   rw [e,e2,zee (by grind)];rfl
 ·rw [e,h,Rat.mul_zero,Rat.mul_zero,zG,Int.mul_zero]
 ·rcases zv p q with ⟨h2,e2⟩ | ⟨h2,e2⟩ | ⟨h2,e2⟩
  ·rw [e,e2,zee ((Rat.mul_lt_mul_right h).2 h2)];rfl
  ·rw [e2,h2,zG,Int.zero_mul]
  ·rw [e,e2,zed ((Rat.mul_lt_mul_right h).2 h2)];rfl
theorem zQ (h1:cmpQ p q≤0) (h2:cmpQ q r≤0):cmpQ p r≤0:=by
 have a1:p≤q:=by rcases zv p q with ⟨h,e⟩ | ⟨h,e⟩ | ⟨h,e⟩<;>first | grind | omega
 have a2:q≤r:=by rcases zv q r with ⟨h,e⟩ | ⟨h,e⟩ | ⟨h,e⟩<;>first | grind | omega
 rcases zv p r with ⟨h,e⟩ | ⟨h,e⟩ | ⟨h,e⟩
 ·omega
 ·omega
 ·exfalso;grind
theorem qc (h:cmpQ p q=0):p=q:=by
 rcases zv p q with ⟨h1,e⟩ | ⟨h1,e⟩ | ⟨h1,e⟩
 ·omega
 ·exact h1
 ·omega
theorem zp (p q:Rat):-1≤cmpQ p q∧cmpQ p q≤1:=by
 rcases zv p q with ⟨_,e⟩ | ⟨_,e⟩ | ⟨_,e⟩<;>omega
end
end Go.Proofs.YtccjiodohphgnaaGreatDoor
