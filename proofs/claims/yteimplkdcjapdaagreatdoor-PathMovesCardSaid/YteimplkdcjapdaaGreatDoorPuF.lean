/-
  Merged: SymBl, TrB, TrC, TrD, TrE.
-/
import Derived.Test.YteimplkdcjapdaaGreatDoorPuE
import Derived.Lib.AppendStr
import Derived.Test.YteimplkdcjapdaaGreatDoorPuD
set_option linter.unusedSimpArgs false
set_option linter.unusedVariables false
namespace Go.Proofs.YteimplkdcjapdaaGreatDoor
open Go.RowKit
section
variable {K:Kit} {P:Program} {F:Fact} {W:World}
def zbP (P:Program) (T:TypeId):Array Field:=match P.underlying T with
 | some (.struct fs)=>fs
 | _=>#[]
theorem e_faD {T:TypeId} {i off m:Nat} {x o:Lf} {ps:List Pred} (hT:P.underlying T=some (.struct (zbP P T))) (hd:((zbP P T)[i]?).map (fun d=>(d.offset,szOf P d.type))=some (off,some (m+1))) (hx:Says F x (pP ps)) (ho:Says F o (pP (ps.drop off))) (hl:off≤ps.length):Ent.sound K P F (.op (.fa T i) [LF x] [] (LF o)):=by
 obtain ⟨d,h1,h2⟩:=Option.map_eq_some_iff.1 hd
 injection h2 with h2 h3
 exact e_fa (us:=ps.take off) hT h1 h3 hx (List.take_append_drop off ps).symm (by rw [List.length_take,h2];omega) ho
theorem zc3 {ps:List Pred} (h:FineAll K ps) (n:Nat):FineAll K (ps.drop n):=FineAll.of fun p hp=>h.mem p (List.mem_of_mem_drop hp)
end
def binR (op:BinOp) (u w:Value):Option Value:=match u,w with
 | .int k a,.int k' b=>match decEq k k' with
  | .isTrue _=>match binK op a b with
   | some r=>some (.bool r)
   | none=>match arK op k a b with
    | some r=>some (.int k r)
    | none=>none
  | .isFalse _=>none
 | .string ⟨⟨a⟩⟩,.string ⟨⟨b⟩⟩=>match op with
  | .eql=>some (.bool (a == b))
  | .neq=>some (.bool (!(a == b)))
  | .lss=>some (.bool (Op.bytesLess a b))
  | _=>none
 | _,_=>none
theorem zp1 {P:Program} {op:BinOp} {u w r:Value} (h:binR op u w=some r) (T:TypeId) (W:World) (X Y:Operand):(do eqGuard op T X Y u w;binOp op T u w:Sem Value).run P W=.ok r W:=by
 unfold binR at h
 split at h
 ·rename_i k a k' b
  split at h
  ·rename_i e _
   subst e
   split at h
   ·rename_i r' h1
    injection h with h;subst h
    exact r_cmp h1 W X Y
   ·split at h
    ·rename_i h1
     injection h with h;subst h
     exact r_ar h1 W X Y
    ·cases h
  ·cases h
 ·rename_i a b
  split at h
  ·injection h with h;subst h;exact r_seq (a:=a) (b:=b) W X Y
  ·injection h with h;subst h;exact r_sne (a:=a) (b:=b) W X Y
  ·injection h with h;subst h;exact r_slt (a:=a) (b:=b) W X Y
  ·cases h
 ·cases h
def dvR (op:BinOp) (k:IntKind) (a b:Int):Option Int:=match op with
 | .quo=>some (k.wrap (a.tdiv b))
 | .rem=>some (a.tmod b)
 | _=>none
def unR (op:UnOp) (u:Value):Option Value:=match op,u with
 | .not,.bool b=>some (.bool (!b))
 | .neg,.int k a=>some (.int k (k.wrap (0 - a)))
 | _,_=>none
theorem zsA {P:Program} {op:UnOp} {u r:Value} (h:unR op u=some r) (W:World):(Op.unary op u).run P W=.ok r W:=by
 unfold unR at h
 split at h
 ·injection h with h;subst h;exact r_not W
 ·injection h with h;subst h;exact r_neg W
 ·cases h
def gen (u:Value) (Q:SV→Prop):Prop:=match u with
 | .int k x=>∀v,x=v→Q (.v (.int k v))
 | .bool b=>∀v,b=v→Q (.v (.bool v))
 | .string ⟨⟨l⟩⟩=>∀v:List UInt8,l=v→Q (.v (.string ⟨v.toArray⟩))
 | u=>Q (.v u)
theorem zpf {u:Value} {Q:SV→Prop} (h:gen u Q):Q (.v u):=by
 unfold gen at h
 split at h
 ·exact h _ rfl
 ·exact h _ rfl
 ·exact h _ rfl
 ·exact h
def LpH (K:Kit) (P:Program) (f:FuncId) (pm:Pm) (s:LoopS) (i:Nat) (E:Ev):Prop:=∀t u w (R:Frm),R.pm=pm→zU K P (FLx E t u w) R s (lp P f i)
inductive FE where
 | bin (op:BinOp) (T:TypeId) (x y:Lf)
 | dv (op:BinOp) (T:TypeId) (x y:Lf)
 | cat (T:TypeId) (x y:Lf)
 | un (op:UnOp) (x:Lf)
 | ia (T E:TypeId) (z:Nat) (x i:Lf)
 | ld (T:TypeId) (n:Nat) (x:Lf)
 | fa (T:TypeId) (i off m:Nat) (x:Lf)
 | ln (T R:TypeId) (x:Lf)
 | lnS (T R:TypeId) (x:Lf)
 | ix (T:TypeId) (x i:Lf)
 | cv (S T:TypeId) (k k':IntKind) (x:Lf)
 | call (f:FuncId) (as:List Sh) (r:SK)
 | pan (f:FuncId) (as:List Sh) (r:Sh)
 | fb (n:Nat) (b:Bool)
 | raw (C:List (Nat×Ent)) (n:Nat)
 | gh (g:Gh) (n:Nat)
 | lp (s:LoopS) (i n:Nat)
 | cast (n:Nat)
def FE.cnt:FE→Nat
 | .ld _ n _=>match n with
  | 0=>1
  | n=>n
 | .call _ _ r=>r.n
 | .pan _ _ _=>0
 | .fb _ _=>0
 | .raw _ n=>n
 | .gh _ n=>n
 | .lp _ _ n=>n
 | .cast _=>0
 | _=>1
def FE.ents (key na:Nat):FE→List (Nat×Ent)
 | .bin op T x y=>[(1000000+key,.bin op T (LF x) (LF y) (LF (.h na)))]
 | .dv op T x y=>[(1000000+key,.bin op T (LF x) (LF y) (LF (.h na)))]
 | .cat T x y=>[(1000000+key,.bin .add T (LF x) (LF y) (LF (.h na)))]
 | .un op x=>[(1000000+key,.un op (LF x) (LF (.h na)))]
 | .ia T _ _ x i=>[(1000000+key,.op (.ia T) [LF x,LF i] [] (LF (.h na)))]
 | .ld T n x=>[(1000000+key,.op (.ld T) [LF x] [] (match n with
  | 0=>LF (.h na)
  | n=>.o (.g (hs na n))))]
 | .fa T i _ _ x=>[(1000000+key,.op (.fa T i) [LF x] [] (LF (.h na)))]
 | .ln T R x=>[(1000000+key,.op (.len [T] R) [LF x] [] (LF (.h na)))]
 | .lnS T R x=>[(1000000+key,.op (.len [T] R) [LF x] [] (LF (.h na)))]
 | .ix T x i=>[(1000000+key,.op (.ix T) [LF x,LF i] [] (LF (.h na)))]
 | .cv S T _ _ x=>[(1000000+key,.op (.cv S T) [LF x] [] (LF (.h na)))]
 | .call f as r=>[(1000000+key,.call ⟨f,as,[],r.sh na,[]⟩)]
 | .pan f as r=>[(1000000+key,.pan ⟨f,as,[],r,[]⟩)]
 | .fb n b=>[(10000+n,.fb n b)]
 | .raw C _=>C
 | .gh _ _=>[]
 | .lp _ _ _=>[]
 | .cast _=>[]
def FE.ghs:FE→List Gh
 | .gh g _=>[g]
 | _=>[]
def FE.lps:FE→List (LoopS×Nat)
 | .lp s i _=>[(s,i)]
 | _=>[]
def zji (P:Program) (T:TypeId):Option TypeId:=match P.underlying T with
 | some (.slice E)=>some E
 | _=>none
def isStr (P:Program) (T:TypeId):Bool:=match P.underlying T with
 | some .string=>true
 | _=>false
def isInt (P:Program) (T:TypeId):Option IntKind:=match P.underlying T with
 | some (.int k)=>some k
 | _=>none
def isStc (P:Program) (T:TypeId):Bool:=match P.underlying T with
 | some (.struct _)=>true
 | _=>false
def FE.chk (P:Program):FE→Bool
 | .dv op _ _ _=>match op with
  | .quo=>true
  | .rem=>true
  | _=>false
 | .ia T E z _ _=>zji P T == some E && szOf P E == some z
 | .ld T n _=>match n with
  | 0=>aggOf P T == some false
  | n=>aggOf P T == some true && szOf P T == some n
 | .fa T i off m _=>isStc P T && ((zbP P T)[i]?).map (fun d=>(d.offset,szOf P d.type)) == some (off,some (m+1))
 | .ln T _ _=>(zji P T).isSome
 | .lnS T _ _=>isStr P T
 | .ix T _ _=>isStr P T
 | .cv S T k k' _=>isInt P S == some k && isInt P T == some k'
 | _=>true
def Ev.cast (E:Ev) (n:Nat) (s:SV):Ev:=⟨E.n,E.a.set (E.n - 1 - n) s,E.g,E.o⟩
def FE.vc (K:Kit) (P:Program) (f:FuncId) (pm:Pm) (fe:FE) (E:Ev) (k:Ev→Prop):Prop:=match fe with
 | .bin op _ x y=>match E.lf x,E.lf y with
  | some (.v u),some (.v w)=>match binR op u w with
   | some r=>match K.ck r with
    | true=>gen r fun s=>k (E.add s)
    | false=>False
   | none=>False
  | _,_=>False
 | .dv op _ x y=>match E.lf x,E.lf y with
  | some (.v (.int kk a)),some (.v (.int kk' b))=>match decEq kk kk',dvR op kk a b,K.bad kk with
   | .isTrue _,some r,false=>b≠0∧∀v,r=v→k (E.add (.v (.int kk v)))
   | _,_,_=>False
  | _,_=>False
 | .cat _ x y=>match E.lf x,E.lf y with
  | some (.v (.string ⟨⟨a⟩⟩)),some (.v (.string ⟨⟨b⟩⟩))=>((a.length+b.length:Nat):Int)≤9223372036854775807∧∀v:List UInt8,a++b=v→k (E.add (.v (.string ⟨v.toArray⟩)))
  | _,_=>False
 | .un op x=>match E.lf x with
  | some (.v u)=>match unR op u with
   | some r=>match K.ck r with
    | true=>gen r fun s=>k (E.add s)
    | false=>False
   | none=>False
  | _=>False
 | .ia _ _ z x i=>match E.lf x,E.lf i with
  | some (.ls z' _ c xs),some (.v (.int _ j))=>match Nat.beq z' z with
   | true=>(∃(n:Nat) (a:_),j=(n:Int)∧xs[n]?=some a)∧∀(n:Nat) (a:_),j=(n:Int)→xs[n]?=some a→k (E.add (.p (c a)))
   | false=>False
  | _,_=>False
 | .ld _ n x=>match E.lf x with
  | some (.p xs)=>match n with
   | 0=>match xs with
    | s::_=>k (E.add s)
    | []=>False
   | n=>match Nat.ble n xs.length with
    | true=>k (E.adds (xs.take n))
    | false=>False
  | _=>False
 | .fa _ _ off _ x=>match E.lf x with
  | some (.p xs)=>match Nat.ble off xs.length with
   | true=>k (E.add (.p (xs.drop off)))
   | false=>False
  | _=>False
 | .ln _ _ x=>match E.lf x,K.bad .i64 with
  | some (.ls _ _ _ xs),false=>∀v:Int,(xs.length:Int)=v→k (E.add (.v (.int .i64 v)))
  | _,_=>False
 | .lnS _ _ x=>match E.lf x,K.bad .i64 with
  | some (.v (.string ⟨⟨l⟩⟩)),false=>∀v:Int,(l.length:Int)=v→k (E.add (.v (.int .i64 v)))
  | _,_=>False
 | .ix _ x i=>match E.lf x,E.lf i,K.bad .u8 with
  | some (.v (.string ⟨⟨l⟩⟩)),some (.v (.int _ j)),false=>(∃(n:Nat) (a:UInt8),j=(n:Int)∧l[n]?=some a)∧∀(n:Nat) (a:UInt8),j=(n:Int)→l[n]?=some a→k (E.add (.v (.int .u8 (a.toNat:Int))))
  | _,_,_=>False
 | .cv _ _ kk kk' x=>match E.lf x,K.bad kk' with
  | some (.v (.int k0 a)),false=>match decEq k0 kk with
   | .isTrue _=>∀v:Int,kk'.wrap a=v→k (E.add (.v (.int kk' v)))
   | .isFalse _=>False
  | _,_=>False
 | .call g as sk=>match E.shs as with
  | some as'=>∃r:SSh,SFun K P g as' r∧r.sk=sk∧k (E.adds r.svs)
  | none=>False
 | .pan g as r=>match E.shs as,E.sh r with
  | some as',some r'=>SPan K P g as' r'∧k E
  | _,_=>False
 | .fb n b=>match E.look n with
  | some (.v (.bool c))=>c=b∧k E
  | _=>False
 | .raw C n=>∃l g o,(l.length=n∧SV.fines K l∧zS K g∧zC K o)∧(∀t u w,Sound K P (FLx (E.ext l g o) t u w) C)∧k (E.ext l g o)
 | .gh g n=>∃l gg o,(l.length=n∧SV.fines K l∧zS K gg∧zC K o)∧(∀t u w,Fine K (FLx (E.ext l gg o) t u w)→Gh.sound K (FLx (E.ext l gg o) t u w) g)∧k (E.ext l gg o)
 | .lp s i n=>∃l g o,(l.length=n∧SV.fines K l∧zS K g∧zC K o)∧LpH K P f pm s i (E.ext l g o)∧k (E.ext l g o)
 | .cast n=>match E.look n with
  | some s=>∃s':SV,s'.pr=s.pr∧s'.fine K∧k (E.cast n s')
  | none=>False
structure Good (K:Kit) (P:Program) (f:FuncId) (pm:Pm) (E0 E:Ev) (C:List (Nat×Ent)) (G:List Gh) (L:List (LoopS×Nat)):Prop where
 fine:E.fine K
 snd:∀t u w,Sound K P (FLx E t u w) C
 ghs:∀t u w,Fine K (FLx E t u w)→GhsSound K (FLx E t u w) G
 lps:∀x∈L,LpH K P f pm x.1 x.2 E
 xt:∀t u w,∃t' u' w',FLx E t u w=FLx E0 t' u' w'
theorem Sound.app {K:Kit} {P:Program} {F:Fact}:∀{C D:List (Nat×Ent)},Sound K P F C→Sound K P F D→Sound K P F (C++D)
 | [],_,_,h=>h
 | _::_,_,h,h2=>⟨h.1,Sound.app h.2 h2⟩
theorem GhsSound.app {K:Kit} {F:Fact}:∀{C D:List Gh},GhsSound K F C→GhsSound K F D→GhsSound K F (C++D)
 | [],_,_,h=>h
 | _::_,_,h,h2=>⟨h.1,GhsSound.app h.2 h2⟩
theorem Ev.ext_fine {K:Kit} {E:Ev} {l:List SV} {g:List LPred} {o:List OPred} (h:E.fine K) (h1:SV.fines K l) (h2:zS K g) (h3:zC K o):(E.ext l g o).fine K:=⟨zaX h.1 h1,zfH h.2.1 h2,zfI h.2.2 h3⟩
theorem LpH.ag {K:Kit} {P:Program} {f:FuncId} {pm:Pm} {s:LoopS} {i:Nat} {E E':Ev} (hA:Ag E E') (h:LpH K P f pm s i E):LpH K P f pm s i E':=fun t u w R hR=>by rw [zih hA];exact h _ _ _ R hR
section
variable {K:Kit} {P:Program} {f:FuncId} {pm:Pm} {E0 E E':Ev} {C:List (Nat×Ent)} {G:List Gh} {L:List (LoopS×Nat)}
theorem Good.more {D:List (Nat×Ent)} {G':List Gh} {L':List (LoopS×Nat)} (h:Good K P f pm E0 E C G L) (hA:Ag E E') (hf:E'.fine K) (hD:∀t u w,Sound K P (FLx E' t u w) D) (hG:∀t u w,Fine K (FLx E' t u w)→GhsSound K (FLx E' t u w) G') (hL:∀x∈L',LpH K P f pm x.1 x.2 E'):Good K P f pm E0 E' (D++C) (G++G') (L++L'):=
 ⟨hf,fun t u w=>Sound.app (hD t u w) (by rw [zih hA];exact h.snd _ _ _),fun t u w hf=>GhsSound.app (by have hf:=hf;rw [zih hA] at hf ⊢;exact h.ghs _ _ _ hf) (hG t u w hf),fun x hx=>(List.mem_append.1 hx).elim (fun hx=>(h.lps x hx).ag hA) (hL x),fun t u w=>by
  rw [zih hA];exact h.xt _ _ _⟩
theorem Good.one {s:SV} {n:Nat} {e:Ent} (h:Good K P f pm E0 E C G L) (h1:s.fine K) (he:∀t u w,e.sound K P (FLx (E.add s) t u w)):Good K P f pm E0 (E.add s) ([(n,e)]++C) (G++[]) (L++[]):=
 h.more zkl ⟨by show SV.fines K (s::E.a);rw [SV.fines];exact ⟨h1,h.fine.1⟩,h.fine.2⟩ (fun t u w=>⟨he t u w,trivial⟩) (fun _ _ _ _=>trivial) (fun x hx=>by cases hx)
theorem zjt {u:Value} (h:K.ck u=true):(SV.v u).fine K:=by rw [SV.fine];exact h
theorem qE {u:Value} {t w z}:Gives (FLx (E.add (.v u)) t w z) (.h E.n) u:=by
 have:=zcK (E:=E) (s:=.v u) (t:=t) (u:=w) (w:=z)
 rw [SV.pr] at this;exact this
theorem qh {l:Lf} {x:Value} {s:SV} {t u w} (h:E.lf l=some (.v x)):Gives (FLx (E.add s) t u w) l x:=znA (lf_ag zkl h)
theorem zft {l:Lf} {x:SV} {s:SV} {t u w} (h:E.lf l=some x):Says (FLx (E.add s) t u w) l x.pr:=zc9 (lf_ag zkl h)
theorem zf8 {T E':TypeId} (h:zji P T=some E'):P.underlying T=some (.slice E'):=by
 unfold zji at h
 split at h
 ·rename_i h1;rw [h1];injection h with h;rw [h]
 ·cases h
theorem ziS {T:TypeId} (h:isStr P T=true):P.underlying T=some .string:=by
 unfold isStr at h
 split at h
 ·rename_i h1;exact h1
 ·cases h
theorem ziR {T:TypeId} {k:IntKind} (h:isInt P T=some k):P.underlying T=some (.int k):=by
 unfold isInt at h
 split at h
 ·rename_i h1;rw [h1];injection h with h;rw [h]
 ·cases h
theorem zny {T:TypeId} (h:isStc P T=true):P.underlying T=some (.struct (zbP P T)):=by
 unfold isStc at h
 split at h
 ·rename_i h1;unfold zbP;rw [h1]
 ·cases h
end
section
variable {K:Kit} {P:Program} {f:FuncId} {pm:Pm} {E0 E:Ev} {C:List (Nat×Ent)} {G:List Gh} {L:List (LoopS×Nat)}
theorem zrM {l:List SV} {n:Nat} (h:l.length=n):(E.adds l).lfs (hs E.n n)=some l:=by
 subst h
 exact zlg fun i hi=>by rw [List.getElem?_eq_getElem hi];exact zeH (List.getElem?_eq_getElem hi)
theorem Good.cast {n:Nat} {s s':SV} (h:Good K P f pm E0 E C G L) (hn:E.look n=some s) (hp:s'.pr=s.pr) (hf:s'.fine K):Good K P f pm E0 (E.cast n s') C G L:=by
 have hl:n<E.n∧gta E.a (E.n - 1 - n)=some s:=by
  unfold Ev.look at hn
  split at hn
  ·rename_i hi;exact ⟨Nat.le_of_ble_eq_true hi,hn⟩
  ·cases hn
 have hset:∀(l:List SV) (k:Nat),SV.fines K l→SV.fines K (l.set k s'):=by
  intro l
  induction l with
  | nil=>intro k h;exact h
  | cons a r ih =>
   intro k h
   rw [SV.fines] at h
   cases k with
   | zero=>rw [List.set_cons_zero,SV.fines];exact ⟨hf,h.2⟩
   | succ k=>rw [List.set_cons_succ,SV.fines];exact ⟨h.1,ih k h.2⟩
 have hF:∀t u w,FLx (E.cast n s') t u w=FLx E t u w:=fun t u w=>by
  have:(FLx (E.cast n s') t u w).c=(FLx E t u w).c:=by
   funext i
   show (match (E.cast n s').look i with
    | some s=>s.pr
    | none=>t i)=(match E.look i with
    | some s=>s.pr
    | none=>t i)
   unfold Ev.look
   show (match (match Nat.blt i E.n with
    | true=>gta (E.a.set (E.n - 1 - n) s') (E.n - 1 - i)
    | false=>none) with
    | some s=>s.pr
    | none=>t i)=_
   cases hb:Nat.blt i E.n with
   | false=>rfl
   | true =>
    have hi:i<E.n:=Nat.le_of_ble_eq_true hb
    show (match gta (E.a.set (E.n - 1 - n) s') (E.n - 1 - i) with
     | some s=>s.pr
     | none=>t i)=(match gta E.a (E.n - 1 - i) with
     | some s=>s.pr
     | none=>t i)
    by_cases e:n=i
    ·subst e
     rw [hl.2]
     have hlt:=hl.2
     rw [qt] at hlt
     rw [qt,List.getElem?_set_self (List.getElem?_eq_some_iff.1 hlt).1]
     exact hp
    ·rw [qt,qt,List.getElem?_set_ne (by omega)]
  unfold FLx at this ⊢
  simp only at this
  rw [this];rfl
 exact ⟨⟨hset _ _ h.fine.1,h.fine.2⟩,fun t u w=>by rw [hF];exact h.snd t u w,fun t u w hf=>by rw [hF] at hf ⊢;exact h.ghs t u w hf,fun x hx t u w R hR=>by rw [hF];exact h.lps x hx t u w R hR,fun t u w=>by rw [hF];exact h.xt t u w⟩
theorem zbV {kk:IntKind} {v:Int} (h:K.bad kk=false):(SV.v (.int kk v)).fine K:=zjt (by show (!K.bad kk)=true;rw [h];rfl)
theorem FE.ok {fe:FE} (key:Nat) {k:Ev→Prop} (h:Good K P f pm E0 E C G L) (hc:fe.chk P=true) (hv:fe.vc K P f pm E k) :
  ∃E',Good K P f pm E0 E' (fe.ents key E.n++C) (G++fe.ghs) (L++fe.lps)∧E'.n=E.n+fe.cnt∧k E':=by
 cases fe with
 | bin op T x y =>
  dsimp only [FE.vc] at hv
  split at hv
  ·rename_i u w h1 h2
   split at hv
   ·rename_i r hr
    split at hv
    ·rename_i hk
     refine ⟨E.add (.v r),h.one (zjt hk) fun t u w=>?_,rfl,zpf hv⟩
     exact e_bin (qh h1) (qh h2) qE fun W X Y=>zp1 hr T W X Y
    ·cases hv
   ·cases hv
  ·cases hv
 | dv op T x y =>
  dsimp only [FE.vc] at hv
  split at hv
  ·rename_i kk a kk' b h1 h2
   split at hv
   ·rename_i e r _ hr hb
    subst e
    obtain ⟨h0,hv⟩:=hv
    refine ⟨E.add (.v (.int kk r)),h.one (zbV hb) fun t u w=>?_,rfl,hv r rfl⟩
    refine e_bin (qh h1) (qh h2) qE fun W X Y=>r_ar ?_ W X Y
    unfold dvR at hr
    split at hr
    ·rw [zrw h0];exact hr
    ·rw [zrx h0];exact hr
    ·cases hr
   ·cases hv
  ·cases hv
 | cat T x y =>
  dsimp only [FE.vc] at hv
  split at hv
  ·rename_i a b h1 h2
   obtain ⟨h0,hv⟩:=hv
   refine ⟨E.add (.v (.string ⟨(a++b).toArray⟩)),h.one (zjt rfl) fun t u w=>?_,rfl,hv _ rfl⟩
   exact e_bin (qh h1) (qh h2) qE fun W X Y=>r_cat (a:=a) (b:=b) h0 W X Y
  ·cases hv
 | un op x =>
  dsimp only [FE.vc] at hv
  split at hv
  ·rename_i u h1
   split at hv
   ·rename_i r hr
    split at hv
    ·rename_i hk
     refine ⟨E.add (.v r),h.one (zjt hk) fun t u w=>?_,rfl,zpf hv⟩
     exact e_un (qh h1) qE fun W=>zsA hr W
    ·cases hv
   ·cases hv
  ·cases hv
 | ia T E' z x i =>
  dsimp only [FE.vc] at hv
  split at hv
  ·rename_i α z' d c xs kk j h1 h2
   split at hv
   ·rename_i hz
    have hz:=Nat.eq_of_beq_eq_true hz
    subst hz
    simp only [FE.chk,Bool.and_eq_true,beq_iff_eq] at hc
    obtain ⟨⟨n,a,h3,h4⟩,hv⟩:=hv
    have hf:(SV.ls z' d c xs).fine K:=by
     cases x with
     | h m=>exact zbZ h.fine h1
     | q g bs=>cases bs<;>cases h1
     | _=>cases h1
    rw [SV.fine] at hf
    refine ⟨E.add (.p (c a)),h.one (by rw [SV.fine];exact (hf a).2.1) fun t u w=>?_,rfl,hv n a h3 h4⟩
    refine e_iaL (c:=d) (z:=z') (fun a=>by rw [← (hf a).2.2,zeW];exact (hf a).1) (zf8 hc.1) hc.2 ?_ (qh h2) h3 h4 ?_
    ·have:=zft (s:=.p (c a)) (t:=t) (u:=u) (w:=w) h1
     rw [SV.pr] at this;exact this
    ·have:=zcK (E:=E) (s:=.p (c a)) (t:=t) (u:=u) (w:=w)
     rw [SV.pr,(hf a).2.2] at this;exact this
   ·cases hv
  ·cases hv
 | ld T n x =>
  dsimp only [FE.vc] at hv
  split at hv
  ·rename_i xs h1
   have hf:(SV.p xs).fine K:=by
    cases x with
    | h m=>exact zbZ h.fine h1
    | q g bs=>cases bs<;>cases h1
    | _=>cases h1
   rw [SV.fine] at hf
   cases n with
   | zero =>
    simp only at hv
    split at hv
    ·rename_i s r
     simp only [FE.chk,beq_iff_eq] at hc
     rw [SV.fines] at hf
     refine ⟨E.add s,h.one hf.1 fun t u w=>?_,rfl,hv⟩
     have:=zft (s:=s) (t:=t) (u:=u) (w:=w) h1
     rw [SV.pr,SV.prs] at this
     exact e_ld1 hc this zcK
    ·cases hv
   | succ n =>
    simp only at hv
    split at hv
    ·rename_i hn
     have hn:=Nat.le_of_ble_eq_true hn
     simp only [FE.chk,Bool.and_eq_true,beq_iff_eq] at hc
     have hl:(xs.take (n+1)).length=n+1:=by rw [List.length_take];omega
     have hsp:SV.prs xs=SV.prs (xs.take (n+1))++SV.prs (xs.drop (n+1)):=by rw [← zlS,List.take_append_drop]
     have hft:SV.fines K (xs.take (n+1)):=by
      have:∀(l:List SV) (m:Nat),SV.fines K l→SV.fines K (l.take m):=by
       intro l
       induction l with
       | nil=>intro m h;rw [List.take_nil];exact h
       | cons a r ih =>
        intro m h
        cases m with
        | zero=>rw [List.take_zero,SV.fines];trivial
        | succ m=>rw [SV.fines] at h;rw [List.take_succ_cons,SV.fines];exact ⟨h.1,ih m h.2⟩
      exact this _ _ hf
     refine ⟨E.adds (xs.take (n+1)),?_,by rw [zdN,hl];rfl,hv⟩
     refine h.more zcT ⟨zaX h.fine.1 hft,by rw [zbj.1,zbj.2];exact h.fine.2⟩ (fun t u w=>⟨?_,trivial⟩) (fun _ _ _ _=>trivial) (fun x hx=>by cases hx)
     have h1':(E.adds (xs.take (n+1))).lf x=some (.p xs):=lf_ag zcT h1
     have hx:=zc9 (t:=t) (u:=u) (w:=w) h1'
     rw [SV.pr,hsp] at hx
     have hls:=zlo (t:=t) (u:=u) (w:=w) (zrM (E:=E) hl)
     exact e_ldn hc.2 hc.1 hx hls.1 hls.2 (by rw [zeW,hl])
    ·cases hv
  ·cases hv
 | fa T i off m x =>
  dsimp only [FE.vc] at hv
  split at hv
  ·rename_i xs h1
   split at hv
   ·rename_i hn
    have hn:=Nat.le_of_ble_eq_true hn
    simp only [FE.chk,Bool.and_eq_true,beq_iff_eq] at hc
    have hf:(SV.p xs).fine K:=by
     cases x with
     | h m=>exact zbZ h.fine h1
     | q g bs=>cases bs<;>cases h1
     | _=>cases h1
    rw [SV.fine] at hf
    have hd:∀(l:List SV) (m:Nat),SV.prs (l.drop m)=(SV.prs l).drop m∧(SV.fines K l→SV.fines K (l.drop m)):=by
     intro l
     induction l with
     | nil=>intro m;rw [List.drop_nil,SV.prs,List.drop_nil];exact ⟨rfl,fun h=>h⟩
     | cons a r ih =>
      intro m
      cases m with
      | zero=>exact ⟨rfl,fun h=>h⟩
      | succ m =>
       rw [List.drop_succ_cons,SV.prs,List.drop_succ_cons]
       exact ⟨(ih m).1,fun h=>by rw [SV.fines] at h;exact (ih m).2 h.2⟩
    refine ⟨E.add (.p (xs.drop off)),h.one (by rw [SV.fine];exact (hd xs off).2 hf) fun t u w=>?_,rfl,hv⟩
    have hx:=zft (s:=.p (xs.drop off)) (t:=t) (u:=u) (w:=w) h1
    have ho:=zcK (E:=E) (s:=.p (xs.drop off)) (t:=t) (u:=u) (w:=w)
    rw [SV.pr] at hx ho
    rw [(hd xs off).1] at ho
    exact e_faD (zny hc.1) hc.2 hx ho (by rw [zeW];exact hn)
   ·cases hv
  ·cases hv
 | ln T R x =>
  dsimp only [FE.vc] at hv
  split at hv
  ·rename_i α z d c xs h1 hb
   simp only [FE.chk] at hc
   obtain ⟨E',he⟩:=Option.isSome_iff_exists.1 hc
   refine ⟨E.add (.v (.int .i64 (xs.length:Int))),h.one (zbV hb) fun t u w=>?_,rfl,hv _ rfl⟩
   have hx:=zft (s:=.v (.int .i64 (xs.length:Int))) (t:=t) (u:=u) (w:=w) h1
   rw [SV.pr] at hx
   exact zcA (zf8 he) hx qE
  ·cases hv
 | lnS T R x =>
  dsimp only [FE.vc] at hv
  split at hv
  ·rename_i l h1 hb
   refine ⟨E.add (.v (.int .i64 (l.length:Int))),h.one (zbV hb) fun t u w=>?_,rfl,hv _ rfl⟩
   exact e_op1 (qh h1) qE fun W=>zsg (s:=l) (ziS hc) W
  ·cases hv
 | ix T x i =>
  dsimp only [FE.vc] at hv
  split at hv
  ·rename_i l kk j h1 h2 hb
   obtain ⟨⟨n,a,h3,h4⟩,hv⟩:=hv
   refine ⟨E.add (.v (.int .u8 (a.toNat:Int))),h.one (zbV hb) fun t u w=>?_,rfl,hv n a h3 h4⟩
   exact e_op2 (qh h1) (qh h2) qE fun W=>r_ix (s:=l) (ziS hc) h3 h4 W
  ·cases hv
 | cv S T k1 k2 x =>
  dsimp only [FE.vc] at hv
  split at hv
  ·rename_i k0 a h1 hb
   split at hv
   ·rename_i e _
    subst e
    simp only [FE.chk,Bool.and_eq_true,beq_iff_eq] at hc
    refine ⟨E.add (.v (.int k2 (k2.wrap a))),h.one (zbV hb) fun t u w=>?_,rfl,hv _ rfl⟩
    exact e_op1 (qh h1) qE fun W=>r_cvi (ziR hc.1) (ziR hc.2) W
   ·cases hv
  ·cases hv
 | call g as sk =>
  dsimp only [FE.vc] at hv
  split at hv
  ·rename_i as' h1
   obtain ⟨r,⟨hrf,hfun⟩,hsk,hv⟩:=hv
   subst hsk
   refine ⟨E.adds r.svs,?_,by rw [zdN];show _=_+r.sk.n;rw [sk_n],hv⟩
   refine h.more zcT ⟨zaX h.fine.1 hrf,by rw [zbj.1,zbj.2];exact h.fine.2⟩ (fun t u w=>⟨?_,trivial⟩) (fun _ _ _ _=>trivial) (fun x hx=>by cases hx)
   have ha:=zmb (t:=t) (u:=u) (w:=w) (zpE (zcT (l:=r.svs)) h1)
   have hr:=sk_sh (E:=E) (y:=r)
   have hr:=sh_pr (t:=t) (u:=u) (w:=w) hr
   exact zE hfun ha.1 hr.1 ha.2 hr.2
  ·cases hv
 | pan g as r =>
  dsimp only [FE.vc] at hv
  split at hv
  ·rename_i as' r' h1 h2
   refine ⟨E,?_,rfl,hv.2⟩
   refine ⟨h.fine,fun t u w=>⟨?_,h.snd t u w⟩,fun t u w hf=>(h.ghs t u w hf).app trivial,fun x hx=>(List.mem_append.1 hx).elim (h.lps x) (fun hx=>by cases hx),h.xt⟩
   have ha:=zmb (t:=t) (u:=u) (w:=w) h1
   have hr:=sh_pr (t:=t) (u:=u) (w:=w) h2
   exact znW hv.1 ha.1 hr.1 ha.2 hr.2
  ·cases hv
 | fb n b =>
  dsimp only [FE.vc] at hv
  split at hv
  ·rename_i c h1
   obtain ⟨rfl,hv⟩:=hv
   refine ⟨E,?_,rfl,hv⟩
   refine ⟨h.fine,fun t u w=>⟨?_,h.snd t u w⟩,fun t u w hf=>(h.ghs t u w hf).app trivial,fun x hx=>(List.mem_append.1 hx).elim (h.lps x) (fun hx=>by cases hx),h.xt⟩
   exact e_fb (by rw [FLx_c h1,SV.pr])
  ·cases hv
 | raw D n =>
  obtain ⟨l,g,o,⟨h1,h2,h3,h4⟩,h5,h6⟩:=hv
  exact ⟨E.ext l g o,h.more zkW (Ev.ext_fine h.fine h2 h3 h4) h5 (fun _ _ _ _=>trivial) (fun x hx=>by cases hx),by show (E.adds l).n=_;rw [zdN,h1];rfl,h6⟩
 | gh gg n =>
  obtain ⟨l,g,o,⟨h1,h2,h3,h4⟩,h5,h6⟩:=hv
  exact ⟨E.ext l g o,h.more (D:=[]) zkW (Ev.ext_fine h.fine h2 h3 h4) (fun _ _ _=>trivial) (fun t u w hf=>⟨h5 t u w hf,trivial⟩) (fun x hx=>by cases hx),by show (E.adds l).n=_;rw [zdN,h1];rfl,h6⟩
 | lp s i n =>
  obtain ⟨l,g,o,⟨h1,h2,h3,h4⟩,h5,h6⟩:=hv
  exact ⟨E.ext l g o,h.more (D:=[]) zkW (Ev.ext_fine h.fine h2 h3 h4) (fun _ _ _=>trivial) (fun _ _ _ _=>trivial) (fun x hx=>by obtain rfl:=List.mem_singleton.1 hx;exact h5),by show (E.adds l).n=_;rw [zdN,h1];rfl,h6⟩
 | cast n =>
  dsimp only [FE.vc] at hv
  split at hv
  ·rename_i s h1
   obtain ⟨s',h2,h3,h4⟩:=hv
   refine ⟨E.cast n s',?_,rfl,h4⟩
   show Good K P f pm E0 _ C (G++[]) (L++[])
   rw [List.append_nil,List.append_nil]
   exact h.cast h1 h2 h3
  ·cases hv
inductive Leaf where
 | ret (pan:Bool) (r:Sh) (post:List Atom)
 | nx (js:List Lf) (gs os:List Nat)
 | xt (x:Ex) (js:List Lf) (gs os:List Nat)
 | no
inductive Tr where
 | s (l:List (Nat×FE)) (t:Tr)
 | b (n:Nat) (t e:Tr)
 | r (t e:Tr)
 | z (l:Leaf)
def vcl (K:Kit) (P:Program) (f:FuncId) (pm:Pm):List (Nat×FE)→Ev→(Ev→Prop)→Prop
 | [],E,k=>k E
 | x::l,E,k=>x.2.vc K P f pm E fun E'=>vcl K P f pm l E' k
def VC (K:Kit) (P:Program) (f:FuncId) (pm:Pm) (lvc:Leaf→Ev→Prop):Tr→Ev→Prop
 | .s l t,E=>vcl K P f pm l E (VC K P f pm lvc t)
 | .b n t e,E=>match E.look n with
  | some (.v (.bool c))=>(c=true→VC K P f pm lvc t E)∧(c=false→VC K P f pm lvc e E)
  | _=>False
 | .r t e,E=>VC K P f pm lvc t E∨VC K P f pm lvc e E
 | .z l,E=>lvc l E
structure TS where
 C:List (Nat×Ent)
 G:List Gh
 L:List (LoopS×Nat)
 n:Nat
def feRun (P:Program):List (Nat×FE)→TS→Option TS
 | [],x=>some x
 | y::l,x=>match y.2.chk P with
  | true=>feRun P l ⟨y.2.ents y.1 x.n++x.C,x.G++y.2.ghs,x.L++y.2.lps,x.n+y.2.cnt⟩
  | false=>none
def TrOk (P:Program) (lok:Leaf→TS→Bool):Tr→TS→Bool
 | .s l t,x=>match feRun P l x with
  | some y=>TrOk P lok t y
  | none=>false
 | .b n t e,x=>TrOk P lok t ⟨(10000+n,.fb n true)::x.C,x.G,x.L,x.n⟩ && TrOk P lok e ⟨(10000+n,.fb n false)::x.C,x.G,x.L,x.n⟩
 | .r t e,x=>TrOk P lok t x && TrOk P lok e x
 | .z l,x=>lok l x
theorem ziC:∀{l:List (Nat×FE)} {x y:TS} {E:Ev} {k:Ev→Prop},Good K P f pm E0 E x.C x.G x.L→E.n=x.n→feRun P l x=some y→vcl K P f pm l E k→∃E',Good K P f pm E0 E' y.C y.G y.L∧E'.n=y.n∧k E'
 | [],x,y,E,k,h,hn,hr,hv=>by
  have:=Option.some.inj hr;subst this
  exact ⟨E,h,hn,hv⟩
 | z::l,x,y,E,k,h,hn,hr,hv=>by
  unfold feRun at hr
  split at hr
  ·rename_i hc
   obtain ⟨E',h1,h2,h3⟩:=FE.ok z.1 h hc hv
   rw [hn] at h1 h2
   exact ziC (x:=⟨_,_,_,_⟩) h1 h2 hr h3
  ·cases hr
theorem zbF {lok:Leaf→TS→Bool} {lvc:Leaf→Ev→Prop} {Q:Prop} (H:∀l E x,Good K P f pm E0 E x.C x.G x.L→lok l x=true→lvc l E→Q):∀{t:Tr} {x:TS} {E:Ev},Good K P f pm E0 E x.C x.G x.L→E.n=x.n→TrOk P lok t x=true→VC K P f pm lvc t E→Q
 | .s l t,x,E,h,hn,hr,hv=>by
  unfold TrOk at hr
  split at hr
  ·rename_i y hy
   unfold VC at hv
   obtain ⟨E',h1,h2,h3⟩:=ziC h hn hy hv
   exact zbF H h1 h2 hr h3
  ·cases hr
 | .b n t e,x,E,h,hn,hr,hv=>by
  unfold TrOk at hr
  rw [Bool.and_eq_true] at hr
  unfold VC at hv
  split at hv
  ·rename_i c h1
   have hg:Good K P f pm E0 E ((10000+n,.fb n c)::x.C) x.G x.L:=⟨h.fine,fun t u w=>⟨e_fb (by rw [FLx_c h1,SV.pr]),h.snd t u w⟩,h.ghs,h.lps,h.xt⟩
   cases c with
   | true=>exact zbF H (x:=⟨_,_,_,_⟩) hg hn hr.1 (hv.1 rfl)
   | false=>exact zbF H (x:=⟨_,_,_,_⟩) hg hn hr.2 (hv.2 rfl)
  ·cases hv
 | .r t e,x,E,h,hn,hr,hv=>by
  unfold TrOk at hr
  rw [Bool.and_eq_true] at hr
  unfold VC at hv
  rcases hv with hv | hv
  ·exact zbF H h hn hr.1 hv
  ·exact zbF H h hn hr.2 hv
 | .z l,x,E,h,hn,hr,hv=>H l E x h hr hv
end
class Fi (K:Kit) (s:SV):Prop where
 h:s.fine K
class FiL (K:Kit) (l:List SV):Prop where
 h:SV.fines K l
class FiC (K:Kit) (x:SCm):Prop where
 h:SV.fines K x.svs
class FiT (K:Kit) (l:List SCm):Prop where
 h:SV.fines K (l.flatMap SCm.svs)
class FiS (K:Kit) (x:SSh):Prop where
 h:SV.fines K x.svs
class FiA (K:Kit) (l:List SSh):Prop where
 h:SV.fines K (l.flatMap SSh.svs)
class FiG (K:Kit) (l:List LPred):Prop where
 h:zS K l
class FiO (K:Kit) (l:List OPred):Prop where
 h:zC K l
class FiE (K:Kit) (E:Ev):Prop where
 h:E.fine K
class FiP (K:Kit) (p:LPred):Prop where
 h:FineL K p
class FiQ (K:Kit) (p:OPred):Prop where
 h:FineO K p
section
variable {K:Kit}
theorem zbR:SV.fines K []:=by rw [SV.fines];trivial
theorem zdY {s:SV} {l:List SV} (h:s.fine K) (h2:SV.fines K l):SV.fines K (s::l):=by rw [SV.fines];exact ⟨h,h2⟩
instance:FiL K []:=⟨zbR⟩
instance {s:SV} {l:List SV} [a:Fi K s] [b:FiL K l]:FiL K (s::l):=⟨zdY a.h b.h⟩
instance {s:SV} [a:Fi K s]:FiC K (.c s):=⟨zdY a.h zbR⟩
instance {l:List SV} [a:FiL K l]:FiC K (.g l):=⟨a.h⟩
instance:FiT K []:=⟨zbR⟩
instance {s:SCm} {l:List SCm} [a:FiC K s] [b:FiT K l]:FiT K (s::l):=⟨by rw [List.flatMap_cons];exact zc5 a.h b.h⟩
instance {x:SCm} [a:FiC K x]:FiS K (.o x):=⟨a.h⟩
instance {l:List SCm} [a:FiT K l]:FiS K (.t l):=⟨a.h⟩
instance:FiA K []:=⟨zbR⟩
instance {s:SSh} {l:List SSh} [a:FiS K s] [b:FiA K l]:FiA K (s::l):=⟨by rw [List.flatMap_cons];exact zc5 a.h b.h⟩
instance:FiG K []:=⟨trivial⟩
instance {s:LPred} {l:List LPred} [a:FiP K s] [b:FiG K l]:FiG K (s::l):=⟨a.h,b.h⟩
instance:FiO K []:=⟨trivial⟩
instance {s:OPred} {l:List OPred} [a:FiQ K s] [b:FiO K l]:FiO K (s::l):=⟨a.h,b.h⟩
instance {n:Nat} {l:List SV} {g:List LPred} {o:List OPred} [a:FiL K l] [b:FiG K g] [c:FiO K o]:FiE K ⟨n,l,g,o⟩:=⟨a.h,b.h,c.h⟩
theorem zdZ:∀{l:List SV} {n:Nat},SV.fines K l→SV.fines K (l.drop n)
 | [],_,h=>by rw [List.drop_nil];exact h
 | _::_,0,h=>h
 | _::l,n+1,h=>by rw [SV.fines] at h;exact zdZ (l:=l) h.2
instance {l:List SV} {n:Nat} [a:FiL K l]:FiL K (l.drop n):=⟨zdZ a.h⟩
instance {l:List SV} [a:FiL K l]:Fi K (.p l):=⟨by rw [SV.fine];exact a.h⟩
end
section
variable {K:Kit} {P:Program} {f:FuncId}
def lpsOk (P:Program) (f:FuncId) (L:List (LoopS×Nat)):Bool:=match L with
 | []=>true
 | L=>decide ((zu (z7 P f)).map (·.1)).Nodup && L.all fun x=>((zu (z7 P f))[x.2]?).map (·.1) == some x.1.id
theorem zaI {i:Nat} {s:LoopS}:∀{l:List LoopS},qo i l=some s→s∈l∧s.id=i
 | [],h=>by cases h
 | a::r,h=>by
  unfold qo at h
  split at h
  ·rename_i h1
   have:=Option.some.inj h;subst this
   exact ⟨List.mem_cons_self ..,beq_iff_eq.1 h1⟩
  ·obtain ⟨h1,h2⟩:=zaI h
   exact ⟨List.mem_cons_of_mem _ h1,h2⟩
theorem zpk {L:List (LoopS×Nat)} (h:lpsOk P f L=true) {s:LoopS} (hs:s∈L.map (·.1)) {p:Nat×Code} (hp:p∈zu (z7 P f)) (hi:s.id=p.1):∃x∈L,x.1=s∧lp P f x.2=p.2:=by
 obtain ⟨x,hx,rfl⟩:=List.mem_map.1 hs
 refine ⟨x,hx,rfl,?_⟩
 cases L with
 | nil=>cases hx
 | cons a r =>
  simp only [lpsOk,Bool.and_eq_true,decide_eq_true_eq,List.all_eq_true,beq_iff_eq] at h
  obtain ⟨hn,ha⟩:=h
  obtain ⟨c,hc,hc2⟩:=Option.map_eq_some_iff.1 (ha x hx)
  obtain ⟨j,hj,rfl⟩:=List.getElem_of_mem hp
  obtain ⟨hk,rfl⟩:=List.getElem?_eq_some_iff.1 hc
  have e:x.2=j:=by
   have:=(List.nodup_iff_pairwise_ne.1 hn)
   rw [List.pairwise_iff_getElem] at this
   rcases Nat.lt_trichotomy x.2 j with h | h | h
   ·have:=this x.2 j (by simpa using hk) (by simpa using hj) h
    rw [List.getElem_map,List.getElem_map,hc2,hi] at this
    exact absurd rfl this
   ·exact h
   ·have:=this j x.2 (by simpa using hj) (by simpa using hk) h
    rw [List.getElem_map,List.getElem_map,hc2,hi] at this
    exact absurd rfl this
  subst e
  unfold lp
  rw [List.getD_eq_getElem?_getD,List.getElem?_eq_getElem hk];rfl
theorem qD {p:Nat×Code}:∀{c d:Code},(d,())∈(zu c).map (fun x=>(x.2,()))→p∈zu d→p∈zu c
 | .loop b,d,h,hp=>by
  rw [zu,List.map_cons,List.mem_cons] at h
  rw [zu,List.mem_cons]
  rcases h with h | h
  ·injection h with h;subst h;exact .inr hp
  ·exact .inr (qD h hp)
 | .seq a b,d,h,hp=>by
  rw [zu,List.map_append,List.mem_append] at h
  rw [zu,List.mem_append]
  exact h.imp (fun h=>qD h hp) (fun h=>qD h hp)
 | .cond _ a b,d,h,hp=>by
  rw [zu,List.map_append,List.mem_append] at h
  rw [zu,List.mem_append]
  exact h.imp (fun h=>qD h hp) (fun h=>qD h hp)
 | .block _ c,d,h,hp=>by rw [zu] at h ⊢;exact qD h hp
 | .scope c,d,h,hp=>by rw [zu] at h ⊢;exact qD h hp
 | .skip,d,h,hp=>by cases h
 | .region _ _ _,d,h,hp=>by cases h
 | .exit _,d,h,hp=>by cases h
 | .ret,d,h,hp=>by cases h
 | .label _,d,h,hp=>by cases h
theorem zrN {i:Nat} {p:Nat×Code} (h:p∈zu (lp P f i)):p∈zu (z7 P f):=by
 unfold lp at h
 by_cases hi:i<(zu (z7 P f)).length
 ·rw [List.getD_eq_getElem?_getD,List.getElem?_eq_getElem hi] at h
  exact qD (List.mem_map.2 ⟨_,List.getElem_mem hi,rfl⟩) h
 ·rw [List.getD_eq_getElem?_getD,List.getElem?_eq_none (by omega)] at h
  cases h
structure FM where
 as:List Sh
 pre:List Atom:=[]
 vir:List Nat:=[]
 nb:Nat:=0
 un:Nat:=0
def fnOk (K:Kit) (P:Program) (f:FuncId) (m:FM) (l:Leaf) (x:TS):Bool:=match l with
 | .ret pan r post=>lpsOk P f x.L && zcW K P x.C ⟨x.L.map (·.1),x.G,m.un⟩ m.vir m.nb pan ⟨f,m.as,m.pre,r,post⟩
 | .no=>true
 | _=>false
def fnVc (K:Kit) (P:Program) (f:FuncId) (m:FM) (Q:Prop) (l:Leaf) (E:Ev):Prop:=match l with
 | .ret pan r post=>zaC K P (FLx E d0 d1 d2) pan ⟨f,m.as,m.pre,r,post⟩→Q
 | _=>False
theorem ziM {pm:Pm} {E:Ev} (h:E.fine K):Good K P f pm E E [] [] []:=⟨h,fun _ _ _=>trivial,fun _ _ _ _=>trivial,fun x hx=>(by cases hx),fun t u w=>⟨t,u,w,rfl⟩⟩
theorem znp {m:FM} {E0 E:Ev} {x:TS} {pan:Bool} {r:Sh} {post:List Atom} (hm:P.follows .mixedOrders=true) (hg:Good K P f ⟨ntOf P f,names m.pre,zk m.pre⟩ E0 E x.C x.G x.L) (h:fnOk K P f m (.ret pan r post) x=true):zaC K P (FLx E d0 d1 d2) pan ⟨f,m.as,m.pre,r,post⟩:=by
 have h:(lpsOk P f x.L && zcW K P x.C ⟨x.L.map (·.1),x.G,m.un⟩ m.vir m.nb pan ⟨f,m.as,m.pre,r,post⟩)=true:=h
 rw [Bool.and_eq_true] at h
 refine zgO ⟨x.L.map (·.1),x.G,m.un⟩ m.vir m.nb pan (za0 hg.fine) (hg.snd _ _ _) hm (hg.ghs _ _ _ (za0 hg.fine)) (fun R hR p hp s hs=>?_) h.2
 obtain ⟨h1,h2⟩:=zaI hs
 obtain ⟨y,hy,rfl,h3⟩:=zpk h.1 h1 hp h2
 rw [← h3]
 exact hg.lps y hy _ _ _ R hR
theorem tr_fn {Q:Prop} (m:FM) (E:Ev) [hf:FiE K E] (hm:P.follows .mixedOrders=true) (t:Tr) (hok:TrOk P (fnOk K P f m) t ⟨[],[],[],E.n⟩=true) (hv:VC K P f ⟨ntOf P f,names m.pre,zk m.pre⟩ (fnVc K P f m Q) t E):Q:=by
 refine zbF (lok:=fnOk K P f m) (lvc:=fnVc K P f m Q) (fun l E x hg ho hl=>?_) (x:=⟨[],[],[],E.n⟩) (ziM hf.h) rfl hok hv
 cases l with
 | ret pan r post=>exact hl (znp hm hg ho)
 | _=>cases hl
end
def tnL (j:Nat→Lf):Lf→Lf
 | .h n=>j n
 | .pf b n=>match j n with
  | .h m=>.pf b m
  | x=>x
 | x=>x
def tnC (j:Nat→Lf):Cm→Cm
 | .c l=>.c (tnL j l)
 | .g l=>.g (l.map (tnL j))
def tnS (j:Nat→Lf):Sh→Sh
 | .o x=>.o (tnC j x)
 | .t l=>.t (l.map (tnC j))
def tnA (j:Nat→Lf) (k o:Nat→Nat):Atom→Atom
 | .sl s x=>.sl s (tnS j x)
 | .bx b T ls=>.bx b T (ls.map (tnL j))
 | .gl b T z n=>.gl b T z (k n)
 | .hp bs rs n=>.hp bs rs (o n)
 | A=>A
def tnX (j:Nat→Lf):Ex→Ex
 | .p x=>.p (tnS j x)
 | x=>x
def baL (n:Nat):Lf→Bool
 | .h i=>Nat.blt i n
 | .pf _ i=>Nat.blt i n
 | _=>true
def baC (n:Nat):Cm→Bool
 | .c l=>baL n l
 | .g l=>l.all (baL n)
def baS (n:Nat):Sh→Bool
 | .o x=>baC n x
 | .t l=>l.all (baC n)
def baA (n m r:Nat):Atom→Bool
 | .sl _ x=>baS n x
 | .bx _ _ ls=>ls.all (baL n)
 | .gl _ _ _ i=>Nat.blt i m
 | .gn _=>true
 | .hp _ _ i=>Nat.blt i r
def baX (n:Nat):Ex→Bool
 | .p x=>baS n x
 | _=>true
section
variable {K:Kit} {F F':Fact} {j:Nat→Lf} {k o:Nat→Nat} {n m r:Nat} (hc:∀i<n,∀(β:Loc) v W,(j i).ok F β v W→F'.c i v W β.D) (hg:∀i<m,F.g (k i)=F'.g i) (ho:∀i<r,F.o (o i)=F'.o i)
include hc
theorem zpR {β:Loc} {l:Lf} {v:Value} {W:World} (hl:baL n l=true) (hp:∀b i,l=.pf b i→∃q,j i=.h q) (h:(tnL j l).ok F β v W):l.ok F' β v W:=by
 cases l with
 | h i=>exact hc i (Nat.le_of_ble_eq_true hl) β v W h
 | pf b i =>
  have hi:=hc i (Nat.le_of_ble_eq_true hl)
  obtain ⟨q',e⟩:=hp b i rfl
  dsimp only [tnL] at h
  rw [e] at h hi
  obtain ⟨q,o,h1,h2,h3⟩:=h
  exact ⟨q,o,h1,h2,hi β _ W h3⟩
 | _=>exact h
end
def pfL (j:Nat→Lf):Lf→Bool
 | .pf _ i=>match j i with
  | .h _=>true
  | _=>false
 | _=>true
def pfC (j:Nat→Lf):Cm→Bool
 | .c l=>pfL j l
 | .g l=>l.all (pfL j)
def pfS (j:Nat→Lf):Sh→Bool
 | .o x=>pfC j x
 | .t l=>l.all (pfC j)
def pfA (j:Nat→Lf):Atom→Bool
 | .sl _ x=>pfS j x
 | .bx _ _ ls=>ls.all (pfL j)
 | _=>true
def pfX (j:Nat→Lf):Ex→Bool
 | .p s=>pfS j s
 | _=>true
theorem zps {j:Nat→Lf} {l:Lf} (h:pfL j l=true):∀b i,l=.pf b i→∃q,j i=.h q:=by
 rintro b i rfl
 dsimp only [pfL] at h
 split at h
 ·rename_i q e;exact ⟨q,e⟩
 ·cases h
section
variable {K:Kit} {F F':Fact} {j:Nat→Lf} {k o:Nat→Nat} {n m r:Nat} (hc:∀i<n,∀(β:Loc) v W,(j i).ok F β v W→F'.c i v W β.D) (hg:∀i<m,F.g (k i)=F'.g i) (ho:∀i<r,F.o (o i)=F'.o i)
include hc
theorem zh5 {β:Loc} {W:World}:∀{ls:List Lf} {vs:List Value},ls.all (baL n)=true→ls.all (pfL j)=true→oks F β (ls.map (tnL j)) vs W→oks F' β ls vs W
 | [],[],_,_,_=>trivial
 | l::ls,v::vs,hl,hp,h=>by
  rw [List.all_cons,Bool.and_eq_true] at hl hp
  exact ⟨zpR hc hl.1 (zps hp.1) h.1,zh5 hl.2 hp.2 h.2⟩
 | [],_::_,_,_,h=>h.elim
 | _::_,[],_,_,h=>h.elim
theorem zpP {β:Loc} {x:Cm} {v:Value} {W:World} (hl:baC n x=true) (hp:pfC j x=true) (h:(tnC j x).ok F β v W):x.ok F' β v W:=by
 cases x with
 | c l=>exact zpR hc hl (zps hp) h
 | g l=>obtain ⟨vs,e,h⟩:=h;exact ⟨vs,e,zh5 hc hl hp h⟩
theorem zmH {β:Loc} {W:World}:∀{ls:List Cm} {vs:List Value},ls.all (baC n)=true→ls.all (pfC j)=true→cms F β (ls.map (tnC j)) vs W→cms F' β ls vs W
 | [],[],_,_,_=>trivial
 | l::ls,v::vs,hl,hp,h=>by
  rw [List.all_cons,Bool.and_eq_true] at hl hp
  exact ⟨zpP hc hl.1 hp.1 h.1,zmH hl.2 hp.2 h.2⟩
 | [],_::_,_,_,h=>h.elim
 | _::_,[],_,_,h=>h.elim
theorem zpS {β:Loc} {x:Sh} {v:Value} {W:World} (hl:baS n x=true) (hp:pfS j x=true) (h:(tnS j x).ok F β v W):x.ok F' β v W:=by
 cases x with
 | o x=>exact zpP hc hl hp h
 | t l=>obtain ⟨vs,e,h⟩:=h;exact ⟨vs,e,zmH hc hl hp h⟩
theorem zsz {x:Ex} (hl:baX n x=true) (hp:pfX j x=true):ImpX F F' (tnX j x) x:=by
 cases x with
 | p s=>exact fun β v W h=>zpS hc hl hp h
 | n=>rfl
 | r=>rfl
 | x i=>exact beq_self_eq_true i
include hg ho
theorem zpT {st:List Atom} (hl:st.all (baA n m r)=true) (hp:st.all (pfA j)=true):Imp K F F' (st.map (tnA j k o)) st:=fun β a W _ h B hB=>by
 have hl:=List.all_eq_true.1 hl B hB
 have hp:=List.all_eq_true.1 hp B hB
 have h:=h _ (List.mem_map_of_mem hB)
 cases B with
 | sl s x=>exact zpS hc hl hp h
 | bx b T ls=>obtain ⟨q,vs,h0,h1,h2,h3⟩:=h;exact ⟨q,vs,h0,h1,zh5 hc hl hp h2,h3⟩
 | gl b T z i =>
  have e:=hg i (Nat.le_of_ble_eq_true hl)
  exact z_gl (n:=k i) (m:=i) (fun vs W D h=>by rw [← e];exact h) β a W h
 | gn b=>exact h
 | hp bs rs i =>
  have e:=ho i (Nat.le_of_ble_eq_true hl)
  exact ⟨by rw [← e];exact h.1,h.2⟩
end
theorem zpQ:∀l,tnL .h l=l:=fun l=>by cases l<;>rfl
theorem zsy:∀A,tnA .h (fun n=>n) (fun n=>n) A=A:=fun A=>by
 have hL:∀l:List Lf,l.map (tnL .h)=l:=fun l=>by rw [show tnL .h=id from funext zpQ,List.map_id]
 have hC:∀x,tnC .h x=x:=fun x=>by
  cases x with
  | c l=>exact congrArg Cm.c (zpQ l)
  | g l=>exact congrArg Cm.g (hL l)
 cases A with
 | sl s x=>cases x with
  | o x=>exact congrArg (fun y=>Atom.sl s (.o y)) (hC x)
  | t l=>exact congrArg (fun y=>Atom.sl s (.t y)) (by rw [show tnC .h=id from funext hC,List.map_id])
 | bx b T ls=>exact congrArg (Atom.bx b T) (hL ls)
 | _=>rfl
theorem pf_id:∀A,pfA .h A=true:=fun A=>by
 have hL:∀l:List Lf,l.all (pfL .h)=true:=fun l=>List.all_eq_true.2 fun x _=>by cases x<;>rfl
 have hC:∀x,pfC .h x=true:=fun x=>by
  cases x with
  | c l=>cases l<;>rfl
  | g l=>exact hL l
 cases A with
 | sl s x=>cases x with
  | o x=>exact hC x
  | t l=>exact List.all_eq_true.2 fun x _=>hC x
 | bx b T ls=>exact hL ls
 | _=>rfl
def rvl {α:Type _}:List α→List α→List α
 | [],m=>m
 | a::l,m=>rvl l (a::m)
theorem zl6 {α:Type _} {x:α}:∀{l m:List α} {i:Nat},l[i]?=some x→gta (rvl l m) (l.length - 1 - i)=some x
 | [],_,_,h=>by rw [List.getElem?_nil] at h;cases h
 | a::l,m,0,h=>by
  have:a=x:=by simpa using h
  subst this
  have:∀(l:List α) (m:List α) (k:Nat),gta m k=some a→gta (rvl l m) (l.length+k)=some a:=by
   intro l
   induction l with
   | nil=>intro m k h;simpa [rvl] using h
   | cons b r ih =>
    intro m k h
    have:=ih (b::m) (k+1) h
    rw [show (b::r).length+k=r.length+(k+1) by rw [List.length_cons];omega];exact this
  have:=this l (a::m) 0 rfl
  rw [show (a::l).length - 1 - 0=l.length+0 by rw [List.length_cons];omega];exact this
 | a::l,m,i+1,h=>by
  have:=zl6 (l:=l) (m:=a::m) (i:=i) (by simpa using h)
  rw [show (a::l).length - 1 - (i+1)=l.length - 1 - i by rw [List.length_cons];omega];exact this
def gts {α:Type _} (l:List α):List Nat→Option (List α)
 | []=>some []
 | i::r=>match gta l i,gts l r with
  | some s,some m=>some (s::m)
  | _,_=>none
theorem ziP {α:Type _} {l:List α}:∀{is:List Nat} {m:List α} {i:Nat},gts l is=some m→i<m.length→l[is.getD i 0]?=m[i]?∧is.length=m.length
 | [],m,i,h,hi=>by have:=Option.some.inj h;subst this;cases hi
 | a::r,m,i,h,hi=>by
  unfold gts at h
  split at h
  ·rename_i s m' h1 h2
   have:=Option.some.inj h;subst this
   rw [qt] at h1
   cases i with
   | zero =>
    refine ⟨h1,?_⟩
    cases m' with
    | nil=>cases r with
     | nil=>rfl
     | cons b q=>unfold gts at h2;split at h2<;>cases h2
    | cons x y=>rw [List.length_cons,List.length_cons,(ziP (i:=0) h2 (by simp)).2];done
   | succ i =>
    obtain ⟨h3,h4⟩:=ziP (i:=i) h2 (by simpa using hi)
    exact ⟨h3,by rw [List.length_cons,h4,List.length_cons]⟩
  ·cases h
theorem zpj {E:Ev}:∀{js:List Lf} {m:List SV} {i:Nat},E.lfs js=some m→i<m.length→E.lf (js.getD i (.h 0))=m[i]?
 | [],m,i,h,hi=>by have:=Option.some.inj h;subst this;cases hi
 | a::r,m,i,h,hi=>by
  unfold Ev.lfs at h
  split at h
  ·rename_i s m' h1 h2
   have:=Option.some.inj h;subst this
   cases i with
   | zero=>exact h1
   | succ i=>exact zpj (i:=i) h2 (by simpa using hi)
  ·cases h
def Ev.ren (E:Ev) (js:List Lf) (gs os:List Nat):Option Ev:=match E.lfs js,gts E.g gs,gts E.o os with
 | some a,some g,some o=>some ⟨a.length,rvl a [],g,o⟩
 | _,_,_=>none
def jf (js:List Lf) (i:Nat):Lf:=js.getD i (.h 0)
def kf (gs:List Nat) (i:Nat):Nat:=gs.getD i 0
section
variable {K:Kit} {P:Program} {f:FuncId}
theorem ren_c {E E':Ev} {js:List Lf} {gs os:List Nat} (h:E.ren js gs os=some E') (t:Nat→Pred) (u:Nat→LPred) (w:Nat→OPred) (t':Nat→Pred) (u':Nat→LPred) (w':Nat→OPred) :
  (∀i<E'.n,∀(β:Loc) v W,(jf js i).ok (FLx E t u w) β v W→(FLx E' t' u' w').c i v W β.D)∧(∀i<E'.g.length,(FLx E t u w).g (kf gs i)=(FLx E' t' u' w').g i)∧(∀i<E'.o.length,(FLx E t u w).o (kf os i)=(FLx E' t' u' w').o i):=by
 unfold Ev.ren at h
 split at h
 ·rename_i a g o h1 h2 h3
  have:=Option.some.inj h;subst this
  refine ⟨fun i hi β v W hv=>?_,fun i hi=>?_,fun i hi=>?_⟩
  ·have hi:i<a.length:=hi
   have e:=zpj h1 hi
   rw [List.getElem?_eq_getElem hi] at e
   rw [FLx_c (s:=a[i]) (by
    unfold Ev.look
    rw [show Nat.blt i a.length=true from Nat.ble_eq_true_of_le hi]
    exact zl6 (List.getElem?_eq_getElem hi))]
   exact (zc9 e β v W).1 hv
  ·have hi:i<g.length:=hi
   have e:=(ziP h2 hi).1
   show (match gta E.g (gs.getD i 0) with
    | some p=>p
    | none=>u _)=(match gta g i with
    | some p=>p
    | none=>u' i)
   rw [qt,qt,e,List.getElem?_eq_getElem hi]
  ·have hi:i<o.length:=hi
   have e:=(ziP h3 hi).1
   show (match gta E.o (os.getD i 0) with
    | some p=>p
    | none=>w _)=(match gta o i with
    | some p=>p
    | none=>w' i)
   rw [qt,qt,e,List.getElem?_eq_getElem hi]
 ·cases h
theorem zhx {E E':Ev} {js:List Lf} {gs os:List Nat} {st:List Atom} (h:E.ren js gs os=some E') (hl:st.all (baA E'.n E'.g.length E'.o.length)=true) (hp:st.all (pfA (jf js))=true) (t:Nat→Pred) (u:Nat→LPred) (w:Nat→OPred) (t':Nat→Pred) (u':Nat→LPred) (w':Nat→OPred):Imp K (FLx E t u w) (FLx E' t' u' w') (st.map (tnA (jf js) (kf gs) (kf os))) st:=by
 obtain ⟨h1,h2,h3⟩:=ren_c h t u w t' u' w'
 exact zpT h1 h2 h3 hl hp
theorem znJ {E:Ev} {st:List Atom} (hw:E.n≤E.a.length) (hl:st.all (baA E.n E.g.length E.o.length)=true) (t t':Nat→Pred) (u u':Nat→LPred) (w w':Nat→OPred):Imp K (FLx E t u w) (FLx E t' u' w') st st:=by
 have:=zpT (K:=K) (F:=FLx E t u w) (F':=FLx E t' u' w') (j:=.h) (k:=fun n=>n) (o:=fun n=>n) (n:=E.n) (m:=E.g.length) (r:=E.o.length) (st:=st) (fun i hi β v W h=>by
  have e:∃s,E.look i=some s:=by
   unfold Ev.look
   rw [show Nat.blt i E.n=true from Nat.ble_eq_true_of_le hi]
   exact ⟨E.a[E.n - 1 - i]'(by omega),by
    show gta E.a (E.n - 1 - i)=_
    rw [qt];exact List.getElem?_eq_getElem (by omega)⟩
  obtain ⟨s,e⟩:=e
  rw [FLx_c e]
  have h:(FLx E t u w).c i v W β.D:=h
  rw [FLx_c e] at h;exact h) (fun i hi=>by
  show (match gta E.g i with
   | some p=>p
   | none=>u i)=(match gta E.g i with
   | some p=>p
   | none=>u' i)
  rw [qt,List.getElem?_eq_getElem hi]) (fun i hi=>by
  show (match gta E.o i with
   | some p=>p
   | none=>w i)=(match gta E.o i with
   | some p=>p
   | none=>w' i)
  rw [qt,List.getElem?_eq_getElem hi]) hl (List.all_eq_true.2 fun A _=>pf_id A)
 rw [show tnA .h (fun n=>n) (fun n=>n)=id from funext zsy,List.map_id] at this
 exact this
structure RM where
 inv:List Atom
 s:LoopS
 ni:Nat×Nat×Nat
 no:Nat×Nat×Nat
 nb:Nat:=5000
def rdOk (K:Kit) (P:Program) (f:FuncId) (pm:Pm) (i:Nat) (m:RM) (l:Leaf) (x:TS):Bool:=match l with
 | .nx js gs os=>lpsOk P f x.L && zf4 K P x.C ⟨x.L.map (·.1),x.G,0⟩ pm (lp P f i) m.nb m.inv .n (m.inv.map (tnA (jf js) (kf gs) (kf os))) && m.inv.all (pfA (jf js))
 | .xt y js gs os=>lpsOk P f x.L && zf4 K P x.C ⟨x.L.map (·.1),x.G,0⟩ pm (lp P f i) m.nb m.inv y (m.s.out.map (tnA (jf js) (kf gs) (kf os))) && m.s.out.all (pfA (jf js)) && exEq y (tnX (jf js) m.s.x) && pfX (jf js) m.s.x
 | .no=>true
 | _=>false
def rdVc {T:Type} (Es:T→Ev) (J:T→Prop) (μ:T→Nat) (Eo:Ev) (t:T) (l:Leaf) (E:Ev):Prop:=match l with
 | .nx js gs os=>∃t',μ t'<μ t∧J t'∧E.ren js gs os=some (Es t')
 | .xt _ js gs os=>E.ren js gs os=some Eo
 | _=>False
def Ev.lens (E:Ev):Nat×Nat×Nat×Nat:=(E.n,E.g.length,E.o.length,E.a.length)
theorem zi {pm:Pm} {i:Nat} {T:Type} (Eo:Ev) (m:RM) (Es:T→Ev) [hf:∀t,FiE K (Es t)] (J:T→Prop) (μ:T→Nat) (t0:T) (js:List Lf) (gs os:List Nat) (tr:Tr) (hm:P.follows .mixedOrders=true)
  (ht:J t0) (hin:m.s.inv=m.inv.map (tnA (jf js) (kf gs) (kf os))) (hpf:m.inv.all (pfA (jf js))=true) (h0:Eo.ren js gs os=some (Es t0)) (hx:exEq m.s.x .n=false) (hl:∀t,(Es t).lens=(m.ni.1,m.ni.2.1,m.ni.2.2,m.ni.1)) (ho:Eo.lens=(m.no.1,m.no.2.1,m.no.2.2,m.no.1))
  (hb:(m.inv.all (baA m.ni.1 m.ni.2.1 m.ni.2.2) && m.s.out.all (baA m.no.1 m.no.2.1 m.no.2.2) && baX m.no.1 m.s.x)=true)
  (hok:TrOk P (rdOk K P f pm i m) tr ⟨[],[],[],m.ni.1⟩=true) (hv:∀t,J t→VC K P f pm (rdVc Es J μ Eo t) tr (Es t)):LpH K P f pm m.s i Eo:=by
 intro t' u' w' R hR
 simp only [Bool.and_eq_true] at hb
 obtain ⟨⟨hb1,hb2⟩,hb3⟩:=hb
 have hbi:∀t,m.inv.all (baA (Es t).n (Es t).g.length (Es t).o.length)=true:=fun t=>by
  have:=hl t
  simp only [Ev.lens,Prod.mk.injEq] at this
  rw [this.1,this.2.1,this.2.2.1];exact hb1
 have hwf:∀t,(Es t).n≤(Es t).a.length:=fun t=>by
  have:=hl t
  simp only [Ev.lens,Prod.mk.injEq] at this
  omega
 simp only [Ev.lens,Prod.mk.injEq] at ho
 have hbo:m.s.out.all (baA Eo.n Eo.g.length Eo.o.length)=true:=by rw [ho.1,ho.2.1,ho.2.2.1];exact hb2
 have hbx:baX Eo.n m.s.x=true:=by rw [ho.1];exact hb3
 refine zd3 (fun t=>FLx (Es t) d0 d1 d2) J μ t0 m.inv ht ?_ hx fun t hJ=>?_
 ·rw [hin];exact zhx h0 (hbi t0) hpf _ _ _ _ _ _
 refine zbF (E0:=Es t) (lok:=rdOk K P f pm i m) (lvc:=rdVc Es J μ Eo t) (fun l E x hg ho hvl=>?_) (x:=⟨[],[],[],m.ni.1⟩) (ziM (hf t).h) (by have:=hl t;simp only [Ev.lens,Prod.mk.injEq] at this;exact this.1) hok (hv t hJ)
 have hL:lpsOk P f x.L=true→∀p∈zu (lp P f i),∀s,qo p.1 (x.L.map (·.1))=some s→zU K P (FLx E d0 d1 d2) R s p.2:=fun hlo p hp s hs=>by
  obtain ⟨h1,h2⟩:=zaI hs
  obtain ⟨y,hy,rfl,h3⟩:=zpk hlo h1 (zrN hp) h2
  rw [← h3]
  exact hg.lps y hy _ _ _ R hR
 have hE:Imp K (FLx (Es t) d0 d1 d2) (FLx E d0 d1 d2) m.inv m.inv:=by
  obtain ⟨t',u',w',e⟩:=hg.xt d0 d1 d2
  rw [e];exact znJ (hwf t) (hbi t) _ _ _ _ _ _
 cases l with
 | nx js gs os =>
  obtain ⟨t2,h1,h2,h3⟩:=hvl
  simp only [rdOk,Bool.and_eq_true] at ho
  obtain ⟨⟨o1,o2⟩,o3⟩:=ho
  exact .inr ⟨t2,h1,h2,goes _ hE (za0 hg.fine) (hg.snd _ _ _) hm hR (hg.ghs _ _ _ (za0 hg.fine)) (hL o1) o2 rfl (zhx h3 (hbi t2) o3 _ _ _ _ _ _)⟩
 | xt y js gs os =>
  have h3:E.ren js gs os=some Eo:=hvl
  simp only [rdOk,Bool.and_eq_true] at ho
  obtain ⟨⟨⟨⟨o1,o2⟩,o3⟩,o4⟩,o5⟩:=ho
  have e:=zgW o4
  subst e
  exact .inl (goes _ hE (za0 hg.fine) (hg.snd _ _ _) hm hR (hg.ghs _ _ _ (za0 hg.fine)) (hL o1) o2 (zsz (ren_c h3 _ _ _ _ _ _).1 hbx o5) (zhx h3 hbo o3 _ _ _ _ _ _))
 | _=>cases hvl
end
end Go.Proofs.YteimplkdcjapdaaGreatDoor
