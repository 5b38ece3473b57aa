/-
  Merged: PsM, PcK, PsK.
-/
import Derived.Test.YteimplkdcjapdaaGreatDoorPrV
import Derived.Test.YteimplkdcjapdaaGreatDoorPrU
set_option linter.unusedSimpArgs false
set_option linter.unusedVariables false
set_option linter.unusedSectionVars false
set_option maxRecDepth 100000
set_option maxHeartbeats 4000000
set_option synthInstance.maxSize 2000
set_option synthInstance.maxHeartbeats 400000
namespace Go.Proofs.YteimplkdcjapdaaGreatDoor
open Go.RowKit
def zjX:Tr:=.s [(0,.raw [(1000005,.dat 60 2 [.h 0,.h 1,.h 2,.k (.int .i64 1),.h 3,.k (.slice none 0 0)] 4)] 1)] (.z (.ret false (.o (.g [kI 3,kI 0,4])) []))
theorem zjr {w0:World} (e:Xp) (n:Int) (r:Xp) (hr:Xp.mk 3 0 [e,numX n]=r):Fun (KN w0) Tryz.prog 32 [.o (.g [pI e.op,pI e.n,pLs cE e.l]),.o (.c (pI n))] (.o (.g [pI r.op,pI r.n,pLs cE r.l])):=by
 refine tfn w0 32 ⟨[.o (.g [0,1,2]),3],[],[],0,0⟩ ⟨4,[sI n,.ls 3 cE kE e.l,sI e.n,sI e.op],[],[]⟩ zjX (by kernel_rfl) ?_
 obtain ⟨v1,e1⟩:=LX (([e,(Xp.mk (1:Int) n [])]:List Xp))
 refine rx [.ls 3 cE kE v1] [] [] (fun t u w=>⟨e_dat (c:=cE) (l:=([e,(Xp.mk (1:Int) n [])]:List Xp)) (ps:=(pI e.op::pI e.n::pLs cE e.l::pV (.int .i64 1)::pI n::pV (.slice none 0 0)::[])) (qs:=(pI e.op::pI e.n::pLs cE e.l::pI (Xp.mk (1:Int) n []).op::pI (Xp.mk (1:Int) n []).n::pLs cE ((Xp.mk (1:Int) n []).l)::[])) (by rw [e1];rfl) rfl rfl ((flatE _).trans rfl) (pimps (fun _ _ _ h=>h) <| pimps (fun _ _ _ h=>h) <| pimps (fun _ _ _ h=>h) <| pimps (fun _ _ _ h=>h) <| pimps (fun _ _ _ h=>h) <| pimps (nil_X) <| ze) rfl,trivial⟩) ?_
 intro hc
 refine Fun.fin (r:=.o (.g [pV (.int .i64 3),pV (.int .i64 0),pLs cE v1])) (zc (hc)) (fun v W D h=>?_)
 have r0:r=(Xp.mk (3:Int) (0:Int) v1):=by
  (rw [← hr];simp_all [numX])
 rw [r0];exact h
end Go.Proofs.YteimplkdcjapdaaGreatDoor
set_option synthInstance.maxSize 2000
set_option synthInstance.maxHeartbeats 400000
namespace Go.Proofs.YteimplkdcjapdaaGreatDoor
open Go.RowKit
theorem zd {l:List (List Int)} {v:List Sb} {k:Nat} {x:Sb} {b:List Stm} {w:List Int} (e:progX l=v) (h:v[k]?=some x) (hk:(0:Int)=k) (e2:[1]=w) (hb:putP w x.2.2=b):b.length≤9∧∀s∈b,Gs 0 s:=by
 subst e e2 hb
 have hm:=zhb h hk
 exact ⟨Nat.le_trans zn5 hm.1,zqz (fun s hs=>(hm.2 s hs).1) (by omega)⟩
theorem zl3 {l:List Sb} {args:List Int} (h:zD l=0):(runP l args (0,0,0)).1.length<9223372036854775808:=by
 cases l with
 | nil=>cases h
 | cons x r =>
  by_cases ha:x.2.1=args.length
  ·rw [zqB h (x:=x) rfl ha];exact Nat.lt_of_le_of_lt zp8 (by omega)
  ·unfold runP
   rw [zdt h (by decide +kernel) (x:=x) rfl,if_pos ha]
   show 0<9223372036854775808
   omega
theorem zl8 {a b:List Mov} (e:a=b):sameF a b 0=true:=decide_eq_true (by rw [e])
end Go.Proofs.YteimplkdcjapdaaGreatDoor
set_option synthInstance.maxSize 2000
set_option synthInstance.maxHeartbeats 400000
namespace Go.Proofs.YteimplkdcjapdaaGreatDoor
open Go.RowKit
theorem mv_at {l:List Xp} {k:Nat} {x:Xp} (h:l[k]?=some x) (b:Vec) (kind:Int):mvL b kind k (l.drop k)=mvE b kind k x::mvL b kind (k+1) (l.drop (k+1)):=by
 obtain ⟨h1,rfl⟩:=List.getElem?_eq_some_iff.1 h
 rw [List.drop_eq_getElem_cons h1,mvL]
theorem zqk {l:List Stm} {k:Nat} {x:Stm} (h:l[k]?=some x) (f:Stm→Stm):(l.drop k).map f=f x::(l.drop (k+1)).map f:=by
 obtain ⟨h1,rfl⟩:=List.getElem?_eq_some_iff.1 h
 rw [List.drop_eq_getElem_cons h1,List.map_cons]
theorem zo0 {b:Vec} {k m:Nat} {x j q:Int} {l:List Int} (el:[b.1,b.2.1,b.2.2]=l) (h:l[m]?=some x) (e:j.tmod 3=q) (hq:q=m) (hj:j=k):cmpV b k=x:=by
 subst el hj
 rw [Int.tmod_eq_emod_of_nonneg (by omega)] at e
 obtain rfl:m=k%3:=by omega
 unfold cmpV
 have h3:k%3=0∨k%3=1∨k%3=2:=by omega
 rcases h3 with h3 | h3 | h3<;>(rw [h3] at h ⊢;exact Option.some.inj h)
theorem zo1 {b:Vec} {j q:Int} {l:List Int} (el:[b.1,b.2.1,b.2.2]=l) (e:j.tmod 3=q) (hj:0≤j):∃(n:Nat) (x:Int),q=n∧l[n]?=some x:=by
 subst el
 rw [Int.tmod_eq_emod_of_nonneg hj] at e
 have h3:q=0∨q=1∨q=2:=by omega
 rcases h3 with rfl | rfl | rfl
 ·exact ⟨0,_,rfl,rfl⟩
 ·exact ⟨1,_,rfl,rfl⟩
 ·exact ⟨2,_,rfl,rfl⟩
theorem by_of {a b c x y z:Int} {v:Vec} (e1:a.tmod 5=x) (e2:b.tmod 5=y) (e3:c.tmod 5=z) (e:(x,y,z)=v):By v:=by
 subst e1 e2 e3 e
 have h1:=Int.tmod_lt_of_pos a (show (0:Int)<5 by omega)
 have h2:=Int.lt_tmod_of_pos a (show (0:Int)<5 by omega)
 have h3:=Int.tmod_lt_of_pos b (show (0:Int)<5 by omega)
 have h4:=Int.lt_tmod_of_pos b (show (0:Int)<5 by omega)
 have h5:=Int.tmod_lt_of_pos c (show (0:Int)<5 by omega)
 have h6:=Int.lt_tmod_of_pos c (show (0:Int)<5 by omega)
 exact ⟨⟨by dsimp only;omega,by dsimp only;omega⟩,⟨by dsimp only;omega,by dsimp only;omega⟩,by dsimp only;omega,by dsimp only;omega⟩
theorem sh_at {b:Vec} {l l2:List Mov} {n m:Nat} {i:Int} {x y:Mov} (hO:l2=l.map (shM b)) (h:l[n]?=some x) (h2:l2[m]?=some y) (e:i=n) (e2:i=m):shM b x=y:=by
 obtain rfl:n=m:=by omega
 rw [hO,List.getElem?_map,h] at h2
 exact Option.some.inj h2
theorem ndec {p:Prop} [Decidable p] {v:Bool} (e:(!decide p)=v) (h:p):v=false:=by rw [← e,decide_eq_true h];rfl
theorem sh_y {b:Vec} {x:Mov} {u v w:Vec} (h:x.1=3) (e1:addV x.2.1 b=u) (e2:addV x.2.2.1 b=v) (e3:addV x.2.2.2.1 b=w):(x.1,u,v,w,x.2.2.2.2)=shM b x:=by
 subst e1 e2 e3
 unfold shM
 rw [if_pos h]
theorem sh_n {b:Vec} {x:Mov} {u v:Vec} (h:¬ x.1=3) (e1:addV x.2.1 b=u) (e2:addV x.2.2.1 b=v):(x.1,u,v,x.2.2.2.1,x.2.2.2.2)=shM b x:=by
 subst e1 e2
 unfold shM
 rw [if_neg h]
def preN (a:Int) (l:List Stm):Nat:=(a%((l.length:Int)+1)).toNat
theorem zY {a u v w q:Int} {l:List Stm} (e1:IntKind.i64.wrap a=u) (e2:(l.length:Int)=v) (e3:IntKind.i64.wrap (v+1)=w) (e4:u.tmod w=q) (h:0≤a∧a<256) (hl:l.length≤9):(q=(preN a l:Int)∧preN a l≤l.length)∧w≠0:=by
 subst e1 e2 e3 e4
 rw [wri (by omega),wri (by omega),Int.tmod_eq_emod_of_nonneg h.1]
 have h1:=Int.emod_nonneg a (show (l.length:Int)+1≠0 by omega)
 have h2:=Int.emod_lt_of_pos a (show (0:Int)<(l.length:Int)+1 by omega)
 unfold preN
 exact ⟨⟨by omega,by omega⟩,by omega⟩
theorem zlR {v w:Int} {l:List Stm} (e2:(l.length:Int)=v) (e3:IntKind.i64.wrap (v+1)=w) (hl:l.length≤9):w≠0:=by
 subst e2 e3
 rw [wri (by omega)]
 omega
theorem zl4 {b:Vec} {l o2:List Stm} {p1 p2:List Sb} {m1 m2:List Mov} {k1 k2:Int} {q1 q2:Bool} (hb:By b) (hl:l.length≤9∧∀x∈l,Gs 0 x) (e18:mainX l=p1) (eO:l.map (mvS b)=o2) (e23:mainX o2=p2) (e19:(runP p1 [] (0,0,0)).1=m1) (e20:(runP p1 [] (0,0,0)).2=k1) (e24:(runP p2 [] b).1=m2) (e25:(runP p2 [] b).2=k2) (e28:(k1 == 0)=q1) (h29:q1=true) (e30:(k2 == 0)=q2) (h31:q2=true):m2=m1.map (shM b):=by
 subst e18 eO e23 e19 e20 e24 e25
 exact zsi hb hl.2 (by omega) (by simpa using e28.trans h29) (by simpa using e30.trans h31)
theorem q8 {a:Int} {l u:List Stm} {n:Nat} {p1 p2:List Sb} {m1 m2:List Mov} {k1 k2 z:Int} {q1:Bool} (hl:l.length≤9∧∀x∈l,Gs 0 x) (e18:mainX l=p1) (e19:(runP p1 [] (0,0,0)).1=m1) (e20:(runP p1 [] (0,0,0)).2=k1) (e28:(k1 == 0)=q1) (h29:q1=true) (hz:z=(preN a l:Int)) (hn:z=(n:Int)) (hc:∀x∈l.take (preN a l),x.1≠4) (e49:l.take n=u) (e51:mainX u=p2) (e52:(runP p2 [] (0,0,0)).1=m2) (e53:(runP p2 [] (0,0,0)).2=k2):k2=0∧m2 <+: m1:=by
 obtain rfl:n=preN a l:=by omega
 subst e18 e49 e51 e19 e20 e52 e53
 exact zqD hl.2 (by omega) _ hc (by simpa using e28.trans h29)
theorem qJ {l u:List Stm} {n:Nat} {p:List Sb} (hl:l.length≤9∧∀x∈l,Gs 0 x) (e49:l.take n=u) (e51:mainX u=p):zD p=0∧SbW p:=by
 subst e49 e51
 exact zbr (fun x hx=>hl.2 x (List.mem_of_mem_take hx)) (Nat.le_trans (List.length_take_le' _ _) (by omega))
theorem zlv {l:List Stm} {k:Nat} {x:Stm} (h:l[k]?=some x) (h4:¬ x.1=4) (hs:¬ ∀y∈l.drop k,y.1≠4):¬ ∀y∈l.drop (k+1),y.1≠4:=fun hc=>hs fun y hy=>by
 obtain ⟨h1,rfl⟩:=List.getElem?_eq_some_iff.1 h
 rw [List.drop_eq_getElem_cons h1] at hy
 rcases List.mem_cons.1 hy with rfl | hy
 ·exact h4
 ·exact hc y hy
theorem zd4 {a q:Int} {l u:List Stm} {n:Nat} (hq:q=(preN a l:Int)) (hn:q=(n:Int)) (e:l.take n=u):u=l.take (preN a l):=by
 obtain rfl:n=preN a l:=by omega
 exact e.symm
theorem zje {a b c:List Mov} {z:Int} {n:Nat} (h:a <+: b) (e:(a.length:Int)=z) (e2:z=(n:Int)) (e3:b.take n=c):sameF a c 0=true:=by
 obtain rfl:n=a.length:=by omega
 exact zl8 ((List.prefix_iff_eq_take.1 h).trans e3)
def zhn:List Atom:=[.sl 2 4,.sl 4 (.o (.c (.p 0 0))),.sl 6 (.o (.c (.k (.bool false)))),.sl 7 (.o (.c (.k (.bool true)))),.sl 8 17,.sl 9 (.o (.c (.gr 901))),.sl 11 (.o (.c (.p 5003 0))),.sl 12 (.o (.c (.p 5010 0))),.sl 45 17,.sl 46 18,.sl 47 19,.sl 57 25,.sl 58 26,.sl 59 27,.bx 0 26 [.h 8,.h 9,.h 10],.bx 5003 62 [.h 22,.h 23,.h 24,.h 25],.bx 5010 62 [.h 22,.h 23,.k (.string ⟨#[]⟩),.gr 902],.gl 901 62 4 1,.gl 902 60 3 3]
def psB_S:LoopS:=⟨10,zhn.map (tnA (jf (hZ 27 [kI 0])) (kf [0,1,2,2]) (kf [])),(.x 2),(drs [13] zhn)⟩
def psB_t:Tr:=.s [(0,.fb 20 true),(7000,.bin .lss 3 27 26)] (.b 28 (.s [(7002,.ia 58 60 3 25 27),(7003,.ld 60 3 29),(7009,.bin .neq 3 22 (kI 4))] (.b 33 (.s [(7012,.bin .lss 3 27 (kI 6))] (.b 34 (.s [(7016,.bin .lss 3 27 (kI 3))] (.b 35 (.s [(0,.raw [(1007030,.dat 3 3 [.h 8,.h 9,.h 10] 36)] 1),(7032,.dv .rem 3 27 (kI 3)),(7033,.ia 24 3 1 36 37),(7034,.ld 3 0 38),(7035,.call 32 [.o (.g [30,31,32]),39] (.o (.g 3))),(0,.gh ⟨1000014,[.gn 1],[],[]⟩ 0),(0,.gh ⟨14,[.bx 5010 62 [.h 22,.h 23,.k (.string ⟨#[]⟩),.gr 902]],[.bx 5010 62 [.h 22,.h 23,.k (.string ⟨#[]⟩),.gr 902],.bx 5010 62 [.h 22,.h 23,.k (.string ⟨#[]⟩),.h 43]],[]⟩ 1),(0,.raw [(1007040,.dat 60 1 [.h 40,.h 41,.h 42] 44)] 1),(0,.raw [(1007041,.app 60 3 902 3 4 44 [] false)] 0),(7044,.bin .add 3 27 (kI 1))] (.z (.nx (hZ 27 [45]) [0,1,2,4] []))) (.s [(7020,.bin .eql 3 22 (kI 3))] (.b 36 (.s [(0,.raw [(1007030,.dat 3 3 [.h 8,.h 9,.h 10] 37)] 1),(7032,.dv .rem 3 27 (kI 3)),(7033,.ia 24 3 1 37 38),(7034,.ld 3 0 39),(7035,.call 32 [.o (.g [30,31,32]),40] (.o (.g 3))),(0,.gh ⟨1000014,[.gn 1],[],[]⟩ 0),(0,.gh ⟨14,[.bx 5010 62 [.h 22,.h 23,.k (.string ⟨#[]⟩),.gr 902]],[.bx 5010 62 [.h 22,.h 23,.k (.string ⟨#[]⟩),.gr 902],.bx 5010 62 [.h 22,.h 23,.k (.string ⟨#[]⟩),.h 44]],[]⟩ 1),(0,.raw [(1007040,.dat 60 1 [.h 41,.h 42,.h 43] 45)] 1),(0,.raw [(1007041,.app 60 3 902 3 4 45 [] false)] 0),(7044,.bin .add 3 27 (kI 1))] (.z (.nx (hZ 27 [46]) [0,1,2,4] []))) (.s [(0,.gh ⟨1000014,[.gn 1],[],[]⟩ 0),(0,.gh ⟨14,[.bx 5010 62 [.h 22,.h 23,.k (.string ⟨#[]⟩),.gr 902]],[.bx 5010 62 [.h 22,.h 23,.k (.string ⟨#[]⟩),.gr 902],.bx 5010 62 [.h 22,.h 23,.k (.string ⟨#[]⟩),.h 37]],[]⟩ 1),(0,.raw [(1007026,.dat 60 1 [.h 30,.h 31,.h 32] 38)] 1),(0,.raw [(1007027,.app 60 3 902 3 4 38 [] false)] 0),(7030,.bin .add 3 27 (kI 1))] (.z (.nx (hZ 27 [39]) [0,1,2,4] []))))))) (.s [(0,.gh ⟨1000014,[.gn 1],[],[]⟩ 0),(0,.gh ⟨14,[.bx 5010 62 [.h 22,.h 23,.k (.string ⟨#[]⟩),.gr 902]],[.bx 5010 62 [.h 22,.h 23,.k (.string ⟨#[]⟩),.gr 902],.bx 5010 62 [.h 22,.h 23,.k (.string ⟨#[]⟩),.h 35]],[]⟩ 1),(0,.raw [(1007026,.dat 60 1 [.h 30,.h 31,.h 32] 36)] 1),(0,.raw [(1007027,.app 60 3 902 3 4 36 [] false)] 0),(7030,.bin .add 3 27 (kI 1))] (.z (.nx (hZ 27 [37]) [0,1,2,4] []))))) (.s [(0,.gh ⟨1000014,[.gn 1],[],[]⟩ 0),(0,.gh ⟨14,[.bx 5010 62 [.h 22,.h 23,.k (.string ⟨#[]⟩),.gr 902]],[.bx 5010 62 [.h 22,.h 23,.k (.string ⟨#[]⟩),.gr 902],.bx 5010 62 [.h 22,.h 23,.k (.string ⟨#[]⟩),.h 34]],[]⟩ 1),(0,.raw [(1007026,.dat 60 1 [.h 30,.h 31,.h 32] 35)] 1),(0,.raw [(1007027,.app 60 3 902 3 4 35 [] false)] 0),(7030,.bin .add 3 27 (kI 1))] (.z (.nx (hZ 27 [36]) [0,1,2,4] []))))) (.z (.xt (.x 2) (hZ 27 []) [0,1,2,3] [])))
theorem zsb {w0:World} (l:(List (List Int))) (by_:Vec) (at_:Int) (v1:Int) (v2:Int) (v3:Int) (v4:Vec) (v5:(List (List Int))) (v7:(List Sb)) (n9:Nat) (x10:Sb) (v13:(List Int)) (v14:(List Stm)) (v17:Int) (i:Int) (o:(List Stm)) (v501:Bool) (n503:Nat) (x504:Stm) (v507:Int) (h502:v501=true) (p2:(List Xp)) (hx:x504.2.2.2.length≤1000) (hlen2:(x504.2.2.2.length:Int)=v507) (hO2:mvL v4 x504.1 0 x504.2.2.2=p2):LpH (KN w0) Tryz.prog 6 ⟨ntOf Tryz.prog 6,[],[]⟩ psB_S 1 ⟨27,[sI v507,.ls 3 cE kE x504.2.2.2,sS x504.2.2.1,sI x504.2.1,sI x504.1,.p (kSt x504),sB v501,sI i,sI v17,.ls 4 cSt kSt v14,.ls 1 cI kIc v13,.ls 4 cSt kSt x10.2.2,.p ((kSb x10).drop 2),.p (kSb x10),.ls 3 cSb kSb v7,.ls 1 cLI kLI v5,sI v4.2.2,sI v4.2.1,sI v4.1,sI v3,sI v2,sI v1,.v (.int .u8 at_),sI by_.2.2,sI by_.2.1,sI by_.1,.ls 1 cLI kLI l],[pG cSt ([]:List Stm),pG cSt o,pG cE ([]:List Xp),pG cE p2],[]⟩:=by
 refine zi _ ⟨zhn,psB_S,(28,4,0),(27,4,0),7000⟩ (T:=Int×(List Xp)) (fun t=>⟨28,[sI t.1,sI v507,.ls 3 cE kE x504.2.2.2,sS x504.2.2.1,sI x504.2.1,sI x504.1,.p (kSt x504),sB v501,sI i,sI v17,.ls 4 cSt kSt v14,.ls 1 cI kIc v13,.ls 4 cSt kSt x10.2.2,.p ((kSb x10).drop 2),.p (kSb x10),.ls 3 cSb kSb v7,.ls 1 cLI kLI v5,sI v4.2.2,sI v4.2.1,sI v4.1,sI v3,sI v2,sI v1,.v (.int .u8 at_),sI by_.2.2,sI by_.2.1,sI by_.1,.ls 1 cLI kLI l],[pG cSt ([]:List Stm),pG cSt o,pG cE ([]:List Xp),pG cE t.2],[]⟩) (fun (j,p)=>∃k:Nat,j=(k:Int)∧k≤x504.2.2.2.length∧p.length=k∧p++mvL v4 x504.1 k (x504.2.2.2.drop k)=p2) (fun (j,p)=>((x504.2.2.2.length:Int) - j).toNat) ((0:Int),([]:List Xp)) (hZ 27 [kI 0]) [0,1,2,2] [] psB_t mixed ⟨0,rfl,Nat.zero_le _,rfl,hO2⟩ rfl rfl rfl rfl (fun _=>rfl) rfl rfl (by kernel_rfl) ?_
 rintro ⟨j,p⟩ hJ
 dsimp only at hJ ⊢
 obtain ⟨k,hi,hk,ho,hs⟩:=hJ
 refine ai h502 ?_
 intro v1001 e1001
 refine ai (fun h1002=>?_) fun h1002=>?_
 ·
  have dh1002:=LD e1001 h1002
  refine ai (by (have hz:=hlen2;exact ⟨k,_,hi,List.getElem?_eq_getElem (by omega)⟩)) fun n1003 x1004 s1005 s1006=>?_
  intro v1007 e1007
  refine ai (fun h1008=>?_) fun h1008=>?_
  ·
   intro v1009 e1009
   refine ai (fun h1010=>?_) fun h1010=>?_
   ·
    intro v1011 e1011
    refine ai (fun h1012=>?_) fun h1012=>?_
    ·
     obtain ⟨v1013,e1013⟩:=LX (([v4.1,v4.2.1,v4.2.2]:List Int))
     refine rx [.ls 1 cI kIc v1013] [] [] (fun t u w=>⟨e_dat (c:=cI) (l:=([v4.1,v4.2.1,v4.2.2]:List Int)) (ps:=(pI v4.1::pI v4.2.1::pI v4.2.2::[])) (qs:=(pI v4.1::pI v4.2.1::pI v4.2.2::[])) (by rw [e1013];rfl) rfl rfl rfl (pimps (fun _ _ _ h=>h) <| pimps (fun _ _ _ h=>h) <| pimps (fun _ _ _ h=>h) <| ze) rfl,trivial⟩) ?_
     refine ai (by decide) fun v1014 e1014=>?_
     refine ai (by exact zo1 e1013 e1014 (by omega)) fun n1015 x1016 s1017 s1018=>?_
     obtain ⟨v1019,e1019⟩:=LX (Xp.mk 3 0 [x1004,numX x1016])
     refine cx (.o (.g [sI v1019.op,sI v1019.n,.ls 3 cE kE v1019.l])) (zjr x1004 x1016 v1019 e1019) rfl ?_
     refine rx [] [] [] (fun t u w _=>qA) ?_
     refine rx [.q (pCkR (KN w0))] [] [] (fun t u w _=>qr (i:=3) (ls:=[.h 22,.h 23,.k (.string ⟨#[]⟩),.gr 902]) rfl) ?_
     obtain ⟨v1020,e1020⟩:=LX (([v1019]:List Xp))
     refine rx [.ls 3 cE kE v1020] [] [] (fun t u w=>⟨e_dat (c:=cE) (l:=([v1019]:List Xp)) (ps:=(pI v1019.op::pI v1019.n::pLs cE v1019.l::[])) (qs:=(pI v1019.op::pI v1019.n::pLs cE v1019.l::[])) (by rw [e1020];rfl) rfl rfl ((flatE _).trans rfl) (pimps (fun _ _ _ h=>h) <| pimps (fun _ _ _ h=>h) <| pimps (fun _ _ _ h=>h) <| ze) rfl,trivial⟩) ?_
     obtain ⟨v1021,e1021⟩:=LX (p++v1020)
     have s1022:(p.length+v1020.length)*3≤1099511627776:=by (have hq:=hx;rw [← e1020];simp only [List.length_singleton];omega)
     refine rx [] [pG cE v1021] [] (fun t u w=>⟨zV (c:=cE) (zz rfl) qu rfl (by rw [e1021];rfl) rfl s1022,trivial⟩) ?_
     intro v1023 e1023
     have dh1008:=bne_iff_ne.1 (e1007.trans h1008)
     have dh1010:=LD e1009 h1010
     have dh1012:=LD e1011 h1012
     refine nxl (v1023,v1021) ?_ ?_ rfl
     any_goals dsimp only
     all_goals (have hz:=hlen2;have hkn:n1003=k:=(by omega);subst hkn;have hq:=hx;rw [mv_at s1006,show mvE v4 x504.1 n1003 x1004=v1019 from (if_pos (by omega)).trans (by rw [zo0 e1013 s1018 e1014 s1017 hi];exact e1019)] at hs;have hlt:n1003<x504.2.2.2.length:=(List.getElem?_eq_some_iff.1 s1006).1;have x3:v1023=((n1003+1:Nat):Int):=(by rw [← e1023,hi,wri (by omega)];omega))
     ·show ((x504.2.2.2.length:Int) - v1023).toNat<((x504.2.2.2.length:Int) - j).toNat
      omega
     ·exact ⟨n1003+1,x3,by omega,by rw [← e1021,← e1020,List.length_append,ho];rfl,by rw [← e1021,← e1020,List.append_assoc];exact hs⟩
    ·
     intro v1013 e1013
     refine ai (fun h1014=>?_) fun h1014=>?_
     ·
      obtain ⟨v1015,e1015⟩:=LX (([v4.1,v4.2.1,v4.2.2]:List Int))
      refine rx [.ls 1 cI kIc v1015] [] [] (fun t u w=>⟨e_dat (c:=cI) (l:=([v4.1,v4.2.1,v4.2.2]:List Int)) (ps:=(pI v4.1::pI v4.2.1::pI v4.2.2::[])) (qs:=(pI v4.1::pI v4.2.1::pI v4.2.2::[])) (by rw [e1015];rfl) rfl rfl rfl (pimps (fun _ _ _ h=>h) <| pimps (fun _ _ _ h=>h) <| pimps (fun _ _ _ h=>h) <| ze) rfl,trivial⟩) ?_
      refine ai (by decide) fun v1016 e1016=>?_
      refine ai (by exact zo1 e1015 e1016 (by omega)) fun n1017 x1018 s1019 s1020=>?_
      obtain ⟨v1021,e1021⟩:=LX (Xp.mk 3 0 [x1004,numX x1018])
      refine cx (.o (.g [sI v1021.op,sI v1021.n,.ls 3 cE kE v1021.l])) (zjr x1004 x1018 v1021 e1021) rfl ?_
      refine rx [] [] [] (fun t u w _=>qA) ?_
      refine rx [.q (pCkR (KN w0))] [] [] (fun t u w _=>qr (i:=3) (ls:=[.h 22,.h 23,.k (.string ⟨#[]⟩),.gr 902]) rfl) ?_
      obtain ⟨v1022,e1022⟩:=LX (([v1021]:List Xp))
      refine rx [.ls 3 cE kE v1022] [] [] (fun t u w=>⟨e_dat (c:=cE) (l:=([v1021]:List Xp)) (ps:=(pI v1021.op::pI v1021.n::pLs cE v1021.l::[])) (qs:=(pI v1021.op::pI v1021.n::pLs cE v1021.l::[])) (by rw [e1022];rfl) rfl rfl ((flatE _).trans rfl) (pimps (fun _ _ _ h=>h) <| pimps (fun _ _ _ h=>h) <| pimps (fun _ _ _ h=>h) <| ze) rfl,trivial⟩) ?_
      obtain ⟨v1023,e1023⟩:=LX (p++v1022)
      have s1024:(p.length+v1022.length)*3≤1099511627776:=by (have hq:=hx;rw [← e1022];simp only [List.length_singleton];omega)
      refine rx [] [pG cE v1023] [] (fun t u w=>⟨zV (c:=cE) (zz rfl) qu rfl (by rw [e1023];rfl) rfl s1024,trivial⟩) ?_
      intro v1025 e1025
      have dh1008:=bne_iff_ne.1 (e1007.trans h1008)
      have dh1010:=LD e1009 h1010
      have dh1012:=LE e1011 h1012
      have dh1014:=eq_of_beq (e1013.trans h1014)
      refine nxl (v1025,v1023) ?_ ?_ rfl
      any_goals dsimp only
      all_goals (have hz:=hlen2;have hkn:n1003=k:=(by omega);subst hkn;have hq:=hx;rw [mv_at s1006,show mvE v4 x504.1 n1003 x1004=v1021 from (if_pos (by omega)).trans (by rw [zo0 e1015 s1020 e1016 s1019 hi];exact e1021)] at hs;have hlt:n1003<x504.2.2.2.length:=(List.getElem?_eq_some_iff.1 s1006).1;have x3:v1025=((n1003+1:Nat):Int):=(by rw [← e1025,hi,wri (by omega)];omega))
      ·show ((x504.2.2.2.length:Int) - v1025).toNat<((x504.2.2.2.length:Int) - j).toNat
       omega
      ·exact ⟨n1003+1,x3,by omega,by rw [← e1023,← e1022,List.length_append,ho];rfl,by rw [← e1023,← e1022,List.append_assoc];exact hs⟩
     ·
      refine rx [] [] [] (fun t u w _=>qA) ?_
      refine rx [.q (pCkR (KN w0))] [] [] (fun t u w _=>qr (i:=3) (ls:=[.h 22,.h 23,.k (.string ⟨#[]⟩),.gr 902]) rfl) ?_
      obtain ⟨v1015,e1015⟩:=LX (([x1004]:List Xp))
      refine rx [.ls 3 cE kE v1015] [] [] (fun t u w=>⟨e_dat (c:=cE) (l:=([x1004]:List Xp)) (ps:=(pI x1004.op::pI x1004.n::pLs cE x1004.l::[])) (qs:=(pI x1004.op::pI x1004.n::pLs cE x1004.l::[])) (by rw [e1015];rfl) rfl rfl ((flatE _).trans rfl) (pimps (fun _ _ _ h=>h) <| pimps (fun _ _ _ h=>h) <| pimps (fun _ _ _ h=>h) <| ze) rfl,trivial⟩) ?_
      obtain ⟨v1016,e1016⟩:=LX (p++v1015)
      have s1017:(p.length+v1015.length)*3≤1099511627776:=by (have hq:=hx;rw [← e1015];simp only [List.length_singleton];omega)
      refine rx [] [pG cE v1016] [] (fun t u w=>⟨zV (c:=cE) (zz rfl) qu rfl (by rw [e1016];rfl) rfl s1017,trivial⟩) ?_
      intro v1018 e1018
      have dh1008:=bne_iff_ne.1 (e1007.trans h1008)
      have dh1010:=LD e1009 h1010
      have dh1012:=LE e1011 h1012
      have dh1014:=ne_of_beq_false (e1013.trans h1014)
      refine nxl (v1018,v1016) ?_ ?_ rfl
      any_goals dsimp only
      all_goals (have hz:=hlen2;have hkn:n1003=k:=(by omega);subst hkn;have hq:=hx;rw [mv_at s1006,show mvE v4 x504.1 n1003 x1004=x1004 from if_neg (by omega)] at hs;have hlt:n1003<x504.2.2.2.length:=(List.getElem?_eq_some_iff.1 s1006).1;have x3:v1018=((n1003+1:Nat):Int):=(by rw [← e1018,hi,wri (by omega)];omega))
      ·show ((x504.2.2.2.length:Int) - v1018).toNat<((x504.2.2.2.length:Int) - j).toNat
       omega
      ·exact ⟨n1003+1,x3,by omega,by rw [← e1016,← e1015,List.length_append,ho];rfl,by rw [← e1016,← e1015,List.append_assoc];exact hs⟩
   ·
    refine rx [] [] [] (fun t u w _=>qA) ?_
    refine rx [.q (pCkR (KN w0))] [] [] (fun t u w _=>qr (i:=3) (ls:=[.h 22,.h 23,.k (.string ⟨#[]⟩),.gr 902]) rfl) ?_
    obtain ⟨v1011,e1011⟩:=LX (([x1004]:List Xp))
    refine rx [.ls 3 cE kE v1011] [] [] (fun t u w=>⟨e_dat (c:=cE) (l:=([x1004]:List Xp)) (ps:=(pI x1004.op::pI x1004.n::pLs cE x1004.l::[])) (qs:=(pI x1004.op::pI x1004.n::pLs cE x1004.l::[])) (by rw [e1011];rfl) rfl rfl ((flatE _).trans rfl) (pimps (fun _ _ _ h=>h) <| pimps (fun _ _ _ h=>h) <| pimps (fun _ _ _ h=>h) <| ze) rfl,trivial⟩) ?_
    obtain ⟨v1012,e1012⟩:=LX (p++v1011)
    have s1013:(p.length+v1011.length)*3≤1099511627776:=by (have hq:=hx;rw [← e1011];simp only [List.length_singleton];omega)
    refine rx [] [pG cE v1012] [] (fun t u w=>⟨zV (c:=cE) (zz rfl) qu rfl (by rw [e1012];rfl) rfl s1013,trivial⟩) ?_
    intro v1014 e1014
    have dh1008:=bne_iff_ne.1 (e1007.trans h1008)
    have dh1010:=LE e1009 h1010
    refine nxl (v1014,v1012) ?_ ?_ rfl
    any_goals dsimp only
    all_goals (have hz:=hlen2;have hkn:n1003=k:=(by omega);subst hkn;have hq:=hx;rw [mv_at s1006,show mvE v4 x504.1 n1003 x1004=x1004 from if_neg (by omega)] at hs;have hlt:n1003<x504.2.2.2.length:=(List.getElem?_eq_some_iff.1 s1006).1;have x3:v1014=((n1003+1:Nat):Int):=(by rw [← e1014,hi,wri (by omega)];omega))
    ·show ((x504.2.2.2.length:Int) - v1014).toNat<((x504.2.2.2.length:Int) - j).toNat
     omega
    ·exact ⟨n1003+1,x3,by omega,by rw [← e1012,← e1011,List.length_append,ho];rfl,by rw [← e1012,← e1011,List.append_assoc];exact hs⟩
  ·
   refine rx [] [] [] (fun t u w _=>qA) ?_
   refine rx [.q (pCkR (KN w0))] [] [] (fun t u w _=>qr (i:=3) (ls:=[.h 22,.h 23,.k (.string ⟨#[]⟩),.gr 902]) rfl) ?_
   obtain ⟨v1009,e1009⟩:=LX (([x1004]:List Xp))
   refine rx [.ls 3 cE kE v1009] [] [] (fun t u w=>⟨e_dat (c:=cE) (l:=([x1004]:List Xp)) (ps:=(pI x1004.op::pI x1004.n::pLs cE x1004.l::[])) (qs:=(pI x1004.op::pI x1004.n::pLs cE x1004.l::[])) (by rw [e1009];rfl) rfl rfl ((flatE _).trans rfl) (pimps (fun _ _ _ h=>h) <| pimps (fun _ _ _ h=>h) <| pimps (fun _ _ _ h=>h) <| ze) rfl,trivial⟩) ?_
   obtain ⟨v1010,e1010⟩:=LX (p++v1009)
   have s1011:(p.length+v1009.length)*3≤1099511627776:=by (have hq:=hx;rw [← e1009];simp only [List.length_singleton];omega)
   refine rx [] [pG cE v1010] [] (fun t u w=>⟨zV (c:=cE) (zz rfl) qu rfl (by rw [e1010];rfl) rfl s1011,trivial⟩) ?_
   intro v1012 e1012
   have dh1008:=bne_eq_false_iff_eq.1 (e1007.trans h1008)
   refine nxl (v1012,v1010) ?_ ?_ rfl
   any_goals dsimp only
   all_goals (have hz:=hlen2;have hkn:n1003=k:=(by omega);subst hkn;have hq:=hx;rw [mv_at s1006,show mvE v4 x504.1 n1003 x1004=x1004 from if_neg (by omega)] at hs;have hlt:n1003<x504.2.2.2.length:=(List.getElem?_eq_some_iff.1 s1006).1;have x3:v1012=((n1003+1:Nat):Int):=(by rw [← e1012,hi,wri (by omega)];omega))
   ·show ((x504.2.2.2.length:Int) - v1012).toNat<((x504.2.2.2.length:Int) - j).toNat
    omega
   ·exact ⟨n1003+1,x3,by omega,by rw [← e1010,← e1009,List.length_append,ho];rfl,by rw [← e1010,← e1009,List.append_assoc];exact hs⟩
 ·
  have dh1002:=LE e1001 h1002
  have hq:((p)=p2)∧True:=by
   refine ⟨?_,trivial⟩
   all_goals (have hz:=hlen2;have hkl:k=x504.2.2.2.length:=(by omega);rw [hkl,List.drop_length,mvL,List.append_nil] at hs;exact hs)
  obtain ⟨q0,-⟩:=hq
  rw [← q0]
  rfl
def zhm:List Atom:=[.sl 2 4,.sl 4 (.o (.c (.p 0 0))),.sl 6 (.o (.c (.k (.bool false)))),.sl 7 (.o (.c (.k (.bool true)))),.sl 8 17,.sl 9 (.o (.c (.gr 901))),.sl 45 17,.sl 46 18,.sl 47 19,.bx 0 26 [.h 8,.h 9,.h 10],.gl 901 62 4 1,.gn 902]
def psA_S:LoopS:=⟨6,zhm.map (tnA (jf (hZ 19 [kI 0])) (kf [0,0]) (kf [])),(.x 0),(drs [8] zhm)⟩
def psA_t:Tr:=.s [(5000,.bin .lss 3 19 18)] (.b 20 (.s [(5001,.ia 54 62 4 17 19),(5002,.ld 62 4 21),(0,.gh ⟨8,[.bx 5010 62 [.h 22,.h 23,.k (.string ⟨#[]⟩),.k (.slice none 0 0)],.gn 902],[.bx 5010 62 [.h 22,.h 23,.k (.string ⟨#[]⟩),.gr 902],.gl 902 60 3 2],[]⟩ 0),(5014,.ln 58 3 25),(0,.lp psB_S 1 0),(0,.gh ⟨1000016,[.gn 1],[],[]⟩ 0),(0,.gh ⟨16,[.gl 902 60 3 3,.bx 5010 62 [.h 22,.h 23,.k (.string ⟨#[]⟩),.gr 902]],[.bx 5010 62 [.h 22,.h 23,.k (.string ⟨#[]⟩),.h 27],.gn 902],[902]⟩ 1),(0,.raw [(1006018,.dat 62 1 [.h 22,.h 23,.k (.string ⟨#[]⟩),.h 27] 28)] 1),(0,.raw [(1006019,.app 62 4 901 1 4 28 [] false)] 0),(6021,.bin .add 3 19 (kI 1))] (.z (.nx (hZ 19 [29]) [0,4] []))) (.z (.xt (.x 0) (hZ 19 []) [0,1] [])))
theorem zsa {w0:World} (l:(List (List Int))) (by_:Vec) (at_:Int) (v1:Int) (v2:Int) (v3:Int) (v4:Vec) (v5:(List (List Int))) (v7:(List Sb)) (n9:Nat) (x10:Sb) (v13:(List Int)) (v14:(List Stm)) (v17:Int) (o2:(List Stm)) (hlen:(v14.length:Int)=v17) (hl1:v14.length≤9) (hE:∀s∈v14,Gs 0 s) (hO:v14.map (mvS v4)=o2):LpH (KN w0) Tryz.prog 6 ⟨ntOf Tryz.prog 6,[],[]⟩ psA_S 0 ⟨19,[sI v17,.ls 4 cSt kSt v14,.ls 1 cI kIc v13,.ls 4 cSt kSt x10.2.2,.p ((kSb x10).drop 2),.p (kSb x10),.ls 3 cSb kSb v7,.ls 1 cLI kLI v5,sI v4.2.2,sI v4.2.1,sI v4.1,sI v3,sI v2,sI v1,.v (.int .u8 at_),sI by_.2.2,sI by_.2.1,sI by_.1,.ls 1 cLI kLI l],[pG cSt ([]:List Stm),pG cSt o2],[]⟩:=by
 refine zi _ ⟨zhm,psA_S,(20,2,0),(19,2,0),5000⟩ (T:=Int×(List Stm)) (fun t=>⟨20,[sI t.1,sI v17,.ls 4 cSt kSt v14,.ls 1 cI kIc v13,.ls 4 cSt kSt x10.2.2,.p ((kSb x10).drop 2),.p (kSb x10),.ls 3 cSb kSb v7,.ls 1 cLI kLI v5,sI v4.2.2,sI v4.2.1,sI v4.1,sI v3,sI v2,sI v1,.v (.int .u8 at_),sI by_.2.2,sI by_.2.1,sI by_.1,.ls 1 cLI kLI l],[pG cSt ([]:List Stm),pG cSt t.2],[]⟩) (fun (i,o)=>∃k:Nat,i=(k:Int)∧k≤v14.length∧o.length≤k∧o++(v14.drop k).map (mvS v4)=o2) (fun (i,o)=>((v14.length:Int) - i).toNat) ((0:Int),([]:List Stm)) (hZ 19 [kI 0]) [0,0] [] psA_t mixed ⟨0,rfl,Nat.zero_le _,Nat.le_refl _,hO⟩ rfl rfl rfl rfl (fun _=>rfl) rfl rfl (by kernel_rfl) ?_
 rintro ⟨i,o⟩ hJ
 dsimp only at hJ ⊢
 obtain ⟨k,hi,hk,ho,hs⟩:=hJ
 intro v501 e501
 refine ai (fun h502=>?_) fun h502=>?_
 ·
  have dh502:=LD e501 h502
  refine ai (by (have hz:=hlen;exact ⟨k,_,hi,List.getElem?_eq_getElem (by omega)⟩)) fun n503 x504 s505 s506=>?_
  refine rx [] [pG cE ([]:List Xp)] [] (fun t u w _=>zG (c:=cE) (i:=3) (ls:=[.h 22,.h 23,.k (.string ⟨#[]⟩),.k (.slice none 0 0)]) rfl rfl) ?_
  intro v507 e507
  obtain ⟨p2,hO_psB⟩:∃(p2:(List Xp)),mvL v4 x504.1 0 x504.2.2.2=p2:=⟨_,rfl⟩
  refine rx [] [pG cE p2] [] (zsb l by_ at_ v1 v2 v3 v4 v5 v7 n9 x10 v13 v14 v17 i o v501 n503 x504 v507 h502 p2 (Nat.le_trans (zld (hE _ (List.mem_of_getElem? s506))) (by omega)) e507 hO_psB) ?_
  refine rx [] [] [] (fun t u w _=>qA) ?_
  refine rx [.ls 3 cE kE p2] [] [] (fun t u w hF=>zcj (c:=cE) (i:=3) (ls:=[.h 22,.h 23,.k (.string ⟨#[]⟩),.gr 902]) hF rfl (by decide) rfl qu (by decide) (zz rfl) rfl rfl) ?_
  obtain ⟨v508,e508⟩:=LX (([(x504.1,x504.2.1,[],p2)]:List Stm))
  refine rx [.ls 4 cSt kSt v508] [] [] (fun t u w=>⟨e_dat (c:=cSt) (l:=([(x504.1,x504.2.1,[],p2)]:List Stm)) (ps:=(pI x504.1::pI x504.2.1::pV (.string ⟨#[]⟩)::pLs cE p2::[])) (qs:=(pI (x504.1,x504.2.1,[],p2).1::pI (x504.1,x504.2.1,[],p2).2.1::pS (x504.1,x504.2.1,[],p2).2.2.1::pLs cE ((x504.1,x504.2.1,[],p2).2.2.2)::[])) (by rw [e508];rfl) rfl rfl rfl (pimps (fun _ _ _ h=>h) <| pimps (fun _ _ _ h=>h) <| pimps (fun _ _ _ h=>h) <| pimps (fun _ _ _ h=>h) <| ze) rfl,trivial⟩) ?_
  obtain ⟨v509,e509⟩:=LX (o++v508)
  have s510:(o.length+v508.length)*4≤1099511627776:=by (rw [← e508];simp only [List.length_singleton];omega)
  refine rx [] [pG cSt v509] [] (fun t u w=>⟨zV (c:=cSt) z8 (fun _=>rfl) rfl (by rw [e509];rfl) rfl s510,trivial⟩) ?_
  intro v511 e511
  refine nxl (v511,v509) ?_ ?_ rfl
  any_goals dsimp only
  all_goals (have hz:=hlen;have hkn:n503=k:=(by omega);subst hkn;rw [zqk s506,show mvS v4 x504=(x504.1,x504.2.1,[],p2) from (by unfold mvS;rw [hO_psB])] at hs;have hlt:n503<v14.length:=(List.getElem?_eq_some_iff.1 s506).1;have x3:v511=((n503+1:Nat):Int):=(by rw [← e511,hi,wri (by omega)];omega))
  ·show ((v14.length:Int) - v511).toNat<((v14.length:Int) - i).toNat
   omega
  ·exact ⟨n503+1,x3,by omega,by rw [← e509,← e508,List.length_append];simp only [List.length_singleton];omega,by rw [← e509,← e508,List.append_assoc];exact hs⟩
 ·
  have dh502:=LE e501 h502
  have hq:((o)=o2)∧True:=by
   refine ⟨?_,trivial⟩
   all_goals (have hz:=hlen;have hkl:k=v14.length:=(by omega);rw [hkl,List.drop_length,List.map_nil,List.append_nil] at hs;exact hs)
  obtain ⟨q0,-⟩:=hq
  rw [← q0]
  rfl
def zho:List Atom:=[.sl 2 4,.sl 4 (.o (.c (.p 0 0))),.sl 7 (.o (.c (.k (.bool true)))),.sl 8 17,.sl 15 20,.sl 16 21,.sl 17 24,.sl 130 20,.sl 131 31,.sl 132 32,.bx 0 26 [.h 8,.h 9,.h 10],.gn 902]
def psC_S:LoopS:=⟨24,zho.map (tnA (jf (hZ 32 [kI 0])) (kf [0,1]) (kf [])),(.x 4),(drs [9] zho)⟩
def psC_t:Tr:=.s [(0,.fb 26 true),(0,.fb 27 true),(0,.fb 30 false),(9000,.bin .lss 3 32 31)] (.b 33 (.s [(9002,.ia 36 45 11 20 32),(9003,.ld 45 11 34),(9010,.call 20 [.o (.g [36,37,38]),.o (.g [8,9,10])] (.o (.g 3))),(9014,.call 20 [.o (.g [39,40,41]),.o (.g [8,9,10])] (.o (.g 3))),(9021,.bin .eql 3 35 (kI 3))] (.b 52 (.s [(9025,.call 20 [.o (.g [42,43,44]),.o (.g [8,9,10])] (.o (.g 3))),(9031,.ia 36 45 11 24 32),(9032,.ld 45 11 56),(0,.raw [(1009033,.bin .neq 45 (.o (.g [35,46,47,48,49,50,51,53,54,55,45])) (.o (.g [57,58,59,60,61,62,63,64,65,66,67])) 68)] 1),(0,.fb 68 false),(9034,.bin .add 3 32 (kI 1))] (.z (.nx (hZ 32 [69]) [0,1] []))) (.s [(9025,.ia 36 45 11 24 32),(9026,.ld 45 11 53),(0,.raw [(1009027,.bin .neq 45 (.o (.g [35,46,47,48,49,50,51,42,43,44,45])) (.o (.g [54,55,56,57,58,59,60,61,62,63,64])) 65)] 1),(0,.fb 65 false),(9028,.bin .add 3 32 (kI 1))] (.z (.nx (hZ 32 [66]) [0,1] []))))) (.z (.xt (.x 4) (hZ 32 []) [0,1] [])))
theorem zsc {w0:World} (l:(List (List Int))) (by_:Vec) (at_:Int) (v1:Int) (v2:Int) (v3:Int) (v4:Vec) (v5:(List (List Int))) (v7:(List Sb)) (n9:Nat) (x10:Sb) (v13:(List Int)) (v14:(List Stm)) (v17:Int) (o2:(List Stm)) (v18:(List Sb)) (v19:(List Mov)) (v20:Int) (v23:(List Sb)) (v24:(List Mov)) (v25:Int) (v28:Bool) (v30:Bool) (v32:Int) (v33:Int) (v34:Bool) (v36:Int) (h29:v28=true) (h31:v30=true) (s35:v34=false) (hlen:(v19.length:Int)=v36) (hl1:v19.length<9223372036854775808) (hO:v24=v19.map (shM v4)):LpH (KN w0) Tryz.prog 6 ⟨ntOf Tryz.prog 6,[],[]⟩ psC_S 2 ⟨32,[sI v36,sB v34,sI v33,sI v32,sB v30,sB v28,sI v25,.ls 11 cM kM v24,.ls 3 cSb kSb v23,.ls 4 cSt kSt o2,sI v20,.ls 11 cM kM v19,.ls 3 cSb kSb v18,sI v17,.ls 4 cSt kSt v14,.ls 1 cI kIc v13,.ls 4 cSt kSt x10.2.2,.p ((kSb x10).drop 2),.p (kSb x10),.ls 3 cSb kSb v7,.ls 1 cLI kLI v5,sI v4.2.2,sI v4.2.1,sI v4.1,sI v3,sI v2,sI v1,.v (.int .u8 at_),sI by_.2.2,sI by_.2.1,sI by_.1,.ls 1 cLI kLI l],[pG cSt ([]:List Stm),pG cSt o2],[]⟩:=by
 refine zi _ ⟨zho,psC_S,(33,2,0),(32,2,0),9000⟩ (T:=Int) (fun t=>⟨33,[sI t,sI v36,sB v34,sI v33,sI v32,sB v30,sB v28,sI v25,.ls 11 cM kM v24,.ls 3 cSb kSb v23,.ls 4 cSt kSt o2,sI v20,.ls 11 cM kM v19,.ls 3 cSb kSb v18,sI v17,.ls 4 cSt kSt v14,.ls 1 cI kIc v13,.ls 4 cSt kSt x10.2.2,.p ((kSb x10).drop 2),.p (kSb x10),.ls 3 cSb kSb v7,.ls 1 cLI kLI v5,sI v4.2.2,sI v4.2.1,sI v4.1,sI v3,sI v2,sI v1,.v (.int .u8 at_),sI by_.2.2,sI by_.2.1,sI by_.1,.ls 1 cLI kLI l],[pG cSt ([]:List Stm),pG cSt o2],[]⟩) (fun i=>∃k:Nat,i=(k:Int)∧k≤v19.length) (fun i=>((v19.length:Int) - i).toNat) (0:Int) (hZ 32 [kI 0]) [0,1] [] psC_t mixed ⟨0,rfl,Nat.zero_le _⟩ rfl rfl rfl rfl (fun _=>rfl) rfl rfl (by kernel_rfl) ?_
 intro i hJ
 obtain ⟨k,hi,hk⟩:=hJ
 refine ai h29 ?_
 refine ai h31 ?_
 refine ai s35 ?_
 intro v501 e501
 refine ai (fun h502=>?_) fun h502=>?_
 ·
  have dh502:=LD e501 h502
  refine ai (by (have hz:=hlen;exact ⟨k,_,hi,List.getElem?_eq_getElem (by omega)⟩)) fun n503 x504 s505 s506=>?_
  obtain ⟨v507,e507⟩:=LX (addV x504.2.1 v4)
  refine cx (.o (.g [sI v507.1,sI v507.2.1,sI v507.2.2])) (t_add x504.2.1 v4 v507 e507) rfl ?_
  obtain ⟨v508,e508⟩:=LX (addV x504.2.2.1 v4)
  refine cx (.o (.g [sI v508.1,sI v508.2.1,sI v508.2.2])) (t_add x504.2.2.1 v4 v508 e508) rfl ?_
  intro v509 e509
  refine ai (fun h510=>?_) fun h510=>?_
  ·
   obtain ⟨v511,e511⟩:=LX (addV x504.2.2.2.1 v4)
   refine cx (.o (.g [sI v511.1,sI v511.2.1,sI v511.2.2])) (t_add x504.2.2.2.1 v4 v511 e511) rfl ?_
   refine ai (by exact ⟨n503,shM v4 x504,s505,by rw [hO,List.getElem?_map,s506];rfl⟩) fun n512 x513 s514 s515=>?_
   obtain ⟨v516,e516⟩:=LX (!decide ((x504.1,v507,v508,v511,x504.2.2.2.2)=x513))
   refine rx [sB v516] [] [] (fun t u w=>⟨e_eqM (x:=(x504.1,v507,v508,v511,x504.2.2.2.2)) (y:=x513) (neg:=true) ⟨(za rfl),(za rfl),(za rfl),(za rfl),(za rfl),(za rfl),(za rfl),(za rfl),(za rfl),(za rfl),(za rfl),trivial⟩ ⟨(za rfl),(za rfl),(za rfl),(za rfl),(za rfl),(za rfl),(za rfl),(za rfl),(za rfl),(za rfl),(za rfl),trivial⟩ (za (by rw [e516];rfl)),trivial⟩) ?_
   have dh510:=eq_of_beq (e509.trans h510)
   have s517:v516=false:=by (exact ndec e516 ((sh_y dh510 e507 e508 e511).trans (sh_at hO s506 s515 s505 s514)))
   refine ai s517 ?_
   intro v518 e518
   refine nxl v518 ?_ ?_ rfl
   all_goals (have hz:=hlen;have hkn:n503=k:=(by omega);subst hkn;have hlt:n503<v19.length:=(List.getElem?_eq_some_iff.1 s506).1;have x3:v518=((n503+1:Nat):Int):=(by rw [← e518,hi,wri (by omega)];omega))
   ·show ((v19.length:Int) - v518).toNat<((v19.length:Int) - i).toNat
    omega
   ·exact ⟨n503+1,x3,by omega⟩
  ·
   refine ai (by exact ⟨n503,shM v4 x504,s505,by rw [hO,List.getElem?_map,s506];rfl⟩) fun n511 x512 s513 s514=>?_
   obtain ⟨v515,e515⟩:=LX (!decide ((x504.1,v507,v508,x504.2.2.2.1,x504.2.2.2.2)=x512))
   refine rx [sB v515] [] [] (fun t u w=>⟨e_eqM (x:=(x504.1,v507,v508,x504.2.2.2.1,x504.2.2.2.2)) (y:=x512) (neg:=true) ⟨(za rfl),(za rfl),(za rfl),(za rfl),(za rfl),(za rfl),(za rfl),(za rfl),(za rfl),(za rfl),(za rfl),trivial⟩ ⟨(za rfl),(za rfl),(za rfl),(za rfl),(za rfl),(za rfl),(za rfl),(za rfl),(za rfl),(za rfl),(za rfl),trivial⟩ (za (by rw [e515];rfl)),trivial⟩) ?_
   have dh510:=ne_of_beq_false (e509.trans h510)
   have s516:v515=false:=by (exact ndec e515 ((sh_n dh510 e507 e508).trans (sh_at hO s506 s514 s505 s513)))
   refine ai s516 ?_
   intro v517 e517
   refine nxl v517 ?_ ?_ rfl
   all_goals (have hz:=hlen;have hkn:n503=k:=(by omega);subst hkn;have hlt:n503<v19.length:=(List.getElem?_eq_some_iff.1 s506).1;have x3:v517=((n503+1:Nat):Int):=(by rw [← e517,hi,wri (by omega)];omega))
   ·show ((v19.length:Int) - v517).toNat<((v19.length:Int) - i).toNat
    omega
   ·exact ⟨n503+1,x3,by omega⟩
 ·
  rfl
def zdk:List Atom:=[.sl 7 (.o (.c (.k (.bool true)))),.sl 8 17,.sl 15 20,.sl 16 21,.sl 21 35,.sl 170 36,.sl 171 37,.sl 172 38,.bx 0 26 [.h 8,.h 9,.h 10],.gn 902]
def zhs:LoopS:=⟨34,zdk.map (tnA (jf (hZ 38 [kI 0])) (kf [0,1]) (kf [])),.r,(drs [7] zdk)++[.sl 6 38]⟩
def zqw:Tr:=.s [(0,.fb 26 true),(0,.fb 27 true),(0,.fb 30 false),(11000,.bin .lss 3 38 37)] (.b 39 (.s [(11001,.ia 54 62 4 36 38),(11002,.ld 62 4 40),(11007,.bin .eql 3 41 (kI 4))] (.b 45 (.z (.xt .r (hZ 38 [kB true]) [0,1] [])) (.s [(11008,.bin .add 3 38 (kI 1))] (.z (.nx (hZ 38 [46]) [0,1] []))))) (.z .no))
theorem zn2 {w0:World} (l:(List (List Int))) (by_:Vec) (at_:Int) (v1:Int) (v2:Int) (v3:Int) (v4:Vec) (v5:(List (List Int))) (v7:(List Sb)) (n9:Nat) (x10:Sb) (v13:(List Int)) (v14:(List Stm)) (v17:Int) (o2:(List Stm)) (v18:(List Sb)) (v19:(List Mov)) (v20:Int) (v23:(List Sb)) (v24:(List Mov)) (v25:Int) (v28:Bool) (v30:Bool) (v32:Int) (v33:Int) (v34:Bool) (v36:Int) (v37:Int) (v38:Int) (v39:Int) (v40:Int) (n42:Nat) (v44:(List Stm)) (v46:Int) (h29:v28=true) (h31:v30=true) (s35:v34=false) (o:Bool) (hlen:(v44.length:Int)=v46) (hl1:v44.length≤9) (hO:¬ ∀x∈v44,x.1≠4) (ho:o=true):LpH (KN w0) Tryz.prog 6 ⟨ntOf Tryz.prog 6,[],[]⟩ zhs 3 ⟨39,[sB o,sI v46,.ls 4 cSt kSt v44,sI v40,sI v39,sI v38,sI v37,sI v36,sB v34,sI v33,sI v32,sB v30,sB v28,sI v25,.ls 11 cM kM v24,.ls 3 cSb kSb v23,.ls 4 cSt kSt o2,sI v20,.ls 11 cM kM v19,.ls 3 cSb kSb v18,sI v17,.ls 4 cSt kSt v14,.ls 1 cI kIc v13,.ls 4 cSt kSt x10.2.2,.p ((kSb x10).drop 2),.p (kSb x10),.ls 3 cSb kSb v7,.ls 1 cLI kLI v5,sI v4.2.2,sI v4.2.1,sI v4.1,sI v3,sI v2,sI v1,.v (.int .u8 at_),sI by_.2.2,sI by_.2.1,sI by_.1,.ls 1 cLI kLI l],[pG cSt ([]:List Stm),pG cSt o2],[]⟩:=by
 refine zi _ ⟨zdk,zhs,(39,2,0),(39,2,0),11000⟩ (T:=Int) (fun t=>⟨39,[sI t,sI v46,.ls 4 cSt kSt v44,sI v40,sI v39,sI v38,sI v37,sI v36,sB v34,sI v33,sI v32,sB v30,sB v28,sI v25,.ls 11 cM kM v24,.ls 3 cSb kSb v23,.ls 4 cSt kSt o2,sI v20,.ls 11 cM kM v19,.ls 3 cSb kSb v18,sI v17,.ls 4 cSt kSt v14,.ls 1 cI kIc v13,.ls 4 cSt kSt x10.2.2,.p ((kSb x10).drop 2),.p (kSb x10),.ls 3 cSb kSb v7,.ls 1 cLI kLI v5,sI v4.2.2,sI v4.2.1,sI v4.1,sI v3,sI v2,sI v1,.v (.int .u8 at_),sI by_.2.2,sI by_.2.1,sI by_.1,.ls 1 cLI kLI l],[pG cSt ([]:List Stm),pG cSt o2],[]⟩) (fun i=>∃k:Nat,i=(k:Int)∧k≤v44.length∧¬ ∀y∈v44.drop k,y.1≠4) (fun i=>((v44.length:Int) - i).toNat) (0:Int) (hZ 38 [kI 0]) [0,1] [] zqw mixed ⟨0,rfl,Nat.zero_le _,hO⟩ rfl rfl rfl rfl (fun _=>rfl) rfl rfl (by kernel_rfl) ?_
 intro i hJ
 obtain ⟨k,hi,hk,hs⟩:=hJ
 refine ai h29 ?_
 refine ai h31 ?_
 refine ai s35 ?_
 intro v501 e501
 refine ai (fun h502=>?_) fun h502=>?_
 ·
  have dh502:=LD e501 h502
  refine ai (by (have hz:=hlen;exact ⟨k,_,hi,List.getElem?_eq_getElem (by omega)⟩)) fun n503 x504 s505 s506=>?_
  intro v507 e507
  refine ai (fun h508=>?_) fun h508=>?_
  ·
   have dh508:=eq_of_beq (e507.trans h508)
   have hq:((true)=o)∧True:=by
    refine ⟨?_,trivial⟩
    (have hz:=hlen;first | exact ho | exact ho.symm)
   obtain ⟨q0,-⟩:=hq
   rw [← q0]
   rfl
  ·
   intro v509 e509
   have dh508:=ne_of_beq_false (e507.trans h508)
   refine nxl v509 ?_ ?_ rfl
   all_goals (have hz:=hlen;have hkn:n503=k:=(by omega);subst hkn;have hlt:n503<v44.length:=(List.getElem?_eq_some_iff.1 s506).1;have x3:v509=((n503+1:Nat):Int):=(by rw [← e509,hi,wri (by omega)];omega))
   ·show ((v44.length:Int) - v509).toNat<((v44.length:Int) - i).toNat
    omega
   ·exact ⟨n503+1,x3,by omega,zlv s506 dh508 hs⟩
 ·
  have dh502:=LE e501 h502
  exfalso
  (have hz:=hlen;have hkl:k=v44.length:=(by omega);exact absurd (fun y hy=>by rw [hkl,List.drop_length] at hy;cases hy) hs)
def zdh:List Atom:=[.sl 7 (.o (.c (.k (.bool true)))),.sl 8 17,.sl 15 20,.sl 16 21,.sl 21 35,.sl 170 36,.sl 171 37,.sl 172 38,.bx 0 26 [.h 8,.h 9,.h 10],.gn 902]
def zhp:LoopS:=⟨34,zdh.map (tnA (jf (hZ 38 [kI 0])) (kf [0,1]) (kf [])),(.x 6),(drs [7] zdh)⟩
def zqt:Tr:=.s [(0,.fb 26 true),(0,.fb 27 true),(0,.fb 30 false),(11000,.bin .lss 3 38 37)] (.b 39 (.s [(11001,.ia 54 62 4 36 38),(11002,.ld 62 4 40),(11007,.bin .eql 3 41 (kI 4))] (.b 45 (.z .no) (.s [(11008,.bin .add 3 38 (kI 1))] (.z (.nx (hZ 38 [46]) [0,1] []))))) (.z (.xt (.x 6) (hZ 38 []) [0,1] [])))
theorem znZ {w0:World} (l:(List (List Int))) (by_:Vec) (at_:Int) (v1:Int) (v2:Int) (v3:Int) (v4:Vec) (v5:(List (List Int))) (v7:(List Sb)) (n9:Nat) (x10:Sb) (v13:(List Int)) (v14:(List Stm)) (v17:Int) (o2:(List Stm)) (v18:(List Sb)) (v19:(List Mov)) (v20:Int) (v23:(List Sb)) (v24:(List Mov)) (v25:Int) (v28:Bool) (v30:Bool) (v32:Int) (v33:Int) (v34:Bool) (v36:Int) (v37:Int) (v38:Int) (v39:Int) (v40:Int) (n42:Nat) (v44:(List Stm)) (v46:Int) (h29:v28=true) (h31:v30=true) (s35:v34=false) (hlen:(v44.length:Int)=v46) (hl1:v44.length≤9) (hO:∀x∈v44,x.1≠4):LpH (KN w0) Tryz.prog 6 ⟨ntOf Tryz.prog 6,[],[]⟩ zhp 3 ⟨38,[sI v46,.ls 4 cSt kSt v44,sI v40,sI v39,sI v38,sI v37,sI v36,sB v34,sI v33,sI v32,sB v30,sB v28,sI v25,.ls 11 cM kM v24,.ls 3 cSb kSb v23,.ls 4 cSt kSt o2,sI v20,.ls 11 cM kM v19,.ls 3 cSb kSb v18,sI v17,.ls 4 cSt kSt v14,.ls 1 cI kIc v13,.ls 4 cSt kSt x10.2.2,.p ((kSb x10).drop 2),.p (kSb x10),.ls 3 cSb kSb v7,.ls 1 cLI kLI v5,sI v4.2.2,sI v4.2.1,sI v4.1,sI v3,sI v2,sI v1,.v (.int .u8 at_),sI by_.2.2,sI by_.2.1,sI by_.1,.ls 1 cLI kLI l],[pG cSt ([]:List Stm),pG cSt o2],[]⟩:=by
 refine zi _ ⟨zdh,zhp,(39,2,0),(38,2,0),11000⟩ (T:=Int) (fun t=>⟨39,[sI t,sI v46,.ls 4 cSt kSt v44,sI v40,sI v39,sI v38,sI v37,sI v36,sB v34,sI v33,sI v32,sB v30,sB v28,sI v25,.ls 11 cM kM v24,.ls 3 cSb kSb v23,.ls 4 cSt kSt o2,sI v20,.ls 11 cM kM v19,.ls 3 cSb kSb v18,sI v17,.ls 4 cSt kSt v14,.ls 1 cI kIc v13,.ls 4 cSt kSt x10.2.2,.p ((kSb x10).drop 2),.p (kSb x10),.ls 3 cSb kSb v7,.ls 1 cLI kLI v5,sI v4.2.2,sI v4.2.1,sI v4.1,sI v3,sI v2,sI v1,.v (.int .u8 at_),sI by_.2.2,sI by_.2.1,sI by_.1,.ls 1 cLI kLI l],[pG cSt ([]:List Stm),pG cSt o2],[]⟩) (fun i=>∃k:Nat,i=(k:Int)∧k≤v44.length) (fun i=>((v44.length:Int) - i).toNat) (0:Int) (hZ 38 [kI 0]) [0,1] [] zqt mixed ⟨0,rfl,Nat.zero_le _⟩ rfl rfl rfl rfl (fun _=>rfl) rfl rfl (by kernel_rfl) ?_
 intro i hJ
 obtain ⟨k,hi,hk⟩:=hJ
 refine ai h29 ?_
 refine ai h31 ?_
 refine ai s35 ?_
 intro v501 e501
 refine ai (fun h502=>?_) fun h502=>?_
 ·
  have dh502:=LD e501 h502
  refine ai (by (have hz:=hlen;exact ⟨k,_,hi,List.getElem?_eq_getElem (by omega)⟩)) fun n503 x504 s505 s506=>?_
  intro v507 e507
  refine ai (fun h508=>?_) fun h508=>?_
  ·
   have dh508:=eq_of_beq (e507.trans h508)
   exfalso
   (have hz:=hlen;exact absurd dh508 (hO _ (List.mem_of_getElem? s506)))
  ·
   intro v509 e509
   have dh508:=ne_of_beq_false (e507.trans h508)
   refine nxl v509 ?_ ?_ rfl
   all_goals (have hz:=hlen;have hkn:n503=k:=(by omega);subst hkn;have hlt:n503<v44.length:=(List.getElem?_eq_some_iff.1 s506).1;have x3:v509=((n503+1:Nat):Int):=(by rw [← e509,hi,wri (by omega)];omega))
   ·show ((v44.length:Int) - v509).toNat<((v44.length:Int) - i).toNat
    omega
   ·exact ⟨n503+1,x3,by omega⟩
 ·
  rfl
def zdl:List Atom:=[.sl 7 (.o (.c (.k (.bool true)))),.sl 8 17,.sl 15 20,.sl 16 21,.sl 21 31,.sl 170 32,.sl 171 33,.sl 172 34,.bx 0 26 [.h 8,.h 9,.h 10],.gn 902]
def zht:LoopS:=⟨34,zdl.map (tnA (jf (hZ 34 [kI 0])) (kf [0,1]) (kf [])),.r,(drs [7] zdl)++[.sl 6 34]⟩
def zqx:Tr:=.s [(0,.fb 26 true),(0,.fb 27 false),(11000,.bin .lss 3 34 33)] (.b 35 (.s [(11001,.ia 54 62 4 32 34),(11002,.ld 62 4 36),(11007,.bin .eql 3 37 (kI 4))] (.b 41 (.z (.xt .r (hZ 34 [kB true]) [0,1] [])) (.s [(11008,.bin .add 3 34 (kI 1))] (.z (.nx (hZ 34 [42]) [0,1] []))))) (.z .no))
theorem zn3 {w0:World} (l:(List (List Int))) (by_:Vec) (at_:Int) (v1:Int) (v2:Int) (v3:Int) (v4:Vec) (v5:(List (List Int))) (v7:(List Sb)) (n9:Nat) (x10:Sb) (v13:(List Int)) (v14:(List Stm)) (v17:Int) (o2:(List Stm)) (v18:(List Sb)) (v19:(List Mov)) (v20:Int) (v23:(List Sb)) (v24:(List Mov)) (v25:Int) (v28:Bool) (v30:Bool) (v32:Int) (v33:Int) (v34:Int) (v35:Int) (n37:Nat) (v39:(List Stm)) (v41:Int) (h29:v28=true) (h31:v30=false) (o:Bool) (hlen:(v39.length:Int)=v41) (hl1:v39.length≤9) (hO:¬ ∀x∈v39,x.1≠4) (ho:o=true):LpH (KN w0) Tryz.prog 6 ⟨ntOf Tryz.prog 6,[],[]⟩ zht 3 ⟨35,[sB o,sI v41,.ls 4 cSt kSt v39,sI v35,sI v34,sI v33,sI v32,sB v30,sB v28,sI v25,.ls 11 cM kM v24,.ls 3 cSb kSb v23,.ls 4 cSt kSt o2,sI v20,.ls 11 cM kM v19,.ls 3 cSb kSb v18,sI v17,.ls 4 cSt kSt v14,.ls 1 cI kIc v13,.ls 4 cSt kSt x10.2.2,.p ((kSb x10).drop 2),.p (kSb x10),.ls 3 cSb kSb v7,.ls 1 cLI kLI v5,sI v4.2.2,sI v4.2.1,sI v4.1,sI v3,sI v2,sI v1,.v (.int .u8 at_),sI by_.2.2,sI by_.2.1,sI by_.1,.ls 1 cLI kLI l],[pG cSt ([]:List Stm),pG cSt o2],[]⟩:=by
 refine zi _ ⟨zdl,zht,(35,2,0),(35,2,0),11000⟩ (T:=Int) (fun t=>⟨35,[sI t,sI v41,.ls 4 cSt kSt v39,sI v35,sI v34,sI v33,sI v32,sB v30,sB v28,sI v25,.ls 11 cM kM v24,.ls 3 cSb kSb v23,.ls 4 cSt kSt o2,sI v20,.ls 11 cM kM v19,.ls 3 cSb kSb v18,sI v17,.ls 4 cSt kSt v14,.ls 1 cI kIc v13,.ls 4 cSt kSt x10.2.2,.p ((kSb x10).drop 2),.p (kSb x10),.ls 3 cSb kSb v7,.ls 1 cLI kLI v5,sI v4.2.2,sI v4.2.1,sI v4.1,sI v3,sI v2,sI v1,.v (.int .u8 at_),sI by_.2.2,sI by_.2.1,sI by_.1,.ls 1 cLI kLI l],[pG cSt ([]:List Stm),pG cSt o2],[]⟩) (fun i=>∃k:Nat,i=(k:Int)∧k≤v39.length∧¬ ∀y∈v39.drop k,y.1≠4) (fun i=>((v39.length:Int) - i).toNat) (0:Int) (hZ 34 [kI 0]) [0,1] [] zqx mixed ⟨0,rfl,Nat.zero_le _,hO⟩ rfl rfl rfl rfl (fun _=>rfl) rfl rfl (by kernel_rfl) ?_
 intro i hJ
 obtain ⟨k,hi,hk,hs⟩:=hJ
 refine ai h29 ?_
 refine ai h31 ?_
 intro v501 e501
 refine ai (fun h502=>?_) fun h502=>?_
 ·
  have dh502:=LD e501 h502
  refine ai (by (have hz:=hlen;exact ⟨k,_,hi,List.getElem?_eq_getElem (by omega)⟩)) fun n503 x504 s505 s506=>?_
  intro v507 e507
  refine ai (fun h508=>?_) fun h508=>?_
  ·
   have dh508:=eq_of_beq (e507.trans h508)
   have hq:((true)=o)∧True:=by
    refine ⟨?_,trivial⟩
    (have hz:=hlen;first | exact ho | exact ho.symm)
   obtain ⟨q0,-⟩:=hq
   rw [← q0]
   rfl
  ·
   intro v509 e509
   have dh508:=ne_of_beq_false (e507.trans h508)
   refine nxl v509 ?_ ?_ rfl
   all_goals (have hz:=hlen;have hkn:n503=k:=(by omega);subst hkn;have hlt:n503<v39.length:=(List.getElem?_eq_some_iff.1 s506).1;have x3:v509=((n503+1:Nat):Int):=(by rw [← e509,hi,wri (by omega)];omega))
   ·show ((v39.length:Int) - v509).toNat<((v39.length:Int) - i).toNat
    omega
   ·exact ⟨n503+1,x3,by omega,zlv s506 dh508 hs⟩
 ·
  have dh502:=LE e501 h502
  exfalso
  (have hz:=hlen;have hkl:k=v39.length:=(by omega);exact absurd (fun y hy=>by rw [hkl,List.drop_length] at hy;cases hy) hs)
def zdi:List Atom:=[.sl 7 (.o (.c (.k (.bool true)))),.sl 8 17,.sl 15 20,.sl 16 21,.sl 21 31,.sl 170 32,.sl 171 33,.sl 172 34,.bx 0 26 [.h 8,.h 9,.h 10],.gn 902]
def zhq:LoopS:=⟨34,zdi.map (tnA (jf (hZ 34 [kI 0])) (kf [0,1]) (kf [])),(.x 6),(drs [7] zdi)⟩
def zqu:Tr:=.s [(0,.fb 26 true),(0,.fb 27 false),(11000,.bin .lss 3 34 33)] (.b 35 (.s [(11001,.ia 54 62 4 32 34),(11002,.ld 62 4 36),(11007,.bin .eql 3 37 (kI 4))] (.b 41 (.z .no) (.s [(11008,.bin .add 3 34 (kI 1))] (.z (.nx (hZ 34 [42]) [0,1] []))))) (.z (.xt (.x 6) (hZ 34 []) [0,1] [])))
theorem zn0 {w0:World} (l:(List (List Int))) (by_:Vec) (at_:Int) (v1:Int) (v2:Int) (v3:Int) (v4:Vec) (v5:(List (List Int))) (v7:(List Sb)) (n9:Nat) (x10:Sb) (v13:(List Int)) (v14:(List Stm)) (v17:Int) (o2:(List Stm)) (v18:(List Sb)) (v19:(List Mov)) (v20:Int) (v23:(List Sb)) (v24:(List Mov)) (v25:Int) (v28:Bool) (v30:Bool) (v32:Int) (v33:Int) (v34:Int) (v35:Int) (n37:Nat) (v39:(List Stm)) (v41:Int) (h29:v28=true) (h31:v30=false) (hlen:(v39.length:Int)=v41) (hl1:v39.length≤9) (hO:∀x∈v39,x.1≠4):LpH (KN w0) Tryz.prog 6 ⟨ntOf Tryz.prog 6,[],[]⟩ zhq 3 ⟨34,[sI v41,.ls 4 cSt kSt v39,sI v35,sI v34,sI v33,sI v32,sB v30,sB v28,sI v25,.ls 11 cM kM v24,.ls 3 cSb kSb v23,.ls 4 cSt kSt o2,sI v20,.ls 11 cM kM v19,.ls 3 cSb kSb v18,sI v17,.ls 4 cSt kSt v14,.ls 1 cI kIc v13,.ls 4 cSt kSt x10.2.2,.p ((kSb x10).drop 2),.p (kSb x10),.ls 3 cSb kSb v7,.ls 1 cLI kLI v5,sI v4.2.2,sI v4.2.1,sI v4.1,sI v3,sI v2,sI v1,.v (.int .u8 at_),sI by_.2.2,sI by_.2.1,sI by_.1,.ls 1 cLI kLI l],[pG cSt ([]:List Stm),pG cSt o2],[]⟩:=by
 refine zi _ ⟨zdi,zhq,(35,2,0),(34,2,0),11000⟩ (T:=Int) (fun t=>⟨35,[sI t,sI v41,.ls 4 cSt kSt v39,sI v35,sI v34,sI v33,sI v32,sB v30,sB v28,sI v25,.ls 11 cM kM v24,.ls 3 cSb kSb v23,.ls 4 cSt kSt o2,sI v20,.ls 11 cM kM v19,.ls 3 cSb kSb v18,sI v17,.ls 4 cSt kSt v14,.ls 1 cI kIc v13,.ls 4 cSt kSt x10.2.2,.p ((kSb x10).drop 2),.p (kSb x10),.ls 3 cSb kSb v7,.ls 1 cLI kLI v5,sI v4.2.2,sI v4.2.1,sI v4.1,sI v3,sI v2,sI v1,.v (.int .u8 at_),sI by_.2.2,sI by_.2.1,sI by_.1,.ls 1 cLI kLI l],[pG cSt ([]:List Stm),pG cSt o2],[]⟩) (fun i=>∃k:Nat,i=(k:Int)∧k≤v39.length) (fun i=>((v39.length:Int) - i).toNat) (0:Int) (hZ 34 [kI 0]) [0,1] [] zqu mixed ⟨0,rfl,Nat.zero_le _⟩ rfl rfl rfl rfl (fun _=>rfl) rfl rfl (by kernel_rfl) ?_
 intro i hJ
 obtain ⟨k,hi,hk⟩:=hJ
 refine ai h29 ?_
 refine ai h31 ?_
 intro v501 e501
 refine ai (fun h502=>?_) fun h502=>?_
 ·
  have dh502:=LD e501 h502
  refine ai (by (have hz:=hlen;exact ⟨k,_,hi,List.getElem?_eq_getElem (by omega)⟩)) fun n503 x504 s505 s506=>?_
  intro v507 e507
  refine ai (fun h508=>?_) fun h508=>?_
  ·
   have dh508:=eq_of_beq (e507.trans h508)
   exfalso
   (have hz:=hlen;exact absurd dh508 (hO _ (List.mem_of_getElem? s506)))
  ·
   intro v509 e509
   have dh508:=ne_of_beq_false (e507.trans h508)
   refine nxl v509 ?_ ?_ rfl
   all_goals (have hz:=hlen;have hkn:n503=k:=(by omega);subst hkn;have hlt:n503<v39.length:=(List.getElem?_eq_some_iff.1 s506).1;have x3:v509=((n503+1:Nat):Int):=(by rw [← e509,hi,wri (by omega)];omega))
   ·show ((v39.length:Int) - v509).toNat<((v39.length:Int) - i).toNat
    omega
   ·exact ⟨n503+1,x3,by omega⟩
 ·
  rfl
def zdm:List Atom:=[.sl 7 (.o (.c (.k (.bool true)))),.sl 8 17,.sl 15 20,.sl 16 21,.sl 21 30,.sl 170 31,.sl 171 32,.sl 172 33,.bx 0 26 [.h 8,.h 9,.h 10],.gn 902]
def zhu:LoopS:=⟨34,zdm.map (tnA (jf (hZ 33 [kI 0])) (kf [0,1]) (kf [])),.r,(drs [7] zdm)++[.sl 6 33]⟩
def zqy:Tr:=.s [(0,.fb 26 false),(11000,.bin .lss 3 33 32)] (.b 34 (.s [(11001,.ia 54 62 4 31 33),(11002,.ld 62 4 35),(11007,.bin .eql 3 36 (kI 4))] (.b 40 (.z (.xt .r (hZ 33 [kB true]) [0,1] [])) (.s [(11008,.bin .add 3 33 (kI 1))] (.z (.nx (hZ 33 [41]) [0,1] []))))) (.z .no))
theorem zn4 {w0:World} (l:(List (List Int))) (by_:Vec) (at_:Int) (v1:Int) (v2:Int) (v3:Int) (v4:Vec) (v5:(List (List Int))) (v7:(List Sb)) (n9:Nat) (x10:Sb) (v13:(List Int)) (v14:(List Stm)) (v17:Int) (o2:(List Stm)) (v18:(List Sb)) (v19:(List Mov)) (v20:Int) (v23:(List Sb)) (v24:(List Mov)) (v25:Int) (v28:Bool) (v30:Int) (v31:Int) (v32:Int) (v33:Int) (n35:Nat) (v37:(List Stm)) (v39:Int) (h29:v28=false) (o:Bool) (hlen:(v37.length:Int)=v39) (hl1:v37.length≤9) (hO:¬ ∀x∈v37,x.1≠4) (ho:o=true):LpH (KN w0) Tryz.prog 6 ⟨ntOf Tryz.prog 6,[],[]⟩ zhu 3 ⟨34,[sB o,sI v39,.ls 4 cSt kSt v37,sI v33,sI v32,sI v31,sI v30,sB v28,sI v25,.ls 11 cM kM v24,.ls 3 cSb kSb v23,.ls 4 cSt kSt o2,sI v20,.ls 11 cM kM v19,.ls 3 cSb kSb v18,sI v17,.ls 4 cSt kSt v14,.ls 1 cI kIc v13,.ls 4 cSt kSt x10.2.2,.p ((kSb x10).drop 2),.p (kSb x10),.ls 3 cSb kSb v7,.ls 1 cLI kLI v5,sI v4.2.2,sI v4.2.1,sI v4.1,sI v3,sI v2,sI v1,.v (.int .u8 at_),sI by_.2.2,sI by_.2.1,sI by_.1,.ls 1 cLI kLI l],[pG cSt ([]:List Stm),pG cSt o2],[]⟩:=by
 refine zi _ ⟨zdm,zhu,(34,2,0),(34,2,0),11000⟩ (T:=Int) (fun t=>⟨34,[sI t,sI v39,.ls 4 cSt kSt v37,sI v33,sI v32,sI v31,sI v30,sB v28,sI v25,.ls 11 cM kM v24,.ls 3 cSb kSb v23,.ls 4 cSt kSt o2,sI v20,.ls 11 cM kM v19,.ls 3 cSb kSb v18,sI v17,.ls 4 cSt kSt v14,.ls 1 cI kIc v13,.ls 4 cSt kSt x10.2.2,.p ((kSb x10).drop 2),.p (kSb x10),.ls 3 cSb kSb v7,.ls 1 cLI kLI v5,sI v4.2.2,sI v4.2.1,sI v4.1,sI v3,sI v2,sI v1,.v (.int .u8 at_),sI by_.2.2,sI by_.2.1,sI by_.1,.ls 1 cLI kLI l],[pG cSt ([]:List Stm),pG cSt o2],[]⟩) (fun i=>∃k:Nat,i=(k:Int)∧k≤v37.length∧¬ ∀y∈v37.drop k,y.1≠4) (fun i=>((v37.length:Int) - i).toNat) (0:Int) (hZ 33 [kI 0]) [0,1] [] zqy mixed ⟨0,rfl,Nat.zero_le _,hO⟩ rfl rfl rfl rfl (fun _=>rfl) rfl rfl (by kernel_rfl) ?_
 intro i hJ
 obtain ⟨k,hi,hk,hs⟩:=hJ
 refine ai h29 ?_
 intro v501 e501
 refine ai (fun h502=>?_) fun h502=>?_
 ·
  have dh502:=LD e501 h502
  refine ai (by (have hz:=hlen;exact ⟨k,_,hi,List.getElem?_eq_getElem (by omega)⟩)) fun n503 x504 s505 s506=>?_
  intro v507 e507
  refine ai (fun h508=>?_) fun h508=>?_
  ·
   have dh508:=eq_of_beq (e507.trans h508)
   have hq:((true)=o)∧True:=by
    refine ⟨?_,trivial⟩
    (have hz:=hlen;first | exact ho | exact ho.symm)
   obtain ⟨q0,-⟩:=hq
   rw [← q0]
   rfl
  ·
   intro v509 e509
   have dh508:=ne_of_beq_false (e507.trans h508)
   refine nxl v509 ?_ ?_ rfl
   all_goals (have hz:=hlen;have hkn:n503=k:=(by omega);subst hkn;have hlt:n503<v37.length:=(List.getElem?_eq_some_iff.1 s506).1;have x3:v509=((n503+1:Nat):Int):=(by rw [← e509,hi,wri (by omega)];omega))
   ·show ((v37.length:Int) - v509).toNat<((v37.length:Int) - i).toNat
    omega
   ·exact ⟨n503+1,x3,by omega,zlv s506 dh508 hs⟩
 ·
  have dh502:=LE e501 h502
  exfalso
  (have hz:=hlen;have hkl:k=v37.length:=(by omega);exact absurd (fun y hy=>by rw [hkl,List.drop_length] at hy;cases hy) hs)
def zdj:List Atom:=[.sl 7 (.o (.c (.k (.bool true)))),.sl 8 17,.sl 15 20,.sl 16 21,.sl 21 30,.sl 170 31,.sl 171 32,.sl 172 33,.bx 0 26 [.h 8,.h 9,.h 10],.gn 902]
def zhr:LoopS:=⟨34,zdj.map (tnA (jf (hZ 33 [kI 0])) (kf [0,1]) (kf [])),(.x 6),(drs [7] zdj)⟩
def zqv:Tr:=.s [(0,.fb 26 false),(11000,.bin .lss 3 33 32)] (.b 34 (.s [(11001,.ia 54 62 4 31 33),(11002,.ld 62 4 35),(11007,.bin .eql 3 36 (kI 4))] (.b 40 (.z .no) (.s [(11008,.bin .add 3 33 (kI 1))] (.z (.nx (hZ 33 [41]) [0,1] []))))) (.z (.xt (.x 6) (hZ 33 []) [0,1] [])))
theorem zn1 {w0:World} (l:(List (List Int))) (by_:Vec) (at_:Int) (v1:Int) (v2:Int) (v3:Int) (v4:Vec) (v5:(List (List Int))) (v7:(List Sb)) (n9:Nat) (x10:Sb) (v13:(List Int)) (v14:(List Stm)) (v17:Int) (o2:(List Stm)) (v18:(List Sb)) (v19:(List Mov)) (v20:Int) (v23:(List Sb)) (v24:(List Mov)) (v25:Int) (v28:Bool) (v30:Int) (v31:Int) (v32:Int) (v33:Int) (n35:Nat) (v37:(List Stm)) (v39:Int) (h29:v28=false) (hlen:(v37.length:Int)=v39) (hl1:v37.length≤9) (hO:∀x∈v37,x.1≠4):LpH (KN w0) Tryz.prog 6 ⟨ntOf Tryz.prog 6,[],[]⟩ zhr 3 ⟨33,[sI v39,.ls 4 cSt kSt v37,sI v33,sI v32,sI v31,sI v30,sB v28,sI v25,.ls 11 cM kM v24,.ls 3 cSb kSb v23,.ls 4 cSt kSt o2,sI v20,.ls 11 cM kM v19,.ls 3 cSb kSb v18,sI v17,.ls 4 cSt kSt v14,.ls 1 cI kIc v13,.ls 4 cSt kSt x10.2.2,.p ((kSb x10).drop 2),.p (kSb x10),.ls 3 cSb kSb v7,.ls 1 cLI kLI v5,sI v4.2.2,sI v4.2.1,sI v4.1,sI v3,sI v2,sI v1,.v (.int .u8 at_),sI by_.2.2,sI by_.2.1,sI by_.1,.ls 1 cLI kLI l],[pG cSt ([]:List Stm),pG cSt o2],[]⟩:=by
 refine zi _ ⟨zdj,zhr,(34,2,0),(33,2,0),11000⟩ (T:=Int) (fun t=>⟨34,[sI t,sI v39,.ls 4 cSt kSt v37,sI v33,sI v32,sI v31,sI v30,sB v28,sI v25,.ls 11 cM kM v24,.ls 3 cSb kSb v23,.ls 4 cSt kSt o2,sI v20,.ls 11 cM kM v19,.ls 3 cSb kSb v18,sI v17,.ls 4 cSt kSt v14,.ls 1 cI kIc v13,.ls 4 cSt kSt x10.2.2,.p ((kSb x10).drop 2),.p (kSb x10),.ls 3 cSb kSb v7,.ls 1 cLI kLI v5,sI v4.2.2,sI v4.2.1,sI v4.1,sI v3,sI v2,sI v1,.v (.int .u8 at_),sI by_.2.2,sI by_.2.1,sI by_.1,.ls 1 cLI kLI l],[pG cSt ([]:List Stm),pG cSt o2],[]⟩) (fun i=>∃k:Nat,i=(k:Int)∧k≤v37.length) (fun i=>((v37.length:Int) - i).toNat) (0:Int) (hZ 33 [kI 0]) [0,1] [] zqv mixed ⟨0,rfl,Nat.zero_le _⟩ rfl rfl rfl rfl (fun _=>rfl) rfl rfl (by kernel_rfl) ?_
 intro i hJ
 obtain ⟨k,hi,hk⟩:=hJ
 refine ai h29 ?_
 intro v501 e501
 refine ai (fun h502=>?_) fun h502=>?_
 ·
  have dh502:=LD e501 h502
  refine ai (by (have hz:=hlen;exact ⟨k,_,hi,List.getElem?_eq_getElem (by omega)⟩)) fun n503 x504 s505 s506=>?_
  intro v507 e507
  refine ai (fun h508=>?_) fun h508=>?_
  ·
   have dh508:=eq_of_beq (e507.trans h508)
   exfalso
   (have hz:=hlen;exact absurd dh508 (hO _ (List.mem_of_getElem? s506)))
  ·
   intro v509 e509
   have dh508:=ne_of_beq_false (e507.trans h508)
   refine nxl v509 ?_ ?_ rfl
   all_goals (have hz:=hlen;have hkn:n503=k:=(by omega);subst hkn;have hlt:n503<v37.length:=(List.getElem?_eq_some_iff.1 s506).1;have x3:v509=((n503+1:Nat):Int):=(by rw [← e509,hi,wri (by omega)];omega))
   ·show ((v37.length:Int) - v509).toNat<((v37.length:Int) - i).toNat
    omega
   ·exact ⟨n503+1,x3,by omega⟩
 ·
  rfl
def zdK:Tr:=.s [(0,.raw [(1000002,.call ⟨9,[],[],.o (.c (.k (.bool true))),[]⟩)] 0),(6,.dv .rem 3 1 (kI 5)),(9,.dv .rem 3 2 (kI 5)),(12,.dv .rem 3 3 (kI 5)),(13,.call 21 [5,6,7] (.o (.g 3))),(16,.call 11 [0,LF (kI 9)] (.o .c)),(17,.call 10 [11] (.o .c)),(18,.ia 28 56 3 12 (kI 0)),(19,.fa 56 2 2 0 13),(20,.ld 54 0 14),(0,.raw [(1000021,.dat 3 1 [.k (.int .i64 1)] 16)] 1),(22,.call 28 [15,16] (.o .c)),(0,.gh ⟨4,[.sl 9 (.o (.c (.k (.slice none 0 0)))),.gn 901],[.sl 9 (.o (.c (.gr 901))),.gl 901 62 4 0],[]⟩ 0),(26,.ln 54 3 17),(0,.lp psA_S 0 0),(1029,.call 30 [17] (.o .c)),(1031,.call 16 [19,LF (.k (.slice none 0 0)),.o (.g [kI 0,kI 0,kI 0])] (.t [.c,.c])),(0,.gh ⟨18,.gl 901 62 4 1::[9].map (fun s=>.sl s (.o (.c (.gr 901)))),[9].map (fun s=>.sl s 22),[901]⟩ 1),(1038,.call 30 [22] (.o .c)),(1040,.call 16 [23,LF (.k (.slice none 0 0)),.o (.g [8,9,10])] (.t [.c,.c])),(1047,.bin .eql 37 21 (kI 0))] (.b 26 (.s [(1050,.bin .eql 37 25 (kI 0))] (.b 27 (.s [(1053,.ln 36 3 20),(1055,.ln 36 3 24),(1056,.bin .neq 3 28 29),(0,.fb 30 false),(1058,.ln 36 3 20),(0,.lp psC_S 2 0),(0,.raw [(1002061,.op (.cv 5 3) [4] [] 32)] 1),(2063,.ln 54 3 17),(2064,.bin .add 3 33 (kI 1)),(2065,.dv .rem 3 32 34),(0,.raw [(1002069,.op (.sc 54 false true false) [17,35] [] 36)] 1),(2070,.ln 54 3 36)] (.r (.s [(0,.lp zhp 3 0),(0,.raw [(1003074,.op (.sc 54 false true false) [17,35] [] 38)] 1),(3075,.call 30 [38] (.o .c)),(3077,.call 16 [39,LF (.k (.slice none 0 0)),.o (.g [kI 0,kI 0,kI 0])] (.t [.c,.c])),(3084,.bin .neq 37 41 (kI 0)),(0,.fb 42 false),(3087,.bin .neq 37 21 (kI 0)),(0,.fb 43 false),(3092,.ln 36 3 40),(3094,.ln 36 3 20),(3095,.bin .leq 3 44 45),(0,.fb 46 true),(3101,.ln 36 3 40),(0,.raw [(1003102,.op (.sc 36 false true false) [20,47] [] 48)] 1),(3103,.call 18 [40,48] (.o .c))] (.z (.ret false (49) []))) (.s [(0,.lp zhs 3 1)] (.z (.ret false (38) []))))) (.s [(0,.raw [(1001053,.op (.cv 5 3) [4] [] 28)] 1),(1055,.ln 54 3 17),(1056,.bin .add 3 29 (kI 1)),(1057,.dv .rem 3 28 30),(0,.raw [(1001061,.op (.sc 54 false true false) [17,31] [] 32)] 1),(1062,.ln 54 3 32)] (.r (.s [(0,.lp zhq 3 0),(0,.raw [(1002066,.op (.sc 54 false true false) [17,31] [] 34)] 1),(2067,.call 30 [34] (.o .c)),(2069,.call 16 [35,LF (.k (.slice none 0 0)),.o (.g [kI 0,kI 0,kI 0])] (.t [.c,.c])),(2076,.bin .neq 37 37 (kI 0)),(0,.fb 38 false),(2079,.bin .neq 37 21 (kI 0)),(0,.fb 39 false),(2084,.ln 36 3 36),(2086,.ln 36 3 20),(2087,.bin .leq 3 40 41),(0,.fb 42 true),(2093,.ln 36 3 36),(0,.raw [(1002094,.op (.sc 36 false true false) [20,43] [] 44)] 1),(2095,.call 18 [36,44] (.o .c))] (.z (.ret false (45) []))) (.s [(0,.lp zht 3 1)] (.z (.ret false (34) []))))))) (.s [(0,.raw [(1001053,.op (.cv 5 3) [4] [] 27)] 1),(1055,.ln 54 3 17),(1056,.bin .add 3 28 (kI 1)),(1057,.dv .rem 3 27 29),(0,.raw [(1001061,.op (.sc 54 false true false) [17,30] [] 31)] 1),(1062,.ln 54 3 31)] (.r (.s [(0,.lp zhr 3 0),(0,.raw [(1002066,.op (.sc 54 false true false) [17,30] [] 33)] 1),(2067,.call 30 [33] (.o .c)),(2069,.call 16 [34,LF (.k (.slice none 0 0)),.o (.g [kI 0,kI 0,kI 0])] (.t [.c,.c])),(2076,.bin .neq 37 36 (kI 0))] (.b 37 (.s [(2084,.bin .neq 37 21 (kI 0)),(0,.fb 38 true)] (.z (.ret false (LF (kB true)) []))) (.s [(2079,.bin .neq 37 21 (kI 0)),(0,.fb 38 true),(2084,.bin .neq 37 21 (kI 0)),(0,.fb 39 true)] (.z (.ret false (LF (kB true)) []))))) (.s [(0,.lp zhu 3 1)] (.z (.ret false (33) []))))))
theorem zgp {w0:World} (hL:LibP w0) (l:List (List Int)) (by_:Vec) (at_:Int) (ha:0≤at_∧at_<256):Fun (KN w0) Tryz.prog 6 [.o (.c (pLs cLI l)),.o (.g [pI by_.1,pI by_.2.1,pI by_.2.2]),.o (.c (pV (.int .u8 at_)))] (.o (.c (pB true))):=by
 refine tfn w0 6 ⟨[0,.o (.g [1,2,3]),4],[],[902,901],0,0⟩ ⟨5,[.v (.int .u8 at_),sI by_.2.2,sI by_.2.1,sI by_.1,.ls 1 cLI kLI l],[],[]⟩ zdK (by kernel_rfl) ?_
 refine rx [] [] [] (fun t u w=>⟨zE (zoy hL),trivial⟩) ?_
 refine ai (by decide) fun v1 e1=>?_
 refine ai (by decide) fun v2 e2=>?_
 refine ai (by decide) fun v3 e3=>?_
 obtain ⟨v4,e4⟩:=LX ((v1,v2,v3))
 refine cx (.o (.g [sI v4.1,sI v4.2.1,sI v4.2.2])) (qI v1 v2 v3 v4 e4) rfl ?_
 obtain ⟨v5,e5⟩:=LX (zlq l (9:Int))
 have s6:0≤(9:Int)∧(9:Int)≤100:=by omega
 refine cx (.o (.c (.ls 1 cLI kLI v5))) (zq4 l (9:Int) v5 e5 s6) rfl ?_
 obtain ⟨v7,e7⟩:=LX (progX v5)
 have s8:∀x∈v5,x.length≤100:=by (rw [← e5];exact znD)
 refine cx (.o (.c (.ls 3 cSb kSb v7))) (zsu v5 v7 e7 s8) rfl ?_
 refine ai (by exact ⟨0,([109,97,105,110],1,walkP (v5.take 9) (0,0,0)),rfl,by rw [← e7];rfl⟩) fun n9 x10 s11 s12=>?_
 obtain ⟨v13,e13⟩:=LX (([(1:Int)]:List Int))
 refine rx [.ls 1 cI kIc v13] [] [] (fun t u w=>⟨e_dat (c:=cI) (l:=([(1:Int)]:List Int)) (ps:=(pV (.int .i64 1)::[])) (qs:=(pI (1:Int)::[])) (by rw [e13];rfl) rfl rfl rfl (pimps (fun _ _ _ h=>h) <| ze) rfl,trivial⟩) ?_
 obtain ⟨v14,e14⟩:=LX (putP v13 x10.2.2)
 have s15:x10.2.2.length≤1000000:=by exact Nat.le_trans (zhb (l:=v5) (by rw [e7];exact s12) s11).1 (by omega)
 have s16:∀s∈x10.2.2,s.2.2.2.length≤1000∧∀e∈s.2.2.2,nodes e≤1000000:=by exact fun s hs=>((zhb (l:=v5) (by rw [e7];exact s12) s11).2 s hs).2
 refine cx (.o (.c (.ls 4 cSt kSt v14))) (t_put x10.2.2 v13 v14 e14 s15 s16) rfl ?_
 refine rx [] [pG cSt ([]:List Stm)] [] (fun t u w _=>zbT (c:=cSt) rfl) ?_
 intro v17 e17
 obtain ⟨o2,hO_psA⟩:∃(o2:(List Stm)),v14.map (mvS v4)=o2:=⟨_,rfl⟩
 refine rx [] [pG cSt o2] [] (zsa l by_ at_ v1 v2 v3 v4 v5 v7 n9 x10 v13 v14 v17  o2 e17 (zd e7 s12 s11 e13 e14).1 (zd e7 s12 s11 e13 e14).2 hO_psA) ?_
 obtain ⟨v18,e18⟩:=LX (mainX v14)
 refine cx (.o (.c (.ls 3 cSb kSb v18))) (zca v14 v18 e18) rfl ?_
 obtain ⟨v19,e19⟩:=LX ((runP v18 ([]:List Int) ((0:Int),(0:Int),(0:Int))).1)
 obtain ⟨v20,e20⟩:=LX ((runP v18 ([]:List Int) ((0:Int),(0:Int),(0:Int))).2)
 have s21:zD v18=0:=by (rw [← e18];exact (zbr (zd e7 s12 s11 e13 e14).2 (Nat.le_trans (zd e7 s12 s11 e13 e14).1 (by omega))).1)
 have s22:SbW v18:=by (rw [← e18];exact (zbr (zd e7 s12 s11 e13 e14).2 (Nat.le_trans (zd e7 s12 s11 e13 e14).1 (by omega))).2)
 refine cx (.t [.c (.ls 11 cM kM v19),.c (sI v20)]) (Fun.imp (as2:=[.o (.c (pLs cSb v18)),.o (.c (pV (.slice none 0 0))),.o (.g [pV (.int .i64 0),pV (.int .i64 0),pV (.int .i64 0)])]) (zdA hL v18 ([]:List Int) ((0:Int),(0:Int),(0:Int)) v19 v20 e19 e20 s21 s22) (zaN ⟨fun _ _ _ h=>h,fun _ _ _ h=>nil_I _ _ _ h,fun _ _ _ h=>h,trivial⟩) (fun _ _ _ h=>h)) rfl ?_
 refine rx [.ls 4 cSt kSt o2] [] [] (fun t u w _=>qS (c:=cSt) (fun _=>rfl) (by decide) z8 rfl rfl) ?_
 obtain ⟨v23,e23⟩:=LX (mainX o2)
 refine cx (.o (.c (.ls 3 cSb kSb v23))) (zca o2 v23 e23) rfl ?_
 obtain ⟨v24,e24⟩:=LX ((runP v23 ([]:List Int) v4).1)
 obtain ⟨v25,e25⟩:=LX ((runP v23 ([]:List Int) v4).2)
 have s26:zD v23=0:=by (rw [← e23,← hO_psA];exact (zhg (by_of e1 e2 e3 e4) (zd e7 s12 s11 e13 e14).2 (Nat.le_trans (zd e7 s12 s11 e13 e14).1 (by omega))).1)
 have s27:SbW v23:=by (rw [← e23,← hO_psA];exact (zhg (by_of e1 e2 e3 e4) (zd e7 s12 s11 e13 e14).2 (Nat.le_trans (zd e7 s12 s11 e13 e14).1 (by omega))).2)
 refine cx (.t [.c (.ls 11 cM kM v24),.c (sI v25)]) (Fun.imp (as2:=[.o (.c (pLs cSb v23)),.o (.c (pV (.slice none 0 0))),.o (.g [pI v4.1,pI v4.2.1,pI v4.2.2])]) (zdA hL v23 ([]:List Int) v4 v24 v25 e24 e25 s26 s27) (zaN ⟨fun _ _ _ h=>h,fun _ _ _ h=>nil_I _ _ _ h,fun _ _ _ h=>h,trivial⟩) (fun _ _ _ h=>h)) rfl ?_
 intro v28 e28
 refine ai (fun h29=>?_) fun h29=>?_
 ·
  intro v30 e30
  refine ai (fun h31=>?_) fun h31=>?_
  ·
   intro v32 e32 v33 e33 v34 e34
   have s35:v34=false:=by (rw [← e34,← e32,← e33,(zl4 (by_of e1 e2 e3 e4) (zd e7 s12 s11 e13 e14) e18 hO_psA e23 e19 e20 e24 e25 e28 h29 e30 h31),List.length_map];exact bne_self_eq_false _)
   refine ai s35 ?_
   intro v36 e36
   refine rx [] [] [] (zsc l by_ at_ v1 v2 v3 v4 v5 v7 n9 x10 v13 v14 v17 o2 v18 v19 v20 v23 v24 v25 v28 v30 v32 v33 v34 v36 h29 h31 s35  e36 (by rw [← e19];exact zl3 (by rw [← e18];exact (zbr (zd e7 s12 s11 e13 e14).2 (Nat.le_trans (zd e7 s12 s11 e13 e14).1 (by omega))).1)) (zl4 (by_of e1 e2 e3 e4) (zd e7 s12 s11 e13 e14) e18 hO_psA e23 e19 e20 e24 e25 e28 h29 e30 h31)) ?_
   obtain ⟨v37,e37⟩:=LX (IntKind.i64.wrap at_)
   refine rx [sI v37] [] [] (fun t u w=>⟨e_op1 (za rfl) (za rfl) (fun W=>by rw [← e37];exact r_cvi (by kernel_rfl) (by kernel_rfl) W),trivial⟩) ?_
   intro v38 e38 v39 e39
   have s41:v39≠0:=by exact zlR e38 e39 (zd e7 s12 s11 e13 e14).1
   refine ai s41 fun v40 e40=>?_
   obtain ⟨n42,s43⟩:∃(n42:Nat),v40=(n42:Int):=by exact ⟨_,(zY e37 e38 e39 e40 ha (zd e7 s12 s11 e13 e14).1).1.1⟩
   obtain ⟨v44,e44⟩:=LX (v14.take n42)
   have s45:n42≤v14.length:=by (have q:=(zY e37 e38 e39 e40 ha (zd e7 s12 s11 e13 e14).1).1;have q2:=s43;omega)
   refine rx [.ls 4 cSt kSt v44] [] [] (fun t u w=>⟨zak (E:=62) (z:=4) (fun _=>rfl) (by kernel_rfl) (by kernel_rfl) (zm rfl) (za rfl) s43 s45 (zm (by rw [e44];rfl)),trivial⟩) ?_
   intro v46 e46
   by_cases c34:∀x∈v14.take (preN at_ v14),x.1≠4
   ·
    refine Or.inl ?_
    refine rx [] [] [] (znZ l by_ at_ v1 v2 v3 v4 v5 v7 n9 x10 v13 v14 v17 o2 v18 v19 v20 v23 v24 v25 v28 v30 v32 v33 v34 v36 v37 v38 v39 v40 n42 v44 v46 h29 h31 s35  e46 (by rw [← e44];exact Nat.le_trans (List.length_take_le' _ _) (zd e7 s12 s11 e13 e14).1) (by rw [(zd4 (zY e37 e38 e39 e40 ha (zd e7 s12 s11 e13 e14).1).1.1 s43 e44)];exact c34)) ?_
    obtain ⟨n47,s48⟩:∃(n47:Nat),v40=(n47:Int):=by exact ⟨_,(zY e37 e38 e39 e40 ha (zd e7 s12 s11 e13 e14).1).1.1⟩
    obtain ⟨v49,e49⟩:=LX (v14.take n47)
    have s50:n47≤v14.length:=by (have q:=(zY e37 e38 e39 e40 ha (zd e7 s12 s11 e13 e14).1).1;have q2:=s48;omega)
    refine rx [.ls 4 cSt kSt v49] [] [] (fun t u w=>⟨zak (E:=62) (z:=4) (fun _=>rfl) (by kernel_rfl) (by kernel_rfl) (zm rfl) (za rfl) s48 s50 (zm (by rw [e49];rfl)),trivial⟩) ?_
    obtain ⟨v51,e51⟩:=LX (mainX v49)
    refine cx (.o (.c (.ls 3 cSb kSb v51))) (zca v49 v51 e51) rfl ?_
    obtain ⟨v52,e52⟩:=LX ((runP v51 ([]:List Int) ((0:Int),(0:Int),(0:Int))).1)
    obtain ⟨v53,e53⟩:=LX ((runP v51 ([]:List Int) ((0:Int),(0:Int),(0:Int))).2)
    have s54:zD v51=0:=by exact (qJ (zd e7 s12 s11 e13 e14) e49 e51).1
    have s55:SbW v51:=by exact (qJ (zd e7 s12 s11 e13 e14) e49 e51).2
    refine cx (.t [.c (.ls 11 cM kM v52),.c (sI v53)]) (Fun.imp (as2:=[.o (.c (pLs cSb v51)),.o (.c (pV (.slice none 0 0))),.o (.g [pV (.int .i64 0),pV (.int .i64 0),pV (.int .i64 0)])]) (zdA hL v51 ([]:List Int) ((0:Int),(0:Int),(0:Int)) v52 v53 e52 e53 s54 s55) (zaN ⟨fun _ _ _ h=>h,fun _ _ _ h=>nil_I _ _ _ h,fun _ _ _ h=>h,trivial⟩) (fun _ _ _ h=>h)) rfl ?_
    intro v56 e56
    have s57:v56=false:=by (rw [← e56,(q8 (zd e7 s12 s11 e13 e14) e18 e19 e20 e28 h29 (zY e37 e38 e39 e40 ha (zd e7 s12 s11 e13 e14).1).1.1 s48 c34 e49 e51 e52 e53).1];rfl)
    refine ai s57 ?_
    intro v58 e58
    have s59:v58=false:=by exact e58.symm.trans ((congrArg Bool.not (e28.trans h29)).trans rfl)
    refine ai s59 ?_
    intro v60 e60 v61 e61 v62 e62
    have s63:v62=true:=by (rw [← e62];exact decide_eq_true (by have q:=(q8 (zd e7 s12 s11 e13 e14) e18 e19 e20 e28 h29 (zY e37 e38 e39 e40 ha (zd e7 s12 s11 e13 e14).1).1.1 s48 c34 e49 e51 e52 e53).2.length_le;have q2:=e60;have q3:=e61;omega))
    refine ai s63 ?_
    intro v64 e64
    obtain ⟨n65,s66⟩:∃(n65:Nat),v64=(n65:Int):=by exact ⟨_,e64.symm⟩
    obtain ⟨v67,e67⟩:=LX (v19.take n65)
    have s68:n65≤v19.length:=by (have q:=(q8 (zd e7 s12 s11 e13 e14) e18 e19 e20 e28 h29 (zY e37 e38 e39 e40 ha (zd e7 s12 s11 e13 e14).1).1.1 s48 c34 e49 e51 e52 e53).2.length_le;have q2:=s66;have q3:=e64;omega)
    refine rx [.ls 11 cM kM v67] [] [] (fun t u w=>⟨zak (E:=45) (z:=11) (fun _=>rfl) (by kernel_rfl) (by kernel_rfl) (zm rfl) (za rfl) s66 s68 (zm (by rw [e67];rfl)),trivial⟩) ?_
    obtain ⟨v69,e69⟩:=LX (sameF v52 v67 0)
    have s70:v52.length<9223372036854775808:=by (rw [← e52];exact zl3 (qJ (zd e7 s12 s11 e13 e14) e49 e51).1)
    refine cx (.o (.c (sB v69))) (zpN v52 v67 v69 e69 s70) rfl ?_
    intro hc
    refine Fun.fin (r:=.o (.c (pB v69))) (zc (hc)) (fun v W D h=>?_)
    have r0:true=v69:=by
     (have q:true=v69:=((zje (q8 (zd e7 s12 s11 e13 e14) e18 e19 e20 e28 h29 (zY e37 e38 e39 e40 ha (zd e7 s12 s11 e13 e14).1).1.1 s48 c34 e49 e51 e52 e53).2 e64 s66 e67).symm.trans e69);first | exact q | exact q.symm)
    rw [r0];exact h
   ·
    refine Or.inr ?_
    obtain ⟨o,hO_psD2a⟩:∃(o:Bool),o=true:=⟨_,rfl⟩
    refine rx [sB o] [] [] (zn2 l by_ at_ v1 v2 v3 v4 v5 v7 n9 x10 v13 v14 v17 o2 v18 v19 v20 v23 v24 v25 v28 v30 v32 v33 v34 v36 v37 v38 v39 v40 n42 v44 v46 h29 h31 s35 o e46 (by rw [← e44];exact Nat.le_trans (List.length_take_le' _ _) (zd e7 s12 s11 e13 e14).1) (by rw [(zd4 (zY e37 e38 e39 e40 ha (zd e7 s12 s11 e13 e14).1).1.1 s43 e44)];exact c34) hO_psD2a) ?_
    intro hc
    refine Fun.fin (r:=.o (.c (pB o))) (zc (hc)) (fun v W D h=>?_)
    have r0:true=o:=by
     first | exact hO_psD2a | exact hO_psD2a.symm | exact hO_psD2b | exact hO_psD2b.symm | exact hO_psD2c | exact hO_psD2c.symm
    rw [r0];exact h
  ·
   obtain ⟨v32,e32⟩:=LX (IntKind.i64.wrap at_)
   refine rx [sI v32] [] [] (fun t u w=>⟨e_op1 (za rfl) (za rfl) (fun W=>by rw [← e32];exact r_cvi (by kernel_rfl) (by kernel_rfl) W),trivial⟩) ?_
   intro v33 e33 v34 e34
   have s36:v34≠0:=by exact zlR e33 e34 (zd e7 s12 s11 e13 e14).1
   refine ai s36 fun v35 e35=>?_
   obtain ⟨n37,s38⟩:∃(n37:Nat),v35=(n37:Int):=by exact ⟨_,(zY e32 e33 e34 e35 ha (zd e7 s12 s11 e13 e14).1).1.1⟩
   obtain ⟨v39,e39⟩:=LX (v14.take n37)
   have s40:n37≤v14.length:=by (have q:=(zY e32 e33 e34 e35 ha (zd e7 s12 s11 e13 e14).1).1;have q2:=s38;omega)
   refine rx [.ls 4 cSt kSt v39] [] [] (fun t u w=>⟨zak (E:=62) (z:=4) (fun _=>rfl) (by kernel_rfl) (by kernel_rfl) (zm rfl) (za rfl) s38 s40 (zm (by rw [e39];rfl)),trivial⟩) ?_
   intro v41 e41
   by_cases c34:∀x∈v14.take (preN at_ v14),x.1≠4
   ·
    refine Or.inl ?_
    refine rx [] [] [] (zn0 l by_ at_ v1 v2 v3 v4 v5 v7 n9 x10 v13 v14 v17 o2 v18 v19 v20 v23 v24 v25 v28 v30 v32 v33 v34 v35 n37 v39 v41 h29 h31  e41 (by rw [← e39];exact Nat.le_trans (List.length_take_le' _ _) (zd e7 s12 s11 e13 e14).1) (by rw [(zd4 (zY e32 e33 e34 e35 ha (zd e7 s12 s11 e13 e14).1).1.1 s38 e39)];exact c34)) ?_
    obtain ⟨n42,s43⟩:∃(n42:Nat),v35=(n42:Int):=by exact ⟨_,(zY e32 e33 e34 e35 ha (zd e7 s12 s11 e13 e14).1).1.1⟩
    obtain ⟨v44,e44⟩:=LX (v14.take n42)
    have s45:n42≤v14.length:=by (have q:=(zY e32 e33 e34 e35 ha (zd e7 s12 s11 e13 e14).1).1;have q2:=s43;omega)
    refine rx [.ls 4 cSt kSt v44] [] [] (fun t u w=>⟨zak (E:=62) (z:=4) (fun _=>rfl) (by kernel_rfl) (by kernel_rfl) (zm rfl) (za rfl) s43 s45 (zm (by rw [e44];rfl)),trivial⟩) ?_
    obtain ⟨v46,e46⟩:=LX (mainX v44)
    refine cx (.o (.c (.ls 3 cSb kSb v46))) (zca v44 v46 e46) rfl ?_
    obtain ⟨v47,e47⟩:=LX ((runP v46 ([]:List Int) ((0:Int),(0:Int),(0:Int))).1)
    obtain ⟨v48,e48⟩:=LX ((runP v46 ([]:List Int) ((0:Int),(0:Int),(0:Int))).2)
    have s49:zD v46=0:=by exact (qJ (zd e7 s12 s11 e13 e14) e44 e46).1
    have s50:SbW v46:=by exact (qJ (zd e7 s12 s11 e13 e14) e44 e46).2
    refine cx (.t [.c (.ls 11 cM kM v47),.c (sI v48)]) (Fun.imp (as2:=[.o (.c (pLs cSb v46)),.o (.c (pV (.slice none 0 0))),.o (.g [pV (.int .i64 0),pV (.int .i64 0),pV (.int .i64 0)])]) (zdA hL v46 ([]:List Int) ((0:Int),(0:Int),(0:Int)) v47 v48 e47 e48 s49 s50) (zaN ⟨fun _ _ _ h=>h,fun _ _ _ h=>nil_I _ _ _ h,fun _ _ _ h=>h,trivial⟩) (fun _ _ _ h=>h)) rfl ?_
    intro v51 e51
    have s52:v51=false:=by (rw [← e51,(q8 (zd e7 s12 s11 e13 e14) e18 e19 e20 e28 h29 (zY e32 e33 e34 e35 ha (zd e7 s12 s11 e13 e14).1).1.1 s43 c34 e44 e46 e47 e48).1];rfl)
    refine ai s52 ?_
    intro v53 e53
    have s54:v53=false:=by exact e53.symm.trans ((congrArg Bool.not (e28.trans h29)).trans rfl)
    refine ai s54 ?_
    intro v55 e55 v56 e56 v57 e57
    have s58:v57=true:=by (rw [← e57];exact decide_eq_true (by have q:=(q8 (zd e7 s12 s11 e13 e14) e18 e19 e20 e28 h29 (zY e32 e33 e34 e35 ha (zd e7 s12 s11 e13 e14).1).1.1 s43 c34 e44 e46 e47 e48).2.length_le;have q2:=e55;have q3:=e56;omega))
    refine ai s58 ?_
    intro v59 e59
    obtain ⟨n60,s61⟩:∃(n60:Nat),v59=(n60:Int):=by exact ⟨_,e59.symm⟩
    obtain ⟨v62,e62⟩:=LX (v19.take n60)
    have s63:n60≤v19.length:=by (have q:=(q8 (zd e7 s12 s11 e13 e14) e18 e19 e20 e28 h29 (zY e32 e33 e34 e35 ha (zd e7 s12 s11 e13 e14).1).1.1 s43 c34 e44 e46 e47 e48).2.length_le;have q2:=s61;have q3:=e59;omega)
    refine rx [.ls 11 cM kM v62] [] [] (fun t u w=>⟨zak (E:=45) (z:=11) (fun _=>rfl) (by kernel_rfl) (by kernel_rfl) (zm rfl) (za rfl) s61 s63 (zm (by rw [e62];rfl)),trivial⟩) ?_
    obtain ⟨v64,e64⟩:=LX (sameF v47 v62 0)
    have s65:v47.length<9223372036854775808:=by (rw [← e47];exact zl3 (qJ (zd e7 s12 s11 e13 e14) e44 e46).1)
    refine cx (.o (.c (sB v64))) (zpN v47 v62 v64 e64 s65) rfl ?_
    intro hc
    refine Fun.fin (r:=.o (.c (pB v64))) (zc (hc)) (fun v W D h=>?_)
    have r0:true=v64:=by
     (have q:true=v64:=((zje (q8 (zd e7 s12 s11 e13 e14) e18 e19 e20 e28 h29 (zY e32 e33 e34 e35 ha (zd e7 s12 s11 e13 e14).1).1.1 s43 c34 e44 e46 e47 e48).2 e59 s61 e62).symm.trans e64);first | exact q | exact q.symm)
    rw [r0];exact h
   ·
    refine Or.inr ?_
    obtain ⟨o,hO_psD2b⟩:∃(o:Bool),o=true:=⟨_,rfl⟩
    refine rx [sB o] [] [] (zn3 l by_ at_ v1 v2 v3 v4 v5 v7 n9 x10 v13 v14 v17 o2 v18 v19 v20 v23 v24 v25 v28 v30 v32 v33 v34 v35 n37 v39 v41 h29 h31 o e41 (by rw [← e39];exact Nat.le_trans (List.length_take_le' _ _) (zd e7 s12 s11 e13 e14).1) (by rw [(zd4 (zY e32 e33 e34 e35 ha (zd e7 s12 s11 e13 e14).1).1.1 s38 e39)];exact c34) hO_psD2b) ?_
    intro hc
    refine Fun.fin (r:=.o (.c (pB o))) (zc (hc)) (fun v W D h=>?_)
    have r0:true=o:=by
     first | exact hO_psD2a | exact hO_psD2a.symm | exact hO_psD2b | exact hO_psD2b.symm | exact hO_psD2c | exact hO_psD2c.symm
    rw [r0];exact h
 ·
  obtain ⟨v30,e30⟩:=LX (IntKind.i64.wrap at_)
  refine rx [sI v30] [] [] (fun t u w=>⟨e_op1 (za rfl) (za rfl) (fun W=>by rw [← e30];exact r_cvi (by kernel_rfl) (by kernel_rfl) W),trivial⟩) ?_
  intro v31 e31 v32 e32
  have s34:v32≠0:=by exact zlR e31 e32 (zd e7 s12 s11 e13 e14).1
  refine ai s34 fun v33 e33=>?_
  obtain ⟨n35,s36⟩:∃(n35:Nat),v33=(n35:Int):=by exact ⟨_,(zY e30 e31 e32 e33 ha (zd e7 s12 s11 e13 e14).1).1.1⟩
  obtain ⟨v37,e37⟩:=LX (v14.take n35)
  have s38:n35≤v14.length:=by (have q:=(zY e30 e31 e32 e33 ha (zd e7 s12 s11 e13 e14).1).1;have q2:=s36;omega)
  refine rx [.ls 4 cSt kSt v37] [] [] (fun t u w=>⟨zak (E:=62) (z:=4) (fun _=>rfl) (by kernel_rfl) (by kernel_rfl) (zm rfl) (za rfl) s36 s38 (zm (by rw [e37];rfl)),trivial⟩) ?_
  intro v39 e39
  by_cases c34:∀x∈v14.take (preN at_ v14),x.1≠4
  ·
   refine Or.inl ?_
   refine rx [] [] [] (zn1 l by_ at_ v1 v2 v3 v4 v5 v7 n9 x10 v13 v14 v17 o2 v18 v19 v20 v23 v24 v25 v28 v30 v31 v32 v33 n35 v37 v39 h29  e39 (by rw [← e37];exact Nat.le_trans (List.length_take_le' _ _) (zd e7 s12 s11 e13 e14).1) (by rw [(zd4 (zY e30 e31 e32 e33 ha (zd e7 s12 s11 e13 e14).1).1.1 s36 e37)];exact c34)) ?_
   obtain ⟨n40,s41⟩:∃(n40:Nat),v33=(n40:Int):=by exact ⟨_,(zY e30 e31 e32 e33 ha (zd e7 s12 s11 e13 e14).1).1.1⟩
   obtain ⟨v42,e42⟩:=LX (v14.take n40)
   have s43:n40≤v14.length:=by (have q:=(zY e30 e31 e32 e33 ha (zd e7 s12 s11 e13 e14).1).1;have q2:=s41;omega)
   refine rx [.ls 4 cSt kSt v42] [] [] (fun t u w=>⟨zak (E:=62) (z:=4) (fun _=>rfl) (by kernel_rfl) (by kernel_rfl) (zm rfl) (za rfl) s41 s43 (zm (by rw [e42];rfl)),trivial⟩) ?_
   obtain ⟨v44,e44⟩:=LX (mainX v42)
   refine cx (.o (.c (.ls 3 cSb kSb v44))) (zca v42 v44 e44) rfl ?_
   obtain ⟨v45,e45⟩:=LX ((runP v44 ([]:List Int) ((0:Int),(0:Int),(0:Int))).1)
   obtain ⟨v46,e46⟩:=LX ((runP v44 ([]:List Int) ((0:Int),(0:Int),(0:Int))).2)
   have s47:zD v44=0:=by exact (qJ (zd e7 s12 s11 e13 e14) e42 e44).1
   have s48:SbW v44:=by exact (qJ (zd e7 s12 s11 e13 e14) e42 e44).2
   refine cx (.t [.c (.ls 11 cM kM v45),.c (sI v46)]) (Fun.imp (as2:=[.o (.c (pLs cSb v44)),.o (.c (pV (.slice none 0 0))),.o (.g [pV (.int .i64 0),pV (.int .i64 0),pV (.int .i64 0)])]) (zdA hL v44 ([]:List Int) ((0:Int),(0:Int),(0:Int)) v45 v46 e45 e46 s47 s48) (zaN ⟨fun _ _ _ h=>h,fun _ _ _ h=>nil_I _ _ _ h,fun _ _ _ h=>h,trivial⟩) (fun _ _ _ h=>h)) rfl ?_
   intro v49 e49
   refine ai (fun h50=>?_) fun h50=>?_
   ·
    intro v51 e51
    have s52:v51=true:=by exact e51.symm.trans ((congrArg Bool.not (e28.trans h29)).trans rfl)
    refine ai s52 ?_
    intro hc
    refine Fun.fin (r:=.o (.c (pV (.bool true)))) (zc (hc)) (fun v W D h=>?_)
    have r0:true=true:=by
     trivial
    rw [r0];exact h
   ·
    intro v51 e51
    have s52:v51=true:=by exact e51.symm.trans ((congrArg Bool.not (e28.trans h29)).trans rfl)
    refine ai s52 ?_
    intro v53 e53
    have s54:v53=true:=by exact e53.symm.trans ((congrArg Bool.not (e28.trans h29)).trans rfl)
    refine ai s54 ?_
    intro hc
    refine Fun.fin (r:=.o (.c (pV (.bool true)))) (zc (hc)) (fun v W D h=>?_)
    have r0:true=true:=by
     trivial
    rw [r0];exact h
  ·
   refine Or.inr ?_
   obtain ⟨o,hO_psD2c⟩:∃(o:Bool),o=true:=⟨_,rfl⟩
   refine rx [sB o] [] [] (zn4 l by_ at_ v1 v2 v3 v4 v5 v7 n9 x10 v13 v14 v17 o2 v18 v19 v20 v23 v24 v25 v28 v30 v31 v32 v33 n35 v37 v39 h29 o e39 (by rw [← e37];exact Nat.le_trans (List.length_take_le' _ _) (zd e7 s12 s11 e13 e14).1) (by rw [(zd4 (zY e30 e31 e32 e33 ha (zd e7 s12 s11 e13 e14).1).1.1 s36 e37)];exact c34) hO_psD2c) ?_
   intro hc
   refine Fun.fin (r:=.o (.c (pB o))) (zc (hc)) (fun v W D h=>?_)
   have r0:true=o:=by
    first | exact hO_psD2a | exact hO_psD2a.symm | exact hO_psD2b | exact hO_psD2b.symm | exact hO_psD2c | exact hO_psD2c.symm
   rw [r0];exact h
end Go.Proofs.YteimplkdcjapdaaGreatDoor
