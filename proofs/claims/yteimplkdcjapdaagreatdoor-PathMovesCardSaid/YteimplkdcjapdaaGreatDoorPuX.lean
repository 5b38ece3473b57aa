/-
  Merged: PvE, PvF.
-/
import Derived.Test.YteimplkdcjapdaaGreatDoorPuW
set_option linter.unusedSimpArgs false
set_option linter.unusedVariables false
set_option maxRecDepth 100000
set_option synthInstance.maxSize 2000
set_option synthInstance.maxHeartbeats 400000
namespace Go.Proofs.YteimplkdcjapdaaGreatDoor
open Go.RowKit
def axes6:List Vec:=[((1:Int),(0:Int),(0:Int)),((0:Int),(1:Int),(0:Int)),((0:Int),(0:Int),(1:Int)),((-1:Int),(0:Int),(0:Int)),((0:Int),(-1:Int),(0:Int)),((0:Int),(0:Int),(-1:Int))]
def axisV (n:Int):Vec:=axes6.getD (modX n 6).toNat (0,0,0)
def radi5:List Int:=[(1:Int),(2:Int),(5:Int),(5:Int),(10:Int)]
def mdI (l:List Int) (k:Int) (f:Vec) (w:Int) (by_:Vec) (p:Int):Mov:=(if k=0 then 1 else 2,f,plusV f by_ (IntKind.i64.wrap ((1:Int)+(drawX (l.drop (p:Int).toNat) (3:Int)).1)),(0,0,0),if k=0 then 0 else w)
def mdH (l:List Int) (k:Int) (f:Vec) (w:Int) (by_:Vec) (p:Int):Mov:=if by_=((0:Int),(0:Int),(0:Int)) then mdI l k f w (axisV (drawX (l.drop (p:Int).toNat) (6:Int)).1) (posA l (drawX (l.drop (p:Int).toNat) (6:Int)).2) else mdI l k f w by_ p
def mdG (f:Vec) (w a b x:Int):Mov:=(3,f,plusV (plusV f (axisV a) x) (axisV b) x,plusV f (axisV a) x,w)
def mdF (l:List Int) (f:Vec) (w a b c p:Int):Mov:=mdG f w a (IntKind.i64.wrap (IntKind.i64.wrap (IntKind.i64.wrap (a+(1:Int))+b)+IntKind.i64.wrap ((3:Int)*c))) (radi5.getD (drawX (l.drop (p:Int).toNat) (5:Int)).1.toNat 0)
def mdE (l:List Int) (f:Vec) (w a b p:Int):Mov:=mdF l f w a b (drawX (l.drop (p:Int).toNat) (2:Int)).1 (posA l (drawX (l.drop (p:Int).toNat) (2:Int)).2)
def mdD (l:List Int) (f:Vec) (w a p:Int):Mov:=mdE l f w a (drawX (l.drop (p:Int).toNat) (2:Int)).1 (posA l (drawX (l.drop (p:Int).toNat) (2:Int)).2)
def mdC (l:List Int) (k:Int) (f:Vec) (d p:Int):Mov:=if k=3 then mdD l f (IntKind.i64.wrap ((1:Int)+d)) (drawX (l.drop (p:Int).toNat) (6:Int)).1 (posA l (drawX (l.drop (p:Int).toNat) (6:Int)).2) else mdH l k f (IntKind.i64.wrap ((1:Int)+d)) (vecD (l.drop (p:Int).toNat) (3:Int)).1 (posA l (vecD (l.drop (p:Int).toNat) (3:Int)).2)
def mdB (l:List Int) (k:Int) (f:Vec) (p:Int):Mov:=mdC l k f (drawX (l.drop (p:Int).toNat) (100:Int)).1 (posA l (drawX (l.drop (p:Int).toNat) (100:Int)).2)
def mdA (l:List Int) (k p:Int):Mov:=mdB l k (vecD (l.drop (p:Int).toNat) (8:Int)).1 (posA l (vecD (l.drop (p:Int).toNat) (8:Int)).2)
def madeM (l:List Int):Mov:=mdA l  (drawX (l.drop ((0:Int):Int).toNat) (4:Int)).1 (posA l (drawX (l.drop ((0:Int):Int).toNat) (4:Int)).2)
theorem zuh (l:List Int) (n:Nat):l.drop n <:+ l:=List.drop_suffix _ _
def zvX:Tr:=.s [(0,.raw [(1000007,.dat 26 6 [.k (.int .i64 1),.k (.int .i64 0),.k (.int .i64 0),.k (.int .i64 0),.k (.int .i64 1),.k (.int .i64 0),.k (.int .i64 0),.k (.int .i64 0),.k (.int .i64 1),.k (.int .i64 (-1)),.k (.int .i64 0),.k (.int .i64 0),.k (.int .i64 0),.k (.int .i64 (-1)),.k (.int .i64 0),.k (.int .i64 0),.k (.int .i64 0),.k (.int .i64 (-1))] 1)] 1),(11,.call 14 [0,LF (kI 6)] (.o .c)),(12,.ia 35 26 3 1 2),(13,.ld 26 3 3)] (.z (.ret false (.o (.g [4,5,6])) []))
theorem zvO {w0:World} (n:Int) (r:Vec) (hr:axisV n=r):Fun (KN w0) Tryz.prog 96 [.o (.c (pI n))] (.o (.g [pI r.1,pI r.2.1,pI r.2.2])):=by
 refine tfn w0 96 ⟨[0],[],[],0,0⟩ ⟨1,[sI n],[],[]⟩ zvX (by kernel_rfl) ?_
 obtain ⟨v1,e1⟩:=LX (([((1:Int),(0:Int),(0:Int)),((0:Int),(1:Int),(0:Int)),((0:Int),(0:Int),(1:Int)),((-1:Int),(0:Int),(0:Int)),((0:Int),(-1:Int),(0:Int)),((0:Int),(0:Int),(-1:Int))]:List Vec))
 refine rx [.ls 3 cV kV v1] [] [] (fun t u w=>⟨e_dat (c:=cV) (l:=([((1:Int),(0:Int),(0:Int)),((0:Int),(1:Int),(0:Int)),((0:Int),(0:Int),(1:Int)),((-1:Int),(0:Int),(0:Int)),((0:Int),(-1:Int),(0:Int)),((0:Int),(0:Int),(-1:Int))]:List Vec)) (ps:=(pV (.int .i64 1)::pV (.int .i64 0)::pV (.int .i64 0)::pV (.int .i64 0)::pV (.int .i64 1)::pV (.int .i64 0)::pV (.int .i64 0)::pV (.int .i64 0)::pV (.int .i64 1)::pV (.int .i64 (-1))::pV (.int .i64 0)::pV (.int .i64 0)::pV (.int .i64 0)::pV (.int .i64 (-1))::pV (.int .i64 0)::pV (.int .i64 0)::pV (.int .i64 0)::pV (.int .i64 (-1))::[])) (qs:=(pI ((1:Int),(0:Int),(0:Int)).1::pI ((1:Int),(0:Int),(0:Int)).2.1::pI ((1:Int),(0:Int),(0:Int)).2.2::pI ((0:Int),(1:Int),(0:Int)).1::pI ((0:Int),(1:Int),(0:Int)).2.1::pI ((0:Int),(1:Int),(0:Int)).2.2::pI ((0:Int),(0:Int),(1:Int)).1::pI ((0:Int),(0:Int),(1:Int)).2.1::pI ((0:Int),(0:Int),(1:Int)).2.2::pI ((-1:Int),(0:Int),(0:Int)).1::pI ((-1:Int),(0:Int),(0:Int)).2.1::pI ((-1:Int),(0:Int),(0:Int)).2.2::pI ((0:Int),(-1:Int),(0:Int)).1::pI ((0:Int),(-1:Int),(0:Int)).2.1::pI ((0:Int),(-1:Int),(0:Int)).2.2::pI ((0:Int),(0:Int),(-1:Int)).1::pI ((0:Int),(0:Int),(-1:Int)).2.1::pI ((0:Int),(0:Int),(-1:Int)).2.2::[])) (by rw [e1];rfl) rfl rfl rfl (pimps (fun _ _ _ h=>h) <| pimps (fun _ _ _ h=>h) <| pimps (fun _ _ _ h=>h) <| pimps (fun _ _ _ h=>h) <| pimps (fun _ _ _ h=>h) <| pimps (fun _ _ _ h=>h) <| pimps (fun _ _ _ h=>h) <| pimps (fun _ _ _ h=>h) <| pimps (fun _ _ _ h=>h) <| pimps (fun _ _ _ h=>h) <| pimps (fun _ _ _ h=>h) <| pimps (fun _ _ _ h=>h) <| pimps (fun _ _ _ h=>h) <| pimps (fun _ _ _ h=>h) <| pimps (fun _ _ _ h=>h) <| pimps (fun _ _ _ h=>h) <| pimps (fun _ _ _ h=>h) <| pimps (fun _ _ _ h=>h) <| ze) rfl,trivial⟩) ?_
 obtain ⟨v2,e2⟩:=LX (modX n (6:Int))
 refine cx (.o (.c (sI v2))) (x_mod n (6:Int) v2 e2) rfl ?_
 refine ai (by (have hm:=zql (n:=n) (m:=6) (by decide) (by decide);rw [e2] at hm;exact ⟨v2.toNat,_,by omega,by rw [← e1];exact List.getElem?_eq_getElem (by show v2.toNat<6;omega)⟩)) fun n3 x4 s5 s6=>?_
 intro hc
 refine Fun.fin (r:=.o (.g [pI x4.1,pI x4.2.1,pI x4.2.2])) (zc (hc)) (fun v W D h=>?_)
 have r0:r=x4:=by
  (rw [← hr,axisV,e2,s5,Int.toNat_natCast,List.getD_eq_getElem?_getD,show axes6=v1 from e1,s6];rfl)
 rw [r0];exact h
def zv0:Tr:=.s [(0,.raw [(1000006,.call ⟨50,[.o (.c (.p 3 0)),.o (.c (.k (.int .i64 4)))],[.bx 3 92 [.h 0,.k (.int .i64 0)]],1,[.bx 3 92 [.h 0,.h 2]]⟩)] 2),(0,.raw [(1000009,.call ⟨78,[.o (.c (.p 3 0)),.o (.c (.k (.int .i64 8)))],[.bx 3 92 [.h 0,.h 2]],.o (.g [3,4,5]),[.bx 3 92 [.h 0,.h 6]]⟩)] 4),(0,.raw [(1000011,.call ⟨50,[.o (.c (.p 3 0)),.o (.c (.k (.int .i64 100)))],[.bx 3 92 [.h 0,.h 6]],7,[.bx 3 92 [.h 0,.h 8]]⟩)] 2),(12,.bin .add 3 (kI 1) 7),(17,.bin .eql 3 1 (kI 3))] (.b 10 (.s [(0,.raw [(1000019,.call ⟨50,[.o (.c (.p 3 0)),.o (.c (.k (.int .i64 6)))],[.bx 3 92 [.h 0,.h 8]],11,[.bx 3 92 [.h 0,.h 12]]⟩)] 2),(22,.bin .add 3 11 (kI 1)),(0,.raw [(1000024,.call ⟨50,[.o (.c (.p 3 0)),.o (.c (.k (.int .i64 2)))],[.bx 3 92 [.h 0,.h 12]],14,[.bx 3 92 [.h 0,.h 15]]⟩)] 2),(25,.bin .add 3 13 14),(0,.raw [(1000027,.call ⟨50,[.o (.c (.p 3 0)),.o (.c (.k (.int .i64 2)))],[.bx 3 92 [.h 0,.h 15]],17,[.bx 3 92 [.h 0,.h 18]]⟩)] 2),(28,.bin .mul 3 (kI 3) 17),(29,.bin .add 3 16 19),(0,.raw [(1000031,.dat 3 5 [.k (.int .i64 1),.k (.int .i64 2),.k (.int .i64 5),.k (.int .i64 5),.k (.int .i64 10)] 21)] 1),(0,.raw [(1000033,.call ⟨50,[.o (.c (.p 3 0)),.o (.c (.k (.int .i64 5)))],[.bx 3 92 [.h 0,.h 18]],22,[.bx 3 92 [.h 0,.h 23]]⟩)] 2),(34,.ia 24 3 1 21 22),(35,.ld 3 0 24),(42,.call 96 [11] (.o (.g 3))),(44,.call 95 [.o (.g [3,4,5]),.o (.g [26,27,28]),25] (.o (.g 3))),(50,.call 96 [20] (.o (.g 3))),(52,.call 95 [.o (.g [29,30,31]),.o (.g [32,33,34]),25] (.o (.g 3)))] (.z (.ret false (.o (.g [kI 3,3,4,5,35,36,37,29,30,31,9])) []))) (.s [(0,.raw [(1000019,.call ⟨78,[.o (.c (.p 3 0)),.o (.c (.k (.int .i64 3)))],[.bx 3 92 [.h 0,.h 8]],.o (.g [11,12,13]),[.bx 3 92 [.h 0,.h 14]]⟩)] 4),(0,.raw [(1000024,.bin .eql 26 (.o (.g [11,12,13])) (.o (.g [.k (.int .i64 0),.k (.int .i64 0),.k (.int .i64 0)])) 15)] 1)] (.b 15 (.s [(0,.raw [(1000026,.call ⟨50,[.o (.c (.p 3 0)),.o (.c (.k (.int .i64 6)))],[.bx 3 92 [.h 0,.h 14]],16,[.bx 3 92 [.h 0,.h 17]]⟩)] 2),(27,.call 96 [16] (.o (.g 3))),(0,.raw [(1000033,.call ⟨50,[.o (.c (.p 3 0)),.o (.c (.k (.int .i64 3)))],[.bx 3 92 [.h 0,.h 17]],21,[.bx 3 92 [.h 0,.h 22]]⟩)] 2),(34,.bin .add 3 (kI 1) 21),(35,.call 95 [.o (.g [3,4,5]),.o (.g [18,19,20]),23] (.o (.g 3))),(39,.bin .eql 3 1 (kI 0))] (.b 27 (.z (.ret false (.o (.g [kI 1,3,4,5,24,25,26,kI 0,kI 0,kI 0,kI 0])) [])) (.z (.ret false (.o (.g [kI 2,3,4,5,24,25,26,kI 0,kI 0,kI 0,9])) [])))) (.s [(0,.raw [(1000029,.call ⟨50,[.o (.c (.p 3 0)),.o (.c (.k (.int .i64 3)))],[.bx 3 92 [.h 0,.h 14]],16,[.bx 3 92 [.h 0,.h 17]]⟩)] 2),(30,.bin .add 3 (kI 1) 16),(31,.call 95 [.o (.g [3,4,5]),.o (.g [11,12,13]),18] (.o (.g 3))),(35,.bin .eql 3 1 (kI 0))] (.b 22 (.z (.ret false (.o (.g [kI 1,3,4,5,19,20,21,kI 0,kI 0,kI 0,kI 0])) [])) (.z (.ret false (.o (.g [kI 2,3,4,5,19,20,21,kI 0,kI 0,kI 0,9])) [])))))))
theorem zwE {w0:World} (l:List Int) (r:Mov) (hr:madeM l=r) (hl:l.length<9223372036854775807):Fun (KN w0) Tryz.prog 62 [.o (.c (pLs cI l))] (.o (.g [pI r.1,pI r.2.1.1,pI r.2.1.2.1,pI r.2.1.2.2,pI r.2.2.1.1,pI r.2.2.1.2.1,pI r.2.2.1.2.2,pI r.2.2.2.1.1,pI r.2.2.2.1.2.1,pI r.2.2.2.1.2.2,pI r.2.2.2.2])):=by
 refine tfn w0 62 ⟨[0],[],[],0,0⟩ ⟨1,[.ls 1 cI kIc l],[],[]⟩ zv0 (by kernel_rfl) ?_
 obtain ⟨v1,e1⟩:=LX ((drawX (l.drop ((0:Int):Int).toNat) (4:Int)).1)
 obtain ⟨v2,e2⟩:=LX (posA l (drawX (l.drop ((0:Int):Int).toNat) (4:Int)).2)
 have s3:0≤(0:Int)∧(0:Int)≤l.length:=by omega
 have s4:l.length<9223372036854775807:=by omega
 refine rx [sI v1,sI v2] [] [] (fun t u w=>⟨b_con (pan:=false) (zaw (4:Int) l (0:Int) v1 v2 e1 e2 s3 s4),trivial⟩) ?_
 obtain ⟨v5,e5⟩:=LX ((vecD (l.drop (v2:Int).toNat) (8:Int)).1)
 obtain ⟨v6,e6⟩:=LX (posA l (vecD (l.drop (v2:Int).toNat) (8:Int)).2)
 have s7:0≤v2∧v2≤l.length:=by exact (zaO ((qf _ _).trans (zuh _ _)) e2).2
 have s8:l.length<9223372036854775807:=by omega
 have s9:0≤(8:Int)∧(8:Int)≤100:=by omega
 refine rx [sI v5.1,sI v5.2.1,sI v5.2.2,sI v6] [] [] (fun t u w=>⟨b_con (pan:=false) (zmF (8:Int) l v2 v5 v6 e5 e6 s7 s8 s9),trivial⟩) ?_
 obtain ⟨v10,e10⟩:=LX ((drawX (l.drop (v6:Int).toNat) (100:Int)).1)
 obtain ⟨v11,e11⟩:=LX (posA l (drawX (l.drop (v6:Int).toNat) (100:Int)).2)
 have s12:0≤v6∧v6≤l.length:=by exact (zaO ((zju _ _).trans (zuh _ _)) e6).2
 have s13:l.length<9223372036854775807:=by omega
 refine rx [sI v10,sI v11] [] [] (fun t u w=>⟨b_con (pan:=false) (zaw (100:Int) l v6 v10 v11 e10 e11 s12 s13),trivial⟩) ?_
 intro v14 e14 v15 e15
 refine ai (fun h16=>?_) fun h16=>?_
 ·
  obtain ⟨v17,e17⟩:=LX ((drawX (l.drop (v11:Int).toNat) (6:Int)).1)
  obtain ⟨v18,e18⟩:=LX (posA l (drawX (l.drop (v11:Int).toNat) (6:Int)).2)
  have s19:0≤v11∧v11≤l.length:=by exact (zaO ((qf _ _).trans (zuh _ _)) e11).2
  have s20:l.length<9223372036854775807:=by omega
  refine rx [sI v17,sI v18] [] [] (fun t u w=>⟨b_con (pan:=false) (zaw (6:Int) l v11 v17 v18 e17 e18 s19 s20),trivial⟩) ?_
  intro v21 e21
  obtain ⟨v22,e22⟩:=LX ((drawX (l.drop (v18:Int).toNat) (2:Int)).1)
  obtain ⟨v23,e23⟩:=LX (posA l (drawX (l.drop (v18:Int).toNat) (2:Int)).2)
  have s24:0≤v18∧v18≤l.length:=by exact (zaO ((qf _ _).trans (zuh _ _)) e18).2
  have s25:l.length<9223372036854775807:=by omega
  refine rx [sI v22,sI v23] [] [] (fun t u w=>⟨b_con (pan:=false) (zaw (2:Int) l v18 v22 v23 e22 e23 s24 s25),trivial⟩) ?_
  intro v26 e26
  obtain ⟨v27,e27⟩:=LX ((drawX (l.drop (v23:Int).toNat) (2:Int)).1)
  obtain ⟨v28,e28⟩:=LX (posA l (drawX (l.drop (v23:Int).toNat) (2:Int)).2)
  have s29:0≤v23∧v23≤l.length:=by exact (zaO ((qf _ _).trans (zuh _ _)) e23).2
  have s30:l.length<9223372036854775807:=by omega
  refine rx [sI v27,sI v28] [] [] (fun t u w=>⟨b_con (pan:=false) (zaw (2:Int) l v23 v27 v28 e27 e28 s29 s30),trivial⟩) ?_
  intro v31 e31 v32 e32
  obtain ⟨v33,e33⟩:=LX (([(1:Int),(2:Int),(5:Int),(5:Int),(10:Int)]:List Int))
  refine rx [.ls 1 cI kIc v33] [] [] (fun t u w=>⟨e_dat (c:=cI) (l:=([(1:Int),(2:Int),(5:Int),(5:Int),(10:Int)]:List Int)) (ps:=(pV (.int .i64 1)::pV (.int .i64 2)::pV (.int .i64 5)::pV (.int .i64 5)::pV (.int .i64 10)::[])) (qs:=(pI (1:Int)::pI (2:Int)::pI (5:Int)::pI (5:Int)::pI (10:Int)::[])) (by rw [e33];rfl) rfl rfl rfl (pimps (fun _ _ _ h=>h) <| pimps (fun _ _ _ h=>h) <| pimps (fun _ _ _ h=>h) <| pimps (fun _ _ _ h=>h) <| pimps (fun _ _ _ h=>h) <| ze) rfl,trivial⟩) ?_
  obtain ⟨v34,e34⟩:=LX ((drawX (l.drop (v28:Int).toNat) (5:Int)).1)
  obtain ⟨v35,e35⟩:=LX (posA l (drawX (l.drop (v28:Int).toNat) (5:Int)).2)
  have s36:0≤v28∧v28≤l.length:=by exact (zaO ((qf _ _).trans (zuh _ _)) e28).2
  have s37:l.length<9223372036854775807:=by omega
  refine rx [sI v34,sI v35] [] [] (fun t u w=>⟨b_con (pan:=false) (zaw (5:Int) l v28 v34 v35 e34 e35 s36 s37),trivial⟩) ?_
  refine ai (by (have b:=zH (l:=l.drop (v28:Int).toNat) (m:=5) (by omega) (by omega);rw [e34] at b;exact ⟨v34.toNat,_,by omega,by rw [← e33];exact List.getElem?_eq_getElem (by show v34.toNat<5;omega)⟩)) fun n38 x39 s40 s41=>?_
  obtain ⟨v42,e42⟩:=LX (axisV v17)
  refine cx (.o (.g [sI v42.1,sI v42.2.1,sI v42.2.2])) (zvO v17 v42 e42) rfl ?_
  obtain ⟨v43,e43⟩:=LX (plusV v5 v42 x39)
  refine cx (.o (.g [sI v43.1,sI v43.2.1,sI v43.2.2])) (zuv v5 v42 x39 v43 e43) rfl ?_
  obtain ⟨v44,e44⟩:=LX (axisV v32)
  refine cx (.o (.g [sI v44.1,sI v44.2.1,sI v44.2.2])) (zvO v32 v44 e44) rfl ?_
  obtain ⟨v45,e45⟩:=LX (plusV v43 v44 x39)
  refine cx (.o (.g [sI v45.1,sI v45.2.1,sI v45.2.2])) (zuv v43 v44 x39 v45 e45) rfl ?_
  intro hc
  refine Fun.fin (r:=.o (.g [pV (.int .i64 3),pI v5.1,pI v5.2.1,pI v5.2.2,pI v45.1,pI v45.2.1,pI v45.2.2,pI v43.1,pI v43.2.1,pI v43.2.2,pI v14])) (zc (hc)) (fun v W D h=>?_)
  have r0:r=((3:Int),v5,v45,v43,v14):=by
   (rw [← hr,madeM,e1,e2,mdA,e5,e6,mdB,e10,e11,mdC,if_pos (beq_iff_eq.1 (e15.trans h16)),e14,e17,e18,mdD,e22,e23,mdE,e27,e28,mdF,e34,e21,e31,e26,e32,s40,Int.toNat_natCast,List.getD_eq_getElem?_getD,show radi5=v33 from e33,s41,Option.getD_some,mdG,e42,e43,e44,e45])
  rw [r0];exact h
 ·
  obtain ⟨v17,e17⟩:=LX ((vecD (l.drop (v11:Int).toNat) (3:Int)).1)
  obtain ⟨v18,e18⟩:=LX (posA l (vecD (l.drop (v11:Int).toNat) (3:Int)).2)
  have s19:0≤v11∧v11≤l.length:=by exact (zaO ((qf _ _).trans (zuh _ _)) e11).2
  have s20:l.length<9223372036854775807:=by omega
  have s21:0≤(3:Int)∧(3:Int)≤100:=by omega
  refine rx [sI v17.1,sI v17.2.1,sI v17.2.2,sI v18] [] [] (fun t u w=>⟨b_con (pan:=false) (zmF (3:Int) l v11 v17 v18 e17 e18 s19 s20 s21),trivial⟩) ?_
  obtain ⟨v22,e22⟩:=LX (decide (v17=((0:Int),(0:Int),(0:Int))))
  refine rx [sB v22] [] [] (fun t u w=>⟨e_eqV (x:=v17) (y:=((0:Int),(0:Int),(0:Int))) (neg:=false) ⟨(za rfl),(za rfl),(za rfl),trivial⟩ ⟨zf,zf,zf,trivial⟩ (za (by rw [e22];rfl)),trivial⟩) ?_
  refine ai (fun h23=>?_) fun h23=>?_
  ·
   obtain ⟨v24,e24⟩:=LX ((drawX (l.drop (v18:Int).toNat) (6:Int)).1)
   obtain ⟨v25,e25⟩:=LX (posA l (drawX (l.drop (v18:Int).toNat) (6:Int)).2)
   have s26:0≤v18∧v18≤l.length:=by exact (zaO ((zju _ _).trans (zuh _ _)) e18).2
   have s27:l.length<9223372036854775807:=by omega
   refine rx [sI v24,sI v25] [] [] (fun t u w=>⟨b_con (pan:=false) (zaw (6:Int) l v18 v24 v25 e24 e25 s26 s27),trivial⟩) ?_
   obtain ⟨v28,e28⟩:=LX (axisV v24)
   refine cx (.o (.g [sI v28.1,sI v28.2.1,sI v28.2.2])) (zvO v24 v28 e28) rfl ?_
   obtain ⟨v29,e29⟩:=LX ((drawX (l.drop (v25:Int).toNat) (3:Int)).1)
   obtain ⟨v30,e30⟩:=LX (posA l (drawX (l.drop (v25:Int).toNat) (3:Int)).2)
   have s31:0≤v25∧v25≤l.length:=by exact (zaO ((qf _ _).trans (zuh _ _)) e25).2
   have s32:l.length<9223372036854775807:=by omega
   refine rx [sI v29,sI v30] [] [] (fun t u w=>⟨b_con (pan:=false) (zaw (3:Int) l v25 v29 v30 e29 e30 s31 s32),trivial⟩) ?_
   intro v33 e33
   obtain ⟨v34,e34⟩:=LX (plusV v5 v28 v33)
   refine cx (.o (.g [sI v34.1,sI v34.2.1,sI v34.2.2])) (zuv v5 v28 v33 v34 e34) rfl ?_
   intro v35 e35
   refine ai (fun h36=>?_) fun h36=>?_
   ·
    intro hc
    refine Fun.fin (r:=.o (.g [pV (.int .i64 1),pI v5.1,pI v5.2.1,pI v5.2.2,pI v34.1,pI v34.2.1,pI v34.2.2,pV (.int .i64 0),pV (.int .i64 0),pV (.int .i64 0),pV (.int .i64 0)])) (zc (hc)) (fun v W D h=>?_)
    have r0:r=((1:Int),v5,v34,((0:Int),(0:Int),(0:Int)),(0:Int)):=by
     (rw [← hr,madeM,e1,e2,mdA,e5,e6,mdB,e10,e11,mdC,if_neg (beq_eq_false_iff_ne.1 (e15.trans h16)),e14,e17,e18,mdH,if_pos (LD e22 h23),e24,e25,e28,mdI,e29,e33,e34,if_pos (beq_iff_eq.1 (e35.trans h36)),if_pos (beq_iff_eq.1 (e35.trans h36))])
    rw [r0];exact h
   ·
    intro hc
    refine Fun.fin (r:=.o (.g [pV (.int .i64 2),pI v5.1,pI v5.2.1,pI v5.2.2,pI v34.1,pI v34.2.1,pI v34.2.2,pV (.int .i64 0),pV (.int .i64 0),pV (.int .i64 0),pI v14])) (zc (hc)) (fun v W D h=>?_)
    have r0:r=((2:Int),v5,v34,((0:Int),(0:Int),(0:Int)),v14):=by
     (rw [← hr,madeM,e1,e2,mdA,e5,e6,mdB,e10,e11,mdC,if_neg (beq_eq_false_iff_ne.1 (e15.trans h16)),e14,e17,e18,mdH,if_pos (LD e22 h23),e24,e25,e28,mdI,e29,e33,e34,if_neg (beq_eq_false_iff_ne.1 (e35.trans h36)),if_neg (beq_eq_false_iff_ne.1 (e35.trans h36))])
    rw [r0];exact h
  ·
   obtain ⟨v24,e24⟩:=LX ((drawX (l.drop (v18:Int).toNat) (3:Int)).1)
   obtain ⟨v25,e25⟩:=LX (posA l (drawX (l.drop (v18:Int).toNat) (3:Int)).2)
   have s26:0≤v18∧v18≤l.length:=by exact (zaO ((zju _ _).trans (zuh _ _)) e18).2
   have s27:l.length<9223372036854775807:=by omega
   refine rx [sI v24,sI v25] [] [] (fun t u w=>⟨b_con (pan:=false) (zaw (3:Int) l v18 v24 v25 e24 e25 s26 s27),trivial⟩) ?_
   intro v28 e28
   obtain ⟨v29,e29⟩:=LX (plusV v5 v17 v28)
   refine cx (.o (.g [sI v29.1,sI v29.2.1,sI v29.2.2])) (zuv v5 v17 v28 v29 e29) rfl ?_
   intro v30 e30
   refine ai (fun h31=>?_) fun h31=>?_
   ·
    intro hc
    refine Fun.fin (r:=.o (.g [pV (.int .i64 1),pI v5.1,pI v5.2.1,pI v5.2.2,pI v29.1,pI v29.2.1,pI v29.2.2,pV (.int .i64 0),pV (.int .i64 0),pV (.int .i64 0),pV (.int .i64 0)])) (zc (hc)) (fun v W D h=>?_)
    have r0:r=((1:Int),v5,v29,((0:Int),(0:Int),(0:Int)),(0:Int)):=by
     (rw [← hr,madeM,e1,e2,mdA,e5,e6,mdB,e10,e11,mdC,if_neg (beq_eq_false_iff_ne.1 (e15.trans h16)),e14,e17,e18,mdH,if_neg (LE e22 h23),mdI,e24,e28,e29,if_pos (beq_iff_eq.1 (e30.trans h31)),if_pos (beq_iff_eq.1 (e30.trans h31))])
    rw [r0];exact h
   ·
    intro hc
    refine Fun.fin (r:=.o (.g [pV (.int .i64 2),pI v5.1,pI v5.2.1,pI v5.2.2,pI v29.1,pI v29.2.1,pI v29.2.2,pV (.int .i64 0),pV (.int .i64 0),pV (.int .i64 0),pI v14])) (zc (hc)) (fun v W D h=>?_)
    have r0:r=((2:Int),v5,v29,((0:Int),(0:Int),(0:Int)),v14):=by
     (rw [← hr,madeM,e1,e2,mdA,e5,e6,mdB,e10,e11,mdC,if_neg (beq_eq_false_iff_ne.1 (e15.trans h16)),e14,e17,e18,mdH,if_neg (LE e22 h23),mdI,e24,e28,e29,if_neg (beq_eq_false_iff_ne.1 (e30.trans h31)),if_neg (beq_eq_false_iff_ne.1 (e30.trans h31))])
    rw [r0];exact h
end Go.Proofs.YteimplkdcjapdaaGreatDoor
set_option synthInstance.maxSize 2000
set_option synthInstance.maxHeartbeats 400000
namespace Go.Proofs.YteimplkdcjapdaaGreatDoor
open Go.RowKit
def mvA (m:Mov) (p:Vec):Mov:=(m.1,p,addV m.2.2.1 (subV p m.2.1),if m.1=3 then addV m.2.2.2.1 (subV p m.2.1) else m.2.2.2.1,m.2.2.2.2)
def mvB (m:Mov) (p:Vec):Mov:=if chkM m≠0 then (1,p,(IntKind.i64.wrap (0 - p.2.1),IntKind.i64.wrap ((1:Int)+IntKind.i64.wrap (p.1.tdiv 2)),0),(0,0,0),0) else m
def zui:List (List Int)→Vec→List Mov
 | [],_=>[]
 | x::r,p=>if chkM (mvB (mvA (madeM x) p) p)=0 then mvB (mvA (madeM x) p) p::zui r (mvB (mvA (madeM x) p) p).2.2.1 else zui r p
theorem zuz:∀{l:List (List Int)} {p:Vec},(zui l p).length≤l.length
 | [],_=>Nat.le_refl 0
 | x::r,p=>by
  rw [zui,List.length_cons]
  split
  ·rw [List.length_cons];have:=zuz (l:=r) (p:=(mvB (mvA (madeM x) p) p).2.2.1);omega
  ·have:=zuz (l:=r) (p:=p);omega
theorem zug {l:List (List Int)} {k:Nat} {x:List Int} {p:Vec} (h:l[k]?=some x):zui (l.drop k) p=if chkM (mvB (mvA (madeM x) p) p)=0 then mvB (mvA (madeM x) p) p::zui (l.drop (k+1)) (mvB (mvA (madeM x) p) p).2.2.1 else zui (l.drop (k+1)) p:=by
 obtain ⟨hk,rfl⟩:=List.getElem?_eq_some_iff.1 h
 rw [List.drop_eq_getElem_cons hk,zui]
def zva:List Atom:=[.sl 0 0,.sl 4 (.o (.c (.k (.slice none 0 0)))),.sl 5 (.o (.c (.gr 901))),.sl 6 (.o (.c (.p 4 0))),.sl 7 4,.bx 0 26 [.h 1,.h 2,.h 3],.bx 4 26 [.h 5,.h 6,.h 7],.gl 901 45 11 1]
def pvM_S:LoopS:=⟨4,zva.map (tnA (jf (hZ 4 [kI 0,1,2,3])) (kf [0,0]) (kf [])),(.x 0),(drs [4,6] zva)⟩
def pvM_t:Tr:=.s [(5002,.ln 22 3 0),(5003,.bin .lss 3 4 8)] (.b 9 (.s [(5006,.bin .lss 3 4 (kI 6))] (.b 10 (.s [(5010,.ia 22 24 1 0 4),(5011,.ld 24 0 11),(5012,.call 62 [12] (.o (.g 11))),(5018,.call 63 [.o (.g [5,6,7]),.o (.g [14,15,16])] (.o (.g 3))),(5027,.call 64 [.o (.g [17,18,19]),.o (.g [24,25,26])] (.o (.g 3))),(5032,.bin .eql 3 13 (kI 3))] (.b 30 (.s [(5036,.call 64 [.o (.g [20,21,22]),.o (.g [24,25,26])] (.o (.g 3))),(5040,.call 65 [.o (.g [13,5,6,7,27,28,29,31,32,33,23])] (.o .c)),(5041,.bin .neq 37 34 (kI 0))] (.b 35 (.s [(5045,.un .neg 6),(5048,.dv .quo 3 5 (kI 2)),(5049,.bin .add 3 (kI 1) 37),(5054,.call 65 [.o (.g [kI 1,5,6,7,36,38,kI 0,kI 0,kI 0,kI 0,kI 0])] (.o .c)),(5055,.bin .eql 37 39 (kI 0))] (.b 40 (.s [(0,.raw [(1005058,.dat 45 1 [.k (.int .i64 1),.h 5,.h 6,.h 7,.h 36,.h 38,.k (.int .i64 0),.k (.int .i64 0),.k (.int .i64 0),.k (.int .i64 0),.k (.int .i64 0)] 41)] 1),(0,.raw [(1005059,.app 45 11 901 1 2 41 [] false)] 0),(5065,.bin .add 3 4 (kI 1))] (.z (.nx (hZ 4 [42,36,38,kI 0]) [0,2] []))) (.s [(5057,.bin .add 3 4 (kI 1))] (.z (.nx (hZ 4 [41,5,6,7]) [0,1] []))))) (.s [(5043,.call 65 [.o (.g [13,5,6,7,27,28,29,31,32,33,23])] (.o .c)),(5044,.bin .eql 37 36 (kI 0))] (.b 37 (.s [(0,.raw [(1005047,.dat 45 1 [.h 13,.h 5,.h 6,.h 7,.h 27,.h 28,.h 29,.h 31,.h 32,.h 33,.h 23] 38)] 1),(0,.raw [(1005048,.app 45 11 901 1 2 38 [] false)] 0),(5054,.bin .add 3 4 (kI 1))] (.z (.nx (hZ 4 [39,27,28,29]) [0,2] []))) (.s [(5046,.bin .add 3 4 (kI 1))] (.z (.nx (hZ 4 [38,5,6,7]) [0,1] []))))))) (.s [(5034,.call 65 [.o (.g [13,5,6,7,27,28,29,20,21,22,23])] (.o .c)),(5035,.bin .neq 37 31 (kI 0))] (.b 32 (.s [(5039,.un .neg 6),(5042,.dv .quo 3 5 (kI 2)),(5043,.bin .add 3 (kI 1) 34),(5048,.call 65 [.o (.g [kI 1,5,6,7,33,35,kI 0,kI 0,kI 0,kI 0,kI 0])] (.o .c)),(5049,.bin .eql 37 36 (kI 0))] (.b 37 (.s [(0,.raw [(1005052,.dat 45 1 [.k (.int .i64 1),.h 5,.h 6,.h 7,.h 33,.h 35,.k (.int .i64 0),.k (.int .i64 0),.k (.int .i64 0),.k (.int .i64 0),.k (.int .i64 0)] 38)] 1),(0,.raw [(1005053,.app 45 11 901 1 2 38 [] false)] 0),(5059,.bin .add 3 4 (kI 1))] (.z (.nx (hZ 4 [39,33,35,kI 0]) [0,2] []))) (.s [(5051,.bin .add 3 4 (kI 1))] (.z (.nx (hZ 4 [38,5,6,7]) [0,1] []))))) (.s [(5037,.call 65 [.o (.g [13,5,6,7,27,28,29,20,21,22,23])] (.o .c)),(5038,.bin .eql 37 33 (kI 0))] (.b 34 (.s [(0,.raw [(1005041,.dat 45 1 [.h 13,.h 5,.h 6,.h 7,.h 27,.h 28,.h 29,.h 20,.h 21,.h 22,.h 23] 35)] 1),(0,.raw [(1005042,.app 45 11 901 1 2 35 [] false)] 0),(5048,.bin .add 3 4 (kI 1))] (.z (.nx (hZ 4 [36,27,28,29]) [0,2] []))) (.s [(5040,.bin .add 3 4 (kI 1))] (.z (.nx (hZ 4 [35,5,6,7]) [0,1] []))))))))) (.z (.xt (.x 0) (hZ 4 []) [0,1] [])))) (.z (.xt (.x 0) (hZ 4 []) [0,1] [])))
theorem zwC {w0:World} (l:(List (List Int))) (start:Vec) (o2:(List Mov)) (hl:∀x∈l,x.length≤100) (hO:zui (l.take 6) start=o2):LpH (KN w0) Tryz.prog 19 ⟨ntOf Tryz.prog 19,[],[]⟩ pvM_S 0 ⟨4,[sI start.2.2,sI start.2.1,sI start.1,.ls 1 cLI kLI l],[pG cM ([]:List Mov),pG cM o2],[]⟩:=by
 refine zi _ ⟨zva,pvM_S,(8,2,0),(4,2,0),5000⟩ (T:=Int×Vec×(List Mov)) (fun t=>⟨8,[sI t.2.1.2.2,sI t.2.1.2.1,sI t.2.1.1,sI t.1,sI start.2.2,sI start.2.1,sI start.1,.ls 1 cLI kLI l],[pG cM ([]:List Mov),pG cM t.2.2],[]⟩) (fun (i,p,o)=>∃k:Nat,i=(k:Int)∧k≤6∧o.length≤k∧o++zui ((l.take 6).drop k) p=o2) (fun (i,p,o)=>(6 - i).toNat) ((0:Int),start,([]:List Mov)) (hZ 4 [kI 0,1,2,3]) [0,0] [] pvM_t mixed ⟨0,rfl,Nat.zero_le _,Nat.zero_le _,hO⟩ rfl rfl rfl rfl (fun _=>rfl) rfl rfl (by kernel_rfl) ?_
 rintro ⟨i,p,o⟩ hJ
 dsimp only at hJ ⊢
 obtain ⟨k,hi,hk,hol,hs⟩:=hJ
 intro v501 e501 v502 e502
 refine ai (fun h503=>?_) fun h503=>?_
 ·
  intro v504 e504
  refine ai (fun h505=>?_) fun h505=>?_
  ·
   refine ai (by (have dh503:=LD e502 h503;have dh505:=LD e504 h505;have hz:=e501;have hlt:k<l.length:=(by omega);exact ⟨k,_,hi,List.getElem?_eq_getElem hlt⟩)) fun n506 x507 s508 s509=>?_
   obtain ⟨v510,e510⟩:=LX (madeM x507)
   have s511:x507.length<9223372036854775807:=by (have:=hl _ (List.mem_of_getElem? s509);omega)
   refine cx (.o (.g [sI v510.1,sI v510.2.1.1,sI v510.2.1.2.1,sI v510.2.1.2.2,sI v510.2.2.1.1,sI v510.2.2.1.2.1,sI v510.2.2.1.2.2,sI v510.2.2.2.1.1,sI v510.2.2.2.1.2.1,sI v510.2.2.2.1.2.2,sI v510.2.2.2.2])) (zwE x507 v510 e510 s511) rfl ?_
   obtain ⟨v512,e512⟩:=LX (subV p v510.2.1)
   refine cx (.o (.g [sI v512.1,sI v512.2.1,sI v512.2.2])) (zuG p v510.2.1 v512 e512) rfl ?_
   obtain ⟨v513,e513⟩:=LX (addV v510.2.2.1 v512)
   refine cx (.o (.g [sI v513.1,sI v513.2.1,sI v513.2.2])) (zpM v510.2.2.1 v512 v513 e513) rfl ?_
   intro v514 e514
   refine ai (fun h515=>?_) fun h515=>?_
   ·
    obtain ⟨v516,e516⟩:=LX (addV v510.2.2.2.1 v512)
    refine cx (.o (.g [sI v516.1,sI v516.2.1,sI v516.2.2])) (zpM v510.2.2.2.1 v512 v516 e516) rfl ?_
    obtain ⟨v517,e517⟩:=LX (chkM (v510.1,p,v513,v516,v510.2.2.2.2))
    refine cx (.o (.c (sI v517))) (zuw (v510.1,p,v513,v516,v510.2.2.2.2) v517 e517) rfl ?_
    intro v518 e518
    refine ai (fun h519=>?_) fun h519=>?_
    ·
     intro v520 e520
     refine ai (by decide) fun v521 e521=>?_
     intro v522 e522
     obtain ⟨v523,e523⟩:=LX (chkM ((1:Int),p,(v520,v522,(0:Int)),((0:Int),(0:Int),(0:Int)),(0:Int)))
     refine cx (.o (.c (sI v523))) (zuw ((1:Int),p,(v520,v522,(0:Int)),((0:Int),(0:Int),(0:Int)),(0:Int)) v523 e523) rfl ?_
     intro v524 e524
     refine ai (fun h525=>?_) fun h525=>?_
     ·
      obtain ⟨v526,e526⟩:=LX (([((1:Int),p,(v520,v522,(0:Int)),((0:Int),(0:Int),(0:Int)),(0:Int))]:List Mov))
      refine rx [.ls 11 cM kM v526] [] [] (fun t u w=>⟨e_dat (c:=cM) (l:=([((1:Int),p,(v520,v522,(0:Int)),((0:Int),(0:Int),(0:Int)),(0:Int))]:List Mov)) (ps:=(pV (.int .i64 1)::pI p.1::pI p.2.1::pI p.2.2::pI v520::pI v522::pV (.int .i64 0)::pV (.int .i64 0)::pV (.int .i64 0)::pV (.int .i64 0)::pV (.int .i64 0)::[])) (qs:=(pI ((1:Int),p,(v520,v522,(0:Int)),((0:Int),(0:Int),(0:Int)),(0:Int)).1::pI ((1:Int),p,(v520,v522,(0:Int)),((0:Int),(0:Int),(0:Int)),(0:Int)).2.1.1::pI ((1:Int),p,(v520,v522,(0:Int)),((0:Int),(0:Int),(0:Int)),(0:Int)).2.1.2.1::pI ((1:Int),p,(v520,v522,(0:Int)),((0:Int),(0:Int),(0:Int)),(0:Int)).2.1.2.2::pI ((1:Int),p,(v520,v522,(0:Int)),((0:Int),(0:Int),(0:Int)),(0:Int)).2.2.1.1::pI ((1:Int),p,(v520,v522,(0:Int)),((0:Int),(0:Int),(0:Int)),(0:Int)).2.2.1.2.1::pI ((1:Int),p,(v520,v522,(0:Int)),((0:Int),(0:Int),(0:Int)),(0:Int)).2.2.1.2.2::pI ((1:Int),p,(v520,v522,(0:Int)),((0:Int),(0:Int),(0:Int)),(0:Int)).2.2.2.1.1::pI ((1:Int),p,(v520,v522,(0:Int)),((0:Int),(0:Int),(0:Int)),(0:Int)).2.2.2.1.2.1::pI ((1:Int),p,(v520,v522,(0:Int)),((0:Int),(0:Int),(0:Int)),(0:Int)).2.2.2.1.2.2::pI ((1:Int),p,(v520,v522,(0:Int)),((0:Int),(0:Int),(0:Int)),(0:Int)).2.2.2.2::[])) (by rw [e526];rfl) rfl rfl rfl (pimps (fun _ _ _ h=>h) <| pimps (fun _ _ _ h=>h) <| pimps (fun _ _ _ h=>h) <| pimps (fun _ _ _ h=>h) <| pimps (fun _ _ _ h=>h) <| pimps (fun _ _ _ h=>h) <| pimps (fun _ _ _ h=>h) <| pimps (fun _ _ _ h=>h) <| pimps (fun _ _ _ h=>h) <| pimps (fun _ _ _ h=>h) <| pimps (fun _ _ _ h=>h) <| ze) rfl,trivial⟩) ?_
      obtain ⟨v527,e527⟩:=LX (o++v526)
      have s528:(o.length+v526.length)*11≤1099511627776:=by (rw [← e526];simp only [List.length_singleton];omega)
      refine rx [] [pG cM v527] [] (fun t u w=>⟨zV (c:=cM) qK (fun _=>rfl) rfl (by rw [e527];rfl) rfl s528,trivial⟩) ?_
      intro v529 e529
      refine nxl (v529,(v520,v522,(0:Int)),v527) ?_ ?_ rfl
      all_goals (have dh503:=LD e502 h503;have dh505:=LD e504 h505;have dh515:=eq_of_beq (e514.trans h515);have dh519:=bne_iff_ne.1 (e518.trans h519);have dh525:=eq_of_beq (e524.trans h525);have hz:=e501;have hkn:n506=k:=(by omega);subst hkn;have hx:(l.take 6)[n506]?=some x507:=(by rw [List.getElem?_take_of_lt (by omega)];exact s509);have hd:=zug (p:=p) hx;have hA:mvA (madeM x507) p=(v510.1,p,v513,v516,v510.2.2.2.2):=(by rw [e510,mvA,e512,e513,if_pos (beq_iff_eq.1 (e514.trans h515)),e516]);have hB:mvB (v510.1,p,v513,v516,v510.2.2.2.2) p=((1:Int),p,(v520,v522,(0:Int)),((0:Int),(0:Int),(0:Int)),(0:Int)):=(by rw [mvB,e517,if_pos (bne_iff_ne.1 (e518.trans h519)),e520,e521,e522]);rw [hA,hB,e523] at hd;have x3:v529=((n506+1:Nat):Int):=(by rw [← e529,hi,wri (by omega)];omega);rw [if_pos (beq_iff_eq.1 (e524.trans h525))] at hd)
      ·show (6 - v529).toNat<(6 - i).toNat
       omega
      ·exact ⟨n506+1,x3,by omega,by rw [← e527,← e526,List.length_append,List.length_singleton];omega,by rw [← hs,hd,← e527,← e526,List.append_assoc];rfl⟩
     ·
      intro v526 e526
      refine nxl (v526,p,o) ?_ ?_ rfl
      all_goals (have dh503:=LD e502 h503;have dh505:=LD e504 h505;have dh515:=eq_of_beq (e514.trans h515);have dh519:=bne_iff_ne.1 (e518.trans h519);have dh525:=ne_of_beq_false (e524.trans h525);have hz:=e501;have hkn:n506=k:=(by omega);subst hkn;have hx:(l.take 6)[n506]?=some x507:=(by rw [List.getElem?_take_of_lt (by omega)];exact s509);have hd:=zug (p:=p) hx;have hA:mvA (madeM x507) p=(v510.1,p,v513,v516,v510.2.2.2.2):=(by rw [e510,mvA,e512,e513,if_pos (beq_iff_eq.1 (e514.trans h515)),e516]);have hB:mvB (v510.1,p,v513,v516,v510.2.2.2.2) p=((1:Int),p,(v520,v522,(0:Int)),((0:Int),(0:Int),(0:Int)),(0:Int)):=(by rw [mvB,e517,if_pos (bne_iff_ne.1 (e518.trans h519)),e520,e521,e522]);rw [hA,hB,e523] at hd;have x3:v526=((n506+1:Nat):Int):=(by rw [← e526,hi,wri (by omega)];omega);rw [if_neg (beq_eq_false_iff_ne.1 (e524.trans h525))] at hd)
      ·show (6 - v526).toNat<(6 - i).toNat
       omega
      ·exact ⟨n506+1,x3,by omega,by show o.length≤n506+1;omega,by rw [← hs,hd]⟩
    ·
     obtain ⟨v520,e520⟩:=LX (chkM (v510.1,p,v513,v516,v510.2.2.2.2))
     refine cx (.o (.c (sI v520))) (zuw (v510.1,p,v513,v516,v510.2.2.2.2) v520 e520) rfl ?_
     intro v521 e521
     refine ai (fun h522=>?_) fun h522=>?_
     ·
      obtain ⟨v523,e523⟩:=LX (([(v510.1,p,v513,v516,v510.2.2.2.2)]:List Mov))
      refine rx [.ls 11 cM kM v523] [] [] (fun t u w=>⟨e_dat (c:=cM) (l:=([(v510.1,p,v513,v516,v510.2.2.2.2)]:List Mov)) (ps:=(pI v510.1::pI p.1::pI p.2.1::pI p.2.2::pI v513.1::pI v513.2.1::pI v513.2.2::pI v516.1::pI v516.2.1::pI v516.2.2::pI v510.2.2.2.2::[])) (qs:=(pI (v510.1,p,v513,v516,v510.2.2.2.2).1::pI (v510.1,p,v513,v516,v510.2.2.2.2).2.1.1::pI (v510.1,p,v513,v516,v510.2.2.2.2).2.1.2.1::pI (v510.1,p,v513,v516,v510.2.2.2.2).2.1.2.2::pI (v510.1,p,v513,v516,v510.2.2.2.2).2.2.1.1::pI (v510.1,p,v513,v516,v510.2.2.2.2).2.2.1.2.1::pI (v510.1,p,v513,v516,v510.2.2.2.2).2.2.1.2.2::pI (v510.1,p,v513,v516,v510.2.2.2.2).2.2.2.1.1::pI (v510.1,p,v513,v516,v510.2.2.2.2).2.2.2.1.2.1::pI (v510.1,p,v513,v516,v510.2.2.2.2).2.2.2.1.2.2::pI (v510.1,p,v513,v516,v510.2.2.2.2).2.2.2.2::[])) (by rw [e523];rfl) rfl rfl rfl (pimps (fun _ _ _ h=>h) <| pimps (fun _ _ _ h=>h) <| pimps (fun _ _ _ h=>h) <| pimps (fun _ _ _ h=>h) <| pimps (fun _ _ _ h=>h) <| pimps (fun _ _ _ h=>h) <| pimps (fun _ _ _ h=>h) <| pimps (fun _ _ _ h=>h) <| pimps (fun _ _ _ h=>h) <| pimps (fun _ _ _ h=>h) <| pimps (fun _ _ _ h=>h) <| ze) rfl,trivial⟩) ?_
      obtain ⟨v524,e524⟩:=LX (o++v523)
      have s525:(o.length+v523.length)*11≤1099511627776:=by (rw [← e523];simp only [List.length_singleton];omega)
      refine rx [] [pG cM v524] [] (fun t u w=>⟨zV (c:=cM) qK (fun _=>rfl) rfl (by rw [e524];rfl) rfl s525,trivial⟩) ?_
      intro v526 e526
      refine nxl (v526,v513,v524) ?_ ?_ rfl
      all_goals (have dh503:=LD e502 h503;have dh505:=LD e504 h505;have dh515:=eq_of_beq (e514.trans h515);have dh519:=bne_eq_false_iff_eq.1 (e518.trans h519);have dh522:=eq_of_beq (e521.trans h522);have hz:=e501;have hkn:n506=k:=(by omega);subst hkn;have hx:(l.take 6)[n506]?=some x507:=(by rw [List.getElem?_take_of_lt (by omega)];exact s509);have hd:=zug (p:=p) hx;have hA:mvA (madeM x507) p=(v510.1,p,v513,v516,v510.2.2.2.2):=(by rw [e510,mvA,e512,e513,if_pos (beq_iff_eq.1 (e514.trans h515)),e516]);have hB:mvB (v510.1,p,v513,v516,v510.2.2.2.2) p=(v510.1,p,v513,v516,v510.2.2.2.2):=(by rw [mvB,e517,if_neg (fun e=>e (bne_eq_false_iff_eq.1 (e518.trans h519)))]);rw [hA,hB,e520] at hd;have x3:v526=((n506+1:Nat):Int):=(by rw [← e526,hi,wri (by omega)];omega);rw [if_pos (beq_iff_eq.1 (e521.trans h522))] at hd)
      ·show (6 - v526).toNat<(6 - i).toNat
       omega
      ·exact ⟨n506+1,x3,by omega,by rw [← e524,← e523,List.length_append,List.length_singleton];omega,by rw [← hs,hd,← e524,← e523,List.append_assoc];rfl⟩
     ·
      intro v523 e523
      refine nxl (v523,p,o) ?_ ?_ rfl
      all_goals (have dh503:=LD e502 h503;have dh505:=LD e504 h505;have dh515:=eq_of_beq (e514.trans h515);have dh519:=bne_eq_false_iff_eq.1 (e518.trans h519);have dh522:=ne_of_beq_false (e521.trans h522);have hz:=e501;have hkn:n506=k:=(by omega);subst hkn;have hx:(l.take 6)[n506]?=some x507:=(by rw [List.getElem?_take_of_lt (by omega)];exact s509);have hd:=zug (p:=p) hx;have hA:mvA (madeM x507) p=(v510.1,p,v513,v516,v510.2.2.2.2):=(by rw [e510,mvA,e512,e513,if_pos (beq_iff_eq.1 (e514.trans h515)),e516]);have hB:mvB (v510.1,p,v513,v516,v510.2.2.2.2) p=(v510.1,p,v513,v516,v510.2.2.2.2):=(by rw [mvB,e517,if_neg (fun e=>e (bne_eq_false_iff_eq.1 (e518.trans h519)))]);rw [hA,hB,e520] at hd;have x3:v523=((n506+1:Nat):Int):=(by rw [← e523,hi,wri (by omega)];omega);rw [if_neg (beq_eq_false_iff_ne.1 (e521.trans h522))] at hd)
      ·show (6 - v523).toNat<(6 - i).toNat
       omega
      ·exact ⟨n506+1,x3,by omega,by show o.length≤n506+1;omega,by rw [← hs,hd]⟩
   ·
    obtain ⟨v516,e516⟩:=LX (chkM (v510.1,p,v513,v510.2.2.2.1,v510.2.2.2.2))
    refine cx (.o (.c (sI v516))) (zuw (v510.1,p,v513,v510.2.2.2.1,v510.2.2.2.2) v516 e516) rfl ?_
    intro v517 e517
    refine ai (fun h518=>?_) fun h518=>?_
    ·
     intro v519 e519
     refine ai (by decide) fun v520 e520=>?_
     intro v521 e521
     obtain ⟨v522,e522⟩:=LX (chkM ((1:Int),p,(v519,v521,(0:Int)),((0:Int),(0:Int),(0:Int)),(0:Int)))
     refine cx (.o (.c (sI v522))) (zuw ((1:Int),p,(v519,v521,(0:Int)),((0:Int),(0:Int),(0:Int)),(0:Int)) v522 e522) rfl ?_
     intro v523 e523
     refine ai (fun h524=>?_) fun h524=>?_
     ·
      obtain ⟨v525,e525⟩:=LX (([((1:Int),p,(v519,v521,(0:Int)),((0:Int),(0:Int),(0:Int)),(0:Int))]:List Mov))
      refine rx [.ls 11 cM kM v525] [] [] (fun t u w=>⟨e_dat (c:=cM) (l:=([((1:Int),p,(v519,v521,(0:Int)),((0:Int),(0:Int),(0:Int)),(0:Int))]:List Mov)) (ps:=(pV (.int .i64 1)::pI p.1::pI p.2.1::pI p.2.2::pI v519::pI v521::pV (.int .i64 0)::pV (.int .i64 0)::pV (.int .i64 0)::pV (.int .i64 0)::pV (.int .i64 0)::[])) (qs:=(pI ((1:Int),p,(v519,v521,(0:Int)),((0:Int),(0:Int),(0:Int)),(0:Int)).1::pI ((1:Int),p,(v519,v521,(0:Int)),((0:Int),(0:Int),(0:Int)),(0:Int)).2.1.1::pI ((1:Int),p,(v519,v521,(0:Int)),((0:Int),(0:Int),(0:Int)),(0:Int)).2.1.2.1::pI ((1:Int),p,(v519,v521,(0:Int)),((0:Int),(0:Int),(0:Int)),(0:Int)).2.1.2.2::pI ((1:Int),p,(v519,v521,(0:Int)),((0:Int),(0:Int),(0:Int)),(0:Int)).2.2.1.1::pI ((1:Int),p,(v519,v521,(0:Int)),((0:Int),(0:Int),(0:Int)),(0:Int)).2.2.1.2.1::pI ((1:Int),p,(v519,v521,(0:Int)),((0:Int),(0:Int),(0:Int)),(0:Int)).2.2.1.2.2::pI ((1:Int),p,(v519,v521,(0:Int)),((0:Int),(0:Int),(0:Int)),(0:Int)).2.2.2.1.1::pI ((1:Int),p,(v519,v521,(0:Int)),((0:Int),(0:Int),(0:Int)),(0:Int)).2.2.2.1.2.1::pI ((1:Int),p,(v519,v521,(0:Int)),((0:Int),(0:Int),(0:Int)),(0:Int)).2.2.2.1.2.2::pI ((1:Int),p,(v519,v521,(0:Int)),((0:Int),(0:Int),(0:Int)),(0:Int)).2.2.2.2::[])) (by rw [e525];rfl) rfl rfl rfl (pimps (fun _ _ _ h=>h) <| pimps (fun _ _ _ h=>h) <| pimps (fun _ _ _ h=>h) <| pimps (fun _ _ _ h=>h) <| pimps (fun _ _ _ h=>h) <| pimps (fun _ _ _ h=>h) <| pimps (fun _ _ _ h=>h) <| pimps (fun _ _ _ h=>h) <| pimps (fun _ _ _ h=>h) <| pimps (fun _ _ _ h=>h) <| pimps (fun _ _ _ h=>h) <| ze) rfl,trivial⟩) ?_
      obtain ⟨v526,e526⟩:=LX (o++v525)
      have s527:(o.length+v525.length)*11≤1099511627776:=by (rw [← e525];simp only [List.length_singleton];omega)
      refine rx [] [pG cM v526] [] (fun t u w=>⟨zV (c:=cM) qK (fun _=>rfl) rfl (by rw [e526];rfl) rfl s527,trivial⟩) ?_
      intro v528 e528
      refine nxl (v528,(v519,v521,(0:Int)),v526) ?_ ?_ rfl
      all_goals (have dh503:=LD e502 h503;have dh505:=LD e504 h505;have dh515:=ne_of_beq_false (e514.trans h515);have dh518:=bne_iff_ne.1 (e517.trans h518);have dh524:=eq_of_beq (e523.trans h524);have hz:=e501;have hkn:n506=k:=(by omega);subst hkn;have hx:(l.take 6)[n506]?=some x507:=(by rw [List.getElem?_take_of_lt (by omega)];exact s509);have hd:=zug (p:=p) hx;have hA:mvA (madeM x507) p=(v510.1,p,v513,v510.2.2.2.1,v510.2.2.2.2):=(by rw [e510,mvA,e512,e513,if_neg (beq_eq_false_iff_ne.1 (e514.trans h515))]);have hB:mvB (v510.1,p,v513,v510.2.2.2.1,v510.2.2.2.2) p=((1:Int),p,(v519,v521,(0:Int)),((0:Int),(0:Int),(0:Int)),(0:Int)):=(by rw [mvB,e516,if_pos (bne_iff_ne.1 (e517.trans h518)),e519,e520,e521]);rw [hA,hB,e522] at hd;have x3:v528=((n506+1:Nat):Int):=(by rw [← e528,hi,wri (by omega)];omega);rw [if_pos (beq_iff_eq.1 (e523.trans h524))] at hd)
      ·show (6 - v528).toNat<(6 - i).toNat
       omega
      ·exact ⟨n506+1,x3,by omega,by rw [← e526,← e525,List.length_append,List.length_singleton];omega,by rw [← hs,hd,← e526,← e525,List.append_assoc];rfl⟩
     ·
      intro v525 e525
      refine nxl (v525,p,o) ?_ ?_ rfl
      all_goals (have dh503:=LD e502 h503;have dh505:=LD e504 h505;have dh515:=ne_of_beq_false (e514.trans h515);have dh518:=bne_iff_ne.1 (e517.trans h518);have dh524:=ne_of_beq_false (e523.trans h524);have hz:=e501;have hkn:n506=k:=(by omega);subst hkn;have hx:(l.take 6)[n506]?=some x507:=(by rw [List.getElem?_take_of_lt (by omega)];exact s509);have hd:=zug (p:=p) hx;have hA:mvA (madeM x507) p=(v510.1,p,v513,v510.2.2.2.1,v510.2.2.2.2):=(by rw [e510,mvA,e512,e513,if_neg (beq_eq_false_iff_ne.1 (e514.trans h515))]);have hB:mvB (v510.1,p,v513,v510.2.2.2.1,v510.2.2.2.2) p=((1:Int),p,(v519,v521,(0:Int)),((0:Int),(0:Int),(0:Int)),(0:Int)):=(by rw [mvB,e516,if_pos (bne_iff_ne.1 (e517.trans h518)),e519,e520,e521]);rw [hA,hB,e522] at hd;have x3:v525=((n506+1:Nat):Int):=(by rw [← e525,hi,wri (by omega)];omega);rw [if_neg (beq_eq_false_iff_ne.1 (e523.trans h524))] at hd)
      ·show (6 - v525).toNat<(6 - i).toNat
       omega
      ·exact ⟨n506+1,x3,by omega,by show o.length≤n506+1;omega,by rw [← hs,hd]⟩
    ·
     obtain ⟨v519,e519⟩:=LX (chkM (v510.1,p,v513,v510.2.2.2.1,v510.2.2.2.2))
     refine cx (.o (.c (sI v519))) (zuw (v510.1,p,v513,v510.2.2.2.1,v510.2.2.2.2) v519 e519) rfl ?_
     intro v520 e520
     refine ai (fun h521=>?_) fun h521=>?_
     ·
      obtain ⟨v522,e522⟩:=LX (([(v510.1,p,v513,v510.2.2.2.1,v510.2.2.2.2)]:List Mov))
      refine rx [.ls 11 cM kM v522] [] [] (fun t u w=>⟨e_dat (c:=cM) (l:=([(v510.1,p,v513,v510.2.2.2.1,v510.2.2.2.2)]:List Mov)) (ps:=(pI v510.1::pI p.1::pI p.2.1::pI p.2.2::pI v513.1::pI v513.2.1::pI v513.2.2::pI v510.2.2.2.1.1::pI v510.2.2.2.1.2.1::pI v510.2.2.2.1.2.2::pI v510.2.2.2.2::[])) (qs:=(pI (v510.1,p,v513,v510.2.2.2.1,v510.2.2.2.2).1::pI (v510.1,p,v513,v510.2.2.2.1,v510.2.2.2.2).2.1.1::pI (v510.1,p,v513,v510.2.2.2.1,v510.2.2.2.2).2.1.2.1::pI (v510.1,p,v513,v510.2.2.2.1,v510.2.2.2.2).2.1.2.2::pI (v510.1,p,v513,v510.2.2.2.1,v510.2.2.2.2).2.2.1.1::pI (v510.1,p,v513,v510.2.2.2.1,v510.2.2.2.2).2.2.1.2.1::pI (v510.1,p,v513,v510.2.2.2.1,v510.2.2.2.2).2.2.1.2.2::pI (v510.1,p,v513,v510.2.2.2.1,v510.2.2.2.2).2.2.2.1.1::pI (v510.1,p,v513,v510.2.2.2.1,v510.2.2.2.2).2.2.2.1.2.1::pI (v510.1,p,v513,v510.2.2.2.1,v510.2.2.2.2).2.2.2.1.2.2::pI (v510.1,p,v513,v510.2.2.2.1,v510.2.2.2.2).2.2.2.2::[])) (by rw [e522];rfl) rfl rfl rfl (pimps (fun _ _ _ h=>h) <| pimps (fun _ _ _ h=>h) <| pimps (fun _ _ _ h=>h) <| pimps (fun _ _ _ h=>h) <| pimps (fun _ _ _ h=>h) <| pimps (fun _ _ _ h=>h) <| pimps (fun _ _ _ h=>h) <| pimps (fun _ _ _ h=>h) <| pimps (fun _ _ _ h=>h) <| pimps (fun _ _ _ h=>h) <| pimps (fun _ _ _ h=>h) <| ze) rfl,trivial⟩) ?_
      obtain ⟨v523,e523⟩:=LX (o++v522)
      have s524:(o.length+v522.length)*11≤1099511627776:=by (rw [← e522];simp only [List.length_singleton];omega)
      refine rx [] [pG cM v523] [] (fun t u w=>⟨zV (c:=cM) qK (fun _=>rfl) rfl (by rw [e523];rfl) rfl s524,trivial⟩) ?_
      intro v525 e525
      refine nxl (v525,v513,v523) ?_ ?_ rfl
      all_goals (have dh503:=LD e502 h503;have dh505:=LD e504 h505;have dh515:=ne_of_beq_false (e514.trans h515);have dh518:=bne_eq_false_iff_eq.1 (e517.trans h518);have dh521:=eq_of_beq (e520.trans h521);have hz:=e501;have hkn:n506=k:=(by omega);subst hkn;have hx:(l.take 6)[n506]?=some x507:=(by rw [List.getElem?_take_of_lt (by omega)];exact s509);have hd:=zug (p:=p) hx;have hA:mvA (madeM x507) p=(v510.1,p,v513,v510.2.2.2.1,v510.2.2.2.2):=(by rw [e510,mvA,e512,e513,if_neg (beq_eq_false_iff_ne.1 (e514.trans h515))]);have hB:mvB (v510.1,p,v513,v510.2.2.2.1,v510.2.2.2.2) p=(v510.1,p,v513,v510.2.2.2.1,v510.2.2.2.2):=(by rw [mvB,e516,if_neg (fun e=>e (bne_eq_false_iff_eq.1 (e517.trans h518)))]);rw [hA,hB,e519] at hd;have x3:v525=((n506+1:Nat):Int):=(by rw [← e525,hi,wri (by omega)];omega);rw [if_pos (beq_iff_eq.1 (e520.trans h521))] at hd)
      ·show (6 - v525).toNat<(6 - i).toNat
       omega
      ·exact ⟨n506+1,x3,by omega,by rw [← e523,← e522,List.length_append,List.length_singleton];omega,by rw [← hs,hd,← e523,← e522,List.append_assoc];rfl⟩
     ·
      intro v522 e522
      refine nxl (v522,p,o) ?_ ?_ rfl
      all_goals (have dh503:=LD e502 h503;have dh505:=LD e504 h505;have dh515:=ne_of_beq_false (e514.trans h515);have dh518:=bne_eq_false_iff_eq.1 (e517.trans h518);have dh521:=ne_of_beq_false (e520.trans h521);have hz:=e501;have hkn:n506=k:=(by omega);subst hkn;have hx:(l.take 6)[n506]?=some x507:=(by rw [List.getElem?_take_of_lt (by omega)];exact s509);have hd:=zug (p:=p) hx;have hA:mvA (madeM x507) p=(v510.1,p,v513,v510.2.2.2.1,v510.2.2.2.2):=(by rw [e510,mvA,e512,e513,if_neg (beq_eq_false_iff_ne.1 (e514.trans h515))]);have hB:mvB (v510.1,p,v513,v510.2.2.2.1,v510.2.2.2.2) p=(v510.1,p,v513,v510.2.2.2.1,v510.2.2.2.2):=(by rw [mvB,e516,if_neg (fun e=>e (bne_eq_false_iff_eq.1 (e517.trans h518)))]);rw [hA,hB,e519] at hd;have x3:v522=((n506+1:Nat):Int):=(by rw [← e522,hi,wri (by omega)];omega);rw [if_neg (beq_eq_false_iff_ne.1 (e520.trans h521))] at hd)
      ·show (6 - v522).toNat<(6 - i).toNat
       omega
      ·exact ⟨n506+1,x3,by omega,by show o.length≤n506+1;omega,by rw [← hs,hd]⟩
  ·
   have hq:((o)=o2)∧True:=by
    refine ⟨?_,trivial⟩
    (have dh503:=LD e502 h503;have dh505:=LE e504 h505;have hz:=e501;rw [List.drop_eq_nil_of_le (by rw [List.length_take];omega),zui,List.append_nil] at hs;exact hs)
   obtain ⟨q0,-⟩:=hq
   rw [← q0]
   rfl
 ·
  have hq:((o)=o2)∧True:=by
   refine ⟨?_,trivial⟩
   (have dh503:=LE e502 h503;have hz:=e501;rw [List.drop_eq_nil_of_le (by rw [List.length_take];omega),zui,List.append_nil] at hs;exact hs)
  obtain ⟨q0,-⟩:=hq
  rw [← q0]
  rfl
def zvP:Tr:=.s [(0,.gh ⟨1,[.sl 5 (.o (.c (.k (.slice none 0 0)))),.gn 901],[.sl 5 (.o (.c (.gr 901))),.gl 901 45 11 0],[]⟩ 0),(0,.lp pvM_S 0 0),(0,.gh ⟨17,.gl 901 45 11 1::[4].map (fun s=>.sl s (.o (.c (.gr 901)))),[4].map (fun s=>.sl s 4),[901]⟩ 1)] (.z (.ret false (4) []))
theorem zwl {w0:World} (l:List (List Int)) (start:Vec) (r:List Mov) (hr:zui (l.take 6) start=r) (hl:∀x∈l,x.length≤100):Fun (KN w0) Tryz.prog 19 [.o (.c (pLs cLI l)),.o (.g [pI start.1,pI start.2.1,pI start.2.2])] (.o (.c (pLs cM r))):=by
 refine tfn w0 19 ⟨[0,.o (.g [1,2,3])],[],[901],0,0⟩ ⟨4,[sI start.2.2,sI start.2.1,sI start.1,.ls 1 cLI kLI l],[],[]⟩ zvP (by kernel_rfl) ?_
 refine rx [] [pG cM ([]:List Mov)] [] (fun t u w _=>zbT (c:=cM) rfl) ?_
 obtain ⟨o2,hO_pvM⟩:∃(o2:(List Mov)),zui (l.take 6) start=o2:=⟨_,rfl⟩
 refine rx [] [pG cM o2] [] (zwC l start  o2  hl hO_pvM) ?_
 refine rx [.ls 11 cM kM o2] [] [] (fun t u w _=>qS (c:=cM) (fun _=>rfl) (by decide) qK rfl rfl) ?_
 intro hc
 refine Fun.fin (r:=.o (.c (pLs cM o2))) (zc (hc)) (fun v W D h=>?_)
 have r0:r=o2:=by
  exact hr.symm.trans hO_pvM
 rw [r0];exact h
end Go.Proofs.YteimplkdcjapdaaGreatDoor
