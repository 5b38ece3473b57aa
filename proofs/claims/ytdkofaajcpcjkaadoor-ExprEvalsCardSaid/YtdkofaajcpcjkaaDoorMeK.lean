/-
  Merged: ExC.
-/
import Derived.Test.YtdkofaajcpcjkaaDoorMeJ
set_option linter.unusedSimpArgs false
set_option linter.unusedVariables false
namespace Go.Proofs.YtdkofaajcpcjkaaDoor
open Go.RowKit
theorem ziT {w0:World} (n:Int) (v1:Bool) (v3:Bool) (e1:(decide (n ≥ (-1048576:Int)))=v1) (e3:(decide (n≤(1048576:Int)))=v3) (h2:v1=true):Fun (KN w0) Tryd.prog 40 [.o (.c (pI n))] (.o (.c (pB v3))):=
 zi (zk (F:=FL [pI n,pB v1,pB v3] []) (C:=[(1000002,.bin .geq 3 (yh 0) (LF (.k (.int .i64 (-1048576)))) (yh 1)),
  (10001,.fb 1 true),
  (1000005,.bin .leq 3 (yh 0) (LF (.k (.int .i64 1048576))) (yh 2))]) (k:=⟨40,[yh 0],[],yh 2,[]⟩) 0 (zg ⟨za,za,za,trivial⟩) ⟨e_bin (zb rfl) zd (zb rfl) (r_cmp (congrArg some e1)),
  e_fbv h2,
  e_bin (zb rfl) zd (zb rfl) (r_cmp (congrArg some e3)),
  trivial⟩ mixed (by kernel_rfl))
theorem ziU {w0:World} (n:Int) (v1:Bool) (e1:(decide (n ≥ (-1048576:Int)))=v1) (h2:v1=false):Fun (KN w0) Tryd.prog 40 [.o (.c (pI n))] (.o (.c (pV (.bool false)))):=
 zi (zk (F:=FL [pI n,pB v1] []) (C:=[(1000002,.bin .geq 3 (yh 0) (LF (.k (.int .i64 (-1048576)))) (yh 1)),
  (10001,.fb 1 false)]) (k:=⟨40,[yh 0],[],.o (.c (.k (.bool false))),[]⟩) 0 (zg ⟨za,za,trivial⟩) ⟨e_bin (zb rfl) zd (zb rfl) (r_cmp (congrArg some e1)),
  e_fbv h2,
  trivial⟩ mixed (by kernel_rfl))
theorem zW {w0:World} (n:Int) (r:Bool) (hr:valB n=r):Fun (KN w0) Tryd.prog 40 [.o (.c (pI n))] (.o (.c (pB r))):=by
 obtain ⟨v1,e1⟩:∃v,(decide (n ≥ (-1048576:Int)))=v:=⟨_,rfl⟩
 cases h2:v1 with
 | true =>
  obtain ⟨v3,e3⟩:∃v,(decide (n≤(1048576:Int)))=v:=⟨_,rfl⟩
  refine Fun.imp (ziT n v1 v3 e1 e3 h2) (fun _ _ _ h=>h) (fun v W D h=>?_)
  have r0:r=v3:=by
   rw [← hr];unfold valB;simp_all;try omega
  rw [r0];exact h
 | false =>
  refine Fun.imp (ziU n v1 e1 h2) (fun _ _ _ h=>h) (fun v W D h=>?_)
  have r0:r=false:=by
   rw [← hr];unfold valB;simp_all;try omega
  rw [r0];exact h
theorem zgR {w0:World} (n:Int) (v1:Bool) (v3:Bool) (e1:(decide (n ≥ (-1048576:Int)))=v1) (e3:(decide (n≤(1048576:Int)))=v3) (h2:v1=true):Fun (KN w0) Tryd.prog 60 [.o (.c (pI n))] (.o (.c (pB v3))):=
 zi (zk (F:=FL [pI n,pB v1,pB v3] []) (C:=[(1000002,.bin .geq 3 (yh 0) (LF (.k (.int .i64 (-1048576)))) (yh 1)),
  (10001,.fb 1 true),
  (1000005,.bin .leq 3 (yh 0) (LF (.k (.int .i64 1048576))) (yh 2))]) (k:=⟨60,[yh 0],[],yh 2,[]⟩) 0 (zg ⟨za,za,za,trivial⟩) ⟨e_bin (zb rfl) zd (zb rfl) (r_cmp (congrArg some e1)),
  e_fbv h2,
  e_bin (zb rfl) zd (zb rfl) (r_cmp (congrArg some e3)),
  trivial⟩ mixed (by kernel_rfl))
theorem zgS {w0:World} (n:Int) (v1:Bool) (e1:(decide (n ≥ (-1048576:Int)))=v1) (h2:v1=false):Fun (KN w0) Tryd.prog 60 [.o (.c (pI n))] (.o (.c (pV (.bool false)))):=
 zi (zk (F:=FL [pI n,pB v1] []) (C:=[(1000002,.bin .geq 3 (yh 0) (LF (.k (.int .i64 (-1048576)))) (yh 1)),
  (10001,.fb 1 false)]) (k:=⟨60,[yh 0],[],.o (.c (.k (.bool false))),[]⟩) 0 (zg ⟨za,za,trivial⟩) ⟨e_bin (zb rfl) zd (zb rfl) (r_cmp (congrArg some e1)),
  e_fbv h2,
  trivial⟩ mixed (by kernel_rfl))
theorem zcF {w0:World} (n:Int) (r:Bool) (hr:valB n=r):Fun (KN w0) Tryd.prog 60 [.o (.c (pI n))] (.o (.c (pB r))):=by
 obtain ⟨v1,e1⟩:∃v,(decide (n ≥ (-1048576:Int)))=v:=⟨_,rfl⟩
 cases h2:v1 with
 | true =>
  obtain ⟨v3,e3⟩:∃v,(decide (n≤(1048576:Int)))=v:=⟨_,rfl⟩
  refine Fun.imp (zgR n v1 v3 e1 e3 h2) (fun _ _ _ h=>h) (fun v W D h=>?_)
  have r0:r=v3:=by
   rw [← hr];unfold valB;simp_all;try omega
  rw [r0];exact h
 | false =>
  refine Fun.imp (zgS n v1 e1 h2) (fun _ _ _ h=>h) (fun v W D h=>?_)
  have r0:r=false:=by
   rw [← hr];unfold valB;simp_all;try omega
  rw [r0];exact h
theorem zgw {w0:World} (e:Xp) (a:Int) (v1:Bool) (v3:Int) (v4:Bool) (e1:((e.op == (1:Int)))=v1) (e3:((e.l.length:Int))=v3) (e4:(decide (v3 > (0:Int)))=v4) (h2:v1=true) (h5:v4=true):Fun (KN w0) Tryd.prog 57 [.o (.g [pI e.op,pI e.n,pLs cE e.l]),.o (.c (pI a))] (.o (.c (pV (.int .i64 4)))):=
 zi (zk (F:=FL [pI e.op,pI e.n,pLs cE e.l,pI a,pB v1,pI v3,pB v4] []) (C:=[(1000004,.bin .eql 3 (yh 0) (LF (.k (.int .i64 1))) (yh 4)),
  (10004,.fb 4 true),
  (1000008,.op (.len [28] 3) [yh 2] [] (yh 5)),
  (1000009,.bin .gtr 3 (yh 5) (LF (.k (.int .i64 0))) (yh 6)),
  (10006,.fb 6 true)]) (k:=⟨57,[.o (.g [.h 0,.h 1,.h 2]),yh 3],[],.o (.c (.k (.int .i64 4))),[]⟩) 0 (zg ⟨za,za,(ze (zf rfl)),za,za,za,za,trivial⟩) ⟨e_bin (zb rfl) zd (zb rfl) (r_cmp (congrArg some e1)),
  e_fbv h2,
  zn (E:=31) (by kernel_rfl) (zc rfl) (zb (by rw [← e3];rfl)),
  e_bin (zb rfl) zd (zb rfl) (r_cmp (congrArg some e4)),
  e_fbv h5,
  trivial⟩ mixed (by kernel_rfl))
theorem zgx {w0:World} (e:Xp) (a:Int) (v1:Bool) (v3:Int) (v4:Bool) (v6:Bool) (v8:Bool) (v9:Bool) (e1:((e.op == (1:Int)))=v1) (e3:((e.l.length:Int))=v3) (e4:(decide (v3 > (0:Int)))=v4) (e6:((e.op == (1:Int)))=v6) (e8:(valB e.n)=v8) (e9:(!v8)=v9) (h2:v1=true) (h5:v4=false) (h7:v6=true) (h10:v9=true):Fun (KN w0) Tryd.prog 57 [.o (.g [pI e.op,pI e.n,pLs cE e.l]),.o (.c (pI a))] (.o (.c (pV (.int .i64 3)))):=
 zi (zk (F:=FL [pI e.op,pI e.n,pLs cE e.l,pI a,pB v1,pI v3,pB v4,pB v6,pB v8,pB v9] []) (C:=[(1000004,.bin .eql 3 (yh 0) (LF (.k (.int .i64 1))) (yh 4)),
  (10004,.fb 4 true),
  (1000008,.op (.len [28] 3) [yh 2] [] (yh 5)),
  (1000009,.bin .gtr 3 (yh 5) (LF (.k (.int .i64 0))) (yh 6)),
  (10006,.fb 6 false),
  (1000013,.bin .eql 3 (yh 0) (LF (.k (.int .i64 1))) (yh 7)),
  (10007,.fb 7 true),
  (1000017,.call ⟨40,[yh 1],[],yh 8,[]⟩),
  (1000018,.un .not (yh 8) (yh 9)),
  (10009,.fb 9 true)]) (k:=⟨57,[.o (.g [.h 0,.h 1,.h 2]),yh 3],[],.o (.c (.k (.int .i64 3))),[]⟩) 0 (zg ⟨za,za,(ze (zf rfl)),za,za,za,za,za,za,za,trivial⟩) ⟨e_bin (zb rfl) zd (zb rfl) (r_cmp (congrArg some e1)),
  e_fbv h2,
  zn (E:=31) (by kernel_rfl) (zc rfl) (zb (by rw [← e3];rfl)),
  e_bin (zb rfl) zd (zb rfl) (r_cmp (congrArg some e4)),
  e_fbv h5,
  e_bin (zb rfl) zd (zb rfl) (r_cmp (congrArg some e6)),
  e_fbv h7,
  zh (zW e.n v8 e8),
  e_un (zb rfl) (zb rfl) (fun W=>by rw [← e9];exact r_not W),
  e_fbv h10,
  trivial⟩ mixed (by kernel_rfl))
theorem zgy {w0:World} (e:Xp) (a:Int) (v1:Bool) (v3:Int) (v4:Bool) (v6:Bool) (v8:Bool) (v9:Bool) (v11:Bool) (v13:Bool) (e1:((e.op == (1:Int)))=v1) (e3:((e.l.length:Int))=v3) (e4:(decide (v3 > (0:Int)))=v4) (e6:((e.op == (1:Int)))=v6) (e8:(valB e.n)=v8) (e9:(!v8)=v9) (e11:((e.op == (2:Int)))=v11) (e13:(decide (e.n<(0:Int)))=v13) (h2:v1=true) (h5:v4=false) (h7:v6=true) (h10:v9=false) (h12:v11=true) (h14:v13=true):Fun (KN w0) Tryd.prog 57 [.o (.g [pI e.op,pI e.n,pLs cE e.l]),.o (.c (pI a))] (.o (.c (pV (.int .i64 1)))):=
 zi (zk (F:=FL [pI e.op,pI e.n,pLs cE e.l,pI a,pB v1,pI v3,pB v4,pB v6,pB v8,pB v9,pB v11,pB v13] []) (C:=[(1000004,.bin .eql 3 (yh 0) (LF (.k (.int .i64 1))) (yh 4)),
  (10004,.fb 4 true),
  (1000008,.op (.len [28] 3) [yh 2] [] (yh 5)),
  (1000009,.bin .gtr 3 (yh 5) (LF (.k (.int .i64 0))) (yh 6)),
  (10006,.fb 6 false),
  (1000013,.bin .eql 3 (yh 0) (LF (.k (.int .i64 1))) (yh 7)),
  (10007,.fb 7 true),
  (1000017,.call ⟨40,[yh 1],[],yh 8,[]⟩),
  (1000018,.un .not (yh 8) (yh 9)),
  (10009,.fb 9 false),
  (1000023,.bin .eql 3 (yh 0) (LF (.k (.int .i64 2))) (yh 10)),
  (10010,.fb 10 true),
  (1000027,.bin .lss 3 (yh 1) (LF (.k (.int .i64 0))) (yh 11)),
  (10011,.fb 11 true)]) (k:=⟨57,[.o (.g [.h 0,.h 1,.h 2]),yh 3],[],.o (.c (.k (.int .i64 1))),[]⟩) 0 (zg ⟨za,za,(ze (zf rfl)),za,za,za,za,za,za,za,za,za,trivial⟩) ⟨e_bin (zb rfl) zd (zb rfl) (r_cmp (congrArg some e1)),
  e_fbv h2,
  zn (E:=31) (by kernel_rfl) (zc rfl) (zb (by rw [← e3];rfl)),
  e_bin (zb rfl) zd (zb rfl) (r_cmp (congrArg some e4)),
  e_fbv h5,
  e_bin (zb rfl) zd (zb rfl) (r_cmp (congrArg some e6)),
  e_fbv h7,
  zh (zW e.n v8 e8),
  e_un (zb rfl) (zb rfl) (fun W=>by rw [← e9];exact r_not W),
  e_fbv h10,
  e_bin (zb rfl) zd (zb rfl) (r_cmp (congrArg some e11)),
  e_fbv h12,
  e_bin (zb rfl) zd (zb rfl) (r_cmp (congrArg some e13)),
  e_fbv h14,
  trivial⟩ mixed (by kernel_rfl))
theorem zgz {w0:World} (e:Xp) (a:Int) (v1:Bool) (v3:Int) (v4:Bool) (v6:Bool) (v8:Bool) (v9:Bool) (v11:Bool) (v13:Bool) (v15:Int) (v16:Bool) (e1:((e.op == (1:Int)))=v1) (e3:((e.l.length:Int))=v3) (e4:(decide (v3 > (0:Int)))=v4) (e6:((e.op == (1:Int)))=v6) (e8:(valB e.n)=v8) (e9:(!v8)=v9) (e11:((e.op == (2:Int)))=v11) (e13:(decide (e.n<(0:Int)))=v13) (e15:((if (4:Int)<a then (4:Int) else a))=v15) (e16:(decide (e.n ≥ v15))=v16) (h2:v1=true) (h5:v4=false) (h7:v6=true) (h10:v9=false) (h12:v11=true) (h14:v13=false) (h17:v16=true):Fun (KN w0) Tryd.prog 57 [.o (.g [pI e.op,pI e.n,pLs cE e.l]),.o (.c (pI a))] (.o (.c (pV (.int .i64 1)))):=
 zi (zk (F:=FL [pI e.op,pI e.n,pLs cE e.l,pI a,pB v1,pI v3,pB v4,pB v6,pB v8,pB v9,pB v11,pB v13,pI v15,pB v16] []) (C:=[(1000004,.bin .eql 3 (yh 0) (LF (.k (.int .i64 1))) (yh 4)),
  (10004,.fb 4 true),
  (1000008,.op (.len [28] 3) [yh 2] [] (yh 5)),
  (1000009,.bin .gtr 3 (yh 5) (LF (.k (.int .i64 0))) (yh 6)),
  (10006,.fb 6 false),
  (1000013,.bin .eql 3 (yh 0) (LF (.k (.int .i64 1))) (yh 7)),
  (10007,.fb 7 true),
  (1000017,.call ⟨40,[yh 1],[],yh 8,[]⟩),
  (1000018,.un .not (yh 8) (yh 9)),
  (10009,.fb 9 false),
  (1000023,.bin .eql 3 (yh 0) (LF (.k (.int .i64 2))) (yh 10)),
  (10010,.fb 10 true),
  (1000027,.bin .lss 3 (yh 1) (LF (.k (.int .i64 0))) (yh 11)),
  (10011,.fb 11 false),
  (1000032,.op (.min [3,3] 3) [yh 3,LF (.k (.int .i64 4))] [] (yh 12)),
  (1000033,.bin .geq 3 (yh 1) (yh 12) (yh 13)),
  (10013,.fb 13 true)]) (k:=⟨57,[.o (.g [.h 0,.h 1,.h 2]),yh 3],[],.o (.c (.k (.int .i64 1))),[]⟩) 0 (zg ⟨za,za,(ze (zf rfl)),za,za,za,za,za,za,za,za,za,za,za,trivial⟩) ⟨e_bin (zb rfl) zd (zb rfl) (r_cmp (congrArg some e1)),
  e_fbv h2,
  zn (E:=31) (by kernel_rfl) (zc rfl) (zb (by rw [← e3];rfl)),
  e_bin (zb rfl) zd (zb rfl) (r_cmp (congrArg some e4)),
  e_fbv h5,
  e_bin (zb rfl) zd (zb rfl) (r_cmp (congrArg some e6)),
  e_fbv h7,
  zh (zW e.n v8 e8),
  e_un (zb rfl) (zb rfl) (fun W=>by rw [← e9];exact r_not W),
  e_fbv h10,
  e_bin (zb rfl) zd (zb rfl) (r_cmp (congrArg some e11)),
  e_fbv h12,
  e_bin (zb rfl) zd (zb rfl) (r_cmp (congrArg some e13)),
  e_fbv h14,
  e_op2 (zb rfl) zd (zb rfl) (fun W=>by rw [← e15];exact zaB W),
  e_bin (zb rfl) (zb rfl) (zb rfl) (r_cmp (congrArg some e16)),
  e_fbv h17,
  trivial⟩ mixed (by kernel_rfl))
theorem zgA {w0:World} (e:Xp) (a:Int) (v1:Bool) (v3:Int) (v4:Bool) (v6:Bool) (v8:Bool) (v9:Bool) (v11:Bool) (v13:Bool) (v15:Int) (v16:Bool) (e1:((e.op == (1:Int)))=v1) (e3:((e.l.length:Int))=v3) (e4:(decide (v3 > (0:Int)))=v4) (e6:((e.op == (1:Int)))=v6) (e8:(valB e.n)=v8) (e9:(!v8)=v9) (e11:((e.op == (2:Int)))=v11) (e13:(decide (e.n<(0:Int)))=v13) (e15:((if (4:Int)<a then (4:Int) else a))=v15) (e16:(decide (e.n ≥ v15))=v16) (h2:v1=true) (h5:v4=false) (h7:v6=true) (h10:v9=false) (h12:v11=true) (h14:v13=false) (h17:v16=false):Fun (KN w0) Tryd.prog 57 [.o (.g [pI e.op,pI e.n,pLs cE e.l]),.o (.c (pI a))] (.o (.c (pV (.int .i64 0)))):=
 zi (zk (F:=FL [pI e.op,pI e.n,pLs cE e.l,pI a,pB v1,pI v3,pB v4,pB v6,pB v8,pB v9,pB v11,pB v13,pI v15,pB v16] []) (C:=[(1000004,.bin .eql 3 (yh 0) (LF (.k (.int .i64 1))) (yh 4)),
  (10004,.fb 4 true),
  (1000008,.op (.len [28] 3) [yh 2] [] (yh 5)),
  (1000009,.bin .gtr 3 (yh 5) (LF (.k (.int .i64 0))) (yh 6)),
  (10006,.fb 6 false),
  (1000013,.bin .eql 3 (yh 0) (LF (.k (.int .i64 1))) (yh 7)),
  (10007,.fb 7 true),
  (1000017,.call ⟨40,[yh 1],[],yh 8,[]⟩),
  (1000018,.un .not (yh 8) (yh 9)),
  (10009,.fb 9 false),
  (1000023,.bin .eql 3 (yh 0) (LF (.k (.int .i64 2))) (yh 10)),
  (10010,.fb 10 true),
  (1000027,.bin .lss 3 (yh 1) (LF (.k (.int .i64 0))) (yh 11)),
  (10011,.fb 11 false),
  (1000032,.op (.min [3,3] 3) [yh 3,LF (.k (.int .i64 4))] [] (yh 12)),
  (1000033,.bin .geq 3 (yh 1) (yh 12) (yh 13)),
  (10013,.fb 13 false)]) (k:=⟨57,[.o (.g [.h 0,.h 1,.h 2]),yh 3],[],.o (.c (.k (.int .i64 0))),[]⟩) 0 (zg ⟨za,za,(ze (zf rfl)),za,za,za,za,za,za,za,za,za,za,za,trivial⟩) ⟨e_bin (zb rfl) zd (zb rfl) (r_cmp (congrArg some e1)),
  e_fbv h2,
  zn (E:=31) (by kernel_rfl) (zc rfl) (zb (by rw [← e3];rfl)),
  e_bin (zb rfl) zd (zb rfl) (r_cmp (congrArg some e4)),
  e_fbv h5,
  e_bin (zb rfl) zd (zb rfl) (r_cmp (congrArg some e6)),
  e_fbv h7,
  zh (zW e.n v8 e8),
  e_un (zb rfl) (zb rfl) (fun W=>by rw [← e9];exact r_not W),
  e_fbv h10,
  e_bin (zb rfl) zd (zb rfl) (r_cmp (congrArg some e11)),
  e_fbv h12,
  e_bin (zb rfl) zd (zb rfl) (r_cmp (congrArg some e13)),
  e_fbv h14,
  e_op2 (zb rfl) zd (zb rfl) (fun W=>by rw [← e15];exact zaB W),
  e_bin (zb rfl) (zb rfl) (zb rfl) (r_cmp (congrArg some e16)),
  e_fbv h17,
  trivial⟩ mixed (by kernel_rfl))
theorem zgB {w0:World} (e:Xp) (a:Int) (v1:Bool) (v3:Int) (v4:Bool) (v6:Bool) (v8:Bool) (v9:Bool) (v11:Bool) (e1:((e.op == (1:Int)))=v1) (e3:((e.l.length:Int))=v3) (e4:(decide (v3 > (0:Int)))=v4) (e6:((e.op == (1:Int)))=v6) (e8:(valB e.n)=v8) (e9:(!v8)=v9) (e11:((e.op == (2:Int)))=v11) (h2:v1=true) (h5:v4=false) (h7:v6=true) (h10:v9=false) (h12:v11=false):Fun (KN w0) Tryd.prog 57 [.o (.g [pI e.op,pI e.n,pLs cE e.l]),.o (.c (pI a))] (.o (.c (pV (.int .i64 0)))):=
 zi (zk (F:=FL [pI e.op,pI e.n,pLs cE e.l,pI a,pB v1,pI v3,pB v4,pB v6,pB v8,pB v9,pB v11] []) (C:=[(1000004,.bin .eql 3 (yh 0) (LF (.k (.int .i64 1))) (yh 4)),
  (10004,.fb 4 true),
  (1000008,.op (.len [28] 3) [yh 2] [] (yh 5)),
  (1000009,.bin .gtr 3 (yh 5) (LF (.k (.int .i64 0))) (yh 6)),
  (10006,.fb 6 false),
  (1000013,.bin .eql 3 (yh 0) (LF (.k (.int .i64 1))) (yh 7)),
  (10007,.fb 7 true),
  (1000017,.call ⟨40,[yh 1],[],yh 8,[]⟩),
  (1000018,.un .not (yh 8) (yh 9)),
  (10009,.fb 9 false),
  (1000023,.bin .eql 3 (yh 0) (LF (.k (.int .i64 2))) (yh 10)),
  (10010,.fb 10 false)]) (k:=⟨57,[.o (.g [.h 0,.h 1,.h 2]),yh 3],[],.o (.c (.k (.int .i64 0))),[]⟩) 0 (zg ⟨za,za,(ze (zf rfl)),za,za,za,za,za,za,za,za,trivial⟩) ⟨e_bin (zb rfl) zd (zb rfl) (r_cmp (congrArg some e1)),
  e_fbv h2,
  zn (E:=31) (by kernel_rfl) (zc rfl) (zb (by rw [← e3];rfl)),
  e_bin (zb rfl) zd (zb rfl) (r_cmp (congrArg some e4)),
  e_fbv h5,
  e_bin (zb rfl) zd (zb rfl) (r_cmp (congrArg some e6)),
  e_fbv h7,
  zh (zW e.n v8 e8),
  e_un (zb rfl) (zb rfl) (fun W=>by rw [← e9];exact r_not W),
  e_fbv h10,
  e_bin (zb rfl) zd (zb rfl) (r_cmp (congrArg some e11)),
  e_fbv h12,
  trivial⟩ mixed (by kernel_rfl))
theorem zgC {w0:World} (e:Xp) (a:Int) (v1:Bool) (v3:Int) (v4:Bool) (v6:Bool) (v8:Bool) (v10:Bool) (e1:((e.op == (1:Int)))=v1) (e3:((e.l.length:Int))=v3) (e4:(decide (v3 > (0:Int)))=v4) (e6:((e.op == (1:Int)))=v6) (e8:((e.op == (2:Int)))=v8) (e10:(decide (e.n<(0:Int)))=v10) (h2:v1=true) (h5:v4=false) (h7:v6=false) (h9:v8=true) (h11:v10=true):Fun (KN w0) Tryd.prog 57 [.o (.g [pI e.op,pI e.n,pLs cE e.l]),.o (.c (pI a))] (.o (.c (pV (.int .i64 1)))):=
 zi (zk (F:=FL [pI e.op,pI e.n,pLs cE e.l,pI a,pB v1,pI v3,pB v4,pB v6,pB v8,pB v10] []) (C:=[(1000004,.bin .eql 3 (yh 0) (LF (.k (.int .i64 1))) (yh 4)),
  (10004,.fb 4 true),
  (1000008,.op (.len [28] 3) [yh 2] [] (yh 5)),
  (1000009,.bin .gtr 3 (yh 5) (LF (.k (.int .i64 0))) (yh 6)),
  (10006,.fb 6 false),
  (1000013,.bin .eql 3 (yh 0) (LF (.k (.int .i64 1))) (yh 7)),
  (10007,.fb 7 false),
  (1000023,.bin .eql 3 (yh 0) (LF (.k (.int .i64 2))) (yh 8)),
  (10008,.fb 8 true),
  (1000027,.bin .lss 3 (yh 1) (LF (.k (.int .i64 0))) (yh 9)),
  (10009,.fb 9 true)]) (k:=⟨57,[.o (.g [.h 0,.h 1,.h 2]),yh 3],[],.o (.c (.k (.int .i64 1))),[]⟩) 0 (zg ⟨za,za,(ze (zf rfl)),za,za,za,za,za,za,za,trivial⟩) ⟨e_bin (zb rfl) zd (zb rfl) (r_cmp (congrArg some e1)),
  e_fbv h2,
  zn (E:=31) (by kernel_rfl) (zc rfl) (zb (by rw [← e3];rfl)),
  e_bin (zb rfl) zd (zb rfl) (r_cmp (congrArg some e4)),
  e_fbv h5,
  e_bin (zb rfl) zd (zb rfl) (r_cmp (congrArg some e6)),
  e_fbv h7,
  e_bin (zb rfl) zd (zb rfl) (r_cmp (congrArg some e8)),
  e_fbv h9,
  e_bin (zb rfl) zd (zb rfl) (r_cmp (congrArg some e10)),
  e_fbv h11,
  trivial⟩ mixed (by kernel_rfl))
theorem zgD {w0:World} (e:Xp) (a:Int) (v1:Bool) (v3:Int) (v4:Bool) (v6:Bool) (v8:Bool) (v10:Bool) (v12:Int) (v13:Bool) (e1:((e.op == (1:Int)))=v1) (e3:((e.l.length:Int))=v3) (e4:(decide (v3 > (0:Int)))=v4) (e6:((e.op == (1:Int)))=v6) (e8:((e.op == (2:Int)))=v8) (e10:(decide (e.n<(0:Int)))=v10) (e12:((if (4:Int)<a then (4:Int) else a))=v12) (e13:(decide (e.n ≥ v12))=v13) (h2:v1=true) (h5:v4=false) (h7:v6=false) (h9:v8=true) (h11:v10=false) (h14:v13=true):Fun (KN w0) Tryd.prog 57 [.o (.g [pI e.op,pI e.n,pLs cE e.l]),.o (.c (pI a))] (.o (.c (pV (.int .i64 1)))):=
 zi (zk (F:=FL [pI e.op,pI e.n,pLs cE e.l,pI a,pB v1,pI v3,pB v4,pB v6,pB v8,pB v10,pI v12,pB v13] []) (C:=[(1000004,.bin .eql 3 (yh 0) (LF (.k (.int .i64 1))) (yh 4)),
  (10004,.fb 4 true),
  (1000008,.op (.len [28] 3) [yh 2] [] (yh 5)),
  (1000009,.bin .gtr 3 (yh 5) (LF (.k (.int .i64 0))) (yh 6)),
  (10006,.fb 6 false),
  (1000013,.bin .eql 3 (yh 0) (LF (.k (.int .i64 1))) (yh 7)),
  (10007,.fb 7 false),
  (1000023,.bin .eql 3 (yh 0) (LF (.k (.int .i64 2))) (yh 8)),
  (10008,.fb 8 true),
  (1000027,.bin .lss 3 (yh 1) (LF (.k (.int .i64 0))) (yh 9)),
  (10009,.fb 9 false),
  (1000032,.op (.min [3,3] 3) [yh 3,LF (.k (.int .i64 4))] [] (yh 10)),
  (1000033,.bin .geq 3 (yh 1) (yh 10) (yh 11)),
  (10011,.fb 11 true)]) (k:=⟨57,[.o (.g [.h 0,.h 1,.h 2]),yh 3],[],.o (.c (.k (.int .i64 1))),[]⟩) 0 (zg ⟨za,za,(ze (zf rfl)),za,za,za,za,za,za,za,za,za,trivial⟩) ⟨e_bin (zb rfl) zd (zb rfl) (r_cmp (congrArg some e1)),
  e_fbv h2,
  zn (E:=31) (by kernel_rfl) (zc rfl) (zb (by rw [← e3];rfl)),
  e_bin (zb rfl) zd (zb rfl) (r_cmp (congrArg some e4)),
  e_fbv h5,
  e_bin (zb rfl) zd (zb rfl) (r_cmp (congrArg some e6)),
  e_fbv h7,
  e_bin (zb rfl) zd (zb rfl) (r_cmp (congrArg some e8)),
  e_fbv h9,
  e_bin (zb rfl) zd (zb rfl) (r_cmp (congrArg some e10)),
  e_fbv h11,
  e_op2 (zb rfl) zd (zb rfl) (fun W=>by rw [← e12];exact zaB W),
  e_bin (zb rfl) (zb rfl) (zb rfl) (r_cmp (congrArg some e13)),
  e_fbv h14,
  trivial⟩ mixed (by kernel_rfl))
theorem zgE {w0:World} (e:Xp) (a:Int) (v1:Bool) (v3:Int) (v4:Bool) (v6:Bool) (v8:Bool) (v10:Bool) (v12:Int) (v13:Bool) (e1:((e.op == (1:Int)))=v1) (e3:((e.l.length:Int))=v3) (e4:(decide (v3 > (0:Int)))=v4) (e6:((e.op == (1:Int)))=v6) (e8:((e.op == (2:Int)))=v8) (e10:(decide (e.n<(0:Int)))=v10) (e12:((if (4:Int)<a then (4:Int) else a))=v12) (e13:(decide (e.n ≥ v12))=v13) (h2:v1=true) (h5:v4=false) (h7:v6=false) (h9:v8=true) (h11:v10=false) (h14:v13=false):Fun (KN w0) Tryd.prog 57 [.o (.g [pI e.op,pI e.n,pLs cE e.l]),.o (.c (pI a))] (.o (.c (pV (.int .i64 0)))):=
 zi (zk (F:=FL [pI e.op,pI e.n,pLs cE e.l,pI a,pB v1,pI v3,pB v4,pB v6,pB v8,pB v10,pI v12,pB v13] []) (C:=[(1000004,.bin .eql 3 (yh 0) (LF (.k (.int .i64 1))) (yh 4)),
  (10004,.fb 4 true),
  (1000008,.op (.len [28] 3) [yh 2] [] (yh 5)),
  (1000009,.bin .gtr 3 (yh 5) (LF (.k (.int .i64 0))) (yh 6)),
  (10006,.fb 6 false),
  (1000013,.bin .eql 3 (yh 0) (LF (.k (.int .i64 1))) (yh 7)),
  (10007,.fb 7 false),
  (1000023,.bin .eql 3 (yh 0) (LF (.k (.int .i64 2))) (yh 8)),
  (10008,.fb 8 true),
  (1000027,.bin .lss 3 (yh 1) (LF (.k (.int .i64 0))) (yh 9)),
  (10009,.fb 9 false),
  (1000032,.op (.min [3,3] 3) [yh 3,LF (.k (.int .i64 4))] [] (yh 10)),
  (1000033,.bin .geq 3 (yh 1) (yh 10) (yh 11)),
  (10011,.fb 11 false)]) (k:=⟨57,[.o (.g [.h 0,.h 1,.h 2]),yh 3],[],.o (.c (.k (.int .i64 0))),[]⟩) 0 (zg ⟨za,za,(ze (zf rfl)),za,za,za,za,za,za,za,za,za,trivial⟩) ⟨e_bin (zb rfl) zd (zb rfl) (r_cmp (congrArg some e1)),
  e_fbv h2,
  zn (E:=31) (by kernel_rfl) (zc rfl) (zb (by rw [← e3];rfl)),
  e_bin (zb rfl) zd (zb rfl) (r_cmp (congrArg some e4)),
  e_fbv h5,
  e_bin (zb rfl) zd (zb rfl) (r_cmp (congrArg some e6)),
  e_fbv h7,
  e_bin (zb rfl) zd (zb rfl) (r_cmp (congrArg some e8)),
  e_fbv h9,
  e_bin (zb rfl) zd (zb rfl) (r_cmp (congrArg some e10)),
  e_fbv h11,
  e_op2 (zb rfl) zd (zb rfl) (fun W=>by rw [← e12];exact zaB W),
  e_bin (zb rfl) (zb rfl) (zb rfl) (r_cmp (congrArg some e13)),
  e_fbv h14,
  trivial⟩ mixed (by kernel_rfl))
theorem zgF {w0:World} (e:Xp) (a:Int) (v1:Bool) (v3:Int) (v4:Bool) (v6:Bool) (v8:Bool) (e1:((e.op == (1:Int)))=v1) (e3:((e.l.length:Int))=v3) (e4:(decide (v3 > (0:Int)))=v4) (e6:((e.op == (1:Int)))=v6) (e8:((e.op == (2:Int)))=v8) (h2:v1=true) (h5:v4=false) (h7:v6=false) (h9:v8=false):Fun (KN w0) Tryd.prog 57 [.o (.g [pI e.op,pI e.n,pLs cE e.l]),.o (.c (pI a))] (.o (.c (pV (.int .i64 0)))):=
 zi (zk (F:=FL [pI e.op,pI e.n,pLs cE e.l,pI a,pB v1,pI v3,pB v4,pB v6,pB v8] []) (C:=[(1000004,.bin .eql 3 (yh 0) (LF (.k (.int .i64 1))) (yh 4)),
  (10004,.fb 4 true),
  (1000008,.op (.len [28] 3) [yh 2] [] (yh 5)),
  (1000009,.bin .gtr 3 (yh 5) (LF (.k (.int .i64 0))) (yh 6)),
  (10006,.fb 6 false),
  (1000013,.bin .eql 3 (yh 0) (LF (.k (.int .i64 1))) (yh 7)),
  (10007,.fb 7 false),
  (1000023,.bin .eql 3 (yh 0) (LF (.k (.int .i64 2))) (yh 8)),
  (10008,.fb 8 false)]) (k:=⟨57,[.o (.g [.h 0,.h 1,.h 2]),yh 3],[],.o (.c (.k (.int .i64 0))),[]⟩) 0 (zg ⟨za,za,(ze (zf rfl)),za,za,za,za,za,za,trivial⟩) ⟨e_bin (zb rfl) zd (zb rfl) (r_cmp (congrArg some e1)),
  e_fbv h2,
  zn (E:=31) (by kernel_rfl) (zc rfl) (zb (by rw [← e3];rfl)),
  e_bin (zb rfl) zd (zb rfl) (r_cmp (congrArg some e4)),
  e_fbv h5,
  e_bin (zb rfl) zd (zb rfl) (r_cmp (congrArg some e6)),
  e_fbv h7,
  e_bin (zb rfl) zd (zb rfl) (r_cmp (congrArg some e8)),
  e_fbv h9,
  trivial⟩ mixed (by kernel_rfl))
theorem ze9 {w0:World} (e:Xp) (a:Int) (v1:Bool) (v3:Bool) (v5:Int) (v6:Bool) (e1:((e.op == (1:Int)))=v1) (e3:((e.op == (2:Int)))=v3) (e5:((e.l.length:Int))=v5) (e6:(decide (v5 > (0:Int)))=v6) (h2:v1=false) (h4:v3=true) (h7:v6=true):Fun (KN w0) Tryd.prog 57 [.o (.g [pI e.op,pI e.n,pLs cE e.l]),.o (.c (pI a))] (.o (.c (pV (.int .i64 4)))):=
 zi (zk (F:=FL [pI e.op,pI e.n,pLs cE e.l,pI a,pB v1,pB v3,pI v5,pB v6] []) (C:=[(1000004,.bin .eql 3 (yh 0) (LF (.k (.int .i64 1))) (yh 4)),
  (10004,.fb 4 false),
  (1000006,.bin .eql 3 (yh 0) (LF (.k (.int .i64 2))) (yh 5)),
  (10005,.fb 5 true),
  (1000010,.op (.len [28] 3) [yh 2] [] (yh 6)),
  (1000011,.bin .gtr 3 (yh 6) (LF (.k (.int .i64 0))) (yh 7)),
  (10007,.fb 7 true)]) (k:=⟨57,[.o (.g [.h 0,.h 1,.h 2]),yh 3],[],.o (.c (.k (.int .i64 4))),[]⟩) 0 (zg ⟨za,za,(ze (zf rfl)),za,za,za,za,za,trivial⟩) ⟨e_bin (zb rfl) zd (zb rfl) (r_cmp (congrArg some e1)),
  e_fbv h2,
  e_bin (zb rfl) zd (zb rfl) (r_cmp (congrArg some e3)),
  e_fbv h4,
  zn (E:=31) (by kernel_rfl) (zc rfl) (zb (by rw [← e5];rfl)),
  e_bin (zb rfl) zd (zb rfl) (r_cmp (congrArg some e6)),
  e_fbv h7,
  trivial⟩ mixed (by kernel_rfl))
theorem zfa {w0:World} (e:Xp) (a:Int) (v1:Bool) (v3:Bool) (v5:Int) (v6:Bool) (v8:Bool) (v10:Bool) (v11:Bool) (e1:((e.op == (1:Int)))=v1) (e3:((e.op == (2:Int)))=v3) (e5:((e.l.length:Int))=v5) (e6:(decide (v5 > (0:Int)))=v6) (e8:((e.op == (1:Int)))=v8) (e10:(valB e.n)=v10) (e11:(!v10)=v11) (h2:v1=false) (h4:v3=true) (h7:v6=false) (h9:v8=true) (h12:v11=true):Fun (KN w0) Tryd.prog 57 [.o (.g [pI e.op,pI e.n,pLs cE e.l]),.o (.c (pI a))] (.o (.c (pV (.int .i64 3)))):=
 zi (zk (F:=FL [pI e.op,pI e.n,pLs cE e.l,pI a,pB v1,pB v3,pI v5,pB v6,pB v8,pB v10,pB v11] []) (C:=[(1000004,.bin .eql 3 (yh 0) (LF (.k (.int .i64 1))) (yh 4)),
  (10004,.fb 4 false),
  (1000006,.bin .eql 3 (yh 0) (LF (.k (.int .i64 2))) (yh 5)),
  (10005,.fb 5 true),
  (1000010,.op (.len [28] 3) [yh 2] [] (yh 6)),
  (1000011,.bin .gtr 3 (yh 6) (LF (.k (.int .i64 0))) (yh 7)),
  (10007,.fb 7 false),
  (1000015,.bin .eql 3 (yh 0) (LF (.k (.int .i64 1))) (yh 8)),
  (10008,.fb 8 true),
  (1000019,.call ⟨40,[yh 1],[],yh 9,[]⟩),
  (1000020,.un .not (yh 9) (yh 10)),
  (10010,.fb 10 true)]) (k:=⟨57,[.o (.g [.h 0,.h 1,.h 2]),yh 3],[],.o (.c (.k (.int .i64 3))),[]⟩) 0 (zg ⟨za,za,(ze (zf rfl)),za,za,za,za,za,za,za,za,trivial⟩) ⟨e_bin (zb rfl) zd (zb rfl) (r_cmp (congrArg some e1)),
  e_fbv h2,
  e_bin (zb rfl) zd (zb rfl) (r_cmp (congrArg some e3)),
  e_fbv h4,
  zn (E:=31) (by kernel_rfl) (zc rfl) (zb (by rw [← e5];rfl)),
  e_bin (zb rfl) zd (zb rfl) (r_cmp (congrArg some e6)),
  e_fbv h7,
  e_bin (zb rfl) zd (zb rfl) (r_cmp (congrArg some e8)),
  e_fbv h9,
  zh (zW e.n v10 e10),
  e_un (zb rfl) (zb rfl) (fun W=>by rw [← e11];exact r_not W),
  e_fbv h12,
  trivial⟩ mixed (by kernel_rfl))
theorem zfb {w0:World} (e:Xp) (a:Int) (v1:Bool) (v3:Bool) (v5:Int) (v6:Bool) (v8:Bool) (v10:Bool) (v11:Bool) (v13:Bool) (v15:Bool) (e1:((e.op == (1:Int)))=v1) (e3:((e.op == (2:Int)))=v3) (e5:((e.l.length:Int))=v5) (e6:(decide (v5 > (0:Int)))=v6) (e8:((e.op == (1:Int)))=v8) (e10:(valB e.n)=v10) (e11:(!v10)=v11) (e13:((e.op == (2:Int)))=v13) (e15:(decide (e.n<(0:Int)))=v15) (h2:v1=false) (h4:v3=true) (h7:v6=false) (h9:v8=true) (h12:v11=false) (h14:v13=true) (h16:v15=true):Fun (KN w0) Tryd.prog 57 [.o (.g [pI e.op,pI e.n,pLs cE e.l]),.o (.c (pI a))] (.o (.c (pV (.int .i64 1)))):=
 zi (zk (F:=FL [pI e.op,pI e.n,pLs cE e.l,pI a,pB v1,pB v3,pI v5,pB v6,pB v8,pB v10,pB v11,pB v13,pB v15] []) (C:=[(1000004,.bin .eql 3 (yh 0) (LF (.k (.int .i64 1))) (yh 4)),
  (10004,.fb 4 false),
  (1000006,.bin .eql 3 (yh 0) (LF (.k (.int .i64 2))) (yh 5)),
  (10005,.fb 5 true),
  (1000010,.op (.len [28] 3) [yh 2] [] (yh 6)),
  (1000011,.bin .gtr 3 (yh 6) (LF (.k (.int .i64 0))) (yh 7)),
  (10007,.fb 7 false),
  (1000015,.bin .eql 3 (yh 0) (LF (.k (.int .i64 1))) (yh 8)),
  (10008,.fb 8 true),
  (1000019,.call ⟨40,[yh 1],[],yh 9,[]⟩),
  (1000020,.un .not (yh 9) (yh 10)),
  (10010,.fb 10 false),
  (1000025,.bin .eql 3 (yh 0) (LF (.k (.int .i64 2))) (yh 11)),
  (10011,.fb 11 true),
  (1000029,.bin .lss 3 (yh 1) (LF (.k (.int .i64 0))) (yh 12)),
  (10012,.fb 12 true)]) (k:=⟨57,[.o (.g [.h 0,.h 1,.h 2]),yh 3],[],.o (.c (.k (.int .i64 1))),[]⟩) 0 (zg ⟨za,za,(ze (zf rfl)),za,za,za,za,za,za,za,za,za,za,trivial⟩) ⟨e_bin (zb rfl) zd (zb rfl) (r_cmp (congrArg some e1)),
  e_fbv h2,
  e_bin (zb rfl) zd (zb rfl) (r_cmp (congrArg some e3)),
  e_fbv h4,
  zn (E:=31) (by kernel_rfl) (zc rfl) (zb (by rw [← e5];rfl)),
  e_bin (zb rfl) zd (zb rfl) (r_cmp (congrArg some e6)),
  e_fbv h7,
  e_bin (zb rfl) zd (zb rfl) (r_cmp (congrArg some e8)),
  e_fbv h9,
  zh (zW e.n v10 e10),
  e_un (zb rfl) (zb rfl) (fun W=>by rw [← e11];exact r_not W),
  e_fbv h12,
  e_bin (zb rfl) zd (zb rfl) (r_cmp (congrArg some e13)),
  e_fbv h14,
  e_bin (zb rfl) zd (zb rfl) (r_cmp (congrArg some e15)),
  e_fbv h16,
  trivial⟩ mixed (by kernel_rfl))
theorem zfc {w0:World} (e:Xp) (a:Int) (v1:Bool) (v3:Bool) (v5:Int) (v6:Bool) (v8:Bool) (v10:Bool) (v11:Bool) (v13:Bool) (v15:Bool) (v17:Int) (v18:Bool) (e1:((e.op == (1:Int)))=v1) (e3:((e.op == (2:Int)))=v3) (e5:((e.l.length:Int))=v5) (e6:(decide (v5 > (0:Int)))=v6) (e8:((e.op == (1:Int)))=v8) (e10:(valB e.n)=v10) (e11:(!v10)=v11) (e13:((e.op == (2:Int)))=v13) (e15:(decide (e.n<(0:Int)))=v15) (e17:((if (4:Int)<a then (4:Int) else a))=v17) (e18:(decide (e.n ≥ v17))=v18) (h2:v1=false) (h4:v3=true) (h7:v6=false) (h9:v8=true) (h12:v11=false) (h14:v13=true) (h16:v15=false) (h19:v18=true):Fun (KN w0) Tryd.prog 57 [.o (.g [pI e.op,pI e.n,pLs cE e.l]),.o (.c (pI a))] (.o (.c (pV (.int .i64 1)))):=
 zi (zk (F:=FL [pI e.op,pI e.n,pLs cE e.l,pI a,pB v1,pB v3,pI v5,pB v6,pB v8,pB v10,pB v11,pB v13,pB v15,pI v17,pB v18] []) (C:=[(1000004,.bin .eql 3 (yh 0) (LF (.k (.int .i64 1))) (yh 4)),
  (10004,.fb 4 false),
  (1000006,.bin .eql 3 (yh 0) (LF (.k (.int .i64 2))) (yh 5)),
  (10005,.fb 5 true),
  (1000010,.op (.len [28] 3) [yh 2] [] (yh 6)),
  (1000011,.bin .gtr 3 (yh 6) (LF (.k (.int .i64 0))) (yh 7)),
  (10007,.fb 7 false),
  (1000015,.bin .eql 3 (yh 0) (LF (.k (.int .i64 1))) (yh 8)),
  (10008,.fb 8 true),
  (1000019,.call ⟨40,[yh 1],[],yh 9,[]⟩),
  (1000020,.un .not (yh 9) (yh 10)),
  (10010,.fb 10 false),
  (1000025,.bin .eql 3 (yh 0) (LF (.k (.int .i64 2))) (yh 11)),
  (10011,.fb 11 true),
  (1000029,.bin .lss 3 (yh 1) (LF (.k (.int .i64 0))) (yh 12)),
  (10012,.fb 12 false),
  (1000034,.op (.min [3,3] 3) [yh 3,LF (.k (.int .i64 4))] [] (yh 13)),
  (1000035,.bin .geq 3 (yh 1) (yh 13) (yh 14)),
  (10014,.fb 14 true)]) (k:=⟨57,[.o (.g [.h 0,.h 1,.h 2]),yh 3],[],.o (.c (.k (.int .i64 1))),[]⟩) 0 (zg ⟨za,za,(ze (zf rfl)),za,za,za,za,za,za,za,za,za,za,za,za,trivial⟩) ⟨e_bin (zb rfl) zd (zb rfl) (r_cmp (congrArg some e1)),
  e_fbv h2,
  e_bin (zb rfl) zd (zb rfl) (r_cmp (congrArg some e3)),
  e_fbv h4,
  zn (E:=31) (by kernel_rfl) (zc rfl) (zb (by rw [← e5];rfl)),
  e_bin (zb rfl) zd (zb rfl) (r_cmp (congrArg some e6)),
  e_fbv h7,
  e_bin (zb rfl) zd (zb rfl) (r_cmp (congrArg some e8)),
  e_fbv h9,
  zh (zW e.n v10 e10),
  e_un (zb rfl) (zb rfl) (fun W=>by rw [← e11];exact r_not W),
  e_fbv h12,
  e_bin (zb rfl) zd (zb rfl) (r_cmp (congrArg some e13)),
  e_fbv h14,
  e_bin (zb rfl) zd (zb rfl) (r_cmp (congrArg some e15)),
  e_fbv h16,
  e_op2 (zb rfl) zd (zb rfl) (fun W=>by rw [← e17];exact zaB W),
  e_bin (zb rfl) (zb rfl) (zb rfl) (r_cmp (congrArg some e18)),
  e_fbv h19,
  trivial⟩ mixed (by kernel_rfl))
theorem zfd {w0:World} (e:Xp) (a:Int) (v1:Bool) (v3:Bool) (v5:Int) (v6:Bool) (v8:Bool) (v10:Bool) (v11:Bool) (v13:Bool) (v15:Bool) (v17:Int) (v18:Bool) (e1:((e.op == (1:Int)))=v1) (e3:((e.op == (2:Int)))=v3) (e5:((e.l.length:Int))=v5) (e6:(decide (v5 > (0:Int)))=v6) (e8:((e.op == (1:Int)))=v8) (e10:(valB e.n)=v10) (e11:(!v10)=v11) (e13:((e.op == (2:Int)))=v13) (e15:(decide (e.n<(0:Int)))=v15) (e17:((if (4:Int)<a then (4:Int) else a))=v17) (e18:(decide (e.n ≥ v17))=v18) (h2:v1=false) (h4:v3=true) (h7:v6=false) (h9:v8=true) (h12:v11=false) (h14:v13=true) (h16:v15=false) (h19:v18=false):Fun (KN w0) Tryd.prog 57 [.o (.g [pI e.op,pI e.n,pLs cE e.l]),.o (.c (pI a))] (.o (.c (pV (.int .i64 0)))):=
 zi (zk (F:=FL [pI e.op,pI e.n,pLs cE e.l,pI a,pB v1,pB v3,pI v5,pB v6,pB v8,pB v10,pB v11,pB v13,pB v15,pI v17,pB v18] []) (C:=[(1000004,.bin .eql 3 (yh 0) (LF (.k (.int .i64 1))) (yh 4)),
  (10004,.fb 4 false),
  (1000006,.bin .eql 3 (yh 0) (LF (.k (.int .i64 2))) (yh 5)),
  (10005,.fb 5 true),
  (1000010,.op (.len [28] 3) [yh 2] [] (yh 6)),
  (1000011,.bin .gtr 3 (yh 6) (LF (.k (.int .i64 0))) (yh 7)),
  (10007,.fb 7 false),
  (1000015,.bin .eql 3 (yh 0) (LF (.k (.int .i64 1))) (yh 8)),
  (10008,.fb 8 true),
  (1000019,.call ⟨40,[yh 1],[],yh 9,[]⟩),
  (1000020,.un .not (yh 9) (yh 10)),
  (10010,.fb 10 false),
  (1000025,.bin .eql 3 (yh 0) (LF (.k (.int .i64 2))) (yh 11)),
  (10011,.fb 11 true),
  (1000029,.bin .lss 3 (yh 1) (LF (.k (.int .i64 0))) (yh 12)),
  (10012,.fb 12 false),
  (1000034,.op (.min [3,3] 3) [yh 3,LF (.k (.int .i64 4))] [] (yh 13)),
  (1000035,.bin .geq 3 (yh 1) (yh 13) (yh 14)),
  (10014,.fb 14 false)]) (k:=⟨57,[.o (.g [.h 0,.h 1,.h 2]),yh 3],[],.o (.c (.k (.int .i64 0))),[]⟩) 0 (zg ⟨za,za,(ze (zf rfl)),za,za,za,za,za,za,za,za,za,za,za,za,trivial⟩) ⟨e_bin (zb rfl) zd (zb rfl) (r_cmp (congrArg some e1)),
  e_fbv h2,
  e_bin (zb rfl) zd (zb rfl) (r_cmp (congrArg some e3)),
  e_fbv h4,
  zn (E:=31) (by kernel_rfl) (zc rfl) (zb (by rw [← e5];rfl)),
  e_bin (zb rfl) zd (zb rfl) (r_cmp (congrArg some e6)),
  e_fbv h7,
  e_bin (zb rfl) zd (zb rfl) (r_cmp (congrArg some e8)),
  e_fbv h9,
  zh (zW e.n v10 e10),
  e_un (zb rfl) (zb rfl) (fun W=>by rw [← e11];exact r_not W),
  e_fbv h12,
  e_bin (zb rfl) zd (zb rfl) (r_cmp (congrArg some e13)),
  e_fbv h14,
  e_bin (zb rfl) zd (zb rfl) (r_cmp (congrArg some e15)),
  e_fbv h16,
  e_op2 (zb rfl) zd (zb rfl) (fun W=>by rw [← e17];exact zaB W),
  e_bin (zb rfl) (zb rfl) (zb rfl) (r_cmp (congrArg some e18)),
  e_fbv h19,
  trivial⟩ mixed (by kernel_rfl))
theorem zfe {w0:World} (e:Xp) (a:Int) (v1:Bool) (v3:Bool) (v5:Int) (v6:Bool) (v8:Bool) (v10:Bool) (v11:Bool) (v13:Bool) (e1:((e.op == (1:Int)))=v1) (e3:((e.op == (2:Int)))=v3) (e5:((e.l.length:Int))=v5) (e6:(decide (v5 > (0:Int)))=v6) (e8:((e.op == (1:Int)))=v8) (e10:(valB e.n)=v10) (e11:(!v10)=v11) (e13:((e.op == (2:Int)))=v13) (h2:v1=false) (h4:v3=true) (h7:v6=false) (h9:v8=true) (h12:v11=false) (h14:v13=false):Fun (KN w0) Tryd.prog 57 [.o (.g [pI e.op,pI e.n,pLs cE e.l]),.o (.c (pI a))] (.o (.c (pV (.int .i64 0)))):=
 zi (zk (F:=FL [pI e.op,pI e.n,pLs cE e.l,pI a,pB v1,pB v3,pI v5,pB v6,pB v8,pB v10,pB v11,pB v13] []) (C:=[(1000004,.bin .eql 3 (yh 0) (LF (.k (.int .i64 1))) (yh 4)),
  (10004,.fb 4 false),
  (1000006,.bin .eql 3 (yh 0) (LF (.k (.int .i64 2))) (yh 5)),
  (10005,.fb 5 true),
  (1000010,.op (.len [28] 3) [yh 2] [] (yh 6)),
  (1000011,.bin .gtr 3 (yh 6) (LF (.k (.int .i64 0))) (yh 7)),
  (10007,.fb 7 false),
  (1000015,.bin .eql 3 (yh 0) (LF (.k (.int .i64 1))) (yh 8)),
  (10008,.fb 8 true),
  (1000019,.call ⟨40,[yh 1],[],yh 9,[]⟩),
  (1000020,.un .not (yh 9) (yh 10)),
  (10010,.fb 10 false),
  (1000025,.bin .eql 3 (yh 0) (LF (.k (.int .i64 2))) (yh 11)),
  (10011,.fb 11 false)]) (k:=⟨57,[.o (.g [.h 0,.h 1,.h 2]),yh 3],[],.o (.c (.k (.int .i64 0))),[]⟩) 0 (zg ⟨za,za,(ze (zf rfl)),za,za,za,za,za,za,za,za,za,trivial⟩) ⟨e_bin (zb rfl) zd (zb rfl) (r_cmp (congrArg some e1)),
  e_fbv h2,
  e_bin (zb rfl) zd (zb rfl) (r_cmp (congrArg some e3)),
  e_fbv h4,
  zn (E:=31) (by kernel_rfl) (zc rfl) (zb (by rw [← e5];rfl)),
  e_bin (zb rfl) zd (zb rfl) (r_cmp (congrArg some e6)),
  e_fbv h7,
  e_bin (zb rfl) zd (zb rfl) (r_cmp (congrArg some e8)),
  e_fbv h9,
  zh (zW e.n v10 e10),
  e_un (zb rfl) (zb rfl) (fun W=>by rw [← e11];exact r_not W),
  e_fbv h12,
  e_bin (zb rfl) zd (zb rfl) (r_cmp (congrArg some e13)),
  e_fbv h14,
  trivial⟩ mixed (by kernel_rfl))
theorem zff {w0:World} (e:Xp) (a:Int) (v1:Bool) (v3:Bool) (v5:Int) (v6:Bool) (v8:Bool) (v10:Bool) (v12:Bool) (e1:((e.op == (1:Int)))=v1) (e3:((e.op == (2:Int)))=v3) (e5:((e.l.length:Int))=v5) (e6:(decide (v5 > (0:Int)))=v6) (e8:((e.op == (1:Int)))=v8) (e10:((e.op == (2:Int)))=v10) (e12:(decide (e.n<(0:Int)))=v12) (h2:v1=false) (h4:v3=true) (h7:v6=false) (h9:v8=false) (h11:v10=true) (h13:v12=true):Fun (KN w0) Tryd.prog 57 [.o (.g [pI e.op,pI e.n,pLs cE e.l]),.o (.c (pI a))] (.o (.c (pV (.int .i64 1)))):=
 zi (zk (F:=FL [pI e.op,pI e.n,pLs cE e.l,pI a,pB v1,pB v3,pI v5,pB v6,pB v8,pB v10,pB v12] []) (C:=[(1000004,.bin .eql 3 (yh 0) (LF (.k (.int .i64 1))) (yh 4)),
  (10004,.fb 4 false),
  (1000006,.bin .eql 3 (yh 0) (LF (.k (.int .i64 2))) (yh 5)),
  (10005,.fb 5 true),
  (1000010,.op (.len [28] 3) [yh 2] [] (yh 6)),
  (1000011,.bin .gtr 3 (yh 6) (LF (.k (.int .i64 0))) (yh 7)),
  (10007,.fb 7 false),
  (1000015,.bin .eql 3 (yh 0) (LF (.k (.int .i64 1))) (yh 8)),
  (10008,.fb 8 false),
  (1000025,.bin .eql 3 (yh 0) (LF (.k (.int .i64 2))) (yh 9)),
  (10009,.fb 9 true),
  (1000029,.bin .lss 3 (yh 1) (LF (.k (.int .i64 0))) (yh 10)),
  (10010,.fb 10 true)]) (k:=⟨57,[.o (.g [.h 0,.h 1,.h 2]),yh 3],[],.o (.c (.k (.int .i64 1))),[]⟩) 0 (zg ⟨za,za,(ze (zf rfl)),za,za,za,za,za,za,za,za,trivial⟩) ⟨e_bin (zb rfl) zd (zb rfl) (r_cmp (congrArg some e1)),
  e_fbv h2,
  e_bin (zb rfl) zd (zb rfl) (r_cmp (congrArg some e3)),
  e_fbv h4,
  zn (E:=31) (by kernel_rfl) (zc rfl) (zb (by rw [← e5];rfl)),
  e_bin (zb rfl) zd (zb rfl) (r_cmp (congrArg some e6)),
  e_fbv h7,
  e_bin (zb rfl) zd (zb rfl) (r_cmp (congrArg some e8)),
  e_fbv h9,
  e_bin (zb rfl) zd (zb rfl) (r_cmp (congrArg some e10)),
  e_fbv h11,
  e_bin (zb rfl) zd (zb rfl) (r_cmp (congrArg some e12)),
  e_fbv h13,
  trivial⟩ mixed (by kernel_rfl))
theorem zfg {w0:World} (e:Xp) (a:Int) (v1:Bool) (v3:Bool) (v5:Int) (v6:Bool) (v8:Bool) (v10:Bool) (v12:Bool) (v14:Int) (v15:Bool) (e1:((e.op == (1:Int)))=v1) (e3:((e.op == (2:Int)))=v3) (e5:((e.l.length:Int))=v5) (e6:(decide (v5 > (0:Int)))=v6) (e8:((e.op == (1:Int)))=v8) (e10:((e.op == (2:Int)))=v10) (e12:(decide (e.n<(0:Int)))=v12) (e14:((if (4:Int)<a then (4:Int) else a))=v14) (e15:(decide (e.n ≥ v14))=v15) (h2:v1=false) (h4:v3=true) (h7:v6=false) (h9:v8=false) (h11:v10=true) (h13:v12=false) (h16:v15=true):Fun (KN w0) Tryd.prog 57 [.o (.g [pI e.op,pI e.n,pLs cE e.l]),.o (.c (pI a))] (.o (.c (pV (.int .i64 1)))):=
 zi (zk (F:=FL [pI e.op,pI e.n,pLs cE e.l,pI a,pB v1,pB v3,pI v5,pB v6,pB v8,pB v10,pB v12,pI v14,pB v15] []) (C:=[(1000004,.bin .eql 3 (yh 0) (LF (.k (.int .i64 1))) (yh 4)),
  (10004,.fb 4 false),
  (1000006,.bin .eql 3 (yh 0) (LF (.k (.int .i64 2))) (yh 5)),
  (10005,.fb 5 true),
  (1000010,.op (.len [28] 3) [yh 2] [] (yh 6)),
  (1000011,.bin .gtr 3 (yh 6) (LF (.k (.int .i64 0))) (yh 7)),
  (10007,.fb 7 false),
  (1000015,.bin .eql 3 (yh 0) (LF (.k (.int .i64 1))) (yh 8)),
  (10008,.fb 8 false),
  (1000025,.bin .eql 3 (yh 0) (LF (.k (.int .i64 2))) (yh 9)),
  (10009,.fb 9 true),
  (1000029,.bin .lss 3 (yh 1) (LF (.k (.int .i64 0))) (yh 10)),
  (10010,.fb 10 false),
  (1000034,.op (.min [3,3] 3) [yh 3,LF (.k (.int .i64 4))] [] (yh 11)),
  (1000035,.bin .geq 3 (yh 1) (yh 11) (yh 12)),
  (10012,.fb 12 true)]) (k:=⟨57,[.o (.g [.h 0,.h 1,.h 2]),yh 3],[],.o (.c (.k (.int .i64 1))),[]⟩) 0 (zg ⟨za,za,(ze (zf rfl)),za,za,za,za,za,za,za,za,za,za,trivial⟩) ⟨e_bin (zb rfl) zd (zb rfl) (r_cmp (congrArg some e1)),
  e_fbv h2,
  e_bin (zb rfl) zd (zb rfl) (r_cmp (congrArg some e3)),
  e_fbv h4,
  zn (E:=31) (by kernel_rfl) (zc rfl) (zb (by rw [← e5];rfl)),
  e_bin (zb rfl) zd (zb rfl) (r_cmp (congrArg some e6)),
  e_fbv h7,
  e_bin (zb rfl) zd (zb rfl) (r_cmp (congrArg some e8)),
  e_fbv h9,
  e_bin (zb rfl) zd (zb rfl) (r_cmp (congrArg some e10)),
  e_fbv h11,
  e_bin (zb rfl) zd (zb rfl) (r_cmp (congrArg some e12)),
  e_fbv h13,
  e_op2 (zb rfl) zd (zb rfl) (fun W=>by rw [← e14];exact zaB W),
  e_bin (zb rfl) (zb rfl) (zb rfl) (r_cmp (congrArg some e15)),
  e_fbv h16,
  trivial⟩ mixed (by kernel_rfl))
theorem zfh {w0:World} (e:Xp) (a:Int) (v1:Bool) (v3:Bool) (v5:Int) (v6:Bool) (v8:Bool) (v10:Bool) (v12:Bool) (v14:Int) (v15:Bool) (e1:((e.op == (1:Int)))=v1) (e3:((e.op == (2:Int)))=v3) (e5:((e.l.length:Int))=v5) (e6:(decide (v5 > (0:Int)))=v6) (e8:((e.op == (1:Int)))=v8) (e10:((e.op == (2:Int)))=v10) (e12:(decide (e.n<(0:Int)))=v12) (e14:((if (4:Int)<a then (4:Int) else a))=v14) (e15:(decide (e.n ≥ v14))=v15) (h2:v1=false) (h4:v3=true) (h7:v6=false) (h9:v8=false) (h11:v10=true) (h13:v12=false) (h16:v15=false):Fun (KN w0) Tryd.prog 57 [.o (.g [pI e.op,pI e.n,pLs cE e.l]),.o (.c (pI a))] (.o (.c (pV (.int .i64 0)))):=
 zi (zk (F:=FL [pI e.op,pI e.n,pLs cE e.l,pI a,pB v1,pB v3,pI v5,pB v6,pB v8,pB v10,pB v12,pI v14,pB v15] []) (C:=[(1000004,.bin .eql 3 (yh 0) (LF (.k (.int .i64 1))) (yh 4)),
  (10004,.fb 4 false),
  (1000006,.bin .eql 3 (yh 0) (LF (.k (.int .i64 2))) (yh 5)),
  (10005,.fb 5 true),
  (1000010,.op (.len [28] 3) [yh 2] [] (yh 6)),
  (1000011,.bin .gtr 3 (yh 6) (LF (.k (.int .i64 0))) (yh 7)),
  (10007,.fb 7 false),
  (1000015,.bin .eql 3 (yh 0) (LF (.k (.int .i64 1))) (yh 8)),
  (10008,.fb 8 false),
  (1000025,.bin .eql 3 (yh 0) (LF (.k (.int .i64 2))) (yh 9)),
  (10009,.fb 9 true),
  (1000029,.bin .lss 3 (yh 1) (LF (.k (.int .i64 0))) (yh 10)),
  (10010,.fb 10 false),
  (1000034,.op (.min [3,3] 3) [yh 3,LF (.k (.int .i64 4))] [] (yh 11)),
  (1000035,.bin .geq 3 (yh 1) (yh 11) (yh 12)),
  (10012,.fb 12 false)]) (k:=⟨57,[.o (.g [.h 0,.h 1,.h 2]),yh 3],[],.o (.c (.k (.int .i64 0))),[]⟩) 0 (zg ⟨za,za,(ze (zf rfl)),za,za,za,za,za,za,za,za,za,za,trivial⟩) ⟨e_bin (zb rfl) zd (zb rfl) (r_cmp (congrArg some e1)),
  e_fbv h2,
  e_bin (zb rfl) zd (zb rfl) (r_cmp (congrArg some e3)),
  e_fbv h4,
  zn (E:=31) (by kernel_rfl) (zc rfl) (zb (by rw [← e5];rfl)),
  e_bin (zb rfl) zd (zb rfl) (r_cmp (congrArg some e6)),
  e_fbv h7,
  e_bin (zb rfl) zd (zb rfl) (r_cmp (congrArg some e8)),
  e_fbv h9,
  e_bin (zb rfl) zd (zb rfl) (r_cmp (congrArg some e10)),
  e_fbv h11,
  e_bin (zb rfl) zd (zb rfl) (r_cmp (congrArg some e12)),
  e_fbv h13,
  e_op2 (zb rfl) zd (zb rfl) (fun W=>by rw [← e14];exact zaB W),
  e_bin (zb rfl) (zb rfl) (zb rfl) (r_cmp (congrArg some e15)),
  e_fbv h16,
  trivial⟩ mixed (by kernel_rfl))
theorem zfi {w0:World} (e:Xp) (a:Int) (v1:Bool) (v3:Bool) (v5:Int) (v6:Bool) (v8:Bool) (v10:Bool) (e1:((e.op == (1:Int)))=v1) (e3:((e.op == (2:Int)))=v3) (e5:((e.l.length:Int))=v5) (e6:(decide (v5 > (0:Int)))=v6) (e8:((e.op == (1:Int)))=v8) (e10:((e.op == (2:Int)))=v10) (h2:v1=false) (h4:v3=true) (h7:v6=false) (h9:v8=false) (h11:v10=false):Fun (KN w0) Tryd.prog 57 [.o (.g [pI e.op,pI e.n,pLs cE e.l]),.o (.c (pI a))] (.o (.c (pV (.int .i64 0)))):=
 zi (zk (F:=FL [pI e.op,pI e.n,pLs cE e.l,pI a,pB v1,pB v3,pI v5,pB v6,pB v8,pB v10] []) (C:=[(1000004,.bin .eql 3 (yh 0) (LF (.k (.int .i64 1))) (yh 4)),
  (10004,.fb 4 false),
  (1000006,.bin .eql 3 (yh 0) (LF (.k (.int .i64 2))) (yh 5)),
  (10005,.fb 5 true),
  (1000010,.op (.len [28] 3) [yh 2] [] (yh 6)),
  (1000011,.bin .gtr 3 (yh 6) (LF (.k (.int .i64 0))) (yh 7)),
  (10007,.fb 7 false),
  (1000015,.bin .eql 3 (yh 0) (LF (.k (.int .i64 1))) (yh 8)),
  (10008,.fb 8 false),
  (1000025,.bin .eql 3 (yh 0) (LF (.k (.int .i64 2))) (yh 9)),
  (10009,.fb 9 false)]) (k:=⟨57,[.o (.g [.h 0,.h 1,.h 2]),yh 3],[],.o (.c (.k (.int .i64 0))),[]⟩) 0 (zg ⟨za,za,(ze (zf rfl)),za,za,za,za,za,za,za,trivial⟩) ⟨e_bin (zb rfl) zd (zb rfl) (r_cmp (congrArg some e1)),
  e_fbv h2,
  e_bin (zb rfl) zd (zb rfl) (r_cmp (congrArg some e3)),
  e_fbv h4,
  zn (E:=31) (by kernel_rfl) (zc rfl) (zb (by rw [← e5];rfl)),
  e_bin (zb rfl) zd (zb rfl) (r_cmp (congrArg some e6)),
  e_fbv h7,
  e_bin (zb rfl) zd (zb rfl) (r_cmp (congrArg some e8)),
  e_fbv h9,
  e_bin (zb rfl) zd (zb rfl) (r_cmp (congrArg some e10)),
  e_fbv h11,
  trivial⟩ mixed (by kernel_rfl))
theorem zfj {w0:World} (e:Xp) (a:Int) (v1:Bool) (v3:Bool) (v5:Bool) (v7:Int) (v8:Bool) (v10:Bool) (e1:((e.op == (1:Int)))=v1) (e3:((e.op == (2:Int)))=v3) (e5:((e.op == (3:Int)))=v5) (e7:((e.l.length:Int))=v7) (e8:((v7 == (2:Int)))=v8) (e10:((e.n == (0:Int)))=v10) (h2:v1=false) (h4:v3=false) (h6:v5=true) (h9:v8=true) (h11:v10=true):Fun (KN w0) Tryd.prog 57 [.o (.g [pI e.op,pI e.n,pLs cE e.l]),.o (.c (pI a))] (.o (.c (pV (.int .i64 0)))):=
 zi (zk (F:=FL [pI e.op,pI e.n,pLs cE e.l,pI a,pB v1,pB v3,pB v5,pI v7,pB v8,pB v10] []) (C:=[(1000004,.bin .eql 3 (yh 0) (LF (.k (.int .i64 1))) (yh 4)),
  (10004,.fb 4 false),
  (1000006,.bin .eql 3 (yh 0) (LF (.k (.int .i64 2))) (yh 5)),
  (10005,.fb 5 false),
  (1000008,.bin .eql 3 (yh 0) (LF (.k (.int .i64 3))) (yh 6)),
  (10006,.fb 6 true),
  (1000012,.op (.len [28] 3) [yh 2] [] (yh 7)),
  (1000013,.bin .eql 3 (yh 7) (LF (.k (.int .i64 2))) (yh 8)),
  (10008,.fb 8 true),
  (1000017,.bin .eql 3 (yh 1) (LF (.k (.int .i64 0))) (yh 9)),
  (10009,.fb 9 true)]) (k:=⟨57,[.o (.g [.h 0,.h 1,.h 2]),yh 3],[],.o (.c (.k (.int .i64 0))),[]⟩) 0 (zg ⟨za,za,(ze (zf rfl)),za,za,za,za,za,za,za,trivial⟩) ⟨e_bin (zb rfl) zd (zb rfl) (r_cmp (congrArg some e1)),
  e_fbv h2,
  e_bin (zb rfl) zd (zb rfl) (r_cmp (congrArg some e3)),
  e_fbv h4,
  e_bin (zb rfl) zd (zb rfl) (r_cmp (congrArg some e5)),
  e_fbv h6,
  zn (E:=31) (by kernel_rfl) (zc rfl) (zb (by rw [← e7];rfl)),
  e_bin (zb rfl) zd (zb rfl) (r_cmp (congrArg some e8)),
  e_fbv h9,
  e_bin (zb rfl) zd (zb rfl) (r_cmp (congrArg some e10)),
  e_fbv h11,
  trivial⟩ mixed (by kernel_rfl))
theorem zfk {w0:World} (e:Xp) (a:Int) (v1:Bool) (v3:Bool) (v5:Bool) (v7:Int) (v8:Bool) (v10:Bool) (e1:((e.op == (1:Int)))=v1) (e3:((e.op == (2:Int)))=v3) (e5:((e.op == (3:Int)))=v5) (e7:((e.l.length:Int))=v7) (e8:((v7 == (2:Int)))=v8) (e10:((e.n == (0:Int)))=v10) (h2:v1=false) (h4:v3=false) (h6:v5=true) (h9:v8=true) (h11:v10=false):Fun (KN w0) Tryd.prog 57 [.o (.g [pI e.op,pI e.n,pLs cE e.l]),.o (.c (pI a))] (.o (.c (pV (.int .i64 4)))):=
 zi (zk (F:=FL [pI e.op,pI e.n,pLs cE e.l,pI a,pB v1,pB v3,pB v5,pI v7,pB v8,pB v10] []) (C:=[(1000004,.bin .eql 3 (yh 0) (LF (.k (.int .i64 1))) (yh 4)),
  (10004,.fb 4 false),
  (1000006,.bin .eql 3 (yh 0) (LF (.k (.int .i64 2))) (yh 5)),
  (10005,.fb 5 false),
  (1000008,.bin .eql 3 (yh 0) (LF (.k (.int .i64 3))) (yh 6)),
  (10006,.fb 6 true),
  (1000012,.op (.len [28] 3) [yh 2] [] (yh 7)),
  (1000013,.bin .eql 3 (yh 7) (LF (.k (.int .i64 2))) (yh 8)),
  (10008,.fb 8 true),
  (1000017,.bin .eql 3 (yh 1) (LF (.k (.int .i64 0))) (yh 9)),
  (10009,.fb 9 false)]) (k:=⟨57,[.o (.g [.h 0,.h 1,.h 2]),yh 3],[],.o (.c (.k (.int .i64 4))),[]⟩) 0 (zg ⟨za,za,(ze (zf rfl)),za,za,za,za,za,za,za,trivial⟩) ⟨e_bin (zb rfl) zd (zb rfl) (r_cmp (congrArg some e1)),
  e_fbv h2,
  e_bin (zb rfl) zd (zb rfl) (r_cmp (congrArg some e3)),
  e_fbv h4,
  e_bin (zb rfl) zd (zb rfl) (r_cmp (congrArg some e5)),
  e_fbv h6,
  zn (E:=31) (by kernel_rfl) (zc rfl) (zb (by rw [← e7];rfl)),
  e_bin (zb rfl) zd (zb rfl) (r_cmp (congrArg some e8)),
  e_fbv h9,
  e_bin (zb rfl) zd (zb rfl) (r_cmp (congrArg some e10)),
  e_fbv h11,
  trivial⟩ mixed (by kernel_rfl))
theorem zfl {w0:World} (e:Xp) (a:Int) (v1:Bool) (v3:Bool) (v5:Bool) (v7:Int) (v8:Bool) (e1:((e.op == (1:Int)))=v1) (e3:((e.op == (2:Int)))=v3) (e5:((e.op == (3:Int)))=v5) (e7:((e.l.length:Int))=v7) (e8:((v7 == (2:Int)))=v8) (h2:v1=false) (h4:v3=false) (h6:v5=true) (h9:v8=false):Fun (KN w0) Tryd.prog 57 [.o (.g [pI e.op,pI e.n,pLs cE e.l]),.o (.c (pI a))] (.o (.c (pV (.int .i64 4)))):=
 zi (zk (F:=FL [pI e.op,pI e.n,pLs cE e.l,pI a,pB v1,pB v3,pB v5,pI v7,pB v8] []) (C:=[(1000004,.bin .eql 3 (yh 0) (LF (.k (.int .i64 1))) (yh 4)),
  (10004,.fb 4 false),
  (1000006,.bin .eql 3 (yh 0) (LF (.k (.int .i64 2))) (yh 5)),
  (10005,.fb 5 false),
  (1000008,.bin .eql 3 (yh 0) (LF (.k (.int .i64 3))) (yh 6)),
  (10006,.fb 6 true),
  (1000012,.op (.len [28] 3) [yh 2] [] (yh 7)),
  (1000013,.bin .eql 3 (yh 7) (LF (.k (.int .i64 2))) (yh 8)),
  (10008,.fb 8 false)]) (k:=⟨57,[.o (.g [.h 0,.h 1,.h 2]),yh 3],[],.o (.c (.k (.int .i64 4))),[]⟩) 0 (zg ⟨za,za,(ze (zf rfl)),za,za,za,za,za,za,trivial⟩) ⟨e_bin (zb rfl) zd (zb rfl) (r_cmp (congrArg some e1)),
  e_fbv h2,
  e_bin (zb rfl) zd (zb rfl) (r_cmp (congrArg some e3)),
  e_fbv h4,
  e_bin (zb rfl) zd (zb rfl) (r_cmp (congrArg some e5)),
  e_fbv h6,
  zn (E:=31) (by kernel_rfl) (zc rfl) (zb (by rw [← e7];rfl)),
  e_bin (zb rfl) zd (zb rfl) (r_cmp (congrArg some e8)),
  e_fbv h9,
  trivial⟩ mixed (by kernel_rfl))
theorem zfm {w0:World} (e:Xp) (a:Int) (v1:Bool) (v3:Bool) (v5:Bool) (v7:Bool) (v9:Int) (v10:Bool) (v12:Bool) (e1:((e.op == (1:Int)))=v1) (e3:((e.op == (2:Int)))=v3) (e5:((e.op == (3:Int)))=v5) (e7:((e.op == (4:Int)))=v7) (e9:((e.l.length:Int))=v9) (e10:((v9 == (2:Int)))=v10) (e12:((e.n == (0:Int)))=v12) (h2:v1=false) (h4:v3=false) (h6:v5=false) (h8:v7=true) (h11:v10=true) (h13:v12=true):Fun (KN w0) Tryd.prog 57 [.o (.g [pI e.op,pI e.n,pLs cE e.l]),.o (.c (pI a))] (.o (.c (pV (.int .i64 0)))):=
 zi (zk (F:=FL [pI e.op,pI e.n,pLs cE e.l,pI a,pB v1,pB v3,pB v5,pB v7,pI v9,pB v10,pB v12] []) (C:=[(1000004,.bin .eql 3 (yh 0) (LF (.k (.int .i64 1))) (yh 4)),
  (10004,.fb 4 false),
  (1000006,.bin .eql 3 (yh 0) (LF (.k (.int .i64 2))) (yh 5)),
  (10005,.fb 5 false),
  (1000008,.bin .eql 3 (yh 0) (LF (.k (.int .i64 3))) (yh 6)),
  (10006,.fb 6 false),
  (1000010,.bin .eql 3 (yh 0) (LF (.k (.int .i64 4))) (yh 7)),
  (10007,.fb 7 true),
  (1000014,.op (.len [28] 3) [yh 2] [] (yh 8)),
  (1000015,.bin .eql 3 (yh 8) (LF (.k (.int .i64 2))) (yh 9)),
  (10009,.fb 9 true),
  (1000019,.bin .eql 3 (yh 1) (LF (.k (.int .i64 0))) (yh 10)),
  (10010,.fb 10 true)]) (k:=⟨57,[.o (.g [.h 0,.h 1,.h 2]),yh 3],[],.o (.c (.k (.int .i64 0))),[]⟩) 0 (zg ⟨za,za,(ze (zf rfl)),za,za,za,za,za,za,za,za,trivial⟩) ⟨e_bin (zb rfl) zd (zb rfl) (r_cmp (congrArg some e1)),
  e_fbv h2,
  e_bin (zb rfl) zd (zb rfl) (r_cmp (congrArg some e3)),
  e_fbv h4,
  e_bin (zb rfl) zd (zb rfl) (r_cmp (congrArg some e5)),
  e_fbv h6,
  e_bin (zb rfl) zd (zb rfl) (r_cmp (congrArg some e7)),
  e_fbv h8,
  zn (E:=31) (by kernel_rfl) (zc rfl) (zb (by rw [← e9];rfl)),
  e_bin (zb rfl) zd (zb rfl) (r_cmp (congrArg some e10)),
  e_fbv h11,
  e_bin (zb rfl) zd (zb rfl) (r_cmp (congrArg some e12)),
  e_fbv h13,
  trivial⟩ mixed (by kernel_rfl))
theorem zfn {w0:World} (e:Xp) (a:Int) (v1:Bool) (v3:Bool) (v5:Bool) (v7:Bool) (v9:Int) (v10:Bool) (v12:Bool) (e1:((e.op == (1:Int)))=v1) (e3:((e.op == (2:Int)))=v3) (e5:((e.op == (3:Int)))=v5) (e7:((e.op == (4:Int)))=v7) (e9:((e.l.length:Int))=v9) (e10:((v9 == (2:Int)))=v10) (e12:((e.n == (0:Int)))=v12) (h2:v1=false) (h4:v3=false) (h6:v5=false) (h8:v7=true) (h11:v10=true) (h13:v12=false):Fun (KN w0) Tryd.prog 57 [.o (.g [pI e.op,pI e.n,pLs cE e.l]),.o (.c (pI a))] (.o (.c (pV (.int .i64 4)))):=
 zi (zk (F:=FL [pI e.op,pI e.n,pLs cE e.l,pI a,pB v1,pB v3,pB v5,pB v7,pI v9,pB v10,pB v12] []) (C:=[(1000004,.bin .eql 3 (yh 0) (LF (.k (.int .i64 1))) (yh 4)),
  (10004,.fb 4 false),
  (1000006,.bin .eql 3 (yh 0) (LF (.k (.int .i64 2))) (yh 5)),
  (10005,.fb 5 false),
  (1000008,.bin .eql 3 (yh 0) (LF (.k (.int .i64 3))) (yh 6)),
  (10006,.fb 6 false),
  (1000010,.bin .eql 3 (yh 0) (LF (.k (.int .i64 4))) (yh 7)),
  (10007,.fb 7 true),
  (1000014,.op (.len [28] 3) [yh 2] [] (yh 8)),
  (1000015,.bin .eql 3 (yh 8) (LF (.k (.int .i64 2))) (yh 9)),
  (10009,.fb 9 true),
  (1000019,.bin .eql 3 (yh 1) (LF (.k (.int .i64 0))) (yh 10)),
  (10010,.fb 10 false)]) (k:=⟨57,[.o (.g [.h 0,.h 1,.h 2]),yh 3],[],.o (.c (.k (.int .i64 4))),[]⟩) 0 (zg ⟨za,za,(ze (zf rfl)),za,za,za,za,za,za,za,za,trivial⟩) ⟨e_bin (zb rfl) zd (zb rfl) (r_cmp (congrArg some e1)),
  e_fbv h2,
  e_bin (zb rfl) zd (zb rfl) (r_cmp (congrArg some e3)),
  e_fbv h4,
  e_bin (zb rfl) zd (zb rfl) (r_cmp (congrArg some e5)),
  e_fbv h6,
  e_bin (zb rfl) zd (zb rfl) (r_cmp (congrArg some e7)),
  e_fbv h8,
  zn (E:=31) (by kernel_rfl) (zc rfl) (zb (by rw [← e9];rfl)),
  e_bin (zb rfl) zd (zb rfl) (r_cmp (congrArg some e10)),
  e_fbv h11,
  e_bin (zb rfl) zd (zb rfl) (r_cmp (congrArg some e12)),
  e_fbv h13,
  trivial⟩ mixed (by kernel_rfl))
theorem zfo {w0:World} (e:Xp) (a:Int) (v1:Bool) (v3:Bool) (v5:Bool) (v7:Bool) (v9:Int) (v10:Bool) (e1:((e.op == (1:Int)))=v1) (e3:((e.op == (2:Int)))=v3) (e5:((e.op == (3:Int)))=v5) (e7:((e.op == (4:Int)))=v7) (e9:((e.l.length:Int))=v9) (e10:((v9 == (2:Int)))=v10) (h2:v1=false) (h4:v3=false) (h6:v5=false) (h8:v7=true) (h11:v10=false):Fun (KN w0) Tryd.prog 57 [.o (.g [pI e.op,pI e.n,pLs cE e.l]),.o (.c (pI a))] (.o (.c (pV (.int .i64 4)))):=
 zi (zk (F:=FL [pI e.op,pI e.n,pLs cE e.l,pI a,pB v1,pB v3,pB v5,pB v7,pI v9,pB v10] []) (C:=[(1000004,.bin .eql 3 (yh 0) (LF (.k (.int .i64 1))) (yh 4)),
  (10004,.fb 4 false),
  (1000006,.bin .eql 3 (yh 0) (LF (.k (.int .i64 2))) (yh 5)),
  (10005,.fb 5 false),
  (1000008,.bin .eql 3 (yh 0) (LF (.k (.int .i64 3))) (yh 6)),
  (10006,.fb 6 false),
  (1000010,.bin .eql 3 (yh 0) (LF (.k (.int .i64 4))) (yh 7)),
  (10007,.fb 7 true),
  (1000014,.op (.len [28] 3) [yh 2] [] (yh 8)),
  (1000015,.bin .eql 3 (yh 8) (LF (.k (.int .i64 2))) (yh 9)),
  (10009,.fb 9 false)]) (k:=⟨57,[.o (.g [.h 0,.h 1,.h 2]),yh 3],[],.o (.c (.k (.int .i64 4))),[]⟩) 0 (zg ⟨za,za,(ze (zf rfl)),za,za,za,za,za,za,za,trivial⟩) ⟨e_bin (zb rfl) zd (zb rfl) (r_cmp (congrArg some e1)),
  e_fbv h2,
  e_bin (zb rfl) zd (zb rfl) (r_cmp (congrArg some e3)),
  e_fbv h4,
  e_bin (zb rfl) zd (zb rfl) (r_cmp (congrArg some e5)),
  e_fbv h6,
  e_bin (zb rfl) zd (zb rfl) (r_cmp (congrArg some e7)),
  e_fbv h8,
  zn (E:=31) (by kernel_rfl) (zc rfl) (zb (by rw [← e9];rfl)),
  e_bin (zb rfl) zd (zb rfl) (r_cmp (congrArg some e10)),
  e_fbv h11,
  trivial⟩ mixed (by kernel_rfl))
theorem zfp {w0:World} (e:Xp) (a:Int) (v1:Bool) (v3:Bool) (v5:Bool) (v7:Bool) (v9:Bool) (v11:Int) (v12:Bool) (v14:Bool) (e1:((e.op == (1:Int)))=v1) (e3:((e.op == (2:Int)))=v3) (e5:((e.op == (3:Int)))=v5) (e7:((e.op == (4:Int)))=v7) (e9:((e.op == (5:Int)))=v9) (e11:((e.l.length:Int))=v11) (e12:((v11 == (2:Int)))=v12) (e14:((e.n == (0:Int)))=v14) (h2:v1=false) (h4:v3=false) (h6:v5=false) (h8:v7=false) (h10:v9=true) (h13:v12=true) (h15:v14=true):Fun (KN w0) Tryd.prog 57 [.o (.g [pI e.op,pI e.n,pLs cE e.l]),.o (.c (pI a))] (.o (.c (pV (.int .i64 0)))):=
 zi (zk (F:=FL [pI e.op,pI e.n,pLs cE e.l,pI a,pB v1,pB v3,pB v5,pB v7,pB v9,pI v11,pB v12,pB v14] []) (C:=[(1000004,.bin .eql 3 (yh 0) (LF (.k (.int .i64 1))) (yh 4)),
  (10004,.fb 4 false),
  (1000006,.bin .eql 3 (yh 0) (LF (.k (.int .i64 2))) (yh 5)),
  (10005,.fb 5 false),
  (1000008,.bin .eql 3 (yh 0) (LF (.k (.int .i64 3))) (yh 6)),
  (10006,.fb 6 false),
  (1000010,.bin .eql 3 (yh 0) (LF (.k (.int .i64 4))) (yh 7)),
  (10007,.fb 7 false),
  (1000012,.bin .eql 3 (yh 0) (LF (.k (.int .i64 5))) (yh 8)),
  (10008,.fb 8 true),
  (1000016,.op (.len [28] 3) [yh 2] [] (yh 9)),
  (1000017,.bin .eql 3 (yh 9) (LF (.k (.int .i64 2))) (yh 10)),
  (10010,.fb 10 true),
  (1000021,.bin .eql 3 (yh 1) (LF (.k (.int .i64 0))) (yh 11)),
  (10011,.fb 11 true)]) (k:=⟨57,[.o (.g [.h 0,.h 1,.h 2]),yh 3],[],.o (.c (.k (.int .i64 0))),[]⟩) 0 (zg ⟨za,za,(ze (zf rfl)),za,za,za,za,za,za,za,za,za,trivial⟩) ⟨e_bin (zb rfl) zd (zb rfl) (r_cmp (congrArg some e1)),
  e_fbv h2,
  e_bin (zb rfl) zd (zb rfl) (r_cmp (congrArg some e3)),
  e_fbv h4,
  e_bin (zb rfl) zd (zb rfl) (r_cmp (congrArg some e5)),
  e_fbv h6,
  e_bin (zb rfl) zd (zb rfl) (r_cmp (congrArg some e7)),
  e_fbv h8,
  e_bin (zb rfl) zd (zb rfl) (r_cmp (congrArg some e9)),
  e_fbv h10,
  zn (E:=31) (by kernel_rfl) (zc rfl) (zb (by rw [← e11];rfl)),
  e_bin (zb rfl) zd (zb rfl) (r_cmp (congrArg some e12)),
  e_fbv h13,
  e_bin (zb rfl) zd (zb rfl) (r_cmp (congrArg some e14)),
  e_fbv h15,
  trivial⟩ mixed (by kernel_rfl))
theorem zfq {w0:World} (e:Xp) (a:Int) (v1:Bool) (v3:Bool) (v5:Bool) (v7:Bool) (v9:Bool) (v11:Int) (v12:Bool) (v14:Bool) (e1:((e.op == (1:Int)))=v1) (e3:((e.op == (2:Int)))=v3) (e5:((e.op == (3:Int)))=v5) (e7:((e.op == (4:Int)))=v7) (e9:((e.op == (5:Int)))=v9) (e11:((e.l.length:Int))=v11) (e12:((v11 == (2:Int)))=v12) (e14:((e.n == (0:Int)))=v14) (h2:v1=false) (h4:v3=false) (h6:v5=false) (h8:v7=false) (h10:v9=true) (h13:v12=true) (h15:v14=false):Fun (KN w0) Tryd.prog 57 [.o (.g [pI e.op,pI e.n,pLs cE e.l]),.o (.c (pI a))] (.o (.c (pV (.int .i64 4)))):=
 zi (zk (F:=FL [pI e.op,pI e.n,pLs cE e.l,pI a,pB v1,pB v3,pB v5,pB v7,pB v9,pI v11,pB v12,pB v14] []) (C:=[(1000004,.bin .eql 3 (yh 0) (LF (.k (.int .i64 1))) (yh 4)),
  (10004,.fb 4 false),
  (1000006,.bin .eql 3 (yh 0) (LF (.k (.int .i64 2))) (yh 5)),
  (10005,.fb 5 false),
  (1000008,.bin .eql 3 (yh 0) (LF (.k (.int .i64 3))) (yh 6)),
  (10006,.fb 6 false),
  (1000010,.bin .eql 3 (yh 0) (LF (.k (.int .i64 4))) (yh 7)),
  (10007,.fb 7 false),
  (1000012,.bin .eql 3 (yh 0) (LF (.k (.int .i64 5))) (yh 8)),
  (10008,.fb 8 true),
  (1000016,.op (.len [28] 3) [yh 2] [] (yh 9)),
  (1000017,.bin .eql 3 (yh 9) (LF (.k (.int .i64 2))) (yh 10)),
  (10010,.fb 10 true),
  (1000021,.bin .eql 3 (yh 1) (LF (.k (.int .i64 0))) (yh 11)),
  (10011,.fb 11 false)]) (k:=⟨57,[.o (.g [.h 0,.h 1,.h 2]),yh 3],[],.o (.c (.k (.int .i64 4))),[]⟩) 0 (zg ⟨za,za,(ze (zf rfl)),za,za,za,za,za,za,za,za,za,trivial⟩) ⟨e_bin (zb rfl) zd (zb rfl) (r_cmp (congrArg some e1)),
  e_fbv h2,
  e_bin (zb rfl) zd (zb rfl) (r_cmp (congrArg some e3)),
  e_fbv h4,
  e_bin (zb rfl) zd (zb rfl) (r_cmp (congrArg some e5)),
  e_fbv h6,
  e_bin (zb rfl) zd (zb rfl) (r_cmp (congrArg some e7)),
  e_fbv h8,
  e_bin (zb rfl) zd (zb rfl) (r_cmp (congrArg some e9)),
  e_fbv h10,
  zn (E:=31) (by kernel_rfl) (zc rfl) (zb (by rw [← e11];rfl)),
  e_bin (zb rfl) zd (zb rfl) (r_cmp (congrArg some e12)),
  e_fbv h13,
  e_bin (zb rfl) zd (zb rfl) (r_cmp (congrArg some e14)),
  e_fbv h15,
  trivial⟩ mixed (by kernel_rfl))
theorem zfr {w0:World} (e:Xp) (a:Int) (v1:Bool) (v3:Bool) (v5:Bool) (v7:Bool) (v9:Bool) (v11:Int) (v12:Bool) (e1:((e.op == (1:Int)))=v1) (e3:((e.op == (2:Int)))=v3) (e5:((e.op == (3:Int)))=v5) (e7:((e.op == (4:Int)))=v7) (e9:((e.op == (5:Int)))=v9) (e11:((e.l.length:Int))=v11) (e12:((v11 == (2:Int)))=v12) (h2:v1=false) (h4:v3=false) (h6:v5=false) (h8:v7=false) (h10:v9=true) (h13:v12=false):Fun (KN w0) Tryd.prog 57 [.o (.g [pI e.op,pI e.n,pLs cE e.l]),.o (.c (pI a))] (.o (.c (pV (.int .i64 4)))):=
 zi (zk (F:=FL [pI e.op,pI e.n,pLs cE e.l,pI a,pB v1,pB v3,pB v5,pB v7,pB v9,pI v11,pB v12] []) (C:=[(1000004,.bin .eql 3 (yh 0) (LF (.k (.int .i64 1))) (yh 4)),
  (10004,.fb 4 false),
  (1000006,.bin .eql 3 (yh 0) (LF (.k (.int .i64 2))) (yh 5)),
  (10005,.fb 5 false),
  (1000008,.bin .eql 3 (yh 0) (LF (.k (.int .i64 3))) (yh 6)),
  (10006,.fb 6 false),
  (1000010,.bin .eql 3 (yh 0) (LF (.k (.int .i64 4))) (yh 7)),
  (10007,.fb 7 false),
  (1000012,.bin .eql 3 (yh 0) (LF (.k (.int .i64 5))) (yh 8)),
  (10008,.fb 8 true),
  (1000016,.op (.len [28] 3) [yh 2] [] (yh 9)),
  (1000017,.bin .eql 3 (yh 9) (LF (.k (.int .i64 2))) (yh 10)),
  (10010,.fb 10 false)]) (k:=⟨57,[.o (.g [.h 0,.h 1,.h 2]),yh 3],[],.o (.c (.k (.int .i64 4))),[]⟩) 0 (zg ⟨za,za,(ze (zf rfl)),za,za,za,za,za,za,za,za,trivial⟩) ⟨e_bin (zb rfl) zd (zb rfl) (r_cmp (congrArg some e1)),
  e_fbv h2,
  e_bin (zb rfl) zd (zb rfl) (r_cmp (congrArg some e3)),
  e_fbv h4,
  e_bin (zb rfl) zd (zb rfl) (r_cmp (congrArg some e5)),
  e_fbv h6,
  e_bin (zb rfl) zd (zb rfl) (r_cmp (congrArg some e7)),
  e_fbv h8,
  e_bin (zb rfl) zd (zb rfl) (r_cmp (congrArg some e9)),
  e_fbv h10,
  zn (E:=31) (by kernel_rfl) (zc rfl) (zb (by rw [← e11];rfl)),
  e_bin (zb rfl) zd (zb rfl) (r_cmp (congrArg some e12)),
  e_fbv h13,
  trivial⟩ mixed (by kernel_rfl))
theorem zfs {w0:World} (e:Xp) (a:Int) (v1:Bool) (v3:Bool) (v5:Bool) (v7:Bool) (v9:Bool) (v11:Bool) (v13:Int) (v14:Bool) (v16:Bool) (e1:((e.op == (1:Int)))=v1) (e3:((e.op == (2:Int)))=v3) (e5:((e.op == (3:Int)))=v5) (e7:((e.op == (4:Int)))=v7) (e9:((e.op == (5:Int)))=v9) (e11:((e.op == (6:Int)))=v11) (e13:((e.l.length:Int))=v13) (e14:((v13 == (2:Int)))=v14) (e16:((e.n == (0:Int)))=v16) (h2:v1=false) (h4:v3=false) (h6:v5=false) (h8:v7=false) (h10:v9=false) (h12:v11=true) (h15:v14=true) (h17:v16=true):Fun (KN w0) Tryd.prog 57 [.o (.g [pI e.op,pI e.n,pLs cE e.l]),.o (.c (pI a))] (.o (.c (pV (.int .i64 0)))):=
 zi (zk (F:=FL [pI e.op,pI e.n,pLs cE e.l,pI a,pB v1,pB v3,pB v5,pB v7,pB v9,pB v11,pI v13,pB v14,pB v16] []) (C:=[(1000004,.bin .eql 3 (yh 0) (LF (.k (.int .i64 1))) (yh 4)),
  (10004,.fb 4 false),
  (1000006,.bin .eql 3 (yh 0) (LF (.k (.int .i64 2))) (yh 5)),
  (10005,.fb 5 false),
  (1000008,.bin .eql 3 (yh 0) (LF (.k (.int .i64 3))) (yh 6)),
  (10006,.fb 6 false),
  (1000010,.bin .eql 3 (yh 0) (LF (.k (.int .i64 4))) (yh 7)),
  (10007,.fb 7 false),
  (1000012,.bin .eql 3 (yh 0) (LF (.k (.int .i64 5))) (yh 8)),
  (10008,.fb 8 false),
  (1000014,.bin .eql 3 (yh 0) (LF (.k (.int .i64 6))) (yh 9)),
  (10009,.fb 9 true),
  (1000018,.op (.len [28] 3) [yh 2] [] (yh 10)),
  (1000019,.bin .eql 3 (yh 10) (LF (.k (.int .i64 2))) (yh 11)),
  (10011,.fb 11 true),
  (1000023,.bin .eql 3 (yh 1) (LF (.k (.int .i64 0))) (yh 12)),
  (10012,.fb 12 true)]) (k:=⟨57,[.o (.g [.h 0,.h 1,.h 2]),yh 3],[],.o (.c (.k (.int .i64 0))),[]⟩) 0 (zg ⟨za,za,(ze (zf rfl)),za,za,za,za,za,za,za,za,za,za,trivial⟩) ⟨e_bin (zb rfl) zd (zb rfl) (r_cmp (congrArg some e1)),
  e_fbv h2,
  e_bin (zb rfl) zd (zb rfl) (r_cmp (congrArg some e3)),
  e_fbv h4,
  e_bin (zb rfl) zd (zb rfl) (r_cmp (congrArg some e5)),
  e_fbv h6,
  e_bin (zb rfl) zd (zb rfl) (r_cmp (congrArg some e7)),
  e_fbv h8,
  e_bin (zb rfl) zd (zb rfl) (r_cmp (congrArg some e9)),
  e_fbv h10,
  e_bin (zb rfl) zd (zb rfl) (r_cmp (congrArg some e11)),
  e_fbv h12,
  zn (E:=31) (by kernel_rfl) (zc rfl) (zb (by rw [← e13];rfl)),
  e_bin (zb rfl) zd (zb rfl) (r_cmp (congrArg some e14)),
  e_fbv h15,
  e_bin (zb rfl) zd (zb rfl) (r_cmp (congrArg some e16)),
  e_fbv h17,
  trivial⟩ mixed (by kernel_rfl))
theorem zft {w0:World} (e:Xp) (a:Int) (v1:Bool) (v3:Bool) (v5:Bool) (v7:Bool) (v9:Bool) (v11:Bool) (v13:Int) (v14:Bool) (v16:Bool) (e1:((e.op == (1:Int)))=v1) (e3:((e.op == (2:Int)))=v3) (e5:((e.op == (3:Int)))=v5) (e7:((e.op == (4:Int)))=v7) (e9:((e.op == (5:Int)))=v9) (e11:((e.op == (6:Int)))=v11) (e13:((e.l.length:Int))=v13) (e14:((v13 == (2:Int)))=v14) (e16:((e.n == (0:Int)))=v16) (h2:v1=false) (h4:v3=false) (h6:v5=false) (h8:v7=false) (h10:v9=false) (h12:v11=true) (h15:v14=true) (h17:v16=false):Fun (KN w0) Tryd.prog 57 [.o (.g [pI e.op,pI e.n,pLs cE e.l]),.o (.c (pI a))] (.o (.c (pV (.int .i64 4)))):=
 zi (zk (F:=FL [pI e.op,pI e.n,pLs cE e.l,pI a,pB v1,pB v3,pB v5,pB v7,pB v9,pB v11,pI v13,pB v14,pB v16] []) (C:=[(1000004,.bin .eql 3 (yh 0) (LF (.k (.int .i64 1))) (yh 4)),
  (10004,.fb 4 false),
  (1000006,.bin .eql 3 (yh 0) (LF (.k (.int .i64 2))) (yh 5)),
  (10005,.fb 5 false),
  (1000008,.bin .eql 3 (yh 0) (LF (.k (.int .i64 3))) (yh 6)),
  (10006,.fb 6 false),
  (1000010,.bin .eql 3 (yh 0) (LF (.k (.int .i64 4))) (yh 7)),
  (10007,.fb 7 false),
  (1000012,.bin .eql 3 (yh 0) (LF (.k (.int .i64 5))) (yh 8)),
  (10008,.fb 8 false),
  (1000014,.bin .eql 3 (yh 0) (LF (.k (.int .i64 6))) (yh 9)),
  (10009,.fb 9 true),
  (1000018,.op (.len [28] 3) [yh 2] [] (yh 10)),
  (1000019,.bin .eql 3 (yh 10) (LF (.k (.int .i64 2))) (yh 11)),
  (10011,.fb 11 true),
  (1000023,.bin .eql 3 (yh 1) (LF (.k (.int .i64 0))) (yh 12)),
  (10012,.fb 12 false)]) (k:=⟨57,[.o (.g [.h 0,.h 1,.h 2]),yh 3],[],.o (.c (.k (.int .i64 4))),[]⟩) 0 (zg ⟨za,za,(ze (zf rfl)),za,za,za,za,za,za,za,za,za,za,trivial⟩) ⟨e_bin (zb rfl) zd (zb rfl) (r_cmp (congrArg some e1)),
  e_fbv h2,
  e_bin (zb rfl) zd (zb rfl) (r_cmp (congrArg some e3)),
  e_fbv h4,
  e_bin (zb rfl) zd (zb rfl) (r_cmp (congrArg some e5)),
  e_fbv h6,
  e_bin (zb rfl) zd (zb rfl) (r_cmp (congrArg some e7)),
  e_fbv h8,
  e_bin (zb rfl) zd (zb rfl) (r_cmp (congrArg some e9)),
  e_fbv h10,
  e_bin (zb rfl) zd (zb rfl) (r_cmp (congrArg some e11)),
  e_fbv h12,
  zn (E:=31) (by kernel_rfl) (zc rfl) (zb (by rw [← e13];rfl)),
  e_bin (zb rfl) zd (zb rfl) (r_cmp (congrArg some e14)),
  e_fbv h15,
  e_bin (zb rfl) zd (zb rfl) (r_cmp (congrArg some e16)),
  e_fbv h17,
  trivial⟩ mixed (by kernel_rfl))
theorem zfu {w0:World} (e:Xp) (a:Int) (v1:Bool) (v3:Bool) (v5:Bool) (v7:Bool) (v9:Bool) (v11:Bool) (v13:Int) (v14:Bool) (e1:((e.op == (1:Int)))=v1) (e3:((e.op == (2:Int)))=v3) (e5:((e.op == (3:Int)))=v5) (e7:((e.op == (4:Int)))=v7) (e9:((e.op == (5:Int)))=v9) (e11:((e.op == (6:Int)))=v11) (e13:((e.l.length:Int))=v13) (e14:((v13 == (2:Int)))=v14) (h2:v1=false) (h4:v3=false) (h6:v5=false) (h8:v7=false) (h10:v9=false) (h12:v11=true) (h15:v14=false):Fun (KN w0) Tryd.prog 57 [.o (.g [pI e.op,pI e.n,pLs cE e.l]),.o (.c (pI a))] (.o (.c (pV (.int .i64 4)))):=
 zi (zk (F:=FL [pI e.op,pI e.n,pLs cE e.l,pI a,pB v1,pB v3,pB v5,pB v7,pB v9,pB v11,pI v13,pB v14] []) (C:=[(1000004,.bin .eql 3 (yh 0) (LF (.k (.int .i64 1))) (yh 4)),
  (10004,.fb 4 false),
  (1000006,.bin .eql 3 (yh 0) (LF (.k (.int .i64 2))) (yh 5)),
  (10005,.fb 5 false),
  (1000008,.bin .eql 3 (yh 0) (LF (.k (.int .i64 3))) (yh 6)),
  (10006,.fb 6 false),
  (1000010,.bin .eql 3 (yh 0) (LF (.k (.int .i64 4))) (yh 7)),
  (10007,.fb 7 false),
  (1000012,.bin .eql 3 (yh 0) (LF (.k (.int .i64 5))) (yh 8)),
  (10008,.fb 8 false),
  (1000014,.bin .eql 3 (yh 0) (LF (.k (.int .i64 6))) (yh 9)),
  (10009,.fb 9 true),
  (1000018,.op (.len [28] 3) [yh 2] [] (yh 10)),
  (1000019,.bin .eql 3 (yh 10) (LF (.k (.int .i64 2))) (yh 11)),
  (10011,.fb 11 false)]) (k:=⟨57,[.o (.g [.h 0,.h 1,.h 2]),yh 3],[],.o (.c (.k (.int .i64 4))),[]⟩) 0 (zg ⟨za,za,(ze (zf rfl)),za,za,za,za,za,za,za,za,za,trivial⟩) ⟨e_bin (zb rfl) zd (zb rfl) (r_cmp (congrArg some e1)),
  e_fbv h2,
  e_bin (zb rfl) zd (zb rfl) (r_cmp (congrArg some e3)),
  e_fbv h4,
  e_bin (zb rfl) zd (zb rfl) (r_cmp (congrArg some e5)),
  e_fbv h6,
  e_bin (zb rfl) zd (zb rfl) (r_cmp (congrArg some e7)),
  e_fbv h8,
  e_bin (zb rfl) zd (zb rfl) (r_cmp (congrArg some e9)),
  e_fbv h10,
  e_bin (zb rfl) zd (zb rfl) (r_cmp (congrArg some e11)),
  e_fbv h12,
  zn (E:=31) (by kernel_rfl) (zc rfl) (zb (by rw [← e13];rfl)),
  e_bin (zb rfl) zd (zb rfl) (r_cmp (congrArg some e14)),
  e_fbv h15,
  trivial⟩ mixed (by kernel_rfl))
theorem zfv {w0:World} (e:Xp) (a:Int) (v1:Bool) (v3:Bool) (v5:Bool) (v7:Bool) (v9:Bool) (v11:Bool) (v13:Bool) (v15:Int) (v16:Bool) (v18:Bool) (e1:((e.op == (1:Int)))=v1) (e3:((e.op == (2:Int)))=v3) (e5:((e.op == (3:Int)))=v5) (e7:((e.op == (4:Int)))=v7) (e9:((e.op == (5:Int)))=v9) (e11:((e.op == (6:Int)))=v11) (e13:((e.op == (7:Int)))=v13) (e15:((e.l.length:Int))=v15) (e16:((v15 == (2:Int)))=v16) (e18:((e.n == (0:Int)))=v18) (h2:v1=false) (h4:v3=false) (h6:v5=false) (h8:v7=false) (h10:v9=false) (h12:v11=false) (h14:v13=true) (h17:v16=true) (h19:v18=true):Fun (KN w0) Tryd.prog 57 [.o (.g [pI e.op,pI e.n,pLs cE e.l]),.o (.c (pI a))] (.o (.c (pV (.int .i64 0)))):=
 zi (zk (F:=FL [pI e.op,pI e.n,pLs cE e.l,pI a,pB v1,pB v3,pB v5,pB v7,pB v9,pB v11,pB v13,pI v15,pB v16,pB v18] []) (C:=[(1000004,.bin .eql 3 (yh 0) (LF (.k (.int .i64 1))) (yh 4)),
  (10004,.fb 4 false),
  (1000006,.bin .eql 3 (yh 0) (LF (.k (.int .i64 2))) (yh 5)),
  (10005,.fb 5 false),
  (1000008,.bin .eql 3 (yh 0) (LF (.k (.int .i64 3))) (yh 6)),
  (10006,.fb 6 false),
  (1000010,.bin .eql 3 (yh 0) (LF (.k (.int .i64 4))) (yh 7)),
  (10007,.fb 7 false),
  (1000012,.bin .eql 3 (yh 0) (LF (.k (.int .i64 5))) (yh 8)),
  (10008,.fb 8 false),
  (1000014,.bin .eql 3 (yh 0) (LF (.k (.int .i64 6))) (yh 9)),
  (10009,.fb 9 false),
  (1000016,.bin .eql 3 (yh 0) (LF (.k (.int .i64 7))) (yh 10)),
  (10010,.fb 10 true),
  (1000020,.op (.len [28] 3) [yh 2] [] (yh 11)),
  (1000021,.bin .eql 3 (yh 11) (LF (.k (.int .i64 2))) (yh 12)),
  (10012,.fb 12 true),
  (1000025,.bin .eql 3 (yh 1) (LF (.k (.int .i64 0))) (yh 13)),
  (10013,.fb 13 true)]) (k:=⟨57,[.o (.g [.h 0,.h 1,.h 2]),yh 3],[],.o (.c (.k (.int .i64 0))),[]⟩) 0 (zg ⟨za,za,(ze (zf rfl)),za,za,za,za,za,za,za,za,za,za,za,trivial⟩) ⟨e_bin (zb rfl) zd (zb rfl) (r_cmp (congrArg some e1)),
  e_fbv h2,
  e_bin (zb rfl) zd (zb rfl) (r_cmp (congrArg some e3)),
  e_fbv h4,
  e_bin (zb rfl) zd (zb rfl) (r_cmp (congrArg some e5)),
  e_fbv h6,
  e_bin (zb rfl) zd (zb rfl) (r_cmp (congrArg some e7)),
  e_fbv h8,
  e_bin (zb rfl) zd (zb rfl) (r_cmp (congrArg some e9)),
  e_fbv h10,
  e_bin (zb rfl) zd (zb rfl) (r_cmp (congrArg some e11)),
  e_fbv h12,
  e_bin (zb rfl) zd (zb rfl) (r_cmp (congrArg some e13)),
  e_fbv h14,
  zn (E:=31) (by kernel_rfl) (zc rfl) (zb (by rw [← e15];rfl)),
  e_bin (zb rfl) zd (zb rfl) (r_cmp (congrArg some e16)),
  e_fbv h17,
  e_bin (zb rfl) zd (zb rfl) (r_cmp (congrArg some e18)),
  e_fbv h19,
  trivial⟩ mixed (by kernel_rfl))
theorem zfw {w0:World} (e:Xp) (a:Int) (v1:Bool) (v3:Bool) (v5:Bool) (v7:Bool) (v9:Bool) (v11:Bool) (v13:Bool) (v15:Int) (v16:Bool) (v18:Bool) (e1:((e.op == (1:Int)))=v1) (e3:((e.op == (2:Int)))=v3) (e5:((e.op == (3:Int)))=v5) (e7:((e.op == (4:Int)))=v7) (e9:((e.op == (5:Int)))=v9) (e11:((e.op == (6:Int)))=v11) (e13:((e.op == (7:Int)))=v13) (e15:((e.l.length:Int))=v15) (e16:((v15 == (2:Int)))=v16) (e18:((e.n == (0:Int)))=v18) (h2:v1=false) (h4:v3=false) (h6:v5=false) (h8:v7=false) (h10:v9=false) (h12:v11=false) (h14:v13=true) (h17:v16=true) (h19:v18=false):Fun (KN w0) Tryd.prog 57 [.o (.g [pI e.op,pI e.n,pLs cE e.l]),.o (.c (pI a))] (.o (.c (pV (.int .i64 4)))):=
 zi (zk (F:=FL [pI e.op,pI e.n,pLs cE e.l,pI a,pB v1,pB v3,pB v5,pB v7,pB v9,pB v11,pB v13,pI v15,pB v16,pB v18] []) (C:=[(1000004,.bin .eql 3 (yh 0) (LF (.k (.int .i64 1))) (yh 4)),
  (10004,.fb 4 false),
  (1000006,.bin .eql 3 (yh 0) (LF (.k (.int .i64 2))) (yh 5)),
  (10005,.fb 5 false),
  (1000008,.bin .eql 3 (yh 0) (LF (.k (.int .i64 3))) (yh 6)),
  (10006,.fb 6 false),
  (1000010,.bin .eql 3 (yh 0) (LF (.k (.int .i64 4))) (yh 7)),
  (10007,.fb 7 false),
  (1000012,.bin .eql 3 (yh 0) (LF (.k (.int .i64 5))) (yh 8)),
  (10008,.fb 8 false),
  (1000014,.bin .eql 3 (yh 0) (LF (.k (.int .i64 6))) (yh 9)),
  (10009,.fb 9 false),
  (1000016,.bin .eql 3 (yh 0) (LF (.k (.int .i64 7))) (yh 10)),
  (10010,.fb 10 true),
  (1000020,.op (.len [28] 3) [yh 2] [] (yh 11)),
  (1000021,.bin .eql 3 (yh 11) (LF (.k (.int .i64 2))) (yh 12)),
  (10012,.fb 12 true),
  (1000025,.bin .eql 3 (yh 1) (LF (.k (.int .i64 0))) (yh 13)),
  (10013,.fb 13 false)]) (k:=⟨57,[.o (.g [.h 0,.h 1,.h 2]),yh 3],[],.o (.c (.k (.int .i64 4))),[]⟩) 0 (zg ⟨za,za,(ze (zf rfl)),za,za,za,za,za,za,za,za,za,za,za,trivial⟩) ⟨e_bin (zb rfl) zd (zb rfl) (r_cmp (congrArg some e1)),
  e_fbv h2,
  e_bin (zb rfl) zd (zb rfl) (r_cmp (congrArg some e3)),
  e_fbv h4,
  e_bin (zb rfl) zd (zb rfl) (r_cmp (congrArg some e5)),
  e_fbv h6,
  e_bin (zb rfl) zd (zb rfl) (r_cmp (congrArg some e7)),
  e_fbv h8,
  e_bin (zb rfl) zd (zb rfl) (r_cmp (congrArg some e9)),
  e_fbv h10,
  e_bin (zb rfl) zd (zb rfl) (r_cmp (congrArg some e11)),
  e_fbv h12,
  e_bin (zb rfl) zd (zb rfl) (r_cmp (congrArg some e13)),
  e_fbv h14,
  zn (E:=31) (by kernel_rfl) (zc rfl) (zb (by rw [← e15];rfl)),
  e_bin (zb rfl) zd (zb rfl) (r_cmp (congrArg some e16)),
  e_fbv h17,
  e_bin (zb rfl) zd (zb rfl) (r_cmp (congrArg some e18)),
  e_fbv h19,
  trivial⟩ mixed (by kernel_rfl))
theorem zfx {w0:World} (e:Xp) (a:Int) (v1:Bool) (v3:Bool) (v5:Bool) (v7:Bool) (v9:Bool) (v11:Bool) (v13:Bool) (v15:Int) (v16:Bool) (e1:((e.op == (1:Int)))=v1) (e3:((e.op == (2:Int)))=v3) (e5:((e.op == (3:Int)))=v5) (e7:((e.op == (4:Int)))=v7) (e9:((e.op == (5:Int)))=v9) (e11:((e.op == (6:Int)))=v11) (e13:((e.op == (7:Int)))=v13) (e15:((e.l.length:Int))=v15) (e16:((v15 == (2:Int)))=v16) (h2:v1=false) (h4:v3=false) (h6:v5=false) (h8:v7=false) (h10:v9=false) (h12:v11=false) (h14:v13=true) (h17:v16=false):Fun (KN w0) Tryd.prog 57 [.o (.g [pI e.op,pI e.n,pLs cE e.l]),.o (.c (pI a))] (.o (.c (pV (.int .i64 4)))):=
 zi (zk (F:=FL [pI e.op,pI e.n,pLs cE e.l,pI a,pB v1,pB v3,pB v5,pB v7,pB v9,pB v11,pB v13,pI v15,pB v16] []) (C:=[(1000004,.bin .eql 3 (yh 0) (LF (.k (.int .i64 1))) (yh 4)),
  (10004,.fb 4 false),
  (1000006,.bin .eql 3 (yh 0) (LF (.k (.int .i64 2))) (yh 5)),
  (10005,.fb 5 false),
  (1000008,.bin .eql 3 (yh 0) (LF (.k (.int .i64 3))) (yh 6)),
  (10006,.fb 6 false),
  (1000010,.bin .eql 3 (yh 0) (LF (.k (.int .i64 4))) (yh 7)),
  (10007,.fb 7 false),
  (1000012,.bin .eql 3 (yh 0) (LF (.k (.int .i64 5))) (yh 8)),
  (10008,.fb 8 false),
  (1000014,.bin .eql 3 (yh 0) (LF (.k (.int .i64 6))) (yh 9)),
  (10009,.fb 9 false),
  (1000016,.bin .eql 3 (yh 0) (LF (.k (.int .i64 7))) (yh 10)),
  (10010,.fb 10 true),
  (1000020,.op (.len [28] 3) [yh 2] [] (yh 11)),
  (1000021,.bin .eql 3 (yh 11) (LF (.k (.int .i64 2))) (yh 12)),
  (10012,.fb 12 false)]) (k:=⟨57,[.o (.g [.h 0,.h 1,.h 2]),yh 3],[],.o (.c (.k (.int .i64 4))),[]⟩) 0 (zg ⟨za,za,(ze (zf rfl)),za,za,za,za,za,za,za,za,za,za,trivial⟩) ⟨e_bin (zb rfl) zd (zb rfl) (r_cmp (congrArg some e1)),
  e_fbv h2,
  e_bin (zb rfl) zd (zb rfl) (r_cmp (congrArg some e3)),
  e_fbv h4,
  e_bin (zb rfl) zd (zb rfl) (r_cmp (congrArg some e5)),
  e_fbv h6,
  e_bin (zb rfl) zd (zb rfl) (r_cmp (congrArg some e7)),
  e_fbv h8,
  e_bin (zb rfl) zd (zb rfl) (r_cmp (congrArg some e9)),
  e_fbv h10,
  e_bin (zb rfl) zd (zb rfl) (r_cmp (congrArg some e11)),
  e_fbv h12,
  e_bin (zb rfl) zd (zb rfl) (r_cmp (congrArg some e13)),
  e_fbv h14,
  zn (E:=31) (by kernel_rfl) (zc rfl) (zb (by rw [← e15];rfl)),
  e_bin (zb rfl) zd (zb rfl) (r_cmp (congrArg some e16)),
  e_fbv h17,
  trivial⟩ mixed (by kernel_rfl))
theorem zfy {w0:World} (e:Xp) (a:Int) (v1:Bool) (v3:Bool) (v5:Bool) (v7:Bool) (v9:Bool) (v11:Bool) (v13:Bool) (e1:((e.op == (1:Int)))=v1) (e3:((e.op == (2:Int)))=v3) (e5:((e.op == (3:Int)))=v5) (e7:((e.op == (4:Int)))=v7) (e9:((e.op == (5:Int)))=v9) (e11:((e.op == (6:Int)))=v11) (e13:((e.op == (7:Int)))=v13) (h2:v1=false) (h4:v3=false) (h6:v5=false) (h8:v7=false) (h10:v9=false) (h12:v11=false) (h14:v13=false):Fun (KN w0) Tryd.prog 57 [.o (.g [pI e.op,pI e.n,pLs cE e.l]),.o (.c (pI a))] (.o (.c (pV (.int .i64 4)))):=
 zi (zk (F:=FL [pI e.op,pI e.n,pLs cE e.l,pI a,pB v1,pB v3,pB v5,pB v7,pB v9,pB v11,pB v13] []) (C:=[(1000004,.bin .eql 3 (yh 0) (LF (.k (.int .i64 1))) (yh 4)),
  (10004,.fb 4 false),
  (1000006,.bin .eql 3 (yh 0) (LF (.k (.int .i64 2))) (yh 5)),
  (10005,.fb 5 false),
  (1000008,.bin .eql 3 (yh 0) (LF (.k (.int .i64 3))) (yh 6)),
  (10006,.fb 6 false),
  (1000010,.bin .eql 3 (yh 0) (LF (.k (.int .i64 4))) (yh 7)),
  (10007,.fb 7 false),
  (1000012,.bin .eql 3 (yh 0) (LF (.k (.int .i64 5))) (yh 8)),
  (10008,.fb 8 false),
  (1000014,.bin .eql 3 (yh 0) (LF (.k (.int .i64 6))) (yh 9)),
  (10009,.fb 9 false),
  (1000016,.bin .eql 3 (yh 0) (LF (.k (.int .i64 7))) (yh 10)),
  (10010,.fb 10 false)]) (k:=⟨57,[.o (.g [.h 0,.h 1,.h 2]),yh 3],[],.o (.c (.k (.int .i64 4))),[]⟩) 0 (zg ⟨za,za,(ze (zf rfl)),za,za,za,za,za,za,za,za,trivial⟩) ⟨e_bin (zb rfl) zd (zb rfl) (r_cmp (congrArg some e1)),
  e_fbv h2,
  e_bin (zb rfl) zd (zb rfl) (r_cmp (congrArg some e3)),
  e_fbv h4,
  e_bin (zb rfl) zd (zb rfl) (r_cmp (congrArg some e5)),
  e_fbv h6,
  e_bin (zb rfl) zd (zb rfl) (r_cmp (congrArg some e7)),
  e_fbv h8,
  e_bin (zb rfl) zd (zb rfl) (r_cmp (congrArg some e9)),
  e_fbv h10,
  e_bin (zb rfl) zd (zb rfl) (r_cmp (congrArg some e11)),
  e_fbv h12,
  e_bin (zb rfl) zd (zb rfl) (r_cmp (congrArg some e13)),
  e_fbv h14,
  trivial⟩ mixed (by kernel_rfl))
theorem zew {w0:World} (e:Xp) (a:Int) (r:Int) (hr:zp e.op e.n e.l.length a=r):Fun (KN w0) Tryd.prog 57 [.o (.g [pI e.op,pI e.n,pLs cE e.l]),.o (.c (pI a))] (.o (.c (pI r))):=by
 obtain ⟨v1,e1⟩:∃v,((e.op == (1:Int)))=v:=⟨_,rfl⟩
 cases h2:v1 with
 | true =>
  obtain ⟨v3,e3⟩:∃v,((e.l.length:Int))=v:=⟨_,rfl⟩
  obtain ⟨v4,e4⟩:∃v,(decide (v3 > (0:Int)))=v:=⟨_,rfl⟩
  cases h5:v4 with
  | true =>
   refine Fun.imp (zgw e a v1 v3 v4 e1 e3 e4 h2 h5) (fun _ _ _ h=>h) (fun v W D h=>?_)
   have r0:r=(4:Int):=by
    (have dh2:=eq_of_beq (e1.trans h2);have dh5:=of_decide_eq_true (e4.trans h5));rw [← hr];unfold zp;clear hr;(repeat' split)<;>first | rfl | omega | (exfalso;simp_all;done) | (exfalso;simp_all;omega)
   rw [r0];exact h
  | false =>
   obtain ⟨v6,e6⟩:∃v,((e.op == (1:Int)))=v:=⟨_,rfl⟩
   cases h7:v6 with
   | true =>
    obtain ⟨v8,e8⟩:∃v,(valB e.n)=v:=⟨_,rfl⟩
    obtain ⟨v9,e9⟩:∃v,(!v8)=v:=⟨_,rfl⟩
    cases h10:v9 with
    | true =>
     refine Fun.imp (zgx e a v1 v3 v4 v6 v8 v9 e1 e3 e4 e6 e8 e9 h2 h5 h7 h10) (fun _ _ _ h=>h) (fun v W D h=>?_)
     have r0:r=(3:Int):=by
      (have dh2:=eq_of_beq (e1.trans h2);have dh5:=of_decide_eq_false (e4.trans h5);have dh7:=eq_of_beq (e6.trans h7));rw [← hr];unfold zp;clear hr;(repeat' split)<;>first | rfl | omega | (exfalso;simp_all;done) | (exfalso;simp_all;omega)
     rw [r0];exact h
    | false =>
     obtain ⟨v11,e11⟩:∃v,((e.op == (2:Int)))=v:=⟨_,rfl⟩
     cases h12:v11 with
     | true =>
      obtain ⟨v13,e13⟩:∃v,(decide (e.n<(0:Int)))=v:=⟨_,rfl⟩
      cases h14:v13 with
      | true =>
       refine Fun.imp (zgy e a v1 v3 v4 v6 v8 v9 v11 v13 e1 e3 e4 e6 e8 e9 e11 e13 h2 h5 h7 h10 h12 h14) (fun _ _ _ h=>h) (fun v W D h=>?_)
       have r0:r=(1:Int):=by
        (have dh2:=eq_of_beq (e1.trans h2);have dh5:=of_decide_eq_false (e4.trans h5);have dh7:=eq_of_beq (e6.trans h7);have dh12:=eq_of_beq (e11.trans h12);have dh14:=of_decide_eq_true (e13.trans h14));rw [← hr];unfold zp;clear hr;(repeat' split)<;>first | rfl | omega | (exfalso;simp_all;done) | (exfalso;simp_all;omega)
       rw [r0];exact h
      | false =>
       obtain ⟨v15,e15⟩:∃v,((if (4:Int)<a then (4:Int) else a))=v:=⟨_,rfl⟩
       obtain ⟨v16,e16⟩:∃v,(decide (e.n ≥ v15))=v:=⟨_,rfl⟩
       cases h17:v16 with
       | true =>
        refine Fun.imp (zgz e a v1 v3 v4 v6 v8 v9 v11 v13 v15 v16 e1 e3 e4 e6 e8 e9 e11 e13 e15 e16 h2 h5 h7 h10 h12 h14 h17) (fun _ _ _ h=>h) (fun v W D h=>?_)
        have r0:r=(1:Int):=by
         (have dh2:=eq_of_beq (e1.trans h2);have dh5:=of_decide_eq_false (e4.trans h5);have dh7:=eq_of_beq (e6.trans h7);have dh12:=eq_of_beq (e11.trans h12);have dh14:=of_decide_eq_false (e13.trans h14);have dh17:=of_decide_eq_true (e16.trans h17));rw [← hr];unfold zp;clear hr;(repeat' split)<;>first | rfl | omega | (exfalso;simp_all;done) | (exfalso;simp_all;omega)
        rw [r0];exact h
       | false =>
        refine Fun.imp (zgA e a v1 v3 v4 v6 v8 v9 v11 v13 v15 v16 e1 e3 e4 e6 e8 e9 e11 e13 e15 e16 h2 h5 h7 h10 h12 h14 h17) (fun _ _ _ h=>h) (fun v W D h=>?_)
        have r0:r=(0:Int):=by
         (have dh2:=eq_of_beq (e1.trans h2);have dh5:=of_decide_eq_false (e4.trans h5);have dh7:=eq_of_beq (e6.trans h7);have dh12:=eq_of_beq (e11.trans h12);have dh14:=of_decide_eq_false (e13.trans h14);have dh17:=of_decide_eq_false (e16.trans h17));rw [← hr];unfold zp;clear hr;(repeat' split)<;>first | rfl | omega | (exfalso;simp_all;done) | (exfalso;simp_all;omega)
        rw [r0];exact h
     | false =>
      refine Fun.imp (zgB e a v1 v3 v4 v6 v8 v9 v11 e1 e3 e4 e6 e8 e9 e11 h2 h5 h7 h10 h12) (fun _ _ _ h=>h) (fun v W D h=>?_)
      have r0:r=(0:Int):=by
       (have dh2:=eq_of_beq (e1.trans h2);have dh5:=of_decide_eq_false (e4.trans h5);have dh7:=eq_of_beq (e6.trans h7);have dh12:=ne_of_beq_false (e11.trans h12));rw [← hr];unfold zp;clear hr;(repeat' split)<;>first | rfl | omega | (exfalso;simp_all;done) | (exfalso;simp_all;omega)
      rw [r0];exact h
   | false =>
    obtain ⟨v8,e8⟩:∃v,((e.op == (2:Int)))=v:=⟨_,rfl⟩
    cases h9:v8 with
    | true =>
     obtain ⟨v10,e10⟩:∃v,(decide (e.n<(0:Int)))=v:=⟨_,rfl⟩
     cases h11:v10 with
     | true =>
      refine Fun.imp (zgC e a v1 v3 v4 v6 v8 v10 e1 e3 e4 e6 e8 e10 h2 h5 h7 h9 h11) (fun _ _ _ h=>h) (fun v W D h=>?_)
      have r0:r=(1:Int):=by
       (have dh2:=eq_of_beq (e1.trans h2);have dh5:=of_decide_eq_false (e4.trans h5);have dh7:=ne_of_beq_false (e6.trans h7);have dh9:=eq_of_beq (e8.trans h9);have dh11:=of_decide_eq_true (e10.trans h11));rw [← hr];unfold zp;clear hr;(repeat' split)<;>first | rfl | omega | (exfalso;simp_all;done) | (exfalso;simp_all;omega)
      rw [r0];exact h
     | false =>
      obtain ⟨v12,e12⟩:∃v,((if (4:Int)<a then (4:Int) else a))=v:=⟨_,rfl⟩
      obtain ⟨v13,e13⟩:∃v,(decide (e.n ≥ v12))=v:=⟨_,rfl⟩
      cases h14:v13 with
      | true =>
       refine Fun.imp (zgD e a v1 v3 v4 v6 v8 v10 v12 v13 e1 e3 e4 e6 e8 e10 e12 e13 h2 h5 h7 h9 h11 h14) (fun _ _ _ h=>h) (fun v W D h=>?_)
       have r0:r=(1:Int):=by
        (have dh2:=eq_of_beq (e1.trans h2);have dh5:=of_decide_eq_false (e4.trans h5);have dh7:=ne_of_beq_false (e6.trans h7);have dh9:=eq_of_beq (e8.trans h9);have dh11:=of_decide_eq_false (e10.trans h11);have dh14:=of_decide_eq_true (e13.trans h14));rw [← hr];unfold zp;clear hr;(repeat' split)<;>first | rfl | omega | (exfalso;simp_all;done) | (exfalso;simp_all;omega)
       rw [r0];exact h
      | false =>
       refine Fun.imp (zgE e a v1 v3 v4 v6 v8 v10 v12 v13 e1 e3 e4 e6 e8 e10 e12 e13 h2 h5 h7 h9 h11 h14) (fun _ _ _ h=>h) (fun v W D h=>?_)
       have r0:r=(0:Int):=by
        (have dh2:=eq_of_beq (e1.trans h2);have dh5:=of_decide_eq_false (e4.trans h5);have dh7:=ne_of_beq_false (e6.trans h7);have dh9:=eq_of_beq (e8.trans h9);have dh11:=of_decide_eq_false (e10.trans h11);have dh14:=of_decide_eq_false (e13.trans h14));rw [← hr];unfold zp;clear hr;(repeat' split)<;>first | rfl | omega | (exfalso;simp_all;done) | (exfalso;simp_all;omega)
       rw [r0];exact h
    | false =>
     refine Fun.imp (zgF e a v1 v3 v4 v6 v8 e1 e3 e4 e6 e8 h2 h5 h7 h9) (fun _ _ _ h=>h) (fun v W D h=>?_)
     have r0:r=(0:Int):=by
      (have dh2:=eq_of_beq (e1.trans h2);have dh5:=of_decide_eq_false (e4.trans h5);have dh7:=ne_of_beq_false (e6.trans h7);have dh9:=ne_of_beq_false (e8.trans h9));rw [← hr];unfold zp;clear hr;(repeat' split)<;>first | rfl | omega | (exfalso;simp_all;done) | (exfalso;simp_all;omega)
     rw [r0];exact h
 | false =>
  obtain ⟨v3,e3⟩:∃v,((e.op == (2:Int)))=v:=⟨_,rfl⟩
  cases h4:v3 with
  | true =>
   obtain ⟨v5,e5⟩:∃v,((e.l.length:Int))=v:=⟨_,rfl⟩
   obtain ⟨v6,e6⟩:∃v,(decide (v5 > (0:Int)))=v:=⟨_,rfl⟩
   cases h7:v6 with
   | true =>
    refine Fun.imp (ze9 e a v1 v3 v5 v6 e1 e3 e5 e6 h2 h4 h7) (fun _ _ _ h=>h) (fun v W D h=>?_)
    have r0:r=(4:Int):=by
     (have dh2:=ne_of_beq_false (e1.trans h2);have dh4:=eq_of_beq (e3.trans h4);have dh7:=of_decide_eq_true (e6.trans h7));rw [← hr];unfold zp;clear hr;(repeat' split)<;>first | rfl | omega | (exfalso;simp_all;done) | (exfalso;simp_all;omega)
    rw [r0];exact h
   | false =>
    obtain ⟨v8,e8⟩:∃v,((e.op == (1:Int)))=v:=⟨_,rfl⟩
    cases h9:v8 with
    | true =>
     obtain ⟨v10,e10⟩:∃v,(valB e.n)=v:=⟨_,rfl⟩
     obtain ⟨v11,e11⟩:∃v,(!v10)=v:=⟨_,rfl⟩
     cases h12:v11 with
     | true =>
      refine Fun.imp (zfa e a v1 v3 v5 v6 v8 v10 v11 e1 e3 e5 e6 e8 e10 e11 h2 h4 h7 h9 h12) (fun _ _ _ h=>h) (fun v W D h=>?_)
      have r0:r=(3:Int):=by
       (have dh2:=ne_of_beq_false (e1.trans h2);have dh4:=eq_of_beq (e3.trans h4);have dh7:=of_decide_eq_false (e6.trans h7);have dh9:=eq_of_beq (e8.trans h9));rw [← hr];unfold zp;clear hr;(repeat' split)<;>first | rfl | omega | (exfalso;simp_all;done) | (exfalso;simp_all;omega)
      rw [r0];exact h
     | false =>
      obtain ⟨v13,e13⟩:∃v,((e.op == (2:Int)))=v:=⟨_,rfl⟩
      cases h14:v13 with
      | true =>
       obtain ⟨v15,e15⟩:∃v,(decide (e.n<(0:Int)))=v:=⟨_,rfl⟩
       cases h16:v15 with
       | true =>
        refine Fun.imp (zfb e a v1 v3 v5 v6 v8 v10 v11 v13 v15 e1 e3 e5 e6 e8 e10 e11 e13 e15 h2 h4 h7 h9 h12 h14 h16) (fun _ _ _ h=>h) (fun v W D h=>?_)
        have r0:r=(1:Int):=by
         (have dh2:=ne_of_beq_false (e1.trans h2);have dh4:=eq_of_beq (e3.trans h4);have dh7:=of_decide_eq_false (e6.trans h7);have dh9:=eq_of_beq (e8.trans h9);have dh14:=eq_of_beq (e13.trans h14);have dh16:=of_decide_eq_true (e15.trans h16));rw [← hr];unfold zp;clear hr;(repeat' split)<;>first | rfl | omega | (exfalso;simp_all;done) | (exfalso;simp_all;omega)
        rw [r0];exact h
       | false =>
        obtain ⟨v17,e17⟩:∃v,((if (4:Int)<a then (4:Int) else a))=v:=⟨_,rfl⟩
        obtain ⟨v18,e18⟩:∃v,(decide (e.n ≥ v17))=v:=⟨_,rfl⟩
        cases h19:v18 with
        | true =>
         refine Fun.imp (zfc e a v1 v3 v5 v6 v8 v10 v11 v13 v15 v17 v18 e1 e3 e5 e6 e8 e10 e11 e13 e15 e17 e18 h2 h4 h7 h9 h12 h14 h16 h19) (fun _ _ _ h=>h) (fun v W D h=>?_)
         have r0:r=(1:Int):=by
          (have dh2:=ne_of_beq_false (e1.trans h2);have dh4:=eq_of_beq (e3.trans h4);have dh7:=of_decide_eq_false (e6.trans h7);have dh9:=eq_of_beq (e8.trans h9);have dh14:=eq_of_beq (e13.trans h14);have dh16:=of_decide_eq_false (e15.trans h16);have dh19:=of_decide_eq_true (e18.trans h19));rw [← hr];unfold zp;clear hr;(repeat' split)<;>first | rfl | omega | (exfalso;simp_all;done) | (exfalso;simp_all;omega)
         rw [r0];exact h
        | false =>
         refine Fun.imp (zfd e a v1 v3 v5 v6 v8 v10 v11 v13 v15 v17 v18 e1 e3 e5 e6 e8 e10 e11 e13 e15 e17 e18 h2 h4 h7 h9 h12 h14 h16 h19) (fun _ _ _ h=>h) (fun v W D h=>?_)
         have r0:r=(0:Int):=by
          (have dh2:=ne_of_beq_false (e1.trans h2);have dh4:=eq_of_beq (e3.trans h4);have dh7:=of_decide_eq_false (e6.trans h7);have dh9:=eq_of_beq (e8.trans h9);have dh14:=eq_of_beq (e13.trans h14);have dh16:=of_decide_eq_false (e15.trans h16);have dh19:=of_decide_eq_false (e18.trans h19));rw [← hr];unfold zp;clear hr;(repeat' split)<;>first | rfl | omega | (exfalso;simp_all;done) | (exfalso;simp_all;omega)
         rw [r0];exact h
      | false =>
       refine Fun.imp (zfe e a v1 v3 v5 v6 v8 v10 v11 v13 e1 e3 e5 e6 e8 e10 e11 e13 h2 h4 h7 h9 h12 h14) (fun _ _ _ h=>h) (fun v W D h=>?_)
       have r0:r=(0:Int):=by
        (have dh2:=ne_of_beq_false (e1.trans h2);have dh4:=eq_of_beq (e3.trans h4);have dh7:=of_decide_eq_false (e6.trans h7);have dh9:=eq_of_beq (e8.trans h9);have dh14:=ne_of_beq_false (e13.trans h14));rw [← hr];unfold zp;clear hr;(repeat' split)<;>first | rfl | omega | (exfalso;simp_all;done) | (exfalso;simp_all;omega)
       rw [r0];exact h
    | false =>
     obtain ⟨v10,e10⟩:∃v,((e.op == (2:Int)))=v:=⟨_,rfl⟩
     cases h11:v10 with
     | true =>
      obtain ⟨v12,e12⟩:∃v,(decide (e.n<(0:Int)))=v:=⟨_,rfl⟩
      cases h13:v12 with
      | true =>
       refine Fun.imp (zff e a v1 v3 v5 v6 v8 v10 v12 e1 e3 e5 e6 e8 e10 e12 h2 h4 h7 h9 h11 h13) (fun _ _ _ h=>h) (fun v W D h=>?_)
       have r0:r=(1:Int):=by
        (have dh2:=ne_of_beq_false (e1.trans h2);have dh4:=eq_of_beq (e3.trans h4);have dh7:=of_decide_eq_false (e6.trans h7);have dh9:=ne_of_beq_false (e8.trans h9);have dh11:=eq_of_beq (e10.trans h11);have dh13:=of_decide_eq_true (e12.trans h13));rw [← hr];unfold zp;clear hr;(repeat' split)<;>first | rfl | omega | (exfalso;simp_all;done) | (exfalso;simp_all;omega)
       rw [r0];exact h
      | false =>
       obtain ⟨v14,e14⟩:∃v,((if (4:Int)<a then (4:Int) else a))=v:=⟨_,rfl⟩
       obtain ⟨v15,e15⟩:∃v,(decide (e.n ≥ v14))=v:=⟨_,rfl⟩
       cases h16:v15 with
       | true =>
        refine Fun.imp (zfg e a v1 v3 v5 v6 v8 v10 v12 v14 v15 e1 e3 e5 e6 e8 e10 e12 e14 e15 h2 h4 h7 h9 h11 h13 h16) (fun _ _ _ h=>h) (fun v W D h=>?_)
        have r0:r=(1:Int):=by
         (have dh2:=ne_of_beq_false (e1.trans h2);have dh4:=eq_of_beq (e3.trans h4);have dh7:=of_decide_eq_false (e6.trans h7);have dh9:=ne_of_beq_false (e8.trans h9);have dh11:=eq_of_beq (e10.trans h11);have dh13:=of_decide_eq_false (e12.trans h13);have dh16:=of_decide_eq_true (e15.trans h16));rw [← hr];unfold zp;clear hr;(repeat' split)<;>first | rfl | omega | (exfalso;simp_all;done) | (exfalso;simp_all;omega)
        rw [r0];exact h
       | false =>
        refine Fun.imp (zfh e a v1 v3 v5 v6 v8 v10 v12 v14 v15 e1 e3 e5 e6 e8 e10 e12 e14 e15 h2 h4 h7 h9 h11 h13 h16) (fun _ _ _ h=>h) (fun v W D h=>?_)
        have r0:r=(0:Int):=by
         (have dh2:=ne_of_beq_false (e1.trans h2);have dh4:=eq_of_beq (e3.trans h4);have dh7:=of_decide_eq_false (e6.trans h7);have dh9:=ne_of_beq_false (e8.trans h9);have dh11:=eq_of_beq (e10.trans h11);have dh13:=of_decide_eq_false (e12.trans h13);have dh16:=of_decide_eq_false (e15.trans h16));rw [← hr];unfold zp;clear hr;(repeat' split)<;>first | rfl | omega | (exfalso;simp_all;done) | (exfalso;simp_all;omega)
        rw [r0];exact h
     | false =>
      refine Fun.imp (zfi e a v1 v3 v5 v6 v8 v10 e1 e3 e5 e6 e8 e10 h2 h4 h7 h9 h11) (fun _ _ _ h=>h) (fun v W D h=>?_)
      have r0:r=(0:Int):=by
       (have dh2:=ne_of_beq_false (e1.trans h2);have dh4:=eq_of_beq (e3.trans h4);have dh7:=of_decide_eq_false (e6.trans h7);have dh9:=ne_of_beq_false (e8.trans h9);have dh11:=ne_of_beq_false (e10.trans h11));rw [← hr];unfold zp;clear hr;(repeat' split)<;>first | rfl | omega | (exfalso;simp_all;done) | (exfalso;simp_all;omega)
      rw [r0];exact h
  | false =>
   obtain ⟨v5,e5⟩:∃v,((e.op == (3:Int)))=v:=⟨_,rfl⟩
   cases h6:v5 with
   | true =>
    obtain ⟨v7,e7⟩:∃v,((e.l.length:Int))=v:=⟨_,rfl⟩
    obtain ⟨v8,e8⟩:∃v,((v7 == (2:Int)))=v:=⟨_,rfl⟩
    cases h9:v8 with
    | true =>
     obtain ⟨v10,e10⟩:∃v,((e.n == (0:Int)))=v:=⟨_,rfl⟩
     cases h11:v10 with
     | true =>
      refine Fun.imp (zfj e a v1 v3 v5 v7 v8 v10 e1 e3 e5 e7 e8 e10 h2 h4 h6 h9 h11) (fun _ _ _ h=>h) (fun v W D h=>?_)
      have r0:r=(0:Int):=by
       (have dh2:=ne_of_beq_false (e1.trans h2);have dh4:=ne_of_beq_false (e3.trans h4);have dh6:=eq_of_beq (e5.trans h6);have dh9:=eq_of_beq (e8.trans h9);have dh11:=eq_of_beq (e10.trans h11));rw [← hr];unfold zp;clear hr;(repeat' split)<;>first | rfl | omega | (exfalso;simp_all;done) | (exfalso;simp_all;omega)
      rw [r0];exact h
     | false =>
      refine Fun.imp (zfk e a v1 v3 v5 v7 v8 v10 e1 e3 e5 e7 e8 e10 h2 h4 h6 h9 h11) (fun _ _ _ h=>h) (fun v W D h=>?_)
      have r0:r=(4:Int):=by
       (have dh2:=ne_of_beq_false (e1.trans h2);have dh4:=ne_of_beq_false (e3.trans h4);have dh6:=eq_of_beq (e5.trans h6);have dh9:=eq_of_beq (e8.trans h9);have dh11:=ne_of_beq_false (e10.trans h11));rw [← hr];unfold zp;clear hr;(repeat' split)<;>first | rfl | omega | (exfalso;simp_all;done) | (exfalso;simp_all;omega)
      rw [r0];exact h
    | false =>
     refine Fun.imp (zfl e a v1 v3 v5 v7 v8 e1 e3 e5 e7 e8 h2 h4 h6 h9) (fun _ _ _ h=>h) (fun v W D h=>?_)
     have r0:r=(4:Int):=by
      (have dh2:=ne_of_beq_false (e1.trans h2);have dh4:=ne_of_beq_false (e3.trans h4);have dh6:=eq_of_beq (e5.trans h6);have dh9:=ne_of_beq_false (e8.trans h9));rw [← hr];unfold zp;clear hr;(repeat' split)<;>first | rfl | omega | (exfalso;simp_all;done) | (exfalso;simp_all;omega)
     rw [r0];exact h
   | false =>
    obtain ⟨v7,e7⟩:∃v,((e.op == (4:Int)))=v:=⟨_,rfl⟩
    cases h8:v7 with
    | true =>
     obtain ⟨v9,e9⟩:∃v,((e.l.length:Int))=v:=⟨_,rfl⟩
     obtain ⟨v10,e10⟩:∃v,((v9 == (2:Int)))=v:=⟨_,rfl⟩
     cases h11:v10 with
     | true =>
      obtain ⟨v12,e12⟩:∃v,((e.n == (0:Int)))=v:=⟨_,rfl⟩
      cases h13:v12 with
      | true =>
       refine Fun.imp (zfm e a v1 v3 v5 v7 v9 v10 v12 e1 e3 e5 e7 e9 e10 e12 h2 h4 h6 h8 h11 h13) (fun _ _ _ h=>h) (fun v W D h=>?_)
       have r0:r=(0:Int):=by
        (have dh2:=ne_of_beq_false (e1.trans h2);have dh4:=ne_of_beq_false (e3.trans h4);have dh6:=ne_of_beq_false (e5.trans h6);have dh8:=eq_of_beq (e7.trans h8);have dh11:=eq_of_beq (e10.trans h11);have dh13:=eq_of_beq (e12.trans h13));rw [← hr];unfold zp;clear hr;(repeat' split)<;>first | rfl | omega | (exfalso;simp_all;done) | (exfalso;simp_all;omega)
       rw [r0];exact h
      | false =>
       refine Fun.imp (zfn e a v1 v3 v5 v7 v9 v10 v12 e1 e3 e5 e7 e9 e10 e12 h2 h4 h6 h8 h11 h13) (fun _ _ _ h=>h) (fun v W D h=>?_)
       have r0:r=(4:Int):=by
        (have dh2:=ne_of_beq_false (e1.trans h2);have dh4:=ne_of_beq_false (e3.trans h4);have dh6:=ne_of_beq_false (e5.trans h6);have dh8:=eq_of_beq (e7.trans h8);have dh11:=eq_of_beq (e10.trans h11);have dh13:=ne_of_beq_false (e12.trans h13));rw [← hr];unfold zp;clear hr;(repeat' split)<;>first | rfl | omega | (exfalso;simp_all;done) | (exfalso;simp_all;omega)
       rw [r0];exact h
     | false =>
      refine Fun.imp (zfo e a v1 v3 v5 v7 v9 v10 e1 e3 e5 e7 e9 e10 h2 h4 h6 h8 h11) (fun _ _ _ h=>h) (fun v W D h=>?_)
      have r0:r=(4:Int):=by
       (have dh2:=ne_of_beq_false (e1.trans h2);have dh4:=ne_of_beq_false (e3.trans h4);have dh6:=ne_of_beq_false (e5.trans h6);have dh8:=eq_of_beq (e7.trans h8);have dh11:=ne_of_beq_false (e10.trans h11));rw [← hr];unfold zp;clear hr;(repeat' split)<;>first | rfl | omega | (exfalso;simp_all;done) | (exfalso;simp_all;omega)
      rw [r0];exact h
    | false =>
     obtain ⟨v9,e9⟩:∃v,((e.op == (5:Int)))=v:=⟨_,rfl⟩
     cases h10:v9 with
     | true =>
      obtain ⟨v11,e11⟩:∃v,((e.l.length:Int))=v:=⟨_,rfl⟩
      obtain ⟨v12,e12⟩:∃v,((v11 == (2:Int)))=v:=⟨_,rfl⟩
      cases h13:v12 with
      | true =>
       obtain ⟨v14,e14⟩:∃v,((e.n == (0:Int)))=v:=⟨_,rfl⟩
       cases h15:v14 with
       | true =>
        refine Fun.imp (zfp e a v1 v3 v5 v7 v9 v11 v12 v14 e1 e3 e5 e7 e9 e11 e12 e14 h2 h4 h6 h8 h10 h13 h15) (fun _ _ _ h=>h) (fun v W D h=>?_)
        have r0:r=(0:Int):=by
         (have dh2:=ne_of_beq_false (e1.trans h2);have dh4:=ne_of_beq_false (e3.trans h4);have dh6:=ne_of_beq_false (e5.trans h6);have dh8:=ne_of_beq_false (e7.trans h8);have dh10:=eq_of_beq (e9.trans h10);have dh13:=eq_of_beq (e12.trans h13);have dh15:=eq_of_beq (e14.trans h15));rw [← hr];unfold zp;clear hr;(repeat' split)<;>first | rfl | omega | (exfalso;simp_all;done) | (exfalso;simp_all;omega)
        rw [r0];exact h
       | false =>
        refine Fun.imp (zfq e a v1 v3 v5 v7 v9 v11 v12 v14 e1 e3 e5 e7 e9 e11 e12 e14 h2 h4 h6 h8 h10 h13 h15) (fun _ _ _ h=>h) (fun v W D h=>?_)
        have r0:r=(4:Int):=by
         (have dh2:=ne_of_beq_false (e1.trans h2);have dh4:=ne_of_beq_false (e3.trans h4);have dh6:=ne_of_beq_false (e5.trans h6);have dh8:=ne_of_beq_false (e7.trans h8);have dh10:=eq_of_beq (e9.trans h10);have dh13:=eq_of_beq (e12.trans h13);have dh15:=ne_of_beq_false (e14.trans h15));rw [← hr];unfold zp;clear hr;(repeat' split)<;>first | rfl | omega | (exfalso;simp_all;done) | (exfalso;simp_all;omega)
        rw [r0];exact h
      | false =>
       refine Fun.imp (zfr e a v1 v3 v5 v7 v9 v11 v12 e1 e3 e5 e7 e9 e11 e12 h2 h4 h6 h8 h10 h13) (fun _ _ _ h=>h) (fun v W D h=>?_)
       have r0:r=(4:Int):=by
        (have dh2:=ne_of_beq_false (e1.trans h2);have dh4:=ne_of_beq_false (e3.trans h4);have dh6:=ne_of_beq_false (e5.trans h6);have dh8:=ne_of_beq_false (e7.trans h8);have dh10:=eq_of_beq (e9.trans h10);have dh13:=ne_of_beq_false (e12.trans h13));rw [← hr];unfold zp;clear hr;(repeat' split)<;>first | rfl | omega | (exfalso;simp_all;done) | (exfalso;simp_all;omega)
       rw [r0];exact h
     | false =>
      obtain ⟨v11,e11⟩:∃v,((e.op == (6:Int)))=v:=⟨_,rfl⟩
      cases h12:v11 with
      | true =>
       obtain ⟨v13,e13⟩:∃v,((e.l.length:Int))=v:=⟨_,rfl⟩
       obtain ⟨v14,e14⟩:∃v,((v13 == (2:Int)))=v:=⟨_,rfl⟩
       cases h15:v14 with
       | true =>
        obtain ⟨v16,e16⟩:∃v,((e.n == (0:Int)))=v:=⟨_,rfl⟩
        cases h17:v16 with
        | true =>
         refine Fun.imp (zfs e a v1 v3 v5 v7 v9 v11 v13 v14 v16 e1 e3 e5 e7 e9 e11 e13 e14 e16 h2 h4 h6 h8 h10 h12 h15 h17) (fun _ _ _ h=>h) (fun v W D h=>?_)
         have r0:r=(0:Int):=by
          (have dh2:=ne_of_beq_false (e1.trans h2);have dh4:=ne_of_beq_false (e3.trans h4);have dh6:=ne_of_beq_false (e5.trans h6);have dh8:=ne_of_beq_false (e7.trans h8);have dh10:=ne_of_beq_false (e9.trans h10);have dh12:=eq_of_beq (e11.trans h12);have dh15:=eq_of_beq (e14.trans h15);have dh17:=eq_of_beq (e16.trans h17));rw [← hr];unfold zp;clear hr;(repeat' split)<;>first | rfl | omega | (exfalso;simp_all;done) | (exfalso;simp_all;omega)
         rw [r0];exact h
        | false =>
         refine Fun.imp (zft e a v1 v3 v5 v7 v9 v11 v13 v14 v16 e1 e3 e5 e7 e9 e11 e13 e14 e16 h2 h4 h6 h8 h10 h12 h15 h17) (fun _ _ _ h=>h) (fun v W D h=>?_)
         have r0:r=(4:Int):=by
          (have dh2:=ne_of_beq_false (e1.trans h2);have dh4:=ne_of_beq_false (e3.trans h4);have dh6:=ne_of_beq_false (e5.trans h6);have dh8:=ne_of_beq_false (e7.trans h8);have dh10:=ne_of_beq_false (e9.trans h10);have dh12:=eq_of_beq (e11.trans h12);have dh15:=eq_of_beq (e14.trans h15);have dh17:=ne_of_beq_false (e16.trans h17));rw [← hr];unfold zp;clear hr;(repeat' split)<;>first | rfl | omega | (exfalso;simp_all;done) | (exfalso;simp_all;omega)
         rw [r0];exact h
       | false =>
        refine Fun.imp (zfu e a v1 v3 v5 v7 v9 v11 v13 v14 e1 e3 e5 e7 e9 e11 e13 e14 h2 h4 h6 h8 h10 h12 h15) (fun _ _ _ h=>h) (fun v W D h=>?_)
        have r0:r=(4:Int):=by
         (have dh2:=ne_of_beq_false (e1.trans h2);have dh4:=ne_of_beq_false (e3.trans h4);have dh6:=ne_of_beq_false (e5.trans h6);have dh8:=ne_of_beq_false (e7.trans h8);have dh10:=ne_of_beq_false (e9.trans h10);have dh12:=eq_of_beq (e11.trans h12);have dh15:=ne_of_beq_false (e14.trans h15));rw [← hr];unfold zp;clear hr;(repeat' split)<;>first | rfl | omega | (exfalso;simp_all;done) | (exfalso;simp_all;omega)
        rw [r0];exact h
      | false =>
       obtain ⟨v13,e13⟩:∃v,((e.op == (7:Int)))=v:=⟨_,rfl⟩
       cases h14:v13 with
       | true =>
        obtain ⟨v15,e15⟩:∃v,((e.l.length:Int))=v:=⟨_,rfl⟩
        obtain ⟨v16,e16⟩:∃v,((v15 == (2:Int)))=v:=⟨_,rfl⟩
        cases h17:v16 with
        | true =>
         obtain ⟨v18,e18⟩:∃v,((e.n == (0:Int)))=v:=⟨_,rfl⟩
         cases h19:v18 with
         | true =>
          refine Fun.imp (zfv e a v1 v3 v5 v7 v9 v11 v13 v15 v16 v18 e1 e3 e5 e7 e9 e11 e13 e15 e16 e18 h2 h4 h6 h8 h10 h12 h14 h17 h19) (fun _ _ _ h=>h) (fun v W D h=>?_)
          have r0:r=(0:Int):=by
           (have dh2:=ne_of_beq_false (e1.trans h2);have dh4:=ne_of_beq_false (e3.trans h4);have dh6:=ne_of_beq_false (e5.trans h6);have dh8:=ne_of_beq_false (e7.trans h8);have dh10:=ne_of_beq_false (e9.trans h10);have dh12:=ne_of_beq_false (e11.trans h12);have dh14:=eq_of_beq (e13.trans h14);have dh17:=eq_of_beq (e16.trans h17);have dh19:=eq_of_beq (e18.trans h19));rw [← hr];unfold zp;clear hr;(repeat' split)<;>first | rfl | omega | (exfalso;simp_all;done) | (exfalso;simp_all;omega)
          rw [r0];exact h
         | false =>
          refine Fun.imp (zfw e a v1 v3 v5 v7 v9 v11 v13 v15 v16 v18 e1 e3 e5 e7 e9 e11 e13 e15 e16 e18 h2 h4 h6 h8 h10 h12 h14 h17 h19) (fun _ _ _ h=>h) (fun v W D h=>?_)
          have r0:r=(4:Int):=by
           (have dh2:=ne_of_beq_false (e1.trans h2);have dh4:=ne_of_beq_false (e3.trans h4);have dh6:=ne_of_beq_false (e5.trans h6);have dh8:=ne_of_beq_false (e7.trans h8);have dh10:=ne_of_beq_false (e9.trans h10);have dh12:=ne_of_beq_false (e11.trans h12);have dh14:=eq_of_beq (e13.trans h14);have dh17:=eq_of_beq (e16.trans h17);have dh19:=ne_of_beq_false (e18.trans h19));rw [← hr];unfold zp;clear hr;(repeat' split)<;>first | rfl | omega | (exfalso;simp_all;done) | (exfalso;simp_all;omega)
          rw [r0];exact h
        | false =>
         refine Fun.imp (zfx e a v1 v3 v5 v7 v9 v11 v13 v15 v16 e1 e3 e5 e7 e9 e11 e13 e15 e16 h2 h4 h6 h8 h10 h12 h14 h17) (fun _ _ _ h=>h) (fun v W D h=>?_)
         have r0:r=(4:Int):=by
          (have dh2:=ne_of_beq_false (e1.trans h2);have dh4:=ne_of_beq_false (e3.trans h4);have dh6:=ne_of_beq_false (e5.trans h6);have dh8:=ne_of_beq_false (e7.trans h8);have dh10:=ne_of_beq_false (e9.trans h10);have dh12:=ne_of_beq_false (e11.trans h12);have dh14:=eq_of_beq (e13.trans h14);have dh17:=ne_of_beq_false (e16.trans h17));rw [← hr];unfold zp;clear hr;(repeat' split)<;>first | rfl | omega | (exfalso;simp_all;done) | (exfalso;simp_all;omega)
         rw [r0];exact h
       | false =>
        refine Fun.imp (zfy e a v1 v3 v5 v7 v9 v11 v13 e1 e3 e5 e7 e9 e11 e13 h2 h4 h6 h8 h10 h12 h14) (fun _ _ _ h=>h) (fun v W D h=>?_)
        have r0:r=(4:Int):=by
         (have dh2:=ne_of_beq_false (e1.trans h2);have dh4:=ne_of_beq_false (e3.trans h4);have dh6:=ne_of_beq_false (e5.trans h6);have dh8:=ne_of_beq_false (e7.trans h8);have dh10:=ne_of_beq_false (e9.trans h10);have dh12:=ne_of_beq_false (e11.trans h12);have dh14:=ne_of_beq_false (e13.trans h14));rw [← hr];unfold zp;clear hr;(repeat' split)<;>first | rfl | omega | (exfalso;simp_all;done) | (exfalso;simp_all;omega)
        rw [r0];exact h
theorem zkI {w0:World} (e:Xp) (a:Int) (v1:Bool) (v3:Int) (v4:Bool) (e1:((e.op == (1:Int)))=v1) (e3:((e.l.length:Int))=v3) (e4:(decide (v3 > (0:Int)))=v4) (h2:v1=true) (h5:v4=true):Fun (KN w0) Tryd.prog 58 [.o (.g [pI e.op,pI e.n,pLs cE e.l]),.o (.c (pI a))] (.o (.c (pV (.int .i64 4)))):=
 zi (zk (F:=FL [pI e.op,pI e.n,pLs cE e.l,pI a,pB v1,pI v3,pB v4] []) (C:=[(1000004,.bin .eql 3 (yh 0) (LF (.k (.int .i64 1))) (yh 4)),
  (10004,.fb 4 true),
  (1000008,.op (.len [28] 3) [yh 2] [] (yh 5)),
  (1000009,.bin .gtr 3 (yh 5) (LF (.k (.int .i64 0))) (yh 6)),
  (10006,.fb 6 true)]) (k:=⟨58,[.o (.g [.h 0,.h 1,.h 2]),yh 3],[],.o (.c (.k (.int .i64 4))),[]⟩) 0 (zg ⟨za,za,(ze (zf rfl)),za,za,za,za,trivial⟩) ⟨e_bin (zb rfl) zd (zb rfl) (r_cmp (congrArg some e1)),
  e_fbv h2,
  zn (E:=31) (by kernel_rfl) (zc rfl) (zb (by rw [← e3];rfl)),
  e_bin (zb rfl) zd (zb rfl) (r_cmp (congrArg some e4)),
  e_fbv h5,
  trivial⟩ mixed (by kernel_rfl))
theorem zkJ {w0:World} (e:Xp) (a:Int) (v1:Bool) (v3:Int) (v4:Bool) (v6:Bool) (v7:Bool) (e1:((e.op == (1:Int)))=v1) (e3:((e.l.length:Int))=v3) (e4:(decide (v3 > (0:Int)))=v4) (e6:(valB e.n)=v6) (e7:(!v6)=v7) (h2:v1=true) (h5:v4=false) (h8:v7=true):Fun (KN w0) Tryd.prog 58 [.o (.g [pI e.op,pI e.n,pLs cE e.l]),.o (.c (pI a))] (.o (.c (pV (.int .i64 3)))):=
 zi (zk (F:=FL [pI e.op,pI e.n,pLs cE e.l,pI a,pB v1,pI v3,pB v4,pB v6,pB v7] []) (C:=[(1000004,.bin .eql 3 (yh 0) (LF (.k (.int .i64 1))) (yh 4)),
  (10004,.fb 4 true),
  (1000008,.op (.len [28] 3) [yh 2] [] (yh 5)),
  (1000009,.bin .gtr 3 (yh 5) (LF (.k (.int .i64 0))) (yh 6)),
  (10006,.fb 6 false),
  (1000012,.call ⟨60,[yh 1],[],yh 7,[]⟩),
  (1000013,.un .not (yh 7) (yh 8)),
  (10008,.fb 8 true)]) (k:=⟨58,[.o (.g [.h 0,.h 1,.h 2]),yh 3],[],.o (.c (.k (.int .i64 3))),[]⟩) 0 (zg ⟨za,za,(ze (zf rfl)),za,za,za,za,za,za,trivial⟩) ⟨e_bin (zb rfl) zd (zb rfl) (r_cmp (congrArg some e1)),
  e_fbv h2,
  zn (E:=31) (by kernel_rfl) (zc rfl) (zb (by rw [← e3];rfl)),
  e_bin (zb rfl) zd (zb rfl) (r_cmp (congrArg some e4)),
  e_fbv h5,
  zh (zcF e.n v6 e6),
  e_un (zb rfl) (zb rfl) (fun W=>by rw [← e7];exact r_not W),
  e_fbv h8,
  trivial⟩ mixed (by kernel_rfl))
theorem zkK {w0:World} (e:Xp) (a:Int) (v1:Bool) (v3:Int) (v4:Bool) (v6:Bool) (v7:Bool) (e1:((e.op == (1:Int)))=v1) (e3:((e.l.length:Int))=v3) (e4:(decide (v3 > (0:Int)))=v4) (e6:(valB e.n)=v6) (e7:(!v6)=v7) (h2:v1=true) (h5:v4=false) (h8:v7=false):Fun (KN w0) Tryd.prog 58 [.o (.g [pI e.op,pI e.n,pLs cE e.l]),.o (.c (pI a))] (.o (.c (pV (.int .i64 0)))):=
 zi (zk (F:=FL [pI e.op,pI e.n,pLs cE e.l,pI a,pB v1,pI v3,pB v4,pB v6,pB v7] []) (C:=[(1000004,.bin .eql 3 (yh 0) (LF (.k (.int .i64 1))) (yh 4)),
  (10004,.fb 4 true),
  (1000008,.op (.len [28] 3) [yh 2] [] (yh 5)),
  (1000009,.bin .gtr 3 (yh 5) (LF (.k (.int .i64 0))) (yh 6)),
  (10006,.fb 6 false),
  (1000012,.call ⟨60,[yh 1],[],yh 7,[]⟩),
  (1000013,.un .not (yh 7) (yh 8)),
  (10008,.fb 8 false)]) (k:=⟨58,[.o (.g [.h 0,.h 1,.h 2]),yh 3],[],.o (.c (.k (.int .i64 0))),[]⟩) 0 (zg ⟨za,za,(ze (zf rfl)),za,za,za,za,za,za,trivial⟩) ⟨e_bin (zb rfl) zd (zb rfl) (r_cmp (congrArg some e1)),
  e_fbv h2,
  zn (E:=31) (by kernel_rfl) (zc rfl) (zb (by rw [← e3];rfl)),
  e_bin (zb rfl) zd (zb rfl) (r_cmp (congrArg some e4)),
  e_fbv h5,
  zh (zcF e.n v6 e6),
  e_un (zb rfl) (zb rfl) (fun W=>by rw [← e7];exact r_not W),
  e_fbv h8,
  trivial⟩ mixed (by kernel_rfl))
theorem zkL {w0:World} (e:Xp) (a:Int) (v1:Bool) (v3:Bool) (v5:Int) (v6:Bool) (e1:((e.op == (1:Int)))=v1) (e3:((e.op == (2:Int)))=v3) (e5:((e.l.length:Int))=v5) (e6:(decide (v5 > (0:Int)))=v6) (h2:v1=false) (h4:v3=true) (h7:v6=true):Fun (KN w0) Tryd.prog 58 [.o (.g [pI e.op,pI e.n,pLs cE e.l]),.o (.c (pI a))] (.o (.c (pV (.int .i64 4)))):=
 zi (zk (F:=FL [pI e.op,pI e.n,pLs cE e.l,pI a,pB v1,pB v3,pI v5,pB v6] []) (C:=[(1000004,.bin .eql 3 (yh 0) (LF (.k (.int .i64 1))) (yh 4)),
  (10004,.fb 4 false),
  (1000006,.bin .eql 3 (yh 0) (LF (.k (.int .i64 2))) (yh 5)),
  (10005,.fb 5 true),
  (1000010,.op (.len [28] 3) [yh 2] [] (yh 6)),
  (1000011,.bin .gtr 3 (yh 6) (LF (.k (.int .i64 0))) (yh 7)),
  (10007,.fb 7 true)]) (k:=⟨58,[.o (.g [.h 0,.h 1,.h 2]),yh 3],[],.o (.c (.k (.int .i64 4))),[]⟩) 0 (zg ⟨za,za,(ze (zf rfl)),za,za,za,za,za,trivial⟩) ⟨e_bin (zb rfl) zd (zb rfl) (r_cmp (congrArg some e1)),
  e_fbv h2,
  e_bin (zb rfl) zd (zb rfl) (r_cmp (congrArg some e3)),
  e_fbv h4,
  zn (E:=31) (by kernel_rfl) (zc rfl) (zb (by rw [← e5];rfl)),
  e_bin (zb rfl) zd (zb rfl) (r_cmp (congrArg some e6)),
  e_fbv h7,
  trivial⟩ mixed (by kernel_rfl))
theorem zkM {w0:World} (e:Xp) (a:Int) (v1:Bool) (v3:Bool) (v5:Int) (v6:Bool) (v8:Bool) (e1:((e.op == (1:Int)))=v1) (e3:((e.op == (2:Int)))=v3) (e5:((e.l.length:Int))=v5) (e6:(decide (v5 > (0:Int)))=v6) (e8:(decide (e.n<(0:Int)))=v8) (h2:v1=false) (h4:v3=true) (h7:v6=false) (h9:v8=true):Fun (KN w0) Tryd.prog 58 [.o (.g [pI e.op,pI e.n,pLs cE e.l]),.o (.c (pI a))] (.o (.c (pV (.int .i64 1)))):=
 zi (zk (F:=FL [pI e.op,pI e.n,pLs cE e.l,pI a,pB v1,pB v3,pI v5,pB v6,pB v8] []) (C:=[(1000004,.bin .eql 3 (yh 0) (LF (.k (.int .i64 1))) (yh 4)),
  (10004,.fb 4 false),
  (1000006,.bin .eql 3 (yh 0) (LF (.k (.int .i64 2))) (yh 5)),
  (10005,.fb 5 true),
  (1000010,.op (.len [28] 3) [yh 2] [] (yh 6)),
  (1000011,.bin .gtr 3 (yh 6) (LF (.k (.int .i64 0))) (yh 7)),
  (10007,.fb 7 false),
  (1000014,.bin .lss 3 (yh 1) (LF (.k (.int .i64 0))) (yh 8)),
  (10008,.fb 8 true)]) (k:=⟨58,[.o (.g [.h 0,.h 1,.h 2]),yh 3],[],.o (.c (.k (.int .i64 1))),[]⟩) 0 (zg ⟨za,za,(ze (zf rfl)),za,za,za,za,za,za,trivial⟩) ⟨e_bin (zb rfl) zd (zb rfl) (r_cmp (congrArg some e1)),
  e_fbv h2,
  e_bin (zb rfl) zd (zb rfl) (r_cmp (congrArg some e3)),
  e_fbv h4,
  zn (E:=31) (by kernel_rfl) (zc rfl) (zb (by rw [← e5];rfl)),
  e_bin (zb rfl) zd (zb rfl) (r_cmp (congrArg some e6)),
  e_fbv h7,
  e_bin (zb rfl) zd (zb rfl) (r_cmp (congrArg some e8)),
  e_fbv h9,
  trivial⟩ mixed (by kernel_rfl))
theorem zkN {w0:World} (e:Xp) (a:Int) (v1:Bool) (v3:Bool) (v5:Int) (v6:Bool) (v8:Bool) (v10:Bool) (e1:((e.op == (1:Int)))=v1) (e3:((e.op == (2:Int)))=v3) (e5:((e.l.length:Int))=v5) (e6:(decide (v5 > (0:Int)))=v6) (e8:(decide (e.n<(0:Int)))=v8) (e10:(decide (e.n ≥ (4:Int)))=v10) (h2:v1=false) (h4:v3=true) (h7:v6=false) (h9:v8=false) (h11:v10=true):Fun (KN w0) Tryd.prog 58 [.o (.g [pI e.op,pI e.n,pLs cE e.l]),.o (.c (pI a))] (.o (.c (pV (.int .i64 1)))):=
 zi (zk (F:=FL [pI e.op,pI e.n,pLs cE e.l,pI a,pB v1,pB v3,pI v5,pB v6,pB v8,pB v10] []) (C:=[(1000004,.bin .eql 3 (yh 0) (LF (.k (.int .i64 1))) (yh 4)),
  (10004,.fb 4 false),
  (1000006,.bin .eql 3 (yh 0) (LF (.k (.int .i64 2))) (yh 5)),
  (10005,.fb 5 true),
  (1000010,.op (.len [28] 3) [yh 2] [] (yh 6)),
  (1000011,.bin .gtr 3 (yh 6) (LF (.k (.int .i64 0))) (yh 7)),
  (10007,.fb 7 false),
  (1000014,.bin .lss 3 (yh 1) (LF (.k (.int .i64 0))) (yh 8)),
  (10008,.fb 8 false),
  (1000018,.bin .geq 3 (yh 1) (LF (.k (.int .i64 4))) (yh 9)),
  (10009,.fb 9 true)]) (k:=⟨58,[.o (.g [.h 0,.h 1,.h 2]),yh 3],[],.o (.c (.k (.int .i64 1))),[]⟩) 0 (zg ⟨za,za,(ze (zf rfl)),za,za,za,za,za,za,za,trivial⟩) ⟨e_bin (zb rfl) zd (zb rfl) (r_cmp (congrArg some e1)),
  e_fbv h2,
  e_bin (zb rfl) zd (zb rfl) (r_cmp (congrArg some e3)),
  e_fbv h4,
  zn (E:=31) (by kernel_rfl) (zc rfl) (zb (by rw [← e5];rfl)),
  e_bin (zb rfl) zd (zb rfl) (r_cmp (congrArg some e6)),
  e_fbv h7,
  e_bin (zb rfl) zd (zb rfl) (r_cmp (congrArg some e8)),
  e_fbv h9,
  e_bin (zb rfl) zd (zb rfl) (r_cmp (congrArg some e10)),
  e_fbv h11,
  trivial⟩ mixed (by kernel_rfl))
theorem zkO {w0:World} (e:Xp) (a:Int) (v1:Bool) (v3:Bool) (v5:Int) (v6:Bool) (v8:Bool) (v10:Bool) (v12:Bool) (e1:((e.op == (1:Int)))=v1) (e3:((e.op == (2:Int)))=v3) (e5:((e.l.length:Int))=v5) (e6:(decide (v5 > (0:Int)))=v6) (e8:(decide (e.n<(0:Int)))=v8) (e10:(decide (e.n ≥ (4:Int)))=v10) (e12:(decide (e.n ≥ a))=v12) (h2:v1=false) (h4:v3=true) (h7:v6=false) (h9:v8=false) (h11:v10=false) (h13:v12=true):Fun (KN w0) Tryd.prog 58 [.o (.g [pI e.op,pI e.n,pLs cE e.l]),.o (.c (pI a))] (.o (.c (pV (.int .i64 1)))):=
 zi (zk (F:=FL [pI e.op,pI e.n,pLs cE e.l,pI a,pB v1,pB v3,pI v5,pB v6,pB v8,pB v10,pB v12] []) (C:=[(1000004,.bin .eql 3 (yh 0) (LF (.k (.int .i64 1))) (yh 4)),
  (10004,.fb 4 false),
  (1000006,.bin .eql 3 (yh 0) (LF (.k (.int .i64 2))) (yh 5)),
  (10005,.fb 5 true),
  (1000010,.op (.len [28] 3) [yh 2] [] (yh 6)),
  (1000011,.bin .gtr 3 (yh 6) (LF (.k (.int .i64 0))) (yh 7)),
  (10007,.fb 7 false),
  (1000014,.bin .lss 3 (yh 1) (LF (.k (.int .i64 0))) (yh 8)),
  (10008,.fb 8 false),
  (1000018,.bin .geq 3 (yh 1) (LF (.k (.int .i64 4))) (yh 9)),
  (10009,.fb 9 false),
  (1000024,.bin .geq 3 (yh 1) (yh 3) (yh 10)),
  (10010,.fb 10 true)]) (k:=⟨58,[.o (.g [.h 0,.h 1,.h 2]),yh 3],[],.o (.c (.k (.int .i64 1))),[]⟩) 0 (zg ⟨za,za,(ze (zf rfl)),za,za,za,za,za,za,za,za,trivial⟩) ⟨e_bin (zb rfl) zd (zb rfl) (r_cmp (congrArg some e1)),
  e_fbv h2,
  e_bin (zb rfl) zd (zb rfl) (r_cmp (congrArg some e3)),
  e_fbv h4,
  zn (E:=31) (by kernel_rfl) (zc rfl) (zb (by rw [← e5];rfl)),
  e_bin (zb rfl) zd (zb rfl) (r_cmp (congrArg some e6)),
  e_fbv h7,
  e_bin (zb rfl) zd (zb rfl) (r_cmp (congrArg some e8)),
  e_fbv h9,
  e_bin (zb rfl) zd (zb rfl) (r_cmp (congrArg some e10)),
  e_fbv h11,
  e_bin (zb rfl) (zb rfl) (zb rfl) (r_cmp (congrArg some e12)),
  e_fbv h13,
  trivial⟩ mixed (by kernel_rfl))
theorem zkP {w0:World} (e:Xp) (a:Int) (v1:Bool) (v3:Bool) (v5:Int) (v6:Bool) (v8:Bool) (v10:Bool) (v12:Bool) (e1:((e.op == (1:Int)))=v1) (e3:((e.op == (2:Int)))=v3) (e5:((e.l.length:Int))=v5) (e6:(decide (v5 > (0:Int)))=v6) (e8:(decide (e.n<(0:Int)))=v8) (e10:(decide (e.n ≥ (4:Int)))=v10) (e12:(decide (e.n ≥ a))=v12) (h2:v1=false) (h4:v3=true) (h7:v6=false) (h9:v8=false) (h11:v10=false) (h13:v12=false):Fun (KN w0) Tryd.prog 58 [.o (.g [pI e.op,pI e.n,pLs cE e.l]),.o (.c (pI a))] (.o (.c (pV (.int .i64 0)))):=
 zi (zk (F:=FL [pI e.op,pI e.n,pLs cE e.l,pI a,pB v1,pB v3,pI v5,pB v6,pB v8,pB v10,pB v12] []) (C:=[(1000004,.bin .eql 3 (yh 0) (LF (.k (.int .i64 1))) (yh 4)),
  (10004,.fb 4 false),
  (1000006,.bin .eql 3 (yh 0) (LF (.k (.int .i64 2))) (yh 5)),
  (10005,.fb 5 true),
  (1000010,.op (.len [28] 3) [yh 2] [] (yh 6)),
  (1000011,.bin .gtr 3 (yh 6) (LF (.k (.int .i64 0))) (yh 7)),
  (10007,.fb 7 false),
  (1000014,.bin .lss 3 (yh 1) (LF (.k (.int .i64 0))) (yh 8)),
  (10008,.fb 8 false),
  (1000018,.bin .geq 3 (yh 1) (LF (.k (.int .i64 4))) (yh 9)),
  (10009,.fb 9 false),
  (1000024,.bin .geq 3 (yh 1) (yh 3) (yh 10)),
  (10010,.fb 10 false)]) (k:=⟨58,[.o (.g [.h 0,.h 1,.h 2]),yh 3],[],.o (.c (.k (.int .i64 0))),[]⟩) 0 (zg ⟨za,za,(ze (zf rfl)),za,za,za,za,za,za,za,za,trivial⟩) ⟨e_bin (zb rfl) zd (zb rfl) (r_cmp (congrArg some e1)),
  e_fbv h2,
  e_bin (zb rfl) zd (zb rfl) (r_cmp (congrArg some e3)),
  e_fbv h4,
  zn (E:=31) (by kernel_rfl) (zc rfl) (zb (by rw [← e5];rfl)),
  e_bin (zb rfl) zd (zb rfl) (r_cmp (congrArg some e6)),
  e_fbv h7,
  e_bin (zb rfl) zd (zb rfl) (r_cmp (congrArg some e8)),
  e_fbv h9,
  e_bin (zb rfl) zd (zb rfl) (r_cmp (congrArg some e10)),
  e_fbv h11,
  e_bin (zb rfl) (zb rfl) (zb rfl) (r_cmp (congrArg some e12)),
  e_fbv h13,
  trivial⟩ mixed (by kernel_rfl))
theorem zkQ {w0:World} (e:Xp) (a:Int) (v1:Bool) (v3:Bool) (v5:Bool) (v7:Int) (v8:Bool) (v10:Bool) (e1:((e.op == (1:Int)))=v1) (e3:((e.op == (2:Int)))=v3) (e5:((e.op == (3:Int)))=v5) (e7:((e.l.length:Int))=v7) (e8:((v7 == (2:Int)))=v8) (e10:((e.n == (0:Int)))=v10) (h2:v1=false) (h4:v3=false) (h6:v5=true) (h9:v8=true) (h11:v10=true):Fun (KN w0) Tryd.prog 58 [.o (.g [pI e.op,pI e.n,pLs cE e.l]),.o (.c (pI a))] (.o (.c (pV (.int .i64 0)))):=
 zi (zk (F:=FL [pI e.op,pI e.n,pLs cE e.l,pI a,pB v1,pB v3,pB v5,pI v7,pB v8,pB v10] []) (C:=[(1000004,.bin .eql 3 (yh 0) (LF (.k (.int .i64 1))) (yh 4)),
  (10004,.fb 4 false),
  (1000006,.bin .eql 3 (yh 0) (LF (.k (.int .i64 2))) (yh 5)),
  (10005,.fb 5 false),
  (1000008,.bin .eql 3 (yh 0) (LF (.k (.int .i64 3))) (yh 6)),
  (10006,.fb 6 true),
  (1000012,.op (.len [28] 3) [yh 2] [] (yh 7)),
  (1000013,.bin .eql 3 (yh 7) (LF (.k (.int .i64 2))) (yh 8)),
  (10008,.fb 8 true),
  (1000017,.bin .eql 3 (yh 1) (LF (.k (.int .i64 0))) (yh 9)),
  (10009,.fb 9 true)]) (k:=⟨58,[.o (.g [.h 0,.h 1,.h 2]),yh 3],[],.o (.c (.k (.int .i64 0))),[]⟩) 0 (zg ⟨za,za,(ze (zf rfl)),za,za,za,za,za,za,za,trivial⟩) ⟨e_bin (zb rfl) zd (zb rfl) (r_cmp (congrArg some e1)),
  e_fbv h2,
  e_bin (zb rfl) zd (zb rfl) (r_cmp (congrArg some e3)),
  e_fbv h4,
  e_bin (zb rfl) zd (zb rfl) (r_cmp (congrArg some e5)),
  e_fbv h6,
  zn (E:=31) (by kernel_rfl) (zc rfl) (zb (by rw [← e7];rfl)),
  e_bin (zb rfl) zd (zb rfl) (r_cmp (congrArg some e8)),
  e_fbv h9,
  e_bin (zb rfl) zd (zb rfl) (r_cmp (congrArg some e10)),
  e_fbv h11,
  trivial⟩ mixed (by kernel_rfl))
theorem zkR {w0:World} (e:Xp) (a:Int) (v1:Bool) (v3:Bool) (v5:Bool) (v7:Int) (v8:Bool) (v10:Bool) (e1:((e.op == (1:Int)))=v1) (e3:((e.op == (2:Int)))=v3) (e5:((e.op == (3:Int)))=v5) (e7:((e.l.length:Int))=v7) (e8:((v7 == (2:Int)))=v8) (e10:((e.n == (0:Int)))=v10) (h2:v1=false) (h4:v3=false) (h6:v5=true) (h9:v8=true) (h11:v10=false):Fun (KN w0) Tryd.prog 58 [.o (.g [pI e.op,pI e.n,pLs cE e.l]),.o (.c (pI a))] (.o (.c (pV (.int .i64 4)))):=
 zi (zk (F:=FL [pI e.op,pI e.n,pLs cE e.l,pI a,pB v1,pB v3,pB v5,pI v7,pB v8,pB v10] []) (C:=[(1000004,.bin .eql 3 (yh 0) (LF (.k (.int .i64 1))) (yh 4)),
  (10004,.fb 4 false),
  (1000006,.bin .eql 3 (yh 0) (LF (.k (.int .i64 2))) (yh 5)),
  (10005,.fb 5 false),
  (1000008,.bin .eql 3 (yh 0) (LF (.k (.int .i64 3))) (yh 6)),
  (10006,.fb 6 true),
  (1000012,.op (.len [28] 3) [yh 2] [] (yh 7)),
  (1000013,.bin .eql 3 (yh 7) (LF (.k (.int .i64 2))) (yh 8)),
  (10008,.fb 8 true),
  (1000017,.bin .eql 3 (yh 1) (LF (.k (.int .i64 0))) (yh 9)),
  (10009,.fb 9 false)]) (k:=⟨58,[.o (.g [.h 0,.h 1,.h 2]),yh 3],[],.o (.c (.k (.int .i64 4))),[]⟩) 0 (zg ⟨za,za,(ze (zf rfl)),za,za,za,za,za,za,za,trivial⟩) ⟨e_bin (zb rfl) zd (zb rfl) (r_cmp (congrArg some e1)),
  e_fbv h2,
  e_bin (zb rfl) zd (zb rfl) (r_cmp (congrArg some e3)),
  e_fbv h4,
  e_bin (zb rfl) zd (zb rfl) (r_cmp (congrArg some e5)),
  e_fbv h6,
  zn (E:=31) (by kernel_rfl) (zc rfl) (zb (by rw [← e7];rfl)),
  e_bin (zb rfl) zd (zb rfl) (r_cmp (congrArg some e8)),
  e_fbv h9,
  e_bin (zb rfl) zd (zb rfl) (r_cmp (congrArg some e10)),
  e_fbv h11,
  trivial⟩ mixed (by kernel_rfl))
theorem zic {w0:World} (e:Xp) (a:Int) (v1:Bool) (v3:Bool) (v5:Bool) (v7:Int) (v8:Bool) (e1:((e.op == (1:Int)))=v1) (e3:((e.op == (2:Int)))=v3) (e5:((e.op == (3:Int)))=v5) (e7:((e.l.length:Int))=v7) (e8:((v7 == (2:Int)))=v8) (h2:v1=false) (h4:v3=false) (h6:v5=true) (h9:v8=false):Fun (KN w0) Tryd.prog 58 [.o (.g [pI e.op,pI e.n,pLs cE e.l]),.o (.c (pI a))] (.o (.c (pV (.int .i64 4)))):=
 zi (zk (F:=FL [pI e.op,pI e.n,pLs cE e.l,pI a,pB v1,pB v3,pB v5,pI v7,pB v8] []) (C:=[(1000004,.bin .eql 3 (yh 0) (LF (.k (.int .i64 1))) (yh 4)),
  (10004,.fb 4 false),
  (1000006,.bin .eql 3 (yh 0) (LF (.k (.int .i64 2))) (yh 5)),
  (10005,.fb 5 false),
  (1000008,.bin .eql 3 (yh 0) (LF (.k (.int .i64 3))) (yh 6)),
  (10006,.fb 6 true),
  (1000012,.op (.len [28] 3) [yh 2] [] (yh 7)),
  (1000013,.bin .eql 3 (yh 7) (LF (.k (.int .i64 2))) (yh 8)),
  (10008,.fb 8 false)]) (k:=⟨58,[.o (.g [.h 0,.h 1,.h 2]),yh 3],[],.o (.c (.k (.int .i64 4))),[]⟩) 0 (zg ⟨za,za,(ze (zf rfl)),za,za,za,za,za,za,trivial⟩) ⟨e_bin (zb rfl) zd (zb rfl) (r_cmp (congrArg some e1)),
  e_fbv h2,
  e_bin (zb rfl) zd (zb rfl) (r_cmp (congrArg some e3)),
  e_fbv h4,
  e_bin (zb rfl) zd (zb rfl) (r_cmp (congrArg some e5)),
  e_fbv h6,
  zn (E:=31) (by kernel_rfl) (zc rfl) (zb (by rw [← e7];rfl)),
  e_bin (zb rfl) zd (zb rfl) (r_cmp (congrArg some e8)),
  e_fbv h9,
  trivial⟩ mixed (by kernel_rfl))
theorem zid {w0:World} (e:Xp) (a:Int) (v1:Bool) (v3:Bool) (v5:Bool) (v7:Bool) (v9:Int) (v10:Bool) (v12:Bool) (e1:((e.op == (1:Int)))=v1) (e3:((e.op == (2:Int)))=v3) (e5:((e.op == (3:Int)))=v5) (e7:((e.op == (4:Int)))=v7) (e9:((e.l.length:Int))=v9) (e10:((v9 == (2:Int)))=v10) (e12:((e.n == (0:Int)))=v12) (h2:v1=false) (h4:v3=false) (h6:v5=false) (h8:v7=true) (h11:v10=true) (h13:v12=true):Fun (KN w0) Tryd.prog 58 [.o (.g [pI e.op,pI e.n,pLs cE e.l]),.o (.c (pI a))] (.o (.c (pV (.int .i64 0)))):=
 zi (zk (F:=FL [pI e.op,pI e.n,pLs cE e.l,pI a,pB v1,pB v3,pB v5,pB v7,pI v9,pB v10,pB v12] []) (C:=[(1000004,.bin .eql 3 (yh 0) (LF (.k (.int .i64 1))) (yh 4)),
  (10004,.fb 4 false),
  (1000006,.bin .eql 3 (yh 0) (LF (.k (.int .i64 2))) (yh 5)),
  (10005,.fb 5 false),
  (1000008,.bin .eql 3 (yh 0) (LF (.k (.int .i64 3))) (yh 6)),
  (10006,.fb 6 false),
  (1000010,.bin .eql 3 (yh 0) (LF (.k (.int .i64 4))) (yh 7)),
  (10007,.fb 7 true),
  (1000014,.op (.len [28] 3) [yh 2] [] (yh 8)),
  (1000015,.bin .eql 3 (yh 8) (LF (.k (.int .i64 2))) (yh 9)),
  (10009,.fb 9 true),
  (1000019,.bin .eql 3 (yh 1) (LF (.k (.int .i64 0))) (yh 10)),
  (10010,.fb 10 true)]) (k:=⟨58,[.o (.g [.h 0,.h 1,.h 2]),yh 3],[],.o (.c (.k (.int .i64 0))),[]⟩) 0 (zg ⟨za,za,(ze (zf rfl)),za,za,za,za,za,za,za,za,trivial⟩) ⟨e_bin (zb rfl) zd (zb rfl) (r_cmp (congrArg some e1)),
  e_fbv h2,
  e_bin (zb rfl) zd (zb rfl) (r_cmp (congrArg some e3)),
  e_fbv h4,
  e_bin (zb rfl) zd (zb rfl) (r_cmp (congrArg some e5)),
  e_fbv h6,
  e_bin (zb rfl) zd (zb rfl) (r_cmp (congrArg some e7)),
  e_fbv h8,
  zn (E:=31) (by kernel_rfl) (zc rfl) (zb (by rw [← e9];rfl)),
  e_bin (zb rfl) zd (zb rfl) (r_cmp (congrArg some e10)),
  e_fbv h11,
  e_bin (zb rfl) zd (zb rfl) (r_cmp (congrArg some e12)),
  e_fbv h13,
  trivial⟩ mixed (by kernel_rfl))
theorem zie {w0:World} (e:Xp) (a:Int) (v1:Bool) (v3:Bool) (v5:Bool) (v7:Bool) (v9:Int) (v10:Bool) (v12:Bool) (e1:((e.op == (1:Int)))=v1) (e3:((e.op == (2:Int)))=v3) (e5:((e.op == (3:Int)))=v5) (e7:((e.op == (4:Int)))=v7) (e9:((e.l.length:Int))=v9) (e10:((v9 == (2:Int)))=v10) (e12:((e.n == (0:Int)))=v12) (h2:v1=false) (h4:v3=false) (h6:v5=false) (h8:v7=true) (h11:v10=true) (h13:v12=false):Fun (KN w0) Tryd.prog 58 [.o (.g [pI e.op,pI e.n,pLs cE e.l]),.o (.c (pI a))] (.o (.c (pV (.int .i64 4)))):=
 zi (zk (F:=FL [pI e.op,pI e.n,pLs cE e.l,pI a,pB v1,pB v3,pB v5,pB v7,pI v9,pB v10,pB v12] []) (C:=[(1000004,.bin .eql 3 (yh 0) (LF (.k (.int .i64 1))) (yh 4)),
  (10004,.fb 4 false),
  (1000006,.bin .eql 3 (yh 0) (LF (.k (.int .i64 2))) (yh 5)),
  (10005,.fb 5 false),
  (1000008,.bin .eql 3 (yh 0) (LF (.k (.int .i64 3))) (yh 6)),
  (10006,.fb 6 false),
  (1000010,.bin .eql 3 (yh 0) (LF (.k (.int .i64 4))) (yh 7)),
  (10007,.fb 7 true),
  (1000014,.op (.len [28] 3) [yh 2] [] (yh 8)),
  (1000015,.bin .eql 3 (yh 8) (LF (.k (.int .i64 2))) (yh 9)),
  (10009,.fb 9 true),
  (1000019,.bin .eql 3 (yh 1) (LF (.k (.int .i64 0))) (yh 10)),
  (10010,.fb 10 false)]) (k:=⟨58,[.o (.g [.h 0,.h 1,.h 2]),yh 3],[],.o (.c (.k (.int .i64 4))),[]⟩) 0 (zg ⟨za,za,(ze (zf rfl)),za,za,za,za,za,za,za,za,trivial⟩) ⟨e_bin (zb rfl) zd (zb rfl) (r_cmp (congrArg some e1)),
  e_fbv h2,
  e_bin (zb rfl) zd (zb rfl) (r_cmp (congrArg some e3)),
  e_fbv h4,
  e_bin (zb rfl) zd (zb rfl) (r_cmp (congrArg some e5)),
  e_fbv h6,
  e_bin (zb rfl) zd (zb rfl) (r_cmp (congrArg some e7)),
  e_fbv h8,
  zn (E:=31) (by kernel_rfl) (zc rfl) (zb (by rw [← e9];rfl)),
  e_bin (zb rfl) zd (zb rfl) (r_cmp (congrArg some e10)),
  e_fbv h11,
  e_bin (zb rfl) zd (zb rfl) (r_cmp (congrArg some e12)),
  e_fbv h13,
  trivial⟩ mixed (by kernel_rfl))
theorem zif {w0:World} (e:Xp) (a:Int) (v1:Bool) (v3:Bool) (v5:Bool) (v7:Bool) (v9:Int) (v10:Bool) (e1:((e.op == (1:Int)))=v1) (e3:((e.op == (2:Int)))=v3) (e5:((e.op == (3:Int)))=v5) (e7:((e.op == (4:Int)))=v7) (e9:((e.l.length:Int))=v9) (e10:((v9 == (2:Int)))=v10) (h2:v1=false) (h4:v3=false) (h6:v5=false) (h8:v7=true) (h11:v10=false):Fun (KN w0) Tryd.prog 58 [.o (.g [pI e.op,pI e.n,pLs cE e.l]),.o (.c (pI a))] (.o (.c (pV (.int .i64 4)))):=
 zi (zk (F:=FL [pI e.op,pI e.n,pLs cE e.l,pI a,pB v1,pB v3,pB v5,pB v7,pI v9,pB v10] []) (C:=[(1000004,.bin .eql 3 (yh 0) (LF (.k (.int .i64 1))) (yh 4)),
  (10004,.fb 4 false),
  (1000006,.bin .eql 3 (yh 0) (LF (.k (.int .i64 2))) (yh 5)),
  (10005,.fb 5 false),
  (1000008,.bin .eql 3 (yh 0) (LF (.k (.int .i64 3))) (yh 6)),
  (10006,.fb 6 false),
  (1000010,.bin .eql 3 (yh 0) (LF (.k (.int .i64 4))) (yh 7)),
  (10007,.fb 7 true),
  (1000014,.op (.len [28] 3) [yh 2] [] (yh 8)),
  (1000015,.bin .eql 3 (yh 8) (LF (.k (.int .i64 2))) (yh 9)),
  (10009,.fb 9 false)]) (k:=⟨58,[.o (.g [.h 0,.h 1,.h 2]),yh 3],[],.o (.c (.k (.int .i64 4))),[]⟩) 0 (zg ⟨za,za,(ze (zf rfl)),za,za,za,za,za,za,za,trivial⟩) ⟨e_bin (zb rfl) zd (zb rfl) (r_cmp (congrArg some e1)),
  e_fbv h2,
  e_bin (zb rfl) zd (zb rfl) (r_cmp (congrArg some e3)),
  e_fbv h4,
  e_bin (zb rfl) zd (zb rfl) (r_cmp (congrArg some e5)),
  e_fbv h6,
  e_bin (zb rfl) zd (zb rfl) (r_cmp (congrArg some e7)),
  e_fbv h8,
  zn (E:=31) (by kernel_rfl) (zc rfl) (zb (by rw [← e9];rfl)),
  e_bin (zb rfl) zd (zb rfl) (r_cmp (congrArg some e10)),
  e_fbv h11,
  trivial⟩ mixed (by kernel_rfl))
theorem zig {w0:World} (e:Xp) (a:Int) (v1:Bool) (v3:Bool) (v5:Bool) (v7:Bool) (v9:Bool) (v11:Int) (v12:Bool) (v14:Bool) (e1:((e.op == (1:Int)))=v1) (e3:((e.op == (2:Int)))=v3) (e5:((e.op == (3:Int)))=v5) (e7:((e.op == (4:Int)))=v7) (e9:((e.op == (5:Int)))=v9) (e11:((e.l.length:Int))=v11) (e12:((v11 == (2:Int)))=v12) (e14:((e.n == (0:Int)))=v14) (h2:v1=false) (h4:v3=false) (h6:v5=false) (h8:v7=false) (h10:v9=true) (h13:v12=true) (h15:v14=true):Fun (KN w0) Tryd.prog 58 [.o (.g [pI e.op,pI e.n,pLs cE e.l]),.o (.c (pI a))] (.o (.c (pV (.int .i64 0)))):=
 zi (zk (F:=FL [pI e.op,pI e.n,pLs cE e.l,pI a,pB v1,pB v3,pB v5,pB v7,pB v9,pI v11,pB v12,pB v14] []) (C:=[(1000004,.bin .eql 3 (yh 0) (LF (.k (.int .i64 1))) (yh 4)),
  (10004,.fb 4 false),
  (1000006,.bin .eql 3 (yh 0) (LF (.k (.int .i64 2))) (yh 5)),
  (10005,.fb 5 false),
  (1000008,.bin .eql 3 (yh 0) (LF (.k (.int .i64 3))) (yh 6)),
  (10006,.fb 6 false),
  (1000010,.bin .eql 3 (yh 0) (LF (.k (.int .i64 4))) (yh 7)),
  (10007,.fb 7 false),
  (1000012,.bin .eql 3 (yh 0) (LF (.k (.int .i64 5))) (yh 8)),
  (10008,.fb 8 true),
  (1000016,.op (.len [28] 3) [yh 2] [] (yh 9)),
  (1000017,.bin .eql 3 (yh 9) (LF (.k (.int .i64 2))) (yh 10)),
  (10010,.fb 10 true),
  (1000021,.bin .eql 3 (yh 1) (LF (.k (.int .i64 0))) (yh 11)),
  (10011,.fb 11 true)]) (k:=⟨58,[.o (.g [.h 0,.h 1,.h 2]),yh 3],[],.o (.c (.k (.int .i64 0))),[]⟩) 0 (zg ⟨za,za,(ze (zf rfl)),za,za,za,za,za,za,za,za,za,trivial⟩) ⟨e_bin (zb rfl) zd (zb rfl) (r_cmp (congrArg some e1)),
  e_fbv h2,
  e_bin (zb rfl) zd (zb rfl) (r_cmp (congrArg some e3)),
  e_fbv h4,
  e_bin (zb rfl) zd (zb rfl) (r_cmp (congrArg some e5)),
  e_fbv h6,
  e_bin (zb rfl) zd (zb rfl) (r_cmp (congrArg some e7)),
  e_fbv h8,
  e_bin (zb rfl) zd (zb rfl) (r_cmp (congrArg some e9)),
  e_fbv h10,
  zn (E:=31) (by kernel_rfl) (zc rfl) (zb (by rw [← e11];rfl)),
  e_bin (zb rfl) zd (zb rfl) (r_cmp (congrArg some e12)),
  e_fbv h13,
  e_bin (zb rfl) zd (zb rfl) (r_cmp (congrArg some e14)),
  e_fbv h15,
  trivial⟩ mixed (by kernel_rfl))
theorem zih {w0:World} (e:Xp) (a:Int) (v1:Bool) (v3:Bool) (v5:Bool) (v7:Bool) (v9:Bool) (v11:Int) (v12:Bool) (v14:Bool) (e1:((e.op == (1:Int)))=v1) (e3:((e.op == (2:Int)))=v3) (e5:((e.op == (3:Int)))=v5) (e7:((e.op == (4:Int)))=v7) (e9:((e.op == (5:Int)))=v9) (e11:((e.l.length:Int))=v11) (e12:((v11 == (2:Int)))=v12) (e14:((e.n == (0:Int)))=v14) (h2:v1=false) (h4:v3=false) (h6:v5=false) (h8:v7=false) (h10:v9=true) (h13:v12=true) (h15:v14=false):Fun (KN w0) Tryd.prog 58 [.o (.g [pI e.op,pI e.n,pLs cE e.l]),.o (.c (pI a))] (.o (.c (pV (.int .i64 4)))):=
 zi (zk (F:=FL [pI e.op,pI e.n,pLs cE e.l,pI a,pB v1,pB v3,pB v5,pB v7,pB v9,pI v11,pB v12,pB v14] []) (C:=[(1000004,.bin .eql 3 (yh 0) (LF (.k (.int .i64 1))) (yh 4)),
  (10004,.fb 4 false),
  (1000006,.bin .eql 3 (yh 0) (LF (.k (.int .i64 2))) (yh 5)),
  (10005,.fb 5 false),
  (1000008,.bin .eql 3 (yh 0) (LF (.k (.int .i64 3))) (yh 6)),
  (10006,.fb 6 false),
  (1000010,.bin .eql 3 (yh 0) (LF (.k (.int .i64 4))) (yh 7)),
  (10007,.fb 7 false),
  (1000012,.bin .eql 3 (yh 0) (LF (.k (.int .i64 5))) (yh 8)),
  (10008,.fb 8 true),
  (1000016,.op (.len [28] 3) [yh 2] [] (yh 9)),
  (1000017,.bin .eql 3 (yh 9) (LF (.k (.int .i64 2))) (yh 10)),
  (10010,.fb 10 true),
  (1000021,.bin .eql 3 (yh 1) (LF (.k (.int .i64 0))) (yh 11)),
  (10011,.fb 11 false)]) (k:=⟨58,[.o (.g [.h 0,.h 1,.h 2]),yh 3],[],.o (.c (.k (.int .i64 4))),[]⟩) 0 (zg ⟨za,za,(ze (zf rfl)),za,za,za,za,za,za,za,za,za,trivial⟩) ⟨e_bin (zb rfl) zd (zb rfl) (r_cmp (congrArg some e1)),
  e_fbv h2,
  e_bin (zb rfl) zd (zb rfl) (r_cmp (congrArg some e3)),
  e_fbv h4,
  e_bin (zb rfl) zd (zb rfl) (r_cmp (congrArg some e5)),
  e_fbv h6,
  e_bin (zb rfl) zd (zb rfl) (r_cmp (congrArg some e7)),
  e_fbv h8,
  e_bin (zb rfl) zd (zb rfl) (r_cmp (congrArg some e9)),
  e_fbv h10,
  zn (E:=31) (by kernel_rfl) (zc rfl) (zb (by rw [← e11];rfl)),
  e_bin (zb rfl) zd (zb rfl) (r_cmp (congrArg some e12)),
  e_fbv h13,
  e_bin (zb rfl) zd (zb rfl) (r_cmp (congrArg some e14)),
  e_fbv h15,
  trivial⟩ mixed (by kernel_rfl))
theorem zii {w0:World} (e:Xp) (a:Int) (v1:Bool) (v3:Bool) (v5:Bool) (v7:Bool) (v9:Bool) (v11:Int) (v12:Bool) (e1:((e.op == (1:Int)))=v1) (e3:((e.op == (2:Int)))=v3) (e5:((e.op == (3:Int)))=v5) (e7:((e.op == (4:Int)))=v7) (e9:((e.op == (5:Int)))=v9) (e11:((e.l.length:Int))=v11) (e12:((v11 == (2:Int)))=v12) (h2:v1=false) (h4:v3=false) (h6:v5=false) (h8:v7=false) (h10:v9=true) (h13:v12=false):Fun (KN w0) Tryd.prog 58 [.o (.g [pI e.op,pI e.n,pLs cE e.l]),.o (.c (pI a))] (.o (.c (pV (.int .i64 4)))):=
 zi (zk (F:=FL [pI e.op,pI e.n,pLs cE e.l,pI a,pB v1,pB v3,pB v5,pB v7,pB v9,pI v11,pB v12] []) (C:=[(1000004,.bin .eql 3 (yh 0) (LF (.k (.int .i64 1))) (yh 4)),
  (10004,.fb 4 false),
  (1000006,.bin .eql 3 (yh 0) (LF (.k (.int .i64 2))) (yh 5)),
  (10005,.fb 5 false),
  (1000008,.bin .eql 3 (yh 0) (LF (.k (.int .i64 3))) (yh 6)),
  (10006,.fb 6 false),
  (1000010,.bin .eql 3 (yh 0) (LF (.k (.int .i64 4))) (yh 7)),
  (10007,.fb 7 false),
  (1000012,.bin .eql 3 (yh 0) (LF (.k (.int .i64 5))) (yh 8)),
  (10008,.fb 8 true),
  (1000016,.op (.len [28] 3) [yh 2] [] (yh 9)),
  (1000017,.bin .eql 3 (yh 9) (LF (.k (.int .i64 2))) (yh 10)),
  (10010,.fb 10 false)]) (k:=⟨58,[.o (.g [.h 0,.h 1,.h 2]),yh 3],[],.o (.c (.k (.int .i64 4))),[]⟩) 0 (zg ⟨za,za,(ze (zf rfl)),za,za,za,za,za,za,za,za,trivial⟩) ⟨e_bin (zb rfl) zd (zb rfl) (r_cmp (congrArg some e1)),
  e_fbv h2,
  e_bin (zb rfl) zd (zb rfl) (r_cmp (congrArg some e3)),
  e_fbv h4,
  e_bin (zb rfl) zd (zb rfl) (r_cmp (congrArg some e5)),
  e_fbv h6,
  e_bin (zb rfl) zd (zb rfl) (r_cmp (congrArg some e7)),
  e_fbv h8,
  e_bin (zb rfl) zd (zb rfl) (r_cmp (congrArg some e9)),
  e_fbv h10,
  zn (E:=31) (by kernel_rfl) (zc rfl) (zb (by rw [← e11];rfl)),
  e_bin (zb rfl) zd (zb rfl) (r_cmp (congrArg some e12)),
  e_fbv h13,
  trivial⟩ mixed (by kernel_rfl))
theorem zij {w0:World} (e:Xp) (a:Int) (v1:Bool) (v3:Bool) (v5:Bool) (v7:Bool) (v9:Bool) (v11:Bool) (v13:Int) (v14:Bool) (v16:Bool) (e1:((e.op == (1:Int)))=v1) (e3:((e.op == (2:Int)))=v3) (e5:((e.op == (3:Int)))=v5) (e7:((e.op == (4:Int)))=v7) (e9:((e.op == (5:Int)))=v9) (e11:((e.op == (6:Int)))=v11) (e13:((e.l.length:Int))=v13) (e14:((v13 == (2:Int)))=v14) (e16:((e.n == (0:Int)))=v16) (h2:v1=false) (h4:v3=false) (h6:v5=false) (h8:v7=false) (h10:v9=false) (h12:v11=true) (h15:v14=true) (h17:v16=true):Fun (KN w0) Tryd.prog 58 [.o (.g [pI e.op,pI e.n,pLs cE e.l]),.o (.c (pI a))] (.o (.c (pV (.int .i64 0)))):=
 zi (zk (F:=FL [pI e.op,pI e.n,pLs cE e.l,pI a,pB v1,pB v3,pB v5,pB v7,pB v9,pB v11,pI v13,pB v14,pB v16] []) (C:=[(1000004,.bin .eql 3 (yh 0) (LF (.k (.int .i64 1))) (yh 4)),
  (10004,.fb 4 false),
  (1000006,.bin .eql 3 (yh 0) (LF (.k (.int .i64 2))) (yh 5)),
  (10005,.fb 5 false),
  (1000008,.bin .eql 3 (yh 0) (LF (.k (.int .i64 3))) (yh 6)),
  (10006,.fb 6 false),
  (1000010,.bin .eql 3 (yh 0) (LF (.k (.int .i64 4))) (yh 7)),
  (10007,.fb 7 false),
  (1000012,.bin .eql 3 (yh 0) (LF (.k (.int .i64 5))) (yh 8)),
  (10008,.fb 8 false),
  (1000014,.bin .eql 3 (yh 0) (LF (.k (.int .i64 6))) (yh 9)),
  (10009,.fb 9 true),
  (1000018,.op (.len [28] 3) [yh 2] [] (yh 10)),
  (1000019,.bin .eql 3 (yh 10) (LF (.k (.int .i64 2))) (yh 11)),
  (10011,.fb 11 true),
  (1000023,.bin .eql 3 (yh 1) (LF (.k (.int .i64 0))) (yh 12)),
  (10012,.fb 12 true)]) (k:=⟨58,[.o (.g [.h 0,.h 1,.h 2]),yh 3],[],.o (.c (.k (.int .i64 0))),[]⟩) 0 (zg ⟨za,za,(ze (zf rfl)),za,za,za,za,za,za,za,za,za,za,trivial⟩) ⟨e_bin (zb rfl) zd (zb rfl) (r_cmp (congrArg some e1)),
  e_fbv h2,
  e_bin (zb rfl) zd (zb rfl) (r_cmp (congrArg some e3)),
  e_fbv h4,
  e_bin (zb rfl) zd (zb rfl) (r_cmp (congrArg some e5)),
  e_fbv h6,
  e_bin (zb rfl) zd (zb rfl) (r_cmp (congrArg some e7)),
  e_fbv h8,
  e_bin (zb rfl) zd (zb rfl) (r_cmp (congrArg some e9)),
  e_fbv h10,
  e_bin (zb rfl) zd (zb rfl) (r_cmp (congrArg some e11)),
  e_fbv h12,
  zn (E:=31) (by kernel_rfl) (zc rfl) (zb (by rw [← e13];rfl)),
  e_bin (zb rfl) zd (zb rfl) (r_cmp (congrArg some e14)),
  e_fbv h15,
  e_bin (zb rfl) zd (zb rfl) (r_cmp (congrArg some e16)),
  e_fbv h17,
  trivial⟩ mixed (by kernel_rfl))
theorem zik {w0:World} (e:Xp) (a:Int) (v1:Bool) (v3:Bool) (v5:Bool) (v7:Bool) (v9:Bool) (v11:Bool) (v13:Int) (v14:Bool) (v16:Bool) (e1:((e.op == (1:Int)))=v1) (e3:((e.op == (2:Int)))=v3) (e5:((e.op == (3:Int)))=v5) (e7:((e.op == (4:Int)))=v7) (e9:((e.op == (5:Int)))=v9) (e11:((e.op == (6:Int)))=v11) (e13:((e.l.length:Int))=v13) (e14:((v13 == (2:Int)))=v14) (e16:((e.n == (0:Int)))=v16) (h2:v1=false) (h4:v3=false) (h6:v5=false) (h8:v7=false) (h10:v9=false) (h12:v11=true) (h15:v14=true) (h17:v16=false):Fun (KN w0) Tryd.prog 58 [.o (.g [pI e.op,pI e.n,pLs cE e.l]),.o (.c (pI a))] (.o (.c (pV (.int .i64 4)))):=
 zi (zk (F:=FL [pI e.op,pI e.n,pLs cE e.l,pI a,pB v1,pB v3,pB v5,pB v7,pB v9,pB v11,pI v13,pB v14,pB v16] []) (C:=[(1000004,.bin .eql 3 (yh 0) (LF (.k (.int .i64 1))) (yh 4)),
  (10004,.fb 4 false),
  (1000006,.bin .eql 3 (yh 0) (LF (.k (.int .i64 2))) (yh 5)),
  (10005,.fb 5 false),
  (1000008,.bin .eql 3 (yh 0) (LF (.k (.int .i64 3))) (yh 6)),
  (10006,.fb 6 false),
  (1000010,.bin .eql 3 (yh 0) (LF (.k (.int .i64 4))) (yh 7)),
  (10007,.fb 7 false),
  (1000012,.bin .eql 3 (yh 0) (LF (.k (.int .i64 5))) (yh 8)),
  (10008,.fb 8 false),
  (1000014,.bin .eql 3 (yh 0) (LF (.k (.int .i64 6))) (yh 9)),
  (10009,.fb 9 true),
  (1000018,.op (.len [28] 3) [yh 2] [] (yh 10)),
  (1000019,.bin .eql 3 (yh 10) (LF (.k (.int .i64 2))) (yh 11)),
  (10011,.fb 11 true),
  (1000023,.bin .eql 3 (yh 1) (LF (.k (.int .i64 0))) (yh 12)),
  (10012,.fb 12 false)]) (k:=⟨58,[.o (.g [.h 0,.h 1,.h 2]),yh 3],[],.o (.c (.k (.int .i64 4))),[]⟩) 0 (zg ⟨za,za,(ze (zf rfl)),za,za,za,za,za,za,za,za,za,za,trivial⟩) ⟨e_bin (zb rfl) zd (zb rfl) (r_cmp (congrArg some e1)),
  e_fbv h2,
  e_bin (zb rfl) zd (zb rfl) (r_cmp (congrArg some e3)),
  e_fbv h4,
  e_bin (zb rfl) zd (zb rfl) (r_cmp (congrArg some e5)),
  e_fbv h6,
  e_bin (zb rfl) zd (zb rfl) (r_cmp (congrArg some e7)),
  e_fbv h8,
  e_bin (zb rfl) zd (zb rfl) (r_cmp (congrArg some e9)),
  e_fbv h10,
  e_bin (zb rfl) zd (zb rfl) (r_cmp (congrArg some e11)),
  e_fbv h12,
  zn (E:=31) (by kernel_rfl) (zc rfl) (zb (by rw [← e13];rfl)),
  e_bin (zb rfl) zd (zb rfl) (r_cmp (congrArg some e14)),
  e_fbv h15,
  e_bin (zb rfl) zd (zb rfl) (r_cmp (congrArg some e16)),
  e_fbv h17,
  trivial⟩ mixed (by kernel_rfl))
theorem zil {w0:World} (e:Xp) (a:Int) (v1:Bool) (v3:Bool) (v5:Bool) (v7:Bool) (v9:Bool) (v11:Bool) (v13:Int) (v14:Bool) (e1:((e.op == (1:Int)))=v1) (e3:((e.op == (2:Int)))=v3) (e5:((e.op == (3:Int)))=v5) (e7:((e.op == (4:Int)))=v7) (e9:((e.op == (5:Int)))=v9) (e11:((e.op == (6:Int)))=v11) (e13:((e.l.length:Int))=v13) (e14:((v13 == (2:Int)))=v14) (h2:v1=false) (h4:v3=false) (h6:v5=false) (h8:v7=false) (h10:v9=false) (h12:v11=true) (h15:v14=false):Fun (KN w0) Tryd.prog 58 [.o (.g [pI e.op,pI e.n,pLs cE e.l]),.o (.c (pI a))] (.o (.c (pV (.int .i64 4)))):=
 zi (zk (F:=FL [pI e.op,pI e.n,pLs cE e.l,pI a,pB v1,pB v3,pB v5,pB v7,pB v9,pB v11,pI v13,pB v14] []) (C:=[(1000004,.bin .eql 3 (yh 0) (LF (.k (.int .i64 1))) (yh 4)),
  (10004,.fb 4 false),
  (1000006,.bin .eql 3 (yh 0) (LF (.k (.int .i64 2))) (yh 5)),
  (10005,.fb 5 false),
  (1000008,.bin .eql 3 (yh 0) (LF (.k (.int .i64 3))) (yh 6)),
  (10006,.fb 6 false),
  (1000010,.bin .eql 3 (yh 0) (LF (.k (.int .i64 4))) (yh 7)),
  (10007,.fb 7 false),
  (1000012,.bin .eql 3 (yh 0) (LF (.k (.int .i64 5))) (yh 8)),
  (10008,.fb 8 false),
  (1000014,.bin .eql 3 (yh 0) (LF (.k (.int .i64 6))) (yh 9)),
  (10009,.fb 9 true),
  (1000018,.op (.len [28] 3) [yh 2] [] (yh 10)),
  (1000019,.bin .eql 3 (yh 10) (LF (.k (.int .i64 2))) (yh 11)),
  (10011,.fb 11 false)]) (k:=⟨58,[.o (.g [.h 0,.h 1,.h 2]),yh 3],[],.o (.c (.k (.int .i64 4))),[]⟩) 0 (zg ⟨za,za,(ze (zf rfl)),za,za,za,za,za,za,za,za,za,trivial⟩) ⟨e_bin (zb rfl) zd (zb rfl) (r_cmp (congrArg some e1)),
  e_fbv h2,
  e_bin (zb rfl) zd (zb rfl) (r_cmp (congrArg some e3)),
  e_fbv h4,
  e_bin (zb rfl) zd (zb rfl) (r_cmp (congrArg some e5)),
  e_fbv h6,
  e_bin (zb rfl) zd (zb rfl) (r_cmp (congrArg some e7)),
  e_fbv h8,
  e_bin (zb rfl) zd (zb rfl) (r_cmp (congrArg some e9)),
  e_fbv h10,
  e_bin (zb rfl) zd (zb rfl) (r_cmp (congrArg some e11)),
  e_fbv h12,
  zn (E:=31) (by kernel_rfl) (zc rfl) (zb (by rw [← e13];rfl)),
  e_bin (zb rfl) zd (zb rfl) (r_cmp (congrArg some e14)),
  e_fbv h15,
  trivial⟩ mixed (by kernel_rfl))
theorem zim {w0:World} (e:Xp) (a:Int) (v1:Bool) (v3:Bool) (v5:Bool) (v7:Bool) (v9:Bool) (v11:Bool) (v13:Bool) (v15:Int) (v16:Bool) (v18:Bool) (e1:((e.op == (1:Int)))=v1) (e3:((e.op == (2:Int)))=v3) (e5:((e.op == (3:Int)))=v5) (e7:((e.op == (4:Int)))=v7) (e9:((e.op == (5:Int)))=v9) (e11:((e.op == (6:Int)))=v11) (e13:((e.op == (7:Int)))=v13) (e15:((e.l.length:Int))=v15) (e16:((v15 == (2:Int)))=v16) (e18:((e.n == (0:Int)))=v18) (h2:v1=false) (h4:v3=false) (h6:v5=false) (h8:v7=false) (h10:v9=false) (h12:v11=false) (h14:v13=true) (h17:v16=true) (h19:v18=true):Fun (KN w0) Tryd.prog 58 [.o (.g [pI e.op,pI e.n,pLs cE e.l]),.o (.c (pI a))] (.o (.c (pV (.int .i64 0)))):=
 zi (zk (F:=FL [pI e.op,pI e.n,pLs cE e.l,pI a,pB v1,pB v3,pB v5,pB v7,pB v9,pB v11,pB v13,pI v15,pB v16,pB v18] []) (C:=[(1000004,.bin .eql 3 (yh 0) (LF (.k (.int .i64 1))) (yh 4)),
  (10004,.fb 4 false),
  (1000006,.bin .eql 3 (yh 0) (LF (.k (.int .i64 2))) (yh 5)),
  (10005,.fb 5 false),
  (1000008,.bin .eql 3 (yh 0) (LF (.k (.int .i64 3))) (yh 6)),
  (10006,.fb 6 false),
  (1000010,.bin .eql 3 (yh 0) (LF (.k (.int .i64 4))) (yh 7)),
  (10007,.fb 7 false),
  (1000012,.bin .eql 3 (yh 0) (LF (.k (.int .i64 5))) (yh 8)),
  (10008,.fb 8 false),
  (1000014,.bin .eql 3 (yh 0) (LF (.k (.int .i64 6))) (yh 9)),
  (10009,.fb 9 false),
  (1000016,.bin .eql 3 (yh 0) (LF (.k (.int .i64 7))) (yh 10)),
  (10010,.fb 10 true),
  (1000020,.op (.len [28] 3) [yh 2] [] (yh 11)),
  (1000021,.bin .eql 3 (yh 11) (LF (.k (.int .i64 2))) (yh 12)),
  (10012,.fb 12 true),
  (1000025,.bin .eql 3 (yh 1) (LF (.k (.int .i64 0))) (yh 13)),
  (10013,.fb 13 true)]) (k:=⟨58,[.o (.g [.h 0,.h 1,.h 2]),yh 3],[],.o (.c (.k (.int .i64 0))),[]⟩) 0 (zg ⟨za,za,(ze (zf rfl)),za,za,za,za,za,za,za,za,za,za,za,trivial⟩) ⟨e_bin (zb rfl) zd (zb rfl) (r_cmp (congrArg some e1)),
  e_fbv h2,
  e_bin (zb rfl) zd (zb rfl) (r_cmp (congrArg some e3)),
  e_fbv h4,
  e_bin (zb rfl) zd (zb rfl) (r_cmp (congrArg some e5)),
  e_fbv h6,
  e_bin (zb rfl) zd (zb rfl) (r_cmp (congrArg some e7)),
  e_fbv h8,
  e_bin (zb rfl) zd (zb rfl) (r_cmp (congrArg some e9)),
  e_fbv h10,
  e_bin (zb rfl) zd (zb rfl) (r_cmp (congrArg some e11)),
  e_fbv h12,
  e_bin (zb rfl) zd (zb rfl) (r_cmp (congrArg some e13)),
  e_fbv h14,
  zn (E:=31) (by kernel_rfl) (zc rfl) (zb (by rw [← e15];rfl)),
  e_bin (zb rfl) zd (zb rfl) (r_cmp (congrArg some e16)),
  e_fbv h17,
  e_bin (zb rfl) zd (zb rfl) (r_cmp (congrArg some e18)),
  e_fbv h19,
  trivial⟩ mixed (by kernel_rfl))
theorem zin {w0:World} (e:Xp) (a:Int) (v1:Bool) (v3:Bool) (v5:Bool) (v7:Bool) (v9:Bool) (v11:Bool) (v13:Bool) (v15:Int) (v16:Bool) (v18:Bool) (e1:((e.op == (1:Int)))=v1) (e3:((e.op == (2:Int)))=v3) (e5:((e.op == (3:Int)))=v5) (e7:((e.op == (4:Int)))=v7) (e9:((e.op == (5:Int)))=v9) (e11:((e.op == (6:Int)))=v11) (e13:((e.op == (7:Int)))=v13) (e15:((e.l.length:Int))=v15) (e16:((v15 == (2:Int)))=v16) (e18:((e.n == (0:Int)))=v18) (h2:v1=false) (h4:v3=false) (h6:v5=false) (h8:v7=false) (h10:v9=false) (h12:v11=false) (h14:v13=true) (h17:v16=true) (h19:v18=false):Fun (KN w0) Tryd.prog 58 [.o (.g [pI e.op,pI e.n,pLs cE e.l]),.o (.c (pI a))] (.o (.c (pV (.int .i64 4)))):=
 zi (zk (F:=FL [pI e.op,pI e.n,pLs cE e.l,pI a,pB v1,pB v3,pB v5,pB v7,pB v9,pB v11,pB v13,pI v15,pB v16,pB v18] []) (C:=[(1000004,.bin .eql 3 (yh 0) (LF (.k (.int .i64 1))) (yh 4)),
  (10004,.fb 4 false),
  (1000006,.bin .eql 3 (yh 0) (LF (.k (.int .i64 2))) (yh 5)),
  (10005,.fb 5 false),
  (1000008,.bin .eql 3 (yh 0) (LF (.k (.int .i64 3))) (yh 6)),
  (10006,.fb 6 false),
  (1000010,.bin .eql 3 (yh 0) (LF (.k (.int .i64 4))) (yh 7)),
  (10007,.fb 7 false),
  (1000012,.bin .eql 3 (yh 0) (LF (.k (.int .i64 5))) (yh 8)),
  (10008,.fb 8 false),
  (1000014,.bin .eql 3 (yh 0) (LF (.k (.int .i64 6))) (yh 9)),
  (10009,.fb 9 false),
  (1000016,.bin .eql 3 (yh 0) (LF (.k (.int .i64 7))) (yh 10)),
  (10010,.fb 10 true),
  (1000020,.op (.len [28] 3) [yh 2] [] (yh 11)),
  (1000021,.bin .eql 3 (yh 11) (LF (.k (.int .i64 2))) (yh 12)),
  (10012,.fb 12 true),
  (1000025,.bin .eql 3 (yh 1) (LF (.k (.int .i64 0))) (yh 13)),
  (10013,.fb 13 false)]) (k:=⟨58,[.o (.g [.h 0,.h 1,.h 2]),yh 3],[],.o (.c (.k (.int .i64 4))),[]⟩) 0 (zg ⟨za,za,(ze (zf rfl)),za,za,za,za,za,za,za,za,za,za,za,trivial⟩) ⟨e_bin (zb rfl) zd (zb rfl) (r_cmp (congrArg some e1)),
  e_fbv h2,
  e_bin (zb rfl) zd (zb rfl) (r_cmp (congrArg some e3)),
  e_fbv h4,
  e_bin (zb rfl) zd (zb rfl) (r_cmp (congrArg some e5)),
  e_fbv h6,
  e_bin (zb rfl) zd (zb rfl) (r_cmp (congrArg some e7)),
  e_fbv h8,
  e_bin (zb rfl) zd (zb rfl) (r_cmp (congrArg some e9)),
  e_fbv h10,
  e_bin (zb rfl) zd (zb rfl) (r_cmp (congrArg some e11)),
  e_fbv h12,
  e_bin (zb rfl) zd (zb rfl) (r_cmp (congrArg some e13)),
  e_fbv h14,
  zn (E:=31) (by kernel_rfl) (zc rfl) (zb (by rw [← e15];rfl)),
  e_bin (zb rfl) zd (zb rfl) (r_cmp (congrArg some e16)),
  e_fbv h17,
  e_bin (zb rfl) zd (zb rfl) (r_cmp (congrArg some e18)),
  e_fbv h19,
  trivial⟩ mixed (by kernel_rfl))
theorem zio {w0:World} (e:Xp) (a:Int) (v1:Bool) (v3:Bool) (v5:Bool) (v7:Bool) (v9:Bool) (v11:Bool) (v13:Bool) (v15:Int) (v16:Bool) (e1:((e.op == (1:Int)))=v1) (e3:((e.op == (2:Int)))=v3) (e5:((e.op == (3:Int)))=v5) (e7:((e.op == (4:Int)))=v7) (e9:((e.op == (5:Int)))=v9) (e11:((e.op == (6:Int)))=v11) (e13:((e.op == (7:Int)))=v13) (e15:((e.l.length:Int))=v15) (e16:((v15 == (2:Int)))=v16) (h2:v1=false) (h4:v3=false) (h6:v5=false) (h8:v7=false) (h10:v9=false) (h12:v11=false) (h14:v13=true) (h17:v16=false):Fun (KN w0) Tryd.prog 58 [.o (.g [pI e.op,pI e.n,pLs cE e.l]),.o (.c (pI a))] (.o (.c (pV (.int .i64 4)))):=
 zi (zk (F:=FL [pI e.op,pI e.n,pLs cE e.l,pI a,pB v1,pB v3,pB v5,pB v7,pB v9,pB v11,pB v13,pI v15,pB v16] []) (C:=[(1000004,.bin .eql 3 (yh 0) (LF (.k (.int .i64 1))) (yh 4)),
  (10004,.fb 4 false),
  (1000006,.bin .eql 3 (yh 0) (LF (.k (.int .i64 2))) (yh 5)),
  (10005,.fb 5 false),
  (1000008,.bin .eql 3 (yh 0) (LF (.k (.int .i64 3))) (yh 6)),
  (10006,.fb 6 false),
  (1000010,.bin .eql 3 (yh 0) (LF (.k (.int .i64 4))) (yh 7)),
  (10007,.fb 7 false),
  (1000012,.bin .eql 3 (yh 0) (LF (.k (.int .i64 5))) (yh 8)),
  (10008,.fb 8 false),
  (1000014,.bin .eql 3 (yh 0) (LF (.k (.int .i64 6))) (yh 9)),
  (10009,.fb 9 false),
  (1000016,.bin .eql 3 (yh 0) (LF (.k (.int .i64 7))) (yh 10)),
  (10010,.fb 10 true),
  (1000020,.op (.len [28] 3) [yh 2] [] (yh 11)),
  (1000021,.bin .eql 3 (yh 11) (LF (.k (.int .i64 2))) (yh 12)),
  (10012,.fb 12 false)]) (k:=⟨58,[.o (.g [.h 0,.h 1,.h 2]),yh 3],[],.o (.c (.k (.int .i64 4))),[]⟩) 0 (zg ⟨za,za,(ze (zf rfl)),za,za,za,za,za,za,za,za,za,za,trivial⟩) ⟨e_bin (zb rfl) zd (zb rfl) (r_cmp (congrArg some e1)),
  e_fbv h2,
  e_bin (zb rfl) zd (zb rfl) (r_cmp (congrArg some e3)),
  e_fbv h4,
  e_bin (zb rfl) zd (zb rfl) (r_cmp (congrArg some e5)),
  e_fbv h6,
  e_bin (zb rfl) zd (zb rfl) (r_cmp (congrArg some e7)),
  e_fbv h8,
  e_bin (zb rfl) zd (zb rfl) (r_cmp (congrArg some e9)),
  e_fbv h10,
  e_bin (zb rfl) zd (zb rfl) (r_cmp (congrArg some e11)),
  e_fbv h12,
  e_bin (zb rfl) zd (zb rfl) (r_cmp (congrArg some e13)),
  e_fbv h14,
  zn (E:=31) (by kernel_rfl) (zc rfl) (zb (by rw [← e15];rfl)),
  e_bin (zb rfl) zd (zb rfl) (r_cmp (congrArg some e16)),
  e_fbv h17,
  trivial⟩ mixed (by kernel_rfl))
theorem ziq {w0:World} (e:Xp) (a:Int) (v1:Bool) (v3:Bool) (v5:Bool) (v7:Bool) (v9:Bool) (v11:Bool) (v13:Bool) (e1:((e.op == (1:Int)))=v1) (e3:((e.op == (2:Int)))=v3) (e5:((e.op == (3:Int)))=v5) (e7:((e.op == (4:Int)))=v7) (e9:((e.op == (5:Int)))=v9) (e11:((e.op == (6:Int)))=v11) (e13:((e.op == (7:Int)))=v13) (h2:v1=false) (h4:v3=false) (h6:v5=false) (h8:v7=false) (h10:v9=false) (h12:v11=false) (h14:v13=false):Fun (KN w0) Tryd.prog 58 [.o (.g [pI e.op,pI e.n,pLs cE e.l]),.o (.c (pI a))] (.o (.c (pV (.int .i64 4)))):=
 zi (zk (F:=FL [pI e.op,pI e.n,pLs cE e.l,pI a,pB v1,pB v3,pB v5,pB v7,pB v9,pB v11,pB v13] []) (C:=[(1000004,.bin .eql 3 (yh 0) (LF (.k (.int .i64 1))) (yh 4)),
  (10004,.fb 4 false),
  (1000006,.bin .eql 3 (yh 0) (LF (.k (.int .i64 2))) (yh 5)),
  (10005,.fb 5 false),
  (1000008,.bin .eql 3 (yh 0) (LF (.k (.int .i64 3))) (yh 6)),
  (10006,.fb 6 false),
  (1000010,.bin .eql 3 (yh 0) (LF (.k (.int .i64 4))) (yh 7)),
  (10007,.fb 7 false),
  (1000012,.bin .eql 3 (yh 0) (LF (.k (.int .i64 5))) (yh 8)),
  (10008,.fb 8 false),
  (1000014,.bin .eql 3 (yh 0) (LF (.k (.int .i64 6))) (yh 9)),
  (10009,.fb 9 false),
  (1000016,.bin .eql 3 (yh 0) (LF (.k (.int .i64 7))) (yh 10)),
  (10010,.fb 10 false)]) (k:=⟨58,[.o (.g [.h 0,.h 1,.h 2]),yh 3],[],.o (.c (.k (.int .i64 4))),[]⟩) 0 (zg ⟨za,za,(ze (zf rfl)),za,za,za,za,za,za,za,za,trivial⟩) ⟨e_bin (zb rfl) zd (zb rfl) (r_cmp (congrArg some e1)),
  e_fbv h2,
  e_bin (zb rfl) zd (zb rfl) (r_cmp (congrArg some e3)),
  e_fbv h4,
  e_bin (zb rfl) zd (zb rfl) (r_cmp (congrArg some e5)),
  e_fbv h6,
  e_bin (zb rfl) zd (zb rfl) (r_cmp (congrArg some e7)),
  e_fbv h8,
  e_bin (zb rfl) zd (zb rfl) (r_cmp (congrArg some e9)),
  e_fbv h10,
  e_bin (zb rfl) zd (zb rfl) (r_cmp (congrArg some e11)),
  e_fbv h12,
  e_bin (zb rfl) zd (zb rfl) (r_cmp (congrArg some e13)),
  e_fbv h14,
  trivial⟩ mixed (by kernel_rfl))
theorem zoH {w0:World} (e:Xp) (a:Int) (r:Int) (hr:zp e.op e.n e.l.length a=r):Fun (KN w0) Tryd.prog 58 [.o (.g [pI e.op,pI e.n,pLs cE e.l]),.o (.c (pI a))] (.o (.c (pI r))):=by
 obtain ⟨v1,e1⟩:∃v,((e.op == (1:Int)))=v:=⟨_,rfl⟩
 cases h2:v1 with
 | true =>
  obtain ⟨v3,e3⟩:∃v,((e.l.length:Int))=v:=⟨_,rfl⟩
  obtain ⟨v4,e4⟩:∃v,(decide (v3 > (0:Int)))=v:=⟨_,rfl⟩
  cases h5:v4 with
  | true =>
   refine Fun.imp (zkI e a v1 v3 v4 e1 e3 e4 h2 h5) (fun _ _ _ h=>h) (fun v W D h=>?_)
   have r0:r=(4:Int):=by
    (have dh2:=eq_of_beq (e1.trans h2);have dh5:=of_decide_eq_true (e4.trans h5));rw [← hr];unfold zp;clear hr;(repeat' split)<;>first | rfl | omega | (exfalso;simp_all;done) | (exfalso;simp_all;omega)
   rw [r0];exact h
  | false =>
   obtain ⟨v6,e6⟩:∃v,(valB e.n)=v:=⟨_,rfl⟩
   obtain ⟨v7,e7⟩:∃v,(!v6)=v:=⟨_,rfl⟩
   cases h8:v7 with
   | true =>
    refine Fun.imp (zkJ e a v1 v3 v4 v6 v7 e1 e3 e4 e6 e7 h2 h5 h8) (fun _ _ _ h=>h) (fun v W D h=>?_)
    have r0:r=(3:Int):=by
     (have dh2:=eq_of_beq (e1.trans h2);have dh5:=of_decide_eq_false (e4.trans h5));rw [← hr];unfold zp;clear hr;(repeat' split)<;>first | rfl | omega | (exfalso;simp_all;done) | (exfalso;simp_all;omega)
    rw [r0];exact h
   | false =>
    refine Fun.imp (zkK e a v1 v3 v4 v6 v7 e1 e3 e4 e6 e7 h2 h5 h8) (fun _ _ _ h=>h) (fun v W D h=>?_)
    have r0:r=(0:Int):=by
     (have dh2:=eq_of_beq (e1.trans h2);have dh5:=of_decide_eq_false (e4.trans h5));rw [← hr];unfold zp;clear hr;(repeat' split)<;>first | rfl | omega | (exfalso;simp_all;done) | (exfalso;simp_all;omega)
    rw [r0];exact h
 | false =>
  obtain ⟨v3,e3⟩:∃v,((e.op == (2:Int)))=v:=⟨_,rfl⟩
  cases h4:v3 with
  | true =>
   obtain ⟨v5,e5⟩:∃v,((e.l.length:Int))=v:=⟨_,rfl⟩
   obtain ⟨v6,e6⟩:∃v,(decide (v5 > (0:Int)))=v:=⟨_,rfl⟩
   cases h7:v6 with
   | true =>
    refine Fun.imp (zkL e a v1 v3 v5 v6 e1 e3 e5 e6 h2 h4 h7) (fun _ _ _ h=>h) (fun v W D h=>?_)
    have r0:r=(4:Int):=by
     (have dh2:=ne_of_beq_false (e1.trans h2);have dh4:=eq_of_beq (e3.trans h4);have dh7:=of_decide_eq_true (e6.trans h7));rw [← hr];unfold zp;clear hr;(repeat' split)<;>first | rfl | omega | (exfalso;simp_all;done) | (exfalso;simp_all;omega)
    rw [r0];exact h
   | false =>
    obtain ⟨v8,e8⟩:∃v,(decide (e.n<(0:Int)))=v:=⟨_,rfl⟩
    cases h9:v8 with
    | true =>
     refine Fun.imp (zkM e a v1 v3 v5 v6 v8 e1 e3 e5 e6 e8 h2 h4 h7 h9) (fun _ _ _ h=>h) (fun v W D h=>?_)
     have r0:r=(1:Int):=by
      (have dh2:=ne_of_beq_false (e1.trans h2);have dh4:=eq_of_beq (e3.trans h4);have dh7:=of_decide_eq_false (e6.trans h7);have dh9:=of_decide_eq_true (e8.trans h9));rw [← hr];unfold zp;clear hr;(repeat' split)<;>first | rfl | omega | (exfalso;simp_all;done) | (exfalso;simp_all;omega)
     rw [r0];exact h
    | false =>
     obtain ⟨v10,e10⟩:∃v,(decide (e.n ≥ (4:Int)))=v:=⟨_,rfl⟩
     cases h11:v10 with
     | true =>
      refine Fun.imp (zkN e a v1 v3 v5 v6 v8 v10 e1 e3 e5 e6 e8 e10 h2 h4 h7 h9 h11) (fun _ _ _ h=>h) (fun v W D h=>?_)
      have r0:r=(1:Int):=by
       (have dh2:=ne_of_beq_false (e1.trans h2);have dh4:=eq_of_beq (e3.trans h4);have dh7:=of_decide_eq_false (e6.trans h7);have dh9:=of_decide_eq_false (e8.trans h9);have dh11:=of_decide_eq_true (e10.trans h11));rw [← hr];unfold zp;clear hr;(repeat' split)<;>first | rfl | omega | (exfalso;simp_all;done) | (exfalso;simp_all;omega)
      rw [r0];exact h
     | false =>
      obtain ⟨v12,e12⟩:∃v,(decide (e.n ≥ a))=v:=⟨_,rfl⟩
      cases h13:v12 with
      | true =>
       refine Fun.imp (zkO e a v1 v3 v5 v6 v8 v10 v12 e1 e3 e5 e6 e8 e10 e12 h2 h4 h7 h9 h11 h13) (fun _ _ _ h=>h) (fun v W D h=>?_)
       have r0:r=(1:Int):=by
        (have dh2:=ne_of_beq_false (e1.trans h2);have dh4:=eq_of_beq (e3.trans h4);have dh7:=of_decide_eq_false (e6.trans h7);have dh9:=of_decide_eq_false (e8.trans h9);have dh11:=of_decide_eq_false (e10.trans h11);have dh13:=of_decide_eq_true (e12.trans h13));rw [← hr];unfold zp;clear hr;(repeat' split)<;>first | rfl | omega | (exfalso;simp_all;done) | (exfalso;simp_all;omega)
       rw [r0];exact h
      | false =>
       refine Fun.imp (zkP e a v1 v3 v5 v6 v8 v10 v12 e1 e3 e5 e6 e8 e10 e12 h2 h4 h7 h9 h11 h13) (fun _ _ _ h=>h) (fun v W D h=>?_)
       have r0:r=(0:Int):=by
        (have dh2:=ne_of_beq_false (e1.trans h2);have dh4:=eq_of_beq (e3.trans h4);have dh7:=of_decide_eq_false (e6.trans h7);have dh9:=of_decide_eq_false (e8.trans h9);have dh11:=of_decide_eq_false (e10.trans h11);have dh13:=of_decide_eq_false (e12.trans h13));rw [← hr];unfold zp;clear hr;(repeat' split)<;>first | rfl | omega | (exfalso;simp_all;done) | (exfalso;simp_all;omega)
       rw [r0];exact h
  | false =>
   obtain ⟨v5,e5⟩:∃v,((e.op == (3:Int)))=v:=⟨_,rfl⟩
   cases h6:v5 with
   | true =>
    obtain ⟨v7,e7⟩:∃v,((e.l.length:Int))=v:=⟨_,rfl⟩
    obtain ⟨v8,e8⟩:∃v,((v7 == (2:Int)))=v:=⟨_,rfl⟩
    cases h9:v8 with
    | true =>
     obtain ⟨v10,e10⟩:∃v,((e.n == (0:Int)))=v:=⟨_,rfl⟩
     cases h11:v10 with
     | true =>
      refine Fun.imp (zkQ e a v1 v3 v5 v7 v8 v10 e1 e3 e5 e7 e8 e10 h2 h4 h6 h9 h11) (fun _ _ _ h=>h) (fun v W D h=>?_)
      have r0:r=(0:Int):=by
       (have dh2:=ne_of_beq_false (e1.trans h2);have dh4:=ne_of_beq_false (e3.trans h4);have dh6:=eq_of_beq (e5.trans h6);have dh9:=eq_of_beq (e8.trans h9);have dh11:=eq_of_beq (e10.trans h11));rw [← hr];unfold zp;clear hr;(repeat' split)<;>first | rfl | omega | (exfalso;simp_all;done) | (exfalso;simp_all;omega)
      rw [r0];exact h
     | false =>
      refine Fun.imp (zkR e a v1 v3 v5 v7 v8 v10 e1 e3 e5 e7 e8 e10 h2 h4 h6 h9 h11) (fun _ _ _ h=>h) (fun v W D h=>?_)
      have r0:r=(4:Int):=by
       (have dh2:=ne_of_beq_false (e1.trans h2);have dh4:=ne_of_beq_false (e3.trans h4);have dh6:=eq_of_beq (e5.trans h6);have dh9:=eq_of_beq (e8.trans h9);have dh11:=ne_of_beq_false (e10.trans h11));rw [← hr];unfold zp;clear hr;(repeat' split)<;>first | rfl | omega | (exfalso;simp_all;done) | (exfalso;simp_all;omega)
      rw [r0];exact h
    | false =>
     refine Fun.imp (zic e a v1 v3 v5 v7 v8 e1 e3 e5 e7 e8 h2 h4 h6 h9) (fun _ _ _ h=>h) (fun v W D h=>?_)
     have r0:r=(4:Int):=by
      (have dh2:=ne_of_beq_false (e1.trans h2);have dh4:=ne_of_beq_false (e3.trans h4);have dh6:=eq_of_beq (e5.trans h6);have dh9:=ne_of_beq_false (e8.trans h9));rw [← hr];unfold zp;clear hr;(repeat' split)<;>first | rfl | omega | (exfalso;simp_all;done) | (exfalso;simp_all;omega)
     rw [r0];exact h
   | false =>
    obtain ⟨v7,e7⟩:∃v,((e.op == (4:Int)))=v:=⟨_,rfl⟩
    cases h8:v7 with
    | true =>
     obtain ⟨v9,e9⟩:∃v,((e.l.length:Int))=v:=⟨_,rfl⟩
     obtain ⟨v10,e10⟩:∃v,((v9 == (2:Int)))=v:=⟨_,rfl⟩
     cases h11:v10 with
     | true =>
      obtain ⟨v12,e12⟩:∃v,((e.n == (0:Int)))=v:=⟨_,rfl⟩
      cases h13:v12 with
      | true =>
       refine Fun.imp (zid e a v1 v3 v5 v7 v9 v10 v12 e1 e3 e5 e7 e9 e10 e12 h2 h4 h6 h8 h11 h13) (fun _ _ _ h=>h) (fun v W D h=>?_)
       have r0:r=(0:Int):=by
        (have dh2:=ne_of_beq_false (e1.trans h2);have dh4:=ne_of_beq_false (e3.trans h4);have dh6:=ne_of_beq_false (e5.trans h6);have dh8:=eq_of_beq (e7.trans h8);have dh11:=eq_of_beq (e10.trans h11);have dh13:=eq_of_beq (e12.trans h13));rw [← hr];unfold zp;clear hr;(repeat' split)<;>first | rfl | omega | (exfalso;simp_all;done) | (exfalso;simp_all;omega)
       rw [r0];exact h
      | false =>
       refine Fun.imp (zie e a v1 v3 v5 v7 v9 v10 v12 e1 e3 e5 e7 e9 e10 e12 h2 h4 h6 h8 h11 h13) (fun _ _ _ h=>h) (fun v W D h=>?_)
       have r0:r=(4:Int):=by
        (have dh2:=ne_of_beq_false (e1.trans h2);have dh4:=ne_of_beq_false (e3.trans h4);have dh6:=ne_of_beq_false (e5.trans h6);have dh8:=eq_of_beq (e7.trans h8);have dh11:=eq_of_beq (e10.trans h11);have dh13:=ne_of_beq_false (e12.trans h13));rw [← hr];unfold zp;clear hr;(repeat' split)<;>first | rfl | omega | (exfalso;simp_all;done) | (exfalso;simp_all;omega)
       rw [r0];exact h
     | false =>
      refine Fun.imp (zif e a v1 v3 v5 v7 v9 v10 e1 e3 e5 e7 e9 e10 h2 h4 h6 h8 h11) (fun _ _ _ h=>h) (fun v W D h=>?_)
      have r0:r=(4:Int):=by
       (have dh2:=ne_of_beq_false (e1.trans h2);have dh4:=ne_of_beq_false (e3.trans h4);have dh6:=ne_of_beq_false (e5.trans h6);have dh8:=eq_of_beq (e7.trans h8);have dh11:=ne_of_beq_false (e10.trans h11));rw [← hr];unfold zp;clear hr;(repeat' split)<;>first | rfl | omega | (exfalso;simp_all;done) | (exfalso;simp_all;omega)
      rw [r0];exact h
    | false =>
     obtain ⟨v9,e9⟩:∃v,((e.op == (5:Int)))=v:=⟨_,rfl⟩
     cases h10:v9 with
     | true =>
      obtain ⟨v11,e11⟩:∃v,((e.l.length:Int))=v:=⟨_,rfl⟩
      obtain ⟨v12,e12⟩:∃v,((v11 == (2:Int)))=v:=⟨_,rfl⟩
      cases h13:v12 with
      | true =>
       obtain ⟨v14,e14⟩:∃v,((e.n == (0:Int)))=v:=⟨_,rfl⟩
       cases h15:v14 with
       | true =>
        refine Fun.imp (zig e a v1 v3 v5 v7 v9 v11 v12 v14 e1 e3 e5 e7 e9 e11 e12 e14 h2 h4 h6 h8 h10 h13 h15) (fun _ _ _ h=>h) (fun v W D h=>?_)
        have r0:r=(0:Int):=by
         (have dh2:=ne_of_beq_false (e1.trans h2);have dh4:=ne_of_beq_false (e3.trans h4);have dh6:=ne_of_beq_false (e5.trans h6);have dh8:=ne_of_beq_false (e7.trans h8);have dh10:=eq_of_beq (e9.trans h10);have dh13:=eq_of_beq (e12.trans h13);have dh15:=eq_of_beq (e14.trans h15));rw [← hr];unfold zp;clear hr;(repeat' split)<;>first | rfl | omega | (exfalso;simp_all;done) | (exfalso;simp_all;omega)
        rw [r0];exact h
       | false =>
        refine Fun.imp (zih e a v1 v3 v5 v7 v9 v11 v12 v14 e1 e3 e5 e7 e9 e11 e12 e14 h2 h4 h6 h8 h10 h13 h15) (fun _ _ _ h=>h) (fun v W D h=>?_)
        have r0:r=(4:Int):=by
         (have dh2:=ne_of_beq_false (e1.trans h2);have dh4:=ne_of_beq_false (e3.trans h4);have dh6:=ne_of_beq_false (e5.trans h6);have dh8:=ne_of_beq_false (e7.trans h8);have dh10:=eq_of_beq (e9.trans h10);have dh13:=eq_of_beq (e12.trans h13);have dh15:=ne_of_beq_false (e14.trans h15));rw [← hr];unfold zp;clear hr;(repeat' split)<;>first | rfl | omega | (exfalso;simp_all;done) | (exfalso;simp_all;omega)
        rw [r0];exact h
      | false =>
       refine Fun.imp (zii e a v1 v3 v5 v7 v9 v11 v12 e1 e3 e5 e7 e9 e11 e12 h2 h4 h6 h8 h10 h13) (fun _ _ _ h=>h) (fun v W D h=>?_)
       have r0:r=(4:Int):=by
        (have dh2:=ne_of_beq_false (e1.trans h2);have dh4:=ne_of_beq_false (e3.trans h4);have dh6:=ne_of_beq_false (e5.trans h6);have dh8:=ne_of_beq_false (e7.trans h8);have dh10:=eq_of_beq (e9.trans h10);have dh13:=ne_of_beq_false (e12.trans h13));rw [← hr];unfold zp;clear hr;(repeat' split)<;>first | rfl | omega | (exfalso;simp_all;done) | (exfalso;simp_all;omega)
       rw [r0];exact h
     | false =>
      obtain ⟨v11,e11⟩:∃v,((e.op == (6:Int)))=v:=⟨_,rfl⟩
      cases h12:v11 with
      | true =>
       obtain ⟨v13,e13⟩:∃v,((e.l.length:Int))=v:=⟨_,rfl⟩
       obtain ⟨v14,e14⟩:∃v,((v13 == (2:Int)))=v:=⟨_,rfl⟩
       cases h15:v14 with
       | true =>
        obtain ⟨v16,e16⟩:∃v,((e.n == (0:Int)))=v:=⟨_,rfl⟩
        cases h17:v16 with
        | true =>
         refine Fun.imp (zij e a v1 v3 v5 v7 v9 v11 v13 v14 v16 e1 e3 e5 e7 e9 e11 e13 e14 e16 h2 h4 h6 h8 h10 h12 h15 h17) (fun _ _ _ h=>h) (fun v W D h=>?_)
         have r0:r=(0:Int):=by
          (have dh2:=ne_of_beq_false (e1.trans h2);have dh4:=ne_of_beq_false (e3.trans h4);have dh6:=ne_of_beq_false (e5.trans h6);have dh8:=ne_of_beq_false (e7.trans h8);have dh10:=ne_of_beq_false (e9.trans h10);have dh12:=eq_of_beq (e11.trans h12);have dh15:=eq_of_beq (e14.trans h15);have dh17:=eq_of_beq (e16.trans h17));rw [← hr];unfold zp;clear hr;(repeat' split)<;>first | rfl | omega | (exfalso;simp_all;done) | (exfalso;simp_all;omega)
         rw [r0];exact h
        | false =>
         refine Fun.imp (zik e a v1 v3 v5 v7 v9 v11 v13 v14 v16 e1 e3 e5 e7 e9 e11 e13 e14 e16 h2 h4 h6 h8 h10 h12 h15 h17) (fun _ _ _ h=>h) (fun v W D h=>?_)
         have r0:r=(4:Int):=by
          (have dh2:=ne_of_beq_false (e1.trans h2);have dh4:=ne_of_beq_false (e3.trans h4);have dh6:=ne_of_beq_false (e5.trans h6);have dh8:=ne_of_beq_false (e7.trans h8);have dh10:=ne_of_beq_false (e9.trans h10);have dh12:=eq_of_beq (e11.trans h12);have dh15:=eq_of_beq (e14.trans h15);have dh17:=ne_of_beq_false (e16.trans h17));rw [← hr];unfold zp;clear hr;(repeat' split)<;>first | rfl | omega | (exfalso;simp_all;done) | (exfalso;simp_all;omega)
         rw [r0];exact h
       | false =>
        refine Fun.imp (zil e a v1 v3 v5 v7 v9 v11 v13 v14 e1 e3 e5 e7 e9 e11 e13 e14 h2 h4 h6 h8 h10 h12 h15) (fun _ _ _ h=>h) (fun v W D h=>?_)
        have r0:r=(4:Int):=by
         (have dh2:=ne_of_beq_false (e1.trans h2);have dh4:=ne_of_beq_false (e3.trans h4);have dh6:=ne_of_beq_false (e5.trans h6);have dh8:=ne_of_beq_false (e7.trans h8);have dh10:=ne_of_beq_false (e9.trans h10);have dh12:=eq_of_beq (e11.trans h12);have dh15:=ne_of_beq_false (e14.trans h15));rw [← hr];unfold zp;clear hr;(repeat' split)<;>first | rfl | omega | (exfalso;simp_all;done) | (exfalso;simp_all;omega)
        rw [r0];exact h
      | false =>
       obtain ⟨v13,e13⟩:∃v,((e.op == (7:Int)))=v:=⟨_,rfl⟩
       cases h14:v13 with
       | true =>
        obtain ⟨v15,e15⟩:∃v,((e.l.length:Int))=v:=⟨_,rfl⟩
        obtain ⟨v16,e16⟩:∃v,((v15 == (2:Int)))=v:=⟨_,rfl⟩
        cases h17:v16 with
        | true =>
         obtain ⟨v18,e18⟩:∃v,((e.n == (0:Int)))=v:=⟨_,rfl⟩
         cases h19:v18 with
         | true =>
          refine Fun.imp (zim e a v1 v3 v5 v7 v9 v11 v13 v15 v16 v18 e1 e3 e5 e7 e9 e11 e13 e15 e16 e18 h2 h4 h6 h8 h10 h12 h14 h17 h19) (fun _ _ _ h=>h) (fun v W D h=>?_)
          have r0:r=(0:Int):=by
           (have dh2:=ne_of_beq_false (e1.trans h2);have dh4:=ne_of_beq_false (e3.trans h4);have dh6:=ne_of_beq_false (e5.trans h6);have dh8:=ne_of_beq_false (e7.trans h8);have dh10:=ne_of_beq_false (e9.trans h10);have dh12:=ne_of_beq_false (e11.trans h12);have dh14:=eq_of_beq (e13.trans h14);have dh17:=eq_of_beq (e16.trans h17);have dh19:=eq_of_beq (e18.trans h19));rw [← hr];unfold zp;clear hr;(repeat' split)<;>first | rfl | omega | (exfalso;simp_all;done) | (exfalso;simp_all;omega)
          rw [r0];exact h
         | false =>
          refine Fun.imp (zin e a v1 v3 v5 v7 v9 v11 v13 v15 v16 v18 e1 e3 e5 e7 e9 e11 e13 e15 e16 e18 h2 h4 h6 h8 h10 h12 h14 h17 h19) (fun _ _ _ h=>h) (fun v W D h=>?_)
          have r0:r=(4:Int):=by
           (have dh2:=ne_of_beq_false (e1.trans h2);have dh4:=ne_of_beq_false (e3.trans h4);have dh6:=ne_of_beq_false (e5.trans h6);have dh8:=ne_of_beq_false (e7.trans h8);have dh10:=ne_of_beq_false (e9.trans h10);have dh12:=ne_of_beq_false (e11.trans h12);have dh14:=eq_of_beq (e13.trans h14);have dh17:=eq_of_beq (e16.trans h17);have dh19:=ne_of_beq_false (e18.trans h19));rw [← hr];unfold zp;clear hr;(repeat' split)<;>first | rfl | omega | (exfalso;simp_all;done) | (exfalso;simp_all;omega)
          rw [r0];exact h
        | false =>
         refine Fun.imp (zio e a v1 v3 v5 v7 v9 v11 v13 v15 v16 e1 e3 e5 e7 e9 e11 e13 e15 e16 h2 h4 h6 h8 h10 h12 h14 h17) (fun _ _ _ h=>h) (fun v W D h=>?_)
         have r0:r=(4:Int):=by
          (have dh2:=ne_of_beq_false (e1.trans h2);have dh4:=ne_of_beq_false (e3.trans h4);have dh6:=ne_of_beq_false (e5.trans h6);have dh8:=ne_of_beq_false (e7.trans h8);have dh10:=ne_of_beq_false (e9.trans h10);have dh12:=ne_of_beq_false (e11.trans h12);have dh14:=eq_of_beq (e13.trans h14);have dh17:=ne_of_beq_false (e16.trans h17));rw [← hr];unfold zp;clear hr;(repeat' split)<;>first | rfl | omega | (exfalso;simp_all;done) | (exfalso;simp_all;omega)
         rw [r0];exact h
       | false =>
        refine Fun.imp (ziq e a v1 v3 v5 v7 v9 v11 v13 e1 e3 e5 e7 e9 e11 e13 h2 h4 h6 h8 h10 h12 h14) (fun _ _ _ h=>h) (fun v W D h=>?_)
        have r0:r=(4:Int):=by
         (have dh2:=ne_of_beq_false (e1.trans h2);have dh4:=ne_of_beq_false (e3.trans h4);have dh6:=ne_of_beq_false (e5.trans h6);have dh8:=ne_of_beq_false (e7.trans h8);have dh10:=ne_of_beq_false (e9.trans h10);have dh12:=ne_of_beq_false (e11.trans h12);have dh14:=ne_of_beq_false (e13.trans h14));rw [← hr];unfold zp;clear hr;(repeat' split)<;>first | rfl | omega | (exfalso;simp_all;done) | (exfalso;simp_all;omega)
        rw [r0];exact h
end Go.Proofs.YtdkofaajcpcjkaaDoor
