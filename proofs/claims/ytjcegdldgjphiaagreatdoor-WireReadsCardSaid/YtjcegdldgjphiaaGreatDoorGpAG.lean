/-
  Merged: NumJ, NumK.
-/
import Derived.Test.YtjcegdldgjphiaaGreatDoorGpAF
import Derived.Deep.DeepCutAuto
set_option linter.unusedSimpArgs false
set_option linter.unusedVariables false
set_option maxRecDepth 100000
set_option maxHeartbeats 2000000
namespace Go.Proofs.YtjcegdldgjphiaaGreatDoor
open Go.RowKit Go.Shelf
def msL (cy g d:Nat):Nat:=(cy+g*d)%4294967296
def msH (cy g d:Nat):Nat:=(cy+g*d) / 4294967296
theorem zoV {cy g d:Nat} (h1:cy<4294967296) (hx:g<4294967296) (hy:d<4294967296):msL cy g d+4294967296*msH cy g d=cy+g*d∧msL cy g d<4294967296∧msH cy g d<4294967296:=by
 have:=zda hx hy
 unfold msL msH
 omega
theorem zmn (c:Nat) (hc:c<18446744073709551616):bits .and .u64 (c:Int) 4294967295=((c%4294967296:Nat):Int):=by
 have hx:c &&& 4294967295<2 ^ 64:=Nat.and_lt_two_pow _ (by omega)
 show IntKind.u64.wrap ((BitVec.ofInt 64 (c:Int) &&& BitVec.ofInt 64 ((4294967295:Nat):Int)).toNat:Int)=_
 rw [BitVec.toNat_and,zg7 c hc,zg7 4294967295 (by omega),IntKind.wrap_u64]
 have:=Nat.and_two_pow_sub_one_eq_mod c 32
 simp only [Nat.reducePow,Nat.reduceSub] at this
 rw [this]
 omega
theorem sub64 {a y b:Nat} (ha:a<4294967296) (hy:y<4294967296) (hb:b≤1) :
  IntKind.u64.wrap (IntKind.u64.wrap ((a:Int) - y) - b)%4294967296=((sbD a y b:Nat):Int)∧IntKind.u64.wrap (IntKind.u64.wrap ((a:Int) - y) - b) / 9223372036854775808=((sbB a y b:Nat):Int):=by
 rw [IntKind.wrap_u64,IntKind.wrap_u64]
 unfold sbD sbB
 split<;>omega
theorem zvt {cy g d a b:Nat} (h1:cy<4294967296) (hx:g<4294967296) (hy:d<4294967296) (ha:a<4294967296) (hb:b≤1) :
  IntKind.u64.wrap (IntKind.u64.wrap ((a:Int) - bits .and .u64 (IntKind.u64.wrap (↑cy+IntKind.u64.wrap (↑g * ↑d))) 4294967295) - b)%4294967296=((sbD a (msL cy g d) b:Nat):Int) ∧
   IntKind.u64.wrap (IntKind.u64.wrap ((a:Int) - bits .and .u64 (IntKind.u64.wrap (↑cy+IntKind.u64.wrap (↑g * ↑d))) 4294967295) - b) / 9223372036854775808=((sbB a (msL cy g d) b:Nat):Int) ∧
   IntKind.u64.wrap (↑cy+IntKind.u64.wrap (↑g * ↑d)) / 4294967296=((msH cy g d:Nat):Int):=by
 have h:=zda hx hy
 have e:IntKind.u64.wrap (↑cy+IntKind.u64.wrap (↑g * ↑d))=((cy+g*d:Nat):Int):=by
  have e:(g:Int)*d=((g*d:Nat):Int):=by simp
  rw [e,IntKind.wrap_u64,IntKind.wrap_u64]
  generalize g*d=z at *
  omega
 rw [e,zmn _ (by omega)]
 have s:=zoV h1 hx hy
 have t:=sub64 ha s.2.1 hb
 refine ⟨t.1,t.2,?_⟩
 unfold msH
 omega
theorem zks {L R c b P P' a d g m cl ch bo:Nat} (hp:P'=P*4294967296) (h:L+P*(c+b)=R+g*m) (h1:cl+4294967296*ch=c+g*d) {x:Nat} (h2:x+cl+b=a+4294967296*bo) :
  (L+P*a)+P'*(ch+bo)=(R+P*x)+g*(m+P*d):=by
 have e1:P*(cl+4294967296*ch)=P*(c+g*d):=by rw [h1]
 have e2:P*(x+cl+b)=P*(a+4294967296*bo):=by rw [h2]
 have e3:g*(P*d)=P*(g*d):=Nat.mul_left_comm _ _ _
 simp only [Nat.mul_add,← Nat.mul_assoc] at e1 e2 e3 h ⊢
 subst hp
 omega
theorem zq6 {n g:Nat} {u v:List Nat} (hu:u.length=n+2) (hv:v.length=n+1) (du:Dig u)
  (h:(dg u (n+1)*4294967296+dg u n)+1≤(g+1)*dg v n):nval u<(g+1)*nval v:=by
 have e1:=zA u (n+1)
 have e2:=zA u n
 rw [List.take_of_length_le (by omega)] at e1
 have e3:=zA v n
 rw [List.take_of_length_le (by omega)] at e3
 have e4:=qH (zaV du n)
 rw [List.length_take,Nat.min_eq_left (by omega)] at e4
 have h2:4294967296 ^ n*((dg u (n+1)*4294967296+dg u n)+1)≤4294967296 ^ n*((g+1)*dg v n):=Nat.mul_le_mul_left _ h
 rw [e1,e2,e3,Nat.pow_succ]
 have e5:4294967296 ^ n*((g+1)*dg v n)=(g+1)*(4294967296 ^ n*dg v n):=Nat.mul_left_comm _ _ _
 rw [e5] at h2
 have e6:4294967296 ^ n*((dg u (n+1)*4294967296+dg u n)+1)=4294967296 ^ n*dg u n+4294967296 ^ n*4294967296*dg u (n+1)+4294967296 ^ n:=by
  rw [Nat.mul_add,Nat.mul_add,Nat.mul_one,Nat.mul_assoc,Nat.mul_comm (dg u (n+1))];omega
 rw [e6] at h2
 rw [Nat.mul_add (g+1)]
 omega
end Go.Proofs.YtjcegdldgjphiaaGreatDoor
namespace Go.Proofs.YtjcegdldgjphiaaGreatDoor
open Go.RowKit Go.Shelf
theorem zvf {p u s:List Nat} {off k:Nat} (hp:p.length=off) (hk:k<u.length):dg (p++u++s) (off+k)=dg u k:=by
 subst hp
 rw [zb2 (by simp;omega),zb2 hk,List.getElem_append_left (by simp;omega),List.getElem_append_right (by omega)]
 simp
theorem zwr {p u s:List Nat} {off k d:Nat} (hp:p.length=off) (hk:k<u.length):(p++u++s).set (off+k) d=p++u.set k d++s:=by
 subst hp
 rw [List.set_append_left _ _ (by simp;omega),List.set_append_right _ _ (by omega)]
 simp
theorem DBk.mid {w:World} {g T off k:Nat} {p u s:List Nat} (h:DBk w g T (p++u++s)) (hp:p.length=off) (hk:k<u.length):w.cell? ⟨g,off+k,none⟩=some (.int .u32 (dg u k:Nat)):=by
 rw [← zvf hp hk];exact h.cell (by simp;omega)
theorem DBk.set_mid {w:World} {g T off k:Nat} {p u s:List Nat} (h:DBk w g T (p++u++s)) (hp:p.length=off) (hk:k<u.length) (d:Nat):DBk (w.setCell ⟨g,off+k,none⟩ (.int .u32 (d:Int))) g T (p++u.set k d++s):=by
 rw [← Go.Proofs.YtjcegdldgjphiaaGreatDoor.zwr hp hk];exact h.set _ _
theorem zkA {P:Program} {f:FuncId} {args:Array Value} {w:World} {a n:Nat} {v:Value}
  (h:Calls P f args (w.drewN (a+n)) fun e w'=>e=.returned v∧∃m,w'=(w.drewN (a+n)).drewN m) :
  Calls P f args (w.drewN (a+n)) fun e w''=>e=.returned v∧∃m,w''=w.drewN (a+m):=
 h.mono fun _ _ ⟨he,m,hm⟩=>⟨he,n+m,by rw [hm,World.drewN_drewN,Nat.add_assoc]⟩
def znX (gu:Nat) (p u s v:List Nat) (w:World) (e:Ending) (w':World):Prop:=
 ∃(g:Nat) (u':List Nat),e=.returned (.int .u32 (g:Nat))∧g<4294967296∧u'.length=u.length∧Dig u'∧DBk w' gu 123 (p++u'++s)∧w.grownBy w' (some gu) ∧
  nval u=nval u'+g*nval v∧(nval u<nval v*4294967296→nval u'<nval v)
def StA (u v:List Nat) (g j c b:Nat) (u2:List Nat):Prop:=
 u2.length=u.length∧Dig u2∧nval (u.take j)+4294967296 ^ j*(c+b)=nval (u2.take j)+g*nval (v.take j)∧∀k,j≤k→dg u2 k=dg u k
theorem zrU {u v u2:List Nat} {g j c b:Nat} (h:StA u v g j c b u2) (hc:c<4294967296) (hb:b≤1) (hg:g<4294967296) (dv:Dig v) (hj:j<u.length) :
  StA u v g (j+1) (msH c g (dg v j)) (sbB (dg u j) (msL c g (dg v j)) b) (u2.set j (sbD (dg u j) (msL c g (dg v j)) b))∧msH c g (dg v j)<4294967296∧sbB (dg u j) (msL c g (dg v j)) b≤1:=by
 obtain ⟨h1,h2,h3,h4⟩:=h
 have hd:=dg_lt dv j
 have hu:dg u j<4294967296:=by rw [← h4 j (Nat.le_refl _)];exact dg_lt h2 j
 have s1:=zoV hc hg hd
 have s2:=zpI hu s1.2.1 hb
 refine ⟨⟨by simpa using h1,qM h2 s2.2.1,?_,fun k hk=>by rw [za1 (by omega)];exact h4 k (by omega)⟩,s1.2.2,s2.2.2⟩
 rw [zA u,zA v,qe _ _ _ (by omega)]
 exact zks (Nat.pow_succ ..) h3 s1.1 s2.1
def StB (u v:List Nat) (n g neg:Nat) (u2:List Nat):Prop:=
 u2.length=n+2∧Dig u2∧nval u+4294967296 ^ (n+2)*neg=nval u2+g*nval v∧(nval u<nval v*4294967296→nval u<(g+1)*nval v)
theorem zuM {L R P P' c b x a s G:Nat} (hp:P'=P*4294967296) (h:L+P*(c+b)=R+G) (h2:x+c+b=a+4294967296*s):L+P*a+P'*s=R+P*x+G:=by
 have e:P*(x+c+b)=P*(a+4294967296*s):=by rw [h2]
 simp only [Nat.mul_add,← Nat.mul_assoc] at e h
 subst hp
 omega
theorem zv4 {u v u2:List Nat} {n g c b:Nat} (h:StA u v g (n+1) c b u2) (hc:c<4294967296) (hb:b≤1) (hu:u.length=n+2) (hv:v.length=n+1) (du:Dig u) (hg:nval u<nval v*4294967296→nval u<(g+1)*nval v) :
  StB u v n g (sbB (dg u (n+1)) c b) (u2.set (n+1) (sbD (dg u (n+1)) c b))∧sbB (dg u (n+1)) c b≤1:=by
 obtain ⟨h1,h2,h3,h4⟩:=h
 have s2:=zpI (dg_lt du (n+1)) hc hb
 refine ⟨⟨by simp;omega,qM h2 s2.2.1,?_,hg⟩,s2.2.2⟩
 have e1:=zA u (n+1)
 rw [List.take_of_length_le (by omega)] at e1
 have e2:=qe u2 (n+1) (sbD (dg u (n+1)) c b) (by omega)
 rw [List.take_of_length_le (by simp;omega)] at e2
 rw [List.take_of_length_le (l:=v) (by omega)] at h3
 rw [e1,e2]
 exact zuM (Nat.pow_succ ..) h3 s2.1
theorem zvv {c:Nat} (h:c≤1):((c:Int) == 0)=decide (0<1 - c):=by
 rcases Nat.eq_zero_or_pos c with h0 | h0
 ·subst h0;rfl
 ·have:c=1:=by omega
  subst this;rfl
def StC (u v:List Nat) (j c:Nat) (u2:List Nat):Prop:=
 u2.length=u.length∧Dig u2∧nval (u2.take j)+4294967296 ^ j*c=nval (u.take j)+nval (v.take j)∧∀k,j≤k→dg u2 k=dg u k
theorem zrW {u v u2:List Nat} {j c:Nat} (h:StC u v j c u2) (hc:c≤1) (dv:Dig v) (hj:j<u.length) :
  StC u v (j+1) (adC (dg u j) (dg v j) c) (u2.set j (adD (dg u j) (dg v j) c))∧adC (dg u j) (dg v j) c≤1:=by
 obtain ⟨h1,h2,h3,h4⟩:=h
 have hd:=dg_lt dv j
 have hu:dg u j<4294967296:=by rw [← h4 j (Nat.le_refl _)];exact dg_lt h2 j
 have s:=zdu hu hd hc
 refine ⟨⟨by simpa using h1,qM h2 s.2.1,?_,fun k hk=>by rw [za1 (by omega)];exact h4 k (by omega)⟩,s.2.2⟩
 rw [zA u,zA v,qe _ _ _ (by omega)]
 exact zeR (Nat.pow_succ ..) s.1 h3
theorem zuL {U L R V P P' c x a s G:Nat} (hp:P'=P*4294967296) (h:U+P'*1=L+P*a+(G+V)) (h2:R+P*c=L+V) (h3:x+4294967296*s=a+0+c) (hs:s≤1):U+P'*(1 - s)=R+P*x+G:=by
 have e:P*(x+4294967296*s)=P*(a+0+c):=by rw [h3]
 rw [Nat.mul_one] at h
 rcases Nat.eq_zero_or_pos s with h0 | h0
 ·subst h0
  simp only [Nat.mul_add,Nat.mul_zero,Nat.add_zero,Nat.sub_zero,Nat.mul_one] at e ⊢
  omega
 ·have h1:s=1:=by omega
  subst h1
  simp only [Nat.mul_add,Nat.mul_zero,Nat.add_zero,Nat.mul_one,Nat.sub_self] at e ⊢
  omega
theorem zuH {u v u2:List Nat} {n g:Nat} (h:StB u v n g 1 u2):1≤g:=by
 obtain ⟨h1,h2,h3,h4⟩:=h
 have l2:=qH h2
 rw [h1] at l2
 rcases Nat.eq_zero_or_pos g with h0 | h0
 ·subst h0;omega
 ·exact h0
theorem zrV {u v u2 u3:List Nat} {n g c:Nat} (h:StB u v n g 1 u2) (k:StC u2 v (n+1) c u3) (hc:c≤1) (hv:v.length=n+1) :
  1≤g∧StB u v n (g - 1) (1 - adC (dg u2 (n+1)) 0 c) (u3.set (n+1) (adD (dg u2 (n+1)) 0 c))∧adC (dg u2 (n+1)) 0 c≤1:=by
 obtain ⟨h1,h2,h3,h4⟩:=h
 obtain ⟨k1,k2,k3,k4⟩:=k
 have s:=zdu (dg_lt h2 (n+1)) (show 0<4294967296 by omega) hc
 have l2:=qH h2
 rw [h1] at l2
 have hg:1≤g:=by
  rcases Nat.eq_zero_or_pos g with h0 | h0
  ·subst h0;omega
  ·exact h0
 obtain ⟨g,rfl⟩:∃g',g=g'+1:=⟨g - 1,by omega⟩
 have e1:=zA u2 (n+1)
 rw [List.take_of_length_le (by omega)] at e1
 have e2:=qe u3 (n+1) (adD (dg u2 (n+1)) 0 c) (by omega)
 rw [List.take_of_length_le (by simp;omega)] at e2
 rw [List.take_of_length_le (l:=v) (by omega)] at k3
 have d3:Dig (u3.set (n+1) (adD (dg u2 (n+1)) 0 c)):=qM k2 s.2.1
 rw [Nat.add_mul,Nat.one_mul] at h3
 rw [e1] at h3
 refine ⟨hg,⟨by simp;omega,d3,?_,fun _=>?_⟩,s.2.2⟩
 ·rw [Nat.add_sub_cancel,e2]
  exact zuL (Nat.pow_succ ..) h3 k3 s.1 s.2.2
 ·rw [Nat.add_sub_cancel,Nat.add_mul,Nat.one_mul]
  rw [e1] at l2
  generalize 4294967296 ^ (n+2)=Q at *
  omega
theorem zuG {u v u2:List Nat} {n g:Nat} (h:StB u v n g 0 u2):nval u=nval u2+g*nval v∧(nval u<nval v*4294967296→nval u2<nval v):=by
 obtain ⟨h1,h2,h3,h4⟩:=h
 rw [Nat.mul_zero,Nat.add_zero] at h3
 refine ⟨h3,fun hlt=>?_⟩
 have:=h4 hlt
 rw [Nat.add_mul] at this
 omega
theorem zrY (gu gv off n cu cv:Nat) (p u s v:List Nat) (w:World) (hp:p.length=off) (hu:u.length=n+1+1) (hv:v.length=n+1) (du:Dig u) (dv:Dig v) (hU:DBk w gu 123 (p++u++s)) (hV:DBk w gv 123 v) (hg:gv≠gu) (hn:n≤1000) :
  Calls Tryz.prog 122 #[.slice (some ⟨gu,off,none⟩) (n+1+1) cu,.slice (some ⟨gv,0,none⟩) (n+1) cv] w (znX gu p u s v w):=by
 have c1:=hU.mid (k:=n+1) hp (by omega)
 have c2:=hU.mid (k:=n) hp (by omega)
 have c3:=hV.cell (k:=n) (by omega)
 have d1:=dg_lt du (n+1)
 have d2:=dg_lt du n
 have d3:=dg_lt dv n
 have HP:=Lib.hid hp
 have HU:=Lib.hid hu
 have HV:=Lib.hid hv
 clear hp hu hv
 go_enter Tryz.func122,Tryz.ntmps122
 go_wp2
 go_quiet (fail)
 go_upto_if 30 with (fail)
 go_cut [6] (fun g W=>∃(gs m:Nat),g=.int .u64 gs∧gs<4294967296∧W=w.drewN m∧Hid (nval u<nval v*4294967296→nval u<(gs+1)*nval v))
 case first =>
  by_cases hlt:dg u (n+1)<dg v n
  ·have s:=zj6 hlt d2
   have hG:Hid (nval u<nval v*4294967296→nval u<(dvQ (dg u (n+1)) (dg u n) (dg v n)+1)*nval v):=fun _=>zq6 HU.out HV.out du (by rw [Nat.add_mul,Nat.one_mul];omega)
   have hq:=s.2.1
   clear s
   go_wp2
   go_quiet ((go_at_call 123;exact zkA (zar _ _ _ _ hlt d2 d3)))
   go_wp2
   go_meet
   exact ⟨_,_,rfl,hq,rfl,hG⟩
  ·go_wp2
   go_meet
   exact ⟨4294967295,_,rfl,by omega,rfl,fun h=>by omega⟩
 case rest =>
  obtain ⟨gs,m,rfl,hgs,rfl,hG⟩:=hcut
  clear c1 c2 c3 d1 d2 d3
  go_wp2
  go_loopw [9,10,53] (fun cy bo k wr=>∃(j c b:Nat) (u2:List Nat),j≤n+1∧c<4294967296∧b≤1∧cy=.int .u64 c∧bo=.int .u64 b∧k=.int .i64 j∧Hid (StA u v gs j c b u2)∧DBk wr gu 123 (p++u2++s)∧DBk wr gv 123 v∧w.grownBy wr (some gu)) (fun _ _ k _=>n+1 - (intOf k).toNat)
  case atStart=>exact ⟨0,0,0,u,by omega,by omega,by omega,rfl,rfl,rfl,⟨rfl,du,by simp [nval],fun _ _=>rfl⟩,hU,hV,zmI (World.grownBy.refl w _) _⟩
  case round =>
   obtain ⟨j,c,b,u2,hj,hc,hb,rfl,rfl,rfl,hA,hU2,hV2,hW⟩:=hrel
   by_cases hlt:j<n+1
   ·have hl2:u2.length=n+1+1:=by rw [hA.out.1];exact HU.out
    have e1:=hU2.mid (k:=j) HP.out (by omega)
    have e2:=hV2.cell (k:=j) (by have:=HV.out;omega)
    have f1:=hU2.frozen (off+j)
    have hz:=hU2.lt
    rw [hA.out.2.2.2 j (Nat.le_refl _)] at e1
    have hda:dg u j<4294967296:=dg_lt du j
    have hdv:=dg_lt dv j
    obtain ⟨S1,S2,S3⟩:=zrU hA.out hc hb hgs dv (by have:=HU.out;omega)
    have HS:=Lib.hid S1
    have hU3:=hU2.set_mid HP.out (k:=j) (by omega) (sbD (dg u j) (msL c gs (dg v j)) b)
    have hV3:DBk (wr.setCell ⟨gu,off+j,none⟩ (.int .u32 (sbD (dg u j) (msL c gs (dg v j)) b:Nat))) gv 123 v:=hV2.far (p:=⟨gu,off+j,none⟩) hg _
    have hW3:=zbg hW (p:=⟨gu,off+j,none⟩) (.inl rfl) (.int .u32 (sbD (dg u j) (msL c gs (dg v j)) b:Nat))
    have E:=Lib.hid (zvt hc hgs hdv hda hb)
    clear S1 hl2 hA hU2 hV2 hW
    go_wp2
    rw [E.out.1,E.out.2.1,E.out.2.2]
    clear E
    go_roundw
    case rel=>exact ⟨j+1,_,_,_,by omega,S2,S3,rfl,rfl,by go_num,HS,hU3,hV3,hW3⟩
    case measure=>simp [intOf];omega
   ·have hjn:j=n+1:=by omega
    subst hjn
    have e53:((n+1:Nat):Int)=(n:Int)+1:=rfl
    rw [e53]
    clear e53
    have hl2:u2.length=n+1+1:=by rw [hA.out.1];exact HU.out
    have e1:=hU2.mid (k:=n+1) HP.out (by omega)
    have f1:=hU2.frozen (off+(n+1))
    have hz:=hU2.lt
    rw [hA.out.2.2.2 (n+1) (Nat.le_refl _)] at e1
    have E:=Lib.hid (sub64 (dg_lt du (n+1)) hc hb)
    obtain ⟨S1,S2⟩:=zv4 hA.out hc hb HU.out HV.out du hG.out
    have HS:=Lib.hid S1
    have hU3:=hU2.set_mid HP.out (k:=n+1) (by omega) (sbD (dg u (n+1)) c b)
    have hV3:DBk (wr.setCell ⟨gu,off+(n+1),none⟩ (.int .u32 (sbD (dg u (n+1)) c b:Nat))) gv 123 v:=hV2.far (p:=⟨gu,off+(n+1),none⟩) hg _
    have hW3:=zbg hW (p:=⟨gu,off+(n+1),none⟩) (.inl rfl) (.int .u32 (sbD (dg u (n+1)) c b:Nat))
    have hda:=dg_lt du (n+1)
    clear S1 hl2 hA hU2 hV2 hW
    go_wp2
    rw [E.out.1,E.out.2]
    clear E
    simp only [Int.natCast_pos]
    go_loopw [6,15] (fun g ng wr=>∃(gq neg:Nat) (u2:List Nat),g=.int .u64 gq∧ng=.bool (decide (0<neg))∧neg≤1∧gq<4294967296∧Hid (StB u v n gq neg u2)∧DBk wr gu 123 (p++u2++s)∧DBk wr gv 123 v∧w.grownBy wr (some gu)) (fun g _ _=>(intOf g).toNat)
    case atStart=>exact ⟨gs,_,_,rfl,rfl,S2,hgs,HS,hU3,hV3,hW3⟩
    case round =>
     obtain ⟨gq,neg,u2,rfl,rfl,hneg,hgq,hS,hU2,hV2,hW⟩:=hrel
     rcases Nat.eq_zero_or_pos neg with h0 | h0
     ·subst h0
      have hgm:(gq:Int)%4294967296=gq:=by omega
      have HE:=Lib.hid (zuG hS.out)
      go_wp2
      go_ret
      exact ⟨gq,u2,rfl,hgq,by rw [hS.out.1,HU.out],hS.out.2.1,hU2,hW,HE.out⟩
     ·obtain rfl:neg=1:=by omega
      rw [show decide (0<1)=true from rfl]
      have hgw:IntKind.u64.wrap ((gq:Int) - 1)=(gq:Int) - 1:=by
       have:=zuH hS.out
       rw [IntKind.wrap_u64];omega
      go_wp2
      obtain ⟨wo,hwo⟩:∃wo:World,wo=wr:=⟨_,rfl⟩
      subst hwo
      go_loopw [16,106] (fun c k wr=>∃(j cy:Nat) (u3:List Nat),j≤n+1∧cy≤1∧c=.int .u32 cy∧k=.int .i64 j∧Hid (StC u2 v j cy u3)∧DBk wr gu 123 (p++u3++s)∧DBk wr gv 123 v∧w.grownBy wr (some gu)) (fun _ k _=>n+1 - (intOf k).toNat)
      case atStart=>exact ⟨0,0,u2,by omega,by omega,rfl,rfl,⟨rfl,hS.out.2.1,by simp [nval],fun _ _=>rfl⟩,hU2,hV2,hW⟩
      case round =>
       obtain ⟨j,cy,u3,hj,hcy,rfl,rfl,hC,hU3,hV3,hW⟩:=hrel
       have hl3:u3.length=n+1+1:=by rw [hC.out.1,hS.out.1]
       have hz:=hU3.lt
       by_cases hlt:j<n+1
       ·have e1:=hU3.mid (k:=j) HP.out (by omega)
        have e2:=hV3.cell (k:=j) (by have:=HV.out;omega)
        have f1:=hU3.frozen (off+j)
        rw [hC.out.2.2.2 j (Nat.le_refl _)] at e1
        have hda:=dg_lt hS.out.2.1 j
        have hdv:=dg_lt dv j
        obtain ⟨S1,S2⟩:=zrW hC.out hcy dv (by have:=hS.out.1;omega)
        have HS:=Lib.hid S1
        have hU4:=hU3.set_mid HP.out (k:=j) (by omega) (adD (dg u2 j) (dg v j) cy)
        have hV4:DBk (wr.setCell ⟨gu,off+j,none⟩ (.int .u32 (adD (dg u2 j) (dg v j) cy:Nat))) gv 123 v:=hV3.far (p:=⟨gu,off+j,none⟩) hg _
        have hW4:=zbg hW (p:=⟨gu,off+j,none⟩) (.inl rfl) (.int .u32 (adD (dg u2 j) (dg v j) cy:Nat))
        clear S1 hl3 hC hU3 hV3 hW
        go_wp2_with (go_at_call 149;refine (zcr (dg u2 j) (dg v j) cy _ hda hdv hcy).mono ?_;rintro e w' ⟨rfl,rfl⟩)
        go_roundw
        case rel=>exact ⟨j+1,_,_,by omega,S2,rfl,by go_num,HS,hU4,hV4,hW4⟩
        case measure=>simp [intOf];omega
       ·obtain rfl:j=n+1:=by omega
        have e1:=hU3.mid (k:=n+1) HP.out (by omega)
        have f1:=hU3.frozen (off+(n+1))
        rw [hC.out.2.2.2 (n+1) (Nat.le_refl _)] at e1
        obtain ⟨S0,S1,S2⟩:=zrV hS.out hC.out hcy HV.out
        have HS:=Lib.hid S1
        have hda:=dg_lt hS.out.2.1 (n+1)
        have hU4:=hU3.set_mid HP.out (k:=n+1) (by omega) (adD (dg u2 (n+1)) 0 cy)
        have hV4:DBk (wr.setCell ⟨gu,off+(n+1),none⟩ (.int .u32 (adD (dg u2 (n+1)) 0 cy:Nat))) gv 123 v:=hV3.far (p:=⟨gu,off+(n+1),none⟩) hg _
        have hW4:=zbg hW (p:=⟨gu,off+(n+1),none⟩) (.inl rfl) (.int .u32 (adD (dg u2 (n+1)) 0 cy:Nat))
        have hne:=Lib.hid (zvv S2)
        clear S1 hl3 hC hU3 hV3 hW
        go_wp2_with (go_at_call 149;refine (zcr (dg u2 (n+1)) 0 cy _ hda (by omega) hcy).mono ?_;rintro e w' ⟨rfl,rfl⟩)
        go_roundw
        case rel=>exact ⟨gq - 1,_,_,by rw [Int.ofNat_sub S0];rfl,by rw [hne.out],by omega,by omega,HS,hU4,hV4,hW4⟩
        case measure=>simp [intOf];omega
end Go.Proofs.YtjcegdldgjphiaaGreatDoor
