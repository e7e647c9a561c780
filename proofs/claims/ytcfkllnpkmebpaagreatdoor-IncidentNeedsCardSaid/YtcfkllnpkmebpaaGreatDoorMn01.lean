/- The field of 256 elements, on bytes. -/
import Derived.Test.YtcfkllnpkmebpaaGreatDoorMh01
import Derived.Test.YtcfkllnpkmebpaaGreatDoorMh02
import Derived.Test.YtcfkllnpkmebpaaGreatDoorMh03
import Derived.Test.YtcfkllnpkmebpaaGreatDoorMh04
import Derived.Test.YtcfkllnpkmebpaaGreatDoorMh05
import Derived.Test.YtcfkllnpkmebpaaGreatDoorMh06
import Derived.Test.YtcfkllnpkmebpaaGreatDoorMh07
import Derived.Test.YtcfkllnpkmebpaaGreatDoorMh08
import Derived.Test.YtcfkllnpkmebpaaGreatDoorMh09
import Derived.Test.YtcfkllnpkmebpaaGreatDoorMh10
import Derived.Test.YtcfkllnpkmebpaaGreatDoorMh11
import Derived.Test.YtcfkllnpkmebpaaGreatDoorMh12
import Derived.Test.YtcfkllnpkmebpaaGreatDoorMh13
import Derived.Test.YtcfkllnpkmebpaaGreatDoorMh14
import Derived.Test.YtcfkllnpkmebpaaGreatDoorMh15
import Derived.Test.YtcfkllnpkmebpaaGreatDoorMh16
import Derived.Test.YtcfkllnpkmebpaaGreatDoorMh17
import Derived.Test.YtcfkllnpkmebpaaGreatDoorMh18
import Derived.Laws.BitsAllLaws
import Derived.IntWalk
import Derived.Test.YtcfkllnpkmebpaaGreatDoorRows
import Derived.ProofKit
import Derived.Deep.LoopGhost
import Derived.Deep.DeepCutAuto
import Derived.Deep.RegionHeld3
import Derived.Deep.RegionLaw
import Derived.StillTailTactics
import Derived.Laws.CopyOwn
set_option maxRecDepth 100000
set_option maxHeartbeats 12800000
namespace Go.Proofs.YtcfkllnpkmebpaaGreatDoor
theorem xor_self(a:UInt8):a ^^^ a=0:=UInt8.xor_self
theorem xor_eq_zero{a b:UInt8} (h:a ^^^ b=0):a=b:=by
 have:(a ^^^ b) ^^^ b=0 ^^^ b:=by rw[h]
 rwa [UInt8.xor_assoc,xor_self,xor_zero,zero_xor] at this
theorem xtK_xor(n:Nat) (a b:UInt8):xtK n (a ^^^ b)=xtK n a ^^^ xtK n b:=by
 induction n with
 | zero=>rfl
 | succ n ih=>show xt (xtK n (a ^^^ b))=xt (xtK n a) ^^^ xt (xtK n b);rw[ih,xt_xor]
theorem gm_left(n:Nat) (a a' b:UInt8):gm n (a ^^^ a') b=gm n a b ^^^ gm n a' b:=by
 induction n with
 | zero=>exact(xor_zero 0).symm
 | succ n ih =>
  show gm n (a ^^^ a') b ^^^ _=(gm n a b ^^^ _) ^^^ (gm n a' b ^^^ _)
  rw[ih,xtK_xor,xor4u]
  cases bitU b n <;> simp
theorem gmul_left(a a' b:UInt8):gmul (a ^^^ a') b=gmul a b ^^^ gmul a' b:=gm_left 8 a a' b
theorem one_gmul(a:UInt8):gmul 1 a=a:=by rw[gmul_comm,gmul_one]
theorem gen_255:xtK 255 1=1:=by decide +kernel
theorem xtK_255(a:UInt8):xtK 255 a=a:=by rw[←gmul_gen,gen_255,gmul_one]
theorem xtK_mul(j:Nat) (a:UInt8):xtK (j * 255) a=a:=by
 induction j with
 | zero=>rw[Nat.zero_mul];rfl
 | succ j ih=>rw[Nat.succ_mul,xtK_add,xtK_255,ih]
theorem gpow_gen(j n:Nat):gpow (xtK j 1) n=xtK (j * n) 1:=by
 induction n with
 | zero=>rfl
 | succ n ih=>show gmul (gpow (xtK j 1) n) (xtK j 1)=_;rw[ih,gmul_gen,←xtK_add,Nat.mul_succ,Nat.add_comm]
theorem gpow_add(a:UInt8) (m n:Nat):gpow a (m+n)=gmul (gpow a m) (gpow a n):=by
 induction n with
 | zero=>rw[Nat.add_zero];show _=gmul _ 1;rw[gmul_one]
 | succ n ih=>show gmul (gpow a (m+n)) a=gmul (gpow a m) (gmul (gpow a n) a);rw[ih,gmul_assoc]
theorem gpow_sq(a:UInt8) (n:Nat):gpow (gmul a a) n=gpow a (2 * n):=by
 induction n with
 | zero=>rfl
 | succ n ih =>
  show gmul (gpow (gmul a a) n) (gmul a a)=_
  rw[ih,show 2 * (n+1)=2 * n+1+1 from by omega]
  show _=gmul (gmul (gpow a (2 * n)) a) a
  rw[gmul_assoc]
theorem gmul_inv(a:UInt8) (h:a≠0):gmul a (ginv a)=1:=by
 obtain⟨j,rfl⟩:=gen_all a h
 unfold ginv
 rw[gpow_gen,gmul_gen,←xtK_add,Nat.add_comm (j * 254),Nat.add_comm j,←Nat.mul_succ]
 exact xtK_mul j 1
theorem gmul_eq_zero{a b:UInt8} (h:gmul a b=0):a=0∨b=0:=by
 by_cases ha:a=0
 ·exact .inl ha
 ·refine .inr ?_
  have e:gmul (ginv a) (gmul a b)=b:=by rw[←gmul_assoc,gmul_comm (ginv a),gmul_inv a ha,one_gmul]
  rw[←e,h,gmul_zero]
end Go.Proofs.YtcfkllnpkmebpaaGreatDoor

namespace Go.Proofs.YtcfkllnpkmebpaaGreatDoor
instance:Std.Associative gmul:=⟨gmul_assoc⟩
instance:Std.Commutative gmul:=⟨gmul_comm⟩
section
variable {α β : Type}
theorem lsum_congr{l:List α} {f g:α→UInt8} (h:∀a∈l,f a=g a):lsum l f=lsum l g:=by
 induction l with
 | nil=>rfl
 | cons a l ih=>rw[lsum_cons,lsum_cons,h a (by simp),ih (fun x hx=>h x (by simp[hx]))]
theorem lsum_zero{l:List α} {f:α→UInt8} (h:∀a∈l,f a=0):lsum l f=0:=by
 induction l with
 | nil=>rfl
 | cons a l ih=>rw[lsum_cons,h a (by simp),ih (fun x hx=>h x (by simp[hx])),xor_zero]
theorem lsum_xor(l:List α) (f g:α→UInt8):lsum l (fun a=>f a ^^^ g a)=lsum l f ^^^ lsum l g:=by
 induction l with
 | nil=>exact(xor_zero 0).symm
 | cons a l ih=>rw[lsum_cons,lsum_cons,lsum_cons,ih,xor4u]
theorem lsum_mul(c:UInt8) (l:List α) (f:α→UInt8):gmul c (lsum l f)=lsum l (fun a=>gmul c (f a)):=by
 induction l with
 | nil=>exact gmul_zero c
 | cons a l ih=>rw[lsum_cons,lsum_cons,gmul_right,ih]
theorem lsum_map(g:α→β) (l:List α) (f:β→UInt8):lsum (l.map g) f=lsum l (fun a=>f (g a)):=by
 induction l with
 | nil=>rfl
 | cons a l ih=>rw[List.map_cons,lsum_cons,lsum_cons,ih]
theorem lsum_filter(p:α→Bool) (l:List α) (f:α→UInt8) (h:∀a∈l,p a=false→f a=0):lsum l f=lsum (l.filter p) f:=by
 induction l with
 | nil=>rfl
 | cons a l ih =>
  rw[lsum_cons,ih (fun x hx=>h x (by simp[hx]))]
  cases hp:p a with
  | true=>rw[List.filter_cons_of_pos hp,lsum_cons]
  | false=>rw[List.filter_cons_of_neg (by simp[hp]),h a (by simp) hp,zero_xor]
theorem lsum_single [DecidableEq α] (l:List α) (hn:l.Nodup) (c:α) (hc:c∈l) (f:α→UInt8) (h:∀a∈l,a≠c→f a=0):lsum l f=f c:=by
 induction l with
 | nil=>cases hc
 | cons a l ih =>
  rw[lsum_cons]
  have hn2:=List.nodup_cons.1 hn
  by_cases e:a=c
  ·subst e
   rw[lsum_zero (l:=l) (fun x hx=>h x (by simp[hx]) (fun e=>hn2.1 (e▸hx))),xor_zero]
  ·rw[h a (by simp) e,zero_xor]
   refine ih hn2.2 ?_ (fun x hx=>h x (by simp[hx]))
   rcases List.mem_cons.1 hc with h2 | h2
   ·exact absurd h2.symm e
   ·exact h2
end
theorem ginv_ne{a:UInt8} (h:a≠0):ginv a≠0:=by
 intro e
 have:=gmul_inv a h
 rw[e,gmul_zero] at this
 exact absurd this (by decide)
theorem inv_add{a b:UInt8} (ha:a≠0) (hb:b≠0):ginv a ^^^ ginv b=gmul (a ^^^ b) (gmul (ginv a) (ginv b)):=by
 rw[gmul_left,←gmul_assoc,gmul_inv a ha,one_gmul,gmul_comm (ginv a),←gmul_assoc,gmul_inv b hb,one_gmul,UInt8.xor_comm]
theorem term_lemma{x y y0 v:UInt8} (h:x ^^^ y≠0):gmul (x ^^^ y0) (gmul v (ginv (x ^^^ y)))=v ^^^ gmul (gmul v (y ^^^ y0)) (ginv (x ^^^ y)):=by
 have e:x ^^^ y0=(x ^^^ y) ^^^ (y ^^^ y0):=by rw[UInt8.xor_assoc,←UInt8.xor_assoc y,xor_self,zero_xor]
 have e1:gmul (x ^^^ y) (gmul v (ginv (x ^^^ y)))=v:=by rw[←gmul_assoc,gmul_comm (x ^^^ y),gmul_assoc,gmul_inv _ h,gmul_one]
 have e2:gmul (y ^^^ y0) (gmul v (ginv (x ^^^ y)))=gmul (gmul v (y ^^^ y0)) (ginv (x ^^^ y)):=by rw[←gmul_assoc,gmul_comm (y ^^^ y0)]
 rw[e,gmul_left,e1,e2]
theorem cauchy:∀(ps:List (UInt8×UInt8)) (xs:List UInt8),(ps.map (·.1)).Nodup→xs.Nodup→(∀x∈xs,∀p∈ps,x≠p.1)→ps.length≤xs.length →
  (∀x∈xs,lsum ps (fun p=>gmul p.2 (ginv (x ^^^ p.1)))=0)→∀p∈ps,p.2=0:=by
 intro ps
 induction hn:ps.length generalizing ps with
 | zero =>
  intro xs _ _ _ _ _ p hp
  rw[List.eq_nil_of_length_eq_zero hn] at hp;cases hp
 | succ n ih =>
  intro xs hny hnx hxy hlen heq
  match ps,xs,hn,hlen with
  | (y0,v0) :: qs,x0 :: xs,hn,hlen =>
   rw[List.map_cons] at hny
   have hny2:=List.nodup_cons.1 hny
   have hnx2:=List.nodup_cons.1 hnx
   have hne:∀x∈x0 :: xs,∀p∈(y0,v0) :: qs,x ^^^ p.1≠0:=fun x hx p hp e=>hxy x hx p hp (xor_eq_zero e)
   have hE:∀x∈x0 :: xs,v0 ^^^ (lsum qs (fun p=>p.2) ^^^ lsum qs (fun p=>gmul (gmul p.2 (p.1 ^^^ y0)) (ginv (x ^^^ p.1))))=0:=by
    intro x hx
    have h1:=congrArg (gmul (x ^^^ y0)) (heq x hx)
    rw[gmul_zero,lsum_cons,gmul_right,lsum_mul] at h1
    rw[←h1,←lsum_xor]
    congr 1
    ·show v0=gmul (x ^^^ y0) (gmul v0 (ginv (x ^^^ y0)))
     rw[gmul_comm v0,←gmul_assoc,gmul_inv _ (hne x hx (y0,v0) (by simp)),one_gmul]
    ·exact lsum_congr fun p hp=>(term_lemma (hne x hx p (by simp[hp]))).symm
   have hq:∀p∈qs,p.2=0:=by
    have h:=ih (qs.map fun p=>(p.1,gmul (gmul p.2 (p.1 ^^^ y0)) (ginv (x0 ^^^ p.1)))) (by simpa using hn) xs (by rw[List.map_map];exact hny2.2) hnx2.2 ?_ ?_ ?_
    ·intro p hp
     have:=h (p.1,gmul (gmul p.2 (p.1 ^^^ y0)) (ginv (x0 ^^^ p.1))) (List.mem_map.2 ⟨p,hp,rfl⟩)
     have hy:p.1 ^^^ y0≠0:=fun e=>hny2.1 (List.mem_map.2 ⟨p,hp,xor_eq_zero e⟩)
     rcases gmul_eq_zero this with h1 | h1
     ·rcases gmul_eq_zero h1 with h2 | h2
      ·exact h2
      ·exact absurd h2 hy
     ·exact absurd h1 (ginv_ne (hne x0 (by simp) p (by simp[hp])))
    ·intro x hx p hp
     obtain⟨q,hq,rfl⟩:=List.mem_map.1 hp
     exact hxy x (by simp[hx]) q (by simp[hq])
    ·simp at hn hlen ⊢;omega
    ·intro x hx
     have hxx:x ^^^ x0≠0:=fun e=>hnx2.1 (by rw[←xor_eq_zero e];exact hx)
     have h1:=hE x (by simp[hx])
     have h0:=hE x0 (by simp)
     have h2:lsum qs (fun p=>gmul (gmul p.2 (p.1 ^^^ y0)) (ginv (x ^^^ p.1))) ^^^ lsum qs (fun p=>gmul (gmul p.2 (p.1 ^^^ y0)) (ginv (x0 ^^^ p.1)))=0:=by
      have e:(v0 ^^^ (lsum qs (fun p=>p.2) ^^^ lsum qs (fun p=>gmul (gmul p.2 (p.1 ^^^ y0)) (ginv (x ^^^ p.1))))) ^^^ (v0 ^^^ (lsum qs (fun p=>p.2) ^^^ lsum qs (fun p=>gmul (gmul p.2 (p.1 ^^^ y0)) (ginv (x0 ^^^ p.1)))))=0:=by rw[h1,h0,xor_self]
      rw[xor4u v0,xor_self,zero_xor,xor4u (lsum qs (fun p=>p.2)),xor_self,zero_xor] at e
      exact e
     rw[←lsum_xor] at h2
     rw[lsum_map]
     have h3:gmul (x ^^^ x0) (lsum qs (fun p=>gmul (gmul (gmul p.2 (p.1 ^^^ y0)) (ginv (x0 ^^^ p.1))) (ginv (x ^^^ p.1))))=0:=by
      rw[lsum_mul,←h2]
      apply lsum_congr
      intro p hp
      rw[←gmul_right,inv_add (hne x (by simp[hx]) p (by simp[hp])) (hne x0 (by simp) p (by simp[hp])),xor4u x,xor_self,xor_zero]
      ac_rfl
     rcases gmul_eq_zero h3 with h4 | h4
     ·exact absurd h4 hxx
     ·exact h4
   intro p hp
   rcases List.mem_cons.1 hp with rfl | hp
   ·have h1:=heq x0 (by simp)
    rw[lsum_cons,lsum_zero (l:=qs) (fun p hp=>by rw[hq p hp,zero_gmul]),xor_zero] at h1
    rcases gmul_eq_zero h1 with h2 | h2
    ·exact h2
    ·exact absurd h2 (ginv_ne (hne x0 (by simp) (y0,v0) (by simp)))
   ·exact hq p hp
end Go.Proofs.YtcfkllnpkmebpaaGreatDoor

namespace Go.Proofs.YtcfkllnpkmebpaaGreatDoor
def dot(r:List UInt8) (u:Nat→UInt8) (m:Nat):UInt8:=lsum (List.range m) fun j=>gmul (r.getD j 0) (u j)
def pivF(t:Mat) (k:Nat):Nat→Nat→Nat
 | 0,a=>a
 | f+1,a=>if en t a k=0 then pivF t k f (a+1) else a
def piv(t:Mat) (k:Nat):Nat:=pivF t k (t.length - k) k
def swapL(t:Mat) (i j:Nat):Mat:=(t.set i (t.getD j [])).set j (t.getD i [])
def scaleR(r:List UInt8) (f:UInt8):List UInt8:=r.mapIdx fun _ x=>gmul x f
def elimR(c:UInt8) (p r:List UInt8):List UInt8:=r.mapIdx fun j x=>x ^^^ gmul c (p.getD j 0)
def elimT(s:Mat) (k:Nat) (p:List UInt8):Mat:=s.mapIdx fun i r=>if i=k then r else elimR (r.getD k 0) p r
def rowP(s:Mat) (k:Nat):List UInt8:=scaleR (s.getD k []) (ginv (en s k k))
def gstep(t:Mat) (k:Nat):Mat :=
 let s:=swapL t (piv t k) k
 elimT (s.set k (rowP s k)) k (rowP s k)
def gaussN(t:Mat):Nat→Mat
 | 0=>t
 | k+1=>gstep (gaussN t k) k
theorem getD_mapIdx{α β:Type} (F:Nat→α→β) (l:List α) (d:α) (d':β) {i:Nat} (h:i<l.length):(l.mapIdx F).getD i d'=F i (l.getD i d):=by
 rw[getD_lt _ _ (by simpa using h),getD_lt _ _ h,List.getElem_mapIdx]
theorem getD_set{α:Type} (l:List α) (d x:α) (i j:Nat) (h:i<l.length):(l.set i x).getD j d=if j=i then x else l.getD j d:=by
 by_cases e:j=i
 ·subst e;rw[if_pos rfl,List.getD,List.getElem?_set_self h];rfl
 ·rw[if_neg e,List.getD,List.getElem?_set_ne (fun h=>e h.symm),List.getD]
theorem mapIdx_zero{α:Type} (F:Nat→α→α) (l:List α):l.mapIdx (fun i x=>if i<0 then F i x else x)=l:=by
 apply List.ext_getElem
 ·simp
 ·intro i h1 h2;simp
theorem mapIdx_step{α:Type} (F:Nat→α→α) (l:List α) (j:Nat) (h:j<l.length) :
  (l.mapIdx (fun i x=>if i<j then F i x else x)).set j (F j l[j])=l.mapIdx (fun i x=>if i<j+1 then F i x else x):=by
 apply List.ext_getElem
 ·simp
 ·intro i h1 h2
  rw[List.getElem_set]
  by_cases e:j=i
  ·subst e;simp
  ·rw[if_neg e]
   simp only[List.getElem_mapIdx]
   by_cases h3:i<j
   ·rw[if_pos h3,if_pos (by omega)]
   ·rw[if_neg h3,if_neg (by omega)]
theorem mapIdx_all{α:Type} (F:Nat→α→α) (l:List α) (j:Nat) (h:l.length≤j):l.mapIdx (fun i x=>if i<j then F i x else x)=l.mapIdx F:=by
 apply List.ext_getElem
 ·simp
 ·intro i h1 h2
  simp only[List.getElem_mapIdx]
  rw[if_pos (by simp at h1;omega)]
theorem pivF_spec(t:Mat) (k:Nat):∀f a,a≤pivF t k f a∧pivF t k f a≤a+f∧(∀j,a≤j→j<pivF t k f a→en t j k=0)∧(pivF t k f a<a+f→en t (pivF t k f a) k≠0):=by
 intro f
 induction f with
 | zero=>intro a;exact⟨Nat.le_refl _,Nat.le_refl _,fun j h1 h2=>absurd h2 (by show ¬j<a;omega),fun h=>absurd h (by show ¬a<a+0;omega)⟩
 | succ f ih =>
  intro a
  unfold pivF
  by_cases h:en t a k=0
  ·rw[if_pos h]
   obtain⟨h1,h2,h3,h4⟩:=ih (a+1)
   refine⟨by omega,by omega,fun j h5 h6=>?_,fun h5=>h4 (by omega)⟩
   by_cases e:j=a
   ·rw[e];exact h
   ·exact h3 j (by omega) h6
  ·rw[if_neg h]
   exact⟨Nat.le_refl _,by omega,fun j h1 h2=>by omega,fun _=>h⟩
theorem piv_spec(t:Mat) (k:Nat) (hk:k≤t.length):k≤piv t k∧piv t k≤t.length∧(∀j,k≤j→j<piv t k→en t j k=0)∧(piv t k<t.length→en t (piv t k) k≠0):=by
 obtain⟨h1,h2,h3,h4⟩:=pivF_spec t k (t.length - k) k
 exact⟨h1,by unfold piv;omega,h3,fun h=>h4 (by unfold piv at h;omega)⟩
theorem dot_scale(r:List UInt8) (f:UInt8) (u:Nat→UInt8) (m:Nat) (h:m≤r.length):dot (scaleR r f) u m=gmul f (dot r u m):=by
 unfold dot scaleR
 rw[lsum_mul]
 apply lsum_congr
 intro j hj
 have:=List.mem_range.1 hj
 rw[getD_mapIdx _ _ 0 0 (by omega),gmul_comm _ f,gmul_assoc]
theorem dot_elim(c:UInt8) (p r:List UInt8) (u:Nat→UInt8) (m:Nat) (h:m≤r.length):dot (elimR c p r) u m=dot r u m ^^^ gmul c (dot p u m):=by
 unfold dot elimR
 rw[lsum_mul,←lsum_xor]
 apply lsum_congr
 intro j hj
 have:=List.mem_range.1 hj
 rw[getD_mapIdx _ _ 0 0 (by omega),gmul_left,gmul_assoc]
theorem Wide.getD{t:Mat} {m:Nat} (h:Wide t m) {i:Nat} (hi:i<t.length):(t.getD i []).length=m:=by rw[getD_lt _ _ hi];exact h _ (List.getElem_mem hi)
theorem scaleR_length(r:List UInt8) (f:UInt8):(scaleR r f).length=r.length:=by simp[scaleR]
theorem elimR_length(c:UInt8) (p r:List UInt8):(elimR c p r).length=r.length:=by simp[elimR]
theorem swapL_length(t:Mat) (i j:Nat):(swapL t i j).length=t.length:=by simp[swapL]
theorem gstep_length(t:Mat) (k:Nat):(gstep t k).length=t.length:=by simp[gstep,elimT,swapL_length]
theorem gaussN_length(t:Mat) (k:Nat):(gaussN t k).length=t.length:=by
 induction k with
 | zero=>rfl
 | succ k ih=>show(gstep (gaussN t k) k).length=_;rw[gstep_length,ih]
theorem swapL_getD(t:Mat) (a k i:Nat) (ha:a<t.length) (hk:k<t.length):(swapL t a k).getD i []=t.getD (if i=k then a else if i=a then k else i) []:=by
 unfold swapL
 rw[getD_set _ _ _ _ _ (by simpa using hk),getD_set _ _ _ _ _ ha]
 by_cases h1:i=k
 ·rw[if_pos h1,if_pos h1]
 ·rw[if_neg h1,if_neg h1]
  by_cases h2:i=a
  ·rw[if_pos h2,if_pos h2]
  ·rw[if_neg h2,if_neg h2]
theorem gstep_row(t:Mat) (k i:Nat) (hk:k<t.length) (hp:piv t k<t.length) (hi:i<t.length) :
  (gstep t k).getD i []=if i=k then scaleR (t.getD (piv t k) []) (ginv (en t (piv t k) k)) else elimR ((t.getD (if i=piv t k then k else i) []).getD k 0) (scaleR (t.getD (piv t k) []) (ginv (en t (piv t k) k))) (t.getD (if i=piv t k then k else i) []):=by
 have hsk:(swapL t (piv t k) k).getD k []=t.getD (piv t k) []:=by rw[swapL_getD _ _ _ _ hp hk,if_pos rfl]
 have hr:rowP (swapL t (piv t k) k) k=scaleR (t.getD (piv t k) []) (ginv (en t (piv t k) k)):=by
  unfold rowP en;rw[hsk]
 show(elimT ((swapL t (piv t k) k).set k (rowP (swapL t (piv t k) k) k)) k (rowP (swapL t (piv t k) k) k)).getD i []=_
 unfold elimT
 rw[getD_mapIdx _ _ [] [] (by simpa[swapL_length] using hi),hr,getD_set _ _ _ _ _ (by simpa[swapL_length] using hk)]
 by_cases h:i=k
 ·rw[if_pos h,if_pos h,if_pos h]
 ·rw[if_neg h,if_neg h,if_neg h,swapL_getD _ _ _ _ hp hk,if_neg h]
structure Inv (t0 t:Mat) (n m k:Nat):Prop where
 len:t.length=n
 wide:Wide t m
 unit:∀j,j<k→∀i,i<n→en t i j=if i=j then 1 else 0
 sol:∀u,(∀i,i<n→dot (t.getD i []) u m=0)↔(∀i,i<n→dot (t0.getD i []) u m=0)
theorem Inv.step{t0 t:Mat} {n m k:Nat} (h:Inv t0 t n m k) (hk:k<n) (hkm:n≤m) (hp:piv t k<n):Inv t0 (gstep t k) n m (k+1):=by
 have hl:=h.len
 have hk':k<t.length:=by omega
 have hp':piv t k<t.length:=by omega
 obtain⟨p1,p2,p3,p4⟩:=piv_spec t k (by omega)
 have hne:=p4 hp'
 have hrow:=fun i (hi:i<n)=>gstep_row t k i hk' hp' (by omega)
 generalize piv t k=a at *
 have hwa:(t.getD a []).length=m:=h.wide.getD hp'
 have hfa:ginv (en t a k)≠0:=ginv_ne hne
 refine⟨by rw[gstep_length,hl],?_,?_,?_⟩
 ·intro r hr
  obtain⟨i,hi,rfl⟩:=List.getElem_of_mem hr
  rw[gstep_length] at hi
  have e:=hrow i (by omega)
  rw[getD_lt _ _ (by rw[gstep_length];exact hi)] at e
  rw[e]
  split
  ·rw[scaleR_length,hwa]
  ·rw[elimR_length]
   exact h.wide.getD (by split <;> omega)
 ·intro j hj i hi
  have ej:en (gstep t k) i j=if i=k then gmul (en t a j) (ginv (en t a k)) else en t (if i=a then k else i) j ^^^ gmul (en t (if i=a then k else i) k) (gmul (en t a j) (ginv (en t a k))):=by
   unfold en
   rw[hrow i hi]
   by_cases hik:i=k
   ·rw[if_pos hik,if_pos hik]
    exact getD_mapIdx _ _ 0 0 (by rw[hwa];omega)
   ·rw[if_neg hik,if_neg hik]
    have hw2:(t.getD (if i=a then k else i) []).length=m:=h.wide.getD (by split <;> omega)
    unfold elimR
    rw[getD_mapIdx _ _ 0 0 (by rw[hw2];omega)]
    congr 2
    exact getD_mapIdx _ _ 0 0 (by rw[hwa];omega)
  rw[ej]
  by_cases hjk:j=k
  ·subst hjk
   rw[gmul_inv _ hne]
   by_cases hij:i=j
   ·rw[if_pos hij,if_pos hij]
   ·rw[if_neg hij,if_neg hij,gmul_one,xor_self]
  ·have hjlt:j<k:=by omega
   have haj:en t a j=0:=by rw[h.unit j hjlt a hp,if_neg (by omega)]
   rw[haj,zero_gmul]
   by_cases hik:i=k
   ·rw[if_pos hik,if_neg (by omega)]
   ·rw[if_neg hik,gmul_zero,xor_zero]
    by_cases hia:i=a
    ·rw[if_pos hia,h.unit j hjlt k hk,if_neg (by omega),if_neg (by omega)]
    ·rw[if_neg hia,h.unit j hjlt i hi]
 ·intro u
  rw[←h.sol u]
  have hd:∀i,i<n→dot ((gstep t k).getD i []) u m=if i=k then gmul (ginv (en t a k)) (dot (t.getD a []) u m) else dot (t.getD (if i=a then k else i) []) u m ^^^ gmul (en t (if i=a then k else i) k) (gmul (ginv (en t a k)) (dot (t.getD a []) u m)):=by
   intro i hi
   rw[hrow i hi]
   by_cases hik:i=k
   ·rw[if_pos hik,if_pos hik,dot_scale _ _ _ _ (by omega)]
   ·rw[if_neg hik,if_neg hik]
    have hw2:(t.getD (if i=a then k else i) []).length=m:=h.wide.getD (by split <;> omega)
    rw[dot_elim _ _ _ _ _ (by omega),dot_scale _ _ _ _ (by omega)];rfl
  constructor
  ·intro hz i hi
   have hza:dot (t.getD a []) u m=0:=by
    have h1:=hz k hk
    rw[hd k hk,if_pos rfl] at h1
    rcases gmul_eq_zero h1 with h2 | h2
    ·exact absurd h2 hfa
    ·exact h2
   have hzz:∀j,j<n→j≠k→dot (t.getD (if j=a then k else j) []) u m=0:=by
    intro j hj hjk
    have h1:=hz j hj
    rw[hd j hj,if_neg hjk,hza,gmul_zero,gmul_zero,xor_zero] at h1
    exact h1
   by_cases hia:i=a
   ·rw[hia];exact hza
   ·by_cases hik:i=k
    ·have h1:=hzz a hp (by omega)
     rw[if_pos rfl] at h1
     rw[hik];exact h1
    ·have h1:=hzz i hi hik
     rw[if_neg hia] at h1
     exact h1
  ·intro hz i hi
   rw[hd i hi,hz a hp,gmul_zero,gmul_zero,xor_zero]
   by_cases hik:i=k
   ·rw[if_pos hik]
   ·rw[if_neg hik]
    exact hz _ (by split <;> omega)
end Go.Proofs.YtcfkllnpkmebpaaGreatDoor

namespace Go.Proofs.YtcfkllnpkmebpaaGreatDoor
set_option linter.unusedVariables false
def unitR(n i:Nat):List UInt8:=(List.range n).map fun j=>if j=i then 1 else 0
def augT(A:Mat):Mat:=A.mapIdx fun i r=>r++unitR A.length i
theorem unitR_length(n i:Nat):(unitR n i).length=n:=by simp[unitR]
theorem unitR_getD(n i j:Nat) (h:j<n):(unitR n i).getD j 0=if j=i then 1 else 0:=by
 rw[getD_lt _ _ (by simpa[unitR] using h)];simp[unitR]
theorem dot_two(r:List UInt8) (v w:Nat→UInt8) (n:Nat):dot r (two v w n) (n+n)=dot r v n ^^^ dot (r.drop n) w n:=by
 unfold dot
 rw[List.range_add,lsum_append,lsum_map]
 congr 1
 ·apply lsum_congr
  intro j hj
  have:=List.mem_range.1 hj
  show gmul _ (two v w n j)=_
  unfold two;rw[if_pos this]
 ·apply lsum_congr
  intro j hj
  have e:(r.drop n).getD j 0=r.getD (n+j) 0:=by rw[List.getD,List.getElem?_drop,List.getD]
  show gmul _ (two v w n (n+j))=_
  unfold two;rw[if_neg (by omega),e,Nat.add_sub_cancel_left]
theorem dot_zero(r:List UInt8) (n:Nat):dot r (fun _=>0) n=0:=lsum_zero fun j _=>gmul_zero _
theorem dot_unit(r:List UInt8) (w:Nat→UInt8) (n i:Nat) (hi:i<n) (h:∀j,j<n→r.getD j 0=if j=i then 1 else 0):dot r w n=w i:=by
 unfold dot
 rw[lsum_single (List.range n) List.nodup_range i (List.mem_range.2 hi)]
 ·rw[h i hi,if_pos rfl,one_gmul]
 ·intro j hj hne
  rw[h j (List.mem_range.1 hj),if_neg hne,zero_gmul]
theorem dot_aug(A:Mat) (hA:Wide A A.length) (v w:Nat→UInt8) (i:Nat) (hi:i<A.length):dot ((augT A).getD i []) (two v w A.length) (A.length+A.length)=dot (A.getD i []) v A.length ^^^ w i:=by
 have hw:=hA.getD hi
 have e:(augT A).getD i []=A.getD i []++unitR A.length i:=getD_mapIdx _ _ [] [] hi
 rw[e,dot_two,List.drop_append_of_le_length (by omega),List.drop_eq_nil_of_le (by omega),List.nil_append]
 congr 1
 ·apply lsum_congr
  intro j hj
  have:=List.mem_range.1 hj
  congr 1
  rw[List.getD,List.getElem?_append_left (by omega),List.getD];rfl
 ·exact dot_unit _ _ _ _ hi fun j hj=>unitR_getD _ _ _ hj
def Inj(A:Mat):Prop:=∀v:Nat→UInt8,(∀i,i<A.length→dot (A.getD i []) v A.length=0)→∀j,j<A.length→v j=0
theorem aug_wide(A:Mat) (hA:Wide A A.length):Wide (augT A) (A.length+A.length):=by
 intro r hr
 obtain⟨i,hi,rfl⟩:=List.getElem_of_mem hr
 simp only[augT,List.getElem_mapIdx,List.length_append,unitR_length]
 have hi':i<A.length:=by simpa[augT] using hi
 rw[hA _ (List.getElem_mem hi')]
theorem aug_length(A:Mat):(augT A).length=A.length:=by simp[augT]
theorem gauss_inv(A:Mat) (hA:Wide A A.length) (hI:Inj A):∀k,k≤A.length→Inv (augT A) (gaussN (augT A) k) A.length (A.length+A.length) k∧(k<A.length→piv (gaussN (augT A) k) k<A.length):=by
 intro k
 induction k with
 | zero =>
  intro hk
  have h0:Inv (augT A) (augT A) A.length (A.length+A.length) 0:=⟨aug_length A,aug_wide A hA,fun j hj=>by omega,fun u=>Iff.rfl⟩
  refine⟨h0,fun hlt=>?_⟩
  exact piv_ok A hA hI (augT A) 0 h0 hlt
 | succ k ih =>
  intro hk
  obtain⟨h1,h2⟩:=ih (by omega)
  have h3:=h1.step (by omega) (by omega) (h2 (by omega))
  exact⟨h3,fun hlt=>piv_ok A hA hI _ _ h3 hlt⟩
where
 piv_ok (A:Mat) (hA:Wide A A.length) (hI:Inj A) (t:Mat) (k:Nat) (h:Inv (augT A) t A.length (A.length+A.length) k) (hk:k<A.length):piv t k<A.length:=by
  have hl:=h.len
  obtain⟨p1,p2,p3,-⟩:=piv_spec t k (by omega)
  rcases Nat.lt_or_ge (piv t k) A.length with hlt | hge
  ·exact hlt
  ·exfalso
   have hz:∀i,k≤i→i<A.length→en t i k=0:=fun i h1 h2=>p3 i h1 (by omega)
   let v:Nat→UInt8:=fun j=>if j<k then en t j k else if j=k then 1 else 0
   let w:Nat→UInt8:=fun i=>dot (A.getD i []) v A.length
   have hs:∀i,i<A.length→dot (t.getD i []) (two v w A.length) (A.length+A.length)=0:=by
    apply (h.sol _).2
    intro i hi
    rw[dot_aug A hA v w i hi]
    exact xor_self _
   have hleft:∀i,i<A.length→dot (t.getD i []) v A.length=0:=by
    intro i hi
    have e:dot (t.getD i []) v A.length=lsum (List.range A.length) fun j=>if j<k then(if i=j then v j else 0) else if j=k then en t i k else 0:=by
     unfold dot
     apply lsum_congr
     intro j hj
     have hjn:=List.mem_range.1 hj
     by_cases hjk:j<k
     ·rw[if_pos hjk]
      show gmul (en t i j) (v j)=_
      rw[h.unit j hjk i hi]
      by_cases hij:i=j
      ·rw[if_pos hij,if_pos hij,one_gmul]
      ·rw[if_neg hij,if_neg hij,zero_gmul]
     ·rw[if_neg hjk]
      by_cases hjk2:j=k
      ·rw[if_pos hjk2]
       show gmul (en t i j) (v j)=_
       have:v j=1:=by show(if j<k then _ else if j=k then(1:UInt8) else 0)=1;rw[if_neg hjk,if_pos hjk2]
       rw[this,gmul_one,hjk2]
      ·rw[if_neg hjk2]
       have:v j=0:=by show(if j<k then _ else if j=k then(1:UInt8) else 0)=0;rw[if_neg hjk,if_neg hjk2]
       rw[this,gmul_zero]
    rw[e]
    by_cases hik:i<k
    ·have e2:(fun j=>if j<k then(if i=j then v j else 0) else if j=k then en t i k else 0)=fun j=>(if j=i then v i else 0) ^^^ (if j=k then en t i k else 0):=by
      funext j
      by_cases hjk:j<k
      ·rw[if_pos hjk,if_neg (show ¬j=k by omega),xor_zero]
       by_cases hij:i=j
       ·rw[if_pos hij,if_pos hij.symm,hij]
       ·rw[if_neg hij,if_neg (fun e=>hij e.symm)]
      ·rw[if_neg hjk,if_neg (show ¬j=i by omega),zero_xor]
     rw[e2,lsum_xor,lsum_single (List.range A.length) List.nodup_range i (List.mem_range.2 hi),lsum_single (List.range A.length) List.nodup_range k (List.mem_range.2 hk),if_pos rfl,if_pos rfl]
     ·have:v i=en t i k:=if_pos hik
      rw[this,xor_self]
     ·intro j _ hj;rw[if_neg hj]
     ·intro j _ hj;rw[if_neg hj]
    ·apply lsum_zero
     intro j hj
     by_cases hjk:j<k
     ·rw[if_pos hjk,if_neg (by omega)]
     ·rw[if_neg hjk,hz i (by omega) hi]
      split <;> rfl
   have hright:∀i,i<A.length→dot ((t.getD i []).drop A.length) w A.length=0:=by
    intro i hi
    have h1:=hs i hi
    rw[dot_two,hleft i hi,zero_xor] at h1
    exact h1
   have hw0:∀i,i<A.length→w i=0:=by
    have h1:∀i,i<A.length→dot (t.getD i []) (two (fun _=>0) w A.length) (A.length+A.length)=0:=by
     intro i hi
     rw[dot_two,hright i hi,dot_zero,xor_zero]
    have h2:=(h.sol _).1 h1
    intro i hi
    have h3:=h2 i hi
    rw[dot_aug A hA _ w i hi,dot_zero,zero_xor] at h3
    exact h3
   have hv:=hI v hw0 k hk
   have hvk:v k=1:=by show(if k<k then _ else if k=k then(1:UInt8) else 0)=1;rw[if_neg (by omega),if_pos rfl]
   rw[hvk] at hv
   exact absurd hv (by decide)
def invT(A:Mat):Mat:=(gaussN (augT A) A.length).map (·.drop A.length)
theorem invT_length(A:Mat):(invT A).length=A.length:=by simp[invT,gaussN_length,aug_length]
theorem invT_wide(A:Mat) (hA:Wide A A.length) (hI:Inj A):Wide (invT A) A.length:=by
 have h:=(gauss_inv A hA hI A.length (Nat.le_refl _)).1
 intro r hr
 simp only[invT,List.mem_map] at hr
 obtain⟨r0,h0,rfl⟩:=hr
 have:=h.wide r0 h0
 rw[List.length_drop];omega
theorem invT_spec(A:Mat) (hA:Wide A A.length) (hI:Inj A) (v w:Nat→UInt8) (hw:∀i,i<A.length→w i=dot (A.getD i []) v A.length):∀i,i<A.length→dot ((invT A).getD i []) w A.length=v i:=by
 intro i hi
 have h:=(gauss_inv A hA hI A.length (Nat.le_refl _)).1
 have hl:=h.len
 have hs:=(h.sol (two v w A.length)).2 (fun j hj=>by rw[dot_aug A hA v w j hj,←hw j hj,xor_self]) i hi
 rw[dot_two] at hs
 have e:(invT A).getD i []=((gaussN (augT A) A.length).getD i []).drop A.length:=by
  unfold invT
  rw[getD_lt _ _ (by simp;omega),getD_lt _ _ (by omega),List.getElem_map]
 have hu:dot ((gaussN (augT A) A.length).getD i []) v A.length=v i:=dot_unit _ _ _ _ hi fun j hj=>by
  have h1:=h.unit j hj i hi
  unfold en at h1
  rw[h1]
  by_cases hij:i=j
  ·rw[if_pos hij,if_pos hij.symm]
  ·rw[if_neg hij,if_neg (fun e=>hij e.symm)]
 rw[hu] at hs
 rw[e]
 exact(xor_eq_zero hs).symm
end Go.Proofs.YtcfkllnpkmebpaaGreatDoor

namespace Go.Proofs.YtcfkllnpkmebpaaGreatDoor
set_option linter.unusedVariables false
theorem nodup_sub:∀(l m:List Nat),l.Nodup→(∀x∈l,x∈m)→l.length≤m.length:=by
 intro l
 induction l with
 | nil=>intro m _ _;exact Nat.zero_le _
 | cons a l ih =>
  intro m hn hs
  have hn2:=List.nodup_cons.1 hn
  have ha:a∈m:=hs a (by simp)
  have h1:=ih (m.erase a) hn2.2 (fun x hx=>by
   have hxa:x≠a:=fun e=>hn2.1 (e▸hx)
   exact(List.mem_erase_of_ne hxa).2 (hs x (by simp[hx])))
  have h2:=List.length_erase_of_mem ha
  have h3:0<m.length:=List.length_pos_of_mem ha
  rw[List.length_cons];omega
theorem filter_split{α:Type} (p:α→Bool) (l:List α):(l.filter p).length+(l.filter fun a=>!p a).length=l.length:=by
 induction l with
 | nil=>rfl
 | cons a l ih =>
  cases h:p a <;> simp[h] <;> omega
theorem byte_ne:∀j:Nat,j<64→∀i:Nat,i<64→UInt8.ofNat (128+j)≠UInt8.ofNat i:=by
 intro j hj i hi h
 have h1:=congrArg UInt8.toNat h
 rw[UInt8.toNat_ofNat',UInt8.toNat_ofNat'] at h1
 omega
theorem ofNat_inj{a b:Nat} (ha:a<256) (hb:b<256) (h:UInt8.ofNat a=UInt8.ofNat b):a=b:=by
 have h1:=congrArg UInt8.toNat h
 rw[UInt8.toNat_ofNat',UInt8.toNat_ofNat'] at h1
 omega
theorem coef_inj(k:Nat) (is:List Nat) (hk:k≤64) (hl:is.length=k) (hn:is.Nodup) (hr:∀i∈is,i<k+64):Inj (is.map (coefR k)):=by
 intro v hv
 have hvA:∀a∈is,dot (coefR k a) v k=0:=by
  intro a ha
  obtain⟨i,hi,rfl⟩:=List.getElem_of_mem ha
  have h:=hv i (by simpa using hi)
  have hlm:(is.map (coefR k)).length=k:=by rw[List.length_map,hl]
  rw[getD_lt _ _ (by simpa using hi),List.getElem_map] at h
  simp only[hlm] at h
  exact h
 rw[List.length_map,hl]
 have hdata:∀a∈is,a<k→v a=0:=by
  intro a ha hak
  have h:=hvA a ha
  rwa [dot_unit _ _ _ _ hak (fun j hj=>by rw[coefR_getD _ _ _ hj,if_pos hak])] at h
 let ys:=(List.range k).filter fun i=>!is.contains i
 let ps:=ys.map fun i=>(UInt8.ofNat i,v i)
 let xs:=(is.filter fun a=>!decide (a<k)).map fun a=>UInt8.ofNat (128+(a - k))
 have hys:∀i∈ys,i<k∧i∉is:=by
  intro i hi
  have h:=List.mem_filter.1 hi
  exact⟨List.mem_range.1 h.1,by simpa using h.2⟩
 have hc:=cauchy ps xs ?_ ?_ ?_ ?_ ?_
 ·intro j hj
  by_cases hj2:j∈is
  ·exact hdata j hj2 hj
  ·exact hc (UInt8.ofNat j,v j) (List.mem_map.2 ⟨j,List.mem_filter.2 ⟨List.mem_range.2 hj,by simpa using hj2⟩,rfl⟩)
 ·show((ys.map fun i=>(UInt8.ofNat i,v i)).map (·.1)).Nodup
  rw[List.map_map]
  have hy:ys.Nodup:=List.nodup_range.filter _
  have:ys.map ((·.1) ∘ fun i=>(UInt8.ofNat i,v i))=ys.map UInt8.ofNat:=rfl
  rw[this]
  refine List.pairwise_map.2 (List.Pairwise.imp_of_mem (fun {a b} ha hb hab=>?_) hy)
  intro e
  have h1:=(hys a ha).1
  have h2:=(hys b hb).1
  exact hab (ofNat_inj (by omega) (by omega) e)
 ·show((is.filter fun a=>!decide (a<k)).map fun a=>UInt8.ofNat (128+(a - k))).Nodup
  refine List.pairwise_map.2 (List.Pairwise.imp_of_mem (fun {a b} ha hb hab=>?_) (hn.filter _))
  intro e
  have h1:=List.mem_filter.1 ha
  have h2:=List.mem_filter.1 hb
  have h3:=hr a h1.1
  have h4:=hr b h2.1
  have h5:¬a<k:=by simpa using h1.2
  have h6:¬b<k:=by simpa using h2.2
  have:=ofNat_inj (by omega) (by omega) e
  exact hab (by omega)
 ·intro x hx p hp
  obtain⟨a,ha,rfl⟩:=List.mem_map.1 hx
  obtain⟨i,hi,rfl⟩:=List.mem_map.1 hp
  have h1:=List.mem_filter.1 ha
  have h3:=hr a h1.1
  have h5:¬a<k:=by simpa using h1.2
  have h7:=(hys i hi).1
  exact byte_ne _ (by omega) _ (by omega)
 ·have h1:=filter_split (fun a=>decide (a<k)) is
  have h2:=filter_split (fun i=>is.contains i) (List.range k)
  have h3:=nodup_sub (is.filter fun a=>decide (a<k)) ((List.range k).filter fun i=>is.contains i) (hn.filter _) (fun x hx=>by
   have h:=List.mem_filter.1 hx
   have h4:x<k:=by simpa using h.2
   exact List.mem_filter.2 ⟨List.mem_range.2 h4,by simpa using h.1⟩)
  rw[List.length_range] at h2
  show(((List.range k).filter fun i=>!is.contains i).map fun i=>(UInt8.ofNat i,v i)).length≤((is.filter fun a=>!decide (a<k)).map fun a=>UInt8.ofNat (128+(a - k))).length
  rw[List.length_map,List.length_map]
  omega
 ·intro x hx
  obtain⟨a,ha,rfl⟩:=List.mem_map.1 hx
  have h1:=List.mem_filter.1 ha
  have h5:¬a<k:=by simpa using h1.2
  have h:=hvA a h1.1
  show lsum (ys.map fun i=>(UInt8.ofNat i,v i)) _=0
  rw[lsum_map,←h]
  unfold dot
  rw[lsum_filter (fun i=>!is.contains i) (List.range k)]
  ·apply lsum_congr
   intro i hi
   have h7:=(hys i hi).1
   rw[coefR_getD _ _ _ h7,if_neg h5,gmul_comm];rfl
  ·intro i hi hp
   have:i∈is:=by simpa using hp
   rw[hdata i this (List.mem_range.1 hi),gmul_zero]
end Go.Proofs.YtcfkllnpkmebpaaGreatDoor

namespace Go.Proofs.YtcfkllnpkmebpaaGreatDoor
open Go.RowKit
set_option linter.unusedVariables false
set_option linter.unusedSimpArgs false
theorem gm_high(a b:UInt8) (i:Nat) (h:b.toNat / 2 ^ i=0):∀n,gm (i+n) a b=gm i a b:=by
 intro n
 induction n with
 | zero=>rfl
 | succ n ih =>
  show gm (i+n) a b ^^^ (if bitU b (i+n) then xtK (i+n) a else 0)=_
  have hb:bitU b (i+n)=false:=by
   unfold bitU
   refine Nat.testBit_lt_two_pow ?_
   have h1:b.toNat<2 ^ i:=by
    rcases Nat.lt_or_ge b.toNat (2 ^ i) with h2 | h2
    ·exact h2
    ·have:=Nat.div_pos h2 (Nat.two_pow_pos i);omega
   exact Nat.lt_of_lt_of_le h1 (Nat.pow_le_pow_right (by omega) (by omega))
  rw[hb,ih];exact xor_zero _
theorem xt_int(a:UInt8):bits .xor .u8 ((a.toNat:Int) * 2 % 256) ((a.toNat:Int) / 128 * 29)=((xt a).toNat:Int) :=
 all8 (P:=fun a=>bits .xor .u8 ((a.toNat:Int) * 2 % 256) ((a.toNat:Int) / 128 * 29)=((xt a).toNat:Int)) (by decide +kernel) a
theorem mul_any(a b:UInt8) (w:World) :
  Calls Tryz.prog 214 #[.int .u8 (a.toNat:Int),.int .u8 (b.toNat:Int)] w fun e w'=>e=.returned (.int .u8 ((gmul a b).toNat:Int))∧w=w':=by
 have hb8:=b.toNat_lt
 go_enter Tryz.func214,Tryz.ntmps214
 go_wp2
 go_loop [0,1,5] (fun v0 v1 v5=>∃i:Nat,v0=.int .u8 ((xtK i a).toNat:Int)∧v1=.int .u8 ((b.toNat / 2 ^ i:Nat):Int)∧v5=.int .u8 ((gm i a b).toNat:Int)) (fun _ v1 _=>(intOf v1).toNat)
 case atStart=>exact⟨0,rfl,by simp,rfl⟩
 case round =>
  obtain⟨i,rfl,rfl,rfl⟩:=hrel
  obtain⟨n,hn⟩:=zx (b.toNat / 2 ^ i)
  rw[←hn]
  have hn8:n≤255:=by
   have:=Nat.div_le_self b.toNat (2 ^ i);omega
  have ha8:=byte_lt (xtK i a)
  have hg8:=byte_lt (gm i a b)
  have HN:=zh hn
  clear hn
  by_cases h0:n=0
  ·subst h0
   go_wp2
   go_ret
   have h:=gm_high a b i HN.out.symm (8 - i)
   have h8:gm i a b=gmul a b:=by
    rcases Nat.lt_or_ge i 8 with h1 | h1
    ·rw[←h,show i+(8 - i)=8 from by omega];rfl
    ·have h2:b.toNat / 2 ^ 8=0:=by omega
     have h3:=gm_high a b 8 h2 (i - 8)
     rw[show 8+(i - 8)=i from by omega] at h3
     exact h3
   rw[h8]
   exact⟨rfl,rfl⟩
  ·have h1:(0:Int)<(n:Int):=by omega
   have hd:((n:Int) / 2)=((b.toNat / 2 ^ (i+1):Nat):Int):=by
    rw[Nat.pow_succ,←Nat.div_div_eq_div_mul,←HN.out];omega
   have HD:=zh hd
   clear hd
   go_wp2
   ·have ht:(bits .and .u8 (n:Int) 1==1)=true:=by assumption
    have hb:bitU b i=true:=(bit_of (by omega) HN.out.symm).symm.trans ht
    refine⟨⟨i+1,?_,?_,?_⟩,by simp[intOf];omega⟩
    ·rw[xt_int];rfl
    ·rw[HD.out]
    ·rw[xor_int]
     show _=Value.int .u8 ((gm i a b ^^^ (if bitU b i then xtK i a else 0)).toNat:Int)
     rw[if_pos hb]
   ·have ht:(bits .and .u8 (n:Int) 1==1)=false:=by assumption
    have hb:bitU b i=false:=(bit_of (by omega) HN.out.symm).symm.trans ht
    refine⟨⟨i+1,?_,?_,?_⟩,by simp[intOf];omega⟩
    ·rw[xt_int];rfl
    ·rw[HD.out]
    ·show _=Value.int .u8 ((gm i a b ^^^ (if bitU b i then xtK i a else 0)).toNat:Int)
     rw[hb];simp
theorem i64_and_one(a:Nat) (ha:a<9223372036854775808):bits .and .i64 (a:Int) 1=((a % 2:Nat):Int):=by
 show IntKind.i64.wrap ((BitVec.ofInt 64 (a:Int) &&& BitVec.ofInt 64 ((1:Nat):Int)).toNat:Int)=_
 rw[BitVec.toNat_and,ofInt_nat a ha,ofInt_nat 1 (by omega),IntKind.wrap_i64,Nat.and_one_is_mod]
 omega
theorem pow_step(a:UInt8) (o:UInt8) (n:Nat) (h:n % 2=1):gmul (gmul o a) (gpow (gmul a a) (n / 2))=gmul o (gpow a n):=by
 rw[gpow_sq,gmul_assoc]
 congr 1
 have e:n=1+2 * (n / 2):=by omega
 have h1:gpow a 1=a:=one_gmul a
 rw[e,gpow_add,h1,show(1+2 * (n / 2)) / 2=n / 2 from by omega]
theorem pow_skip(a:UInt8) (o:UInt8) (n:Nat) (h:n % 2=0):gmul o (gpow (gmul a a) (n / 2))=gmul o (gpow a n):=by
 rw[gpow_sq,show 2 * (n / 2)=n from by omega]
theorem power_any(a:UInt8) (n:Nat) (w:World) (hn:n≤65536) :
  Calls Tryz.prog 242 #[.int .u8 (a.toNat:Int),.int .i64 (n:Int)] w fun e w'=>e=.returned (.int .u8 ((gpow a n).toNat:Int))∧w=w':=by
 go_enter Tryz.func242,Tryz.ntmps242
 go_wp2
 go_loop [0,1,5] (fun v0 v1 v5=>∃(x o:UInt8) (k:Nat),v0=.int .u8 (x.toNat:Int)∧v1=.int .i64 (k:Int)∧v5=.int .u8 (o.toNat:Int)∧k≤n∧Hid (gmul o (gpow x k)=gpow a n)) (fun _ v1 _=>(intOf v1).toNat)
 case atStart=>exact⟨a,1,n,rfl,rfl,rfl,Nat.le_refl _,one_gmul _⟩
 case round =>
  obtain⟨x,o,k,rfl,rfl,rfl,hk,HI⟩:=hrel
  by_cases h0:k=0
  ·subst h0
   go_wp2
   go_ret
   have h:=HI.out
   rw[show gpow x 0=1 from rfl,gmul_one] at h
   rw[h]
   exact⟨rfl,rfl⟩
  ·have h1:(0:Int)<(k:Int):=by omega
   go_wp2_with (go_at_call 214;refine(mul_any _ _ _).mono ?_;rintro e w' ⟨rfl,rfl⟩)
   ·have ht:(bits .and .i64 (k:Int) 1==1)=true:=by assumption
    rw[i64_and_one k (by omega)] at ht
    have h2:k % 2=1:=by simp at ht;omega
    exact⟨⟨_,_,k / 2,rfl,by go_num,rfl,by omega,(pow_step x o k h2).trans HI.out⟩,by simp[intOf];omega⟩
   ·have ht:(bits .and .i64 (k:Int) 1==1)=false:=by assumption
    rw[i64_and_one k (by omega)] at ht
    have h2:k % 2=0:=by simp at ht;omega
    exact⟨⟨_,_,k / 2,rfl,by go_num,rfl,by omega,(pow_skip x o k h2).trans HI.out⟩,by simp[intOf];omega⟩
theorem inv_any(a:UInt8) (w:World) :
  Calls Tryz.prog 213 #[.int .u8 (a.toNat:Int)] w fun e w'=>e=.returned (.tuple #[.int .u8 ((ginv a).toNat:Int),.int .i64 (invE a)])∧w=w':=by
 by_cases h:a=0
 ·subst h
  rw[ginv_zero,show invE 0=3 from rfl]
  have h0:((UInt8.toNat 0:Nat):Int)=0:=rfl
  rw[h0]
  go_enter Tryz.func213,Tryz.ntmps213
  go_wp2
  go_ret2
  exact⟨rfl,rfl⟩
 ·have h0:((a.toNat:Int)==0)=false:=by
   rw[beq_eq_false_iff_ne];intro e;apply h;apply UInt8.toNat_inj.1;rw[show(0:UInt8).toNat=0 from rfl];omega
  have he:invE a=0:=if_neg h
  rw[he]
  have HP:=zh (fun W'=>power_any a 254 W' (by omega))
  clear h he
  go_enter Tryz.func213,Tryz.ntmps213
  go_wp2_with fail
  refine(HP.out _).mono ?_
  rintro e w' ⟨rfl,rfl⟩
  go_wp2
  go_ret2
  exact⟨rfl,rfl⟩
end Go.Proofs.YtcfkllnpkmebpaaGreatDoor

namespace Go.Proofs.YtcfkllnpkmebpaaGreatDoor
open Go.RowKit
set_option linter.unusedVariables false
set_option linter.unusedSimpArgs false
theorem mk_rows(n:Nat) (hn:n≤1048576):∀w:World,(Instr.makeSlice 90 (.int .i64 (n:Int)) (.int .i64 (n:Int))).run Tryz.prog w=.ok (.slice (some ⟨w.heap.size,0,none⟩) n n) (w.alloc (.cells (Array.replicate n (.slice none 0 0)) 53)):=by
 intro w
 obtain⟨i0,hi0,hz0,hz1,hz2⟩:=info_parts info_row
 have h:=run_make (P:=Tryz.prog) w 90 53 i0 _ Tryz.underlying90 hi0 hz0 .i64 .i64 (n:Int) (n:Int) (by omega) (by omega) (by rw[hz2];omega) (by omega)
 rw[hz1] at h
 simpa[madeCells_one,Value.cells] using h
theorem BlkB.other{W:World} {g b j:Nat} {l:List UInt8} (h:BlkB W g l) (hb:g≠b) (v:Value):BlkB (W.setCell ⟨b,j,none⟩ v) g l:=(heap_setCell_other W ⟨b,j,none⟩ g v hb).trans h
theorem ByS.all{w:World} {R:Nat→Prop} {A:Option Addr} {n c:Nat} {l:List UInt8} (h:ByS w R (.slice A n c) l) (hk:0<l.length):∃b off,A=some ⟨b,off,none⟩∧R b∧∀k (h:k<l.length),w.cell? ⟨b,off+k,none⟩=some (.int .u8 (l[k].toNat:Int)):=by
 obtain⟨A',c',e,_,_,h3⟩:=h
 obtain⟨b,off,e2,hb,hc⟩:=h3 hk
 injection e with e
 exact⟨b,off,e.trans e2,hb,fun k hk=>hc k _ (List.getElem?_eq_getElem hk)⟩
theorem ByS.below{w w':World} {v:Value} {l:List UInt8} (h:ByS w (Bl w.heap.size) v l) (hb:Below w.heap.size w w'):ByS w' (Bl w'.heap.size) v l:=(h.keep (kept_below hb)).mono (Bl.mono hb.size)
theorem MatS.takeS{w:World} {R:Nat→Prop} {A:Option Addr} {n c k:Nat} {t:Mat} (h:MatS w R (.slice A n c) t) (hk:k≤t.length) {c':Nat} (hc':k≤c'):MatS w R (.slice A k c') (t.take k):=by
 obtain⟨A',c1,e,h1,h2,h3⟩:=h
 injection e with e1 e2 e3
 subst e1
 have hl:(t.take k).length=k:=by rw[List.length_take];omega
 refine⟨_,_,by rw[hl],by rw[hl];exact hc',by rw[hl];omega,fun hn=>?_⟩
 obtain⟨b,off,e2,hb,hc⟩:=h3 (by omega)
 refine⟨b,off,e2,hb,fun j r hr=>hc j r ?_⟩
 have hj:j<(t.take k).length:=(List.getElem?_eq_some_iff.1 hr).1
 rw[hl] at hj
 rwa [List.getElem?_take_of_lt hj] at hr
end Go.Proofs.YtcfkllnpkmebpaaGreatDoor

namespace Go.Proofs.YtcfkllnpkmebpaaGreatDoor
open Go.RowKit
set_option linter.unusedVariables false
set_option linter.unusedSimpArgs false
theorem coefficient_any(j i:Nat) (w:World) (hj:j<64) (hi:i<64) :
  Calls Tryz.prog 212 #[.int .i64 (j:Int),.int .i64 (i:Int)] w fun e w'=>e=.returned (.int .u8 ((coef j i).toNat:Int))∧w=w':=by
 obtain⟨c,hc⟩:=zx (UInt8.ofNat (128+j) ^^^ UInt8.ofNat i)
 have hx:=coef_arg j i hj hi
 have hcf:coef j i=ginv c:=by rw[hc];rfl
 rw[←hc] at hx
 rw[hcf]
 have HX:=zh hx
 clear hc hx hcf
 go_enter Tryz.func212,Tryz.ntmps212
 go_wp2_with fail
 rw[HX.out]
 refine(inv_any c _).mono ?_
 rintro e w' ⟨rfl,rfl⟩
 go_wp2
 go_ret
 exact⟨rfl,rfl⟩
theorem coef_unit(k a:Nat) (h:a<k):(List.replicate k (0:UInt8)).set a 1=coefR k a:=by
 apply List.ext_getElem
 ·simp[coefR]
 ·intro i h1 h2
  rw[List.getElem_set]
  simp only[coefR,List.getElem_map,List.getElem_range,List.getElem_replicate,if_pos h]
  by_cases e:a=i
  ·rw[if_pos e,if_pos e.symm]
  ·rw[if_neg e,if_neg (fun h=>e h.symm)]
theorem coefficients_any(k a:Nat) (w:World) (hk:k<64) (ha:a<k+64) :
  Calls Tryz.prog 155 #[.int .i64 (k:Int),.int .i64 (a:Int)] w fun e w'=>∃v,e=.returned v∧ByS w' (Fr w.heap.size w'.heap.size) v (coefR k a)∧Below w.heap.size w w':=by
 have hmk:=mk_u8 k (by omega)
 have hB:=BlkB.new w k
 have hb1:Below w.heap.size w (w.alloc (.cells (Array.replicate k (.int .u8 0)) 5)):=(Below.refl _ _).alloc (Nat.le_refl _) _
 by_cases hak:a<k
 ·go_enter Tryz.func155,Tryz.ntmps155
  go_upto_if 11 with fail
  obtain⟨g,hg⟩:=zx w.heap.size
  rw[←hg] at hB ⊢
  have hgw:w.heap.size≤g:=by omega
  generalize w.alloc (.cells (Array.replicate k (.int .u8 0)) 5)=w1 at *
  have c0:=hB.cell (j:=a) (by simpa using hak)
  have f0:=hB.free a
  clear hg hmk
  go_wp2
  go_ret
  have hB2:=hB.set a 1
  rw[coef_unit k a hak] at hB2
  have hby:=hB2.byS (c:=k) (by rw[coefR_length];exact Nat.le_refl _) (by rw[coefR_length];unfold maxLen;omega) (R:=Fr w.heap.size _) ⟨hgw,hB2.lt⟩
  rw[coefR_length] at hby
  exact⟨_,rfl,hby,hb1.setCell hgw _⟩
 ·go_enter Tryz.func155,Tryz.ntmps155
  go_upto_if 11 with fail
  obtain⟨g,hg⟩:=zx w.heap.size
  rw[←hg] at hB ⊢
  have hgw:w.heap.size≤g:=by omega
  generalize w.alloc (.cells (Array.replicate k (.int .u8 0)) 5)=w1 at *
  obtain⟨d,hd⟩:∃d,a=k+d:=⟨a - k,by omega⟩
  subst hd
  clear hg hak hmk
  go_wp2
  go_loopg [18] k (fun n v18 wr=>∃j:Nat,j≤k∧n=k - j∧v18=.int .i64 (j:Int)∧BlkB wr g (coefP k (k+d) j)∧Below w.heap.size w wr)
  case atStart=>exact⟨0,by omega,rfl,rfl,by rw[coefP_zero];exact hB,hb1⟩
  case round =>
   clear hB hb1
   obtain⟨j,hj,rfl,rfl,hB,hb⟩:=hrel
   by_cases hlt:j<k
   ·have c0:=hB.cellD (j:=j) (by rw[coefP_length];exact hlt)
    have f0:=hB.free j
    have hc:(coefR k (k+d)).getD j 0=coef d j:=by rw[coefR_getD _ _ _ hlt,if_neg (by omega),Nat.add_sub_cancel_left]
    have HC:=zh hc
    have e1:(k:Int)+(d:Int) - (k:Int)=(d:Int):=by omega
    clear hc
    go_wp2_with fail
    refine(coefficient_any d j _ (by omega) (by omega)).mono ?_
    rintro e w' ⟨rfl,rfl⟩
    go_wp2
    go_roundg (k - (j+1))
    case measure=>omega
    case rel =>
     have hB2:=hB.set j (coef d j)
     rw[←HC.out,coefP_step _ _ _ hlt] at hB2
     exact⟨j+1,by omega,rfl,by go_num,by rw[←HC.out];exact hB2,hb.setCell hgw _⟩
   ·obtain rfl:j=k:=by omega
    go_wp2
    go_ret
    rw[coefP_all] at hB
    have hby:=hB.byS (c:=j) (by rw[coefR_length];exact Nat.le_refl _) (by rw[coefR_length];unfold maxLen;omega) (R:=Fr w.heap.size _) ⟨hgw,hB.lt⟩
    rw[coefR_length] at hby
    exact⟨_,rfl,hby,hb⟩
end Go.Proofs.YtcfkllnpkmebpaaGreatDoor

namespace Go.Proofs.YtcfkllnpkmebpaaGreatDoor
open Go.RowKit
set_option linter.unusedVariables false
set_option linter.unusedSimpArgs false
theorem combine_any(vc vt:Value) (cs:List UInt8) (t:Mat) (m:Nat) (w:World) (hc:ByS w (Bl w.heap.size) vc cs) (ht:MatS w (Bl w.heap.size) vt t) (hl:cs.length=t.length) (h0:0<t.length) (hn:t.length≤64) (hw:Wide t m) (hm:m≤65536) :
  Calls Tryz.prog 157 #[vc,vt] w fun e w'=>∃v,e=.returned (.tuple #[v,.int .i64 0])∧ByS w' (Fr w.heap.size w'.heap.size) v (combT cs t m)∧Below w.heap.size w w':=by
 obtain⟨Ac,cc,rfl,-,-⟩:=hc.form
 obtain⟨At,ct,rfl,hct,-⟩:=ht.form
 obtain⟨bt,ot,va0,rfl,hRt,ca0,hva0⟩:=ht.at_ h0
 obtain⟨A0,c0,rfl,-,-⟩:=hva0.form
 have hm0:=hw _ (List.getElem_mem h0)
 rw[hm0,Nat.add_zero] at ca0
 rw[hl] at hc ⊢
 have HL:=zh hl
 have hmk:=mk_u8 m (by omega)
 have hB:=BlkB.new w m
 have hb1:Below w.heap.size w (w.alloc (.cells (Array.replicate m (.int .u8 0)) 5)):=(Below.refl _ _).alloc (Nat.le_refl _) _
 have e0:((t.length:Int)==0)=false:=by rw[beq_eq_false_iff_ne];omega
 have hti:(0:Int)<(t.length:Int):=by omega
 clear hl hm0 hva0
 go_enter Tryz.func157,Tryz.ntmps157
 go_wp2
 obtain⟨g,hg⟩:=zx w.heap.size
 rw[←hg] at hB ⊢
 have hgw:w.heap.size≤g:=by omega
 generalize w.alloc (.cells (Array.replicate m (.int .u8 0)) 5)=w1 at *
 clear hg hmk ca0
 go_loopg [28] t.length (fun n v28 wr=>∃r:Nat,r≤t.length∧n=t.length - r∧v28=.int .i64 (r:Int)∧BlkB wr g (combP cs t m r 0)∧Below w.heap.size w wr)
 case atStart=>exact⟨0,by omega,rfl,rfl,by rw[combP_start];exact hB,hb1⟩
 case round =>
  clear hB hb1
  obtain⟨r,hr,rfl,rfl,hB,hb⟩:=hrel
  by_cases hlt:r<t.length
  ·obtain⟨b1,o1,va,hA1,hR1,c1,hva⟩:=ht.at_ hlt
   obtain⟨rfl,rfl⟩:bt=b1∧ot=o1:=by injection hA1 with h;injection h with h1 h2;exact⟨h1,h2⟩
   obtain⟨bc,oc,rfl,hRc,cc1⟩:=hc.at_ (k:=r) (by rw[HL.out];exact hlt)
   have hmr:=hw _ (List.getElem_mem hlt)
   have hrow:=getD_lt t [] hlt
   generalize t[r]=row at *
   obtain⟨A1,c1',rfl,-,-⟩:=hva.form
   rw[hmr] at c1 hva
   have HROW:=zh hrow
   have HMR:=zh hmr
   have hcr:=getD_lt cs 0 (i:=r) (by rw[HL.out];exact hlt)
   rw[←hcr] at cc1
   have c1w:=(hb.cell (p:=⟨bt,ot+r,none⟩) hR1).trans c1
   have HC1:=zh cc1
   clear hrow hmr hcr hA1 c1 cc1
   go_wp2
   go_loopg [40] m (fun n v40 wx=>∃j:Nat,j≤m∧n=m - j∧v40=.int .i64 (j:Int)∧BlkB wx g (combP cs t m r j)∧Below w.heap.size w wx)
   case atStart=>exact⟨0,by omega,rfl,rfl,hB,hb⟩
   case round =>
    clear hB hb c1w
    obtain⟨j,hj,rfl,rfl,hB,hb⟩:=hrel
    by_cases hjt:j<m
    ·obtain⟨b2,o2,rfl,hR2,c2⟩:=hva.at_ (k:=j) (by rw[HMR.out];exact hjt)
     have hen:row[j]'(by rw[HMR.out];exact hjt)=en t r j:=by
      unfold en;rw[HROW.out,getD_lt row 0 (by rw[HMR.out];exact hjt)]
     rw[hen] at c2
     have c2w:=(hb.cell (p:=⟨b2,o2+j,none⟩) hR2).trans c2
     have cc2:=(hb.cell (p:=⟨bc,oc+r,none⟩) hRc).trans HC1.out
     have c0:=hB.cellD (j:=j) (by rw[combP_length];exact hjt)
     have f0:=hB.free j
     obtain⟨y,hy⟩:=zx (en t r j)
     obtain⟨f,hf⟩:=zx (cs.getD r 0)
     rw[←hy] at c2w
     rw[←hf] at cc2
     have hstep:=combP_step cs t m r j hjt
     have hcf:combF cs t j r=gmul f y:=by rw[hf,hy];rfl
     rw[hcf] at hstep
     generalize (combP cs t m r j).getD j 0=x at *
     have HS:=zh hstep
     clear hen c2 hy hf hstep hcf
     go_wp2_with fail
     go_still_tail 12,(by kernel_rfl)
     still_call (Calls.eqw (mul_any f y _))
     repeat still_step
     refine wpStill_nil ?_
     change wpList _ _ _ _ _ (World.drew _)
     go_wp2
     go_roundg (m - (j+1))
     case measure=>omega
     case rel =>
      have hB2:=(hB.set j (x ^^^ gmul f y)).drewN 1
      rw[HS.out] at hB2
      exact⟨j+1,by omega,rfl,by go_num,by rw[xor_int];exact hB2,(hb.setCell hgw _).drew⟩
    ·obtain rfl:j=m:=by omega
     go_wp2
     go_roundg (t.length - (r+1))
     case measure=>omega
     case rel=>exact⟨r+1,by omega,rfl,by go_num,by rw[←combP_row];exact hB,hb⟩
  ·obtain rfl:r=t.length:=by omega
   go_wp2
   go_ret2
   rw[combP_end] at hB
   have hby:=hB.byS (c:=m) (by rw[combT_length];exact Nat.le_refl _) (by rw[combT_length];unfold maxLen;omega) (R:=Fr w.heap.size _) ⟨hgw,hB.lt⟩
   rw[combT_length] at hby
   exact⟨_,rfl,hby,hb⟩
end Go.Proofs.YtcfkllnpkmebpaaGreatDoor

namespace Go.Proofs.YtcfkllnpkmebpaaGreatDoor
open Go.RowKit
set_option linter.unusedVariables false
set_option linter.unusedSimpArgs false
def rowV(m q:Nat):Value:=.slice (some ⟨q,0,none⟩) m m
structure MatW (W:World) (B g:Nat) (qs:List Nat) (t:Mat) (m:Nat) (rest:List Value):Prop where
 outer:W.heap[g]?=some (.cells (qs.map (rowV m)++rest).toArray 53 (0,0))
 len:qs.length=t.length
 inj:∀i j,i<t.length→j<t.length→qs.getD i 0=qs.getD j 0→i=j
 inner:∀i,i<t.length→BlkB W (qs.getD i 0) (t.getD i [])
 wide:Wide t m
 base:∀i,i<t.length→B≤qs.getD i 0
 bg:B≤g
 ng:∀i,i<t.length→qs.getD i 0≠g
section
variable {W : World} {B g : Nat} {qs : List Nat} {t : Mat} {m : Nat} {rest : List Value}
theorem MatW.cellO(h:MatW W B g qs t m rest) {i:Nat} (hi:i<t.length):W.cell? ⟨g,i,none⟩=some (.slice (some ⟨qs.getD i 0,0,none⟩) m m):=by
 have hl:=h.len
 rw[cell_of_row W g i _ _ _ h.outer]
 rw[List.getElem?_toArray,List.getElem?_append_left (by simp;omega),List.getElem?_map,List.getElem?_eq_getElem (by omega),getD_lt _ _ (by omega)]
 rfl
theorem MatW.freeO(h:MatW W B g qs t m rest) (i:Nat):W.frozen? ⟨g,i,none⟩=false:=frozen_of_row W g i _ _ h.outer
theorem MatW.ltO(h:MatW W B g qs t m rest):g<W.heap.size:=by
 have h1:=h.outer
 rcases Nat.lt_or_ge g W.heap.size with h2 | h2
 ·exact h2
 ·rw[Array.getElem?_eq_none h2] at h1;cases h1
theorem MatW.rowlen(h:MatW W B g qs t m rest) {i:Nat} (hi:i<t.length):(t.getD i []).length=m:=h.wide.getD hi
theorem MatW.cellI(h:MatW W B g qs t m rest) {i j:Nat} (hi:i<t.length) (hj:j<m):W.cell? ⟨qs.getD i 0,j,none⟩=some (.int .u8 ((en t i j).toNat:Int)) :=
 (h.inner i hi).cellD (by rw[h.rowlen hi];exact hj)
theorem MatW.freeI(h:MatW W B g qs t m rest) {i:Nat} (hi:i<t.length) (j:Nat):W.frozen? ⟨qs.getD i 0,j,none⟩=false:=(h.inner i hi).free j
theorem MatW.drewN(h:MatW W B g qs t m rest) (n:Nat):MatW (W.drewN n) B g qs t m rest:=⟨h.outer,h.len,h.inj,h.inner,h.wide,h.base,h.bg,h.ng⟩
theorem set_length(t:Mat) (i:Nat) (r:List UInt8):(t.set i r).length=t.length:=by simp
theorem wide_set{t:Mat} {m:Nat} (h:Wide t m) (i:Nat) {r:List UInt8} (hr:r.length=m):Wide (t.set i r) m:=by
 intro x hx
 rcases List.mem_or_eq_of_mem_set hx with h1 | h1
 ·exact h x h1
 ·rw[h1];exact hr
theorem MatW.put(h:MatW W B g qs t m rest) {i j:Nat} (hi:i<t.length) (y:UInt8):MatW (W.setCell ⟨qs.getD i 0,j,none⟩ (.int .u8 (y.toNat:Int))) B g qs (t.set i ((t.getD i []).set j y)) m rest:=by
 refine⟨?_,by rw[set_length];exact h.len,?_,?_,wide_set h.wide i (by rw[List.length_set];exact h.rowlen hi),?_,h.bg,?_⟩
 ·exact(heap_setCell_other W _ g _ (fun e=>h.ng i hi e.symm)).trans h.outer
 ·intro a b ha hb;rw[set_length] at ha hb;exact h.inj a b ha hb
 ·intro a ha
  rw[set_length] at ha
  rw[getD_set _ _ _ _ _ hi]
  by_cases e:a=i
  ·rw[if_pos e,e];exact(h.inner i hi).set j y
  ·rw[if_neg e];exact(h.inner a ha).other (fun e2=>e (h.inj a i ha hi e2)) _
 ·intro a ha;rw[set_length] at ha;exact h.base a ha
 ·intro a ha;rw[set_length] at ha;exact h.ng a ha
def swapQ(qs:List Nat) (i j:Nat):List Nat:=(qs.set i (qs.getD j 0)).set j (qs.getD i 0)
theorem swapQ_getD(qs:List Nat) (a k i:Nat) (ha:a<qs.length) (hk:k<qs.length):(swapQ qs a k).getD i 0=qs.getD (if i=k then a else if i=a then k else i) 0:=by
 unfold swapQ
 rw[getD_set _ _ _ _ _ (by simpa using hk),getD_set _ _ _ _ _ ha]
 by_cases h1:i=k
 ·rw[if_pos h1,if_pos h1]
 ·rw[if_neg h1,if_neg h1]
  by_cases h2:i=a
  ·rw[if_pos h2,if_pos h2]
  ·rw[if_neg h2,if_neg h2]
theorem MatW.swap(h:MatW W B g qs t m []) {a k:Nat} (ha:a<t.length) (hk:k<t.length) :
  MatW ((W.setCell ⟨g,a,none⟩ (rowV m (qs.getD k 0))).setCell ⟨g,k,none⟩ (rowV m (qs.getD a 0))) B g (swapQ qs a k) (swapL t a k) m []:=by
 have hl:=h.len
 have hsl:=swapL_length t a k
 have hq:=fun i=>swapQ_getD qs a k i (by omega) (by omega)
 have ht:=fun i=>swapL_getD t a k i ha hk
 have hlt:∀i,i<t.length→(if i=k then a else if i=a then k else i)<t.length:=fun i hi=>by split;exact ha;split;exact hk;exact hi
 refine⟨?_,by simp[swapQ,hl,hsl],?_,?_,?_,?_,h.bg,?_⟩
 ·rw[heap_setCell_same _ g k _ _ _ (heap_setCell_same W g a _ _ _ h.outer)]
  simp[swapQ,List.map_set]
 ·intro i j hi hj e
  rw[hsl] at hi hj
  rw[hq,hq] at e
  have h2:=h.inj _ _ (hlt i hi) (hlt j hj) e
  revert h2
  split <;> (try split) <;> (try split) <;> (try split) <;> intro h2 <;> omega
 ·intro i hi
  rw[hsl] at hi
  rw[hq,ht]
  exact((h.inner _ (hlt i hi)).other (h.ng _ (hlt i hi)) _).other (h.ng _ (hlt i hi)) _
 ·intro r hr
  obtain⟨i,hi,rfl⟩:=List.getElem_of_mem hr
  have e:=ht i
  rw[getD_lt _ _ hi] at e
  rw[e]
  exact h.wide.getD (hlt i (by omega))
 ·intro i hi;rw[hsl] at hi;rw[hq];exact h.base _ (hlt i hi)
 ·intro i hi;rw[hsl] at hi;rw[hq];exact h.ng _ (hlt i hi)
end
end Go.Proofs.YtcfkllnpkmebpaaGreatDoor
