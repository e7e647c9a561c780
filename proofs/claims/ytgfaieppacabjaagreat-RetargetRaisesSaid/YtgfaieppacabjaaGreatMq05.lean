/- Parts. -/
import Derived.Test.YtgfaieppacabjaaGreatMq04
import Derived.Deep.AppendLies
import Derived.WideKeyEntry
import Derived.Maps.RangeWalk
import Derived.Lib.BufferWrite
import Derived.Deep.CutBlock
set_option linter.unusedSectionVars false
set_option maxRecDepth 100000
set_option maxHeartbeats 12800000
set_option linter.unusedVariables false
set_option linter.unusedSimpArgs false
namespace Go.Proofs.YtgfaieppacabjaaGreat
theorem limbs_small{n:Nat}(h:n<4294967296):limbs n=natL n:=nv_top_inj (lim_limbs _) (natL_mem h) (top_limbs _) (top_natL n) (by rw[nv_limbs,nv_natL h])
theorem limbs_len1{n:Nat}:(limbs n).length<=1↔n<4294967296:=by
 constructor
 ·intro h;have h1:=nv_lt (lim_limbs n);rw[nv_limbs] at h1;have:4294967296 ^ (limbs n).length<=4294967296 ^ 1:=Nat.pow_le_pow_right (by omega) h;simp only[Nat.pow_one] at this;omega
 ·intro h;rw[limbs_small h];exact natL_length n
theorem limbs_len(n:Nat)(k:Nat)(h:n<4294967296 ^ k):(limbs n).length<=k:=by
 rcases Nat.lt_or_ge k (limbs n).length with hlt | hge
 ·have h2:=nv_ge (top_limbs n) (by intro e;rw[e] at hlt;simp at hlt);rw[nv_limbs] at h2;have h3:4294967296 ^ k<=4294967296 ^ ((limbs n).length-1):=Nat.pow_le_pow_right (by omega) (by omega);omega
 ·exact hge
structure DigAt (U V P V2 U3:Nat):Prop where
 pos:0<P
 vlo:V2*P<=V
 ulo:U3*P<=U
 uhi:U<(U3+1)*P
 vhi:V<(V2+1)*P
 big:4294967296*P<=V
theorem DigAt.vpos{U V P V2 U3:Nat}(h:DigAt U V P V2 U3):0<V:=zM (by have:=h.pos;omega) h.big
theorem DigAt.less{U V P V2 U3 g:Nat}(h:DigAt U V P V2 U3)(hg:U3<g*V2):U / V<g:=by
 rw[Nat.div_lt_iff_lt_mul h.vpos]
 calc U<(U3+1)*P:=h.uhi
  _<=(g*V2)*P:=Nat.mul_le_mul_right _ hg
  _=g*(V2*P):=Nat.mul_assoc _ _ _
  _<=g*V:=Nat.mul_le_mul_left _ h.vlo
theorem DigAt.near{U V P V2 U3 g:Nat}(h:DigAt U V P V2 U3)(hg:g*V2<=U3)(hB:g<4294967296):g<=U / V+1:=by
 rcases Nat.eq_zero_or_pos g with h0 | h0
 ·rw[h0];exact Nat.zero_le _
 ·have h1:(g-1)*V<=U:=by
   have h2:g*V<=U+V:=by
    have h3:g*V<=g*((V2+1)*P):=Nat.mul_le_mul_left _ (Nat.le_of_lt h.vhi)
    have h4:g*((V2+1)*P)=g*V2*P+g*P:=by rw[Nat.add_mul,Nat.mul_add,Nat.one_mul,Nat.mul_assoc]
    have h5:g*V2*P<=U3*P:=Nat.mul_le_mul_right _ hg;have h6:g*P<=4294967296*P:=Nat.mul_le_mul_right _ (Nat.le_of_lt hB);have:=h.ulo;have:=h.big;omega
   rw[Nat.sub_mul,Nat.one_mul];omega
  have:=(Nat.le_div_iff_mul_le h.vpos).2 h1;generalize U / V=c at *;omega
theorem DigAt.first{U V P next u2 top head:Nat}(h:DigAt U V P (top*4294967296+next) (head*4294967296+u2))(hu2:u2<4294967296)(ht:0<top):U / V<=head / top:=by
 rw[Nat.le_div_iff_mul_le ht];have h1:U / V*V<=U:=Nat.div_mul_le_self U V;have h2:U / V*((top*4294967296+next)*P)<=U:=Nat.le_trans (Nat.mul_le_mul_left _ h.vlo) h1;have h3:=h.uhi
 have h4:(U / V*(top*4294967296+next))*P<(head*4294967296+u2+1)*P:=by rw[Nat.mul_assoc];omega
 have h5:=Nat.lt_of_mul_lt_mul_right h4;rw[Nat.mul_add] at h5
 have h6:U / V*top*4294967296<(head+1)*4294967296:=by
  have:U / V*(top*4294967296)=U / V*top*4294967296:=(Nat.mul_assoc _ _ _).symm;omega
 have:=Nat.lt_of_mul_lt_mul_right h6;omega
theorem two_top(l:List Nat)(a b:Nat):nv (l++[a,b])=nv l+4294967296 ^ l.length*(a+4294967296*b):=by rw[nv_append];simp[nv]
theorem three_top(l:List Nat)(a b c:Nat):nv (l++[a,b,c])=nv l+4294967296 ^ l.length*(a+4294967296*(b+4294967296*c)):=by rw[nv_append];simp[nv]
theorem dig_of{ul vl:List Nat}{u2 u1 u0 next top:Nat}(hul:Lim ul)(hvl:Lim vl)(hl:ul.length=vl.length)(hnext:next<4294967296)(htop:0<top) :
  DigAt (nv (ul++[u2,u1,u0])) (nv (vl++[next,top])) (4294967296 ^ vl.length) (top*4294967296+next) ((u0*4294967296+u1)*4294967296+u2):=by
 have h1:=nv_lt hul;have h2:=nv_lt hvl;rw[two_top,three_top,hl];rw[hl] at h1;generalize 4294967296 ^ vl.length=P at *
 have hP:0<P:=by omega
 have e1:P*(next+4294967296*top)=(top*4294967296+next)*P:=by rw[Nat.mul_comm P];congr 1;omega
 have e2:P*(u2+4294967296*(u1+4294967296*u0))=((u0*4294967296+u1)*4294967296+u2)*P:=by rw[Nat.mul_comm P];congr 1;omega
 rw[e1,e2];refine⟨hP,Nat.le_add_left _ _,Nat.le_add_left _ _,?_,?_,?_⟩
 ·rw[Nat.add_mul _ 1];omega
 ·rw[Nat.add_mul _ 1];omega
 ·have h3:4294967296*P<=(top*4294967296+next)*P:=Nat.mul_le_mul_right _ (by omega);omega
theorem top_le{ul vl:List Nat}{a b:Nat}(hvl:Lim vl)(hl:ul.length=vl.length+1)(h:nv (ul++[a])<nv (vl++[b])*4294967296):a<=b:=by
 rw[nv_snoc,nv_snoc,hl,Nat.pow_succ] at h;have h1:=nv_lt hvl;generalize 4294967296 ^ vl.length=P at *;rcases Nat.lt_or_ge b a with hlt | hge
 ·exfalso
  have h2:(b+1)*P<=a*P:=Nat.mul_le_mul_right _ hlt;rw[Nat.add_mul,Nat.one_mul] at h2
  have e1:P*4294967296*a=a*P*4294967296:=by rw[Nat.mul_comm (P*4294967296),Nat.mul_assoc]
  have e2:P*b=b*P:=Nat.mul_comm _ _;omega
 ·exact hge
theorem top_lt{ul vl:List Nat}{a b:Nat}(hul:Lim ul)(hl:ul.length=vl.length)(h:a<b):nv (ul++[a])<nv (vl++[b]):=by
 rw[nv_snoc,nv_snoc,hl];have h1:=nv_lt hul;rw[hl] at h1;generalize 4294967296 ^ vl.length=P at *;have h2:(a+1) * P<=b * P:=Nat.mul_le_mul_right _ h;rw[Nat.add_mul,Nat.one_mul] at h2;have e1:P * a=a * P:=Nat.mul_comm _ _;have e2:P * b=b * P:=Nat.mul_comm _ _;omega
open Go.RowKit
structure Frc where
 neg:Bool
 num:Nat
 den:Nat
def FrcS(w:World)(R:Nat->Prop)(v:Value)(x:Frc):Prop:=∃vn vd,v=.agg #[.bool x.neg,vn,vd]/\LS w R vn (natL x.num)/\LS w R vd (natL x.den)
def lowF(neg:Bool)(n m:Nat):Frc:=if n=0 then⟨false,0,1⟩ else⟨neg,n / Nat.gcd n m,m / Nat.gcd n m⟩
theorem cells3{W:World}{g:Nat}{a b c:Value}{t:TypeId}(h:W.heap[g]?=some (.cells #[a,b,c] t (0,0))):W.cell? ⟨g,0,none⟩=some a/\W.cell? ⟨g,1,none⟩=some b/\W.cell? ⟨g,2,none⟩=some c/\W.frozen? ⟨g,0,none⟩=false/\W.frozen? ⟨g,1,none⟩=false/\W.frozen? ⟨g,2,none⟩=false :=
 ⟨by rw[cell_of_row _ _ _ _ _ _ h];rfl,by rw[cell_of_row _ _ _ _ _ _ h];rfl,by rw[cell_of_row _ _ _ _ _ _ h];rfl,frozen_of_row _ _ _ _ _ h,frozen_of_row _ _ _ _ _ h,frozen_of_row _ _ _ _ _ h⟩
theorem store3{w:World}{g:Nat}{a b c x y z:Value}{t:TypeId}(h:w.heap[g]?=some (.cells #[a,b,c] t (0,0))):(((w.setCell ⟨g,0,none⟩ x).setCell ⟨g,1,none⟩ y).setCell ⟨g,2,none⟩ z).heap[g]?=some (.cells #[x,y,z] t (0,0)) :=
 heap_setCell_same _ g 2 _ _ z (heap_setCell_same _ g 1 _ _ y (heap_setCell_same _ g 0 _ _ x h))
theorem below_set3{B:Nat}{a w:World}(h:Below B a w){g:Nat}(hg:B<=g)(x y z:Value):Below B a (((w.setCell ⟨g,0,none⟩ x).setCell ⟨g,1,none⟩ y).setCell ⟨g,2,none⟩ z) :=
 ((h.setCell (p:=⟨g,0,none⟩) hg x).setCell (p:=⟨g,1,none⟩) hg y).setCell (p:=⟨g,2,none⟩) hg z
theorem kept_set3(w:World)(g:Nat)(x y z:Value)(R:Nat->Prop)(hR:∀b,R b->b≠g):Kept R w (((w.setCell ⟨g,0,none⟩ x).setCell ⟨g,1,none⟩ y).setCell ⟨g,2,none⟩ z):=fun b hb =>
 ((Below.heap_setCell _ ⟨g,2,none⟩ z b (hR b hb)).trans (Below.heap_setCell _ ⟨g,1,none⟩ y b (hR b hb))).trans (Below.heap_setCell _ ⟨g,0,none⟩ x b (hR b hb))
theorem LS.lim{w:World}{R:Nat->Prop}{v:Value}{l:List Nat}(h:LS w R v l):Lim l:=h.2
theorem LS.reads{w:World}{R:Nat->Prop}{A:Option Addr}{n c:Nat}{l:List Nat}(h:LS w R (.slice A n c) l)(h0:0<l.length):∃b off,A=some ⟨b,off,none⟩/\R b/\∀(i:Nat) (x:Nat),l[i]?=some x->∀w':World,w'.heap[b]?=w.heap[b]?->w'.cell? ⟨b,off+i,none⟩=some (.int .u32 (x:Int)):=by
 rcases h.1 with ⟨h1,h2⟩ | ⟨b,off,c2,h1,hlc,hcm,hRb,hcs⟩
 ·rw[h2] at h0;simp at h0
 ·injection h1 with h1;exact⟨b,off,h1,hRb,fun i x hx w' he=>(World.cell?_of_block he).trans (hcs i x hx)⟩
theorem box3{w wf:World}{g:Nat}{a b c:Value}{T:TypeId}(hk:wf.heap[g]?=some (.cells #[a,b,c] T (0,0)))(hb:Below w.heap.size w wf)(hg:w.heap.size<=g)(v0 v1 v2:Value){l1 l2:List Nat}{R1 R2:Nat->Prop}
  (h1:LS wf R1 v1 l1) (hr1:∀b,R1 b->b≠g/\w.heap.size<=b/\b<wf.heap.size) (h2:LS wf R2 v2 l2) (hr2:∀b,R2 b->b≠g/\w.heap.size<=b/\b<wf.heap.size) :
  ∀Wf,Wf=((wf.setCell ⟨g,0,none⟩ v0).setCell ⟨g,1,none⟩ v1).setCell ⟨g,2,none⟩ v2->Wf.cell? ⟨g,0,none⟩=some v0/\Wf.cell? ⟨g,1,none⟩=some v1/\Wf.cell? ⟨g,2,none⟩=some v2 /\
   LS Wf (Fr w.heap.size Wf.heap.size) v1 l1/\LS Wf (Fr w.heap.size Wf.heap.size) v2 l2/\Below w.heap.size w Wf:=by
 rintro Wf rfl;have hfin:=store3 (x:=v0) (y:=v1) (z:=v2) hk;obtain⟨x0,x1,x2,-,-,-⟩:=cells3 hfin
 have hsz:wf.heap.size=(((wf.setCell ⟨g,0,none⟩ v0).setCell ⟨g,1,none⟩ v1).setCell ⟨g,2,none⟩ v2).heap.size:=by simp
 refine⟨x0,x1,x2,?_,?_,below_set3 hb hg _ _ _⟩
 ·rw[<-hsz];exact(h1.keep (kept_set3 wf g v0 v1 v2 R1 (fun b hb=>(hr1 b hb).1))).mono (fun b hb=>(hr1 b hb).2)
 ·rw[<-hsz];exact(h2.keep (kept_set3 wf g v0 v1 v2 R2 (fun b hb=>(hr2 b hb).1))).mono (fun b hb=>(hr2 b hb).2)
theorem limbs_snoc{y:Nat}(h:0<y):∃m t,limbs y=m++[t]/\0<t/\t<4294967296/\Lim m:=by
 have h1:limbs y≠[]:=by rw[limbs_pos h];simp
 have e:=(List.dropLast_concat_getLast h1).symm;refine⟨(limbs y).dropLast,(limbs y).getLast h1,e,?_,lim_limbs y _ (List.getLast_mem h1),fun x hx=>lim_limbs y x (by rw[e];exact List.mem_append.2 (.inl hx))⟩;have:=top_limbs y ((limbs y).getLast h1) (List.getLast?_eq_some_getLast h1);omega
theorem limbs_le{x y:Nat}(h:x<=y):(limbs x).length<=(limbs y).length:=by
 refine limbs_len x _ (Nat.lt_of_le_of_lt h ?_);have:=nv_lt (lim_limbs y)
 rwa [nv_limbs] at this
theorem limbs_mono{x y k:Nat}(h:x<=y)(hy:(limbs y).length<=k):(limbs x).length<=k:=Nat.le_trans (limbs_le h) hy
def bl(n:Nat):Nat:=if n=0 then 0 else Nat.log2 n+1
theorem mk_u32n(n:Nat)(hn:n<=1048576):∀w:World,(Instr.makeSlice 24 (.int .i64 (n:Int)) (.int .i64 (n:Int))).run Tryz.prog w=.ok (.slice (some ⟨w.heap.size,0,none⟩) n n) (w.alloc (.cells (Array.replicate n (.int .u32 0)) 107)):=by
 intro w;obtain⟨i0,hi0,hz0,hz1,hz2⟩:=info_parts info_u32;have h:=run_make (P:=Tryz.prog) w 24 107 i0 _ Tryz.underlying24 hi0 hz0 .i64 .i64 (n:Int) (n:Int) (by omega) (by omega) (by rw[hz2];omega) (by omega);rw[hz1] at h
 simpa[madeCells_one,Value.cells] using h
def RowU(w:World)(g:Nat)(l:List Nat):Prop:=∃cs:Array Value,w.heap[g]?=some (.cells cs 107 (0,0))/\cs.toList=l.map u32V
theorem RowU.lt{w:World}{g:Nat}{l:List Nat}(h:RowU w g l):g<w.heap.size:=by
 obtain⟨cs,h1,-⟩:=h;exact(zA.1 h1).1
theorem RowU.cell{w:World}{g:Nat}{l:List Nat}(h:RowU w g l){k x:Nat}(hk:l[k]?=some x):w.cell? ⟨g,k,none⟩=some (.int .u32 (x:Int)):=by
 obtain⟨cs,h1,h2⟩:=h;rw[cell_of_row _ _ _ _ _ _ h1,<-Array.getElem?_toList,h2,List.getElem?_map,hk];rfl
theorem RowU.fz{w:World}{g:Nat}{l:List Nat}(h:RowU w g l)(k:Nat):w.frozen? ⟨g,k,none⟩=false:=by
 obtain⟨cs,h1,h2⟩:=h;exact frozen_of_row _ _ _ _ _ h1
theorem RowU.at_{w:World}{g:Nat}{l:List Nat}(h:RowU w g l){k:Nat}(hk:k<l.length):w.cell? ⟨g,k,none⟩=some (.int .u32 ((l.getD k 0:Nat):Int))/\w.frozen? ⟨g,k,none⟩=false :=
 ⟨h.cell (by rw[List.getD_eq_getElem?_getD,zG hk];rfl),h.fz k⟩
theorem RowU.of{w w':World}{g:Nat}{l:List Nat}(h:RowU w g l)(e:w'.heap[g]?=w.heap[g]?):RowU w' g l:=by
 obtain⟨cs,h1,h2⟩:=h;exact⟨cs,e.trans h1,h2⟩
theorem RowU.below{w w':World}{g:Nat}{l:List Nat}(h:RowU w g l)(hb:Below w.heap.size w w'):RowU w' g l:=h.of (hb.block g h.lt)
theorem RowU.set{w:World}{g:Nat}{l:List Nat}(h:RowU w g l)(k y:Nat):RowU (w.setCell ⟨g,k,none⟩ (.int .u32 (y:Int))) g (l.set k y):=by
 obtain⟨cs,h1,h2⟩:=h;refine⟨cs.setIfInBounds k (.int .u32 (y:Int)),heap_setCell_same w g k cs _ _ h1,?_⟩;rw[Array.toList_setIfInBounds,h2,List.map_set];rfl
theorem RowU.new(w:World)(n:Nat):RowU (w.alloc (.cells (Array.replicate n (.int .u32 0)) 107)) w.heap.size (List.replicate n 0) :=
 ⟨_,zN _ _,by rw[Array.toList_replicate,List.map_replicate];rfl⟩
theorem RowU.ls{w:World}{g:Nat}{l:List Nat}(h:RowU w g l){R:Nat->Prop}(hR:R g)(hx:Lim l)(hl:l.length<=maxLen):LS w R (.slice (some ⟨g,0,none⟩) l.length l.length) l :=
 ⟨.inr ⟨g,0,l.length,rfl,zR _,hl,hR,fun k x hk=>by rw[Nat.zero_add];exact h.cell hk⟩,hx⟩
theorem or_limb(r x:Nat)(hr:r<4294967296)(hx:x<4294967296):bits .or .u64 ((r:Int)*4294967296) (x:Int)=((r*4294967296+x:Nat):Int):=by
 show IntKind.u64.wrap ((BitVec.ofInt 64 ((r:Int)*4294967296) ||| BitVec.ofInt 64 (x:Int)).toNat:Int)=_
 have e1:BitVec.ofInt 64 ((r:Int)*4294967296)=BitVec.ofNat 64 (r*4294967296):=by rw[show(r:Int)*4294967296=((r*4294967296:Nat):Int) by omega];exact BitVec.ofInt_natCast 64 _
 have e2:BitVec.ofInt 64 (x:Int)=BitVec.ofNat 64 x:=BitVec.ofInt_natCast 64 _;rw[e1,e2,BitVec.toNat_or,BitVec.toNat_ofNat,BitVec.toNat_ofNat,Nat.mod_eq_of_lt (by omega),Nat.mod_eq_of_lt (by omega)]
 have h1:r*4294967296 ||| x=r*4294967296+x:=by
  have:=Nat.two_pow_add_eq_or_of_lt (i:=32) (b:=x) (by omega) r;rw[Nat.mul_comm r];exact this.symm
 rw[h1];exact IntWalk.u64_in _ (by omega)
theorem quo_big(n m:Nat)(h:n / m<4294967296):IntKind.u64.wrap ((n:Int).tdiv (m:Int)) % 4294967296=((n / m:Nat):Int):=by
 have h1:(n:Int).tdiv (m:Int)=((n / m:Nat):Int):=by rw[Int.tdiv_eq_ediv_of_nonneg (by omega)];simp
 rw[h1];generalize n / m=q at *;have h3:IntKind.u64.wrap (q:Int)=(q:Int):=IntWalk.u64_in _ (by omega);rw[h3];omega
theorem short_step{l Q:List Nat}{i x r d:Nat}(hd:0<d)(hx:l[i]?=some x)(hl:l.length=Q.length)(h:nv (l.drop (i+1))=nv (Q.drop (i+1))*d+r):nv (l.drop i)=nv ((Q.set i ((r*4294967296+x) / d)).drop i)*d+(r*4294967296+x) % d:=by
 have hi:=(zL.1 hx).1
 have e1:l.drop i=x :: l.drop (i+1):=by rw[List.drop_eq_getElem_cons hi];congr 1;exact(zL.1 hx).2
 have e2:(Q.set i ((r*4294967296+x) / d)).drop i=(r*4294967296+x) / d :: Q.drop (i+1):=by
  rw[List.drop_eq_getElem_cons (by rw[List.length_set];omega),List.getElem_set_self,List.drop_set_of_lt (by omega)]
 rw[e1,e2];simp only[nv];rw[h];have:=Nat.div_add_mod (r * 4294967296+x) d;generalize (r * 4294967296+x) / d=q at *;generalize (r * 4294967296+x) % d=s at *;generalize nv (Q.drop (i+1))=a at *;rw[Nat.add_mul,Nat.mul_add,Nat.mul_assoc,Nat.mul_comm q d];omega
structure HotBy (hot:List (Option Nat)) (w w':World):Prop where
 os:w'.os=w.os
 tape:w'.tape=w.tape
 output:w'.output=w.output
 size:w.heap.size<=w'.heap.size
 block:∀b,b<w.heap.size->some b∉hot->w'.heap[b]?=w.heap[b]?
theorem HotBy.refl(hot:List (Option Nat))(w:World):HotBy hot w w:=⟨rfl,rfl,rfl,zR _,fun _ _ _=>rfl⟩
theorem HotBy.trans{hot:List (Option Nat)}{a b c:World}(h:HotBy hot a b)(k:HotBy hot b c):HotBy hot a c :=
 ⟨k.os.trans h.os,k.tape.trans h.tape,k.output.trans h.output,Nat.le_trans h.size k.size,fun x hx hn=>(k.block x (zM hx h.size) hn).trans (h.block x hx hn)⟩
theorem HotBy.more{hot hot':List (Option Nat)}{a b:World}(h:HotBy hot a b)(hh:∀x,some x∈hot->x<a.heap.size->some x∈hot'):HotBy hot' a b :=
 ⟨h.os,h.tape,h.output,h.size,fun x hx hn=>h.block x hx (fun hm=>hn (hh x hm hx))⟩
theorem HotBy.below{hot:List (Option Nat)}{w w':World}(h:Below w.heap.size w w'):HotBy hot w w':=⟨h.os,h.tape,h.output,h.size,fun b hb _=>h.block b hb⟩
theorem HotBy.setCell(hot:List (Option Nat))(w:World)(a:Addr)(v:Value)(ha:some a.block∈hot):HotBy hot w (w.setCell a v) :=
 ⟨rfl,rfl,rfl,by simp[World.setCell],fun b _ hn=>Below.heap_setCell w a v b (fun e=>hn (e▸ha))⟩
def win(U:List Nat)(j n:Nat):List Nat:=(U.drop j).take n
theorem win_len{U:List Nat}{j n:Nat}(h:j+n<=U.length):(win U j n).length=n:=by
 unfold win;rw[List.length_take,List.length_drop];omega
theorem win_succ{U:List Nat}{j i x:Nat}(h:U[j+i]?=some x):win U j (i+1)=win U j i++[x]:=by
 unfold win;rw[List.take_add_one,List.getElem?_drop,h];rfl
theorem win_set{U:List Nat}{j i y:Nat}:win (U.set (j+i) y) j i=win U j i:=by
 unfold win;refine List.ext_getElem? (fun k=>?_);rw[List.getElem?_take,List.getElem?_take];split
 ·rw[List.getElem?_drop,List.getElem?_drop,List.getElem?_set_ne (by omega)]
 ·rfl
theorem nv_win{U:List Nat}{j n:Nat}(h:j+n<=U.length):nv U=nv (U.take j)+4294967296 ^ j*(nv (win U j n)+4294967296 ^ n*nv (U.drop (j+n))):=by
 have h1:=nv_take U j;have h2:=nv_take (U.drop j) n;rw[Nat.min_eq_left (by omega)] at h1;rw[Nat.min_eq_left (by rw[List.length_drop];omega),List.drop_drop] at h2;rw[h1,h2];rfl
theorem div_win{U:List Nat}{j n v:Nat}(hj:j+n+1<=U.length)(hv:v<=4294967296 ^ n)(hlt:nv U<v*4294967296 ^ (j+1)):nv (win U j (n+1))<v*4294967296/\nv (U.drop (j+(n+1)))=0:=by
 have h1:=nv_win (U:=U) (j:=j) (n:=n+1) (by omega);have hP:0<4294967296 ^ j:=Nat.pow_pos (by omega);rw[Nat.pow_succ,Nat.mul_comm (4294967296 ^ j),<-Nat.mul_assoc,Nat.mul_comm (v*4294967296)] at hlt
 have h2:4294967296 ^ j*(nv (win U j (n+1))+4294967296 ^ (n+1)*nv (U.drop (j+(n+1))))<4294967296 ^ j*(v*4294967296):=by omega
 have h3:=Nat.lt_of_mul_lt_mul_left h2
 have h4:v*4294967296<=4294967296 ^ (n+1):=by rw[Nat.pow_succ];exact Nat.mul_le_mul_right _ hv
 rcases Nat.eq_zero_or_pos (nv (U.drop (j+(n+1)))) with h0 | h0
 ·rw[h0,Nat.mul_zero] at h3;exact⟨by omega,h0⟩
 ·exfalso
  have:4294967296 ^ (n+1)*1<=4294967296 ^ (n+1)*nv (U.drop (j+(n+1))):=Nat.mul_le_mul_left _ h0;omega
theorem take_eq{U U':List Nat}{j m:Nat}(hl:U'.length=U.length)(hk:∀k,k<j\/m<=k->U'[k]?=U[k]?):U'.take j=U.take j/\U'.drop m=U.drop m:=by
 refine⟨List.ext_getElem? fun k=>?_,List.ext_getElem? fun k=>?_⟩
 ·rw[List.getElem?_take,List.getElem?_take];split
  ·exact hk k (.inl (by assumption))
  ·rfl
 ·rw[List.getElem?_drop,List.getElem?_drop];exact hk _ (.inr (by omega))
theorem drop_set_self{Q:List Nat}{j d:Nat}(hj:j<Q.length):(Q.set j d).drop j=d :: Q.drop (j+1):=by
 rw[List.drop_eq_getElem_cons (by rw[List.length_set];omega),List.getElem_set_self,List.drop_set_of_lt (by omega)]
theorem div_round{U U' Q:List Nat}{j n d X v:Nat}(hj:j+n+1<=U.length)(hl:U'.length=U.length)(hLU:Lim U)(hQ:j<Q.length)(hv:v<=4294967296 ^ n)(hv0:0<v)
  (h:X=nv (Q.drop (j+1))*4294967296 ^ (j+1)*v+nv U) (hlt:nv U<v*4294967296 ^ (j+1)) (hk:∀k,k<j\/j+n+1<=k->U'[k]?=U[k]?) (hd:d=nv (win U j (n+1)) / v) (hw:nv (win U' j (n+1))=nv (win U j (n+1)) % v) :
  X=nv ((Q.set j d).drop j)*4294967296 ^ j*v+nv U'/\nv U'<v*4294967296 ^ j:=by
 obtain⟨h1,h2⟩:=div_win hj hv hlt;obtain⟨t1,t2⟩:=take_eq hl hk;have e1:=nv_win (U:=U) (j:=j) (n:=n+1) (by omega);have e2:=nv_win (U:=U') (j:=j) (n:=n+1) (by omega);rw[h2,Nat.mul_zero,Nat.add_zero] at e1;rw[t1,show j+(n+1)=j+n+1 from rfl,t2,show j+n+1=j+(n+1) from rfl,h2,Nat.mul_zero,Nat.add_zero,hw] at e2
 have hT:nv (U.take j)<4294967296 ^ j:=by
  have:=nv_lt (hLU.take j)
  rwa [List.length_take,Nat.min_eq_left (by omega)] at this
 have hr:=Nat.mod_lt (nv (win U j (n+1))) hv0;have hdm:=Nat.div_add_mod (nv (win U j (n+1))) v;rw[<-hd] at hdm;rw[drop_set_self hQ];simp only[nv];rw[h,e1,e2];generalize nv (win U j (n+1)) % v=r at *;generalize nv (win U j (n+1))=W at *;generalize nv (U.take j)=T at *;generalize nv (Q.drop (j+1))=q at *;rw[Nat.pow_succ];generalize 4294967296 ^ j=P at *
 constructor
 ·rw[<-hdm]
  have a1:(d+4294967296*q)*P*v=d*P*v+q*(P*4294967296)*v:=by
   rw[Nat.add_mul,Nat.add_mul]
   congr 2
   rw[Nat.mul_comm 4294967296 q,Nat.mul_assoc,Nat.mul_comm 4294967296 P]
  have a2:P*(v*d+r)=d*P*v+P*r:=by
   rw[Nat.mul_add,Nat.mul_comm v d,Nat.mul_left_comm,Nat.mul_assoc]
  rw[a1,a2];omega
 ·have a3:P*r+P<=v*P:=by
   have:P*(r+1)<=P*v:=Nat.mul_le_mul_left _ hr;rw[Nat.mul_add,Nat.mul_one] at this;rw[Nat.mul_comm v P];exact this
  omega
theorem div_end{x y s q u:Nat}(hy:0<y)(h:x*2 ^ s=q*(y*2 ^ s)+u)(hu:u<y*2 ^ s):q=x / y/\u / 2 ^ s=x % y:=by
 have hp0:0<2 ^ s:=Nat.pow_pos (by omega)
 have h1:x*2 ^ s / (y*2 ^ s)=q:=by
  rw[h,Nat.mul_comm q,Nat.mul_add_div (Nat.mul_pos hy hp0),Nat.div_eq_of_lt hu,Nat.add_zero]
 have h2:x*2 ^ s % (y*2 ^ s)=u:=by rw[h,Nat.mul_comm q,Nat.mul_add_mod,Nat.mod_eq_of_lt hu]
 rw[Nat.mul_div_mul_right _ _ hp0] at h1;rw[Nat.mul_mod_mul_right] at h2;refine⟨h1.symm,?_⟩;rw[<-h2,Nat.mul_div_cancel _ hp0]
theorem nv_len_lt{l m:List Nat}(hl:Lim l)(hm:Lim m)(h:(trimL l).length<(trimL m).length):nv l<nv m:=by
 rw[<-nv_trim l,<-nv_trim m];have h1:=nv_lt (Lim.trim hl);have h2:=nv_ge (Top.trim m) (by intro e;rw[e] at h;simp at h);have h3:4294967296 ^ (trimL l).length<=4294967296 ^ ((trimL m).length-1):=Nat.pow_le_pow_right (by omega) (by omega);omega
theorem nv_at_lt{l m:List Nat}(hl:Lim l)(hm:Lim m)(he:l.length=m.length){i x y:Nat}(hx:l[i]?=some x)(hy:m[i]?=some y)(hh:∀k,i<k->l[k]?=m[k]?)(h:x<y):nv l<nv m:=by
 have hi:=(zL.1 hx).1;rw[nv_take l (i+1),nv_take m (i+1)]
 have hd:l.drop (i+1)=m.drop (i+1):=by
  refine List.ext_getElem? (fun k=>?_);rw[List.getElem?_drop,List.getElem?_drop];exact hh _ (by omega)
 have h1:l.take (i+1)=l.take i++[x]:=by rw[List.take_add_one,hx];rfl
 have h2:m.take (i+1)=m.take i++[y]:=by rw[List.take_add_one,hy];rfl
 have h3:=top_lt (ul:=l.take i) (vl:=m.take i) (hl.take i) (by rw[List.length_take,List.length_take,he]) h;rw[<-h1,<-h2] at h3;rw[hd,he];omega
theorem rcmpL_any(va vb:Value)(la lb:List Nat)(w:World)(ha:LS w (Bl w.heap.size) va la)(hb:LS w (Bl w.heap.size) vb lb)(h1:la.length<=2000)(h2:lb.length<=2000) :
  Calls Tryz.prog 132 #[va,vb] w fun e w'=>e=.returned (.int .i64 (cmpI (nv la) (nv lb)))/\Below w.heap.size w w':=by
 have HA:=zh (trim_any va la _ w ha (fun b h=>h) (by omega));have HB:=zh (fun w' h=>trim_any vb lb _ w' (hb.below h) (fun b h=>h) (by omega));have HLA:=zh (show Lim (trimL la)/\Lim (trimL lb)/\(trimL la).length<=2000/\(trimL lb).length<=2000 from⟨ha.lim.trim,hb.lim.trim,Nat.le_trans (trimL_length _) h1,Nat.le_trans (trimL_length _) h2⟩);have HC:=zh (show cmpI (nv la) (nv lb)=cmpI (nv (trimL la)) (nv (trimL lb)) by rw[nv_trim,nv_trim]);have HLT:=zh (show((trimL la).length<(trimL lb).length->nv la<nv lb)/\((trimL lb).length<(trimL la).length->nv lb<nv la) from⟨nv_len_lt ha.lim hb.lim,nv_len_lt hb.lim ha.lim⟩);obtain⟨C,hC⟩:=zx (cmpI (nv la) (nv lb));rw[<-hC];have HCC:=zh hC;clear ha hb h1 h2 hC;go_enter Tryz.func132,Tryz.ntmps132;go_wp2_with fail;refine HA.out.mono ?_;rintro e w3 ⟨u3,rfl,hO3,hb3⟩;have HO3:=zh hO3;have HB3:=zh hb3;obtain⟨A,c,rfl⟩:=own_form hO3;clear hO3 hb3;go_wp2_with fail;refine(HB.out w3 HB3.out).mono ?_;rintro e w4 ⟨u4,rfl,hO4,hb4⟩;obtain⟨B,d,rfl⟩:=own_form hO4;have H1:=zh ((HO3.out.below hb4).ls HLA.out.1);have H2:=zh (hO4.ls HLA.out.2.1);have HB4:=zh (HB3.out.trans (hb4.mono HB3.out.size));obtain⟨N,hN⟩:=zx ((trimL la).length);obtain⟨M,hM⟩:=zx ((trimL lb).length);have HNM:=zh (And.intro hN hM)
 have n2000:(N:Int)<=2000:=by have:=HLA.out;omega
 rw[<-hN] at H1 ⊢;rw[<-hM] at H2 ⊢;clear hO4 hb4 hN hM HO3;by_cases hlt:N<M
 ·have HE:=zh (show C = -1 by
   rw[HCC.out];unfold cmpI;rw[if_pos (HLT.out.1 (by rw[<-HNM.out.1,<-HNM.out.2];exact hlt))])
  have q1:(N:Int)<(M:Int):=by omega
  have q2:((N:Int) != (M:Int))=true:=bne_iff_ne.2 (by omega);clear hlt;go_wp2_with fail;go_ret;exact⟨by rw[HE.out];rfl,HB4.out⟩
 ·by_cases hgt:M<N
  ·have HE:=zh (show C=1 by
    have h:=HLT.out.2 (by rw[<-HNM.out.1,<-HNM.out.2];exact hgt)
    rw[HCC.out];unfold cmpI;rw[if_neg (by omega),if_pos h])
   have q1:¬(N:Int)<(M:Int):=by omega
   have q2:((N:Int) != (M:Int))=true:=bne_iff_ne.2 (by omega);clear hlt hgt;go_wp2_with fail;go_ret;exact⟨by rw[HE.out];rfl,HB4.out⟩
  ·have hNM:N=M:=by omega
   subst hNM
   have q2:((N:Int) != (N:Int))=false:=by simp
   have hsub:IntKind.i64.wrap ((N:Int)-1)=(N:Int)-1:=zI _ (by omega);clear hlt hgt;go_wp2_with fail;go_loopg [5] N (fun z v5 wr=>Hid (∃k,wr=w4.drewN k)/\z<=N/\v5=.int .i64 ((z:Int)-1)/\Hid (∀k,z<=k->(trimL la)[k]?=(trimL lb)[k]?))
   case atStart =>
    refine⟨⟨0,rfl⟩,zR _,rfl,zh (fun k hk=>?_)⟩;rw[List.getElem?_eq_none (by rw[<-HNM.out.1];exact hk),List.getElem?_eq_none (by rw[<-HNM.out.2];exact hk)]
   case round =>
    obtain⟨hbr,hz,rfl,HS⟩:=hrel;obtain⟨k,rfl⟩:=hbr.out;rcases Nat.eq_zero_or_pos gk with h0 | h0
    ·subst h0
     have HE:=zh (show nv la=nv lb by
      rw[<-nv_trim la,<-nv_trim lb,List.ext_getElem? (fun k=>HS.out k (Nat.zero_le _))])
     clear hbr hsub q2 hz;go_wp2_with fail;go_ret;exact⟨ret_int (by rw[HCC.out];unfold cmpI;rw[HE.out];simp),Below.drewN' HB4.out k⟩
    ·obtain⟨i,rfl⟩:∃i,gk=i+1:=⟨gk-1,by omega⟩
     have e0:(((i+1:Nat):Int)-1)=(i:Int):=by omega
     rw[e0]
     have hiA:i<(trimL la).length:=by rw[<-HNM.out.1];omega
     have hiB:i<(trimL lb).length:=by rw[<-HNM.out.2];omega
     obtain⟨b1,o1,rfl,hR1,hc1⟩:=H1.out.reads (by omega);obtain⟨b2,o2,rfl,hR2,hc2⟩:=H2.out.reads (by omega);have xa:=zG hiA;have xb:=zG hiB;have k1:=hc1 i _ xa (w4.drewN k) rfl;have k2:=hc2 i _ xb (w4.drewN k) rfl;obtain⟨X,hX⟩:=zx ((trimL la)[i]);obtain⟨Y,hY⟩:=zx ((trimL lb)[i]);rw[<-hX] at k1 xa;rw[<-hY] at k2 xb;have HXY:=zh (And.intro xa xb);obtain⟨W,hW⟩:=zx (w4.drewN k);rw[<-hW] at k1 k2 ⊢;have HW:=zh hW
     have n0:(0:Int)<=(i:Int):=by omega
     have n1:(i:Int)<(N:Int):=by omega
     have n3:IntKind.i64.wrap ((i:Int)-1)=(i:Int)-1:=zI _ (by omega);have HZ:=zh hz;have HLen:=zh (show(trimL la).length=(trimL lb).length by rw[<-HNM.out.1,<-HNM.out.2]);clear hc1 hc2 hR1 hR2 hsub h0 hbr hW q2 hX hY xa xb hiA hiB e0 hz;by_cases hlt:X<Y
     ·have q1:(X:Int)<(Y:Int):=by omega
      have HE:=zh (show C = -1 by
       rw[HCC.out,HC.out];have:=nv_at_lt HLA.out.1 HLA.out.2.1 HLen.out HXY.out.1 HXY.out.2 (fun k hk=>HS.out k hk) hlt
       unfold cmpI;rw[if_pos this])
      clear hlt;go_wp2_with fail
      go_quiet (fail)
      go_wp2_with fail;go_ret;exact⟨ret_int HE.out.symm,by rw[HW.out];simp only[World.drewN_drewN];exact Below.drewN' HB4.out _⟩
     ·have q1:¬(X:Int)<(Y:Int):=by omega
      by_cases hgt:Y<X
      ·have q2:(Y:Int)<(X:Int):=by omega
       have HE:=zh (show C=1 by
        rw[HCC.out,HC.out];have:=nv_at_lt HLA.out.2.1 HLA.out.1 HLen.out.symm HXY.out.2 HXY.out.1 (fun k hk=>(HS.out k hk).symm) hgt
        unfold cmpI;rw[if_neg (by omega),if_pos this])
       clear hlt hgt;go_wp2_with fail
       go_quiet (fail)
       go_wp2_with fail
       go_quiet (fail)
       go_wp2_with fail;go_ret;exact⟨ret_int HE.out.symm,by rw[HW.out];simp only[World.drewN_drewN];exact Below.drewN' HB4.out _⟩
      ·have q2:¬(Y:Int)<(X:Int):=by omega
       have he:X=Y:=by omega
       have HE:=zh he;clear hlt hgt he;go_wp2_with fail
       go_quiet (fail)
       go_wp2_with fail
       go_quiet (fail)
       go_wp2_with fail;go_roundg i
       case measure=>omega
       case rel=>exact⟨by rw[HW.out];simp only[World.drewN_drewN];exact⟨_,rfl⟩,by have:=HZ.out;omega,rfl,zh (fun k hk=>by
        rcases Nat.eq_or_lt_of_le hk with rfl | hk
        ·rw[HXY.out.1,HXY.out.2,HE.out]
        ·exact HS.out k hk)⟩
theorem bl_zero:bl 0=0:=rfl
theorem bl_half{n:Nat}(h:0<n):bl n=bl (n / 2)+1:=by
 unfold bl;rw[if_neg (by omega)];by_cases h1:n=1
 ·subst h1;decide
 ·rw[if_neg (by omega),Nat.log2_def,if_pos (by omega)]
theorem bl_le:∀(k n:Nat),n<2 ^ k->bl n<=k
 | 0,n,h=>by
  have h0:n=0:=by simpa using h
  rw[h0];exact zR _
 | k+1,n,h=>by
  rcases Nat.eq_zero_or_pos n with h0 | h0
  ·rw[h0];exact Nat.zero_le _
  ·rw[bl_half h0];have:=bl_le k (n / 2) (by rw[Nat.pow_succ] at h;omega);omega
theorem bl_32{n:Nat}(h:n<4294967296):bl n<=32:=bl_le 32 n (by simpa using h)
theorem bl_shift:∀(k:Nat) {x y:Nat},0<y->x<2 ^ k->bl (2 ^ k*y+x)=k+bl y
 | 0,x,y,hy,hx=>by
  have:x=0:=by simpa using hx
  subst this;simp
 | k+1,x,y,hy,hx=>by
  have h1:0<2 ^ k*y:=Nat.mul_pos (Nat.pow_pos (by omega)) hy
  have e1:2 ^ (k+1)*y=2*(2 ^ k*y):=by rw[Nat.pow_succ,Nat.mul_comm (2 ^ k) 2,Nat.mul_assoc]
  rw[e1,bl_half (by omega),show(2*(2 ^ k*y)+x) / 2=2 ^ k*y+x / 2 by omega,bl_shift k hy (by rw[Nat.pow_succ] at hx;omega)];omega
theorem bl_limbs{l:List Nat}{t:Nat}(hl:Lim l)(ht:0<t):bl (nv (l++[t]))=l.length*32+bl t:=by
 rw[nv_snoc,Nat.add_comm (nv l),show(4294967296:Nat)=2 ^ 32 from rfl,<-Nat.pow_mul,bl_shift _ ht (by have:=nv_lt hl;rw[show(4294967296:Nat)=2 ^ 32 from rfl,<-Nat.pow_mul] at this;exact this)];omega
theorem trim_snoc{l:List Nat}(h:0<(trimL l).length):∃m t,trimL l=m++[t]/\0<t/\m.length+1=(trimL l).length:=by
 have h1:trimL l≠[]:=by intro e;rw[e] at h;simp at h
 refine⟨(trimL l).dropLast,(trimL l).getLast h1,(List.dropLast_concat_getLast h1).symm,?_,by rw[List.length_dropLast];omega⟩;have:=Top.trim l ((trimL l).getLast h1) (List.getLast?_eq_some_getLast h1);omega
theorem rbitsL_any(v:Value)(l:List Nat)(w:World)(h:LS w (Bl w.heap.size) v l)(hl:l.length<=1000) :
  Calls Tryz.prog 173 #[v] w fun e w'=>e=.returned (.int .i64 (bl (nv l):Int))/\Below w.heap.size w w':=by
 have HA:=zh (trim_any v l _ w h (fun b h=>h) (by omega));have hlim:=h.lim;have htl:=trimL_length l;have HLM:=zh (And.intro hlim hl);obtain⟨C,hC⟩:=zx (bl (nv l));rw[<-hC];have HCC:=zh hC;clear h hC;go_enter Tryz.func173,Tryz.ntmps173;go_wp2_with fail;refine HA.out.mono ?_;rintro e w3 ⟨u3,rfl,hO3,hb3⟩;obtain⟨A,c,rfl⟩:=own_form hO3;have HB3:=zh hb3;have hls:=hO3.ls hlim.trim;obtain⟨N,hN⟩:=zx ((trimL l).length);rw[<-hN] at htl hls ⊢;clear hO3 hb3 hlim;rcases Nat.eq_zero_or_pos N with h0 | h0
 ·have HE:=zh (show C=0 by
   rw[HCC.out,<-nv_trim l,List.eq_nil_of_length_eq_zero (l:=trimL l) (by rw[<-hN];exact h0)];rfl)
  subst h0;clear hN hls htl;go_wp2_with fail;go_ret;exact⟨by rw[HE.out];rfl,HB3.out⟩
 ·obtain⟨b,off,rfl,-,hc⟩:=hls.reads (by rw[<-hN];exact h0);obtain⟨m,t,hmt,ht,hml⟩:=trim_snoc (l:=l) (by rw[<-hN];exact h0);have htl2:t<4294967296:=Lim.trim HLM.out.1 t (by rw[hmt];simp)
  have hg:(trimL l)[N-1]?=some t:=by
   rw[hmt,show N-1=m.length by omega];simp
  have hcell:=hc (N-1) t hg w3 rfl
  have hml2:Lim m:=fun x hx=>Lim.trim HLM.out.1 x (by rw[hmt];exact List.mem_append.2 (.inl hx))
  have hbl:C=(N-1)*32+bl t:=by rw[HCC.out,<-nv_trim l,hmt,bl_limbs hml2 ht,show m.length=N-1 by omega]
  obtain⟨K,hK⟩:=zx (N-1);rw[<-hK] at hcell hbl;have hbn:=bl_32 htl2;have HBN:=zh hbn;have HB:=zh hbl
  have n0:(0:Int)<=(K:Int):=by omega
  have n1:(K:Int)<(N:Int):=by omega
  have n2:(N:Int)≠0:=by omega
  have q0:((N:Int)==0)=false:=beq_eq_false_iff_ne.2 n2
  have u0:IntKind.i64.wrap ((N:Int)-1)=(K:Int):=by rw[show(N:Int)-1=(K:Int) by omega];exact zI _ (by have:=HLM.out.2;omega)
  have u2:IntKind.i64.wrap (32*(K:Int))=32*(K:Int):=zI _ (by have:=HLM.out.2;omega)
  have k1000:(K:Int)<=1000:=by have:=HLM.out.2;omega
  have HT:=zh htl2;clear hN hc hmt hml hg hml2 hbl hK hbn n2 ht h0 hls htl htl2;go_wp2_with fail;go_loopg [3,4] t (fun z v3 v4 wr=>w3=wr/\∃k:Nat,v3=.int .i64 (32*(K:Int)+(k:Int))/\v4=.int .u32 (z:Int)/\Hid (k+bl z=bl t)/\Hid (z<4294967296))
  case atStart=>exact⟨rfl,0,by simp,rfl,Nat.zero_add _,HT⟩
  case round =>
   obtain⟨rfl,k,rfl,rfl,HK,hz⟩:=hrel;rcases Nat.eq_zero_or_pos gk with hg | hg
   ·subst hg;have HE:=zh (show((C:Nat):Int)=32*(K:Int)+(k:Int) by have:=HK.out;rw[bl_zero] at this;have:=HB.out;omega);go_wp2_with fail;go_ret;exact⟨by rw[HE.out];rfl,HB3.out⟩
   ·have hk:(k:Int)<=32:=by have:=HK.out;have:=HBN.out;omega
    have HH:=zh (show k+1+bl (gk / 2)=bl t by have h1:=HK.out;have h2:=bl_half hg;omega)
    have g0:(0:Int)<(gk:Int):=by omega
    have gq:(gk:Int).tdiv 2=((gk / 2:Nat):Int):=by rw[Int.tdiv_eq_ediv_of_nonneg (by omega)];simp
    have gw:IntKind.u32.wrap ((gk / 2:Nat):Int)=((gk / 2:Nat):Int):=IntWalk.u32_in _ (by have:=hz.out;omega);go_wp2_with fail;go_roundg (gk / 2)
    case measure=>omega
    case rel=>exact⟨rfl,k+1,by go_num,by have:=hz.out;go_num,HH,zh (by have:=hz.out;omega)⟩
theorem below_own{w w1 w2:World}{v:Value}{l:List Nat}(hb:Below w.heap.size w w1)(h:OwnL w1 w.heap.size v l)(hg:w1.grownBy w2 v.ownBlock):Below w.heap.size w w2 :=
 Below.grown hb hg hb.size (fun k hk=>(h.lt k hk).1)
theorem app_u{ops:Array Oper}{rest:List Oper}{o:Oper}{a:Act}{Q:Exit->Act->World->Prop}{w:World}(x0:Nat)(s x:Operand)(hgd:o.guard=none)(ho:o.op=.call { callee:=.builtin .append,args:=#[s,x],argTypes:=#[24,24] })
  (base:Nat) (v:Value) (n:Nat) (xs:List Nat) (hl:xs.length=n) (hs:a.eval s=v) (hown:OwnL w base v xs)
  (hx:a.eval x=.slice (some ⟨w.heap.size,0,none⟩) 1 1) (hn:n+1<=16777216) (hbase:base<=w.heap.size)
  (h:∀v' w',OwnL w' base v' (xs++[x0])->w.grownBy w' v.ownBlock->wpList Tryz.prog ops Q rest (a.put o.dst v') w') :
  wpList Tryz.prog ops Q (o :: rest) a (w.alloc (.cells #[.int .u32 (x0:Int)] 107)):=by
 obtain⟨i0,hi0,hz0,hz1,hz2⟩:=info_parts info_u32;unfold OwnL at hown;rw[hl] at hown;refine wpList_append1 hgd s x _ ho base i0 _ 1 4 Tryz.underlying24 hi0 hz0 hz1 hz2 rfl (by omega) (by omega) v n _ hs hown hx rfl (by simp;rfl) hn hbase (fun v' w' h1 h2 _=>h v' w' ?_ h2);unfold OwnL;rw[zP,hl,List.map_append];exact h1
theorem or_up2(c x s:Nat)(hs:s<32)(hc:c<2 ^ s)(hx:x<4294967296):bits .or .u64 ((x*2 ^ s:Nat):Int) (c:Int)=((c+x*2 ^ s:Nat):Int):=by
 have h2:(2:Nat) ^ s<=2 ^ 31:=Nat.pow_le_pow_right (by omega) (by omega);have h3:x*2 ^ s<=4294967295*2 ^ 31:=Nat.mul_le_mul (by omega) h2;show IntKind.u64.wrap ((BitVec.ofInt 64 ((x*2 ^ s:Nat):Int) ||| BitVec.ofInt 64 (c:Int)).toNat:Int)=_;rw[BitVec.ofInt_natCast,BitVec.ofInt_natCast,BitVec.toNat_or,BitVec.toNat_ofNat,BitVec.toNat_ofNat,Nat.mod_eq_of_lt (by omega),Nat.mod_eq_of_lt (by omega)]
 have h1:x*2 ^ s ||| c=c+x*2 ^ s:=by
  rw[Nat.mul_comm,Nat.add_comm];exact(Nat.two_pow_add_eq_or_of_lt hc x).symm
 rw[h1];exact IntWalk.u64_in _ (by omega)
theorem up_stepA{l O:List Nat}{i x c s:Nat}(hx:l[i]?=some x)(hO:O.length=i)(h:nv O+4294967296 ^ i*c=nv (l.take i)*2 ^ s):nv (O++[(c+x*2 ^ s) % 4294967296])+4294967296 ^ (i+1)*((c+x*2 ^ s) / 4294967296)=nv (l.take (i+1))*2 ^ s:=by
 have hi:=(zL.1 hx).1
 have e1:l.take (i+1)=l.take i++[x]:=by rw[List.take_add_one,hx];rfl
 have l1:(l.take i).length=i:=by rw[List.length_take];omega
 rw[e1,nv_snoc,nv_snoc,l1,hO,Nat.pow_succ,Nat.add_mul,<-h];have:=Nat.div_add_mod (c+x * 2 ^ s) 4294967296;generalize (c+x * 2 ^ s) / 4294967296=q at *;generalize (c+x * 2 ^ s) % 4294967296=r at *;have e3:4294967296 ^ i * x * 2 ^ s=4294967296 ^ i * (x * 2 ^ s):=Nat.mul_assoc _ _ _;rw[e3];generalize x * 2 ^ s=y at *;generalize 4294967296 ^ i=P at *
 have e4:P*(4294967296*q+r)=P*(c+y):=by rw[this]
 rw[Nat.mul_add,Nat.mul_add,<-Nat.mul_assoc] at e4;omega
theorem rup_any(va:Value)(x s:Nat)(w:World)(ha:LS w (Bl w.heap.size) va (limbs x))(hl:(limbs x).length<=700)(hx0:0<x)(hs:s<32) :
  Calls Tryz.prog 174 #[va,.int .i64 (s:Int)] w fun e w'=>∃u,e=.returned u/\OwnL w' w.heap.size u (limbs (x*2 ^ s))/\Below w.heap.size w w':=by
 obtain⟨A,c,rfl,-,-⟩:=ha.form
 have hl0:0<(limbs x).length:=by obtain⟨m,t,e,-⟩:=limbs_snoc hx0;rw[e];simp
 obtain⟨b1,o1,rfl,hR1,hc1⟩:=ha.reads hl0;obtain⟨l,hll⟩:=zx (limbs x)
 have hnv:nv l=x:=by rw[hll,nv_limbs]
 have hlim:Lim l:=by rw[hll];exact lim_limbs x
 rw[<-hll] at hl hl0 hc1 ⊢;obtain⟨LN,hLN⟩:=zx l.length;rw[<-hLN] at hl hl0 ⊢;have HRD:=zh (show ∀w',Below w.heap.size w w'->∀(i x:Nat),l[i]?=some x->w'.cell? ⟨b1,o1+i,none⟩=some (.int .u32 (x:Int)) from fun w' hk i x hx=>hc1 i x hx w' (hk.block b1 hR1));have HL:=zh (show LN=l.length/\Lim l/\nv l=x/\LN<=700/\s<32 from⟨hLN,hlim,hnv,hl,hs⟩);have hmk:=mk_u32n 0 (by omega);simp only[show(Array.replicate 0 (Value.int .u32 0))=#[] from rfl,show((0:Nat):Int)=0 from rfl] at hmk;obtain⟨W3,hW3⟩:=zx (w.alloc (.cells #[] 107))
 have ho3:OwnL W3 w.heap.size (.slice (some ⟨w.heap.size,0,none⟩) 0 0) []:=by rw[hW3];exact World.ownsRow_made w #[] 0 (zR _) (by unfold maxLen;omega) rfl
 have HB3:=zh (show Below w.heap.size w W3 by rw[hW3];exact(zB _ _).alloc (zR _) _);have HO3:=zh ho3;have HW3:=zh hW3
 have l700:(LN:Int)<=700:=by omega
 have q0:((LN:Int)==0)=false:=beq_eq_false_iff_ne.2 (by omega)
 have s0:(0:Int)<=(s:Int):=by omega
 have s1:(s:Int)<32:=by omega
 have d0:(s:Int).tdiv 32=0:=by rw[Int.tdiv_eq_ediv_of_nonneg s0];omega
 have r0:(s:Int).tmod 32=(s:Int):=by rw[Int.tmod_eq_emod_of_nonneg s0];omega
 clear ha hl hl0 hx0 hs hR1 hc1 hll hnv hlim hLN hW3 ho3;go_enter Tryz.func174,Tryz.ntmps174;go_upto_region 4 with fail;rw[<-HW3.out];obtain⟨v5,hv5⟩:=zx (Value.slice (some ⟨w.heap.size,0,none⟩) 0 0);rw[<-hv5] at HO3 ⊢;clear hmk hv5;go_wp2_with fail;go_loopg [5,6,7] LN (fun z v5 v6 v7 wr=>∃(i k:Nat) (O:List Nat),i<=LN/\z=LN-i/\k<2 ^ s/\v6=.int .u64 (k:Int)/\v7=.int .i64 (i:Int)/\Hid (Below w.heap.size w wr)/\Hid (OwnL wr w.heap.size v5 O/\O.length=i/\Lim O/\nv O+4294967296 ^ i*k=nv (l.take i)*2 ^ s))
 case atStart=>exact⟨0,0,[],Nat.zero_le _,rfl,Nat.pow_pos (by omega),rfl,rfl,HB3,zh ⟨HO3.out,rfl,Lim.nil,by simp[nv]⟩⟩
 case round =>
  obtain⟨i,k,O,hi,rfl,hk,rfl,rfl,HB,HO⟩:=hrel;obtain⟨W4,hW4⟩:=zx wr;rw[<-hW4] at HB HO ⊢;clear hW4;obtain⟨A5,c5,hv5⟩:=own_form HO.out.1;by_cases hlt:i<LN
  ·have hil:i<l.length:=by rw[<-HL.out.1];exact hlt
   have xa:=zG hil;obtain⟨X,hX⟩:=zx (l[i]);rw[<-hX] at xa;have hX32:X<4294967296:=HL.out.2.1 X (List.mem_of_getElem? xa);have k1:=HRD.out W4 HB.out i X xa;have hor:=or_up2 k X s HL.out.2.2.2.2 hk hX32;have hst:=up_stepA (s:=s) (c:=k) xa HO.out.2.1 HO.out.2.2.2
   have i1:(i:Int)<(LN:Int):=by omega
   have hp31:(2:Nat) ^ s<=2 ^ 31:=Nat.pow_le_pow_right (by omega) (by have:=HL.out.2.2.2.2;omega);have hy:X*2 ^ s<=4294967295*2 ^ 31:=Nat.mul_le_mul (by omega) hp31
   have hsh:IntKind.u64.wrap ((X:Int)*2 ^ s)=((X*2 ^ s:Nat):Int):=by
    have e:(X:Int)*2 ^ s=((X*2 ^ s:Nat):Int):=by rw[Int.natCast_mul,Int.natCast_pow];rfl
    rw[e];exact IntWalk.u64_in _ (by omega)
   have hq:(k+X*2 ^ s) / 4294967296<2 ^ s:=by
    rw[Nat.div_lt_iff_lt_mul (by omega)];have:X*2 ^ s<=4294967295*2 ^ s:=Nat.mul_le_mul_right _ (by omega);omega
   obtain⟨Y,hY⟩:=zx (X*2 ^ s);rw[<-hY] at hor hst hsh hq hy;obtain⟨T,hT⟩:=zx (k+Y);rw[<-hT] at hor hst hq;have t0:IntKind.u64.wrap (X:Int)=(X:Int):=IntWalk.u64_in _ (by omega);obtain⟨LO,hLO⟩:=zx (T % 4294967296);obtain⟨HI,hHI⟩:=zx (T / 4294967296);rw[<-hLO,<-hHI] at hst;rw[<-hHI] at hq
   have hlo:(T:Int) % 4294967296=(LO:Int):=by omega
   have hlow:IntKind.u32.wrap (T:Int)=(LO:Int):=by rw[IntKind.wrap_u32];omega
   have hhi:(T:Int) / 4294967296=(HI:Int):=by omega
   have HQ:=zh (show HI<2 ^ s/\i<LN/\LO<4294967296/\nv (O++[LO])+4294967296 ^ (i+1)*HI=nv (l.take (i+1))*2 ^ s from⟨hq,hlt,by omega,hst⟩);clear hX xa hil hst hY hT hLO hHI hp31 hy hq hlt hk hX32;subst hv5;go_wp2_with (at_builtin;refine app_u LO (.tmp 32) (.tmp 35) rfl rfl w.heap.size (.slice A5 O.length c5) i O HO.out.2.1 (by rfl) HO.out.1 (by rfl) (by have:=HL.out;have:=HQ.out;omega) HB.out.size ?_;intro v9 w9 hown9 hg9;have HB9:=zh (below_own HB.out HO.out.1 hg9);have HO9:=zh hown9;clear hown9 hg9 k1);go_wp2_with fail;go_roundg (LN-(i+1))
   case measure=>have:=HQ.out.2;omega
   case rel=>exact⟨i+1,HI,O++[LO],by have:=HQ.out.2;omega,rfl,HQ.out.1,rfl,by go_num,HB9,zh ⟨HO9.out,by rw[zP,HO.out.2.1];rfl,HO.out.2.2.1.app (fun x hx=>by rw[List.mem_singleton.1 hx];exact HQ.out.2.2.1),HQ.out.2.2.2⟩⟩
  ·have hie:LN=i:=by omega
   subst hie;have hp31:(2:Nat) ^ s<=2 ^ 31:=Nat.pow_le_pow_right (by omega) (by have:=HL.out.2.2.2.2;omega)
   have hlo:(k:Int) % 4294967296=(k:Int):=by omega
   have hlow:IntKind.u32.wrap (k:Int)=(k:Int):=by rw[IntKind.wrap_u32];omega
   have hfin:Lim (O++[k])/\nv (O++[k])=x*2 ^ s/\(O++[k]).length<=701:=by
    refine⟨HO.out.2.2.1.app (fun x hx=>by rw[List.mem_singleton.1 hx];omega),?_,by rw[zP,HO.out.2.1];have:=HL.out;simp;omega⟩;have h:=HO.out.2.2.2;rw[List.take_of_length_le (by rw[HL.out.1];exact zR _),HL.out.2.2.1] at h;rw[nv_snoc,HO.out.2.1];exact h
   obtain⟨P,hP⟩:=zx (O++[k]);rw[<-hP] at hfin;have HP:=zh hP;have HF:=zh hfin;have HLT:=zh (show(LN:Nat)<=700 from HL.out.2.2.2.1);clear hp31 hlt hk hi hfin hP;subst hv5;go_wp2_with (at_builtin;refine app_u k (.tmp 39) (.tmp 42) rfl rfl w.heap.size (.slice A5 O.length c5) LN O HO.out.2.1 (by rfl) HO.out.1 (by rfl) (by have:=HLT.out;omega) HB.out.size ?_;intro v9 w9 hown9 hg9;have HB9:=zh (below_own HB.out HO.out.1 hg9);rw[<-HP.out] at hown9;have HO9:=zh hown9;obtain⟨A9,c9,hv9⟩:=own_form hown9;subst hv9;clear hown9 hg9);refine(trim_any _ _ _ w9 (HO9.out.lsBl HF.out.1) (fun b h=>h) (by have:=HF.out.2.2;omega)).mono ?_;rintro e w10 ⟨u,rfl,ho,hb10⟩;rw[<-limbs_nv HF.out.1,HF.out.2.1] at ho;have HO10:=zh (ho.base (B':=w.heap.size) HB9.out.size);have HB10:=zh (HB9.out.trans (hb10.mono HB9.out.size));clear ho hb10;go_wp2_with fail;go_ret;exact⟨_,rfl,HO10.out,HB10.out⟩
theorem or_limb2(r x:Nat)(hr:r<4294967296)(hx:x<4294967296):bits .or .u64 (x:Int) ((r:Int)*4294967296)=((r*4294967296+x:Nat):Int):=by
 show IntKind.u64.wrap ((BitVec.ofInt 64 (x:Int) ||| BitVec.ofInt 64 ((r:Int)*4294967296)).toNat:Int)=_
 have e1:BitVec.ofInt 64 ((r:Int)*4294967296)=BitVec.ofNat 64 (r*4294967296):=by rw[show(r:Int)*4294967296=((r*4294967296:Nat):Int) by omega];exact BitVec.ofInt_natCast 64 _
 have e2:BitVec.ofInt 64 (x:Int)=BitVec.ofNat 64 x:=BitVec.ofInt_natCast 64 _;rw[e1,e2,BitVec.toNat_or,BitVec.toNat_ofNat,BitVec.toNat_ofNat,Nat.mod_eq_of_lt (by omega),Nat.mod_eq_of_lt (by omega)]
 have h1:x ||| r*4294967296=r*4294967296+x:=by
  have:=Nat.two_pow_add_eq_or_of_lt (i:=32) (b:=x) (by omega) r;rw[Nat.or_comm,Nat.mul_comm r];exact this.symm
 rw[h1];exact IntWalk.u64_in _ (by omega)
theorem down_step{U R:List Nat}{i s x y:Nat}(hx:U[i]?=some x)(hy:U[i+1]?=some y)(hs:s<32)(hR:i<R.length)(hX:x<4294967296){z:Nat}(hz:z=(y*4294967296+x) / 2 ^ s % 4294967296)(h:nv U / 2 ^ s=nv (R.take i)+4294967296 ^ i*(nv (U.drop i) / 2 ^ s)) :
  nv U / 2 ^ s=nv ((R.set i z).take (i+1))+4294967296 ^ (i+1)*(nv (U.drop (i+1)) / 2 ^ s):=by
 have hi:=(zL.1 hx).1;have hi2:=(zL.1 hy).1
 have e1:U.drop i=x :: U.drop (i+1):=by rw[List.drop_eq_getElem_cons hi];congr 1;exact(zL.1 hx).2
 have e2:U.drop (i+1)=y :: U.drop (i+1+1):=by rw[List.drop_eq_getElem_cons hi2];congr 1;exact(zL.1 hy).2
 have e3:(R.set i z).take (i+1)=R.take i++[z]:=by
  rw[List.take_add_one,List.getElem?_set_self hR,List.take_set_of_le (zR i)];rfl
 have l1:(R.take i).length=i:=by rw[List.length_take];omega
 rw[h,e3,nv_snoc,l1,Nat.pow_succ]
 have hlim:nv (U.drop i)=x+4294967296*nv (U.drop (i+1)):=by rw[e1];rfl
 have hlim2:nv (U.drop (i+1))=y+4294967296*nv (U.drop (i+1+1)):=by rw[e2];rfl
 generalize nv (U.drop (i+1+1))=t at *;generalize nv (U.drop (i+1))=b at *;generalize nv (U.drop i)=a at *;have hp:0<2 ^ s:=Nat.pow_pos (by omega)
 have hB:4294967296=2 ^ s*2 ^ (32-s):=by rw[<-Nat.pow_add,show s+(32-s)=32 by omega]
 have ha:a=(y*4294967296+x)+2 ^ s*(4294967296*(2 ^ (32-s)*t)):=by
  have:2 ^ s*(4294967296*(2 ^ (32-s)*t))=4294967296*(4294967296*t):=by
   rw[Nat.mul_left_comm,<-Nat.mul_assoc (2 ^ s),<-hB]
  rw[this];omega
 have h1:a / 2 ^ s=(y*4294967296+x) / 2 ^ s+4294967296*(2 ^ (32-s)*t):=by
  conv=>lhs;rw[ha]
  rw[Nat.add_mul_div_left _ _ hp]
 have h2:a / 2 ^ s % 4294967296=z:=by rw[h1,Nat.add_mul_mod_self_left,hz]
 have h3:a / 2 ^ s / 4294967296=b / 2 ^ s:=by
  rw[Nat.div_div_eq_div_mul,Nat.mul_comm,<-Nat.div_div_eq_div_mul]
  congr 1
  omega
 have h4:=Nat.div_add_mod (a / 2 ^ s) 4294967296;rw[h2,h3] at h4;rw[<-h4,Nat.mul_add,Nat.mul_assoc];omega
theorem down_stepA{U O:List Nat}{i s x y:Nat}(hx:U[i]?=some x)(hy:U[i+1]?=some y)(hs:s<32)(hO:O.length=i)(hX:x<4294967296){z:Nat}(hz:z=(y*4294967296+x) / 2 ^ s % 4294967296)(h:nv U / 2 ^ s=nv O+4294967296 ^ i*(nv (U.drop i) / 2 ^ s)) :
  nv U / 2 ^ s=nv (O++[z])+4294967296 ^ (i+1)*(nv (U.drop (i+1)) / 2 ^ s):=by
 have e0:(O++[0]).take i=O:=List.take_left' hO;have h1:=down_step (R:=O++[0]) hx hy hs (by rw[zP,hO];simp) hX hz (by rw[e0];exact h)
 have e:((O++[0]).set i z).take (i+1)=O++[z]:=by
  rw[List.set_append_right _ _ (by omega),hO,Nat.sub_self,List.take_of_length_le (by rw[zP,hO];simp)];rfl
 rw[e] at h1;exact h1
theorem rdown_any(va:Value)(x s:Nat)(w:World)(ha:LS w (Bl w.heap.size) va (limbs x))(hl:(limbs x).length<=700)(hs:s<32) :
  Calls Tryz.prog 177 #[va,.int .i64 (s:Int)] w fun e w'=>∃u,e=.returned u/\OwnL w' w.heap.size u (limbs (x / 2 ^ s))/\Below w.heap.size w w':=by
 obtain⟨A,c,rfl,-,-⟩:=ha.form
 have s0:(0:Int)<=(s:Int):=by omega
 have s1:(s:Int)<32:=by omega
 have d0:(s:Int).tdiv 32=0:=by rw[Int.tdiv_eq_ediv_of_nonneg s0];omega
 have r0:(s:Int).tmod 32=(s:Int):=by rw[Int.tmod_eq_emod_of_nonneg s0];omega
 rcases Nat.eq_zero_or_pos x with hx0 | hx0
 ·have HE:=zh (show limbs (x / 2 ^ s)=[] by rw[hx0,Nat.zero_div,limbs_zero])
  have hl0:(limbs x).length=0:=by rw[hx0,limbs_zero];rfl
  rw[hl0];clear ha hl hx0 hl0;go_enter Tryz.func177,Tryz.ntmps177;go_wp2_with fail;go_ret;exact⟨_,rfl,by rw[HE.out];exact OwnL.nil _ _,zB _ _⟩
 ·have hl0:0<(limbs x).length:=by obtain⟨m,t,e,-⟩:=limbs_snoc hx0;rw[e];simp
  obtain⟨b1,o1,rfl,hR1,hc1⟩:=ha.reads hl0;obtain⟨l,hll⟩:=zx (limbs x)
  have hnv:nv l=x:=by rw[hll,nv_limbs]
  have hlim:Lim l:=by rw[hll];exact lim_limbs x
  rw[<-hll] at hl hl0 hc1 ⊢;obtain⟨LN,hLN⟩:=zx l.length;rw[<-hLN] at hl hl0 ⊢;have HRD:=zh (show ∀w',Below w.heap.size w w'->∀(i x:Nat),l[i]?=some x->w'.cell? ⟨b1,o1+i,none⟩=some (.int .u32 (x:Int)) from fun w' hk i x hx=>hc1 i x hx w' (hk.block b1 hR1));have HL:=zh (show LN=l.length/\Lim l/\nv l=x/\LN<=700/\s<32 from⟨hLN,hlim,hnv,hl,hs⟩);obtain⟨U,hU⟩:=zx (l++[0]);have HU:=zh (show nv U=x/\U.length=LN+1/\(∀i,i<LN->U[i]?=l[i]?)/\U[LN]?=some 0 from⟨by rw[hU,nv_append,hnv];simp[nv],by rw[hU,hLN];simp,fun i hi=>by rw[hU,List.getElem?_append_left (by omega)],by rw[hU,hLN];simp⟩)
  have l700:(LN:Int)<=700:=by omega
  have q0:¬(LN:Int)<=0:=by omega
  clear ha hl hl0 hs hR1 hc1 hll hnv hlim hLN hU;go_enter Tryz.func177,Tryz.ntmps177;go_wp2_with fail;go_loopg [5,6] LN (fun z v5 v6 wr=>∃(i:Nat) (O:List Nat),i<=LN/\z=LN-i/\v6=.int .i64 (i:Int)/\Hid (Below w.heap.size w wr)/\Hid (OwnL wr w.heap.size v5 O/\O.length=i/\Lim O/\nv U / 2 ^ s=nv O+4294967296 ^ i*(nv (U.drop i) / 2 ^ s)))
  case atStart=>exact⟨0,[],Nat.zero_le _,rfl,rfl,zB _ _,zh ⟨OwnL.nil _ _,rfl,Lim.nil,by simp[nv]⟩⟩
  case round =>
   obtain⟨i,O,hi,rfl,rfl,HB,HO⟩:=hrel;obtain⟨W4,hW4⟩:=zx wr;rw[<-hW4] at HB HO ⊢;clear hW4;obtain⟨A5,c5,hv5⟩:=own_form HO.out.1;by_cases hlt:i<LN
   ·have hil:i<l.length:=by rw[<-HL.out.1];exact hlt
    have xl:=zG hil;obtain⟨X,hX⟩:=zx (l[i]);rw[<-hX] at xl;have hX32:X<4294967296:=HL.out.2.1 X (List.mem_of_getElem? xl);have k1:=HRD.out W4 HB.out i X xl;have xa:U[i]?=some X:=(HU.out.2.2.1 i hlt).trans xl
    have i1:(i:Int)<(LN:Int):=by omega
    have t0:IntKind.u64.wrap (X:Int)=(X:Int):=IntWalk.u64_in _ (by omega);by_cases hnx:i+1<LN
    ·have hil2:i+1<l.length:=by rw[<-HL.out.1];exact hnx
     have yl:=zG hil2;obtain⟨Y,hY⟩:=zx (l[i+1]);rw[<-hY] at yl;have hY32:Y<4294967296:=HL.out.2.1 Y (List.mem_of_getElem? yl);have k2:=HRD.out W4 HB.out (i+1) Y yl;have ya:U[i+1]?=some Y:=(HU.out.2.2.1 (i+1) hnx).trans yl;have hor:=or_limb2 Y X hY32 hX32;have t1:IntKind.u64.wrap (Y:Int)=(Y:Int):=IntWalk.u64_in _ (by omega);have t2:IntKind.u64.wrap ((Y:Int)*4294967296)=(Y:Int)*4294967296:=IntWalk.u64_in _ (by omega);obtain⟨I1,hI1⟩:=zx (i+1);rw[<-hI1] at k2
     have a4:IntKind.i64.wrap ((i:Int)+1)=(I1:Int):=by rw[hI1];exact zI _ (by omega)
     have i4:(I1:Int)<(LN:Int):=by omega
     have HI1:=zh hI1;have hYd:True:=trivial;clear hI1 hnx yl hil2 hY;obtain⟨Z,hZ⟩:=zx ((Y*4294967296+X) / 2 ^ s % 4294967296);have hst:=down_stepA xa ya HL.out.2.2.2.2 HO.out.2.1 hX32 hZ HO.out.2.2.2;obtain⟨T,hT⟩:=zx (Y*4294967296+X);rw[<-hT] at hor hZ
     have hsr:(T:Int) / 2 ^ s=((T / 2 ^ s:Nat):Int):=by rw[Int.natCast_ediv,Int.natCast_pow];rfl
     obtain⟨V,hV⟩:=zx (T / 2 ^ s);rw[<-hV] at hsr hZ
     have hzm:IntKind.u32.wrap (V:Int)=(Z:Int):=by rw[IntKind.wrap_u32];omega
     have hzn:(V:Int) % 4294967296=(Z:Int):=by omega
     have HQ:=zh (show i<LN/\Z<4294967296/\nv U / 2 ^ s=nv (O++[Z])+4294967296 ^ (i+1)*(nv (U.drop (i+1)) / 2 ^ s) from⟨hlt,by omega,hst⟩);clear hX xl xa ya hil hst hT hZ hV hlt hX32 hY32 hYd;subst hv5;go_wp2_with (at_builtin;refine app_u Z (.tmp 40) (.tmp 47) rfl rfl w.heap.size (.slice A5 O.length c5) i O HO.out.2.1 (by rfl) HO.out.1 (by rfl) (by have:=HL.out;have:=HQ.out;omega) HB.out.size ?_;intro v9 w9 hown9 hg9;have HB9:=zh (below_own HB.out HO.out.1 hg9);have HO9:=zh hown9;clear hown9 hg9 k1);go_wp2_with fail;go_roundg (LN-(i+1))
     case measure=>have:=HQ.out.1;omega
     case rel=>exact⟨i+1,O++[Z],by have:=HQ.out.1;omega,rfl,by rw[HI1.out],HB9,zh ⟨HO9.out,by rw[zP,HO.out.2.1];rfl,HO.out.2.2.1.app (fun x hx=>by rw[List.mem_singleton.1 hx];exact HQ.out.2.1),HQ.out.2.2⟩⟩
    ·obtain⟨Y,hYd⟩:∃y:Nat,y=0:=⟨_,rfl⟩
     have hY32:Y<4294967296:=by omega
     have ya:U[i+1]?=some Y:=by rw[show i+1=LN by omega,hYd];exact HU.out.2.2.2
     obtain⟨I1,hI1⟩:=zx (i+1)
     have a4:IntKind.i64.wrap ((i:Int)+1)=(I1:Int):=by rw[hI1];exact zI _ (by omega)
     have i4:¬(I1:Int)<(LN:Int):=by omega
     have HI1:=zh hI1;clear hI1 hnx;obtain⟨Z,hZ⟩:=zx ((Y*4294967296+X) / 2 ^ s % 4294967296);have hst:=down_stepA xa ya HL.out.2.2.2.2 HO.out.2.1 hX32 hZ HO.out.2.2.2;obtain⟨T,hT⟩:=zx (Y*4294967296+X);rw[<-hT] at hZ
     have hsr:(T:Int) / 2 ^ s=((T / 2 ^ s:Nat):Int):=by rw[Int.natCast_ediv,Int.natCast_pow];rfl
     obtain⟨V,hV⟩:=zx (T / 2 ^ s);rw[<-hV] at hsr hZ
     have hzm:IntKind.u32.wrap (V:Int)=(Z:Int):=by rw[IntKind.wrap_u32];omega
     have hzn:(V:Int) % 4294967296=(Z:Int):=by omega
     have HQ:=zh (show i<LN/\Z<4294967296/\nv U / 2 ^ s=nv (O++[Z])+4294967296 ^ (i+1)*(nv (U.drop (i+1)) / 2 ^ s) from⟨hlt,by omega,hst⟩)
     have hTX:T=X:=by rw[hT,hYd];omega
     rw[hTX] at hsr;clear hX xl xa ya hil hst hT hTX hZ hV hlt hX32 hY32 hYd;subst hv5;go_wp2_with (at_builtin;refine app_u Z (.tmp 40) (.tmp 47) rfl rfl w.heap.size (.slice A5 O.length c5) i O HO.out.2.1 (by rfl) HO.out.1 (by rfl) (by have:=HL.out;have:=HQ.out;omega) HB.out.size ?_;intro v9 w9 hown9 hg9;have HB9:=zh (below_own HB.out HO.out.1 hg9);have HO9:=zh hown9;clear hown9 hg9 k1);go_wp2_with fail;go_roundg (LN-(i+1))
     case measure=>have:=HQ.out.1;omega
     case rel=>exact⟨i+1,O++[Z],by have:=HQ.out.1;omega,rfl,by rw[HI1.out],HB9,zh ⟨HO9.out,by rw[zP,HO.out.2.1];rfl,HO.out.2.2.1.app (fun x hx=>by rw[List.mem_singleton.1 hx];exact HQ.out.2.1),HQ.out.2.2⟩⟩
   ·have hie:LN=i:=by omega
    subst hie
    have hn0:nv (U.drop LN)=0:=by
     have:U.drop LN=[0]:=by
      rw[List.drop_eq_getElem_cons (by rw[HU.out.2.1];omega)];have h:=HU.out.2.2.2;have h2:=zL.1 h;rw[h2.2,List.drop_of_length_le (by rw[HU.out.2.1];omega)]
     rw[this];rfl
    have hfin:Lim O/\nv O=x / 2 ^ s/\O.length<=701:=by
     refine⟨HO.out.2.2.1,?_,by rw[HO.out.2.1];have:=HL.out;omega⟩;have h:=HO.out.2.2.2;rw[hn0,Nat.zero_div,Nat.mul_zero,Nat.add_zero,HU.out.1] at h;exact h.symm
    have HF:=zh hfin;clear hlt hi hfin hn0;subst hv5;go_wp2_with fail;refine(trim_any _ _ _ W4 (HO.out.1.lsBl HF.out.1) (fun b h=>h) (by have:=HF.out.2.2;omega)).mono ?_;rintro e w10 ⟨u,rfl,ho,hb10⟩;rw[<-limbs_nv HF.out.1,HF.out.2.1] at ho;have HO10:=zh (ho.base (B':=w.heap.size) HB.out.size);have HB10:=zh (HB.out.trans (hb10.mono HB.out.size));clear ho hb10;go_wp2_with fail;go_ret;exact⟨_,rfl,HO10.out,HB10.out⟩
theorem take_step{l:List Nat}{i x:Nat}(hx:l[i]?=some x):nv (l.take (i+1))=nv (l.take i)+4294967296 ^ i*x:=by
 have hi:=(zL.1 hx).1;rw[List.take_add_one,hx,show(some x).toList=[x] from rfl,nv_snoc,List.length_take,Nat.min_eq_left (by omega)]
theorem take_past{l:List Nat}{i:Nat}(hi:l.length<=i):nv (l.take (i+1))=nv (l.take i):=by
 rw[List.take_of_length_le hi,List.take_of_length_le (by omega)]
theorem minus_step{P x c c' z v n o b:Nat}(h1:x+4294967296*c'=z+(c+v))(h:n+P*c=o+b):(n+P*x)+P*4294967296*c'=(o+P*z)+(b+P*v):=by
 have e1:P*(x+4294967296*c')=P*(z+(c+v)):=by rw[h1]
 rw[Nat.mul_add,Nat.mul_add P z,Nat.mul_add P c,<-Nat.mul_assoc] at e1;omega
end Go.Proofs.YtgfaieppacabjaaGreat
