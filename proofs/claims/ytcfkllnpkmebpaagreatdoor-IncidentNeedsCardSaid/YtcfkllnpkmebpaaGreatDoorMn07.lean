/- Contents at a stripe of a made fleet, walked. -/
import Derived.Test.YtcfkllnpkmebpaaGreatDoorMh01
import Derived.Test.YtcfkllnpkmebpaaGreatDoorMh02
import Derived.Test.YtcfkllnpkmebpaaGreatDoorMh03
import Derived.Test.YtcfkllnpkmebpaaGreatDoorMh04
import Derived.Test.YtcfkllnpkmebpaaGreatDoorMh05
import Derived.Test.YtcfkllnpkmebpaaGreatDoorMh06
import Derived.Test.YtcfkllnpkmebpaaGreatDoorMh07
import Derived.Test.YtcfkllnpkmebpaaGreatDoorMh08
import Derived.Test.YtcfkllnpkmebpaaGreatDoorMh09
import Derived.Test.YtcfkllnpkmebpaaGreatDoorMh10
import Derived.Test.YtcfkllnpkmebpaaGreatDoorMh11
import Derived.Test.YtcfkllnpkmebpaaGreatDoorMh12
import Derived.Test.YtcfkllnpkmebpaaGreatDoorMh13
import Derived.Test.YtcfkllnpkmebpaaGreatDoorMh14
import Derived.Test.YtcfkllnpkmebpaaGreatDoorMh15
import Derived.Test.YtcfkllnpkmebpaaGreatDoorMh16
import Derived.Test.YtcfkllnpkmebpaaGreatDoorMh17
import Derived.Test.YtcfkllnpkmebpaaGreatDoorMh18
import Derived.Test.YtcfkllnpkmebpaaGreatDoorMn06
import Derived.Test.YtcfkllnpkmebpaaGreatDoorMn03
import Derived.Test.YtcfkllnpkmebpaaGreatDoorMn01
import Derived.Test.YtcfkllnpkmebpaaGreatDoorMn02
import Derived.Test.YtcfkllnpkmebpaaGreatDoorMn04
import Derived.Test.YtcfkllnpkmebpaaGreatDoorMn05
set_option maxRecDepth 100000
set_option maxHeartbeats 12800000
namespace Go.Proofs.YtcfkllnpkmebpaaGreatDoor
open Go.RowKit
set_option linter.unusedVariables false
set_option linter.unusedSimpArgs false
def frT(r:Re) (v s:Nat) (up:Bool) (n:Nat):List Int:=outTo r up (stripeP (pieces r) (v:Int) (s:Int)) (n:Int) 8
def pickF(r:Re) (l:List Fd) (up:Bool) (i:Int):Frg:=⟨i,((l.find? (srcC r up i)).map (·.p.data)).getD []⟩
def hvT(r:Re) (v s:Nat) (up:Bool) (k n:Nat):List Frg:=((frT r v s up n).take k).map (pickF r (stripeP (pieces r) (v:Int) (s:Int)) up)
def conE(r:Re) (v s:Nat) (up:Bool) (k n:Nat):Int:=if(frT r v s up n).length<k then 121 else decE (k:Int) ((n:Int) - (k:Int)) (hvT r v s up k n)
def conS(r:Re) (v s:Nat) (up:Bool) (k n:Nat):List UInt8:=if(frT r v s up n).length<k then [] else if decE (k:Int) ((n:Int) - (k:Int)) (hvT r v s up k n)=0 then((wordT k n (decD k (hvT r v s up k n)) (rowLen (hvT r v s up k n))).take k).flatten else []
def HeldX(gi lb o:Nat) (a b:Value) (w':World):Prop:=w'.cell? ⟨gi,0,none⟩=some a∧w'.cell? ⟨lb,o,none⟩=some b
theorem HeldX.same{wc w2:World} {gi lb o:Nat} {a b:Value} (h:HeldX gi lb o a b wc) (e1:w2.heap[gi]?=wc.heap[gi]?) (e2:w2.heap[lb]?=wc.heap[lb]?):HeldX gi lb o a b w2 :=
 ⟨(World.cell?_of_block (w:=wc) e1).trans h.1,(World.cell?_of_block (w:=wc) e2).trans h.2⟩
theorem conv_piece(y:ByteArray) (w:World) (hy:y.size≤maxLen):∃(cap:Nat) (w':World),(convert 9 53 (.string y)).run Tryz.prog w=.ok (.slice (some ⟨w.heap.size,0,none⟩) y.size cap) w'∧Below w.heap.size w w'∧w'.heap.size=w.heap.size+1∧ByS w' (Fr w.heap.size (w.heap.size+1)) (.slice (some ⟨w.heap.size,0,none⟩) y.size cap) y.data.toList:=by
 have h:=run_bytes_of_string (P:=Tryz.prog) w 9 53 5 y Tryz.underlying9 Tryz.underlying53 Tryz.underlying5
 refine⟨_,_,h,(Below.refl _ _).drew.alloc (Nat.le_refl _) _,by show(Array.push w.heap _).size=w.heap.size+1;exact Array.size_push _,?_⟩
 have hg:=grownCap_ge w y.size 0 5
 refine⟨_,_,rfl,hg,hy,fun _=>⟨w.heap.size,0,rfl,⟨Nat.le_refl _,Nat.lt_succ_self _⟩,fun k x hk=>?_⟩⟩
 rw[Nat.zero_add]
 have hk2:=(List.getElem?_eq_some_iff.1 hk)
 have hb:=heap_alloc_new w.drew (.cells (bytesRow y (grownCap w y.size 0 5)) 5 ((bytesRow y (grownCap w y.size 0 5)).size,(bytesRow y (grownCap w y.size 0 5)).size+1))
 rw[show(⟨w.heap.size,k,none⟩:Addr)=⟨w.drew.heap.size,k,none⟩ from rfl,cell_of_row _ _ _ _ _ _ hb]
 unfold bytesRow
 rw[Array.getElem?_append_left (by simp;exact hk2.1),Array.getElem?_map]
 have h3:y.data[k]?=some x:=by rw[←Array.getElem?_toList];exact hk
 rw[h3];rfl
theorem isStripe_any(ext:Int) (vl vm vd vv vp:Value) (A:Option Addr) (NO co v s:Nat) (w:World) (hv:v<NO) (hs:(s:Int)<ext) :
  Calls Tryz.prog 69 #[.agg #[.int .i64 ext,vl,vm,vd,vv,vp,.slice A NO co],.int .i64 (v:Int),.int .i64 (s:Int)] w fun e w'=>e=.returned (.bool true)∧Below w.heap.size w w':=by
 have f1:decide ((0:Int)≤(v:Int))=true:=decide_eq_true (by omega)
 have f2:decide ((0:Int)≤(s:Int))=true:=decide_eq_true (by omega)
 have i1:(v:Int)<(NO:Int):=by omega
 go_enter Tryz.func69,Tryz.ntmps69
 go_wp2_with fail
 go_ret
 exact⟨rfl,(Below.refl _ _).alloc (Nat.le_refl _) _⟩
theorem idxC_ok(r:Re) (up:Bool) (l:List Fd) (n:Int) (x:Int) (hx:x∈outTo r up l n 8):∃(t:Nat) (h:t<l.length),idxC r up x l=(t:Int)∧l.find? (srcC r up x)=some l[t]:=by
 unfold outTo at hx
 obtain⟨i,-,hi⟩:=List.mem_filterMap.1 hx
 by_cases hc:hasB r up l i=true∧(i:Int)<n
 ·rw[if_pos hc] at hi
  injection hi with hi
  subst hi
  have ha:l.any (srcC r up (i:Int))=true:=hc.1
  have hne:(l.findIdx? (srcC r up (i:Int)))≠none:=fun e=>by
   rw[List.findIdx?_eq_none_iff] at e
   obtain⟨y,hy,hp⟩:=List.any_eq_true.1 ha
   rw[e y hy] at hp;cases hp
  obtain⟨t,ht⟩:=Option.ne_none_iff_exists'.1 hne
  obtain⟨h1,h2,h3⟩:=List.findIdx?_eq_some_iff_getElem.1 ht
  refine⟨t,h1,by unfold idxC;rw[ht],?_⟩
  rw[List.find?_eq_some_iff_getElem]
  exact⟨h2,t,h1,rfl,fun u hu=>by have:=h3 u hu;simpa using this⟩
 ·rw[if_neg hc] at hi;cases hi
theorem hvT_le(r:Re) (v s:Nat) (up:Bool) (k n:Nat) (h16:∀x∈stripeP (pieces r) (v:Int) (s:Int),x.p.data.length=16):∀h∈hvT r v s up k n,h.data.length≤16:=fun h hh=>by
 obtain⟨i,-,rfl⟩:=List.mem_map.1 hh
 unfold pickF
 cases hf:(stripeP (pieces r) (v:Int) (s:Int)).find? (srcC r up i) with
 | none=>simp
 | some x=>simp[h16 x (List.mem_of_find?_eq_some hf)]
theorem hvT_row(r:Re) (v s:Nat) (up:Bool) (k n:Nat) (h16:∀x∈stripeP (pieces r) (v:Int) (s:Int),x.p.data.length=16) (hk:1≤k) (hl:k≤(frT r v s up n).length):rowLen (hvT r v s up k n)=16:=by
 unfold rowLen hvT datas
 rw[List.map_map]
 cases hfr:frT r v s up n with
 | nil=>rw[hfr] at hl;simp at hl;omega
 | cons i t =>
  obtain⟨k',rfl⟩:∃k',k=k'+1:=⟨k - 1,by omega⟩
  rw[List.take_succ_cons,List.map_cons]
  show(pickF r _ up i).data.length=16
  have hm:i∈outTo r up (stripeP (pieces r) (v:Int) (s:Int)) (n:Int) 8:=by
   have:i∈frT r v s up n:=by rw[hfr];simp
   exact this
  obtain⟨t',ht',-,hf⟩:=idxC_ok r up _ _ i hm
  unfold pickF
  rw[hf]
  exact h16 _ (List.getElem_mem ht')
theorem contents_any(N:Nat) (hN:N≤12) (vl vm vd vv vp vo vp0 vo0 va0:Value) (F:FltM) (r:Re) (v s EX KN KM:Nat) (up:Bool) (w:World) (hf:FleetS w (Bl w.heap.size) vl vm vd vv vp vo F) (hok:FleetOk N F) (h:ReS w (Bl w.heap.size) vp0 vo0 va0 r) (hp:r.plat.length≤1000) (hl:∀l∈r.plat,l.length≤1000) (hac:r.acks.length≤1000000)
  (hv:v<F.vols.length) (hEX:F.ext=(EX:Int)) (hs:s<EX) (hKN:kOf F v=(KN:Int)) (hKM:kOf F v+mOf F v=(KM:Int)) :
  Calls Tryz.prog 27 #[.agg #[.int .i64 F.ext,vl,vm,vd,vv,vp,vo],.agg #[vp0,vo0,va0],.int .i64 (v:Int),.int .i64 (s:Int),.bool up] w fun e w'=>e=.returned (.tuple #[.string ⟨(conS r v s up KN KM).toArray⟩,.int .i64 (conE r v s up KN KM)])∧Below w.heap.size w w':=by
 obtain⟨pb,pof,ob,oof,cp,co,rfl,rfl,hRp,hRo,hPA⟩:=polAt hf hok
 have HVA:=zh (fun(w':World) (hb:Below w.heap.size w w')=>fvalidate_any N hN vl vm vd vv _ _ F w' (hf.below hb) hok)
 have HIX:=zh (fun w1 h1=>index_any vp0 vo0 va0 r w1 h1 hp hl hac)
 have HRE:=zh (fun(w':World) (hb:Below w.heap.size w w')=>h.below hb)
 have HPL:=zh (piecesTo_all r r.plat.length)
 have HPD:=zh (pieces_drive r (by omega))
 obtain⟨hpl,nm,hvol,a0,a4,a5,a6,a7,a8,a9,a10,a11,a12,a13,a14,a15,a16,hpol,hone⟩:=hPA v hv
 obtain⟨kk,m1,m2,-,-⟩:=kmq_ok hok hv
 obtain⟨MM,hMM⟩:=zx (mOf F v)
 obtain⟨QQ,hQ⟩:=zx (qOf F v)
 obtain⟨p0,hpp⟩:=zx (volP F v)
 rw[hKN,←hMM,←hQ] at hpol hone
 rw[←hpp] at hvol hpl hpol
 rw[hKN,←hMM] at hKM
 rw[←hMM] at m1 m2
 rw[hKN] at kk
 have HKM:=zh (show(KN=1∨KN=2)∧0≤MM∧MM≤2∧(KN:Int)+MM=(KM:Int)∧KM≤4 from⟨by omega,m1,m2,hKM,by omega⟩)
 have hex:EX≤2:=by have:=hok.ext;omega
 have hno:=hok.volN
 have hnp:=hok.polN
 have HIS:=zh (fun(w':World)=>isStripe_any (EX:Int) vl vm vd vv (.slice (some ⟨pb,pof,none⟩) F.pols.length cp) (some ⟨ob,oof,none⟩) F.vols.length co v s w' hv (by omega))
 rw[hEX] at HVA ⊢
 have HI64:=zh (show I64 (v:Int)∧I64 (s:Int) from⟨by unfold I64;omega,by unfold I64;omega⟩)
 obtain⟨NO,hNO⟩:=zx F.vols.length
 obtain⟨NP,hNP⟩:=zx F.pols.length
 rw[←hNO] at hno hv HVA HIS ⊢
 rw[←hNP] at hnp hpl HVA HIS ⊢
 obtain⟨W0,hW0⟩:=zx (((w.alloc (.cells #[.int .i64 (EX:Int),vl,vm,vd,vv,.slice (some ⟨pb,pof,none⟩) NP cp,.slice (some ⟨ob,oof,none⟩) NO co] 35)).alloc (.cells #[vp0,vo0,va0] 40)).alloc (.cells #[.bool up] 4))
 obtain⟨z,hz⟩:=zx w.heap.size
 obtain⟨y,hy⟩:=zx (w.heap.size+1)
 obtain⟨gu,hgu⟩:=zx (w.heap.size+1+1)
 have hb0:Below w.heap.size w W0:=by rw[hW0];exact(((Below.refl _ _).alloc (Nat.le_refl _) _).alloc (by simp) _).alloc (by simp;omega) _
 have hgk:W0.heap[gu]?=some (.cells #[.bool up] 4 (0,0)):=by rw[hW0];exact heap_alloc_at _ _ _ (by rw[hgu];simp)
 have hyk:W0.heap[y]?=some (.cells #[vp0,vo0,va0] 40 (0,0)):=by
  rw[hW0];exact(Below.heap_alloc _ _ _ (by rw[hy];simp)).trans (heap_alloc_at _ _ _ (by rw[hy];simp))
 have hzk:W0.heap[z]?=some (.cells #[.int .i64 (EX:Int),vl,vm,vd,vv,.slice (some ⟨pb,pof,none⟩) NP cp,.slice (some ⟨ob,oof,none⟩) NO co] 35 (0,0)):=by
  rw[hW0,hz];exact(Below.heap_alloc _ _ _ (by simp;omega)).trans ((Below.heap_alloc _ _ _ (by simp)).trans (heap_alloc_new w _))
 have hyl:y<W0.heap.size:=(Array.getElem?_eq_some_iff.1 hyk).1
 have hzl:z<W0.heap.size:=(Array.getElem?_eq_some_iff.1 hzk).1
 have hgl:gu<W0.heap.size:=(Array.getElem?_eq_some_iff.1 hgk).1
 have HC:=zh (fun(w':World) (hb:Below W0.heap.size W0 w')=>And.intro (cells7 ((hb.block z hzl).trans hzk)) (And.intro (cells3 ((hb.block y hyl).trans hyk)) (show w'.cell? ⟨gu,0,none⟩=some (.bool up) from by rw[cell_of_row _ _ _ _ _ _ ((hb.block gu hgl).trans hgk)];rfl)))
 have HW0:=zh hW0
 have HZ:=zh hz
 have HY:=zh hy
 have HGU:=zh hgu
 have HB0:=zh hb0
 have HVOL:=zh (fun(w':World) (hb:Below W0.heap.size W0 w')=>(show w'.cell? ⟨ob,oof+v * 2+1,none⟩=some (.int .i64 (p0:Int)) from range_same hvol ((hb0.trans (hb.mono hb0.size)).block ob hRo) 1 _ rfl))
 have HPOL:=zh (fun(w':World) (hb:Below W0.heap.size W0 w')=>(show w'.rangeAt pb (pof+p0 * 17) [a0,.int .i64 (KN:Int),.int .i64 MM,.int .i64 QQ,a4,a5,a6,a7,a8,a9,a10,a11,a12,a13,a14,a15,a16] from range_same hpol ((hb0.trans (hb.mono hb0.size)).block pb hRp)))
 have HON:=zh hone
 have i1:(v:Int)<(NO:Int):=by omega
 have i2:(p0:Int)<(NP:Int):=by omega
 have i3:(KN:Int)≤2:=by omega
 have i4:(1:Int)≤(KN:Int):=by omega
 have i5:(KM:Int)≤4:=by have:=HKM.out;omega
 have hkw:IntKind.i64.wrap ((KN:Int)+MM)=(KM:Int):=by rw[HKM.out.2.2.2.1];exact IntWalk.i64_in _ (by omega)
 have hkm:(KN:Int)+MM=(KM:Int):=HKM.out.2.2.2.1
 have hkw2:IntKind.i64.wrap (KM:Int)=(KM:Int):=IntWalk.i64_in _ (by omega)
 have HMM:=zh (show MM=(KM:Int) - (KN:Int) from by omega)
 obtain⟨⟨c0,c1,c2,c3,c4,c5,c6⟩,-⟩:=HC.out W0 (Below.refl _ _)
 clear hf hok h hPA hRp hRo hvol hpol hone hW0 hz hy hgu hb0 hgk hyk hzk hyl hzl hgl hNO hNP hEX hKN hMM hQ hpp hpl kk m1 m2 hKM
 go_enter Tryz.func27,Tryz.ntmps27
 go_wp2_with fail
 rw[←HW0.out,←HGU.out,←HY.out,←HZ.out]
 refine(HVA.out _ HB0.out).mono ?_
 rintro e w0 ⟨rfl,hb00⟩
 have HB00:=zh hb00
 clear c0 c1 c2 c3 c4 c5 c6 hb00
 obtain⟨⟨c0,c1,c2,c3,c4,c5,c6⟩,-⟩:=HC.out w0 HB00.out
 go_wp2_with fail
 refine(HIS.out _).mono ?_
 rintro e w1 ⟨rfl,hb1⟩
 have HB1:=zh (HB00.out.trans (hb1.mono HB00.out.size))
 have HTH:=zh (show((w1.alloc (.cells #[.string ⟨#[]⟩,.int .i64 0,.int .i64 0,.int .i64 0,.int .i64 0,.int .i64 0,.int .i64 0,.int .i64 0,.int .i64 0,.slice none 0 0,.slice none 0 0,.bool false,.slice none 0 0,.slice none 0 0,.bool false,.slice none 0 0,.slice none 0 0] 85)).drew).there w1.heap.size 0 17 from there_of_block (w:=(w1.alloc (.cells #[.string ⟨#[]⟩,.int .i64 0,.int .i64 0,.int .i64 0,.int .i64 0,.int .i64 0,.int .i64 0,.int .i64 0,.int .i64 0,.slice none 0 0,.slice none 0 0,.bool false,.slice none 0 0,.slice none 0 0,.bool false,.slice none 0 0,.slice none 0 0] 85)).drew) (cs:=#[.string ⟨#[]⟩,.int .i64 0,.int .i64 0,.int .i64 0,.int .i64 0,.int .i64 0,.int .i64 0,.int .i64 0,.int .i64 0,.slice none 0 0,.slice none 0 0,.bool false,.slice none 0 0,.slice none 0 0,.bool false,.slice none 0 0,.slice none 0 0]) (heap_alloc_new w1 _) (Nat.le_refl 17))
 have HSK:=zh (fun(w':World) (hb:Below w1.heap.size w1 w')=>(show w'.cell? ⟨z,5,none⟩=some (.slice (some ⟨pb,pof,none⟩) NP cp)∧w'.cell? ⟨z,6,none⟩=some (.slice (some ⟨ob,oof,none⟩) NO co)∧w'.cell? ⟨ob,oof+v * 2+1,none⟩=some (.int .i64 (p0:Int))∧w'.rangeAt pb (pof+p0 * 17) [a0,.int .i64 (KN:Int),.int .i64 MM,.int .i64 QQ,a4,a5,a6,a7,a8,a9,a10,a11,a12,a13,a14,a15,a16] from by
  have hb0':=HB1.out.trans (hb.mono HB1.out.size)
  obtain⟨⟨-,-,-,-,-,x5,x6⟩,-⟩:=HC.out w' hb0'
  exact⟨x5,x6,HVOL.out w' hb0',HPOL.out w' hb0'⟩))
 clear c0 c1 c2 c3 c4 c5 c6 hb1
 go_upto_region 3 with fail
 refine region_tail (S:=(fun w'=>w'.cell? ⟨z,5,none⟩=some (.slice (some ⟨pb,pof,none⟩) NP cp)∧w'.cell? ⟨z,6,none⟩=some (.slice (some ⟨ob,oof,none⟩) NO co)∧w'.cell? ⟨ob,oof+v * 2+1,none⟩=some (.int .i64 (p0:Int))∧w'.rangeAt pb (pof+p0 * 17) [a0,.int .i64 (KN:Int),.int .i64 MM,.int .i64 QQ,a4,a5,a6,a7,a8,a9,a10,a11,a12,a13,a14,a15,a16])) [11] (by kernel_rfl) (HSK.out _ (Below.refl _ _).drew) (fun hHeld=>?_)
 refine tk 0 34 ?_
 refine tk 1 35 ?_
 refine tk 2 36 ?_
 refine tk 3 37 ?_
 refine tk 4 38 ?_
 refine tk 5 39 ?_
 refine tk 6 40 ?_
 refine tk 7 41 ?_
 refine tk 8 42 ?_
 refine takeT (i:=9) (d:=43) (v:=(.agg #[a0,.int .i64 (KN:Int),.int .i64 MM,.int .i64 QQ,a4,a5,a6,a7,a8,a9,a10,a11,a12,a13,a14,a15,a16])) rfl rfl (by kernel_rfl) (by kernel_rfl) (by kernel_rfl) (by kernel_rfl) (fun _ _ _ h=>h) (yieldsIf_load_mid (by rfl) 85 (.tmp 42) rfl pb (pof+p0 * 17) (by rfl) [a0,.int .i64 (KN:Int),.int .i64 MM,.int .i64 QQ,a4,a5,a6,a7,a8,a9,a10,a11,a12,a13,a14,a15,a16] _ (fun w hw=>hw.2.2.2) Tryz.underlying85 rfl size_pol) (by assumption) ?_
 (try simp only[Act.put,z1,z2,z3])
 refine readyT (rs:=[10]) (by kernel_rfl) (by simp) ?_
 refine AllReadyT.cons rfl (fun K hK=>?_) ?_
 ·go_simp
  refine hK.out _ _ ?_ (fun hHeld=>?_)
  ·exact HSK.out _ ((Below.refl _ _).drew.alloc (Nat.le_refl _) _)
  clear hK K
  (try simp only[Act.put,z1,z2,z3])
  refine readyT (rs:=[11]) (by kernel_rfl) (by simp) ?_
  refine AllReadyT.consT rfl rfl (fun K hK=>?_) ?_
  ·rw[if_pos (by rfl)]
   refine wp_store_mid 85 (.tmp 12) (.tmp 43) rfl w1.heap.size 0 #[a0,.int .i64 (KN:Int),.int .i64 MM,.int .i64 QQ,a4,a5,a6,a7,a8,a9,a10,a11,a12,a13,a14,a15,a16] (by rfl) (by rfl) HTH.out size_pol HON.out ?_
   refine hK.out _ _ ?_
   clear hK K
   (try simp only[Act.put,z1,z2,z3])
   refine doneT (by kernel_rfl) ?_ _
   clear hHeld
   obtain⟨W6,hW6⟩:=zx (World.setCells ((w1.alloc (.cells #[.string ⟨#[]⟩,.int .i64 0,.int .i64 0,.int .i64 0,.int .i64 0,.int .i64 0,.int .i64 0,.int .i64 0,.int .i64 0,.slice none 0 0,.slice none 0 0,.bool false,.slice none 0 0,.slice none 0 0,.bool false,.slice none 0 0,.slice none 0 0] 85)).drew) w1.heap.size 0 [a0,.int .i64 (KN:Int),.int .i64 MM,.int .i64 QQ,a4,a5,a6,a7,a8,a9,a10,a11,a12,a13,a14,a15,a16])
   obtain⟨gp,hgp⟩:=zx w1.heap.size
   have hb6:Below w1.heap.size w1 W6:=by rw[hW6];exact below_setCellsV (Nat.le_refl _) _ _ _ ((Below.refl _ _).alloc (Nat.le_refl _) _).drew
   have hgr:W6.rangeAt gp 0 [a0,.int .i64 (KN:Int),.int .i64 MM,.int .i64 QQ,a4,a5,a6,a7,a8,a9,a10,a11,a12,a13,a14,a15,a16]:=by rw[hW6,hgp];exact World.rangeAt_setCells_same _ _ _ _ HTH.out
   have HGP:=zh (fun(w':World) (hb:Below W6.heap.size W6 w')=>(show w'.cell? ⟨gp,1,none⟩=some (.int .i64 (KN:Int))∧w'.cell? ⟨gp,2,none⟩=some (.int .i64 MM) from
    have hl:=World.block_lt_of_cell? W6 _ (hgr 0 _ rfl)
    ⟨range_same hgr (hb.block gp hl) 1 _ rfl,range_same hgr (hb.block gp hl) 2 _ rfl⟩))
   have HB6:=zh (HB1.out.trans (hb6.mono HB1.out.size))
   have HW6:=zh hW6
   have HGG:=zh hgp
   clear hW6 hgp hb6 hgr HTH HSK
   obtain⟨-,⟨y0,y1,y2,-⟩,-⟩:=HC.out W6 HB6.out
   go_upto_region 4 with fail
   rw[←HW6.out,←HGG.out]
   have hre:=HRE.out W6 (HB0.out.trans (HB6.out.mono HB0.out.size))
   go_wp2_with fail
   refine(HIX.out _ hre).mono ?_
   rintro e w2 ⟨bm,nm2,fm,rfl,hbb,hM,hG,hb2⟩
   have hlk:=hM.look key_two Tryz.underlying144 (zero_fds w2) HI64.out.1 HI64.out.2
   have hown:=hG.at_ (fun x hx=>(HPL.out x hx).2) HI64.out.1 HI64.out.2
   obtain⟨l,hl⟩:=zx (stripeP (pieces r) (v:Int) (s:Int))
   rw[←hl] at hown
   obtain⟨LU,hLU⟩:=zx l.length
   obtain⟨Au,cu,hfm⟩:=own_form hown
   rw[hfm] at hown hlk
   rw[←hLU] at hown hlk
   unfold kv at hlk
   have HSL2:=zh (OwnFd.slBl (show OwnFd w2 (bm+1) 152 (.slice Au LU cu) l from by rw[hLU];rw[hLU] at hown;exact hown) (fun x hx=>by rw[hl] at hx;exact HPD.out x (List.mem_filter.1 hx).1))
   have hfr:∀x∈l,0≤x.p.frag∧x.p.frag<8:=fun x hx=>by
    rw[hl] at hx
    have h1:=validP_iff.1 (HPL.out x (List.mem_filter.1 hx).1).1
    exact⟨h1.2.2.1,h1.2.2.2.1⟩
   have HB2:=zh (HB6.out.trans (hb2.mono HB6.out.size))
   have HB62:=zh hb2
   have HRE2:=zh (HRE.out w2 (HB0.out.trans (HB2.out.mono HB0.out.size)))
   have HI1:=zh (intact_any vp0 vo0 va0 (.slice Au LU cu) r l (KM:Int) up w2 HRE2.out HSL2.out hfr (by have:=HKM.out;unfold I64;omega))
   have HLL:=zh hl
   have HL16:=zh (show ∀x∈l,x.p.data.length=16 from fun x hx=>by rw[hl] at hx;exact(validP_iff.1 (HPL.out x (List.mem_filter.1 hx).1).1).2.2.2.2.2.2.2.2.2.2)
   have HLU:=zh hLU
   clear hbb hM hG hb2 hown hfm hfr hl hLU y0 y1 y2 hre
   obtain⟨-,⟨y0,y1,y2,-⟩,b0⟩:=HC.out w2 HB2.out
   obtain⟨p1,p2⟩:=HGP.out w2 HB62.out
   go_wp2_with fail
   clear hlk
   refine HI1.out.mono ?_
   rintro e w3 ⟨uf,rfl,hof,hb3⟩
   obtain⟨FR,hFR⟩:=zx (outTo r up l (KM:Int) 8)
   rw[←hFR] at hof
   obtain⟨NF,hNF⟩:=zx FR.length
   obtain⟨Af,cf,huf⟩:=hof.form
   rw[←hNF] at huf
   subst huf
   have HB3:=zh (HB2.out.trans (hb3.mono HB2.out.size))
   have HB63:=zh (HB62.out.trans (hb3.mono HB62.out.size))
   have HSL3:=zh (SlS.below fdK HSL2.out hb3)
   have HFI:=zh (hof.intS (fun x hx=>by rw[hFR] at hx;have:=outTo_mem x hx;unfold I64;omega))
   have HFR:=zh (show FR=frT r v s up KM from by rw[hFR,HLL.out];rfl)
   have HNF:=zh hNF
   have hnf8:NF≤8:=by rw[hNF,hFR];exact outTo_length
   clear hof hb3 hFR hNF y0 y1 y2 b0 p1 p2 HI1
   obtain⟨p1,p2⟩:=HGP.out w3 HB63.out
   by_cases hsh:NF<KN
   ·-- S{
    go_wp2_with fail
    go_ret2
    refine⟨?_,HB0.out.trans (HB3.out.mono HB0.out.size)⟩
    have h1:FR.length<KN:=by rw[←HNF.out];exact hsh
    unfold conS conE
    rw[←HFR.out,if_pos h1,if_pos h1]
    rfl
   ·-- T{
    have HSH:=zh (show KN≤NF from by omega)
    have hcapn:KN≤cf:=by
     obtain⟨Ax,cx,hvx,hcx,-⟩:=HFI.out.form7
     injection hvx with hv1 hv2 hv3
     have h1:=HSH.out
     have h2:=HNF.out
     omega
    have hcap:(KN:Int)≤(cf:Int):=by omega
    obtain⟨HV,hHV⟩:=zx (hvT r v s up KN KM)
    have hhl:HV.length=KN:=by
     rw[hHV];unfold hvT
     rw[List.length_map,List.length_take,←HFR.out,←HNF.out];have:=HSH.out;omega
    have HHL:=zh hhl
    have HD16:=zh (show ∀h∈HV,h.data.length≤65536 from fun h hh=>by rw[hHV] at hh;exact Nat.le_trans (hvT_le r v s up KN KM (by rw[←HLL.out];exact HL16.out) h hh) (by decide))
    have HROW:=zh (show rowLen HV=16 from by
     rw[hHV];exact hvT_row r v s up KN KM (by rw[←HLL.out];exact HL16.out) (by omega) (by rw[←HFR.out,←HNF.out];exact HSH.out))
    have HHV:=zh (fun j (hj:j<KN)=>(show HV[j]?=(FR[j]?).map (pickF r l up) from by
     rw[hHV];unfold hvT
     rw[List.getElem?_map,List.getElem?_take,if_pos hj,←HFR.out,←HLL.out]))
    have HCS:=zh (show(conS r v s up KN KM=if decE (KN:Int) MM HV=0 then((wordT KN KM (decD KN HV) (rowLen HV)).take KN).flatten else [])∧conE r v s up KN KM=decE (KN:Int) MM HV from by
     have h1:¬(frT r v s up KM).length<KN:=by rw[←HFR.out,←HNF.out];have:=HSH.out;omega
     unfold conS conE
     rw[if_neg h1,if_neg h1,←hHV,←HMM.out]
     exact⟨rfl,rfl⟩)
    obtain⟨i0,hi0,hz0,hz1,hz2⟩:=info_parts info_frag
    have hmf:∀(fn:Fn) (first cap:Array Value) (w:World),(Instr.makeFunc fn first cap).run Tryz.prog w=.ok (.func fn first cap) w:=fun _ _ _ _=>rfl
    clear hHV hhl
    go_wp2_with fail
    clear p1 p2
    go_loopg [15,69] KN (fun z v15 v69 wr=>∃j:Nat,j≤KN∧z=KN - j∧v69=.int .i64 (j:Int)∧Hid (OwnFg wr w3.heap.size v15 (HV.take j))∧Hid (Below w3.heap.size w3 wr))
    case atStart=>exact⟨0,by omega,rfl,rfl,OwnFg.nil _ _,Below.refl _ _⟩
    case round =>
     obtain⟨j,hj,rfl,rfl,HO,HBR⟩:=hrel
     have HR0:=zh (HB3.out.trans (HBR.out.mono HB3.out.size))
     by_cases hlj:j<KN
     ·-- L1{
      have hjl:j<FR.length:=by have:=HSH.out;have:=HNF.out;omega
      obtain⟨b,off,hAf,hR,hc,hx64⟩:=HFI.out.at7 (k:=j) hjl
      subst hAf
      have l0:=(HBR.out.cell (p:=⟨b,off+j,none⟩) hR.2).trans hc
      obtain⟨x,hx⟩:=zx (FR[j])
      rw[←hx] at l0 hx64
      obtain⟨t,ht,hidx,hfind⟩:=idxC_ok r up l (KM:Int) x (by
       have hm:x∈FR:=by rw[hx];exact List.getElem_mem hjl
       rw[HFR.out] at hm
       rw[HLL.out]
       exact hm)
      obtain⟨W4,hW4⟩:=zx (wr.alloc (.cells #[.int .i64 x] 3))
      obtain⟨gi,hgi⟩:=zx wr.heap.size
      have hb4:Below wr.heap.size wr W4:=by rw[hW4];exact(Below.refl _ _).alloc (Nat.le_refl _) _
      have hgk:W4.heap[gi]?=some (.cells #[.int .i64 x] 3 (0,0)):=by rw[hW4,hgi];exact heap_alloc_new _ _
      have ki:W4.cell? ⟨gi,0,none⟩=some (.int .i64 x):=by rw[cell_of_row _ _ _ _ _ _ hgk];rfl
      have h04:=HR0.out.trans (hb4.mono HR0.out.size)
      obtain⟨-,⟨y0,y1,y2,-⟩,b0⟩:=HC.out W4 h04
      have hsl4:=SlS.below fdK HSL3.out (HBR.out.trans (hb4.mono HBR.out.size))
      have HIF:=zh (indexf_any (.slice Au LU cu) l x up gi gu y vp0 vo0 va0 r W4 hsl4 ki b0 y0 y1 y2 (HRE.out W4 (HB0.out.trans (h04.mono HB0.out.size))))
      rw[hidx] at HIF
      have hd16:l[t].p.data.length=16:=by
       exact HL16.out _ (List.getElem_mem ht)
      obtain⟨lb,lo,csl,hAu,hlR,-,hcl,hfk,-⟩:=HSL3.out.at_ (k:=t) ht
      subst hAu
      obtain⟨-,-,-,-,-,-,q6⟩:=seven hcl hfk
      obtain⟨px,hpx⟩:=zx (l[t].p.data)
      rw[←hpx] at q6 hd16
      have HFD:=zh (show l.find? (srcC r up x)=some l[t]∧px=l[t].p.data from⟨hfind,hpx⟩)
      have HXJ:=zh (show FR[j]?=some x from by rw[hx];exact List.getElem?_eq_getElem hjl)
      obtain⟨sy,hsy⟩:∃y:ByteArray,y=⟨px.toArray⟩:=⟨_,rfl⟩
      rw[←hsy] at q6
      have HSY:=zh hsy
      have HD16:=zh hd16
      have HTL:=zh (show t<LU from by rw[HLU.out];exact ht)
      have hti:(t:Int)<(LU:Int):=by have:=HTL.out;omega
      have HK4:=zh (And.intro hgk (Array.getElem?_eq_some_iff.1 hgk).1)
      have HB4:=zh (HBR.out.trans (hb4.mono HBR.out.size))
      have HRW4:=zh hb4
      have HQ6:=zh (fun(w':World) (hb:Below w3.heap.size w3 w')=>(show w'.cell? ⟨lb,lo+t * 7+6,none⟩=some (.string sy) from(hb.cell (p:=⟨lb,lo+t * 7+6,none⟩) hlR).trans q6))
      have HW4:=zh hW4
      have HGI:=zh hgi
      have HX64:=zh hx64
      obtain⟨n0,hn0⟩:=zx ((HV.take j).length)
      have hn0j:n0=j:=by rw[hn0,List.length_take,HHL.out];omega
      obtain⟨A0,c0',hv0⟩:=HO.out.form
      rw[←hn0,hn0j] at hv0
      subst hv0
      have HTJ:=zh (show(HV.take j).length=j from by rw[←hn0];exact hn0j)
      have HL3:=zh (show lb<w3.heap.size from hlR)
      have HOB2:=zh (fun b (e:(Value.slice A0 j c0').ownBlock=some b)=>(show w3.heap.size≤b from by obtain⟨⟨cs,ho,-⟩,-⟩:=HO.out;exact(ho.lt b e).1))
      have HOB:=zh (fun b (e:(Value.slice A0 j c0').ownBlock=some b)=>(show b<wr.heap.size from by obtain⟨⟨cs,ho,-⟩,-⟩:=HO.out;exact(ho.lt b e).2))
      clear hc hR hx hidx hfind hW4 hgi hb4 hgk h04 y0 y1 y2 b0 hsl4 hd16 hcl hfk q6 hpx hsy hlR hjl hn0 hn0j ki hx64
      go_upto_region 12 with fail
      rw[←HW4.out,←HGI.out]
      clear l0
      go_wp2_with fail
      refine HIF.out.mono ?_
      rintro e w5 ⟨rfl,hb5⟩
      have HB5:=zh (HB4.out.trans (hb5.mono HB4.out.size))
      have HRW5:=zh (HRW4.out.trans (hb5.mono HRW4.out.size))
      have HK5:=zh (show w5.cell? ⟨gi,0,none⟩=some (.int .i64 x)∧gi<w5.heap.size from⟨by rw[cell_of_row _ _ _ _ _ _ ((hb5.block gi HK4.out.2).trans HK4.out.1)];rfl,Nat.lt_of_lt_of_le HK4.out.2 hb5.size⟩)
      have HLB:=zh (World.block_lt_of_cell? w5 _ (HQ6.out w5 HB5.out))
      have HS13:=zh (show HeldX gi lb (lo+t * 7+6) (.int .i64 x) (.string sy) w5.drew from⟨HK5.out.1,HQ6.out w5 HB5.out⟩)
      clear hb5
      go_upto_region 13 with fail
      refine region_tail (S:=(fun w'=>w'.cell? ⟨gi,0,none⟩=some (.int .i64 x)∧w'.cell? ⟨lb,lo+t * 7+6,none⟩=some (.string sy))) [] (by kernel_rfl) HS13.out (fun hHeld=>?_)
      refine tk 0 76 ?_
      refine tk 1 77 ?_
      refine tk 2 78 ?_
      refine tk 3 79 ?_
      refine tk 4 80 ?_
      refine tk 5 81 ?_
      refine tk 6 82 ?_
      refine tk 7 83 ?_
      refine readyT (rs:=[8]) (by kernel_rfl) (by simp) ?_
      refine AllReadyT.cons rfl (fun K hK=>?_) ?_
      ·go_simp
       obtain⟨cap,w9,hcv,hb9,hs9,hby⟩:=conv_piece sy w5.drew (by rw[HSY.out];show px.toArray.size≤maxLen;rw[List.size_toArray,HD16.out];decide)
       rw[show w5.drew.heap.size=w5.heap.size from rfl] at hcv hb9 hs9 hby
       rw[hcv]
       simp only[Result.andThen]
       rw[Oper.upon_value]
       have hb9w:=HB5.out.trans ((show Below w5.heap.size w5 w9 from⟨hb9.os,hb9.tape,hb9.output,hb9.size,hb9.block⟩).mono HB5.out.size)
       have hO9:=HO.out.below ((HRW5.out.trans ((show Below w5.heap.size w5 w9 from⟨hb9.os,hb9.tape,hb9.output,hb9.size,hb9.block⟩).mono HRW5.out.size)))
       obtain⟨⟨cs,ho9,hc9⟩,hk9⟩:=hO9
       rw[HTJ.out] at ho9
       have HS9:=zh hs9
       have hkp8:HeldX gi lb (lo+t * 7+6) (.int .i64 x) (.string sy) w9:=HeldX.same (HS13.out) (hb9.block gi HK5.out.2) (hb9.block lb HLB.out)
       clear hs9
       refine hK.out _ _ ?_ (fun hHeld=>?_)
       ·(first|assumption|exact hkp8|exact hkp10|exact hkp11)
       clear hK K
       (try simp only[Act.put,z1,z2,z3])
       refine tk 9 85 ?_
       refine readyT (rs:=[10]) (by kernel_rfl) (by simp) ?_
       refine AllReadyT.cons rfl (fun K hK=>?_) ?_
       ·go_simp
        have hkp10:HeldX gi lb (lo+t * 7+6) (.int .i64 x) (.string sy) (w9.alloc (.cells #[.int .i64 x,.slice (some ⟨w5.heap.size,0,none⟩) sy.size cap] 155)):=HeldX.same hkp8 (Below.heap_alloc w9 _ gi (Nat.lt_of_lt_of_le HK5.out.2 hb9.size)) (Below.heap_alloc w9 _ lb (Nat.lt_of_lt_of_le HLB.out hb9.size))
        refine hK.out _ _ ?_ (fun hHeld=>?_)
        ·(first|assumption|exact hkp8|exact hkp10|exact hkp11)
        clear hK K
        (try simp only[Act.put,z1,z2,z3])
        refine readyT (rs:=[11]) (by kernel_rfl) (by simp) ?_
        refine AllReadyT.cons rfl (fun K hK=>?_) ?_
        ·refine step_append_lies _ (by rfl) _ _ _ (by rfl) w3.heap.size 155 i0 _ 2 32 Tryz.underlying149 hi0 hz0 hz1 hz2 rfl (by decide) (.slice A0 j c0') j cs (by rfl) (World.ownsRow.alloc ho9 _) ⟨w9.heap.size,0,none⟩ 1 1 [.int .i64 x,.slice (some ⟨w5.heap.size,0,none⟩) sy.size cap] (by rfl) (by rfl) (World.news_of_block (cs:=#[.int .i64 x,.slice (some ⟨w5.heap.size,0,none⟩) sy.size cap]) (t:=155) (fr:=(0,0)) (heap_alloc_new w9 _)) (by simp[Value.oneCell']) (by omega) (by unfold maxLen;omega) (by omega) (Nat.le_trans hb9w.size (by simp)) (w9.heap.size+1) (by simp) ?_
         intro gg cap2 wA hown5 hg5 hat5 hlt5
         have hkp11:HeldX gi lb (lo+t * 7+6) (.int .i64 x) (.string sy) wA:=HeldX.same hkp10 (hg5.block gi (Nat.lt_of_lt_of_le HK5.out.2 (Nat.le_trans hb9.size (by simp))) (fun e=>by have h1:=HOB.out gi e.symm;have h2:=HGI.out;omega)) (hg5.block lb (Nat.lt_of_lt_of_le HLB.out (Nat.le_trans hb9.size (by simp))) (fun e=>by have h1:=HOB2.out lb e.symm;have h2:=HL3.out;omega))
         refine hK.out _ _ ?_ (fun hHeld=>?_)
         ·(first|assumption|exact hkp8|exact hkp10|exact hkp11)
         clear hK K
         (try simp only[Act.put,z1,z2,z3])
         refine tk 12 15 ?_
         refine doneT (by kernel_rfl) ?_ _
         have HHB:=zh (And.intro hb9w (And.intro HS9.out hby))
         have HCC:=zh (And.intro ho9 (And.intro hc9 hk9))
         have HAA:=zh (And.intro hown5 (And.intro hg5 hat5))
         clear hHeld hb9 hcv hb9w hby ho9 hc9 hk9 hown5 hg5 hat5 hlt5
         go_wp2_with fail
         go_roundg (KN - (j+1))
         case measure=>omega
         case rel =>
          obtain⟨hb9w,hs9,hby⟩:=HHB.out
          obtain⟨ho9,hc9,hk9⟩:=HCC.out
          obtain⟨hown5,hg5,hat5⟩:=HAA.out
          have hg9:w9.grownBy wA (Value.slice A0 j c0').ownBlock:=⟨hg5.os,hg5.tape,hg5.output,Nat.le_trans (by simp) hg5.size,fun b hb hn=>(hg5.block b (by simp;omega) hn).trans (Below.heap_alloc w9 _ b hb)⟩
          refine⟨j+1,by omega,rfl,by go_num,?_,hb9w.grown hg9 hb9w.size (fun b e=>(ho9.lt b e).1)⟩
          have hhj:HV[j]?=some ⟨x,px⟩:=by
           rw[HHV.out j hlj,HXJ.out]
           unfold pickF
           rw[Option.map_some,HFD.out.1,HFD.out.2];rfl
          rw[take_more hhj]
          have hlt13:=ho9.lt
          refine OwnFg.push (h:=⟨x,px⟩) hk9 hc9 (by rw[HTJ.out];exact ho9) HX64.out ?_ (by rw[HTJ.out];exact hown5) hg9 ?_
          ·have hy:sy.data.toList=px:=by rw[HSY.out]
           rw[hy] at hby
           refine hby.mono (fun b hb=>⟨by rw[hs9];exact hb.2,fun e=>?_⟩)
           have h1:=HOB.out b e
           have h2:=HRW5.out.size
           have h3:=hb.1
           omega
          ·rcases hat5 with e | e
           ·exact .inl e.symm
           ·exact .inr (by rw[e];rfl)
        exact AllReadyT.nil
       exact AllReadyT.nil
      exact AllReadyT.nil
     ·-- R1{
      obtain rfl:KN=j:=by omega
      obtain⟨p1,p2⟩:=HGP.out wr (HB63.out.trans (HBR.out.mono HB63.out.size))
      have hfrag:=HO.out.fragS
      rw[List.take_of_length_le (by rw[HHL.out];exact Nat.le_refl _)] at hfrag
      obtain⟨DE,hDE⟩:=zx (decE (KN:Int) MM HV)
      obtain⟨RT,hRT⟩:=zx ((wordT KN KM (decD KN HV) (rowLen HV)).take KN)
      have HDC:=zh (fun vh (hh:FragS wr (Bl wr.heap.size) vh HV)=>(show Calls Tryz.prog 75 #[.int .i64 (KN:Int),.int .i64 MM,vh] wr (fun e w'=>∃v,e=.returned (.tuple #[v,.int .i64 DE])∧(DE=0→MatS w' (Bl w'.heap.size) v RT)∧(DE≠0→v=.slice none 0 0)∧Below wr.heap.size wr w') from by
       have hd:=decode_any (KN:Int) MM vh HV wr (by unfold I64;omega) (by have:=HKM.out;unfold I64;omega) hh (by rw[HHL.out];omega) HD16.out
       rw[←hDE,show((KN:Int)).toNat=KN from by omega,show((KN:Int)+MM).toNat=KM from by rw[hkm];omega,←hRT] at hd
       exact hd))
      have HFG:=zh hfrag
      have HRT:=zh (show RT.length=KN∧(∀x∈RT,x.length=16) from by
       rw[hRT]
       refine⟨by rw[List.length_take,wordT_length];have:=HKM.out;omega,fun x hx=>?_⟩
       have h1:=wordT_wide KN KM (decD KN HV) (rowLen HV) x (List.mem_of_mem_take hx)
       rw[h1];exact HROW.out)
      have HCS2:=zh (show(conS r v s up KN KM=if DE=0 then RT.flatten else [])∧conE r v s up KN KM=DE from by rw[hDE,hRT];exact HCS.out)
      clear hfrag hDE hRT
      go_wp2_with fail
      refine(HDC.out _ HFG.out).mono ?_
      rintro e w5 ⟨vr,rfl,hmat,hnil,hb5⟩
      have HB5:=zh (HB3.out.trans ((HBR.out.trans (hb5.mono HBR.out.size)).mono HB3.out.size))
      clear p1 p2
      by_cases hde:DE=0
      ·-- D{
       have HMT:=zh (hmat hde)
       obtain⟨Av,cv',hvr,-,-⟩:=(hmat hde).form
       rw[HRT.out.1] at hvr
       subst hvr
       have HDE:=zh hde
       subst hde
       clear hmat hnil hb5
       obtain⟨W7,hW7⟩:=zx (w5.alloc (.cells #[.pointer none,.slice none 0 0] 108))
       obtain⟨gb,hgb⟩:=zx w5.heap.size
       have hb7:Below w5.heap.size w5 W7:=by rw[hW7];exact(Below.refl _ _).alloc (Nat.le_refl _) _
       have hgk:W7.heap[gb]?=some (.cells #[.pointer none,.slice none 0 0] 108 (0,0)):=by rw[hW7,hgb];exact heap_alloc_new _ _
       have HBL:=zh (show Lib.IsBuilder 108 5 gb gb (bys []) W7 from .inl ⟨Nat.le_refl _,_,hgk,World.ownsRow_nil _ _ _ _,by intro e;cases e⟩)
       have HW7:=zh hW7
       have HGB:=zh hgb
       have HB7:=zh hb7
       clear hW7 hgb hb7 hgk
       go_upto_region 19 with fail
       rw[←HW7.out,←HGB.out]
       go_wp2_with fail
       go_loopg [103] KN (fun z v103 wr=>∃j:Nat,j≤KN∧z=KN - j∧v103=.int .i64 (j:Int)∧Hid (Lib.IsBuilder 108 5 gb gb (bys (RT.take j).flatten) wr)∧Hid (Below w5.heap.size w5 wr))
       case atStart=>exact⟨0,by omega,rfl,rfl,HBL.out,HB7.out⟩
       case round =>
        obtain⟨j,hj,rfl,rfl,HIB,HBW⟩:=hrel
        by_cases hlj:j<KN
        ·-- L2{
         have hjl:j<RT.length:=by rw[HRT.out.1];exact hlj
         obtain⟨b2,off2,va,hAv,hR2,hc2,hva⟩:=HMT.out.at_ (k:=j) hjl
         subst hAv
         have l0:=(HBW.out.cell (p:=⟨b2,off2+j,none⟩) hR2).trans hc2
         obtain⟨row,hrow⟩:=zx (RT[j])
         rw[←hrow] at hva
         have hr16:row.length=16:=by rw[hrow];exact HRT.out.2 _ (List.getElem_mem hjl)
         obtain⟨A',c',e',h1',h2',h3'⟩:=hva
         obtain⟨b3,off3,e3,hR3,hc3⟩:=h3' (by omega)
         rw[hr16] at e' h1'
         subst e3
         subst e'
         have htk:(RT.take (j+1)).flatten=(RT.take j).flatten++row:=by
          rw[List.take_succ_eq_append_getElem hjl,List.flatten_append,←hrow];simp
         have HTK:=zh htk
         have hfl:(RT.take j).flatten.length=j * 16:=by
          have h:=wide_sum (RT.take j) 16 (fun x hx=>HRT.out.2 x (List.mem_of_mem_take hx))
          rw[List.length_flatten,h,List.length_take,HRT.out.1];congr 1;omega
         have hbl:(bys (RT.take j).flatten).length=j * 16:=by unfold bys;rw[List.length_map,hfl]
         have HWR:=zh (bwrite_any gb gb (bys (RT.take j).flatten) ⟨b3,off3,none⟩ 16 c' (bys row) wr HIB.out (by simp[bys,hr16]) (fun t u hu=>by
          rw[Addr.add_mid]
          have ht:∃x,row[t]?=some x∧u=.int .u8 (x.toNat:Int):=by
           unfold bys at hu
           rw[List.getElem?_map] at hu
           obtain⟨x,hx,e⟩:=Option.map_eq_some_iff.1 hu
           exact⟨x,hx,e.symm⟩
          obtain⟨x,hx,rfl⟩:=ht
          exact(HBW.out.cell (p:=⟨b3,off3+t,none⟩) hR3).trans (hc3 t x hx)) (by rw[HGB.out];exact hR3) (fun u hu=>by unfold bys at hu;obtain⟨x,-,rfl⟩:=List.mem_map.1 hu;rfl) (by rw[hbl];omega) (by rw[HGB.out];exact HBW.out.size))
         clear hR2 hc2 hrow hr16 h1' h2' h3' hR3 hc3 htk hfl hbl hjl
         go_wp2_with fail
         refine HWR.out.mono ?_
         rintro e w9 ⟨rfl,hbl9,hb9⟩
         have HBL9:=zh hbl9
         have HB9:=zh (show Below w5.heap.size w5 w9 from HBW.out.trans (by have h:=hb9;rw[HGB.out] at h;exact h))
         clear hbl9 hb9 l0
         go_wp2_with fail
         go_roundg (KN - (j+1))
         case measure=>omega
         case rel=>exact⟨j+1,by omega,rfl,by go_num,by rw[HTK.out,bys_append];exact .inr HBL9.out,HB9.out⟩
        ·obtain rfl:KN=j:=by omega
         have hib:=HIB.out
         rw[List.take_of_length_le (by rw[HRT.out.1];exact Nat.le_refl _)] at hib
         have HST:=zh (bstring_any gb gb RT.flatten wr hib (by rw[HGB.out];exact HBW.out.size))
         clear hib
         go_wp2_with fail
         refine HST.out.mono ?_
         rintro e w9 ⟨rfl,hb9⟩
         have HB9:=zh (show Below w5.heap.size w5 w9 from HBW.out.trans (by have h:=hb9;rw[HGB.out] at h;exact h))
         clear hb9
         go_wp2_with fail
         go_ret2
         refine⟨?_,HB0.out.trans ((HB5.out.trans (HB9.out.mono HB5.out.size)).mono HB0.out.size)⟩
         first|(rw[HCS2.out.1,HCS2.out.2,if_pos rfl];rfl)|(rw[HCS2.out.1,HCS2.out.2];rfl)
      ·-- E{
       have HDE:=zh hde
       clear hmat hnil hb5
       go_wp2_with fail
       go_ret2
       refine⟨?_,HB0.out.trans (HB5.out.mono HB0.out.size)⟩
       first|(rw[HCS2.out.1,HCS2.out.2,if_neg HDE.out];rfl)|(rw[HCS2.out.1,HCS2.out.2];rfl)
  exact AllReadyT.nil
 exact AllReadyT.nil
def mul2(r:BitVec 32):BitVec 32:=(r <<< 1) ^^^ (if r.msb then 517762881#32 else 0#32)
theorem mul2_xor(a b:BitVec 32):mul2 (a ^^^ b)=mul2 a ^^^ mul2 b:=by
 unfold mul2
 rw[BitVec.shiftLeft_xor_distrib,BitVec.msb_xor]
 generalize a <<< 1=x
 generalize b <<< 1=y
 cases a.msb <;> cases b.msb <;> simp[BitVec.xor_assoc]
 ·rw[BitVec.xor_comm]
 ·rw[BitVec.xor_comm y,←BitVec.xor_assoc 517762881#32,BitVec.xor_self,BitVec.zero_xor]
theorem mul2_zero:mul2 0#32=0#32:=by decide
theorem shl_lsb(r:BitVec 32):(r <<< 1).getLsbD 0=false:=by simp
theorem mul2_lsb(r:BitVec 32):(mul2 r).getLsbD 0=r.msb:=by
 unfold mul2
 rw[BitVec.getLsbD_xor,shl_lsb]
 cases r.msb <;> simp
theorem mul2_inj{r:BitVec 32} (h:mul2 r=0#32):r=0#32:=by
 have h0:=mul2_lsb r
 rw[h] at h0
 simp at h0
 unfold mul2 at h
 rw[h0] at h
 simp at h
 apply BitVec.eq_of_getLsbD_eq
 intro i hi
 by_cases hb:i=31
 ·subst hb
  have:r.getLsbD 31=r.msb:=by rw[BitVec.msb_eq_getLsbD_last]
  rw[this,h0];simp
 ·have h1:(r <<< 1).getLsbD (i+1)=r.getLsbD i:=by
   rw[BitVec.getLsbD_shiftLeft];simp;omega
  rw[←h1,h];simp
def mulK:Nat→BitVec 32→BitVec 32
 | 0,r=>r
 | n+1,r=>mulK n (mul2 r)
theorem mulK_inj:∀(n:Nat) {r:BitVec 32},mulK n r=0#32→r=0#32:=by
 intro n
 induction n with
 | zero=>intro r h;exact h
 | succ n ih=>intro r h;exact mul2_inj (ih h)
theorem mulK_zero:∀n:Nat,mulK n 0#32=0#32:=by
 intro n
 induction n with
 | zero=>rfl
 | succ n ih=>show mulK n (mul2 0#32)=_;rw[mul2_zero,ih]
theorem mul2_nat(r:BitVec 32):(mul2 r).toNat=crcBit r.toNat:=by
 have hm:r.msb=decide (r.toNat / 2147483648=1):=by
  rw[BitVec.msb_eq_decide]
  have:=r.isLt
  simp
  omega
 unfold mul2 crcBit
 rw[hm,BitVec.toNat_xor,BitVec.toNat_shiftLeft,Nat.shiftLeft_eq]
 by_cases h:r.toNat / 2147483648=1
 ·simp[h]
 ·simp[h]
theorem mulK_nat:∀(n:Nat) (r:BitVec 32),(mulK n r).toNat=crcBits n r.toNat:=by
 intro n
 induction n with
 | zero=>intro r;rfl
 | succ n ih=>intro r;show(mulK n (mul2 r)).toNat=crcBits n (crcBit r.toNat);rw[ih,mul2_nat]
def inj(b:Bool):BitVec 32:=if b then 2147483648#32 else 0#32
theorem inj_xor(a b:Bool):inj (a ^^ b)=inj a ^^^ inj b:=by cases a <;> cases b <;> decide
theorem inj_lsb(b:Bool) (j:Nat) (h:j<31):(inj b).getLsbD j=false:=by
 cases b
 ·simp[inj]
 ·have:∀j:Nat,j<31→(2147483648#32).getLsbD j=false:=by decide
  exact this j h
theorem inj_msb(b:Bool):(inj b).msb=b:=by cases b <;> decide
def runB(r:BitVec 32) (bs:List Bool):BitVec 32:=bs.foldl (fun r b=>mul2 (r ^^^ inj b)) r
theorem runB_cons(r:BitVec 32) (b:Bool) (bs:List Bool):runB r (b :: bs)=runB (mul2 (r ^^^ inj b)) bs:=rfl
theorem runB_append(r:BitVec 32) (bs cs:List Bool):runB r (bs++cs)=runB (runB r bs) cs:=by simp[runB,List.foldl_append]
theorem xor4(a b c d:BitVec 32):(a ^^^ b) ^^^ (c ^^^ d)=(a ^^^ c) ^^^ (b ^^^ d):=by
 rw[BitVec.xor_assoc,BitVec.xor_assoc,←BitVec.xor_assoc b,BitVec.xor_comm b c,BitVec.xor_assoc c]
theorem runB_xor:∀(bs cs:List Bool) (a b:BitVec 32),bs.length=cs.length→runB (a ^^^ b) (List.zipWith (fun x y=>x ^^ y) bs cs)=runB a bs ^^^ runB b cs:=by
 intro bs
 induction bs with
 | nil=>intro cs a b h;cases cs with
  | nil=>rfl
  | cons c cs=>simp at h
 | cons x bs ih =>
  intro cs a b h
  cases cs with
  | nil=>simp at h
  | cons y cs =>
   rw[List.zipWith_cons_cons,runB_cons,runB_cons,runB_cons,←ih cs _ _ (by simpa using h),inj_xor,xor4,mul2_xor]
theorem runB_false:∀(bs:List Bool) (r:BitVec 32),(∀b∈bs,b=false)→runB r bs=mulK bs.length r:=by
 intro bs
 induction bs with
 | nil=>intro r _;rfl
 | cons b bs ih =>
  intro r h
  have hb:=h b (by simp)
  subst hb
  rw[runB_cons,ih _ (fun x hx=>h x (by simp[hx]))]
  show mulK bs.length (mul2 (r ^^^ 0#32))=mulK bs.length (mul2 r)
  rw[BitVec.xor_zero]
def pat:List Bool→BitVec 32
 | []=>0#32
 | b :: bs=>inj b ^^^ (pat bs >>> 1)
theorem pat_lsb:∀(bs:List Bool) (j:Nat),bs.length+j≤31→(pat bs).getLsbD j=false:=by
 intro bs
 induction bs with
 | nil=>intro j _;simp[pat]
 | cons b bs ih =>
  intro j h
  rw[List.length_cons] at h
  rw[pat,BitVec.getLsbD_xor,BitVec.getLsbD_ushiftRight,inj_lsb b j (by omega),ih (1+j) (by omega)];rfl
theorem mul2_half{x:BitVec 32} (h:x.getLsbD 0=false):mul2 (x >>> 1)=x:=by
 have hm:(x >>> 1).msb=false:=by rw[BitVec.msb_eq_getLsbD_last,BitVec.getLsbD_ushiftRight];simp
 unfold mul2
 rw[hm]
 simp
 apply BitVec.eq_of_getLsbD_eq
 intro i hi
 rw[BitVec.getLsbD_shiftLeft,BitVec.getLsbD_ushiftRight]
 by_cases h0:i=0
 ·subst h0;rw[h];rfl
 ·have:1+(i - 1)=i:=by omega
  rw[this];simp;omega
theorem runB_pat:∀(bs:List Bool) (r:BitVec 32),bs.length≤32→runB r bs=mulK bs.length (r ^^^ pat bs):=by
 intro bs
 induction bs with
 | nil=>intro r _;show r=r ^^^ 0#32;rw[BitVec.xor_zero]
 | cons b bs ih =>
  intro r h
  rw[List.length_cons] at h
  rw[runB_cons,ih _ (by omega)]
  show _=mulK bs.length (mul2 (r ^^^ (inj b ^^^ (pat bs >>> 1))))
  rw[←BitVec.xor_assoc,mul2_xor (r ^^^ inj b),mul2_half (pat_lsb bs 0 (by omega))]
theorem pat_zero:∀(bs:List Bool),bs.length≤32→pat bs=0#32→∀b∈bs,b=false:=by
 intro bs
 induction bs with
 | nil=>intro _ _ b hb;cases hb
 | cons b bs ih =>
  intro h hp
  rw[List.length_cons] at h
  rw[pat] at hp
  have hm:(pat bs >>> 1).msb=false:=by rw[BitVec.msb_eq_getLsbD_last,BitVec.getLsbD_ushiftRight];simp
  have hb:b=false:=by
   have:=congrArg BitVec.msb hp
   rw[BitVec.msb_xor,hm,inj_msb] at this
   simpa using this
  subst hb
  have h2:pat bs >>> 1=0#32:=by
   have e:inj false=0#32:=rfl
   rw[e,BitVec.zero_xor] at hp
   exact hp
  have h3:pat bs=0#32:=by
   rw[←mul2_half (pat_lsb bs 0 (by omega)),h2,mul2_zero]
  intro x hx
  rcases List.mem_cons.1 hx with e | e
  ·exact e
  ·exact ih (by omega) h3 x e
theorem window(E:List Bool) (p:Nat) (hout:∀i,i<E.length→(i<p∨p+32≤i)→E[i]?=some false) (h:runB 0#32 E=0#32):∀b∈E,b=false:=by
 have e:E=E.take p++((E.drop p).take 32++(E.drop p).drop 32):=by rw[List.take_append_drop,List.take_append_drop]
 have h1:∀b∈E.take p,b=false:=by
  intro b hb
  obtain⟨i,hi,rfl⟩:=List.getElem_of_mem hb
  rw[List.length_take] at hi
  have:=hout i (by omega) (.inl (by omega))
  rw[List.getElem?_eq_getElem (by omega)] at this
  rw[List.getElem_take]
  simpa using this
 have h3:∀b∈(E.drop p).drop 32,b=false:=by
  intro b hb
  rw[List.drop_drop] at hb
  obtain⟨i,hi,rfl⟩:=List.getElem_of_mem hb
  rw[List.length_drop] at hi
  have:=hout (p+32+i) (by omega) (.inr (by omega))
  rw[List.getElem?_eq_getElem (by omega)] at this
  rw[List.getElem_drop]
  simpa using this
 have hl:((E.drop p).take 32).length≤32:=List.length_take_le _ _
 rw[e,runB_append,runB_append,runB_false _ _ h1,mulK_zero,runB_false _ _ h3] at h
 have h2:=mulK_inj _ h
 rw[runB_pat _ _ hl,BitVec.zero_xor] at h2
 have h4:=pat_zero _ hl (mulK_inj _ h2)
 intro b hb
 rw[e] at hb
 rcases List.mem_append.1 hb with h | h
 ·exact h1 b h
 ·rcases List.mem_append.1 h with h | h
  ·exact h4 b h
  ·exact h3 b h
def bitsN(n:Nat):List Bool:=(List.range 8).map fun t=>n.testBit (7 - t)
def bitsB(c:UInt8):List Bool:=bitsN c.toNat
def bitsL(l:List UInt8):List Bool:=l.flatMap bitsB
theorem bitsB_length(c:UInt8):(bitsB c).length=8:=by simp[bitsB,bitsN]
theorem pat_byteN:∀n:Nat,n<256→pat (bitsN n)=BitVec.ofNat 32 (n * 16777216):=by decide +kernel
theorem crcByte_run(r:BitVec 32) (c:UInt8):crcByte r.toNat c=(runB r (bitsB c)).toNat:=by
 have hc:=c.toNat_lt
 rw[runB_pat _ _ (by rw[bitsB_length];omega),bitsB_length,mulK_nat,BitVec.toNat_xor]
 unfold crcByte bitsB
 rw[pat_byteN _ (by omega),BitVec.toNat_ofNat,Nat.mod_eq_of_lt (by omega)]
theorem fold_run:∀(l:List UInt8) (r:BitVec 32),l.foldl crcByte r.toNat=(runB r (bitsL l)).toNat:=by
 intro l
 induction l with
 | nil=>intro r;rfl
 | cons c l ih =>
  intro r
  rw[List.foldl_cons,crcByte_run,ih]
  show _=(runB r (bitsB c++bitsL l)).toNat
  rw[runB_append]
theorem bitsL_eq:∀l:List UInt8,bitsL l=(List.range (8 * l.length)).map (bitAt l):=by
 intro l
 induction l with
 | nil=>rfl
 | cons c l ih =>
  show bitsB c++bitsL l=_
  have e:8 * (c :: l).length=8+8 * l.length:=by rw[List.length_cons];omega
  rw[e,List.range_add,List.map_append,ih,List.map_map]
  congr 1
  apply List.map_congr_left
  intro i _
  show bitAt l i=bitAt (c :: l) (8+i)
  unfold bitAt
  rw[show(8+i) / 8=i / 8+1 from by omega,show(8+i) % 8=i % 8 from by omega]
  rfl
theorem bytes_of_bits{l m:List UInt8} (hl:l.length=m.length) (h:∀p,p<8 * l.length→bitAt l p=bitAt m p):l=m:=by
 apply List.ext_getElem hl
 intro j h1 h2
 apply UInt8.toNat_inj.1
 apply Nat.eq_of_testBit_eq
 intro i
 by_cases hi:i<8
 ·have:=h (8 * j+(7 - i)) (by omega)
  unfold bitAt at this
  rw[show(8 * j+(7 - i)) / 8=j from by omega,show 7 - (8 * j+(7 - i)) % 8=i from by omega] at this
  simpa[List.getD,h1,h2] using this
 ·have hb:∀c:UInt8,c.toNat.testBit i=false:=fun c=>Nat.testBit_lt_two_pow (Nat.lt_of_lt_of_le c.toNat_lt (Nat.pow_le_pow_right (by omega) (by omega)))
  rw[hb,hb]
theorem crcBits_small:∀(n r:Nat),r * 2 ^ n<4294967296→crcBits n r=r * 2 ^ n:=by
 intro n
 induction n with
 | zero=>intro r _;simp[crcBits]
 | succ n ih =>
  intro r h
  have e:r * 2 ^ (n+1)=r * 2 * 2 ^ n:=by rw[Nat.pow_succ,Nat.mul_assoc,Nat.mul_comm 2]
  have hp:1≤2 ^ n:=Nat.one_le_two_pow
  have h2:r * 2<4294967296:=Nat.lt_of_le_of_lt (Nat.le_mul_of_pos_right _ hp) (by rw[e] at h;exact h)
  have hb:crcBit r=r * 2:=by
   unfold crcBit
   rw[if_neg (by omega),Nat.mod_eq_of_lt h2]
  show crcBits n (crcBit r)=_
  rw[hb,ih _ (by rw[e] at h;exact h),e]
theorem xor_top(n:Nat):n ^^^ (n / 16777216 * 16777216)=n % 16777216:=by
 apply Nat.eq_of_testBit_eq
 intro i
 rw[show(16777216:Nat)=2 ^ 24 from rfl]
 simp only[Nat.testBit_xor,Nat.testBit_mul_two_pow,Nat.testBit_div_two_pow,Nat.testBit_mod_two_pow]
 by_cases h:24≤i
 ·simp[h,Nat.sub_add_cancel h,Nat.not_lt.2 h]
 ·simp[h,Nat.lt_of_not_le h]
theorem crcByte_top(n:Nat) (h:n<4294967296):crcByte n (UInt8.ofNat (n / 16777216))=n % 16777216 * 256:=by
 unfold crcByte
 rw[UInt8.toNat_ofNat',Nat.mod_eq_of_lt (by omega),xor_top,crcBits_small _ _ (by omega)]
theorem crc_own(N:Nat) (h:N<4294967296):(beTo N 4 4).foldl crcByte N=0:=by
 have e:beTo N 4 4=[UInt8.ofNat (N / 16777216),UInt8.ofNat (N / 65536),UInt8.ofNat (N / 256),UInt8.ofNat N]:=by simp[beTo,List.range_succ]
 have ofN:∀a b:Nat,a % 256=b % 256→UInt8.ofNat a=UInt8.ofNat b:=fun a b hab=>by
  apply UInt8.toNat_inj.1;rw[UInt8.toNat_ofNat',UInt8.toNat_ofNat'];exact hab
 rw[e]
 simp only[List.foldl_cons,List.foldl_nil]
 rw[crcByte_top N h,ofN (N / 65536) (N % 16777216 * 256 / 16777216) (by omega),crcByte_top _ (by omega),
  ofN (N / 256) (N % 16777216 * 256 % 16777216 * 256 / 16777216) (by omega),crcByte_top _ (by omega),
  ofN N (N % 16777216 * 256 % 16777216 * 256 % 16777216 * 256 / 16777216) (by omega),crcByte_top _ (by omega)]
 omega
theorem seal_run(a:List UInt8):runB 4294967295#32 (bitsL (sealB a))=0#32:=by
 apply BitVec.eq_of_toNat_eq
 rw[←fold_run]
 unfold sealB
 rw[List.foldl_append]
 exact crc_own _ (crc_lt _)
theorem burst_seal{a b l m:List UInt8} (hl:l=sealB a) (hm:m=sealB b) (p:Nat) (h:Win p l m):m=l:=by
 have r1:runB 4294967295#32 (bitsL l)=0#32:=by rw[hl];exact seal_run a
 have r2:runB 4294967295#32 (bitsL m)=0#32:=by rw[hm];exact seal_run b
 have l2:m.length=l.length:=h.1
 have hx:=runB_xor (bitsL l) (bitsL m) 4294967295#32 4294967295#32 (by rw[bitsL_eq,bitsL_eq];simp[l2])
 rw[r1,r2,BitVec.xor_self,BitVec.xor_self] at hx
 have hE:∀i,i<8 * l.length→(List.zipWith (fun x y=>x ^^ y) (bitsL l) (bitsL m))[i]?=some (bitAt l i ^^ bitAt m i):=by
  intro i hi
  rw[bitsL_eq,bitsL_eq,l2,List.getElem?_zipWith]
  simp[hi]
 have hlen:(List.zipWith (fun x y=>x ^^ y) (bitsL l) (bitsL m)).length=8 * l.length:=by
  rw[List.length_zipWith,bitsL_eq,bitsL_eq];simp[l2]
 have hall:=window _ p (fun i hi ho=>by rw[hE i (by omega),h.2 i ho];simp) hx
 refine(bytes_of_bits l2.symm fun q hq=>?_).symm
 have:=hall _ (List.mem_of_getElem? (hE q (by omega)))
 simpa using this
theorem num_beK(n size:Nat):∀k,k≤size→num (beTo n size k)=n / 256 ^ (size - k) % 256 ^ k:=by
 intro k
 induction k with
 | zero=>intro _;simp[beTo,num,Nat.mod_one]
 | succ k ih =>
  intro hk
  rw[beTo_succ,num_snoc,ih (by omega),UInt8.toNat_ofNat']
  have e:n / 256 ^ (size - k)=n / 256 ^ (size - 1 - k) / 256:=by
   rw[Nat.div_div_eq_div_mul,←Nat.pow_succ]
   congr 2;omega
  rw[e,show size - (k+1)=size - 1 - k from by omega]
  generalize n / 256 ^ (size - 1 - k)=m
  have h1:(256:Nat) ^ (k+1)=256 * 256 ^ k:=by rw[Nat.pow_succ,Nat.mul_comm]
  rw[h1,Nat.mod_mul]
  generalize m / 256 % 256 ^ k=q
  omega
theorem num_b5{n:Nat} (h:n≤1099511627775):num (beTo n 5 5)=n:=by
 rw[num_beK n 5 5 (Nat.le_refl _)]
 simp only[Nat.sub_self,Nat.pow_zero,Nat.div_one]
 exact Nat.mod_eq_of_lt (by omega)
theorem enc_parts(q:Pc):encB q=[93,UInt8.ofNat q.vol.toNat,UInt8.ofNat q.frag.toNat,UInt8.ofNat q.stripe.toNat]++(beTo q.gen.toNat 5 5++(beTo q.ver.toNat 5 5++([0,0]++(q.data++beTo (crc (headB q)) 4 4)))):=by
 unfold encB sealB
 conv=>lhs;lhs;unfold headB
 simp only[List.append_assoc]
theorem decP_enc(q:Pc) (h:validP q=true):decP (encB q)=q:=by
 obtain⟨h1,h2,h3,h4,h5,h6,h7,h8,h9,h10,h11⟩:=validP_iff.1 h
 obtain⟨a,b,c,g,r,d⟩:=q
 simp only at h1 h2 h3 h4 h5 h6 h7 h8 h9 h10 h11
 have b1:∀x:Int,0≤x→x<256→(((UInt8.ofNat x.toNat).toNat:Nat):Int)=x:=fun x p q=>by
  rw[UInt8.toNat_ofNat'];omega
 have g5:=beTo_length g.toNat 5 5
 have r5:=beTo_length r.toNat 5 5
 have e4:(encB ⟨a,b,c,g,r,d⟩).drop 4=beTo g.toNat 5 5++(beTo r.toNat 5 5++([0,0]++(d++beTo (crc (headB ⟨a,b,c,g,r,d⟩)) 4 4))):=by rw[enc_parts];rfl
 have e9:(encB ⟨a,b,c,g,r,d⟩).drop 9=beTo r.toNat 5 5++([0,0]++(d++beTo (crc (headB ⟨a,b,c,g,r,d⟩)) 4 4)):=by
  have:(encB ⟨a,b,c,g,r,d⟩).drop 9=((encB ⟨a,b,c,g,r,d⟩).drop 4).drop 5:=by rw[List.drop_drop]
  rw[this,e4,List.drop_left' g5]
 have e16:(encB ⟨a,b,c,g,r,d⟩).drop 16=d++beTo (crc (headB ⟨a,b,c,g,r,d⟩)) 4 4:=by
  have:(encB ⟨a,b,c,g,r,d⟩).drop 16=(((encB ⟨a,b,c,g,r,d⟩).drop 9).drop 5).drop 2:=by rw[List.drop_drop,List.drop_drop]
  rw[this,e9,List.drop_left' r5];rfl
 unfold decP
 rw[e4,e9,e16,List.take_left' g5,List.take_left' r5,List.take_left' h11,num_b5 (by omega),num_b5 (by omega)]
 have f1:(encB ⟨a,b,c,g,r,d⟩).getD 1 0=UInt8.ofNat a.toNat:=by rw[enc_parts];rfl
 have f2:(encB ⟨a,b,c,g,r,d⟩).getD 2 0=UInt8.ofNat b.toNat:=by rw[enc_parts];rfl
 have f3:(encB ⟨a,b,c,g,r,d⟩).getD 3 0=UInt8.ofNat c.toNat:=by rw[enc_parts];rfl
 rw[f1,f2,f3,b1 _ (by omega) (by omega),b1 _ (by omega) (by omega),b1 _ (by omega) (by omega)]
 congr 1 <;> omega
theorem dec_zero{l:List UInt8} (h:decEr l=0):l.length=36∧encB (decP l)=l∧l≠List.replicate 36 0:=by
 unfold decEr at h
 by_cases h1:l.length≠36
 ·rw[if_pos h1] at h;cases h
 ·rw[if_neg h1] at h
  by_cases h2:l=List.replicate 36 0
  ·rw[if_pos h2] at h;cases h
  ·rw[if_neg h2] at h
   by_cases h3:sealB (l.take 32)≠l
   ·rw[if_pos h3] at h;cases h
   ·rw[if_neg h3] at h
    by_cases h4:validP (decP l)=true∧encB (decP l)=l
    ·exact⟨by omega,h4.2,h2⟩
    ·rw[if_neg h4] at h;cases h
theorem keys_nodup{F:FltM} (hok:FleetOk 2 F):(keysTo F.ext.toNat F.vols.length 0).Nodup:=by
 have h1:=hok.volN
 generalize F.vols.length=n at h1
 rcases hok.ext with e | e <;> rw[e] <;> (match n,h1 with | 0,_=>decide | 1,_=>decide | 2,_=>decide)
theorem stp_eq{F:FltM} {r:Re} {st:List Stp} (hok:FleetOk 2 F) (hmo:MadeOk F r st) {x y:Stp} (hx:x∈st) (hy:y∈st) (e1:x.vol=y.vol) (e2:x.stripe=y.stripe):x=y:=by
 have hn:=keys_nodup hok
 rw[←hmo.keys] at hn
 obtain⟨i,hi,rfl⟩:=List.getElem_of_mem hx
 obtain⟨j,hj,rfl⟩:=List.getElem_of_mem hy
 have e:(st.map (fun x=>(x.vol,x.stripe)))[i]'(by rw[List.length_map];exact hi)=(st.map (fun x=>(x.vol,x.stripe)))[j]'(by rw[List.length_map];exact hj):=by
  rw[List.getElem_map,List.getElem_map,e1,e2]
 have:=(List.getElem_inj hn).1 e
 subst this;rfl
theorem stp_in{F:FltM} {r:Re} {st:List Stp} (hmo:MadeOk F r st) {v s:Nat} (hv:v<F.vols.length) (hs:s<F.ext.toNat):∃x∈st,x.vol=v∧x.stripe=s:=by
 have hm:(v,s)∈st.map (fun x=>(x.vol,x.stripe)):=by
  rw[hmo.keys]
  unfold keysTo
  exact List.mem_append_left _ (List.mem_flatMap.2 ⟨v,List.mem_range.2 hv,List.mem_map.2 ⟨s,List.mem_range.2 hs,rfl⟩⟩)
 obtain⟨x,hx,he⟩:=List.mem_map.1 hm
 injection he with e1 e2
 exact⟨x,hx,e1,e2⟩
theorem stp_ver{F:FltM} {r:Re} {st:List Stp} (hok:FleetOk 2 F) (hmo:MadeOk F r st) {x:Stp} (hx:x∈st):verOf r.acks (x.vol:Int) (x.stripe:Int)=some (x.ver:Int):=by
 unfold verOf
 rw[hmo.acks]
 cases hf:(st.map Stp.ack).find? (fun a=>a.vol==(x.vol:Int)&&a.stripe==(x.stripe:Int)) with
 | none =>
  rw[List.find?_eq_none] at hf
  have:=hf x.ack (List.mem_map.2 ⟨x,hx,rfl⟩)
  simp[Stp.ack] at this
 | some a =>
  obtain⟨y,hy,rfl⟩:=List.mem_map.1 (List.mem_of_find?_eq_some hf)
  have hp:=List.find?_some hf
  simp[Stp.ack] at hp
  have:=stp_eq hok hmo hy hx (by omega) (by omega)
  subst this
  rfl
theorem piece_valid{F:FltM} {x:Stp} (hok:FleetOk 2 F) (hx:StpOk F x) {i g:Nat} {old:Bool} (hi:i<x.k+x.m) (h1:1≤g) (h3:g≤3):validP (x.piece i g old)=true:=by
 obtain⟨v,p,hv,-,-,-⟩:=hx.pol
 have hl:=(List.getElem?_eq_some_iff.1 hv).1
 have h2:=hok.volN
 have k2:=hx.k2
 have m2:=hx.m2
 have v1:=hx.ver1
 have v2:=hx.ver2
 have s1:=hx.stripe
 have hw:(x.word.getD i []).length=16:=(wordT_wide x.k (x.k+x.m) x.rows 16).getD (by rw[wordT_length];exact hi)
 unfold Stp.piece
 cases old
 ·exact validP_iff.2 ⟨by simp only[Bool.false_eq_true,if_false];omega,by simp only[Bool.false_eq_true,if_false];omega,by simp only[Bool.false_eq_true,if_false];omega,by simp only[Bool.false_eq_true,if_false];omega,by simp only[Bool.false_eq_true,if_false];omega,by simp only[Bool.false_eq_true,if_false];omega,by simp only[Bool.false_eq_true,if_false];omega,by simp only[Bool.false_eq_true,if_false];omega,by simp only[Bool.false_eq_true,if_false];omega,by simp only[Bool.false_eq_true,if_false];omega,by simp only[Bool.false_eq_true,if_false];exact hw⟩
 ·exact validP_iff.2 ⟨by simp only[if_true];omega,by simp only[if_true];omega,by simp only[if_true];omega,by simp only[if_true];omega,by simp only[if_true];omega,by simp only[if_true];omega,by simp only[if_true];omega,by simp only[if_true];omega,by simp only[if_true];omega,by simp only[if_true];omega,rfl⟩
theorem sec_read{F:FltM} {st:List Stp} (hok:FleetOk 2 F) (hst:∀x∈st,StpOk F x) {s:List UInt8} (hs:SecOk st s) (he:decEr s=0):∃x∈st,∃i g old,i<x.k+x.m∧1≤g∧g≤3∧decP s=x.piece i g old:=by
 obtain⟨h1,h2,h3⟩:=dec_zero he
 rcases hs with e | ⟨x,hx,i,g,old,bit,hi,hg1,hg3,hw⟩
 ·exact absurd e h3
 ·have e:s=encB (x.piece i g old):=burst_seal (a:=headB (x.piece i g old)) (b:=headB (decP s)) rfl h2.symm bit hw
  exact⟨x,hx,i,g,old,hi,hg1,hg3,by rw[e,decP_enc _ (piece_valid hok (hst x hx) hi hg1 hg3)]⟩
theorem pieces_made{F:FltM} {r:Re} {st:List Stp} (hok:FleetOk 2 F) (hmo:MadeOk F r st):∀f∈pieces r,∃x∈st,∃i g,i<x.k+x.m∧f.p=x.piece i g false:=by
 intro f hf
 unfold pieces piecesTo at hf
 obtain⟨d,hd,hf⟩:=List.mem_flatMap.1 hf
 rw[List.mem_range] at hd
 unfold drvP at hf
 obtain⟨s,hs,hf⟩:=List.mem_filterMap.1 hf
 have hl:r.plat.getD d []∈r.plat:=by rw[List.getD,List.getElem?_eq_getElem hd];exact List.getElem_mem hd
 have hsec:=hmo.sec _ hl s hs
 unfold goodP at hf
 by_cases hc:decEr s.data.toList=0∧verOf r.acks (decP s.data.toList).vol (decP s.data.toList).stripe=some (decP s.data.toList).ver
 ·rw[if_pos hc] at hf
  injection hf with hf
  subst hf
  obtain⟨x,hx,i,g,old,hi,-,-,e⟩:=sec_read hok hmo.ok hsec hc.1
  have hv:=hc.2
  rw[e] at hv
  cases old with
  | false=>exact⟨x,hx,i,g,hi,e⟩
  | true =>
   have h1:(x.piece i g true).vol=(x.vol:Int):=rfl
   have h2:(x.piece i g true).stripe=(x.stripe:Int):=rfl
   have h3:(x.piece i g true).ver=(x.ver:Int) - 1:=rfl
   rw[h1,h2,h3,stp_ver hok hmo hx] at hv
   injection hv with hv
   omega
 ·rw[if_neg hc] at hf;cases hf
theorem stripe_made{F:FltM} {r:Re} {st:List Stp} (hok:FleetOk 2 F) (hmo:MadeOk F r st) {x:Stp} (hx:x∈st):∀f∈stripeP (pieces r) (x.vol:Int) (x.stripe:Int),∃i:Nat,i<x.k+x.m∧f.p.frag=(i:Int)∧f.p.data=x.word.getD i []:=by
 intro f hf
 obtain⟨h1,h2⟩:=List.mem_filter.1 hf
 obtain⟨y,hy,i,g,hi,e⟩:=pieces_made hok hmo f h1
 rw[e] at h2
 have e1:(y.piece i g false).vol=(y.vol:Int):=rfl
 have e2:(y.piece i g false).stripe=(y.stripe:Int):=rfl
 rw[e1,e2] at h2
 simp at h2
 have:=stp_eq hok hmo hy hx (by omega) (by omega)
 subst this
 exact⟨i,hi,by rw[e];rfl,by rw[e];rfl⟩
theorem outTo_nodup(r:Re) (up:Bool) (l:List Fd) (n:Int) (j:Nat):(outTo r up l n j).Nodup∧∀x∈outTo r up l n j,∃i:Nat,i<j∧x=(i:Int):=by
 induction j with
 | zero=>exact⟨List.nodup_nil,fun x hx=>by cases hx⟩
 | succ j ih =>
  rw[outTo_succ]
  have hm:∀x∈(if hasB r up l j=true∧(j:Int)<n then [(j:Int)] else []),x=(j:Int):=by
   intro x hx
   split at hx
   ·simpa using hx
   ·cases hx
  refine⟨List.nodup_append.2 ⟨ih.1,by split <;> simp,fun a ha b hb e=>?_⟩,fun x hx=>?_⟩
  ·obtain⟨i,hi,e1⟩:=ih.2 a ha
   have:=hm b hb
   omega
  ·rcases List.mem_append.1 hx with h | h
   ·obtain⟨i,hi,e1⟩:=ih.2 x h
    exact⟨i,by omega,e1⟩
   ·exact⟨j,by omega,hm x h⟩
theorem keeps_plain{F:FltM} {r:Re} {st:List Stp} (hok:FleetOk 2 F) (hmo:MadeOk F r st) {x:Stp} (hx:x∈st) (up:Bool) :
  (x.k≤(frT r x.vol x.stripe up (x.k+x.m)).length→conE r x.vol x.stripe up x.k (x.k+x.m)=0∧conS r x.vol x.stripe up x.k (x.k+x.m)=x.rows.flatten) ∧
  ((frT r x.vol x.stripe up (x.k+x.m)).length<x.k→conE r x.vol x.stripe up x.k (x.k+x.m)=121):=by
 refine⟨fun hl=>?_,fun hl=>by unfold conE;rw[if_pos hl]⟩
 have hst:=hmo.ok x hx
 have hfrs:Frs (wordT x.k (x.k+x.m) x.rows 16) (x.k+x.m) (hvT r x.vol x.stripe up x.k (x.k+x.m)):=by
  refine⟨fun h hh=>?_,?_⟩
  ·obtain⟨i,hi,rfl⟩:=List.mem_map.1 hh
   have him:i∈outTo r up (stripeP (pieces r) (x.vol:Int) (x.stripe:Int)) ((x.k+x.m:Nat):Int) 8:=List.mem_of_mem_take hi
   obtain⟨t,ht,-,hf⟩:=idxC_ok r up _ _ i him
   obtain⟨a,ha,e1,e2⟩:=stripe_made hok hmo hx _ (List.getElem_mem ht)
   have hs:=List.find?_some hf
   unfold srcC at hs
   rw[Bool.and_eq_true,beq_iff_eq] at hs
   refine⟨a,ha,?_,?_⟩
   ·show i=_
    rw[←hs.1,e1]
   ·unfold pickF
    rw[hf]
    exact e2
  ·obtain⟨h1,h2⟩:=outTo_nodup r up (stripeP (pieces r) (x.vol:Int) (x.stripe:Int)) ((x.k+x.m:Nat):Int) 8
   have h3:idxL (hvT r x.vol x.stripe up x.k (x.k+x.m))=((frT r x.vol x.stripe up (x.k+x.m)).take x.k).map Int.toNat:=by
    unfold idxL hvT
    rw[List.map_map]
    rfl
   rw[h3,List.Nodup,List.pairwise_map]
   have h4:((frT r x.vol x.stripe up (x.k+x.m)).take x.k).Nodup:=h1.sublist (List.take_sublist _ _)
   refine List.Pairwise.imp_of_mem (fun {a b} ha hb hab e=>hab ?_) h4
   obtain⟨i,-,e1⟩:=h2 a (List.mem_of_mem_take ha)
   obtain⟨j,-,e2⟩:=h2 b (List.mem_of_mem_take hb)
   omega
 have hk1:=hst.k1
 have hk2:=hst.k2
 have hm2:=hst.m2
 have hlen:(hvT r x.vol x.stripe up x.k (x.k+x.m)).length=x.k:=by
  unfold hvT
  rw[List.length_map,List.length_take];omega
 obtain⟨h1,h2,h3⟩:=frs_dec x.k x.m 16 x.rows _ ((codeB_iff _ _).2 ⟨by omega,by omega,by omega,by omega,by omega⟩) hst.len hst.wide hfrs (by omega)
 have he:(((x.k+x.m:Nat):Int) - (x.k:Int))=(x.m:Int):=by omega
 unfold conE conS
 rw[if_neg (by omega),if_neg (by omega),he,h1,if_pos rfl,h2,h3,wordT_take _ _ _ _ hst.len hst.wide (by omega)]
 exact⟨rfl,rfl⟩
end Go.Proofs.YtcfkllnpkmebpaaGreatDoor
