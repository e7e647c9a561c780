/- The program's numbers of bytes and buffers, walked. -/
import Derived.Test.YtcfkllnpkmebpaaGreatDoorMj02
import Derived.Test.YtcfkllnpkmebpaaGreatDoorMj01
import Derived.Lib.BufferWrite
import Derived.RegionTactic
set_option maxRecDepth 100000
set_option maxHeartbeats 12800000
namespace Go.Proofs.YtcfkllnpkmebpaaGreatDoor
open Go.RowKit
set_option linter.unusedVariables false
set_option linter.unusedSimpArgs false
theorem run_bytes_str(W:World) (s:ByteArray) :
  ∃W' cap,(convert 9 53 (.string s)).run Tryz.prog W=.ok (.slice (some ⟨W.heap.size,0,none⟩) s.size cap) W'∧Below W.heap.size W W'∧W.heap.size<W'.heap.size∧s.size≤cap∧BufAt W' W.heap.size s.data.toList:=by
 have h:=run_bytes_ex (P:=Tryz.prog) W 9 53 5 s.data.toList Tryz.underlying9 Tryz.underlying53 Tryz.underlying5
 have e:s.data.toList.length=s.size:=Array.length_toList
 rw[Array.toArray_toList,e] at h
 exact h
theorem snumber_any(s:ByteArray) (a n:Nat) (w:World) (hn:n≤7) (ha:a+n≤s.size) (hs:s.size≤65536) :
  Calls Tryz.prog 150 #[.string s,.int .i64 (a:Int),.int .i64 (n:Int)] w fun e w'=>e=.returned (.int .i64 (num ((s.data.toList.drop a).take n):Int))∧Below w.heap.size w w':=by
 have he:(s.extract a (a+n)).data.toList=(s.data.toList.drop a).take n:=by rw[ext_list s a (a+n) ha];congr 1;omega
 have hsz:(s.extract a (a+n)).size=n:=by
  show(s.extract a (a+n)).data.size=n
  rw[←Array.length_toList,he,List.length_take,List.length_drop,Array.length_toList]
  have:s.data.size=s.size:=rfl
  omega
 obtain⟨W2,cap2,hrun,hbW2,hltW,hcap,hbuf⟩:=run_bytes_str w (s.extract a (a+n))
 rw[he] at hbuf
 rw[hsz] at hrun hcap
 obtain⟨l,hl⟩:=zx ((s.data.toList.drop a).take n)
 have hll:l.length=n:=by rw[hl,←he,Array.length_toList];exact hsz
 rw[←hl] at hbuf ⊢
 have HL:=zh hll
 have HB:=zh hbuf
 have HBW:=zh hbW2
 have b1:(a:Int)+(n:Int)≤(s.size:Int):=by omega
 have b2:(a:Int)≤(a:Int)+(n:Int):=by omega
 have b3:((a:Int)+(n:Int)).toNat=a+n:=by omega
 obtain⟨g,hg⟩:=zx w.heap.size
 rw[←hg] at HB hrun
 clear he hsz hl hll hbuf hbW2 hltW hg
 go_enter Tryz.func150,Tryz.ntmps150
 go_wp2
 go_loopg [7,9,18] n (fun z v7 v9 v18 wr=>W2=wr∧∃j:Nat,j≤n∧z=n - j∧v18=.int .i64 (j:Int)∧v7=.int .i64 (num (l.take j):Int))
 case atStart=>exact⟨rfl,0,by omega,rfl,rfl,rfl⟩
 case round =>
  obtain⟨rfl,j,hj,rfl,rfl,rfl⟩:=hrel
  by_cases hlt:j<n
  ·have hjl:j<l.length:=by rw[HL.out];exact hlt
   obtain⟨hc,-⟩:=HB.out j l[j] (List.getElem?_eq_getElem hjl)
   have hsn:num (l.take (j+1))=num (l.take j) * 256+l[j].toNat:=by rw[List.take_succ_eq_append_getElem hjl,num_snoc]
   have hlt2:=num_lt (l.take j)
   have h6:(l.take j).length≤6:=by rw[List.length_take];omega
   generalize num (l.take j)=m at *
   have hm:m<36028797018963968:=by
    refine Nat.lt_of_lt_of_le hlt2 ?_
    calc 256 ^ (l.take j).length≤256 ^ 6:=Nat.pow_le_pow_right (by omega) h6
     _≤_:=by decide
   have Hsn:=zh hsn
   have ho:=num_or m l[j] hm
   have hcc:l[j].toNat<256:=l[j].toNat_lt
   generalize l[j]=c at *
   clear hsn hlt2 h6 hjl
   go_wp2
   go_roundg (n - (j+1))
   case measure=>omega
   case rel=>exact⟨rfl,j+1,by omega,rfl,by go_num,by rw[Hsn.out];go_num⟩
  ·have hjn:j=n:=by omega
   have HJ:=zh hjn
   clear hjn
   go_wp2
   go_ret
   exact⟨ret_int (by rw[HJ.out,List.take_of_length_le (by rw[HL.out];exact Nat.le_refl _)]),HBW.out⟩
def putP(l:List UInt8) (at_ n v j:Nat):List UInt8:=(List.range l.length).map fun p=>if at_+n - j≤p∧p<at_+n then UInt8.ofNat (v / 256 ^ (at_+n - 1 - p)) else l.getD p 0
theorem putP_length(l:List UInt8) (at_ n v j:Nat):(putP l at_ n v j).length=l.length:=by simp[putP]
theorem putP_getElem(l:List UInt8) (at_ n v j p:Nat) (h:p<(putP l at_ n v j).length):(putP l at_ n v j)[p]=if at_+n - j≤p∧p<at_+n then UInt8.ofNat (v / 256 ^ (at_+n - 1 - p)) else l.getD p 0:=by simp[putP]
theorem putP_zero(l:List UInt8) (at_ n v:Nat):putP l at_ n v 0=l:=by
 apply List.ext_getElem
 ·exact putP_length _ _ _ _ _
 ·intro p h1 h2
  rw[putP_getElem,if_neg (by omega),getD_lt _ _ h2]
theorem putP_step(l:List UInt8) (at_ n v j:Nat) (hj:j<n) (hl:at_+n≤l.length):(putP l at_ n v j).set (at_+(n - 1 - j)) (UInt8.ofNat (v / 256 ^ j))=putP l at_ n v (j+1):=by
 apply List.ext_getElem
 ·rw[List.length_set,putP_length,putP_length]
 ·intro p h1 h2
  simp only[List.getElem_set,putP_getElem]
  by_cases e:at_+(n - 1 - j)=p
  ·rw[if_pos e,if_pos (by omega)]
   have:at_+n - 1 - p=j:=by omega
   rw[this]
  ·rw[if_neg e]
   by_cases h:at_+n - j≤p∧p<at_+n
   ·rw[if_pos h,if_pos (by omega)]
   ·rw[if_neg h,if_neg (by omega)]
theorem beTo_getElem(v n k i:Nat) (h:i<(beTo v n k).length):(beTo v n k)[i]=UInt8.ofNat (v / 256 ^ (n - 1 - i)):=by simp[beTo]
theorem putP_all(l:List UInt8) (at_ n v:Nat) (hl:at_+n≤l.length):putP l at_ n v n=l.take at_++beTo v n n++l.drop (at_+n):=by
 apply List.ext_getElem
 ·rw[putP_length];simp only[List.length_append,List.length_take,List.length_drop,beTo_length];omega
 ·intro p h1 h2
  rw[putP_length] at h1
  simp only[putP_getElem,List.getElem_append,List.length_append,List.length_take,beTo_length,List.getElem_take,List.getElem_drop,beTo_getElem]
  rcases Nat.lt_or_ge p at_ with h | h
  ·rw[if_neg (by omega),dif_pos (by omega),dif_pos (by omega),getD_lt _ _ h1]
  ·rcases Nat.lt_or_ge p (at_+n) with h3 | h3
   ·rw[if_pos (by omega),dif_pos (by omega),dif_neg (by omega)]
    congr 3
    omega
   ·rw[if_neg (by omega),dif_neg (by omega),getD_lt _ _ h1]
    congr 1
    omega
theorem put_any(g c at_ n v:Nat) (l:List UInt8) (w:World) (hB:BlkB w g l) (hl:at_+n≤l.length) (hl2:l.length≤65536) (hv:v≤4611686018427387904) :
  Calls Tryz.prog 211 #[.slice (some ⟨g,0,none⟩) l.length c,.int .i64 (at_:Int),.int .i64 (n:Int),.int .i64 (v:Int)] w fun e w'=>e=.returned (.tuple #[])∧BlkB w' g (l.take at_++beTo v n n++l.drop (at_+n))∧w.grownBy w' (some g):=by
 have HB0:=zh hB
 obtain⟨L,hL⟩:=zx l.length
 rw[←hL] at hl hl2 ⊢
 have HL:=zh hL
 clear hB hL
 go_enter Tryz.func211,Tryz.ntmps211
 go_wp2
 go_loopg [3,8] n (fun z v3 v8 wr=>∃j:Nat,j≤n∧z=n - j∧v8=.int .i64 ((n:Int) - 1 - (j:Int))∧v3=.int .i64 ((v / 256 ^ j:Nat):Int)∧BlkB wr g (putP l at_ n v j)∧w.grownBy wr (some g))
 case atStart=>exact⟨0,by omega,rfl,by go_num,by simp,by rw[putP_zero];exact HB0.out,only_refl2 w g⟩
 case round =>
  obtain⟨j,hj,rfl,rfl,rfl,hb,hgr⟩:=hrel
  by_cases hlt:j<n
  ·obtain⟨i,hi⟩:=zx (n - 1 - j)
   have ei:(n:Int) - 1 - (j:Int)=(i:Int):=by omega
   have hd0:decide ((0:Int)≤(i:Int))=true:=by simp
   have hst:=putP_step l at_ n v j hlt (by rw[←HL.out];exact hl)
   have hpl:=putP_length l at_ n v j
   rw[←hi] at hst
   have hfr:=hb.free (at_+i)
   obtain⟨o,hcl⟩:∃o,wr.cell? ⟨g,at_+i,none⟩=some o:=⟨_,hb.cell (j:=at_+i) (by rw[hpl,←HL.out];omega)⟩
   have hq:v / 256 ^ j≤4611686018427387904:=Nat.le_trans (Nat.div_le_self _ _) hv
   have hq2:v / 256 ^ (j+1)=v / 256 ^ j / 256:=by rw[Nat.pow_succ,Nat.div_div_eq_div_mul]
   have HST:=zh hst
   have HQ2:=zh hq2
   have HB:=zh hb
   have hil:at_+i<L:=by omega
   have HI:=zh hi
   rw[ei]
   clear hi hst hpl hb hq2 ei
   generalize v / 256 ^ j=u at *
   have hu8:((UInt8.ofNat u).toNat:Int)=(u:Int) % 256:=by rw[UInt8.toNat_ofNat'];omega
   have HU:=zh hu8
   clear hu8
   go_wp2
   go_roundg (n - (j+1))
   case measure=>omega
   case rel=>exact⟨j+1,by omega,rfl,by have:=HI.out;go_num,by rw[HQ2.out];go_num,by rw[←HST.out,←HU.out];exact HB.out.set _ _,only_set2 hgr _ _⟩
  ·have hd0:decide ((0:Int)≤(n:Int) - 1 - (j:Int))=false:=by simp;omega
   have hjn:j=n:=by omega
   have HJ:=zh hjn
   clear hjn
   go_wp2
   go_end0
   exact⟨rfl,by rw[←putP_all l at_ n v (by rw[←HL.out];exact hl),←HJ.out];rw[HJ.out] at hb ⊢;exact hb,hgr⟩
theorem step_copy_str{ops:Array Oper} {o:Oper} {a:Act} {w:World} {K:Act→World→Prop} {Q:Exit→Act→World→Prop} {E:Prop} (hgd:o.guard=none) (d s:Operand)
  (ho:o.op=.call { callee:=.builtin .copy,args:=#[d,s],argTypes:=#[281,9] }) (g off dLen dCap:Nat) (l:List UInt8) (x:ByteArray)
  (hd:a.eval d=.slice (some ⟨g,off,none⟩) dLen dCap) (hs:a.eval s=.string x) (hB:BlkB w g l) (hle:x.size≤dLen) (hfit:off+x.size≤l.length)
  (h:∀w',BlkB w' g (l.take off++x.data.toList++l.drop (off+x.size))→w.grownBy w' (some g)→K (a.put o.dst (goInt x.size)) w') :
  if Region.wanted o (yielded ops a.tmps)=true then Oper.wp Tryz.prog o a w K Q else E:=by
 have hw:Region.wanted o (yielded ops a.tmps)=true:=by simp[Region.wanted,hgd]
 rw[if_pos hw]
 have hrun:=Go.Lib.run_copy_row_string (P:=Tryz.prog) w 281 9 o.type 5 g off dLen dCap x (bys l).toArray 5 Tryz.underlying281 (by kernel_rfl) hB hle (by simpa[bys] using hfit)
 unfold Oper.wp
 simp[execOp,ho,resolve,invoke,builtin,hd,hs,hrun,Result.andThen]
 refine h _ ?_ ⟨rfl,rfl,rfl,by simp[World.setRow],fun k hk hne=>setRow_other w g k _ (fun e=>hne (by rw[e]))⟩
 have h2:=setRow_heap w g (bys l).toArray ((bys l).toArray.toList.take off++Go.Lib.byteCells x.data.toList++(bys l).toArray.toList.drop (off+x.size)).toArray 5 (0,0) hB
 unfold BlkB
 rw[bys_append,bys_append]
 simpa[bys,Go.Lib.byteCells,List.map_take,List.map_drop] using h2
theorem ins{α:Type} (X Y Z N:List α) (a m:Nat) (hX:X.length=a) (hY:Y.length=m):((X++Y++Z).take a)++N++((X++Y++Z).drop (a+m))=X++N++Z:=by
 subst hX;subst hY
 rw[List.append_assoc X Y Z,List.take_left,List.drop_append]
 simp[List.drop_eq_nil_of_le]
theorem BlkB.pre{W:World} {g c:Nat} {H Z:List UInt8} (h:BlkB W g (H++Z)) (hc:H.length≤c) (hm:H.length≤maxLen) {R:Nat→Prop} (hR:R g):ByS W R (.slice (some ⟨g,0,none⟩) H.length c) H :=
 ⟨_,c,rfl,hc,hm,fun _=>⟨g,0,rfl,hR,fun k x hk=>by
  have hj:k<H.length:=(List.getElem?_eq_some_iff.1 hk).1
  have hx:H[k]=x:=(List.getElem?_eq_some_iff.1 hk).2
  rw[Nat.zero_add,h.cell (j:=k) (by rw[List.length_append];omega),List.getElem_append_left hj,hx]⟩⟩
theorem conv_buf{w:World} {R:Nat→Prop} {v:Value} {l:List UInt8} (h:ByS w R v l):(convert 281 9 v).run Tryz.prog w=.ok (.string ⟨l.toArray⟩) w :=
 h.conv Tryz.underlying281 Tryz.underlying5 Tryz.underlying9
theorem put36(g at_ n v:Nat) (l l2:List UInt8) (w:World) (hll:l.length=36) (hB:BlkB w g l) (hl:at_+n≤36) (hv:v≤4611686018427387904) (he:l.take at_++beTo v n n++l.drop (at_+n)=l2) :
  Calls Tryz.prog 211 #[.slice (some ⟨g,0,none⟩) 36 36,.int .i64 (at_:Int),.int .i64 (n:Int),.int .i64 (v:Int)] w fun e w'=>e=.returned (.tuple #[])∧BlkB w' g l2∧w.grownBy w' (some g):=by
 have h:=put_any g 36 at_ n v l w hB (by omega) (by omega) hv
 rw[hll,he] at h
 exact h
theorem senc_any(p:Pc) (w:World) (hp:PcI p) (hd:p.data.length≤60000) :
  Calls Tryz.prog 152 #[PcV p] w fun e w'=>e=.returned (.tuple #[.string ⟨(encS p).toArray⟩,.int .i64 (encE p)])∧Below w.heap.size w w':=by
 have HV:=zh (fun w=>svalid_any p w hp)
 unfold PcV at HV ⊢
 cases hv:validP p with
 | false =>
  have h1:encS p=[]:=by unfold encS;rw[hv];rfl
  have h2:encE p=100:=by unfold encE;rw[hv];rfl
  rw[hv] at HV
  rw[h1,h2]
  clear h1 h2 hv
  go_enter Tryz.func152,Tryz.ntmps152
  go_wp2_with fail
  refine(HV.out _).mono ?_
  rintro e w' ⟨rfl,hb⟩
  have hb2:=below_box hb
  go_wp2
  go_ret2
  exact⟨rfl,hb2⟩
 | true =>
  have h1:encS p=encB p:=by unfold encS;rw[hv];rfl
  have h2:encE p=0:=by unfold encE;rw[hv];rfl
  obtain⟨a0,a1,b0,b1,c0,c1,g0,g1,r0,r1,hl⟩:=validP_iff.1 hv
  rw[hv] at HV
  rw[h1,h2]
  obtain⟨a,b,c,g,r,l⟩:=p
  simp only at *
  obtain⟨a,rfl⟩:∃n:Nat,a=(n:Int):=⟨a.toNat,by omega⟩
  obtain⟨b,rfl⟩:∃n:Nat,b=(n:Int):=⟨b.toNat,by omega⟩
  obtain⟨c,rfl⟩:∃n:Nat,c=(n:Int):=⟨c.toNat,by omega⟩
  obtain⟨g,rfl⟩:∃n:Nat,g=(n:Int):=⟨g.toNat,by omega⟩
  obtain⟨r,rfl⟩:∃n:Nat,r=(n:Int):=⟨r.toNat,by omega⟩
  have hz:=size_of l
  have hd':(⟨l.toArray⟩:ByteArray).data.toList=l:=by simp
  have HD:=zh hd'
  generalize (⟨l.toArray⟩:ByteArray)=s at *
  have HZ:=zh (hz.trans hl)
  have HLL:=zh hl
  have ha:((UInt8.ofNat a).toNat:Int)=(a:Int):=by rw[UInt8.toNat_ofNat'];omega
  have hb:((UInt8.ofNat b).toNat:Int)=(b:Int):=by rw[UInt8.toNat_ofNat'];omega
  have hc:((UInt8.ofNat c).toNat:Int)=(c:Int):=by rw[UInt8.toNat_ofNat'];omega
  have HAB:=zh (⟨ha,hb,hc⟩:_∧_∧_)
  have hmk:∀w:World,(Instr.makeSlice 281 (.int .i64 36) (.int .i64 36)).run Tryz.prog w=.ok (.slice (some ⟨w.heap.size,0,none⟩) 36 36) (w.alloc (.cells (Array.replicate 36 (.int .u8 0)) 5)):=by
   intro w
   obtain⟨i0,hi0,hz0,hz1,hz2⟩:=info_parts info_u8
   have h:=run_make (P:=Tryz.prog) w 281 5 i0 _ Tryz.underlying281 hi0 hz0 .i64 .i64 36 36 (by omega) (by omega) (by rw[hz2];omega) (by omega)
   rw[hz1] at h
   simpa[madeCells_one,Value.cells] using h
  clear h1 h2 hv hp hd hz hl hd' ha hb hc
  go_enter Tryz.func152,Tryz.ntmps152
  go_wp2_with fail
  refine(HV.out _).mono ?_
  rintro e w1 ⟨rfl,hbv⟩
  obtain⟨q,hq⟩:=zx w.heap.size
  have hbw:=below_box hbv
  obtain⟨hc0,hf0⟩:=bcell hbv
  have k0:w1.cell? ⟨q,0,none⟩=some (.int .i64 (a:Int)):=by rw[hq,hc0 _ _ (by simp)];simp
  have k1:w1.cell? ⟨q,1,none⟩=some (.int .i64 (b:Int)):=by rw[hq,hc0 _ _ (by simp)];simp
  have k2:w1.cell? ⟨q,2,none⟩=some (.int .i64 (c:Int)):=by rw[hq,hc0 _ _ (by simp)];simp
  have k3:w1.cell? ⟨q,3,none⟩=some (.int .i64 (g:Int)):=by rw[hq,hc0 _ _ (by simp)];simp
  have k4:w1.cell? ⟨q,4,none⟩=some (.int .i64 (r:Int)):=by rw[hq,hc0 _ _ (by simp)];simp
  have k5:w1.cell? ⟨q,5,none⟩=some (.string s):=by rw[hq,hc0 _ _ (by simp)];simp
  have hq1:q<w1.heap.size:=by have:=hbv.size;simp at this;omega
  have hwa:IntKind.u8.wrap (a:Int)=(a:Int):=by rw[IntKind.wrap_u8];omega
  have hwb:IntKind.u8.wrap (b:Int)=(b:Int):=by rw[IntKind.wrap_u8];omega
  have hwc:IntKind.u8.wrap (c:Int)=(c:Int):=by rw[IntKind.wrap_u8];omega
  rw[←hq]
  clear hc0 hf0 hbv hq
  go_upto_region 4 with fail
  obtain⟨W2,hW2⟩:=zx (w1.alloc (.cells (Array.replicate 36 (.int .u8 0)) 5))
  obtain⟨gb,hgb⟩:=zx w1.heap.size
  have hB0:BlkB W2 gb (List.replicate 36 0):=by rw[hW2,hgb];exact BlkB.new w1 36
  have hb12:Below w1.heap.size w1 W2:=by rw[hW2];exact(Below.refl _ _).alloc (Nat.le_refl _) _
  have m0:=(hb12.cell (p:=⟨q,0,none⟩) hq1).trans k0
  have m1:=(hb12.cell (p:=⟨q,1,none⟩) hq1).trans k1
  have m2:=(hb12.cell (p:=⟨q,2,none⟩) hq1).trans k2
  have m3:=(hb12.cell (p:=⟨q,3,none⟩) hq1).trans k3
  have m4:=(hb12.cell (p:=⟨q,4,none⟩) hq1).trans k4
  have m5:=(hb12.cell (p:=⟨q,5,none⟩) hq1).trans k5
  have n0:=hB0.cell (j:=0) (by simp)
  have n1:=hB0.cell (j:=1) (by simp)
  have n2:=hB0.cell (j:=2) (by simp)
  have n3:=hB0.cell (j:=3) (by simp)
  have f0:=hB0.free 0
  have f1:=hB0.free 1
  have f2:=hB0.free 2
  have f3:=hB0.free 3
  have hqg:q≠gb:=by omega
  have hqg2:gb≠q:=by omega
  simp only[List.getElem_replicate] at n0 n1 n2 n3
  rw[←hW2,←hgb]
  have HB0:=zh hB0
  have HB12:=zh hb12
  have HGB:=zh hgb
  clear k0 k1 k2 k3 k4 k5 hW2 hB0 hb12 hmk hgb
  go_region
  obtain⟨W3,hW3⟩:=zx (((((W2.setCell ⟨gb,0,none⟩ (.int .u8 93)).setCell ⟨gb,1,none⟩ (.int .u8 (a:Int))).setCell ⟨gb,2,none⟩ (.int .u8 (b:Int))).setCell ⟨gb,3,none⟩ (.int .u8 (c:Int))).drew)
  obtain⟨A4,hA4⟩:=zx ([93,UInt8.ofNat a,UInt8.ofNat b,UInt8.ofNat c])
  have hAl:A4.length=4:=by rw[hA4];rfl
  obtain⟨G5,hG5⟩:=zx (beTo g 5 5)
  obtain⟨V5,hV5⟩:=zx (beTo r 5 5)
  have hGl:G5.length=5:=by rw[hG5];exact beTo_length _ _ _
  have hVl:V5.length=5:=by rw[hV5];exact beTo_length _ _ _
  have hB3:BlkB W3 gb (A4++List.replicate 5 0++List.replicate 27 0):=by
   have h:=((((HB0.out.set 0 93).set 1 (UInt8.ofNat a)).set 2 (UInt8.ofNat b)).set 3 (UInt8.ofNat c)).drewN 1
   rw[HAB.out.1,HAB.out.2.1,HAB.out.2.2] at h
   have e:((((List.replicate 36 (0:UInt8)).set 0 93).set 1 (UInt8.ofNat a)).set 2 (UInt8.ofNat b)).set 3 (UInt8.ofNat c)=A4++List.replicate 5 0++List.replicate 27 0:=by rw[hA4];rfl
   rw[e] at h
   rw[hW3]
   exact h
  have hb13:Below w1.heap.size w1 W3:=by
   have h:=HB12.out
   have hg:=HGB.out
   rw[hW3]
   exact((((h.setCell (by simp;omega) _).setCell (by simp;omega) _).setCell (by simp;omega) _).setCell (by simp;omega) _).drew
  have hq2:q<W3.heap.size:=Nat.lt_of_lt_of_le hq1 hb13.size
  have hg23:W2.grownBy W3 (some gb):=by
   rw[hW3]
   exact only_drew2 (only_set2 (only_set2 (only_set2 (only_set2 (only_refl2 W2 gb) 0 _) 1 _) 2 _) 3 _) 1
  have kq3:∀i,W3.cell? ⟨q,i,none⟩=W2.cell? ⟨q,i,none⟩:=fun i=>World.cell?_of_block (w:=W2) (a:=⟨q,i,none⟩) (hg23.block q (Nat.lt_of_lt_of_le hq1 HB12.out.size) (fun e=>by injection e with e;exact hqg e))
  have p3:=(kq3 3).trans m3
  have p4:=(kq3 4).trans m4
  have p5:=(kq3 5).trans m5
  clear kq3 hg23
  rw[←hW3]
  have HP1:=zh (put36 gb 4 5 g _ (A4++G5++List.replicate 27 0) W3 (by simp[hAl]) hB3 (by omega) (by omega) (by rw[hG5];exact ins A4 (List.replicate 5 0) (List.replicate 27 0) _ 4 5 hAl (by simp)))
  have HX:=zh (⟨hA4,hG5,hV5,hAl,hGl,hVl⟩:_∧_∧_∧_∧_∧_)
  have HB13:=zh hb13
  clear hA4 hG5 hV5 hAl hGl hVl hB3 hb13 hW3 m0 m1 m2 m3 m4 m5 n0 n1 n2 n3 f0 f1 f2 f3 hwa hwb hwc
  go_wp2_with fail
  refine HP1.out.mono ?_
  rintro e W4 ⟨rfl,hB4,hg4⟩
  have kq4:∀i,W4.cell? ⟨q,i,none⟩=W3.cell? ⟨q,i,none⟩:=fun i=>World.cell?_of_block (w:=W3) (a:=⟨q,i,none⟩) (hg4.block q hq2 (fun e=>by injection e with e;exact hqg e))
  have q4:=(kq4 4).trans p4
  have q5:=(kq4 5).trans p5
  have hq3:=Nat.lt_of_lt_of_le hq2 hg4.size
  have e4:A4++G5++List.replicate 27 0=(A4++G5)++List.replicate 5 0++List.replicate 22 0:=by simp[List.append_assoc,List.replicate_append_replicate]
  rw[e4] at hB4
  have HP2:=zh (put36 gb 9 5 r _ ((A4++G5)++V5++List.replicate 22 0) W4 (by simp[HX.out.2.2.2.1,HX.out.2.2.2.2.1]) hB4 (by omega) (by omega) (by rw[HX.out.2.2.1];exact ins (A4++G5) (List.replicate 5 0) (List.replicate 22 0) _ 9 5 (by simp[HX.out.2.2.2.1,HX.out.2.2.2.2.1]) (by simp)))
  have HG4:=zh hg4
  clear kq4 p3 p4 p5 e4 hB4 hg4
  go_wp2_with fail
  refine HP2.out.mono ?_
  rintro e W5 ⟨rfl,hB5,hg5⟩
  have kq5:∀i,W5.cell? ⟨q,i,none⟩=W4.cell? ⟨q,i,none⟩:=fun i=>World.cell?_of_block (w:=W4) (a:=⟨q,i,none⟩) (hg5.block q hq3 (fun e=>by injection e with e;exact hqg e))
  have r5:=(kq5 5).trans q5
  have e5:(A4++G5)++V5++List.replicate 22 0=((A4++G5)++V5++List.replicate 2 0)++List.replicate 16 0++List.replicate 4 0:=by simp[List.append_assoc,List.replicate_append_replicate]
  rw[e5] at hB5
  have hg35:=grown_trans HG4.out hg5
  have HB5:=zh hB5
  have HG35:=zh hg35
  have hBd:BlkB W5.drew gb ((A4++G5++V5++List.replicate 2 0)++List.replicate 16 0++List.replicate 4 0):=hB5
  have HBD:=zh hBd
  have hlen5:((A4++G5++V5++List.replicate 2 0)++List.replicate 16 0++List.replicate 4 0:List UInt8).length=36:=by simp[HX.out.2.2.2.1,HX.out.2.2.2.2.1,HX.out.2.2.2.2.2]
  have HL5:=zh hlen5
  clear kq5 q4 q5 e5 hB5 hg5 hg35 hBd hlen5
  go_upto_region 7 with fail
  have hsz:=HZ.out
  have h20:s.size≤20:=by omega
  have hf36:16+s.size≤((A4++G5++V5++List.replicate 2 0)++List.replicate 16 0++List.replicate 4 0:List UInt8).length:=by rw[HL5.out];omega
  clear hsz
  go_region_law (refine step_copy_str rfl (.tmp 35) (.tmp 37) rfl gb 16 20 20 _ s (by rfl) (by rfl) HBD.out h20 hf36 ?_;intro w6 hB6 hg6)
  obtain⟨H,hH⟩:=zx (headB ⟨(a:Int),(b:Int),(c:Int),(g:Int),(r:Int),l⟩)
  have hH2:H=(A4++G5++V5++List.replicate 2 0)++l:=by
   rw[hH,HX.out.1,HX.out.2.1,HX.out.2.2.1]
   simp[headB,List.replicate]
  have hHl:H.length=32:=by
   rw[hH2]
   simp[HX.out.2.2.2.1,HX.out.2.2.2.2.1,HX.out.2.2.2.2.2,HLL.out]
  have hB6':BlkB w6 gb (H++List.replicate 4 0):=by
   have h:=hB6
   rw[HD.out,HZ.out,ins (A4++G5++V5++List.replicate 2 0) (List.replicate 16 0) (List.replicate 4 0) l 16 16 (by simp[HX.out.2.2.2.1,HX.out.2.2.2.2.1,HX.out.2.2.2.2.2]) (by simp),←hH2] at h
   exact h
  have hcv1:=conv_buf (hB6'.pre (c:=36) (by omega) (by unfold maxLen;omega) (R:=fun _=>True) trivial)
  rw[hHl] at hcv1
  obtain⟨cs,hcs⟩:=zx (crc H)
  have hclt:cs<4294967296:=by rw[hcs];exact crc_lt H
  have hsumH:=fun w=>sum_any ⟨H.toArray⟩ w (by rw[size_of,hHl];unfold maxLen;omega)
  have hdH:(⟨H.toArray⟩:ByteArray).data.toList=H:=by simp
  rw[hdH,←hcs] at hsumH
  have HSUM:=zh hsumH
  have hws:IntKind.i64.wrap (cs:Int)=(cs:Int):=by rw[IntKind.wrap_i64];omega
  have hfin:(H++List.replicate 4 0).take 32++beTo cs 4 4++(H++List.replicate 4 0).drop (32+4)=sealB H:=by
   have h:=ins H (List.replicate 4 0) [] (beTo cs 4 4) 32 4 hHl (by simp)
   rw[List.append_nil,List.append_nil] at h
   rw[h,hcs];rfl
  have HP3:=zh (put36 gb 32 4 cs _ (sealB H) w6 (by simp[hHl]) hB6' (by omega) (by omega) hfin)
  have HH:=zh hH
  have HHL:=zh hHl
  have HG36:=zh (grown_trans HG35.out (show W5.grownBy w6 (some gb) from⟨hg6.os,hg6.tape,hg6.output,hg6.size,hg6.block⟩))
  obtain⟨Hs,hHs⟩:∃Hs:ByteArray,Hs=⟨H.toArray⟩:=⟨_,rfl⟩
  rw[←hHs] at hcv1 HSUM
  clear hB6 hg6 hH hH2 hHl hB6' hsumH hdH hfin hcs hHs h20 hf36 r5
  go_wp2_with fail
  refine(HSUM.out _).mono ?_
  rintro e w' ⟨rfl,rfl⟩
  go_wp2_with fail
  refine HP3.out.mono ?_
  rintro e W7 ⟨rfl,hB7,hg7⟩
  have hsl:(sealB H).length=36:=by simp[sealB,beTo_length,HHL.out]
  have hcv2:=conv_buf (hB7.byS (c:=36) (by omega) (by unfold maxLen;omega) (R:=fun _=>True) trivial)
  rw[hsl] at hcv2
  have hfb:Below w.heap.size w W7:=by
   have h1:=hbw.trans (HB13.out.mono hbw.size)
   refine h1.grown (grown_trans HG36.out hg7) h1.size (fun k hk=>?_)
   injection hk with hk
   have:=HGB.out
   have:=hbw.size
   omega
  clear hB7 hg7 hsl hcv1
  go_wp2
  go_ret2
  refine⟨?_,hfb⟩
  unfold encB
  rw[←HH.out]
  rfl
theorem num4(a b c d:UInt8):num [a,b,c,d]=((a.toNat * 256+b.toNat) * 256+c.toNat) * 256+d.toNat:=by simp[num]
theorem beTo4(n:Nat):beTo n 4 4=[UInt8.ofNat (n / 16777216),UInt8.ofNat (n / 65536),UInt8.ofNat (n / 256),UInt8.ofNat n]:=by
 simp[beTo,List.range_succ]
theorem len4{x:List UInt8} (h:x.length=4):∃a b c d,x=[a,b,c,d]:=by
 match x,h with
 | [a,b,c,d],_=>exact⟨a,b,c,d,rfl⟩
theorem beTo_num4{x:List UInt8} (h:x.length=4):beTo (num x) 4 4=x:=by
 obtain⟨a,b,c,d,rfl⟩:=len4 h
 have ha:=a.toNat_lt
 have hb:=b.toNat_lt
 have hc:=c.toNat_lt
 have hd:=d.toNat_lt
 rw[num4,beTo4]
 have key:∀(n:Nat) (u:UInt8),n % 256=u.toNat→UInt8.ofNat n=u:=fun n u h=>by
  apply UInt8.toNat_inj.1
  rw[UInt8.toNat_ofNat']
  exact h
 rw[key _ a (by omega),key _ b (by omega),key _ c (by omega),key _ d (by omega)]
theorem num_beTo4{n:Nat} (h:n<4294967296):num (beTo n 4 4)=n:=by
 rw[beTo4,num4]
 simp only[UInt8.toNat_ofNat']
 omega
theorem seal_iff{l:List UInt8} (h:l.length=36):sealB (l.take 32)=l↔num ((l.drop 32).take 4)=crc (l.take 32):=by
 have hd:(l.drop 32).length=4:=by rw[List.length_drop];omega
 have ht:(l.drop 32).take 4=l.drop 32:=List.take_of_length_le (by omega)
 rw[ht]
 unfold sealB
 constructor
 ·intro e
  have e2:beTo (crc (l.take 32)) 4 4=l.drop 32:=by
   have h1:l.take 32++beTo (crc (l.take 32)) 4 4=l.take 32++l.drop 32:=by rw[List.take_append_drop];exact e
   exact List.append_cancel_left h1
  rw[←e2,num_beTo4 (crc_lt _)]
 ·intro e
  rw[←e,beTo_num4 hd,List.take_append_drop]
def zeroB(l:List UInt8) (j:Nat):Bool:=(l.take j).all (·==0)
theorem zeroB_succ{l:List UInt8} {j:Nat} (h:j<l.length):zeroB l (j+1)=(zeroB l j&&(l[j]==0)):=by
 unfold zeroB
 rw[List.take_succ_eq_append_getElem h,List.all_append]
 simp
theorem zeroB_all{l:List UInt8} (h:l.length=36):zeroB l 36=true↔l=List.replicate 36 0:=by
 unfold zeroB
 rw[List.take_of_length_le (by omega),List.all_eq_true]
 constructor
 ·intro e
  exact List.eq_replicate_iff.2 ⟨h,fun x hx=>by simpa using e x hx⟩
 ·intro e x hx
  have:=(List.eq_replicate_iff.1 e).2 x hx
  simp[this]
theorem u8z(c:UInt8):((c.toNat:Int)==0)=(c==0):=by
 by_cases h:c=0
 ·subst h;rfl
 ·have h2:c.toNat≠0:=fun e=>h (UInt8.toNat_inj.1 e)
  have e1:(c==0)=false:=by simpa using h
  have e2:((c.toNat:Int)==0)=false:=by rw[beq_eq_false_iff_ne];omega
  rw[e1,e2]
theorem set6_row{W:World} {X:Nat} {t:TypeId} {o0 o1 o2 o3 o4 o5 v0 v1 v2 v3 v4 v5:Value} (h:W.heap[X]?=some (.cells #[o0,o1,o2,o3,o4,o5] t (0,0))) :
  ((((((W.setCell ⟨X,0,none⟩ v0).setCell ⟨X,1,none⟩ v1).setCell ⟨X,2,none⟩ v2).setCell ⟨X,3,none⟩ v3).setCell ⟨X,4,none⟩ v4).setCell ⟨X,5,none⟩ v5).heap[X]?=some (.cells #[v0,v1,v2,v3,v4,v5] t (0,0)):=by
 have h1:=heap_setCell_same W X 0 _ t v0 h
 have h2:=heap_setCell_same _ X 1 _ t v1 h1
 have h3:=heap_setCell_same _ X 2 _ t v2 h2
 have h4:=heap_setCell_same _ X 3 _ t v3 h3
 have h5:=heap_setCell_same _ X 4 _ t v4 h4
 have h6:=heap_setCell_same _ X 5 _ t v5 h5
 simpa using h6
theorem cells6{W:World} {X:Nat} {t:TypeId} {v0 v1 v2 v3 v4 v5:Value} (h:W.heap[X]?=some (.cells #[v0,v1,v2,v3,v4,v5] t (0,0))) :
  W.cell? ⟨X,0,none⟩=some v0∧W.cell? ⟨X,1,none⟩=some v1∧W.cell? ⟨X,2,none⟩=some v2∧W.cell? ⟨X,3,none⟩=some v3∧W.cell? ⟨X,4,none⟩=some v4∧W.cell? ⟨X,5,none⟩=some v5∧X<W.heap.size:=by
 have e:=fun i=>cell_of_row W X i _ _ _ h
 refine⟨by simpa using e 0,by simpa using e 1,by simpa using e 2,by simpa using e 3,by simpa using e 4,by simpa using e 5,?_⟩
 exact block_lt_of_cell (e 0)
theorem nameC{P:Program} {f:FuncId} {args:Array Value} {w:World} {Q:Ending→World→Prop} (h:∀W,W=w→Calls P f args W Q):Calls P f args w Q:=h w rfl
theorem below_drewL{w w2:World} (h:Below w.drew.heap.size w.drew w2):Below w.heap.size w w2:=⟨h.os,h.tape,h.output,h.size,h.block⟩
theorem sdec_any(s:ByteArray) (w:World) (hs:s.size≤maxLen) :
  Calls Tryz.prog 113 #[.string s] w fun e w'=>e=.returned (.tuple #[PcV (decPc s.data.toList),.int .i64 (decEr s.data.toList)])∧Below w.heap.size w w':=by
 unfold maxLen at hs
 have hsl:s.data.toList.length=s.size:=Array.length_toList
 obtain⟨W1,hW1⟩:=zx (w.alloc (.cells #[.int .i64 0,.int .i64 0,.int .i64 0,.int .i64 0,.int .i64 0,.string ⟨#[]⟩] 94))
 obtain⟨q,hq⟩:=zx w.heap.size
 have hbx:Below w.heap.size w W1:=by rw[hW1];exact(Below.refl _ _).alloc (Nat.le_refl _) _
 have c0:W1.cell? ⟨q,0,none⟩=some (.int .i64 0):=by rw[hW1,hq];simp
 have c1:W1.cell? ⟨q,1,none⟩=some (.int .i64 0):=by rw[hW1,hq];simp
 have c2:W1.cell? ⟨q,2,none⟩=some (.int .i64 0):=by rw[hW1,hq];simp
 have c3:W1.cell? ⟨q,3,none⟩=some (.int .i64 0):=by rw[hW1,hq];simp
 have c4:W1.cell? ⟨q,4,none⟩=some (.int .i64 0):=by rw[hW1,hq];simp
 have c5:W1.cell? ⟨q,5,none⟩=some (.string ⟨#[]⟩):=by rw[hW1,hq];simp
 have fz:∀i,W1.frozen? ⟨q,i,none⟩=false:=fun i=>by rw[hW1,hq];simp
 have hqW:q<W1.heap.size:=by rw[hW1,hq];simp
 have HQ:=zh hq
 have HBX:=zh hbx
 have HSL:=zh hsl
 by_cases h36:s.size=36
 ·have hq36:((s.size:Int) != 36)=false:=by rw[h36];rfl
  have H36:=zh h36
  have hlt36:∀j:Nat,j<36→j<s.size:=fun j h=>by omega
  have hi36:(s.size:Int)=36:=by omega
  have HW1:=zh hW1
  have HI:=zh hi36
  clear h36 hsl hW1 hbx hi36
  go_enter Tryz.func113,Tryz.ntmps113
  go_wp2_with fail
  rw[←HW1.out,←HQ.out]
  clear hq
  go_loopg [4,5,15] 36 (fun z v4 v5 v15 wr=>W1=wr∧∃j:Nat,j≤36∧z=36 - j∧v15=.int .i64 (j:Int)∧v4=.bool (zeroB s.data.toList j))
  case atStart=>exact⟨rfl,0,by omega,rfl,rfl,rfl⟩
  case round =>
   obtain⟨rfl,j,hj,rfl,rfl,rfl⟩:=hrel
   by_cases hlt:j<36
   ·-- W1{
    have hjs:j<s.size:=hlt36 j hlt
    have hzs:=zeroB_succ (l:=s.data.toList) (j:=j) (by rw[HSL.out];exact hjs)
    have hge:s.data.toList[j]'(by rw[HSL.out];exact hjs)=s[j]:=rfl
    rw[hge] at hzs
    have HZS:=zh hzs
    have j0:(0:Int)≤(j:Int):=by omega
    have j1:(j:Int)<(s.size:Int):=by omega
    clear hzs hge
    generalize zeroB s.data.toList j=zb at *
    cases zb with
    | false =>
     go_wp2_with fail
     go_roundg (36 - (j+1))
     case measure=>omega
     case rel=>exact⟨rfl,j+1,by omega,rfl,by go_num,by rw[HZS.out];rfl⟩
    | true =>
     go_wp2_with fail
     go_roundg (36 - (j+1))
     case measure=>omega
     case rel=>exact⟨rfl,j+1,by omega,rfl,by go_num,by rw[HZS.out,u8z];rfl⟩
   ·have hj36:j=36:=by omega
    have hzi:zeroB s.data.toList j=true↔s.data.toList=List.replicate 36 0:=by rw[hj36];exact zeroB_all (by rw[HSL.out];exact H36.out)
    have hjs:¬(j:Int)<(s.size:Int):=by have:=HI.out;omega
    generalize zeroB s.data.toList j=zb at *
    cases zb with
    | true =>
     have hE:=decEr_blank (l:=s.data.toList) (by rw[HSL.out];exact H36.out) (hzi.1 rfl)
     have hP:=decPc_bad (l:=s.data.toList) (by rw[hE];decide)
     have HE:=zh hE
     have HP:=zh hP
     clear hE hP hzi hj36
     go_wp2_with fail
     exact bodyPost_ret (v:=.tuple #[.agg #[.int .i64 0,.int .i64 0,.int .i64 0,.int .i64 0,.int .i64 0,.string ⟨#[]⟩],.int .i64 102]) (by simp[results,Tryz.results113,go_sem,c0,c1,c2,c3,c4,c5]) rfl ⟨by rw[HE.out,HP.out,PcV_zero],below6 HBX.out (by rw[HQ.out];exact Nat.le_refl _) _ _ _ _ _ _⟩
    | false =>
     have hbl2:s.data.toList≠List.replicate 36 0:=fun h=>by have:=hzi.2 h;cases this
     have HBL:=zh hbl2
     have h32:(32:Int)≤(s.size:Int):=by have:=HI.out;omega
     have he:(s.extract 0 32).data.toList=s.data.toList.take 32:=by rw[ext_list s 0 32 (by have:=H36.out;omega)];simp
     have hes:(s.extract 0 32).size≤maxLen:=by
      show(s.extract 0 32).data.size≤_
      rw[←Array.length_toList,he,List.length_take];unfold maxLen;omega
     have HSUM:=zh (fun w=>sum_any (s.extract 0 32) w hes)
     rw[he] at HSUM
     have HN0:Hid (∀w:World,Calls Tryz.prog 150 #[.string s,.int .i64 32,.int .i64 4] w fun e w'=>e=.returned (.int .i64 (num ((s.data.toList.drop 32).take 4):Int))∧Below w.heap.size w w'):=fun w=>snumber_any s 32 4 w (by omega) (by have:=H36.out;omega) (by have:=H36.out;omega)
     have HSI:=zh (seal_iff (l:=s.data.toList) (by rw[HSL.out];exact H36.out))
     have hclt:=crc_lt (s.data.toList.take 32)
     have hws:IntKind.i64.wrap (crc (s.data.toList.take 32):Int)=(crc (s.data.toList.take 32):Int):=by rw[IntKind.wrap_i64];omega
     clear hzi hj36 hbl2 he hes
     go_upto_region 11 with fail
     by_cases hsum:sealB (s.data.toList.take 32)=s.data.toList
     ·have q3:((num ((s.data.toList.drop 32).take 4):Int) != (crc (s.data.toList.take 32):Int))=false:=by
       rw[HSI.out.1 hsum];simp
      have HSU:=zh hsum
      obtain⟨n1,hn1⟩:=zx (num ((s.data.toList.drop 32).take 4))
      obtain⟨cc,hcc⟩:=zx (crc (s.data.toList.take 32))
      rw[←hn1,←hcc] at q3
      rw[←hcc] at hws HSUM hclt
      rw[←hn1] at HN0
      clear hsum hn1 hcc
      go_region_held3 (fun _=>True) (trivial)
       (first
        | (go_at_call 150;refine(HN0.out _).mono ?_;rintro e W2 ⟨rfl,hb2⟩)
        | (go_at_call 151;refine(HSUM.out _).mono ?_;rintro e w' ⟨rfl,rfl⟩))
      obtain⟨hc2,hf2⟩:=bcell hb2
      have hqd:q<W1.drew.heap.size:=hqW
      have d0:W2.cell? ⟨q,0,none⟩=some (.int .i64 0):=(hc2 q 0 hqd).trans c0
      have d1:W2.cell? ⟨q,1,none⟩=some (.int .i64 0):=(hc2 q 1 hqd).trans c1
      have d2:W2.cell? ⟨q,2,none⟩=some (.int .i64 0):=(hc2 q 2 hqd).trans c2
      have d3:W2.cell? ⟨q,3,none⟩=some (.int .i64 0):=(hc2 q 3 hqd).trans c3
      have d4:W2.cell? ⟨q,4,none⟩=some (.int .i64 0):=(hc2 q 4 hqd).trans c4
      have d5:W2.cell? ⟨q,5,none⟩=some (.string ⟨#[]⟩):=(hc2 q 5 hqd).trans c5
      have df:∀i,W2.frozen? ⟨q,i,none⟩=false:=fun i=>(hf2 q i hqd).trans (fz i)
      have hbz:=HBX.out.drew.trans (hb2.mono HBX.out.size)
      have hqW2:q<W2.heap.size:=by have:=hb2.size;simp at this;omega
      have hqne:q≠W2.heap.size:=by omega
      clear hc2 hf2 hb2 hqd c0 c1 c2 c3 c4 c5 fz hws hclt q3
      have hsz:=H36.out
      have HN1:Hid (∀w:World,Calls Tryz.prog 150 #[.string s,.int .i64 4,.int .i64 5] w fun e w'=>e=.returned (.int .i64 (num ((s.data.toList.drop 4).take 5):Int))∧Below w.heap.size w w'):=fun w=>snumber_any s 4 5 w (by omega) (by omega) (by omega)
      have HN2:Hid (∀w:World,Calls Tryz.prog 150 #[.string s,.int .i64 9,.int .i64 5] w fun e w'=>e=.returned (.int .i64 (num ((s.data.toList.drop 9).take 5):Int))∧Below w.heap.size w w'):=fun w=>snumber_any s 9 5 w (by omega) (by omega) (by omega)
      have hn3:(s.extract 16 32).data.toList=(s.data.toList.drop 16).take 16:=ext_list s 16 32 (by omega)
      have hpi:=decP_in s.data.toList (by rw[HSL.out,hsz])
      have j1:1<s.size:=by omega
      have j2:2<s.size:=by omega
      have j3:3<s.size:=by omega
      have hpv:Value.agg #[.int .i64 ((s[1]'j1).toNat:Int),.int .i64 ((s[2]'j2).toNat:Int),.int .i64 ((s[3]'j3).toNat:Int),.int .i64 (num ((s.data.toList.drop 4).take 5):Int),.int .i64 (num ((s.data.toList.drop 9).take 5):Int),.string (s.extract 16 32)]=PcV (decP s.data.toList):=by
       have g:∀k (h:k<s.size),s[k]=s.data.toList.getD k 0:=fun k h=>by
        rw[getD_lt _ _ (by rw[HSL.out];exact h)];rfl
       unfold PcV decP
       simp only
       rw[g 1,g 2,g 3,←hn3,←(str_eq (s.extract 16 32) _).2 rfl]
      have HPV:=zh hpv
      have HENC:=zh (fun w=>senc_any (decP s.data.toList) w hpi.1 (by rw[hpi.2];omega))
      rw[←hpv] at HENC
      obtain⟨es,hes1⟩:=zx (encS (decP s.data.toList))
      obtain⟨ee,hee1⟩:=zx (encE (decP s.data.toList))
      rw[←hes1,←hee1] at HENC
      have HES:=zh hes1
      have HEE:=zh hee1
      have u1:∀c:UInt8,IntKind.i64.wrap (c.toNat:Int)=(c.toNat:Int):=fun c=>by have:=c.toNat_lt;rw[IntKind.wrap_i64];omega
      have i1:(1:Int)<(s.size:Int):=by omega
      have i2:(2:Int)<(s.size:Int):=by omega
      have i3:(3:Int)<(s.size:Int):=by omega
      clear hn3 hpi hpv hes1 hee1 hsz
      go_upto_region 13 with fail
      refine wp_region_held_drew (S:=(fun _=>True)) (by kernel_rfl) trivial (fun hHeld=>?_)
      refine tkd 0 _ ?_
      refine tkd 1 _ ?_
      refine tkd 2 _ ?_
      refine tkd 3 _ ?_
      refine tkd 4 _ ?_
      refine tkd 5 _ ?_
      refine tkd 6 _ ?_
      refine tkd 7 _ ?_
      refine tkd 8 _ ?_
      refine tkd 9 _ ?_
      refine tkd 11 _ ?_
      refine tkd 13 _ ?_
      refine tkd 14 _ ?_
      refine wpAnyH_ready (rs:=[10,16]) (by kernel_rfl) (by simp) ?_
      refine AllReadyH.cons rfl (fun K hK=>?_) ?_
      ·go_simp
       (go_at_call_of 150 (Value.int .i64 4);refine(HN1.out _).mono ?_;rintro e W3 ⟨rfl,hb3⟩;obtain⟨hc3,hf3⟩:=bcell hb3;(try have hz3:W2.heap.size<W3.heap.size:=by have:=hb3.size;simp at this;omega))
       go_wp2_with fail
       refine hK.out _ _ ?_ (fun hHeld=>?_)
       ·trivial
       clear hK K
       (try simp only[Act.put,z1,z2,z3])
       refine wpAnyH_ready (rs:=[12,16]) (by kernel_rfl) (by simp) ?_
       refine AllReadyH.cons rfl (fun K hK=>?_) ?_
       ·go_simp
        (go_at_call_of 150 (Value.int .i64 9);refine(HN2.out _).mono ?_;rintro e W4 ⟨rfl,hb4⟩;obtain⟨hc4,hf4⟩:=bcell hb4;(try have hz4:W3.heap.size<W4.heap.size:=by have:=hb4.size;simp at this;omega))
        go_wp2_with fail
        refine hK.out _ _ ?_ (fun hHeld=>?_)
        ·trivial
        clear hK K
        (try simp only[Act.put,z1,z2,z3])
        refine tkd 15 _ ?_
        refine wpAnyH_ready (rs:=[16]) (by kernel_rfl) (by simp) ?_
        refine AllReadyH.cons rfl (fun K hK=>?_) ?_
        ·go_simp
         refine hK.out _ _ ?_ (fun hHeld=>?_)
         ·trivial
         clear hK K
         (try simp only[Act.put,z1,z2,z3])
         refine wpAnyH_ready (rs:=[17]) (by kernel_rfl) (by simp) ?_
         refine AllReadyH.cons rfl (fun K hK=>?_) ?_
         ·go_simp
          refine hK.out _ _ ?_ (fun hHeld=>?_)
          ·trivial
          clear hK K
          (try simp only[Act.put,z1,z2,z3])
          refine wpAnyH_done (by kernel_rfl) ?_ _
          go_wp2_with fail
          refine nameC (fun Wz hWz=>?_)
          have hW23:Below W2.heap.size W2 W3:=by first | with_reducible exact below_drewL hb3 | with_reducible exact below_boxd hb3
          have hW34:Below W3.heap.size W3 W4:=by first | with_reducible exact hb4 | with_reducible exact below_box hb4
          have hW24:=hW23.trans (hW34.mono hW23.size)
          have t23:=hW23.size
          have t34:=hW34.size
          have hW2z:Below W2.heap.size W2 Wz:=by rw[hWz];first | with_reducible exact Below.alloc hW24 (Below.size hW24) _ | with_reducible exact below6 hW24 t23 _ _ _ _ _ _ | with_reducible exact below6 hW24 (Nat.le_refl _) _ _ _ _ _ _
          refine(HENC.out _).mono ?_
          rintro e w9 ⟨rfl,hb9⟩
          have hq9:q<Wz.heap.size:=Nat.lt_of_lt_of_le hqW2 hW2z.size
          have e0:w9.cell? ⟨q,0,none⟩=some (.int .i64 0):=((hb9.cell (p:=⟨q,0,none⟩) hq9).trans (hW2z.cell (p:=⟨q,0,none⟩) hqW2)).trans d0
          have e1:w9.cell? ⟨q,1,none⟩=some (.int .i64 0):=((hb9.cell (p:=⟨q,1,none⟩) hq9).trans (hW2z.cell (p:=⟨q,1,none⟩) hqW2)).trans d1
          have e2:w9.cell? ⟨q,2,none⟩=some (.int .i64 0):=((hb9.cell (p:=⟨q,2,none⟩) hq9).trans (hW2z.cell (p:=⟨q,2,none⟩) hqW2)).trans d2
          have e3:w9.cell? ⟨q,3,none⟩=some (.int .i64 0):=((hb9.cell (p:=⟨q,3,none⟩) hq9).trans (hW2z.cell (p:=⟨q,3,none⟩) hqW2)).trans d3
          have e4:w9.cell? ⟨q,4,none⟩=some (.int .i64 0):=((hb9.cell (p:=⟨q,4,none⟩) hq9).trans (hW2z.cell (p:=⟨q,4,none⟩) hqW2)).trans d4
          have e5:w9.cell? ⟨q,5,none⟩=some (.string ⟨#[]⟩):=((hb9.cell (p:=⟨q,5,none⟩) hq9).trans (hW2z.cell (p:=⟨q,5,none⟩) hqW2)).trans d5
          have ef:∀i,w9.frozen? ⟨q,i,none⟩=false:=fun i=>((hb9.frozen (p:=⟨q,i,none⟩) hq9).trans (hW2z.frozen (p:=⟨q,i,none⟩) hqW2)).trans (df i)
          have hbq:Below w.heap.size w w9:=(hbz.trans (hW2z.mono hbz.size)).trans (hb9.mono (Nat.le_trans hbz.size hW2z.size))
          have hqle:w.heap.size≤q:=by rw[HQ.out];exact Nat.le_refl _
          have hXz:=heap_alloc_new W4 (.cells #[.int .i64 ((s[1]'j1).toNat:Int),.int .i64 ((s[2]'j2).toNat:Int),.int .i64 ((s[3]'j3).toNat:Int),.int .i64 (num ((s.data.toList.drop 4).take 5):Int),.int .i64 (num ((s.data.toList.drop 9).take 5):Int),.string (s.extract 16 32)] 94)
          rw[←hWz] at hXz
          obtain⟨z0,z1,z2,z3,z4,z5,zX⟩:=cells6 hXz
          have zq:q≠W4.heap.size:=by omega
          have x0:=(hb9.cell (p:=⟨W4.heap.size,0,none⟩) zX).trans z0
          have x1:=(hb9.cell (p:=⟨W4.heap.size,1,none⟩) zX).trans z1
          have x2:=(hb9.cell (p:=⟨W4.heap.size,2,none⟩) zX).trans z2
          have x3:=(hb9.cell (p:=⟨W4.heap.size,3,none⟩) zX).trans z3
          have x4:=(hb9.cell (p:=⟨W4.heap.size,4,none⟩) zX).trans z4
          have x5:=(hb9.cell (p:=⟨W4.heap.size,5,none⟩) zX).trans z5
          clear z0 z1 z2 z3 z4 z5 hXz hWz hb3 hb4 hc3 hf3 hc4 hf4
          by_cases hok:validP (decP s.data.toList)=true∧encB (decP s.data.toList)=s.data.toList
          ·have hE:=decEr_ok (l:=s.data.toList) (by rw[HSL.out];exact H36.out) HBL.out HSU.out hok
           have hP:=decPc_ok hE
           have f1:es=encB (decP s.data.toList):=by rw[HES.out];unfold encS;rw[if_pos hok.1]
           have f2:ee=0:=by rw[HEE.out];unfold encE;rw[if_pos hok.1]
           have q4:=lst_yes (f1.trans hok.2)
           have HE:=zh hE
           have HP:=zh hP
           subst f2
           clear hE hP f1 hok
           go_wp2_with fail
           exact bodyPost_ret (v:=.tuple #[.agg #[.int .i64 ((s[1]'j1).toNat:Int),.int .i64 ((s[2]'j2).toNat:Int),.int .i64 ((s[3]'j3).toNat:Int),.int .i64 (num ((s.data.toList.drop 4).take 5):Int),.int .i64 (num ((s.data.toList.drop 9).take 5):Int),.string (s.extract 16 32)],.int .i64 0]) (by simp[results,Tryz.results113,go_sem,e0,e1,e2,e3,e4,e5]) rfl ⟨by rw[HE.out,HP.out,HPV.out],below6 hbq hqle _ _ _ _ _ _⟩
          ·have hE:=decEr_form (l:=s.data.toList) (by rw[HSL.out];exact H36.out) HBL.out HSU.out hok
           have hP:=decPc_bad (l:=s.data.toList) (by rw[hE];decide)
           have HE:=zh hE
           have HP:=zh hP
           by_cases hv:validP (decP s.data.toList)=true
           ·have f1:es=encB (decP s.data.toList):=by rw[HES.out];unfold encS;rw[if_pos hv]
            have f2:ee=0:=by rw[HEE.out];unfold encE;rw[if_pos hv]
            have q4:=lst_no (fun h=>hok ⟨hv,f1.symm.trans h⟩)
            subst f2
            clear hE hP f1 hok
            go_wp2_with fail
            exact bodyPost_ret (v:=.tuple #[.agg #[.int .i64 0,.int .i64 0,.int .i64 0,.int .i64 0,.int .i64 0,.string ⟨#[]⟩],.int .i64 104]) (by simp[results,Tryz.results113,go_sem,e0,e1,e2,e3,e4,e5]) rfl ⟨by rw[HE.out,HP.out,PcV_zero],below6 hbq hqle _ _ _ _ _ _⟩
           ·have f2:ee=100:=by rw[HEE.out];unfold encE;rw[if_neg hv]
            subst f2
            clear hE hP hok
            go_wp2_with fail
            exact bodyPost_ret (v:=.tuple #[.agg #[.int .i64 0,.int .i64 0,.int .i64 0,.int .i64 0,.int .i64 0,.string ⟨#[]⟩],.int .i64 104]) (by simp[results,Tryz.results113,go_sem,e0,e1,e2,e3,e4,e5]) rfl ⟨by rw[HE.out,HP.out,PcV_zero],below6 hbq hqle _ _ _ _ _ _⟩
         exact AllReadyH.nil
        exact AllReadyH.nil
       refine AllReadyH.cons rfl (fun K hK=>?_) ?_
       ·go_simp
        refine hK.out _ _ ?_ (fun hHeld=>?_)
        ·trivial
        clear hK K
        (try simp only[Act.put,z1,z2,z3])
        refine wpAnyH_ready (rs:=[12]) (by kernel_rfl) (by simp) ?_
        refine AllReadyH.cons rfl (fun K hK=>?_) ?_
        ·go_simp
         (go_at_call_of 150 (Value.int .i64 9);refine(HN2.out _).mono ?_;rintro e W4 ⟨rfl,hb4⟩;obtain⟨hc4,hf4⟩:=bcell hb4;(try have hz4:W3.heap.size<W4.heap.size:=by have:=hb4.size;simp at this;omega))
         go_wp2_with fail
         refine hK.out _ _ ?_ (fun hHeld=>?_)
         ·trivial
         clear hK K
         (try simp only[Act.put,z1,z2,z3])
         refine tkd 15 _ ?_
         refine wpAnyH_ready (rs:=[17]) (by kernel_rfl) (by simp) ?_
         refine AllReadyH.cons rfl (fun K hK=>?_) ?_
         ·go_simp
          refine hK.out _ _ ?_ (fun hHeld=>?_)
          ·trivial
          clear hK K
          (try simp only[Act.put,z1,z2,z3])
          refine wpAnyH_done (by kernel_rfl) ?_ _
          go_wp2_with fail
          refine nameC (fun Wz hWz=>?_)
          have hW23:Below W2.heap.size W2 W3:=by first | with_reducible exact below_drewL hb3 | with_reducible exact below_boxd hb3
          have hW34:Below W3.heap.size W3 W4:=by first | with_reducible exact hb4 | with_reducible exact below_box hb4
          have hW24:=hW23.trans (hW34.mono hW23.size)
          have t23:=hW23.size
          have t34:=hW34.size
          have hW2z:Below W2.heap.size W2 Wz:=by rw[hWz];first | with_reducible exact Below.alloc hW24 (Below.size hW24) _ | with_reducible exact below6 hW24 t23 _ _ _ _ _ _ | with_reducible exact below6 hW24 (Nat.le_refl _) _ _ _ _ _ _
          refine(HENC.out _).mono ?_
          rintro e w9 ⟨rfl,hb9⟩
          have hq9:q<Wz.heap.size:=Nat.lt_of_lt_of_le hqW2 hW2z.size
          have e0:w9.cell? ⟨q,0,none⟩=some (.int .i64 0):=((hb9.cell (p:=⟨q,0,none⟩) hq9).trans (hW2z.cell (p:=⟨q,0,none⟩) hqW2)).trans d0
          have e1:w9.cell? ⟨q,1,none⟩=some (.int .i64 0):=((hb9.cell (p:=⟨q,1,none⟩) hq9).trans (hW2z.cell (p:=⟨q,1,none⟩) hqW2)).trans d1
          have e2:w9.cell? ⟨q,2,none⟩=some (.int .i64 0):=((hb9.cell (p:=⟨q,2,none⟩) hq9).trans (hW2z.cell (p:=⟨q,2,none⟩) hqW2)).trans d2
          have e3:w9.cell? ⟨q,3,none⟩=some (.int .i64 0):=((hb9.cell (p:=⟨q,3,none⟩) hq9).trans (hW2z.cell (p:=⟨q,3,none⟩) hqW2)).trans d3
          have e4:w9.cell? ⟨q,4,none⟩=some (.int .i64 0):=((hb9.cell (p:=⟨q,4,none⟩) hq9).trans (hW2z.cell (p:=⟨q,4,none⟩) hqW2)).trans d4
          have e5:w9.cell? ⟨q,5,none⟩=some (.string ⟨#[]⟩):=((hb9.cell (p:=⟨q,5,none⟩) hq9).trans (hW2z.cell (p:=⟨q,5,none⟩) hqW2)).trans d5
          have ef:∀i,w9.frozen? ⟨q,i,none⟩=false:=fun i=>((hb9.frozen (p:=⟨q,i,none⟩) hq9).trans (hW2z.frozen (p:=⟨q,i,none⟩) hqW2)).trans (df i)
          have hbq:Below w.heap.size w w9:=(hbz.trans (hW2z.mono hbz.size)).trans (hb9.mono (Nat.le_trans hbz.size hW2z.size))
          have hqle:w.heap.size≤q:=by rw[HQ.out];exact Nat.le_refl _
          have hXz:=set6_row (v0:=.int .i64 ((s[1]'j1).toNat:Int)) (v1:=.int .i64 ((s[2]'j2).toNat:Int)) (v2:=.int .i64 ((s[3]'j3).toNat:Int)) (v3:=.int .i64 (num ((s.data.toList.drop 4).take 5):Int)) (v4:=.int .i64 (num ((s.data.toList.drop 9).take 5):Int)) (v5:=.string (s.extract 16 32)) ((hb4.block W3.heap.size (by simp)).trans (heap_alloc_new W3 _))
          rw[←hWz] at hXz
          obtain⟨z0,z1,z2,z3,z4,z5,zX⟩:=cells6 hXz
          have zq:q≠W3.heap.size:=by omega
          have x0:=(hb9.cell (p:=⟨W3.heap.size,0,none⟩) zX).trans z0
          have x1:=(hb9.cell (p:=⟨W3.heap.size,1,none⟩) zX).trans z1
          have x2:=(hb9.cell (p:=⟨W3.heap.size,2,none⟩) zX).trans z2
          have x3:=(hb9.cell (p:=⟨W3.heap.size,3,none⟩) zX).trans z3
          have x4:=(hb9.cell (p:=⟨W3.heap.size,4,none⟩) zX).trans z4
          have x5:=(hb9.cell (p:=⟨W3.heap.size,5,none⟩) zX).trans z5
          clear z0 z1 z2 z3 z4 z5 hXz hWz hb3 hb4 hc3 hf3 hc4 hf4
          by_cases hok:validP (decP s.data.toList)=true∧encB (decP s.data.toList)=s.data.toList
          ·have hE:=decEr_ok (l:=s.data.toList) (by rw[HSL.out];exact H36.out) HBL.out HSU.out hok
           have hP:=decPc_ok hE
           have f1:es=encB (decP s.data.toList):=by rw[HES.out];unfold encS;rw[if_pos hok.1]
           have f2:ee=0:=by rw[HEE.out];unfold encE;rw[if_pos hok.1]
           have q4:=lst_yes (f1.trans hok.2)
           have HE:=zh hE
           have HP:=zh hP
           subst f2
           clear hE hP f1 hok
           go_wp2_with fail
           exact bodyPost_ret (v:=.tuple #[.agg #[.int .i64 ((s[1]'j1).toNat:Int),.int .i64 ((s[2]'j2).toNat:Int),.int .i64 ((s[3]'j3).toNat:Int),.int .i64 (num ((s.data.toList.drop 4).take 5):Int),.int .i64 (num ((s.data.toList.drop 9).take 5):Int),.string (s.extract 16 32)],.int .i64 0]) (by simp[results,Tryz.results113,go_sem,e0,e1,e2,e3,e4,e5]) rfl ⟨by rw[HE.out,HP.out,HPV.out],below6 hbq hqle _ _ _ _ _ _⟩
          ·have hE:=decEr_form (l:=s.data.toList) (by rw[HSL.out];exact H36.out) HBL.out HSU.out hok
           have hP:=decPc_bad (l:=s.data.toList) (by rw[hE];decide)
           have HE:=zh hE
           have HP:=zh hP
           by_cases hv:validP (decP s.data.toList)=true
           ·have f1:es=encB (decP s.data.toList):=by rw[HES.out];unfold encS;rw[if_pos hv]
            have f2:ee=0:=by rw[HEE.out];unfold encE;rw[if_pos hv]
            have q4:=lst_no (fun h=>hok ⟨hv,f1.symm.trans h⟩)
            subst f2
            clear hE hP f1 hok
            go_wp2_with fail
            exact bodyPost_ret (v:=.tuple #[.agg #[.int .i64 0,.int .i64 0,.int .i64 0,.int .i64 0,.int .i64 0,.string ⟨#[]⟩],.int .i64 104]) (by simp[results,Tryz.results113,go_sem,e0,e1,e2,e3,e4,e5]) rfl ⟨by rw[HE.out,HP.out,PcV_zero],below6 hbq hqle _ _ _ _ _ _⟩
           ·have f2:ee=100:=by rw[HEE.out];unfold encE;rw[if_neg hv]
            subst f2
            clear hE hP hok
            go_wp2_with fail
            exact bodyPost_ret (v:=.tuple #[.agg #[.int .i64 0,.int .i64 0,.int .i64 0,.int .i64 0,.int .i64 0,.string ⟨#[]⟩],.int .i64 104]) (by simp[results,Tryz.results113,go_sem,e0,e1,e2,e3,e4,e5]) rfl ⟨by rw[HE.out,HP.out,PcV_zero],below6 hbq hqle _ _ _ _ _ _⟩
         exact AllReadyH.nil
        exact AllReadyH.nil
       exact AllReadyH.nil
      refine AllReadyH.cons rfl (fun K hK=>?_) ?_
      ·go_simp
       refine hK.out _ _ ?_ (fun hHeld=>?_)
       ·trivial
       clear hK K
       (try simp only[Act.put,z1,z2,z3])
       refine wpAnyH_ready (rs:=[10]) (by kernel_rfl) (by simp) ?_
       refine AllReadyH.cons rfl (fun K hK=>?_) ?_
       ·go_simp
        (go_at_call_of 150 (Value.int .i64 4);refine(HN1.out _).mono ?_;rintro e W3 ⟨rfl,hb3⟩;obtain⟨hc3,hf3⟩:=bcell hb3;(try have hz3:W2.heap.size<W3.heap.size:=by have:=hb3.size;simp at this;omega))
        go_wp2_with fail
        refine hK.out _ _ ?_ (fun hHeld=>?_)
        ·trivial
        clear hK K
        (try simp only[Act.put,z1,z2,z3])
        refine wpAnyH_ready (rs:=[12]) (by kernel_rfl) (by simp) ?_
        refine AllReadyH.cons rfl (fun K hK=>?_) ?_
        ·go_simp
         (go_at_call_of 150 (Value.int .i64 9);refine(HN2.out _).mono ?_;rintro e W4 ⟨rfl,hb4⟩;obtain⟨hc4,hf4⟩:=bcell hb4;(try have hz4:W3.heap.size<W4.heap.size:=by have:=hb4.size;simp at this;omega))
         go_wp2_with fail
         refine hK.out _ _ ?_ (fun hHeld=>?_)
         ·trivial
         clear hK K
         (try simp only[Act.put,z1,z2,z3])
         refine tkd 15 _ ?_
         refine wpAnyH_ready (rs:=[17]) (by kernel_rfl) (by simp) ?_
         refine AllReadyH.cons rfl (fun K hK=>?_) ?_
         ·go_simp
          refine hK.out _ _ ?_ (fun hHeld=>?_)
          ·trivial
          clear hK K
          (try simp only[Act.put,z1,z2,z3])
          refine wpAnyH_done (by kernel_rfl) ?_ _
          go_wp2_with fail
          refine nameC (fun Wz hWz=>?_)
          have hW23:Below W2.heap.size W2 W3:=by first | with_reducible exact below_drewL hb3 | with_reducible exact below_boxd hb3
          have hW34:Below W3.heap.size W3 W4:=by first | with_reducible exact hb4 | with_reducible exact below_box hb4
          have hW24:=hW23.trans (hW34.mono hW23.size)
          have t23:=hW23.size
          have t34:=hW34.size
          have hW2z:Below W2.heap.size W2 Wz:=by rw[hWz];first | with_reducible exact Below.alloc hW24 (Below.size hW24) _ | with_reducible exact below6 hW24 t23 _ _ _ _ _ _ | with_reducible exact below6 hW24 (Nat.le_refl _) _ _ _ _ _ _
          refine(HENC.out _).mono ?_
          rintro e w9 ⟨rfl,hb9⟩
          have hq9:q<Wz.heap.size:=Nat.lt_of_lt_of_le hqW2 hW2z.size
          have e0:w9.cell? ⟨q,0,none⟩=some (.int .i64 0):=((hb9.cell (p:=⟨q,0,none⟩) hq9).trans (hW2z.cell (p:=⟨q,0,none⟩) hqW2)).trans d0
          have e1:w9.cell? ⟨q,1,none⟩=some (.int .i64 0):=((hb9.cell (p:=⟨q,1,none⟩) hq9).trans (hW2z.cell (p:=⟨q,1,none⟩) hqW2)).trans d1
          have e2:w9.cell? ⟨q,2,none⟩=some (.int .i64 0):=((hb9.cell (p:=⟨q,2,none⟩) hq9).trans (hW2z.cell (p:=⟨q,2,none⟩) hqW2)).trans d2
          have e3:w9.cell? ⟨q,3,none⟩=some (.int .i64 0):=((hb9.cell (p:=⟨q,3,none⟩) hq9).trans (hW2z.cell (p:=⟨q,3,none⟩) hqW2)).trans d3
          have e4:w9.cell? ⟨q,4,none⟩=some (.int .i64 0):=((hb9.cell (p:=⟨q,4,none⟩) hq9).trans (hW2z.cell (p:=⟨q,4,none⟩) hqW2)).trans d4
          have e5:w9.cell? ⟨q,5,none⟩=some (.string ⟨#[]⟩):=((hb9.cell (p:=⟨q,5,none⟩) hq9).trans (hW2z.cell (p:=⟨q,5,none⟩) hqW2)).trans d5
          have ef:∀i,w9.frozen? ⟨q,i,none⟩=false:=fun i=>((hb9.frozen (p:=⟨q,i,none⟩) hq9).trans (hW2z.frozen (p:=⟨q,i,none⟩) hqW2)).trans (df i)
          have hbq:Below w.heap.size w w9:=(hbz.trans (hW2z.mono hbz.size)).trans (hb9.mono (Nat.le_trans hbz.size hW2z.size))
          have hqle:w.heap.size≤q:=by rw[HQ.out];exact Nat.le_refl _
          have hXz:=set6_row (v0:=.int .i64 ((s[1]'j1).toNat:Int)) (v1:=.int .i64 ((s[2]'j2).toNat:Int)) (v2:=.int .i64 ((s[3]'j3).toNat:Int)) (v3:=.int .i64 (num ((s.data.toList.drop 4).take 5):Int)) (v4:=.int .i64 (num ((s.data.toList.drop 9).take 5):Int)) (v5:=.string (s.extract 16 32)) ((hb4.block W2.heap.size hz3).trans ((hb3.block W2.heap.size (by simp)).trans (heap_alloc_new W2 _)))
          rw[←hWz] at hXz
          obtain⟨z0,z1,z2,z3,z4,z5,zX⟩:=cells6 hXz
          have zq:q≠W2.heap.size:=by omega
          have x0:=(hb9.cell (p:=⟨W2.heap.size,0,none⟩) zX).trans z0
          have x1:=(hb9.cell (p:=⟨W2.heap.size,1,none⟩) zX).trans z1
          have x2:=(hb9.cell (p:=⟨W2.heap.size,2,none⟩) zX).trans z2
          have x3:=(hb9.cell (p:=⟨W2.heap.size,3,none⟩) zX).trans z3
          have x4:=(hb9.cell (p:=⟨W2.heap.size,4,none⟩) zX).trans z4
          have x5:=(hb9.cell (p:=⟨W2.heap.size,5,none⟩) zX).trans z5
          clear z0 z1 z2 z3 z4 z5 hXz hWz hb3 hb4 hc3 hf3 hc4 hf4
          by_cases hok:validP (decP s.data.toList)=true∧encB (decP s.data.toList)=s.data.toList
          ·have hE:=decEr_ok (l:=s.data.toList) (by rw[HSL.out];exact H36.out) HBL.out HSU.out hok
           have hP:=decPc_ok hE
           have f1:es=encB (decP s.data.toList):=by rw[HES.out];unfold encS;rw[if_pos hok.1]
           have f2:ee=0:=by rw[HEE.out];unfold encE;rw[if_pos hok.1]
           have q4:=lst_yes (f1.trans hok.2)
           have HE:=zh hE
           have HP:=zh hP
           subst f2
           clear hE hP f1 hok
           go_wp2_with fail
           exact bodyPost_ret (v:=.tuple #[.agg #[.int .i64 ((s[1]'j1).toNat:Int),.int .i64 ((s[2]'j2).toNat:Int),.int .i64 ((s[3]'j3).toNat:Int),.int .i64 (num ((s.data.toList.drop 4).take 5):Int),.int .i64 (num ((s.data.toList.drop 9).take 5):Int),.string (s.extract 16 32)],.int .i64 0]) (by simp[results,Tryz.results113,go_sem,e0,e1,e2,e3,e4,e5]) rfl ⟨by rw[HE.out,HP.out,HPV.out],below6 hbq hqle _ _ _ _ _ _⟩
          ·have hE:=decEr_form (l:=s.data.toList) (by rw[HSL.out];exact H36.out) HBL.out HSU.out hok
           have hP:=decPc_bad (l:=s.data.toList) (by rw[hE];decide)
           have HE:=zh hE
           have HP:=zh hP
           by_cases hv:validP (decP s.data.toList)=true
           ·have f1:es=encB (decP s.data.toList):=by rw[HES.out];unfold encS;rw[if_pos hv]
            have f2:ee=0:=by rw[HEE.out];unfold encE;rw[if_pos hv]
            have q4:=lst_no (fun h=>hok ⟨hv,f1.symm.trans h⟩)
            subst f2
            clear hE hP f1 hok
            go_wp2_with fail
            exact bodyPost_ret (v:=.tuple #[.agg #[.int .i64 0,.int .i64 0,.int .i64 0,.int .i64 0,.int .i64 0,.string ⟨#[]⟩],.int .i64 104]) (by simp[results,Tryz.results113,go_sem,e0,e1,e2,e3,e4,e5]) rfl ⟨by rw[HE.out,HP.out,PcV_zero],below6 hbq hqle _ _ _ _ _ _⟩
           ·have f2:ee=100:=by rw[HEE.out];unfold encE;rw[if_neg hv]
            subst f2
            clear hE hP hok
            go_wp2_with fail
            exact bodyPost_ret (v:=.tuple #[.agg #[.int .i64 0,.int .i64 0,.int .i64 0,.int .i64 0,.int .i64 0,.string ⟨#[]⟩],.int .i64 104]) (by simp[results,Tryz.results113,go_sem,e0,e1,e2,e3,e4,e5]) rfl ⟨by rw[HE.out,HP.out,PcV_zero],below6 hbq hqle _ _ _ _ _ _⟩
         exact AllReadyH.nil
        exact AllReadyH.nil
       exact AllReadyH.nil
      exact AllReadyH.nil
     ·have q3:((num ((s.data.toList.drop 32).take 4):Int) != (crc (s.data.toList.take 32):Int))=true:=by
       rw[bne_iff_ne]
       intro e
       exact hsum (HSI.out.2 (by exact_mod_cast e))
      have hE:=decEr_sum (l:=s.data.toList) (by rw[HSL.out];exact H36.out) HBL.out hsum
      have hP:=decPc_bad (l:=s.data.toList) (by rw[hE];decide)
      have HE:=zh hE
      have HP:=zh hP
      obtain⟨n1,hn1⟩:=zx (num ((s.data.toList.drop 32).take 4))
      obtain⟨cc,hcc⟩:=zx (crc (s.data.toList.take 32))
      rw[←hn1,←hcc] at q3
      rw[←hcc] at hws HSUM hclt
      rw[←hn1] at HN0
      clear hsum hn1 hcc hE hP
      go_region_held3 (fun _=>True) (trivial)
       (first
        | (go_at_call 150;refine(HN0.out _).mono ?_;rintro e W2 ⟨rfl,hb2⟩)
        | (go_at_call 151;refine(HSUM.out _).mono ?_;rintro e w' ⟨rfl,rfl⟩))
      all_goals
       obtain⟨hc2,hf2⟩:=bcell hb2
       have hqd:q<W1.drew.heap.size:=hqW
       have d0:W2.cell? ⟨q,0,none⟩=some (.int .i64 0):=(hc2 q 0 hqd).trans c0
       have d1:W2.cell? ⟨q,1,none⟩=some (.int .i64 0):=(hc2 q 1 hqd).trans c1
       have d2:W2.cell? ⟨q,2,none⟩=some (.int .i64 0):=(hc2 q 2 hqd).trans c2
       have d3:W2.cell? ⟨q,3,none⟩=some (.int .i64 0):=(hc2 q 3 hqd).trans c3
       have d4:W2.cell? ⟨q,4,none⟩=some (.int .i64 0):=(hc2 q 4 hqd).trans c4
       have d5:W2.cell? ⟨q,5,none⟩=some (.string ⟨#[]⟩):=(hc2 q 5 hqd).trans c5
       have df:∀i,W2.frozen? ⟨q,i,none⟩=false:=fun i=>(hf2 q i hqd).trans (fz i)
       have hbz:=HBX.out.drew.trans (hb2.mono HBX.out.size)
       clear hc2 hf2 hb2
       go_wp2_with fail
       exact bodyPost_ret (v:=.tuple #[.agg #[.int .i64 0,.int .i64 0,.int .i64 0,.int .i64 0,.int .i64 0,.string ⟨#[]⟩],.int .i64 103]) (by simp[results,Tryz.results113,go_sem,d0,d1,d2,d3,d4,d5]) rfl ⟨by rw[HE.out,HP.out,PcV_zero],below6 hbz (by rw[HQ.out];exact Nat.le_refl _) _ _ _ _ _ _⟩
 ·have hE:=decEr_len (l:=s.data.toList) (by rw[hsl];exact h36)
  have hP:=decPc_bad (l:=s.data.toList) (by rw[hE];decide)
  rw[hE,hP,PcV_zero]
  have hq36:((s.size:Int) != 36)=true:=by simp;omega
  have HW1:=zh hW1
  clear hE hP h36 hsl hW1 hbx
  go_enter Tryz.func113,Tryz.ntmps113
  go_wp2_with fail
  refine bodyPost_ret (v:=.tuple #[.agg #[.int .i64 0,.int .i64 0,.int .i64 0,.int .i64 0,.int .i64 0,.string ⟨#[]⟩],.int .i64 101]) (by simp[results,Tryz.results113,go_sem]) rfl ⟨rfl,?_⟩
  rw[←HW1.out]
  exact HBX.out
end Go.Proofs.YtcfkllnpkmebpaaGreatDoor
