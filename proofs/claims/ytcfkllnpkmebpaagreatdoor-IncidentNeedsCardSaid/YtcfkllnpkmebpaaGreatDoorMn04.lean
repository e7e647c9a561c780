/- strings.Builder as this program uses it: Write and String. -/
import Derived.Test.YtcfkllnpkmebpaaGreatDoorMh01
import Derived.Test.YtcfkllnpkmebpaaGreatDoorMh02
import Derived.Test.YtcfkllnpkmebpaaGreatDoorMh03
import Derived.Test.YtcfkllnpkmebpaaGreatDoorMh04
import Derived.Test.YtcfkllnpkmebpaaGreatDoorMh05
import Derived.Test.YtcfkllnpkmebpaaGreatDoorMh06
import Derived.Test.YtcfkllnpkmebpaaGreatDoorMh07
import Derived.Test.YtcfkllnpkmebpaaGreatDoorMh08
import Derived.Test.YtcfkllnpkmebpaaGreatDoorMh09
import Derived.Test.YtcfkllnpkmebpaaGreatDoorMh10
import Derived.Test.YtcfkllnpkmebpaaGreatDoorMh11
import Derived.Test.YtcfkllnpkmebpaaGreatDoorMh12
import Derived.Test.YtcfkllnpkmebpaaGreatDoorMh13
import Derived.Test.YtcfkllnpkmebpaaGreatDoorMh14
import Derived.Test.YtcfkllnpkmebpaaGreatDoorMh15
import Derived.Test.YtcfkllnpkmebpaaGreatDoorMh16
import Derived.Test.YtcfkllnpkmebpaaGreatDoorMh17
import Derived.Test.YtcfkllnpkmebpaaGreatDoorMh18
import Derived.Shelf.Strings.Builder1
import Derived.Laws.AppendOwn
import Derived.Shelf.Strconv.Itoa3
import Derived.Shelf.Strings.Cut
import Derived.Test.YtcfkllnpkmebpaaGreatDoorRows
import Derived.Shelf.RegionOpenPlain
import Derived.Lib.CutLaws
import Derived.BigQuiet
import Derived.Deep.QuietTactic
import Derived.Test.YtcfkllnpkmebpaaGreatDoorMn03
import Derived.Deep.LoopGhost
import Derived.Test.YtcfkllnpkmebpaaGreatDoorMn01
import Derived.Test.YtcfkllnpkmebpaaGreatDoorMn02
set_option maxRecDepth 100000
set_option maxHeartbeats 12800000
namespace Go.Proofs.YtcfkllnpkmebpaaGreatDoor
open Go.RowKit Go.Shelf
set_option linter.unusedVariables false
set_option linter.unusedSimpArgs false
def bldRen:Go.Shelf.Ren:=⟨fun | 169=>45 | n=>n,fun | 70=>106 | 9=>9 | 0=>0 | 72=>108 | 37=>53 | 127=>190 | 3=>3 | 5=>5 | n=>n,fun | n=>n⟩
theorem bldLays:Go.Proofs.Lays.n169 Tryz.prog bldRen:={
 mixed:=by kernel_rfl
 f169:=Tryz.func45.trans (congrArg some (by kernel_rfl))
 t0:=Tryz.underlying0
 a0:=Tryz.isAgg0
 z0:=Tryz.sizeOf0
 v0:=Tryz.zeroValue0
 t3:=Tryz.underlying3
 a3:=Tryz.isAgg3
 z3:=Tryz.sizeOf3
 v3:=Tryz.zeroValue3
 t9:=Tryz.underlying9
 a9:=Tryz.isAgg9
 z9:=Tryz.sizeOf9
 v9:=Tryz.zeroValue9
 t37:=Tryz.underlying53
 a37:=Tryz.isAgg53
 z37:=Tryz.sizeOf53
 v37:=Tryz.zeroValue53
 t70:=Tryz.underlying106
 a70:=Tryz.isAgg106
 z70:=Tryz.sizeOf106
 v70:=Tryz.zeroValue106
 t72:=Tryz.underlying108
 a72:=Tryz.isAgg108
 z72:=Tryz.sizeOf108
 v72:=Tryz.zeroValue108
 t127:=Tryz.underlying190
 a127:=Tryz.isAgg190
 z127:=Tryz.sizeOf190
 v127:=Tryz.zeroValue190 }
theorem bldExtra:Builder.Extra Tryz.prog bldRen:={
 sizeBuilder:=by kernel_rfl
 liesBuilder:=by kernel_rfl
 t5:=Tryz.underlying5
 a5:=Tryz.isAgg5
 z5:=Tryz.sizeOf5
 v5:=Tryz.zeroValue5
 infoByte:=by kernel_rfl
 cellsByte:=by kernel_rfl
 sizeByte:=by kernel_rfl
 neB5:=by decide }
theorem bstring_any(B b:Nat) (l:List UInt8) (w:World) (h:Lib.IsBuilder 108 5 B b (Lib.byteCells l) w) (hBw:B≤w.heap.size) :
  Calls Tryz.prog 45 #[.pointer (some ⟨b,0,none⟩)] w fun e w'=>e=.returned (.string ⟨l.toArray⟩)∧Below B w w':=Any.Builder_String_any bldLays bldExtra B b l w h hBw
theorem info_u8b:(Tryz.prog.info? 5).map (fun i=>(i.zero,i.size,i.bytes))=some (some (.int .u8 0),1,1):=by kernel_rfl
theorem bld_info:∃j,Tryz.prog.info? 108=some j∧j.size=2:=Option.map_eq_some_iff.1 (show(Tryz.prog.info? 108).map (·.size)=some 2 from by kernel_rfl)
theorem bcheck_used(b:Nat) (w:World) (h0:w.cell? ⟨b,0,none⟩=some (.pointer (some ⟨b,0,none⟩))) :
  Calls Tryz.prog 94 #[.pointer (some ⟨b,0,none⟩)] w fun e w'=>e=.returned (.tuple #[])∧w'=w:=by
 obtain⟨j,hj,_⟩:=bld_info
 go_enter Tryz.func94,Tryz.ntmps94
 go_wp2
 rw[Lib.run_neq_ptr_same w _ Tryz.underlying106 hj]
 go_wp2
 go_end0
 exact⟨rfl,rfl⟩
theorem bcheck_fresh(b:Nat) (w:World) (h0:w.cell? ⟨b,0,none⟩=some (.pointer none)) (hsh:w.shape? b=some (108,2)) (hfz:w.frozen? ⟨b,0,none⟩=false) :
  Calls Tryz.prog 94 #[.pointer (some ⟨b,0,none⟩)] w fun e w'=>e=.returned (.tuple #[])∧w'=w.setCell ⟨b,0,none⟩ (.pointer (some ⟨b,0,none⟩)):=by
 obtain⟨j,hj,hjs⟩:=bld_info
 have hlies:liesAt Tryz.prog Tryz.prog.depth 108 (2 / Tryz.prog.cellsOf 108) 0 108 1=true:=by kernel_rfl
 go_enter Tryz.func94,Tryz.ntmps94
 go_wp2
 rw[Lib.run_to_unsafe w ⟨b,0,none⟩ Tryz.underlying106 Tryz.underlying229 hj (by rw[hjs];decide) hsh (Nat.zero_lt_succ 1)]
 simp only[Result.andThen]
 rw[Oper.upon_value]
 go_wp2
 rw[run_callFunc_extern Tryz.func135 (by kernel_rfl) (by kernel_rfl) (by kernel_rfl) (e:=Extern.AbiNoEscape.same) (by kernel_rfl)]
 rw[Lib.run_noEscape]
 simp only[Result.andThen]
 rw[Oper.upon_value]
 go_wp2
 rw[Lib.run_from_unsafe w ⟨b,0,none⟩ Tryz.underlying229 Tryz.underlying106 hj hsh hlies]
 simp only[Result.andThen]
 rw[Oper.upon_value]
 go_wp2
 go_end0
 exact⟨rfl,rfl⟩
theorem bcheck_any(B b:Nat) (bs:List Value) (w:World) (h:Lib.IsBuilder 108 5 B b bs w) :
  Calls Tryz.prog 94 #[.pointer (some ⟨b,0,none⟩)] w fun e w'=>e=.returned (.tuple #[])∧(Lib.BuilderAt 108 5 B b (.pointer (some ⟨b,0,none⟩)) bs w'∧Below B w w'):=by
 rcases h with h | h
 ·refine(bcheck_fresh b w h.cell0 h.shape h.frozen0).mono ?_
  rintro e w' ⟨rfl,rfl⟩
  exact⟨rfl,h.used _,(Below.refl B w).setCell (p:=⟨b,0,none⟩) h.1 _⟩
 ·refine(bcheck_used b w h.cell0).mono ?_
  rintro e w' ⟨rfl,rfl⟩
  exact⟨rfl,h,Below.refl B _⟩
theorem bwrite_any(B b:Nat) (bs:List Value) (ad:Addr) (m c:Nat) (news:List Value) (w:World) (h:Lib.IsBuilder 108 5 B b bs w)
  (hl:news.length=m) (hnews:∀j u,news[j]?=some u→w.cell? (ad.add j)=some u) (hadB:ad.block<B) (h1:∀u∈news,u.oneCell'=true)
  (hlen:bs.length+m≤140737488355328) (hBw:B≤w.heap.size) :
  Calls Tryz.prog 76 #[.pointer (some ⟨b,0,none⟩),.slice (some ad) m c] w fun e w'=>e=.returned (.tuple #[.int .i64 m,.nilIface])∧(Lib.BuilderAt 108 5 B b (.pointer (some ⟨b,0,none⟩)) (bs++news) w'∧Below B w w'):=by
 obtain⟨i0,hi,hz0,hz1,hz2⟩:=info_parts info_u8b
 go_enter Tryz.func76,Tryz.ntmps76
 go_wp2_with (go_at_call 94;refine(bcheck_any B b bs _ h).mono ?_)
 rintro e w1 ⟨rfl,h1',hb1⟩
 obtain⟨hB,v,hbk,hown,hne⟩:=h1'
 have c0:w1.cell? ⟨b,0,none⟩=some (.pointer (some ⟨b,0,none⟩)):=by rw[Lib.cell_of_heap hbk];rfl
 have c1:w1.cell? ⟨b,1,none⟩=some v:=by rw[Lib.cell_of_heap hbk];rfl
 have hnews1:∀j u,news[j]?=some u→w1.cell? (ad.add j)=some u:=fun j u hj=>by rw[hb1.cell (p:=ad.add j) (by unfold Addr.add;split <;> exact hadB)];exact hnews j u hj
 go_wp2_with (at_builtin;refine wpList_append_own _ rfl _ _ 53 rfl B 5 i0 (.int .u8 0) 1 1 Tryz.underlying53 hi hz0 hz1 hz2 rfl (by decide) _ _ _ rfl hown ad m c news rfl (by omega) hnews1 h1 ?c3 ?c4 ?c5 ?_)
 case c3=>unfold maxLen;omega
 case c4=>omega
 case c5=>have:=hb1.size;omega
 intro v' w2 hown' hgrow _
 have hlt:b<w1.heap.size:=by
  rcases Nat.lt_or_ge b w1.heap.size with h' | h'
  ·exact h'
  ·simp[Array.getElem?_eq_none h'] at hbk
 have hb2:w2.heap[b]?=some (.cells #[.pointer (some ⟨b,0,none⟩),v] 108 (0,0)):=by
  rw[hgrow.block b hlt (fun e=>hne e.symm)]
  exact hbk
 have d0:w2.cell? ⟨b,0,none⟩=some (.pointer (some ⟨b,0,none⟩)):=by rw[Lib.cell_of_heap hb2];rfl
 have d1:w2.cell? ⟨b,1,none⟩=some v:=by rw[Lib.cell_of_heap hb2];rfl
 have f1:w2.frozen? ⟨b,1,none⟩=false:=Lib.frozen_of_heap hb2 1
 obtain⟨ao,n',cap,rfl⟩:∃ao n' cap,v'=.slice ao n' cap:=by
  rcases hown'.2 with ⟨hv,_⟩ | ⟨g,cap,cur,hv,_⟩
  ·exact⟨_,_,_,hv⟩
  ·exact⟨_,_,_,hv⟩
 go_wp2
 go_ret2
 refine⟨rfl,?_,?_⟩
 ·exact Lib.BuilderAt.put (T:=108) (e:=5) hB hb2 (bs':=bs++news) (by simpa[hl] using hown') (by decide)
 ·exact(hb1.grown hgrow (by have:=hb1.size;omega) (fun k hk=>(hown.lt k hk).1)).setCell (p:=⟨b,1,none⟩) hB _
end Go.Proofs.YtcfkllnpkmebpaaGreatDoor

namespace Go.Proofs.YtcfkllnpkmebpaaGreatDoor
open Go.RowKit Go.Shelf
set_option linter.unusedVariables false
def itoaRen:Go.Shelf.Ren:=⟨fun | 171=>95 | 243=>136 | 246=>187 | 283=>228 | 284=>229 | 285=>230 | 286=>231 | 129=>168 | 317=>251 | 318=>252 | 319=>253 | 320=>254 | 337=>265 | 338=>266 | n=>n,fun | 3=>3 | 9=>9 | 2=>2 | 4=>4 | 171=>294 | 0=>0 | 53=>181 | 37=>53 | 5=>5 | 173=>296 | 212=>306 | 51=>97 | 20=>20 | 213=>307 | 46=>183 | 232=>315 | 233=>316 | n=>n,fun | 17=>1 | 18=>2 | 19=>3 | n=>n⟩
theorem itoaLays:Go.Proofs.Lays.n171 Tryz.prog itoaRen:={
 mixed:=by kernel_rfl
 f129:=Tryz.func168.trans (congrArg some (by kernel_rfl))
 f171:=Tryz.func95.trans (congrArg some (by kernel_rfl))
 f243:=Tryz.func136.trans (congrArg some (by kernel_rfl))
 f246:=Tryz.func187.trans (congrArg some (by kernel_rfl))
 f283:=Tryz.func228.trans (congrArg some (by kernel_rfl))
 f284:=Tryz.func229.trans (congrArg some (by kernel_rfl))
 f285:=Tryz.func230.trans (congrArg some (by kernel_rfl))
 f286:=Tryz.func231.trans (congrArg some (by kernel_rfl))
 f317:=Tryz.func251.trans (congrArg some (by kernel_rfl))
 f318:=Tryz.func252.trans (congrArg some (by kernel_rfl))
 f319:=Tryz.func253.trans (congrArg some (by kernel_rfl))
 f320:=Tryz.func254.trans (congrArg some (by kernel_rfl))
 f337:=Tryz.func265.trans (congrArg some (by kernel_rfl))
 f338:=Tryz.func266.trans (congrArg some (by kernel_rfl))
 t0:=Tryz.underlying0
 a0:=Tryz.isAgg0
 z0:=Tryz.sizeOf0
 v0:=Tryz.zeroValue0
 t2:=Tryz.underlying2
 a2:=Tryz.isAgg2
 z2:=Tryz.sizeOf2
 v2:=Tryz.zeroValue2
 t3:=Tryz.underlying3
 a3:=Tryz.isAgg3
 z3:=Tryz.sizeOf3
 v3:=Tryz.zeroValue3
 t4:=Tryz.underlying4
 a4:=Tryz.isAgg4
 z4:=Tryz.sizeOf4
 v4:=Tryz.zeroValue4
 t5:=Tryz.underlying5
 a5:=Tryz.isAgg5
 z5:=Tryz.sizeOf5
 v5:=Tryz.zeroValue5
 t9:=Tryz.underlying9
 a9:=Tryz.isAgg9
 z9:=Tryz.sizeOf9
 v9:=Tryz.zeroValue9
 t20:=Tryz.underlying20
 a20:=Tryz.isAgg20
 z20:=Tryz.sizeOf20
 v20:=Tryz.zeroValue20
 t37:=Tryz.underlying53
 a37:=Tryz.isAgg53
 z37:=Tryz.sizeOf53
 v37:=Tryz.zeroValue53
 t46:=Tryz.underlying183
 a46:=Tryz.isAgg183
 z46:=Tryz.sizeOf183
 v46:=Tryz.zeroValue183
 t51:=Tryz.underlying97
 a51:=Tryz.isAgg97
 z51:=Tryz.sizeOf97
 v51:=Tryz.zeroValue97
 t53:=Tryz.underlying181
 a53:=Tryz.isAgg181
 z53:=Tryz.sizeOf181
 v53:=Tryz.zeroValue181
 t171:=Tryz.underlying294
 a171:=Tryz.isAgg294
 z171:=Tryz.sizeOf294
 v171:=Tryz.zeroValue294
 t173:=Tryz.underlying296
 a173:=Tryz.isAgg296
 z173:=Tryz.sizeOf296
 v173:=Tryz.zeroValue296
 t212:=Tryz.underlying306
 a212:=Tryz.isAgg306
 z212:=Tryz.sizeOf306
 v212:=Tryz.zeroValue306
 t213:=Tryz.underlying307
 a213:=Tryz.isAgg307
 z213:=Tryz.sizeOf307
 t232:=Tryz.underlying315
 a232:=Tryz.isAgg315
 z232:=Tryz.sizeOf315
 v232:=Tryz.zeroValue315
 t233:=Tryz.underlying316
 a233:=Tryz.isAgg316
 z233:=Tryz.sizeOf316
 v233:=Tryz.zeroValue316
 g17:=by kernel_rfl
 g18:=by kernel_rfl
 g19:=by kernel_rfl }
def cutRen:Go.Shelf.Ren:=⟨fun | 145=>56 | 220=>103 | 219=>147 | 217=>206 | 225=>207 | 224=>208 | 267=>209 | 266=>240 | 314=>241 | n=>n,fun | 9=>9 | 4=>4 | 59=>124 | 3=>3 | 5=>5 | 46=>183 | 146=>298 | 51=>97 | n=>n,fun | 1=>0 | n=>n⟩
theorem cutLays:Go.Proofs.Lays.n145 Tryz.prog cutRen:={
 mixed:=by kernel_rfl
 f145:=Tryz.func56.trans (congrArg some (by kernel_rfl))
 f217:=Tryz.func206.trans (congrArg some (by kernel_rfl))
 f219:=Tryz.func147.trans (congrArg some (by kernel_rfl))
 f220:=Tryz.func103.trans (congrArg some (by kernel_rfl))
 f224:=Tryz.func208.trans (congrArg some (by kernel_rfl))
 f225:=Tryz.func207.trans (congrArg some (by kernel_rfl))
 f266:=Tryz.func240.trans (congrArg some (by kernel_rfl))
 f267:=Tryz.func209.trans (congrArg some (by kernel_rfl))
 f314:=Tryz.func241.trans (congrArg some (by kernel_rfl))
 t3:=Tryz.underlying3
 a3:=Tryz.isAgg3
 z3:=Tryz.sizeOf3
 v3:=Tryz.zeroValue3
 t4:=Tryz.underlying4
 a4:=Tryz.isAgg4
 z4:=Tryz.sizeOf4
 v4:=Tryz.zeroValue4
 t5:=Tryz.underlying5
 a5:=Tryz.isAgg5
 z5:=Tryz.sizeOf5
 v5:=Tryz.zeroValue5
 t9:=Tryz.underlying9
 a9:=Tryz.isAgg9
 z9:=Tryz.sizeOf9
 v9:=Tryz.zeroValue9
 t46:=Tryz.underlying183
 a46:=Tryz.isAgg183
 z46:=Tryz.sizeOf183
 v46:=Tryz.zeroValue183
 t51:=Tryz.underlying97
 a51:=Tryz.isAgg97
 z51:=Tryz.sizeOf97
 v51:=Tryz.zeroValue97
 t59:=Tryz.underlying124
 a59:=Tryz.isAgg124
 z59:=Tryz.sizeOf124
 v59:=Tryz.zeroValue124
 t146:=Tryz.underlying298
 a146:=Tryz.isAgg298
 z146:=Tryz.sizeOf298
 v146:=Tryz.zeroValue298
 g1:=by kernel_rfl }
theorem itoa_any(i:Nat) (hi:i<100) (w:World):Calls Tryz.prog 95 #[.int .i64 (i:Int)] w fun e w'=>e=.returned (.string ⟨(Lib.decDigits i).toArray⟩)∧w'=w:=Any.strconv_Itoa_small itoaLays i hi w
end Go.Proofs.YtcfkllnpkmebpaaGreatDoor

namespace Go.Proofs.YtcfkllnpkmebpaaGreatDoor
open Go.RowKit
set_option linter.unusedVariables false
set_option linter.unusedSimpArgs false
def cutV(s sep:ByteArray):Value:=.tuple #[.string ⟨(Lib.cut s.data.toList sep.data.toList).1.toArray⟩,.string ⟨(Lib.cut s.data.toList sep.data.toList).2.1.toArray⟩,.bool (Lib.cut s.data.toList sep.data.toList).2.2]
theorem slcut_any(s:ByteArray) (c:UInt8) (w:World) (hs:s.size≤1048576) :
  Calls Tryz.prog 103 #[.string s,.string ⟨#[c]⟩] w fun e w'=>e=.returned (cutV s ⟨#[c]⟩)∧∃n,w'=w.drewN n:=by
 have HI:=zh (fun w=>Any.stringslite_Index_one (ρ:=cutRen) { cutLays with } s c w)
 have hio:Lib.indexB s ⟨#[c]⟩=Lib.indexByte s.data.toList c:=Lib.index_one s.data.toList c
 obtain⟨sep,hsep⟩:∃sep:ByteArray,sep=⟨#[c]⟩:=⟨_,rfl⟩
 rw[←hsep] at HI hio ⊢
 have hsz:sep.size=1:=by rw[hsep];rfl
 clear hsep
 unfold cutV
 rcases Lib.indexB_cases s sep with hix | ⟨i,hix,hroom⟩
 ·obtain⟨e1,e2,e3⟩:=Lib.cutB_miss s sep hix
  rw[e1,e2,e3]
  rw[hix] at hio
  rw[←hio] at HI
  clear e1 e2 e3 hix hio
  go_enter Tryz.func103,Tryz.ntmps103
  go_wp2_with (go_at_call 147;refine(HI.out _).mono ?_;rintro e w' ⟨rfl,rfl⟩)
  go_ret3
  exact⟨rfl,0,rfl⟩
 ·obtain⟨e1,e2,e3⟩:=Lib.cutB_hit s sep i hix
  rw[e1,e2,e3]
  rw[hix] at hio
  rw[←hio] at HI
  rw[hsz] at hroom ⊢
  have c1:(0:Int)≤↑i:=by omega
  have c2:(↑i:Int)≤↑s.size:=by omega
  have c3:(0:Int)≤↑i+1:=by omega
  have c4:(↑i+1:Int)≤↑s.size:=by omega
  have c5:(s.size:Int)≤1048576:=by omega
  clear e1 e2 e3 hix hio
  go_enter Tryz.func103,Tryz.ntmps103
  go_wp2_with (go_at_call 147;refine(HI.out _).mono ?_;rintro e w' ⟨rfl,rfl⟩)
  have mixed:=cutLays.mixed
  go_region_o
  go_wp2
  go_ret3
  exact⟨rfl,1,rfl⟩
theorem cut_any(s:ByteArray) (c:UInt8) (w:World) (hs:s.size≤1048576) :
  Calls Tryz.prog 56 #[.string s,.string ⟨#[c]⟩] w fun e w'=>e=.returned (cutV s ⟨#[c]⟩)∧∃n,w'=w.drewN n:=by
 have HC:=zh (fun w=>slcut_any s c w hs)
 unfold cutV at HC ⊢
 obtain⟨x1,h1⟩:=zx ((⟨(Lib.cut s.data.toList (⟨#[c]⟩:ByteArray).data.toList).1.toArray⟩:ByteArray))
 obtain⟨x2,h2⟩:=zx ((⟨(Lib.cut s.data.toList (⟨#[c]⟩:ByteArray).data.toList).2.1.toArray⟩:ByteArray))
 obtain⟨x3,h3⟩:=zx ((Lib.cut s.data.toList (⟨#[c]⟩:ByteArray).data.toList).2.2)
 rw[←h1,←h2,←h3] at HC ⊢
 obtain⟨sep,hsep⟩:∃sep:ByteArray,sep=⟨#[c]⟩:=⟨_,rfl⟩
 rw[←hsep] at HC ⊢
 clear h1 h2 h3 hsep
 go_enter Tryz.func56,Tryz.ntmps56
 go_wp2_with (go_at_call 103;refine(HC.out _).mono ?_;rintro e w' ⟨rfl,n,rfl⟩)
 go_ret3
 exact⟨rfl,n,rfl⟩
end Go.Proofs.YtcfkllnpkmebpaaGreatDoor

namespace Go.Proofs.YtcfkllnpkmebpaaGreatDoor
open Go.RowKit
set_option linter.unusedVariables false
set_option linter.unusedSimpArgs false
def hdlB(lost:Bool) (nm:ByteArray) (s need:Nat):ByteArray :=
 ((((if lost then(⟨#[108,111,115,116,32]⟩:ByteArray) else⟨#[97,119,97,121,32]⟩)++nm)++(⟨#[32]⟩:ByteArray)++(⟨(Lib.decDigits s).toArray⟩:ByteArray))++(⟨#[32,110,101,101,100,115,32]⟩:ByteArray))++(⟨(Lib.decDigits need).toArray⟩:ByteArray)
theorem dec_all:((List.range 100).all fun s=>decide ((Lib.decDigits s).length≤2))=true:=by decide +kernel
theorem dec_short(s:Nat) (h:s<100):(⟨(Lib.decDigits s).toArray⟩:ByteArray).size≤2:=by
 have:=List.all_eq_true.1 dec_all s (by simpa using h)
 rw[decide_eq_true_eq] at this
 show(Lib.decDigits s).toArray.size≤2
 simpa using this
theorem head_any(lost:Bool) (ext:Int) (vl vm vd vv vp vc:Value) (ob oof NO co v s need:Nat) (nm:ByteArray) (w:World) (hv:v<NO) (hno:NO≤1000) (hs:s<100) (hn:need<100) (hnm:nm.size≤1000) (hc:w.cell? ⟨ob,oof+v * 2,none⟩=some (.string nm)) :
  Calls Tryz.prog 43 #[.agg #[.int .i64 ext,vl,vm,vd,vv,vp,.slice (some ⟨ob,oof,none⟩) NO co],.agg #[.int .i64 (v:Int),.int .i64 (s:Int),.bool lost,.int .i64 (need:Int),vc]] w fun e w'=>e=.returned (.string (hdlB lost nm s need))∧Below w.heap.size w w':=by
 have hob:ob<w.heap.size:=World.block_lt_of_cell? w _ hc
 have HI1:=zh (fun w=>itoa_any s hs w)
 have HI2:=zh (fun w=>itoa_any need hn w)
 obtain⟨D1,hD1⟩:∃b:ByteArray,b=⟨(Lib.decDigits s).toArray⟩:=⟨_,rfl⟩
 obtain⟨D2,hD2⟩:∃b:ByteArray,b=⟨(Lib.decDigits need).toArray⟩:=⟨_,rfl⟩
 have l1:D1.size≤2:=by rw[hD1];exact dec_short s hs
 have l2:D2.size≤2:=by rw[hD2];exact dec_short need hn
 have f1:¬9223372036854775807<5+nm.size:=by omega
 have f2:¬9223372036854775807<5+nm.size+1:=by omega
 have f3:¬9223372036854775807<5+nm.size+1+D1.size:=by omega
 have f4:¬9223372036854775807<5+nm.size+1+D1.size+7:=by omega
 have f5:¬9223372036854775807<5+nm.size+1+D1.size+7+D2.size:=by omega
 unfold hdlB
 rw[←hD1] at HI1 ⊢
 rw[←hD2] at HI2 ⊢
 obtain⟨W0,hW0⟩:=zx ((w.alloc (.cells #[.int .i64 ext,vl,vm,vd,vv,vp,.slice (some ⟨ob,oof,none⟩) NO co] 35)).alloc (.cells #[.int .i64 (v:Int),.int .i64 (s:Int),.bool lost,.int .i64 (need:Int),vc] 27))
 obtain⟨z,hz⟩:=zx w.heap.size
 obtain⟨y,hy⟩:=zx (w.heap.size+1)
 have hb0:Below w.heap.size w W0:=by rw[hW0];exact((Below.refl _ _).alloc (Nat.le_refl _) _).alloc (by simp) _
 have hyk:W0.heap[y]?=some (.cells #[.int .i64 (v:Int),.int .i64 (s:Int),.bool lost,.int .i64 (need:Int),vc] 27 (0,0)):=by
  rw[hW0];exact heap_alloc_at _ _ _ (by rw[hy];simp)
 have hzk:W0.heap[z]?=some (.cells #[.int .i64 ext,vl,vm,vd,vv,vp,.slice (some ⟨ob,oof,none⟩) NO co] 35 (0,0)):=by
  rw[hW0,hz];exact(Below.heap_alloc _ _ _ (by simp)).trans (heap_alloc_new w _)
 have x0:W0.cell? ⟨y,0,none⟩=some (.int .i64 (v:Int)):=by rw[cell_of_row _ _ _ _ _ _ hyk];rfl
 have x1:W0.cell? ⟨y,1,none⟩=some (.int .i64 (s:Int)):=by rw[cell_of_row _ _ _ _ _ _ hyk];rfl
 have x2:W0.cell? ⟨y,2,none⟩=some (.bool lost):=by rw[cell_of_row _ _ _ _ _ _ hyk];rfl
 have x3:W0.cell? ⟨y,3,none⟩=some (.int .i64 (need:Int)):=by rw[cell_of_row _ _ _ _ _ _ hyk];rfl
 have z6:W0.cell? ⟨z,6,none⟩=some (.slice (some ⟨ob,oof,none⟩) NO co):=by rw[cell_of_row _ _ _ _ _ _ hzk];rfl
 have n0:W0.cell? ⟨ob,oof+v * 2,none⟩=some (.string nm):=(hb0.cell (p:=⟨ob,oof+v * 2,none⟩) hob).trans hc
 have HS:=zh (show W0.drew.cell? ⟨z,6,none⟩=some (.slice (some ⟨ob,oof,none⟩) NO co)∧W0.drew.cell? ⟨y,0,none⟩=some (.int .i64 (v:Int))∧W0.drew.cell? ⟨ob,oof+v * 2,none⟩=some (.string nm)∧W0.drew.cell? ⟨y,1,none⟩=some (.int .i64 (s:Int))∧W0.drew.cell? ⟨y,3,none⟩=some (.int .i64 (need:Int)) from⟨z6,x0,n0,x1,x3⟩)
 have HW0:=zh hW0
 have HZ:=zh hz
 have HY:=zh hy
 have HB0:=zh hb0
 have i1:(v:Int)<(NO:Int):=by omega
 clear hob hc x0 x1 x3 z6 n0 hD1 hD2 hW0 hz hy hb0 hyk hzk
 go_enter Tryz.func43,Tryz.ntmps43
 go_upto_region 2 with fail
 rw[←HW0.out,←HY.out,←HZ.out]
 cases lost with
 | false =>
  go_upto_region 4 with fail
  refine region_tail (S:=(fun w'=>w'.cell? ⟨z,6,none⟩=some (.slice (some ⟨ob,oof,none⟩) NO co)∧w'.cell? ⟨y,0,none⟩=some (.int .i64 (v:Int))∧w'.cell? ⟨ob,oof+v * 2,none⟩=some (.string nm)∧w'.cell? ⟨y,1,none⟩=some (.int .i64 (s:Int))∧w'.cell? ⟨y,3,none⟩=some (.int .i64 (need:Int)))) [] (by kernel_rfl) HS.out (fun hHeld=>?_)
  refine tk 0 8 ?_
  refine tk 1 9 ?_
  refine tk 2 10 ?_
  refine tk 3 11 ?_
  refine tk 4 12 ?_
  refine tk 5 13 ?_
  refine tk 6 14 ?_
  refine tk 7 15 ?_
  refine tk 8 16 ?_
  refine tk 9 17 ?_
  refine tk 10 18 ?_
  refine tk 11 19 ?_
  refine tk 15 23 ?_
  refine tk 16 24 ?_
  refine readyT (rs:=[12]) (by kernel_rfl) (by simp) ?_
  refine AllReadyT.cons rfl (fun K hK=>?_) ?_
  ·go_simp
   refine(HI1.out _).mono ?_
   rintro e w' ⟨rfl,rfl⟩
   refine hK.out _ _ ?_ (fun hHeld=>?_)
   ·assumption
   clear hK K
   (try simp only[Act.put,z1,z2,z3])
   refine tk 13 21 ?_
   refine tk 14 22 ?_
   refine readyT (rs:=[17]) (by kernel_rfl) (by simp) ?_
   refine AllReadyT.cons rfl (fun K hK=>?_) ?_
   ·go_simp
    refine(HI2.out _).mono ?_
    rintro e w' ⟨rfl,rfl⟩
    refine hK.out _ _ ?_ (fun hHeld=>?_)
    ·assumption
    clear hK K
    (try simp only[Act.put,z1,z2,z3])
    refine tk 18 26 ?_
    refine tk 19 4 ?_
    refine doneT (by kernel_rfl) ?_ _
    go_wp2_with fail
    go_ret
    exact⟨rfl,HB0.out.drew⟩
   exact AllReadyT.nil
  exact AllReadyT.nil
 | true =>
  go_upto_region 4 with fail
  refine region_tail (S:=(fun w'=>w'.cell? ⟨z,6,none⟩=some (.slice (some ⟨ob,oof,none⟩) NO co)∧w'.cell? ⟨y,0,none⟩=some (.int .i64 (v:Int))∧w'.cell? ⟨ob,oof+v * 2,none⟩=some (.string nm)∧w'.cell? ⟨y,1,none⟩=some (.int .i64 (s:Int))∧w'.cell? ⟨y,3,none⟩=some (.int .i64 (need:Int)))) [] (by kernel_rfl) HS.out (fun hHeld=>?_)
  refine tk 0 8 ?_
  refine tk 1 9 ?_
  refine tk 2 10 ?_
  refine tk 3 11 ?_
  refine tk 4 12 ?_
  refine tk 5 13 ?_
  refine tk 6 14 ?_
  refine tk 7 15 ?_
  refine tk 8 16 ?_
  refine tk 9 17 ?_
  refine tk 10 18 ?_
  refine tk 11 19 ?_
  refine tk 15 23 ?_
  refine tk 16 24 ?_
  refine readyT (rs:=[12]) (by kernel_rfl) (by simp) ?_
  refine AllReadyT.cons rfl (fun K hK=>?_) ?_
  ·go_simp
   refine(HI1.out _).mono ?_
   rintro e w' ⟨rfl,rfl⟩
   refine hK.out _ _ ?_ (fun hHeld=>?_)
   ·assumption
   clear hK K
   (try simp only[Act.put,z1,z2,z3])
   refine tk 13 21 ?_
   refine tk 14 22 ?_
   refine readyT (rs:=[17]) (by kernel_rfl) (by simp) ?_
   refine AllReadyT.cons rfl (fun K hK=>?_) ?_
   ·go_simp
    refine(HI2.out _).mono ?_
    rintro e w' ⟨rfl,rfl⟩
    refine hK.out _ _ ?_ (fun hHeld=>?_)
    ·assumption
    clear hK K
    (try simp only[Act.put,z1,z2,z3])
    refine tk 18 26 ?_
    refine tk 19 4 ?_
    refine doneT (by kernel_rfl) ?_ _
    go_wp2_with fail
    go_ret
    exact⟨rfl,HB0.out.drew⟩
   exact AllReadyT.nil
  exact AllReadyT.nil
end Go.Proofs.YtcfkllnpkmebpaaGreatDoor

namespace Go.Proofs.YtcfkllnpkmebpaaGreatDoor
open Go.RowKit
set_option linter.unusedVariables false
set_option linter.unusedSimpArgs false
def nmOf(F:FltM) (v:Nat):ByteArray:=match F.vols[v]? with | some x=>x.name | none=>⟨#[]⟩
theorem vol_name{N:Nat} {F:FltM} {w:World} {R:Nat→Prop} {vl vm vd vv vp:Value} {ob oof co:Nat} (hf:FleetS w R vl vm vd vv vp (.slice (some ⟨ob,oof,none⟩) F.vols.length co) F) (hok:FleetOk N F) {v:Nat} (hv:v<F.vols.length) :
  w.cell? ⟨ob,oof+v * 2,none⟩=some (.string (nmOf F v))∧(nmOf F v).size=3:=by
 have e:nmOf F v=F.vols[v].name:=by unfold nmOf;rw[List.getElem?_eq_getElem hv]
 obtain⟨b,off,cs,e2,-,-,hc,hcs⟩:=hf.2.2.2.2.2.at_ (k:=v) hv
 injection e2 with e2
 injection e2 with e3 e4
 subst e3 e4
 unfold VolK at hcs
 subst hcs
 have h0:=hc 0 _ rfl
 rw[e]
 refine⟨h0,?_⟩
 obtain⟨-,h1,-⟩:=hok.vols v F.vols[v] (List.getElem?_eq_getElem hv)
 rw[h1];rfl
theorem parseHead_no(N:Nat) (hN:N≤12) (vl vm vd vv vp vo:Value) (F:FltM) (EX:Nat) (t:ByteArray) (w:World) (hf:FleetS w (Bl w.heap.size) vl vm vd vv vp vo F) (hok:FleetOk N F) (hEX:F.ext=(EX:Int))
  (hno:∀v s K:Nat,v<F.vols.length→s<EX→kOf F v=(K:Int)→∀b,hdlB b (nmOf F v) s K≠t) :
  Calls Tryz.prog 57 #[.agg #[.int .i64 F.ext,vl,vm,vd,vv,vp,vo],.string t] w fun e w'=>e=.returned (.tuple #[.agg #[.int .i64 0,.int .i64 0,.bool false,.int .i64 0,.slice none 0 0],.bool false])∧Below w.heap.size w w':=by
 obtain⟨pb,pof,ob,oof,cp,co,rfl,rfl,hRp,hRo,hPA⟩:=polAt hf hok
 have hex:EX≤2:=by have:=hok.ext;omega
 have hno2:=hok.volN
 have hnp:=hok.polN
 have hfa:∀a,a<F.vols.length→∃(p0 K:Nat),p0<F.pols.length∧kOf F a=(K:Int)∧K≤2∧∀w',Below w.heap.size w w'→w'.cell? ⟨ob,oof+a * 2,none⟩=some (.string (nmOf F a))∧w'.cell? ⟨ob,oof+a * 2+1,none⟩=some (.int .i64 (p0:Int))∧w'.cell? ⟨pb,pof+p0 * 17+1,none⟩=some (.int .i64 (K:Int)):=fun a ha=>by
  obtain⟨hp1,nm,hv1,a0,a4,a5,a6,a7,a8,a9,a10,a11,a12,a13,a14,a15,a16,hpol,-⟩:=hPA a ha
  obtain⟨kk,-,-,-,-⟩:=kmq_ok hok ha
  obtain⟨K,hK⟩:∃K:Nat,kOf F a=(K:Int):=⟨(kOf F a).toNat,by omega⟩
  refine⟨volP F a,K,hp1,hK,by omega,fun w' hb=>⟨?_,?_,?_⟩⟩
  ·exact(hb.cell (p:=⟨ob,oof+a * 2,none⟩) hRo).trans (vol_name hf hok ha).1
  ·exact(hb.cell (p:=⟨ob,oof+a * 2+1,none⟩) hRo).trans (hv1 1 _ rfl)
  ·rw[hK] at hpol
   exact(hb.cell (p:=⟨pb,pof+volP F a * 17+1,none⟩) hRp).trans (hpol 1 _ rfl)
 have hnm:∀a,a<F.vols.length→(nmOf F a).size=3:=fun a ha=>(vol_name hf hok ha).2
 rw[hEX]
 obtain⟨NO,hNO⟩:=zx F.vols.length
 obtain⟨NP,hNP⟩:=zx F.pols.length
 rw[←hNO] at hno2 hno hfa hnm ⊢
 rw[←hNP] at hnp hfa ⊢
 have HNM:=zh hnm
 have HFA:=zh hfa
 have HNO:=zh hno
 obtain⟨W0,hW0⟩:=zx ((w.alloc (.cells #[.int .i64 (EX:Int),vl,vm,vd,vv,.slice (some ⟨pb,pof,none⟩) NP cp,.slice (some ⟨ob,oof,none⟩) NO co] 35)).alloc (.cells #[.int .i64 0,.int .i64 0,.bool false,.int .i64 0,.slice none 0 0] 27))
 obtain⟨z,hz⟩:=zx w.heap.size
 obtain⟨gR,hgR⟩:=zx (w.heap.size+1)
 have hb0:Below w.heap.size w W0:=by rw[hW0];exact((Below.refl _ _).alloc (Nat.le_refl _) _).alloc (by simp) _
 have hrk:W0.heap[gR]?=some (.cells #[.int .i64 0,.int .i64 0,.bool false,.int .i64 0,.slice none 0 0] 27 (0,0)):=by
  rw[hW0];exact heap_alloc_at _ _ _ (by rw[hgR];simp)
 have hzk:W0.heap[z]?=some (.cells #[.int .i64 (EX:Int),vl,vm,vd,vv,.slice (some ⟨pb,pof,none⟩) NP cp,.slice (some ⟨ob,oof,none⟩) NO co] 35 (0,0)):=by
  rw[hW0,hz];exact(Below.heap_alloc _ _ _ (by simp)).trans (heap_alloc_new w _)
 have hzl:z<W0.heap.size:=(Array.getElem?_eq_some_iff.1 hzk).1
 have hrl:gR<W0.heap.size:=(Array.getElem?_eq_some_iff.1 hrk).1
 have HC:=zh (fun(w':World) (hb:Below W0.heap.size W0 w')=>cells7 ((hb.block z hzl).trans hzk))
 have HRK:=zh (fun(w':World) (hb:Below W0.heap.size W0 w')=>(hb.block gR hrl).trans hrk)
 have HW0:=zh hW0
 have HZ:=zh hz
 have HGR:=zh hgR
 have HB0:=zh hb0
 clear hf hok hPA hRp hRo hW0 hz hgR hb0 hrk hzk hzl hrl hNO hNP hEX hno hfa hnm
 go_enter Tryz.func57,Tryz.ntmps57
 go_upto_region 1 with fail
 rw[←HW0.out,←HGR.out,←HZ.out]
 obtain⟨c0,c1,c2,c3,c4,c5,c6⟩:=HC.out W0 (Below.refl _ _)
 go_wp2_with fail
 clear c0 c1 c2 c3 c4 c5 c6
 go_loopg [15] NO (fun z v15 wr=>∃a:Nat,v15=.int .i64 (a:Int)∧a≤NO∧z=NO - a∧Hid (Below W0.heap.size W0 wr))
 case atStart=>exact⟨0,rfl,Nat.zero_le _,rfl,zh (Below.refl _ _)⟩
 case round =>
  obtain⟨a,rfl,ha,rfl,HB⟩:=hrel
  by_cases hlt:a<NO
  ·have HLT:=zh hlt
   obtain⟨p0,K,hp0,hK,hK2,hcell⟩:=HFA.out a hlt
   have HKF:=zh hK
   have HCE:=zh hcell
   have HNMA:=zh (HNM.out a hlt)
   obtain⟨nm,hnm⟩:=zx (nmOf F a)
   rw[←hnm] at HCE HNMA
   have HNN:=zh hnm
   have hbw:=HB0.out.trans (HB.out.mono HB0.out.size)
   obtain⟨n0,n1,-⟩:=HCE.out wr hbw
   obtain⟨c0,c1,c2,c3,c4,c5,c6⟩:=HC.out wr HB.out
   obtain⟨W1,hW1⟩:=zx (wr.alloc (.cells #[.string nm,.int .i64 (p0:Int)] 87))
   obtain⟨gv,hgv⟩:=zx wr.heap.size
   have hb1:Below wr.heap.size wr W1:=by rw[hW1];exact(Below.refl _ _).alloc (Nat.le_refl _) _
   have hgk:W1.heap[gv]?=some (.cells #[.string nm,.int .i64 (p0:Int)] 87 (0,0)):=by rw[hW1,hgv];exact heap_alloc_new wr _
   have hgl:gv<W1.heap.size:=(Array.getElem?_eq_some_iff.1 hgk).1
   have HB1:=zh (HB.out.trans (hb1.mono HB.out.size))
   have HGV:=zh (fun(w':World) (hb:Below W1.heap.size W1 w')=>(show w'.cell? ⟨gv,1,none⟩=some (.int .i64 (p0:Int)) from by rw[cell_of_row _ _ _ _ _ _ ((hb.block gv hgl).trans hgk)];rfl))
   have HW1:=zh hW1
   have HGVE:=zh hgv
   have i1:(a:Int)<(NO:Int):=by omega
   have i2:(p0:Int)<(NP:Int):=by omega
   clear hK hcell hnm hbw hW1 hgv hb1 hgk hgl
   go_upto_region 4 with fail
   rw[←HW1.out,←HGVE.out]
   clear n0 n1 c0 c1 c2 c3 c4 c5 c6
   obtain⟨c0,c1,c2,c3,c4,c5,c6⟩:=HC.out W1 HB1.out
   go_wp2_with fail
   clear c0 c1 c2 c3 c4 c5 c6
   go_loopg [22] EX (fun z v22 wr=>∃st:Nat,v22=.int .i64 (st:Int)∧st≤EX∧z=EX - st∧Hid (Below W1.heap.size W1 wr))
   case atStart=>exact⟨0,rfl,Nat.zero_le _,rfl,zh (Below.refl _ _)⟩
   case round =>
    clear HB
    obtain⟨st,rfl,hst,rfl,HB⟩:=hrel
    by_cases hls:st<EX
    ·have HLS:=zh hls
     obtain⟨W2,hW2⟩:=zx (wr.alloc (.cells #[.bool false,.bool true] 4))
     obtain⟨gb,hgb⟩:=zx wr.heap.size
     have hb2:Below wr.heap.size wr W2:=by rw[hW2];exact(Below.refl _ _).alloc (Nat.le_refl _) _
     have hgk:W2.heap[gb]?=some (.cells #[.bool false,.bool true] 4 (0,0)):=by rw[hW2,hgb];exact heap_alloc_new wr _
     have hgl:gb<W2.heap.size:=(Array.getElem?_eq_some_iff.1 hgk).1
     have HB2:=zh (HB.out.trans (hb2.mono HB.out.size))
     have HGB:=zh (fun(w':World) (hb:Below W2.heap.size W2 w') (c:Nat) (hc:c<2)=>(show w'.cell? ⟨gb,c,none⟩=some (.bool (decide (c=1))) from by
      rw[cell_of_row _ _ _ _ _ _ ((hb.block gb hgl).trans hgk)]
      have:c=0∨c=1:=by omega
      rcases this with rfl | rfl <;> rfl))
     have HW2:=zh hW2
     have HGBE:=zh hgb
     clear hW2 hgb hb2 hgk hgl
     go_wp2_with fail
     rw[←HW2.out,←HGBE.out]
     go_loopg [27] 2 (fun z v27 wr=>∃c:Nat,v27=.int .i64 (c:Int)∧c≤2∧z=2 - c∧Hid (Below W2.heap.size W2 wr))
     case atStart=>exact⟨0,rfl,Nat.zero_le _,rfl,zh (Below.refl _ _)⟩
     case round =>
      clear HB
      obtain⟨c,rfl,hc,rfl,HB⟩:=hrel
      by_cases hlc:c<2
      ·have HLC:=zh hlc
       have hb1w:=HB2.out.trans (HB.out.mono HB2.out.size)
       have hb0w:=HB1.out.trans (hb1w.mono HB1.out.size)
       have hbw:=HB0.out.trans (hb0w.mono HB0.out.size)
       have g0:=HGB.out wr HB.out c hlc
       have v1:=HGV.out wr hb1w
       obtain⟨-,-,k1⟩:=HCE.out wr hbw
       obtain⟨c0,c1,c2,c3,c4,c5,c6⟩:=HC.out wr hb0w
       obtain⟨lb,hlb⟩:=zx (decide (c=1))
       rw[←hlb] at g0
       obtain⟨W3,hW3⟩:=zx (wr.alloc (.cells #[.int .i64 (a:Int),.int .i64 (st:Int),.bool lb,.int .i64 (K:Int),.slice none 0 0] 27))
       obtain⟨gi,hgi⟩:=zx wr.heap.size
       have hb3:Below wr.heap.size wr W3:=by rw[hW3];exact(Below.refl _ _).alloc (Nat.le_refl _) _
       have hgk3:W3.heap[gi]?=some (.cells #[.int .i64 (a:Int),.int .i64 (st:Int),.bool lb,.int .i64 (K:Int),.slice none 0 0] 27 (0,0)):=by rw[hW3,hgi];exact heap_alloc_new wr _
       have hb03:=hb0w.trans (hb3.mono hb0w.size)
       have hbw3:=HB0.out.trans (hb03.mono HB0.out.size)
       have hhd:=head_any lb (EX:Int) vl vm vd vv (.slice (some ⟨pb,pof,none⟩) NP cp) (.slice none 0 0) ob oof NO co a st K nm W3 (by omega) (by omega) (by omega) (by omega) (by have:=HNMA.out;omega) (HCE.out W3 hbw3).1
       obtain⟨hb,hhb⟩:=zx (hdlB lb nm st K)
       rw[←hhb] at hhd
       have hne:(hb.toList==t.toList)=false:=seq_no (by rw[hhb,HNN.out];exact HNO.out a st K HLT.out HLS.out HKF.out lb)
       have HHD:=zh hhd
       have HB3:=zh (HB.out.trans (hb3.mono HB.out.size))
       have HW3:=zh hW3
       have HGI:=zh hgi
       have HX3:=zh (show(W3.cell? ⟨gi,0,none⟩=some (.int .i64 (a:Int))∧W3.cell? ⟨gi,1,none⟩=some (.int .i64 (st:Int))∧W3.cell? ⟨gi,2,none⟩=some (.bool lb)∧W3.cell? ⟨gi,3,none⟩=some (.int .i64 (K:Int))∧W3.cell? ⟨gi,4,none⟩=some (.slice none 0 0))∧_ from⟨⟨by rw[cell_of_row _ _ _ _ _ _ hgk3];rfl,by rw[cell_of_row _ _ _ _ _ _ hgk3];rfl,by rw[cell_of_row _ _ _ _ _ _ hgk3];rfl,by rw[cell_of_row _ _ _ _ _ _ hgk3];rfl,by rw[cell_of_row _ _ _ _ _ _ hgk3];rfl⟩,HC.out W3 hb03⟩)
       clear hb1w hb0w hbw hlb hW3 hgi hb3 hgk3 hb03 hbw3 hhd hhb
       have hci:(c:Int)<2:=by omega
       go_upto_region 11 with fail
       rw[←HW3.out,←HGI.out]
       clear g0 v1 k1 c0 c1 c2 c3 c4 c5 c6
       obtain⟨⟨x0,x1,x2,x3,x4⟩,c0,c1,c2,c3,c4,c5,c6⟩:=HX3.out
       go_wp2_with (go_at_call 43;refine HHD.out.mono ?_;rintro e w5 ⟨rfl,hb5⟩;have HB5:=zh hb5;clear hb5)
       go_roundg (2 - (c+1))
       case measure=>have:=HLC.out;omega
       case rel=>exact⟨c+1,by go_num,by have:=HLC.out;omega,rfl,zh (HB3.out.trans (HB5.out.mono HB3.out.size))⟩
      ·obtain rfl:c=2:=by omega
       go_wp2_with fail
       go_roundg (EX - (st+1))
       case measure=>have:=HLS.out;omega
       case rel=>exact⟨st+1,by go_num,by have:=HLS.out;omega,rfl,zh (HB2.out.trans (HB.out.mono HB2.out.size))⟩
    ·obtain rfl:st=EX:=by omega
     go_wp2_with fail
     go_roundg (NO - (a+1))
     case measure=>have:=HLT.out;omega
     case rel=>exact⟨a+1,by go_num,by have:=HLT.out;omega,rfl,zh (HB1.out.trans (HB.out.mono HB1.out.size))⟩
  ·obtain rfl:a=NO:=by omega
   have HZO:=zh (HRK.out wr HB.out)
   have zf:=fun i=>frozen_of_row wr gR i _ _ (HRK.out wr HB.out)
   have z0:wr.cell? ⟨gR,0,none⟩=some (.int .i64 0):=by rw[cell_of_row _ _ _ _ _ _ HZO.out];rfl
   have z1:wr.cell? ⟨gR,1,none⟩=some (.int .i64 0):=by rw[cell_of_row _ _ _ _ _ _ HZO.out];rfl
   have z2:wr.cell? ⟨gR,2,none⟩=some (.bool false):=by rw[cell_of_row _ _ _ _ _ _ HZO.out];rfl
   have z3:wr.cell? ⟨gR,3,none⟩=some (.int .i64 0):=by rw[cell_of_row _ _ _ _ _ _ HZO.out];rfl
   have z4:wr.cell? ⟨gR,4,none⟩=some (.slice none 0 0):=by rw[cell_of_row _ _ _ _ _ _ HZO.out];rfl
   have f0:=zf 0
   have f1:=zf 1
   have f2:=zf 2
   have f3:=zf 3
   have f4:=zf 4
   clear zf
   go_wp2_with fail
   obtain⟨WZ,hWZ⟩:=zx ((((((wr.setCell ⟨gR,0,none⟩ (.int .i64 0)).setCell ⟨gR,1,none⟩ (.int .i64 0)).setCell ⟨gR,2,none⟩ (.bool false)).setCell ⟨gR,3,none⟩ (.int .i64 0)).setCell ⟨gR,4,none⟩ (.slice none 0 0)):World)
   have hz:WZ.heap[gR]?=some (.cells #[.int .i64 0,.int .i64 0,.bool false,.int .i64 0,.slice none 0 0] 27 (0,0)):=by
    rw[hWZ]
    exact heap_setCell_same _ gR 4 _ _ _ (heap_setCell_same _ gR 3 _ _ _ (heap_setCell_same _ gR 2 _ _ _ (heap_setCell_same _ gR 1 _ _ _ (heap_setCell_same _ gR 0 _ _ _ HZO.out))))
   rw[←hWZ]
   have hg:w.heap.size≤gR:=by have:=HGR.out;omega
   have hbz:Below w.heap.size w WZ:=by
    rw[hWZ]
    exact(((((HB0.out.trans (HB.out.mono HB0.out.size)).setCell hg _).setCell hg _).setCell hg _).setCell hg _).setCell hg _
   have n0:WZ.cell? ⟨gR,0,none⟩=some (.int .i64 0):=by rw[cell_of_row _ _ _ _ _ _ hz];rfl
   have n1:WZ.cell? ⟨gR,1,none⟩=some (.int .i64 0):=by rw[cell_of_row _ _ _ _ _ _ hz];rfl
   have n2:WZ.cell? ⟨gR,2,none⟩=some (.bool false):=by rw[cell_of_row _ _ _ _ _ _ hz];rfl
   have n3:WZ.cell? ⟨gR,3,none⟩=some (.int .i64 0):=by rw[cell_of_row _ _ _ _ _ _ hz];rfl
   have n4:WZ.cell? ⟨gR,4,none⟩=some (.slice none 0 0):=by rw[cell_of_row _ _ _ _ _ _ hz];rfl
   refine bodyPost_ret (v:=.tuple #[.agg #[.int .i64 0,.int .i64 0,.bool false,.int .i64 0,.slice none 0 0],.bool false]) ?_ rfl ⟨rfl,hbz⟩
   simp[results,Tryz.results57,go_sem,n0,n1,n2,n3,n4]
end Go.Proofs.YtcfkllnpkmebpaaGreatDoor

namespace Go.Proofs.YtcfkllnpkmebpaaGreatDoor
open Go.RowKit
set_option linter.unusedVariables false
set_option linter.unusedSimpArgs false
theorem ivalid_nil(N:Nat) (hN:N≤12) (vl vm vd vv vp vo:Value) (F:FltM) (w:World) (hf:FleetS w (Bl w.heap.size) vl vm vd vv vp vo F) (hok:FleetOk N F) :
  Calls Tryz.prog 16 #[.agg #[.int .i64 F.ext,vl,vm,vd,vv,vp,vo],.slice none 0 0] w fun e w'=>e=.returned (.bool true)∧Below w.heap.size w w':=by
 obtain⟨W0,hW0⟩:=zx (w.alloc (.cells #[.int .i64 F.ext,vl,vm,vd,vv,vp,vo] 35))
 obtain⟨z,hz⟩:=zx w.heap.size
 have hb0:Below w.heap.size w W0:=by rw[hW0];exact(Below.refl _ _).alloc (Nat.le_refl _) _
 have hzk:W0.heap[z]?=some (.cells #[.int .i64 F.ext,vl,vm,vd,vv,vp,vo] 35 (0,0)):=by rw[hW0,hz];exact heap_alloc_new w _
 obtain⟨c0,c1,c2,c3,c4,c5,c6⟩:=cells7 hzk
 have HV:=zh (fvalidate_any N hN vl vm vd vv vp vo F W0 (hf.below hb0) hok)
 obtain⟨EX,hEX⟩:=zx F.ext
 rw[←hEX] at HV hW0 c0 ⊢
 have HW0:=zh hW0
 have HZ:=zh hz
 have HB0:=zh hb0
 clear hf hok hW0 hz hb0 hzk hEX
 go_enter Tryz.func16,Tryz.ntmps16
 go_upto_region 1 with fail
 rw[←HW0.out,←HZ.out]
 go_wp2_with fail
 refine HV.out.mono ?_
 rintro e w1 ⟨rfl,hb1⟩
 have HB1:=zh (HB0.out.trans (hb1.mono HB0.out.size))
 clear c0 c1 c2 c3 c4 c5 c6 hb1
 go_wp2_with fail
 go_loopg [15] 0 (fun z v15 wr=>v15=.int .i64 0∧w1=wr)
 case atStart=>exact⟨rfl,rfl⟩
 case round =>
  obtain⟨rfl,rfl⟩:=hrel
  go_wp2_with fail
  go_ret
  exact⟨rfl,HB1.out⟩
theorem ivalid_empty(v:Value) (w:World) :
  Calls Tryz.prog 16 #[.agg #[.int .i64 0,.slice none 0 0,.slice none 0 0,.slice none 0 0,.slice none 0 0,.slice none 0 0,.slice none 0 0],v] w fun e w'=>e=.returned (.bool false)∧Below w.heap.size w w':=by
 obtain⟨W0,hW0⟩:=zx (w.alloc (.cells #[.int .i64 0,.slice none 0 0,.slice none 0 0,.slice none 0 0,.slice none 0 0,.slice none 0 0,.slice none 0 0] 35))
 obtain⟨z,hz⟩:=zx w.heap.size
 have hb0:Below w.heap.size w W0:=by rw[hW0];exact(Below.refl _ _).alloc (Nat.le_refl _) _
 have hzk:W0.heap[z]?=some (.cells #[.int .i64 0,.slice none 0 0,.slice none 0 0,.slice none 0 0,.slice none 0 0,.slice none 0 0,.slice none 0 0] 35 (0,0)):=by rw[hW0,hz];exact heap_alloc_new w _
 obtain⟨c0,c1,c2,c3,c4,c5,c6⟩:=cells7 hzk
 have HV:=zh (fvalidate_empty W0)
 have HW0:=zh hW0
 have HZ:=zh hz
 have HB0:=zh hb0
 clear hW0 hz hb0 hzk
 go_enter Tryz.func16,Tryz.ntmps16
 go_upto_region 1 with fail
 rw[←HW0.out,←HZ.out]
 go_wp2_with fail
 refine HV.out.mono ?_
 rintro e w1 ⟨rfl,hb1⟩
 have HB1:=zh (HB0.out.trans (hb1.mono HB0.out.size))
 clear c0 c1 c2 c3 c4 c5 c6 hb1
 go_wp2_with fail
 go_ret
 exact⟨rfl,HB1.out⟩
theorem iformat_empty(v:Value) (w:World) :
  Calls Tryz.prog 14 #[.agg #[.int .i64 0,.slice none 0 0,.slice none 0 0,.slice none 0 0,.slice none 0 0,.slice none 0 0,.slice none 0 0],v] w fun e w'=>e=.returned (.tuple #[.string ⟨#[]⟩,.int .i64 1])∧Below w.heap.size w w':=by
 obtain⟨W0,hW0⟩:=zx (w.alloc (.cells #[.int .i64 0,.slice none 0 0,.slice none 0 0,.slice none 0 0,.slice none 0 0,.slice none 0 0,.slice none 0 0] 35))
 obtain⟨z,hz⟩:=zx w.heap.size
 have hb0:Below w.heap.size w W0:=by rw[hW0];exact(Below.refl _ _).alloc (Nat.le_refl _) _
 have hzk:W0.heap[z]?=some (.cells #[.int .i64 0,.slice none 0 0,.slice none 0 0,.slice none 0 0,.slice none 0 0,.slice none 0 0,.slice none 0 0] 35 (0,0)):=by rw[hW0,hz];exact heap_alloc_new w _
 obtain⟨c0,c1,c2,c3,c4,c5,c6⟩:=cells7 hzk
 have HV:=zh (ivalid_empty v W0)
 have HW0:=zh hW0
 have HZ:=zh hz
 have HB0:=zh hb0
 clear hW0 hz hb0 hzk
 go_enter Tryz.func14,Tryz.ntmps14
 go_upto_region 1 with fail
 rw[←HW0.out,←HZ.out]
 go_wp2_with fail
 refine HV.out.mono ?_
 rintro e w1 ⟨rfl,hb1⟩
 have HB1:=zh (HB0.out.trans (hb1.mono HB0.out.size))
 clear c0 c1 c2 c3 c4 c5 c6 hb1
 go_wp2_with fail
 go_ret2
 exact⟨rfl,HB1.out⟩
theorem iformat_nil(N:Nat) (hN:N≤12) (vl vm vd vv vp vo:Value) (F:FltM) (w:World) (hf:FleetS w (Bl w.heap.size) vl vm vd vv vp vo F) (hok:FleetOk N F) :
  Calls Tryz.prog 14 #[.agg #[.int .i64 F.ext,vl,vm,vd,vv,vp,vo],.slice none 0 0] w fun e w'=>e=.returned (.tuple #[.string ⟨#[]⟩,.int .i64 0])∧Below w.heap.size w w':=by
 obtain⟨W0,hW0⟩:=zx (w.alloc (.cells #[.int .i64 F.ext,vl,vm,vd,vv,vp,vo] 35))
 obtain⟨z,hz⟩:=zx w.heap.size
 have hb0:Below w.heap.size w W0:=by rw[hW0];exact(Below.refl _ _).alloc (Nat.le_refl _) _
 have hzk:W0.heap[z]?=some (.cells #[.int .i64 F.ext,vl,vm,vd,vv,vp,vo] 35 (0,0)):=by rw[hW0,hz];exact heap_alloc_new w _
 obtain⟨c0,c1,c2,c3,c4,c5,c6⟩:=cells7 hzk
 have HV:=zh (ivalid_nil N hN vl vm vd vv vp vo F W0 (hf.below hb0) hok)
 obtain⟨EX,hEX⟩:=zx F.ext
 rw[←hEX] at HV hW0 c0 ⊢
 have HW0:=zh hW0
 have HZ:=zh hz
 have HB0:=zh hb0
 clear hf hok hW0 hz hb0 hzk hEX
 go_enter Tryz.func14,Tryz.ntmps14
 go_upto_region 1 with fail
 rw[←HW0.out,←HZ.out]
 go_wp2_with fail
 refine HV.out.mono ?_
 rintro e w1 ⟨rfl,hb1⟩
 have HB1:=zh (HB0.out.trans (hb1.mono HB0.out.size))
 clear c0 c1 c2 c3 c4 c5 c6 hb1
 obtain⟨W7,hW7⟩:=zx (w1.alloc (.cells #[.pointer none,.slice none 0 0] 108))
 obtain⟨gb,hgb⟩:=zx w1.heap.size
 have hb7:Below w1.heap.size w1 W7:=by rw[hW7];exact(Below.refl _ _).alloc (Nat.le_refl _) _
 have hgk:W7.heap[gb]?=some (.cells #[.pointer none,.slice none 0 0] 108 (0,0)):=by rw[hW7,hgb];exact heap_alloc_new _ _
 have hbl:Lib.IsBuilder 108 5 gb gb (Lib.byteCells []) W7:=.inl ⟨Nat.le_refl _,_,hgk,World.ownsRow_nil _ _ _ _,by intro e;cases e⟩
 have HST:=zh (bstring_any gb gb [] W7 hbl (Nat.le_of_lt (Array.getElem?_eq_some_iff.1 hgk).1))
 have HGB:=zh hgb
 have HW7:=zh hW7
 have HB7:=zh hb7
 clear hW7 hgb hb7 hgk hbl
 go_upto_region 4 with fail
 rw[←HW7.out,←HGB.out]
 go_wp2_with fail
 go_loopg [17] 0 (fun z v17 wr=>v17=.int .i64 0∧W7=wr)
 case atStart=>exact⟨rfl,rfl⟩
 case round =>
  obtain⟨rfl,rfl⟩:=hrel
  go_wp2_with fail
  refine HST.out.mono ?_
  rintro e w8 ⟨rfl,hb8⟩
  have HB8:=zh (show Below w1.heap.size w1 w8 from by have h:=HB7.out;exact h.trans (by rw[←HGB.out];exact hb8))
  clear hb8
  go_wp2_with fail
  go_ret2
  exact⟨rfl,HB1.out.trans (HB8.out.mono HB1.out.size)⟩
def lostB:ByteArray:=⟨#[108,111,115,116,10]⟩
theorem lost_cut:cutV lostB ⟨#[10]⟩=.tuple #[.string ⟨#[108,111,115,116]⟩,.string ⟨#[]⟩,.bool true]:=by kernel_rfl
theorem hdl_long(b:Bool) (nm:ByteArray) (s K:Nat):hdlB b nm s K≠⟨#[108,111,115,116]⟩:=fun e=>by
 have h:=congrArg ByteArray.size e
 unfold hdlB at h
 have h4:(⟨#[108,111,115,116]⟩:ByteArray).size=4:=rfl
 have h5:∀b:Bool,(if b then(⟨#[108,111,115,116,32]⟩:ByteArray) else⟨#[97,119,97,121,32]⟩).size=5:=fun b=>by cases b <;> rfl
 rw[h4,ByteArray.size_append,ByteArray.size_append,ByteArray.size_append,ByteArray.size_append,ByteArray.size_append,h5] at h
 omega
theorem iparse_lost(N:Nat) (hN:N≤12) (vl vm vd vv vp vo:Value) (F:FltM) (w:World) (hf:FleetS w (Bl w.heap.size) vl vm vd vv vp vo F) (hok:FleetOk N F) :
  Calls Tryz.prog 19 #[.agg #[.int .i64 F.ext,vl,vm,vd,vv,vp,vo],.string lostB] w fun e w'=>e=.returned (.tuple #[.slice none 0 0,.int .i64 104,.int .i64 1])∧Below w.heap.size w w':=by
 obtain⟨W0,hW0⟩:=zx (w.alloc (.cells #[.int .i64 F.ext,vl,vm,vd,vv,vp,vo] 35))
 obtain⟨z,hz⟩:=zx w.heap.size
 have hb0:Below w.heap.size w W0:=by rw[hW0];exact(Below.refl _ _).alloc (Nat.le_refl _) _
 have hzk:W0.heap[z]?=some (.cells #[.int .i64 F.ext,vl,vm,vd,vv,vp,vo] 35 (0,0)):=by rw[hW0,hz];exact heap_alloc_new w _
 have hzl:z<W0.heap.size:=(Array.getElem?_eq_some_iff.1 hzk).1
 have HC:=zh (fun(w':World) (hb:Below W0.heap.size W0 w')=>cells7 ((hb.block z hzl).trans hzk))
 have HV:=zh (fvalidate_any N hN vl vm vd vv vp vo F W0 (hf.below hb0) hok)
 obtain⟨EXN,hEXN⟩:∃e:Nat,F.ext=(e:Int):=⟨F.ext.toNat,by have:=hok.ext;omega⟩
 have HP:=zh (fun(w':World) (hb:Below W0.heap.size W0 w')=>parseHead_no N hN vl vm vd vv vp vo F EXN ⟨#[108,111,115,116]⟩ w' (hf.below (hb0.trans (hb.mono hb0.size))) hok hEXN (fun v s K _ _ _ b=>hdl_long b _ s K))
 have HCU:=zh (fun(w':World)=>(show Calls Tryz.prog 56 #[.string lostB,.string ⟨#[10]⟩] w' (fun e w2=>e=.returned (.tuple #[.string ⟨#[108,111,115,116]⟩,.string ⟨#[]⟩,.bool true])∧∃n,w2=w'.drewN n) from by
  have h:=cut_any lostB 10 w' (by decide)
  rw[lost_cut] at h
  exact h))
 obtain⟨EX,hEX⟩:=zx F.ext
 rw[←hEX] at HV hW0 HC HP ⊢
 obtain⟨S,hS⟩:=zx lostB
 rw[←hS] at HCU ⊢
 have hs0:S.toList.isEmpty=false:=by rw[hS];decide +kernel
 obtain⟨L4,hL4⟩:∃q:ByteArray,q=⟨#[108,111,115,116]⟩:=⟨_,rfl⟩
 rw[←hL4] at HCU HP
 have HW0:=zh hW0
 have HZ:=zh hz
 have HB0:=zh hb0
 obtain⟨c0,c1,c2,c3,c4,c5,c6⟩:=HC.out W0 (Below.refl _ _)
 clear hf hok hW0 hz hb0 hzk hzl hEX hEXN hS hL4
 go_enter Tryz.func19,Tryz.ntmps19
 go_upto_region 1 with fail
 rw[←HW0.out,←HZ.out]
 go_wp2_with fail
 refine HV.out.mono ?_
 rintro e w1 ⟨rfl,hb1⟩
 have HB1:=zh hb1
 clear c0 c1 c2 c3 c4 c5 c6 hb1
 obtain⟨W2,hW2⟩:=zx (w1.alloc (.cells #[.int .i64 0,.int .i64 0,.int .i64 0,.bool false] 118))
 obtain⟨gt,hgt⟩:=zx w1.heap.size
 have hb2:Below w1.heap.size w1 W2:=by rw[hW2];exact(Below.refl _ _).alloc (Nat.le_refl _) _
 have t2:W2.cell? ⟨gt,2,none⟩=some (.int .i64 0):=by rw[hW2,hgt];simp
 have HB2:=zh (HB1.out.trans (hb2.mono HB1.out.size))
 have HW2:=zh hW2
 have HGT:=zh hgt
 have HT2:=zh (fun(n:Nat)=>(show(W2.drewN n).cell? ⟨gt,2,none⟩=some (.int .i64 0) from by rw[←t2];exact World.cell?_of_block (w:=W2) (w':=W2.drewN n) ((Below.drewN' (Below.refl W2.heap.size W2) n).block gt (World.block_lt_of_cell? W2 _ t2))))
 clear hW2 hgt hb2 t2
 go_upto_region 5 with fail
 rw[←HW2.out,←HGT.out]
 go_wp2_with fail
 go_loopg [1,7,9] 0 (fun z v1 v7 v9 wr=>v1=.string S∧v7=.slice none 0 0∧v9=.int .i64 1∧W2=wr)
 case atStart=>exact⟨rfl,rfl,rfl,rfl⟩
 case round =>
  obtain⟨rfl,rfl,rfl,rfl⟩:=hrel
  go_wp2_with fail
  refine(HCU.out _).mono ?_
  rintro e w3 ⟨rfl,n,rfl⟩
  have t2:=HT2.out n
  have HB3:=zh (Below.drewN' HB2.out n)
  obtain⟨W3,hW3⟩:=zx (W2.drewN n)
  rw[←hW3] at t2 HB3 ⊢
  clear hW3
  obtain⟨c0,c1,c2,c3,c4,c5,c6⟩:=HC.out W3 HB3.out
  go_wp2_with fail
  refine(HP.out _ HB3.out).mono ?_
  rintro e w4 ⟨rfl,hb4⟩
  have HB4:=zh (HB3.out.trans (hb4.mono HB3.out.size))
  clear c0 c1 c2 c3 c4 c5 c6 t2 hb4
  go_upto_region 14 with fail
  go_quiet (fail)
  go_wp2_with fail
  go_ret3
  have hbw:=HB0.out.trans (HB4.out.mono HB0.out.size)
  exact⟨rfl,by first | exact Below.drewN' (hbw.alloc hbw.size _) _ | exact(hbw.alloc hbw.size _).drew | exact hbw.alloc hbw.size _⟩
end Go.Proofs.YtcfkllnpkmebpaaGreatDoor

namespace Go.Proofs.YtcfkllnpkmebpaaGreatDoor
open Go.RowKit
set_option linter.unusedVariables false
set_option linter.unusedSimpArgs false
theorem awake44_any(w:World):Calls Tryz.prog 10 #[] w fun e w'=>e=.returned (.bool true)∧Below w.heap.size w w':=by
 obtain⟨W1,hW1⟩:=zx (w.alloc (.cells #[.slice none 0 0,.int .i64 0] 75))
 obtain⟨gT,hgT⟩:=zx w.heap.size
 have hT1:TapeB W1 gT (.slice none 0 0) 0:=by rw[hW1,hgT];exact heap_alloc_new w _
 have hb1:Below w.heap.size w W1:=by rw[hW1];exact(Below.refl _ _).alloc (Nat.le_refl _) _
 have HFL:=zh (fleet_any gT (.slice none 0 0) [] 0 1 W1 (fun _=>False) hT1 ⟨Row.nil _ _ _,fun x hx=>by cases hx⟩ (fun b h=>h.elim) (by omega) (by omega) (by omega))
 have HW1:=zh hW1
 have HGT:=zh hgT
 have HB1:=zh hb1
 clear hW1 hgT hT1 hb1
 go_enter Tryz.func10,Tryz.ntmps10
 go_wp2_with fail
 rw[←HW1.out,←HGT.out]
 refine HFL.out.mono ?_
 rintro e w2 ⟨vl,vm,vd,vv,vp,vo,F,I0,rfl,hfs,hT2,hI0,hg,hok⟩
 obtain⟨Al,nl,cl,hvl⟩:=hfs.1.form3
 obtain⟨Am,nm,cm,hvm⟩:=hfs.2.1.form3
 obtain⟨Ad,nd,cd,hvd⟩:=hfs.2.2.1.form3
 obtain⟨Av,nv,cv,hvv⟩:=hfs.2.2.2.1.form3
 obtain⟨Ap,np,cp,hvp⟩:=hfs.2.2.2.2.1.form3
 obtain⟨Ao,no,co,hvo⟩:=hfs.2.2.2.2.2.form3
 subst hvl hvm hvd hvv hvp hvo
 have hb2:Below w.heap.size w w2:=HB1.out.grown hg HB1.out.size (fun b e=>by injection e with e;have:=HGT.out;omega)
 have hf2:FleetS w2 (Bl w2.heap.size) (.slice Al nl cl) (.slice Am nm cm) (.slice Ad nd cd) (.slice Av nv cv) (.slice Ap np cp) (.slice Ao no co) F:=hfs.mono (fun b h=>h.2)
 obtain⟨W3,hW3⟩:=zx (w2.alloc (.cells #[.int .i64 F.ext,.slice Al nl cl,.slice Am nm cm,.slice Ad nd cd,.slice Av nv cv,.slice Ap np cp,.slice Ao no co] 35))
 obtain⟨gF,hgF⟩:=zx w2.heap.size
 have hb3:Below w2.heap.size w2 W3:=by rw[hW3];exact(Below.refl _ _).alloc (Nat.le_refl _) _
 have hgk:W3.heap[gF]?=some (.cells #[.int .i64 F.ext,.slice Al nl cl,.slice Am nm cm,.slice Ad nd cd,.slice Av nv cv,.slice Ap np cp,.slice Ao no co] 35 (0,0)):=by rw[hW3,hgF];exact heap_alloc_new _ _
 have hgl:gF<W3.heap.size:=(Array.getElem?_eq_some_iff.1 hgk).1
 have HC:=zh (fun(w':World) (hb:Below W3.heap.size W3 w')=>cells7 ((hb.block gF hgl).trans hgk))
 have HF:=zh (fun(w':World) (hb:Below W3.heap.size W3 w')=>iformat_nil 1 (by omega) _ _ _ _ _ _ F w' ((hf2.below hb3).below hb) hok)
 have HP:=zh (fun(w':World) (hb:Below W3.heap.size W3 w')=>iparse_lost 1 (by omega) _ _ _ _ _ _ F w' ((hf2.below hb3).below hb) hok)
 unfold lostB at HP
 have HE:=zh (fun(w':World)=>iformat_empty (.slice none 0 0) w')
 have HB3:=zh (hb2.trans (hb3.mono hb2.size))
 obtain⟨EX,hEX⟩:=zx F.ext
 rw[←hEX] at HC HF HP hW3 ⊢
 have HW3:=zh hW3
 have HGF:=zh hgF
 clear hfs hT2 hI0 hg hok hb2 hf2 hW3 hgF hb3 hgk hgl hEX HFL
 go_upto_region 2 with fail
 rw[←HW3.out,←HGF.out]
 obtain⟨c0,c1,c2,c3,c4,c5,c6⟩:=HC.out W3 (Below.refl _ _)
 go_wp2_with fail
 refine(HF.out _ (Below.refl _ _)).mono ?_
 rintro e w4 ⟨rfl,hb4⟩
 have HB4:=zh hb4
 clear c0 c1 c2 c3 c4 c5 c6 hb4
 go_wp2_with fail
 refine(HE.out _).mono ?_
 rintro e w5 ⟨rfl,hb5⟩
 have HB5:=zh (HB4.out.trans (hb5.mono HB4.out.size))
 clear hb5
 obtain⟨c0,c1,c2,c3,c4,c5,c6⟩:=HC.out w5 HB5.out
 go_wp2_with fail
 refine(HP.out _ HB5.out).mono ?_
 rintro e w6 ⟨rfl,hb6⟩
 have HB6:=zh (HB5.out.trans (hb6.mono HB5.out.size))
 clear c0 c1 c2 c3 c4 c5 c6 hb6
 go_wp2_with fail
 go_ret
 exact⟨rfl,HB3.out.trans (HB6.out.mono HB3.out.size)⟩
end Go.Proofs.YtcfkllnpkmebpaaGreatDoor

namespace Go.Proofs.YtcfkllnpkmebpaaGreatDoor
open Go.RowKit
open Go.ChangeMaps Go.MapKept Go.WideShapes
open Go.WideElems (Fit rd rg pl rd_key rd_val rg_of)
open Go.Maps (Keyed)
set_option linter.unusedVariables false
set_option linter.unusedSimpArgs false
structure KeyT {κ:Type} (kt:TypeId) (kval:κ→Value) (ok:κ→Prop):Prop where
 law:Keyed Tryz.prog kt
 lit:∀k,ok k→∃l,keyOf Tryz.prog kt (kval k)=some l
 inv:∀v l,keyOf Tryz.prog kt v=some l→∃k,v=kval k∧ok k
 inj:∀k k',kval k=kval k'→k=k'
section
variable {κ : Type} {kval : κ → Value} {ok : κ → Prop}
def MapG(w:World) (kt:TypeId) (kval:κ→Value) (b n:Nat) (f:κ→Option Value):Prop :=
 ∃D,w.ownsMap Tryz.prog kt rawR b n D∧∀k l,keyOf Tryz.prog kt (kval k)=some l→Maps.has D l=(f k).isSome∧∀z,D.atKey l (.held z)=.held ((f k).getD z)
def updG [DecidableEq κ] (f:κ→Option Value) (k:κ) (v:Value):κ→Option Value:=fun c=>if c=k then some v else f c
theorem updG_same [DecidableEq κ] (f:κ→Option Value) (k:κ) (v:Value):updG f k v k=some v:=if_pos rfl
theorem updG_other [DecidableEq κ] {f:κ→Option Value} {k c:κ} {v:Value} (h:c≠k):updG f k v c=f c:=if_neg h
theorem MapG.made(w:World) (kt:TypeId):MapG (w.alloc (.map #[] 0)) kt kval w.heap.size 0 (fun _=>none) :=
 ⟨_,World.ownsMap_made w Tryz.prog kt rawR,fun k l _=>⟨rfl,fun z=>rfl⟩⟩
variable {w w' : World} {kt t e : TypeId} {b n : Nat} {f : κ → Option Value} {x : κ} {z : Value}
theorem MapG.lt(h:MapG w kt kval b n f):b<w.heap.size:=by
 obtain⟨D,h1,-⟩:=h
 exact h1.lt
theorem MapG.same(h:MapG w kt kval b n f) (e:w'.heap[b]?=w.heap[b]?):MapG w' kt kval b n f:=by
 obtain⟨D,⟨es,clock,hb,r⟩,h2⟩:=h
 exact⟨D,⟨es,clock,e.trans hb,r⟩,h2⟩
theorem MapG.below{B:Nat} (h:MapG w kt kval b n f) (hb:Below B w w') (hB:b<B):MapG w' kt kval b n f:=h.same (hb.block b hB)
theorem MapG.look(T:KeyT kt kval ok) (h:MapG w kt kval b n f) (ht:Tryz.prog.underlying t=some (.map kt e)) (hz:(zeroValue e).run Tryz.prog w=.ok z w) (hx:ok x) :
  (Instr.lookup t (.map (some b)) (kval x) false).run Tryz.prog w=.ok ((f x).getD z) w:=by
 obtain⟨D,h1,h2⟩:=h
 obtain⟨l,hl⟩:=T.lit x hx
 obtain⟨v,ps,hrun,hv⟩:=h1.lookup T.law ht hz (zd:=.held z) (zp:=[]) rfl hl
 rw[(h2 x l hl).2 z] at hv
 rw[hrun,held_inj (rawR_inj hv)]
theorem put_updG [DecidableEq κ] {D:DataW Value} {l:Lit} {v:Value} (T:KeyT kt kval ok) (hD:Maps.IsMap D) (h2:∀k l,keyOf Tryz.prog kt (kval k)=some l→Maps.has D l=(f k).isSome∧∀z,D.atKey l (.held z)=.held ((f k).getD z)) (hl:keyOf Tryz.prog kt (kval x)=some l) :
  ∀c l',keyOf Tryz.prog kt (kval c)=some l'→Maps.has (D.put l (.held v)) l'=(updG f x v c).isSome∧∀z,(D.put l (.held v)).atKey l' (.held z)=.held ((updG f x v c).getD z):=by
 intro c l' hl'
 by_cases hk:c=x
 ·subst hk
  rw[hl'] at hl
  injection hl with hl
  subst hl
  rw[updG_same]
  exact⟨Maps.has_put_same hD (T.law.key hl') _,fun z=>Maps.atKey_put_same hD (T.law.key hl') _ _⟩
 ·rw[updG_other hk]
  have hne:l'≠l:=fun e=>hk (T.inj _ _ (T.law.inj hl' (e▸hl)))
  exact⟨by rw[Maps.has_put_other hne];exact(h2 c l' hl').1,fun z=>by rw[Maps.atKey_put_other hne];exact(h2 c l' hl').2 z⟩
theorem MapG.store [DecidableEq κ] (T:KeyT kt kval ok) (h:MapG w kt kval b n f) (ht:Tryz.prog.underlying t=some (.map kt e)) (hn:n<maxLen) (hx:ok x) (v:Value) :
  ∃w',(Instr.mapUpdate t (.map (some b)) (kval x) v).run Tryz.prog w=.ok () w'∧MapG w' kt kval b (n+1) (updG f x v)∧w.grownBy w' (some b):=by
 obtain⟨D,h1,h2⟩:=h
 obtain⟨l,hl⟩:=T.lit x hx
 obtain⟨w',hrun,r1,r2⟩:=h1.update T.law ht hn hl (d:=.held v) (ps:=[]) rfl
 exact⟨w',hrun,⟨_,r1,put_updG T h1.isMap h2 hl⟩,r2⟩
end
section
variable {κ : Type} {kval : κ → Value} {ok : κ → Prop}
variable {w : World} {ops : Array Oper} {rest : List Oper} {o : Oper} {a : Act} {Q : Exit → Act → World → Prop}
theorem kg_look(hg:o.guard=none) (m xo:Operand) (t kt e:TypeId) (hop:o.op=Op.lookup t m xo false) (T:KeyT kt kval ok) (ht:Tryz.prog.underlying t=some (.map kt e)) (b n:Nat) (f:κ→Option Value) (x:κ) (z:Value)
  (hm:a.eval m=.map (some b)) (hxo:a.eval xo=kval x) (h:MapG w kt kval b n f) (hz:(zeroValue e).run Tryz.prog w=.ok z w) (hx:ok x) (u:Value) (hu:(f x).getD z=u)
  (hK:wpList Tryz.prog ops Q rest (a.put o.dst u) w):wpList Tryz.prog ops Q (o :: rest) a w:=by
 refine wpList_plain hg fun K' hK'=>?_
 have hrun:=h.look T ht hz hx
 rw[hu] at hrun
 unfold Oper.wp
 simp[execOp,hop,hm,hxo,hrun,Result.andThen]
 exact hK' _ _ hK
end
def kint(x:Int):Value:=.int .i64 x
theorem int_key{kt:TypeId} (hk:Tryz.prog.underlying kt=some (.int .i64)):KeyT kt kint I64 where
 law:=Go.Maps.int_keyed hk
 lit x hx:=⟨_,Go.Maps.keyOf_int_mk hk ((i64_wf x).2 hx)⟩
 inv v l h:=by
  simp[keyOf,hk] at h
  cases v <;> simp[mapKey,hk] at h
  obtain⟨⟨rfl,hw⟩,-⟩:=h
  exact⟨_,rfl,(i64_wf _).1 hw⟩
 inj a c h:=by unfold kint at h;simpa using h
end Go.Proofs.YtcfkllnpkmebpaaGreatDoor

namespace Go.Proofs.YtcfkllnpkmebpaaGreatDoor
open Go.RowKit
set_option linter.unusedVariables false
set_option linter.unusedSimpArgs false
def popc(s:Nat):Nat:=((List.range 8).filter fun i=>s.testBit i).length
theorem popc_all:((List.range 256).all fun s=>s==0||(popc (s &&& (s - 1))+1==popc s))=true:=by decide +kernel
theorem popc_step{s:Nat} (h:s<256) (h0:s≠0):popc (s &&& (s - 1))+1=popc s:=by
 have:=List.all_eq_true.1 popc_all s (by simpa using h)
 rw[Bool.or_eq_true,beq_iff_eq,beq_iff_eq] at this
 exact this.resolve_left h0
theorem popc_zero:popc 0=0:=by decide +kernel
theorem popc_le(s:Nat):popc s≤8:=by
 unfold popc
 exact Nat.le_trans (List.length_filter_le _ _) (by simp)
def chs(hv:Nat→Nat) (m k:Nat):Nat→Nat→Nat→Option (List Nat)
 | 0,_,s=>if k≤popc s then some [] else none
 | n+1,fr,s=>(List.range' fr (m - fr)).findSome? fun d=>if hv d=0 then none else(chs hv m k n (d+1) (s ||| hv d)).map (d :: ·)
theorem chs_zero(hv:Nat→Nat) (m k fr s:Nat):chs hv m k 0 fr s=if k≤popc s then some [] else none:=rfl
theorem chs_end{hv:Nat→Nat} {m k n fr s:Nat} (h:m≤fr):chs hv m k (n+1) fr s=none:=by
 unfold chs
 rw[show m - fr=0 by omega]
 rfl
theorem chs_skip{hv:Nat→Nat} {m k n fr s:Nat} (h:fr<m) (h0:hv fr=0):chs hv m k (n+1) fr s=chs hv m k (n+1) (fr+1) s:=by
 show List.findSome? _ _=List.findSome? _ _
 rw[show m - fr=(m - (fr+1))+1 by omega,List.range'_succ,List.findSome?_cons,if_pos h0]
theorem chs_none{hv:Nat→Nat} {m k n fr s:Nat} (h:fr<m) (h0:hv fr≠0) (h1:chs hv m k n (fr+1) (s ||| hv fr)=none):chs hv m k (n+1) fr s=chs hv m k (n+1) (fr+1) s:=by
 show List.findSome? _ _=List.findSome? _ _
 rw[show m - fr=(m - (fr+1))+1 by omega,List.range'_succ,List.findSome?_cons,if_neg h0,h1]
 rfl
theorem chs_some{hv:Nat→Nat} {m k n fr s:Nat} {l:List Nat} (h:fr<m) (h0:hv fr≠0) (h1:chs hv m k n (fr+1) (s ||| hv fr)=some l):chs hv m k (n+1) fr s=some (fr :: l):=by
 show List.findSome? _ _=_
 rw[show m - fr=(m - (fr+1))+1 by omega,List.range'_succ,List.findSome?_cons,if_neg h0,h1]
 rfl
def pick2{β:Type} (p:Nat→Nat→Option β):List Nat→Option β
 | []=>none
 | a :: l=>(l.findSome? (p a)).or (pick2 p l)
theorem chs_one(hv:Nat→Nat) (m k:Nat) (s:Nat):∀c fr,m - fr=c→chs hv m k 1 fr s=((List.range' fr (m - fr)).filter (fun d=>decide (hv d≠0))).findSome? fun d=>if k≤popc (s ||| hv d) then some [d] else none:=by
 intro c
 induction c with
 | zero=>intro fr h;rw[chs_end (by omega),h];rfl
 | succ c ih =>
  intro fr h
  rw[show m - fr=(m - (fr+1))+1 by omega,List.range'_succ,List.filter_cons]
  by_cases h0:hv fr=0
  ·rw[chs_skip (by omega) h0,ih (fr+1) (by omega),if_neg (by simpa using h0)]
  ·rw[if_pos (by simpa using h0),List.findSome?_cons]
   by_cases hk:k≤popc (s ||| hv fr)
   ·rw[chs_some (by omega) h0 (by rw[chs_zero,if_pos hk]),if_pos hk]
   ·rw[chs_none (by omega) h0 (by rw[chs_zero,if_neg hk]),if_neg hk,ih (fr+1) (by omega)]
theorem chs_two(hv:Nat→Nat) (m k:Nat) (s:Nat):∀c fr,m - fr=c→chs hv m k 2 fr s=pick2 (fun a b=>if k≤popc (s ||| hv a ||| hv b) then some [a,b] else none) ((List.range' fr (m - fr)).filter (fun d=>decide (hv d≠0))):=by
 intro c
 induction c with
 | zero=>intro fr h;rw[chs_end (by omega),h];rfl
 | succ c ih =>
  intro fr h
  rw[show m - fr=(m - (fr+1))+1 by omega,List.range'_succ,List.filter_cons]
  by_cases h0:hv fr=0
  ·rw[chs_skip (by omega) h0,ih (fr+1) (by omega),if_neg (by simpa using h0)]
  ·rw[if_pos (by simpa using h0)]
   show _=Option.or _ _
   have h1:=chs_one hv m k (s ||| hv fr) _ (fr+1) rfl
   have hmap:∀l:List Nat,l.findSome? (fun b=>if k≤popc (s ||| hv fr ||| hv b) then some [fr,b] else none)=(l.findSome? (fun d=>if k≤popc (s ||| hv fr ||| hv d) then some [d] else none)).map (fr :: ·):=by
    intro l
    induction l with
    | nil=>rfl
    | cons a l ihl =>
     rw[List.findSome?_cons,List.findSome?_cons]
     by_cases hk:k≤popc (s ||| hv fr ||| hv a)
     ·rw[if_pos hk,if_pos hk];rfl
     ·rw[if_neg hk,if_neg hk];exact ihl
   rw[hmap,←h1]
   cases hc:chs hv m k 1 (fr+1) (s ||| hv fr) with
   | none=>rw[chs_none (by omega) h0 hc,ih (fr+1) (by omega)];rfl
   | some l=>rw[chs_some (by omega) h0 hc];rfl
end Go.Proofs.YtcfkllnpkmebpaaGreatDoor

namespace Go.Proofs.YtcfkllnpkmebpaaGreatDoor
open Go.RowKit
set_option linter.unusedVariables false
set_option linter.unusedSimpArgs false
theorem i64_and_nat(a b:Nat) (ha:a<9223372036854775808) (hb:b<9223372036854775808):bits .and .i64 (a:Int) (b:Int)=((a &&& b:Nat):Int):=by
 have hx:a &&& b<2 ^ 63:=Nat.and_lt_two_pow _ (by omega)
 show IntKind.i64.wrap ((BitVec.ofInt 64 (a:Int) &&& BitVec.ofInt 64 (b:Int)).toNat:Int)=_
 rw[BitVec.toNat_and,ofInt_i64 a ha,ofInt_i64 b hb,IntKind.wrap_i64]
 omega
theorem and_step{s:Nat} (h:s<256) (h0:s≠0):bits .and .i64 (s:Int) ((s:Int) - 1)=((s &&& (s - 1):Nat):Int):=by
 rw[show(s:Int) - 1=((s - 1:Nat):Int) by omega]
 exact i64_and_nat _ _ (by omega) (by omega)
theorem count_any(s:Nat) (w:World) (hs:s<256) :
  Calls Tryz.prog 110 #[.int .i64 (s:Int)] w fun e w'=>e=.returned (.int .i64 (popc s:Int))∧w'=w:=by
 have hp8:=popc_le s
 obtain⟨p,hp⟩:=zx (popc s)
 rw[←hp] at hp8 ⊢
 have HP:=zh hp
 clear hp
 go_enter Tryz.func110,Tryz.ntmps110
 go_wp2
 go_loopg [0,3] p (fun z v0 v3 wr=>∃(t c:Nat),v0=.int .i64 (t:Int)∧v3=.int .i64 (c:Int)∧z+c=p∧t<256∧Hid (z=popc t)∧wr=w)
 case atStart=>exact⟨s,0,rfl,rfl,by omega,hs,zh HP.out,rfl⟩
 case round =>
  obtain⟨t,c,rfl,rfl,hz,ht,HZ,rfl⟩:=hrel
  by_cases h0:t=0
  ·subst h0
   have hgk:=HZ.out
   rw[popc_zero] at hgk
   have hc:c=p:=by omega
   subst hc
   clear hgk hz
   go_wp2
   go_ret
   exact⟨rfl,rfl⟩
  ·have h1:(t:Int)≠0:=by omega
   have hst:=popc_step ht h0
   have han:=and_step ht h0
   have hlt:t &&& (t - 1)<256:=Nat.lt_of_le_of_lt Nat.and_le_left ht
   obtain⟨u,hu⟩:=zx (t &&& (t - 1))
   rw[←hu] at hst han hlt
   have HST:=zh hst
   clear hst hu
   go_wp2
   have hst2:=HST.out
   have hz2:=HZ.out
   go_roundg (gk - 1)
   case measure=>omega
   case rel=>exact⟨u,c+1,rfl,by go_num,by omega,hlt,zh (by omega),rfl⟩
end Go.Proofs.YtcfkllnpkmebpaaGreatDoor
