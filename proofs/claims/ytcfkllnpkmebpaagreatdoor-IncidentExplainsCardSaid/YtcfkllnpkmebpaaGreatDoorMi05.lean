/- The reference's Pieces, walked. -/
import Derived.Test.YtcfkllnpkmebpaaGreatDoorMi04
import Derived.Test.YtcfkllnpkmebpaaGreatDoorMi01
import Derived.DeepKeys4
import Derived.WideKeyEntry
import Derived.Maps.RangeWalk
set_option maxRecDepth 100000
set_option maxHeartbeats 12800000
namespace Go.Proofs.YtcfkllnpkmebpaaGreatDoor
open Go.RowKit
set_option linter.unusedVariables false
set_option linter.unusedSimpArgs false
theorem app_fd2{ops:Array Oper} {rest:List Oper} {o:Oper} {a:Act} {Q:Exit→Act→World→Prop} {w:World} (f:Fd) (v0 v1 v2 v3 v4 v5:Int) (t:ByteArray) (hf:FdC f=[.int .i64 v0,.int .i64 v1,.int .i64 v2,.int .i64 v3,.int .i64 v4,.int .i64 v5,.string t]) (s x:Operand) (hgd:o.guard=none) (ho:o.op=.call { callee:=.builtin .append,args:=#[s,x],argTypes:=#[200,200] })
  (base:Nat) (v:Value) (n:Nat) (xs:List Value) (hs:a.eval s=v) (hown:w.ownsRow base 203 7 v n xs)
  (hx:a.eval x=.slice (some ⟨w.heap.size,0,none⟩) 1 1) (hn:n+1≤16777216) (hbase:base≤w.heap.size)
  (h:∀v' w',w'.ownsRow base 203 7 v' (n+1) (xs++FdC f)→w.grownBy w' v.ownBlock→(v'.ownBlock=v.ownBlock∨v'.ownBlock=some (w.heap.size+1))→wpList Tryz.prog ops Q rest (a.put o.dst v') w') :
  wpList Tryz.prog ops Q (o :: rest) a (w.alloc (.cells #[.int .i64 v0,.int .i64 v1,.int .i64 v2,.int .i64 v3,.int .i64 v4,.int .i64 v5,.string t] 203)):=by
 have h1:=app_fd f s x hgd ho base v n xs hs hown hx hn hbase h
 rw[hf] at h1
 exact h1
theorem pieces_any(vp vo va:Value) (r:Re) (w:World) (h:ReS w (Bl w.heap.size) vp vo va r) (hp:r.plat.length≤1000) (hl:∀l∈r.plat,l.length≤1000) :
  Calls Tryz.prog 111 #[.agg #[vp,vo,va]] w fun e w'=>∃v,e=.returned v∧OwnFd w' w.heap.size 203 v (pieces r)∧Below w.heap.size w w':=by
 obtain⟨Ap,cp,rfl,-,-⟩:=h.1.form
 have HR:=zh h
 have HPL:=zh hl
 have HTO:=zh (piecesTo_length r 1000 hl)
 obtain⟨W0,hW0⟩:=zx (w.alloc (.cells #[.slice Ap r.plat.length cp,vo,va] 40))
 obtain⟨q,hq⟩:=zx w.heap.size
 have c0:W0.cell? ⟨q,0,none⟩=some (.slice Ap r.plat.length cp):=by rw[hW0,hq];simp
 have c2:W0.cell? ⟨q,2,none⟩=some va:=by rw[hW0,hq];simp
 have hb0:Below w.heap.size w W0:=by rw[hW0];exact(Below.refl _ _).alloc (Nat.le_refl _) _
 have hq0:q<W0.heap.size:=by rw[hW0,hq];simp
 have HQ:=zh hq
 have HW0:=zh hW0
 have HB0:=zh hb0
 have HC0:=zh c0
 have HC2:=zh c2
 obtain⟨D,hD⟩:=zx r.plat.length
 rw[←hD] at HW0 HC0 hp ⊢
 have HD:=zh hD
 clear h hl hW0 hq hb0 c0 c2 hD
 go_enter Tryz.func111,Tryz.ntmps111
 go_wp2_with fail
 rw[←HW0.out,←HQ.out]
 go_loopg [3,4] D (fun z v3 v4 wr=>∃d:Nat,d≤D∧z=D - d∧v4=.int .i64 (d:Int)∧OwnFd wr W0.heap.size 203 v3 (piecesTo r d)∧Below W0.heap.size W0 wr)
 case atStart=>exact⟨0,by omega,rfl,rfl,World.ownsRow_nil _ _ _ _,Below.refl _ _⟩
 case round =>
  obtain⟨d,hd,rfl,rfl,hO,hbr⟩:=hrel
  have e0:=(hbr.cell (p:=⟨q,0,none⟩) hq0).trans HC0.out
  by_cases hlt:d<D
  ·have HO:=zh hO
   have hdl:d<r.plat.length:=by rw[←HD.out];exact hlt
   obtain⟨l,hl⟩:=zx (r.plat[d])
   have hgl:r.plat.getD d []=l:=by rw[hl];exact getD_lt _ _ hdl
   have hl1000:l.length≤1000:=by rw[hl];exact HPL.out _ (List.getElem_mem hdl)
   obtain⟨bp,op,csp,hAp,hRp,-,hcp,vd,hvd,hsl⟩:=HR.out.1.at_ hdl
   rw[←hl] at hsl
   have hcd:=hcp 0 vd (by rw[hvd];rfl)
   obtain⟨Ad,cd,rfl,-,-⟩:=hsl.form
   have HSL:=zh hsl
   have HCD:=zh hcd
   have HGL:=zh hgl
   subst hAp
   obtain⟨wo,rfl⟩:=zx (wr:World)
   clear hO hl hgl hcp hvd hsl hcd csp
   go_wp2_with fail
   go_loopg [3,5] l.length (fun z v3 v5 wr=>∃j:Nat,j≤l.length∧z=l.length - j∧v5=.int .i64 (j:Int)∧OwnFd wr W0.heap.size 203 v3 (piecesTo r d++drvP r.acks d (l.take j))∧Below W0.heap.size W0 wr)
   case atStart=>exact⟨0,by omega,rfl,rfl,by simpa[drvP] using HO.out,hbr⟩
   case round =>
    clear hbr e0
    obtain⟨j,hj,rfl,rfl,hO,hbr⟩:=hrel
    have hbw:=HB0.out.trans (hbr.mono HB0.out.size)
    have e0:=(hbr.cell (p:=⟨q,0,none⟩) hq0).trans HC0.out
    have e2:=(hbr.cell (p:=⟨q,2,none⟩) hq0).trans HC2.out
    have ed:wr.cell? ⟨bp,op+d,none⟩=some (.slice Ad l.length cd):=by
     have h1:=(hbw.cell (p:=⟨bp,op+d * 1+0,none⟩) hRp).trans HCD.out
     simpa using h1
    by_cases hlt2:j<l.length
    ·-- W1{
     obtain⟨bs,os,css,hAs,hRs,-,hcs,hse,hsm⟩:=HSL.out.at_ hlt2
     have hes:=hcs 0 (.string l[j]) (by rw[hse];rfl)
     obtain⟨s,hs⟩:=zx (l[j])
     rw[←hs] at hes hsm
     have es:wr.cell? ⟨bs,os+j,none⟩=some (.string s):=by
      have h1:=(hbw.cell (p:=⟨bs,os+j * 1+0,none⟩) hRs).trans hes
      simpa using h1
     subst hAs
     have HDEC:=zh (fun w=>refsdec_any s w hsm)
     have hyes:=fun p hg=>drvP_yes (acks:=r.acks) (d:=d) (l:=l) hlt2 (p:=p) hg
     have hno:=fun hg=>drvP_no (acks:=r.acks) (d:=d) (l:=l) hlt2 hg
     rw[←hs] at hyes hno
     have HY:=zh hyes
     have HN:=zh hno
     obtain⟨E,hE⟩:=zx (decEr s.data.toList)
     obtain⟨P,hP⟩:=zx (decPc s.data.toList)
     rw[←hE,←hP] at HDEC
     have HE:=zh hE
     have HP:=zh hP
     have hlen:(piecesTo r d++drvP r.acks d (l.take j)).length+1≤16777216:=by
      have h1:=HTO.out d
      have h2:=drvP_length r.acks d (l.take j)
      have h3:(l.take j).length≤j:=List.length_take_le _ _
      rw[List.length_append]
      have h4:d * 1000≤1000 * 1000:=Nat.mul_le_mul_right 1000 (by omega)
      omega
     obtain⟨fs,hfs⟩:=zx (piecesTo r d++drvP r.acks d (l.take j))
     rw[←hfs] at hO hlen
     have HFS:=zh hfs
     have hO7:wr.ownsRow W0.heap.size 203 7 _ fs.length (fs.flatMap FdC):=hO
     obtain⟨A3,c3,rfl⟩:=own_form hO7
     have HO2:=zh hO7
     have hsz:=hbr.size
     have hpi:PcI P:=by
      rw[hP]
      unfold decPc
      split
      ·rename_i h0
       have h36:s.data.toList.length=36:=by
        by_cases h:s.data.toList.length=36
        ·exact h
        ·rw[decEr_len h] at h0;cases h0
       exact(decP_in _ h36).1
      ·refine⟨?_,?_,?_,?_,?_,?_⟩ <;> simp[I64]
     have HPI:=zh hpi
     obtain⟨pa,pb,pc,pg,pr,px⟩:=P
     unfold PcV at HDEC
     simp only at HDEC
     obtain⟨x,hx⟩:∃x:ByteArray,x=⟨px.toArray⟩:=⟨_,rfl⟩
     rw[←hx] at HDEC
     have HX:=zh hx
     clear hO7 hcs hes hs hse hsm hyes hno hE hP hfs hO hpi hx css
     go_wp2_with fail
     refine(HDEC.out _).mono ?_
     rintro e w2 ⟨rfl,hb2⟩
     have hbr2:=hbr.trans (hb2.mono hsz)
     have hsz2:=hbr2.size
     have HO3:=zh (own_below HO2.out hb2)
     have k2:=(hb2.cell (p:=⟨q,2,none⟩) (Nat.lt_of_lt_of_le hq0 hsz)).trans e2
     by_cases hE0:E=0
     ·have hE0':=HE.out
      have hE1:((E:Int) != 0)=false:=by simpa using hE0
      have hPd:(⟨pa,pb,pc,pg,pr,px⟩:Pc)=decP s.data.toList:=HP.out.trans (decPc_ok (hE0'.symm.trans hE0))
      obtain⟨W3,hW3⟩:=zx (w2.alloc (.cells #[.int .i64 pa,.int .i64 pb,.int .i64 pc,.int .i64 pg,.int .i64 pr,.string x] 94))
      have hb23:Below w2.heap.size w2 W3:=by rw[hW3];exact(Below.refl _ _).alloc (Nat.le_refl _) _
      have hbr3:=hbr2.trans (hb23.mono hsz2)
      have hbw3:=HB0.out.trans (hbr3.mono HB0.out.size)
      have hgp:goodP r.acks s=if verOf r.acks pa pc=some pr then some ⟨pa,pb,pc,pg,pr,px⟩ else none:=by
       unfold goodP
       rw[←hPd]
       by_cases hv:verOf r.acks pa pc=some pr
       ·rw[if_pos ⟨hE0'.symm.trans hE0,hv⟩,if_pos hv]
       ·rw[if_neg (fun h=>hv h.2),if_neg hv]
      have HVR:=zh (fun(hx3:SlS 4 AcK W3 (Bl w.heap.size) va r.acks)=>version_any va r.acks pa pc W3 _ hx3 HPI.out.1 HPI.out.2.2.1)
      have HACK:=zh (SlS.keep acK HR.out.2.2 (kept_below hbw3))
      have g0:W3.cell? ⟨w2.heap.size,0,none⟩=some (.int .i64 pa):=by rw[hW3];simp
      have g1:W3.cell? ⟨w2.heap.size,1,none⟩=some (.int .i64 pb):=by rw[hW3];simp
      have g2:W3.cell? ⟨w2.heap.size,2,none⟩=some (.int .i64 pc):=by rw[hW3];simp
      have g3:W3.cell? ⟨w2.heap.size,3,none⟩=some (.int .i64 pg):=by rw[hW3];simp
      have g4:W3.cell? ⟨w2.heap.size,4,none⟩=some (.int .i64 pr):=by rw[hW3];simp
      have g5:W3.cell? ⟨w2.heap.size,5,none⟩=some (.string x):=by rw[hW3];simp
      have k3:=(hb23.cell (p:=⟨q,2,none⟩) (Nat.lt_of_lt_of_le hq0 hsz2)).trans k2
      have HO4:=zh (own_below HO3.out hb23)
      have HW3:=zh hW3
      have HGP:=zh hgp
      have hq2w:q<w2.heap.size:=Nat.lt_of_lt_of_le hq0 hsz2
      obtain⟨vo1,hvo1⟩:=zx (verOf r.acks pa pc)
      rw[←hvo1] at HVR HGP
      clear hE0' hE0 hPd hW3 hb23 hgp hvo1
      go_wp2_with fail
      rw[←HW3.out]
      refine(HVR.out HACK.out).mono ?_
      rintro e w4 ⟨rfl,rfl⟩
      have hsz3:=hbr3.size
      cases vo1 with
      | none =>
       have hgn:goodP r.acks s=none:=by rw[HGP.out];rfl
       have HGN:=zh (HN.out hgn)
       clear hgn
       go_wp2_with fail
       go_roundg (l.length - (j+1))
       case measure=>omega
       case rel=>exact⟨j+1,by omega,rfl,by go_num,by rw[HGN.out,←HFS.out];exact HO4.out,hbr3⟩
      | some u =>
       by_cases hu:u=pr
       ·have hgn:goodP r.acks s=some ⟨pa,pb,pc,pg,pr,px⟩:=by rw[HGP.out,hu];exact if_pos rfl
        have HGN:=zh (HY.out _ hgn)
        have q1:(u==pr)=true:=by simpa using hu
        have hfd:FdC ⟨d,⟨pa,pb,pc,pg,pr,px⟩⟩=[.int .i64 (d:Int),.int .i64 pa,.int .i64 pb,.int .i64 pc,.int .i64 pg,.int .i64 pr,.string x]:=by rw[HX.out];rfl
        have hown:=HO4.out
        clear hgn hu
        go_wp2_with (at_builtin;refine app_fd2 ⟨d,⟨pa,pb,pc,pg,pr,px⟩⟩ _ _ _ _ _ _ _ hfd (.tmp 58) (.tmp 62) rfl rfl W0.heap.size _ fs.length _ (by rfl) hown (by rfl) hlen hsz3 ?_;intro v' w5 hown' hg hat)
        go_roundg (l.length - (j+1))
        case measure=>omega
        case rel =>
         refine⟨j+1,by omega,rfl,by go_num,?_,hbr3.grown hg hsz3 (fun b h=>(hown.lt b h).1)⟩
         rw[HGN.out,←List.append_assoc,←HFS.out]
         unfold OwnFd
         rw[flat_one,List.length_append]
         exact hown'
       ·have hgn:goodP r.acks s=none:=by rw[HGP.out];exact if_neg (fun h=>hu (by injection h))
        have HGN:=zh (HN.out hgn)
        have q1:(u==pr)=false:=by simpa using hu
        clear hgn hu
        go_wp2_with fail
        go_roundg (l.length - (j+1))
        case measure=>omega
        case rel=>exact⟨j+1,by omega,rfl,by go_num,by rw[HGN.out,←HFS.out];exact HO4.out,hbr3⟩
     ·have hE1:((E:Int) != 0)=true:=by simpa using hE0
      have hgn:goodP r.acks s=none:=by
       unfold goodP
       rw[if_neg (fun h=>hE0 (HE.out.trans h.1))]
      have HGN:=zh (HN.out hgn)
      clear hgn hE0
      go_wp2_with fail
      go_roundg (l.length - (j+1))
      case measure=>omega
      case rel=>exact⟨j+1,by omega,rfl,by go_num,by rw[HGN.out,←HFS.out];exact HO3.out.alloc _,hbr2.alloc hsz2 _⟩
    ·have hjl:j=l.length:=by omega
     have HJ:=zh hjl
     have HO2:=zh hO
     clear hjl hO
     go_wp2_with fail
     go_roundg (D - (d+1))
     case measure=>omega
     case rel=>exact⟨d+1,by omega,rfl,by go_num,by
      have h1:=HO2.out
      rw[HJ.out,List.take_of_length_le (Nat.le_refl _)] at h1
      rw[piecesTo_succ,HGL.out]
      exact h1,hbr⟩
  ·have hdD:d=D:=by omega
   have HDD:=zh hdD
   have HO:=zh hO
   have hbz:=HB0.out.trans (hbr.mono HB0.out.size)
   clear hdD hO
   go_wp2_with fail
   go_ret
   refine⟨_,rfl,?_,hbz⟩
   have h1:=HO.out
   rw[HDD.out,HD.out] at h1
   exact own_base h1 HB0.out.size
end Go.Proofs.YtcfkllnpkmebpaaGreatDoor

namespace Go.Proofs.YtcfkllnpkmebpaaGreatDoor
open Go.RowKit
set_option linter.unusedVariables false
set_option linter.unusedSimpArgs false
def FdK(w:World) (R:Nat→Prop) (cs:List Value) (f:Fd):Prop:=cs=FdC f∧f.drive≤1048576
theorem fdK:Steady FdK:=⟨fun _ h=>h,fun _ h=>h⟩
theorem flat_at7:∀(fs:List Fd) (k:Nat) (f:Fd),fs[k]?=some f→∀i c,(FdC f)[i]?=some c→(fs.flatMap FdC)[k * 7+i]?=some c
 | [],k,f,h=>by simp at h
 | x :: r,0,f,h=>by
  simp at h;subst h
  intro i c hc
  have hi:i<(FdC x).length:=(List.getElem?_eq_some_iff.1 hc).1
  rw[List.flatMap_cons,Nat.zero_mul,Nat.zero_add,List.getElem?_append_left hi];exact hc
 | x :: r,k+1,f,h=>by
  intro i c hc
  have hl:(FdC x).length=7:=rfl
  rw[List.flatMap_cons,List.getElem?_append_right (by rw[hl];omega),hl]
  have:=flat_at7 r k f (by simpa using h) i c hc
  rw[←this]
  congr 1
  omega
theorem OwnFd.slS{w:World} {base:Nat} {e:TypeId} {v:Value} {fs:List Fd} (h:OwnFd w base e v fs) (hd:∀f∈fs,f.drive≤1048576):SlS 7 FdK w (Fr base w.heap.size) v fs:=by
 have h1:w.ownsRow base e 7 v fs.length (fs.flatMap FdC):=h
 have hc:=fun g=>h1.cells (g:=g)
 have hlt:=h1.lt
 rcases h1.2 with ⟨rfl,h0⟩ | ⟨g,cap,cur,rfl,_,_,h2,h3,_⟩
 ·unfold SlS;rw[h0];exact Row.nil _ _ _
 ·refine⟨_,cap,rfl,h2,Nat.le_trans h2 h3,fun _=>⟨g,0,rfl,hlt g rfl,fun k f hf=>⟨FdC f,rfl,fun i c hi=>?_,rfl,hd f (List.mem_of_getElem? hf)⟩⟩⟩
  have e1:∀j,(⟨g,0,none⟩:Addr).add j=⟨g,0+j,none⟩:=fun j=>by unfold Addr.add;split <;> simp_all
  rw[Nat.add_assoc,←e1]
  exact hc g rfl _ _ (flat_at7 fs k f hf i c hi)
theorem piecesTo_drive(r:Re) (d:Nat):∀f∈piecesTo r d,f.drive<d:=by
 intro f hf
 simp only[piecesTo,List.mem_flatMap,List.mem_range] at hf
 obtain⟨k,hk,hm⟩:=hf
 unfold drvP at hm
 rw[List.mem_filterMap] at hm
 obtain⟨s,-,hs⟩:=hm
 cases hg:goodP r.acks s with
 | none=>rw[hg] at hs;cases hs
 | some p=>rw[hg] at hs;simp at hs;rw[←hs];exact hk
def srcB(r:Re) (v f s:Int) (on:Bool) (x:Fd):Bool:=isB x.p v f s&&(!on||onB r x.drive)
def srcI(r:Re) (l:List Fd) (v f s:Int) (on:Bool):Int:=match l.findIdx? (srcB r v f s on) with | some i=>(i:Int) | none => -1
theorem srcI_hit{r:Re} {l:List Fd} {v f s:Int} {on:Bool} {j:Nat} (hn:∀i (h:i<l.length),i<j→srcB r v f s on l[i]=false) (hj:j<l.length) (hb:srcB r v f s on l[j]=true):srcI r l v f s on=(j:Int):=by
 unfold srcI
 have:l.findIdx? (srcB r v f s on)=some j:=by
  rw[List.findIdx?_eq_some_iff_getElem]
  exact⟨hj,hb,fun i hi=>by rw[hn i (by omega) hi];simp⟩
 rw[this]
theorem srcI_miss{r:Re} {l:List Fd} {v f s:Int} {on:Bool} (hn:∀i (h:i<l.length),srcB r v f s on l[i]=false):srcI r l v f s on = -1:=by
 unfold srcI
 have:l.findIdx? (srcB r v f s on)=none:=by
  rw[List.findIdx?_eq_none_iff]
  intro x hx
  obtain⟨i,hi,rfl⟩:=List.getElem_of_mem hx
  exact hn i hi
 rw[this]
theorem seven{cs:List Value} {f:Fd} {w:World} {b o:Nat} (h:∀i c,cs[i]?=some c→w.cell? ⟨b,o+i,none⟩=some c) (e:cs=FdC f) :
  w.cell? ⟨b,o,none⟩=some (.int .i64 (f.drive:Int))∧w.cell? ⟨b,o+1,none⟩=some (.int .i64 f.p.vol)∧w.cell? ⟨b,o+2,none⟩=some (.int .i64 f.p.frag)∧w.cell? ⟨b,o+3,none⟩=some (.int .i64 f.p.stripe)∧w.cell? ⟨b,o+4,none⟩=some (.int .i64 f.p.gen)∧w.cell? ⟨b,o+5,none⟩=some (.int .i64 f.p.ver)∧w.cell? ⟨b,o+6,none⟩=some (.string ⟨f.p.data.toArray⟩):=by
 subst e
 exact⟨h 0 _ rfl,h 1 _ rfl,h 2 _ rfl,h 3 _ rfl,h 4 _ rfl,h 5 _ rfl,h 6 _ rfl⟩
end Go.Proofs.YtcfkllnpkmebpaaGreatDoor

namespace Go.Proofs.YtcfkllnpkmebpaaGreatDoor
open Go.RowKit
set_option linter.unusedVariables false
set_option linter.unusedSimpArgs false
def HeldS(W0:World) (b p q:Nat) (x0 x1 x2 x3 x4 x5 x6 y0 y1 y2:Value) (w':World):Prop :=
 w'.cell? ⟨b,p,none⟩=some x0∧w'.cell? ⟨b,p+1,none⟩=some x1∧w'.cell? ⟨b,p+2,none⟩=some x2∧w'.cell? ⟨b,p+3,none⟩=some x3∧w'.cell? ⟨b,p+4,none⟩=some x4∧w'.cell? ⟨b,p+5,none⟩=some x5∧w'.cell? ⟨b,p+6,none⟩=some x6 ∧
 w'.cell? ⟨q,0,none⟩=some y0∧w'.cell? ⟨q,1,none⟩=some y1∧w'.cell? ⟨q,2,none⟩=some y2∧Below W0.heap.size W0 w'
theorem HeldS.below{W0 wc w2:World} {b p q:Nat} {x0 x1 x2 x3 x4 x5 x6 y0 y1 y2:Value} (h:HeldS W0 b p q x0 x1 x2 x3 x4 x5 x6 y0 y1 y2 wc) (hb:Below wc.heap.size wc w2) (h1:b<W0.heap.size) (h2:q<W0.heap.size):HeldS W0 b p q x0 x1 x2 x3 x4 x5 x6 y0 y1 y2 w2:=by
 obtain⟨c0,c1,c2,c3,c4,c5,c6,d0,d1,d2,hB⟩:=h
 have hs:=hB.size
 have k:∀i,w2.cell? ⟨b,i,none⟩=wc.cell? ⟨b,i,none⟩:=fun i=>hb.cell (p:=⟨b,i,none⟩) (Nat.lt_of_lt_of_le h1 hs)
 have m:∀i,w2.cell? ⟨q,i,none⟩=wc.cell? ⟨q,i,none⟩:=fun i=>hb.cell (p:=⟨q,i,none⟩) (Nat.lt_of_lt_of_le h2 hs)
 exact⟨(k _).trans c0,(k _).trans c1,(k _).trans c2,(k _).trans c3,(k _).trans c4,(k _).trans c5,(k _).trans c6,(m _).trans d0,(m _).trans d1,(m _).trans d2,hB.trans (hb.mono hs)⟩
theorem HeldS.re{w W0 wc:World} {b p q:Nat} {x0 x1 x2 x3 x4 x5 x6 y0 y1 y2 vp vo va:Value} {r:Re} (h:HeldS W0 b p q x0 x1 x2 x3 x4 x5 x6 y0 y1 y2 wc) (hR:ReS w (Bl w.heap.size) vp vo va r) (hb:Below w.heap.size w W0):ReS wc (Bl wc.heap.size) vp vo va r:=by
 obtain⟨c0,c1,c2,c3,c4,c5,c6,d0,d1,d2,hB⟩:=h
 exact hR.below (hb.trans (hB.mono hb.size))
theorem HeldS.bl{W0 wc:World} {b p q:Nat} {x0 x1 x2 x3 x4 x5 x6 y0 y1 y2:Value} (h:HeldS W0 b p q x0 x1 x2 x3 x4 x5 x6 y0 y1 y2 wc):Below W0.heap.size W0 wc:=by
 obtain⟨c0,c1,c2,c3,c4,c5,c6,d0,d1,d2,hB⟩:=h
 exact hB
theorem takeD{P:Program} {ops:Array Oper} {Q:Exit→Act→World→Prop} {md:Region.Mode} {S:World→Prop} {i d:Nat} {oi:Oper} {v:Value} {fuel:Nat} {listed:Array Bool} {a:Act} {w:World} (hi:ops[i]?=some oi) (hd:oi.dst=some d)
  (hs:Region.noSelect ops=true) (hf:Region.free md ops listed i=true) (hr:(Region.ready md ops listed).contains i=true)
  (hQ:∀c a w,Q (.panic c) (a.put (some d) v) w→Q (.panic c) a w) (hy:YieldsIf P ops S oi v a) (hS:S w)
  (h:wpAnyH P md ops Q S fuel (listed.setIfInBounds i true) (a.put (some d) v) w):wpAnyH P md ops Q S (fuel+1) listed a w :=
 wpAnyH_take hi hs hf hr (by rw[hd];exact hQ) hy hS (by rw[hd];exact h)
theorem source_any(vp vo va vl:Value) (r:Re) (l:List Fd) (v f s:Int) (on:Bool) (w:World) (h:ReS w (Bl w.heap.size) vp vo va r) (hl:SlS 7 FdK w (Bl w.heap.size) vl l) :
  Calls Tryz.prog 133 #[.agg #[vp,vo,va],vl,.int .i64 v,.int .i64 f,.int .i64 s,.bool on] w fun e w'=>e=.returned (.int .i64 (srcI r l v f s on))∧Below w.heap.size w w':=by
 obtain⟨Al,cl,rfl,-,hm⟩:=hl.form
 unfold maxLen at hm
 have HR:=zh h
 have HL:=zh hl
 obtain⟨W0,hW0⟩:=zx (w.alloc (.cells #[vp,vo,va] 40))
 obtain⟨q,hq⟩:=zx w.heap.size
 have c0:W0.cell? ⟨q,0,none⟩=some vp:=by rw[hW0,hq];simp
 have c1:W0.cell? ⟨q,1,none⟩=some vo:=by rw[hW0,hq];simp
 have c2:W0.cell? ⟨q,2,none⟩=some va:=by rw[hW0,hq];simp
 have hb0:Below w.heap.size w W0:=by rw[hW0];exact(Below.refl _ _).alloc (Nat.le_refl _) _
 have hq0:q<W0.heap.size:=by rw[hW0,hq];simp
 have HQ:=zh hq
 have HW0:=zh hW0
 have HB0:=zh hb0
 have HC:=zh (⟨c0,c1,c2⟩:_∧_∧_)
 clear h hl hW0 hq hb0 c0 c1 c2
 go_enter Tryz.func133,Tryz.ntmps133
 go_wp2_with fail
 rw[←HW0.out,←HQ.out]
 go_loopg [13] l.length (fun z v13 wr=>∃j:Nat,j≤l.length∧z=l.length - j∧v13=.int .i64 (j:Int)∧Hid (∀i (h:i<l.length),i<j→srcB r v f s on l[i]=false)∧Below W0.heap.size W0 wr)
 case atStart=>exact⟨0,by omega,rfl,rfl,(fun i _ h=>by omega),Below.refl _ _⟩
 case round =>
  obtain⟨j,hj,rfl,rfl,HN,hbr⟩:=hrel
  have hbw:=HB0.out.trans (hbr.mono HB0.out.size)
  by_cases hlt:j<l.length
  ·obtain⟨b,off,cs,rfl,hRb,-,hcs,hfk,hdr⟩:=HL.out.at_ hlt
   obtain⟨k0,k1,k2,k3,k4,k5,k6⟩:=seven hcs hfk
   have hit:=fun hb=>srcI_hit (r:=r) (l:=l) (v:=v) (f:=f) (s:=s) (on:=on) HN.out hlt hb
   have HIT:=zh hit
   obtain⟨x,hx⟩:=zx (l[j])
   rw[←hx] at k0 k1 k2 k3 k4 k5 k6 hdr HIT
   have HXX:=zh hx
   have hnext:srcB r v f s on x=false→∀i (h:i<l.length),i<j+1→srcB r v f s on l[i]=false:=fun hb i h1 h2=>by
    by_cases e:i=j
    ·subst e;rw[←HXX.out];exact hb
    ·exact HN.out i h1 (by omega)
   have HNX:=zh hnext
   have HIS:=zh (fun w=>is_any x.p v f s w)
   have HON:=zh (fun(w':World) hR=>on_any vp vo va r x.drive w' hR hdr)
   have hbl:b<W0.heap.size:=Nat.lt_of_lt_of_le hRb HB0.out.size
   have kk:∀i u,w.cell? ⟨b,i,none⟩=some u→wr.cell? ⟨b,i,none⟩=some u:=fun i u e=>(hbw.cell (p:=⟨b,i,none⟩) hRb).trans e
   have mm:∀i u,W0.cell? ⟨q,i,none⟩=some u→wr.cell? ⟨q,i,none⟩=some u:=fun i u e=>(hbr.cell (p:=⟨q,i,none⟩) hq0).trans e
   obtain⟨dr,⟨pa,pb,pc,pg,pr,px⟩⟩:=x
   unfold PcV at HIS
   simp only at k0 k1 k2 k3 k4 k5 k6 HIS HON
   have hS0:HeldS W0 b (off+j * 7) q _ _ _ _ _ _ _ _ _ _ wr.drew:=⟨kk _ _ k0,kk _ _ k1,kk _ _ k2,kk _ _ k3,kk _ _ k4,kk _ _ k5,kk _ _ k6,mm _ _ HC.out.1,mm _ _ HC.out.2.1,mm _ _ HC.out.2.2,hbr.drew⟩
   obtain⟨y,hy⟩:∃y:ByteArray,y=⟨px.toArray⟩:=⟨_,rfl⟩
   rw[←hy] at hS0 HIS
   have HS0:=zh hS0
   have j0:(0:Int)≤(j:Int):=by omega
   have j1:(j:Int)<(l.length:Int):=by omega
   clear k0 k1 k2 k3 k4 k5 k6 hcs hfk hx hit hnext hS0 hy kk mm hdr cs
   cases hi:isB ⟨pa,pb,pc,pg,pr,px⟩ v f s with
   | false =>
    have hsb:srcB r v f s on ⟨dr,⟨pa,pb,pc,pg,pr,px⟩⟩=false:=by unfold srcB;rw[hi];rfl
    have HN2:=zh (HNX.out hsb)
    rw[hi] at HIS
    clear hi hsb
    go_upto_region 4 with fail
    refine wp_region_held_drew (S:=(fun w'=>w'.cell? ⟨b,off+j * 7,none⟩=some (.int .i64 (dr:Int))∧w'.cell? ⟨b,off+j * 7+1,none⟩=some (.int .i64 pa)∧w'.cell? ⟨b,off+j * 7+2,none⟩=some (.int .i64 pb)∧w'.cell? ⟨b,off+j * 7+3,none⟩=some (.int .i64 pc)∧w'.cell? ⟨b,off+j * 7+4,none⟩=some (.int .i64 pg)∧w'.cell? ⟨b,off+j * 7+5,none⟩=some (.int .i64 pr)∧w'.cell? ⟨b,off+j * 7+6,none⟩=some (.string y)∧w'.cell? ⟨q,0,none⟩=some vp∧w'.cell? ⟨q,1,none⟩=some vo∧w'.cell? ⟨q,2,none⟩=some va∧Below W0.heap.size W0 w')) (by kernel_rfl) HS0.out (fun hHeld=>?_)
    refine tkd 0 20 ?_
    refine tkd 1 21 ?_
    refine tkd 2 22 ?_
    refine tkd 3 23 ?_
    refine tkd 4 24 ?_
    refine tkd 5 25 ?_
    refine tkd 6 26 ?_
    refine tkd 7 27 ?_
    refine wpAnyH_ready (rs:=[8]) (by kernel_rfl) (by simp) ?_
    refine AllReadyH.cons rfl (fun K hK=>?_) ?_
    ·go_simp
     (go_at_call 112;refine(HIS.out _).mono ?_;rintro e w2 ⟨rfl,hb2⟩)
     go_wp2_with fail
     refine hK.out _ _ ?_ (fun hHeld=>?_)
     ·(first|assumption|exact HS0.out|exact HeldS.below (by assumption) hb2 hbl hq0|exact HeldS.below (by assumption) hb3 hbl hq0)
     clear hK K
     (try simp only[Act.put,z1,z2,z3])
     refine tkd 9 29 ?_
     refine takeD (i:=10) (d:=30) (v:=undef) rfl rfl (by kernel_rfl) (by kernel_rfl) (by kernel_rfl) (fun _ _ _ h=>h) (Or.inr ⟨by kernel_rfl,rfl⟩) (by assumption) ?_
     (try simp only[Act.put,z1,z2,z3])
     refine takeD (i:=11) (d:=31) (v:=undef) rfl rfl (by kernel_rfl) (by kernel_rfl) (by kernel_rfl) (fun _ _ _ h=>h) (Or.inr ⟨by kernel_rfl,rfl⟩) (by assumption) ?_
     (try simp only[Act.put,z1,z2,z3])
     refine takeD (i:=12) (d:=32) (v:=undef) rfl rfl (by kernel_rfl) (by kernel_rfl) (by kernel_rfl) (fun _ _ _ h=>h) (Or.inr ⟨by kernel_rfl,rfl⟩) (by assumption) ?_
     (try simp only[Act.put,z1,z2,z3])
     refine takeD (i:=13) (d:=33) (v:=undef) rfl rfl (by kernel_rfl) (by kernel_rfl) (by kernel_rfl) (fun _ _ _ h=>h) (Or.inr ⟨by kernel_rfl,rfl⟩) (by assumption) ?_
     (try simp only[Act.put,z1,z2,z3])
     refine takeD (i:=14) (d:=34) (v:=undef) rfl rfl (by kernel_rfl) (by kernel_rfl) (by kernel_rfl) (fun _ _ _ h=>h) (Or.inr ⟨by kernel_rfl,rfl⟩) (by assumption) ?_
     (try simp only[Act.put,z1,z2,z3])
     refine takeD (i:=15) (d:=35) (v:=undef) rfl rfl (by kernel_rfl) (by kernel_rfl) (by kernel_rfl) (fun _ _ _ h=>h) (Or.inr ⟨by kernel_rfl,rfl⟩) (by assumption) ?_
     (try simp only[Act.put,z1,z2,z3])
     refine takeD (i:=16) (d:=36) (v:=undef) rfl rfl (by kernel_rfl) (by kernel_rfl) (by kernel_rfl) (fun _ _ _ h=>h) (Or.inr ⟨by kernel_rfl,rfl⟩) (by assumption) ?_
     (try simp only[Act.put,z1,z2,z3])
     refine takeD (i:=17) (d:=37) (v:=undef) rfl rfl (by kernel_rfl) (by kernel_rfl) (by kernel_rfl) (fun _ _ _ h=>h) (Or.inr ⟨by kernel_rfl,rfl⟩) (by assumption) ?_
     (try simp only[Act.put,z1,z2,z3])
     refine takeD (i:=18) (d:=38) (v:=undef) rfl rfl (by kernel_rfl) (by kernel_rfl) (by kernel_rfl) (fun _ _ _ h=>h) (Or.inr ⟨by kernel_rfl,rfl⟩) (by assumption) ?_
     (try simp only[Act.put,z1,z2,z3])
     refine takeD (i:=19) (d:=39) (v:=undef) rfl rfl (by kernel_rfl) (by kernel_rfl) (by kernel_rfl) (fun _ _ _ h=>h) (Or.inr ⟨by kernel_rfl,rfl⟩) (by assumption) ?_
     (try simp only[Act.put,z1,z2,z3])
     refine takeD (i:=20) (d:=40) (v:=undef) rfl rfl (by kernel_rfl) (by kernel_rfl) (by kernel_rfl) (fun _ _ _ h=>h) (Or.inr ⟨by kernel_rfl,rfl⟩) (by assumption) ?_
     (try simp only[Act.put,z1,z2,z3])
     refine tkd 21 41 ?_
     refine wpAnyH_done (by kernel_rfl) ?_ _
     have hbz:=HeldS.bl (b:=b) (p:=off+j * 7) (q:=q) (by assumption)
     go_wp2_with fail
     go_roundg (l.length - (j+1))
     case measure=>omega
     case rel=>exact⟨j+1,by omega,rfl,by go_num,HN2,hbz⟩
    exact AllReadyH.nil
   | true =>
    rw[hi] at HIS
    cases on with
    | false =>
     have hsb:srcB r v f s false ⟨dr,⟨pa,pb,pc,pg,pr,px⟩⟩=true:=by unfold srcB;rw[hi];rfl
     have HI2:=zh (HIT.out hsb)
     clear hi hsb
     go_upto_region 4 with fail
     refine wp_region_held_drew (S:=(fun w'=>w'.cell? ⟨b,off+j * 7,none⟩=some (.int .i64 (dr:Int))∧w'.cell? ⟨b,off+j * 7+1,none⟩=some (.int .i64 pa)∧w'.cell? ⟨b,off+j * 7+2,none⟩=some (.int .i64 pb)∧w'.cell? ⟨b,off+j * 7+3,none⟩=some (.int .i64 pc)∧w'.cell? ⟨b,off+j * 7+4,none⟩=some (.int .i64 pg)∧w'.cell? ⟨b,off+j * 7+5,none⟩=some (.int .i64 pr)∧w'.cell? ⟨b,off+j * 7+6,none⟩=some (.string y)∧w'.cell? ⟨q,0,none⟩=some vp∧w'.cell? ⟨q,1,none⟩=some vo∧w'.cell? ⟨q,2,none⟩=some va∧Below W0.heap.size W0 w')) (by kernel_rfl) HS0.out (fun hHeld=>?_)
     refine tkd 0 20 ?_
     refine tkd 1 21 ?_
     refine tkd 2 22 ?_
     refine tkd 3 23 ?_
     refine tkd 4 24 ?_
     refine tkd 5 25 ?_
     refine tkd 6 26 ?_
     refine tkd 7 27 ?_
     refine wpAnyH_ready (rs:=[8]) (by kernel_rfl) (by simp) ?_
     refine AllReadyH.cons rfl (fun K hK=>?_) ?_
     ·go_simp
      (go_at_call 112;refine(HIS.out _).mono ?_;rintro e w2 ⟨rfl,hb2⟩)
      go_wp2_with fail
      refine hK.out _ _ ?_ (fun hHeld=>?_)
      ·(first|assumption|exact HS0.out|exact HeldS.below (by assumption) hb2 hbl hq0|exact HeldS.below (by assumption) hb3 hbl hq0)
      clear hK K
      (try simp only[Act.put,z1,z2,z3])
      refine tkd 9 29 ?_
      refine tkd 10 30 ?_
      refine tkd 11 31 ?_
      refine tkd 12 32 ?_
      refine takeD (i:=13) (d:=33) (v:=undef) rfl rfl (by kernel_rfl) (by kernel_rfl) (by kernel_rfl) (fun _ _ _ h=>h) (Or.inr ⟨by kernel_rfl,rfl⟩) (by assumption) ?_
      (try simp only[Act.put,z1,z2,z3])
      refine takeD (i:=14) (d:=34) (v:=undef) rfl rfl (by kernel_rfl) (by kernel_rfl) (by kernel_rfl) (fun _ _ _ h=>h) (Or.inr ⟨by kernel_rfl,rfl⟩) (by assumption) ?_
      (try simp only[Act.put,z1,z2,z3])
      refine takeD (i:=15) (d:=35) (v:=undef) rfl rfl (by kernel_rfl) (by kernel_rfl) (by kernel_rfl) (fun _ _ _ h=>h) (Or.inr ⟨by kernel_rfl,rfl⟩) (by assumption) ?_
      (try simp only[Act.put,z1,z2,z3])
      refine takeD (i:=16) (d:=36) (v:=undef) rfl rfl (by kernel_rfl) (by kernel_rfl) (by kernel_rfl) (fun _ _ _ h=>h) (Or.inr ⟨by kernel_rfl,rfl⟩) (by assumption) ?_
      (try simp only[Act.put,z1,z2,z3])
      refine takeD (i:=17) (d:=37) (v:=undef) rfl rfl (by kernel_rfl) (by kernel_rfl) (by kernel_rfl) (fun _ _ _ h=>h) (Or.inr ⟨by kernel_rfl,rfl⟩) (by assumption) ?_
      (try simp only[Act.put,z1,z2,z3])
      refine takeD (i:=18) (d:=38) (v:=undef) rfl rfl (by kernel_rfl) (by kernel_rfl) (by kernel_rfl) (fun _ _ _ h=>h) (Or.inr ⟨by kernel_rfl,rfl⟩) (by assumption) ?_
      (try simp only[Act.put,z1,z2,z3])
      refine takeD (i:=19) (d:=39) (v:=undef) rfl rfl (by kernel_rfl) (by kernel_rfl) (by kernel_rfl) (fun _ _ _ h=>h) (Or.inr ⟨by kernel_rfl,rfl⟩) (by assumption) ?_
      (try simp only[Act.put,z1,z2,z3])
      refine tkd 20 40 ?_
      refine tkd 21 41 ?_
      refine wpAnyH_done (by kernel_rfl) ?_ _
      have hbz:=HeldS.bl (b:=b) (p:=off+j * 7) (q:=q) (by assumption)
      have hbz2:=HB0.out.trans (hbz.mono HB0.out.size)
      go_wp2
      go_ret
      exact⟨ret_int HI2.out.symm,hbz2⟩
     exact AllReadyH.nil
    | true =>
     cases ho:onB r dr with
     | false =>
      have hsb:srcB r v f s true ⟨dr,⟨pa,pb,pc,pg,pr,px⟩⟩=false:=by unfold srcB;rw[hi,ho];rfl
      have HN2:=zh (HNX.out hsb)
      rw[ho] at HON
      clear hi hsb ho
      go_upto_region 4 with fail
      refine wp_region_held_drew (S:=(fun w'=>w'.cell? ⟨b,off+j * 7,none⟩=some (.int .i64 (dr:Int))∧w'.cell? ⟨b,off+j * 7+1,none⟩=some (.int .i64 pa)∧w'.cell? ⟨b,off+j * 7+2,none⟩=some (.int .i64 pb)∧w'.cell? ⟨b,off+j * 7+3,none⟩=some (.int .i64 pc)∧w'.cell? ⟨b,off+j * 7+4,none⟩=some (.int .i64 pg)∧w'.cell? ⟨b,off+j * 7+5,none⟩=some (.int .i64 pr)∧w'.cell? ⟨b,off+j * 7+6,none⟩=some (.string y)∧w'.cell? ⟨q,0,none⟩=some vp∧w'.cell? ⟨q,1,none⟩=some vo∧w'.cell? ⟨q,2,none⟩=some va∧Below W0.heap.size W0 w')) (by kernel_rfl) HS0.out (fun hHeld=>?_)
      refine tkd 0 20 ?_
      refine tkd 1 21 ?_
      refine tkd 2 22 ?_
      refine tkd 3 23 ?_
      refine tkd 4 24 ?_
      refine tkd 5 25 ?_
      refine tkd 6 26 ?_
      refine tkd 7 27 ?_
      refine wpAnyH_ready (rs:=[8]) (by kernel_rfl) (by simp) ?_
      refine AllReadyH.cons rfl (fun K hK=>?_) ?_
      ·go_simp
       (go_at_call 112;refine(HIS.out _).mono ?_;rintro e w2 ⟨rfl,hb2⟩)
       go_wp2_with fail
       refine hK.out _ _ ?_ (fun hHeld=>?_)
       ·(first|assumption|exact HS0.out|exact HeldS.below (by assumption) hb2 hbl hq0|exact HeldS.below (by assumption) hb3 hbl hq0)
       clear hK K
       (try simp only[Act.put,z1,z2,z3])
       refine tkd 9 29 ?_
       refine tkd 10 30 ?_
       refine tkd 11 31 ?_
       refine tkd 12 32 ?_
       refine tkd 13 33 ?_
       refine tkd 14 34 ?_
       refine tkd 15 35 ?_
       refine tkd 16 36 ?_
       refine tkd 17 37 ?_
       refine tkd 18 38 ?_
       refine wpAnyH_ready (rs:=[19]) (by kernel_rfl) (by simp) ?_
       refine AllReadyH.cons rfl (fun K hK=>?_) ?_
       ·go_simp
        (go_at_call 186;refine(HON.out _ (HeldS.re (by assumption) HR.out HB0.out)).mono ?_;rintro e w3 ⟨rfl,hb3⟩)
        go_wp2_with fail
        refine hK.out _ _ ?_ (fun hHeld=>?_)
        ·(first|assumption|exact HS0.out|exact HeldS.below (by assumption) hb2 hbl hq0|exact HeldS.below (by assumption) hb3 hbl hq0)
        clear hK K
        (try simp only[Act.put,z1,z2,z3])
        refine tkd 20 40 ?_
        refine tkd 21 41 ?_
        refine wpAnyH_done (by kernel_rfl) ?_ _
        have hbz:=HeldS.bl (b:=b) (p:=off+j * 7) (q:=q) (by assumption)
        go_wp2_with fail
        go_roundg (l.length - (j+1))
        case measure=>omega
        case rel=>exact⟨j+1,by omega,rfl,by go_num,HN2,hbz⟩
       exact AllReadyH.nil
      exact AllReadyH.nil
     | true =>
      have hsb:srcB r v f s true ⟨dr,⟨pa,pb,pc,pg,pr,px⟩⟩=true:=by unfold srcB;rw[hi,ho];rfl
      have HI2:=zh (HIT.out hsb)
      rw[ho] at HON
      clear hi hsb ho
      go_upto_region 4 with fail
      refine wp_region_held_drew (S:=(fun w'=>w'.cell? ⟨b,off+j * 7,none⟩=some (.int .i64 (dr:Int))∧w'.cell? ⟨b,off+j * 7+1,none⟩=some (.int .i64 pa)∧w'.cell? ⟨b,off+j * 7+2,none⟩=some (.int .i64 pb)∧w'.cell? ⟨b,off+j * 7+3,none⟩=some (.int .i64 pc)∧w'.cell? ⟨b,off+j * 7+4,none⟩=some (.int .i64 pg)∧w'.cell? ⟨b,off+j * 7+5,none⟩=some (.int .i64 pr)∧w'.cell? ⟨b,off+j * 7+6,none⟩=some (.string y)∧w'.cell? ⟨q,0,none⟩=some vp∧w'.cell? ⟨q,1,none⟩=some vo∧w'.cell? ⟨q,2,none⟩=some va∧Below W0.heap.size W0 w')) (by kernel_rfl) HS0.out (fun hHeld=>?_)
      refine tkd 0 20 ?_
      refine tkd 1 21 ?_
      refine tkd 2 22 ?_
      refine tkd 3 23 ?_
      refine tkd 4 24 ?_
      refine tkd 5 25 ?_
      refine tkd 6 26 ?_
      refine tkd 7 27 ?_
      refine wpAnyH_ready (rs:=[8]) (by kernel_rfl) (by simp) ?_
      refine AllReadyH.cons rfl (fun K hK=>?_) ?_
      ·go_simp
       (go_at_call 112;refine(HIS.out _).mono ?_;rintro e w2 ⟨rfl,hb2⟩)
       go_wp2_with fail
       refine hK.out _ _ ?_ (fun hHeld=>?_)
       ·(first|assumption|exact HS0.out|exact HeldS.below (by assumption) hb2 hbl hq0|exact HeldS.below (by assumption) hb3 hbl hq0)
       clear hK K
       (try simp only[Act.put,z1,z2,z3])
       refine tkd 9 29 ?_
       refine tkd 10 30 ?_
       refine tkd 11 31 ?_
       refine tkd 12 32 ?_
       refine tkd 13 33 ?_
       refine tkd 14 34 ?_
       refine tkd 15 35 ?_
       refine tkd 16 36 ?_
       refine tkd 17 37 ?_
       refine tkd 18 38 ?_
       refine wpAnyH_ready (rs:=[19]) (by kernel_rfl) (by simp) ?_
       refine AllReadyH.cons rfl (fun K hK=>?_) ?_
       ·go_simp
        (go_at_call 186;refine(HON.out _ (HeldS.re (by assumption) HR.out HB0.out)).mono ?_;rintro e w3 ⟨rfl,hb3⟩)
        go_wp2_with fail
        refine hK.out _ _ ?_ (fun hHeld=>?_)
        ·(first|assumption|exact HS0.out|exact HeldS.below (by assumption) hb2 hbl hq0|exact HeldS.below (by assumption) hb3 hbl hq0)
        clear hK K
        (try simp only[Act.put,z1,z2,z3])
        refine tkd 20 40 ?_
        refine tkd 21 41 ?_
        refine wpAnyH_done (by kernel_rfl) ?_ _
        have hbz:=HeldS.bl (b:=b) (p:=off+j * 7) (q:=q) (by assumption)
        have hbz2:=HB0.out.trans (hbz.mono HB0.out.size)
        go_wp2
        go_ret
        exact⟨ret_int HI2.out.symm,hbz2⟩
       exact AllReadyH.nil
      exact AllReadyH.nil
  ·have hE:=srcI_miss (r:=r) (l:=l) (v:=v) (f:=f) (s:=s) (on:=on) (fun i h=>HN.out i h (by omega))
   have HE:=zh hE
   clear hE
   go_wp2_with fail
   go_ret
   exact⟨ret_int HE.out.symm,hbw⟩
end Go.Proofs.YtcfkllnpkmebpaaGreatDoor

namespace Go.Proofs.YtcfkllnpkmebpaaGreatDoor
open Go.RowKit
set_option linter.unusedVariables false
set_option linter.unusedSimpArgs false
def OwnI(w:World) (base:Nat) (v:Value) (xs:List Int):Prop:=w.ownsRow base 3 1 v xs.length (xs.map (Value.int .i64))
theorem OwnI.nil(w:World) (base:Nat):OwnI w base (.slice none 0 0) []:=World.ownsRow_nil _ _ _ _
theorem OwnI.below{w w2:World} {base:Nat} {v:Value} {xs:List Int} (h:OwnI w base v xs) (hb:Below w.heap.size w w2):OwnI w2 base v xs:=own_below h hb
theorem OwnI.base{w:World} {B B':Nat} {v:Value} {xs:List Int} (h:OwnI w B v xs) (hB:B'≤B):OwnI w B' v xs:=own_base h hB
theorem OwnI.intS{w:World} {base:Nat} {v:Value} {xs:List Int} (h:OwnI w base v xs) (hx:∀x∈xs,I64 x):IntS w (Fr base w.heap.size) v xs :=
 IntS.own h (fun b hb=>h.lt b hb) hx
theorem OwnI.lt{w:World} {base:Nat} {v:Value} {xs:List Int} (h:OwnI w base v xs):∀b,v.ownBlock=some b→base≤b∧b<w.heap.size:=World.ownsRow.lt h
theorem OwnI.form{w:World} {base:Nat} {v:Value} {xs:List Int} (h:OwnI w base v xs):∃A c,v=.slice A xs.length c:=own_form h
theorem info_int2:(Tryz.prog.info? 3).map (fun i=>(i.zero,i.size,i.bytes))=some (some (.int .i64 0),1,8):=by kernel_rfl
theorem app_i{ops:Array Oper} {rest:List Oper} {o:Oper} {a:Act} {Q:Exit→Act→World→Prop} {w:World} (x0:Int) (s x:Operand) (hgd:o.guard=none) (ho:o.op=.call { callee:=.builtin .append,args:=#[s,x],argTypes:=#[22,22] })
  (base:Nat) (v:Value) (n:Nat) (xs:List Int) (hl:xs.length=n) (hs:a.eval s=v) (hown:w.ownsRow base 3 1 v n (xs.map (Value.int .i64)))
  (hx:a.eval x=.slice (some ⟨w.heap.size,0,none⟩) 1 1) (hn:n+1≤16777216) (hbase:base≤w.heap.size)
  (h:∀v' w',OwnI w' base v' (xs++[x0])→w.grownBy w' v.ownBlock→(v'.ownBlock=v.ownBlock∨v'.ownBlock=some (w.heap.size+1))→wpList Tryz.prog ops Q rest (a.put o.dst v') w') :
  wpList Tryz.prog ops Q (o :: rest) a (w.alloc (.cells #[.int .i64 x0] 3)):=by
 obtain⟨i0,hi0,hz0,hz1,hz2⟩:=info_parts info_int2
 refine wpList_append1 hgd s x _ ho base i0 _ 1 8 Tryz.underlying22 hi0 hz0 hz1 hz2 rfl (by omega) (by omega) v n _ hs hown hx rfl (by simp;rfl) hn hbase (fun v' w' h1=>h v' w' ?_)
 unfold OwnI
 rw[List.length_append,hl,List.map_append]
 exact h1
def intTo(r:Re) (l:List Fd) (v s:Int) (on:Bool) (j:Nat):List Int:=(List.range j).filterMap fun i:Nat=>if 0≤srcI r l v (i:Int) s on then some (i:Int) else none
theorem intTo_succ(r:Re) (l:List Fd) (v s:Int) (on:Bool) (j:Nat):intTo r l v s on (j+1)=intTo r l v s on j++(if 0≤srcI r l v (j:Int) s on then [(j:Int)] else []):=by
 unfold intTo
 rw[List.range_succ,List.filterMap_append]
 congr 1
 by_cases h:0≤srcI r l v (j:Int) s on <;> simp[h]
theorem intTo_yes{r:Re} {l:List Fd} {v s:Int} {on:Bool} {j:Nat} (h:0≤srcI r l v (j:Int) s on):intTo r l v s on (j+1)=intTo r l v s on j++[(j:Int)]:=by rw[intTo_succ,if_pos h]
theorem intTo_no{r:Re} {l:List Fd} {v s:Int} {on:Bool} {j:Nat} (h:¬0≤srcI r l v (j:Int) s on):intTo r l v s on (j+1)=intTo r l v s on j:=by rw[intTo_succ,if_neg h,List.append_nil]
theorem intTo_mem{r:Re} {l:List Fd} {v s:Int} {on:Bool} {j:Nat}:∀x∈intTo r l v s on j,0≤x∧x<j:=by
 intro x hx
 simp only[intTo,List.mem_filterMap,List.mem_range] at hx
 obtain⟨i,hi,he⟩:=hx
 by_cases h:0≤srcI r l v (i:Int) s on
 ·rw[if_pos h] at he;simp at he;omega
 ·rw[if_neg h] at he;cases he
theorem intTo_length{r:Re} {l:List Fd} {v s:Int} {on:Bool} {j:Nat}:(intTo r l v s on j).length≤j:=by
 unfold intTo
 exact Nat.le_trans (List.length_filterMap_le _ _) (by simp)
theorem rintact_any(vp vo va vl:Value) (r:Re) (l:List Fd) (v s:Int) (on:Bool) (w:World) (h:ReS w (Bl w.heap.size) vp vo va r) (hl:SlS 7 FdK w (Bl w.heap.size) vl l) :
  Calls Tryz.prog 185 #[.agg #[vp,vo,va],vl,.int .i64 v,.int .i64 s,.bool on] w fun e w'=>∃u,e=.returned u∧OwnI w' w.heap.size u (intTo r l v s on 8)∧Below w.heap.size w w':=by
 have HR:=zh h
 have HL:=zh hl
 obtain⟨W0,hW0⟩:=zx (w.alloc (.cells #[vp,vo,va] 40))
 obtain⟨q,hq⟩:=zx w.heap.size
 have c0:W0.cell? ⟨q,0,none⟩=some vp:=by rw[hW0,hq];simp
 have c1:W0.cell? ⟨q,1,none⟩=some vo:=by rw[hW0,hq];simp
 have c2:W0.cell? ⟨q,2,none⟩=some va:=by rw[hW0,hq];simp
 have hb0:Below w.heap.size w W0:=by rw[hW0];exact(Below.refl _ _).alloc (Nat.le_refl _) _
 have hq0:q<W0.heap.size:=by rw[hW0,hq];simp
 have HQ:=zh hq
 have HW0:=zh hW0
 have HB0:=zh hb0
 have HC:=zh (⟨c0,c1,c2⟩:_∧_∧_)
 clear h hl hW0 hq hb0 c0 c1 c2
 go_enter Tryz.func185,Tryz.ntmps185
 go_wp2_with fail
 rw[←HW0.out,←HQ.out]
 go_loopg [11,12] 8 (fun z v11 v12 wr=>∃j:Nat,j≤8∧z=8 - j∧v12=.int .i64 (j:Int)∧OwnI wr W0.heap.size v11 (intTo r l v s on j)∧Below W0.heap.size W0 wr)
 case atStart=>exact⟨0,by omega,rfl,rfl,OwnI.nil _ _,Below.refl _ _⟩
 case round =>
  obtain⟨j,hj,rfl,rfl,hO,hbr⟩:=hrel
  have hbw:=HB0.out.trans (hbr.mono HB0.out.size)
  by_cases hlt:j<8
  ·have d0:=(hbr.cell (p:=⟨q,0,none⟩) hq0).trans HC.out.1
   have d1:=(hbr.cell (p:=⟨q,1,none⟩) hq0).trans HC.out.2.1
   have d2:=(hbr.cell (p:=⟨q,2,none⟩) hq0).trans HC.out.2.2
   have HS:=zh (source_any vp vo va vl r l v (j:Int) s on wr (HR.out.below hbw) (SlS.below fdK HL.out hbw))
   have hlen:(intTo r l v s on j).length+1≤16777216:=by have:=intTo_length (r:=r) (l:=l) (v:=v) (s:=s) (on:=on) (j:=j);omega
   have hyes:=intTo_yes (r:=r) (l:=l) (v:=v) (s:=s) (on:=on) (j:=j)
   have hno:=intTo_no (r:=r) (l:=l) (v:=v) (s:=s) (on:=on) (j:=j)
   obtain⟨S,hS⟩:=zx (srcI r l v (j:Int) s on)
   rw[←hS] at hyes hno HS
   obtain⟨xs,hxs⟩:=zx (intTo r l v s on j)
   rw[←hxs] at hyes hno hO hlen
   have HY:=zh hyes
   have HN:=zh hno
   have HO:=zh hO
   have HO7:wr.ownsRow W0.heap.size 3 1 _ xs.length (xs.map (Value.int .i64)):=hO
   obtain⟨A3,c3,rfl⟩:=own_form HO7
   have hsz:=hbr.size
   clear hyes hno hS hxs hO HO7
   go_wp2_with fail
   refine HS.out.mono ?_
   rintro e w2 ⟨rfl,hb2⟩
   have hbr2:=hbr.trans (hb2.mono hsz)
   have hO2:=HO.out.below hb2
   have hsz2:=hbr2.size
   by_cases h0:0≤S
   ·have HE:=zh (HY.out h0)
    have hO3:w2.ownsRow W0.heap.size 3 1 _ xs.length (xs.map (Value.int .i64)):=hO2
    go_wp2_with (at_builtin;refine app_i (j:Int) (.tmp 25) (.tmp 27) rfl rfl W0.heap.size _ xs.length xs rfl (by rfl) hO3 (by rfl) hlen hsz2 ?_;intro v' w5 hown' hg hat)
    go_roundg (8 - (j+1))
    case measure=>omega
    case rel=>exact⟨j+1,by omega,rfl,by go_num,by rw[HE.out];exact hown',hbr2.grown hg hsz2 (fun b h=>(hO2.lt b h).1)⟩
   ·have HE:=zh (HN.out (by omega))
    have HO2:=zh hO2
    clear hO2
    go_wp2_with fail
    go_roundg (8 - (j+1))
    case measure=>omega
    case rel=>exact⟨j+1,by omega,rfl,by go_num,by rw[HE.out];exact HO2.out,hbr2⟩
  ·obtain rfl:j=8:=by omega
   have HO:=zh hO
   clear hO
   go_wp2_with fail
   go_ret
   exact⟨_,rfl,HO.out.base HB0.out.size,hbw⟩
theorem OwnFd.slBl{w:World} {base:Nat} {e:TypeId} {v:Value} {fs:List Fd} (h:OwnFd w base e v fs) (hd:∀f∈fs,f.drive≤1048576):SlS 7 FdK w (Bl w.heap.size) v fs:=SlS.mono fdK (h.slS hd) (fun _ hb=>hb.2)
def intI(r:Re) (v s:Int) (on:Bool):List Int:=intTo r (pieces r) v s on 8
theorem pieces_drive(r:Re) (hp:r.plat.length≤1048576):∀f∈pieces r,f.drive≤1048576:=fun f hf=>by have:=piecesTo_drive r _ f hf;omega
end Go.Proofs.YtcfkllnpkmebpaaGreatDoor

namespace Go.Proofs.YtcfkllnpkmebpaaGreatDoor
open Go.RowKit
set_option linter.unusedVariables false
set_option linter.unusedSimpArgs false
def gStep(v f s:Int) (acc:List Int) (x:Fd):List Int:=if isB x.p v f s=true∧acc.getLast?≠some (x.drive:Int) then acc++[(x.drive:Int)] else acc
def goodTo(v f s:Int) (l:List Fd):List Int:=l.foldl (gStep v f s) []
def goodI(r:Re) (v f s:Int):List Int:=goodTo v f s (pieces r)
theorem gStep_off{v f s:Int} {acc:List Int} {x:Fd} (h:isB x.p v f s=false):gStep v f s acc x=acc:=by unfold gStep;rw[if_neg (fun h2=>by rw[h] at h2;cases h2.1)]
theorem gStep_new{v f s:Int} {acc:List Int} {x:Fd} (h:isB x.p v f s=true) (h2:acc.getLast?≠some (x.drive:Int)):gStep v f s acc x=acc++[(x.drive:Int)]:=by unfold gStep;rw[if_pos ⟨h,h2⟩]
theorem gStep_length(v f s:Int) (acc:List Int) (x:Fd):(gStep v f s acc x).length≤acc.length+1:=by unfold gStep;split <;> simp
theorem goodTo_length(v f s:Int) (l:List Fd):(goodTo v f s l).length≤l.length:=by
 have:∀(l:List Fd) (acc:List Int),(l.foldl (gStep v f s) acc).length≤acc.length+l.length:=by
  intro l
  induction l with
  | nil=>intro acc;simp
  | cons x l ih =>
   intro acc
   have h1:=ih (gStep v f s acc x)
   have h2:=gStep_length v f s acc x
   simp only[List.foldl_cons,List.length_cons]
   omega
 simpa[goodTo] using this l []
theorem goodTo_mem(v f s:Int) (l:List Fd):∀y∈goodTo v f s l,∃x∈l,y=(x.drive:Int):=by
 have:∀(l:List Fd) (acc:List Int),∀y∈l.foldl (gStep v f s) acc,y∈acc∨∃x∈l,y=(x.drive:Int):=by
  intro l
  induction l with
  | nil=>intro acc y hy;exact .inl hy
  | cons x l ih =>
   intro acc y hy
   rcases ih _ y hy with h | ⟨z,hz,e⟩
   ·unfold gStep at h
    split at h
    ·rcases List.mem_append.1 h with h | h
     ·exact .inl h
     ·exact .inr ⟨x,by simp,by simpa using h⟩
    ·exact .inl h
   ·exact .inr ⟨z,List.mem_cons_of_mem _ hz,e⟩
 intro y hy
 rcases this l [] y hy with h | h
 ·cases h
 ·exact h
end Go.Proofs.YtcfkllnpkmebpaaGreatDoor

namespace Go.Proofs.YtcfkllnpkmebpaaGreatDoor
open Go.RowKit
open Go.ChangeMaps Go.MapKept Go.WideShapes
open Go.WideElems (Fit rd rg pl rd_key rd_val rg_of)
open Go.Maps (Keyed)
set_option linter.unusedVariables false
set_option linter.unusedSimpArgs false
def kv(a b:Int):Value:=.agg #[.int .i64 a,.int .i64 b]
theorem kv_inj{a b c d:Int} (h:kv a b=kv c d):a=c∧b=d:=by
 unfold kv at h
 simp at h
 exact h
def rawR(v:Value):Option (DataW Value×List MemPlace):=some (.held v,[])
structure TwoKey (kt:TypeId):Prop where
 law:Keyed Tryz.prog kt
 wide:WideMaps.KeyLaw Tryz.prog kt
 lit:∀a b,I64 a→I64 b→∃l,keyOf Tryz.prog kt (kv a b)=some l
 inv:∀v l,keyOf Tryz.prog kt v=some l→∃a b,v=kv a b∧I64 a∧I64 b
theorem i64_wf(a:Int):(Lit.int .i64 a).wf=true↔I64 a:=by
 unfold I64
 have h1:IntKind.i64.min = -9223372036854775808:=by decide
 have h2:IntKind.i64.max=9223372036854775807:=by decide
 simp[Lit.wf,h1,h2]
theorem laidOut17:laidOutB Tryz.prog=true:=by kernel_rfl
theorem key_row:(147:TypeId)<Tryz.prog.types.size:=of_decide_eq_true (by kernel_rfl)
theorem key_wide:(match Tryz.prog.underlying 147 with | some (.array _ _) | some (.struct _)=>true | _=>false)=true:=by rw[Tryz.underlying147]
theorem key_law:WideMaps.KeyLaw Tryz.prog 147:=deep_law_laid laidOut17 (m:=2) (by omega) key_row (by kernel_rfl) key_wide
theorem key_type:Tryz.prog.keyType 147=true:=by kernel_rfl
theorem key_cells:Tryz.prog.cellsOf 147=2:=by kernel_rfl
theorem int_cells:Tryz.prog.cellsOf 3=1:=by kernel_rfl
theorem key_lits(n:Nat) (a b:Int) (ha:I64 a) (hb:I64 b):Tryz.prog.keyLits (n+2) 147 [.int .i64 a,.int .i64 b]=some [.int .i64 a,.int .i64 b]:=by
 have h1:=(i64_wf a).2 ha
 have h2:=(i64_wf b).2 hb
 simp[Program.keyLits,Tryz.underlying147,Tryz.underlying3,key_cells,int_cells,h1,h2]
theorem key_lits_inv(n:Nat) (cs:List Value) (l:List Lit) (h:Tryz.prog.keyLits (n+2) 147 cs=some l):∃a b,cs=[.int .i64 a,.int .i64 b]∧I64 a∧I64 b:=by
 simp[Program.keyLits,Tryz.underlying147,Tryz.underlying3,key_cells,int_cells] at h
 obtain⟨hl,h⟩:=h
 match cs,hl with
 | [x,y],hxl =>
  simp at h
  clear hxl
  cases x
  case int q a =>
   by_cases hq:q=.i64∧(Lit.int .i64 a).wf=true
   ·obtain⟨rfl,hwa⟩:=hq
    cases y
    case int q2 b =>
     by_cases hq2:q2=.i64∧(Lit.int .i64 b).wf=true
     ·obtain⟨rfl,hwb⟩:=hq2
      exact⟨a,b,rfl,(i64_wf a).1 hwa,(i64_wf b).1 hwb⟩
     ·exfalso
      by_cases hq3:q2=.i64
      ·subst hq3
       have:(Lit.int .i64 b).wf=false:=by rw[Bool.eq_false_iff];exact fun e=>hq2 ⟨rfl,e⟩
       simp[hwa,this] at h
      ·simp[hwa,hq3] at h
    all_goals (exfalso;simp[hwa] at h)
   ·exfalso
    by_cases hq3:q=.i64
    ·subst hq3
     have:(Lit.int .i64 a).wf=false:=by rw[Bool.eq_false_iff];exact fun e=>hq ⟨rfl,e⟩
     simp[this] at h
    ·simp[hq3] at h
  all_goals (exfalso;simp at h)
theorem types_pos:∃n,Tryz.prog.types.size+1=n+2:=by
 have h:=key_row
 revert h
 generalize Tryz.prog.types.size=s
 intro h
 have h2:(147:Nat)<s:=h
 exact⟨s - 1,by omega⟩
theorem key_two:TwoKey 147 where
 law:=Keyed.of_law key_law
 wide:=key_law
 lit a b ha hb:=by
  obtain⟨n,hn⟩:=types_pos
  have h1:=key_lits n a b ha hb
  refine⟨.string (keyBytes [.int .i64 a,.int .i64 b]),?_⟩
  unfold keyOf
  rw[Tryz.underlying147,hn]
  simp[key_type,Value.formed,Tryz.underlying147,key_cells,kv,Value.cells,h1]
 inv v l h:=by
  obtain⟨n,hn⟩:=types_pos
  unfold keyOf at h
  rw[Tryz.underlying147,hn] at h
  simp[key_type] at h
  obtain⟨hf,ls,hk,-⟩:=h
  obtain⟨a,b,e,ha,hb⟩:=key_lits_inv n _ _ hk
  refine⟨a,b,?_,ha,hb⟩
  cases v <;> simp[Value.formed,Tryz.underlying147] at hf
  rename_i cs
  unfold kv
  simp[Value.cells] at e
  congr 1
  exact Array.ext' (by simpa using e)
def MapKV(w:World) (kt:TypeId) (b n:Nat) (f:Int→Int→Option Value):Prop :=
 ∃D,w.ownsMap Tryz.prog kt rawR b n D∧∀x y l,keyOf Tryz.prog kt (kv x y)=some l→Maps.has D l=(f x y).isSome∧∀z,D.atKey l (.held z)=.held ((f x y).getD z)
def upd(f:Int→Int→Option Value) (x y:Int) (v:Value):Int→Int→Option Value:=fun a b=>if a=x∧b=y then some v else f a b
theorem upd_same(f:Int→Int→Option Value) (x y:Int) (v:Value):upd f x y v x y=some v:=if_pos ⟨rfl,rfl⟩
theorem upd_other{f:Int→Int→Option Value} {x y:Int} {v:Value} {a b:Int} (h:¬(a=x∧b=y)):upd f x y v a b=f a b:=if_neg h
theorem MapKV.made(w:World) (kt:TypeId):MapKV (w.alloc (.map #[] 0)) kt w.heap.size 0 (fun _ _=>none) :=
 ⟨_,World.ownsMap_made w Tryz.prog kt rawR,fun x y l _=>⟨rfl,fun z=>rfl⟩⟩
theorem MapKV.lt{w:World} {kt:TypeId} {b n:Nat} {f:Int→Int→Option Value} (h:MapKV w kt b n f):b<w.heap.size:=by
 obtain⟨D,h1,-⟩:=h
 exact h1.lt
theorem MapKV.kept{w w':World} {kt:TypeId} {b n:Nat} {f:Int→Int→Option Value} {row:Option Nat} (h:MapKV w kt b n f) (hg:w.grownBy w' row) (hne:some b≠row):MapKV w' kt b n f:=by
 obtain⟨D,h1,h2⟩:=h
 exact⟨D,h1.kept hg hne,h2⟩
theorem MapKV.same{w w':World} {kt:TypeId} {b n:Nat} {f:Int→Int→Option Value} (h:MapKV w kt b n f) (e:w'.heap[b]?=w.heap[b]?):MapKV w' kt b n f:=by
 obtain⟨D,⟨es,clock,hb,r⟩,h2⟩:=h
 exact⟨D,⟨es,clock,e.trans hb,r⟩,h2⟩
theorem MapKV.below{w w':World} {kt:TypeId} {b n B:Nat} {f:Int→Int→Option Value} (h:MapKV w kt b n f) (hb:Below B w w') (hB:b<B):MapKV w' kt b n f:=h.same (hb.block b hB)
theorem rawR_inj{v:Value} {d:DataW Value} {ps:List MemPlace} (h:rawR v=some (d,ps)):d=.held v:=by
 unfold rawR at h
 injection h with h
 injection h with h1 h2
 exact h1.symm
theorem held_inj{a b:Value} (h:(DataW.held a:DataW Value)=.held b):a=b:=by injection h
section
variable {w : World} {kt t e : TypeId} {b n : Nat} {f : Int → Int → Option Value} {x y : Int} {z : Value}
theorem MapKV.look(T:TwoKey kt) (h:MapKV w kt b n f) (ht:Tryz.prog.underlying t=some (.map kt e)) (hz:(zeroValue e).run Tryz.prog w=.ok z w) (hx:I64 x) (hy:I64 y) :
  (Instr.lookup t (.map (some b)) (kv x y) false).run Tryz.prog w=.ok ((f x y).getD z) w:=by
 obtain⟨D,h1,h2⟩:=h
 obtain⟨l,hl⟩:=T.lit x y hx hy
 obtain⟨v,ps,hrun,hv⟩:=h1.lookup T.law ht hz (zd:=.held z) (zp:=[]) rfl hl
 rw[(h2 x y l hl).2 z] at hv
 rw[hrun,held_inj (rawR_inj hv)]
theorem MapKV.look_ok(T:TwoKey kt) (h:MapKV w kt b n f) (ht:Tryz.prog.underlying t=some (.map kt e)) (hz:(zeroValue e).run Tryz.prog w=.ok z w) (hx:I64 x) (hy:I64 y) :
  (Instr.lookup t (.map (some b)) (kv x y) true).run Tryz.prog w=.ok (.tuple #[(f x y).getD z,.bool (f x y).isSome]) w:=by
 obtain⟨D,h1,h2⟩:=h
 obtain⟨l,hl⟩:=T.lit x y hx hy
 obtain⟨v,ps,hrun,hv⟩:=h1.look_ok T.law ht hz (zd:=.held z) (zp:=[]) rfl hl
 rw[(h2 x y l hl).2 z] at hv
 rw[hrun,(h2 x y l hl).1,held_inj (rawR_inj hv)]
theorem put_upd{D:DataW Value} {l:Lit} {v:Value} (T:TwoKey kt) (hD:Maps.IsMap D) (h2:∀x y l,keyOf Tryz.prog kt (kv x y)=some l→Maps.has D l=(f x y).isSome∧∀z,D.atKey l (.held z)=.held ((f x y).getD z)) (hl:keyOf Tryz.prog kt (kv x y)=some l) :
  ∀a c l',keyOf Tryz.prog kt (kv a c)=some l'→Maps.has (D.put l (.held v)) l'=(upd f x y v a c).isSome∧∀z,(D.put l (.held v)).atKey l' (.held z)=.held ((upd f x y v a c).getD z):=by
 intro a c l' hl'
 by_cases hk:a=x∧c=y
 ·obtain⟨rfl,rfl⟩:=hk
  rw[hl'] at hl
  injection hl with hl
  subst hl
  rw[upd_same]
  exact⟨Maps.has_put_same hD (T.law.key hl') _,fun z=>Maps.atKey_put_same hD (T.law.key hl') _ _⟩
 ·rw[upd_other hk]
  have hne:l'≠l:=fun e=>hk (kv_inj (T.law.inj hl' (e▸hl)))
  exact⟨by rw[Maps.has_put_other hne];exact(h2 a c l' hl').1,fun z=>by rw[Maps.atKey_put_other hne];exact(h2 a c l' hl').2 z⟩
theorem MapKV.store(T:TwoKey kt) (h:MapKV w kt b n f) (ht:Tryz.prog.underlying t=some (.map kt e)) (hn:n<maxLen) (hx:I64 x) (hy:I64 y) (v:Value) :
  ∃w',(Instr.mapUpdate t (.map (some b)) (kv x y) v).run Tryz.prog w=.ok () w'∧MapKV w' kt b (n+1) (upd f x y v)∧w.grownBy w' (some b):=by
 obtain⟨D,h1,h2⟩:=h
 obtain⟨l,hl⟩:=T.lit x y hx hy
 obtain⟨w',hrun,r1,r2⟩:=h1.update T.law ht hn hl (d:=.held v) (ps:=[]) rfl
 exact⟨w',hrun,⟨_,r1,put_upd T h1.isMap h2 hl⟩,r2⟩
theorem setBlock_grown{w:World} {b:Nat} {es:Array MapEntry} {clock:Nat} {o':Obj} (hb:w.heap[b]?=some (.map es clock)):w.grownBy (setBlock w b o') (some b):=⟨rfl,rfl,rfl,by simp[setBlock],fun i _ hi=>heap_setBlock_other hb _ (fun e=>hi (by rw[e]))⟩
theorem MapKV.entry(T:TwoKey kt) (h:MapKV w kt b n f) (ht:Tryz.prog.underlying t=some (.map kt e)) (hz:∀u:World,(zeroValue e).run Tryz.prog u=.ok z u) (hn:n<maxLen) (hx:I64 x) (hy:I64 y) :
  ∃(st:Nat) (w1:World),(Instr.mapEntry t (.map (some b)) (kv x y)).run Tryz.prog w=.ok (.tuple #[(f x y).getD z,goInt st]) w1∧w.grownBy w1 (some b) ∧
   ∀(w2:World) (v:Value),w2.heap[b]?=w1.heap[b]?→∃w3,(Instr.entryStore t (.map (some b)) (goInt st) v).run Tryz.prog w2=.ok () w3∧MapKV w3 kt b (n+1) (upd f x y v)∧w2.grownBy w3 (some b):=by
 have h0:=h
 obtain⟨D,h1,h2⟩:=h
 obtain⟨l,hl⟩:=T.lit x y hx hy
 obtain⟨es,clock,hb,F,hs,rfl⟩:=h1
 obtain⟨v0,st,es1,clock1,hrun,hv0,hst⟩:=WideElems.entry_then_store T.wide ht hz hb F hl
 have hv:v0=(f x y).getD z:=by
  rcases Maps.fit_look false T.law ht (hz w) hb F hl with ⟨_,hno,hat⟩ | ⟨e0,u,he0,hk0,_,hRv,hat,_⟩
  ·rcases hv0 with ⟨e1,he1,hk1,-⟩ | ⟨-,e1⟩
   ·exact absurd hk1 (hno e1 he1)
   ·have:=(h2 x y l hl).2 z
    rw[hat] at this
    rw[e1];exact held_inj this
  ·rcases hv0 with ⟨e1,he1,hk1,e2⟩ | ⟨hno,-⟩
   ·have hst2:=(stamped_iff es clock).1 F.stamped
    have e3:=entry_eq_of_key hst2.2.2 he1 he0 (hk1.trans hk0.symm)
    have:=(h2 x y l hl).2 z
    rw[hat] at this
    have e4:u.1=.held e0.val:=rawR_inj (ps:=u.2) hRv
    rw[e4] at this
    rw[e2,e3];exact held_inj this
   ·exact absurd hk0 (hno e0 he0)
 refine⟨st,_,by rw[hrun,hv],setBlock_grown hb,fun w2 v hw2=>?_⟩
 have hw2':w2.heap[b]?=some (.map es1 clock1):=hw2.trans (heap_setBlock_same hb _)
 obtain⟨es',clock',r1,r2⟩:=hst w2 v hw2'
 obtain⟨w',hrun',r3,r4⟩:=MapKV.store T h0 ht hn hx hy v
 rw[hrun'] at r2
 injection r2 with _ r2
 refine⟨_,r1,MapKV.same r3 ?_,setBlock_grown hw2'⟩
 rw[r2,heap_setBlock_same hb,heap_setBlock_same hw2']
end
section
variable {w : World} {ops : Array Oper} {rest : List Oper} {o : Oper} {a : Act} {Q : Exit → Act → World → Prop}
theorem kv_look(hg:o.guard=none) (m xo:Operand) (t kt e:TypeId) (hop:o.op=Op.lookup t m xo false) (T:TwoKey kt) (ht:Tryz.prog.underlying t=some (.map kt e)) (b n:Nat) (f:Int→Int→Option Value) (x y:Int) (z:Value)
  (hm:a.eval m=.map (some b)) (hxo:a.eval xo=.agg #[.int .i64 x,.int .i64 y]) (h:MapKV w kt b n f) (hz:(zeroValue e).run Tryz.prog w=.ok z w) (hx:I64 x) (hy:I64 y) (u:Value) (hu:(f x y).getD z=u)
  (hK:wpList Tryz.prog ops Q rest (a.put o.dst u) w):wpList Tryz.prog ops Q (o :: rest) a w:=by
 refine wpList_plain hg fun K' hK'=>?_
 have hrun:=h.look T ht hz hx hy
 rw[hu] at hrun
 unfold Oper.wp
 unfold kv at hrun
 simp[execOp,hop,hm,hxo,hrun,Result.andThen]
 exact hK' _ _ hK
theorem kv_look_ok(hg:o.guard=none) (m xo:Operand) (t kt e:TypeId) (hop:o.op=Op.lookup t m xo true) (T:TwoKey kt) (ht:Tryz.prog.underlying t=some (.map kt e)) (b n:Nat) (f:Int→Int→Option Value) (x y:Int) (z:Value)
  (hm:a.eval m=.map (some b)) (hxo:a.eval xo=.agg #[.int .i64 x,.int .i64 y]) (h:MapKV w kt b n f) (hz:(zeroValue e).run Tryz.prog w=.ok z w) (hx:I64 x) (hy:I64 y) (u:Option Value) (hu:f x y=u)
  (hK:wpList Tryz.prog ops Q rest (a.put o.dst (.tuple #[u.getD z,.bool u.isSome])) w):wpList Tryz.prog ops Q (o :: rest) a w:=by
 refine wpList_plain hg fun K' hK'=>?_
 have hrun:=h.look_ok T ht hz hx hy
 rw[hu] at hrun
 unfold Oper.wp
 unfold kv at hrun
 simp[execOp,hop,hm,hxo,hrun,Result.andThen]
 exact hK' _ _ hK
theorem kv_store(hg:o.guard=none) (m xo vo:Operand) (t kt e:TypeId) (hop:o.op=Op.mapUpdate t m xo vo) (T:TwoKey kt) (ht:Tryz.prog.underlying t=some (.map kt e)) (b n:Nat) (f:Int→Int→Option Value) (x y:Int) (v:Value)
  (hm:a.eval m=.map (some b)) (hxo:a.eval xo=.agg #[.int .i64 x,.int .i64 y]) (hvo:a.eval vo=v) (h:MapKV w kt b n f) (hn:n<maxLen) (hx:I64 x) (hy:I64 y)
  (hK:∀w',MapKV w' kt b (n+1) (upd f x y v)→w.grownBy w' (some b)→wpList Tryz.prog ops Q rest (a.put o.dst undef) w'):wpList Tryz.prog ops Q (o :: rest) a w:=by
 refine wpList_plain hg fun K' hK'=>?_
 obtain⟨w',hrun,r1,r2⟩:=h.store T ht hn hx hy v
 unfold Oper.wp
 unfold kv at hrun
 simp[execOp,hop,hm,hxo,hvo,hrun,Result.andThen]
 exact hK' _ _ (hK w' r1 r2)
def Pend(w1:World) (t kt:TypeId) (b n:Nat) (f:Int→Int→Option Value) (x y:Int) (st:Nat):Prop :=
 ∀(w2:World) (v:Value),w2.heap[b]?=w1.heap[b]?→∃w3,(Instr.entryStore t (.map (some b)) (goInt st) v).run Tryz.prog w2=.ok () w3∧MapKV w3 kt b (n+1) (upd f x y v)∧w2.grownBy w3 (some b)
theorem kv_entry(hg:o.guard=none) (m xo:Operand) (t kt e:TypeId) (hop:o.op=Op.mapEntry t m xo) (T:TwoKey kt) (ht:Tryz.prog.underlying t=some (.map kt e)) (b n:Nat) (f:Int→Int→Option Value) (x y:Int) (z:Value)
  (hm:a.eval m=.map (some b)) (hxo:a.eval xo=.agg #[.int .i64 x,.int .i64 y]) (h:MapKV w kt b n f) (hz:∀u:World,(zeroValue e).run Tryz.prog u=.ok z u) (hn:n<maxLen) (hx:I64 x) (hy:I64 y) (u:Option Value) (hu:f x y=u)
  (hK:∀(st:Nat) (w1:World),w.grownBy w1 (some b)→Pend w1 t kt b n f x y st→wpList Tryz.prog ops Q rest (a.put o.dst (.tuple #[u.getD z,.int .i64 (st:Int)])) w1):wpList Tryz.prog ops Q (o :: rest) a w:=by
 refine wpList_plain hg fun K' hK'=>?_
 obtain⟨st,w1,hrun,r1,r2⟩:=h.entry T ht hz hn hx hy
 rw[hu] at hrun
 unfold Oper.wp
 unfold kv at hrun
 simp[execOp,hop,hm,hxo,hrun,Result.andThen]
 exact hK' _ _ (hK st w1 r1 r2)
theorem kv_entry_store(hg:o.guard=none) (m so vo:Operand) (t kt:TypeId) (hop:o.op=Op.entryStore t m so vo) (b n:Nat) (f:Int→Int→Option Value) (x y:Int) (st:Nat) (v:Value) (w1:World)
  (hm:a.eval m=.map (some b)) (hso:a.eval so=.int .i64 (st:Int)) (hvo:a.eval vo=v) (h:Pend w1 t kt b n f x y st) (hw:w.heap[b]?=w1.heap[b]?)
  (hK:∀w',MapKV w' kt b (n+1) (upd f x y v)→w.grownBy w' (some b)→wpList Tryz.prog ops Q rest (a.put o.dst undef) w'):wpList Tryz.prog ops Q (o :: rest) a w:=by
 refine wpList_plain hg fun K' hK'=>?_
 obtain⟨w',hrun,r1,r2⟩:=h w v hw
 unfold Oper.wp
 unfold goInt at hrun
 simp[execOp,hop,hm,hso,hvo,hrun,Result.andThen]
 exact hK' _ _ (hK w' r1 r2)
end
end Go.Proofs.YtcfkllnpkmebpaaGreatDoor
