/- The reference's source, walked. -/
import Derived.Test.YtcfkllnpkmebpaaGreatDoorMp03
import Derived.Test.YtcfkllnpkmebpaaGreatDoorMp01
import Derived.DeepKeys4
import Derived.WideKeyEntry
import Derived.Maps.RangeWalk
import Derived.Laws.AppendOwnNone
import Derived.Test.YtcfkllnpkmebpaaGreatDoorMp02
set_option linter.unusedSectionVars false
set_option maxRecDepth 100000
set_option maxHeartbeats 12800000
namespace Go.Proofs.YtcfkllnpkmebpaaGreatDoor
open Go.RowKit
set_option linter.unusedVariables false
set_option linter.unusedSimpArgs false
def HeldS(W0:World) (b p q:Nat) (x0 x1 x2 x3 x4 x5 x6 y0 y1 y2:Value) (w':World):Prop :=
 w'.cell? ⟨b,p,none⟩=some x0∧w'.cell? ⟨b,p+1,none⟩=some x1∧w'.cell? ⟨b,p+2,none⟩=some x2∧w'.cell? ⟨b,p+3,none⟩=some x3∧w'.cell? ⟨b,p+4,none⟩=some x4∧w'.cell? ⟨b,p+5,none⟩=some x5∧w'.cell? ⟨b,p+6,none⟩=some x6 ∧
 w'.cell? ⟨q,0,none⟩=some y0∧w'.cell? ⟨q,1,none⟩=some y1∧w'.cell? ⟨q,2,none⟩=some y2∧Below W0.heap.size W0 w'
theorem HeldS.below{W0 wc w2:World} {b p q:Nat} {x0 x1 x2 x3 x4 x5 x6 y0 y1 y2:Value} (h:HeldS W0 b p q x0 x1 x2 x3 x4 x5 x6 y0 y1 y2 wc) (hb:Below wc.heap.size wc w2) (h1:b<W0.heap.size) (h2:q<W0.heap.size):HeldS W0 b p q x0 x1 x2 x3 x4 x5 x6 y0 y1 y2 w2:=by
 obtain⟨c0,c1,c2,c3,c4,c5,c6,d0,d1,d2,hB⟩:=h;have hs:=hB.size
 have k:∀i,w2.cell? ⟨b,i,none⟩=wc.cell? ⟨b,i,none⟩:=fun i=>hb.cell (p:=⟨b,i,none⟩) (Nat.lt_of_lt_of_le h1 hs)
 have m:∀i,w2.cell? ⟨q,i,none⟩=wc.cell? ⟨q,i,none⟩:=fun i=>hb.cell (p:=⟨q,i,none⟩) (Nat.lt_of_lt_of_le h2 hs)
 exact⟨(k _).trans c0,(k _).trans c1,(k _).trans c2,(k _).trans c3,(k _).trans c4,(k _).trans c5,(k _).trans c6,(m _).trans d0,(m _).trans d1,(m _).trans d2,hB.trans (hb.mono hs)⟩
theorem HeldS.re{w W0 wc:World} {b p q:Nat} {x0 x1 x2 x3 x4 x5 x6 y0 y1 y2 vp vo va:Value} {r:Re} (h:HeldS W0 b p q x0 x1 x2 x3 x4 x5 x6 y0 y1 y2 wc) (hR:ReS w (Bl w.heap.size) vp vo va r) (hb:Below w.heap.size w W0):ReS wc (Bl wc.heap.size) vp vo va r:=by
 obtain⟨c0,c1,c2,c3,c4,c5,c6,d0,d1,d2,hB⟩:=h;exact hR.below (hb.trans (hB.mono hb.size))
theorem HeldS.bl{W0 wc:World} {b p q:Nat} {x0 x1 x2 x3 x4 x5 x6 y0 y1 y2:Value} (h:HeldS W0 b p q x0 x1 x2 x3 x4 x5 x6 y0 y1 y2 wc):Below W0.heap.size W0 wc:=by
 obtain⟨c0,c1,c2,c3,c4,c5,c6,d0,d1,d2,hB⟩:=h;exact hB
theorem takeD{P:Program} {ops:Array Oper} {Q:Exit→Act→World→Prop} {md:Region.Mode} {S:World→Prop} {i d:Nat} {oi:Oper} {v:Value} {fuel:Nat} {listed:Array Bool} {a:Act} {w:World} (hi:ops[i]?=some oi) (hd:oi.dst=some d)
  (hs:Region.noSelect ops=true) (hf:Region.free md ops listed i=true) (hr:(Region.ready md ops listed).contains i=true)
  (hQ:∀c a w,Q (.panic c) (a.put (some d) v) w→Q (.panic c) a w) (hy:YieldsIf P ops S oi v a) (hS:S w)
  (h:wpAnyH P md ops Q S fuel (listed.setIfInBounds i true) (a.put (some d) v) w):wpAnyH P md ops Q S (fuel+1) listed a w :=
 wpAnyH_take hi hs hf hr (by rw[hd];exact hQ) hy hS (by rw[hd];exact h)
theorem source_any(vp vo va vl:Value) (r:Re) (l:List Fd) (v f s:Int) (on:Bool) (w:World) (h:ReS w (Bl w.heap.size) vp vo va r) (hl:SlS 7 FdK w (Bl w.heap.size) vl l) :
  Calls Tryz.prog 133 #[.agg #[vp,vo,va],vl,.int .i64 v,.int .i64 f,.int .i64 s,.bool on] w fun e w'=>e=.returned (.int .i64 (srcI r l v f s on))∧Below w.heap.size w w':=by
 obtain⟨Al,cl,rfl,-,hm⟩:=hl.form;unfold maxLen at hm;have HR:=zh h;have HL:=zh hl;obtain⟨W0,hW0⟩:=zx (w.alloc (.cells #[vp,vo,va] 40));obtain⟨q,hq⟩:=zx w.heap.size
 have c0:W0.cell? ⟨q,0,none⟩=some vp:=by rw[hW0,hq];simp
 have c1:W0.cell? ⟨q,1,none⟩=some vo:=by rw[hW0,hq];simp
 have c2:W0.cell? ⟨q,2,none⟩=some va:=by rw[hW0,hq];simp
 have hb0:Below w.heap.size w W0:=by rw[hW0];exact(Below.refl _ _).alloc (Nat.le_refl _) _
 have hq0:q<W0.heap.size:=by rw[hW0,hq];simp
 have HQ:=zh hq;have HW0:=zh hW0;have HB0:=zh hb0;have HC:=zh (⟨c0,c1,c2⟩:_∧_∧_);clear h hl hW0 hq hb0 c0 c1 c2;go_enter Tryz.func133,Tryz.ntmps133;go_wp2_with fail;rw[←HW0.out,←HQ.out];go_loopg [13] l.length (fun z v13 wr=>∃j:Nat,j≤l.length∧z=l.length - j∧v13=.int .i64 (j:Int)∧Hid (∀i (h:i<l.length),i<j→srcB r v f s on l[i]=false)∧Below W0.heap.size W0 wr)
 case atStart=>exact⟨0,by omega,rfl,rfl,(fun i _ h=>by omega),Below.refl _ _⟩
 case round =>
  obtain⟨j,hj,rfl,rfl,HN,hbr⟩:=hrel;have hbw:=HB0.out.trans (hbr.mono HB0.out.size);by_cases hlt:j<l.length
  ·obtain⟨b,off,cs,rfl,hRb,-,hcs,hfk,hdr⟩:=HL.out.at_ hlt;obtain⟨k0,k1,k2,k3,k4,k5,k6⟩:=seven hcs hfk
   have hit:=fun hb=>srcI_hit (r:=r) (l:=l) (v:=v) (f:=f) (s:=s) (on:=on) HN.out hlt hb
   have HIT:=zh hit;obtain⟨x,hx⟩:=zx (l[j]);rw[←hx] at k0 k1 k2 k3 k4 k5 k6 hdr HIT;have HXX:=zh hx
   have hnext:srcB r v f s on x=false→∀i (h:i<l.length),i<j+1→srcB r v f s on l[i]=false:=fun hb i h1 h2=>by
    by_cases e:i=j
    ·subst e;rw[←HXX.out];exact hb
    ·exact HN.out i h1 (by omega)
   have HNX:=zh hnext;have HIS:=zh (fun w=>is_any x.p v f s w);have HON:=zh (fun(w':World) hR=>on_any vp vo va r x.drive w' hR hdr);have hbl:b<W0.heap.size:=Nat.lt_of_lt_of_le hRb HB0.out.size
   have kk:∀i u,w.cell? ⟨b,i,none⟩=some u→wr.cell? ⟨b,i,none⟩=some u:=fun i u e=>(hbw.cell (p:=⟨b,i,none⟩) hRb).trans e
   have mm:∀i u,W0.cell? ⟨q,i,none⟩=some u→wr.cell? ⟨q,i,none⟩=some u:=fun i u e=>(hbr.cell (p:=⟨q,i,none⟩) hq0).trans e
   obtain⟨dr,⟨pa,pb,pc,pg,pr,px⟩⟩:=x;unfold PcV at HIS;simp only at k0 k1 k2 k3 k4 k5 k6 HIS HON;have hS0:HeldS W0 b (off+j * 7) q _ _ _ _ _ _ _ _ _ _ wr.drew:=⟨kk _ _ k0,kk _ _ k1,kk _ _ k2,kk _ _ k3,kk _ _ k4,kk _ _ k5,kk _ _ k6,mm _ _ HC.out.1,mm _ _ HC.out.2.1,mm _ _ HC.out.2.2,hbr.drew⟩;obtain⟨y,hy⟩:∃y:ByteArray,y=⟨px.toArray⟩:=⟨_,rfl⟩;rw[←hy] at hS0 HIS;have HS0:=zh hS0
   have j0:(0:Int)≤(j:Int):=by omega
   have j1:(j:Int)<(l.length:Int):=by omega
   clear k0 k1 k2 k3 k4 k5 k6 hcs hfk hx hit hnext hS0 hy kk mm hdr cs
   cases hi:isB ⟨pa,pb,pc,pg,pr,px⟩ v f s with
   | false =>
    have hsb:srcB r v f s on ⟨dr,⟨pa,pb,pc,pg,pr,px⟩⟩=false:=by unfold srcB;rw[hi];rfl
    have HN2:=zh (HNX.out hsb);rw[hi] at HIS;clear hi hsb;go_upto_region 4 with fail;refine wp_region_held_drew (S:=(fun w'=>w'.cell? ⟨b,off+j * 7,none⟩=some (.int .i64 (dr:Int))∧w'.cell? ⟨b,off+j * 7+1,none⟩=some (.int .i64 pa)∧w'.cell? ⟨b,off+j * 7+2,none⟩=some (.int .i64 pb)∧w'.cell? ⟨b,off+j * 7+3,none⟩=some (.int .i64 pc)∧w'.cell? ⟨b,off+j * 7+4,none⟩=some (.int .i64 pg)∧w'.cell? ⟨b,off+j * 7+5,none⟩=some (.int .i64 pr)∧w'.cell? ⟨b,off+j * 7+6,none⟩=some (.string y)∧w'.cell? ⟨q,0,none⟩=some vp∧w'.cell? ⟨q,1,none⟩=some vo∧w'.cell? ⟨q,2,none⟩=some va∧Below W0.heap.size W0 w')) (by kernel_rfl) HS0.out (fun hHeld=>?_);refine tkd 0 20 ?_;refine tkd 1 21 ?_;refine tkd 2 22 ?_;refine tkd 3 23 ?_;refine tkd 4 24 ?_;refine tkd 5 25 ?_;refine tkd 6 26 ?_;refine tkd 7 27 ?_;refine wpAnyH_ready (rs:=[8]) (by kernel_rfl) (by simp) ?_;refine AllReadyH.cons rfl (fun K hK=>?_) ?_
    ·go_simp;(go_at_call 112;refine(HIS.out _).mono ?_;rintro e w2 ⟨rfl,hb2⟩);go_wp2_with fail;refine hK.out _ _ ?_ (fun hHeld=>?_)
     ·(first|assumption|exact HS0.out|exact HeldS.below (by assumption) hb2 hbl hq0|exact HeldS.below (by assumption) hb3 hbl hq0)
     clear hK K;(try simp only[Act.put,z1,z2,z3]);refine tkd 9 29 ?_;refine takeD (i:=10) (d:=30) (v:=undef) rfl rfl (by kernel_rfl) (by kernel_rfl) (by kernel_rfl) (fun _ _ _ h=>h) (Or.inr ⟨by kernel_rfl,rfl⟩) (by assumption) ?_;(try simp only[Act.put,z1,z2,z3]);refine takeD (i:=11) (d:=31) (v:=undef) rfl rfl (by kernel_rfl) (by kernel_rfl) (by kernel_rfl) (fun _ _ _ h=>h) (Or.inr ⟨by kernel_rfl,rfl⟩) (by assumption) ?_;(try simp only[Act.put,z1,z2,z3]);refine takeD (i:=12) (d:=32) (v:=undef) rfl rfl (by kernel_rfl) (by kernel_rfl) (by kernel_rfl) (fun _ _ _ h=>h) (Or.inr ⟨by kernel_rfl,rfl⟩) (by assumption) ?_;(try simp only[Act.put,z1,z2,z3]);refine takeD (i:=13) (d:=33) (v:=undef) rfl rfl (by kernel_rfl) (by kernel_rfl) (by kernel_rfl) (fun _ _ _ h=>h) (Or.inr ⟨by kernel_rfl,rfl⟩) (by assumption) ?_;(try simp only[Act.put,z1,z2,z3]);refine takeD (i:=14) (d:=34) (v:=undef) rfl rfl (by kernel_rfl) (by kernel_rfl) (by kernel_rfl) (fun _ _ _ h=>h) (Or.inr ⟨by kernel_rfl,rfl⟩) (by assumption) ?_;(try simp only[Act.put,z1,z2,z3]);refine takeD (i:=15) (d:=35) (v:=undef) rfl rfl (by kernel_rfl) (by kernel_rfl) (by kernel_rfl) (fun _ _ _ h=>h) (Or.inr ⟨by kernel_rfl,rfl⟩) (by assumption) ?_;(try simp only[Act.put,z1,z2,z3]);refine takeD (i:=16) (d:=36) (v:=undef) rfl rfl (by kernel_rfl) (by kernel_rfl) (by kernel_rfl) (fun _ _ _ h=>h) (Or.inr ⟨by kernel_rfl,rfl⟩) (by assumption) ?_;(try simp only[Act.put,z1,z2,z3]);refine takeD (i:=17) (d:=37) (v:=undef) rfl rfl (by kernel_rfl) (by kernel_rfl) (by kernel_rfl) (fun _ _ _ h=>h) (Or.inr ⟨by kernel_rfl,rfl⟩) (by assumption) ?_;(try simp only[Act.put,z1,z2,z3]);refine takeD (i:=18) (d:=38) (v:=undef) rfl rfl (by kernel_rfl) (by kernel_rfl) (by kernel_rfl) (fun _ _ _ h=>h) (Or.inr ⟨by kernel_rfl,rfl⟩) (by assumption) ?_;(try simp only[Act.put,z1,z2,z3]);refine takeD (i:=19) (d:=39) (v:=undef) rfl rfl (by kernel_rfl) (by kernel_rfl) (by kernel_rfl) (fun _ _ _ h=>h) (Or.inr ⟨by kernel_rfl,rfl⟩) (by assumption) ?_;(try simp only[Act.put,z1,z2,z3]);refine takeD (i:=20) (d:=40) (v:=undef) rfl rfl (by kernel_rfl) (by kernel_rfl) (by kernel_rfl) (fun _ _ _ h=>h) (Or.inr ⟨by kernel_rfl,rfl⟩) (by assumption) ?_;(try simp only[Act.put,z1,z2,z3]);refine tkd 21 41 ?_;refine wpAnyH_done (by kernel_rfl) ?_ _;have hbz:=HeldS.bl (b:=b) (p:=off+j * 7) (q:=q) (by assumption);go_wp2_with fail;go_roundg (l.length - (j+1))
     case measure=>omega
     case rel=>exact⟨j+1,by omega,rfl,by go_num,HN2,hbz⟩
    exact AllReadyH.nil
   | true =>
    rw[hi] at HIS
    cases on with
    | false =>
     have hsb:srcB r v f s false ⟨dr,⟨pa,pb,pc,pg,pr,px⟩⟩=true:=by unfold srcB;rw[hi];rfl
     have HI2:=zh (HIT.out hsb);clear hi hsb;go_upto_region 4 with fail;refine wp_region_held_drew (S:=(fun w'=>w'.cell? ⟨b,off+j * 7,none⟩=some (.int .i64 (dr:Int))∧w'.cell? ⟨b,off+j * 7+1,none⟩=some (.int .i64 pa)∧w'.cell? ⟨b,off+j * 7+2,none⟩=some (.int .i64 pb)∧w'.cell? ⟨b,off+j * 7+3,none⟩=some (.int .i64 pc)∧w'.cell? ⟨b,off+j * 7+4,none⟩=some (.int .i64 pg)∧w'.cell? ⟨b,off+j * 7+5,none⟩=some (.int .i64 pr)∧w'.cell? ⟨b,off+j * 7+6,none⟩=some (.string y)∧w'.cell? ⟨q,0,none⟩=some vp∧w'.cell? ⟨q,1,none⟩=some vo∧w'.cell? ⟨q,2,none⟩=some va∧Below W0.heap.size W0 w')) (by kernel_rfl) HS0.out (fun hHeld=>?_);refine tkd 0 20 ?_;refine tkd 1 21 ?_;refine tkd 2 22 ?_;refine tkd 3 23 ?_;refine tkd 4 24 ?_;refine tkd 5 25 ?_;refine tkd 6 26 ?_;refine tkd 7 27 ?_;refine wpAnyH_ready (rs:=[8]) (by kernel_rfl) (by simp) ?_;refine AllReadyH.cons rfl (fun K hK=>?_) ?_
     ·go_simp;(go_at_call 112;refine(HIS.out _).mono ?_;rintro e w2 ⟨rfl,hb2⟩);go_wp2_with fail;refine hK.out _ _ ?_ (fun hHeld=>?_)
      ·(first|assumption|exact HS0.out|exact HeldS.below (by assumption) hb2 hbl hq0|exact HeldS.below (by assumption) hb3 hbl hq0)
      clear hK K;(try simp only[Act.put,z1,z2,z3]);refine tkd 9 29 ?_;refine tkd 10 30 ?_;refine tkd 11 31 ?_;refine tkd 12 32 ?_;refine takeD (i:=13) (d:=33) (v:=undef) rfl rfl (by kernel_rfl) (by kernel_rfl) (by kernel_rfl) (fun _ _ _ h=>h) (Or.inr ⟨by kernel_rfl,rfl⟩) (by assumption) ?_;(try simp only[Act.put,z1,z2,z3]);refine takeD (i:=14) (d:=34) (v:=undef) rfl rfl (by kernel_rfl) (by kernel_rfl) (by kernel_rfl) (fun _ _ _ h=>h) (Or.inr ⟨by kernel_rfl,rfl⟩) (by assumption) ?_;(try simp only[Act.put,z1,z2,z3]);refine takeD (i:=15) (d:=35) (v:=undef) rfl rfl (by kernel_rfl) (by kernel_rfl) (by kernel_rfl) (fun _ _ _ h=>h) (Or.inr ⟨by kernel_rfl,rfl⟩) (by assumption) ?_;(try simp only[Act.put,z1,z2,z3]);refine takeD (i:=16) (d:=36) (v:=undef) rfl rfl (by kernel_rfl) (by kernel_rfl) (by kernel_rfl) (fun _ _ _ h=>h) (Or.inr ⟨by kernel_rfl,rfl⟩) (by assumption) ?_;(try simp only[Act.put,z1,z2,z3]);refine takeD (i:=17) (d:=37) (v:=undef) rfl rfl (by kernel_rfl) (by kernel_rfl) (by kernel_rfl) (fun _ _ _ h=>h) (Or.inr ⟨by kernel_rfl,rfl⟩) (by assumption) ?_;(try simp only[Act.put,z1,z2,z3]);refine takeD (i:=18) (d:=38) (v:=undef) rfl rfl (by kernel_rfl) (by kernel_rfl) (by kernel_rfl) (fun _ _ _ h=>h) (Or.inr ⟨by kernel_rfl,rfl⟩) (by assumption) ?_;(try simp only[Act.put,z1,z2,z3]);refine takeD (i:=19) (d:=39) (v:=undef) rfl rfl (by kernel_rfl) (by kernel_rfl) (by kernel_rfl) (fun _ _ _ h=>h) (Or.inr ⟨by kernel_rfl,rfl⟩) (by assumption) ?_;(try simp only[Act.put,z1,z2,z3]);refine tkd 20 40 ?_;refine tkd 21 41 ?_;refine wpAnyH_done (by kernel_rfl) ?_ _;have hbz:=HeldS.bl (b:=b) (p:=off+j * 7) (q:=q) (by assumption);have hbz2:=HB0.out.trans (hbz.mono HB0.out.size);go_wp2;go_ret;exact⟨ret_int HI2.out.symm,hbz2⟩
     exact AllReadyH.nil
    | true =>
     cases ho:onB r dr with
     | false =>
      have hsb:srcB r v f s true ⟨dr,⟨pa,pb,pc,pg,pr,px⟩⟩=false:=by unfold srcB;rw[hi,ho];rfl
      have HN2:=zh (HNX.out hsb);rw[ho] at HON;clear hi hsb ho;go_upto_region 4 with fail;refine wp_region_held_drew (S:=(fun w'=>w'.cell? ⟨b,off+j * 7,none⟩=some (.int .i64 (dr:Int))∧w'.cell? ⟨b,off+j * 7+1,none⟩=some (.int .i64 pa)∧w'.cell? ⟨b,off+j * 7+2,none⟩=some (.int .i64 pb)∧w'.cell? ⟨b,off+j * 7+3,none⟩=some (.int .i64 pc)∧w'.cell? ⟨b,off+j * 7+4,none⟩=some (.int .i64 pg)∧w'.cell? ⟨b,off+j * 7+5,none⟩=some (.int .i64 pr)∧w'.cell? ⟨b,off+j * 7+6,none⟩=some (.string y)∧w'.cell? ⟨q,0,none⟩=some vp∧w'.cell? ⟨q,1,none⟩=some vo∧w'.cell? ⟨q,2,none⟩=some va∧Below W0.heap.size W0 w')) (by kernel_rfl) HS0.out (fun hHeld=>?_);refine tkd 0 20 ?_;refine tkd 1 21 ?_;refine tkd 2 22 ?_;refine tkd 3 23 ?_;refine tkd 4 24 ?_;refine tkd 5 25 ?_;refine tkd 6 26 ?_;refine tkd 7 27 ?_;refine wpAnyH_ready (rs:=[8]) (by kernel_rfl) (by simp) ?_;refine AllReadyH.cons rfl (fun K hK=>?_) ?_
      ·go_simp;(go_at_call 112;refine(HIS.out _).mono ?_;rintro e w2 ⟨rfl,hb2⟩);go_wp2_with fail;refine hK.out _ _ ?_ (fun hHeld=>?_)
       ·(first|assumption|exact HS0.out|exact HeldS.below (by assumption) hb2 hbl hq0|exact HeldS.below (by assumption) hb3 hbl hq0)
       clear hK K;(try simp only[Act.put,z1,z2,z3]);refine tkd 9 29 ?_;refine tkd 10 30 ?_;refine tkd 11 31 ?_;refine tkd 12 32 ?_;refine tkd 13 33 ?_;refine tkd 14 34 ?_;refine tkd 15 35 ?_;refine tkd 16 36 ?_;refine tkd 17 37 ?_;refine tkd 18 38 ?_;refine wpAnyH_ready (rs:=[19]) (by kernel_rfl) (by simp) ?_;refine AllReadyH.cons rfl (fun K hK=>?_) ?_
       ·go_simp;(go_at_call 186;refine(HON.out _ (HeldS.re (by assumption) HR.out HB0.out)).mono ?_;rintro e w3 ⟨rfl,hb3⟩);go_wp2_with fail;refine hK.out _ _ ?_ (fun hHeld=>?_)
        ·(first|assumption|exact HS0.out|exact HeldS.below (by assumption) hb2 hbl hq0|exact HeldS.below (by assumption) hb3 hbl hq0)
        clear hK K;(try simp only[Act.put,z1,z2,z3]);refine tkd 20 40 ?_;refine tkd 21 41 ?_;refine wpAnyH_done (by kernel_rfl) ?_ _;have hbz:=HeldS.bl (b:=b) (p:=off+j * 7) (q:=q) (by assumption);go_wp2_with fail;go_roundg (l.length - (j+1))
        case measure=>omega
        case rel=>exact⟨j+1,by omega,rfl,by go_num,HN2,hbz⟩
       exact AllReadyH.nil
      exact AllReadyH.nil
     | true =>
      have hsb:srcB r v f s true ⟨dr,⟨pa,pb,pc,pg,pr,px⟩⟩=true:=by unfold srcB;rw[hi,ho];rfl
      have HI2:=zh (HIT.out hsb);rw[ho] at HON;clear hi hsb ho;go_upto_region 4 with fail;refine wp_region_held_drew (S:=(fun w'=>w'.cell? ⟨b,off+j * 7,none⟩=some (.int .i64 (dr:Int))∧w'.cell? ⟨b,off+j * 7+1,none⟩=some (.int .i64 pa)∧w'.cell? ⟨b,off+j * 7+2,none⟩=some (.int .i64 pb)∧w'.cell? ⟨b,off+j * 7+3,none⟩=some (.int .i64 pc)∧w'.cell? ⟨b,off+j * 7+4,none⟩=some (.int .i64 pg)∧w'.cell? ⟨b,off+j * 7+5,none⟩=some (.int .i64 pr)∧w'.cell? ⟨b,off+j * 7+6,none⟩=some (.string y)∧w'.cell? ⟨q,0,none⟩=some vp∧w'.cell? ⟨q,1,none⟩=some vo∧w'.cell? ⟨q,2,none⟩=some va∧Below W0.heap.size W0 w')) (by kernel_rfl) HS0.out (fun hHeld=>?_);refine tkd 0 20 ?_;refine tkd 1 21 ?_;refine tkd 2 22 ?_;refine tkd 3 23 ?_;refine tkd 4 24 ?_;refine tkd 5 25 ?_;refine tkd 6 26 ?_;refine tkd 7 27 ?_;refine wpAnyH_ready (rs:=[8]) (by kernel_rfl) (by simp) ?_;refine AllReadyH.cons rfl (fun K hK=>?_) ?_
      ·go_simp;(go_at_call 112;refine(HIS.out _).mono ?_;rintro e w2 ⟨rfl,hb2⟩);go_wp2_with fail;refine hK.out _ _ ?_ (fun hHeld=>?_)
       ·(first|assumption|exact HS0.out|exact HeldS.below (by assumption) hb2 hbl hq0|exact HeldS.below (by assumption) hb3 hbl hq0)
       clear hK K;(try simp only[Act.put,z1,z2,z3]);refine tkd 9 29 ?_;refine tkd 10 30 ?_;refine tkd 11 31 ?_;refine tkd 12 32 ?_;refine tkd 13 33 ?_;refine tkd 14 34 ?_;refine tkd 15 35 ?_;refine tkd 16 36 ?_;refine tkd 17 37 ?_;refine tkd 18 38 ?_;refine wpAnyH_ready (rs:=[19]) (by kernel_rfl) (by simp) ?_;refine AllReadyH.cons rfl (fun K hK=>?_) ?_
       ·go_simp;(go_at_call 186;refine(HON.out _ (HeldS.re (by assumption) HR.out HB0.out)).mono ?_;rintro e w3 ⟨rfl,hb3⟩);go_wp2_with fail;refine hK.out _ _ ?_ (fun hHeld=>?_)
        ·(first|assumption|exact HS0.out|exact HeldS.below (by assumption) hb2 hbl hq0|exact HeldS.below (by assumption) hb3 hbl hq0)
        clear hK K;(try simp only[Act.put,z1,z2,z3]);refine tkd 20 40 ?_;refine tkd 21 41 ?_;refine wpAnyH_done (by kernel_rfl) ?_ _;have hbz:=HeldS.bl (b:=b) (p:=off+j * 7) (q:=q) (by assumption);have hbz2:=HB0.out.trans (hbz.mono HB0.out.size);go_wp2;go_ret;exact⟨ret_int HI2.out.symm,hbz2⟩
       exact AllReadyH.nil
      exact AllReadyH.nil
  ·have hE:=srcI_miss (r:=r) (l:=l) (v:=v) (f:=f) (s:=s) (on:=on) (fun i h=>HN.out i h (by omega));have HE:=zh hE;clear hE;go_wp2_with fail;go_ret;exact⟨ret_int HE.out.symm,hbw⟩
end Go.Proofs.YtcfkllnpkmebpaaGreatDoor

namespace Go.Proofs.YtcfkllnpkmebpaaGreatDoor
open Go.RowKit
set_option linter.unusedVariables false
set_option linter.unusedSimpArgs false
def OwnI(w:World) (base:Nat) (v:Value) (xs:List Int):Prop:=w.ownsRow base 3 1 v xs.length (xs.map (Value.int .i64))
theorem OwnI.nil(w:World) (base:Nat):OwnI w base (.slice none 0 0) []:=World.ownsRow_nil _ _ _ _
theorem OwnI.below{w w2:World} {base:Nat} {v:Value} {xs:List Int} (h:OwnI w base v xs) (hb:Below w.heap.size w w2):OwnI w2 base v xs:=own_below h hb
theorem OwnI.base{w:World} {B B':Nat} {v:Value} {xs:List Int} (h:OwnI w B v xs) (hB:B'≤B):OwnI w B' v xs:=own_base h hB
theorem OwnI.intS{w:World} {base:Nat} {v:Value} {xs:List Int} (h:OwnI w base v xs) (hx:∀x∈xs,I64 x):IntS w (Fr base w.heap.size) v xs :=
 IntS.own h (fun b hb=>h.lt b hb) hx
theorem OwnI.lt{w:World} {base:Nat} {v:Value} {xs:List Int} (h:OwnI w base v xs):∀b,v.ownBlock=some b→base≤b∧b<w.heap.size:=World.ownsRow.lt h
theorem info_int2:(Tryz.prog.info? 3).map (fun i=>(i.zero,i.size,i.bytes))=some (some (.int .i64 0),1,8):=by kernel_rfl
theorem app_i{ops:Array Oper} {rest:List Oper} {o:Oper} {a:Act} {Q:Exit→Act→World→Prop} {w:World} (x0:Int) (s x:Operand) (hgd:o.guard=none) (ho:o.op=.call { callee:=.builtin .append,args:=#[s,x],argTypes:=#[22,22] })
  (base:Nat) (v:Value) (n:Nat) (xs:List Int) (hl:xs.length=n) (hs:a.eval s=v) (hown:w.ownsRow base 3 1 v n (xs.map (Value.int .i64)))
  (hx:a.eval x=.slice (some ⟨w.heap.size,0,none⟩) 1 1) (hn:n+1≤16777216) (hbase:base≤w.heap.size)
  (h:∀v' w',OwnI w' base v' (xs++[x0])→w.grownBy w' v.ownBlock→(v'.ownBlock=v.ownBlock∨v'.ownBlock=some (w.heap.size+1))→wpList Tryz.prog ops Q rest (a.put o.dst v') w') :
  wpList Tryz.prog ops Q (o :: rest) a (w.alloc (.cells #[.int .i64 x0] 3)):=by
 obtain⟨i0,hi0,hz0,hz1,hz2⟩:=info_parts info_int2;refine wpList_append1 hgd s x _ ho base i0 _ 1 8 Tryz.underlying22 hi0 hz0 hz1 hz2 rfl (by omega) (by omega) v n _ hs hown hx rfl (by simp;rfl) hn hbase (fun v' w' h1=>h v' w' ?_);unfold OwnI;rw[List.length_append,hl,List.map_append];exact h1
def intTo(r:Re) (l:List Fd) (v s:Int) (on:Bool) (j:Nat):List Int:=(List.range j).filterMap fun i:Nat=>if 0≤srcI r l v (i:Int) s on then some (i:Int) else none
theorem intTo_succ(r:Re) (l:List Fd) (v s:Int) (on:Bool) (j:Nat):intTo r l v s on (j+1)=intTo r l v s on j++(if 0≤srcI r l v (j:Int) s on then [(j:Int)] else []):=by
 unfold intTo;rw[List.range_succ,List.filterMap_append]
 congr 1
 by_cases h:0≤srcI r l v (j:Int) s on <;> simp[h]
theorem intTo_yes{r:Re} {l:List Fd} {v s:Int} {on:Bool} {j:Nat} (h:0≤srcI r l v (j:Int) s on):intTo r l v s on (j+1)=intTo r l v s on j++[(j:Int)]:=by rw[intTo_succ,if_pos h]
theorem intTo_no{r:Re} {l:List Fd} {v s:Int} {on:Bool} {j:Nat} (h:¬0≤srcI r l v (j:Int) s on):intTo r l v s on (j+1)=intTo r l v s on j:=by rw[intTo_succ,if_neg h,List.append_nil]
theorem intTo_mem{r:Re} {l:List Fd} {v s:Int} {on:Bool} {j:Nat}:∀x∈intTo r l v s on j,0≤x∧x<j:=by
 intro x hx;simp only[intTo,List.mem_filterMap,List.mem_range] at hx;obtain⟨i,hi,he⟩:=hx;by_cases h:0≤srcI r l v (i:Int) s on
 ·rw[if_pos h] at he;simp at he;omega
 ·rw[if_neg h] at he;cases he
theorem intTo_length{r:Re} {l:List Fd} {v s:Int} {on:Bool} {j:Nat}:(intTo r l v s on j).length≤j:=by
 unfold intTo;exact Nat.le_trans (List.length_filterMap_le _ _) (by simp)
theorem rintact_any(vp vo va vl:Value) (r:Re) (l:List Fd) (v s:Int) (on:Bool) (w:World) (h:ReS w (Bl w.heap.size) vp vo va r) (hl:SlS 7 FdK w (Bl w.heap.size) vl l) :
  Calls Tryz.prog 185 #[.agg #[vp,vo,va],vl,.int .i64 v,.int .i64 s,.bool on] w fun e w'=>∃u,e=.returned u∧OwnI w' w.heap.size u (intTo r l v s on 8)∧Below w.heap.size w w':=by
 have HR:=zh h;have HL:=zh hl;obtain⟨W0,hW0⟩:=zx (w.alloc (.cells #[vp,vo,va] 40));obtain⟨q,hq⟩:=zx w.heap.size
 have c0:W0.cell? ⟨q,0,none⟩=some vp:=by rw[hW0,hq];simp
 have c1:W0.cell? ⟨q,1,none⟩=some vo:=by rw[hW0,hq];simp
 have c2:W0.cell? ⟨q,2,none⟩=some va:=by rw[hW0,hq];simp
 have hb0:Below w.heap.size w W0:=by rw[hW0];exact(Below.refl _ _).alloc (Nat.le_refl _) _
 have hq0:q<W0.heap.size:=by rw[hW0,hq];simp
 have HQ:=zh hq;have HW0:=zh hW0;have HB0:=zh hb0;have HC:=zh (⟨c0,c1,c2⟩:_∧_∧_);clear h hl hW0 hq hb0 c0 c1 c2;go_enter Tryz.func185,Tryz.ntmps185;go_wp2_with fail;rw[←HW0.out,←HQ.out];go_loopg [11,12] 8 (fun z v11 v12 wr=>∃j:Nat,j≤8∧z=8 - j∧v12=.int .i64 (j:Int)∧OwnI wr W0.heap.size v11 (intTo r l v s on j)∧Below W0.heap.size W0 wr)
 case atStart=>exact⟨0,by omega,rfl,rfl,OwnI.nil _ _,Below.refl _ _⟩
 case round =>
  obtain⟨j,hj,rfl,rfl,hO,hbr⟩:=hrel;have hbw:=HB0.out.trans (hbr.mono HB0.out.size);by_cases hlt:j<8
  ·have d0:=(hbr.cell (p:=⟨q,0,none⟩) hq0).trans HC.out.1;have d1:=(hbr.cell (p:=⟨q,1,none⟩) hq0).trans HC.out.2.1;have d2:=(hbr.cell (p:=⟨q,2,none⟩) hq0).trans HC.out.2.2;have HS:=zh (source_any vp vo va vl r l v (j:Int) s on wr (HR.out.below hbw) (SlS.below fdK HL.out hbw))
   have hlen:(intTo r l v s on j).length+1≤16777216:=by have:=intTo_length (r:=r) (l:=l) (v:=v) (s:=s) (on:=on) (j:=j);omega
   have hyes:=intTo_yes (r:=r) (l:=l) (v:=v) (s:=s) (on:=on) (j:=j);have hno:=intTo_no (r:=r) (l:=l) (v:=v) (s:=s) (on:=on) (j:=j);obtain⟨S,hS⟩:=zx (srcI r l v (j:Int) s on);rw[←hS] at hyes hno HS;obtain⟨xs,hxs⟩:=zx (intTo r l v s on j);rw[←hxs] at hyes hno hO hlen;have HY:=zh hyes;have HN:=zh hno;have HO:=zh hO;have HO7:wr.ownsRow W0.heap.size 3 1 _ xs.length (xs.map (Value.int .i64)):=hO;obtain⟨A3,c3,rfl⟩:=own_form HO7;have hsz:=hbr.size;clear hyes hno hS hxs hO HO7;go_wp2_with fail;refine HS.out.mono ?_;rintro e w2 ⟨rfl,hb2⟩;have hbr2:=hbr.trans (hb2.mono hsz);have hO2:=HO.out.below hb2;have hsz2:=hbr2.size;by_cases h0:0≤S
   ·have HE:=zh (HY.out h0);have hO3:w2.ownsRow W0.heap.size 3 1 _ xs.length (xs.map (Value.int .i64)):=hO2;go_wp2_with (at_builtin;refine app_i (j:Int) (.tmp 25) (.tmp 27) rfl rfl W0.heap.size _ xs.length xs rfl (by rfl) hO3 (by rfl) hlen hsz2 ?_;intro v' w5 hown' hg hat);go_roundg (8 - (j+1))
    case measure=>omega
    case rel=>exact⟨j+1,by omega,rfl,by go_num,by rw[HE.out];exact hown',hbr2.grown hg hsz2 (fun b h=>(hO2.lt b h).1)⟩
   ·have HE:=zh (HN.out (by omega));have HO2:=zh hO2;clear hO2;go_wp2_with fail;go_roundg (8 - (j+1))
    case measure=>omega
    case rel=>exact⟨j+1,by omega,rfl,by go_num,by rw[HE.out];exact HO2.out,hbr2⟩
  ·obtain rfl:j=8:=by omega
   have HO:=zh hO;clear hO;go_wp2_with fail;go_ret;exact⟨_,rfl,HO.out.base HB0.out.size,hbw⟩
theorem OwnFd.slBl{w:World} {base:Nat} {e:TypeId} {v:Value} {fs:List Fd} (h:OwnFd w base e v fs) (hd:∀f∈fs,f.drive≤1048576):SlS 7 FdK w (Bl w.heap.size) v fs:=SlS.mono fdK (h.slS hd) (fun _ hb=>hb.2)
def intI(r:Re) (v s:Int) (on:Bool):List Int:=intTo r (pieces r) v s on 8
theorem pieces_drive(r:Re) (hp:r.plat.length≤1048576):∀f∈pieces r,f.drive≤1048576:=fun f hf=>by have:=piecesTo_drive r _ f hf;omega
end Go.Proofs.YtcfkllnpkmebpaaGreatDoor

namespace Go.Proofs.YtcfkllnpkmebpaaGreatDoor
open Go.RowKit
set_option linter.unusedVariables false
set_option linter.unusedSimpArgs false
end Go.Proofs.YtcfkllnpkmebpaaGreatDoor

namespace Go.Proofs.YtcfkllnpkmebpaaGreatDoor
open Go.RowKit
open Go.ChangeMaps Go.MapKept Go.WideShapes
open Go.WideElems (Fit rd rg pl rd_key rd_val rg_of)
open Go.Maps (Keyed)
set_option linter.unusedVariables false
set_option linter.unusedSimpArgs false
def kv(a b:Int):Value:=.agg #[.int .i64 a,.int .i64 b]
theorem kv_inj{a b c d:Int} (h:kv a b=kv c d):a=c∧b=d:=by
 unfold kv at h;simp at h;exact h
def rawR(v:Value):Option (DataW Value×List MemPlace):=some (.held v,[])
structure TwoKey (kt:TypeId):Prop where
 law:Keyed Tryz.prog kt
 wide:WideMaps.KeyLaw Tryz.prog kt
 lit:∀a b,I64 a→I64 b→∃l,keyOf Tryz.prog kt (kv a b)=some l
 inv:∀v l,keyOf Tryz.prog kt v=some l→∃a b,v=kv a b∧I64 a∧I64 b
theorem i64_wf(a:Int):(Lit.int .i64 a).wf=true↔I64 a:=by
 unfold I64
 have h1:IntKind.i64.min = -9223372036854775808:=by decide
 have h2:IntKind.i64.max=9223372036854775807:=by decide
 simp[Lit.wf,h1,h2]
theorem laidOut17:laidOutB Tryz.prog=true:=by kernel_rfl
def MapKV(w:World) (kt:TypeId) (b n:Nat) (f:Int→Int→Option Value):Prop :=
 ∃D,w.ownsMap Tryz.prog kt rawR b n D∧∀x y l,keyOf Tryz.prog kt (kv x y)=some l→Maps.has D l=(f x y).isSome∧∀z,D.atKey l (.held z)=.held ((f x y).getD z)
def upd(f:Int→Int→Option Value) (x y:Int) (v:Value):Int→Int→Option Value:=fun a b=>if a=x∧b=y then some v else f a b
theorem upd_same(f:Int→Int→Option Value) (x y:Int) (v:Value):upd f x y v x y=some v:=if_pos ⟨rfl,rfl⟩
theorem upd_other{f:Int→Int→Option Value} {x y:Int} {v:Value} {a b:Int} (h:¬(a=x∧b=y)):upd f x y v a b=f a b:=if_neg h
theorem MapKV.made(w:World) (kt:TypeId):MapKV (w.alloc (.map #[] 0)) kt w.heap.size 0 (fun _ _=>none) :=
 ⟨_,World.ownsMap_made w Tryz.prog kt rawR,fun x y l _=>⟨rfl,fun z=>rfl⟩⟩
theorem MapKV.lt{w:World} {kt:TypeId} {b n:Nat} {f:Int→Int→Option Value} (h:MapKV w kt b n f):b<w.heap.size:=by
 obtain⟨D,h1,-⟩:=h;exact h1.lt
theorem MapKV.same{w w':World} {kt:TypeId} {b n:Nat} {f:Int→Int→Option Value} (h:MapKV w kt b n f) (e:w'.heap[b]?=w.heap[b]?):MapKV w' kt b n f:=by
 obtain⟨D,⟨es,clock,hb,r⟩,h2⟩:=h;exact⟨D,⟨es,clock,e.trans hb,r⟩,h2⟩
theorem rawR_inj{v:Value} {d:DataW Value} {ps:List MemPlace} (h:rawR v=some (d,ps)):d=.held v:=by
 unfold rawR at h;injection h with h;injection h with h1 h2;exact h1.symm
theorem held_inj{a b:Value} (h:(DataW.held a:DataW Value)=.held b):a=b:=by injection h
section
variable {w : World} {kt t e : TypeId} {b n : Nat} {f : Int → Int → Option Value} {x y : Int} {z : Value}
theorem put_upd{D:DataW Value} {l:Lit} {v:Value} (T:TwoKey kt) (hD:Maps.IsMap D) (h2:∀x y l,keyOf Tryz.prog kt (kv x y)=some l→Maps.has D l=(f x y).isSome∧∀z,D.atKey l (.held z)=.held ((f x y).getD z)) (hl:keyOf Tryz.prog kt (kv x y)=some l) :
  ∀a c l',keyOf Tryz.prog kt (kv a c)=some l'→Maps.has (D.put l (.held v)) l'=(upd f x y v a c).isSome∧∀z,(D.put l (.held v)).atKey l' (.held z)=.held ((upd f x y v a c).getD z):=by
 intro a c l' hl';by_cases hk:a=x∧c=y
 ·obtain⟨rfl,rfl⟩:=hk;rw[hl'] at hl;injection hl with hl;subst hl;rw[upd_same];exact⟨Maps.has_put_same hD (T.law.key hl') _,fun z=>Maps.atKey_put_same hD (T.law.key hl') _ _⟩
 ·rw[upd_other hk]
  have hne:l'≠l:=fun e=>hk (kv_inj (T.law.inj hl' (e▸hl)))
  exact⟨by rw[Maps.has_put_other hne];exact(h2 a c l' hl').1,fun z=>by rw[Maps.atKey_put_other hne];exact(h2 a c l' hl').2 z⟩
theorem MapKV.store(T:TwoKey kt) (h:MapKV w kt b n f) (ht:Tryz.prog.underlying t=some (.map kt e)) (hn:n<maxLen) (hx:I64 x) (hy:I64 y) (v:Value) :
  ∃w',(Instr.mapUpdate t (.map (some b)) (kv x y) v).run Tryz.prog w=.ok () w'∧MapKV w' kt b (n+1) (upd f x y v)∧w.grownBy w' (some b):=by
 obtain⟨D,h1,h2⟩:=h;obtain⟨l,hl⟩:=T.lit x y hx hy;obtain⟨w',hrun,r1,r2⟩:=h1.update T.law ht hn hl (d:=.held v) (ps:=[]) rfl;exact⟨w',hrun,⟨_,r1,put_upd T h1.isMap h2 hl⟩,r2⟩
end
section
variable {w : World} {ops : Array Oper} {rest : List Oper} {o : Oper} {a : Act} {Q : Exit → Act → World → Prop}
theorem kv_store(hg:o.guard=none) (m xo vo:Operand) (t kt e:TypeId) (hop:o.op=Op.mapUpdate t m xo vo) (T:TwoKey kt) (ht:Tryz.prog.underlying t=some (.map kt e)) (b n:Nat) (f:Int→Int→Option Value) (x y:Int) (v:Value)
  (hm:a.eval m=.map (some b)) (hxo:a.eval xo=.agg #[.int .i64 x,.int .i64 y]) (hvo:a.eval vo=v) (h:MapKV w kt b n f) (hn:n<maxLen) (hx:I64 x) (hy:I64 y)
  (hK:∀w',MapKV w' kt b (n+1) (upd f x y v)→w.grownBy w' (some b)→wpList Tryz.prog ops Q rest (a.put o.dst undef) w'):wpList Tryz.prog ops Q (o :: rest) a w:=by
 refine wpList_plain hg fun K' hK'=>?_
 obtain⟨w',hrun,r1,r2⟩:=h.store T ht hn hx hy v;unfold Oper.wp;unfold kv at hrun;simp[execOp,hop,hm,hxo,hvo,hrun,Result.andThen];exact hK' _ _ (hK w' r1 r2)
end
end Go.Proofs.YtcfkllnpkmebpaaGreatDoor

namespace Go.Proofs.YtcfkllnpkmebpaaGreatDoor
open Go.RowKit
open Go.ChangeMaps Go.MapKept Go.WideShapes
open Go.Maps (Keyed)
set_option linter.unusedVariables false
set_option linter.unusedSimpArgs false
section
variable {w : World} {ops : Array Oper} {rest : List Oper} {o : Oper} {a : Act} {Q : Exit → Act → World → Prop}
end
noncomputable def gotten (kt : TypeId) (D : DataW Value) (left : Lit → Bool) (z : Value) : Int → Int → Option Value := fun x y =>
  match keyOf Tryz.prog kt (kv x y) with
  | some l => if Maps.has D l = true ∧ left l = false then some z else none
  | none => none
end Go.Proofs.YtcfkllnpkmebpaaGreatDoor

namespace Go.Proofs.YtcfkllnpkmebpaaGreatDoor
open Go.RowKit
open Go.Maps (Keyed)
set_option linter.unusedVariables false
set_option linter.unusedSimpArgs false
end Go.Proofs.YtcfkllnpkmebpaaGreatDoor

namespace Go.Proofs.YtcfkllnpkmebpaaGreatDoor
open Go.RowKit
set_option linter.unusedVariables false
set_option linter.unusedSimpArgs false
end Go.Proofs.YtcfkllnpkmebpaaGreatDoor

namespace Go.Proofs.YtcfkllnpkmebpaaGreatDoor
open Go.RowKit
set_option linter.unusedVariables false
set_option linter.unusedSimpArgs false
theorem srcI_has(r:Re) (l:List Fd) (v f s:Int) (on:Bool):0≤srcI r l v f s on↔l.any (srcB r v f s on)=true:=by
 unfold srcI
 cases h:l.findIdx? (srcB r v f s on) with
 | none =>
  rw[List.findIdx?_eq_none_iff] at h
  constructor
  ·intro h2;simp at h2
  ·intro h2;obtain⟨x,hx,e⟩:=List.any_eq_true.1 h2;rw[h x hx] at e;cases e
 | some i =>
  obtain⟨hi,hb,-⟩:=List.findIdx?_eq_some_iff_getElem.1 h
  constructor
  ·intro _;exact List.any_eq_true.2 ⟨l[i],List.getElem_mem hi,hb⟩
  ·intro _;simp
end Go.Proofs.YtcfkllnpkmebpaaGreatDoor

namespace Go.Proofs.YtcfkllnpkmebpaaGreatDoor
open Go.RowKit
set_option linter.unusedVariables false
set_option linter.unusedSimpArgs false
end Go.Proofs.YtcfkllnpkmebpaaGreatDoor

namespace Go.Proofs.YtcfkllnpkmebpaaGreatDoor
open Go.RowKit
set_option linter.unusedVariables false
set_option linter.unusedSimpArgs false
def u32V(x:Nat):Value:=.int .u32 (x:Int)
def LS(w:World) (R:Nat→Prop) (v:Value) (l:List Nat):Prop :=
 ((v=.slice none 0 0∧l=[])∨∃b off c,v=.slice (some ⟨b,off,none⟩) l.length c∧l.length≤c∧c≤maxLen∧R b∧∀k x,l[k]?=some x→w.cell? ⟨b,off+k,none⟩=some (u32V x))∧(∀x∈l,x<4294967296)
theorem LS.keep{w w':World} {R:Nat→Prop} {v:Value} {l:List Nat} (h:LS w R v l) (hk:Kept R w w'):LS w' R v l:=by
 refine⟨?_,h.2⟩;rcases h.1 with h1 | ⟨b,off,c,h1,h2,h3,h4,h5⟩
 ·exact .inl h1
 ·exact .inr ⟨b,off,c,h1,h2,h3,h4,fun k x hx=>(hk.cell h4).trans (h5 k x hx)⟩
theorem LS.mono{w:World} {R R':Nat→Prop} {v:Value} {l:List Nat} (h:LS w R v l) (hr:∀b,R b→R' b):LS w R' v l:=by
 refine⟨?_,h.2⟩;rcases h.1 with h1 | ⟨b,off,c,h1,h2,h3,h4,h5⟩
 ·exact .inl h1
 ·exact .inr ⟨b,off,c,h1,h2,h3,hr b h4,h5⟩
theorem LS.below{w w':World} {v:Value} {l:List Nat} (h:LS w (Bl w.heap.size) v l) (hb:Below w.heap.size w w'):LS w' (Bl w'.heap.size) v l:=(h.keep (kept_below hb)).mono (Bl.mono hb.size)
theorem LS.form{w:World} {R:Nat→Prop} {v:Value} {l:List Nat} (h:LS w R v l):∃A c,v=.slice A l.length c∧l.length≤c∧l.length≤maxLen:=by
 rcases h.1 with ⟨rfl,rfl⟩ | ⟨b,off,c,h1,h2,h3,h4,h5⟩
 ·exact⟨none,0,rfl,Nat.le_refl _,by unfold maxLen;simp⟩
 ·exact⟨_,c,h1,h2,Nat.le_trans h2 h3⟩
theorem LS.at_{w:World} {R:Nat→Prop} {A:Option Addr} {n c:Nat} {l:List Nat} (h:LS w R (.slice A n c) l) {k:Nat} (hk:k<l.length):∃b off,A=some ⟨b,off,none⟩∧R b∧w.cell? ⟨b,off+k,none⟩=some (.int .u32 (l[k]:Int))∧l[k]<4294967296:=by
 rcases h.1 with ⟨_,rfl⟩ | ⟨b,off,c',h1,h2,h3,h4,h5⟩
 ·cases hk
 ·injection h1 with h1;exact⟨b,off,h1,h4,h5 k _ (List.getElem?_eq_getElem hk),h.2 _ (List.getElem_mem hk)⟩
theorem LS.nil(w:World) (R:Nat→Prop):LS w R (.slice none 0 0) []:=⟨.inl ⟨rfl,rfl⟩,fun x h=>by cases h⟩
def OwnL(w:World) (base:Nat) (v:Value) (l:List Nat):Prop:=w.ownsRow base 97 1 v l.length (l.map u32V)
theorem OwnL.nil(w:World) (base:Nat):OwnL w base (.slice none 0 0) []:=World.ownsRow_nil _ _ _ _
theorem OwnL.base{w:World} {B B':Nat} {v:Value} {l:List Nat} (h:OwnL w B v l) (hB:B'≤B):OwnL w B' v l:=own_base h hB
theorem OwnL.below{w w2:World} {base:Nat} {v:Value} {l:List Nat} (h:OwnL w base v l) (hb:Below w.heap.size w w2):OwnL w2 base v l:=own_below h hb
theorem OwnL.ls{w:World} {base:Nat} {v:Value} {l:List Nat} (h:OwnL w base v l) (hx:∀x∈l,x<4294967296):LS w (Fr base w.heap.size) v l:=by
 have h1:w.ownsRow base 97 1 v l.length (l.map u32V):=h
 have hc:=fun g=>h1.cells (g:=g)
 have hlt:=h1.lt;refine⟨?_,hx⟩;rcases h1.2 with ⟨rfl,h0⟩ | ⟨g,cap,cur,rfl,_,_,h2,h3,_⟩
 ·exact .inl ⟨rfl,List.eq_nil_of_length_eq_zero h0⟩
 ·refine .inr ⟨g,0,cap,rfl,h2,h3,hlt g rfl,fun k x hk=>?_⟩;have:=hc g rfl k (u32V x) (by simp[hk]);rw[←this];unfold Addr.add;split <;> simp_all
theorem OwnL.lsBl{w:World} {base:Nat} {v:Value} {l:List Nat} (h:OwnL w base v l) (hx:∀x∈l,x<4294967296):LS w (Bl w.heap.size) v l:=(h.ls hx).mono (fun _ hb=>hb.2)
theorem info_u32:(Tryz.prog.info? 97).map (fun i=>(i.zero,i.size,i.bytes))=some (some (.int .u32 0),1,4):=by kernel_rfl
def trimL(l:List Nat):List Nat:=(l.reverse.dropWhile (·==0)).reverse
theorem dropWhile_zeros:∀(a b:List Nat),(∀x∈a,x=0)→(a++b).dropWhile (·==0)=b.dropWhile (·==0)
 | [],_,_=>rfl
 | x :: a,b,h=>by
  have hx:x=0:=h x (by simp);subst hx;simp only[List.cons_append,List.dropWhile_cons];exact dropWhile_zeros a b (fun y hy=>h y (List.mem_cons_of_mem _ hy))
theorem trim_at(l:List Nat) (j:Nat) (hj:j≤l.length) (hz:∀i (h:i<l.length),j≤i→l[i]=0) (hn:∀k (h:k<l.length),j=k+1→l[k]≠0):trimL l=l.take j:=by
 unfold trimL
 have e:l.reverse=(l.drop j).reverse++(l.take j).reverse:=by rw[←List.reverse_append,List.take_append_drop]
 rw[e,dropWhile_zeros]
 ·cases j with
  | zero=>simp
  | succ k =>
   have hk:k<l.length:=by omega
   have h1:(l.take (k+1)).reverse=l[k] :: (l.take k).reverse:=by rw[List.take_succ_eq_append_getElem hk,List.reverse_append];rfl
   have h2:(l[k]==0)=false:=by simpa using hn k hk rfl
   rw[h1,List.dropWhile_cons,h2];simp only[Bool.false_eq_true,if_false];rw[←h1,List.reverse_reverse]
 ·intro x hx;rw[List.mem_reverse] at hx;obtain⟨i,hi,rfl⟩:=List.getElem_of_mem hx;rw[List.getElem_drop];exact hz _ _ (by omega)
theorem trimL_length(l:List Nat):(trimL l).length≤l.length:=by
 unfold trimL;rw[List.length_reverse];exact Nat.le_trans (List.dropWhile_sublist _).length_le (by simp)
def natL(n:Nat):List Nat:=if n=0 then [] else [n]
theorem natL_zero:natL 0=[]:=rfl
theorem natL_pos{n:Nat} (h:0<n):natL n=[n]:=if_neg (by omega)
theorem trim_natL(n:Nat):trimL (natL n)=natL n:=by
 by_cases h:n=0
 ·subst h;rfl
 ·rw[natL_pos (by omega)];simp[trimL,h]
theorem trim_two(n:Nat):trimL [n,0]=natL n:=by
 by_cases h:n=0
 ·subst h;rfl
 ·rw[natL_pos (by omega)];simp[trimL,h]
theorem natL_mem{n:Nat} (h:n<4294967296):∀x∈natL n,x<4294967296:=by
 intro x hx;unfold natL at hx;split at hx
 ·cases hx
 ·simp at hx;omega
theorem natL_length(n:Nat):(natL n).length≤1:=by unfold natL;split <;> simp
theorem below_none{w w':World} (hg:w.grownBy w' (Value.slice none 0 0).ownBlock):Below w.heap.size w w':=⟨hg.os,hg.tape,hg.output,hg.size,fun k hk=>hg.block k hk (fun e=>by cases e)⟩
theorem trim_any(v:Value) (l:List Nat) (R:Nat→Prop) (w:World) (h:LS w R v l) (hR:∀b,R b→b<w.heap.size) (hl:l.length≤1048576) :
  Calls Tryz.prog 179 #[v] w fun e w'=>∃u,e=.returned u∧OwnL w' w.heap.size u (trimL l)∧Below w.heap.size w w':=by
 obtain⟨i0,hi0,hz0,hz1,hz2⟩:=info_parts info_u32;have HL:=zh h;rcases h.1 with ⟨rfl,rfl⟩ | ⟨b,off,c,rfl,hlc,hcm,hRb,hcs⟩
 ·clear h;go_enter Tryz.func179,Tryz.ntmps179;go_wp2_with fail;go_loopg [3] 0 (fun z v3 wr=>w=wr∧v3=.int .i64 0)
  case atStart=>exact⟨rfl,rfl⟩
  case round =>
   obtain⟨rfl,rfl⟩:=hrel;go_wp2_with (at_builtin;refine wpList_append_own_none rfl _ _ _ rfl w.heap.size 97 i0 1 Tryz.underlying81 hi0 (.slice none 0 0) 0 [] (by rfl) (World.ownsRow_nil _ _ _ _) (by rfl) ?_);go_ret;exact⟨_,rfl,OwnL.nil _ _,Below.refl _ _⟩
 ·clear h;unfold maxLen at hcm;have hRl:=hR b hRb;have HCS:=zh hcs;clear hcs;go_enter Tryz.func179,Tryz.ntmps179;go_wp2_with fail;go_loopg [3] l.length (fun z v3 wr=>w=wr∧∃j:Nat,j≤l.length∧z=0+j∧v3=.int .i64 (j:Int)∧Hid (∀i (h:i<l.length),j≤i→l[i]=0))
  case atStart=>exact⟨rfl,l.length,Nat.le_refl _,(Nat.zero_add _).symm,rfl,fun i h h2=>by omega⟩
  case round =>
   obtain⟨rfl,j,hj,rfl,rfl,HZ⟩:=hrel;by_cases h0:j=0
   ·subst h0;have htl:trimL l=l.take 0:=trim_at l 0 hj HZ.out (fun k _ e=>by omega);have HT:=zh htl
    have hnews:∀j2 u,((l.take 0).map u32V)[j2]?=some u→w.cell? ((⟨b,off,none⟩:Addr).add j2)=some u:=by
     intro j2 u hu
     have e1:(⟨b,off,none⟩:Addr).add j2=⟨b,off+j2,none⟩:=by unfold Addr.add;split <;> simp_all
     rw[e1];rw[List.getElem?_map] at hu
     cases hx:(l.take 0)[j2]? with
     | none=>rw[hx] at hu;cases hu
     | some x =>
      rw[hx] at hu;injection hu with hu;rw[←hu];refine HCS.out j2 x ?_;rw[List.getElem?_take] at hx;split at hx
      ·exact hx
      ·cases hx
    have hlt:((l.take 0).map u32V).length=0 * 1:=by simp <;> omega
    have HNW:=zh hnews;have HLT:=zh hlt;clear htl hnews hlt;go_wp2_with (at_builtin;refine wpList_append_own_at (P:=Tryz.prog) _ rfl _ _ _ rfl w.heap.size 97 i0 _ 1 4 Tryz.underlying81 hi0 hz0 hz1 hz2 rfl (by decide) (.slice none 0 0) 0 [] (by rfl) (World.ownsRow_nil _ _ _ _) ⟨b,off,none⟩ 0 c ((l.take 0).map u32V) (by rfl) HLT.out HNW.out (fun u hu=>by obtain⟨x,-,rfl⟩:=List.mem_map.1 hu;rfl) (by unfold maxLen;omega) (by omega) (Nat.le_refl _) ?_;intro v' w' hown' hg' _ hat');go_ret;refine⟨_,rfl,?_,below_none hg'⟩;have h2:=hown';rw[Nat.zero_add,List.nil_append] at h2;unfold OwnL;rw[HT.out,show(l.take 0).length=0 by simp];exact h2
   ·obtain⟨k,rfl⟩:∃k,j=k+1:=⟨j - 1,by omega⟩
    have hkl:k<l.length:=by omega
    have hck:=HCS.out k l[k] (List.getElem?_eq_getElem hkl);unfold u32V at hck
    have hpos:(0:Int)<((k+1:Nat):Int):=by omega
    have hsub:IntKind.i64.wrap (((k+1:Nat):Int) - 1)=(k:Int):=by rw[show((k+1:Nat):Int) - 1=(k:Int) by omega];exact IntWalk.i64_in _ (by omega)
    have hi0':(0:Int)≤(k:Int):=by omega
    have hi1':(k:Int)<(l.length:Int):=by omega
    have hz2':l[k]=0→∀i (h:i<l.length),k≤i→l[i]=0:=fun e i h1 h2=>by
     by_cases e2:i=k
     ·subst e2;exact e
     ·exact HZ.out i h1 (by omega)
    have hnz:l[k]≠0→trimL l=l.take (k+1):=fun e=>trim_at l (k+1) hj HZ.out (fun k2 h2 e2=>by
     have e3:k2=k:=by omega
     subst e3;exact e)
    have HZ2:=zh hz2';have HNZ:=zh hnz;obtain⟨x,hx⟩:=zx (l[k]);rw[←hx] at hck HZ2 HNZ;obtain⟨K1,hK1⟩:=zx (k+1);rw[←hK1] at hpos hsub HNZ hj ⊢;have HK1:=zh hK1;clear hz2' hnz hx HZ hK1;by_cases hx0:x=0
    ·have HZ3:=zh (HZ2.out hx0)
     have q1:((x:Int)==0)=true:=by simpa using hx0
     clear hx0;go_wp2_with fail;go_roundg k
     case measure=>omega
     case rel=>exact⟨rfl,k,by omega,(Nat.zero_add _).symm,rfl,HZ3⟩
    ·have q1:((x:Int)==0)=false:=by simpa using hx0
     have hnz2:=HNZ.out hx0;have htl:trimL l=l.take K1:=hnz2;have HT:=zh htl
     have hnews:∀j2 u,((l.take K1).map u32V)[j2]?=some u→w.cell? ((⟨b,off,none⟩:Addr).add j2)=some u:=by
      intro j2 u hu
      have e1:(⟨b,off,none⟩:Addr).add j2=⟨b,off+j2,none⟩:=by unfold Addr.add;split <;> simp_all
      rw[e1];rw[List.getElem?_map] at hu
      cases hx:(l.take K1)[j2]? with
      | none=>rw[hx] at hu;cases hu
      | some x =>
       rw[hx] at hu;injection hu with hu;rw[←hu];refine HCS.out j2 x ?_;rw[List.getElem?_take] at hx;split at hx
       ·exact hx
       ·cases hx
     have hlt:((l.take K1).map u32V).length=K1 * 1:=by simp <;> omega
     have HNW:=zh hnews;have HLT:=zh hlt;clear htl hnews hlt hnz2;go_wp2_with (at_builtin;refine wpList_append_own_at (P:=Tryz.prog) _ rfl _ _ _ rfl w.heap.size 97 i0 _ 1 4 Tryz.underlying81 hi0 hz0 hz1 hz2 rfl (by decide) (.slice none 0 0) 0 [] (by rfl) (World.ownsRow_nil _ _ _ _) ⟨b,off,none⟩ K1 c ((l.take K1).map u32V) (by rfl) HLT.out HNW.out (fun u hu=>by obtain⟨x,-,rfl⟩:=List.mem_map.1 hu;rfl) (by unfold maxLen;omega) (by omega) (Nat.le_refl _) ?_;intro v' w' hown' hg' _ hat');go_ret;refine⟨_,rfl,?_,below_none hg'⟩;have h2:=hown';rw[Nat.zero_add,List.nil_append] at h2;unfold OwnL;rw[HT.out,show(l.take K1).length=K1 by simp;omega];exact h2
end Go.Proofs.YtcfkllnpkmebpaaGreatDoor

namespace Go.Proofs.YtcfkllnpkmebpaaGreatDoor
open Go.RowKit
set_option linter.unusedVariables false
set_option linter.unusedSimpArgs false
theorem LS.two(w:World) (a b:Nat) (ha:a<4294967296) (hb:b<4294967296):LS (w.alloc (.cells #[.int .u32 (a:Int),.int .u32 (b:Int)] 97)) (Bl (w.heap.size+1)) (.slice (some ⟨w.heap.size,0,none⟩) 2 2) [a,b]:=by
 refine⟨.inr ⟨w.heap.size,0,2,rfl,Nat.le_refl _,by unfold maxLen;decide,Nat.lt_succ_self _,fun k x hk=>?_⟩,fun x hx=>?_⟩
 ·rw[Nat.zero_add,cell_of_row _ _ _ _ _ _ (heap_alloc_new w _)]
  match k,hk with
  | 0,hk=>simp at hk;subst hk;rfl
  | 1,hk=>simp at hk;subst hk;rfl
 ·simp at hx;rcases hx with rfl | rfl
  ·exact ha
  ·exact hb
theorem rmake_any(v:Nat) (w:World) (hv:v<4294967296) :
  Calls Tryz.prog 170 #[.int .u64 (v:Int)] w fun e w'=>∃u,e=.returned u∧OwnL w' w.heap.size u (natL v)∧Below w.heap.size w w':=by
 have hv0:(0:Int)≤(v:Int):=by omega
 have hv1:(v:Int)<4294967296:=by omega
 go_enter Tryz.func170,Tryz.ntmps170;go_wp2_with fail
 have e0:((v:Int) / 4294967296)=((0:Nat):Int):=by omega
 rw[e0];refine(trim_any _ [v,0] _ _ (LS.two w v 0 hv (by omega)) (fun b hb=>by simpa[Bl] using hb) (by simp)).mono ?_;rintro e w2 ⟨u,rfl,hO,hb⟩;rw[trim_two] at hO;have HO:=zh (hO.base (B':=w.heap.size) (by simp));have hbz:=below_box hb;clear hO;go_wp2_with fail;go_ret;exact⟨_,rfl,HO.out,hbz⟩
theorem rlarge_any(v:Value) (l:List Nat) (R:Nat→Prop) (w:World) (h:LS w R v l) (hR:∀b,R b→b<w.heap.size) (hl:l.length≤512) :
  Calls Tryz.prog 244 #[v] w fun e w'=>e=.returned (.bool false)∧Below w.heap.size w w':=by
 have HT:=zh (trim_any v l R w h hR (by omega));have hlen:=trimL_length l;clear h;go_enter Tryz.func244,Tryz.ntmps244;go_wp2_with fail;refine HT.out.mono ?_;rintro e w2 ⟨u,rfl,hO,hb⟩;obtain⟨A,c,rfl⟩:=own_form hO
 have q:¬((512:Int)<((trimL l).length:Int)):=by omega
 generalize (trimL l).length=n at *;clear hO;go_wp2_with fail;go_ret;exact⟨ret_bool (decide_eq_false (by omega)),hb⟩
def cmpI(n m:Nat):Int:=if n<m then -1 else if m<n then 1 else 0
theorem natL_len{n:Nat}:((natL n).length=0↔n=0)∧((natL n).length=1↔0<n):=by
 unfold natL;split <;> simp <;> omega
theorem LS.one{w:World} {R:Nat→Prop} {A:Option Addr} {k c:Nat} {n:Nat} (h:LS w R (.slice A k c) (natL n)) (h0:0<n):∃b off,A=some ⟨b,off,none⟩∧R b∧w.cell? ⟨b,off,none⟩=some (.int .u32 (n:Int)):=by
 have hl:0<(natL n).length:=by rw[natL_pos h0];simp
 obtain⟨b,off,e,hR,hc,-⟩:=h.at_ hl
 have e2:(natL n)[0]=n:=by simp[natL_pos h0]
 rw[e2,Nat.add_zero] at hc;exact⟨b,off,e,hR,hc⟩
theorem rcmp_any(va vb:Value) (n m:Nat) (R R':Nat→Prop) (w:World) (ha:LS w R va (natL n)) (hb:LS w R' vb (natL m)) (hR:∀b,R b→b<w.heap.size) (hR':∀b,R' b→b<w.heap.size) :
  Calls Tryz.prog 227 #[va,vb] w fun e w'=>e=.returned (.int .i64 (cmpI n m))∧Below w.heap.size w w':=by
 have HA:=zh (trim_any va _ R w ha hR (by have:=natL_length n;omega));have HB:=zh (fun w' h h2=>trim_any vb (natL m) R' w' h h2 (by have:=natL_length m;omega));have HLB:=zh hb;have hn32:∀x∈natL n,x<4294967296:=ha.2;have hm32:∀x∈natL m,x<4294967296:=hb.2;have HN:=zh hn32;have HM:=zh hm32;have HR':=zh hR';clear ha hb hR hR' hn32 hm32;go_enter Tryz.func227,Tryz.ntmps227;go_wp2_with fail;refine HA.out.mono ?_;rintro e w2 ⟨u,rfl,hO,hb1⟩;rw[trim_natL] at hO;have HB1:=zh hb1;have HO:=zh hO;clear hO hb1;go_wp2_with fail;refine(HB.out _ (HLB.out.keep (fun b hb=>HB1.out.block b (HR'.out b hb))) (fun b hb=>Nat.lt_of_lt_of_le (HR'.out b hb) HB1.out.size)).mono ?_;rintro e w3 ⟨u2,rfl,hO2,hb2⟩;rw[trim_natL] at hO2;have hb3:=HB1.out.trans (hb2.mono HB1.out.size);have h1:=(HO.out.below hb2).lsBl HN.out;have h2:=hO2.lsBl HM.out;obtain⟨A,c,rfl,-,-⟩:=h1.form;obtain⟨B,d,rfl,-,-⟩:=h2.form;have hln:=natL_len (n:=n);have hlm:=natL_len (n:=m);obtain⟨N,hN⟩:=zx ((natL n).length);obtain⟨M,hM⟩:=zx ((natL m).length)
 have hN1:N≤1:=by rw[hN];exact natL_length n
 have hM1:M≤1:=by rw[hM];exact natL_length m
 rw[←hN] at h1 hln ⊢;rw[←hM] at h2 hlm ⊢;have H1:=zh h1;have H2:=zh h2;clear hO2 hb2 h1 h2 HO HB1 HA HB HLB HR' hN hM;by_cases hne:N=M
 ·subst hne
  have q0:((N:Int) != (N:Int))=false:=by simp
  have hsub:IntKind.i64.wrap ((N:Int) - 1)=(N:Int) - 1:=IntWalk.i64_in _ (by omega);go_wp2_with fail;go_loopg [5] N (fun z v5 wr=>wr.heap.size=w3.heap.size∧Hid (Below w3.heap.size w3 wr)∧((z=0∧v5=.int .i64 (-1)∧n=m)∨(z=1∧v5=.int .i64 0∧0<n∧0<m)))
  case atStart =>
   refine⟨rfl,Below.refl _ _,?_⟩;rcases Nat.lt_or_ge 0 N with h | h
   ·have e1:N=1:=by omega
    subst e1;exact .inr ⟨rfl,rfl,hln.2.1 rfl,hlm.2.1 rfl⟩
   ·have e1:N=0:=by omega
    subst e1;exact .inl ⟨rfl,rfl,by have:=hln.1.1 rfl;have:=hlm.1.1 rfl;omega⟩
  case round =>
   obtain⟨hs,hbr,h⟩:=hrel;rcases h with ⟨rfl,rfl,he⟩ | ⟨rfl,rfl,h0,h0'⟩
   ·have HE:=zh he;have HBR:=zh hbr;clear he hbr;go_wp2_with fail;go_ret;exact⟨ret_int (by unfold cmpI;rw[HE.out];simp),hb3.trans (HBR.out.out.mono hb3.size)⟩
   ·have hbr:=hbr.out
    have e1:N=1:=by
     have h3:=hln.2.2 h0;omega
    subst e1;obtain⟨b1,o1,rfl,hR1,hc1⟩:=H1.out.one h0;obtain⟨b2,o2,rfl,hR2,hc2⟩:=H2.out.one h0';have k1:=(hbr.cell (p:=⟨b1,o1,none⟩) hR1).trans hc1;have k2:=(hbr.cell (p:=⟨b2,o2,none⟩) hR2).trans hc2;have HS:=zh hs;have HBZ:=zh (hb3.trans (hbr.mono hb3.size));have HBR:=zh hbr
    have n0:(0:Int)<(n:Int):=by omega
    clear hc1 hc2 hR1 hR2 hln hlm hsub hN1 hs h0 h0' hb3 hbr;by_cases hlt:n<m
    ·have q1:(n:Int)<(m:Int):=by omega
     have HE:=zh (show cmpI n m = -1 by unfold cmpI;rw[if_pos hlt]);clear hlt;go_wp2_with fail
     go_quiet (fail)
     go_wp2_with fail;go_ret;exact⟨ret_int HE.out.symm,Below.drewN' HBZ.out _⟩
    ·have q1:¬(n:Int)<(m:Int):=by omega
     by_cases hgt:m<n
     ·have q2:(m:Int)<(n:Int):=by omega
      have HE:=zh (show cmpI n m=1 by unfold cmpI;rw[if_neg hlt,if_pos hgt]);clear hlt hgt;go_wp2_with fail
      go_quiet (fail)
      go_wp2_with fail
      go_quiet (fail)
      go_wp2_with fail;go_ret;exact⟨ret_int HE.out.symm,Below.drewN' (Below.drewN' HBZ.out _) _⟩
     ·have q2:¬(m:Int)<(n:Int):=by omega
      have he:n=m:=by omega
      have HE:=zh he;clear hlt hgt he;go_wp2_with fail
      go_quiet (fail)
      go_wp2_with fail
      go_quiet (fail)
      go_wp2_with fail;go_roundg 0
      case measure=>omega
      case rel=>exact⟨HS.out,Below.drewN' HBR.out _,.inl ⟨rfl,rfl,HE.out⟩⟩
 ·have q0:((N:Int) != (M:Int))=true:=by simp;omega
  by_cases hlt:N<M
  ·have e1:N=0:=by omega
   have e2:M=1:=by omega
   have HE:=zh (show cmpI n m = -1 by
    have h3:=hln.1.1 e1;have h4:=hlm.2.1 e2
    unfold cmpI;rw[if_pos (by omega)])
   have q1:(N:Int)<(M:Int):=by omega
   clear hne hlt e1 e2;go_wp2_with fail;go_ret;exact⟨ret_int HE.out.symm,hb3⟩
  ·have e1:M=0:=by omega
   have e2:N=1:=by omega
   have HE:=zh (show cmpI n m=1 by
    have h3:=hlm.1.1 e1;have h4:=hln.2.1 e2
    unfold cmpI;rw[if_neg (by omega),if_pos (by omega)])
   have q1:¬(N:Int)<(M:Int):=by omega
   clear hne hlt e1 e2;go_wp2_with fail;go_ret;exact⟨ret_int HE.out.symm,hb3⟩
end Go.Proofs.YtcfkllnpkmebpaaGreatDoor
