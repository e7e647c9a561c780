/- The drives that hold a good piece: the program's Good, walked. -/
import Derived.Test.YtcfkllnpkmebpaaGreatDoorMq07
import Derived.Test.YtcfkllnpkmebpaaGreatDoorMq01
import Derived.Laws.AppendOwnNone
import Derived.Test.YtcfkllnpkmebpaaGreatDoorMq04
set_option maxRecDepth 100000
set_option maxHeartbeats 12800000
namespace Go.Proofs.YtcfkllnpkmebpaaGreatDoor
open Go.RowKit
set_option linter.unusedVariables false
set_option linter.unusedSimpArgs false
theorem sindex_any(v:Value) (xs:List Int) (x:Int) (R:Nat→Prop) (w:World) (h:IntS w R v xs) :
  Calls Tryz.prog 149 #[v,.int .i64 x] w fun e w'=>(∃i:Int,e=.returned (.int .i64 i)∧(0≤i↔x∈xs))∧w=w':=by
 obtain⟨A,c,rfl,h1,h2⟩:=h.form7;unfold maxLen at h2;have HA:=zh h;clear h;go_enter Tryz.func149,Tryz.ntmps149;go_wp2_with fail;go_loopg [8] xs.length (fun z v8 wr=>w=wr∧∃j:Nat,j≤xs.length∧z=xs.length - j∧v8=.int .i64 (j:Int)∧Hid (∀i (h:i<xs.length),i<j→xs[i]≠x))
 case atStart=>exact⟨rfl,0,by omega,rfl,rfl,fun i h h2=>by omega⟩
 case round =>
  obtain⟨rfl,j,hj,rfl,rfl,HN⟩:=hrel;by_cases hlt:j<xs.length
  ·obtain⟨b,off,rfl,hR,hc,hx⟩:=HA.out.at7 hlt;have hmem:xs[j]∈xs:=List.getElem_mem hlt
   have hnx:xs[j]≠x→∀i (h:i<xs.length),i<j+1→xs[i]≠x:=fun hne i h1 h2=>by
    by_cases e:i=j
    ·subst e;exact hne
    ·exact HN.out i h1 (by omega)
   have HNX:=zh hnx;have HME:=zh hmem;generalize xs[j]=y at *;clear hnx hmem hx;by_cases he:x=y
   ·have q1:(x==y)=true:=by simpa using he
    have HE:=zh he;clear he;go_wp2_with fail;go_ret;exact⟨⟨_,rfl,⟨fun _=>by rw[HE.out];exact HME.out,fun _=>by omega⟩⟩,rfl⟩
   ·have q1:(x==y)=false:=by simpa using he
    have HN2:=zh (HNX.out (fun e=>he e.symm));clear he;go_wp2_with fail;go_roundg (xs.length - (j+1))
    case measure=>omega
    case rel=>exact⟨rfl,j+1,by omega,rfl,by go_num,HN2⟩
  ·have hn:x∉xs:=fun hm=>by
    obtain⟨i,hi,e⟩:=List.getElem_of_mem hm;exact HN.out i hi (by omega) e
   have HNO:=zh hn;clear hn;go_wp2_with fail;go_ret;exact⟨⟨_,rfl,⟨fun h=>by omega,fun h=>absurd h HNO.out⟩⟩,rfl⟩
theorem contains_any(v:Value) (xs:List Int) (x:Int) (R:Nat→Prop) (w:World) (h:IntS w R v xs) :
  Calls Tryz.prog 109 #[v,.int .i64 x] w fun e w'=>e=.returned (.bool (decide (x∈xs)))∧w=w':=by
 have HS:=zh (sindex_any v xs x R w h);clear h;go_enter Tryz.func109,Tryz.ntmps109;go_wp2_with fail;refine HS.out.mono ?_;rintro e w2 ⟨⟨i,rfl,hi⟩,rfl⟩;have HI:=zh hi;clear hi;by_cases h0:0≤i
 ·go_wp2_with fail;go_ret;refine⟨ret_bool ?_,rfl⟩;rw[decide_eq_true (HI.out.1 h0)]
 ·go_wp2_with fail;go_ret;refine⟨ret_bool ?_,rfl⟩;rw[decide_eq_false (fun h:x∈xs=>by have:=HI.out.2 h;omega)];exact decide_eq_false (by omega)
def cStep(f:Int) (acc:List Int) (x:Fd):List Int:=if x.p.frag=f∧(x.drive:Int)∉acc then acc++[(x.drive:Int)] else acc
def goodC(f:Int) (l:List Fd):List Int:=l.foldl (cStep f) []
theorem goodC_succ(f:Int) (l:List Fd) (j:Nat) (h:j<l.length):goodC f (l.take (j+1))=cStep f (goodC f (l.take j)) l[j]:=by
 unfold goodC;rw[List.take_succ_eq_append_getElem h,List.foldl_append]
 rfl
theorem cStep_length(f:Int) (acc:List Int) (x:Fd):(cStep f acc x).length≤acc.length+1:=by unfold cStep;split <;> simp
theorem goodC_length(f:Int) (l:List Fd):(goodC f l).length≤l.length:=by
 have:∀(l:List Fd) (acc:List Int),(l.foldl (cStep f) acc).length≤acc.length+l.length:=by
  intro l
  induction l with
  | nil=>intro acc;simp
  | cons x l ih =>
   intro acc;have h1:=ih (cStep f acc x);have h2:=cStep_length f acc x;simp only[List.foldl_cons,List.length_cons];omega
 simpa[goodC] using this l []
theorem goodC_mem(f:Int) (l:List Fd):∀y∈goodC f l,∃x∈l,y=(x.drive:Int):=by
 have:∀(l:List Fd) (acc:List Int),∀y∈l.foldl (cStep f) acc,y∈acc∨∃x∈l,y=(x.drive:Int):=by
  intro l
  induction l with
  | nil=>intro acc y hy;exact .inl hy
  | cons x l ih =>
   intro acc y hy;rcases ih _ y hy with h | ⟨z,hz,e⟩
   ·unfold cStep at h;split at h
    ·rcases List.mem_append.1 h with h | h
     ·exact .inl h
     ·exact .inr ⟨x,by simp,by simpa using h⟩
    ·exact .inl h
   ·exact .inr ⟨z,List.mem_cons_of_mem _ hz,e⟩
 intro y hy;rcases this l [] y hy with h | h
 ·cases h
 ·exact h
def Rise(l:List Fd):Prop:=l.Pairwise fun a b=>a.drive≤b.drive
theorem drvP_all(acks:List Ac) (d:Nat) (l:List ByteArray):∀x∈drvP acks d l,x.drive=d∧validP x.p=true∧verOf acks x.p.vol x.p.stripe=some x.p.ver:=by
 intro x hx;simp only[drvP,List.mem_filterMap] at hx;obtain⟨s,-,hs⟩:=hx
 cases hg:goodP acks s with
 | none=>rw[hg] at hs;cases hs
 | some p =>
  rw[hg] at hs;injection hs with hs;subst hs;unfold goodP at hg;split at hg
  ·rename_i h0
   injection hg with hg;subst hg;refine⟨rfl,?_,h0.2⟩;have h1:=h0.1;unfold decEr at h1;split at h1
   ·cases h1
   ·split at h1
    ·cases h1
    ·split at h1
     ·cases h1
     ·split at h1
      ·rename_i h2;exact h2.1
      ·cases h1
  ·cases hg
theorem piecesTo_all(r:Re) (d:Nat):∀x∈piecesTo r d,validP x.p=true∧verOf r.acks x.p.vol x.p.stripe=some x.p.ver:=by
 intro x hx;simp only[piecesTo,List.mem_flatMap,List.mem_range] at hx;obtain⟨k,hk,hm⟩:=hx;exact(drvP_all _ _ _ x hm).2
theorem piecesTo_rise(r:Re):∀d,Rise (piecesTo r d):=by
 intro d
 induction d with
 | zero=>exact List.Pairwise.nil
 | succ d ih =>
  rw[piecesTo_succ];refine List.pairwise_append.2 ⟨ih,?_,fun a ha b hb=>?_⟩
  ·refine List.pairwise_of_forall_mem_list fun a ha b hb=>?_
   rw[(drvP_all _ _ _ a ha).1,(drvP_all _ _ _ b hb).1];exact Nat.le_refl _
  ·have h1:=piecesTo_drive r d a ha;rw[(drvP_all _ _ _ b hb).1];omega
theorem isB_eq(p:Pc) (v f s:Int):isB p v f s=((p.vol==v&&p.stripe==s)&&p.frag==f):=by
 unfold isB
 cases p.vol==v <;> cases p.frag==f <;> cases p.stripe==s <;> rfl
theorem good_same(v f s:Int):∀(l:List Fd) (acc:List Int),Rise l→acc.Pairwise (fun a b=>a<b)→(∀a∈acc,∀x∈l,a≤(x.drive:Int))→l.foldl (gStep v f s) acc=(stripeP l v s).foldl (cStep f) acc
 | [],_,_,_,_=>rfl
 | x :: l,acc,hr,hs,hle=>by
  have hr2:Rise l:=(List.pairwise_cons.1 hr).2;have hx:=(List.pairwise_cons.1 hr).1
  have hsp:stripeP (x :: l) v s=if(x.p.vol==v&&x.p.stripe==s)=true then x :: stripeP l v s else stripeP l v s:=by
   unfold stripeP;rw[List.filter_cons]
  rw[List.foldl_cons,hsp];by_cases hk:(x.p.vol==v&&x.p.stripe==s)=true
  ·rw[if_pos hk,List.foldl_cons]
   have hlast:(acc.getLast?≠some (x.drive:Int))↔(x.drive:Int)∉acc:=by
    constructor
    ·intro h hm;apply h
     have hne:acc≠[]:=fun e=>by rw[e] at hm;cases hm
     rw[List.getLast?_eq_some_getLast hne]
     congr 1
     have h1:=hle _ (List.getLast_mem hne) x (by simp);obtain⟨i,hi,he⟩:=List.getElem_of_mem hm;rw[List.getLast_eq_getElem] at h1 ⊢;by_cases e:i=acc.length - 1
     ·subst e;exact he
     ·have h2:=List.pairwise_iff_getElem.1 hs i (acc.length - 1) hi (by omega) (by omega);omega
    ·intro h e;exact h (List.mem_of_getLast? e)
   have hstep:gStep v f s acc x=cStep f acc x:=by
    unfold gStep cStep;rw[isB_eq,hk];by_cases hf:x.p.frag=f
    ·by_cases hm:(x.drive:Int)∉acc
     ·rw[if_pos ⟨by simpa using hf,hlast.2 hm⟩,if_pos ⟨hf,hm⟩]
     ·rw[if_neg (fun h=>hm (hlast.1 h.2)),if_neg (fun h=>hm h.2)]
    ·rw[if_neg (fun h=>hf (by simpa using h.1)),if_neg (fun h=>hf h.1)]
   rw[hstep];refine good_same v f s l _ hr2 ?_ ?_
   ·unfold cStep;split
    ·rename_i h
     refine List.pairwise_append.2 ⟨hs,by simp,fun a ha b hb=>?_⟩
     have hb':b=(x.drive:Int):=by simpa using hb
     subst hb';have h1:=hle a ha x (by simp)
     have h2:a≠(x.drive:Int):=fun e=>h.2 (e▸ha)
     omega
    ·exact hs
   ·intro a ha y hy;unfold cStep at ha;split at ha
    ·rcases List.mem_append.1 ha with h | h
     ·exact hle a h y (List.mem_cons_of_mem _ hy)
     ·have:=hx y hy
      have h2:a=(x.drive:Int):=by simpa using h
      omega
    ·exact hle a ha y (List.mem_cons_of_mem _ hy)
  ·rw[if_neg hk]
   have hstep:gStep v f s acc x=acc:=by
    unfold gStep;rw[isB_eq]
    have hk':(x.p.vol==v&&x.p.stripe==s)=false:=by simpa using hk
    rw[hk',if_neg (fun h=>by simp at h)]
   rw[hstep];exact good_same v f s l acc hr2 hs (fun a ha y hy=>hle a ha y (List.mem_cons_of_mem _ hy))
theorem goodC_pieces(r:Re) (v f s:Int):goodC f (stripeP (pieces r) v s)=goodI r v f s :=
 (good_same v f s (pieces r) [] (piecesTo_rise r _) List.Pairwise.nil (fun a ha=>by cases ha)).symm
theorem Groups.at_{w:World} {base:Nat} {acks:List Ac} {f:Int→Int→Option Value} {fs:List Fd} (h:Groups w base acks f fs) (hv:∀x∈fs,verOf acks x.p.vol x.p.stripe=some x.p.ver) {x y:Int} (hx:I64 x) (hy:I64 y) :
  OwnFd w base 152 ((f x y).getD (.slice none 0 0)) (stripeP fs x y):=by
 rcases h.1 x y hx hy with ⟨h1,h2⟩ | ⟨_,v,h2,h3⟩
 ·have:stripeP fs x y=[]:=by
   unfold stripeP;rw[List.filter_eq_nil_iff];intro a ha he
   have he2:a.p.vol=x∧a.p.stripe=y:=by simpa using he
   have h3:=hv a ha;rw[he2.1,he2.2,h1] at h3
   cases h3
  rw[this,h2];exact World.ownsRow_nil _ _ _ _
 ·rw[h2];exact h3
theorem good_any(vp vo va:Value) (r:Re) (v f s:Int) (w:World) (h:ReS w (Bl w.heap.size) vp vo va r) (hp:r.plat.length≤1000) (hl:∀l∈r.plat,l.length≤1000) (hac:r.acks.length≤1000000) (hv:I64 v) (hs:I64 s) :
  Calls Tryz.prog 61 #[.agg #[vp,vo,va],.int .i64 v,.int .i64 f,.int .i64 s] w fun e w'=>∃u,e=.returned u∧OwnI w' w.heap.size u (goodI r v f s)∧Below w.heap.size w w':=by
 have HIX:=zh (fun w1 h1=>index_any vp vo va r w1 h1 hp hl hac);have hpa:=piecesTo_all r r.plat.length;have hpd:=pieces_drive r (by omega)
 have hlen:(stripeP (pieces r) v s).length≤1000000:=by
  have h0:=stripeP_length (pieces r) v s;have h1:=piecesTo_length r 1000 hl r.plat.length;have h2:r.plat.length * 1000≤1000 * 1000:=Nat.mul_le_mul_right 1000 hp;unfold pieces at h0 ⊢;omega
 have hgd:=goodC_pieces r v f s
 have hsd:∀x∈stripeP (pieces r) v s,x.drive≤1048576:=fun x hx=>hpd x (List.mem_filter.1 hx).1
 obtain⟨l,hpl⟩:=zx (stripeP (pieces r) v s);rw[←hpl] at hlen hgd hsd;have HPA:=zh hpa;have HPL:=zh hpl;have HGD:=zh hgd;have HSD:=zh hsd;obtain⟨W0,hW0⟩:=zx (w.alloc (.cells #[vp,vo,va] 40));obtain⟨q,hq⟩:=zx w.heap.size
 have c0:W0.cell? ⟨q,0,none⟩=some vp:=by rw[hW0,hq];simp
 have c1:W0.cell? ⟨q,1,none⟩=some vo:=by rw[hW0,hq];simp
 have c2:W0.cell? ⟨q,2,none⟩=some va:=by rw[hW0,hq];simp
 have hb0:Below w.heap.size w W0:=by rw[hW0];exact(Below.refl _ _).alloc (Nat.le_refl _) _
 have HQ:=zh hq;have HW0:=zh hW0;have HB0:=zh hb0;have HR0:=zh (h.below hb0);clear h hp hl hac hW0 hq hb0 hpl hpa hpd hgd hsd;go_enter Tryz.func61,Tryz.ntmps61;go_wp2_with fail;rw[←HW0.out,←HQ.out];refine(HIX.out _ HR0.out).mono ?_;rintro e w1 ⟨b,n,fm,rfl,hbb,hM,hG,hb1⟩;have hown:=hG.at_ (fun x hx=>(HPA.out x hx).2) hv hs;rw[←(show stripeP (piecesTo r r.plat.length) v s=stripeP (pieces r) v s from rfl),show stripeP (piecesTo r r.plat.length) v s=l from HPL.out.symm] at hown;obtain⟨A,c,hfm⟩:=own_form hown
 have hLL:SlS 7 FdK w1 (Bl w1.heap.size) (.slice A l.length c) l:=by rw[←hfm];exact OwnFd.slBl hown HSD.out
 have hm:l.length≤9223372036854775807:=by omega
 have HFM:=zh hfm;have HL:=zh hLL;have HMV:=zh hM;have HB1:=zh (HB0.out.trans (hb1.mono HB0.out.size));clear c0 c1 c2 hM hG hown hfm hLL hb1;go_wp2_with (at_lookup;refine kv_look rfl _ _ _ 147 143 rfl key_two Tryz.underlying144 b n fm v s (.slice none 0 0) (by rfl) (by rfl) HMV.out (zero_fds _) hv hs _ HFM.out ?_);obtain⟨W1,hW1⟩:=zx w1;rw[←hW1] at HL HB1 ⊢;clear HMV;subst hW1;go_loopg [9,19] l.length (fun z v9 v19 wr=>∃j:Nat,j≤l.length∧z=l.length - j∧v19=.int .i64 (j:Int)∧OwnI wr W1.heap.size v9 (goodC f (l.take j))∧Below W1.heap.size W1 wr)
 case atStart=>exact⟨0,by omega,rfl,rfl,OwnI.nil _ _,Below.refl _ _⟩
 case round =>
  obtain⟨j,hj,rfl,rfl,hO,hbr⟩:=hrel;by_cases hlt:j<l.length
  ·obtain⟨b2,off,cs,rfl,hRb,-,hcs,hfk,hdr⟩:=HL.out.at_ hlt;obtain⟨k0,k1,k2,k3,k4,k5,k6⟩:=seven hcs hfk;have hnx:=goodC_succ f l j hlt
   have hlen2:(goodC f (l.take j)).length+1≤16777216:=by
    have h1:=goodC_length f (l.take j);have h2:(l.take j).length≤j:=List.length_take_le _ _;omega
   have hmem:∀y∈goodC f (l.take j),I64 y:=fun y hy=>by
    obtain⟨x,hx,rfl⟩:=goodC_mem f _ y hy;have:=HSD.out x (List.mem_of_mem_take hx)
    constructor <;> omega
   obtain⟨x,hx⟩:=zx (l[j]);rw[←hx] at k0 k1 k2 k3 k4 k5 k6 hdr hnx;obtain⟨xs,hxs⟩:=zx (goodC f (l.take j));rw[←hxs] at hnx hO hlen2 hmem
   have kk:∀i u,W1.cell? ⟨b2,i,none⟩=some u→wr.cell? ⟨b2,i,none⟩=some u:=fun i u e=>(hbr.cell (p:=⟨b2,i,none⟩) hRb).trans e
   obtain⟨dr,⟨pa,pb,pc,pg,pr,px⟩⟩:=x;simp only at k0 k1 k2 k3 k4 k5 k6 hdr;have m0:=kk _ _ k0;have m1:=kk _ _ k1;have m2:=kk _ _ k2;have m3:=kk _ _ k3;have m4:=kk _ _ k4;have m5:=kk _ _ k5;have m6:=kk _ _ k6;obtain⟨y,hy⟩:∃y:ByteArray,y=⟨px.toArray⟩:=⟨_,rfl⟩;rw[←hy] at m6;have HNX:=zh hnx;have hsz:=hbr.size;obtain⟨W3,hW3⟩:=zx (wr.alloc (.cells #[.int .i64 (dr:Int),.int .i64 pa,.int .i64 pb,.int .i64 pc,.int .i64 pg,.int .i64 pr,.string y] 152));obtain⟨g,hg⟩:=zx wr.heap.size
   have n0:W3.cell? ⟨g,0,none⟩=some (.int .i64 (dr:Int)):=by rw[hW3,hg];simp
   have n2:W3.cell? ⟨g,2,none⟩=some (.int .i64 pb):=by rw[hW3,hg];simp
   have hb3:Below W1.heap.size W1 W3:=by rw[hW3];exact hbr.alloc hsz _
   obtain⟨A3,c3,rfl⟩:=hO.form
   have hO3:OwnI W3 W1.heap.size (.slice A3 xs.length c3) xs:=by rw[hW3];exact World.ownsRow.alloc hO _
   have HC:=zh (contains_any _ xs (dr:Int) _ W3 (hO3.intS hmem));have HO3:=zh hO3;have HB3:=zh hb3;have HW3:=zh hW3;have HG3:=zh hg;have hsz3:=hb3.size;have HX2:=zh (show xs.length+1≤16777216 from hlen2);clear k0 k1 k2 k3 k4 k5 k6 hcs hfk hx hnx hy kk hxs cs hRb hO hO3 hb3 hW3 hg hmem hlen2;by_cases hf:pb=f
   ·have q1:(pb==f)=true:=by simpa using hf
    by_cases hm2:(dr:Int)∈xs
    ·have HN2:=zh (HNX.out.trans (show cStep f xs ⟨dr,⟨pa,pb,pc,pg,pr,px⟩⟩=xs from if_neg (fun h=>h.2 hm2)));have q2:decide ((dr:Int)∈xs)=true:=decide_eq_true hm2;rw[q2] at HC;clear hf hm2 q2;go_wp2_with fail;rw[←HW3.out];refine HC.out.mono ?_;rintro e w4 ⟨rfl,rfl⟩;go_wp2_with fail;go_roundg (l.length - (j+1))
     case measure=>omega
     case rel=>exact⟨j+1,by omega,rfl,by go_num,by rw[HN2.out];exact HO3.out,HB3.out⟩
    ·have HN2:=zh (HNX.out.trans (show cStep f xs ⟨dr,⟨pa,pb,pc,pg,pr,px⟩⟩=xs++[(dr:Int)] from if_pos ⟨hf,hm2⟩));have q2:decide ((dr:Int)∈xs)=false:=decide_eq_false hm2;rw[q2] at HC;clear hf hm2 q2;go_wp2_with fail;rw[←HW3.out,←HG3.out];refine HC.out.mono ?_;rintro e w4 ⟨rfl,rfl⟩;have hO4:W3.ownsRow W1.heap.size 3 1 (.slice A3 xs.length c3) xs.length (xs.map (Value.int .i64)):=HO3.out;go_wp2_with (at_builtin;refine app_i (dr:Int) (.tmp 35) (.tmp 38) rfl rfl W1.heap.size _ xs.length xs rfl (by rfl) hO4 (by rfl) HX2.out hsz3 ?_;intro v' w5 hown' hg hat);go_roundg (l.length - (j+1))
     case measure=>omega
     case rel=>exact⟨j+1,by omega,rfl,by go_num,by rw[HN2.out];exact hown',HB3.out.grown hg hsz3 (fun b h=>(HO3.out.lt b h).1)⟩
   ·have q1:(pb==f)=false:=by simpa using hf
    have HN2:=zh (HNX.out.trans (show cStep f xs ⟨dr,⟨pa,pb,pc,pg,pr,px⟩⟩=xs from if_neg (fun h=>hf h.1)));clear hf;go_wp2_with fail;rw[←HW3.out];go_roundg (l.length - (j+1))
    case measure=>omega
    case rel=>exact⟨j+1,by omega,rfl,by go_num,by rw[HN2.out];exact HO3.out,HB3.out⟩
  ·have hE:goodC f (l.take j)=goodI r v f s:=by rw[List.take_of_length_le (by omega)];exact HGD.out
   have HE:=zh hE;have HO:=zh hO;have hbz:=HB1.out.trans (hbr.mono HB1.out.size);clear hE hO;go_wp2_with fail;go_ret;refine⟨_,rfl,?_,hbz⟩;have h1:=HO.out;rw[HE.out] at h1;exact h1.base HB1.out.size
def bools8(js:Nat→Bool):Array Value:=#[.bool (js 0),.bool (js 1),.bool (js 2),.bool (js 3),.bool (js 4),.bool (js 5),.bool (js 6),.bool (js 7)]
def SetB(W:World) (g:Nat) (js:Nat→Bool):Prop:=W.heap[g]?=some (.cells (bools8 js) 208 (0,0))
theorem index8_0(js:Nat→Bool) (w:World):(Instr.index 208 (.agg #[.bool (js 0),.bool (js 1),.bool (js 2),.bool (js 3),.bool (js 4),.bool (js 5),.bool (js 6),.bool (js 7)]) (.int .i64 0)).run Tryz.prog w=.ok (.bool (js 0)) w:=by kernel_rfl
theorem index8_1(js:Nat→Bool) (w:World):(Instr.index 208 (.agg #[.bool (js 0),.bool (js 1),.bool (js 2),.bool (js 3),.bool (js 4),.bool (js 5),.bool (js 6),.bool (js 7)]) (.int .i64 1)).run Tryz.prog w=.ok (.bool (js 1)) w:=by kernel_rfl
theorem index8_2(js:Nat→Bool) (w:World):(Instr.index 208 (.agg #[.bool (js 0),.bool (js 1),.bool (js 2),.bool (js 3),.bool (js 4),.bool (js 5),.bool (js 6),.bool (js 7)]) (.int .i64 2)).run Tryz.prog w=.ok (.bool (js 2)) w:=by kernel_rfl
theorem index8_3(js:Nat→Bool) (w:World):(Instr.index 208 (.agg #[.bool (js 0),.bool (js 1),.bool (js 2),.bool (js 3),.bool (js 4),.bool (js 5),.bool (js 6),.bool (js 7)]) (.int .i64 3)).run Tryz.prog w=.ok (.bool (js 3)) w:=by kernel_rfl
theorem index8_4(js:Nat→Bool) (w:World):(Instr.index 208 (.agg #[.bool (js 0),.bool (js 1),.bool (js 2),.bool (js 3),.bool (js 4),.bool (js 5),.bool (js 6),.bool (js 7)]) (.int .i64 4)).run Tryz.prog w=.ok (.bool (js 4)) w:=by kernel_rfl
theorem index8_5(js:Nat→Bool) (w:World):(Instr.index 208 (.agg #[.bool (js 0),.bool (js 1),.bool (js 2),.bool (js 3),.bool (js 4),.bool (js 5),.bool (js 6),.bool (js 7)]) (.int .i64 5)).run Tryz.prog w=.ok (.bool (js 5)) w:=by kernel_rfl
theorem index8_6(js:Nat→Bool) (w:World):(Instr.index 208 (.agg #[.bool (js 0),.bool (js 1),.bool (js 2),.bool (js 3),.bool (js 4),.bool (js 5),.bool (js 6),.bool (js 7)]) (.int .i64 6)).run Tryz.prog w=.ok (.bool (js 6)) w:=by kernel_rfl
theorem index8_7(js:Nat→Bool) (w:World):(Instr.index 208 (.agg #[.bool (js 0),.bool (js 1),.bool (js 2),.bool (js 3),.bool (js 4),.bool (js 5),.bool (js 6),.bool (js 7)]) (.int .i64 7)).run Tryz.prog w=.ok (.bool (js 7)) w:=by kernel_rfl
theorem index8(js:Nat→Bool) (j:Nat) (hj:j<8) (w:World):(Instr.index 208 (.agg #[.bool (js 0),.bool (js 1),.bool (js 2),.bool (js 3),.bool (js 4),.bool (js 5),.bool (js 6),.bool (js 7)]) (.int .i64 (j:Int))).run Tryz.prog w=.ok (.bool (js j)) w:=by
 match j,hj with
 | 0,_=>exact index8_0 js w
 | 1,_=>exact index8_1 js w
 | 2,_=>exact index8_2 js w
 | 3,_=>exact index8_3 js w
 | 4,_=>exact index8_4 js w
 | 5,_=>exact index8_5 js w
 | 6,_=>exact index8_6 js w
 | 7,_=>exact index8_7 js w
theorem SetB.cell{W:World} {g:Nat} {js:Nat→Bool} (h:SetB W g js) (j:Nat) (hj:j<8):W.cell? ⟨g,j,none⟩=some (.bool (js j)):=by
 rw[cell_of_row W g j _ _ _ h]
 match j,hj with
 | 0,_=>rfl
 | 1,_=>rfl
 | 2,_=>rfl
 | 3,_=>rfl
 | 4,_=>rfl
 | 5,_=>rfl
 | 6,_=>rfl
 | 7,_=>rfl
theorem SetB.free{W:World} {g:Nat} {js:Nat→Bool} (h:SetB W g js) (j:Nat):W.frozen? ⟨g,j,none⟩=false:=frozen_of_row W g j _ _ h
theorem SetB.set{W:World} {g:Nat} {js:Nat→Bool} (h:SetB W g js) (j:Nat) (hj:j<8):SetB (W.setCell ⟨g,j,none⟩ (.bool true)) g (fun i=>if i=j then true else js i):=by
 have h1:=heap_setCell_same W g j _ _ (.bool true) h;unfold SetB;rw[h1]
 congr 2
 match j,hj with
 | 0,_=>rfl
 | 1,_=>rfl
 | 2,_=>rfl
 | 3,_=>rfl
 | 4,_=>rfl
 | 5,_=>rfl
 | 6,_=>rfl
 | 7,_=>rfl
theorem SetB.below{W W':World} {g:Nat} {js:Nat→Bool} (h:SetB W g js) (hb:Below W.heap.size W W'):SetB W' g js:=by
 have hlt:g<W.heap.size:=(Array.getElem?_eq_some_iff.1 h).1;exact(hb.block g hlt).trans h
def hasB(r:Re) (up:Bool) (l:List Fd) (i:Nat):Bool:=l.any fun x=>x.p.frag==(i:Int)&&(!up||onB r x.drive)
theorem hasB_succ(r:Re) (up:Bool) (l:List Fd) (j:Nat) (h:j<l.length) (i:Nat):hasB r up (l.take (j+1)) i=(hasB r up (l.take j) i||(l[j].p.frag==(i:Int)&&(!up||onB r l[j].drive))):=by
 unfold hasB;rw[List.take_succ_eq_append_getElem h,List.any_append];simp
def outTo(r:Re) (up:Bool) (l:List Fd) (n:Int) (j:Nat):List Int:=(List.range j).filterMap fun i:Nat=>if hasB r up l i=true∧(i:Int)<n then some (i:Int) else none
theorem outTo_succ(r:Re) (up:Bool) (l:List Fd) (n:Int) (j:Nat):outTo r up l n (j+1)=outTo r up l n j++(if hasB r up l j=true∧(j:Int)<n then [(j:Int)] else []):=by
 unfold outTo;rw[List.range_succ,List.filterMap_append]
 congr 1
 by_cases h:hasB r up l j=true∧(j:Int)<n
 ·simp[h]
 ·rw[if_neg h];simp only[List.filterMap_cons,List.filterMap_nil];rw[if_neg h]
theorem outTo_yes{r:Re} {up:Bool} {l:List Fd} {n:Int} {j:Nat} (h:hasB r up l j=true) (h2:(j:Int)<n):outTo r up l n (j+1)=outTo r up l n j++[(j:Int)]:=by rw[outTo_succ,if_pos ⟨h,h2⟩]
theorem outTo_no{r:Re} {up:Bool} {l:List Fd} {n:Int} {j:Nat} (h:¬(hasB r up l j=true∧(j:Int)<n)):outTo r up l n (j+1)=outTo r up l n j:=by rw[outTo_succ,if_neg h,List.append_nil]
theorem outTo_length{r:Re} {up:Bool} {l:List Fd} {n:Int} {j:Nat}:(outTo r up l n j).length≤j:=by
 unfold outTo;exact Nat.le_trans (List.length_filterMap_le _ _) (by simp)
theorem outTo_mem{r:Re} {up:Bool} {l:List Fd} {n:Int} {j:Nat}:∀x∈outTo r up l n j,0≤x∧x<j:=by
 intro x hx;simp only[outTo,List.mem_filterMap,List.mem_range] at hx;obtain⟨i,hi,he⟩:=hx;by_cases h:hasB r up l i=true∧(i:Int)<n
 ·rw[if_pos h] at he;simp at he;omega
 ·rw[if_neg h] at he;cases he
theorem srcI_has(r:Re) (l:List Fd) (v f s:Int) (on:Bool):0≤srcI r l v f s on↔l.any (srcB r v f s on)=true:=by
 unfold srcI
 cases h:l.findIdx? (srcB r v f s on) with
 | none =>
  rw[List.findIdx?_eq_none_iff] at h
  constructor
  ·intro h2;simp at h2
  ·intro h2;obtain⟨x,hx,e⟩:=List.any_eq_true.1 h2;rw[h x hx] at e;cases e
 | some i =>
  obtain⟨hi,hb,-⟩:=List.findIdx?_eq_some_iff_getElem.1 h
  constructor
  ·intro _;exact List.any_eq_true.2 ⟨l[i],List.getElem_mem hi,hb⟩
  ·intro _;simp
theorem src_stripe(r:Re) (l:List Fd) (v s:Int) (on:Bool) (i:Nat):l.any (srcB r v (i:Int) s on)=hasB r on (stripeP l v s) i:=by
 unfold hasB stripeP;rw[List.any_filter]
 congr 1
 funext x
 unfold srcB;rw[isB_eq]
 cases (x.p.vol==v&&x.p.stripe==s) <;> cases (x.p.frag==(i:Int)) <;> simp
theorem intTo_out(r:Re) (l:List Fd) (v s:Int) (on:Bool) (j:Nat) (n:Int) (hj:(j:Int)≤n):intTo r l v s on j=outTo r on (stripeP l v s) n j:=by
 induction j with
 | zero=>rfl
 | succ j ih =>
  have h1:=srcI_has r l v (j:Int) s on;rw[src_stripe] at h1;rw[intTo_succ,outTo_succ,ih (by omega)]
  congr 1
  by_cases h:0≤srcI r l v (j:Int) s on
  ·rw[if_pos h,if_pos ⟨h1.1 h,by omega⟩]
  ·rw[if_neg h,if_neg (fun h2=>h (h1.2 h2.1))]
theorem intact_any(vp vo va vl:Value) (r:Re) (l:List Fd) (n:Int) (up:Bool) (w:World) (h:ReS w (Bl w.heap.size) vp vo va r) (hl:SlS 7 FdK w (Bl w.heap.size) vl l) (hfr:∀x∈l,0≤x.p.frag∧x.p.frag<8) (hn:I64 n) :
  Calls Tryz.prog 71 #[.agg #[vp,vo,va],vl,.int .i64 n,.bool up] w fun e w'=>∃u,e=.returned u∧OwnI w' w.heap.size u (outTo r up l n 8)∧Below w.heap.size w w':=by
 obtain⟨Al,cl,rfl,-,hm⟩:=hl.form;unfold maxLen at hm;have HR:=zh h;have HL:=zh hl;have HFR:=zh hfr;obtain⟨W0,hW0⟩:=zx ((w.alloc (.cells #[vp,vo,va] 40)).alloc (.cells #[.bool false,.bool false,.bool false,.bool false,.bool false,.bool false,.bool false,.bool false] 208));obtain⟨q,hq⟩:=zx w.heap.size
 have c0:W0.cell? ⟨q,0,none⟩=some vp:=by rw[hW0,hq];simp
 have c1:W0.cell? ⟨q,1,none⟩=some vo:=by rw[hW0,hq];simp
 have c2:W0.cell? ⟨q,2,none⟩=some va:=by rw[hW0,hq];simp
 have hb0:Below w.heap.size w W0:=by rw[hW0];exact((Below.refl _ _).alloc (Nat.le_refl _) _).alloc (by simp) _
 have hs0:SetB W0 (q+1) (fun _=>false):=by rw[hW0,hq];exact heap_alloc_at _ _ _ (by simp)
 have hq0:W0.heap.size=q+2:=by rw[hW0,hq];simp
 have HQ:=zh hq;have HW0:=zh hW0;have HB0:=zh hb0;have HC:=zh (⟨c0,c1,c2⟩:_∧_∧_);have HS0:=zh hs0;have HQ0:=zh hq0;clear h hl hfr hW0 hq hb0 c0 c1 c2 hs0 hq0;go_enter Tryz.func71,Tryz.ntmps71;go_wp2_with fail;rw[←HW0.out,←HQ.out];go_loopg [17] l.length (fun z v17 wr=>∃j:Nat,j≤l.length∧z=l.length - j∧v17=.int .i64 (j:Int)∧Hid (SetB wr (q+1) (hasB r up (l.take j)))∧Below (q+1) W0 wr∧q+2≤wr.heap.size)
 case atStart=>exact⟨0,by omega,rfl,rfl,HS0.out,Below.refl _ _,by rw[HQ0.out];exact Nat.le_refl _⟩
 case round =>
  obtain⟨j,hj,rfl,rfl,HS,hbr,hsz⟩:=hrel
  have hqw:w.heap.size≤q+1:=by rw[HQ.out];omega
  have hbw:=HB0.out.trans (hbr.mono hqw);by_cases hlt:j<l.length
  ·-- L1{
   obtain⟨b,off,cs,rfl,hRb,-,hcs,hfk,hdr⟩:=HL.out.at_ hlt;obtain⟨k0,k1,k2,k3,k4,k5,k6⟩:=seven hcs hfk;have hnx:=hasB_succ r up l j hlt;have hfg:=HFR.out _ (List.getElem_mem hlt);obtain⟨x,hx⟩:=zx (l[j]);rw[←hx] at k0 k1 k2 k3 k4 k5 k6 hdr hnx hfg
   have kk:∀i u,w.cell? ⟨b,i,none⟩=some u→wr.cell? ⟨b,i,none⟩=some u:=fun i u e=>(hbw.cell (p:=⟨b,i,none⟩) hRb).trans e
   obtain⟨dr,⟨pa,pb,pc,pg,pr,px⟩⟩:=x;simp only at k0 k1 k2 k3 k4 k5 k6 hdr hfg hnx;obtain⟨fr,rfl⟩:∃fr:Nat,pb=(fr:Int):=⟨pb.toNat,by omega⟩
   have hfr8:fr<8:=by omega
   have m0:=kk _ _ k0;have m1:=kk _ _ k1;have m2:=kk _ _ k2;have m3:=kk _ _ k3;have m4:=kk _ _ k4;have m5:=kk _ _ k5;have m6:=kk _ _ k6;obtain⟨y,hy⟩:∃y:ByteArray,y=⟨px.toArray⟩:=⟨_,rfl⟩;rw[←hy] at m6;obtain⟨W3,hW3⟩:=zx (wr.alloc (.cells #[.int .i64 (dr:Int),.int .i64 pa,.int .i64 (fr:Int),.int .i64 pc,.int .i64 pg,.int .i64 pr,.string y] 152));obtain⟨g,hg⟩:=zx wr.heap.size
   have n0:W3.cell? ⟨g,0,none⟩=some (.int .i64 (dr:Int)):=by rw[hW3,hg];simp
   have n2:W3.cell? ⟨g,2,none⟩=some (.int .i64 (fr:Int)):=by rw[hW3,hg];simp
   have hb3:Below (q+1) W0 W3:=by rw[hW3];exact hbr.alloc (by omega) _
   have d0:=(hb3.cell (p:=⟨q,0,none⟩) (show q<q+1 by omega)).trans HC.out.1;have d1:=(hb3.cell (p:=⟨q,1,none⟩) (show q<q+1 by omega)).trans HC.out.2.1;have d2:=(hb3.cell (p:=⟨q,2,none⟩) (show q<q+1 by omega)).trans HC.out.2.2
   have hS3:SetB W3 (q+1) (hasB r up (l.take j)):=by rw[hW3];exact HS.out.below ((Below.refl _ _).alloc (Nat.le_refl _) _)
   have hc3:=hS3.cell fr hfr8;have hf3:=hS3.free fr;have HST:=zh (hS3.set fr hfr8);have hR3:ReS W3 (Bl W3.heap.size) vp vo va r:=HR.out.below (HB0.out.trans (hb3.mono hqw));have HON:=zh (on_any vp vo va r dr W3 hR3 hdr)
   have hsz3:q+2≤W3.heap.size:=by rw[hW3];simp;omega
   have HNX:=zh hnx;have HB3:=zh hb3;have HS3:=zh hS3;have HW3:=zh hW3;have HG3:=zh hg;have HONL:=zh (online_any vp vo va r dr W3 hR3 hdr);clear k0 k1 k2 k3 k4 k5 k6 hcs hfk hx hnx hy kk cs hRb hb3 hS3 hW3 hg hR3 HON hfg
   have hyes:(!up||onB r dr)=true→∀i,(if i=fr then true else hasB r up (l.take j) i)=hasB r up (l.take (j+1)) i:=fun hb i=>by
    rw[HNX.out i,hb];by_cases e:i=fr
    ·rw[if_pos e,e];simp
    ·rw[if_neg e]
     have:((fr:Int)==(i:Int))=false:=by rw[beq_eq_false_iff_ne];omega
     rw[this];simp
   have hno:(!up||onB r dr)=false→∀i,hasB r up (l.take j) i=hasB r up (l.take (j+1)) i:=fun hb i=>by
    rw[HNX.out i,hb];simp
   have HY:=zh hyes;have HNO:=zh hno;clear hyes hno
   cases up with
   | false =>
    have HF:=zh (funext (HY.out rfl));go_upto_region 5 with fail;rw[←HW3.out,←HG3.out];go_wp2_with fail;go_roundg (l.length - (j+1))
    case measure=>omega
    case rel=>exact⟨j+1,by omega,rfl,by go_num,by have h:=HST.out;rw[HF.out] at h;exact h,HB3.out.setCell (by simp) _,by simpa using hsz3⟩
   | true =>
    cases ho:onB r dr with
    | false =>
     have HF:=zh (funext (HNO.out (by rw[ho];rfl)));rw[ho] at HONL;clear ho;go_upto_region 5 with fail;rw[←HW3.out,←HG3.out];go_wp2_with fail;refine HONL.out.mono ?_;rintro e w4 ⟨rfl,hb4⟩;have hS4:=HS3.out.below hb4;have hb5:=HB3.out.trans (hb4.mono (by omega));have hs4:=hb4.size;have HS4:=zh hS4;clear hS4;go_wp2_with fail;go_roundg (l.length - (j+1))
     case measure=>omega
     case rel=>exact⟨j+1,by omega,rfl,by go_num,by have h:=HS4.out;rw[HF.out] at h;exact h,hb5,by omega⟩
    | true =>
     have HF:=zh (funext (HY.out (by rw[ho];rfl)));rw[ho] at HONL;clear ho;go_upto_region 5 with fail;rw[←HW3.out,←HG3.out];go_wp2_with fail;refine HONL.out.mono ?_;rintro e w4 ⟨rfl,hb4⟩;have hS4:=HS3.out.below hb4;have hb5:=HB3.out.trans (hb4.mono (by omega));have hs4:=hb4.size
     have hg4:g<W3.heap.size:=by rw[HW3.out,HG3.out];simp
     have p0:=(hb4.cell (p:=⟨g,0,none⟩) hg4).trans n0;have p2:=(hb4.cell (p:=⟨g,2,none⟩) hg4).trans n2;have hc4:=hS4.cell fr hfr8;have hf4:=hS4.free fr;have HST4:=zh (hS4.set fr hfr8);clear hS4;go_wp2_with fail;go_roundg (l.length - (j+1))
     case measure=>omega
     case rel=>exact⟨j+1,by omega,rfl,by go_num,by have h:=HST4.out;rw[HF.out] at h;exact h,hb5.setCell (by simp) _,by simpa using (by omega:q+2≤w4.heap.size)⟩
  ·-- L2{
   have hS:=HS.out;rw[List.take_of_length_le (by omega)] at hS;have s0:=hS.cell 0 (by omega);have s1:=hS.cell 1 (by omega);have s2:=hS.cell 2 (by omega);have s3:=hS.cell 3 (by omega);have s4:=hS.cell 4 (by omega);have s5:=hS.cell 5 (by omega);have s6:=hS.cell 6 (by omega);have s7:=hS.cell 7 (by omega);have hix:=index8 (hasB r up l)
   have hoy:=fun j h h2=>outTo_yes (r:=r) (up:=up) (l:=l) (n:=n) (j:=j) h h2
   have hon:=fun j h=>outTo_no (r:=r) (up:=up) (l:=l) (n:=n) (j:=j) h
   obtain⟨js,hjs⟩:=zx (hasB r up l);rw[←hjs] at s0 s1 s2 s3 s4 s5 s6 s7 hix
   have hjs2:∀i,hasB r up l i=js i:=fun i=>by rw[hjs]
   have HOY:=zh hoy;have HON:=zh hon;have HJS:=zh hjs2;have HIX:=zh hix;have HBW:=zh hbw;have HB:=zh hbr;clear hS hoy hon hjs hjs2 hix HS hbw;go_wp2_with fail;obtain⟨wo,rfl⟩:=zx (wr:World);clear s0 s1 s2 s3 s4 s5 s6 s7;go_loopg [12,35] 8 (fun z v12 v35 wx=>∃j:Nat,j≤8∧z=8 - j∧v35=.int .i64 (j:Int)∧OwnI wx wo.heap.size v12 (outTo r up l n j)∧Below wo.heap.size wo wx)
   case atStart=>exact⟨0,by omega,rfl,rfl,OwnI.nil _ _,Below.refl _ _⟩
   case round =>
    obtain⟨j2,hj2,rfl,rfl,hO,hbx⟩:=hrel;have hszx:=hbx.size;by_cases hlt2:j2<8
    ·have hix2:=HIX.out j2 hlt2
     have hlen:(outTo r up l n j2).length+1≤16777216:=by have:=outTo_length (r:=r) (up:=up) (l:=l) (n:=n) (j:=j2);omega
     have hy2:=HOY.out j2;have hn2:=HON.out j2;obtain⟨xs,hxs⟩:=zx (outTo r up l n j2);rw[←hxs] at hO hlen hy2 hn2;rw[HJS.out j2] at hy2 hn2;have HY2:=zh hy2;have HN2:=zh hn2;obtain⟨A3,c3,rfl⟩:=hO.form;have HO:=zh hO;obtain⟨bj,hbj⟩:=zx (js j2);rw[←hbj] at hix2 HY2 HN2;clear hy2 hn2 hxs hO hbj
     cases bj with
     | false =>
      have HE:=zh (HN2.out (fun h=>by cases h.1));go_wp2_with fail;go_roundg (8 - (j2+1))
      case measure=>omega
      case rel=>exact⟨j2+1,by omega,rfl,by go_num,by rw[HE.out];exact HO.out,hbx⟩
     | true =>
      by_cases hjn:(j2:Int)<n
      ·have HE:=zh (HY2.out rfl hjn);have hO3:wr.ownsRow wo.heap.size 3 1 (.slice A3 xs.length c3) xs.length (xs.map (Value.int .i64)):=HO.out;go_wp2_with (at_builtin;refine app_i (j2:Int) (.tmp 45) (.tmp 47) rfl rfl wo.heap.size _ xs.length xs rfl (by rfl) hO3 (by rfl) hlen hszx ?_;intro v' w5 hown' hg hat);go_roundg (8 - (j2+1))
       case measure=>omega
       case rel=>exact⟨j2+1,by omega,rfl,by go_num,by rw[HE.out];exact hown',hbx.grown hg hszx (fun b h=>(HO.out.lt b h).1)⟩
      ·have HE:=zh (HN2.out (fun h=>hjn h.2));go_wp2_with fail;go_roundg (8 - (j2+1))
       case measure=>omega
       case rel=>exact⟨j2+1,by omega,rfl,by go_num,by rw[HE.out];exact HO.out,hbx⟩
    ·obtain rfl:j2=8:=by omega
     have HO:=zh hO;have hbz:=HBW.out.trans (hbx.mono HBW.out.size);clear hO;go_wp2_with fail;go_ret;exact⟨_,rfl,HO.out.base HBW.out.size,hbz⟩

def u32V(x:Nat):Value:=.int .u32 (x:Int)
def LS(w:World) (R:Nat→Prop) (v:Value) (l:List Nat):Prop :=
 ((v=.slice none 0 0∧l=[])∨∃b off c,v=.slice (some ⟨b,off,none⟩) l.length c∧l.length≤c∧c≤maxLen∧R b∧∀k x,l[k]?=some x→w.cell? ⟨b,off+k,none⟩=some (u32V x))∧(∀x∈l,x<4294967296)
theorem LS.keep{w w':World} {R:Nat→Prop} {v:Value} {l:List Nat} (h:LS w R v l) (hk:Kept R w w'):LS w' R v l:=by
 refine⟨?_,h.2⟩;rcases h.1 with h1 | ⟨b,off,c,h1,h2,h3,h4,h5⟩
 ·exact .inl h1
 ·exact .inr ⟨b,off,c,h1,h2,h3,h4,fun k x hx=>(hk.cell h4).trans (h5 k x hx)⟩
theorem LS.mono{w:World} {R R':Nat→Prop} {v:Value} {l:List Nat} (h:LS w R v l) (hr:∀b,R b→R' b):LS w R' v l:=by
 refine⟨?_,h.2⟩;rcases h.1 with h1 | ⟨b,off,c,h1,h2,h3,h4,h5⟩
 ·exact .inl h1
 ·exact .inr ⟨b,off,c,h1,h2,h3,hr b h4,h5⟩
theorem LS.below{w w':World} {v:Value} {l:List Nat} (h:LS w (Bl w.heap.size) v l) (hb:Below w.heap.size w w'):LS w' (Bl w'.heap.size) v l:=(h.keep (kept_below hb)).mono (Bl.mono hb.size)
theorem LS.form{w:World} {R:Nat→Prop} {v:Value} {l:List Nat} (h:LS w R v l):∃A c,v=.slice A l.length c∧l.length≤c∧l.length≤maxLen:=by
 rcases h.1 with ⟨rfl,rfl⟩ | ⟨b,off,c,h1,h2,h3,h4,h5⟩
 ·exact⟨none,0,rfl,Nat.le_refl _,by unfold maxLen;simp⟩
 ·exact⟨_,c,h1,h2,Nat.le_trans h2 h3⟩
theorem LS.at_{w:World} {R:Nat→Prop} {A:Option Addr} {n c:Nat} {l:List Nat} (h:LS w R (.slice A n c) l) {k:Nat} (hk:k<l.length):∃b off,A=some ⟨b,off,none⟩∧R b∧w.cell? ⟨b,off+k,none⟩=some (.int .u32 (l[k]:Int))∧l[k]<4294967296:=by
 rcases h.1 with ⟨_,rfl⟩ | ⟨b,off,c',h1,h2,h3,h4,h5⟩
 ·cases hk
 ·injection h1 with h1;exact⟨b,off,h1,h4,h5 k _ (List.getElem?_eq_getElem hk),h.2 _ (List.getElem_mem hk)⟩
theorem LS.nil(w:World) (R:Nat→Prop):LS w R (.slice none 0 0) []:=⟨.inl ⟨rfl,rfl⟩,fun x h=>by cases h⟩
def OwnL(w:World) (base:Nat) (v:Value) (l:List Nat):Prop:=w.ownsRow base 97 1 v l.length (l.map u32V)
theorem OwnL.nil(w:World) (base:Nat):OwnL w base (.slice none 0 0) []:=World.ownsRow_nil _ _ _ _
theorem OwnL.base{w:World} {B B':Nat} {v:Value} {l:List Nat} (h:OwnL w B v l) (hB:B'≤B):OwnL w B' v l:=own_base h hB
theorem OwnL.below{w w2:World} {base:Nat} {v:Value} {l:List Nat} (h:OwnL w base v l) (hb:Below w.heap.size w w2):OwnL w2 base v l:=own_below h hb
theorem OwnL.ls{w:World} {base:Nat} {v:Value} {l:List Nat} (h:OwnL w base v l) (hx:∀x∈l,x<4294967296):LS w (Fr base w.heap.size) v l:=by
 have h1:w.ownsRow base 97 1 v l.length (l.map u32V):=h
 have hc:=fun g=>h1.cells (g:=g)
 have hlt:=h1.lt;refine⟨?_,hx⟩;rcases h1.2 with ⟨rfl,h0⟩ | ⟨g,cap,cur,rfl,_,_,h2,h3,_⟩
 ·exact .inl ⟨rfl,List.eq_nil_of_length_eq_zero h0⟩
 ·refine .inr ⟨g,0,cap,rfl,h2,h3,hlt g rfl,fun k x hk=>?_⟩;have:=hc g rfl k (u32V x) (by simp[hk]);rw[←this];unfold Addr.add;split <;> simp_all
theorem OwnL.lsBl{w:World} {base:Nat} {v:Value} {l:List Nat} (h:OwnL w base v l) (hx:∀x∈l,x<4294967296):LS w (Bl w.heap.size) v l:=(h.ls hx).mono (fun _ hb=>hb.2)
theorem info_u32:(Tryz.prog.info? 97).map (fun i=>(i.zero,i.size,i.bytes))=some (some (.int .u32 0),1,4):=by kernel_rfl
def trimL(l:List Nat):List Nat:=(l.reverse.dropWhile (·==0)).reverse
theorem dropWhile_zeros:∀(a b:List Nat),(∀x∈a,x=0)→(a++b).dropWhile (·==0)=b.dropWhile (·==0)
 | [],_,_=>rfl
 | x :: a,b,h=>by
  have hx:x=0:=h x (by simp);subst hx;simp only[List.cons_append,List.dropWhile_cons];exact dropWhile_zeros a b (fun y hy=>h y (List.mem_cons_of_mem _ hy))
theorem trim_at(l:List Nat) (j:Nat) (hj:j≤l.length) (hz:∀i (h:i<l.length),j≤i→l[i]=0) (hn:∀k (h:k<l.length),j=k+1→l[k]≠0):trimL l=l.take j:=by
 unfold trimL
 have e:l.reverse=(l.drop j).reverse++(l.take j).reverse:=by rw[←List.reverse_append,List.take_append_drop]
 rw[e,dropWhile_zeros]
 ·cases j with
  | zero=>simp
  | succ k =>
   have hk:k<l.length:=by omega
   have h1:(l.take (k+1)).reverse=l[k] :: (l.take k).reverse:=by rw[List.take_succ_eq_append_getElem hk,List.reverse_append];rfl
   have h2:(l[k]==0)=false:=by simpa using hn k hk rfl
   rw[h1,List.dropWhile_cons,h2];simp only[Bool.false_eq_true,if_false];rw[←h1,List.reverse_reverse]
 ·intro x hx;rw[List.mem_reverse] at hx;obtain⟨i,hi,rfl⟩:=List.getElem_of_mem hx;rw[List.getElem_drop];exact hz _ _ (by omega)
theorem trimL_length(l:List Nat):(trimL l).length≤l.length:=by
 unfold trimL;rw[List.length_reverse];exact Nat.le_trans (List.dropWhile_sublist _).length_le (by simp)
def natL(n:Nat):List Nat:=if n=0 then [] else [n]
theorem natL_zero:natL 0=[]:=rfl
theorem natL_pos{n:Nat} (h:0<n):natL n=[n]:=if_neg (by omega)
theorem trim_natL(n:Nat):trimL (natL n)=natL n:=by
 by_cases h:n=0
 ·subst h;rfl
 ·rw[natL_pos (by omega)];simp[trimL,h]
theorem trim_two(n:Nat):trimL [n,0]=natL n:=by
 by_cases h:n=0
 ·subst h;rfl
 ·rw[natL_pos (by omega)];simp[trimL,h]
theorem natL_mem{n:Nat} (h:n<4294967296):∀x∈natL n,x<4294967296:=by
 intro x hx;unfold natL at hx;split at hx
 ·cases hx
 ·simp at hx;omega
theorem natL_length(n:Nat):(natL n).length≤1:=by unfold natL;split <;> simp
theorem below_none{w w':World} (hg:w.grownBy w' (Value.slice none 0 0).ownBlock):Below w.heap.size w w':=⟨hg.os,hg.tape,hg.output,hg.size,fun k hk=>hg.block k hk (fun e=>by cases e)⟩
theorem trim_any(v:Value) (l:List Nat) (R:Nat→Prop) (w:World) (h:LS w R v l) (hR:∀b,R b→b<w.heap.size) (hl:l.length≤1048576) :
  Calls Tryz.prog 179 #[v] w fun e w'=>∃u,e=.returned u∧OwnL w' w.heap.size u (trimL l)∧Below w.heap.size w w':=by
 obtain⟨i0,hi0,hz0,hz1,hz2⟩:=info_parts info_u32;have HL:=zh h;rcases h.1 with ⟨rfl,rfl⟩ | ⟨b,off,c,rfl,hlc,hcm,hRb,hcs⟩
 ·clear h;go_enter Tryz.func179,Tryz.ntmps179;go_wp2_with fail;go_loopg [3] 0 (fun z v3 wr=>w=wr∧v3=.int .i64 0)
  case atStart=>exact⟨rfl,rfl⟩
  case round =>
   obtain⟨rfl,rfl⟩:=hrel;go_wp2_with (at_builtin;refine wpList_append_own_none rfl _ _ _ rfl w.heap.size 97 i0 1 Tryz.underlying81 hi0 (.slice none 0 0) 0 [] (by rfl) (World.ownsRow_nil _ _ _ _) (by rfl) ?_);go_ret;exact⟨_,rfl,OwnL.nil _ _,Below.refl _ _⟩
 ·clear h;unfold maxLen at hcm;have hRl:=hR b hRb;have HCS:=zh hcs;clear hcs;go_enter Tryz.func179,Tryz.ntmps179;go_wp2_with fail;go_loopg [3] l.length (fun z v3 wr=>w=wr∧∃j:Nat,j≤l.length∧z=0+j∧v3=.int .i64 (j:Int)∧Hid (∀i (h:i<l.length),j≤i→l[i]=0))
  case atStart=>exact⟨rfl,l.length,Nat.le_refl _,(Nat.zero_add _).symm,rfl,fun i h h2=>by omega⟩
  case round =>
   obtain⟨rfl,j,hj,rfl,rfl,HZ⟩:=hrel;by_cases h0:j=0
   ·subst h0;have htl:trimL l=l.take 0:=trim_at l 0 hj HZ.out (fun k _ e=>by omega);have HT:=zh htl
    have hnews:∀j2 u,((l.take 0).map u32V)[j2]?=some u→w.cell? ((⟨b,off,none⟩:Addr).add j2)=some u:=by
     intro j2 u hu
     have e1:(⟨b,off,none⟩:Addr).add j2=⟨b,off+j2,none⟩:=by unfold Addr.add;split <;> simp_all
     rw[e1];rw[List.getElem?_map] at hu
     cases hx:(l.take 0)[j2]? with
     | none=>rw[hx] at hu;cases hu
     | some x =>
      rw[hx] at hu;injection hu with hu;rw[←hu];refine HCS.out j2 x ?_;rw[List.getElem?_take] at hx;split at hx
      ·exact hx
      ·cases hx
    have hlt:((l.take 0).map u32V).length=0 * 1:=by simp <;> omega
    have HNW:=zh hnews;have HLT:=zh hlt;clear htl hnews hlt;go_wp2_with (at_builtin;refine wpList_append_own_at (P:=Tryz.prog) _ rfl _ _ _ rfl w.heap.size 97 i0 _ 1 4 Tryz.underlying81 hi0 hz0 hz1 hz2 rfl (by decide) (.slice none 0 0) 0 [] (by rfl) (World.ownsRow_nil _ _ _ _) ⟨b,off,none⟩ 0 c ((l.take 0).map u32V) (by rfl) HLT.out HNW.out (fun u hu=>by obtain⟨x,-,rfl⟩:=List.mem_map.1 hu;rfl) (by unfold maxLen;omega) (by omega) (Nat.le_refl _) ?_;intro v' w' hown' hg' _ hat');go_ret;refine⟨_,rfl,?_,below_none hg'⟩;have h2:=hown';rw[Nat.zero_add,List.nil_append] at h2;unfold OwnL;rw[HT.out,show(l.take 0).length=0 by simp];exact h2
   ·obtain⟨k,rfl⟩:∃k,j=k+1:=⟨j - 1,by omega⟩
    have hkl:k<l.length:=by omega
    have hck:=HCS.out k l[k] (List.getElem?_eq_getElem hkl);unfold u32V at hck
    have hpos:(0:Int)<((k+1:Nat):Int):=by omega
    have hsub:IntKind.i64.wrap (((k+1:Nat):Int) - 1)=(k:Int):=by rw[show((k+1:Nat):Int) - 1=(k:Int) by omega];exact IntWalk.i64_in _ (by omega)
    have hi0':(0:Int)≤(k:Int):=by omega
    have hi1':(k:Int)<(l.length:Int):=by omega
    have hz2':l[k]=0→∀i (h:i<l.length),k≤i→l[i]=0:=fun e i h1 h2=>by
     by_cases e2:i=k
     ·subst e2;exact e
     ·exact HZ.out i h1 (by omega)
    have hnz:l[k]≠0→trimL l=l.take (k+1):=fun e=>trim_at l (k+1) hj HZ.out (fun k2 h2 e2=>by
     have e3:k2=k:=by omega
     subst e3;exact e)
    have HZ2:=zh hz2';have HNZ:=zh hnz;obtain⟨x,hx⟩:=zx (l[k]);rw[←hx] at hck HZ2 HNZ;obtain⟨K1,hK1⟩:=zx (k+1);rw[←hK1] at hpos hsub HNZ hj ⊢;have HK1:=zh hK1;clear hz2' hnz hx HZ hK1;by_cases hx0:x=0
    ·have HZ3:=zh (HZ2.out hx0)
     have q1:((x:Int)==0)=true:=by simpa using hx0
     clear hx0;go_wp2_with fail;go_roundg k
     case measure=>omega
     case rel=>exact⟨rfl,k,by omega,(Nat.zero_add _).symm,rfl,HZ3⟩
    ·have q1:((x:Int)==0)=false:=by simpa using hx0
     have hnz2:=HNZ.out hx0;have htl:trimL l=l.take K1:=hnz2;have HT:=zh htl
     have hnews:∀j2 u,((l.take K1).map u32V)[j2]?=some u→w.cell? ((⟨b,off,none⟩:Addr).add j2)=some u:=by
      intro j2 u hu
      have e1:(⟨b,off,none⟩:Addr).add j2=⟨b,off+j2,none⟩:=by unfold Addr.add;split <;> simp_all
      rw[e1];rw[List.getElem?_map] at hu
      cases hx:(l.take K1)[j2]? with
      | none=>rw[hx] at hu;cases hu
      | some x =>
       rw[hx] at hu;injection hu with hu;rw[←hu];refine HCS.out j2 x ?_;rw[List.getElem?_take] at hx;split at hx
       ·exact hx
       ·cases hx
     have hlt:((l.take K1).map u32V).length=K1 * 1:=by simp <;> omega
     have HNW:=zh hnews;have HLT:=zh hlt;clear htl hnews hlt hnz2;go_wp2_with (at_builtin;refine wpList_append_own_at (P:=Tryz.prog) _ rfl _ _ _ rfl w.heap.size 97 i0 _ 1 4 Tryz.underlying81 hi0 hz0 hz1 hz2 rfl (by decide) (.slice none 0 0) 0 [] (by rfl) (World.ownsRow_nil _ _ _ _) ⟨b,off,none⟩ K1 c ((l.take K1).map u32V) (by rfl) HLT.out HNW.out (fun u hu=>by obtain⟨x,-,rfl⟩:=List.mem_map.1 hu;rfl) (by unfold maxLen;omega) (by omega) (Nat.le_refl _) ?_;intro v' w' hown' hg' _ hat');go_ret;refine⟨_,rfl,?_,below_none hg'⟩;have h2:=hown';rw[Nat.zero_add,List.nil_append] at h2;unfold OwnL;rw[HT.out,show(l.take K1).length=K1 by simp;omega];exact h2
theorem LS.two(w:World) (a b:Nat) (ha:a<4294967296) (hb:b<4294967296):LS (w.alloc (.cells #[.int .u32 (a:Int),.int .u32 (b:Int)] 97)) (Bl (w.heap.size+1)) (.slice (some ⟨w.heap.size,0,none⟩) 2 2) [a,b]:=by
 refine⟨.inr ⟨w.heap.size,0,2,rfl,Nat.le_refl _,by unfold maxLen;decide,Nat.lt_succ_self _,fun k x hk=>?_⟩,fun x hx=>?_⟩
 ·rw[Nat.zero_add,cell_of_row _ _ _ _ _ _ (heap_alloc_new w _)]
  match k,hk with
  | 0,hk=>simp at hk;subst hk;rfl
  | 1,hk=>simp at hk;subst hk;rfl
 ·simp at hx;rcases hx with rfl | rfl
  ·exact ha
  ·exact hb
theorem rmake_any(v:Nat) (w:World) (hv:v<4294967296) :
  Calls Tryz.prog 170 #[.int .u64 (v:Int)] w fun e w'=>∃u,e=.returned u∧OwnL w' w.heap.size u (natL v)∧Below w.heap.size w w':=by
 have hv0:(0:Int)≤(v:Int):=by omega
 have hv1:(v:Int)<4294967296:=by omega
 go_enter Tryz.func170,Tryz.ntmps170;go_wp2_with fail
 have e0:((v:Int) / 4294967296)=((0:Nat):Int):=by omega
 rw[e0];refine(trim_any _ [v,0] _ _ (LS.two w v 0 hv (by omega)) (fun b hb=>by simpa[Bl] using hb) (by simp)).mono ?_;rintro e w2 ⟨u,rfl,hO,hb⟩;rw[trim_two] at hO;have HO:=zh (hO.base (B':=w.heap.size) (by simp));have hbz:=below_box hb;clear hO;go_wp2_with fail;go_ret;exact⟨_,rfl,HO.out,hbz⟩
theorem rlarge_any(v:Value) (l:List Nat) (R:Nat→Prop) (w:World) (h:LS w R v l) (hR:∀b,R b→b<w.heap.size) (hl:l.length≤512) :
  Calls Tryz.prog 244 #[v] w fun e w'=>e=.returned (.bool false)∧Below w.heap.size w w':=by
 have HT:=zh (trim_any v l R w h hR (by omega));have hlen:=trimL_length l;clear h;go_enter Tryz.func244,Tryz.ntmps244;go_wp2_with fail;refine HT.out.mono ?_;rintro e w2 ⟨u,rfl,hO,hb⟩;obtain⟨A,c,rfl⟩:=own_form hO
 have q:¬((512:Int)<((trimL l).length:Int)):=by omega
 generalize (trimL l).length=n at *;clear hO;go_wp2_with fail;go_ret;exact⟨ret_bool (decide_eq_false (by omega)),hb⟩
def cmpI(n m:Nat):Int:=if n<m then -1 else if m<n then 1 else 0
theorem natL_len{n:Nat}:((natL n).length=0↔n=0)∧((natL n).length=1↔0<n):=by
 unfold natL;split <;> simp <;> omega
theorem LS.one{w:World} {R:Nat→Prop} {A:Option Addr} {k c:Nat} {n:Nat} (h:LS w R (.slice A k c) (natL n)) (h0:0<n):∃b off,A=some ⟨b,off,none⟩∧R b∧w.cell? ⟨b,off,none⟩=some (.int .u32 (n:Int)):=by
 have hl:0<(natL n).length:=by rw[natL_pos h0];simp
 obtain⟨b,off,e,hR,hc,-⟩:=h.at_ hl
 have e2:(natL n)[0]=n:=by simp[natL_pos h0]
 rw[e2,Nat.add_zero] at hc;exact⟨b,off,e,hR,hc⟩
theorem rcmp_any(va vb:Value) (n m:Nat) (R R':Nat→Prop) (w:World) (ha:LS w R va (natL n)) (hb:LS w R' vb (natL m)) (hR:∀b,R b→b<w.heap.size) (hR':∀b,R' b→b<w.heap.size) :
  Calls Tryz.prog 227 #[va,vb] w fun e w'=>e=.returned (.int .i64 (cmpI n m))∧Below w.heap.size w w':=by
 have HA:=zh (trim_any va _ R w ha hR (by have:=natL_length n;omega));have HB:=zh (fun w' h h2=>trim_any vb (natL m) R' w' h h2 (by have:=natL_length m;omega));have HLB:=zh hb;have hn32:∀x∈natL n,x<4294967296:=ha.2;have hm32:∀x∈natL m,x<4294967296:=hb.2;have HN:=zh hn32;have HM:=zh hm32;have HR':=zh hR';clear ha hb hR hR' hn32 hm32;go_enter Tryz.func227,Tryz.ntmps227;go_wp2_with fail;refine HA.out.mono ?_;rintro e w2 ⟨u,rfl,hO,hb1⟩;rw[trim_natL] at hO;have HB1:=zh hb1;have HO:=zh hO;clear hO hb1;go_wp2_with fail;refine(HB.out _ (HLB.out.keep (fun b hb=>HB1.out.block b (HR'.out b hb))) (fun b hb=>Nat.lt_of_lt_of_le (HR'.out b hb) HB1.out.size)).mono ?_;rintro e w3 ⟨u2,rfl,hO2,hb2⟩;rw[trim_natL] at hO2;have hb3:=HB1.out.trans (hb2.mono HB1.out.size);have h1:=(HO.out.below hb2).lsBl HN.out;have h2:=hO2.lsBl HM.out;obtain⟨A,c,rfl,-,-⟩:=h1.form;obtain⟨B,d,rfl,-,-⟩:=h2.form;have hln:=natL_len (n:=n);have hlm:=natL_len (n:=m);obtain⟨N,hN⟩:=zx ((natL n).length);obtain⟨M,hM⟩:=zx ((natL m).length)
 have hN1:N≤1:=by rw[hN];exact natL_length n
 have hM1:M≤1:=by rw[hM];exact natL_length m
 rw[←hN] at h1 hln ⊢;rw[←hM] at h2 hlm ⊢;have H1:=zh h1;have H2:=zh h2;clear hO2 hb2 h1 h2 HO HB1 HA HB HLB HR' hN hM;by_cases hne:N=M
 ·subst hne
  have q0:((N:Int) != (N:Int))=false:=by simp
  have hsub:IntKind.i64.wrap ((N:Int) - 1)=(N:Int) - 1:=IntWalk.i64_in _ (by omega);go_wp2_with fail;go_loopg [5] N (fun z v5 wr=>wr.heap.size=w3.heap.size∧Hid (Below w3.heap.size w3 wr)∧((z=0∧v5=.int .i64 (-1)∧n=m)∨(z=1∧v5=.int .i64 0∧0<n∧0<m)))
  case atStart =>
   refine⟨rfl,Below.refl _ _,?_⟩;rcases Nat.lt_or_ge 0 N with h | h
   ·have e1:N=1:=by omega
    subst e1;exact .inr ⟨rfl,rfl,hln.2.1 rfl,hlm.2.1 rfl⟩
   ·have e1:N=0:=by omega
    subst e1;exact .inl ⟨rfl,rfl,by have:=hln.1.1 rfl;have:=hlm.1.1 rfl;omega⟩
  case round =>
   obtain⟨hs,hbr,h⟩:=hrel;rcases h with ⟨rfl,rfl,he⟩ | ⟨rfl,rfl,h0,h0'⟩
   ·have HE:=zh he;have HBR:=zh hbr;clear he hbr;go_wp2_with fail;go_ret;exact⟨ret_int (by unfold cmpI;rw[HE.out];simp),hb3.trans (HBR.out.out.mono hb3.size)⟩
   ·have hbr:=hbr.out
    have e1:N=1:=by
     have h3:=hln.2.2 h0;omega
    subst e1;obtain⟨b1,o1,rfl,hR1,hc1⟩:=H1.out.one h0;obtain⟨b2,o2,rfl,hR2,hc2⟩:=H2.out.one h0';have k1:=(hbr.cell (p:=⟨b1,o1,none⟩) hR1).trans hc1;have k2:=(hbr.cell (p:=⟨b2,o2,none⟩) hR2).trans hc2;have HS:=zh hs;have HBZ:=zh (hb3.trans (hbr.mono hb3.size));have HBR:=zh hbr
    have n0:(0:Int)<(n:Int):=by omega
    clear hc1 hc2 hR1 hR2 hln hlm hsub hN1 hs h0 h0' hb3 hbr;by_cases hlt:n<m
    ·have q1:(n:Int)<(m:Int):=by omega
     have HE:=zh (show cmpI n m = -1 by unfold cmpI;rw[if_pos hlt]);clear hlt;go_wp2_with fail
     go_quiet (fail)
     go_wp2_with fail;go_ret;exact⟨ret_int HE.out.symm,Below.drewN' HBZ.out _⟩
    ·have q1:¬(n:Int)<(m:Int):=by omega
     by_cases hgt:m<n
     ·have q2:(m:Int)<(n:Int):=by omega
      have HE:=zh (show cmpI n m=1 by unfold cmpI;rw[if_neg hlt,if_pos hgt]);clear hlt hgt;go_wp2_with fail
      go_quiet (fail)
      go_wp2_with fail
      go_quiet (fail)
      go_wp2_with fail;go_ret;exact⟨ret_int HE.out.symm,Below.drewN' (Below.drewN' HBZ.out _) _⟩
     ·have q2:¬(m:Int)<(n:Int):=by omega
      have he:n=m:=by omega
      have HE:=zh he;clear hlt hgt he;go_wp2_with fail
      go_quiet (fail)
      go_wp2_with fail
      go_quiet (fail)
      go_wp2_with fail;go_roundg 0
      case measure=>omega
      case rel=>exact⟨HS.out,Below.drewN' HBR.out _,.inl ⟨rfl,rfl,HE.out⟩⟩
 ·have q0:((N:Int) != (M:Int))=true:=by simp;omega
  by_cases hlt:N<M
  ·have e1:N=0:=by omega
   have e2:M=1:=by omega
   have HE:=zh (show cmpI n m = -1 by
    have h3:=hln.1.1 e1;have h4:=hlm.2.1 e2
    unfold cmpI;rw[if_pos (by omega)])
   have q1:(N:Int)<(M:Int):=by omega
   clear hne hlt e1 e2;go_wp2_with fail;go_ret;exact⟨ret_int HE.out.symm,hb3⟩
  ·have e1:M=0:=by omega
   have e2:N=1:=by omega
   have HE:=zh (show cmpI n m=1 by
    have h3:=hlm.1.1 e1;have h4:=hln.2.1 e2
    unfold cmpI;rw[if_neg (by omega),if_pos (by omega)])
   have q1:¬(N:Int)<(M:Int):=by omega
   clear hne hlt e1 e2;go_wp2_with fail;go_ret;exact⟨ret_int HE.out.symm,hb3⟩
end Go.Proofs.YtcfkllnpkmebpaaGreatDoor
