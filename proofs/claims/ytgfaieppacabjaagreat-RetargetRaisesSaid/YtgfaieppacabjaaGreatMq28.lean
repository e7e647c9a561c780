/- Parts. -/
import Derived.Test.YtgfaieppacabjaaGreatMq27
set_option linter.unusedSectionVars false
set_option maxRecDepth 100000
set_option maxHeartbeats 12800000
set_option linter.unusedVariables false
set_option linter.unusedSimpArgs false
namespace Go.Proofs.YtgfaieppacabjaaGreat
open Go.RowKit
theorem raiseE_any(p m q:Int)(bb:Bool)(At Au:Option Addr)(nt kt nu ku:Nat)(w:World) :
  Calls Tryz.prog 11 #[.agg #[.int .i64 0,.slice none 0 0,.slice none 0 0,.slice none 0 0,.slice none 0 0,.slice none 0 0,.slice none 0 0],.int .i64 p,.int .i64 m,.int .i64 q,.agg #[.bool bb,.slice At nt kt,.slice Au nu ku]] w fun e w'=>Below w.heap.size w w'/\e=.returned (.tuple #[.agg #[.int .i64 0,.slice none 0 0,.slice none 0 0,.slice none 0 0,.slice none 0 0,.slice none 0 0,.slice none 0 0],.int .i64 1]):=by
 obtain⟨W1,hW1⟩:=zx (((w.alloc (.cells #[.int .i64 0,.slice none 0 0,.slice none 0 0,.slice none 0 0,.slice none 0 0,.slice none 0 0,.slice none 0 0] 35)).alloc (.cells #[.bool bb,.slice At nt kt,.slice Au nu ku] 26)).alloc (.cells #[.int .i64 0,.slice none 0 0,.slice none 0 0,.slice none 0 0,.slice none 0 0,.slice none 0 0,.slice none 0 0] 35));obtain⟨gF,hgF⟩:=zx w.heap.size;obtain⟨gT,hgT⟩:=zx (w.heap.size+1);obtain⟨gR,hgR⟩:=zx (w.heap.size+2)
 have hb1:Below w.heap.size w W1:=by rw[hW1];exact(((zB _ _).alloc (zR _) _).alloc (by simp) _).alloc (by simp;omega) _
 have hs1:W1.heap.size=w.heap.size+3:=by rw[hW1];simp
 have hfk:W1.heap[gF]?=some (.cells #[.int .i64 0,.slice none 0 0,.slice none 0 0,.slice none 0 0,.slice none 0 0,.slice none 0 0,.slice none 0 0] 35 (0,0)):=by
  rw[hW1,hgF];exact(zH _ _ _ (by simp;omega)).trans ((zH _ _ _ (by simp)).trans (zN _ _))
 have hrk:W1.heap[gR]?=some (.cells #[.int .i64 0,.slice none 0 0,.slice none 0 0,.slice none 0 0,.slice none 0 0,.slice none 0 0,.slice none 0 0] 35 (0,0)):=by rw[hW1,hgR];exact heap_alloc_at _ _ _ (by simp)
 have HR7:=zh (show ∀w',Below W1.heap.size W1 w'->w'.heap[gR]?=some (.cells #[.int .i64 0,.slice none 0 0,.slice none 0 0,.slice none 0 0,.slice none 0 0,.slice none 0 0,.slice none 0 0] 35 (0,0)) from fun w' hb=>(hb.block gR (by omega)).trans hrk);have HBK:=zh (show ∀w',Below W1.heap.size W1 w'->Below w.heap.size w w' from fun w' hb=>hb1.trans (hb.mono hb1.size));have HV:=zh (fvalidate_zero W1);have HW1:=zh hW1;have HG:=zh (show gF=w.heap.size/\gT=w.heap.size+1/\gR=w.heap.size+2/\W1.heap.size=w.heap.size+3 from⟨hgF,hgT,hgR,hs1⟩);have HF7:=zh hfk;clear hW1 hgF hgT hgR hb1 hs1 hfk hrk;go_enter Tryz.func11,Tryz.ntmps11;go_upto_region 1 with fail;rw[<-HW1.out,<-HG.out.1,show gF+1+1=gR by (have:=HG.out;omega),show gF+1=gT by (have:=HG.out;omega)];obtain⟨c0,c1,c2,c3,c4,c5,c6⟩:=cells7 HF7.out;go_wp2_with fail;refine HV.out.mono ?_;rintro e WE ⟨rfl,hb2⟩;have HBE:=zh hb2;clear hb2 c0 c1 c2 c3 c4 c5 c6 HV;have HTH:=zh (show WE.there gR 0 7 from there_new (HR7.out WE HBE.out) (zR 7));go_upto_region 2 with fail;refine wp_region_lit ?_;refine wpList_plain rfl (fun K hK=>?_);go_simp;refine hK _ _ ?_;clear hK;(try simp only[Act.put,z1,z2,z3]);refine wpList_store_mid rfl 35 (.tmp 10) (.tmp 23) rfl gR 0 #[.int .i64 0,.slice none 0 0,.slice none 0 0,.slice none 0 0,.slice none 0 0,.slice none 0 0,.slice none 0 0] (by rfl) (by rfl) HTH.out size_fltE (by simp[Value.oneCell']) ?_;(try simp only[Act.put,z1,z2,z3]);have hgr:=World.rangeAt_setCells_same _ _ _ [.int .i64 0,.slice none 0 0,.slice none 0 0,.slice none 0 0,.slice none 0 0,.slice none 0 0,.slice none 0 0] HTH.out;have hbw:Below w.heap.size w (World.setCells WE gR 0 [.int .i64 0,.slice none 0 0,.slice none 0 0,.slice none 0 0,.slice none 0 0,.slice none 0 0,.slice none 0 0]):=below_setCellsV (by have:=HG.out;omega) _ _ _ (HBK.out WE HBE.out);obtain⟨W15,hW15⟩:=zx (World.setCells WE gR 0 [.int .i64 0,.slice none 0 0,.slice none 0 0,.slice none 0 0,.slice none 0 0,.slice none 0 0,.slice none 0 0]);rw[<-hW15] at hgr hbw ⊢;clear hW15;have HGR:=zh hgr;have HBW:=zh hbw;clear hgr hbw;go_wp2_with fail;have hld:=run_loadVar_mid (P:=Tryz.prog) W15 gR 0 35 _ _ HGR.out Tryz.underlying35 rfl size_fltE;exact bodyPost_ret (v:=.tuple #[.agg #[.int .i64 0,.slice none 0 0,.slice none 0 0,.slice none 0 0,.slice none 0 0,.slice none 0 0,.slice none 0 0],.int .i64 1]) (by simp[results,Tryz.results11,asAddr,hld]) rfl ⟨HBW.out,rfl⟩
def outR(F:FltM)(p m q:Int)(neg:Bool)(n d:Nat):Int :=
 if tgB neg n d=false then 1 else if p<0\/(F.pols.length:Int)<=p then 5 else
  match F.pols[p.toNat]? with
  | none=>5
  | some x=>if badT x m q (n / Nat.gcd n d) (d / Nat.gcd n d)=true then 5 else 0
def RaiseP(w:World)(F:FltM)(p m q:Int)(neg:Bool)(n d:Nat)(e:Ending)(w':World):Prop :=
 Below w.heap.size w w'/\∃(EX:Int) (A1:Option Addr) (n1 c1:Nat) (A2:Option Addr) (n2 c2:Nat) (A3:Option Addr) (n3 c3:Nat) (A4:Option Addr) (n4 c4:Nat) (A5:Option Addr) (n5 c5:Nat) (A6:Option Addr) (n6 c6:Nat),
  e=.returned (.tuple #[.agg #[.int .i64 EX,.slice A1 n1 c1,.slice A2 n2 c2,.slice A3 n3 c3,.slice A4 n4 c4,.slice A5 n5 c5,.slice A6 n6 c6],.int .i64 (outR F p m q neg n d)]) /\
  (outR F p m q neg n d=0->∃(pi:Nat) (x:PolM),p=(pi:Int)/\F.pols[pi]?=some x/\tgB neg n d=true/\EX=F.ext/\n5=F.pols.length/\FleetS w' (Bl w'.heap.size) (.slice A1 n1 c1) (.slice A2 n2 c2) (.slice A3 n3 c3) (.slice A4 n4 c4) (.slice A5 n5 c5) (.slice A6 n6 c6) (raiseT F pi m q (n / Nat.gcd n d) (d / Nat.gcd n d)))
theorem outR_no{F:FltM}{p m q:Int}{neg:Bool}{n d:Nat}(h:tgB neg n d=false):outR F p m q neg n d=1:=by unfold outR;rw[if_pos h]
theorem outR_out{F:FltM}{p m q:Int}{neg:Bool}{n d:Nat}(h:tgB neg n d=true)(hp:p<0\/(F.pols.length:Int)<=p):outR F p m q neg n d=5:=by unfold outR;rw[if_neg (by rw[h];simp),if_pos hp]
theorem outR_at{F:FltM}{pi:Nat}{m q:Int}{neg:Bool}{n d:Nat}{x:PolM}(h:tgB neg n d=true)(hx:F.pols[pi]?=some x):outR F (pi:Int) m q neg n d=if badT x m q (n / Nat.gcd n d) (d / Nat.gcd n d)=true then 5 else 0:=by
 have hl:=(zL.1 hx).1;unfold outR;rw[if_neg (by rw[h];simp),if_neg (by omega),Int.toNat_natCast,hx]
theorem raiseP_err{w w':World}{F:FltM}{p m q:Int}{neg:Bool}{n d:Nat}{er:Int}(hb:Below w.heap.size w w')(h:outR F p m q neg n d=er)(h0:er≠0) :
  RaiseP w F p m q neg n d (.returned (.tuple #[.agg #[.int .i64 0,.slice none 0 0,.slice none 0 0,.slice none 0 0,.slice none 0 0,.slice none 0 0,.slice none 0 0],.int .i64 er])) w' :=
 ⟨hb,0,none,0,0,none,0,0,none,0,0,none,0,0,none,0,0,none,0,0,by rw[h],fun h1=>absurd (h.symm.trans h1) h0⟩
theorem raiseP_ok{w w':World}{F:FltM}{pi:Nat}{x:PolM}{m q:Int}{neg:Bool}{n d:Nat}{ul um ud uv up uo:Value}(hb:Below w.heap.size w w')(hx:F.pols[pi]?=some x)(ht:tgB neg n d=true)(h:outR F (pi:Int) m q neg n d=0)
  (hf:FleetS w' (Bl w'.heap.size) ul um ud uv up uo (raiseT F pi m q (n / Nat.gcd n d) (d / Nat.gcd n d))) :
  RaiseP w F (pi:Int) m q neg n d (.returned (.tuple #[.agg #[.int .i64 F.ext,ul,um,ud,uv,up,uo],.int .i64 0])) w':=by
 obtain⟨A1,n1,c1,rfl⟩:=hf.1.form3;obtain⟨A2,n2,c2,rfl⟩:=hf.2.1.form3;obtain⟨A3,n3,c3,rfl⟩:=hf.2.2.1.form3;obtain⟨A4,n4,c4,rfl⟩:=hf.2.2.2.1.form3;obtain⟨A5,c5,e5,-⟩:=hf.2.2.2.2.1.form;obtain⟨A6,n6,c6,rfl⟩:=hf.2.2.2.2.2.form3;subst e5;rw[raiseT_len] at hf ⊢;exact⟨hb,F.ext,A1,n1,c1,A2,n2,c2,A3,n3,c3,A4,n4,c4,A5,_,c5,A6,n6,c6,by rw[h],fun _=>⟨pi,x,rfl,hx,ht,rfl,rfl,hf⟩⟩
theorem raiseA_any(N:Nat)(hN:N<=12)(vl vm vd vv vp vo tn td:Value)(F:FltM)(p m q:Int)(neg:Bool)(ltn ltd:List Nat)(w:World)(hf:FleetS w (Bl w.heap.size) vl vm vd vv vp vo F)(hok:FleetOk N F)
  (htn:LS w (Bl w.heap.size) tn ltn) (htd:LS w (Bl w.heap.size) td ltd) (hl1:ltn.length<=512) (hl2:ltd.length<=512) :
  Calls Tryz.prog 11 #[.agg #[.int .i64 F.ext,vl,vm,vd,vv,vp,vo],.int .i64 p,.int .i64 m,.int .i64 q,.agg #[.bool neg,tn,td]] w (RaiseP w F p m q neg (nv ltn) (nv ltd)):=by
 cases ht:tgB neg (nv ltn) (nv ltd) with
 | false =>
  refine(raiseX_any N hN vl vm vd vv vp vo tn td F p m q neg ltn ltd w hf hok htn htd hl1 hl2 1 (.inl ⟨ht,rfl⟩)).mono ?_;rintro e w' ⟨hb,rfl⟩;exact raiseP_err hb (outR_no ht) (by omega)
 | true =>
  by_cases hp:p<0\/(F.pols.length:Int)<=p
  ·refine(raiseX_any N hN vl vm vd vv vp vo tn td F p m q neg ltn ltd w hf hok htn htd hl1 hl2 5 (.inr ⟨ht,hp,rfl⟩)).mono ?_;rintro e w' ⟨hb,rfl⟩;exact raiseP_err hb (outR_out ht hp) (by omega)
  ·obtain⟨pi,rfl⟩:∃pi:Nat,p=(pi:Int):=⟨p.toNat,by omega⟩;obtain⟨x,hx⟩:∃x,F.pols[pi]?=some x:=⟨_,zG (by omega)⟩;obtain⟨ho,htt⟩:=tgB_ok ht;have hou:=outR_at (F:=F) (m:=m) (q:=q) ht hx;refine(raiseG_any N hN vl vm vd vv vp vo tn td F pi x m q neg ltn ltd _ _ w hf hok hx htn htd hl1 hl2 ho htt).mono ?_;rintro e w' ⟨hb,⟨h1,rfl⟩ | ⟨h1,ul,um,ud,uv,up,uo,rfl,hg⟩⟩
   ·rw[if_pos h1] at hou;exact raiseP_err hb hou (by omega)
   ·rw[if_neg (by rw[h1];simp)] at hou;exact raiseP_ok hb hx ht hou hg
theorem rraiseA_any(N:Nat)(hN:N<=12)(vl vm vd vv vp vo tn td:Value)(F:FltM)(p m q:Int)(neg:Bool)(ltn ltd:List Nat)(w:World)(hf:FleetS w (Bl w.heap.size) vl vm vd vv vp vo F)(hok:FleetOk N F)
  (htn:LS w (Bl w.heap.size) tn ltn) (htd:LS w (Bl w.heap.size) td ltd) (hl1:ltn.length<=512) (hl2:ltd.length<=512) :
  Calls Tryz.prog 12 #[.agg #[.int .i64 F.ext,vl,vm,vd,vv,vp,vo],.int .i64 p,.int .i64 m,.int .i64 q,.agg #[.bool neg,tn,td]] w (RaiseP w F p m q neg (nv ltn) (nv ltd)):=by
 cases ht:tgB neg (nv ltn) (nv ltd) with
 | false =>
  refine(rraiseX_any N hN vl vm vd vv vp vo tn td F p m q neg ltn ltd w hf hok htn htd hl1 hl2 1 (.inl ⟨ht,rfl⟩)).mono ?_;rintro e w' ⟨hb,rfl⟩;exact raiseP_err hb (outR_no ht) (by omega)
 | true =>
  by_cases hp:p<0\/(F.pols.length:Int)<=p
  ·refine(rraiseX_any N hN vl vm vd vv vp vo tn td F p m q neg ltn ltd w hf hok htn htd hl1 hl2 5 (.inr ⟨ht,hp,rfl⟩)).mono ?_;rintro e w' ⟨hb,rfl⟩;exact raiseP_err hb (outR_out ht hp) (by omega)
  ·obtain⟨pi,rfl⟩:∃pi:Nat,p=(pi:Int):=⟨p.toNat,by omega⟩;obtain⟨x,hx⟩:∃x,F.pols[pi]?=some x:=⟨_,zG (by omega)⟩;obtain⟨ho,htt⟩:=tgB_ok ht;have hou:=outR_at (F:=F) (m:=m) (q:=q) ht hx;refine(rraiseG_any N hN vl vm vd vv vp vo tn td F pi x m q neg ltn ltd _ _ w hf hok hx htn htd hl1 hl2 ho htt).mono ?_;rintro e w' ⟨hb,⟨h1,rfl⟩ | ⟨h1,ul,um,ud,uv,up,uo,rfl,hg⟩⟩
   ·rw[if_pos h1] at hou;exact raiseP_err hb hou (by omega)
   ·rw[if_neg (by rw[h1];simp)] at hou;exact raiseP_ok hb hx ht hou hg
theorem und52:Tryz.prog.underlying 52=some (.array 5 3):=by kernel_rfl
theorem eq52(a b c d f:Int)(w:World):(Op.equalIn 10000 52 (.agg #[.int .i64 a,.int .i64 b,.int .i64 c,.int .i64 d,.int .i64 f]) (.agg #[.int .i64 a,.int .i64 b,.int .i64 c,.int .i64 d,.int .i64 f])).run Tryz.prog w=.ok true w:=by
 have u3:=Tryz.underlying3;have a3:=Tryz.isAgg3;have z3:=Tryz.sizeOf3;rw[show(10000:Nat)=9999+1 from rfl,Op.equalIn];simp only[Sem.run_bind,run_underlying und52,Result.andThen_ok];simp only[Std.Legacy.Range.forIn_eq_forIn_range',Std.Legacy.Range.size,Nat.sub_zero,Nat.add_sub_cancel,Nat.div_one,List.range'_succ,List.range'_zero,List.forIn_cons,List.forIn_nil];go_simp
theorem size_lawI:(Tryz.prog.info? 96).map (·.size)=some 4:=by kernel_rfl
theorem size_modI:(Tryz.prog.info? 98).map (·.size)=some 4:=by kernel_rfl
theorem size_dveI:(Tryz.prog.info? 102).map (·.size)=some 3:=by kernel_rfl
theorem size_volI:(Tryz.prog.info? 106).map (·.size)=some 2:=by kernel_rfl
theorem size_domI:(Tryz.prog.info? 100).map (·.size)=some 7:=by kernel_rfl
theorem size_polI:(Tryz.prog.info? 55).map (·.size)=some 17:=by kernel_rfl
theorem laws_frc{N:Nat}{F:FltM}(h:FleetOk N F){j:Nat}{x:LawM}(hx:F.laws[j]?=some x):(∀y∈x.start,FrcOk y)/\(∀y∈x.exit,FrcOk y)/\∀l∈x.rates,∀y∈l,FrcOk y:=by
 obtain⟨r,hr,hl⟩:=h.laws;rw[hl] at hx;have hm:=List.mem_of_getElem? hx;rw[List.mem_singleton] at hm;subst hm;refine⟨fun y hy=>?_,fun y hy=>?_,fun l hl y hy=>?_⟩
 ·rw[List.mem_singleton] at hy;subst hy;exact⟨rfl,by decide,by decide⟩
 ·rw[List.mem_singleton] at hy;subst hy;exact⟨rfl,by show 0<100+r;omega,by show 1*(100+r)<4294967296;omega⟩
 ·rw[List.mem_singleton] at hl;subst hl;rw[List.mem_singleton] at hy;subst hy;exact⟨rfl,by decide,by decide⟩
theorem doms_frc{N:Nat}{F:FltM}(h:FleetOk N F){j:Nat}{x:DomM}(hx:F.doms[j]?=some x):x.shock=⟨false,0,1⟩:=by
 cases j with
 | zero =>
  have h0:=h.doms.root;rw[hx] at h0;injection h0 with h0;subst h0
  rfl
 | succ j=>exact(h.doms.rest _ x hx (by omega)).2.2.2.2.2.2
structure EqOk (F:FltM):Prop where
 laws:∀(j:Nat) (x:LawM),F.laws[j]?=some x->(∀y∈x.start,FrcOk y)/\(∀y∈x.exit,FrcOk y)/\∀l∈x.rates,∀y∈l,FrcOk y
 doms:∀(j:Nat) (x:DomM),F.doms[j]?=some x->x.shock=⟨false,0,1⟩
 pols:∀(j:Nat) (x:PolM),F.pols[j]?=some x->(∃n,x.repair=List.replicate n ⟨false,1,2⟩)/\x.target.neg=false/\0<x.target.den/\x.horizon=⟨false,30,1⟩
theorem eqOk_raiseT{N:Nat}{F:FltM}(h:FleetOk N F)(p:Nat)(m q:Int)(tN tD:Nat)(h0:0<tD):EqOk (raiseT F p m q tN tD):=by
 refine⟨fun j x hx=>laws_frc h hx,fun j x hx=>doms_frc h hx,fun j x hx=>?_⟩;by_cases hj:p=j
 ·subst hj;have hl:=(zL.1 hx).1;rw[raiseT_len] at hl;obtain⟨y,hy⟩:∃y,F.pols[p]?=some y:=⟨_,zG hl⟩;rw[raiseT_at hy] at hx;injection hx with hx;subst hx;obtain⟨-,-,-,-,-,-,-,-,-,-,-,-,hhz⟩:=(h.pols p y hy).2.2;exact⟨⟨_,rfl⟩,rfl,h0,hhz⟩
 ·rw[raiseT_other hj] at hx;obtain⟨-,-,-,-,-,-,-,-,-,-,hrep,htg,hhz⟩:=(h.pols j x hx).2.2;exact⟨⟨_,hrep⟩,by rw[htg],by rw[htg];decide,hhz⟩
end Go.Proofs.YtgfaieppacabjaaGreat
