/- Sizes of raised fleets; retarget.Raise, said at once. -/
import Derived.Test.YtgfaieppacabjaaGreatMy18
import Derived.BigQuiet
import Derived.Deep.QuietTactic
import Derived.Deep.MidRow
import Derived.Laws.AppendOwn
import Derived.StillTailTactics
set_option linter.unusedSectionVars false
set_option maxRecDepth 100000
set_option maxHeartbeats 12800000
namespace Go.Proofs.YtgfaieppacabjaaGreat
open Go.RowKit
set_option linter.unusedVariables false
set_option linter.unusedSimpArgs false
def gt(l:List Int)(i:Nat):Int:=l.getD i 0
theorem gt_set{l:List Int}{i:Nat}(x:Int)(j:Nat)(h:i<l.length):gt (l.set i x) j=if j=i then x else gt l j:=by
 unfold gt;rw[List.getD_eq_getElem?_getD,List.getD_eq_getElem?_getD,List.getElem?_set];by_cases e:i=j
 ·subst e;simp[h]
 ·rw[if_neg e,if_neg (fun h=>e h.symm)]
theorem gt_get{l:List Int}{i:Nat}{x:Int}(h:l[i]?=some x):gt l i=x:=by
 unfold gt;rw[List.getD_eq_getElem?_getD,h];rfl
theorem get_gt{l:List Int}{i:Nat}(h:i<l.length):l[i]?=some (gt l i):=by
 rw[zG h];congr 1;exact(gt_get (zG h)).symm
def suml:List Int->Int
 | []=>0
 | x :: l=>x+suml l
theorem suml_set:∀(l:List Int) (i:Nat) (x:Int),i<l.length->suml (l.set i x)=suml l-gt l i+x
 | [],i,x,h=>by simp at h
 | y :: l,0,x,_=>by simp[suml,gt];omega
 | y :: l,i+1,x,h=>by
  have h':i<l.length:=by simpa using h
  have:=suml_set l i x h';simp only[List.set_cons_succ,suml]
  have e:gt (y :: l) (i+1)=gt l i:=by simp[gt]
  rw[e];omega
theorem suml_nonneg:∀(l:List Int),(∀i,i<l.length->0<=gt l i)->0<=suml l
 | [],_=>by simp[suml]
 | y :: l,h=>by
  have h0:0<=y:=by have:=h 0 (by simp);simpa[gt] using this
  have h1:=suml_nonneg l (fun i hi=>by have:=h (i+1) (by simpa using hi);simpa[gt] using this);simp only[suml];omega
def far:Int:=1099511627776
def cntl(l:List Int):Nat:=(l.filter (fun x=>decide (x<far))).length
theorem cntl_le(l:List Int):cntl l<=l.length:=List.length_filter_le _ _
theorem cntl_set:∀(l:List Int) (i:Nat) (x:Int),i<l.length->x<far->(gt l i<far->cntl (l.set i x)=cntl l)/\(¬gt l i<far->cntl (l.set i x)=cntl l+1)
 | [],i,x,h,_=>by simp at h
 | y :: l,0,x,_,hx=>by
  unfold cntl;simp only[List.set_cons_zero,List.filter_cons,hx,decide_true,if_true,List.length_cons];have e:gt (y :: l) 0=y:=rfl;rw[e];refine⟨fun h=>by simp[h],fun h=>by simp[h]⟩
 | y :: l,i+1,x,h,hx=>by
  have h':i<l.length:=by simpa using h
  have hh:=cntl_set l i x h' hx
  have e:gt (y :: l) (i+1)=gt l i:=by simp[gt]
  rw[e];unfold cntl at hh ⊢;simp only[List.set_cons_succ,List.filter_cons];by_cases hy:y<far
  ·simp only[hy,decide_true,if_true,List.length_cons];exact⟨fun h=>by rw[hh.1 h],fun h=>by rw[hh.2 h]⟩
  ·simp only[hy,decide_false];exact hh
structure ArcM where
 f:Nat
 t:Nat
 cap:Int
 cost:Int
structure NetM where
 nodes:Nat
 src:Nat
 snk:Nat
 arcs:List ArcM
def NetM.arc(N:NetM)(i:Nat):ArcM:=N.arcs.getD i ⟨0,0,0,0⟩
theorem NetM.arc_get{N:NetM}{i:Nat}(h:i<N.arcs.length):N.arcs[i]?=some (N.arc i):=by
 unfold NetM.arc;rw[List.getD_eq_getElem?_getD,zG h];rfl
structure NetV (N:NetM):Prop where
 n2:2<=N.nodes
 n7:N.nodes<=700
 a25:N.arcs.length<=2500
 src:N.src<N.nodes
 snk:N.snk<N.nodes
 ne:N.src≠N.snk
 arc:∀i,i<N.arcs.length->(N.arc i).f<N.nodes/\(N.arc i).t<N.nodes/\0<=(N.arc i).cap/\(N.arc i).cap<=1000000/\0<=(N.arc i).cost/\(N.arc i).cost<=1000
namespace NetM
variable (N : NetM)
def tl(e:Nat):Nat:=if e<N.arcs.length then(N.arc e).f else(N.arc (e-N.arcs.length)).t
def hd(e:Nat):Nat:=if e<N.arcs.length then(N.arc e).t else(N.arc (e-N.arcs.length)).f
def co(e:Nat):Int:=if e<N.arcs.length then(N.arc e).cost else-(N.arc (e-N.arcs.length)).cost
def re(fl:List Int)(e:Nat):Int:=if e<N.arcs.length then(N.arc e).cap-gt fl e else gt fl (e-N.arcs.length)
def rv(e:Nat):Nat:=if e<N.arcs.length then e+N.arcs.length else e-N.arcs.length
def Ed(fl:List Int)(e:Nat):Prop:=e<2*N.arcs.length/\0<N.re fl e
def Feas(fl:List Int)(p:Nat->Int):Prop:=∀e,N.Ed fl e->p (N.hd e)<=p (N.tl e)+N.co e
def Caps(fl:List Int):Prop:=fl.length=N.arcs.length/\∀i,i<N.arcs.length->0<=gt fl i/\gt fl i<=(N.arc i).cap
inductive Path (by_:List Int):Nat->List Nat->Prop
 | nil:Path by_ N.src []
 | cons {v:Nat} {es:List Nat}:v≠N.src->Path by_ (N.tl (gt by_ v).toNat) es->Path by_ v ((gt by_ v).toNat :: es)
end NetM
theorem NetV.edge{N:NetM}(h:NetV N){e:Nat}(he:e<2*N.arcs.length):N.tl e<N.nodes/\N.hd e<N.nodes /\ -1000<=N.co e/\N.co e<=1000:=by
 unfold NetM.tl NetM.hd NetM.co;by_cases hl:e<N.arcs.length
 ·have:=h.arc e hl;simp only[hl,if_true];omega
 ·have:=h.arc (e-N.arcs.length) (by omega);simp only[hl,if_false];omega
structure DistI (N:NetM) (fl:List Int) (p:Nat->Int) (dist by_:List Int):Prop where
 ld:dist.length=N.nodes
 lb:by_.length=N.nodes
 s0:gt dist N.src=0
 hi:∀v,v<N.nodes->gt dist v<=far
 lo:∀v,v<N.nodes->gt dist v<far->p v<=gt dist v
 up:∀v,v<N.nodes->gt dist v<far->gt dist v<=1000*((cntl dist:Int)-1)
 b0:∀v,v<N.nodes->0<=gt by_ v/\gt by_ v<5000
 ed:∀v,v<N.nodes->v≠N.src->gt dist v<far->N.Ed fl (gt by_ v).toNat/\N.hd (gt by_ v).toNat=v/\gt dist (N.tl (gt by_ v).toNat)<far/\gt dist (N.tl (gt by_ v).toNat)+N.co (gt by_ v).toNat<=gt dist v
 pa:∀v,v<N.nodes->gt dist v<far->∃es,N.Path by_ v es
theorem gt_rep(n:Nat)(x:Int)(i:Nat)(h:i<n):gt (List.replicate n x) i=x:=by
 exact gt_get (by rw[List.getElem?_replicate,if_pos h])
theorem cntl_far:∀n,cntl (List.replicate n far)=0:=fun n=>by
 unfold cntl;rw[List.filter_replicate];simp
theorem DistI.start{N:NetM}(h:NetV N){fl:List Int}{p:Nat->Int}(h0:p N.src<=0):DistI N fl p ((List.replicate N.nodes far).set N.src 0) (List.replicate N.nodes 0):=by
 have hg:∀v,v<N.nodes->gt ((List.replicate N.nodes far).set N.src 0) v=if v=N.src then 0 else far:=fun v hv=>by
  rw[gt_set _ _ (by simpa using h.src)];by_cases e:v=N.src
  ·rw[if_pos e,if_pos e]
  ·rw[if_neg e,if_neg e,gt_rep _ _ _ hv]
 have hc:cntl ((List.replicate N.nodes far).set N.src 0)=1:=by
  have:=(cntl_set (List.replicate N.nodes far) N.src 0 (by simpa using h.src) (by decide)).2 (by rw[gt_rep _ _ _ h.src];decide);rw[this,cntl_far]
 refine⟨by simp,by simp,by rw[hg _ h.src,if_pos rfl],fun v hv=>?_,fun v hv hf=>?_,fun v hv hf=>?_,fun v hv=>by rw[gt_rep _ _ _ hv];omega,fun v hv hn hf=>?_,fun v hv hf=>?_⟩
 ·rw[hg v hv];split
  ·decide
  ·exact Int.le_refl _
 ·rw[hg v hv] at hf ⊢;by_cases e:v=N.src
  ·rw[if_pos e,e];exact h0
  ·rw[if_neg e] at hf;exact absurd hf (by decide)
 ·rw[hc];rw[hg v hv] at hf ⊢;by_cases e:v=N.src
  ·rw[if_pos e];omega
  ·rw[if_neg e] at hf;exact absurd hf (by decide)
 ·rw[hg v hv,if_neg hn] at hf;exact absurd hf (by decide)
 ·rw[hg v hv] at hf;split at hf
  ·rename_i e;rw[e];exact⟨[],.nil⟩
  ·exact absurd hf (by decide)
theorem DistI.above{N:NetM}{fl:List Int}{p:Nat->Int}{dist by_:List Int}(hv:NetV N)(h:DistI N fl p dist by_)(hf:N.Feas fl p){x:Nat}{b:List Int}(hb:∀w,w<N.nodes->w≠x->gt b w=gt by_ w)(B:Int)
  (hx:B<gt dist x-p x):∀{v:Nat} {es:List Nat},N.Path by_ v es->v<N.nodes->gt dist v<far->gt dist v-p v<=B->N.Path b v es:=by
 intro v es hp
 induction hp with
 | nil=>intro _ _ _;exact .nil
 | @cons v es hn hp ih =>
  intro hvn hfar hB
  have hne:v≠x:=fun e=>by rw[e] at hB;omega
  obtain⟨h1,h2,h3,h4⟩:=h.ed v hvn hn hfar;have ht:=(hv.edge h1.1).1;have hf1:=hf _ h1;rw[h2] at hf1;have:=ih ht h3 (by omega);rw[<-hb v hvn hne] at this ⊢;exact .cons hn this
theorem DistI.swap{N:NetM}{fl:List Int}{p:Nat->Int}{dist by_:List Int}(hv:NetV N)(h:DistI N fl p dist by_){x:Nat}{b:List Int}(hb:∀w,w<N.nodes->w≠x->gt b w=gt by_ w)(hx:∃es,N.Path b x es) :
  ∀{v:Nat} {es:List Nat},N.Path by_ v es->v<N.nodes->gt dist v<far->∃es',N.Path b v es':=by
 intro v es hp
 induction hp with
 | nil=>intro _ _;exact⟨[],.nil⟩
 | @cons v es hn hp ih =>
  intro hvn hfar;by_cases e:v=x
  ·rw[e];exact hx
  ·obtain⟨h1,h2,h3,h4⟩:=h.ed v hvn hn hfar;obtain⟨es',h'⟩:=ih (hv.edge h1.1).1 h3;rw[<-hb v hvn e] at h';exact⟨_,.cons hn h'⟩
theorem DistI.relax{N:NetM}{fl:List Int}{p:Nat->Int}{dist by_:List Int}(hv:NetV N)(h:DistI N fl p dist by_)(hf:N.Feas fl p)(h0:p N.src=0){e:Nat}(he:N.Ed fl e)(ht:gt dist (N.tl e)<far)(hlt:gt dist (N.tl e)+N.co e<gt dist (N.hd e)) :
  DistI N fl p (dist.set (N.hd e) (gt dist (N.tl e)+N.co e)) (by_.set (N.hd e) (e:Int))/\suml (dist.set (N.hd e) (gt dist (N.tl e)+N.co e))<suml dist/\N.hd e≠N.src/\N.hd e≠N.tl e:=by
 obtain⟨r1,r2,r3,r4⟩:=hv.edge he.1;have hfe:=hf e he;obtain⟨u,hu⟩:=zx (N.tl e);obtain⟨v,hvv⟩:=zx (N.hd e);obtain⟨c,hc⟩:=zx (N.co e);rw[<-hu] at r1 ht hlt hfe;rw[<-hvv] at r2 hlt hfe;rw[<-hc] at r3 r4 hlt hfe;rw[<-hu,<-hvv,<-hc]
 have hne:v≠u:=fun h=>by rw[h] at hlt hfe;omega
 have hns:v≠N.src:=fun e2=>by
  have h1:=h.lo u r1 ht;have h2:=h.s0;rw[e2] at hlt hfe;omega
 have hld:v<dist.length:=by rw[h.ld];exact r2
 have hlb:v<by_.length:=by rw[h.lb];exact r2
 have gd:∀w,gt (dist.set v (gt dist u+c)) w=if w=v then gt dist u+c else gt dist w:=fun w=>gt_set _ _ hld
 have gb:∀w,gt (by_.set v (e:Int)) w=if w=v then(e:Int) else gt by_ w:=fun w=>gt_set _ _ hlb
 have hnew:gt dist u+c<far:=by have:=h.hi v r2;omega
 have hcn:=cntl_set dist v (gt dist u+c) hld hnew;have hcle:=cntl_le dist;have hlo:=h.lo u r1 ht
 have hbn:∀w,w<N.nodes->w≠v->gt (by_.set v (e:Int)) w=gt by_ w:=fun w _ hw=>by rw[gb w,if_neg hw]
 have hpu:∃es,N.Path (by_.set v (e:Int)) u es:=by
  obtain⟨es,hes⟩:=h.pa u r1 ht;exact⟨es,DistI.above hv h hf hbn (gt dist u-p u) (by omega) hes r1 ht (Int.le_refl _)⟩
 have hpv:∃es,N.Path (by_.set v (e:Int)) v es:=by
  obtain⟨es,hes⟩:=hpu;exact⟨_,.cons (es:=es) hns (by rw[gb v,if_pos rfl,Int.toNat_natCast,<-hu];exact hes)⟩
 refine⟨⟨by rw[List.length_set];exact h.ld,by rw[List.length_set];exact h.lb,by rw[gd,if_neg (fun e2=>hns e2.symm)];exact h.s0,fun w hw=>?_,fun w hw hwf=>?_,fun w hw hwf=>?_,fun w hw=>?_,fun w hw hwn hwf=>?_,fun w hw hwf=>?_⟩,by rw[suml_set _ _ _ hld];omega,hns,hne⟩
 ·rw[gd];split
  ·omega
  ·exact h.hi w hw
 ·rw[gd] at hwf ⊢;by_cases e2:w=v
  ·rw[if_pos e2,e2];omega
  ·rw[if_neg e2] at hwf ⊢;exact h.lo w hw hwf
 ·have hup:=h.up u r1 ht;rw[gd] at hwf ⊢;by_cases hvf:gt dist v<far
  ·have h1:=h.up v r2 hvf;rw[hcn.1 hvf];by_cases e2:w=v
   ·rw[if_pos e2];omega
   ·rw[if_neg e2] at hwf ⊢;exact h.up w hw hwf
  ·rw[hcn.2 hvf];by_cases e2:w=v
   ·rw[if_pos e2];omega
   ·rw[if_neg e2] at hwf ⊢;have:=h.up w hw hwf;omega
 ·rw[gb];split
  ·have:=he.1;have:=hv.a25;omega
  ·exact h.b0 w hw
 ·rw[gb];by_cases e2:w=v
  ·rw[if_pos e2,Int.toNat_natCast,<-hu,<-hvv,<-hc,gd,if_neg (fun x=>hne x.symm),gd,if_pos e2];exact⟨he,e2.symm,ht,Int.le_refl _⟩
  ·rw[gd,if_neg e2] at hwf;obtain⟨h1,h2,h3,h4⟩:=h.ed w hw hwn hwf;rw[if_neg e2];refine⟨h1,h2,?_,?_⟩
   ·rw[gd];split
    ·exact hnew
    ·exact h3
   ·rw[gd,gd,if_neg e2];split
    ·rename_i e3;rw[e3] at h4;omega
    ·exact h4
 ·by_cases e2:w=v
  ·rw[e2];exact hpv
  ·rw[gd,if_neg e2] at hwf;obtain⟨es,hes⟩:=h.pa w hw hwf;exact DistI.swap hv h hbn hpv hes hw hwf
theorem DistI.nonneg{N:NetM}{fl:List Int}{p:Nat->Int}{dist by_:List Int}(h:DistI N fl p dist by_)(h0:∀v,v<N.nodes->0<=p v){v:Nat}(hv:v<N.nodes):0<=gt dist v:=by
 have hff:far=1099511627776:=rfl;by_cases hf:gt dist v<far
 ·have:=h.lo v hv hf;have:=h0 v hv;omega
 ·omega
structure DistE (N:NetM) (fl:List Int) (p:Nat->Int) (dist by_:List Int):Prop extends DistI N fl p dist by_ where
 no:∀e,N.Ed fl e->gt dist (N.tl e)<far->gt dist (N.hd e)<=gt dist (N.tl e)+N.co e
def nextP(dist:List Int)(p:Nat->Int)(v:Nat):Int:=if gt dist v<far then gt dist v else p v+far
theorem DistE.small{N:NetM}{fl:List Int}{p:Nat->Int}{dist by_:List Int}(hv:NetV N)(h:DistE N fl p dist by_){v:Nat}(hn:v<N.nodes)(hf:gt dist v<far):gt dist v<=700000:=by
 have h1:=h.up v hn hf;have h2:=cntl_le dist;have h3:=h.ld;have h4:=hv.n7;omega
theorem DistE.feas{N:NetM}{fl:List Int}{p:Nat->Int}{dist by_:List Int}(hv:NetV N)(h:DistE N fl p dist by_)(hf:N.Feas fl p)(h0:∀v,v<N.nodes->0<=p v):N.Feas fl (nextP dist p):=by
 intro e he;obtain⟨r1,r2,r3,r4⟩:=hv.edge he.1;have h1:=hf e he;have hu:=h0 _ r1;have hff:far=1099511627776:=rfl;unfold nextP;by_cases hut:gt dist (N.tl e)<far
 ·have h2:=h.no e he hut;have h3:=DistE.small hv h r1 hut;rw[if_pos hut,if_pos (by omega)];exact h2
 ·rw[if_neg hut];by_cases hvt:gt dist (N.hd e)<far
  ·have:=DistE.small hv h r2 hvt;rw[if_pos hvt];omega
  ·rw[if_neg hvt];omega
namespace NetM
variable (N : NetM)
def aug(m:Int)(fl:List Int)(e:Nat):List Int:=if e<N.arcs.length then fl.set e (gt fl e+m) else fl.set (e-N.arcs.length) (gt fl (e-N.arcs.length)-m)
def augs(m:Int)(es:List Nat)(fl:List Int):List Int:=es.foldl (N.aug m) fl
def Apart:List Nat->Prop
 | []=>True
 | e :: es=>(∀e'∈es,e'≠e/\e'≠N.rv e)/\Apart es
variable {N}
theorem aug_len(m:Int)(fl:List Int)(e:Nat):(N.aug m fl e).length=fl.length:=by unfold aug;split <;> simp
theorem rv_ed{e:Nat}(he:e<2*N.arcs.length):N.rv e<2*N.arcs.length/\N.rv (N.rv e)=e/\N.tl (N.rv e)=N.hd e/\N.hd (N.rv e)=N.tl e/\N.co (N.rv e) = - N.co e:=by
 unfold rv tl hd co;by_cases h:e<N.arcs.length
 ·have h1:¬e+N.arcs.length<N.arcs.length:=by omega
  simp only[h,h1,if_true,if_false,Nat.add_sub_cancel];refine⟨by omega,trivial,trivial,trivial,trivial⟩
 ·have h1:e-N.arcs.length<N.arcs.length:=by omega
  simp only[h,h1,if_true,if_false];refine⟨by omega,by omega,trivial,trivial,by omega⟩
theorem aug_re(m:Int){fl:List Int}(hl:fl.length=N.arcs.length){e e':Nat}(he:e<2*N.arcs.length)(he':e'<2*N.arcs.length) :
  N.re (N.aug m fl e) e'=if e'=e then N.re fl e' - m else if e'=N.rv e then N.re fl e'+m else N.re fl e':=by
 unfold re aug rv;by_cases h:e<N.arcs.length
 ·simp only[h,if_true];by_cases h':e'<N.arcs.length
  ·simp only[h',if_true];rw[gt_set _ _ (by omega)];by_cases q:e'=e
   ·subst q;simp only[if_true];omega
   ·rw[if_neg q,if_neg q,if_neg (by omega)]
  ·simp only[h',if_false];rw[gt_set _ _ (by omega)];rw[if_neg (show ¬e'=e by omega)];by_cases q:e'=e+N.arcs.length
   ·rw[if_pos (by omega),if_pos q,show e' - N.arcs.length=e by omega]
   ·rw[if_neg (by omega),if_neg q]
 ·simp only[h,if_false];by_cases h':e'<N.arcs.length
  ·simp only[h',if_true];rw[gt_set _ _ (by omega),if_neg (show ¬e'=e by omega)];by_cases q:e'=e-N.arcs.length
   ·rw[if_pos q,if_pos q,<-q];omega
   ·rw[if_neg q,if_neg q]
  ·simp only[h',if_false];rw[gt_set _ _ (by omega)];by_cases q:e'=e
   ·subst q;simp only[if_true]
   ·rw[if_neg (by omega),if_neg q,if_neg (by omega)]
theorem aug_caps{m:Int}{fl:List Int}(h:N.Caps fl)(hm:0<=m){e:Nat}(he:e<2*N.arcs.length)(hr:m<=N.re fl e):N.Caps (N.aug m fl e):=by
 refine⟨(aug_len _ _ _).trans h.1,fun i hi=>?_⟩;have hc:=h.2 i hi;unfold re at hr;unfold aug;by_cases hl:e<N.arcs.length
 ·rw[if_pos hl] at hr ⊢;rw[gt_set _ _ (by rw[h.1];exact hl)];split
  ·rename_i q;rw[<-q] at hr ⊢;omega
  ·exact hc
 ·rw[if_neg hl] at hr ⊢;rw[gt_set _ _ (by rw[h.1];omega)];split
  ·rename_i q;rw[<-q] at hr ⊢;omega
  ·exact hc
theorem Path.det{b:List Int}:∀{v:Nat} {es es':List Nat},N.Path b v es->N.Path b v es'->es=es':=by
 intro v es es' h
 induction h generalizing es' with
 | nil=>intro h';cases h' with
  | nil=>rfl
  | cons hn _=>exact absurd rfl hn
 | @cons v es hn hp ih=>intro h';cases h' with
  | nil=>exact absurd rfl hn
  | cons _ hp'=>rw[ih hp']
theorem Path.inv{b:List Int}{v e:Nat}{es:List Nat}(h:N.Path b v (e :: es)):v≠N.src/\e=(gt b v).toNat/\N.Path b (N.tl e) es:=by
 cases h with
 | cons h1 h2=>exact⟨h1,rfl,h2⟩
end NetM
def OnP(N:NetM)(fl:List Int)(dist by_:List Int)(e:Nat):Prop:=N.Ed fl e/\gt dist (N.tl e)<far/\gt dist (N.hd e)<far/\gt dist (N.hd e)=gt dist (N.tl e)+N.co e/\N.hd e≠N.src/\(gt by_ (N.hd e)).toNat=e
theorem DistE.path{N:NetM}{fl:List Int}{p:Nat->Int}{dist by_:List Int}(hv:NetV N)(h:DistE N fl p dist by_):∀{v:Nat} {es:List Nat},N.Path by_ v es->v<N.nodes->gt dist v<far->∀e∈es,OnP N fl dist by_ e/\∃es',N.Path by_ (N.hd e) (e :: es')/\es'.length<es.length:=by
 intro v es hp
 induction hp with
 | nil=>intro _ _ e he;cases he
 | @cons v es hn hp ih =>
  intro hvn hfar e he;obtain⟨h1,h2,h3,h4⟩:=h.ed v hvn hn hfar;have ht:=hv.edge h1.1;rcases List.mem_cons.1 he with rfl | he
  ·refine⟨⟨h1,h3,by rw[h2];exact hfar,?_,by rw[h2];exact hn,by rw[h2]⟩,es,by rw[h2];exact .cons hn hp,by simp⟩;have h5:=h.no _ h1 h3;rw[h2] at h5 ⊢;omega
  ·obtain⟨h5,es',h6,h7⟩:=ih ht.1 h3 e he;exact⟨h5,es',h6,by simp;omega⟩
theorem DistE.apart{N:NetM}{fl:List Int}{p:Nat->Int}{dist by_:List Int}(hv:NetV N)(h:DistE N fl p dist by_):∀{v:Nat} {es:List Nat},N.Path by_ v es->v<N.nodes->gt dist v<far->N.Apart es:=by
 intro v es hp
 induction hp with
 | nil=>intro _ _;trivial
 | @cons v es hn hp ih =>
  intro hvn hfar;obtain⟨h1,h2,h3,h4⟩:=h.ed v hvn hn hfar;obtain⟨e,hee⟩:=zx ((gt by_ v).toNat)
  have hpv:N.Path by_ v (e :: es):=by rw[hee];exact .cons hn hp
  rw[<-hee] at h1 h2 h3 h4 hp ih ⊢;have ht:=hv.edge h1.1;refine⟨fun e' he'=>?_,ih ht.1 h3⟩;obtain⟨h5,es',h6,h7⟩:=h.path hv hp ht.1 h3 e' he';refine⟨fun q=>?_,fun q=>?_⟩
  ·rw[q,h2] at h6;have:=NetM.Path.det hpv h6;injection this with _ this;rw[this] at h7;omega
  ·obtain⟨q1,q2,q3,q4,q5⟩:=NetM.rv_ed (N:=N) h1.1;rw[q,q4] at h6;have e1:=NetM.Path.det hp h6;rw[e1] at h7;obtain⟨_,_,h8⟩:=h6.inv;rw[q3,h2] at h8;have:=NetM.Path.det hpv h8
   have h9:(e :: es).length=es'.length:=by rw[this]
   rw[e1] at h9;simp at h9;omega
namespace NetM
variable {N : NetM}
theorem augs_re(m:Int):∀(es:List Nat) (fl:List Int),fl.length=N.arcs.length->(∀e∈es,e<2*N.arcs.length)->∀e',e'<2*N.arcs.length->e'∉es->(∀e∈es,e'≠N.rv e)->N.re (N.augs m es fl) e'=N.re fl e'
 | [],_,_,_,_,_,_,_=>rfl
 | e :: es,fl,hl,he,e',he',hn,hr=>by
  have:=augs_re m es (N.aug m fl e) ((aug_len _ _ _).trans hl) (fun x hx=>he x (List.mem_cons_of_mem _ hx)) e' he' (fun hx=>hn (List.mem_cons_of_mem _ hx)) (fun x hx=>hr x (List.mem_cons_of_mem _ hx));refine this.trans ?_;rw[aug_re m hl (he e List.mem_cons_self) he',if_neg (fun q:e'=e=>hn (by rw[q];exact List.mem_cons_self)),if_neg (hr e List.mem_cons_self)]
theorem feas_augs{m:Int}{es:List Nat}{fl dist by_:List Int}{p:Nat->Int}(hl:fl.length=N.arcs.length)(hf:N.Feas fl (nextP dist p))(hp:∀e∈es,OnP N fl dist by_ e):N.Feas (N.augs m es fl) (nextP dist p):=by
 have ht:∀e∈es,nextP dist p (N.hd e)=nextP dist p (N.tl e)+N.co e:=fun e he=>by
  obtain⟨_,h1,h2,h3,_⟩:=hp e he;unfold nextP;rw[if_pos h1,if_pos h2];exact h3
 intro e' he';by_cases h1:e'∈es
 ·exact Int.le_of_eq (ht e' h1)
 ·by_cases h2:∃e∈es,e'=N.rv e
  ·obtain⟨e,h3,h4⟩:=h2;obtain⟨q1,q2,q3,q4,q5⟩:=rv_ed (N:=N) (hp e h3).1.1;rw[h4,q3,q4,q5,ht e h3];omega
  ·refine hf e' ⟨he'.1,?_⟩;rw[<-augs_re m es fl hl (fun e he=>(hp e he).1.1) e' he'.1 h1 (fun e he q=>h2 ⟨e,he,q⟩)];exact he'.2
def wt(w:Nat->Int):List ArcM->List Int->Int
 | a :: ars,x :: xs=>x*(w a.f-w a.t)+wt w ars xs
 | _,_=>0
theorem wt_set(w:Nat->Int):∀(ars:List ArcM) (xs:List Int) (i:Nat) (y:Int),ars.length=xs.length->i<xs.length->wt w ars (xs.set i y)=wt w ars xs+(y-gt xs i)*(w ((ars.getD i ⟨0,0,0,0⟩).f)-w ((ars.getD i ⟨0,0,0,0⟩).t))
 | [],[],i,y,_,h=>by simp at h
 | [],x :: xs,i,y,e,h=>by simp at e
 | a :: ars,[],i,y,e,h=>by simp at e
 | a :: ars,x :: xs,0,y,e,h=>by
  simp only[List.set_cons_zero,wt,gt,List.getD_cons_zero,Int.sub_mul];omega
 | a :: ars,x :: xs,i+1,y,e,h=>by
  have:=wt_set w ars xs i y (by simpa using e) (by simpa using h);simp only[List.set_cons_succ,wt,this,List.getD_cons_succ]
  have e2:gt (x :: xs) (i+1)=gt xs i:=by simp[gt]
  rw[e2];omega
theorem wt_aug(w:Nat->Int)(m:Int){fl:List Int}(hl:fl.length=N.arcs.length){e:Nat}(he:e<2*N.arcs.length):wt w N.arcs (N.aug m fl e)=wt w N.arcs fl+m*(w (N.tl e)-w (N.hd e)):=by
 unfold aug tl hd;by_cases h:e<N.arcs.length
 ·simp only[h,if_true];rw[wt_set w _ _ _ _ hl.symm (by omega)];rw[show gt fl e+m-gt fl e=m by omega];rfl
 ·simp only[h,if_false];rw[wt_set w _ _ _ _ hl.symm (by omega)];rw[show gt fl (e-N.arcs.length)-m-gt fl (e-N.arcs.length) = -m by omega];unfold arc;rw[Int.neg_mul,Int.mul_sub,Int.mul_sub];omega
end NetM
theorem DistE.wt{N:NetM}{fl:List Int}{p:Nat->Int}{dist by_:List Int}(hv:NetV N)(h:DistE N fl p dist by_)(w:Nat->Int)(m:Int):∀{v:Nat} {es:List Nat},N.Path by_ v es->v<N.nodes->gt dist v<far->∀fl':List Int,fl'.length=N.arcs.length->NetM.wt w N.arcs (N.augs m es fl')=NetM.wt w N.arcs fl'+m*(w N.src-w v):=by
 intro v es hp
 induction hp with
 | nil=>intro _ _ fl' _;simp[NetM.augs]
 | @cons v es hn hp ih =>
  intro hvn hfar fl' hl;obtain⟨h1,h2,h3,h4⟩:=h.ed v hvn hn hfar;have ht:=hv.edge h1.1;have:=ih ht.1 h3 (N.aug m fl' (gt by_ v).toNat) ((NetM.aug_len _ _ _).trans hl);show NetM.wt w N.arcs (N.augs m es (N.aug m fl' (gt by_ v).toNat))=_;rw[this,NetM.wt_aug w m hl h1.1,h2,Int.mul_sub,Int.mul_sub,Int.mul_sub];omega
structure FlowI (N:NetM) (fl:List Int) (p:Nat->Int) (k:Nat):Prop where
 caps:N.Caps fl
 feas:N.Feas fl p
 p0:p N.src=0
 lo:∀v,v<N.nodes->0<=p v
 hi:∀v,v<N.nodes->p v<=(k:Int)*far
 wt:∀w,NetM.wt w N.arcs fl=(k:Int)*(w N.src-w N.snk)
theorem wt_zero(w:Nat->Int):∀(ars:List ArcM) (n:Nat),NetM.wt w ars (List.replicate n 0)=0
 | [],n=>by cases n <;> rfl
 | a :: ars,0=>rfl
 | a :: ars,n+1=>by simp[List.replicate_succ,NetM.wt,wt_zero w ars n]
theorem FlowI.start{N:NetM}(h:NetV N):FlowI N (List.replicate N.arcs.length 0) (fun _=>0) 0:=by
 have hg:∀i,i<N.arcs.length->gt (List.replicate N.arcs.length 0) i=0:=fun i hi=>gt_rep _ _ _ hi
 refine⟨⟨by simp,fun i hi=>by rw[hg i hi];have:=h.arc i hi;omega⟩,fun e he=>?_,rfl,fun _ _=>Int.le_refl _,fun _ _=>by simp,fun w=>by rw[wt_zero];simp⟩;have h1:=he.1;have h2:=he.2;unfold NetM.re at h2;unfold NetM.co;by_cases hl:e<N.arcs.length
 ·rw[if_pos hl];have:=h.arc e hl;omega
 ·rw[if_neg hl,hg _ (by omega)] at h2;omega
theorem FlowI.step{N:NetM}{fl:List Int}{p:Nat->Int}{k:Nat}{dist by_:List Int}(hv:NetV N)(h:FlowI N fl p k)(hd:DistE N fl p dist by_){es:List Nat}(hp:N.Path by_ N.snk es)(hs:gt dist N.snk<far){m:Nat}(hm:0<m)(hc:N.Caps (N.augs m es fl)) :
  FlowI N (N.augs m es fl) (nextP dist p) (k+m):=by
 have hon:=hd.path hv hp hv.snk hs;have hff:far=1099511627776:=rfl;refine⟨hc,NetM.feas_augs h.caps.1 (hd.feas hv h.feas h.lo) (fun e he=>(hon e he).1),?_,fun v hn=>?_,fun v hn=>?_,fun w=>?_⟩
 ·unfold nextP;rw[if_pos (by rw[hd.s0];decide)];exact hd.s0
 ·unfold nextP;split
  ·exact hd.nonneg h.lo hn
  ·have:=h.lo v hn;omega
 ·have h1:=h.hi v hn
  have h2:((k+m:Nat):Int)*far=(k:Int)*far+(m:Int)*far:=by rw[Int.natCast_add,Int.add_mul]
  have h3:far<=(m:Int)*far:=by rw[hff];omega
  have h4:0<=(k:Int)*far:=by rw[hff];omega
  unfold nextP;split
  ·rename_i q;omega
  ·omega
 ·rw[hd.wt hv w m hp hv.snk hs fl h.caps.1,h.wt w,Int.natCast_add,Int.add_mul]
theorem augs_step{N:NetM}{fl:List Int}{m:Int}{e:Nat}{es:List Nat}(hc:N.Caps fl)(hm:0<=m)(hlt:∀x∈e :: es,x<2*N.arcs.length)(hr:∀x∈e :: es,m<=N.re fl x)(ha:N.Apart (e :: es)) :
  N.Caps (N.aug m fl e)/\(∀x∈es,m<=N.re (N.aug m fl e) x)/\N.Apart es:=by
 refine⟨NetM.aug_caps hc hm (hlt e List.mem_cons_self) (hr e List.mem_cons_self),fun x hx=>?_,ha.2⟩;rw[NetM.aug_re m hc.1 (hlt e List.mem_cons_self) (hlt x (List.mem_cons_of_mem _ hx)),if_neg (ha.1 x hx).1,if_neg (ha.1 x hx).2];exact hr x (List.mem_cons_of_mem _ hx)
theorem augs_caps{N:NetM}{m:Int}(hm:0<=m):∀(es:List Nat) (fl:List Int),N.Caps fl->(∀x∈es,x<2*N.arcs.length)->(∀x∈es,m<=N.re fl x)->N.Apart es->N.Caps (N.augs m es fl)
 | [],fl,h,_,_,_=>h
 | e :: es,fl,h,hlt,hr,ha=>by
  obtain⟨h1,h2,h3⟩:=augs_step h hm hlt hr ha;exact augs_caps hm es (N.aug m fl e) h1 (fun x hx=>hlt x (List.mem_cons_of_mem _ hx)) h2 h3
def macN(F:FltM)(d:Nat):Nat:=match F.dves[d]? with | some x=>x.machine.toNat | none=>0
def parN(F:FltM)(i:Nat):Nat:=match F.doms[i]? with | some x=>x.parent.toNat | none=>0
def levN(F:FltM)(i:Nat):Int:=match F.doms[i]? with | some x=>x.level | none=>0
def sprN(F:FltM)(v:Nat)(l:Int):Int:=match F.pols[volP F v]? with | some x=>if l=3 then x.s3 else if l=4 then x.s4 else 0 | none=>0
def modsN(F:FltM)(v:Nat):List Int:=match F.pols[volP F v]? with | some x=>x.models | none=>[]
def mdlN(F:FltM)(d:Nat):Int:=match F.dves[d]? with | some x=>x.model | none=>0
def allowN(F:FltM)(v d:Nat):Bool:=(modsN F v).contains (mdlN F d)
def capN(F:FltM)(v i:Nat):Int:=if sprN F v (levN F i)=0 then(szN F v:Int) else sprN F v (levN F i)
def nodN(F:FltM)(v i:Nat):Nat:=if i=0 then 2+v else 2+F.vols.length+v*(F.doms.length-1)+i-1
def drvN(F:FltM)(d:Nat):Nat:=2+F.vols.length*F.doms.length+d
def srcA(F:FltM)(v:Nat):ArcM:=⟨0,nodN F v 0,(szN F v:Int),0⟩
def domA(F:FltM)(v i:Nat):ArcM:=⟨nodN F v (parN F i),nodN F v i,capN F v i,0⟩
def dveA(F:FltM)(v d:Nat):ArcM:=⟨nodN F v (macN F d),drvN F d,1,0⟩
def snkA(F:FltM)(rm:List Int)(d:Nat):ArcM:=⟨drvN F d,1,gt rm d,0⟩
def domsA(F:FltM)(v n:Nat):List ArcM:=(List.range n).map fun j=>domA F v (j+1)
def dvesA(F:FltM)(v n:Nat):List ArcM:=((List.range n).filter (allowN F v)).map (dveA F v)
def volA(F:FltM)(v:Nat):List ArcM:=srcA F v :: (domsA F v (F.doms.length-1)++dvesA F v F.dves.length)
def volsA(F:FltM)(n:Nat):List ArcM:=(List.range n).flatMap (volA F)
def snksA(F:FltM)(rm:List Int)(n:Nat):List ArcM:=(List.range n).map (snkA F rm)
def netA(F:FltM)(rm:List Int):List ArcM:=volsA F F.vols.length++snksA F rm F.dves.length
theorem domsA_succ(F:FltM)(v n:Nat):domsA F v (n+1)=domsA F v n++[domA F v (n+1)]:=by unfold domsA;rw[List.range_succ,List.map_append];rfl
theorem dvesA_succ(F:FltM)(v n:Nat):dvesA F v (n+1)=if allowN F v n=true then dvesA F v n++[dveA F v n] else dvesA F v n:=by
 unfold dvesA;rw[List.range_succ,List.filter_append,List.map_append];by_cases h:allowN F v n=true
 ·rw[if_pos h];simp[List.filter_cons,h]
 ·rw[if_neg h];simp[List.filter_cons,h]
theorem volsA_succ(F:FltM)(n:Nat):volsA F (n+1)=volsA F n++volA F n:=by unfold volsA;rw[List.range_succ,List.flatMap_append];simp
theorem snksA_succ(F:FltM)(rm:List Int)(n:Nat):snksA F rm (n+1)=snksA F rm n++[snkA F rm n]:=by unfold snksA;rw[List.range_succ,List.map_append];rfl
theorem domsA_len(F:FltM)(v n:Nat):(domsA F v n).length=n:=by unfold domsA;simp
theorem dvesA_len(F:FltM)(v n:Nat):(dvesA F v n).length<=n:=by unfold dvesA;rw[List.length_map];exact Nat.le_trans (List.length_filter_le _ _) (by simp)
theorem snksA_len(F:FltM)(rm:List Int)(n:Nat):(snksA F rm n).length=n:=by unfold snksA;simp
theorem volA_len{N:Nat}{F:FltM}(hok:FleetOk N F)(v:Nat):(volA F v).length<=30:=by
 have h1:=dvesA_len F v F.dves.length;have h2:=hok.domN;have h3:=hok.dveN;unfold volA;rw[List.length_cons,zP,domsA_len];omega
theorem volsA_len{N:Nat}{F:FltM}(hok:FleetOk N F):∀n,(volsA F n).length<=30*n
 | 0=>by simp[volsA]
 | n+1=>by
  rw[volsA_succ,zP];have:=volsA_len hok n;have:=volA_len hok n;omega
theorem mac_lt{N:Nat}{F:FltM}(hok:FleetOk N F){d:Nat}(hd:d<F.dves.length):macN F d<F.doms.length:=by
 obtain⟨-,-,m,h1,x,h2,-⟩:=hok.dves d _ (zG hd);unfold macN;rw[zG hd];show(F.dves[d].machine).toNat<_;rw[h1,Int.toNat_natCast];exact(zL.1 h2).1
theorem par_lt{N:Nat}{F:FltM}(hok:FleetOk N F){i:Nat}(hi:i<F.doms.length)(h1:1<=i):parN F i<i:=by
 obtain⟨-,-,-,⟨p,hp,hpi,-⟩,-⟩:=hok.doms.rest i _ (zG hi) h1;unfold parN;rw[zG hi];show(F.doms[i].parent).toNat<_;rw[hp,Int.toNat_natCast];exact hpi
theorem nod_lt{F:FltM}{v i:Nat}(hv:v<F.vols.length)(hi:i<F.doms.length):2<=nodN F v i/\nodN F v i<drvN F 0:=by
 have h1:(v+1)*(F.doms.length-1)<=F.vols.length*(F.doms.length-1):=Nat.mul_le_mul_right _ hv
 have h2:F.vols.length*(F.doms.length-1)+F.vols.length=F.vols.length*F.doms.length:=by
  obtain⟨k,hk⟩:∃k,F.doms.length=k+1:=⟨F.doms.length-1,by omega⟩;rw[hk,Nat.add_sub_cancel,Nat.mul_succ]
 rw[Nat.add_mul,Nat.one_mul] at h1;unfold nodN drvN;by_cases h0:i=0
 ·rw[if_pos h0];omega
 ·rw[if_neg h0];omega
theorem nod_inj{F:FltM}{v v' i:Nat}(hi:i<F.doms.length)(h:nodN F v i=nodN F v' i):v=v':=by
 unfold nodN at h;by_cases h0:i=0
 ·rw[if_pos h0,if_pos h0] at h;omega
 ·rw[if_neg h0,if_neg h0] at h;exact Nat.eq_of_mul_eq_mul_right (show 0<F.doms.length-1 by omega) (by omega)
theorem cap_ok{N:Nat}{F:FltM}(hok:FleetOk N F){v:Nat}(hv:v<F.vols.length)(i:Nat):0<=capN F v i/\capN F v i<=6:=by
 have h1:=szN_range hok hv;obtain⟨-,-,-,-,-,-,-,h3,h4,h5,h6,-⟩:=hok.pols (volP F v) _ (zG (volP_lt hok hv).1);unfold capN;split
 ·omega
 ·unfold sprN;rw[zG (volP_lt hok hv).1];show 0<=(if levN F i=3 then _ else if levN F i=4 then _ else(0:Int))/\(if levN F i=3 then _ else if levN F i=4 then _ else(0:Int))<=6;split
  ·omega
  ·split <;> omega
theorem netA_cases{F:FltM}{rm:List Int}{a:ArcM}(h:a∈netA F rm):(∃v,v<F.vols.length/\(a=srcA F v\/(∃i,1<=i/\i<F.doms.length/\a=domA F v i)\/(∃d,d<F.dves.length/\allowN F v d=true/\a=dveA F v d)))\/∃d,d<F.dves.length/\a=snkA F rm d:=by
 rcases List.mem_append.1 h with h | h
 ·unfold volsA at h;obtain⟨v,hv,h⟩:=List.mem_flatMap.1 h;refine .inl ⟨v,List.mem_range.1 hv,?_⟩;rcases List.mem_cons.1 h with h | h
  ·exact .inl h
  ·rcases List.mem_append.1 h with h | h
   ·obtain⟨j,hj,rfl⟩:=List.mem_map.1 h;have:=List.mem_range.1 hj;exact .inr (.inl ⟨j+1,by omega,by omega,rfl⟩)
   ·obtain⟨d,hd,rfl⟩:=List.mem_map.1 h;obtain⟨h1,h2⟩:=List.mem_filter.1 hd;exact .inr (.inr ⟨d,List.mem_range.1 h1,h2,rfl⟩)
 ·obtain⟨d,hd,rfl⟩:=List.mem_map.1 h;exact .inr ⟨d,List.mem_range.1 hd,rfl⟩
def volOf(F:FltM)(a:ArcM):Option Nat:=if a.t<drvN F 0 then none else(List.range F.vols.length).find? (fun v=>decide (a.f=nodN F v (macN F (a.t-drvN F 0))))
theorem volOf_dve{N:Nat}{F:FltM}(hok:FleetOk N F){v d:Nat}(hv:v<F.vols.length)(hd:d<F.dves.length):volOf F (dveA F v d)=some v:=by
 unfold volOf dveA
 have e:drvN F d-drvN F 0=d:=by unfold drvN;omega
 rw[if_neg (show ¬drvN F d<drvN F 0 by unfold drvN;omega)];show List.find? (fun v'=>decide (nodN F v (macN F d)=nodN F v' (macN F (drvN F d-drvN F 0)))) _=_;rw[e,List.find?_range_eq_some];refine⟨by simp,List.mem_range.2 hv,fun j hj=>?_⟩;simp only[Bool.not_eq_true',decide_eq_false_iff_not];intro h;have:=nod_inj (mac_lt hok hd) h;omega
theorem volOf_low{F:FltM}{a:ArcM}(h:a.t<drvN F 0):volOf F a=none:=by unfold volOf;rw[if_pos h]
def costA(F:FltM)(L:List (List Int))(a:ArcM):ArcM:=match volOf F a with
 | some v=>if(L.getD v []).contains (((a.t-drvN F 0:Nat):Int)) then a else { a with cost:=1 }
 | none=>a
theorem costA_ft(F:FltM)(L:List (List Int))(a:ArcM):(costA F L a).f=a.f/\(costA F L a).t=a.t/\(costA F L a).cap=a.cap:=by
 unfold costA;split
 ·split <;> exact⟨rfl,rfl,rfl⟩
 ·exact⟨rfl,rfl,rfl⟩
theorem costA_low{F:FltM}{L:List (List Int)}{a:ArcM}(h:a.t<drvN F 0):costA F L a=a:=by
 unfold costA;rw[volOf_low h]
theorem costA_dve{N:Nat}{F:FltM}(hok:FleetOk N F)(L:List (List Int)){v d:Nat}(hv:v<F.vols.length)(hd:d<F.dves.length):costA F L (dveA F v d)=if(L.getD v []).contains (d:Int) then dveA F v d else { dveA F v d with cost:=1 }:=by
 have e:drvN F d-drvN F 0=d:=by unfold drvN;omega
 unfold costA;rw[volOf_dve hok hv hd];show(if(L.getD v []).contains (((drvN F d-drvN F 0:Nat):Int)) then _ else _)=_;rw[e]
def netM(F:FltM)(L:List (List Int))(rm:List Int):NetM:=⟨drvN F F.dves.length,0,1,(netA F rm).map (costA F L)⟩
def wN(F:FltM)(x:Nat):Int:=if x=1 then 0 else if x<drvN F 0 then 1 else 0
theorem wN_nod{F:FltM}{v i:Nat}(hv:v<F.vols.length)(hi:i<F.doms.length):wN F (nodN F v i)=1:=by
 have:=nod_lt hv hi;unfold wN;rw[if_neg (by omega),if_pos this.2]
theorem wN_drv(F:FltM)(d:Nat):wN F (drvN F d)=0:=by
 unfold wN;rw[if_neg (by unfold drvN;omega),if_neg (by unfold drvN;omega)]
theorem wN_src{F:FltM}:wN F 0=1:=by unfold wN;rw[if_neg (by omega),if_pos (by unfold drvN;omega)]
theorem wN_snk{F:FltM}:wN F 1=0:=by unfold wN;rw[if_pos rfl]
def zc(w:Nat->Int)(A:List ArcM):Nat:=(A.filter fun a=>decide (w a.f-w a.t=1/\a.cost=0)).length
def cst:List ArcM->List Int->Int
 | a :: bs,x :: xs=>x*a.cost+cst bs xs
 | _,_=>0
structure ArcG (w:Nat->Int) (a:ArcM):Prop where
 c:a.cost=0\/a.cost=1
 z:w a.f-w a.t=0\/(w a.f-w a.t=1/\(a.cost=0->a.cap<=1))
theorem cst_ge(w:Nat->Int):∀(A:List ArcM) (fl:List Int),A.length=fl.length->(∀(i:Nat) (a:ArcM) (x:Int),A[i]?=some a->fl[i]?=some x->0<=x/\x<=a.cap)->(∀a∈A,ArcG w a)->NetM.wt w A fl-(zc w A:Int)<=cst A fl
 | [],[],_,_,_=>by simp[NetM.wt,zc,cst]
 | [],x :: xs,h,_,_=>by simp at h
 | a :: bs,[],h,_,_=>by simp at h
 | a :: bs,x :: xs,h,hc,hg=>by
  have ih:=cst_ge w bs xs (by simpa using h) (fun i a x h1 h2=>hc (i+1) a x (by simpa using h1) (by simpa using h2)) (fun a ha=>hg a (List.mem_cons_of_mem _ ha));have h0:=hc 0 a x rfl rfl;obtain⟨g1,g2⟩:=hg a List.mem_cons_self
  have hz:zc w (a :: bs)=(if decide (w a.f-w a.t=1/\a.cost=0)=true then 1 else 0)+zc w bs:=by
   unfold zc;rw[List.filter_cons];split
   ·rw[List.length_cons];omega
   ·omega
  simp only[NetM.wt,cst];rw[hz];rcases g2 with g2 | ⟨g2,g3⟩
  ·rw[g2,Int.mul_zero,if_neg (by simp[g2])]
   have:0<=x*a.cost:=by rcases g1 with g1 | g1 <;> rw[g1] <;> omega
   omega
  ·rw[g2,Int.mul_one];rcases g1 with g1 | g1
   ·rw[g1,Int.mul_zero,if_pos (by simp)];have:=g3 g1;omega
   ·rw[g1,Int.mul_one,if_neg (by simp)];omega
theorem zc_app(w:Nat->Int)(A B:List ArcM):zc w (A++B)=zc w A+zc w B:=by unfold zc;rw[List.filter_append,zP]
theorem zc_none(w:Nat->Int)(A:List ArcM)(h:∀a∈A,w a.f-w a.t≠1):zc w A=0:=by
 unfold zc;rw[List.filter_eq_nil_iff.2 (fun a ha=>by simp[h a ha])];rfl
theorem in_count(l:List Int):∀n,((List.range n).filter fun d=>l.contains ((d:Nat):Int)).length<=(l.filter fun x=>decide (0<=x/\x<(n:Int))).length
 | 0=>by simp
 | n+1=>by
  have ih:=in_count l n;rw[List.range_succ,List.filter_append,zP]
  have hs:∀l:List Int,(l.filter fun x=>decide (0<=x/\x<(n:Int))).length+(if l.contains ((n:Nat):Int) then 1 else 0)<=(l.filter fun x=>decide (0<=x/\x<((n+1:Nat):Int))).length:=by
   intro l
   induction l with
   | nil=>simp
   | cons y l ih =>
    rw[List.filter_cons,List.filter_cons,List.contains_cons];by_cases h1:y=(n:Int)
    ·have d1:decide (0<=y/\y<(n:Int))=false:=decide_eq_false (by omega);have d2:decide (0<=y/\y<((n+1:Nat):Int))=true:=decide_eq_true (by omega)
     have d3:(((n:Nat):Int)==y||l.contains ((n:Nat):Int))=true:=by rw[h1];simp
     rw[d1,d2,d3,if_neg (by decide),if_pos rfl,if_pos rfl,List.length_cons]
     have:(l.filter fun x=>decide (0<=x/\x<(n:Int))).length<=(l.filter fun x=>decide (0<=x/\x<((n+1:Nat):Int))).length:=by
      refine Nat.le_trans ?_ ih;omega
     omega
    ·have e:(((n:Nat):Int)==y||l.contains ((n:Nat):Int))=l.contains ((n:Nat):Int):=by
      rw[beq_eq_false_iff_ne.2 (fun h=>h1 h.symm),Bool.false_or]
     rw[e];by_cases h2:0<=y/\y<(n:Int)
     ·have d1:decide (0<=y/\y<(n:Int))=true:=decide_eq_true h2;have d2:decide (0<=y/\y<((n+1:Nat):Int))=true:=decide_eq_true (by omega);rw[d1,d2,if_pos rfl,if_pos rfl,List.length_cons,List.length_cons];omega
     ·have d1:decide (0<=y/\y<(n:Int))=false:=decide_eq_false h2;have d2:decide (0<=y/\y<((n+1:Nat):Int))=false:=decide_eq_false (by omega);rw[d1,d2];exact ih
  have:=hs l;refine Nat.le_trans (Nat.add_le_add_right ih _) (Nat.le_trans (Nat.add_le_add_left ?_ _) this);by_cases h:l.contains ((n:Nat):Int)=true
  ·rw[List.filter_cons,if_pos h,if_pos h];simp
  ·rw[List.filter_cons,if_neg h];simp
def keptL(l:List Int):Nat:=(l.filter fun x=>decide (0<=x)).length
def freshR(l:List Int):Nat:=(l.filter fun x=>decide (x<0)).length
theorem kept_fresh:∀l:List Int,keptL l+freshR l=l.length
 | []=>rfl
 | x :: l=>by
  have:=kept_fresh l;unfold keptL freshR at this ⊢;rw[List.filter_cons,List.filter_cons];by_cases h:0<=x
  ·have d1:decide (0<=x)=true:=decide_eq_true h;have d2:decide (x<0)=false:=decide_eq_false (by omega);rw[d1,d2,if_pos rfl,if_neg (by decide),List.length_cons,List.length_cons];omega
  ·have d1:decide (0<=x)=false:=decide_eq_false h;have d2:decide (x<0)=true:=decide_eq_true (by omega);rw[d1,d2,if_pos rfl,if_neg (by decide),List.length_cons,List.length_cons];omega
theorem in_kept(l:List Int)(n:Nat):((List.range n).filter fun d=>l.contains ((d:Nat):Int)).length<=keptL l:=by
 refine Nat.le_trans (in_count l n) ?_;unfold keptL
 induction l with
 | nil=>simp
 | cons x l ih =>
  rw[List.filter_cons,List.filter_cons];by_cases h:0<=x/\x<(n:Int)
  ·have d1:decide (0<=x/\x<(n:Int))=true:=decide_eq_true h;have d2:decide (0<=x)=true:=decide_eq_true h.1;rw[d1,d2,if_pos rfl,if_pos rfl,List.length_cons,List.length_cons];omega
  ·have d1:decide (0<=x/\x<(n:Int))=false:=decide_eq_false h;rw[d1,if_neg (by decide)];split
   ·rw[List.length_cons];omega
   ·exact ih
theorem flen_mono{α:Type}{p q:α->Bool}:∀l:List α,(∀x∈l,p x=true->q x=true)->(l.filter p).length<=(l.filter q).length
 | [],_=>by simp
 | x :: l,h=>by
  have ih:=flen_mono l (fun y hy=>h y (List.mem_cons_of_mem _ hy));rw[List.filter_cons,List.filter_cons];by_cases hp:p x=true
  ·rw[if_pos hp,if_pos (h x List.mem_cons_self hp),List.length_cons,List.length_cons];omega
  ·rw[if_neg hp];split
   ·rw[List.length_cons];omega
   ·exact ih
theorem src_w{N:Nat}{F:FltM}(hok:FleetOk N F){v:Nat}(hv:v<F.vols.length):wN F (srcA F v).f-wN F (srcA F v).t=0:=by
 show wN F 0-wN F (nodN F v 0)=0
 rw[wN_src,wN_nod hv hok.doms.pos];rfl
theorem dom_w{N:Nat}{F:FltM}(hok:FleetOk N F){v i:Nat}(hv:v<F.vols.length)(h1:1<=i)(hi:i<F.doms.length):wN F (domA F v i).f-wN F (domA F v i).t=0:=by
 show wN F (nodN F v (parN F i))-wN F (nodN F v i)=0
 rw[wN_nod hv hi,wN_nod hv (by have:=par_lt hok hi h1;omega)];rfl
theorem dve_w{N:Nat}{F:FltM}(hok:FleetOk N F){v d:Nat}(hv:v<F.vols.length)(hd:d<F.dves.length):wN F (dveA F v d).f-wN F (dveA F v d).t=1:=by
 show wN F (nodN F v (macN F d))-wN F (drvN F d)=1
 rw[wN_nod hv (mac_lt hok hd),wN_drv];rfl
theorem snk_w(F:FltM)(rm:List Int)(d:Nat):wN F (snkA F rm d).f-wN F (snkA F rm d).t=0:=by
 show wN F (drvN F d)-wN F 1=0
 rw[wN_drv,wN_snk];rfl
theorem src_low{N:Nat}{F:FltM}(hok:FleetOk N F){v:Nat}(hv:v<F.vols.length):(srcA F v).t<drvN F 0:=(nod_lt hv hok.doms.pos).2
theorem dom_low{F:FltM}{v i:Nat}(hv:v<F.vols.length)(hi:i<F.doms.length):(domA F v i).t<drvN F 0:=(nod_lt hv hi).2
theorem snk_low(F:FltM)(rm:List Int)(d:Nat):(snkA F rm d).t<drvN F 0:=by show 1<drvN F 0;unfold drvN;omega
theorem zc_vol{N:Nat}{F:FltM}(hok:FleetOk N F)(L:List (List Int)){v:Nat}(hv:v<F.vols.length):zc (wN F) ((volA F v).map (costA F L))<=keptL (L.getD v []):=by
 have e:volA F v=[srcA F v]++(domsA F v (F.doms.length-1)++dvesA F v F.dves.length):=rfl;rw[e,List.map_append,List.map_append,zc_app,zc_app]
 have z1:zc (wN F) ([srcA F v].map (costA F L))=0:=zc_none _ _ (fun a ha=>by
  obtain⟨b,hb,rfl⟩:=List.mem_map.1 ha
  rw[List.mem_singleton.1 hb,costA_low (src_low hok hv),src_w hok hv];omega)
 have z2:zc (wN F) ((domsA F v (F.doms.length-1)).map (costA F L))=0:=zc_none _ _ (fun a ha=>by
  obtain⟨b,hb,rfl⟩:=List.mem_map.1 ha;obtain⟨j,hj,rfl⟩:=List.mem_map.1 hb;have hj:=List.mem_range.1 hj
  rw[costA_low (dom_low hv (by omega)),dom_w hok hv (by omega) (by omega)];omega)
 rw[z1,z2,Nat.zero_add,Nat.zero_add];refine Nat.le_trans ?_ (in_kept (L.getD v []) F.dves.length);unfold zc dvesA;rw[List.filter_map,List.length_map,List.filter_map,List.length_map,List.filter_filter];refine flen_mono _ (fun d hd h=>?_);have hd:=List.mem_range.1 hd;simp only[Function.comp_apply,Bool.and_eq_true,decide_eq_true_eq] at h;by_cases hc:(L.getD v []).contains (d:Int)=true
 ·exact hc
 ·have h2:=h.1.2;rw[costA_dve hok L hv hd,if_neg hc] at h2;exact absurd h2 (by show ¬(1:Int)=0;omega)
def sumN(f:Nat->Nat):Nat->Nat
 | 0=>0
 | n+1=>sumN f n+f n
theorem sumN_eq{f g:Nat->Nat}:∀n,(∀i,i<n->f i=g i)->sumN f n=sumN g n
 | 0,_=>rfl
 | n+1,h=>by show sumN f n+f n=sumN g n+g n;rw[sumN_eq n (fun i hi=>h i (by omega)),h n (by omega)]
theorem sumN_add(f g:Nat->Nat):∀n,sumN (fun i=>f i+g i) n=sumN f n+sumN g n
 | 0=>rfl
 | n+1=>by show sumN (fun i=>f i+g i) n+(f n+g n)=_;rw[sumN_add f g n];show _=sumN f n+f n+(sumN g n+g n);omega
theorem zc_net{N:Nat}{F:FltM}(hok:FleetOk N F)(L:List (List Int))(rm:List Int):zc (wN F) ((netA F rm).map (costA F L))<=sumN (fun v=>keptL (L.getD v [])) F.vols.length:=by
 have h1:∀n,n<=F.vols.length->zc (wN F) ((volsA F n).map (costA F L))<=sumN (fun v=>keptL (L.getD v [])) n:=by
  intro n
  induction n with
  | zero=>intro _;exact zR _
  | succ n ih =>
   intro hn;rw[volsA_succ,List.map_append,zc_app];exact Nat.add_le_add (ih (by omega)) (zc_vol hok L (by omega))
 have h2:zc (wN F) ((snksA F rm F.dves.length).map (costA F L))=0:=zc_none _ _ (fun a ha=>by
  obtain⟨b,hb,rfl⟩:=List.mem_map.1 ha;obtain⟨d,hd,rfl⟩:=List.mem_map.1 hb
  rw[costA_low (snk_low F rm d),snk_w];omega)
 unfold netA;rw[List.map_append,zc_app,h2];exact h1 _ (zR _)
def totN(F:FltM)(n:Nat):Nat:=sumN (szN F) n
def freshN(L:List (List Int))(n:Nat):Nat:=sumN (fun v=>freshR (L.getD v [])) n
theorem arc_good{N:Nat}{F:FltM}(hok:FleetOk N F)(L:List (List Int))(rm:List Int):∀a∈(netM F L rm).arcs,ArcG (wN F) a:=by
 intro a ha;obtain⟨b,hb,rfl⟩:=List.mem_map.1 ha;rcases netA_cases hb with ⟨v,hv,rfl | ⟨i,h1,hi,rfl⟩ | ⟨d,hd,-,rfl⟩⟩ | ⟨d,hd,rfl⟩
 ·rw[costA_low (src_low hok hv)];exact⟨.inl rfl,.inl (src_w hok hv)⟩
 ·rw[costA_low (dom_low hv hi)];exact⟨.inl rfl,.inl (dom_w hok hv h1 hi)⟩
 ·rw[costA_dve hok L hv hd];split
  ·exact⟨.inl rfl,.inr ⟨dve_w hok hv hd,fun _=>Int.le_refl _⟩⟩
  ·exact⟨.inr rfl,.inr ⟨dve_w hok hv hd,fun _=>Int.le_refl _⟩⟩
 ·rw[costA_low (snk_low F rm d)];exact⟨.inl rfl,.inl (snk_w F rm d)⟩
theorem netA_len{N:Nat}{F:FltM}(hok:FleetOk N F)(hN:N<=12)(rm:List Int):(netA F rm).length<=369:=by
 have h1:=volsA_len hok F.vols.length;have h2:=hok.volN;have h3:=hok.dveN;unfold netA;rw[zP,snksA_len];omega
theorem drv_le{N:Nat}{F:FltM}(hok:FleetOk N F)(hN:N<=12)(d:Nat):drvN F d<=254+d:=by
 have h1:F.vols.length*F.doms.length<=12*21:=Nat.mul_le_mul (by have:=hok.volN;omega) hok.domN;unfold drvN;omega
theorem net_arc{N:Nat}{F:FltM}(hok:FleetOk N F)(hN:N<=12){rm:List Int}(hrm:∀d,d<F.dves.length->0<=gt rm d/\gt rm d<=4){a:ArcM}(h:a∈netA F rm):a.f<drvN F F.dves.length/\a.t<drvN F F.dves.length/\0<=a.cap/\a.cap<=6/\a.cost=0:=by
 have hd0:drvN F 0<=drvN F F.dves.length:=by unfold drvN;omega
 have hdd:∀d,d<F.dves.length->drvN F d<drvN F F.dves.length:=fun d h=>by unfold drvN;omega
 rcases netA_cases h with ⟨v,hv,rfl | ⟨i,h1,hi,rfl⟩ | ⟨d,hd,-,rfl⟩⟩ | ⟨d,hd,rfl⟩
 ·have:=nod_lt hv hok.doms.pos;have:=szN_range hok hv;refine⟨?_,?_,?_,?_,rfl⟩
  ·show 0<_;omega
  ·show nodN F v 0<_;omega
  ·show 0<=(szN F v:Int);omega
  ·show(szN F v:Int)<=6;omega
 ·have h2:=nod_lt hv hi;have h3:=nod_lt (F:=F) hv (show parN F i<F.doms.length by have:=par_lt hok hi h1;omega);have h4:=cap_ok hok hv i;refine⟨?_,?_,h4.1,h4.2,rfl⟩
  ·show nodN F v (parN F i)<_;omega
  ·show nodN F v i<_;omega
 ·have h2:=nod_lt hv (mac_lt hok hd);refine⟨?_,hdd d hd,by show(0:Int)<=1;omega,by show(1:Int)<=6;omega,rfl⟩;show nodN F v (macN F d)<_;omega
 ·have h2:=hrm d hd;refine⟨hdd d hd,?_,h2.1,?_,rfl⟩
  ·show 1<_;unfold drvN;omega
  ·show gt rm d<=6;omega
theorem netV_ok{N:Nat}{F:FltM}(hok:FleetOk N F)(hN:N<=12)(L:List (List Int)){rm:List Int}(hrm:∀d,d<F.dves.length->0<=gt rm d/\gt rm d<=4):NetV (netM F L rm):=by
 have h1:=drv_le hok hN F.dves.length;have h2:=netA_len hok hN rm;have h3:=hok.dveN;have h4:(netM F L rm).nodes=drvN F F.dves.length:=rfl
 have h5:2<=drvN F F.dves.length:=by unfold drvN;omega
 have h6:=hok.dve1
 have h7:(netM F L rm).arcs.length<=369:=by show((netA F rm).map (costA F L)).length<=_;rw[List.length_map];exact h2
 refine⟨h5,by rw[h4];omega,by omega,by rw[h4];show 0<_;omega,by rw[h4];show 1<_;omega,by show 0≠1;omega,fun i hi=>?_⟩;have ha:(netM F L rm).arc i∈(netM F L rm).arcs:=List.mem_of_getElem? (NetM.arc_get hi);have hg:=arc_good hok L rm _ ha;obtain⟨b,hb,he⟩:=List.mem_map.1 ha;have hb:=net_arc hok hN hrm hb;have hft:=costA_ft F L b;rw[he] at hft;rw[hft.1,hft.2.1,hft.2.2,h4];refine⟨hb.1,hb.2.1,hb.2.2.1,by omega,?_⟩;rcases hg.c with h | h <;> rw[h] <;> omega
theorem moved_ge{N:Nat}{F:FltM}(hok:FleetOk N F){L:List (List Int)}(hL:LayOk F F.vols.length L)(rm:List Int){fl:List Int}(hc:(netM F L rm).Caps fl)(hw:NetM.wt (wN F) (netM F L rm).arcs fl=(totN F F.vols.length:Int)):(freshN L F.vols.length:Int)<=cst (netM F L rm).arcs fl:=by
 have h1:=cst_ge (wN F) (netM F L rm).arcs fl hc.1.symm (fun i a x ha hx=>by
  have hi:=(zL.1 ha).1;have:=hc.2 i hi;rw[NetM.arc_get hi] at ha;injection ha with ha
  rw[<-ha,<-gt_get hx];exact this) (arc_good hok L rm)
 have h2:=zc_net hok L rm
 have h3:totN F F.vols.length=sumN (fun v=>keptL (L.getD v [])) F.vols.length+freshN L F.vols.length:=by
  unfold totN freshN;rw[<-sumN_add];refine sumN_eq _ (fun v hv=>?_);rw[kept_fresh]
  have hl:v<L.length:=by rw[hL.1];exact hv
  have:=(hL.2 v _ (zG hl)).1;rw[List.getD_eq_getElem?_getD,zG hl];exact this.symm
 rw[hw] at h1;have h4:zc (wN F) (netM F L rm).arcs=zc (wN F) ((netA F rm).map (costA F L)):=rfl;rw[h4] at h1;omega
theorem tot_le{N:Nat}{F:FltM}(hok:FleetOk N F):∀n,n<=F.vols.length->totN F n<=6*n
 | 0,_=>zR _
 | n+1,h=>by
  have:=tot_le hok n (by omega);have:=szN_range hok (v:=n) (by omega);show totN F n+szN F n<=_;omega
end Go.Proofs.YtgfaieppacabjaaGreat
