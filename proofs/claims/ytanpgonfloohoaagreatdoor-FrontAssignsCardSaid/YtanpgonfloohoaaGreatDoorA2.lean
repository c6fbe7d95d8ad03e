/-
  FrontAssigns, part 2.
-/
import Derived.Great.BuildSlice
import Derived.DataReads
import Derived.Laws.BytesString
import Derived.Laws.Runes
import Derived.Test.YtanpgonfloohoaaGreatDoorA1
set_option linter.unusedSimpArgs false
set_option linter.unusedVariables false
/-
  Boxes and objects that are made; what is written into them.
-/
open Bool renaming cond_eq_ite->qOx,and_eq_true->qOy,false_eq_true->qOF
open Nat renaming eq_of_beq_eq_true->qOz,le_refl->qOB,beq->qOC,le_of_ble_eq_true->qOH
open Option renaming bind_eq_some_iff->qOA,bind_eq_bind->qOD,pure_def->qOE,map_some->qOG
namespace W
open Go (World Value Addr IntKind Program TypeId FuncId Operand Act Oper Next Result Sem BinOp UnOp)
theorem RepD.one {pub:Nat->Nat} {w:World} {x:D} {c:Value} (h:RepD pub w x c) (h1:x.one=true):c.oneCell'=true:=by
 cases h<;>first|rfl|(simp [D.one] at h1)
theorem RepS.one {M:Maps} {g:Gh} {w:World} {v:V} {c:Value} (h:RepS M g w v c) (h1:v.one=true):c.oneCell'=true:=by
 cases h with
 | d x _ h=>exact h.one h1
 | fsl|ptr|rs|row|map|fn|ifc=>rfl
 | agg|tup|undef=>simp [V.one,V.ok] at h1
theorem RepSL.ones {M:Maps} {g:Gh} {w:World}:∀{l:List V} {vs:List Value},RepSL M g w l vs->V.ones l=true->∀u ∈ vs,u.oneCell'=true
 | _,_,.nil,_,u,hu=>by simp at hu
 | _,_,.cons x v l vs h hl,h1,u,hu=>by
  simp only [V.ones,qOy] at h1
  rcases List.mem_cons.1 hu with e|hu
  ·subst e;exact h.one h1.1
  ·exact RepSL.ones hl h1.2 u hu
theorem RepDL.ones {pub:Nat->Nat} {w:World}:∀{l:List D} {vs:List Value},RepDL pub w l vs->D.ones l=true->∀u ∈ vs,u.oneCell'=true
 | _,_,.nil,_,u,hu=>by simp at hu
 | _,_,.cons x v l vs h hl,h1,u,hu=>by
  simp only [D.ones,qOy] at h1
  rcases List.mem_cons.1 hu with e|hu
  ·subst e;exact h.one h1.1
  ·exact RepDL.ones hl h1.2 u hu
theorem RepS.cells {M:Maps} {g:Gh} {w:World} {v:V} {c:Value} (h:RepS M g w v c) (h1:V.ones v.cells=true):RepSL M g w v.cells c.cells.toList:=by
 cases h with
 | d x _ h=>
  have hd:∀l,l=x.cells->V.cells (.d x)=l.map .d:=by
   rintro _ rfl
   cases x<;>rfl
  rw [hd _ rfl]
  exact .ofD h.cells
 | fsl xs ad h=>exact .cons _ _ _ _ (.fsl xs ad h) .nil
 | ptr id off h=>exact .cons _ _ _ _ (.ptr id off h) .nil
 | rs id off len cap cap2 h hc hc2=>exact .cons _ _ _ _ (.rs id off len cap cap2 h hc hc2) .nil
 | row id sz len cap h hc hz=>exact .cons _ _ _ _ (.row id sz len cap h hc hz) .nil
 | map id h=>exact .cons _ _ _ _ (.map id h) .nil
 | fn f f' first cap fv cv h h3 h2=>exact .cons _ _ _ _ (.fn f f' first cap fv cv h h3 h2) .nil
 | ifc t t' x c h hx=>exact .cons _ _ _ _ (.ifc t t' x c h hx) .nil
 | agg cs vs h=>exact h
 | tup|undef=>simp [V.cells,V.ones,V.one,V.ok] at h1
theorem Rel.take {M:Maps} {g:Gh} {w:World} {β:Nat->Nat} {st:St} {tmps:Array Value} (h:Rel M g w β st tmps) {x:O} {v:V} {c:Value} (hv:RepO' M g w β x v c)
  (h1:V.ones v.cells=true) (f:Nat->Loc):∃g1,Rel M g1 w β {st with env:=W.spent x st.env} tmps/\Evo g w g1 w/\g1.n=g.n/\g1.Φ=g.Φ/\v.cells.length=c.cells.size/\
   (∀(i:Nat) y u,v.cells[i]?=some y->c.cells[i]?=some u->RepC M g1 w (f i) y u)/\(∀u ∈ c.cells.toList,u.oneCell'=true)/\
   ∀ℓ:Loc,(∀n,ℓ≠.slot n)->Kept g w g1 w ℓ:=by
 cases hv with
 | v hv=>
  cases hv with
  | s hs=>
   have hc:=hs.cells h1
   refine ⟨g,h.spent x,Evo.refl g w,rfl,rfl,by simpa using hc.length,fun i y u hy hu=>?_,hc.ones h1,fun ℓ _=>Kept.refl _ _ _⟩
   obtain ⟨u',hu',hr⟩:=hc.get i y hy
   have:u=u':=by simpa [hu] using hu'
   subst this
   exact .s hr
  | lp=>simp [V.cells,V.ones,V.one,V.ok] at h1
  | cp=>simp [V.cells,V.ones,V.one,V.ok] at h1
 | own hv=>
  rename_i n xs
  have hcell:c.cells=#[c]:=by cases hv<;>rfl
  have hone1:∀u ∈ c.cells.toList,u.oneCell'=true:=by
   rw [hcell]
   intro u hu
   simp at hu
   subst hu
   cases hv<;>rfl
  rcases hv.setOwn with ⟨b,hb,hlt,hv'⟩|hv'
  case inr=>
   refine ⟨g,h.drop n,Evo.refl g w,rfl,rfl,by rw [hcell];rfl,fun i y u hy hu=>?_,hone1,fun ℓ hℓ=>Kept.refl _ _ _⟩
   rw [hcell] at hu
   cases i with
   | zero=>
    simp only [V.cells,List.getElem?_cons_zero,Option.some.injEq] at hy
    simp at hu
    subst hy;subst hu
    exact .osl (hv' _)
   | succ i=>simp [V.cells] at hy
  refine ⟨g.setOwn b (some (f 0)),(h.drop n).reown (by simp [qc]) hb hlt _,qfi _ hb (by simp),rfl,rfl,by rw [hcell];rfl,fun i y u hy hu=>?_,?_,fun ℓ hℓ=>zw _ hb (hℓ n)⟩
  ·rw [hcell] at hu
   cases i with
   | zero=>
    simp only [V.cells,List.getElem?_cons_zero,Option.some.injEq] at hy
    simp at hu
    subst hy;subst hu
    exact .osl (hv' _)
   | succ i=>simp [V.cells] at hy
  ·exact hone1
section
variable {P:Program} {M:Maps} {g:Gh} {w:World} {β:Nat->Nat} {st:St} {o:Oper} {a:Act}
theorem qz0 {ℓ:Option Loc} (hf:Fresh g w) {T:TypeId} {cs:List V} {arr:Array Value} (f:Nat->Loc)
  (hr:∀(i:Nat) y u,cs[i]?=some y->arr[i]?=some u->RepC M g w (f i) y u) :
  ∀(i:Nat) y u,cs[i]?=some y->arr[i]?=some u->RepC M (g.withNew w.heap.size ℓ 0) (w.alloc (.cells arr T)) (f i) y u:=
 fun i y u hy hu=>(hr i y u hy hu).mono (qaM hf ℓ 0 _) (qOB _) (fun _ _=>rfl) (qcr hf ℓ 0 _ _)
theorem qvT (hd:qg o a) (hR:Rel M g w β st a.tmps) {n:Nat} (hdst:o.dst=some n) {cs:List V} {arr:Array Value} (T:TypeId) (hl:cs.length=arr.size)
  (hr:∀(i:Nat) y u,cs[i]?=some y->arr[i]?=some u->RepC M g w (.bcell n i) y u) :
  ∃g' β',Rel M g' (w.alloc (.cells arr T)) β' (put o.dst (.box cs) st) (a.put o.dst (.pointer (some ⟨w.heap.size,0,none⟩))).tmps/\Evo g w g' (w.alloc (.cells arr T)):=by
 have hf:=hR.fr
 have hR':=hR.alloc (some (.bblk n)) 0 (.cells arr T)
 refine ⟨g.withNew w.heap.size (some (.bblk n)) 0,fun k=>if k=n then w.heap.size else β k,?_,z8 hf (some (.bblk n)) 0 _⟩
 rw [hdst,Act.put_tmps]
 exact hR'.putBox (hd n hdst) (qK w _) (by simp [Gh.withNew]) (by simp [Gh.withNew]) hl (qz0 hf _ hr)
theorem qr7 (hd:qg o a) (hR:Rel M g w β st a.tmps) {cs:List V} {arr:Array Value} (T:TypeId) (fz:Nat × Nat) (hz:∀j,j<cs.length->(decide (fz.1<=j) && decide (j<fz.2))=false) (hl:cs.length<=arr.size)
  (hr:∀(i:Nat) y u,cs[i]?=some y->arr[i]?=some u->RepC M g w (.ocell g.n i) y u) :
  Rel M (g.withObj w.heap.size) (w.alloc (.cells arr T fz)) β {st with H:=st.H++[.cells cs]} a.tmps/\Evo g w (g.withObj w.heap.size) (w.alloc (.cells arr T fz)):=by
 have hf:=hR.fr
 refine hR.newObj (.cells cs) (.cells arr T fz) ?_
 have hg:Grow g w (g.withObj w.heap.size) (w.alloc (.cells arr T fz)):=⟨by simp,fun _=>qOB _,fun b off ho=>by
  have hb:b<w.heap.size:=by
   rcases Nat.lt_or_ge b w.heap.size with h|h
   ·exact h
   ·rw [(hf.f b h).2] at ho;omega
  exact zu (qO w _ hb) off⟩
 have hk:∀ℓ,Kept g w (g.withObj w.heap.size) (w.alloc (.cells arr T fz)) ℓ:=fun ℓ=>⟨fun b hb=>by
  have hlt:b<w.heap.size:=by
   rcases Nat.lt_or_ge b w.heap.size with h|h
   ·exact h
   ·rw [(hf.f b h).1] at hb;cases hb
  have hne:b≠w.heap.size:=by omega
  exact ⟨by simp [Gh.withObj,Gh.φ,hne,hb],qO w _ hlt,rfl⟩⟩
 refine .cells cs arr T fz ?_ hz ?_ ?_ hl (fun i y u hy hu=>(hr i y u hy hu).mono hg (Nat.le_succ _) (fun id hi=>?_) (hk _))
 ·simp only [Gh.withObj,Gh.φ,if_true];exact qK w _
 ·simp [Gh.withObj,Gh.φ]
 ·simp only [Gh.withObj,Gh.φ,if_true];exact (hf.f _ (qOB _)).2
 ·have:id≠g.n:=by omega
  simp [Gh.withObj,Gh.φ,this]
theorem qnJ (hd:qg o a) (hR:Rel M g w β st a.tmps) {cs:List V} {arr:Array Value} (T:TypeId) (hl:cs.length<=arr.size)
  (hr:∀(i:Nat) y u,cs[i]?=some y->arr[i]?=some u->RepC M g w (.ocell g.n i) y u) :
  Rel M (g.withObj w.heap.size) (w.alloc (.cells arr T)) β {st with H:=st.H++[.cells cs]} a.tmps/\Evo g w (g.withObj w.heap.size) (w.alloc (.cells arr T)):=
 qr7 hd hR T (0,0) (fun j _=>by simp) hl hr
theorem qkQ {ds:List D} {vs:Array Value} (h:RepDL g.pub w ds vs.toList) (f:Nat->Loc) :
  ∀(i:Nat) y u,(ds.map V.d)[i]?=some y->vs[i]?=some u->RepC M g w (f i) y u:=fun i y u hy hu=>by
 obtain ⟨u',hu',hr⟩:=(RepSL.ofD (M:=M) h).get i y hy
 have:u=u':=by simpa [hu] using hu'
 subst this
 exact .s hr
theorem qy2 (hd:qg o a) (hR:Rel M g w β st a.tmps) {t:TypeId} {zero:D} (hz:zE P t=some zero) (ho:o.op=.alloc t) {loc:Bool} (hloc:loc=true->o.dst≠none)
  {r:Or} (hr:qe7 loc zero.cells st=some r):Left1 P M g w o a r:=by
 obtain ⟨i,z,hi,hzz,hzd⟩:=kR hz
 have hrep:=(zO g.pub w z zero hzd).cells
 have hlen:(zero.cells.map V.d).length=z.cells.size:=by simpa using hrep.length
 have hrun:(Go.execOp a.eval o).run P w=.ok (.value (.pointer (some ⟨w.heap.size,0,none⟩))) (w.alloc (.cells z.cells t)):=by
  simp [Go.execOp,ho,Go.Instr.alloc,qlM hi hzz,Go.newVar,Go.newRow]
 unfold qe7 at hr
 cases hl:loc with
 | true=>
  simp only [hl,cond_true,ok,Option.some.injEq] at hr
  subst hr
  cases hdst:o.dst with
  | none=>exact absurd hdst (hloc hl)
  | some n=>
   obtain ⟨g',β',h1,h2⟩:=qvT hd hR hdst t hlen (qkQ hrep _)
   exact ⟨_,_,g',β',.value hrun,h1,h2⟩
 | false=>
  simp only [hl,cond_false,okH,Option.some.injEq] at hr
  subst hr
  obtain ⟨h1,h2⟩:=qnJ hd hR t (Nat.le_of_eq hlen) (qkQ hrep _)
  refine ⟨_,_,g.withObj w.heap.size,β,.value hrun,?_,h2⟩
  have hv:RepV M (g.withObj w.heap.size) (w.alloc (.cells z.cells t)) β (.ptr st.H.length 0) (.pointer (some ⟨w.heap.size,0,none⟩)):=by
   have:=RepS.ptr (M:=M) (g:=g.withObj w.heap.size) (w:=w.alloc (.cells z.cells t)) g.n 0 (Nat.lt_succ_self _)
   rw [<- hR.n]
   simpa [Gh.withObj,Gh.φ] using RepV.s (β:=β) this
  exact h1.putV hd hv
theorem qDz (hd:qg o a) (hR:Rel M g w β st a.tmps) {t:TypeId} {m:Bool} {x:Operand} {y:O} (hy:opnd M m x=some y) (ho:o.op=.box t x) {loc:Bool} (hloc:loc=true->o.dst≠none)
  {r:Or} (hr:qrP loc y st=some r):Left1 P M g w o a r:=by
 have hrd:=qgT hR hy
 have hrun:(Go.execOp a.eval o).run P w=.ok (.value (.pointer (some ⟨w.heap.size,0,none⟩))) (w.alloc (.cells (a.eval x).cells t)):=by
  simp [Go.execOp,ho,Go.Instr.box,Go.newVar,Go.newRow]
 simp only [qrP] at hr
 generalize rd st.env y=v at hr hrd
 cases h1:V.ones v.cells with
 | false=>simp [h1] at hr
 | true=>
  simp only [h1,Bool.not_true,qOF,if_false,if_true] at hr
  cases hl:loc with
  | true=>
   simp only [hl,cond_true,ok,Option.some.injEq] at hr
   subst hr
   cases hdst:o.dst with
   | none=>exact absurd hdst (hloc hl)
   | some n=>
    obtain ⟨g1,hR1,hE1,hn1,hφ1,hlen,hrep,hone,_⟩:=hR.take hrd h1 (fun i=>.bcell n i)
    obtain ⟨g',β',h1,h2⟩:=qvT hd hR1 hdst t hlen hrep
    exact ⟨_,_,g',β',.value hrun,h1,hE1.trans h2⟩
  | false=>
   simp only [hl,cond_false,okH,Option.some.injEq] at hr
   subst hr
   obtain ⟨g1,hR1,hE1,hn1,hφ1,hlen,hrep,hone,_⟩:=hR.take hrd h1 (fun i=>.ocell g.n i)
   obtain ⟨h1,h2⟩:=qnJ hd hR1 t (Nat.le_of_eq hlen) (by rw [hn1];exact hrep)
   refine ⟨_,_,g1.withObj w.heap.size,β,.value hrun,?_,hE1.trans h2⟩
   have hv:RepV M (g1.withObj w.heap.size) (w.alloc (.cells (a.eval x).cells t)) β (.ptr st.H.length 0) (.pointer (some ⟨w.heap.size,0,none⟩)):=by
    have:=RepS.ptr (M:=M) (g:=g1.withObj w.heap.size) (w:=w.alloc (.cells (a.eval x).cells t)) g1.n 0 (Nat.lt_succ_self _)
    rw [<- hR.n,<- hn1]
    simpa [Gh.withObj,Gh.φ] using RepV.s (β:=β) this
   exact h1.putV hd hv
end
end W
/-
  Writes into boxes and objects; reads that take the slice along.
-/
namespace W
open Go (World Value Addr IntKind Program TypeId FuncId Operand Act Oper Next Result Sem BinOp UnOp)
structure Wr (g:Gh) (w w':World) (b:Nat):Prop where
 size:w'.heap.size=w.heap.size
 other:∀x,x≠b->w'.heap[x]?=w.heap[x]?
 pub:∀o,o<g.pub b->w'.cell? ⟨b,o,none⟩=w.cell? ⟨b,o,none⟩
 io:w'.os=w.os/\w'.output=w.output
theorem Wr.grow {g:Gh} {w w':World} {b:Nat} (h:Wr g w w' b):Grow g w g w':=
 ⟨by rw [h.size];exact qOB _,fun _=>qOB _,fun x o ho=>by
  by_cases hx:x=b
  ·subst hx;exact h.pub o ho
  ·exact zu (h.other x hx) o⟩
theorem Wr.kept {g:Gh} {w w':World} {b:Nat} (h:Wr g w w' b) {ℓ₀ ℓ:Loc} (hb:g.own b=some ℓ₀) (hne:ℓ≠ℓ₀):Kept g w g w' ℓ:=
 ⟨fun x hx=>⟨hx,h.other x (fun e=>by subst e;rw [hb] at hx;exact hne (Option.some.inj hx).symm),rfl⟩⟩
theorem Wr.evo {g:Gh} {w w':World} {b:Nat} (h:Wr g w w' b) {ℓ₀:Loc} (hb:g.own b=some ℓ₀) (hne:ℓ₀≠.out):Evo g w g w':=
 ⟨h.grow,qOB _,fun _ _=>rfl,fun x _ ho=>⟨rfl,h.other x (fun e=>by
  subst e;rw [hb] at ho
  rcases ho with h|h
  ·cases h
  ·exact hne (Option.some.inj h)),rfl⟩,h.io⟩
theorem Wr.setRow {g:Gh} {w:World} {b:Nat} (arr:Array Value) (hp:g.pub b=0):Wr g w (w.setRow b arr) b:=
 ⟨by simp,fun x hx=>Go.setRow_other w b x arr hx,fun o ho=>(by omega),⟨rfl,rfl⟩⟩
theorem qeO {w:World} {b:Nat} {arr:Array Value} {T:TypeId} {fz:Nat × Nat} (hb:w.heap[b]?=some (.cells arr T fz)) (o:Nat):w.frozen? ⟨b,o,none⟩=(decide (fz.1<=o) && decide (o<fz.2)):=by
 simp [World.frozen?,hb]
theorem kG (P:Program) (g o:Nat) (t:TypeId) (fz:Nat × Nat):∀(vs:List Value) (i:Nat) (cur:Array Value) (w:World),w.heap[g]?=some (.cells cur t fz)->
  (∀j,o+i<=j->j<o+i+vs.length->(decide (fz.1<=j) && decide (j<fz.2))=false)->o+i+vs.length<=cur.size->(∀v ∈ vs,v.oneCell'=true)->
  (Go.storeCells ⟨g,o,none⟩ vs i).run P w=.ok () (w.setRow g (cur.toList.take (o+i)++vs++cur.toList.drop (o+i+vs.length)).toArray)
 | [],i,cur,w,hg,_,_,_=>by
  simp only [Go.storeCells,List.append_nil,List.length_nil,Nat.add_zero,List.take_append_drop,Array.toArray_toList]
  rw [Go.setRow_self w g cur t fz hg]
  rfl
 | v::rest,i,cur,w,hg,hfz,hl,h1=>by
  have hi:o+i<cur.size:=by simp at hl;omega
  have hcell:w.cell? ⟨g,o+i,none⟩=some cur[o+i]:=by simp [World.cell?,hg,hi]
  have hfro:w.frozen? ⟨g,o+i,none⟩=false:=by rw [qeO hg];exact hfz _ (qOB _) (by simp)
  have hst:(Go.store ((⟨g,o,none⟩:Addr).add i) v).run P w=.ok () (w.setRow g (cur.setIfInBounds (o+i) v)):=by
   rw [kl,Go.run_store P w _ v _ (h1 v (by simp)),hcell]
   simp [hfro,Go.setCell_eq_setRow w g (o+i) cur t fz v hg]
  have ih:=kG P g o t fz rest (i+1) (cur.setIfInBounds (o+i) v) (w.setRow g (cur.setIfInBounds (o+i) v)) (Go.setRow_heap w g cur _ t _ hg)
   (fun j hj hj2=>hfz j (by omega) (by simp;omega)) (by simp at hl |-;omega) (fun x hx=>h1 x (by simp [hx]))
  simp only [Go.storeCells,Sem.run_bind,hst,Result.andThen_ok,ih,Go.setRow_setRow]
  congr 3
  have e:=Go.list_seg_step cur.toList (o+i) v rest (by simp at hl |-;omega)
  simpa [Array.toList_setIfInBounds,Nat.add_assoc] using e
section
variable {P:Program} {M:Maps} {g:Gh} {w:World} {β:Nat->Nat} {st:St} {o:Oper} {a:Act}
theorem Rel.setBox {tmps:Array Value} (hR:Rel M g w β st tmps) {s:Nat} {cs cs':List V} (hbox:get s st.env=.box cs) {w':World} (hw:Wr g w w' (β s)) {arr':Array Value} {T:TypeId}
  (hb':w'.heap[β s]?=some (.cells arr' T (0,0))) (hl:cs'.length=arr'.size)
  (hr:∀(i:Nat) x v,cs'[i]?=some x->arr'[i]?=some v->RepC M g w (.bcell s i) x v) :
  Rel M g w' β {st with env:=(s,.box cs')::st.env} tmps/\Evo g w g w':=by
 have hs:=hR.e s
 rw [hbox] at hs
 obtain ⟨arr,T0,e,hb,ho,hp,hlen,hr0⟩:∃arr T0,tmps.getD s Go.undef=.pointer (some ⟨β s,0,none⟩)/\w.heap[β s]?=some (.cells arr T0 (0,0))/\g.own (β s)=some (.bblk s)/\g.pub (β s)=0/\cs.length=arr.size/\
   (∀(i:Nat) x v,cs[i]?=some x->arr[i]?=some v->RepC M g w (.bcell s i) x v):=by
  generalize tmps.getD s Go.undef=c at hs
  cases hs with
  | s h=>cases h
  | box _ arr T hb ho hp hl hr=>exact ⟨arr,T,rfl,hb,ho,hp,hl,hr⟩
 have hg:=hw.grow
 have hk:∀{ℓ:Loc},ℓ≠.bblk s->Kept g w g w' ℓ:=fun h=>hw.kept ho h
 refine ⟨⟨hR.n,fun k=>?_,fun id ob hob=>?_,fun b hb=>hR.fresh b (by rw [<- hw.size];exact hb),hR.gl.mono hg⟩,hw.evo ho (by simp)⟩
 ·show RepT M g w' β k (get k ((s,.box cs')::st.env)) _
  rw [qc]
  split
  ·rename_i e';subst e'
   rw [e]
   exact .box cs' arr' T hb' ho hp hl (fun i x v hx hv=>(hr i x v hx hv).mono hg (qOB _) (fun _ _=>rfl) (hk (by simp)))
  ·rename_i hne
   exact (hR.e k).mono hg (qOB _) (fun _ _=>rfl) (hk (by simp)) (hk (by simpa using hne)) (fun i=>hk (by simp))
 ·exact (hR.h id ob hob).mono hg (qOB _) (fun _ _=>rfl) (by rw [hR.n];exact (List.getElem?_eq_some_iff.1 hob).1) (hk (by simp)) (fun i=>hk (by simp))
theorem Rel.setObj {tmps:Array Value} (hR:Rel M g w β st tmps) {id:Nat} {ob ob':Obj} (hob:st.H[id]?=some ob) {w':World} (ho:g.own (g.φ id)=some (.oblk id)) (hw:Wr g w w' (g.φ id))
  (hrep:RepO M g w' id ob') (lo:Nat) :
  Rel M g w' β {st with H:=qQ st.H id ob',lo:=lo} tmps/\Evo g w g w':=by
 have hg:=hw.grow
 have hid:id<st.H.length:=(List.getElem?_eq_some_iff.1 hob).1
 have hk:∀{ℓ:Loc},ℓ≠.oblk id->Kept g w g w' ℓ:=fun h=>hw.kept ho h
 refine ⟨⟨by simpa [qQ] using hR.n,fun k=>?_,fun i o2 ho2=>?_,fun b hb=>hR.fresh b (by rw [<- hw.size];exact hb),hR.gl.mono hg⟩,hw.evo ho (by simp)⟩
 ·exact (hR.e k).mono hg (qOB _) (fun _ _=>rfl) (hk (by simp)) (hk (by simp)) (fun i=>hk (by simp))
 ·simp only [qQ,List.getElem?_set] at ho2
  split at ho2
  ·rename_i e;subst e
   simp only [hid,if_true,Option.some.injEq] at ho2
   subst ho2
   exact hrep
  ·rename_i hne
   exact (hR.h i o2 ho2).mono hg (qOB _) (fun _ _=>rfl) (by rw [hR.n];exact (List.getElem?_eq_some_iff.1 ho2).1) (hk (by simp;exact fun e=>hne e.symm)) (fun i=>hk (by simp))
theorem qlL {R:Nat->V->Value->Prop} {cs vs:List V} {arr:Array Value} {us:List Value} {off:Nat} (hl:cs.length<=arr.size) (hl2:vs.length=us.length) (hfit:off+vs.length<=cs.length)
  (hr:∀(i:Nat) x v,cs[i]?=some x->arr[i]?=some v->R i x v) (hv:∀(i:Nat) x v,vs[i]?=some x->us[i]?=some v->R (off+i) x v) :
  (cs.take off++vs++cs.drop (off+vs.length)).length<=(arr.toList.take off++us++arr.toList.drop (off+us.length)).toArray.size/\(cs.length=arr.size->(cs.take off++vs++cs.drop (off+vs.length)).length=(arr.toList.take off++us++arr.toList.drop (off+us.length)).toArray.size)/\(cs.take off++vs++cs.drop (off+vs.length)).length=cs.length/\
  ∀(i:Nat) x v,(cs.take off++vs++cs.drop (off+vs.length))[i]?=some x->(arr.toList.take off++us++arr.toList.drop (off+us.length)).toArray[i]?=some v->R i x v:=by
 have hl':cs.length<=arr.toList.length:=by simpa using hl
 refine ⟨by simp;omega,fun h=>by simp;omega,by simp;omega,fun i x v hx hu=>?_⟩
 simp only [List.getElem?_toArray] at hu
 have t1:(cs.take off).length=off:=by simp;omega
 have t2:(arr.toList.take off).length=off:=by simp;omega
 rw [List.append_assoc,List.getElem?_append,t1] at hx
 rw [List.append_assoc,List.getElem?_append,t2] at hu
 split at hx
 ·rename_i h
  simp only [h,if_true,List.getElem?_take] at hx hu
  exact hr i x v hx (by simpa using hu)
 ·rename_i h
  simp only [h,if_false] at hu
  rw [List.getElem?_append] at hx hu
  rw [<- hl2] at hu
  split at hx
  ·rename_i h2
   simp only [h2,if_true] at hu
   have:=hv (i - off) x v hx hu
   rwa [show off+(i - off)=i by omega] at this
  ·rename_i h2
   simp only [h2,if_false,List.getElem?_drop] at hx hu
   have e1:off+vs.length+(i - off - vs.length)=i:=by omega
   rw [e1] at hx hu
   exact hr i x v hx (by simpa using hu)
theorem qmT {cs vs:List V} {arr:Array Value} {us:List Value} {off:Nat} {f:Nat->Loc} (hl:cs.length<=arr.size) (hl2:vs.length=us.length) (hfit:off+vs.length<=cs.length)
  (hr:∀(i:Nat) x v,cs[i]?=some x->arr[i]?=some v->RepC M g w (f i) x v) (hv:∀(i:Nat) x v,vs[i]?=some x->us[i]?=some v->RepC M g w (f (off+i)) x v) :
  (cs.take off++vs++cs.drop (off+vs.length)).length<=(arr.toList.take off++us++arr.toList.drop (off+us.length)).toArray.size/\(cs.length=arr.size->(cs.take off++vs++cs.drop (off+vs.length)).length=(arr.toList.take off++us++arr.toList.drop (off+us.length)).toArray.size)/\(cs.take off++vs++cs.drop (off+vs.length)).length=cs.length/\
  ∀(i:Nat) x v,(cs.take off++vs++cs.drop (off+vs.length))[i]?=some x->(arr.toList.take off++us++arr.toList.drop (off+us.length)).toArray[i]?=some v->RepC M g w (f i) x v:=
 qlL (R:=fun i=>RepC M g w (f i)) hl hl2 hfit hr hv
theorem RepC.plain {ℓ:Loc} {x:V} {v:Value} (h:RepC M g w ℓ x v) (hx:x.ok=true):RepS M g w x v:=by
 cases h with
 | s h=>exact h
 | osl h=>cases hx
theorem qx3:∀{vs:List V},V.ok.oks vs=true->∀{i:Nat} {x:V},vs[i]?=some x->x.ok=true
 | [],_,i,x,hx=>by simp at hx
 | y::l,h,0,x,hx=>by
  simp only [V.ok.oks,qOy] at h
  simp only [List.getElem?_cons_zero,Option.some.injEq] at hx
  subst hx;exact h.1
 | y::l,h,i+1,x,hx=>by
  simp only [V.ok.oks,qOy] at h
  exact qx3 h.2 (by simpa using hx)
theorem qli {t:TypeId} {i:Go.TypeInfo} (hi:P.info? t=some i) {b off:Nat} {cur:Array Value} {T:TypeId} {fz:Nat × Nat} (hb:w.heap[b]?=some (.cells cur T fz)) {c:Value} (hsz:c.cells.size=i.size)
  (hz:∀j,j<off+c.cells.size->(decide (fz.1<=j) && decide (j<fz.2))=false) (hfit:off+c.cells.size<=cur.size) (h1:∀u ∈ c.cells.toList,u.oneCell'=true) :
  (Go.Instr.storeAt t (.pointer (some ⟨b,off,none⟩)) c).run P w=.ok () (w.setRow b (cur.toList.take off++c.cells.toList++cur.toList.drop (off+c.cells.toList.length)).toArray):=by
 have h2:=kG P b off T fz c.cells.toList 0 cur w hb (fun j _ hj=>hz j (by simpa using hj)) (by simpa using hfit) h1
 simp only [Nat.add_zero] at h2
 have e:(c.cells.size≠i.size)=False:=by simp [hsz]
 simp only [Go.Instr.storeAt,Go.Instr.sureAddr,Sem.run_bind,Sem.run_pure,Result.andThen_ok,Go.storeVar,kK hi,e,if_false,h2]
theorem qzO (hd:qg o a) (hR:Rel M g w β st a.tmps) {t:TypeId} {l:L} (hl:lay P t=some l) {sl:Option Nat} {m:Bool} {p x:Operand} {p' x':O} (hp:opnd M false p=some p') (hx:opnd M m x=some x')
  (ho:o.op=.store t p x) {r:Or} (hr:yS sl l p' x' st=some r):Left1 P M g w o a r:=by
 have hP:=qf hR hp
 have hX:=qgT hR hx
 obtain ⟨i,d,hi,hu,rfl⟩:=z5 hl
 unfold yS at hr
 cases hs:qE sl (rd st.env p') with
 | false=>simp [hs] at hr
 | true=>
 simp only [hs,Bool.not_true,cond_false] at hr
 split at hr
 ·rename_i st' hst
  have key:∀{w' g'},(Go.Instr.storeAt t (a.eval p) (a.eval x)).run P w=.ok () w'->Rel M g' w' β st' a.tmps->Evo g w g' w'->Left1 P M g w o a r:=by
   intro w' g' hrun hR' hE
   have hv:RepV M g' w' β .undef Go.undef:=.s (.undef _)
   have hy:Yields P o a w Go.undef w':=.skip (by simp only [Go.execOp,ho,Sem.run_bind,hrun,Result.andThen_ok,Sem.run_pure])
   cases sl with
   | some _=>
    simp only [ok,Option.some.injEq] at hr;subst hr
    exact ⟨_,w',g',β,hy,hR'.putV hd hv,hE⟩
   | none=>
    simp only [okH,Option.some.injEq] at hr;subst hr
    exact ⟨_,w',g',β,hy,hR'.putV hd hv,hE⟩
  generalize rd st.env p'=pv at hP hst hs
  generalize rd st.env x'=xv at hX hst
  unfold yy at hst
  split at hst
  ·rename_i s off
   have e:=hP.inv_lp
   split at hst
   ·rename_i cs hbox
    split at hst
    ·rename_i hc
     simp only [qOy,beq_iff_eq,decide_eq_true_eq] at hc
     split at hst
     ·rename_i cs' hset
      simp only [Option.some.injEq] at hst
      subst hst
      unfold kr at hset
      split at hset
      ·rename_i hfit
       simp only [Option.some.injEq] at hset
       subst hset
       obtain ⟨g1,hR1,hE1,hn1,hφ1,hlen,hrep,hone,hkk⟩:=hR.take hX hc.2 (fun i=>.bcell s (off+i))
       have hsb:=hR1.e s
       rw [hbox] at hsb
       generalize a.tmps.getD s Go.undef=cc at hsb
       cases hsb with
       | s h=>cases h
       | box _ arr T hb ho hp0 hlb hrb=>
        have hsz:(a.eval x).cells.size=i.size:=by rw [<- hlen];exact hc.1
        have hrun:=qli (P:=P) hi hb (off:=off) hsz (fun j _=>by simp) (by rw [<- hlb,<- hlen];exact hfit) hone
        rw [<- e] at hrun
        obtain ⟨_,k1,_,k2⟩:=qmT (f:=fun i=>Loc.bcell s i) (us:=(a.eval x).cells.toList) (Nat.le_of_eq hlb) (by simpa using hlen) hfit hrb (fun i x v hx hv=>hrep i x v hx (by simpa using hv))
        obtain ⟨h3,h4⟩:=hR1.setBox hbox (Wr.setRow _ hp0) (Go.setRow_heap w (β s) arr _ T (0,0) hb) (k1 hlb) k2
        exact key hrun h3 (hE1.trans h4)
      ·cases hset
     ·cases hst
    ·cases hst
   ·cases hst
  ·rename_i id off
   obtain ⟨e,hid⟩:=hP.inv_ptr
   split at hst
   ·rename_i cs hH
    split at hst
    ·rename_i hc
     simp only [qOy,beq_iff_eq,decide_eq_true_eq] at hc
     split at hst
     ·rename_i cs' hset
      simp only [Option.some.injEq] at hst
      subst hst
      unfold kr at hset
      split at hset
      ·rename_i hfit
       simp only [Option.some.injEq] at hset
       subst hset
       obtain ⟨g1,hR1,hE1,hn1,hφ1,hlen,hrep,hone,hkk⟩:=hR.take hX hc.2 (fun i=>.ocell id (off+i))
       have hob:=hR1.h id _ hH
       cases hob with
       | cells _ arr T fz hb hz ho hp0 hlb hrb=>
        have hsz:(a.eval x).cells.size=i.size:=by rw [<- hlen];exact hc.1
        have hrun:=qli (P:=P) hi hb (off:=off) hsz (fun j hj=>hz j (by rw [<- hlen] at hj;omega)) (by rw [<- hlen];exact Nat.le_trans hfit hlb) hone
        rw [show g1.φ=g.φ from funext fun i=>Gh.φ_eq (congrFun hφ1 i),<- e] at hrun
        obtain ⟨k1,_,k3,k2⟩:=qmT (f:=fun i=>Loc.ocell id i) (us:=(a.eval x).cells.toList) hlb (by simpa using hlen) hfit hrb (fun i x v hx hv=>hrep i x v hx (by simpa using hv))
        have hw:=Wr.setRow (w:=w) (arr.toList.take off++(a.eval x).cells.toList++arr.toList.drop (off+(a.eval x).cells.toList.length)).toArray hp0
        have hrp:RepO M g1 (w.setRow (g1.φ id) (arr.toList.take off++(a.eval x).cells.toList++arr.toList.drop (off+(a.eval x).cells.toList.length)).toArray) id (.cells (cs.take off++xv.cells++cs.drop (off+xv.cells.length))):=
         .cells _ _ T fz (Go.setRow_heap w (g1.φ id) arr _ T fz hb) (fun j hj=>hz j (by rw [k3] at hj;exact hj)) ho hp0 k1 (fun i x v hx hv=>(k2 i x v hx hv).mono hw.grow (qOB _) (fun _ _=>rfl) (hw.kept ho (by simp)))
        obtain ⟨h3,h4⟩:=hR1.setObj hH ho hw hrp (min st.lo id)
        rw [show g1.φ=g.φ from funext fun i=>Gh.φ_eq (congrFun hφ1 i)] at h3 h4
        exact key hrun h3 (hE1.trans h4)
      ·cases hset
     ·cases hst
    ·cases hst
   ·rename_i k0 cs hH
    split at hst
    ·rename_i hc
     simp only [qOy,beq_iff_eq,decide_eq_true_eq] at hc
     split at hst
     ·rename_i cs' hset
      simp only [Option.some.injEq] at hst
      subst hst
      unfold kr at hset
      split at hset
      ·rename_i hfit
       simp only [Option.some.injEq] at hset
       subst hset
       obtain ⟨g1,hR1,hE1,hn1,hφ1,hlen,hrep,hone,hkk⟩:=hR.take hX hc.1.2 (fun i=>.ocell id (off+i))
       have hob:=hR1.h id _ hH
       cases hob with
       | row _ _ arr T hb ho hp0 hlb hζ hrb=>
        have hsz:(a.eval x).cells.size=i.size:=by rw [<- hlen];exact hc.1.1
        have hrun:=qli (P:=P) hi hb (off:=off) hsz (fun j hj=>by simp) (by rw [<- hlen];exact Nat.le_trans hfit hlb) hone
        rw [show g1.φ=g.φ from funext fun i=>Gh.φ_eq (congrFun hφ1 i),<- e] at hrun
        obtain ⟨k1,_,k3,k2⟩:=qlL (R:=fun _=>RepS M g1 w) (us:=(a.eval x).cells.toList) hlb (by simpa using hlen) hfit hrb (fun i x v hx hv=>(hrep i x v hx (by simpa using hv)).plain (qx3 hc.2 hx))
        have hw:=Wr.setRow (w:=w) (arr.toList.take off++(a.eval x).cells.toList++arr.toList.drop (off+(a.eval x).cells.toList.length)).toArray hp0
        have hrp:RepO M g1 (w.setRow (g1.φ id) (arr.toList.take off++(a.eval x).cells.toList++arr.toList.drop (off+(a.eval x).cells.toList.length)).toArray) id (.row k0 (cs.take off++xv.cells++cs.drop (off+xv.cells.length))):=
         .row _ _ _ T (Go.setRow_heap w (g1.φ id) arr _ T (0,0) hb) ho hp0 k1 (Nat.le_trans hζ (by
          have h5:off+(a.eval x).cells.toList.length<=arr.size:=by
           have:xv.cells.length=(a.eval x).cells.toList.length:=by simpa using hlen
           omega
          simp at h5 |-;omega)) (fun i x v hx hv=>(k2 i x v hx hv).mono hw.grow (qOB _) (fun _ _=>rfl) (k2 i x v hx hv).ref)
        obtain ⟨h3,h4⟩:=hR1.setObj hH ho hw hrp (min st.lo id)
        rw [show g1.φ=g.φ from funext fun i=>Gh.φ_eq (congrFun hφ1 i)] at h3 h4
        exact key hrun h3 (hE1.trans h4)
      ·cases hset
     ·cases hst
    ·cases hst
   ·cases hst
  ·cases hst
 ·cases hr
end
end W
/-
  Reads that take the slice along; maps that are made and written.
-/
namespace W
open Go (World Value Addr IntKind Program TypeId FuncId Operand Act Oper Next Result Sem BinOp UnOp)
theorem qqW {α:Type} {l:List α} {i:Nat} {x y:α} (h:l[i]?=some x):(l.set i y)[i]?=some y:=by
 have hlt:=(List.getElem?_eq_some_iff.1 h).1
 rw [List.getElem?_set];simp [hlt]
section
variable {P:Program} {M:Maps} {g:Gh} {w:World} {β:Nat->Nat} {st:St} {o:Oper} {a:Act}
theorem Rel.reownB {tmps:Array Value} (h:Rel M g w β st tmps) {s i b:Nat} {cs:List V} (hs:get s st.env=.box cs) (hu:cs[i]?=some .undef) (hb:g.own b=some (.bcell s i)) (hlt:b<w.heap.size)
  (ℓ:Option Loc):Rel M (g.setOwn b ℓ) w β st tmps:=by
 have hg:=qaN g w b ℓ
 have hk:∀{ℓ₁:Loc},ℓ₁≠.bcell s i->Kept g w (g.setOwn b ℓ) w ℓ₁:=fun h=>zw ℓ hb h
 refine ⟨h.n,fun k=>?_,fun id o ho=>?_,fun x hx=>?_,h.gl.mono hg⟩
 ·by_cases hks:k=s
  ·subst hks
   have he:=h.e k
   rw [hs] at he |-
   generalize tmps.getD k Go.undef=c at he
   cases he with
   | s h=>cases h
   | box _ arr T hbb ho hp hl hr=>
    obtain ⟨k1,k2,k3⟩:=(hk (ℓ₁:=.bblk k) (by simp)).k _ ho
    refine .box cs arr T (k2.trans hbb) k1 (k3.trans hp) hl (fun j x v hx hv=>?_)
    by_cases hj:j=i
    ·subst hj
     rw [hu] at hx;cases hx
     exact .s (.undef _)
    ·exact (hr j x v hx hv).mono hg (qOB _) (fun _ _=>rfl) (hk (by simpa using hj))
  ·exact (h.e k).mono hg (qOB _) (fun _ _=>rfl) (hk (by simp)) (hk (by simp)) (fun j=>hk (by simp [hks]))
 ·exact (h.h id o ho).mono hg (qOB _) (fun _ _=>rfl) (by rw [h.n];exact (List.getElem?_eq_some_iff.1 ho).1) (hk (by simp)) (fun i=>hk (by simp))
 ·have:x≠b:=by omega
  simpa [Gh.setOwn,this] using h.fresh x hx
theorem Rel.reownO {tmps:Array Value} (h:Rel M g w β st tmps) {id i b:Nat} {cs:List V} (hs:st.H[id]?=some (.cells cs)) (hu:cs[i]?=some .undef) (hb:g.own b=some (.ocell id i)) (hlt:b<w.heap.size)
  (ℓ:Option Loc):Rel M (g.setOwn b ℓ) w β st tmps:=by
 have hg:=qaN g w b ℓ
 have hk:∀{ℓ₁:Loc},ℓ₁≠.ocell id i->Kept g w (g.setOwn b ℓ) w ℓ₁:=fun h=>zw ℓ hb h
 refine ⟨h.n,fun k=>?_,fun id' o ho=>?_,fun x hx=>?_,h.gl.mono hg⟩
 ·exact (h.e k).mono hg (qOB _) (fun _ _=>rfl) (hk (by simp)) (hk (by simp)) (fun j=>hk (by simp))
 ·by_cases hid:id'=id
  ·subst hid
   rw [hs] at ho;cases ho
   cases h.h id' _ hs with
   | cells _ arr T fz hbb hz ho hp hl hr=>
    obtain ⟨k1,k2,k3⟩:=(hk (ℓ₁:=.oblk id') (by simp)).k _ ho
    refine .cells cs arr T fz (k2.trans hbb) hz k1 (k3.trans hp) hl (fun j x v hx hv=>?_)
    by_cases hj:j=i
    ·subst hj
     rw [hu] at hx;cases hx
     exact .s (.undef _)
    ·exact (hr j x v hx hv).mono hg (qOB _) (fun _ _=>rfl) (hk (by simpa using hj))
  ·exact (h.h id' o ho).mono hg (qOB _) (fun _ _=>rfl) (by rw [h.n];exact (List.getElem?_eq_some_iff.1 ho).1) (hk (by simp)) (fun i=>hk (by simp [hid]))
 ·have:x≠b:=by omega
  simpa [Gh.setOwn,this] using h.fresh x hx
theorem Wr.refl (g:Gh) (w:World) (b:Nat):Wr g w w b:=⟨rfl,fun _ _=>rfl,fun _ _=>rfl,rfl,rfl⟩
theorem qyC {cs:List V} {arr:Array Value} {off:Nat} {f:Nat->Loc}
  (hr:∀(i:Nat) x v,cs[i]?=some x->arr[i]?=some v->RepC M g w (f i) x v) :
  ∀(i:Nat) x v,(cs.set off .undef)[i]?=some x->arr[i]?=some v->RepC M g w (f i) x v:=fun i x v hx hv=>by
 rw [List.getElem?_set] at hx
 split at hx
 ·split at hx
  ·cases hx;exact .s (.undef _)
  ·cases hx
 ·exact hr i x v hx hv
theorem qr8 {t:TypeId} {l:L} (hl:lay P t=some l) (ha:l.agg=false) {b off:Nat} {arr:Array Value} {T:TypeId} {fz:Nat × Nat} (hb:w.heap[b]?=some (.cells arr T fz)) {c:Value} (hc:arr[off]?=some c) :
  (Go.Instr.loadAt t (.pointer (some ⟨b,off,none⟩))).run P w=.ok c w:=by
 have:=(jg (P:=P) (w:=w) (vs:=[c]) hl (b:=b) (off:=off) (fun j u hj=>by
  cases j with
  | zero=>simp at hj;subst hj;simpa [World.cell?,hb] using hc
  | succ j=>simp at hj)).2 ha _ rfl
 simpa [Go.Instr.loadAt,Go.Instr.sureAddr] using this
theorem qwQ (hd:qg o a) (hR:Rel M g w β st a.tmps) {t:TypeId} {l:L} (hl:lay P t=some l) {sl:Option Nat} {x:Operand} {x':O} (hx:opnd M false x=some x')
  (ho:o.op=.load t x) {r:Or} (hr:zB true sl l x' st=some r):Left1 P M g w o a r:=by
 have hP:=qf hR hx
 unfold zB at hr
 cases hs:qE sl (rd st.env x') with
 | false=>simp [hs] at hr
 | true=>
 cases ha:l.agg with
 | true=>simp [hs,ha] at hr
 | false=>
 simp only [hs,ha,Bool.not_true,cond_false,cond_true] at hr
 split at hr
 ·rename_i v st' hst
  have key:∀{c:Value} {g'},(Go.Instr.loadAt t (a.eval x)).run P w=.ok c w->Rel M g' w β (put o.dst v st') (a.put o.dst c).tmps->Evo g w g' w->Left1 P M g w o a r:=by
   intro c g' hrun hR' hE
   have hy:Yields P o a w c w:=.value (by simp only [Go.execOp,ho,Sem.run_bind,hrun,Result.andThen_ok,Sem.run_pure])
   cases sl with
   | some _=>
    simp only [ok,Option.some.injEq] at hr;subst hr
    exact ⟨_,w,g',β,hy,hR',hE⟩
   | none=>
    simp only [okH,Option.some.injEq] at hr;subst hr
    exact ⟨_,w,g',β,hy,hR',hE⟩
  generalize rd st.env x'=pv at hP hst hs
  unfold qm5 at hst
  split at hst
  ·rename_i s off
   have e:=hP.inv_lp
   split at hst
   ·rename_i cs hbox
    split at hst
    ·rename_i v' hcell
     simp only [Option.some.injEq,Prod.mk.injEq] at hst
     obtain ⟨rfl,rfl⟩:=hst
     have hsb:=hR.e s
     rw [hbox] at hsb
     generalize htm:a.tmps.getD s Go.undef=cc at hsb
     cases hsb with
     | s h=>cases h
     | box _ arr T hb ho' hp0 hlb hrb=>
      have hlt:off<arr.size:=by rw [<- hlb];exact (List.getElem?_eq_some_iff.1 hcell).1
      have hc:arr[off]?=some arr[off]:=by simp [hlt]
      have hrun:=qr8 (P:=P) hl ha hb hc
      rw [<- e] at hrun
      obtain ⟨h3,h4⟩:=hR.setBox hbox (Wr.refl g w (β s)) (cs':=cs.set off .undef) hb (by simpa using hlb) (qyC hrb)
      cases hrb off v' _ hcell hc with
      | s h=>exact key hrun (h3.putV hd (.s h)) h4
      | osl h=>
       rename_i xs
       rcases h.setOwn with ⟨b,hb1,hb2,hv'⟩|hv'
       case inr=>exact key (g':=g) hrun (h3.putFull hd hv') h4
       cases hdst:o.dst with
       | none=>
        refine key (g':=g) hrun ?_ (Evo.refl g w)
        rw [qL (by intro cs e;cases e),Act.put_tmps,hdst]
        exact h3
       | some d=>
        refine key (g':=g.setOwn b (some (.slot d))) hrun ?_ (qfi _ hb1 (by simp))
        rw [qL (by intro cs e;cases e),Act.put_tmps,hdst]
        have h5:Rel M (g.setOwn b (some (.slot d))) w β {st with env:=(s,.box (cs.set off .undef))::st.env} a.tmps:=
         h3.reownB (by rw [qc,if_pos rfl]) (qqW hcell) hb1 hb2 _
        exact h5.lay (hd d hdst) (.osl (hv' _))
    ·cases hst
   ·cases hst
  ·rename_i id off
   obtain ⟨e,hid⟩:=hP.inv_ptr
   split at hst
   ·rename_i cs hH
    split at hst
    ·rename_i v' hcell
     simp only [Option.some.injEq,Prod.mk.injEq] at hst
     obtain ⟨rfl,rfl⟩:=hst
     cases hR.h id _ hH with
     | cells _ arr T fz hb hz ho' hp0 hlb hrb=>
      have hlt:off<arr.size:=Nat.lt_of_lt_of_le (List.getElem?_eq_some_iff.1 hcell).1 hlb
      have hc:arr[off]?=some arr[off]:=by simp [hlt]
      have hrun:=qr8 (P:=P) hl ha hb hc
      rw [<- e] at hrun
      have hrp:RepO M g w id (.cells (cs.set off .undef)):=.cells _ arr T fz hb (fun j hj=>hz j (by simpa using hj)) ho' hp0 (by simpa using hlb) (qyC hrb)
      obtain ⟨h3,h4⟩:=hR.setObj hH ho' (Wr.refl g w _) hrp (min st.lo id)
      cases hrb off v' _ hcell hc with
      | s h=>exact key hrun (h3.putV hd (.s h)) h4
      | osl h=>
       rename_i xs
       rcases h.setOwn with ⟨b,hb1,hb2,hv'⟩|hv'
       case inr=>exact key (g':=g) hrun (h3.putFull hd hv') h4
       cases hdst:o.dst with
       | none=>
        refine key (g':=g) hrun ?_ (Evo.refl g w)
        rw [qL (by intro cs e;cases e),Act.put_tmps,hdst]
        exact h3
       | some d=>
        refine key (g':=g.setOwn b (some (.slot d))) hrun ?_ (qfi _ hb1 (by simp))
        rw [qL (by intro cs e;cases e),Act.put_tmps,hdst]
        have hlen2:id<st.H.length:=(List.getElem?_eq_some_iff.1 hH).1
        have h5:=h3.reownO (id:=id) (i:=off) (cs:=cs.set off .undef) (qqW hH)
         (qqW hcell) hb1 hb2 (some (.slot d))
        exact h5.lay (hd d hdst) (.osl (hv' _))
    ·cases hst
   ·cases hst
  ·cases hst
 ·cases hr
theorem qzN (hd:qg o a) (hR:Rel M g w β st a.tmps) {t:TypeId} (ho:o.op=.makeMap t none) {r:Or} (hr:qkI st=some r):Left1 P M g w o a r:=by
 simp only [qkI,okH,Option.some.injEq] at hr
 subst hr
 have hf:=hR.fr
 have hrun:(Go.execOp a.eval o).run P w=.ok (.value (.map (some w.heap.size))) (w.alloc (.map #[] 0)):=by
  simp [Go.execOp,ho,Go.Instr.makeMap]
 obtain ⟨h1,h2⟩:=hR.newObj (.map []) (.map #[] 0) (.map [] #[] 0 (by simp only [Gh.withObj,Gh.φ,if_true];exact qK w _) (by simp [Gh.withObj,Gh.φ]) .nil)
 refine ⟨_,_,g.withObj w.heap.size,β,.value hrun,?_,h2⟩
 have hv:RepV M (g.withObj w.heap.size) (w.alloc (.map #[] 0)) β (.map st.H.length) (.map (some w.heap.size)):=by
  have:=RepS.map (M:=M) (g:=g.withObj w.heap.size) (w:=w.alloc (.map #[] 0)) g.n (Nat.lt_succ_self _)
  rw [<- hR.n]
  simpa [Gh.withObj,Gh.φ] using RepV.s (β:=β) this
 exact h1.putV hd hv
end
end W
/-
  Maps that are written.
-/
namespace W
open Go (World Value Addr IntKind Program TypeId FuncId Operand Act Oper Next Result Sem BinOp UnOp)
theorem qEo {kk:Nat} {k k':D} (hg:zt kk k=true) (hs:k.same k'=some true):k'=k:=by
 unfold zt at hg
 split at hg
 ·cases k'<;>simp only [D.same,Option.some.injEq,reduceCtorEq,beq_iff_eq] at hs
  rw [hs]
 ·cases k'<;>simp only [D.same,Option.some.injEq,reduceCtorEq] at hs
  rename_i k1 n1 k2 n2
  cases hkk:eqK k1 k2 with
  | false=>simp [hkk] at hs
  | true=>
   simp only [hkk,cond_true,Option.some.injEq,qkW,beq_iff_eq,decide_eq_true_eq] at hs
   rw [qnu hkk,hs]
 ·cases k'<;>simp only [D.same,Option.some.injEq,reduceCtorEq] at hs
  rw [qq7] at hs
  simp only [beq_iff_eq,decide_eq_true_eq] at hs
  rw [hs]
 ·cases hg
theorem qnO {x y:ByteArray} (h:x.data.toList.map (·.toNat)=y.data.toList.map (·.toNat)):x=y:=by
 have h1:x.data.toList=y.data.toList:=by
  have inj:Function.Injective (fun b:UInt8=>b.toNat):=fun a b h=>UInt8.toNat_inj.1 h
  exact (List.map_inj_right (fun a b h=>inj h)).1 h
 have h2:x.data=y.data:=Array.ext' h1
 cases x;cases y;simp at h2;rw [h2]
theorem qHM (x:ByteArray):(x == x)=true:=by
 cases x with|mk d=>
 show (d == d)=true
 simp
theorem qAt {pub:Nat->Nat} {w:World} {kk:Nat} {k:D} {c c':Value} (hg:zt kk k=true) (h:RepD pub w k c) (h':RepD pub w k c') (n:Nat):Go.Instr.sameBits n c c'=true:=by
 unfold zt at hg
 split at hg
 ·cases h;cases h';cases n<;>simp [Go.Instr.sameBits]
 ·cases h;cases h';cases n<;>simp [Go.Instr.sameBits]
 ·cases h with
  | s t x h=>cases h' with
   | s _ y h'=>
    have:x=y:=qnO (h.trans h'.symm)
    subst this
    cases n<;>simp [Go.Instr.sameBits,qHM]
 ·cases hg
theorem qqj {P:Program} {M:Maps} {g:Gh} {w:World} {kt:TypeId} {kk:Nat} {dd:Go.TypeDesc} (hk:qay P kt=some kk) (hu:P.underlying kt=some dd) {k:D} {c:Value} (hg:zt kk k=true)
  (h:RepD g.pub w k c) {x:V} {xc:Value} (hx:RepS M g w x xc):∀{es:List (D × V)} {ents:List Go.MapEntry} (j:Nat) {es':List (D × V)},RepEs M g w es ents->qk6 k x es=some es'->
  (Go.Instr.findNow dd c ents j=some none/\∀born,RepEs M g w es' (ents++[⟨c,xc,born⟩]))\/
  (∃i e,ents[i]?=some e/\Go.Instr.findNow dd c ents j=some (some (j+i,e.val))/\Go.Instr.sameBits 10000 e.key c=true/\
   RepEs M g w es' (ents.modify i fun e=>{e with key:=c,val:=xc}))
 | _,_,j,r,.nil,hf=>by
  simp only [qk6,Option.some.injEq] at hf
  subst hf
  exact .inl ⟨rfl,fun born=>.cons k x _ _ _ h ⟨kk,hg⟩ hx .nil⟩
 | _,_,j,r,.cons k' y e es ents hk' hgk hy hl,hf=>by
  simp only [qk6] at hf
  split at hf
  ·rename_i hs
   simp only [Option.some.injEq] at hf
   subst hf
   have e':=qEo hg hs
   subst e'
   refine .inr ⟨0,e,rfl,?_,qAt hg hk' h _,?_⟩
   ·simp only [Go.Instr.findNow,qgN hk hu hg h hk' hs,Nat.add_zero]
   ·exact .cons _ x _ _ _ h ⟨kk,hg⟩ hx hl
  ·rename_i hs
   have e1:Go.Instr.findNow dd c (e::ents) j=Go.Instr.findNow dd c ents (j+1):=by simp only [Go.Instr.findNow,qgN hk hu hg h hk' hs]
   split at hf
   ·rename_i r' hr'
    simp only [Option.some.injEq] at hf
    subst hf
    rcases qqj hk hu hg h hx (j+1) hl hr' with ⟨h1,h2⟩|⟨i,en,h1,h2,h3,h4⟩
    ·exact .inl ⟨by rw [e1];exact h1,fun born=>.cons k' y e _ _ hk' hgk hy (h2 born)⟩
    ·exact .inr ⟨i+1,en,by simpa using h1,by rw [e1,h2];congr 3;omega,h3,by simpa using RepEs.cons k' y e _ _ hk' hgk hy h4⟩
   ·cases hf
  ·cases hf
section
variable {P:Program} {M:Maps} {g:Gh} {w:World} {β:Nat->Nat} {st:St} {o:Oper} {a:Act}
theorem Wr.map {b:Nat} {ents ents':Array Go.MapEntry} {c c':Nat} (hb:w.heap[b]?=some (.map ents c)):Wr g w {w with heap:=w.heap.setIfInBounds b (.map ents' c')} b:=by
 have hlt:b<w.heap.size:=(Array.getElem?_eq_some_iff.1 hb).1
 refine ⟨by simp,fun x hx=>?_,fun o _=>?_,rfl,rfl⟩
 ·simp [Array.getElem?_setIfInBounds_ne (Ne.symm hx)]
 ·have e:=(Array.getElem?_eq_some_iff.1 hb).2
  simp [World.cell?,hb,Array.getElem?_setIfInBounds,hlt]
  rw [e]
theorem qmv (hd:qg o a) (hR:Rel M g w β st a.tmps) {t kt e:TypeId} (hu:P.underlying t=some (.map kt e)) {kk:Nat} (hk:qay P kt=some kk) {m:Bool} {p i x:Operand} {p' i' x':O}
  (hp:opnd M false p=some p') (hi:opnd M false i=some i') (hx:opnd M m x=some x') (ho:o.op=.mapUpdate t p i x\/o.op=.insert t p i x) {r:Or} (hr:zG kk p' i' x' st=some r):Left1 P M g w o a r:=by
 have h1:=qf hR hp
 have h2:=qf hR hi
 have h3:=qgT hR hx
 obtain ⟨dd,hdd,_⟩:=qhA hk
 have hrun0:(Go.execOp a.eval o).run P w=((Go.Instr.mapUpdate t (a.eval p) (a.eval i) (a.eval x)).run P w).andThen fun _ w'=>.ok .skip w':=by
  rcases ho with ho|ho<;>simp only [Go.execOp,ho]<;>rw [Sem.run_bind]<;>rfl
 unfold zG at hr
 split at hr
 ·rename_i id key hm hkey
  rw [hm] at h1;rw [hkey] at h2
  split at hr
  ·rename_i es hH
   generalize rd st.env x'=v at hr h3
   simp only at hr
   split at hr
   ·rename_i hgood
    simp only [qOy] at hgood
    split at hr
    ·rename_i es' hset
     simp only [okH,Option.some.injEq] at hr
     subst hr
     have hv:RepS M g w v (a.eval x):=by
      generalize a.eval x=xc at h3 |-
      cases h3 with
      | v h=>cases h with
       | s h=>exact h
       | lp=>simp [V.ok] at hgood
       | cp=>simp [V.ok] at hgood
      | own h=>simp [V.ok] at hgood
     generalize hc1:a.eval p=cx at h1
     cases h1 with
     | s h1=>cases h1 with
      | map _ hid=>
       have hO:=hR.h id _ hH
       cases hO with
       | map _ ents clock hb ho' hr'=>
        have hg:(Go.getObj (g.φ id)).run P w=.ok (.map ents clock) w:=by simp [Go.getObj,Sem.run,hb]
        have hso:∀ob,(Go.setObj (g.φ id) ob).run P w=.ok () {w with heap:=w.heap.setIfInBounds (g.φ id) ob}:=fun ob=>by simp [Go.setObj,Sem.run,hb]
        have fin:∀{ents':Array Go.MapEntry} {clock':Nat},(Go.Instr.mapUpdate t (a.eval p) (a.eval i) (a.eval x)).run P w=.ok () {w with heap:=w.heap.setIfInBounds (g.φ id) (.map ents' clock')}->
          RepEs M g w es' ents'.toList->Left1 P M g w o a ⟨false,false,.undef,{st with H:=qQ st.H id (.map es'),lo:=min st.lo id,env:=spent x' st.env}⟩:=by
         intro ents' clock' hrun hre
         have hw:=Wr.map (g:=g) (ents':=ents') (c':=clock') hb
         have hlt:g.φ id<w.heap.size:=(Array.getElem?_eq_some_iff.1 hb).1
         have hrp:RepO M g {w with heap:=w.heap.setIfInBounds (g.φ id) (.map ents' clock')} id (.map es'):=
          .map es' ents' clock' (by simp [hlt]) ho' (hre.mono hw.grow (qOB _) (fun _ _=>rfl))
         obtain ⟨h4,h5⟩:=(hR.spent x').setObj (id:=id) hH ho' hw hrp (min st.lo id)
         exact ⟨_,_,g,β,.skip (by rw [hrun0,hrun];rfl),h4.putV hd (.s (.undef _)),h5⟩
        rcases qqj hk hdd hgood.1 h2.inv_d hv 0 hr' hset with ⟨e1,e2⟩|⟨j,en,e1,e2,e3,e4⟩
        ·refine fin (ents':=ents.push ⟨a.eval i,a.eval x,clock⟩) (clock':=clock+1) ?_ (by simpa using e2 clock)
         rw [hc1]
         simp only [Go.Instr.mapUpdate,Sem.run_bind,Go.run_underlying hu,Result.andThen_ok,hg,Sem.run_pure,qbc hk,qdm hdd e1,hso]
        ·refine fin (ents':=ents.modify j fun e=>{e with key:=a.eval i,val:=a.eval x}) (clock':=clock) ?_ (by simpa using e4)
         have e5:ents[j]?=some en:=by simpa using e1
         have e6:(Go.Instr.keyThatStays (((ents[j]?).map (·.key)).getD (a.eval i)) (a.eval i)).run P w=.ok (a.eval i) w:=by
          simp only [e5,qOG,Option.getD_some,Go.Instr.keyThatStays,e3,if_true,Sem.run_pure]
         rw [hc1]
         simp only [Nat.zero_add] at e2
         simp only [Go.Instr.mapUpdate,Sem.run_bind,Go.run_underlying hu,Result.andThen_ok,hg,Sem.run_pure,qbc hk,qdm hdd e2,e6,hso]
    ·cases hr
   ·cases hr
  ·cases hr
 ·cases hr
end
end W
/-
  Slices of one's own: made anew, grown.
-/
namespace W
open Go (World Value Addr IntKind Program TypeId FuncId Operand Act Oper Next Result Sem BinOp UnOp)
section
variable {P:Program} {M:Maps} {g g':Gh} {w w':World} {β:Nat->Nat} {st:St} {o:Oper} {a:Act}
theorem Rel.others {tmps:Array Value} (h:Rel M g w β st tmps) {n:Nat} (hn:get n st.env=.undef) (hg:Grow g w g' w') (hnn:g'.n=g.n) (hφ:g'.Φ=g.Φ)
  (hk:∀ℓ,ℓ≠.slot n->Kept g w g' w' ℓ) (hf:Fresh g' w'):Rel M g' w' β st tmps:=by
 have hn':g.n<=g'.n:=by rw [hnn];exact qOB _
 have hφ':∀id,id<g.n->g'.Φ id=g.Φ id:=fun id _=>by rw [hφ]
 refine ⟨by rw [hnn];exact h.n,fun k=>?_,fun id o ho=>?_,hf.f,h.gl.mono hg⟩
 ·by_cases hk':k=n
  ·subst hk';rw [hn];exact .s (.undef _)
  ·exact (h.e k).mono hg hn' hφ' (hk _ (by simp [hk'])) (hk _ (by simp)) (fun i=>hk _ (by simp))
 ·exact (h.h id o ho).mono hg hn' hφ' (by rw [h.n];exact (List.getElem?_eq_some_iff.1 ho).1) (hk _ (by simp)) (fun i=>hk _ (by simp))
theorem qnZ (hd:qg o a) (hR:Rel M g w β st a.tmps) {xs:List D} {sz cap:Nat} {vs:List Value} {arr:Array Value} {T:TypeId} {fz:Nat × Nat} (hsz:∀x ∈ xs,x.cells.length=sz)
  (hr:RepDL g.pub w (xs.flatMap D.cells) vs) (harr:arr.toList.take vs.length=vs) (hcap:xs.length<=cap) (ha:cap * sz<=arr.size) (hone:∀u ∈ vs,u.oneCell'=true)
  (hfz:∀j,j<cap * sz->(decide (fz.1<=j) && decide (j<fz.2))=false) :
  ∃g',Rel M g' (w.alloc (.cells arr T fz)) β (put o.dst (qw5 xs) st) (a.put o.dst (.slice (some ⟨w.heap.size,0,none⟩) xs.length cap)).tmps/\Evo g w g' (w.alloc (.cells arr T fz)):=by
 have hf:=hR.fr
 cases xs with
 | nil=>
  have hR':=hR.alloc none 0 (.cells arr T fz)
  exact ⟨_,hR'.putV hd (.s (.d _ _ (.sl0 _ _))),z8 hf none 0 _⟩
 | cons x l=>
  cases hdst:o.dst with
  | none=>
   have hR':=hR.alloc none 0 (.cells arr T fz)
   exact ⟨_,by simpa [put,Act.put_tmps] using hR',z8 hf none 0 _⟩
  | some d=>
   have hR':=hR.alloc (some (.slot d)) vs.length (.cells arr T fz)
   refine ⟨_,?_,z8 hf (some (.slot d)) vs.length _⟩
   rw [qw5,qL (by intro cs e;cases e),Act.put_tmps]
   refine hR'.lay (hd d hdst) (.osl ?_)
   have hg:=qaM hf (some (.slot d)) vs.length (.cells arr T fz)
   have hb:=qK w (.cells arr T fz)
   refine .mk (x::l) w.heap.size 0 cap sz vs arr T fz (by simp) hsz (hr.mono hg.pub hg.cell) (fun j v hj=>?_) (by simp [Gh.withNew]) hcap hone (by simp [Gh.withNew]) hb (by simpa using ha) (fun o _ ho=>?_)
   ·have hj':j<vs.length:=(List.getElem?_eq_some_iff.1 hj).1
    rw [<- harr,List.getElem?_take] at hj
    simp only [hj',if_true] at hj
    have e0:(⟨w.heap.size,0+j,none⟩:Addr)=⟨w.heap.size,j,none⟩:=by rw [Nat.zero_add]
    rw [e0]
    simp only [World.cell?,hb]
    simpa using hj
   ·rw [qeO hb];exact hfz o (by simpa using ho)
theorem qAJ (hd:qg o a) (hR:Rel M g w β st a.tmps) {xs:List D} {sz:Nat} {vs:List Value} {arr:Array Value} {T:TypeId} {fz:Nat × Nat} (hne:xs≠[]) (hsz:∀x ∈ xs,x.cells.length=sz)
  (hr:RepDL g.pub w (xs.flatMap D.cells) vs) (harr:arr.toList.take vs.length=vs) (hone:∀u ∈ vs,u.oneCell'=true) :
  ∃g',Rel M g' (w.alloc (.cells arr T fz)) β (put o.dst (.fsl xs) st) (a.put o.dst (.slice (some ⟨w.heap.size,0,none⟩) xs.length xs.length)).tmps/\Evo g w g' (w.alloc (.cells arr T fz)):=by
 have hf:=hR.fr
 have hR':=hR.alloc none vs.length (.cells arr T fz)
 have hg:=qaM hf none vs.length (.cells arr T fz)
 have hb:=qK w (.cells arr T fz)
 refine ⟨_,hR'.putV hd (.s (.fsl xs _ (.sl xs w.heap.size 0 _ sz vs hne hsz (hr.mono hg.pub hg.cell) (fun j v hj=>?_) (by simp [Gh.withNew]) (qOB _) hone))),z8 hf none vs.length _⟩
 have hj':j<vs.length:=(List.getElem?_eq_some_iff.1 hj).1
 rw [<- harr,List.getElem?_take] at hj
 simp only [hj',if_true] at hj
 have e0:(⟨w.heap.size,0+j,none⟩:Addr)=⟨w.heap.size,j,none⟩:=by rw [Nat.zero_add]
 rw [e0]
 simp only [World.cell?,hb]
 simpa using hj
theorem qzT (hd:qg o a) (hR:Rel M g w β st a.tmps) {n:Nat} (hn:get n st.env=.undef) {xs ys:List D} {b off cap sz:Nat} {vs news:List Value} {arr:Array Value} {T:TypeId} {fz:Nat × Nat} (hne:xs≠[]) (hsz:∀x ∈ xs,x.cells.length=sz)
  (hr:RepDL g.pub w (xs.flatMap D.cells) vs) (hc:∀j v,vs[j]?=some v->w.cell? ⟨b,off+j,none⟩=some v)
  (hp:g.pub b=off+vs.length) (hone:∀u ∈ vs,u.oneCell'=true) (ho:g.own b=some (.slot n)) (hb:w.heap[b]?=some (.cells arr T fz)) (ha:off+cap * sz<=arr.size)
  (hf:∀o,off+vs.length<=o->o<off+cap * sz->w.frozen? ⟨b,o,none⟩=false)
  (hsz2:∀x ∈ ys,x.cells.length=sz) (hr2:RepDL g.pub w (ys.flatMap D.cells) news) (hone2:∀u ∈ news,u.oneCell'=true) (hcap:xs.length+ys.length<=cap) :
  ∃g',Rel M g' (w.setRow b (arr.toList.take (off+vs.length)++news++arr.toList.drop (off+vs.length+news.length)).toArray) β (put o.dst (.osl (xs++ys)) st)
   (a.put o.dst (.slice (some ⟨b,off,none⟩) (xs.length+ys.length) cap)).tmps/\
   Evo g w g' (w.setRow b (arr.toList.take (off+vs.length)++news++arr.toList.drop (off+vs.length+news.length)).toArray):=by
 have hlv:vs.length=xs.length * sz:=by rw [<- hr.length,kM xs _ hsz]
 have hln:news.length=ys.length * sz:=by rw [<- hr2.length,kM ys _ hsz2]
 have hmul:xs.length * sz+ys.length * sz<=cap * sz:=by rw [<- Nat.add_mul];exact Nat.mul_le_mul_right _ hcap
 generalize hw':w.setRow b (arr.toList.take (off+vs.length)++news++arr.toList.drop (off+vs.length+news.length)).toArray=w'
 have hlt:b<w.heap.size:=(Array.getElem?_eq_some_iff.1 hb).1
 have hb':w'.heap[b]?=some (.cells (arr.toList.take (off+vs.length)++news++arr.toList.drop (off+vs.length+news.length)).toArray T fz):=by
  rw [<- hw'];exact Go.setRow_heap w b arr _ T fz hb
 have hoth:∀x,x≠b->w'.heap[x]?=w.heap[x]?:=fun x hx=>by rw [<- hw'];exact Go.setRow_other w b x _ hx
 have hsize:w'.heap.size=w.heap.size:=by rw [<- hw'];simp
 have t1:(arr.toList.take (off+vs.length)).length=off+vs.length:=by simp;omega
 have hcellold:∀o,o<off+vs.length->w'.cell? ⟨b,o,none⟩=w.cell? ⟨b,o,none⟩:=fun o hlt2=>by
  simp only [World.cell?,hb',hb,Option.isSome_none,qOF,if_false,List.getElem?_toArray]
  rw [List.append_assoc,List.getElem?_append_left (by rw [t1];exact hlt2),List.getElem?_take,if_pos hlt2]
  simp
 have hcellnew:∀j v,news[j]?=some v->w'.cell? ⟨b,off+vs.length+j,none⟩=some v:=fun j v hj=>by
  simp only [World.cell?,hb',Option.isSome_none,qOF,if_false,List.getElem?_toArray]
  rw [List.append_assoc,List.getElem?_append_right (by rw [t1];omega),t1,Nat.add_sub_cancel_left,List.getElem?_append_left (List.getElem?_eq_some_iff.1 hj).1]
  exact hj
 let G:Option Loc->Gh:=fun ℓ=>{g with own:=fun x=>if x=b then ℓ else g.own x,pub:=fun x=>if x=b then off+vs.length+news.length else g.pub x}
 have hgr:∀ℓ,Grow g w (G ℓ) w':=fun ℓ=>⟨by rw [hsize];exact qOB _,fun x=>by
   show g.pub x<=(if x=b then off+vs.length+news.length else g.pub x)
   split
   ·rename_i e;subst e;omega
   ·exact qOB _,fun x o hx=>by
   by_cases e:x=b
   ·subst e;rw [hp] at hx;exact hcellold o hx
   ·exact zu (hoth x e) o⟩
 have hkp:∀ℓ ℓ',ℓ'≠.slot n->Kept g w (G ℓ) w' ℓ':=fun ℓ ℓ' hne'=>⟨fun x hx=>by
  have e:x≠b:=fun e=>by subst e;rw [ho] at hx;exact hne' (Option.some.inj hx).symm
  exact ⟨by simp [G,e,hx],hoth x e,by simp [G,e]⟩⟩
 have hev:∀ℓ,Evo g w (G ℓ) w':=fun ℓ=>⟨hgr ℓ,qOB _,fun _ _=>rfl,fun x _ hx=>by
  have e:x≠b:=fun e=>by
   subst e;rw [ho] at hx
   rcases hx with h|h
   ·cases h
   ·cases h
  exact ⟨by simp [G,e],hoth x e,by simp [G,e]⟩,by rw [<- hw'];exact ⟨rfl,rfl⟩⟩
 have hfr:∀ℓ,Fresh (G ℓ) w':=fun ℓ=>⟨fun x hx=>by
  have e:x≠b:=by rw [hsize] at hx;omega
  have:=hR.fr.f x (by rw [<- hsize];exact hx)
  simpa [G,e] using this⟩
 have hrel:∀ℓ,Rel M (G ℓ) w' β st a.tmps:=fun ℓ=>hR.others hn (hgr ℓ) rfl rfl (hkp ℓ) (hfr ℓ)
 rw [qL (by intro cs e;cases e),Act.put_tmps]
 cases hdst:o.dst with
 | none=>exact ⟨G none,hrel none,hev none⟩
 | some d=>
  refine ⟨G (some (.slot d)),(hrel _).lay (hd d hdst) (.osl ?_),hev _⟩
  have:=OwnSl.mk (g:=G (some (.slot d))) (w:=w') (ℓ:=.slot d) (xs++ys) b off cap sz (vs++news) _ T fz (by simp [hne]) (fun x hx=>by
    rcases List.mem_append.1 hx with h|h
    ·exact hsz x h
    ·exact hsz2 x h) (by rw [List.flatMap_append];exact (hr.append hr2).mono (hgr (some (.slot d))).pub (hgr (some (.slot d))).cell) (fun j v hj=>by
    rw [List.getElem?_append] at hj
    split at hj
    ·rename_i hlt2
     rw [hcellold _ (by omega)];exact hc j v hj
    ·rename_i hge
     have:=hcellnew _ v hj
     rwa [show off+vs.length+(j - vs.length)=off+j by omega] at this) (by simp [G];omega) (by simpa using hcap) (fun u hu=>by
    rcases List.mem_append.1 hu with h|h
    ·exact hone u h
    ·exact hone2 u h) (by simp [G]) hb' (by simp;omega) (fun o h1 h2=>by
    rw [qeO hb',<- qeO hb];exact hf o (by simp at h1;omega) h2)
  simpa using this
end
end W
/-
  Slices that grow.
-/
namespace W
open Go (World Value Addr IntKind Program TypeId FuncId Operand Act Oper Next Result Sem BinOp UnOp)
section
variable {P:Program} {M:Maps} {g:Gh} {w:World} {β:Nat->Nat} {st:St} {o:Oper} {a:Act}
structure Src (P:Program) (g:Gh) (w:World) (size:Nat) (c:Value) (ys:List D) (news:List Value):Prop where
 len:∀w',(Go.Builtin.lenOf c).run P w'=.ok ys.length w'
 cells:∀w',SameMem w w'->(Go.Builtin.firstCells size ys.length c).run P w'=.ok news.toArray w'
 rep:RepDL g.pub w (ys.flatMap D.cells) news
 one:∀u ∈ news,u.oneCell'=true
 sz:∀x ∈ ys,x.cells.length=size
theorem qsT (size:Nat):Src P g w size (.slice none 0 0) [] []:=
 ⟨fun _=>rfl,fun _ _=>rfl,.nil,by simp,by simp⟩
theorem ql2 {ys:List D} {c:Value} {size:Nat} (h:RepD g.pub w (.sl ys) c) (hh:kL size ys=true):∃news,Src P g w size c ys news:=by
 cases h with
 | sl0 ad cap=>exact ⟨[],fun _=>rfl,fun w' hw=>by simp [Go.Builtin.firstCells,Go.loadCells,Go.loadCellsFrom],.nil,by simp,by simp⟩
 | sl _ b off cap sz vs hne hs hrep hcell hpub hcap hone=>
  have hsz:=qie hh hne hs
  subst hsz
  refine ⟨vs,fun _=>rfl,fun w' hw=>?_,hrep,hone,hs⟩
  refine Go.run_firstCells_some (P:=P) w' sz ys.length _ _ _ vs (by rw [<- hrep.length,kM ys _ hs]) (fun j v hj=>?_)
  rw [kl]
  have:=hcell j v hj
  simpa only [World.cell?,hw.heap] using this
theorem qkX {z:ByteArray}:Src P g w 1 (.string z) ((z.data.toList.map (·.toNat)).map fun n:Nat=>D.i .u8 n) (z.data.toList.map fun b=>Value.int .u8 b.toNat):=by
 have hn:((z.data.toList.map (·.toNat)).map fun n:Nat=>D.i .u8 n).length=z.size:=by simp
 refine ⟨fun w'=>?_,fun w' hw=>?_,?_,fun u hu=>?_,fun x hx=>?_⟩
 ·rw [hn];rfl
 ·rw [hn]
  simp only [Go.Builtin.firstCells,Sem.run_pure]
  congr 1
  have:z.extract 0 z.size=z:=by
   apply ByteArray.ext
   rw [ByteArray.data_extract]
   exact Array.extract_size
  rw [this]
  apply Array.ext'
  simp
 ·generalize z.data.toList=l
  induction l with
  | nil=>exact .nil
  | cons b l ih=>exact .cons _ _ _ _ (.i _ _) ih
 ·simp only [List.mem_map] at hu
  obtain ⟨b,_,rfl⟩:=hu
  rfl
 ·simp only [List.mem_map] at hx
  obtain ⟨b,_,rfl⟩:=hx
  rfl
def qo0 (P:Program) (u:TypeId):Prop:=P.underlying u=some .string\/∃e,P.underlying u=some (.slice e)
theorem qjM {t u ty e:TypeId} {i:Go.TypeInfo} (ht:P.underlying t=some (.slice e)) (hu:qo0 P u) (hi:P.info? e=some i) {c:Value} {ys:List D} {news:List Value} (hs:Src P g w i.size c ys news)
  {b off sLen sCap:Nat} (hroom:sLen+ys.length<=sCap) {w':World} (hst:(Go.storeCells ⟨b,off+sLen * i.size,none⟩ news).run P w=.ok () w') :
  (Go.Builtin.append_ #[t,u] ty #[.slice (some ⟨b,off,none⟩) sLen sCap,c]).run P w=.ok (.slice (some ⟨b,off,none⟩) (sLen+ys.length) sCap) w':=by
 have h1:=hs.len w
 have h2:=hs.cells w (SameMem.refl w)
 rcases hu with hu|⟨e',hu⟩<;>
 simp [Go.Builtin.append_,Go.run_underlying ht,Go.run_underlying hu,Go.sizeOf,Go.typeInfo,hi,h1,h2,hroom,kl,hst]
theorem qmJ {t u ty e:TypeId} {i:Go.TypeInfo} (ht:P.underlying t=some (.slice e)) (hu:qo0 P u) (hi:P.info? e=some i) {c:Value} (hs:Src P g w i.size c [] [])
  {ad:Addr} {n:Nat}:(Go.Builtin.append_ #[t,u] ty #[.slice (some ad) n n,c]).run P w=.ok (.slice (some ad) n n) w:=by
 have h1:=hs.len w
 have h2:=hs.cells w (SameMem.refl w)
 have hst:∀x,(Go.storeCells x []).run P w=.ok () w:=fun x=>rfl
 simp only [List.length_nil] at h1 h2
 rcases hu with hu|⟨e',hu⟩<;>
 simp [Go.Builtin.append_,Go.run_underlying ht,Go.run_underlying hu,Go.sizeOf,Go.typeInfo,hi,h1,h2,hst]
theorem qoh {t u ty e:TypeId} {i:Go.TypeInfo} (ht:P.underlying t=some (.slice e)) (hu:qo0 P u) (hi:P.info? e=some i) {c:Value} {news:List Value} (hs:Src P g w i.size c [] news) :
  (Go.Builtin.append_ #[t,u] ty #[.slice none 0 0,c]).run P w=.ok (.slice none 0 0) w:=by
 have h1:=hs.len w
 have h2:=hs.cells w (SameMem.refl w)
 simp only [List.length_nil] at h1 h2
 rcases hu with hu|⟨e',hu⟩<;>
 simp [Go.Builtin.append_,Go.run_underlying ht,Go.run_underlying hu,Go.sizeOf,Go.typeInfo,hi,h1,h2]
theorem yw {t u ty e:TypeId} {i:Go.TypeInfo} {z:Value} (ht:P.underlying t=some (.slice e)) (hu:qo0 P u) (hi:P.info? e=some i) (hz:i.zero=some z) {c:Value} {ys:List D} {news:List Value} (hs:Src P g w i.size c ys news)
  {base:Option Addr} {sLen sCap:Nat} {olds:List Value} (hold:(Go.Builtin.firstCells i.size sLen (.slice base sLen sCap)).run P w.drew=.ok olds.toArray w.drew)
  (hg:sCap<sLen+ys.length) (hroomy:roomy i.bytes (sLen+ys.length)=true) :
  (Go.Builtin.append_ #[t,u] ty #[.slice base sLen sCap,c]).run P w =
   .ok (.slice (some ⟨w.heap.size,0,none⟩) (sLen+ys.length) (Go.grownCap w (sLen+ys.length) sCap e))
    (w.drew.alloc (.cells (olds.toArray++news.toArray++Go.Builtin.zeroCells z.cells (Go.grownCap w (sLen+ys.length) sCap e - (sLen+ys.length))) e)):=by
 simp only [roomy,qOy] at hroomy
 have hb1:=qOH hroomy.1
 have hb2:=qOH hroomy.2
 have h1:=hs.len w
 have h2:=hs.cells w.drew ⟨rfl,rfl,rfl⟩
 have hn:¬(sLen+ys.length<=sCap):=by omega
 have h63':¬(9223372036854775807<((sLen:Int)+(ys.length:Int))):=by omega
 have hfit:=Go.growslice_fits hg hb1
 have h48':¬(281474976710656<Go.Builtin.nextslicecap (sLen+ys.length) sCap * i.bytes):=by omega
 rcases hu with hu|⟨e',hu⟩<;>
 ·simp [Go.Builtin.append_,Go.run_underlying ht,Go.run_underlying hu,Go.sizeOf,Go.typeInfo,Go.zeroValue,hi,hz,h1,hn,h63',h48',Go.Question.forced,h2,hold,Go.newRow,Go.grownCap]
  try (congr 2;apply Array.ext';simp [List.append_assoc])
theorem zj {c:Go.Call} {args:List Operand} {ats:List TypeId} {x y:Operand} {s u:TypeId} (ho:o.op=.call c) (hcal:c.callee=.builtin .append) (hargs:c.args.toList=[x,y]) (hats:c.argTypes.toList=[s,u]) {v:Value} {w':World}
  (h:∀ty,(Go.Builtin.append_ #[s,u] ty #[a.eval x,a.eval y]).run P w=.ok v w'):(Go.execOp a.eval o).run P w=.ok (.value v) w':=by
 obtain ⟨cal,cargs,cats⟩:=c
 simp only at hcal hargs hats
 subst hcal
 have e1:cargs=#[x,y]:=Array.ext' hargs
 have e2:cats=#[s,u]:=Array.ext' hats
 subst e1;subst e2
 simp only [Go.execOp,ho,Go.resolve,Go.invoke,Go.builtin,Sem.run_bind,Sem.run_pure,Result.andThen_ok]
 simp [h]
theorem qo8 {x' y':O} {f:Nat->Bool} {args:List Operand} (h:opnds M f 0 args=some [x',y']):∃x y,args=[x,y]/\opnd M (f 0) x=some x'/\opnd M (f 1) y=some y':=by
 cases args with
 | nil=>simp [opnds] at h
 | cons x l=>
  simp only [opnds] at h
  split at h
  ·rename_i z r hz hr
   simp only [Option.some.injEq,List.cons.injEq] at h
   obtain ⟨rfl,rfl⟩:=h
   cases l with
   | nil=>simp [opnds] at hr
   | cons y l=>
    simp only [opnds] at hr
    split at hr
    ·rename_i z2 r2 hz2 hr2
     simp only [Option.some.injEq,List.cons.injEq] at hr
     obtain ⟨rfl,rfl⟩:=hr
     cases l with
     | nil=>exact ⟨x,y,rfl,hz,hz2⟩
     | cons q l=>
      simp only [opnds] at hr2
      split at hr2<;>simp at hr2
    ·cases hr
  ·cases h
theorem qcX (w:World) {z:Value} {i:Go.TypeInfo} (hzs:z.cells.size=i.size) (need old:Nat) (e:TypeId) {all:List Value} (hl:all.length=need * i.size) :
  Go.grownCap w need old e * i.size<=(all.toArray++Go.Builtin.zeroCells z.cells (Go.grownCap w need old e - need)).size:=by
 have hge:=Go.grownCap_ge w need old e
 simp only [Array.size_append,List.size_toArray,Go.size_zeroCells,hzs,hl,<- Nat.add_mul]
 exact Nat.mul_le_mul_right _ (by omega)
theorem qlS (n:Nat):∀j,j<n->(decide (((0,0):Nat × Nat).1<=j) && decide (j<((0,0):Nat × Nat).2))=false:=fun j _=>by simp
def qtu (ys:List D):V:=match ys with | []=>.d .nil|_=>.osl ys
theorem que (hd:qg o a) (hR:Rel M g w β st a.tmps) {t u e:TypeId} {i:Go.TypeInfo} {z:Value} (ht:P.underlying t=some (.slice e)) (hu:qo0 P u) (hi:P.info? e=some i) (hz:i.zero=some z) (hzs:z.cells.size=i.size)
  {x y:Operand} {c:Go.Call} (ho:o.op=.call c) (hcal:c.callee=.builtin .append) (hargs:c.args.toList=[x,y]) (hats:c.argTypes.toList=[t,u])
  {ys:List D} {news:List Value} (hs:Src P g w i.size (a.eval y) ys news) (hx:a.eval x=.slice none 0 0) (hroomy:roomy i.bytes ys.length=true) {r:Or}
  (hr:ok (qtu ys) st=some r):Left1 P M g w o a r:=by
 cases hys:ys with
 | nil=>
  subst hys
  exact qb hd hR (.s (.d _ _ .nil)) (zj (args:=[]) (ats:=[]) ho hcal hargs hats (fun ty=>by rw [hx];exact qoh ht hu hi hs)) hr
 | cons y0 l=>
  have hne:ys≠[]:=by rw [hys];simp
  have e1:qtu ys=qw5 ys:=by rw [hys];rfl
  rw [e1] at hr
  simp only [ok,Option.some.injEq] at hr
  subst hr
  have hpos:0<ys.length:=by rw [hys];simp
  have hrun:=yw (ty:=0) ht hu hi hz hs (base:=none) (sLen:=0) (sCap:=0) (olds:=[]) rfl (by omega) (by rw [Nat.zero_add];exact hroomy)
  simp only [Nat.zero_add,List.append_nil,Array.empty_append] at hrun
  have hsm:SameMem w w.drew:=⟨rfl,rfl,rfl⟩
  have hR':=hR.sameMem hsm
  have hln:news.length=ys.length * i.size:=by rw [<- hs.rep.length,kM ys _ hs.sz]
  obtain ⟨g',h1,h2⟩:=qnZ (T:=e) (fz:=(0,0)) (arr:=news.toArray++Go.Builtin.zeroCells z.cells (Go.grownCap w ys.length 0 e - ys.length)) hd hR' hs.sz (hs.rep.mono (hsm.grow g).pub (hsm.grow g).cell)
   (by simp) (Go.grownCap_ge w ys.length 0 e) (qcX w hzs _ _ _ hln) hs.one (qlS _)
  refine ⟨_,_,g',β,.value (zj (args:=[]) (ats:=[]) ho hcal hargs hats (fun ty=>?_)),h1,(hsm.evo g).trans h2⟩
  rw [hx]
  have hrun':=yw (ty:=ty) ht hu hi hz hs (base:=none) (sLen:=0) (sCap:=0) (olds:=[]) rfl (by omega) (by rw [Nat.zero_add];exact hroomy)
  simpa using hrun'
theorem qyY (hd:qg o a) (hR1:Rel M g w β st a.tmps) {t u e:TypeId} {i:Go.TypeInfo} {z:Value} (ht:P.underlying t=some (.slice e)) (hu:qo0 P u) (hi:P.info? e=some i)
  {x y:Operand} {c:Go.Call} (ho:o.op=.call c) (hcal:c.callee=.builtin .append) (hargs:c.args.toList=[x,y]) (hats:c.argTypes.toList=[t,u])
  (hs:Src P g w i.size (a.eval y) [] []) {xs:List D} {ad:Addr} (hxe:a.eval x=.slice (some ad) xs.length xs.length) (h:RepD g.pub w (.sl xs) (.slice (some ad) xs.length xs.length)) :
  Left1 P M g w o a ⟨false,true,.osl xs,st⟩:=by
 refine ⟨_,w,g,β,.value (zj (args:=[]) (ats:=[]) ho hcal hargs hats (fun ty=>?_)),hR1.putFull hd (fun ℓ=>.full xs ad h),Evo.refl g w⟩
 rw [hxe]
 exact qmJ ht hu hi hs
theorem qzY (hd:qg o a) (hR1:Rel M g w β st a.tmps) {t u e:TypeId} {i:Go.TypeInfo} {z:Value} (ht:P.underlying t=some (.slice e)) (hu:qo0 P u) (hi:P.info? e=some i) (hz:i.zero=some z) (hzs:z.cells.size=i.size)
  {x y:Operand} {c:Go.Call} (ho:o.op=.call c) (hcal:c.callee=.builtin .append) (hargs:c.args.toList=[x,y]) (hats:c.argTypes.toList=[t,u])
  {ys:List D} {news:List Value} (hs:Src P g w i.size (a.eval y) ys news) (hypos:0<ys.length) {xs:List D} {ad:Addr} (hxe:a.eval x=.slice (some ad) xs.length xs.length) (h:RepD g.pub w (.sl xs) (.slice (some ad) xs.length xs.length))
  (hh:kL i.size xs=true) (hroomy:roomy i.bytes (xs.length+ys.length)=true) :
  Left1 P M g w o a ⟨false,true,.osl (xs++ys),st⟩:=by
 have hsm:SameMem w w.drew:=⟨rfl,rfl,rfl⟩
 have hR':=hR1.sameMem hsm
 have hlen:(xs++ys).length=xs.length+ys.length:=by simp
 obtain ⟨vs,hvsz,hrep,hlv,hone,hold⟩:∃vs:List Value,(∀x ∈ xs,x.cells.length=i.size)/\RepDL g.pub w (xs.flatMap D.cells) vs/\vs.length=xs.length * i.size/\(∀u ∈ vs,u.oneCell'=true)/\
   ∀w',SameMem w w'->(Go.Builtin.firstCells i.size xs.length (.slice (some ad) xs.length xs.length)).run P w'=.ok vs.toArray w':=by
  cases h with
  | sl0=>
   refine ⟨[],fun x hx=>by simp at hx,.nil,by simp,fun u hu=>by simp at hu,fun w' hw=>?_⟩
   exact Go.run_firstCells_some (P:=P) w' i.size 0 _ _ _ [] (by simp) (fun j v hj=>by simp at hj)
  | sl _ b off cap sz vs hne hsz hrep hc hp hcap hone=>
   have hsz':=qie hh hne hsz
   subst hsz'
   have hlv:vs.length=xs.length * i.size:=by rw [<- hrep.length,kM xs _ hsz]
   exact ⟨vs,hsz,hrep,hlv,hone,fun w' hw=>Go.run_firstCells_some (P:=P) w' i.size xs.length _ _ _ vs hlv (fun j v hj=>by
    rw [kl]
    have:=hc j v hj
    simpa only [World.cell?,hw.heap] using this)⟩
 have hln:news.length=ys.length * i.size:=by rw [<- hs.rep.length,kM ys _ hs.sz]
 have hlall:(vs++news).length=(xs.length+ys.length) * i.size:=by rw [List.length_append,hlv,hln,Nat.add_mul]
 have hgc:=qcX w hzs (xs.length+ys.length) xs.length e hlall
 obtain ⟨g',h1,h2⟩:=qnZ (xs:=xs++ys) (sz:=i.size) (vs:=vs++news) (T:=e) (fz:=(0,0)) (arr:=vs.toArray++news.toArray++Go.Builtin.zeroCells z.cells (Go.grownCap w (xs.length+ys.length) xs.length e - (xs.length+ys.length)))
  (cap:=Go.grownCap w (xs.length+ys.length) xs.length e) hd hR' (fun q hq=>by
   rcases List.mem_append.1 hq with h|h
   ·exact hvsz q h
   ·exact hs.sz q h) (by rw [List.flatMap_append];exact (hrep.append hs.rep).mono (hsm.grow g).pub (hsm.grow g).cell)
  (by simp only [Array.toList_append];exact List.take_left) (by rw [hlen];exact Go.grownCap_ge w _ xs.length e) (by simpa using hgc) (fun q hq=>by
   rcases List.mem_append.1 hq with h|h
   ·exact hone q h
   ·exact hs.one q h) (qlS _)
 have e2:qw5 (xs++ys)=.osl (xs++ys):=by
  cases hxy:xs++ys with
  | nil=>simp at hxy;rw [hxy.2] at hypos;simp at hypos
  | cons q l=>rfl
 rw [e2,hlen] at h1
 refine ⟨_,_,g',β,.value (zj (args:=[]) (ats:=[]) ho hcal hargs hats (fun ty=>?_)),h1,(hsm.evo g).trans h2⟩
 rw [hxe]
 exact yw ht hu hi hz hs (hold _ hsm) (by omega) hroomy
theorem quA (hd:qg o a) (hR1:Rel M g w β st a.tmps) {t u e:TypeId} {i:Go.TypeInfo} {z:Value} (ht:P.underlying t=some (.slice e)) (hu:qo0 P u) (hi:P.info? e=some i) (hz:i.zero=some z) (hzs:z.cells.size=i.size)
  {x y:Operand} {c:Go.Call} (ho:o.op=.call c) (hcal:c.callee=.builtin .append) (hargs:c.args.toList=[x,y]) (hats:c.argTypes.toList=[t,u])
  {ys:List D} {news:List Value} (hs:Src P g w i.size (a.eval y) ys news) {xs:List D} {ad:Addr} (hxe:a.eval x=.slice (some ad) xs.length xs.length) (h:RepD g.pub w (.sl xs) (.slice (some ad) xs.length xs.length))
  (hh:kL i.size xs=true) (hroomy:roomy i.bytes (xs.length+ys.length)=true) :
  Left1 P M g w o a ⟨false,true,.osl (xs++ys),st⟩:=by
 cases ys with
 | nil=>
  have hnews:news=[]:=by
   have:=hs.rep.length
   simp at this
   exact List.eq_nil_of_length_eq_zero this.symm
  subst hnews
  rw [List.append_nil]
  exact qyY (z:=z) hd hR1 ht hu hi ho hcal hargs hats hs hxe h
 | cons y0 ys=>exact qzY hd hR1 ht hu hi hz hzs ho hcal hargs hats hs (by simp) hxe h hh hroomy
theorem qud (hd:qg o a) (hR:Rel M g w β st a.tmps) {t u e:TypeId} {i:Go.TypeInfo} {z:Value} (ht:P.underlying t=some (.slice e)) (hu:qo0 P u) (hi:P.info? e=some i) (hz:i.zero=some z) (hzs:z.cells.size=i.size)
  {x y:Operand} {c:Go.Call} (ho:o.op=.call c) (hcal:c.callee=.builtin .append) (hargs:c.args.toList=[x,y]) (hats:c.argTypes.toList=[t,u])
  {ys:List D} {news:List Value} (hs:Src P g w i.size (a.eval y) ys news) {n:Nat} {xs:List D} (hx:OwnSl g w (.slot n) xs (a.eval x)) (hh:kL i.size xs=true) (hroomy:roomy i.bytes (xs.length+ys.length)=true) {r:Or}
  (hr:ok (.osl (xs++ys)) {st with env:=(n,.undef)::st.env}=some r):Left1 P M g w o a r:=by
 simp only [ok,Option.some.injEq] at hr
 subst hr
 generalize hxe:a.eval x=xc at hx
 have hR1:=hR.drop n
 cases hx with
 | full ad h=>
  exact quA hd hR1 ht hu hi hz hzs ho hcal hargs hats hs hxe h hh hroomy
 | mk b off cap sz vs arr T fz hne hsz hrep hc hp hcap hone ho' hb ha hf=>
  have hsz':=qie hh hne hsz
  subst hsz'
  have hlv:vs.length=xs.length * i.size:=by rw [<- hrep.length,kM xs _ hsz]
  have hln:news.length=ys.length * i.size:=by rw [<- hs.rep.length,kM ys _ hs.sz]
  by_cases hroom:xs.length+ys.length<=cap
  ·obtain ⟨g',h1,h2⟩:=qzT hd hR1 (n:=n) (by simp [qc]) hne hsz hrep hc hp hone ho' hb ha hf hs.sz hs.rep hs.one hroom
   have hmul:xs.length * i.size+ys.length * i.size<=cap * i.size:=by rw [<- Nat.add_mul];exact Nat.mul_le_mul_right _ hroom
   have hst:=kG P b (off+xs.length * i.size) T fz news 0 arr w hb (fun j h1 h2=>by rw [<- qeO hb];exact hf j (by omega) (by omega)) (by omega) hs.one
   simp only [Nat.add_zero] at hst
   rw [<- hlv] at hst
   refine ⟨_,_,g',β,.value (zj (args:=[]) (ats:=[]) ho hcal hargs hats (fun ty=>?_)),h1,h2⟩
   rw [hxe]
   exact qjM ht hu hi hs hroom (by rw [<- hlv];exact hst)
  ·have hold:∀w',SameMem w w'->(Go.Builtin.firstCells i.size xs.length (.slice (some ⟨b,off,none⟩) xs.length cap)).run P w'=.ok vs.toArray w':=fun w' hw=>
    Go.run_firstCells_some (P:=P) w' i.size xs.length _ _ _ vs hlv (fun j v hj=>by
     rw [kl]
     have:=hc j v hj
     simpa only [World.cell?,hw.heap] using this)
   have hsm:SameMem w w.drew:=⟨rfl,rfl,rfl⟩
   have hR':=hR1.sameMem hsm
   have hlen:(xs++ys).length=xs.length+ys.length:=by simp
   have hlall:(vs++news).length=(xs.length+ys.length) * i.size:=by rw [List.length_append,hlv,hln,Nat.add_mul]
   have hgc:=qcX w hzs (xs.length+ys.length) cap e hlall
   obtain ⟨g',h1,h2⟩:=qnZ (xs:=xs++ys) (sz:=i.size) (vs:=vs++news) (T:=e) (fz:=(0,0)) (arr:=vs.toArray++news.toArray++Go.Builtin.zeroCells z.cells (Go.grownCap w (xs.length+ys.length) cap e - (xs.length+ys.length)))
    (cap:=Go.grownCap w (xs.length+ys.length) cap e) hd hR' (fun q hq=>by
     rcases List.mem_append.1 hq with h|h
     ·exact hsz q h
     ·exact hs.sz q h) (by rw [List.flatMap_append];exact (hrep.append hs.rep).mono (hsm.grow g).pub (hsm.grow g).cell)
    (by simp only [Array.toList_append];exact List.take_left) (by rw [hlen];exact Go.grownCap_ge w _ cap e) (by simpa using hgc) (fun q hq=>by
     rcases List.mem_append.1 hq with h|h
     ·exact hone q h
     ·exact hs.one q h) (qlS _)
   have e2:qw5 (xs++ys)=.osl (xs++ys):=by
    cases xs with
    | nil=>exact absurd rfl hne
    | cons q l=>rfl
   rw [e2,hlen] at h1
   refine ⟨_,_,g',β,.value (zj (args:=[]) (ats:=[]) ho hcal hargs hats (fun ty=>?_)),h1,(hsm.evo g).trans h2⟩
   rw [hxe]
   exact yw ht hu hi hz hs (hold _ hsm) (by omega) hroomy
end
end W
/-
  'append'; values built of parts; slices built of parts; texts and their bytes.
-/
namespace W
open Go (World Value Addr IntKind Program TypeId FuncId Operand Act Oper Next Result Sem BinOp UnOp)
section
variable {P:Program} {M:Maps} {g:Gh} {w:World} {β:Nat->Nat} {st:St} {o:Oper} {a:Act}
theorem qm6 (hd:qg o a) (hR:Rel M g w β st a.tmps) {c:Go.Call} (hcal:c.callee=.builtin .append) {t u e:TypeId} (hats:c.argTypes.toList=[t,u]) (ht:P.underlying t=some (.slice e)) (hu:qo0 P u)
  {i:Go.TypeInfo} (hi:P.info? e=some i) {zd:D} (hz:zE P e=some zd) (hzl:zd.cells.length=i.size) {m:Bool} {x' y':O} (hx:opnds M (fun k=>k == 0 && m) 0 c.args.toList=some [x',y'])
  (ho:o.op=.call c) {r:Or} (hr:yE i.size i.bytes x' y' st=some r):Left1 P M g w o a r:=by
 obtain ⟨x,y,hargs,hx1,hy1⟩:=qo8 hx
 obtain ⟨i2,z,hi2,hzz,hzd⟩:=kR hz
 rw [hi] at hi2
 cases hi2
 have hzs:z.cells.size=i.size:=by
  have:=(zO g.pub w z zd hzd).cells.length
  rw [hzl] at this
  simpa using this.symm
 have hX:=qgT hR hx1
 have hY:RepV M g w β (rd st.env y') (a.eval y):=qf hR (by simpa using hy1)
 unfold yE at hr
 split at hr
 ·rename_i v hv
  have hone:∀{n:Nat} {xs:List D} {c':Value},RepV M g w β (.osl xs) c'->False:=by
   intro n xs c' h
   cases h with
   | s h=>cases h
  unfold qlT at hv
  split at hv
  ·
   rename_i hz1 hz2
   rw [hz1] at hX;rw [hz2] at hY
   have hs:Src P g w i.size (a.eval y) [] []:=by
    have:=hY.inv_d
    generalize a.eval y=cc at this
    cases this;exact qsT _
   have hxe:a.eval x=.slice none 0 0:=by
    generalize a.eval x=cc at hX
    cases hX with
    | v h=>have:=h.inv_d;cases this;rfl
   cases hv
   exact que hd (hR.spent x') ht hu hi hzz hzs ho hcal hargs hats hs hxe (by simp [roomy]) hr
  ·
   rename_i ys hz1 hz2
   rw [hz1] at hX;rw [hz2] at hY
   have hxe:a.eval x=.slice none 0 0:=by
    generalize a.eval x=cc at hX
    cases hX with
    | v h=>have:=h.inv_d;cases this;rfl
   cases hc:(kL i.size ys && roomy i.bytes ys.length) with
   | false=>simp [hc] at hv
   | true=>
    simp only [hc,cond_true,Option.some.injEq] at hv
    simp only [qOy] at hc
    obtain ⟨news,hs⟩:=ql2 (P:=P) hY.inv_d hc.1
    have hv':qtu ys=v:=by rw [<- hv];rfl
    rw [<- hv'] at hr
    exact que hd (hR.spent x') ht hu hi hzz hzs ho hcal hargs hats hs hxe hc.2 hr
  ·
   rename_i ys hz1 hz2
   rw [hz1] at hX;rw [hz2] at hY
   have hxe:a.eval x=.slice none 0 0:=by
    generalize a.eval x=cc at hX
    cases hX with
    | v h=>have:=h.inv_d;cases this;rfl
   cases hc:(qOC i.size 1 && roomy i.bytes ys.length) with
   | false=>simp [hc] at hv
   | true=>
    simp only [hc,cond_true,Option.some.injEq] at hv
    simp only [qOy] at hc
    have h1:=qOz hc.1
    obtain ⟨zb,e1,f1⟩:=qcm hY.inv_d
    have hs:Src P g w i.size (a.eval y) ((zb.data.toList.map (·.toNat)).map fun n:Nat=>D.i .u8 n) (zb.data.toList.map fun b=>Value.int .u8 b.toNat):=by rw [h1,e1];exact qkX
    rw [f1] at hs
    have hv':qtu (ys.map fun n:Nat=>D.i .u8 n)=v:=by rw [<- hv];cases ys<;>rfl
    rw [<- hv'] at hr
    exact que hd (hR.spent x') ht hu hi hzz hzs ho hcal hargs hats hs hxe (by simpa using hc.2) hr
  ·
   rename_i xs ys hz1 hz2
   rw [hz1] at hX;rw [hz2] at hY
   cases hc:(kL i.size xs && kL i.size ys && roomy i.bytes (xs.length+ys.length)) with
   | false=>simp [hc] at hv
   | true=>
    simp only [hc,cond_true,Option.some.injEq] at hv
    simp only [qOy] at hc
    obtain ⟨news,hs⟩:=ql2 (P:=P) hY.inv_d hc.1.2
    subst hv
    simp only [ok,Option.some.injEq] at hr
    subst hr
    have hxe:∃ad,a.eval x=.slice (some ad) xs.length xs.length/\RepD g.pub w (.sl xs) (.slice (some ad) xs.length xs.length):=by
     generalize a.eval x=cc at hX
     cases hX with
     | v h=>cases h with
      | s h=>cases h with
       | fsl _ ad h=>exact ⟨ad,rfl,h⟩
    obtain ⟨ad,hxe,h⟩:=hxe
    exact quA hd (hR.spent x') ht hu hi hzz hzs ho hcal hargs hats hs hxe h hc.1.1 hc.2
  ·
   rename_i xs hz1 hz2
   rw [hz1] at hX;rw [hz2] at hY
   simp only [Option.some.injEq] at hv
   subst hv
   have hs:Src P g w i.size (a.eval y) [] []:=by
    have:=hY.inv_d
    generalize a.eval y=cc at this
    cases this;exact qsT _
   cases hX with
   | v h=>exact absurd h (fun h=>hone (n:=0) h)
   | own h=>
    rename_i n
    simp only [ok,Option.some.injEq] at hr
    subst hr
    obtain ⟨g',h1,h2⟩:=(hR.drop n).putOwn hd (by simp [qc]) h
    refine ⟨a.eval x,w,g',β,.value (zj (args:=[]) (ats:=[]) ho hcal hargs hats (fun ty=>?_)),h1,h2⟩
    cases hxe:a.eval x with
    | slice base n' cap=>
     rw [hxe] at h
     cases h with
     | mk b off cap' sz vs arr T fz hne hsz hrep hc hp hcap hone ho' hb ha hf=>
      exact qjM (ys:=[]) ht hu hi hs (by simpa using hcap) rfl
     | full ad h=>exact qmJ ht hu hi hs
    | _=>rw [hxe] at h;cases h
  ·
   rename_i xs ys hz1 hz2
   rw [hz1] at hX;rw [hz2] at hY
   cases hc:(kL i.size xs && kL i.size ys && roomy i.bytes (xs.length+ys.length)) with
   | false=>simp [hc] at hv
   | true=>
    simp only [hc,cond_true,Option.some.injEq] at hv
    simp only [qOy] at hc
    obtain ⟨news,hs⟩:=ql2 (P:=P) hY.inv_d hc.1.2
    subst hv
    cases hX with
    | v h=>exact absurd h (fun h=>hone (n:=0) h)
    | own h=>exact qud hd hR ht hu hi hzz hzs ho hcal hargs hats hs h hc.1.1 hc.2 hr
  ·
   rename_i xs ys hz1 hz2
   rw [hz1] at hX;rw [hz2] at hY
   cases hc:(kL i.size xs && qOC i.size 1 && roomy i.bytes (xs.length+ys.length)) with
   | false=>simp [hc] at hv
   | true=>
    simp only [hc,cond_true,Option.some.injEq] at hv
    simp only [qOy] at hc
    have h1:=qOz hc.1.2
    obtain ⟨zb,e1,f1⟩:=qcm hY.inv_d
    have hs:Src P g w i.size (a.eval y) ((zb.data.toList.map (·.toNat)).map fun n:Nat=>D.i .u8 n) (zb.data.toList.map fun b=>Value.int .u8 b.toNat):=by rw [h1,e1];exact qkX
    rw [f1] at hs
    subst hv
    cases hX with
    | v h=>exact absurd h (fun h=>hone (n:=0) h)
    | own h=>exact qud hd hR ht hu hi hzz hzs ho hcal hargs hats hs h hc.1.1 (by simpa using hc.2) hr
  ·cases hv
 ·cases hr
end
end W
/-
  Values and slices built of parts; texts and their bytes; rows that are made.
-/
namespace W
open Go (World Value Addr IntKind Program TypeId FuncId Operand Act Oper Next Result Sem BinOp UnOp)
inductive All2 {α β:Type} (R:α->β->Prop):List α->List β->Prop
 | nil:All2 R [] []
 | cons {x:α} {y:β} {l:List α} {r:List β} (h:R x y) (hl:All2 R l r):All2 R (x::l) (y::r)
theorem qpw (off:Nat) (v:Value) (cs:Array Value) (h:off+v.cells.size<=cs.size) :
  (v.cells.zipIdx.foldl (fun cs (x:Value × Nat)=>cs.setIfInBounds (off+x.2) x.1) cs).toList=cs.toList.take off++v.cells.toList++cs.toList.drop (off+v.cells.toList.length):=by
 have e:v.cells.zipIdx.foldl (fun cs (x:Value × Nat)=>cs.setIfInBounds (off+x.2) x.1) cs=(v.cells.toList.zipIdx 0).foldl (fun cs (x:Value × Nat)=>cs.setIfInBounds (off+x.2) x.1) cs:=by
  rw [<- Array.foldl_toList,Array.toList_zipIdx]
 rw [e]
 obtain ⟨h1,h2⟩:=Go.Great.foldl_set off v.cells.toList 0 cs
 apply List.ext_getElem?
 intro k
 rw [Array.getElem?_toList,h2 k,List.append_assoc,List.getElem?_append]
 have t1:(cs.toList.take off).length=off:=by simp;omega
 rw [t1]
 split
 ·rename_i hin
  rw [if_neg (by omega),List.getElem?_append_left (by omega)]
  simp
 ·rename_i hout
  split
  ·rename_i hlt
   rw [List.getElem?_take,if_pos hlt];simp
  ·rename_i hge
   by_cases hk:k - off<v.cells.toList.length
   ·exfalso
    have:k<cs.size:=by simp at hk;omega
    exact hout ⟨by omega,by omega,this⟩
   ·rw [List.getElem?_append_right (by omega),List.getElem?_drop]
    have:off+v.cells.toList.length+(k - off - v.cells.toList.length)=k:=by omega
    rw [this];simp
theorem RepSL.take {M:Maps} {g:Gh} {w:World}:∀{cs:List V} {vl:List Value} (n:Nat),RepSL M g w cs vl->RepSL M g w (cs.take n) (vl.take n)
 | _,_,0,_=>.nil
 | _,_,n+1,.nil=>.nil
 | _,_,n+1,.cons _ _ _ _ hx hl=>.cons _ _ _ _ hx (RepSL.take n hl)
theorem RepSL.drop {M:Maps} {g:Gh} {w:World}:∀{cs:List V} {vl:List Value} (n:Nat),RepSL M g w cs vl->RepSL M g w (cs.drop n) (vl.drop n)
 | _,_,0,h=>h
 | _,_,n+1,.nil=>.nil
 | _,_,n+1,.cons _ _ _ _ hx hl=>RepSL.drop n hl
section
variable {P:Program} {M:Maps} {g:Gh} {w:World} {β:Nat->Nat} {st:St} {o:Oper} {a:Act}
inductive RepPs (M:Maps) (g:Gh) (w:World) (place:Nat->Option (Nat × Nat)):List (Nat × Nat × V)->List (Nat × Value)->Prop
 | nil:RepPs M g w place [] []
 | cons (off size i:Nat) (v:V) (c:Value) (l:List (Nat × Nat × V)) (l':List (Nat × Value)) (hp:place i=some (off,size)) (h:RepSL M g w v.cells c.cells.toList) (hl:RepPs M g w place l l') :
   RepPs M g w place ((off,size,v)::l) ((i,c)::l')
theorem qq1 {place:Nat->Option (Nat × Nat)}:∀{ps:List (Nat × Nat × V)} {ps':List (Nat × Value)} {cells cs:List V} {arr:Array Value},RepPs M g w place ps ps'->RepSL M g w cells arr.toList->
  fill cells ps=some cs->∃arr',Go.Instr.fill place arr ps'=some arr'/\RepSL M g w cs arr'.toList
 | _,_,cells,cs,arr,.nil,hc,h=>by
  simp only [fill,Option.some.injEq] at h
  subst h
  exact ⟨arr,rfl,hc⟩
 | _,_,cells,cs,arr,.cons off size i v c l l' hp hv hl,hc,h=>by
  simp only [fill] at h
  split at h
  ·rename_i hfit
   have hlen:=hc.length
   have hlv:=hv.length
   have e1:c.cells.size=size:=by rw [<- hfit.1];simpa using hlv.symm
   have e2:¬(c.cells.size≠size\/off+c.cells.size>arr.size):=by
    simp at hlen
    omega
   have hsp:=qpw off c arr (by simp at hlen;omega)
   obtain ⟨arr',h1,h2⟩:=qq1 (arr:=c.cells.zipIdx.foldl (fun cs (x:Value × Nat)=>cs.setIfInBounds (off+x.2) x.1) arr) hl (by
    rw [hsp]
    have:=((hc.take off).append hv).append (hc.drop (off+size))
    rwa [show off+size=off+c.cells.toList.length by rw [<- hfit.1,hlv]] at this |-) h
   refine ⟨arr',?_,h2⟩
   simp only [Go.Instr.fill,hp]
   rw [if_neg (by simpa using e2)]
   exact h1
  ·cases h
theorem qo3 (hR:Rel M g w β st a.tmps) {place:Nat->Option (Nat × Nat)}:∀{ps:List (Nat × Operand)} {ps':List (Nat × Nat × O)},
  (All2 (fun (p:Nat × Operand) (q:Nat × Nat × O)=>place p.1=some (q.1,q.2.1)/\opnd M false p.2=some q.2.2) ps ps')->qeG (ps'.map fun (o,s,x)=>(o,s,rd st.env x))=true->
  RepPs M g w place (ps'.map fun (o,s,x)=>(o,s,rd st.env x)) (ps.map fun (i,x)=>(i,a.eval x))
 | _,_,.nil,_=>.nil
 | (i,x)::ps,(off,s,y)::ps',.cons h hl,hk=>by
  simp only [List.map_cons,qeG,qOy] at hk
  refine .cons off s i _ _ _ _ h.1 ?_ (qo3 hR hl hk.2)
  have:=qf hR h.2
  generalize rd st.env y=v at this hk
  generalize a.eval x=c at this
  cases this with
  | s hs=>exact hs.cells hk.1
  | lp=>simp [V.cells,V.ones,V.one,V.ok] at hk
  | cp=>simp [V.cells,V.ones,V.one,V.ok] at hk
theorem qlc (hd:qg o a) (hR:Rel M g w β st a.tmps) {t:TypeId} {ps:Array (Nat × Operand)} (ho:o.op=.build t ps) {zd:D} (hz:zE P t=some zd) {ps':List (Nat × Nat × O)} {place:Nat->Option (Nat × Nat)}
  (hps:All2 (fun (p:Nat × Operand) (q:Nat × Nat × O)=>place p.1=some (q.1,q.2.1)/\opnd M false p.2=some q.2.2) ps.toList ps')
  (hbuilt:∀z vs cells,toD z=some zd->P.info? t=P.info? t->(∃i,P.info? t=some i/\i.zero=some z)->Go.Instr.fill place z.cells vs=some cells->P.built t vs=some cells)
  {r:Or} (hr:qcp zd.cells ps' st=some r):Left1 P M g w o a r:=by
 obtain ⟨i,z,hi,hzz,hzd⟩:=kR hz
 unfold qcp at hr
 cases hk:qeG (ps'.map fun (o,s,x)=>(o,s,rd st.env x)) with
 | false=>simp [hk] at hr
 | true=>
  simp only [hk,Bool.not_true,cond_false] at hr
  split at hr
  ·rename_i cs hcs
   have hrep:=(zO g.pub w z zd hzd).cells
   obtain ⟨arr,h1,h2⟩:=qq1 (qo3 hR hps hk) (RepSL.ofD hrep) hcs
   refine qb hd hR (.s (qlX h2)) ?_ hr
   have hb:=hbuilt z _ arr hzd rfl ⟨i,hi,hzz⟩ h1
   have:=Go.run_build (P:=P) w t (ps.map fun (i,x)=>(i,a.eval x)) arr (by simpa using hb)
   simp only [Go.execOp,ho,Sem.run_bind,this,Result.andThen_ok,Sem.run_pure]
  ·cases hr
theorem qpM (hd:qg o a) (hR:Rel M g w β st a.tmps) {t:TypeId} {ps:Array (Nat × Operand)} (ho:o.op=.build t ps) {zd:D} (hz:zE P t=some zd) {ps':List (Nat × Nat × O)} {place:Nat->Option (Nat × Nat)}
  (hps:All2 (fun (p:Nat × Operand) (q:Nat × Nat × O)=>place p.1=some (q.1,q.2.1)/\opnd M false p.2=some q.2.2) ps.toList ps')
  (hbuilt:∀z vs cells,toD z=some zd->P.info? t=P.info? t->(∃i,P.info? t=some i/\i.zero=some z)->Go.Instr.fill place z.cells vs=some cells->P.built t vs=some cells)
  {r:Or} (hr:qcz zd.cells ps' st=some r):Left1 P M g w o a r:=by
 obtain ⟨i,z,hi,hzz,hzd⟩:=kR hz
 unfold qcz at hr
 cases hk:qeG (ps'.map fun (o,s,x)=>(o,s,rd st.env x)) with
 | false=>simp [hk] at hr
 | true=>
  simp only [hk,Bool.not_true,cond_false] at hr
  split at hr
  ·rename_i cs hcs
   have hrep:=(zO g.pub w z zd hzd).cells
   obtain ⟨arr,h1,h2⟩:=qq1 (qo3 hR hps hk) (RepSL.ofD hrep) hcs
   refine qb hd hR (.s (.agg _ _ h2)) ?_ hr
   have hb:=hbuilt z _ arr hzd rfl ⟨i,hi,hzz⟩ h1
   have:=Go.run_build (P:=P) w t (ps.map fun (i,x)=>(i,a.eval x)) arr (by simpa using hb)
   simp only [Go.execOp,ho,Sem.run_bind,this,Result.andThen_ok,Sem.run_pure]
  ·cases hr
theorem qnb {fs:Array Go.Field} {places:List (Nat × Nat)} (hpl:(fs.toList.mapM fun f=>(P.info? f.type).map fun i=>(f.offset,i.size))=some places):∀{ps:List (Nat × Operand)} {ps':List (Nat × Nat × O)},qlr M P fs ps=some ps'->
  All2 (fun (p:Nat × Operand) (q:Nat × Nat × O)=>places[p.1]?=some (q.1,q.2.1)/\opnd M false p.2=some q.2.2) ps ps'
 | [],ps',h=>by simp only [qlr,Option.some.injEq] at h;subst h;exact .nil
 | (i,x)::ps,ps',h=>by
  simp only [qlr] at h
  split at h
  ·rename_i f y r hf hy hr
   split at h
   ·rename_i l hl
    simp only [Option.some.injEq] at h
    subst h
    refine .cons ⟨?_,hy⟩ (qnb hpl hr)
    obtain ⟨inf,d,hi,hu,rfl⟩:=z5 hl
    have:=Go.mapM_some_get hpl i f (by simpa using hf)
    rw [<- this,hi]
    rfl
   ·cases h
  ·cases h
theorem qrC {size:Nat}:∀{ps:List (Nat × Operand)} {ps':List (Nat × Nat × O)},qoN M size ps=some ps'->
  All2 (fun (p:Nat × Operand) (q:Nat × Nat × O)=>(some (p.1 * size,size):Option (Nat × Nat))=some (q.1,q.2.1)/\opnd M false p.2=some q.2.2) ps ps'
 | [],ps',h=>by simp only [qoN,Option.some.injEq] at h;subst h;exact .nil
 | (i,x)::ps,ps',h=>by
  simp only [qoN] at h
  split at h
  ·rename_i y r hy hr
   simp only [Option.some.injEq] at h
   subst h
   exact .cons ⟨rfl,hy⟩ (qrC hr)
  ·cases h
theorem qpU (hd:qg o a) (hR:Rel M g w β st a.tmps) {t:TypeId} {ps:Array (Nat × Operand)} (ho:o.op=.build t ps) {fs:Array Go.Field} (hu:P.underlying t=some (.struct fs))
  (hpl:(fs.toList.mapM fun f=>(P.info? f.type).map fun i=>(f.offset,i.size)).isSome=true) {zd:D} (hz:zE P t=some zd) {ps':List (Nat × Nat × O)} (hps:qlr M P fs ps.toList=some ps')
  {r:Or} (hr:qcp zd.cells ps' st=some r):Left1 P M g w o a r:=by
 obtain ⟨places,hpl⟩:=Option.isSome_iff_exists.1 hpl
 refine qlc hd hR ho hz (place:=fun i=>places[i]?) (qnb hpl hps) (fun z vs cells _ _ hi hf=>?_) hr
 obtain ⟨i,hi,hzz⟩:=hi
 simp only [Go.Program.built,hi,hu,hzz,hpl]
 simpa using hf
theorem qo4 (hd:qg o a) (hR:Rel M g w β st a.tmps) {t:TypeId} {ps:Array (Nat × Operand)} (ho:o.op=.build t ps) {fs:Array Go.Field} (hu:P.underlying t=some (.struct fs))
  (hpl:(fs.toList.mapM fun f=>(P.info? f.type).map fun i=>(f.offset,i.size)).isSome=true) {zd:D} (hz:zE P t=some zd) {ps':List (Nat × Nat × O)} (hps:qlr M P fs ps.toList=some ps')
  {r:Or} (hr:qcz zd.cells ps' st=some r):Left1 P M g w o a r:=by
 obtain ⟨places,hpl⟩:=Option.isSome_iff_exists.1 hpl
 refine qpM hd hR ho hz (place:=fun i=>places[i]?) (qnb hpl hps) (fun z vs cells _ _ hi hf=>?_) hr
 obtain ⟨i,hi,hzz⟩:=hi
 simp only [Go.Program.built,hi,hu,hzz,hpl]
 simpa using hf
theorem qq6 (hd:qg o a) (hR:Rel M g w β st a.tmps) {t:TypeId} {ps:Array (Nat × Operand)} (ho:o.op=.build t ps) {n:Nat} {e:TypeId} (hu:P.underlying t=some (.array n e))
  {l:L} (hl:lay P e=some l) {zd:D} (hz:zE P t=some zd) {ps':List (Nat × Nat × O)} (hps:qoN M l.n ps.toList=some ps')
  {r:Or} (hr:qcp zd.cells ps' st=some r):Left1 P M g w o a r:=by
 obtain ⟨inf,d,hie,hue,rfl⟩:=z5 hl
 refine qlc hd hR ho hz (place:=fun i=>some (i * inf.size,inf.size)) (qrC hps) (fun z vs cells _ _ hi hf=>?_) hr
 obtain ⟨i,hi,hzz⟩:=hi
 simp only [Go.Program.built,hi,hu,hzz,hie]
 exact hf
end
end W
/-
  Slices built of parts; texts and their bytes; rows that are made.
-/
namespace W
open Go (World Value Addr IntKind Program TypeId FuncId Operand Act Oper Next Result Sem BinOp UnOp)
theorem RepDL.splice {pub:Nat->Nat} {w:World} {l:List D} {vs:List Value} (h:RepDL pub w l vs) {l':List D} {vs':List Value} (h':RepDL pub w l' vs') (off:Nat) :
  RepDL pub w (l.take off++l'++l.drop (off+l'.length)) (vs.take off++vs'++vs.drop (off+vs'.length)):=by
 rw [h'.length]
 exact ((h.take off).append h').append (h.drop _)
theorem qul:∀(xs:List D) (sz j:Nat) (y:D),(∀x ∈ xs,x.cells.length=sz)->y.cells.length=sz->j<xs.length->
  (xs.set j y).flatMap D.cells=(xs.flatMap D.cells).take (j * sz)++y.cells++(xs.flatMap D.cells).drop (j * sz+sz)
 | [],_,_,_,_,_,h=>by simp at h
 | x::xs,sz,0,y,hs,hy,_=>by
  have h0:=hs x (by simp)
  simp only [List.set_cons_zero,List.flatMap_cons,Nat.zero_mul,List.take_zero,List.nil_append,Nat.zero_add,<- h0,List.drop_left' rfl]
 | x::xs,sz,j+1,y,hs,hy,hl=>by
  have h0:=hs x (by simp)
  have ih:=qul xs sz j y (fun z hz=>hs z (by simp [hz])) hy (by simpa using hl)
  simp only [List.set_cons_succ,List.flatMap_cons]
  rw [ih,show (j+1) * sz=x.cells.length+j * sz by rw [h0,Nat.succ_mul];omega,show x.cells.length+j * sz+sz=x.cells.length+(j * sz+sz) by omega,
   List.take_length_add_append,List.drop_append (i:=x.cells.length+(j * sz+sz))]
  simp [List.drop_eq_nil_of_le,List.append_assoc]
theorem qu9 {pub:Nat->Nat} {w:World}:∀{xs:List D} {vs:List Value},D.wfs xs=true->RepDL pub w (xs.flatMap D.cells) vs->∀u ∈ vs,u.oneCell'=true:=by
 intro xs vs h hr
 refine hr.ones ?_
 clear hr
 induction xs with
 | nil=>rfl
 | cons x l ih=>
  simp only [D.wfs,qOy] at h
  rw [List.flatMap_cons]
  have app:∀(a b:List D),D.ones a=true->D.ones b=true->D.ones (a++b)=true:=by
   intro a b
   induction a with
   | nil=>exact fun _ h=>h
   | cons q a iha=>intro h1 h2;simp only [List.cons_append,D.ones,qOy] at h1 |-;exact ⟨h1.1,iha h1.2 h2⟩
  exact app _ _ h.1 (ih h.2)
section
variable {P:Program} {M:Maps} {g:Gh} {w:World} {β:Nat->Nat} {st:St} {o:Oper} {a:Act}
inductive RepPd (g:Gh) (w:World):List (Nat × V)->List (Nat × Value)->Prop
 | nil:RepPd g w [] []
 | cons (i:Nat) (x:D) (c:Value) (l:List (Nat × V)) (l':List (Nat × Value)) (h:RepDL g.pub w x.cells c.cells.toList) (hl:RepPd g w l l'):RepPd g w ((i,.d x)::l) ((i,c)::l')
 | other (i:Nat) (v:V) (c:Value) (l:List (Nat × V)) (l':List (Nat × Value)) (h:∀x,v≠.d x):RepPd g w ((i,v)::l) ((i,c)::l')
theorem qic {size:Nat} (hpos:0<size):∀{ps:List (Nat × V)} {ps':List (Nat × Value)} {es xs:List D} {arr:Array Value},RepPd g w ps ps'->RepDL g.pub w (es.flatMap D.cells) arr.toList->(∀x ∈ es,x.cells.length=size)->
  qdW size es ps=some xs->∃arr',Go.Instr.fill (fun i=>some (i * size,size)) arr ps'=some arr'/\RepDL g.pub w (xs.flatMap D.cells) arr'.toList/\(∀x ∈ xs,x.cells.length=size)/\xs.length=es.length
 | _,_,es,xs,arr,.nil,hc,hs,h=>by
  simp only [qdW,Option.some.injEq] at h
  subst h
  exact ⟨arr,rfl,hc,hs,rfl⟩
 | _,_,es,xs,arr,.other i v c l l' hv,hc,hs,h=>by
  cases v<;>simp [qdW] at h
  exact absurd rfl (hv _)
 | _,_,es,xs,arr,.cons i x c l l' hv hl,hc,hs,h=>by
  simp only [qdW] at h
  split at h
  ·rename_i hfit
   have hlen:=hc.length
   rw [kM es _ hs] at hlen
   have hlv:=hv.length
   have e1:c.cells.size=size:=by rw [<- hfit.1];simpa using hlv.symm
   have hle:i * size+size<=es.length * size:=by
    rw [<- Nat.succ_mul];exact Nat.mul_le_mul_right _ hfit.2
   have e2:¬(c.cells.size≠size\/i * size+c.cells.size>arr.size):=by
    simp at hlen
    omega
   have hsp:=qpw (i * size) c arr (by simp at hlen;omega)
   have hs':∀y ∈ es.set i x,y.cells.length=size:=fun y hy=>by
    rcases List.mem_or_eq_of_mem_set hy with h|h
    ·exact hs y h
    ·rw [h];exact hfit.1
   obtain ⟨arr',h1,h2,h3,h4⟩:=qic hpos (arr:=c.cells.zipIdx.foldl (fun cs (x:Value × Nat)=>cs.setIfInBounds (i * size+x.2) x.1) arr) hl (by
    rw [hsp,qul es size i x hs hfit.1 hfit.2]
    have:=hc.splice hv (i * size)
    rwa [hfit.1] at this) hs' h
   refine ⟨arr',?_,h2,h3,by rw [h4];simp⟩
   simp only [Go.Instr.fill]
   rw [if_neg (by simpa using e2)]
   exact h1
  ·cases h
theorem qfu (hR:Rel M g w β st a.tmps):∀{ps:List (Nat × Operand)} {ps':List (Nat × O)},qdx M ps=some ps'->RepPd g w (ps'.map fun (j,x)=>(j,rd st.env x)) (ps.map fun (i,x)=>(i,a.eval x))
 | [],ps',h=>by simp only [qdx,Option.some.injEq] at h;subst h;exact .nil
 | (i,x)::ps,ps',h=>by
  simp only [qdx] at h
  split at h
  ·rename_i y r hy hr
   simp only [Option.some.injEq] at h
   subst h
   simp only [List.map_cons]
   have h1:=qf hR hy
   have ih:=qfu hR hr
   cases hv:rd st.env y with
   | d x'=>rw [hv] at h1;exact .cons i x' _ _ _ h1.inv_d.cells ih
   | _=>exact .other i _ _ _ _ (by intro x e;cases e)
  ·cases h
theorem zU {zd:D} {z:Value} {size:Nat} (hz:RepDL g.pub w zd.cells z.cells.toList) (hsz:zd.cells.length=size) (hpos:0<size):∀n,
  RepDL g.pub w ((List.replicate n zd).flatMap D.cells) (((Array.range (n * size)).map (z.cells[· % z.cells.size]!)).toList):=by
 have hzs:z.cells.size=size:=by rw [<- hsz];simpa using hz.length.symm
 intro n
 induction n with
 | zero=>simpa using RepDL.nil
 | succ n ih=>
  have e1:(List.replicate (n+1) zd).flatMap D.cells=(List.replicate n zd).flatMap D.cells++zd.cells:=by
   rw [List.replicate_succ',List.flatMap_append];simp
  have e2:((Array.range ((n+1) * size)).map (z.cells[· % z.cells.size]!)).toList=((Array.range (n * size)).map (z.cells[· % z.cells.size]!)).toList++z.cells.toList:=by
   apply List.ext_getElem?
   intro k
   rw [List.getElem?_append]
   simp only [Array.toList_map,List.getElem?_map,Array.toList_range,List.length_map,List.length_range,hzs]
   have hm:(n+1) * size=n * size+size:=by rw [Nat.succ_mul]
   split
   ·rename_i hk
    rw [List.getElem?_range (by omega),List.getElem?_range hk]
   ·rename_i hk
    by_cases hk2:k<(n+1) * size
    ·rw [List.getElem?_range hk2]
     have e3:k % size=k - n * size:=by
      have:k=k - n * size+n * size:=by omega
      rw [this,Nat.add_mul_mod_self_right,Nat.mod_eq_of_lt (by omega)]
      omega
     have hlt:k - n * size<z.cells.size:=by omega
     simp [e3,hlt]
    ·rw [List.getElem?_eq_none (by simp;omega),List.getElem?_eq_none (by simp;omega)];rfl
  rw [e1,e2]
  exact ih.append hz
theorem qjw (f:Nat->Value):(Array.range 0).map f=#[]:=by
 apply Array.ext'
 simp only [Array.toList_map,Array.toList_range]
 rfl
theorem qka {t e:TypeId} {ie:Go.TypeInfo} {ps:Array (Nat × Value)} {cells:Array Value} (hu:P.underlying t=some (.slice e)) (hie:P.info? e=some ie)
  (h:Go.Instr.fill (fun i=>some (i * ie.size,ie.size)) #[] ps.toList=some cells) :
  (Go.Instr.buildSlice t 0 ps).run P w=.ok (.slice (some ⟨w.heap.size,0,none⟩) 0 0) (w.alloc (.cells cells e)):=by
 simp [Go.Instr.buildSlice,Go.run_underlying hu,Go.sizeOf,Go.typeInfo,hie,qjw,h,Go.newRow]
theorem qrD (hd:qg o a) (hR:Rel M g w β st a.tmps) {t e:TypeId} {n:Nat} {ps:Array (Nat × Operand)} (ho:o.op=.buildSlice t n ps) (hu:P.underlying t=some (.slice e)) {l:L} (hl:lay P e=some l) {zd:D} (hz:zE P e=some zd)
  (hs:zd.cells.length=l.n/\0<l.n/\n * l.n<=16777216) {ps':List (Nat × O)} (hps:qdx M ps.toList=some ps')
  {r:Or} (hr:qX zd n ps' st=some r):Left1 P M g w o a r:=by
 obtain ⟨ie,d,hie,hue,rfl⟩:=z5 hl
 obtain ⟨i2,z,hi2,hzz,hzd⟩:=kR hz
 rw [hie] at hi2
 cases hi2
 simp only at hs
 obtain ⟨hs1,hs2,hs3⟩:=hs
 unfold qX at hr
 split at hr
 ·rename_i xs hxs
  split at hr
  ·rename_i hwf
   simp only [ok,Option.some.injEq] at hr
   subst hr
   rw [hs1] at hxs
   have hrep:=(zO g.pub w z zd hzd).cells
   have hrep0:=zU hrep hs1 hs2 n
   obtain ⟨arr,h1,h2,h3,h4⟩:=qic (arr:=(Array.range (n * ie.size)).map (z.cells[· % z.cells.size]!)) hs2 (qfu hR hps) hrep0 (fun x hx=>by rw [List.eq_of_mem_replicate hx];exact hs1) hxs
   rw [List.length_replicate] at h4
   have hrun:(Go.Instr.buildSlice t n (ps.map fun (i,x)=>(i,a.eval x))).run P w=.ok (.slice (some ⟨w.heap.size,0,none⟩) n n) (w.alloc (.cells arr e)):=by
    by_cases hn:n=0
    ·subst hn
     refine qka hu hie ?_
     rw [Nat.zero_mul,qjw] at h1
     simpa using h1
    ·have:0<n * ie.size:=Nat.mul_pos (by omega) hs2
     exact Go.run_buildSlice (P:=P) w t e n _ arr ie z hu hie hzz (by simpa using hs3) (by omega) (by simpa using h1)
   have hlen:=h2.length
   rw [kM xs _ h3] at hlen
   by_cases hx0:xs=[]
   case pos=>
    subst hx0
    simp only [List.length_nil] at h4
    subst h4
    have hR':=hR.alloc none 0 (.cells arr e)
    have hrun2:(Go.execOp a.eval o).run P w=.ok (.value (.slice (some ⟨w.heap.size,0,none⟩) 0 0)) (w.alloc (.cells arr e)):=by
     simp only [Go.execOp,ho,Sem.run_bind,hrun,Result.andThen_ok,Sem.run_pure]
    exact ⟨.slice (some ⟨w.heap.size,0,none⟩) 0 0,_,_,β,.value hrun2,hR'.putFull hd (fun ℓ=>.full [] ⟨w.heap.size,0,none⟩ (.sl0 _ 0)),z8 hR.fr none 0 _⟩
   obtain ⟨g',k1,k2⟩:=qnZ (T:=e) (fz:=(0,0)) (cap:=n) (arr:=arr) hd hR h3 h2 (by rw [List.take_length]) (by rw [h4];exact qOB _) (by rw [<- h4];simp at hlen;omega) (qu9 hwf h2) (qlS _)
   rw [h4] at k1
   have e9:qw5 xs=.osl xs:=by
    cases xs with
    | nil=>exact absurd rfl hx0
    | cons x l=>rfl
   rw [e9] at k1
   exact ⟨_,_,g',β,.value (by simp only [Go.execOp,ho,Sem.run_bind,hrun,Result.andThen_ok,Sem.run_pure]),k1,k2⟩
  ·cases hr
 ·cases hr
theorem qrH (hd:qg o a) (hR:Rel M g w β st a.tmps) {t e:TypeId} {n:Nat} {ps:Array (Nat × Operand)} (ho:o.op=.buildSlice t n ps) (hu:P.underlying t=some (.slice e)) {l:L} (hl:lay P e=some l) {zd:D} (hz:zE P e=some zd)
  (hs:zd.cells.length=l.n/\0<l.n/\n * l.n<=16777216) {ps':List (Nat × O)} (hps:qdx M ps.toList=some ps')
  {r:Or} (hr:jA zd n ps' st=some r):Left1 P M g w o a r:=by
 obtain ⟨ie,d,hie,hue,rfl⟩:=z5 hl
 obtain ⟨i2,z,hi2,hzz,hzd⟩:=kR hz
 rw [hie] at hi2
 cases hi2
 simp only at hs
 obtain ⟨hs1,hs2,hs3⟩:=hs
 unfold jA at hr
 split at hr
 ·rename_i xs hxs
  split at hr
  ·rename_i hwf
   simp only [ok,Option.some.injEq] at hr
   subst hr
   rw [hs1] at hxs
   have hrep:=(zO g.pub w z zd hzd).cells
   have hrep0:=zU hrep hs1 hs2 n
   obtain ⟨arr,h1,h2,h3,h4⟩:=qic (arr:=(Array.range (n * ie.size)).map (z.cells[· % z.cells.size]!)) hs2 (qfu hR hps) hrep0 (fun x hx=>by rw [List.eq_of_mem_replicate hx];exact hs1) hxs
   rw [List.length_replicate] at h4
   have hrun:(Go.Instr.buildSlice t n (ps.map fun (i,x)=>(i,a.eval x))).run P w=.ok (.slice (some ⟨w.heap.size,0,none⟩) n n) (w.alloc (.cells arr e)):=by
    by_cases hn:n=0
    ·subst hn
     refine qka hu hie ?_
     rw [Nat.zero_mul,qjw] at h1
     simpa using h1
    ·have:0<n * ie.size:=Nat.mul_pos (by omega) hs2
     exact Go.run_buildSlice (P:=P) w t e n _ arr ie z hu hie hzz (by simpa using hs3) (by omega) (by simpa using h1)
   have hlen:=h2.length
   rw [kM xs _ h3] at hlen
   by_cases hx0:xs=[]
   case pos=>
    subst hx0
    simp only [List.length_nil] at h4
    subst h4
    have hR':=hR.alloc none 0 (.cells arr e)
    have hrun2:(Go.execOp a.eval o).run P w=.ok (.value (.slice (some ⟨w.heap.size,0,none⟩) 0 0)) (w.alloc (.cells arr e)):=by
     simp only [Go.execOp,ho,Sem.run_bind,hrun,Result.andThen_ok,Sem.run_pure]
    exact ⟨.slice (some ⟨w.heap.size,0,none⟩) 0 0,_,_,β,.value hrun2,hR'.putV hd (.s (.fsl [] ⟨w.heap.size,0,none⟩ (.sl0 _ 0))),z8 hR.fr none 0 _⟩
   obtain ⟨g',k1,k2⟩:=qAJ (T:=e) (fz:=(0,0)) (arr:=arr) hd hR hx0 h3 h2 (by rw [List.take_length]) (qu9 hwf h2)
   rw [h4] at k1
   exact ⟨_,_,g',β,.value (by simp only [Go.execOp,ho,Sem.run_bind,hrun,Result.andThen_ok,Sem.run_pure]),k1,k2⟩
  ·cases hr
 ·cases hr
end
end W
/-
  Texts and their bytes; rows that are made.
-/
namespace W
open Go (World Value Addr IntKind Program TypeId FuncId Operand Act Oper Next Result Sem BinOp UnOp)
theorem qs7 (w:World) (arr:Array Value) (e:TypeId) (n:Nat):(w.alloc (.cells arr e)).freeze ⟨w.heap.size,n,none⟩ 1=w.alloc (.cells arr e (n,n+1)):=by
 have h:∀f:Go.Obj->Go.Obj,(w.heap.push (.cells arr e)).modify w.heap.size f=w.heap.push (f (.cells arr e)):=by
  intro f
  apply Array.ext_getElem?
  intro i
  rw [Array.getElem?_modify,Array.getElem?_push,Array.getElem?_push]
  by_cases hi:i=w.heap.size
  ·subst hi;simp
  ·have h2:w.heap.size≠i:=fun h=>hi h.symm
   simp [hi,h2]
 unfold World.freeze
 simp only [Nat.one_ne_zero,if_false]
 show ({(w.alloc (.cells arr e)) with heap:=(w.heap.push (.cells arr e)).modify w.heap.size _}:World)=_
 rw [h]
 rfl
def toB (w:World) (z:ByteArray) (e:TypeId):Array Value:=z.data.map (fun b:UInt8=>Value.int .u8 (b.toNat:Int))++Array.replicate (Go.grownCap w z.size 0 e - z.size) (.int .u8 0)
section
variable {P:Program} {M:Maps} {g:Gh} {w:World} {β:Nat->Nat} {st:St} {o:Oper} {a:Act}
theorem qpF {src dst e:TypeId} {z:ByteArray} {d:Go.TypeDesc} (hs:P.underlying src=some d) (hd:P.underlying dst=some (.slice e)) (he:P.underlying e=some (.int .u8)) :
  (Go.convert src dst (.string z)).run P w=.ok (.slice (some ⟨w.heap.size,0,none⟩) z.size (Go.grownCap w z.size 0 e))
   (w.drew.alloc (.cells (toB w z e) e
    ((toB w z e).size,
     (toB w z e).size+1))):=by
 have h1:(Go.convert src dst (.string z)).run P w=(Go.Conv.stringToBytes e z).run P w:=by
  simp only [Go.convert,Sem.run_bind,Go.run_underlying hs,Go.run_underlying hd,Result.andThen_ok]
  cases d<;>simp [Go.run_underlying he]
 rw [h1]
 have hf:(Go.Question.appendCap z.size 0 e).forced=false:=rfl
 unfold Go.Conv.stringToBytes
 simp only [Sem.run_bind,Go.run_choose,hf,qOF,if_false,Result.andThen_ok,Go.newRow,Go.run_newObj_alloc,Sem.run_pure,Go.markStringish,Go.run_shape]
 have hsh:(w.drew.alloc (.cells (toB w z e) e)).shape? w.heap.size =
   some (e,(toB w z e).size):=by
  unfold World.shape?
  have:=qK w.drew (.cells (toB w z e) e)
  have e0:w.drew.heap.size=w.heap.size:=rfl
  rw [e0] at this
  rw [this]
 have hfr:=qs7 w.drew (toB w z e) e (toB w z e).size
 show ((match World.shape? (w.drew.alloc (.cells (toB w z e) e)) w.heap.size with
  | some (_,n)=>Go.freeze {block:=w.heap.size,off:=n} 1
  | _=>pure ()).run P _).andThen _=_
 rw [hsh]
 simp only [Go.run_freeze,Result.andThen_ok]
 have e0:w.drew.heap.size=w.heap.size:=rfl
 rw [e0] at hfr
 exact congrArg (fun W=>Result.ok (Value.slice (some ⟨w.heap.size,0,none⟩) z.size (Go.grownCap w z.size 0 e)) W) hfr
theorem qzI (hd:qg o a) (hR:Rel M g w β st a.tmps) {src dst e:TypeId} {x:Operand} {x':O} (hx:opnd M false x=some x') (hs:P.underlying src=some .string) (hdt:P.underlying dst=some (.slice e)) (he:P.underlying e=some (.int .u8))
  (ho:o.op=.convert src dst x) {r:Or} (hr:qjh x' st=some r):Left1 P M g w o a r:=by
 have h1:=qf hR hx
 unfold qjh at hr
 split at hr
 ·rename_i t hz
  rw [hz] at h1
  obtain ⟨z,e1,f1⟩:=qcm h1.inv_d
  simp only [ok,Option.some.injEq] at hr
  subst hr
  have hrun:=qpF (P:=P) (w:=w) (z:=z) hs hdt he
  have hsm:SameMem w w.drew:=⟨rfl,rfl,rfl⟩
  have hR':=hR.sameMem hsm
  have hsrc:=qkX (P:=P) (g:=g) (w:=w) (z:=z)
  rw [f1] at hsrc
  have hlen:(t.map fun n:Nat=>D.i .u8 n).length=z.size:=by rw [<- f1];simp
  have hge:=Go.grownCap_ge w z.size 0 e
  have hd1:z.data.size=z.size:=rfl
  obtain ⟨g',k1,k2⟩:=qnZ (T:=e) (cap:=Go.grownCap w z.size 0 e) (arr:=toB w z e)
   (fz:=((toB w z e).size,
     (toB w z e).size+1)) hd hR' hsrc.sz (hsrc.rep.mono (hsm.grow g).pub (hsm.grow g).cell)
   (by simp only [toB,Array.toList_append,Array.toList_map];exact List.take_left) (by rw [hlen];exact hge) (by simp [toB];omega) hsrc.one (fun j hj=>by
    have:¬((toB w z e).size<=j):=by simp [toB];omega
    simp only [this,decide_false,Bool.false_and])
  rw [hlen] at k1
  refine ⟨_,_,g',β,.value ?_,k1,(hsm.evo g).trans k2⟩
  simp only [Go.execOp,ho,Sem.run_bind,e1,hrun,Result.andThen_ok,Sem.run_pure]
  rfl
 ·cases hr
theorem qs8 (hd:qg o a) (hR:Rel M g w β st a.tmps) {src dst e:TypeId} {x:Operand} {x':O} (hx:opnd M false x=some x') (hs:P.underlying src=some .string) (hdt:P.underlying dst=some (.slice e)) (he:P.underlying e=some (.int .u8))
  (ho:o.op=.convert src dst x) {r:Or} (hr:yH x' st=some r):Left1 P M g w o a r:=by
 have h1:=qf hR hx
 unfold yH at hr
 split at hr
 ·rename_i t hz
  rw [hz] at h1
  obtain ⟨z,e1,f1⟩:=qcm h1.inv_d
  simp only [okH,Option.some.injEq] at hr
  subst hr
  have hrun:=qpF (P:=P) (w:=w) (z:=z) hs hdt he
  have hsm:SameMem w w.drew:=⟨rfl,rfl,rfl⟩
  have hR':=hR.sameMem hsm
  have hsrc:=qkX (P:=P) (g:=g) (w:=w) (z:=z)
  rw [f1] at hsrc
  have hge:=Go.grownCap_ge w z.size 0 e
  have hd1:z.data.size=z.size:=rfl
  have hlen:(t.map fun n:Nat=>V.d (.i .u8 n)).length=z.size:=by rw [<- f1];simp
  have hds:(t.map fun n:Nat=>V.d (.i .u8 n))=(t.map fun n:Nat=>D.i .u8 n).map V.d:=by simp
  have hflat:(t.map fun n:Nat=>D.i .u8 n).flatMap D.cells=(t.map fun n:Nat=>D.i .u8 n):=by
   generalize t=t'
   induction t' with
   | nil=>rfl
   | cons y l ih=>rw [List.map_cons,List.flatMap_cons,ih];rfl
  have hrep:=hsrc.rep.mono (hsm.grow g).pub (hsm.grow g).cell
  rw [hflat] at hrep
  have hC:=qkQ (M:=M) (g:=g) (w:=w.drew) (ds:=t.map fun n:Nat=>D.i .u8 n) (vs:=z.data.map (fun b:UInt8=>Value.int .u8 (b.toNat:Int))) (by simpa using hrep) (fun i=>Loc.ocell g.n i)
  obtain ⟨k1,k2⟩:=qr7 (cs:=t.map fun n:Nat=>V.d (.i .u8 n)) (arr:=toB w z e) hd hR' e ((toB w z e).size,(toB w z e).size+1) (fun j hj=>by
    have:¬((toB w z e).size<=j):=by rw [hlen] at hj;simp [toB];omega
    simp only [this,decide_false,Bool.false_and]) (by rw [hlen];simp [toB]) (fun i y u hy hu=>by
    have hi:i<z.size:=by rw [<- hlen];exact (List.getElem?_eq_some_iff.1 hy).1
    rw [hds] at hy
    refine hC i y u hy ?_
    unfold toB at hu
    rwa [Array.getElem?_append_left (by simpa using hi)] at hu)
  have e0:w.drew.heap.size=w.heap.size:=rfl
  rw [e0] at k1 k2
  refine ⟨.slice (some ⟨w.heap.size,0,none⟩) z.size (Go.grownCap w z.size 0 e),_,g.withObj w.heap.size,β,.value ?_,?_,(hsm.evo g).trans k2⟩
  ·simp only [Go.execOp,ho,Sem.run_bind,e1,hrun,Result.andThen_ok,Sem.run_pure]
  ·have hv:RepV M (g.withObj w.heap.size) (w.drew.alloc (.cells (toB w z e) e ((toB w z e).size,(toB w z e).size+1))) β (.rs st.H.length 0 t.length t.length) (.slice (some ⟨w.heap.size,0,none⟩) z.size (Go.grownCap w z.size 0 e)):=by
    have ht:t.length=z.size:=by simpa using hlen
    have:=RepS.rs (M:=M) (g:=g.withObj w.heap.size) (w:=w.drew.alloc (.cells (toB w z e) e ((toB w z e).size,(toB w z e).size+1))) g.n 0 z.size z.size (Go.grownCap w z.size 0 e) (Nat.lt_succ_self _) (qOB _) hge
    rw [<- hR.n,ht]
    simpa [Gh.withObj,Gh.φ] using RepV.s (β:=β) this
   exact k1.putV hd hv
 ·cases hr
theorem qkC {pub:Nat->Nat}:∀{xs:List D} {t:List Nat} {vs:List Value},yz xs=some t->RepDL pub w (xs.flatMap D.cells) vs->vs=(t.map fun n:Nat=>(n:Int)).map (Value.int .u8)/\(∀x ∈ xs,x.cells.length=1)/\(∀n ∈ t,n<256)/\t.length=xs.length
 | [],t,vs,h,hr=>by
  simp only [yz,Option.some.injEq] at h
  subst h
  cases hr
  exact ⟨rfl,by simp,by simp,rfl⟩
 | x::xs,t,vs,h,hr=>by
  unfold yz at h
  split at h
  ·rename_i heq;cases heq
  ·rename_i n l heq
   simp only [List.cons.injEq] at heq
   obtain ⟨rfl,rfl⟩:=heq
   split at h
   ·rename_i hn
    cases hb:yz xs with
    | none=>simp [hb] at h
    | some t'=>
     simp only [hb,qOG,Option.some.injEq] at h
     subst h
     simp only [List.flatMap_cons,D.cells,List.singleton_append] at hr
     cases hr with
     | cons _ v _ vs' h1 h2=>
      have e:=jp h1
      obtain ⟨i1,i2,i3,i4⟩:=qkC hb h2
      refine ⟨?_,?_,?_,by simp [i4]⟩
      ·rw [e,i1];simp [Int.toNat_of_nonneg hn.1]
      ·intro y hy
       rcases List.mem_cons.1 hy with h|h
       ·subst h;rfl
       ·exact i2 y h
      ·intro m hm
       rcases List.mem_cons.1 hm with h|h
       ·subst h;omega
       ·exact i3 m h
   ·cases h
  ·cases h
theorem qr9:∀(ns:List Nat) (s:ByteArray),((ns.map fun n:Nat=>(n:Int)).foldl (fun r n=>r.push (UInt8.ofNat n.toNat)) s).data.toList=s.data.toList++ns.map UInt8.ofNat
 | [],s=>by simp
 | n::ns,s=>by
  simp only [List.map_cons,List.foldl_cons]
  rw [qr9 ns]
  simp [ByteArray.push]
theorem qmt {ns:List Nat} (h:∀n ∈ ns,n<256):((ns.map fun n:Nat=>(n:Int)).foldl (fun r n=>r.push (UInt8.ofNat n.toNat)) ByteArray.empty).data.toList.map (·.toNat)=ns:=by
 rw [qr9]
 simp only [List.map_append,List.map_map]
 have:(ByteArray.empty.data.toList.map (·.toNat))=[]:=rfl
 rw [this,List.nil_append]
 conv=>rhs;rw [<- List.map_id ns]
 apply List.map_congr_left
 intro n hn
 have:=h n hn
 simp [UInt8.toNat_ofNat']
 omega
theorem qns {M:Maps} {g:Gh} {w:World}:∀{cs:List V} {vs:List Value} {ds:List D},jQ cs=some ds->cs.length=vs.length->(∀(i:Nat) x v,cs[i]?=some x->vs[i]?=some v->RepS M g w (zy x) v)->RepDL g.pub w ds vs
 | [],[],ds,h,_,_=>by simp only [jQ,Option.some.injEq] at h;subst h;exact .nil
 | [],_::_,_,_,hl,_=>by simp at hl
 | _::_,[],_,_,hl,_=>by simp at hl
 | x::cs,v::vs,ds,h,hl,hr=>by
  have h0:=hr 0 x v rfl rfl
  have hrest:∀(i:Nat) y u,cs[i]?=some y->vs[i]?=some u->RepS M g w (zy y) u:=fun i y u hy hu=>hr (i+1) y u (by simpa using hy) (by simpa using hu)
  cases x with
  | d y=>
   simp only [jQ] at h
   split at h
   ·rename_i r hr1
    simp only [Option.some.injEq] at h;subst h
    cases h0 with
    | d _ _ h0=>exact .cons _ _ _ _ h0 (qns hr1 (by simpa using hl) hrest)
   ·cases h
  | osl y=>
   simp only [jQ] at h
   split at h
   ·rename_i r hr1
    simp only [Option.some.injEq] at h;subst h
    cases h0 with
    | d _ _ h0=>exact .cons _ _ _ _ h0 (qns hr1 (by simpa using hl) hrest)
   ·cases h
  | fsl y=>
   simp only [jQ] at h
   split at h
   ·rename_i r hr1
    simp only [Option.some.injEq] at h;subst h
    cases h0 with
    | fsl _ ad h0=>exact .cons _ _ _ _ h0 (qns hr1 (by simpa using hl) hrest)
   ·cases h
  | _=>simp [jQ] at h
theorem qaA {M:Maps} {g:Gh} {w:World} {cs:List V} {ds:List D} {b off n:Nat} {arr:Array Value} {T:TypeId} {fz:Nat × Nat} (hds:jQ ((cs.drop off).take n)=some ds) (hl:cs.length<=arr.size) (hle:off+n<=cs.length)
  (hb:w.heap[b]?=some (.cells arr T fz)) (hr:∀(i:Nat) x v,cs[i]?=some x->arr[i]?=some v->RepS M g w (zy x) v) :
  ∃vs:List Value,vs.length=n/\RepDL g.pub w ds vs/\∀(j:Nat) v,vs[j]?=some v->w.cell? ⟨b,off+j,none⟩=some v:=by
 refine ⟨(arr.toList.drop off).take n,by simp;omega,qns (M:=M) hds (by simp;omega) (fun i x v hx hv=>?_),fun j v hj=>?_⟩
 ·have hi:i<n:=by
   have:=(List.getElem?_eq_some_iff.1 hx).1
   simp at this;omega
  refine hr (off+i) x v ?_ ?_
  ·simpa [List.getElem?_take,hi,List.getElem?_drop] using hx
  ·simpa [List.getElem?_take,hi,List.getElem?_drop] using hv
 ·have hj':j<n:=by
   have:=(List.getElem?_eq_some_iff.1 hj).1
   simp at this;omega
  have:arr[off+j]?=some v:=by simpa [List.getElem?_take,hj',List.getElem?_drop] using hj
  simp [World.cell?,hb,this]
theorem qra:∀{ds:List D} {t:List Nat},yz ds=some t->ds.flatMap D.cells=ds
 | [],_,_=>rfl
 | x::l,t,h=>by
  cases x with
  | i k n=>
   cases k with
   | u8=>
    simp only [yz] at h
    split at h
    ·cases hb:yz l with
     | none=>simp [hb] at h
     | some r=>rw [List.flatMap_cons,qra hb];rfl
    ·cases h
   | _=>simp [yz] at h
  | _=>simp [yz] at h
theorem qCQ (hd:qg o a) (hR:Rel M g w β st a.tmps) {src dst e:TypeId} {x:Operand} {x':O} (hx:opnd M false x=some x') (hs:P.underlying src=some (.slice e)) (hdt:P.underlying dst=some .string) (he:P.underlying e=some (.int .u8))
  (ho:o.op=.convert src dst x) {r:Or} (hr:qnW x' st=some r):Left1 P M g w o a r:=by
 have h1:=qf hR hx
 have hrun:∀{ad:Option Addr} {l c:Nat} {z:ByteArray},a.eval x=.slice ad l c->(Go.Conv.bytesToString (.slice ad l c)).run P w=.ok (.string z) w->(Go.execOp a.eval o).run P w=.ok (.value (.string z)) w:=by
  intro ad l c z hc hb
  have:=Go.run_convert_bytes_string (P:=P) w src dst e ad l c hs he hdt
  simp only [Go.execOp,ho,Sem.run_bind,hc,this,hb,Result.andThen_ok,Sem.run_pure]
 have cellsRun:∀{b off:Nat} {vs:List Value},(∀j v,vs[j]?=some v->w.cell? ⟨b,off+j,none⟩=some v)->(Go.loadCells ⟨b,off,none⟩ vs.length).run P w=.ok vs.toArray w:=fun {b off vs} h=>
  Go.run_loadCells_list (P:=P) w ⟨b,off,none⟩ vs (fun j v hj=>by rw [kl];exact h j v hj)
 unfold qnW at hr
 split at hr
 ·rename_i hz
  rw [hz] at h1
  have h2:=h1.inv_d
  generalize hc:a.eval x=cc at h2
  cases h2
  exact qb hd hR (.s (.d _ _ (.s [] ByteArray.empty rfl))) (hrun hc rfl) hr
 ·rename_i xs hz
  rw [hz] at h1
  have h2:=h1.inv_d
  split at hr
  ·rename_i t ht
   generalize hc:a.eval x=cc at h2
   cases h2 with
   | sl0 ad cap=>
    simp only [yz,Option.some.injEq] at ht
    subst ht
    refine qb hd hR (.s (.d _ _ (.s [] ByteArray.empty rfl))) (hrun hc ?_) hr
    have:=Go.run_bytesToString (P:=P) w ad 0 cap [] rfl
    exact this
   | sl _ b off cap sz vs hne hsz hrep hcell hpub hcap hone=>
    obtain ⟨i1,i2,i3,i4⟩:=qkC ht hrep
    refine qb hd hR (.s (.d _ _ (.s t _ (qmt i3)))) (hrun hc ?_) hr
    refine Go.run_bytesToString (P:=P) w _ _ _ _ ?_
    have hl:vs.length=xs.length:=by rw [i1];simp [i4]
    rw [<- hl,<- i1]
    exact cellsRun hcell
  ·cases hr
 ·rename_i id off n cap hz
  rw [hz] at h1
  split at hr
  ·rename_i cs hob
   rw [qOx] at hr
   split at hr
   ·rename_i hle
    have hle:=qOH hle
    split at hr
    ·rename_i ds hds
     split at hr
     ·rename_i t ht
      generalize hc:a.eval x=cc at h1
      cases h1 with
      | s h1=>
       cases h1 with
       | rs _ _ _ _ _ hid hcap hcap2=>
        cases hR.h id _ hob with
        | cells _ arr T fz hb hz ho hp hl hr0=>
         have hsub:∃vs:List Value,vs.length=n/\RepDL g.pub w ds vs/\∀(j:Nat) v,vs[j]?=some v->w.cell? ⟨g.φ id,off+j,none⟩=some v:=qaA (M:=M) (g:=g) hds hl hle hb (fun i x v hx hv=>(hr0 i x v hx hv).read)
         obtain ⟨vs,hvl,hrep,hcell⟩:=hsub
         obtain ⟨i1,i2,i3,i4⟩:=qkC ht (by rw [qra ht];exact hrep)
         refine qb hd hR (.s (.d _ _ (.s t _ (qmt i3)))) (hrun hc ?_) hr
         refine Go.run_bytesToString (P:=P) w _ _ _ _ ?_
         rw [<- hvl,<- i1]
         exact cellsRun hcell
     ·cases hr
    ·cases hr
   ·cases hr
  ·cases hr
 ·cases hr
theorem qvP (hd:qg o a) (hR:Rel M g w β st a.tmps) {t e:TypeId} {x y:Operand} {x' y':O} (hu:P.underlying t=some (.slice e)) {i:Go.TypeInfo} (hi:P.info? e=some i) {zd:D} (hz:zE P e=some zd) (hs:i.size=1/\i.bytes<=262144)
  (hx:opnd M false x=some x') (hy:opnd M false y=some y') (ho:o.op=.makeSlice t x y) {r:Or} (hr:qbs zd x' y' st=some r):Left1 P M g w o a r:=by
 have h1:=qf hR hx
 have h2:=qf hR hy
 obtain ⟨i2,z,hi2,hzz,hzd⟩:=kR hz
 rw [hi] at hi2
 cases hi2
 unfold qbs at hr
 split at hr
 ·rename_i k1 n k2 m hv1 hv2
  rw [hv1] at h1;rw [hv2] at h2
  split at hr
  ·rename_i hb
   split at hr
   ·rename_i hnm
    subst hnm
    simp only [okH,Option.some.injEq] at hr
    subst hr
    have e1:=jp h1.inv_d
    have e2:=jp h2.inv_d
    have hrep:=(zO g.pub w z zd hzd).cells
    have hc1:zd.cells=[zd]:=by
     have:=hb.2.2.2
     cases zd<;>first|rfl|(simp [D.one] at this)
    have hw:IntKind.i64.wrap n=n:=Go.wrap_small n hb.1 (by omega)
    obtain ⟨N,rfl⟩:∃N:Nat,n=N:=⟨n.toNat,(Int.toNat_of_nonneg hb.1).symm⟩
    have hN:N<=1073741824:=by have:=hb.2.2.1;omega
    have hsmall:¬((i.bytes:Int) * (N:Int)>2 ^ 48):=by
     have h3:i.bytes * N<=262144 * 1073741824:=Nat.mul_le_mul hs.2 hN
     have h4:((i.bytes * N:Nat):Int)<=281474976710656:=by omega
     rw [Int.natCast_mul] at h4
     omega
    have hneg:¬((N:Int)<0):=by omega
    have hrun:(Go.Instr.makeSlice t (a.eval x) (a.eval y)).run P w=.ok (.slice (some ⟨w.heap.size,0,none⟩) N N) (w.alloc (.cells ((Array.range N).map (z.cells[· % z.cells.size]!)) e)):=by
     have hai:∀(k:IntKind) (n:Int),(Go.asInt (.int k n)).run P w=.ok n w:=fun _ _=>rfl
     rw [e1,e2]
     by_cases h0:N=0
     ·subst h0
      have hai0:∀(k:IntKind),(Go.asInt (.int k 0)).run P w=.ok 0 w:=fun _=>rfl
      have hw0:IntKind.i64.wrap 0=0:=by decide
      simp [Go.Instr.makeSlice,Go.run_underlying hu,Go.typeInfo,hi,hai0,hw0,Go.sizeOf,Go.newRow,qjw]
     ·simp [Go.Instr.makeSlice,Go.run_underlying hu,Go.typeInfo,hi,hai,hw,hneg,hsmall,Go.sizeOf,hs.1,h0,qlM hi hzz,Go.newRow]
      intro hbad
      omega
    have hz0:=zU hrep (size:=1) (by rw [hc1];rfl) (by omega) N
    have hz1:(List.replicate N zd).flatMap D.cells=List.replicate N zd:=by
     clear hz0 hrun hsmall hneg hN hw e1 e2 hb hv1 hv2 h1 h2
     induction N with
     | zero=>rfl
     | succ N ih=>rw [List.replicate_succ,List.flatMap_cons,ih,hc1];rfl
    rw [hz1,Nat.mul_one] at hz0
    have hz2:=qkQ (M:=M) hz0 (fun i=>Loc.ocell g.n i)
    have hlen:((List.replicate N zd).map V.d).length=((Array.range N).map (z.cells[· % z.cells.size]!)).size:=by simp
    obtain ⟨k1,k2⟩:=qnJ hd hR e (Nat.le_of_eq hlen) hz2
    refine ⟨.slice (some ⟨w.heap.size,0,none⟩) N N,_,g.withObj w.heap.size,β,.value (w':=w.alloc (.cells ((Array.range N).map (z.cells[· % z.cells.size]!)) e)) (by simp only [Go.execOp,ho,Sem.run_bind,hrun,Result.andThen_ok,Sem.run_pure]),?_,k2⟩
    have hv:RepV M (g.withObj w.heap.size) (w.alloc (.cells ((Array.range N).map (z.cells[· % z.cells.size]!)) e)) β (.rs st.H.length 0 (N:Int).toNat (N:Int).toNat) (.slice (some ⟨w.heap.size,0,none⟩) N N):=by
     have:=RepS.rs (M:=M) (g:=g.withObj w.heap.size) (w:=w.alloc (.cells ((Array.range N).map (z.cells[· % z.cells.size]!)) e)) g.n 0 N N N (Nat.lt_succ_self _) (qOB _) (qOB _)
     rw [<- hR.n]
     simpa [Gh.withObj,Gh.φ] using RepV.s (β:=β) this
    have e3:List.replicate (N:Int).toNat (V.d zd)=(List.replicate N zd).map V.d:=by simp
    rw [e3]
    exact k1.putV hd hv
   ·cases hr
  ·cases hr
 ·cases hr
theorem qsW (hd:qg o a) (hR:Rel M g w β st a.tmps) {t xt:TypeId} {t':Nat} (hm:look M.tm t=some t') (hinj:M.tm.all (fun p=>p.2 != t' || p.1 == t)=true) {dd:Go.TypeDesc} (hu:P.underlying t=some dd) (hni:∀m,dd≠.interface m)
  {zd:D} (hz:zE P t=some zd) {x:Operand} {x':O} (hx:opnd M false x=some x') (ho:o.op=.typeAssert x xt t true) {r:Or} (hr:yx t' zd x' st=some r):Left1 P M g w o a r:=by
 have h1:=qf hR hx
 obtain ⟨i2,z,hi2,hzz,hzd⟩:=kR hz
 have hrz:(Go.zeroValue t).run P w=.ok z w:=qlM hi2 hzz
 have hzr:RepS M g w (.d zd) z:=.d _ _ (zO g.pub w z zd hzd)
 have hb:∀b,RepS M g w (.d (.b b)) (.bool b):=fun b=>.d _ _ (.b b)
 unfold yx at hr
 split at hr
 ·rename_i t2 v hv
  rw [hv] at h1
  generalize hc:a.eval x=c at h1
  cases h1 with
  | s h3=>cases h3 with
   | ifc _ t3 _ c3 hlk hrep=>
    by_cases he:t2=t'
    ·subst he
     have ht:t3=t:=by
      have key:∀(l:List (Nat × Nat)),l.all (fun p=>p.2 != t2 || p.1 == t)=true->look l t3=some t2->t3=t:=by
       intro l
       induction l with
       | nil=>intro _ h;cases h
       | cons p l ih=>
        intro hall hl
        simp only [List.all_cons,qOy] at hall
        simp only [look,qOx] at hl
        split at hl
        ·rename_i hbq
         simp only [Option.some.injEq] at hl
         have:=hall.1
         simp only [hl,bne_self_eq_false,Bool.false_or,beq_iff_eq] at this
         rw [<- this];exact qOz hbq
        ·exact ih hall.2 hl
      exact key _ hinj hlk
     subst ht
     simp only [Nat.beq_refl,cond_true] at hr
     refine qb hd hR (.s (.tup _ #[c3,.bool true] (.cons _ _ _ _ hrep (.cons _ _ _ _ (hb true) .nil)))) ?_ hr
     simp only [Go.execOp,ho,hc,Go.Instr.typeAssert,Sem.run_bind,Go.run_underlying hu,Result.andThen_ok]
     cases dd<;>first|(simp [Sem.run_bind,Sem.run_pure];done)|exact absurd rfl (hni _)
    ·have hbe:qOC t2 t'=false:=by
      cases hq:qOC t2 t' with
      | false=>rfl
      | true=>exact absurd (qOz hq) he
     simp only [hbe,cond_false] at hr
     have hne:t3≠t:=fun e=>by
      subst e
      rw [hm] at hlk
      simp only [Option.some.injEq] at hlk
      exact he hlk.symm
     refine qb hd hR (.s (.tup _ #[z,.bool false] (.cons _ _ _ _ hzr (.cons _ _ _ _ (hb false) .nil)))) ?_ hr
     simp only [Go.execOp,ho,hc,Go.Instr.typeAssert,Sem.run_bind,Go.run_underlying hu,Result.andThen_ok]
     cases dd<;>first|(simp [Sem.run_bind,Sem.run_pure,hne,hrz];done)|exact absurd rfl (hni _)
 ·rename_i hv
  rw [hv] at h1
  have h3:=h1.inv_d
  generalize hc:a.eval x=c at h3
  cases h3
  refine qb hd hR (.s (.tup _ #[z,.bool false] (.cons _ _ _ _ hzr (.cons _ _ _ _ (hb false) .nil)))) ?_ hr
  simp only [Go.execOp,ho,hc,Go.Instr.typeAssert,Sem.run_bind,Go.run_underlying hu,Result.andThen_ok]
  cases dd<;>first|(simp [Sem.run_bind,Sem.run_pure,hrz];done)|exact absurd rfl (hni _)
 ·cases hr
theorem qr6:∀{xs:List D},D.ones xs=true->xs.flatMap D.cells=xs
 | [],_=>rfl
 | x::l,h=>by
  simp only [D.ones,qOy] at h
  rw [List.flatMap_cons,qr6 h.2]
  have:=h.1
  cases x<;>first|rfl|(simp [D.one] at this)
theorem qsO (hd:qg o a) (hR:Rel M g w β st a.tmps) {t e:TypeId} {n:Nat} {ps:Array (Nat × Operand)} (ho:o.op=.buildSlice t n ps) (hu:P.underlying t=some (.slice e)) {l:L} (hl:lay P e=some l) {zd:D} (hz:zE P e=some zd)
  (hs:zd.cells.length=l.n/\0<l.n/\n * l.n<=16777216) (h1n:l.n=1) {ps':List (Nat × O)} (hps:qdx M ps.toList=some ps')
  {r:Or} (hr:yI zd n ps' st=some r):Left1 P M g w o a r:=by
 obtain ⟨ie,d,hie,hue,rfl⟩:=z5 hl
 obtain ⟨i2,z,hi2,hzz,hzd⟩:=kR hz
 rw [hie] at hi2
 cases hi2
 simp only at hs h1n
 obtain ⟨hs1,hs2,hs3⟩:=hs
 unfold yI at hr
 split at hr
 ·rename_i xs hxs
  split at hr
  ·rename_i hwf
   simp only [okH,Option.some.injEq] at hr
   subst hr
   rw [hs1] at hxs
   have hrep:=(zO g.pub w z zd hzd).cells
   have hrep0:=zU hrep hs1 hs2 n
   obtain ⟨arr,h1,h2,h3,h4⟩:=qic (arr:=(Array.range (n * ie.size)).map (z.cells[· % z.cells.size]!)) hs2 (qfu hR hps) hrep0 (fun x hx=>by rw [List.eq_of_mem_replicate hx];exact hs1) hxs
   rw [List.length_replicate] at h4
   have hn0:n≠0:=by
    intro e;subst e
    exact hwf.2.2 (List.eq_nil_of_length_eq_zero h4)
   have hrun:(Go.Instr.buildSlice t n (ps.map fun (i,x)=>(i,a.eval x))).run P w=.ok (.slice (some ⟨w.heap.size,0,none⟩) n n) (w.alloc (.cells arr e)):=by
    have:0<n * ie.size:=Nat.mul_pos (by omega) hs2
    exact Go.run_buildSlice (P:=P) w t e n _ arr ie z hu hie hzz (by simpa using hs3) (by omega) (by simpa using h1)
   rw [qr6 hwf.2.1] at h2
   have hz2:=qkQ (M:=M) h2 (fun i=>Loc.ocell g.n i)
   have hlen:(xs.map V.d).length=arr.size:=by
    have:=h2.length
    simpa using this
   obtain ⟨k1,k2⟩:=qnJ hd hR e (Nat.le_of_eq hlen) hz2
   refine ⟨.slice (some ⟨w.heap.size,0,none⟩) n n,_,g.withObj w.heap.size,β,.value (w':=w.alloc (.cells arr e)) (by simp only [Go.execOp,ho,Sem.run_bind,hrun,Result.andThen_ok,Sem.run_pure]),?_,k2⟩
   have hv:RepV M (g.withObj w.heap.size) (w.alloc (.cells arr e)) β (.rs st.H.length 0 xs.length xs.length) (.slice (some ⟨w.heap.size,0,none⟩) n n):=by
    have:=RepS.rs (M:=M) (g:=g.withObj w.heap.size) (w:=w.alloc (.cells arr e)) g.n 0 n n n (Nat.lt_succ_self _) (qOB _) (qOB _)
    rw [<- hR.n,h4]
    simpa [Gh.withObj,Gh.φ] using RepV.s (β:=β) this
   exact k1.putV hd hv
  ·cases hr
 ·cases hr
end
end W
/-
  Rows that may be written: made, grown, turned into data.
-/
namespace W
open Go (World Value Addr IntKind Program TypeId FuncId Operand Act Oper Next Result Sem BinOp UnOp)
section
variable {P:Program} {M:Maps} {g:Gh} {w:World} {β:Nat->Nat} {st:St} {o:Oper} {a:Act}
theorem Rel.kill {tmps:Array Value} (hR:Rel M g w β st tmps) (id lo:Nat):Rel M g w β {st with H:=qQ st.H id .dead,lo:=lo} tmps:=by
 refine ⟨by simpa [qQ] using hR.n,hR.e,fun i o2 ho2=>?_,hR.fresh,hR.gl⟩
 simp only [qQ,List.getElem?_set] at ho2
 split at ho2
 ·split at ho2
  ·cases ho2;exact .dead
  ·cases ho2
 ·exact hR.h i o2 ho2
theorem Rel.adopt {tmps:Array Value} (hR:Rel M g w β st tmps) {id:Nat} (hdead:st.H[id]?=some .dead) {b c:Nat} (ho:g.own b=some (.oblk id)) (hb:b<w.heap.size) {w':World} (hw:Wr g w w' b) {ob:Obj}
  (hrep:RepO M (g.withObj b c) w' g.n ob):Rel M (g.withObj b c) w' β {st with H:=st.H++[ob]} tmps/\Evo g w (g.withObj b c) w':=by
 have hg:Grow g w (g.withObj b c) w':=⟨by rw [hw.size];exact qOB _,fun _=>qOB _,hw.grow.cell⟩
 have hk:∀ℓ,ℓ≠.oblk id->Kept g w (g.withObj b c) w' ℓ:=fun ℓ hℓ=>⟨fun x hx=>by
  have hne:x≠b:=fun e=>by subst e;rw [ho] at hx;exact hℓ (Option.some.inj hx).symm
  exact ⟨by simp [Gh.withObj,hne,hx],hw.other x hne,rfl⟩⟩
 have hn:g.n<=(g.withObj b c).n:=Nat.le_succ _
 have hφ:∀id,id<g.n->(g.withObj b c).Φ id=g.Φ id:=fun id hi=>by
  have:id≠g.n:=by omega
  simp [Gh.withObj,this]
 refine ⟨⟨?_,fun k=>?_,fun i ob' hob=>?_,fun x hx=>?_,hR.gl.mono hg⟩,hg,hn,hφ,fun x hx hxo=>?_,hw.io⟩
 ·show g.n+1=(st.H++[ob]).length
  simp [hR.n]
 ·exact (hR.e k).mono hg hn hφ (hk _ (by simp)) (hk _ (by simp)) (fun i=>hk _ (by simp))
 ·rw [List.getElem?_append] at hob
  split at hob
  ·rename_i hlt
   by_cases hi:i=id
   ·subst hi
    rw [hdead] at hob;cases hob
    exact .dead
   ·exact (hR.h i ob' hob).mono hg hn hφ (by rw [hR.n];exact hlt) (hk _ (by simp [hi])) (fun i=>hk _ (by simp))
  ·rename_i hge
   have:i - st.H.length=0:=by
    rcases Nat.eq_zero_or_pos (i - st.H.length) with h0|h0
    ·exact h0
    ·rw [List.getElem?_eq_none (by simp;omega)] at hob;cases hob
   rw [this] at hob
   simp only [List.getElem?_cons_zero,Option.some.injEq] at hob
   subst hob
   have:i=g.n:=by rw [hR.n];omega
   rw [this];exact hrep
 ·rw [hw.size] at hx
  have hne:x≠b:=by omega
  have:=hR.fresh x hx
  simpa [Gh.withObj,hne] using this
 ·have hne:x≠b:=fun e=>by
   subst e;rw [ho] at hxo
   rcases hxo with h|h<;>cases h
  exact ⟨by simp [Gh.withObj,hne],hw.other x hne,rfl⟩
theorem qnX {tmps:Array Value} (hR:Rel M g w β st tmps) (l:L) {cs:List V} {arr:Array Value} (T:TypeId) {c:Nat} (hl:cs.length<=arr.size) (hc:c<=arr.size)
  (hr:∀(i:Nat) y u,cs[i]?=some y->arr[i]?=some u->RepS M g w y u) :
  Rel M (g.withObj w.heap.size c) (w.alloc (.cells arr T)) β {st with H:=st.H++[.row l cs]} tmps/\Evo g w (g.withObj w.heap.size c) (w.alloc (.cells arr T)):=by
 have hf:=hR.fr
 refine hR.newObj (.row l cs) (.cells arr T) ?_
 have hg:Grow g w (g.withObj w.heap.size c) (w.alloc (.cells arr T)):=⟨by simp,fun _=>qOB _,fun b off ho=>by
  have hb:b<w.heap.size:=by
   rcases Nat.lt_or_ge b w.heap.size with h|h
   ·exact h
   ·rw [(hf.f b h).2] at ho;omega
  exact zu (qO w _ hb) off⟩
 refine .row l cs arr T ?_ ?_ ?_ hl ?_ (fun i y u hy hu=>(hr i y u hy hu).mono hg (Nat.le_succ _) (fun id hi=>?_) (hr i y u hy hu).ref)
 ·simp only [Gh.withObj,Gh.φ,if_true];exact qK w _
 ·simp [Gh.withObj,Gh.φ]
 ·simp only [Gh.withObj,Gh.φ,if_true];exact (hf.f _ (qOB _)).2
 ·simpa [Gh.withObj,Gh.ζ] using hc
 ·have:id≠g.n:=by omega
  simp [Gh.withObj,this]
theorem qqx {l:L} {v:V} {c:Value} {ys:List D} (h:RepV M g w β v c) (hs:qt9 l v=some ys) (hh:kL l.n ys=true):∃news,Src P g w l.n c ys news:=by
 unfold qt9 at hs
 split at hs
 ·simp only [Option.some.injEq] at hs;subst hs
  have h2:=h.inv_d
  cases h2
  exact ⟨[],qsT _⟩
 ·simp only [Option.some.injEq] at hs;subst hs
  exact ql2 h.inv_d hh
 ·rw [qOx] at hs
  split at hs
  ·rename_i t h1
   simp only [Option.some.injEq] at hs;subst hs
   obtain ⟨z,e1,f1⟩:=qcm h.inv_d
   have:=qkX (P:=P) (g:=g) (w:=w) (z:=z)
   rw [f1] at this
   rw [e1,qOz h1]
   exact ⟨_,this⟩
  ·cases hs
 ·cases hs
theorem ql0 {ys:List D} {news:List Value} (h:RepDL g.pub w (ys.flatMap D.cells) news):∀(i:Nat) y u,(qaW ys)[i]?=some y->news[i]?=some u->RepS M g w y u:=fun i y u hy hu=>by
 obtain ⟨u',hu',hr⟩:=(RepSL.ofD (M:=M) h).get i y hy
 rw [hu] at hu';cases hu'
 exact hr
theorem qaY {ys:List D} {n:Nat} (h:∀x ∈ ys,x.cells.length=n):(qaW ys).length=ys.length * n:=by
 rw [qaW,List.length_map,kM ys _ h]
theorem qu3 (hd:qg o a) (hR:Rel M g w β st a.tmps) {t u e:TypeId} {i:Go.TypeInfo} {z:Value} (ht:P.underlying t=some (.slice e)) (hu:qo0 P u) (hi:P.info? e=some i) (hz:i.zero=some z) (hzs:z.cells.size=i.size)
  {x y:Operand} {c:Go.Call} (ho:o.op=.call c) (hcal:c.callee=.builtin .append) (hargs:c.args.toList=[x,y]) (hats:c.argTypes.toList=[t,u]) {l:L} (hl:l.n=i.size)
  {x' y':O} (hx:opnd M false x=some x') (hy:opnd M false y=some y') {r:Or} (hr:yq l i.bytes x' y' st=some r):Left1 P M g w o a r:=by
 have h1:=qf hR hx
 have h2:=qf hR hy
 have hsm:SameMem w w.drew:=⟨rfl,rfl,rfl⟩
 unfold yq at hr
 split at hr
 ·rename_i ys hys
  split at hr
  ·rename_i hxv
   rw [hxv] at h1
   rw [qOx] at hr
   split at hr
   ·rename_i hb
    simp only [qOy] at hb
    obtain ⟨news,hs⟩:=qqx (P:=P) h2 hys hb.1
    rw [hl] at hs
    have hxe:a.eval x=.slice none 0 0:=by
     have h3:=h1.inv_d
     generalize a.eval x=cc at h3
     cases h3;rfl
    split at hr
    ·exact qb hd hR (.s (.d _ _ .nil)) (zj (args:=[]) (ats:=[]) ho hcal hargs hats (fun ty=>by rw [hxe];exact qoh ht hu hi hs)) hr
    ·rename_i y0 ys0
     simp only [okH,Option.some.injEq] at hr
     subst hr
     have hR':=hR.sameMem hsm
     have hln:news.length=(y0::ys0).length * i.size:=by rw [<- hs.rep.length,kM _ _ hs.sz]
     have hgc:=qcX w hzs (y0::ys0).length 0 e hln
     have hge:=Go.grownCap_ge w (y0::ys0).length 0 e
     obtain ⟨k1,k2⟩:=qnX hR' l (cs:=qaW (y0::ys0)) (arr:=news.toArray++Go.Builtin.zeroCells z.cells (Go.grownCap w (y0::ys0).length 0 e - (y0::ys0).length)) e (c:=Go.grownCap w (y0::ys0).length 0 e * i.size)
      (by rw [qaY hs.sz];exact Nat.le_trans (Nat.mul_le_mul_right _ hge) hgc) hgc (fun j q v hq hv=>by
       have hj:j<news.length:=by
        have:=(List.getElem?_eq_some_iff.1 hq).1
        rw [qaY hs.sz] at this
        rw [hln];exact this
       refine ql0 (hs.rep.mono (hsm.grow g).pub (hsm.grow g).cell) j q v hq ?_
       rw [Array.getElem?_append_left (by simpa using hj)] at hv
       simpa using hv)
     have e0:w.drew.heap.size=w.heap.size:=rfl
     rw [e0] at k1 k2
     refine ⟨.slice (some ⟨w.heap.size,0,none⟩) (y0::ys0).length (Go.grownCap w (y0::ys0).length 0 e),_,_,β,.value (zj (args:=[]) (ats:=[]) ho hcal hargs hats (fun ty=>?_)),k1.putV hd (.s ?_),(hsm.evo g).trans k2⟩
     ·rw [hxe]
      have hrun':=yw (ty:=ty) ht hu hi hz hs (base:=none) (sLen:=0) (sCap:=0) (olds:=[]) rfl (by simp) (by rw [Nat.zero_add];exact hb.2)
      simpa using hrun'
     ·have:=RepS.row (M:=M) (g:=g.withObj w.heap.size (Go.grownCap w (y0::ys0).length 0 e * i.size)) (w:=w.drew.alloc (.cells (news.toArray++Go.Builtin.zeroCells z.cells (Go.grownCap w (y0::ys0).length 0 e - (y0::ys0).length)) e)) g.n i.size (y0::ys0).length (Go.grownCap w (y0::ys0).length 0 e) (Nat.lt_succ_self _) hge (by simp [Gh.withObj,Gh.ζ])
      rw [<- hR.n,hl]
      simpa [Gh.withObj,Gh.φ] using this
   ·cases hr
  ·rename_i id sz len hxv
   rw [hxv] at h1
   split at hr
   ·rename_i l' cs hob
    rw [qOx] at hr
    split at hr
    ·rename_i hb
     simp only [qOy] at hb
     obtain ⟨hb1,hb2,hb3,hb4⟩:=hb
     obtain ⟨news,hs⟩:=qqx (P:=P) h2 hys hb3
     have hsz:sz=i.size:=(qOz hb1).trans hl
     have hcl:cs.length=len * sz:=qOz hb2
     subst hsz
     rw [hl] at hs
     simp only [okH,Option.some.injEq] at hr
     subst hr
     generalize hxe:a.eval x=xc at h1
     cases h1 with
     | s h1=>
     cases h1 with
     | row _ _ _ cap hid hcap hζ=>
     cases hR.h id _ hob with
     | row _ _ arr T hbk hown hpub hle hζa hcr=>
     have hln:news.length=ys.length * i.size:=by rw [<- hs.rep.length,kM _ _ hs.sz]
     have hlt:g.φ id<w.heap.size:=(Array.getElem?_eq_some_iff.1 hbk).1
     have hRk:=hR.kill id (min st.lo id)
     by_cases hroom:len+ys.length<=cap
     ·have hmul:len * i.size+ys.length * i.size<=cap * i.size:=by rw [<- Nat.add_mul];exact Nat.mul_le_mul_right _ hroom
      have hst:=kG P (g.φ id) (len * i.size) T (0,0) news 0 arr w hbk (fun j _ _=>by simp) (by omega) hs.one
      simp only [Nat.add_zero] at hst
      have hw:=Wr.setRow (w:=w) (arr.toList.take (len * i.size)++news++arr.toList.drop (len * i.size+news.length)).toArray hpub
      have hdead:({st with H:=qQ st.H id .dead,lo:=min st.lo id}:St).H[id]?=some .dead:=by
       simp only [qQ,List.getElem?_set]
       simp [(List.getElem?_eq_some_iff.1 hob).1]
      have hRow:=Go.setRow_heap w (g.φ id) arr (arr.toList.take (len * i.size)++news++arr.toList.drop (len * i.size+news.length)).toArray T (0,0) hbk
      have hgr:Grow g w (g.withObj (g.φ id) (g.ζ id)) (w.setRow (g.φ id) (arr.toList.take (len * i.size)++news++arr.toList.drop (len * i.size+news.length)).toArray):=⟨by rw [hw.size];exact qOB _,fun _=>qOB _,hw.grow.cell⟩
      have hφ:∀id',id'<g.n->(g.withObj (g.φ id) (g.ζ id)).Φ id'=g.Φ id':=fun id' hi=>by
       have:id'≠g.n:=by omega
       simp [Gh.withObj,this]
      have up:∀{q:V} {v:Value},RepS M g w q v->RepS M (g.withObj (g.φ id) (g.ζ id)) (w.setRow (g.φ id) (arr.toList.take (len * i.size)++news++arr.toList.drop (len * i.size+news.length)).toArray) q v:=fun h=>h.mono hgr (Nat.le_succ _) hφ h.ref
      have hsa:arr.size<=(arr.toList.take (len * i.size)++news++arr.toList.drop (len * i.size+news.length)).toArray.size:=by simp;omega
      have eφ:(g.withObj (g.φ id) (g.ζ id)).φ g.n=g.φ id:=by simp [Gh.withObj,Gh.φ]
      obtain ⟨k1,k2⟩:=hRk.adopt hdead (b:=g.φ id) (c:=g.ζ id) hown hlt hw (ob:=.row l' (cs++qaW ys)) (.row _ _ _ T (by rw [eφ];exact hRow) (by rw [eφ];simp [Gh.withObj]) (by rw [eφ];exact hpub)
       (by rw [List.length_append,qaY hs.sz];simp;omega) (by
        have:(g.withObj (g.φ id) (g.ζ id)).ζ g.n=g.ζ id:=by simp [Gh.withObj,Gh.ζ]
        rw [this];exact Nat.le_trans hζa hsa) (fun j q v hq hv=>by
        simp only [List.getElem?_toArray] at hv
        have t1:(arr.toList.take (len * i.size)).length=cs.length:=by simp;omega
        simp only [List.append_assoc] at hv
        rw [List.getElem?_append,t1] at hv
        rw [List.getElem?_append] at hq
        split at hq
        ·rename_i hj
         simp only [hj,if_true] at hv
         rw [List.getElem?_take] at hv
         simp only [show j<len * i.size by omega,if_true] at hv
         exact up (hcr j q v hq (by simpa using hv))
        ·rename_i hj
         simp only [hj,if_false] at hv
         have hj2:j - cs.length<news.length:=by
          have:=(List.getElem?_eq_some_iff.1 hq).1
          rw [qaY hs.sz] at this
          omega
         rw [List.getElem?_append_left hj2] at hv
         exact up (ql0 hs.rep _ q v hq hv)))
      refine ⟨.slice (some ⟨g.φ id,0,none⟩) (len+ys.length) cap,_,_,β,.value (zj (args:=[]) (ats:=[]) ho hcal hargs hats (fun ty=>?_)),k1.putV hd (.s ?_),k2⟩
      ·rw [hxe]
       exact qjM ht hu hi hs hroom (by rw [Nat.zero_add];exact hst)
      ·have:=RepS.row (M:=M) (g:=g.withObj (g.φ id) (g.ζ id)) (w:=w.setRow (g.φ id) (arr.toList.take (len * i.size)++news++arr.toList.drop (len * i.size+news.length)).toArray) g.n i.size (len+ys.length) cap (Nat.lt_succ_self _) hroom (by
        have:(g.withObj (g.φ id) (g.ζ id)).ζ g.n=g.ζ id:=by simp [Gh.withObj,Gh.ζ]
        rw [this];exact hζ)
       rw [<- hR.n]
       simpa [Gh.withObj,Gh.φ] using this
     ·have hlv:(arr.toList.take (len * i.size)).length=len * i.size:=by simp;omega
      have hold:∀w',SameMem w w'->(Go.Builtin.firstCells i.size len (.slice (some ⟨g.φ id,0,none⟩) len cap)).run P w'=.ok (arr.toList.take (len * i.size)).toArray w':=fun w' hw'=>
       Go.run_firstCells_some (P:=P) w' i.size len _ _ _ _ hlv (fun j v hj=>by
        rw [kl,Nat.zero_add]
        have hj':=(List.getElem?_eq_some_iff.1 hj).1
        rw [List.getElem?_take] at hj
        simp only [show j<len * i.size by omega,if_true] at hj
        simp only [World.cell?,hw'.heap,hbk]
        simpa using hj)
      have hR':=hRk.sameMem hsm
      have hlall:(arr.toList.take (len * i.size)++news).length=(len+ys.length) * i.size:=by rw [List.length_append,hlv,hln,Nat.add_mul]
      have hgc:=qcX w hzs (len+ys.length) cap e hlall
      have hge:=Go.grownCap_ge w (len+ys.length) cap e
      have earr:(arr.toList.take (len * i.size)).toArray++news.toArray++Go.Builtin.zeroCells z.cells (Go.grownCap w (len+ys.length) cap e - (len+ys.length))=(arr.toList.take (len * i.size)++news).toArray++Go.Builtin.zeroCells z.cells (Go.grownCap w (len+ys.length) cap e - (len+ys.length)):=by
       congr 1;apply Array.ext';simp
      obtain ⟨k1,k2⟩:=qnX hR' l' (cs:=cs++qaW ys) (arr:=(arr.toList.take (len * i.size)++news).toArray++Go.Builtin.zeroCells z.cells (Go.grownCap w (len+ys.length) cap e - (len+ys.length))) e (c:=Go.grownCap w (len+ys.length) cap e * i.size)
       (by rw [List.length_append,qaY hs.sz,hcl,<- Nat.add_mul];exact Nat.le_trans (Nat.mul_le_mul_right _ hge) hgc) hgc (fun j q v hq hv=>by
        have hj:j<(arr.toList.take (len * i.size)++news).length:=by
         have:=(List.getElem?_eq_some_iff.1 hq).1
         rw [List.length_append,qaY hs.sz,hcl,<- Nat.add_mul] at this
         rw [hlall];exact this
        rw [Array.getElem?_append_left (by simpa using hj)] at hv
        simp only [List.getElem?_toArray] at hv
        have t1:(arr.toList.take (len * i.size)).length=cs.length:=by omega
        rw [List.getElem?_append,t1] at hv
        rw [List.getElem?_append] at hq
        split at hq
        ·rename_i hj
         simp only [hj,if_true] at hv
         rw [List.getElem?_take] at hv
         simp only [show j<len * i.size by omega,if_true] at hv
         have h5:=hcr j q v hq (by simpa using hv)
         exact h5.mono (hsm.grow g) (qOB _) (fun _ _=>rfl) h5.ref
        ·rename_i hj
         simp only [hj,if_false] at hv
         exact ql0 (hs.rep.mono (hsm.grow g).pub (hsm.grow g).cell) _ q v hq hv)
      have e0:w.drew.heap.size=w.heap.size:=rfl
      rw [e0] at k1 k2
      refine ⟨.slice (some ⟨w.heap.size,0,none⟩) (len+ys.length) (Go.grownCap w (len+ys.length) cap e),_,_,β,.value (zj (args:=[]) (ats:=[]) ho hcal hargs hats (fun ty=>?_)),k1.putV hd (.s ?_),(hsm.evo g).trans k2⟩
      ·rw [hxe]
       have:=yw (ty:=ty) ht hu hi hz hs (hold _ hsm) (by omega) hb4
       rw [earr] at this
       exact this
      ·have:=RepS.row (M:=M) (g:=g.withObj w.heap.size (Go.grownCap w (len+ys.length) cap e * i.size)) (w:=w.drew.alloc (.cells ((arr.toList.take (len * i.size)++news).toArray++Go.Builtin.zeroCells z.cells (Go.grownCap w (len+ys.length) cap e - (len+ys.length))) e)) g.n i.size (len+ys.length) (Go.grownCap w (len+ys.length) cap e) (Nat.lt_succ_self _) hge (by simp [Gh.withObj,Gh.ζ])
       rw [<- hR.n]
       simpa [Gh.withObj,Gh.φ] using this
    ·cases hr
   ·cases hr
  ·cases hr
 ·cases hr
theorem qw9 (hd:qg o a) (hR:Rel M g w β st a.tmps) {t e:TypeId} {n:Nat} {ps:Array (Nat × Operand)} (ho:o.op=.buildSlice t n ps) (hu:P.underlying t=some (.slice e)) {l:L} (hl:lay P e=some l) {zd:D} (hz:zE P e=some zd)
  (hs:zd.cells.length=l.n/\0<l.n/\n * l.n<=16777216) {ps':List (Nat × O)} (hps:qdx M ps.toList=some ps')
  {r:Or} (hr:qeq l zd n ps' st=some r):Left1 P M g w o a r:=by
 obtain ⟨ie,d,hie,hue,rfl⟩:=z5 hl
 obtain ⟨i2,z,hi2,hzz,hzd⟩:=kR hz
 rw [hie] at hi2
 cases hi2
 simp only at hs
 obtain ⟨hs1,hs2,hs3⟩:=hs
 unfold qeq at hr
 split at hr
 ·rename_i xs hxs
  split at hr
  ·rename_i hwf
   simp only [okH,Option.some.injEq] at hr
   subst hr
   rw [hs1] at hxs
   have hrep:=(zO g.pub w z zd hzd).cells
   have hrep0:=zU hrep hs1 hs2 n
   obtain ⟨arr,h1,h2,h3,h4⟩:=qic (arr:=(Array.range (n * ie.size)).map (z.cells[· % z.cells.size]!)) hs2 (qfu hR hps) hrep0 (fun x hx=>by rw [List.eq_of_mem_replicate hx];exact hs1) hxs
   rw [List.length_replicate] at h4
   have hn0:n≠0:=by
    intro e;subst e
    exact hwf.2 (List.eq_nil_of_length_eq_zero h4)
   have hrun:(Go.Instr.buildSlice t n (ps.map fun (i,x)=>(i,a.eval x))).run P w=.ok (.slice (some ⟨w.heap.size,0,none⟩) n n) (w.alloc (.cells arr e)):=by
    have:0<n * ie.size:=Nat.mul_pos (by omega) hs2
    exact Go.run_buildSlice (P:=P) w t e n _ arr ie z hu hie hzz (by simpa using hs3) (by omega) (by simpa using h1)
   have hlen:(qaW xs).length=arr.size:=by
    have:=h2.length
    simpa [qaW] using this
   have hln:arr.size=n * ie.size:=by rw [<- hlen,qaY h3,h4]
   obtain ⟨k1,k2⟩:=qnX hR ⟨ie.size,qnn d⟩ (cs:=qaW xs) (arr:=arr) e (c:=n * ie.size) (Nat.le_of_eq hlen) (by rw [hln];exact qOB _) (fun j q v hq hv=>ql0 h2 j q v hq (by simpa using hv))
   refine ⟨.slice (some ⟨w.heap.size,0,none⟩) n n,_,_,β,.value (w':=w.alloc (.cells arr e)) (by simp only [Go.execOp,ho,Sem.run_bind,hrun,Result.andThen_ok,Sem.run_pure]),k1.putV hd (.s ?_),k2⟩
   have:=RepS.row (M:=M) (g:=g.withObj w.heap.size (n * ie.size)) (w:=w.alloc (.cells arr e)) g.n ie.size n n (Nat.lt_succ_self _) (qOB _) (by simp [Gh.withObj,Gh.ζ])
   rw [<- hR.n,h4]
   simpa [Gh.withObj,Gh.φ] using this
  ·cases hr
 ·cases hr
end
end W
/-
  What a run leaves of the objects that it hasn't marked.
-/
namespace W
open Go (IntKind BinOp UnOp)
structure LoOk (st st':St):Prop where
 len:st.H.length<=st'.H.length
 lo:st'.lo<=st.lo
 old:∀id,id<st'.lo->id<st.H.length->st'.H[id]?=st.H[id]?
theorem LoOk.refl (st:St):LoOk st st:=⟨qOB _,qOB _,fun _ _ _=>rfl⟩
theorem LoOk.trans {a b c:St} (h:LoOk a b) (h':LoOk b c):LoOk a c:=
 ⟨Nat.le_trans h.len h'.len,Nat.le_trans h'.lo h.lo,fun id h1 h2=>(h'.old id h1 (Nat.lt_of_lt_of_le h2 h.len)).trans (h.old id (Nat.lt_of_lt_of_le h1 h'.lo) h2)⟩
theorem LoOk.env {st st':St} (h:LoOk st st') (e:Env):LoOk st {st' with env:=e}:=⟨h.len,h.lo,h.old⟩
theorem LoOk.same {st st':St} (h:st'.H=st.H) (h':st'.lo=st.lo):LoOk st st':=⟨by rw [h];exact qOB _,by rw [h'];exact qOB _,fun _ _ _=>by rw [h]⟩
theorem LoOk.push (st:St) (o:Obj) (e:Env):LoOk st {st with H:=st.H++[o],env:=e}:=
 ⟨by simp,qOB _,fun id _ h=>by simp [List.getElem?_append_left h]⟩
theorem LoOk.set (st:St) (id:Nat) (o:Obj) (e:Env):LoOk st {st with H:=qQ st.H id o,lo:=min st.lo id,env:=e}:=
 ⟨by simp [qQ],Nat.min_le_left _ _,fun i h _=>by
  have:i<id:=Nat.lt_of_lt_of_le h (Nat.min_le_right _ _)
  simp only [qQ]
  rw [List.getElem?_set_ne (by omega)]⟩
def qu (call:Call):Prop:=∀i vs H r,call i vs H=some r->H.length<=r.H.length/\(∀id,id<r.lo->id<H.length->r.H[id]?=H[id]?)/\(r.same=true->r.H=H)
def kB (st:St) (r:Or):Prop:=r.st.H=st.H/\r.st.lo=st.lo/\r.same=true
variable {st:St} {r:Or}
theorem qBF {v:V} {e:Env} (h:ok v {st with env:=e}=some r):kB st r:=by
 simp only [ok,Option.some.injEq] at h;subst h;exact ⟨rfl,rfl,rfl⟩
theorem kw {v:V} (h:ok v st=some r):kB st r:=by
 simp only [ok,Option.some.injEq] at h;subst h;exact ⟨rfl,rfl,rfl⟩
theorem qFd {x} (h:qrJ x st=some r):kB st r:=qBF h
theorem qC3 {c a b} (h:qfK c a b st=some r):kB st r:=by
 unfold qfK at h;repeat' (split at h)
 all_goals first|exact kw h|cases h
theorem qyJ {z p} (h:qcp z p st=some r):kB st r:=by
 unfold qcp at h
 rw [qOx] at h
 repeat' (split at h)
 all_goals first|exact kw h|cases h
theorem qnN {z n p} (h:qX z n p st=some r):kB st r:=by
 unfold qX at h;repeat' (split at h)
 all_goals first|exact kw h|cases h
theorem qve {z p} (h:qcz z p st=some r):kB st r:=by
 unfold qcz at h
 rw [qOx] at h
 repeat' (split at h)
 all_goals first|exact kw h|cases h
theorem qpA {z n p} (h:jA z n p st=some r):kB st r:=by
 unfold jA at h;repeat' (split at h)
 all_goals first|exact kw h|cases h
theorem qym {l a} (h:qfw l a st=some r):kB st r:=by
 unfold qfw at h;repeat' (split at h)
 all_goals first|exact kw h|cases h
theorem qql {x} (h:kS x st=some r):kB st r:=by
 unfold kS at h;repeat' (split at h)
 all_goals first|exact kw h|cases h
theorem qFk {a b x y} (h:qoZ a b x y st=some r):kB st r:=by
 unfold qoZ at h;repeat' (split at h)
 all_goals first|exact kw h|cases h
theorem qLS {a x} (h:eUn a x st=some r):kB st r:=by
 unfold eUn at h;repeat' (split at h)
 all_goals first|exact kw h|cases h
theorem qAQ {a x} (h:qiR a x st=some r):kB st r:=by
 unfold qiR at h;repeat' (split at h)
 all_goals first|exact kw h|cases h
theorem qx4 {x} (h:qjh x st=some r):kB st r:=by
 unfold qjh at h;repeat' (split at h)
 all_goals first|exact kw h|cases h
theorem qCF {x} (h:qnW x st=some r):kB st r:=by
 unfold qnW at h;simp only [qOx] at h;repeat' (split at h)
 all_goals first|exact kw h|cases h
theorem qCP {x} (h:qoo x st=some r):kB st r:=by
 unfold qoo at h;repeat' (split at h)
 all_goals first|exact kw h|cases h
theorem qyN {t x} (h:qje t x st=some r):kB st r:=by
 unfold qje at h;repeat' (split at h)
 all_goals first|exact kw h|cases h
theorem qAX {f a b} (h:qmC f a b st=some r):kB st r:=by
 unfold qmC at h;repeat' (split at h)
 all_goals first|exact kw h|cases h
theorem quW {x a b} (h:jq x a b st=some r):kB st r:=by
 unfold jq at h;repeat' (split at h)
 all_goals first|exact kw h|cases h
theorem qvA {n x a b} (h:qex n x a b st=some r):kB st r:=by
 unfold qex at h;repeat' (split at h)
 all_goals first|exact kw h|cases h
theorem quH {n x a b m} (h:qet n x a b m st=some r):kB st r:=by
 unfold qet at h;repeat' (split at h)
 all_goals first|exact kw h|cases h
theorem quV {n x a b} (h:qd0 n x a b st=some r):kB st r:=by
 unfold qd0 at h;repeat' (split at h)
 all_goals first|exact kw h|cases h
theorem qpt {x o l} (h:qU x o l st=some r):kB st r:=by
 unfold qU at h;repeat' (split at h)
 all_goals first|exact kw h|cases h
theorem qyr {x o l} (h:qe3 x o l st=some r):kB st r:=by
 unfold qe3 at h;repeat' (split at h)
 all_goals first|exact kw h|cases h
theorem qpq {x i n arr} (h:qV x i n arr st=some r):kB st r:=by
 unfold qV jn zM at h
 simp only [qOx] at h
 repeat' (split at h)
 all_goals first|exact kw h|cases h
theorem qyo {x i} (h:qe9 x i st=some r):kB st r:=by
 unfold qe9 at h
 simp only [qOx] at h
 repeat' (split at h)
 all_goals first|exact kw h|cases h
theorem qu6 {kk z m k c} (h:zH kk z m k c st=some r):kB st r:=by
 unfold zH at h;repeat' (split at h)
 all_goals first|exact kw h|cases h
theorem qsF {x i} (h:yi x i st=some r):kB st r:=by
 unfold yi at h;repeat' (split at h)
 all_goals first|exact kw h|cases h
theorem qLT {b l} (h:eBi b l st=some r):kB st r:=by
 unfold eBi qkb qcZ qol yE at h;repeat' (split at h)
 all_goals first|exact kw h|exact qBF h|cases h
theorem qCw {sl l a x} (h:yS sl l a x st=some r):LoOk st r.st/\(sl.isSome=true->kB st r):=by
 unfold yS at h
 cases hs:qE sl (rd st.env a) with
 | false=>simp [hs] at h
 | true=>
  simp only [hs,Bool.not_true,cond_false] at h
  split at h
  ·rename_i st' hst
   have hst0:r.st=st':=by
    split at h<;>simp only [ok,okH,Option.some.injEq] at h<;>subst h<;>rfl
   have hsame:sl.isSome=true->r.same=true:=by
    intro hsl
    cases sl with
    | none=>cases hsl
    | some n=>simp only [ok,Option.some.injEq] at h;subst h;rfl
   rw [hst0]
   unfold yy at hst
   split at hst
   ·repeat' (split at hst)
    all_goals first|(simp only [Option.some.injEq] at hst;subst hst;exact ⟨.same rfl rfl,fun hh=>⟨by rw [hst0],by rw [hst0],hsame hh⟩⟩)|cases hst
   ·rename_i hv
    have hsl:sl.isSome=true->False:=by
     intro hh
     cases sl with
     | none=>cases hh
     | some n=>rw [hv] at hs;simp [qE] at hs
    repeat' (split at hst)
    all_goals first|(simp only [Option.some.injEq] at hst;subst hst;exact ⟨.set _ _ _ _,fun hh=>(hsl hh).elim⟩)|cases hst
   ·cases hst
  ·cases h
theorem qD7 {mv sl l a} (h:zB mv sl l a st=some r):LoOk st r.st/\((!mv || sl.isSome)=true->kB st r):=by
 unfold zB at h
 cases hs:qE sl (rd st.env a) with
 | false=>simp [hs] at h
 | true=>
  simp only [hs,Bool.not_true,cond_false] at h
  cases mv with
  | false=>
   simp only [cond_false] at h
   split at h
   ·have:=kw h
    exact ⟨.same this.1 this.2.1,fun _=>this⟩
   ·cases h
  | true=>
   simp only [cond_true] at h
   cases hl:l.agg with
   | true=>simp [hl] at h
   | false=>
    simp only [hl,cond_false] at h
    split at h
    ·rename_i v st' hst
     have hst0:r.st=st':=by
      split at h<;>simp only [ok,okH,Option.some.injEq] at h<;>subst h<;>rfl
     have hsame:sl.isSome=true->r.same=true:=by
      intro hsl
      cases sl with
      | none=>cases hsl
      | some n=>simp only [ok,Option.some.injEq] at h;subst h;rfl
     rw [hst0]
     unfold qm5 at hst
     split at hst
     ·repeat' (split at hst)
      all_goals first|(simp only [Option.some.injEq,Prod.mk.injEq] at hst;obtain ⟨_,rfl⟩:=hst;exact ⟨.same rfl rfl,fun hh=>⟨by rw [hst0],by rw [hst0],hsame (by simpa using hh)⟩⟩)|cases hst
     ·rename_i hv
      have hsl:sl.isSome=true->False:=by
       intro hh
       cases sl with
       | none=>cases hh
       | some n=>rw [hv] at hs;simp [qE] at hs
      repeat' (split at hst)
      all_goals first|(simp only [Option.some.injEq,Prod.mk.injEq] at hst;obtain ⟨_,rfl⟩:=hst;exact ⟨.set _ _ _ _,fun hh=>(hsl (by simpa using hh)).elim⟩)|cases hst
     ·cases hst
    ·cases h
theorem qCX {loc z} (h:qe7 loc z st=some r):LoOk st r.st/\(loc=true->kB st r):=by
 unfold qe7 at h
 cases loc with
 | true=>have:=kw (by simpa using h);exact ⟨.same this.1 this.2.1,fun _=>this⟩
 | false=>simp only [cond_false,okH,Option.some.injEq] at h;subst h;exact ⟨.push _ _ _,fun h=>by cases h⟩
theorem qGy {loc x} (h:qrP loc x st=some r):LoOk st r.st/\(loc=true->kB st r):=by
 unfold qrP at h
 simp only at h
 split at h
 ·cases h
 ·cases loc with
  | true=>have:=qBF (by simpa using h);exact ⟨.same this.1 this.2.1,fun _=>this⟩
  | false=>
   simp only [cond_false] at h
   split at h
   ·simp only [okH,Option.some.injEq] at h;subst h;exact ⟨.push _ _ _,fun h=>by cases h⟩
   ·cases h
theorem qCE (h:qkI st=some r):LoOk st r.st:=by
 simp only [qkI,okH,Option.some.injEq] at h;subst h;exact .push _ _ _
theorem qwE {z a b} (h:qbs z a b st=some r):LoOk st r.st:=by
 unfold qbs at h;repeat' (split at h)
 all_goals first|(simp only [okH,Option.some.injEq] at h;subst h;exact .push _ _ _)|cases h
theorem quL {z n p} (h:yI z n p st=some r):LoOk st r.st:=by
 unfold yI at h;repeat' (split at h)
 all_goals first|(simp only [okH,Option.some.injEq] at h;subst h;exact .push _ _ _)|cases h
theorem qv5 {x} (h:yH x st=some r):LoOk st r.st:=by
 unfold yH at h;repeat' (split at h)
 all_goals first|(simp only [okH,Option.some.injEq] at h;subst h;exact .push _ _ _)|cases h
theorem qrE {t z x} (h:yx t z x st=some r):kB st r:=by
 unfold yx at h;simp only [qOx] at h;repeat' (split at h)
 all_goals first|exact kw h|cases h
theorem qty {kk m k x} (h:zG kk m k x st=some r):LoOk st r.st:=by
 unfold zG at h;repeat' (split at h)
 all_goals first|(simp only at h;repeat' (split at h))|skip
 all_goals first|(simp only [okH,Option.some.injEq] at h;subst h;exact .set _ _ _ _)|cases h
theorem qyl {call:Call} (hc:qu call) {f l} (h:jc call f l st=some r):LoOk st r.st:=by
 unfold jc at h;repeat' (split at h)
 all_goals first|(simp only at h;repeat' (split at h))|skip
 all_goals first|cases h|skip
 rename_i q hq
 obtain ⟨h1,h2,_⟩:=hc _ _ _ _ hq
 exact ⟨h1,Nat.min_le_left _ _,fun id h3 h4=>h2 id (Nat.lt_of_lt_of_le h3 (Nat.min_le_right _ _)) h4⟩
theorem qBk {x} (h:qne x st=some r):LoOk st r.st:=by
 unfold qne at h
 split at h
 ·simp only [Option.some.injEq] at h;subst h;exact .refl _
 ·cases h
theorem qwq {l b x y} (h:yq l b x y st=some r):LoOk st r.st:=by
 unfold yq at h;simp only [qOx] at h;repeat' (split at h)
 all_goals first|(cases h;done)|skip
 ·exact .same (kw (st:=st) h).1 (kw (st:=st) h).2.1
 ·simp only [okH,Option.some.injEq] at h;subst h;exact .push _ _ _
 ·simp only [okH,Option.some.injEq] at h;subst h
  exact (LoOk.set st _ .dead st.env).trans (.push ⟨st.env,qQ st.H _ .dead,min st.lo _⟩ _ _)
theorem qAb {l z n p} (h:qeq l z n p st=some r):LoOk st r.st:=by
 unfold qeq at h;repeat' (split at h)
 all_goals first|(simp only [okH,Option.some.injEq] at h;subst h;exact .push _ _ _)|cases h
theorem qx0 {v:V} {e e':Env} {H:List Obj} {lo:Nat} {v':V} {H':List Obj} {lo':Nat} (h:qo9 v H lo=some (v',H',lo')):LoOk ⟨e,H,lo⟩ ⟨e',H',lo'⟩:=by
 unfold qo9 at h;simp only [qOx] at h;repeat' (split at h)
 all_goals first|(cases h;done)|skip
 ·simp only [Option.some.injEq,Prod.mk.injEq] at h
  obtain ⟨_,rfl,rfl⟩:=h
  exact LoOk.set ⟨e,H,lo⟩ _ .dead e'
 ·simp only [Option.some.injEq,Prod.mk.injEq] at h
  obtain ⟨_,rfl,rfl⟩:=h
  exact .same rfl rfl
theorem qs4:∀{l:List V} {e e':Env} {H:List Obj} {lo:Nat} {l':List V} {H':List Obj} {lo':Nat},qmh l H lo=some (l',H',lo')->LoOk ⟨e,H,lo⟩ ⟨e',H',lo'⟩
 | [],e,e',H,lo,l',H',lo',h=>by
  simp only [qmh,Option.some.injEq,Prod.mk.injEq] at h
  obtain ⟨_,rfl,rfl⟩:=h
  exact .same rfl rfl
 | v::l,e,e',H,lo,l',H',lo',h=>by
  simp only [qmh] at h
  split at h
  ·rename_i h1
   split at h
   ·rename_i h2
    simp only [Option.some.injEq,Prod.mk.injEq] at h
    obtain ⟨_,rfl,rfl⟩:=h
    exact (qx0 (e:=e) (e':=e) h1).trans (qs4 h2)
   ·cases h
  ·cases h
theorem qNO {n} (h:eFz n st=some r):LoOk st r.st:=by
 unfold eFz at h;repeat' (split at h)
 all_goals first|(cases h;done)|skip
 ·rename_i h1
  simp only [okH,Option.some.injEq] at h;subst h;exact qs4 (e:=st.env) h1
 ·rename_i h1
  simp only [okH,Option.some.injEq] at h;subst h;exact qx0 (e:=st.env) h1
 ·rename_i h1
  simp only [okH,Option.some.injEq] at h;subst h
  exact (qs4 (e:=st.env) (e':=st.env) h1).trans (.set ⟨st.env,_,_⟩ _ _ _)
 ·simp only [okH,Option.some.injEq] at h;subst h;exact .refl _
 ·simp only [okH,Option.some.injEq] at h;subst h;exact .refl _
theorem qcV {id sz len:Nat} {H:List Obj} {lo:Nat} {v':V} {H':List Obj} {lo':Nat} (h:qo9 (.row id sz len) H lo=some (v',H',lo')) :
  ∃l cs ds,H[id]?=some (.row l cs)/\jQ cs=some ds/\D.ones ds=true/\cs.length=len * sz/\l.n=sz/\0<len/\0<sz/\(l.agg=true\/sz=1)/\v'=.d (.sl (chunk l len ds))/\H'=qQ H id .dead/\lo'=min lo id:=by
 simp only [qo9] at h
 split at h
 ·rename_i l cs hob
  rw [qOx] at h
  split at h
  ·rename_i hb
   simp only [qOy,Bool.or_eq_true] at hb
   obtain ⟨b1,b2,b3,b4,b5⟩:=hb
   split at h
   ·rename_i ds hds
    rw [qOx] at h
    split at h
    ·rename_i hones
     simp only [Option.some.injEq,Prod.mk.injEq] at h
     obtain ⟨rfl,rfl,rfl⟩:=h
     exact ⟨l,cs,ds,hob,hds,hones,qOz b2,qOz b1,by have:=qOH b3;omega,by have:=qOH b4;omega,b5.imp (fun h=>h) qOz,rfl,rfl,rfl⟩
    ·cases h
   ·cases h
  ·cases h
 ·cases h
theorem qAG {n} (h:qll n st=some r):kB st r:=by
 unfold qll at h;repeat' (split at h)
 all_goals first|exact qBF h|cases h
theorem qCR {x y} (h:qjN x y st=some r):LoOk st r.st:=by
 unfold qjN at h;repeat' (split at h)
 all_goals first|(cases h;done)|(simp only [okH,Option.some.injEq] at h;subst h;exact .set _ _ _ _)|exact .same (kw (st:=st) h).1 (kw (st:=st) h).2.1
theorem qBn {x} (h:qom x st=some r):kB st r:=by
 unfold qom at h;repeat' (split at h)
 all_goals first|exact kw h|cases h
theorem qBl {x} (h:qnr x st=some r):kB st r:=by
 unfold qnr at h;repeat' (split at h)
 all_goals first|exact kw h|cases h
theorem qzx {l b z x n} (h:qd7 l b z x n st=some r):LoOk st r.st:=by
 unfold qd7 at h;repeat' (split at h)
 all_goals first|(simp only [okH,Option.some.injEq] at h;subst h;exact .push _ _ _)|cases h
theorem qzU {x} (h:qej x st=some r):LoOk st r.st:=by
 unfold qej at h;repeat' (split at h)
 all_goals first|(simp only [okH,Option.some.injEq] at h;subst h;exact .push _ _ _)|cases h
theorem qAo {x n} (h:qcx x n st=some r):LoOk st r.st:=by
 unfold qcx at h;repeat' (split at h)
 all_goals first|(simp only [okH,Option.some.injEq] at h;subst h;exact (LoOk.set st _ .dead st.env).trans (.push ⟨st.env,qQ st.H _ .dead,min st.lo _⟩ _ _))|cases h
theorem qDU {x} (h:qnT x st=some r):LoOk st r.st:=by
 unfold qnT at h;split at h
 ·split at h
  ·rename_i hf
   obtain ⟨l,cs,ds,h1,_,_,_,_,_,_,_,rfl,rfl,rfl⟩:=qcV hf
   simp only [okH,Option.some.injEq] at h;subst h
   exact LoOk.set st _ .dead st.env
  ·cases h
 ·cases h
theorem qDe {x} (h:qnt x st=some r):LoOk st r.st:=by
 unfold qnt at h;split at h
 ·split at h
  ·rename_i hf
   obtain ⟨l,cs,ds,h1,_,_,_,_,_,_,_,e,rfl,rfl⟩:=qcV hf
   simp only [okH,Option.some.injEq] at h;subst h
   exact LoOk.set st _ .dead st.env
  ·cases h
 ·cases h
theorem qyW {z x} (h:qd4 z x st=some r):LoOk st r.st:=by
 unfold qd4 at h;repeat' (split at h)
 all_goals first|(simp only [okH,Option.some.injEq] at h;subst h;exact LoOk.set st _ _ st.env)|exact .same (kw h).1 (kw h).2.1|cases h
theorem qsf {l b x y} (h:qbA l b x y st=some r):kB st r:=by
 unfold qbA yE at h;repeat' (split at h)
 all_goals first|exact kw h|exact qBF h|cases h
theorem qx8 {call:Call} {f l} (h:qfA call f l st=some r):kB st r:=by
 unfold qfA at h;repeat' (split at h)
 all_goals first|exact kw h|cases h
theorem qeL {call:Call} {f l c} (h:qnc call f l c st=some r):jc call f l st=some r/\(r.pan || qvi c st.env r.st.H)=true:=by
 unfold qnc at h
 split at h
 ·rename_i q hq
  rw [qOx] at h
  split at h
  ·rename_i hb
   simp only [Option.some.injEq] at h;subst h
   exact ⟨hq,hb⟩
  ·cases h
 ·cases h
theorem qqr {call:Call} {f l c} (h1:jc call f l st=some r) (h2:(r.pan || qvi c st.env r.st.H)=true):qnc call f l c st=some r:=by
 unfold qnc
 simp only [h1,h2]
 rfl
theorem qB {v:V} {st':St} (h:ok v st'=some r):r.pan=false:=by simp only [ok,Option.some.injEq] at h;subst h;rfl
theorem zp {v:V} {st':St} (h:okH v st'=some r):r.pan=false:=by simp only [okH,Option.some.injEq] at h;subst h;rfl
def OpK.mayPan:OpK->Bool
 | .call _ _ | .callC _ _ _ | .panic _=>true
 | _=>false
theorem qst {call:Call} {k:OpK} (h:qa call k st=some r) (hk:k.mayPan=false):r.pan=false:=by
 cases k<;>simp only [qa] at h
 case call|callC|panic=>cases hk
 all_goals first
  | exact qB h
  | exact zp h
  | skip
 case pick=>unfold qfK at h;(repeat' (split at h));all_goals first|exact qB h|cases h
 case alloc=>unfold qe7 at h;rw [qOx] at h;split at h<;>first|exact qB h|exact zp h
 case box=>unfold qrP at h;simp only [qOx] at h;(repeat' (split at h));all_goals first|exact qB h|exact zp h|cases h
 case build=>unfold qcp at h;simp only [qOx] at h;(repeat' (split at h));all_goals first|exact qB h|cases h
 case buildSlice=>unfold qX at h;(repeat' (split at h));all_goals first|exact qB h|cases h
 case buildV=>unfold qcz at h;simp only [qOx] at h;(repeat' (split at h));all_goals first|exact qB h|cases h
 case buildFull=>unfold jA at h;(repeat' (split at h));all_goals first|exact qB h|cases h
 case load=>unfold zB at h;simp only [qOx] at h;(repeat' (split at h));all_goals first|exact qB h|exact zp h|cases h
 case loadC=>unfold qfw at h;(repeat' (split at h));all_goals first|exact qB h|cases h
 case store=>unfold yS at h;simp only [qOx] at h;(repeat' (split at h));all_goals first|exact qB h|exact zp h|cases h
 case nilCheck=>unfold kS at h;(repeat' (split at h));all_goals first|exact qB h|cases h
 case bin=>unfold qoZ at h;(repeat' (split at h));all_goals first|exact qB h|cases h
 case un=>unfold eUn at h;(repeat' (split at h));all_goals first|exact qB h|cases h
 case conv=>unfold qiR at h;(repeat' (split at h));all_goals first|exact qB h|cases h
 case bytes=>unfold qjh at h;(repeat' (split at h));all_goals first|exact qB h|cases h
 case text=>unfold qnW at h;simp only [qOx] at h;(repeat' (split at h));all_goals first|exact qB h|cases h
 case movS=>unfold qoo at h;(repeat' (split at h));all_goals first|exact qB h|cases h
 case mkIfc=>unfold qje at h;(repeat' (split at h));all_goals first|exact qB h|cases h
 case mkFn=>unfold qmC at h;(repeat' (split at h));all_goals first|exact qB h|cases h
 case mkSlice=>unfold qbs at h;(repeat' (split at h));all_goals first|exact zp h|cases h
 case bytesRow=>unfold yH at h;(repeat' (split at h));all_goals first|exact zp h|cases h
 case buildRow=>unfold yI at h;(repeat' (split at h));all_goals first|exact zp h|cases h
 case assertOk=>unfold yx at h;simp only [qOx] at h;(repeat' (split at h));all_goals first|exact qB h|cases h
 case sliceS=>unfold jq at h;(repeat' (split at h));all_goals first|exact qB h|cases h
 case sliceL=>unfold qd0 at h;(repeat' (split at h));all_goals first|exact qB h|cases h
 case sliceA=>unfold qex at h;(repeat' (split at h));all_goals first|exact qB h|cases h
 case sliceM=>unfold qet at h;(repeat' (split at h));all_goals first|exact qB h|cases h
 case stuck=>cases h
 case fieldAddr=>unfold qU at h;(repeat' (split at h));all_goals first|exact qB h|cases h
 case field=>unfold qe3 at h;(repeat' (split at h));all_goals first|exact qB h|cases h
 case indexAddr=>unfold qV jn zM at h;simp only [qOx] at h;(repeat' (split at h));all_goals first|exact qB h|cases h
 case index=>unfold qe9 at h;simp only [qOx] at h;(repeat' (split at h));all_goals first|exact qB h|cases h
 case lookup=>unfold zH at h;(repeat' (split at h));all_goals first|exact qB h|cases h
 case mapUpdate=>
  unfold zG at h;repeat' (split at h)
  all_goals first|(simp only at h;repeat' (split at h))|skip
  all_goals first|exact zp h|cases h
 case extract=>unfold yi at h;(repeat' (split at h));all_goals first|exact qB h|cases h
 case bi=>unfold eBi qkb qcZ qol yE at h;(repeat' (split at h));all_goals first|exact qB h|cases h
 case appendR=>unfold yq at h;simp only [qOx] at h;(repeat' (split at h));all_goals first|exact qB h|exact zp h|cases h
 case buildR=>unfold qeq at h;(repeat' (split at h));all_goals first|exact zp h|cases h
 case fz=>unfold eFz at h;(repeat' (split at h));all_goals first|exact zp h|cases h
 case capN=>unfold qom at h;(repeat' (split at h));all_goals first|exact qB h|cases h
 case movO=>unfold qll at h;(repeat' (split at h));all_goals first|exact qB h|cases h
 case copyR=>unfold qjN at h;(repeat' (split at h));all_goals first|exact qB h|exact zp h|cases h
 case cvtO=>unfold qnt at h;(repeat' (split at h));all_goals first|exact zp h|cases h
 case next=>unfold qnr at h;(repeat' (split at h));all_goals first|exact qB h|cases h
 case zerosR=>unfold qd7 at h;(repeat' (split at h));all_goals first|exact zp h|cases h
 case cvtR=>unfold qnT at h;(repeat' (split at h));all_goals first|exact zp h|cases h
 case clearS=>unfold qd4 at h;(repeat' (split at h));all_goals first|exact zp h|exact qB h|cases h
 case appendC=>unfold qbA yE at h;(repeat' (split at h));all_goals first|exact qB h|cases h
 case callQ=>unfold qfA at h;(repeat' (split at h));all_goals first|exact qB h|cases h
 case truncR=>unfold qcx at h;(repeat' (split at h));all_goals first|exact zp h|cases h
 case rangeM=>unfold qej at h;(repeat' (split at h));all_goals first|exact zp h|cases h
theorem qvb {call:Call} (hc:qu call) {k:OpK} (h:qa call k st=some r):LoOk st r.st:=by
 cases k<;>simp only [qa] at h
 case mov=>exact .same (qFd h).1 (qFd h).2.1
 case pick=>exact .same (qC3 h).1 (qC3 h).2.1
 case alloc=>exact (qCX h).1
 case box=>exact (qGy h).1
 case build=>exact .same (qyJ h).1 (qyJ h).2.1
 case buildSlice=>exact .same (qnN h).1 (qnN h).2.1
 case buildV=>exact .same (qve h).1 (qve h).2.1
 case buildFull=>exact .same (qpA h).1 (qpA h).2.1
 case load=>exact (qD7 h).1
 case loadC=>exact .same (qym h).1 (qym h).2.1
 case store=>exact (qCw h).1
 case nilCheck=>exact .same (qql h).1 (qql h).2.1
 case bin=>exact .same (qFk h).1 (qFk h).2.1
 case un=>exact .same (qLS h).1 (qLS h).2.1
 case conv=>exact .same (qAQ h).1 (qAQ h).2.1
 case bytes=>exact .same (qx4 h).1 (qx4 h).2.1
 case text=>exact .same (qCF h).1 (qCF h).2.1
 case movS=>exact .same (qCP h).1 (qCP h).2.1
 case mkIfc=>exact .same (qyN h).1 (qyN h).2.1
 case mkFn=>exact .same (qAX h).1 (qAX h).2.1
 case mkMap=>exact qCE h
 case mkSlice=>exact qwE h
 case bytesRow=>exact qv5 h
 case buildRow=>exact quL h
 case assertOk=>exact .same (qrE h).1 (qrE h).2.1
 case sliceS=>exact .same (quW h).1 (quW h).2.1
 case sliceL=>exact .same (quV h).1 (quV h).2.1
 case sliceA=>exact .same (qvA h).1 (qvA h).2.1
 case sliceM=>exact .same (quH h).1 (quH h).2.1
 case stuck=>cases h
 case fieldAddr=>exact .same (qpt h).1 (qpt h).2.1
 case field=>exact .same (qyr h).1 (qyr h).2.1
 case indexAddr=>exact .same (qpq h).1 (qpq h).2.1
 case index=>exact .same (qyo h).1 (qyo h).2.1
 case lookup=>exact .same (qu6 h).1 (qu6 h).2.1
 case mapUpdate=>exact qty h
 case extract=>exact .same (qsF h).1 (qsF h).2.1
 case bi=>exact .same (qLT h).1 (qLT h).2.1
 case call=>exact qyl hc h
 case panic=>exact qBk h
 case appendR=>exact qwq h
 case buildR=>exact qAb h
 case fz=>exact qNO h
 case capN=>exact .same (qBn h).1 (qBn h).2.1
 case movO=>exact .same (qAG h).1 (qAG h).2.1
 case copyR=>exact qCR h
 case cvtO=>exact qDe h
 case next=>exact .same (qBl h).1 (qBl h).2.1
 case zerosR=>exact qzx h
 case clearS=>exact qyW h
 case callC=>exact qyl hc (qeL h).1
 case appendC=>exact .same (qsf h).1 (qsf h).2.1
 case callQ=>exact .same (qx8 h).1 (qx8 h).2.1
 case truncR=>exact qAo h
 case cvtR=>exact qDU h
 case rangeM=>exact qzU h
theorem qxH {st st':St} (h:LoOk st st') (dst:Option Nat) (v:V):LoOk st (put dst v st'):=by
 cases dst with
 | none=>exact h
 | some n=>exact h.env _
theorem qo7 {call:Call} (hc:qu call):∀(l:List Op) {st:St} {ex:Ex} {st':St},qk call l st=some (ex,st')->LoOk st st'
 | [],st,ex,st',h=>by simp only [qk,Option.some.injEq,Prod.mk.injEq] at h;rw [<- h.2];exact .refl _
 | o::l,st,ex,st',h=>by
  simp only [qk] at h
  split at h
  ·split at h
   ·rename_i r hr
    have h1:=qvb hc hr
    cases hp:r.pan with
    | true=>simp only [hp,cond_true,Option.some.injEq,Prod.mk.injEq] at h;rw [<- h.2];exact h1
    | false=>simp only [hp,cond_false] at h;exact (qxH h1 _ _).trans (qo7 hc l h)
   ·cases h
  ·exact (qxH (.refl _) _ _).trans (qo7 hc l h)
  ·cases h
theorem qDr {bx no dst v} {st st1 st':St} (h:LoOk st st1) (hp:jC bx no dst v st1=some st'):LoOk st st':=by
 unfold jC at hp
 simp only [qOx] at hp
 repeat' (split at hp)
 all_goals first|(simp only [Option.some.injEq] at hp;subst hp;first|exact h.env _|exact h)|cases hp
theorem qng {call:Call} (hc:qu call):∀(l:List (Op × Bool × List Nat)) {st:St} {ex:Ex} {st':St},qx call l st=some (ex,st')->LoOk st st'
 | [],st,ex,st',h=>by simp only [qx,Option.some.injEq,Prod.mk.injEq] at h;rw [<- h.2];exact .refl _
 | (o,s,no)::l,st,ex,st',h=>by
  simp only [qx] at h
  split at h
  ·split at h
   ·rename_i r hr
    have h1:=qvb hc hr
    rw [qOx] at h
    split at h
    ·unfold qza at h
     rw [qOx] at h
     split at h
     ·simp only [Option.some.injEq,Prod.mk.injEq] at h;rw [<- h.2];exact h1.env _
     ·cases h
    ·split at h
     ·rename_i st1 hst1
      exact (qDr h1 hst1).trans (qng hc l h)
     ·cases h
   ·cases h
  ·exact (qxH (.refl _) _ _).trans (qng hc l h)
  ·cases h
theorem qjo {ra rb:St->Option (Ex × St)} {l:L} {c:V} {p0 p1:Nat} {base:Env} {i:Nat} {H:List Obj} {lo:Nat} {x:Ex × St} (h:rounds ra rb l c p0 p1 base (i+1) H lo=some x) :
  ∃v st1,qwF l c i H lo=some v/\v.ok=true/\ra ⟨(p1,v)::(p0,.d (.i .i64 i))::base,H,lo⟩=some (.nrm,st1)/\
   ((∃st2,rb st1=some (.nrm,st2)/\rounds ra rb l c p0 p1 base i st2.H st2.lo=some x)\/(∃e st2,rb st1=some (e,st2)/\(e=.ret\/∃j,e=.exit j)/\x=(e,⟨base,st2.H,st2.lo⟩))):=by
 simp only [rounds] at h
 split at h
 ·rename_i v hv
  rw [qOx] at h
  split at h
  ·rename_i hok
   split at h
   ·rename_i st1 h1
    refine ⟨v,st1,hv,hok,h1,?_⟩
    split at h
    ·rename_i st2 h2;exact .inl ⟨st2,h2,h⟩
    ·rename_i j st2 h2;simp only [Option.some.injEq] at h;exact .inr ⟨_,st2,h2,.inr ⟨j,rfl⟩,h.symm⟩
    ·rename_i st2 h2;simp only [Option.some.injEq] at h;exact .inr ⟨_,st2,h2,.inl rfl,h.symm⟩
    ·cases h
   ·cases h
  ·cases h
 ·cases h
theorem qq4 {call:Call} {ex:C->St->Option (Ex × St)} {k:Nat} {l:L} {f:O} {p0 p1:Nat} {live:List Nat} {a b:C} {st:St} {x:Ex × St} (h:step call ex (.rangeB k l f p0 p1 live a b) st=some x) :
  ∃c n,rd st.env f=.fn k [] [c]/\c.ok=true/\qa0 c st.H st.lo=some n/\rounds (ex a) (ex b) l c p0 p1 (jK live st.env) n st.H st.lo=some x:=by
 simp only [step] at h
 split at h
 ·rename_i k' c hf
  rw [qOx] at h
  split at h
  ·rename_i hk
   simp only [qOy] at hk
   have:=qOz hk.1
   subst this
   split at h
   ·rename_i n hn;exact ⟨c,n,hf,hk.2,hn,h⟩
   ·cases h
  ·cases h
 ·cases h
theorem qjI {call:Call} {ex:C->St->Option (Ex × St)} {k:Nat} {f:O} {live:List Nat} {st:St} {x:Ex × St} (h:step call ex (.rangeZ k f live) st=some x) :
  ∃cap r,rd st.env f=.fn k [] cap/\V.ok.oks cap=true/\call k (.undef::cap) st.H=some r/\r.pan=false/\x=(.nrm,⟨restrict live st.env,r.H,min st.lo r.lo⟩):=by
 simp only [step] at h
 split at h
 ·rename_i k' cap hf
  rw [qOx] at h
  split at h
  ·rename_i hk
   simp only [qOy] at hk
   have:=qOz hk.1
   subst this
   split at h
   ·rename_i r hr
    rw [qOx] at h
    split at h
    ·cases h
    ·rename_i hp
     simp only [Option.some.injEq] at h
     exact ⟨cap,r,hf,hk.2,hr,by simpa using hp,h.symm⟩
   ·cases h
  ·cases h
 ·cases h
theorem qf0 {pg:Pg} {ex:C->St->Option (Ex × St)} {fn:Fn} {H:List Obj} {h:Nat} {vs:List V} {v:V} {st:St} {r:Cr} (hh:handle pg ex fn H h vs v st=some r) :
  ∃hf d st',pg.fn h=some hf/\hf.rcv=some d/\hf.np=vs.length/\hf.res=[]/\(ex hf.body ⟨(d,v)::kf 0 vs,st.H,st.lo⟩=some (.nrm,st')\/ex hf.body ⟨(d,v)::kf 0 vs,st.H,st.lo⟩=some (.ret,st'))/\zL fn H ⟨st.env,st'.H,st'.lo⟩=some r:=by
 unfold handle at hh
 split at hh
 ·rename_i hf hhf
  split at hh
  ·rename_i d hd
   rw [qOx] at hh
   split at hh
   ·rename_i hn
    simp only [qOy,List.isEmpty_iff] at hn
    split at hh
    ·rename_i st' hs;exact ⟨hf,d,st',hhf,hd,qOz hn.1,hn.2,.inl hs,hh⟩
    ·rename_i st' hs;exact ⟨hf,d,st',hhf,hd,qOz hn.1,hn.2,.inr hs,hh⟩
    ·cases hh
   ·cases hh
  ·cases hh
 ·cases hh
theorem qby {pg:Pg} {ex:C->St->Option (Ex × St)} {fn:Fn} {H:List Obj} {t:Nat} {rest:C} {st:St} {r:Cr} (hh:deferred pg ex fn H t rest st=some r) :
  ∃h first cap e st' v,get t st.env=.fn h first cap/\V.ok.oks (first++cap)=true/\ex rest st=some (e,st')/\handle pg ex fn H h (first++cap) v st'=some r/\
   (((e=.nrm\/e=.ret)/\v=.d .ni)\/(e=.pan v/\qFo v=true)):=by
 unfold deferred at hh
 split at hh
 ·rename_i h first cap hg
  rw [qOx] at hh
  split at hh
  ·rename_i hok
   split at hh
   ·rename_i st' hr;exact ⟨h,first,cap,_,st',_,hg,hok,hr,hh,.inl ⟨.inl rfl,rfl⟩⟩
   ·rename_i st' hr;exact ⟨h,first,cap,_,st',_,hg,hok,hr,hh,.inl ⟨.inr rfl,rfl⟩⟩
   ·rename_i v st' hr
    rw [qOx] at hh
    split at hh
    ·rename_i hi;exact ⟨h,first,cap,_,st',v,hg,hok,hr,hh,.inr ⟨rfl,hi⟩⟩
    ·cases hh
   ·cases hh
  ·cases hh
 ·cases hh
theorem qpz {fn:Fn} {H:List Obj} {st:St} {r:Cr} (h:zL fn H st=some r):∃vs,qM fn.own st fn.res=some vs/\leave H false (qlN vs) st=some r:=by
 unfold zL at h
 split at h
 ·rename_i vs hv;exact ⟨vs,hv,h⟩
 ·cases h
theorem qrZ {ra rb:St->Option (Ex × St)} (ha:∀st e st',ra st=some (e,st')->LoOk st st') (hb:∀st e st',rb st=some (e,st')->LoOk st st') {l:L} {c:V} {p0 p1:Nat} {base:Env}:∀(i:Nat) {e0:Env} {H:List Obj} {lo:Nat} {x:Ex × St},rounds ra rb l c p0 p1 base i H lo=some x->LoOk ⟨e0,H,lo⟩ x.2
 | 0,e0,H,lo,x,h=>by simp only [rounds,Option.some.injEq] at h;subst h;exact .same rfl rfl
 | i+1,e0,H,lo,x,h=>by
  obtain ⟨v,st1,hv,hok,h1,h2⟩:=qjo h
  have k0:LoOk ⟨e0,H,lo⟩ ⟨(p1,v)::(p0,.d (.i .i64 i))::base,H,lo⟩:=.same rfl rfl
  rcases h2 with ⟨st2,h2,h3⟩|⟨e,st2,h2,_,rfl⟩
  ·exact k0.trans ((ha _ _ _ h1).trans ((hb _ _ _ h2).trans (qrZ ha hb i (e0:=st2.env) h3)))
  ·exact k0.trans ((ha _ _ _ h1).trans ((hb _ _ _ h2).env _))
theorem qEJ {call:Call} (hc:qu call) {ex:C->St->Option (Ex × St)} (he:∀c st e st',ex c st=some (e,st')->LoOk st st') {c:C} {st:St} {e:Ex} {st':St} (h:step call ex c st=some (e,st')):LoOk st st':=by
 cases c with
 | skip=>simp only [step,Option.some.injEq,Prod.mk.injEq] at h;rw [<- h.2];exact .refl _
 | ops l=>exact qo7 hc l h
 | opsD l=>exact qng hc l h
 | seq a b=>
  simp only [step] at h
  split at h
  ·rename_i st1 h1;exact (he _ _ _ _ h1).trans (he _ _ _ _ h)
  ·exact he _ _ _ _ h
 | cond o a b=>
  simp only [step] at h
  split at h
  ·exact he _ _ _ _ h
  ·exact he _ _ _ _ h
  ·cases h
 | block id live a=>
  simp only [step] at h
  split at h
  ·rename_i st1 h1
   simp only [Option.some.injEq,Prod.mk.injEq] at h
   rw [<- h.2];exact (he _ _ _ _ h1).env _
  ·rename_i j st1 h1
   rw [qOx] at h
   split at h
   ·simp only [Option.some.injEq,Prod.mk.injEq] at h
    rw [<- h.2];exact (he _ _ _ _ h1).env _
   ·simp only [Option.some.injEq,Prod.mk.injEq] at h
    rw [<- h.2];exact he _ _ _ _ h1
  ·exact he _ _ _ _ h
 | loop live a=>
  simp only [step] at h
  have h0:LoOk st {st with env:=restrict live st.env}:=.same rfl rfl
  split at h
  ·rename_i st1 h1;exact h0.trans ((he _ _ _ _ h1).trans (he _ _ _ _ h))
  ·exact h0.trans (he _ _ _ _ h)
 | exit id=>simp only [step,Option.some.injEq,Prod.mk.injEq] at h;rw [<- h.2];exact .refl _
 | ret=>simp only [step,Option.some.injEq,Prod.mk.injEq] at h;rw [<- h.2];exact .refl _
 | stuck=>cases h
 | rangeB k l f p0 p1 live a b=>
  obtain ⟨c,n,_,_,_,hr⟩:=qq4 h
  exact qrZ (he a) (he b) n hr
 | rangeZ k f live=>
  obtain ⟨cap,r,_,_,hr,_,h1⟩:=qjI h
  obtain ⟨k1,k2,_⟩:=hc _ _ _ _ hr
  cases h1
  exact ⟨k1,Nat.min_le_left _ _,fun id h3 h4=>k2 id (Nat.lt_of_lt_of_le h3 (Nat.min_le_right _ _)) h4⟩
theorem qvW {H:List Obj} {pan:Bool} {v:V} {st:St} {r:Cr} (h0:LoOk {env:=[],H:=H,lo:=H.length} st) (h:leave H pan v st=some r) :
  H.length<=r.H.length/\(∀id,id<r.lo->id<H.length->r.H[id]?=H[id]?)/\(r.same=true->r.H=H):=by
 unfold leave at h
 simp only [qOx] at h
 repeat' (split at h)
 ·simp only [Option.some.injEq] at h;subst h;exact ⟨qOB _,fun _ _ _=>rfl,fun _=>rfl⟩
 ·simp only [Option.some.injEq] at h;subst h;exact ⟨h0.len,h0.old,fun h=>by cases h⟩
 ·cases h
theorem qnm {fn:Fn} {H:List Obj} {st:St} {r:Cr} (h0:LoOk {env:=[],H:=H,lo:=H.length} st) (h:zL fn H st=some r) :
  H.length<=r.H.length/\(∀id,id<r.lo->id<H.length->r.H[id]?=H[id]?)/\(r.same=true->r.H=H):=by
 obtain ⟨vs,_,h⟩:=qpz h
 exact qvW h0 h
theorem ye {pg:Pg} (hx:qu pg.ext) {ex:C->St->Option (Ex × St)} (he:∀c st e st',ex c st=some (e,st')->LoOk st st'):qu (qm pg ex):=by
 intro i vs H r h
 unfold qm at h
 split at h
 ·exact hx _ _ _ _ h
 ·rename_i fn hfn
  split at h
  ·have key:∀{e st},ex fn.body {env:=kf 0 vs,H,lo:=H.length}=some (e,st)->LoOk {env:=[],H:=H,lo:=H.length} st:=fun h1=>by
    have:=he _ _ _ _ h1
    exact ⟨this.len,this.lo,this.old⟩
   split at h
   ·rename_i st h1
    split at h
    ·exact qnm (key h1) h
    ·rename_i t rest hd
     obtain ⟨hi,first,cap,e,st',v,_,_,k1,k2,_⟩:=qby h
     obtain ⟨hf,d,st2,_,_,_,_,k3,k4⟩:=qf0 k2
     have k5:=(key h1).trans (he _ _ _ _ k1)
     have k6:LoOk {env:=[],H:=H,lo:=H.length} st2:=by
      have k0:LoOk st' ⟨(d,v)::kf 0 (first++cap),st'.H,st'.lo⟩:=.same rfl rfl
      rcases k3 with k3|k3<;>exact k5.trans (k0.trans (he _ _ _ _ k3))
     exact qnm (k6.env _) k4
   ·rename_i st h1
    exact qnm (key h1) h
   ·rename_i v st h1;exact qvW (key h1) h
   ·cases h
  ·cases h
theorem qav {pg:Pg} (hx:qu pg.ext):∀(n:Nat) (c:C) (st:St) (e:Ex) (st':St),exec pg n c st=some (e,st')->LoOk st st'
 | 0,c,st,e,st',h=>by simp [exec] at h
 | n+1,c,st,e,st',h=>qEJ (ye hx (qav hx n)) (qav hx n) h
end W
/-
  Rows become data.
-/
namespace W
open Go (World Value Addr IntKind Program TypeId FuncId Operand Act Oper Next Result Sem BinOp UnOp)
section
variable {P:Program} {M:Maps} {g:Gh} {w:World} {β:Nat->Nat} {st:St} {o:Oper} {a:Act}
theorem qfv {l:L} (hn:0<l.n) (ha:l.agg=true\/l.n=1):∀(n:Nat) {ds:List D},ds.length=n * l.n->D.ones ds=true->(chunk l n ds).flatMap D.cells=ds/\(∀x ∈ chunk l n ds,x.cells.length=l.n)/\(chunk l n ds).length=n
 | 0,ds,h,_=>by
  have:ds=[]:=List.eq_nil_of_length_eq_zero (by simpa using h)
  subst this
  exact ⟨rfl,by simp [chunk],rfl⟩
 | n+1,ds,h,h1=>by
  have hm:(n+1) * l.n=n * l.n+l.n:=Nat.succ_mul _ _
  have hones:∀(k:Nat) (ds:List D),D.ones ds=true->D.ones (ds.drop k)=true:=by
   intro k
   induction k with
   | zero=>intro ds h;exact h
   | succ k ih=>intro ds h;cases ds with
    | nil=>rfl
    | cons x l=>simp only [D.ones,qOy] at h;exact ih l h.2
  obtain ⟨i1,i2,i3⟩:=qfv hn ha n (ds:=ds.drop l.n) (by rw [List.length_drop];omega) (hones _ _ h1)
  have hc:D.cells (bif l.agg then .agg (ds.take l.n) else ds.headD .nil)=ds.take l.n/\(ds.take l.n).length=l.n:=by
   refine ⟨?_,by rw [List.length_take];omega⟩
   cases hb:l.agg with
   | true=>rfl
   | false=>
    have hn1:l.n=1:=by
     rcases ha with h|h
     ·rw [hb] at h;cases h
     ·exact h
    cases ds with
    | nil=>simp at h;omega
    | cons x r=>
     simp only [D.ones,qOy] at h1
     simp only [cond_false,List.headD_cons,hn1,List.take_succ_cons,List.take_zero]
     exact qeP h1.1
  refine ⟨?_,fun x hx=>?_,by simp [chunk,i3]⟩
  ·rw [chunk,List.flatMap_cons,hc.1,i1,List.take_append_drop]
  ·rw [chunk] at hx
   rcases List.mem_cons.1 hx with rfl|hx
   ·rw [hc.1];exact hc.2
   ·exact i2 x hx
def Gh.pubd (g:Gh) (b k:Nat):Gh:={n:=g.n,Φ:=g.Φ,pub:=fun x=>if x=b then k else g.pub x,own:=fun x=>if x=b then none else g.own x}
def Kept' (g:Gh) (w:World) (g':Gh) (w':World):Prop:=∀ℓ,(∀id,ℓ≠.oblk id)->Kept g w g' w' ℓ
theorem Rel.freeze' {tmps:Array Value} (hR:Rel M g w β st tmps) {id sz len:Nat} {l:L} {cs:List V} {ds:List D} (hob:st.H[id]?=some (.row l cs)) (hds:jQ cs=some ds) (hones:D.ones ds=true) (hcl:cs.length=len * sz) (hl:l.n=sz) (hlen:0<len) (hsz:0<sz) (ha:l.agg=true\/sz=1) (lo:Nat) :
  ∃g',Rel M g' w β {st with H:=qQ st.H id .dead,lo:=lo} tmps/\Evo g w g' w/\Kept' g w g' w/\(∀c,RepS M g w (.row id sz len) c->RepS M g' w (.d (.sl (chunk l len ds))) c)/\g'.own (g.φ id)=none:=by
 subst hl
 cases hR.h id _ hob with
 | row _ _ arr T hb ho hp hle hζ hr=>
 have hbl:g.φ id<w.heap.size:=(Array.getElem?_eq_some_iff.1 hb).1
 have hg:Grow g w (g.pubd (g.φ id) arr.size) w:=⟨qOB _,fun x=>by
  show g.pub x<=(if x=g.φ id then arr.size else g.pub x)
  split
  ·rename_i e;subst e;rw [hp];exact Nat.zero_le _
  ·exact qOB _,fun _ _ _=>rfl⟩
 have hk:∀ℓ,ℓ≠.oblk id->Kept g w (g.pubd (g.φ id) arr.size) w ℓ:=fun ℓ hℓ=>⟨fun x hx=>by
  have hne:x≠g.φ id:=by
   intro e;subst e
   rw [ho] at hx
   exact hℓ (Option.some.inj hx).symm
  exact ⟨by simp [Gh.pubd,hne];exact hx,rfl,by simp [Gh.pubd,hne]⟩⟩
 have hE:Evo g w (g.pubd (g.φ id) arr.size) w:=⟨hg,qOB _,fun _ _=>rfl,fun x hx hxo=>by
  have hne:x≠g.φ id:=by
   intro e;subst e;rw [ho] at hxo
   rcases hxo with h|h<;>cases h
  exact ⟨by simp [Gh.pubd,hne],rfl,by simp [Gh.pubd,hne]⟩,rfl,rfl⟩
 refine ⟨g.pubd (g.φ id) arr.size,⟨by simpa [qQ,Gh.pubd] using hR.n,fun k=>?_,fun i ob hi=>?_,fun x hx=>?_,hR.gl.mono hg⟩,hE,fun ℓ h=>hk ℓ (h id),fun c hc=>?_,by simp [Gh.pubd]⟩
 ·exact (hR.e k).mono hg (qOB _) (fun _ _=>rfl) (hk _ (by simp)) (hk _ (by simp)) (fun i=>hk _ (by simp))
 ·simp only [qQ,List.getElem?_set] at hi
  split at hi
  ·split at hi
   ·cases hi;exact .dead
   ·cases hi
  ·rename_i hne
   exact (hR.h i ob hi).mono hg (qOB _) (fun _ _=>rfl) (by rw [hR.n];exact (List.getElem?_eq_some_iff.1 hi).1) (hk _ (by simp;exact fun e=>hne e.symm)) (fun i=>hk _ (by simp))
 ·have hne:x≠g.φ id:=by omega
  have:=hR.fresh x hx
  simpa [Gh.pubd,hne] using this
 ·cases hc with
  | row _ _ _ cap hid hcap hζ2=>
  obtain ⟨vs,hvl,hrep,hcell⟩:=qaA (M:=M) (g:=g) (off:=0) (n:=cs.length) (cs:=cs) (by simpa using hds) hle (by simp) hb (fun i x v hx hv=>by
   have h:=hr i x v hx hv
   have e:zy x=x:=by cases h<;>rfl
   rw [e];exact h)
  have hdl:ds.length=len * l.n:=by rw [hrep.length,hvl,hcl]
  obtain ⟨c1,c2,c3⟩:=qfv hsz ha len hdl hones
  have hrep':RepDL (g.pubd (g.φ id) arr.size).pub w ds vs:=hrep.mono hg.pub hg.cell
  refine .d _ _ ?_
  have e:Value.slice (some ⟨g.φ id,0,none⟩) len cap=Value.slice (some ⟨g.φ id,0,none⟩) (chunk l len ds).length cap:=by rw [c3]
  show RepD _ _ _ (Value.slice (some ⟨g.φ id,0,none⟩) len cap)
  rw [e]
  refine .sl _ (g.φ id) 0 cap l.n vs (by intro e;rw [e] at c3;simp at c3;omega) c2 (by rw [c1];exact hrep') hcell ?_ (by rw [c3];exact hcap) (hrep.ones hones)
  show 0+vs.length<=(if g.φ id=g.φ id then arr.size else _)
  rw [if_pos rfl,hvl]
  omega
theorem Rel.freeze {tmps:Array Value} (hR:Rel M g w β st tmps) {id sz len:Nat} {l:L} {cs:List V} {ds:List D} (hob:st.H[id]?=some (.row l cs)) (hds:jQ cs=some ds) (hones:D.ones ds=true) (hcl:cs.length=len * sz) (hl:l.n=sz) (hlen:0<len) (hsz:0<sz) (ha:l.agg=true\/sz=1) (lo:Nat) :
  ∃g',Rel M g' w β {st with H:=qQ st.H id .dead,lo:=lo} tmps/\Evo g w g' w/\Kept' g w g' w/\∀c,RepS M g w (.row id sz len) c->RepS M g' w (.d (.sl (chunk l len ds))) c:=by
 obtain ⟨g',h1,h2,h3,h4,_⟩:=hR.freeze' hob hds hones hcl hl hlen hsz ha lo
 exact ⟨g',h1,h2,h3,h4⟩
theorem Rel.reslot {tmps:Array Value} (hR:Rel M g w β st tmps) {n:Nat} {v:V} (hv:RepT M g w β n v (tmps.getD n Go.undef)):Rel M g w β {st with env:=(n,v)::st.env} tmps:=
 ⟨hR.n,fun k=>by
  show RepT M g w β k (get k ((n,v)::st.env)) _
  rw [qc]
  split
  ·rename_i e;subst e;exact hv
  ·exact hR.e k,hR.h,hR.fresh,hR.gl⟩
theorem Kept'.trans {g g' g'':Gh} {w w' w'':World} (h:Kept' g w g' w') (h':Kept' g' w' g'' w''):Kept' g w g'' w'':=fun ℓ hℓ=>⟨fun b hb=>by
 obtain ⟨k1,k2,k3⟩:=(h ℓ hℓ).k b hb
 obtain ⟨j1,j2,j3⟩:=(h' ℓ hℓ).k b k1
 exact ⟨j1,j2.trans k2,j3.trans k3⟩⟩
theorem qr5 {id:Nat} {cs0:List V}:∀{l:List V} {H:List Obj} {lo:Nat} {l':List V} {H':List Obj} {lo':Nat},qmh l H lo=some (l',H',lo')->H[id]?=some (.cells cs0)->H'[id]?=some (.cells cs0)
 | [],H,lo,l',H',lo',h,h0=>by
  simp only [qmh,Option.some.injEq,Prod.mk.injEq] at h
  obtain ⟨_,rfl,_⟩:=h
  exact h0
 | v::l,H,lo,l',H',lo',h,h0=>by
  simp only [qmh] at h
  split at h
  ·rename_i v' H1 lo1 h1
   split at h
   ·rename_i h2
    simp only [Option.some.injEq,Prod.mk.injEq] at h
    obtain ⟨_,rfl,_⟩:=h
    refine qr5 h2 ?_
    by_cases hrow:∃id sz len,v=.row id sz len
    ·obtain ⟨id',sz,len,rfl⟩:=hrow
     obtain ⟨l0,cs,ds,e1,_,_,_,_,_,_,_,_,rfl,_⟩:=qcV h1
     have hne:id'≠id:=fun e=>by subst e;rw [h0] at e1;cases e1
     simp only [qQ]
     rw [List.getElem?_set_ne hne]
     exact h0
    ·have e:qo9 v H lo=some (v,H,lo):=by
      cases v<;>first|rfl|exact absurd ⟨_,_,_,rfl⟩ hrow
     rw [e] at h1
     simp only [Option.some.injEq,Prod.mk.injEq] at h1
     obtain ⟨_,rfl,_⟩:=h1
     exact h0
   ·cases h
  ·cases h
theorem qqy {tmps:Array Value} {f:Nat->Loc} (hf:∀i id,f i≠.oblk id) {arr:Array Value}:∀(l:List V) (k:Nat) {g:Gh} {H:List Obj} {lo:Nat} {l':List V} {H':List Obj} {lo':Nat},Rel M g w β ⟨st.env,H,lo⟩ tmps->
  (∀(i:Nat) x v,l[i]?=some x->arr[k+i]?=some v->RepC M g w (f (k+i)) x v)->qmh l H lo=some (l',H',lo')->
  ∃g',Rel M g' w β ⟨st.env,H',lo'⟩ tmps/\Evo g w g' w/\Kept' g w g' w/\l'.length=l.length/\(∀(i:Nat) x v,l'[i]?=some x->arr[k+i]?=some v->RepC M g' w (f (k+i)) x v)
 | [],k,g,H,lo,l',H',lo',hR,hr,h=>by
  simp only [qmh,Option.some.injEq,Prod.mk.injEq] at h
  obtain ⟨rfl,rfl,rfl⟩:=h
  exact ⟨g,hR,Evo.refl g w,fun ℓ _=>Kept.refl g w ℓ,rfl,hr⟩
 | v::l,k,g,H,lo,l',H',lo',hR,hr,h=>by
  simp only [qmh] at h
  split at h
  ·rename_i v' H1 lo1 h1
   split at h
   ·rename_i r H2 lo2 h2
    simp only [Option.some.injEq,Prod.mk.injEq] at h
    obtain ⟨rfl,rfl,rfl⟩:=h
    have step:∃g1,Rel M g1 w β ⟨st.env,H1,lo1⟩ tmps/\Evo g w g1 w/\Kept' g w g1 w/\∀u,arr[k]?=some u->RepC M g1 w (f k) v' u:=by
     have h0:∀u,arr[k]?=some u->RepC M g w (f k) v u:=fun u hu=>hr 0 v u rfl hu
     by_cases hrow:∃id sz len,v=.row id sz len
     ·obtain ⟨id,sz,len,rfl⟩:=hrow
      obtain ⟨l0,cs,ds,e1,e2,e3,e4,e5,e6,e7,e8,rfl,rfl,rfl⟩:=qcV h1
      obtain ⟨g1,k1,k2,k3,k4⟩:=hR.freeze (st:=⟨st.env,H,lo⟩) e1 e2 e3 e4 e5 e6 e7 e8 (min lo id)
      refine ⟨g1,k1,k2,k3,fun u hu=>?_⟩
      cases h0 u hu with
      | s h=>exact .s (k4 _ h)
     ·have e:qo9 v H lo=some (v,H,lo):=by
       cases v<;>first|rfl|exact absurd ⟨_,_,_,rfl⟩ hrow
      rw [e] at h1
      simp only [Option.some.injEq,Prod.mk.injEq] at h1
      obtain ⟨rfl,rfl,rfl⟩:=h1
      exact ⟨g,hR,Evo.refl g w,fun ℓ _=>Kept.refl g w ℓ,h0⟩
    obtain ⟨g1,k1,k2,k3,k4⟩:=step
    obtain ⟨g2,j1,j2,j3,j4,j5⟩:=qqy hf l (k+1) (g:=g1) k1 (fun i x v hx hv=>by
     have:=hr (i+1) x v (by simpa using hx) (by rw [<- hv];congr 1;omega)
     rw [show k+1+i=k+(i+1) by omega]
     exact this.mono k2.toGrow k2.n k2.φ (k3 _ (hf _))) h2
    refine ⟨g2,j1,k2.trans j2,k3.trans j3,by simp [j4],fun i x v hx hv=>?_⟩
    cases i with
    | zero=>
     simp only [List.getElem?_cons_zero,Option.some.injEq] at hx
     subst hx
     exact (k4 v hv).mono j2.toGrow j2.n j2.φ (j3 _ (hf _))
    | succ i=>
     have:=j5 i x v (by simpa using hx) (by rw [<- hv];congr 1;omega)
     rwa [show k+1+i=k+(i+1) by omega] at this
   ·cases h
  ·cases h
theorem qJR {tmps:Array Value} (hR:Rel M g w β st tmps) {n:Nat} {r:Or} (hr:eFz n st=some r):r.pan=false/\∃g',Rel M g' w β r.st tmps/\Evo g w g' w:=by
 unfold eFz at hr
 split at hr
 ·rename_i cs hbox
  split at hr
  ·rename_i cs' H' lo' h1
   simp only [okH,Option.some.injEq] at hr
   subst hr
   have hs:=hR.e n
   rw [hbox] at hs
   obtain ⟨arr,hr0⟩:∃arr:Array Value,(∃T,w.heap[β n]?=some (.cells arr T (0,0)))/\cs.length=arr.size/\(∀(i:Nat) x v,cs[i]?=some x->arr[i]?=some v->RepC M g w (.bcell n i) x v):=by
    generalize tmps.getD n Go.undef=c at hs
    cases hs with
    | s h=>cases h
    | box _ arr T hb ho hp hl hr=>exact ⟨arr,⟨T,hb⟩,hl,hr⟩
   obtain ⟨⟨T0,hb0⟩,hl0,hr0⟩:=hr0
   obtain ⟨g',k1,k2,k3,k4,k5⟩:=qqy (st:=st) (f:=fun i=>.bcell n i) (fun i id=>by simp) (arr:=arr) cs 0 (g:=g) (H:=st.H) (lo:=st.lo) hR (fun i x v hx hv=>by
    rw [Nat.zero_add] at hv |-;exact hr0 i x v hx hv) h1
   refine ⟨rfl,g',Rel.reslot (st:=⟨st.env,H',lo'⟩) k1 ?_,k2⟩
   have hs':=k1.e n
   have e:get n (⟨st.env,H',lo'⟩:St).env=.box cs:=hbox
   rw [e] at hs'
   generalize tmps.getD n Go.undef=c at hs'
   cases hs' with
   | s h=>cases h
   | box _ arr' T hb ho hp hl hr=>
    have:arr'=arr:=by
     rw [hb0] at hb
     simp only [Option.some.injEq,Go.Obj.cells.injEq] at hb
     exact hb.1.symm
    subst this
    exact .box cs' arr' T hb ho hp (k4.trans hl) (fun i x v hx hv=>by
     have:=k5 i x v hx (by rw [Nat.zero_add];exact hv)
     rwa [Nat.zero_add] at this)
  ·cases hr
 ·rename_i id sz len hrow
  split at hr
  ·rename_i v' H' lo' h1
   simp only [okH,Option.some.injEq] at hr
   subst hr
   obtain ⟨l0,cs,ds,e1,e2,e3,e4,e5,e6,e7,e8,rfl,rfl,rfl⟩:=qcV h1
   obtain ⟨g1,k1,k2,k3,k4⟩:=hR.freeze e1 e2 e3 e4 e5 e6 e7 e8 (min st.lo id)
   refine ⟨rfl,g1,k1.reslot ?_,k2⟩
   have hs:=hR.e n
   rw [hrow] at hs
   generalize tmps.getD n Go.undef=c at hs
   cases hs with
   | s h=>exact .s (k4 _ h)
  ·cases hr
 ·rename_i id off hptr
  split at hr
  ·rename_i cs hob
   split at hr
   ·rename_i cs' H' lo' h1
    simp only [okH,Option.some.injEq] at hr
    subst hr
    cases hR.h id _ hob with
    | cells _ arr T fz hb hz ho hp hl hr0=>
    obtain ⟨g',k1,k2,k3,k4,k5⟩:=qqy (st:=st) (f:=fun i=>.ocell id i) (fun i id=>by simp) (arr:=arr) cs 0 (g:=g) (H:=st.H) (lo:=st.lo) hR (fun i x v hx hv=>by
     rw [Nat.zero_add] at hv |-;exact hr0 i x v hx hv) h1
    have hob':=qr5 h1 hob
    cases k1.h id _ hob' with
    | cells _ arr' T' fz' hb' hz' ho' hp' hl' hr'=>
    have hφ:g'.φ id=g.φ id:=Gh.φ_eq (k2.φ id (by rw [hR.n];exact (List.getElem?_eq_some_iff.1 hob).1))
    have hE:arr'=arr:=by
     rw [hφ,hb] at hb'
     simp only [Option.some.injEq,Go.Obj.cells.injEq] at hb'
     exact hb'.1.symm
    subst hE
    have hrep:RepO M g' w id (.cells cs'):=.cells cs' arr' T' fz' hb' (by rw [k4];exact hz') ho' hp' (by rw [k4];exact hl') (fun i x v hx hv=>by
     have:=k5 i x v hx (by rw [Nat.zero_add];exact hv)
     rwa [Nat.zero_add] at this)
    obtain ⟨j1,j2⟩:=k1.setObj hob' ho' (Wr.refl g' w _) hrep (min lo' id)
    exact ⟨rfl,g',j1,k2.trans j2⟩
   ·cases hr
  ·simp only [okH,Option.some.injEq] at hr
   subst hr
   exact ⟨rfl,g,hR,Evo.refl g w⟩
 ·simp only [okH,Option.some.injEq] at hr
  subst hr
  exact ⟨rfl,g,hR,Evo.refl g w⟩
end
end W
/-
  Calls: what goes in, what comes back, whose it is meanwhile.
-/
namespace W
open Go (World Value Addr IntKind Program TypeId FuncId Operand Act Oper Next Result Sem BinOp UnOp Ending Exit)
structure RelH (M:Maps) (g:Gh) (w:World) (H:List Obj):Prop where
 n:g.n=H.length
 h:∀id o,H[id]?=some o->RepO M g w id o
 fresh:∀b,w.heap.size<=b->g.own b=none/\g.pub b=0
 gl:GlOk M g w
theorem Rel.toH {M:Maps} {g:Gh} {w:World} {β:Nat->Nat} {st:St} {tmps:Array Value} (h:Rel M g w β st tmps):RelH M g w st.H:=⟨h.n,h.h,h.fresh,h.gl⟩
inductive RepA (M:Maps) (g:Gh) (w:World) (j:Nat):V->Value->Prop
 | s {v:V} {c:Value} (h:RepS M g w v c):RepA M g w j v c
 | osl {xs:List D} {c:Value} (h:OwnSl g w (.slot j) xs c):RepA M g w j (.osl xs) c
inductive ArgsRep (M:Maps) (g:Gh) (w:World):Nat->List V->List Value->Prop
 | nil (j:Nat):ArgsRep M g w j [] []
 | cons {j:Nat} {v:V} {c:Value} {vs:List V} {cs:List Value} (h:RepA M g w j v c) (hl:ArgsRep M g w (j+1) vs cs):ArgsRep M g w j (v::vs) (c::cs)
def qG (M:Maps) (g:Gh) (w:World) (r:Cr):Ending->World->Prop
 | .returned v,w'=>r.pan=false/\∃g',RelH M g' w' r.H/\Evo g w g' w'/\RepA M g' w' 0 r.v v
 | .panicked ch,w'=>r.pan=true/\∃g' cv,ch=[{v:=cv,recovered:=false}]/\RelH M g' w' r.H/\Evo g w g' w'/\RepA M g' w' 0 r.v cv
 | .outgrown,_=>False
def qtZ (P:Program) (f:FuncId) (args:Array Value) (w:World) (R:Ending->World->Prop):Prop:=
 ∀(o:Oper) (a:Act) (K:Act->World->Prop) (Q:Exit->Act->World->Prop),(∀v w',R (.returned v) w'->K (a.put o.dst v) w')->(∀ch w',R (.panicked ch) w'->Q (.panic ch) a w')->
  o.upon P a K Q ((Go.callFunc f args).run P w)
def qn (P:Program) (M:Maps) (call:Call):Prop:=
 ∀(i:Nat) (vs:List V) (H:List Obj) (r:Cr),call i vs H=some r->∀f',look M.fm f'=some i->∀g w argv,ArgsRep M g w 0 vs argv->RelH M g w H->
  qtZ P f' argv.toArray w (qG M g w r)
def k9 (hand:Nat->Option Nat):Option Loc->Option Loc
 | some (.slot n)=>match hand n with
  | some j=>some (.slot j)
  | none=>some .out
 | some (.bblk _)=>some .out
 | some (.bcell _ _)=>some .out
 | x=>x
def qA (hand:Nat->Option Nat) (g:Gh):Gh:={g with own:=fun b=>k9 hand (g.own b)}
def qp3 (d:Option Nat):Option Loc->Option Loc
 | some (.slot 0)=>d.map .slot
 | some (.slot _)=>none
 | some (.bblk _)=>none
 | some (.bcell _ _)=>none
 | x=>x
def qbI (hand:Nat->Option Nat) (d:Option Nat) (old new:Option Loc):Option Loc:=
 match old with
 | some (.slot n)=>match hand n with
  | some _=>qp3 d new
  | none=>some (.slot n)
 | some (.bblk n)=>some (.bblk n)
 | some (.bcell n i)=>some (.bcell n i)
 | _=>qp3 d new
def jU (hand:Nat->Option Nat) (d:Option Nat) (g g2:Gh):Gh:={g2 with own:=fun b=>qbI hand d (g.own b) (g2.own b)}
theorem OwnSl.relabel {g g':Gh} {w:World} {ℓ ℓ':Loc} {xs:List D} {c:Value} (h:OwnSl g w ℓ xs c) (hp:g'.pub=g.pub) (ho:∀b,g.own b=some ℓ->g'.own b=some ℓ'):OwnSl g' w ℓ' xs c:=by
 cases h with
 | mk b off cap sz vs arr T fz hne hsz hr hc hp' hcap hone ho' hb ha hff=>
  exact .mk xs b off cap sz vs arr T fz hne hsz (hp▸hr) hc (hp▸hp') hcap hone (ho b ho') hb ha hff
 | full ad h=>exact .full xs ad (hp▸h)
section
variable {P:Program} {M:Maps} {g g2:Gh} {w w2:World} {hand:Nat->Option Nat} {d:Option Nat}
theorem qmX:Grow g w (qA hand g) w:=⟨qOB _,fun _=>qOB _,fun _ _ _=>rfl⟩
theorem qv6 (id:Nat):Kept g w (qA hand g) w (.oblk id):=⟨fun b h=>⟨by simp [qA,h,k9],rfl,rfl⟩⟩
theorem qur (id i:Nat):Kept g w (qA hand g) w (.ocell id i):=⟨fun b h=>⟨by simp [qA,h,k9],rfl,rfl⟩⟩
theorem qjP {H:List Obj} (h:RelH M g w H):RelH M (qA hand g) w H:=
 ⟨h.n,fun id o ho=>(h.h id o ho).mono qmX (qOB _) (fun _ _=>rfl) (by rw [h.n];exact (List.getElem?_eq_some_iff.1 ho).1) (qv6 id) (fun i=>qur id i),
  fun b hb=>by
   have:=h.fresh b hb
   exact ⟨by simp [qA,this.1,k9],this.2⟩,h.gl.mono qmX⟩
theorem qjG (hE:Evo (qA hand g) w g2 w2) {b:Nat} (hb:b<w.heap.size) (ho:k9 hand (g.own b)=some .out):g2.own b=some .out/\w2.heap[b]?=w.heap[b]?/\g2.pub b=g.pub b:=by
 obtain ⟨h1,h2,h3⟩:=hE.keep b hb (.inr ho)
 exact ⟨h1.trans ho,h2,h3⟩
theorem qsJ (hf:Fresh g w) {b:Nat} {ℓ:Loc} (h:g.own b=some ℓ):b<w.heap.size:=by
 rcases Nat.lt_or_ge b w.heap.size with hlt|hge
 ·exact hlt
 ·rw [(hf.f b hge).1] at h;cases h
theorem qse (hE:Evo (qA hand g) w g2 w2):Grow g w (jU hand d g g2) w2:=⟨hE.size,hE.pub,hE.cell⟩
theorem qrN (hf:Fresh g w) (hE:Evo (qA hand g) w g2 w2) {k:Nat} (hk:hand k=none):Kept g w (jU hand d g g2) w2 (.slot k):=⟨fun b h=>by
 obtain ⟨h1,h2,h3⟩:=qjG hE (qsJ hf h) (by rw [h];simp [k9,hk])
 exact ⟨by simp [jU,h,qbI,hk],h2,h3⟩⟩
theorem qt7 (hf:Fresh g w) (hE:Evo (qA hand g) w g2 w2) (k:Nat):Kept g w (jU hand d g g2) w2 (.bblk k):=⟨fun b h=>by
 obtain ⟨h1,h2,h3⟩:=qjG hE (qsJ hf h) (by rw [h];simp [k9])
 exact ⟨by simp [jU,h,qbI],h2,h3⟩⟩
theorem qrK (hf:Fresh g w) (hE:Evo (qA hand g) w g2 w2) (k i:Nat):Kept g w (jU hand d g g2) w2 (.bcell k i):=⟨fun b h=>by
 obtain ⟨h1,h2,h3⟩:=qjG hE (qsJ hf h) (by rw [h];simp [k9])
 exact ⟨by simp [jU,h,qbI],h2,h3⟩⟩
theorem qrm (hf:Fresh g w) (hE:Evo (qA hand g) w g2 w2) {b:Nat} {ℓ:Loc} (h:g2.own b=some ℓ) (hℓ:ℓ≠.out):qbI hand d (g.own b) (g2.own b)=qp3 d (some ℓ):=by
 have key:k9 hand (g.own b)≠some .out:=fun ho=>by
  have hb:b<w.heap.size:=by
   cases hg:g.own b with
   | none=>rw [hg] at ho;simp [k9] at ho
   | some l=>exact qsJ hf hg
  have:=(qjG hE hb ho).1
  rw [h] at this
  exact hℓ (Option.some.inj this)
 rw [h]
 cases hg:g.own b with
 | none=>rfl
 | some l=>
  rw [hg] at key
  cases l with
  | slot n=>
   cases hh:hand n with
   | none=>simp [k9,hh] at key
   | some j=>simp [qbI,hh]
  | bblk n=>simp [k9] at key
  | bcell n i=>simp [k9] at key
  | oblk|ocell|out=>rfl
theorem qjJ:Grow g2 w2 (jU hand d g g2) w2:=⟨qOB _,fun _=>qOB _,fun _ _ _=>rfl⟩
theorem quY (hf:Fresh g w) (hE:Evo (qA hand g) w g2 w2) (id:Nat):Kept g2 w2 (jU hand d g g2) w2 (.oblk id):=⟨fun b h=>⟨by
 show qbI hand d (g.own b) (g2.own b)=_
 rw [qrm hf hE h (by simp)];rfl,rfl,rfl⟩⟩
theorem qvc (hf:Fresh g w) (hE:Evo (qA hand g) w g2 w2) (id i:Nat):Kept g2 w2 (jU hand d g g2) w2 (.ocell id i):=⟨fun b h=>⟨by
 show qbI hand d (g.own b) (g2.own b)=_
 rw [qrm hf hE h (by simp)];rfl,rfl,rfl⟩⟩
theorem qzB (hf:Fresh g w) (hE:Evo (qA hand g) w g2 w2) {H:List Obj} (h:RelH M g2 w2 H):RelH M (jU hand d g g2) w2 H:=
 ⟨h.n,fun id o ho=>(h.h id o ho).mono qjJ (qOB _) (fun _ _=>rfl) (by rw [h.n];exact (List.getElem?_eq_some_iff.1 ho).1) (quY hf hE id) (fun i=>qvc hf hE id i),
  fun b hb=>by
   have h2:=h.fresh b hb
   have h1:=hf.f b (Nat.le_trans hE.size hb)
   exact ⟨by simp [jU,h1.1,h2.1,qbI,qp3],h2.2⟩,h.gl.mono qjJ⟩
theorem qiB (hf:Fresh g w) (hE:Evo (qA hand g) w g2 w2):Evo g w (jU hand d g g2) w2:=
 ⟨qse hE,hE.n,hE.φ,fun b hb ho=>by
  have he:k9 hand (g.own b)=g.own b:=by rcases ho with h|h<;>rw [h]<;>rfl
  have ho':(qA hand g).own b=none\/(qA hand g).own b=some .out:=by
   show k9 hand (g.own b)=none\/k9 hand (g.own b)=some .out
   rw [he];exact ho
  obtain ⟨h1,h2,h3⟩:=hE.keep b hb ho'
  have h1':g2.own b=g.own b:=by rw [h1];exact he
  refine ⟨?_,h2,h3⟩
  show qbI hand d (g.own b) (g2.own b)=g.own b
  rw [h1']
  rcases ho with h|h<;>rw [h]<;>rfl,hE.io⟩
theorem qvm (hf:Fresh g w) (hE:Evo (qA hand g) w g2 w2) {n:Nat} (hd:d=some n) {xs:List D} {c:Value} (h:OwnSl g2 w2 (.slot 0) xs c):OwnSl (jU hand d g g2) w2 (.slot n) xs c:=by
 refine h.relabel rfl (fun b ho=>?_)
 show qbI hand d (g.own b) (g2.own b)=_
 rw [qrm hf hE ho (by simp),hd]
 rfl
end
def zJ:Nat->List O->Nat->Option Nat
 | _,[],_=>none
 | j,.mv m::l,n=>if m=n then some j else zJ (j+1) l n
 | j,_::l,n=>zJ (j+1) l n
theorem qaO:∀{l:List O} {j n:Nat} {k:Nat},zJ j l n=some k->n ∈ ki l
 | [],_,_,_,h=>by simp [zJ] at h
 | .mv m::l,j,n,k,h=>by
  simp only [zJ] at h
  split at h
  ·rename_i e;simp [ki,e]
  ·simp only [ki,List.mem_cons];exact .inr (qaO h)
 | .t m::l,j,n,k,h=>qaO (l:=l) (j:=j+1) h
 | .c m::l,j,n,k,h=>qaO (l:=l) (j:=j+1) h
 | .f m::l,j,n,k,h=>qaO (l:=l) (j:=j+1) h
 | .g _ _::l,j,n,k,h=>qaO (l:=l) (j:=j+1) h
theorem qnA:∀{l:List Nat},qrF l=true->l.Nodup
 | [],_=>List.nodup_nil
 | n::l,h=>by
  simp only [qrF,qOy,Bool.not_eq_true',List.any_eq_false] at h
  refine List.nodup_cons.2 ⟨fun hm=>h.1 n hm (by simp),qnA h.2⟩
theorem qS:∀(l:List O) (e:Env) (k:Nat),get k (spentAll l e)=if k ∈ ki l then .undef else get k e
 | [],e,k=>by simp [spentAll,ki]
 | .mv m::l,e,k=>by
  simp only [spentAll,spent,ki,List.mem_cons]
  rw [qS l,qc]
  by_cases h1:k ∈ ki l<;>by_cases h2:k=m<;>simp [h1,h2]
 | .t m::l,e,k=>qS l e k
 | .c m::l,e,k=>qS l e k
 | .f m::l,e,k=>qS l e k
 | .g _ _::l,e,k=>qS l e k
section
variable {P:Program} {M:Maps} {g:Gh} {w:World} {β:Nat->Nat} {st:St} {o:Oper} {a:Act}
theorem qnj {v:V} {c:Value} {hand:Nat->Option Nat} (h:RepS M g w v c):RepS M (qA hand g) w v c:=h.mono qmX (qOB _) (fun _ _=>rfl) h.ref
theorem qcq {hand:Nat->Option Nat}:∀{vs:List V} {cs:List Value} (j:Nat),RepSL M g w vs cs->ArgsRep M (qA hand g) w j vs cs
 | _,_,j,.nil=>.nil j
 | _,_,j,.cons _ _ _ _ h hl=>.cons (.s (qnj h)) (qcq (j+1) hl)
theorem qlf:∀{vs:List V} {cs:List Value} {vs':List V} {cs':List Value} {j:Nat},ArgsRep M g w j vs cs->ArgsRep M g w (j+vs.length) vs' cs'->ArgsRep M g w j (vs++vs') (cs++cs')
 | [],_,_,_,j,.nil _,h'=>by simpa using h'
 | _::vs,_,_,_,j,.cons h hl,h'=>.cons h (qlf hl (by
   simp only [List.length_cons] at h'
   rwa [show j+1+vs.length=j+(vs.length+1) by omega]))
theorem RepV.leavesS {v:V} {c:Value} (h:RepV M g w β v c) (hv:v.leaves=true):RepS M g w v c:=by
 cases h with
 | s h=>exact h
 | lp=>simp [V.leaves,V.ok] at hv
 | cp=>simp [V.leaves,V.ok] at hv
theorem qq3 (hR:Rel M g w β st a.tmps) {hand:Nat->Option Nat} {m:Nat->Bool}:∀{xs:List Operand} {os:List O} (i j:Nat),opnds M m i xs=some os->V.allLeave (os.map (rd st.env))=true->(ki os).Nodup->
  (∀n ∈ ki os,hand n=zJ j os n)->ArgsRep M (qA hand g) w j (os.map (rd st.env)) (xs.map a.eval)
 | [],os,i,j,h,_,_,_=>by simp only [opnds,Option.some.injEq] at h;subst h;exact .nil j
 | x::xs,os,i,j,h,hl,hnd,hh=>by
  simp only [opnds] at h
  split at h
  ·rename_i y r hy hr
   simp only [Option.some.injEq] at h
   subst h
   simp only [List.map_cons,V.allLeave,qOy] at hl |-
   have h1:=qgT hR hy
   have hnd':(ki r).Nodup:=by
    cases y with
    | mv n=>exact (List.nodup_cons.1 hnd).2
    | _=>exact hnd
   have ih:=qq3 hR (hand:=hand) (i+1) (j+1) hr hl.2 hnd' (fun n hn=>by
    cases y with
    | mv n'=>
     have hne:n'≠n:=fun e=>(List.nodup_cons.1 hnd).1 (e▸hn)
     rw [hh n (by simp [ki,hn])]
     simp [zJ,hne]
    | t _=>rw [hh n hn];rfl
    | c _=>rw [hh n hn];rfl
    | f _=>rw [hh n hn];rfl
    | g _ _=>rw [hh n hn];rfl)
   refine .cons ?_ ih
   generalize hv:rd st.env y=v at h1 hl
   cases h1 with
   | v h1=>exact .s (qnj (h1.leavesS hl.1))
   | own h1=>
    rename_i n xs'
    have hn:hand n=some j:=by rw [hh n (by simp [ki])];simp [zJ]
    exact .osl (h1.relabel rfl (fun b ho=>by simp [qA,ho,k9,hn]))
  ·cases h
end
end W
/-
  A call, as the caller sees it; a function's body, as the call sees it.
-/
namespace W
open Go (World Value Addr IntKind Program TypeId FuncId Operand Act Oper Next Result Sem BinOp UnOp Ending Exit)
theorem qpS {a b:List V}:V.allLeave (a++b)=(V.allLeave a && V.allLeave b):=by
 induction a with
 | nil=>simp [V.allLeave]
 | cons v l ih=>simp [V.allLeave,ih,Bool.and_assoc]
section
variable {P:Program} {M:Maps} {g:Gh} {w:World} {β:Nat->Nat} {st:St} {o:Oper} {a:Act} {call:Call}
theorem Rel.restRel (hR:Rel M g w β st a.tmps) {os:List O} {j:Nat} {g2:Gh} {w2:World} (hE:Evo (qA (zJ j os) g) w g2 w2) {H':List Obj} (hH:RelH M g2 w2 H') {lo:Nat} (d:Option Nat) :
  Rel M (jU (zJ j os) d g g2) w2 β {env:=W.spentAll os st.env,H:=H',lo:=lo} a.tmps:=by
 have hf:=hR.fr
 have hrh:=qzB (d:=d) hf hE hH
 refine ⟨hrh.n,fun k=>?_,hrh.h,hrh.fresh,hrh.gl⟩
 show RepT M _ w2 β k (get k (W.spentAll os st.env)) _
 rw [qS]
 by_cases hk:k ∈ ki os
 ·simp only [hk,if_true];exact .s (.undef _)
 ·simp only [hk,if_false]
  have hh:zJ j os k=none:=by
   cases hq:zJ j os k with
   | none=>rfl
   | some q=>exact absurd (qaO hq) hk
  refine (hR.e k).mono (qse hE) ?_ ?_ (qrN hf hE hh) (qt7 hf hE k) (fun i=>qrK hf hE k i)
  ·exact hE.n
  ·exact hE.φ
theorem Rel.putCall (hd:qg o a) (hR:Rel M g w β st a.tmps) {os:List O} {j:Nat} {g2:Gh} {w2:World} (hE:Evo (qA (zJ j os) g) w g2 w2) {H':List Obj} (hH:RelH M g2 w2 H') {v:V} {c:Value} (hv:RepA M g2 w2 0 v c) {lo:Nat} :
  ∃g',Rel M g' w2 β (put o.dst v {env:=W.spentAll os st.env,H:=H',lo:=lo}) (a.put o.dst c).tmps/\Evo g w g' w2:=by
 have hf:=hR.fr
 have hrel:∀d,Rel M (jU (zJ j os) d g g2) w2 β {env:=W.spentAll os st.env,H:=H',lo:=lo} a.tmps:=fun d=>hR.restRel hE hH d
 cases hv with
 | s hv=>
  refine ⟨_,(hrel none).putV hd (.s ?_),qiB hf hE⟩
  exact hv.mono qjJ (qOB _) (fun _ _=>rfl) hv.ref
 | osl hv=>
  rw [qL (by intro cs e;cases e),Act.put_tmps]
  cases hdst:o.dst with
  | none=>exact ⟨_,hrel none,qiB hf hE⟩
  | some n=>exact ⟨_,(hrel (some n)).lay (hd n hdst) (.osl (qvm hf hE rfl hv)),qiB hf hE⟩
theorem qCb (hcs:qn P M call) (hd:qg o a) (hR:Rel M g w β st a.tmps) {c:Go.Call} {f:Operand} {f':O} {m:Nat->Bool} {l:List O} (hcal:c.callee=.value f) (hf:opnd M false f=some f')
  (hx:opnds M m 0 c.args.toList=some l) (hnd:qrF (ki l)=true) (ho:o.op=.call c) {r:Or} (hr:jc call f' l st=some r) {K:Act->World->Prop} {Q:Exit->Act->World->Prop}
  (hK:r.pan=false->∀c w' g' β',Rel M g' w' β' (put o.dst r.v r.st) (a.put o.dst c).tmps->Evo g w g' w'->K (a.put o.dst c) w')
  (hQ:r.pan=true->∀cv w' g' β',Rel M g' w' β' r.st a.tmps->Evo g w g' w'->RepA M g' w' 0 r.v cv->Q (.panic [{v:=cv,recovered:=false}]) a w') :
  o.wp P a w K Q:=by
 have h1:=qf hR hf
 unfold jc at hr
 split at hr
 ·rename_i i first cap hfv
  simp only at hr
  split at hr
  ·rename_i hl
   split at hr
   ·rename_i q hq
    simp only [Option.some.injEq] at hr
    subst hr
    rw [hfv] at h1
    generalize hfe:a.eval f=fc at h1
    cases h1 with
    | s h1=>cases h1 with
     | fn _ f2 _ _ fv cv hlook hr1 hr2=>
      simp only [qpS,qOy] at hl
      let hand:=zJ first.length l
      have ha1:ArgsRep M (qA hand g) w 0 first fv.toList:=qcq 0 hr1
      have ha2:ArgsRep M (qA hand g) w first.length (l.map (rd st.env)) (c.args.toList.map a.eval):=
       qq3 hR 0 first.length hx hl.1.2 (qnA hnd) (fun _ _=>rfl)
      have ha3:=qcq (hand:=hand) (first++l.map (rd st.env)).length hr2
      have hargs:=qlf (qlf ha1 (by simpa using ha2)) (by simpa using ha3)
      have hdoes:=hcs i _ _ q hq f2 hlook (qA hand g) w _ hargs (qjP hR.toH)
      have hrun:(Go.execOp a.eval o).run P w=(Go.callFunc f2 (fv.toList++c.args.toList.map a.eval++cv.toList).toArray).run P w:=by
       have e:(fv.toList++c.args.toList.map a.eval++cv.toList).toArray=fv++c.args.map a.eval++cv:=by
        apply Array.ext';simp
       rw [e]
       simp only [Go.execOp,ho,Go.resolve,hcal,hfe,Go.Deferred.ofValue,Sem.run_bind,Sem.run_pure,Result.andThen_ok,Go.invoke]
      unfold Oper.wp
      rw [hrun]
      refine hdoes o a K Q (fun v w' hp=>?_) (fun ch w' hp=>?_)
      ·obtain ⟨hpan,g',hH,hE,hv⟩:=hp
       obtain ⟨g3,h3,h4⟩:=hR.putCall hd hE hH hv
       exact hK hpan v w' g3 β h3 h4
      ·obtain ⟨hpan,g',cv',rfl,hH,hE,hv⟩:=hp
       refine hQ hpan cv' w' (jU hand (some 0) g g') β (hR.restRel hE hH (some 0)) (qiB hR.fr hE) ?_
       simp only at hv |-
       generalize q.v=qv at hv
       cases hv with
       | s hv=>exact .s (hv.mono qjJ (qOB _) (fun _ _=>rfl) hv.ref)
       | osl hv=>exact .osl (qvm hR.fr hE rfl hv)
   ·cases hr
  ·cases hr
 ·cases hr
theorem qqg (hsim:qn P M call) {i:Nat} {l:List D} {r:Cr} (h:call i (l.map .d) []=some r) (hp:r.pan=false) {x:V} (hx:∀{g1 g2:Gh} {w':World} {c:Value},g2.pub=g1.pub->RepA M g1 w' 0 r.v c->RepA M g2 w' 0 x c)
  {f':FuncId} (hl:look M.fm f'=some i) {H:List Obj} (hH:RelH M g w H) {argv:List Value} (ha:ArgsRep M g w 0 (l.map .d) argv):qtZ P f' argv.toArray w (qG M g w ⟨false,true,x,H,H.length⟩):=by
 have hH0:RelH M {n:=0,Φ:=fun _=>(0,0),own:=fun _=>none,pub:=g.pub} w []:=⟨rfl,fun id o h=>by simp at h,fun b hb=>⟨rfl,(hH.fresh b hb).2⟩,hH.gl⟩
 have ha0:ArgsRep M {n:=0,Φ:=fun _=>(0,0),own:=fun _=>none,pub:=g.pub} w 0 (l.map .d) argv:=by
  clear h
  have hk':∀k,ArgsRep M g w k (l.map .d) argv->ArgsRep M {n:=0,Φ:=fun _=>(0,0),own:=fun _=>none,pub:=g.pub} w k (l.map .d) argv:=by
   clear ha
   induction l generalizing argv with
   | nil=>intro k ha;cases ha;exact .nil _
   | cons y l ih=>
    intro k ha
    rw [List.map_cons] at ha |-
    cases ha with
    | cons h0 ha=>
     refine .cons ?_ (ih _ ha)
     cases h0 with
     | s h0=>cases h0 with
      | d _ _ hr=>exact .s (.d _ _ hr)
  exact hk' 0 ha
 have hd:=hsim i (l.map .d) [] _ h f' hl _ w argv ha0 hH0
 intro o a K Q hK hQ
 refine hd o a K Q ?_ ?_
 ·rintro v w' ⟨_,g1,hR1,hE,hA⟩
  refine hK v w' ?_
  have hb:∀b,b<w.heap.size->w'.heap[b]?=w.heap[b]?/\g1.pub b=g.pub b:=fun b hb=>(hE.keep b hb (.inl rfl)).2
  have hg:Grow g w {n:=g.n,Φ:=g.Φ,own:=fun b=>if b<w.heap.size then g.own b else none,pub:=g1.pub} w':=⟨hE.size,hE.pub,hE.cell⟩
  have hlt:∀b ℓ,g.own b=some ℓ->b<w.heap.size:=fun b ℓ ho=>by
   rcases Nat.lt_or_ge b w.heap.size with h1|h1
   ·exact h1
   ·rw [(hH.fresh b h1).1] at ho;cases ho
  have hk:∀ℓ,Kept g w {n:=g.n,Φ:=g.Φ,own:=fun b=>if b<w.heap.size then g.own b else none,pub:=g1.pub} w' ℓ:=fun ℓ=>⟨fun b ho=>by
   have:=hlt b ℓ ho
   exact ⟨by simp only [this,if_true];exact ho,(hb b this).1,(hb b this).2⟩⟩
  refine ⟨rfl,{n:=g.n,Φ:=g.Φ,own:=fun b=>if b<w.heap.size then g.own b else none,pub:=g1.pub},⟨hH.n,fun id o ho=>(hH.h id o ho).mono hg (qOB _) (fun _ _=>rfl) (by rw [hH.n];exact (List.getElem?_eq_some_iff.1 ho).1) (hk _) (fun i=>hk _),fun b hb'=>⟨?_,(hR1.fresh b hb').2⟩,hH.gl.mono hg⟩,⟨hg,qOB _,fun _ _=>rfl,fun b hb' ho=>⟨by simp only [hb',if_true],(hb b hb').1,(hb b hb').2⟩,hE.io⟩,?_⟩
  ·have:¬b<w.heap.size:=by have:=hE.size;omega
   simp only [this,if_false]
  ·exact hx (g1:=g1) rfl hA
 ·rintro ch w' ⟨hp',_⟩
  rw [hp] at hp';cases hp'
theorem qxd (hsim:qn P M call) {i:Nat} {l:List D} {r:Cr} (h:call i (l.map .d) []=some r) (hp:r.pan=false) {x:D} (hx:qpX r.v=some x)
  {f':FuncId} (hl:look M.fm f'=some i) {H:List Obj} (hH:RelH M g w H) {argv:List Value} (ha:ArgsRep M g w 0 (l.map .d) argv):qtZ P f' argv.toArray w (qG M g w ⟨false,true,.d x,H,H.length⟩):=by
 refine qqg hsim h hp (fun {g1 g2 w' c} e hA=>?_) hl hH ha
 generalize r.v=rv at hA hx
 cases hA with
 | s hA=>cases hA with
  | d _ _ hr=>
   simp only [qpX,Option.some.injEq] at hx;subst hx
   exact .s (.d _ _ (by rw [e];exact hr))
  | _=>cases hx
 | osl hA=>
  simp only [qpX,Option.some.injEq] at hx;subst hx
  exact .s (.d _ _ (by rw [e];exact hA.rep))
theorem qvO:∀{l:List V} {ds:List D},quD l=some ds->l=ds.map .d
 | [],ds,h=>by simp only [quD,Option.some.injEq] at h;subst h;rfl
 | v::l,ds,h=>by
  cases v<;>simp only [quD] at h<;>try cases h
  split at h
  ·rename_i r hr
   simp only [Option.some.injEq] at h
   subst h
   rw [qvO hr];rfl
  ·cases h
theorem qzG (hcs:qn P M call) (hd:qg o a) (hR:Rel M g w β st a.tmps) {c:Go.Call} {f:Operand} {f':O} {l:List O} (hcal:c.callee=.value f) (hf:opnd M false f=some f')
  (hx:opnds M (fun _=>false) 0 c.args.toList=some l) (ho:o.op=.call c) {r:Or} (hr:qfA call f' l st=some r) {K:Act->World->Prop} {Q:Exit->Act->World->Prop}
  (hK:∀c w' g' β',Rel M g' w' β' (put o.dst r.v r.st) (a.put o.dst c).tmps->Evo g w g' w'->K (a.put o.dst c) w'):o.wp P a w K Q:=by
 have h1:=qf hR hf
 unfold qfA at hr
 split at hr
 ·rename_i i hfv
  split at hr
  ·rename_i ds hds
   split at hr
   ·rename_i q hq
    split at hr
    ·rename_i x hp hxv
     simp only [ok,Option.some.injEq] at hr
     subst hr
     rw [hfv] at h1
     generalize hfe:a.eval f=fc at h1
     cases h1 with
     | s h1=>cases h1 with
      | fn _ f2 _ _ fv cv hlook hr1 hr2=>
       have hfv':fv=#[]:=by
        apply Array.ext'
        generalize fv.toList=q at hr1
        cases hr1;rfl
       have hcv':cv=#[]:=by
        apply Array.ext'
        generalize cv.toList=q at hr2
        cases hr2;rfl
       subst hfv';subst hcv'
       have e1:=qvO hds
       have hsl:=qii hR hx (by
        rw [e1]
        clear hds e1 hq
        induction ds with
        | nil=>rfl
        | cons y ds ih=>simp only [List.map_cons,V.ok.oks,ih,Bool.and_true];rfl)
       rw [e1] at hsl
       have hdoes:=qxd hcs hq hp hxv hlook (qjP (hand:=zJ 0 []) hR.toH) (qcq 0 hsl)
       have hrun:(Go.execOp a.eval o).run P w=(Go.callFunc f2 (c.args.toList.map a.eval).toArray).run P w:=by
        have e:(c.args.toList.map a.eval).toArray=#[]++c.args.map a.eval++#[]:=by
         apply Array.ext';simp
        rw [e]
        simp only [Go.execOp,ho,Go.resolve,hcal,hfe,Go.Deferred.ofValue,Sem.run_bind,Sem.run_pure,Result.andThen_ok,Go.invoke]
       unfold Oper.wp
       rw [hrun]
       refine hdoes o a K Q (fun v w' hp=>?_) (fun ch w' hp=>?_)
       ·obtain ⟨_,g',hH,hE,hv⟩:=hp
        obtain ⟨g3,h3,h4⟩:=hR.putCall hd hE hH hv (lo:=st.lo)
        exact hK v w' g3 β h3 h4
       ·cases hp.1
    ·cases hr
   ·cases hr
  ·cases hr
 ·cases hr
theorem RepO.shrink {g2:Gh} {w2:World} {id:Nat} {ob:Obj} (h:RepO M g2 w2 id ob) (h0:RepO M g w id ob) (hn:g.n<=g2.n) (hid:id<g.n):RepO M {g2 with n:=g.n} w2 id ob:=by
 have hg:Grow g2 w2 {g2 with n:=g.n} w2:=⟨qOB _,fun _=>qOB _,fun _ _ _=>rfl⟩
 cases h with
 | cells cs arr T fz hb hz ho hp hl hr=>
  cases h0 with
  | cells _ arr0 T0 fz0 hb0 hz0 ho0 hp0 hl0 hr0=>
   refine .cells cs arr T fz hb hz ho hp hl (fun i x v hx hv=>?_)
   have hlt:i<arr0.size:=Nat.lt_of_lt_of_le (List.getElem?_eq_some_iff.1 hx).1 hl0
   have h1:=hr0 i x arr0[i] hx (by simp [hlt])
   cases hr i x v hx hv with
   | s h2=>
    cases h1 with
    | s h1=>exact .s (h2.mono hg (qOB _) (fun _ _=>rfl) h1.ref)
    | osl _=>cases h2
   | osl h2=>exact .osl (h2.relabel rfl (fun _ h=>h))
 | row l cs arr T hb ho hp hl hζ hr=>
  cases h0 with
  | row _ _ arr0 T0 hb0 ho0 hp0 hl0 hζ0 hr0=>
   refine .row l cs arr T hb ho hp hl hζ (fun i x v hx hv=>?_)
   have hlt:i<arr0.size:=Nat.lt_of_lt_of_le (List.getElem?_eq_some_iff.1 hx).1 hl0
   exact (hr i x v hx hv).mono hg (qOB _) (fun _ _=>rfl) (hr0 i x arr0[i] hx (by simp [hlt])).ref
 | dead=>exact .dead
 | iter id' last hb ho hi'=>
  cases h0 with
  | iter _ _ _ _ hi0=>exact .iter id' last hb ho hi0
 | map es ents clock hb ho hr=>
  cases h0 with
  | map _ ents0 clock0 hb0 ho0 hr0=>
   refine .map es ents clock hb ho ?_
   clear hb hb0
   generalize ents.toList=l at hr
   generalize ents0.toList=l0 at hr0
   induction hr generalizing l0 with
   | nil=>exact .nil
   | cons k x e es ents hk hgk hx hl ih=>
    cases hr0 with
    | cons _ _ e0 _ l0' hk0 hgk0 hx0 hl0=>
     exact .cons k x e es ents (hk.mono (fun _=>qOB _) (fun _ _ _=>rfl)) hgk (hx.mono hg (qOB _) (fun _ _=>rfl) hx0.ref) (ih _ hl0)
theorem qtI (n:Nat) (H:List Obj) (v:V):settle n H v=v\/∃id off len cap cs ds,v=.rs id off len cap/\n<=id/\H[id]?=some (.cells cs)/\off+len<=cs.length/\0<len/\jQ ((cs.drop off).take len)=some ds/\D.ones ds=true/\settle n H v=.d (.sl ds):=by
 cases v with
 | rs id off len cap=>
  simp only [settle]
  cases hn:Nat.ble n id with
  | false=>exact .inl (by simp)
  | true=>
   simp only [cond_true,qyu]
   split
   ·rename_i cs hcs
    cases hb:(Nat.ble (off+len) cs.length && Nat.blt 0 len) with
    | false=>exact .inl (by simp)
    | true=>
     simp only [cond_true]
     simp only [qOy] at hb
     split
     ·rename_i ds hds
      cases ho:D.ones ds with
      | false=>exact .inl (by simp)
      | true=>
       exact .inr ⟨id,off,len,cap,cs,ds,rfl,qOH hn,hcs,qOH hb.1,by have:=qOH hb.2;omega,hds,ho,by simp⟩
     ·exact .inl rfl
   ·exact .inl rfl
 | _=>exact .inl rfl
def Gh.settled (g:Gh) (n b k:Nat):Gh:={n:=n,Φ:=g.Φ,pub:=fun x=>if x=b then k else g.pub x,own:=fun x=>if x=b then none else g.own x}
theorem qrT {H:List Obj} {st2:St} {g2:Gh} {w2:World} (h0:RelH M g w H) (h2:RelH M g2 w2 st2.H) (hE:Evo g w g2 w2) (hold:∀id,id<H.length->st2.H[id]?=H[id]?)
  {id off len cap:Nat} {c:Value} (hv:RepA M g2 w2 0 (.rs id off len cap) c) {cs:List V} {ds:List D} (hid:H.length<=id) (hob:st2.H[id]?=some (.cells cs)) (hle:off+len<=cs.length) (hpos:0<len)
  (hds:jQ ((cs.drop off).take len)=some ds) (hones:D.ones ds=true) :
  ∃g',RelH M g' w2 H/\Evo g w g' w2/\RepA M g' w2 0 (.d (.sl ds)) c:=by
 cases h2.h id _ hob with
 | cells _ arr T fz hb hz ho hp hl hr=>
  have hbl:g2.φ id<w2.heap.size:=(Array.getElem?_eq_some_iff.1 hb).1
  let g':=g2.settled g.n (g2.φ id) arr.size
  have hg:Grow g2 w2 g' w2:=⟨qOB _,fun x=>by
   show g2.pub x<=(if x=g2.φ id then arr.size else g2.pub x)
   split
   ·rename_i e;subst e;rw [hp];exact Nat.zero_le _
   ·exact qOB _,fun _ _ _=>rfl⟩
  have hg1:Grow {g2 with n:=g.n} w2 g' w2:=⟨hg.size,hg.pub,hg.cell⟩
  have hk:∀ℓ,ℓ≠.oblk id->Kept {g2 with n:=g.n} w2 g' w2 ℓ:=fun ℓ hℓ=>⟨fun x hx=>by
   have hne:x≠g2.φ id:=by
    intro e;subst e
    have hx':g2.own (g2.φ id)=some ℓ:=hx
    rw [ho] at hx'
    exact hℓ (Option.some.inj hx').symm
   exact ⟨by simp [g',Gh.settled,hne];exact hx,rfl,by simp [g',Gh.settled,hne]⟩⟩
  have hgn:g'.n=g.n:=rfl
  refine ⟨g',⟨h0.n,fun i ob hi=>?_,fun x hx=>?_,h2.gl.mono hg⟩,⟨⟨hE.size,fun x=>Nat.le_trans (hE.pub x) (hg.pub x),hE.cell⟩,qOB _,hE.φ,fun x hx hxo=>?_,hE.io⟩,?_⟩
  ·have hlt:i<H.length:=(List.getElem?_eq_some_iff.1 hi).1
   have e:=hold i hlt
   have hgl:i<g.n:=by rw [h0.n];exact hlt
   exact ((h2.h i ob (e▸hi)).shrink (h0.h i ob hi) hE.n hgl).mono hg1 (qOB _) (fun _ _=>rfl) hgl (hk _ (by simp;omega)) (fun j=>hk _ (by simp))
  ·have hne:x≠g2.φ id:=by omega
   have:=h2.fresh x hx
   simpa [g',Gh.settled,hne] using this
  ·obtain ⟨k1,k2,k3⟩:=hE.keep x hx hxo
   have hne:x≠g2.φ id:=by
    intro e;subst e
    rw [ho] at k1
    rcases hxo with h|h<;>rw [h] at k1<;>cases k1
   exact ⟨by simp [g',Gh.settled,hne];exact k1,k2,by simp [g',Gh.settled,hne];exact k3⟩
  ·cases hv with
   | s hv=>
    cases hv with
    | rs _ _ _ _ c2 hidn hcap0 hcap2=>
     have hcap:=Nat.le_trans hcap0 hcap2
     obtain ⟨vs,hvl,hrep,hcell⟩:=qaA (M:=M) (g:=g2) hds hl hle hb (fun i x v hx hv=>(hr i x v hx hv).read)
     have hdl:ds.length=len:=by rw [hrep.length,hvl]
     have hflat:∀(l:List D),D.ones l=true->l.flatMap D.cells=l/\∀x ∈ l,x.cells.length=1:=by
      intro l
      induction l with
      | nil=>intro _;exact ⟨rfl,fun x hx=>by simp at hx⟩
      | cons y l ih=>
       intro h
       simp only [D.ones,qOy] at h
       obtain ⟨i1,i2⟩:=ih h.2
       refine ⟨by rw [List.flatMap_cons,i1,qeP h.1];rfl,fun x hx=>?_⟩
       rcases List.mem_cons.1 hx with rfl|hx
       ·rw [qeP h.1];rfl
       ·exact i2 x hx
     obtain ⟨f1,f2⟩:=hflat ds hones
     have hrep':RepDL g'.pub w2 ds vs:=hrep.mono hg.pub hg.cell
     refine .s (.d _ _ ?_)
     rw [<- hdl]
     refine .sl ds (g2.φ id) off c2 1 vs (by intro e;rw [e] at hdl;simp at hdl;omega) f2 (by rw [f1];exact hrep') hcell ?_ (by omega) (hrep.ones hones)
     show off+vs.length<=(if g2.φ id=g2.φ id then arr.size else _)
     rw [if_pos rfl,hvl]
     exact Nat.le_trans hle hl
theorem qqd {H:List Obj} {st2:St} {g2:Gh} {w2:World} (h0:RelH M g w H) (h2:RelH M g2 w2 st2.H) (hE:Evo g w g2 w2) (hlo:∀id,id<st2.lo->id<H.length->st2.H[id]?=H[id]?)
  {pan:Bool} {v:V} {c:Value} (hv:RepA M g2 w2 0 v c) {r:Cr} (hr:leave H pan v st2=some r) :
  r.pan=pan/\∃g',RelH M g' w2 r.H/\Evo g w g' w2/\RepA M g' w2 0 r.v c:=by
 unfold leave at hr
 cases hl:v.leaves with
 | false=>simp [hl] at hr
 | true=>
  simp only [hl,cond_true] at hr
  cases hs:(Nat.ble (settle H.length st2.H v).ref H.length && Nat.ble H.length st2.lo) with
  | false=>
   simp only [hs,cond_false,Option.some.injEq] at hr
   subst hr
   exact ⟨rfl,g2,h2,hE,hv⟩
  | true=>
   simp only [hs,cond_true,Option.some.injEq] at hr
   subst hr
   simp only [qOy] at hs
   have hs1:=qOH hs.1
   have hs2:=qOH hs.2
   rcases qtI H.length st2.H v with hset|⟨id,off,len,cap,cs,ds,rfl,k1,k2,k3,k4,k5,k6,k7⟩
   case inr=>
    rw [k7]
    exact ⟨rfl,qrT h0 h2 hE (fun i hi=>hlo i (by omega) hi) hv k1 k2 k3 k4 k5 k6⟩
   rw [hset] at hs1 |-
   have hg:Grow g2 w2 {g2 with n:=g.n} w2:=⟨qOB _,fun _=>qOB _,fun _ _ _=>rfl⟩
   refine ⟨rfl,{g2 with n:=g.n},⟨h0.n,fun id ob hob=>?_,h2.fresh,h2.gl.mono hg⟩,⟨⟨hE.size,hE.pub,hE.cell⟩,qOB _,hE.φ,hE.keep,hE.io⟩,?_⟩
   ·have hlt:id<H.length:=(List.getElem?_eq_some_iff.1 hob).1
    have e:=hlo id (by omega) hlt
    exact (h2.h id ob (e▸hob)).shrink (h0.h id ob hob) hE.n (by rw [h0.n];exact hlt)
   ·cases hv with
    | s hv=>exact .s (hv.mono hg (qOB _) (fun _ _=>rfl) (by rw [h0.n];exact hs1))
    | osl hv=>exact .osl (hv.relabel rfl (fun _ h=>h))
end
end W
