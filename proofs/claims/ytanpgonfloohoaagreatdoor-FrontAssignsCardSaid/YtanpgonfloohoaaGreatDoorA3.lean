/-
  FrontAssigns, part 3.
-/
import Derived.Laws.IdiomRangeMap
import Derived.OrdersIn
import Derived.RangeFuncLeaves
import Derived.RecoverIn
import Derived.RangeFuncOwn
import Derived.RangeFuncIn
import Derived.Test.YtanpgonfloohoaaGreatDoorA2
set_option linter.unusedSimpArgs false
set_option linter.unusedVariables false
/-
  More of rows: nil's room, zeros, a row's beginning, a row converted; ranges over maps.
-/
open Bool renaming cond_eq_ite->qOx,and_eq_true->qOy,false_eq_true->qOF
open Nat renaming eq_of_beq_eq_true->qOz,le_refl->qOB,beq->qOC,le_of_ble_eq_true->qOH
open Option renaming bind_eq_some_iff->qOA,bind_eq_bind->qOD,pure_def->qOE,map_some->qOG
namespace W
open Go (World Value Addr IntKind Program TypeId FuncId Operand Act Oper Next Result Sem BinOp UnOp)
section
variable {P:Program} {M:Maps} {g:Gh} {w:World} {β:Nat->Nat} {st:St} {o:Oper} {a:Act}
theorem qBw (hd:qg o a) (hR:Rel M g w β st a.tmps) {t e:TypeId} (ht:P.underlying t=some (.slice e)) {x:Operand} {c:Go.Call} (ho:o.op=.call c) (hcal:c.callee=.builtin .cap) (hargs:c.args.toList=[x]) (hats:c.argTypes.toList=[t])
  {x':O} (hx:opnd M false x=some x') {r:Or} (hr:qom x' st=some r):Left1 P M g w o a r:=by
 have h1:=qf hR hx
 unfold qom at hr
 split at hr
 ·rename_i hxv
  rw [hxv] at h1
  have hxe:a.eval x=.slice none 0 0:=by
   have h3:=h1.inv_d
   generalize a.eval x=cc at h3
   cases h3;rfl
  refine qb hd hR (c:=.int .i64 0) (.s (.d _ _ (.i _ _))) ?_ hr
  obtain ⟨cal,cargs,cats⟩:=c
  simp only at hcal hargs hats
  subst hcal
  have e1:cargs=#[x]:=Array.ext' hargs
  have e2:cats=#[t]:=Array.ext' hats
  subst e1;subst e2
  simp only [Go.execOp,ho,Go.resolve,Go.invoke,Go.builtin,Sem.run_bind,Sem.run_pure,Result.andThen_ok]
  simp [Go.Builtin.cap_,Go.run_underlying ht,hxe,Go.goInt]
 ·cases hr
theorem qrR {t u ty e:TypeId} {i:Go.TypeInfo} {z:Value} (ht:P.underlying t=some (.slice e)) (hu:P.underlying u=some (.int .i64)) (hi:P.info? e=some i) (hz:i.zero=some z) {m:Nat} (hm:0<m) (hm2:m<=536870912) (hs:0<i.size) (hb:i.bytes<=262144) :
  (Go.Builtin.append_ #[t,u] ty #[.slice none 0 0,.int .i64 m]).run P w =
   .ok (.slice (some ⟨w.heap.size,0,none⟩) m (Go.grownCap w m 0 e))
    (w.drew.alloc (.cells (Go.Builtin.zeroCells z.cells m++Go.Builtin.zeroCells z.cells (Go.grownCap w m 0 e - m)) e)):=by
 have hmul:m * i.bytes<=536870912 * 262144:=Nat.mul_le_mul hm2 hb
 have hw:IntKind.i64.wrap (m:Int)=m:=by
  rw [Go.IntKind.wrap_i64];omega
 have h1:¬((m:Int)<0):=by omega
 have h2:¬((281474976710656:Int)<(m:Int) * (i.bytes:Int)):=by
  have:(m:Int) * (i.bytes:Int)=((m * i.bytes:Nat):Int):=by simp
  rw [this];omega
 have h3:¬(m * i.size=0):=by
  have:=Nat.mul_pos hm hs;omega
 have h4:¬(m=0):=by omega
 have h5:¬(9223372036854775807<(m:Int)):=by omega
 have hg:(0:Nat)<m:=hm
 have hfit:=Go.growslice_fits (need:=m) (old:=0) (bytes:=i.bytes) hg (by omega)
 have h48':¬(281474976710656<Go.Builtin.nextslicecap m 0 * i.bytes):=by omega
 simp [Go.Builtin.append_,Go.run_underlying ht,Go.run_underlying hu,Go.sizeOf,Go.typeInfo,Go.zeroValue,hi,hz,hw,h1,h2,h3,h4,h5,h48',Go.Question.forced,Go.newRow,Go.grownCap,Go.asInt,Go.asIntOf,Go.Builtin.firstCells]
theorem qsv {z:Value} {zd:D} (hz:RepDL g.pub w zd.cells z.cells.toList) {sz:Nat} (hl:zd.cells.length=sz) (hs:0<sz) (n:Nat):∀(i:Nat) y u,(qaW (List.replicate n zd))[i]?=some y->(Go.Builtin.zeroCells z.cells n)[i]?=some u->RepS M g w y u:=fun i y u hy hu=>by
 have h:=zU (g:=g) (w:=w) hz hl hs n
 obtain ⟨u',hu',hr⟩:=(RepSL.ofD (M:=M) h).get i y hy
 have e:u=u':=by
  have hzs:z.cells.size=sz:=by rw [<- hl];simpa using hz.length.symm
  rw [Go.Builtin.zeroCells,hzs] at hu
  rw [hzs,Array.getElem?_toList,hu] at hu'
  exact Option.some.inj hu'
 rw [e];exact hr
theorem qxz (hd:qg o a) (hR:Rel M g w β st a.tmps) {t u e:TypeId} {i:Go.TypeInfo} {z:Value} (ht:P.underlying t=some (.slice e)) (hu:P.underlying u=some (.int .i64)) (hi:P.info? e=some i) (hz:i.zero=some z) {zd:D} (hzd:RepDL g.pub w zd.cells z.cells.toList)
  {x y:Operand} {c:Go.Call} (ho:o.op=.call c) (hcal:c.callee=.builtin .append) (hargs:c.args.toList=[x,y]) (hats:c.argTypes.toList=[t,u]) {l:L} (hl:l.n=i.size) (hl0:0<l.n)
  {x' y':O} (hx:opnd M false x=some x') (hy:opnd M false y=some y') {r:Or} (hr:qd7 l i.bytes zd x' y' st=some r):Left1 P M g w o a r:=by
 have h1:=qf hR hx
 have h2:=qf hR hy
 have hsm:SameMem w w.drew:=⟨rfl,rfl,rfl⟩
 unfold qd7 at hr
 split at hr
 ·rename_i m hxv hyv
  rw [hxv] at h1
  rw [hyv] at h2
  have hxe:a.eval x=.slice none 0 0:=by
   have h3:=h1.inv_d
   generalize a.eval x=cc at h3
   cases h3;rfl
  have hye:a.eval y=.int .i64 m:=by
   have h3:=h2.inv_d
   generalize a.eval y=cc at h3
   cases h3;rfl
  split at hr
  ·rename_i hb
   obtain ⟨b1,b2,b3,b4,b5⟩:=hb
   simp only [okH,Option.some.injEq] at hr
   subst hr
   have hm:m=(m.toNat:Int):=by omega
   have hzl:zd.cells.length=i.size:=b3.trans hl
   have hzs:z.cells.size=i.size:=by
    have:=hzd.length
    rw [hzl] at this
    simpa using this.symm
   have hge:=Go.grownCap_ge w m.toNat 0 e
   have hsz0:(Go.Builtin.zeroCells z.cells m.toNat).size=m.toNat * i.size:=by rw [Go.size_zeroCells,hzs]
   have hfl:(qaW (List.replicate m.toNat zd)).length=m.toNat * i.size:=by
    rw [qaY (n:=i.size) (fun q hq=>by rw [List.eq_of_mem_replicate hq];exact hzl),List.length_replicate]
   have hgc:Go.grownCap w m.toNat 0 e * i.size<=(Go.Builtin.zeroCells z.cells m.toNat++Go.Builtin.zeroCells z.cells (Go.grownCap w m.toNat 0 e - m.toNat)).size:=by
    rw [Array.size_append,hsz0,Go.size_zeroCells,hzs,<- Nat.add_mul]
    exact Nat.mul_le_mul_right _ (by omega)
   have hR':=hR.sameMem hsm
   obtain ⟨k1,k2⟩:=qnX hR' l (cs:=qaW (List.replicate m.toNat zd)) (arr:=Go.Builtin.zeroCells z.cells m.toNat++Go.Builtin.zeroCells z.cells (Go.grownCap w m.toNat 0 e - m.toNat)) e (c:=Go.grownCap w m.toNat 0 e * i.size)
    (by rw [hfl];exact Nat.le_trans (Nat.mul_le_mul_right _ hge) hgc) hgc (fun j q v hq hv=>by
     have hj:j<(Go.Builtin.zeroCells z.cells m.toNat).size:=by
      rw [hsz0,<- hfl];exact (List.getElem?_eq_some_iff.1 hq).1
     refine qsv (hzd.mono (hsm.grow g).pub (hsm.grow g).cell) hzl (by omega) m.toNat j q v hq ?_
     rw [Array.getElem?_append_left hj] at hv
     exact hv)
   have e0:w.drew.heap.size=w.heap.size:=rfl
   rw [e0] at k1 k2
   refine ⟨.slice (some ⟨w.heap.size,0,none⟩) m.toNat (Go.grownCap w m.toNat 0 e),_,_,β,.value (zj (args:=[]) (ats:=[]) ho hcal hargs hats (fun ty=>?_)),k1.putV hd (.s ?_),(hsm.evo g).trans k2⟩
   ·rw [hxe,hye,hm]
    exact qrR ht hu hi hz (by omega) (by omega) (by omega) b4
   ·have:=RepS.row (M:=M) (g:=g.withObj w.heap.size (Go.grownCap w m.toNat 0 e * i.size)) (w:=w.drew.alloc (.cells (Go.Builtin.zeroCells z.cells m.toNat++Go.Builtin.zeroCells z.cells (Go.grownCap w m.toNat 0 e - m.toNat)) e)) g.n i.size m.toNat (Go.grownCap w m.toNat 0 e) (Nat.lt_succ_self _) hge (by simp [Gh.withObj,Gh.ζ])
    rw [<- hR.n,hl]
    simpa [Gh.withObj,Gh.φ] using this
  ·cases hr
 ·cases hr
theorem qwA (hd:qg o a) (hR:Rel M g w β st a.tmps) {t e:TypeId} (ht:P.underlying t=some (.slice e)) {i:Go.TypeInfo} (hi:P.info? e=some i) {x h:Operand} (ho:o.op=.slice t x none (some h) none)
  {x' h':O} (hx:opnd M false x=some x') (hh:opnd M false h=some h') {r:Or} (hr:qcx x' h' st=some r):Left1 P M g w o a r:=by
 have h1:=qf hR hx
 have h2:=qf hR hh
 unfold qcx at hr
 split at hr
 ·rename_i id sz len k n hxv hhv
  rw [hxv] at h1
  rw [hhv] at h2
  have hhe:a.eval h=.int k n:=by
   have h3:=h2.inv_d
   generalize a.eval h=cc at h3
   cases h3;rfl
  split at hr
  ·rename_i l cs hob
   split at hr
   ·rename_i hb
    obtain ⟨b1,b2,b3⟩:=hb
    simp only [okH,Option.some.injEq] at hr
    subst hr
    generalize hxe:a.eval x=xc at h1
    cases h1 with
    | s h1=>
    cases h1 with
    | row _ _ _ cap hid hcap hζ=>
    cases hR.h id _ hob with
    | row _ _ arr T hbk hown hpub hle hζa hcr=>
    have hlt:g.φ id<w.heap.size:=(Array.getElem?_eq_some_iff.1 hbk).1
    have hRk:=hR.kill id (min st.lo id)
    have hdead:({st with H:=qQ st.H id .dead,lo:=min st.lo id}:St).H[id]?=some .dead:=by
     simp only [qQ,List.getElem?_set]
     simp [(List.getElem?_eq_some_iff.1 hob).1]
    have hgr:Grow g w (g.withObj (g.φ id) (g.ζ id)) w:=⟨qOB _,fun _=>qOB _,fun _ _ _=>rfl⟩
    have hφ:∀id',id'<g.n->(g.withObj (g.φ id) (g.ζ id)).Φ id'=g.Φ id':=fun id' hi=>by
     have:id'≠g.n:=by omega
     simp [Gh.withObj,this]
    have eφ:(g.withObj (g.φ id) (g.ζ id)).φ g.n=g.φ id:=by simp [Gh.withObj,Gh.φ]
    have eζ:(g.withObj (g.φ id) (g.ζ id)).ζ g.n=g.ζ id:=by simp [Gh.withObj,Gh.ζ]
    obtain ⟨k1,k2⟩:=hRk.adopt hdead (b:=g.φ id) (c:=g.ζ id) hown hlt (Wr.refl g w _) (ob:=.row l (cs.take (n.toNat * sz))) (.row _ _ arr T (by rw [eφ];exact hbk) (by rw [eφ];simp [Gh.withObj]) (by rw [eφ];exact hpub)
     (by rw [List.length_take];omega) (by rw [eζ];exact hζa) (fun j q v hq hv=>by
      rw [List.getElem?_take] at hq
      split at hq
      ·exact (hcr j q v hq hv).mono hgr (Nat.le_succ _) hφ (hcr j q v hq hv).ref
      ·cases hq))
    refine ⟨.slice (some ⟨g.φ id,0,none⟩) n.toNat cap,_,_,β,.value ?_,k1.putV hd (.s ?_),k2⟩
    ·have hb:0<=n/\n<=(cap:Int):=by omega
     simp [Go.execOp,ho,hxe,hhe,Go.Instr.sliceAt,Go.Instr.slice,Go.run_underlying ht,Go.Instr.sliceBounds,Go.Instr.sliceBound,Go.asIntOf,hb,Go.sizeOf,Go.typeInfo,hi]
     exact fun _=>rfl
    ·have:=RepS.row (M:=M) (g:=g.withObj (g.φ id) (g.ζ id)) (w:=w) g.n sz n.toNat cap (Nat.lt_succ_self _) (by omega) (by rw [eζ];exact hζ)
     rw [<- hR.n]
     simpa [Gh.withObj,Gh.φ] using this
   ·cases hr
  ·cases hr
 ·cases hr
theorem Rel.wrNone {tmps:Array Value} (hR:Rel M g w β st tmps) {w':World} {b:Nat} (hb:g.own b=none) (hlt:b<w.heap.size) (hw:Wr g w w' b):Rel M g w' β st tmps:=by
 have hk:∀ℓ,Kept g w g w' ℓ:=fun ℓ=>⟨fun x hx=>⟨hx,hw.other x (fun e=>by subst e;rw [hb] at hx;cases hx),rfl⟩⟩
 exact ⟨hR.n,fun k=>(hR.e k).mono hw.grow (qOB _) (fun _ _=>rfl) (hk _) (hk _) (fun i=>hk _),fun id ob hob=>(hR.h id ob hob).mono hw.grow (qOB _) (fun _ _=>rfl) (by rw [hR.n];exact (List.getElem?_eq_some_iff.1 hob).1) (hk _) (fun i=>hk _),
  fun x hx=>hR.fresh x (by rw [<- hw.size];exact hx),hR.gl.mono hw.grow⟩
theorem qCN (hd:qg o a) (hR:Rel M g w β st a.tmps) {t e:TypeId} (ht:P.underlying t=some (.slice e)) (he:P.underlying e=some (.int .u8)) {x:Operand} (ho:o.op=.convert t t x)
  {x':O} (hx:opnd M false x=some x') {r:Or} (hr:qnT x' st=some r):Left1 P M g w o a r:=by
 have h1:=qf hR hx
 unfold qnT at hr
 split at hr
 ·rename_i id sz len hxv
  rw [hxv] at h1
  split at hr
  ·rename_i hf
   obtain ⟨l,cs,ds,hob,hds,hones,hcl,hl,hlen,hsz,ha,rfl,rfl,rfl⟩:=qcV hf
   simp only [okH,Option.some.injEq] at hr
   subst hr
   obtain ⟨g',k1,k2,_,k4,hown'⟩:=hR.freeze' hob hds hones hcl hl hlen hsz ha (min st.lo id)
   generalize hxe:a.eval x=xc at h1
   cases h1 with
   | s h1=>
   have h5:=k4 _ h1
   cases h1 with
   | row _ _ _ cap hid hcap hζ=>
   cases hR.h id _ hob with
   | row _ _ arr T hbk hown hpub hle hζa hcr=>
   have hlt:g.φ id<w.heap.size:=(Array.getElem?_eq_some_iff.1 hbk).1
   have hw:Wr g' w (w.freeze ⟨g.φ id,arr.size,none⟩ 1) (g.φ id):=by
    unfold World.freeze
    simp only [Nat.one_ne_zero,if_false]
    refine ⟨by simp,fun x hx=>?_,fun o _=>?_,rfl,rfl⟩
    ·simp [Array.getElem?_modify,Ne.symm hx]
    ·simp [World.cell?,Array.getElem?_modify,hbk]
   have hR2:=k1.wrNone hown' hlt hw
   refine ⟨.slice (some ⟨g.φ id,0,none⟩) len cap,_,g',β,.value (w':=w.freeze ⟨g.φ id,arr.size,none⟩ 1) ?_,hR2.putV hd (.s (h5.mono hw.grow (qOB _) (fun _ _=>rfl) h5.ref)),?_⟩
   ·have q1:World.shape? w (g.φ id)=some (T,arr.size):=by simp [World.shape?,hbk]
    simp [Go.execOp,ho,hxe,Go.convert,Go.run_underlying ht,Go.run_underlying he,Go.markStringish,Go.run_shape,q1,Go.run_freeze]
   ·refine ⟨k2.toGrow.trans hw.grow,k2.n,k2.φ,fun x hx hxo=>?_,k2.io⟩
    obtain ⟨j1,j2,j3⟩:=k2.keep x hx hxo
    have hne:x≠g.φ id:=by
     intro e;subst e;rw [hown] at hxo
     rcases hxo with h|h<;>cases h
    exact ⟨j1,hw.other x hne,j3⟩
  ·cases hr
 ·cases hr
theorem qxX (hd:qg o a) (hR:Rel M g w β st a.tmps) {t k e:TypeId} (ht:P.underlying t=some (.map k e)) {x:Operand} (ho:o.op=.range t x)
  {x':O} (hx:opnd M false x=some x') {r:Or} (hr:qej x' st=some r):Left1 P M g w o a r:=by
 have h1:=qf hR hx
 unfold qej at hr
 split at hr
 ·rename_i id hxv
  rw [hxv] at h1
  split at hr
  ·rename_i es hob
   simp only [okH,Option.some.injEq] at hr
   subst hr
   generalize hxe:a.eval x=xc at h1
   cases h1 with
   | s h1=>
   cases h1 with
   | map _ hid=>
   cases hR.h id _ hob with
   | map _ ents clock hb hown hes=>
   have hlt:g.φ id<w.heap.size:=(Array.getElem?_eq_some_iff.1 hb).1
   obtain ⟨k1,k2⟩:=hR.newObj (c:=0) (.iter id) (.mapIter (some (g.φ id)) clock #[] clock) (.iter id clock (by
    have e1:(g.withObj w.heap.size 0).φ g.n=w.heap.size:=by simp [Gh.withObj,Gh.φ]
    have e2:(g.withObj w.heap.size 0).φ id=g.φ id:=by
     have:id≠g.n:=by omega
     simp [Gh.withObj,Gh.φ,this]
    rw [e1,e2];exact qK w _) (by simp [Gh.withObj,Gh.φ]) (Nat.lt_succ_of_lt hid))
   refine ⟨.pointer (some ⟨w.heap.size,0,none⟩),_,_,β,.value ?_,k1.putV hd (.s ?_),k2⟩
   ·simp only [Go.execOp,ho,Sem.run_bind,hxe,Go.run_range_map w t k e _ _ _ ht hb,Result.andThen_ok,Sem.run_pure]
   ·have:=RepS.ptr (M:=M) (g:=g.withObj w.heap.size 0) (w:=w.alloc (.mapIter (some (g.φ id)) clock #[] clock)) g.n 0 (Nat.lt_succ_self _)
    rw [<- hR.n]
    simpa [Gh.withObj,Gh.φ] using this
  ·cases hr
 ·cases hr
theorem qBJ (hd:qg o a) (hR:Rel M g w β st a.tmps) {t:TypeId} {x:Operand} (ho:o.op=.next x false)
  {x':O} (hx:opnd M false x=some x') {r:Or} (hr:qnr x' st=some r):Left1 P M g w o a r:=by
 have h1:=qf hR hx
 unfold qnr at hr
 split at hr
 ·rename_i it hxv
  rw [hxv] at h1
  split at hr
  ·rename_i id hit
   split at hr
   ·rename_i hmap
    generalize hxe:a.eval x=xc at h1
    cases h1 with
    | s h1=>
    cases h1 with
    | ptr _ _ hid=>
    cases hR.h it _ hit with
    | iter _ last hb hown hid'=>
    cases hR.h id _ hmap with
    | map _ ents clock hb2 hown2 hes=>
    have hents:ents=#[]:=by
     generalize hl:ents.toList=l at hes
     cases hes
     exact Array.toList_eq_nil_iff.1 hl
    subst hents
    refine qb hd hR (c:=.tuple #[.bool false]) (.s (.tup _ _ (.cons _ _ _ _ (.d _ _ (.b false)) .nil))) ?_ hr
    have q1:(Go.getObj (g.φ it)).run P w=.ok (.mapIter (some (g.φ id)) last #[] last) w:=by simp only [Go.getObj,Sem.run,hb]
    have q2:(Go.getObj (g.φ id)).run P w=.ok (.map #[] clock) w:=by simp only [Go.getObj,Sem.run,hb2]
    simp [Go.execOp,ho,hxe,Go.Instr.next,q1,q2,Go.Question.forced]
   ·cases hr
  ·cases hr
 ·cases hr
theorem qDN {id sz len cap:Nat} {l':L} {cs:List V} {ds:List D} {l:L} {arr:Array Value} {T:TypeId} (hb:w.heap[g.φ id]?=some (.cells arr T (0,0))) (hl:cs.length<=arr.size) (hr:∀(i:Nat) x v,cs[i]?=some x->arr[i]?=some v->RepS M g w x v)
  (hds:jQ cs=some ds) (hones:D.ones ds=true) (hcl:cs.length=len * sz) (hln:l.n=sz) (hsz:0<sz) (ha:l.agg=true\/sz=1) :
  ∃news,Src P g w sz (.slice (some ⟨g.φ id,0,none⟩) len cap) (chunk l len ds) news:=by
 subst hln
 obtain ⟨vs,hvl,hrep,hcell⟩:=qaA (M:=M) (g:=g) (off:=0) (n:=cs.length) (cs:=cs) (by simpa using hds) hl (by simp) hb (fun i x v hx hv=>by
  have h:=hr i x v hx hv
  have e:zy x=x:=by cases h<;>rfl
  rw [e];exact h)
 have hdl:ds.length=len * l.n:=by rw [hrep.length,hvl,hcl]
 obtain ⟨c1,c2,c3⟩:=qfv hsz ha len hdl hones
 refine ⟨vs,fun w'=>by rw [c3];rfl,fun w' hw=>?_,by rw [c1];exact hrep,hrep.ones hones,c2⟩
 rw [c3]
 exact Go.run_firstCells_some (P:=P) w' l.n len _ _ _ vs (by rw [hvl,hcl]) (fun j v hj=>by
  rw [kl]
  have:=hcell j v hj
  simpa only [World.cell?,hw.heap] using this)
theorem quX (hd:qg o a) (hR:Rel M g w β st a.tmps) {c:Go.Call} (hcal:c.callee=.builtin .append) {t u e:TypeId} (hats:c.argTypes.toList=[t,u]) (ht:P.underlying t=some (.slice e)) (hu:qo0 P u)
  {i:Go.TypeInfo} (hi:P.info? e=some i) {zd:D} (hz:zE P e=some zd) (hzl:zd.cells.length=i.size) {m:Bool} {x' y':O} (hx:opnds M (fun k=>k == 0 && m) 0 c.args.toList=some [x',y'])
  (ho:o.op=.call c) {l:L} (hl:l.n=i.size) {r:Or} (hr:qbA l i.bytes x' y' st=some r):Left1 P M g w o a r:=by
 unfold qbA at hr
 split at hr
 ·rename_i id sz len hyv
  obtain ⟨x,y,hargs,hx1,hy1⟩:=qo8 hx
  have hX:=qgT hR hx1
  have hY:RepV M g w β (rd st.env y') (a.eval y):=qf hR (by simpa using hy1)
  split at hr
  ·rename_i cs hxv hob
   split at hr
   ·rename_i hb
    obtain ⟨b1,b2,b3,b4,b5⟩:=hb
    split at hr
    ·rename_i ds hds
     split at hr
     ·rename_i hones
      rw [hyv] at hY
      rw [hxv] at hX
      generalize hye:a.eval y=yc at hY
      cases hY with
      | s hY=>
      cases hY with
      | row _ _ _ cap hid hcap hζ=>
      cases hR.h id _ hob with
      | row _ _ arr T hbk hown hpub hle hζa hcr=>
      obtain ⟨news,hs⟩:=qDN (P:=P) (M:=M) (cap:=cap) (l:=l) (l':=l) hbk hle hcr hds hones b2 b1 b3 b4
      obtain ⟨i2,z,hi2,hzz,hzd⟩:=kR hz
      rw [hi] at hi2
      cases hi2
      have hzs:z.cells.size=i.size:=by
       have:=(zO g.pub w z zd hzd).cells.length
       rw [hzl] at this
       simpa using this.symm
      have hsi:sz=i.size:=by omega
      rw [hsi,<- hye] at hs
      have hclen:(chunk l len ds).length=len:=by
       have hdl:ds.length=len * sz:=by
        obtain ⟨vs,hvl,hrep,hcell⟩:=qaA (M:=M) (g:=g) (off:=0) (n:=cs.length) (cs:=cs) (by simpa using hds) hle (by simp) hbk (fun i x v hx hv=>by
         have h:=hcr i x v hx hv
         have e:zy x=x:=by cases h<;>rfl
         rw [e];exact h)
        rw [hrep.length,hvl,b2]
       exact (qfv (by omega) (by rcases b4 with h|h;exact .inl h;exact .inr (by omega)) len (by rw [hdl,b1]) hones).2.2
      cases hX with
      | v h=>cases h with
       | s h=>cases h
      | own h=>
       exact qud hd hR ht hu hi hzz hzs ho hcal hargs hats hs h (by rfl) (by rw [hclen];simpa using b5) hr
     ·cases hr
    ·cases hr
   ·cases hr
  ·cases hr
 ·rw [hl] at hr
  exact qm6 hd hR hcal hats ht hu hi hz hzl hx ho hr
theorem qxv (hd:qg o a) (hR:Rel M g w β st a.tmps) {t e:TypeId} (ht:P.underlying t=some (.slice e)) {i:Go.TypeInfo} (hi:P.info? e=some i) {zd:D} (hz:zE P e=some zd) (hs1:i.size=1) (hzl:zd.cells.length=1)
  {x:Operand} {c:Go.Call} (ho:o.op=.call c) (hcal:c.callee=.builtin .clear) (hargs:c.args.toList=[x]) (hats:c.argTypes.toList=[t])
  {x':O} (hx:opnd M false x=some x') {r:Or} (hr:qd4 zd x' st=some r):Left1 P M g w o a r:=by
 have h1:=qf hR hx
 obtain ⟨i2,z,hi2,hzz,hzd⟩:=kR hz
 rw [hi] at hi2
 cases hi2
 have hrep:=(zO g.pub w z zd hzd).cells
 have hzs:z.cells.size=1:=by
  have:=hrep.length
  rw [hzl] at this
  simpa using this.symm
 have exec:∀{w':World},(∀ty,(Go.Builtin.clear_ #[t] ty #[a.eval x]).run P w=.ok (.tuple #[]) w')->(Go.execOp a.eval o).run P w=.ok (.value (.tuple #[])) w':=by
  intro w' h
  obtain ⟨cal,cargs,cats⟩:=c
  simp only at hcal hargs hats
  subst hcal
  have e1:cargs=#[x]:=Array.ext' hargs
  have e2:cats=#[t]:=Array.ext' hats
  subst e1;subst e2
  simp only [Go.execOp,ho,Go.resolve,Go.invoke,Go.builtin,Sem.run_bind,Sem.run_pure,Result.andThen_ok]
  simp [h]
 unfold qd4 at hr
 split at hr
 ·rename_i hxv
  rw [hxv] at h1
  have h3:=h1.inv_d
  generalize hxe:a.eval x=xc at h3
  cases h3 with
  | sl0 ad cap=>
   refine qb hd hR (c:=.tuple #[]) (.s (.tup _ _ .nil)) (exec (fun ty=>?_)) hr
   rw [hxe]
   simp [Go.Builtin.clear_,Go.run_underlying ht]
  | sl _ b off cap sz vs hne=>exact absurd rfl hne
 ·rename_i id off len cap hxv
  rw [hxv] at h1
  split at hr
  ·rename_i cs hob
   split at hr
   ·rename_i hb
    obtain ⟨b1,b2⟩:=hb
    simp only [okH,Option.some.injEq] at hr
    subst hr
    generalize hxe:a.eval x=xc at h1
    cases h1 with
    | s h1=>
    cases h1 with
    | rs _ _ _ _ cap' hid hcap hcap'=>
    cases hR.h id _ hob with
    | cells _ arr T fz hbk hfz hown hpub hle hcr=>
    have hzsz:(Go.Builtin.zeroCells z.cells len).size=len:=by rw [Go.size_zeroCells,hzs,Nat.mul_one]
    have hfl:∀n,(List.replicate n zd).flatMap D.cells=List.replicate n zd:=fun n=>by
     induction n with
     | zero=>rfl
     | succ n ih=>rw [List.replicate_succ,List.flatMap_cons,ih,qeP b2];rfl
    have hon:∀n,D.ones (List.replicate n zd)=true:=fun n=>by
     induction n with
     | zero=>rfl
     | succ n ih=>rw [List.replicate_succ];simp [D.ones,b2,ih]
    have hone:∀v ∈ (Go.Builtin.zeroCells z.cells len).toList,v.oneCell'=true:=by
     have h:=zU (g:=g) (w:=w) hrep hzl (by omega) len
     rw [hfl] at h
     have h2:=RepDL.ones h (hon len)
     unfold Go.Builtin.zeroCells
     rw [hzs]
     rw [hzs] at h2
     exact h2
    obtain ⟨k0,_,k1,k2⟩:=qmT (M:=M) (g:=g) (w:=w) (f:=fun i=>Loc.ocell id i) (cs:=cs) (vs:=List.replicate len (.d zd)) (us:=(Go.Builtin.zeroCells z.cells len).toList) (off:=off) hle (by simp [hzsz]) (by simpa using b1) hcr (fun i q v hq hv=>.s (qsv hrep hzl (by omega) len i q v (by rw [qaW,hfl,List.map_replicate];exact hq) (by simpa using hv)))
    simp only [List.length_replicate] at k0 k1 k2
    rw [show (Go.Builtin.zeroCells z.cells len).toList.length=len by simpa using hzsz] at k0 k2
    obtain ⟨h3,h4⟩:=hR.setObj hob hown (Wr.setRow (arr.toList.take off++(Go.Builtin.zeroCells z.cells len).toList++arr.toList.drop (off+len)).toArray hpub) (.cells _ _ T fz (Go.setRow_heap w (g.φ id) arr _ T fz hbk) (fun j hj=>hfz j (by rw [k1] at hj;exact hj)) hown hpub k0 (fun i q v hq hv=>(k2 i q v hq hv).mono (Wr.setRow _ hpub).grow (qOB _) (fun _ _=>rfl) ((Wr.setRow _ hpub).kept hown (by simp)))) (min st.lo id)
    refine ⟨.tuple #[],_,g,β,.value (exec (fun ty=>?_)),h3.putV hd (.s (.tup _ _ .nil)),h4⟩
    rw [hxe]
    by_cases hl0:len=0
    ·subst hl0
     have e0:(arr.toList.take off++(Go.Builtin.zeroCells z.cells 0).toList++arr.toList.drop (off+0)).toArray=arr:=by
      simp [Go.Builtin.zeroCells]
     rw [e0,Go.setRow_self w _ arr T fz hbk]
     simp [Go.Builtin.clear_,Go.run_underlying ht]
    ·have hst:=kG P (g.φ id) off T fz (Go.Builtin.zeroCells z.cells len).toList 0 arr w hbk (fun j h1 h2=>hfz j (by simp [hzsz] at h2;omega)) (by simp [hzsz];omega) hone
     simp only [Nat.add_zero,Array.length_toList,hzsz] at hst
     simp [Go.Builtin.clear_,Go.run_underlying ht,Go.zeroValue,Go.typeInfo,hi,hzz,hst,hl0]
   ·cases hr
  ·cases hr
 ·cases hr
end
end W
/-
  A slice of one's own that goes over while a copy stays; pieces of rows copied; a row that becomes a slice of one's own.
-/
namespace W
open Go (World Value Addr IntKind Program TypeId FuncId Operand Act Oper Next Result Sem BinOp UnOp)
section
variable {P:Program} {M:Maps} {g:Gh} {w:World} {β:Nat->Nat} {st:St} {o:Oper} {a:Act}
theorem Rel.congrE {tmps:Array Value} (hR:Rel M g w β st tmps) {st2:St} (hH:st2.H=st.H) (he:∀k,get k st2.env=get k st.env):Rel M g w β st2 tmps:=
 ⟨by rw [hH];exact hR.n,fun k=>by rw [he];exact hR.e k,fun id ob h=>hR.h id ob (by rw [<- hH];exact h),hR.fresh,hR.gl⟩
theorem qrx (hd:qg o a) (hR:Rel M g w β st a.tmps) {x:Operand} {n:Nat} (hx:opnd M true x=some (.mv n)) (ho:o.op=.move x\/o.op=.assign x) {r:Or} (hr:qll n st=some r):Left1 P M g w o a r:=by
 have hq:=qgT hR hx
 have hev:a.eval x=a.tmps.getD n Go.undef:=by
  cases x with
  | tmp t=>
   simp only [opnd,if_true,Option.some.injEq,O.mv.injEq] at hx
   subst hx
   rfl
  | _=>simp [opnd] at hx<;>(try (split at hx<;>simp at hx))
 unfold qll at hr
 split at hr
 ·rename_i xs hx0
  simp only [ok,Option.some.injEq] at hr
  subst hr
  have e:rd st.env (.mv n)=.osl xs:=by show qiA (get n st.env)=_;rw [hx0];rfl
  rw [e] at hq
  have hv:OwnSl g w (.slot n) xs (a.eval x):=by
   cases hq with
   | v hv=>cases hv with
    | s h=>cases h
   | own hv=>exact hv
  obtain ⟨g',k1,k2⟩:=(hR.drop n).putOwn hd (by simp [qc]) hv
  refine ⟨a.eval x,w,g',β,.value ?_,?_,k2⟩
  ·rcases ho with ho|ho<;>simp only [Go.execOp,ho]<;>rfl
  ·by_cases hdn:o.dst=some n
   ·refine k1.congrE (by rw [qL (by intro cs e;cases e),qL (by intro cs e;cases e),hdn]) (fun k=>?_)
    rw [qL (by intro cs e;cases e),qL (by intro cs e;cases e),hdn]
    simp only [qc]
    split<;>rfl
   ·have hc:(a.put o.dst (a.eval x)).tmps.getD n Go.undef=a.eval x:=by
     rw [hev]
     cases hdst:o.dst with
     | none=>rfl
     | some m=>
      have hmn:m≠n:=fun e=>hdn (by rw [hdst,e])
      simp only [Act.put,Array.getD_eq_getD_getElem?]
      rw [Array.getElem?_setIfInBounds_ne hmn]
    have hrep:RepT M g' w β n (.d (.sl xs)) ((a.put o.dst (a.eval x)).tmps.getD n Go.undef):=by
     rw [hc];exact .s (.d _ _ (hv.rep.mono k2.pub k2.cell))
    refine (k1.reslot hrep).congrE (by rw [qL (by intro cs e;cases e)];cases o.dst<;>(rw [qL (by intro cs e;cases e)])) (fun k=>?_)
    rw [qL (by intro cs e;cases e),qL (by intro cs e;cases e)]
    cases hdst:o.dst with
    | none=>
     simp only [qc]
     split<;>rfl
    | some m=>
     have hmn:n≠m:=fun e=>hdn (by rw [hdst,e])
     simp only [qc]
     by_cases hk:k=n
     ·subst hk;simp [hmn]
     ·simp [hk]
 ·cases hr
theorem qr4 (hR:Rel M g w β st a.tmps) {v:V} {c:Value} {ds:List D} (h:RepV M g w β v c) (hp:qw1 st.H v=some ds) :
  ∃(ad:Addr) (cap:Nat) (us:List Value),c=.slice (some ad) ds.length cap/\us.length=ds.length/\RepDL g.pub w ds us/\∀j u,us[j]?=some u->w.cell? (ad.add j)=some u:=by
 unfold qw1 at hp
 split at hp
 ·simp only [Option.some.injEq] at hp
  subst hp
  have h3:=h.inv_d
  cases h3 with
  | sl0 ad cap=>exact ⟨ad,cap,[],rfl,rfl,.nil,fun j u hj=>by simp at hj⟩
  | sl _ b off cap sz vs hne=>exact absurd rfl hne
 ·rename_i id off n cap
  split at hp
  ·rename_i l cs hob
   split at hp
   ·rename_i hle
    cases h with
    | s h=>cases h with
     | rs _ _ _ _ cap' hid hcap hcap'=>
     cases hR.h id _ hob with
     | row _ _ arr T hb ho hp0 hl hζ hr=>
     obtain ⟨us,hul,hrep,hcell⟩:=qaA (M:=M) (g:=g) (off:=off) (n:=n) (cs:=cs) hp hl hle hb (fun i x v hx hv=>by
      have h:=hr i x v hx hv
      have e:zy x=x:=by cases h<;>rfl
      rw [e];exact h)
     have hdl:ds.length=n:=by rw [hrep.length,hul]
     refine ⟨⟨g.φ id,off,none⟩,cap',us,by rw [hdl],by rw [hul,hdl],hrep,fun j u hj=>?_⟩
     rw [kl]
     exact hcell j u hj
   ·cases hp
  ·cases hp
 ·cases hp
theorem qAq (hd:qg o a) (hR:Rel M g w β st a.tmps) {t t2 e:TypeId} (ht:P.underlying t=some (.slice e)) {i:Go.TypeInfo} (hi:P.info? e=some i) (hs1:i.size=1)
  {x y:Operand} {c:Go.Call} (ho:o.op=.call c) (hcal:c.callee=.builtin .copy) (hargs:c.args.toList=[x,y]) (hats:c.argTypes.toList=[t,t2])
  {x' y':O} (hx:opnd M false x=some x') (hy:opnd M false y=some y') {r:Or} (hr:qjN x' y' st=some r):Left1 P M g w o a r:=by
 have h1:=qf hR hx
 have h2:=qf hR hy
 have exec:∀{w':World} {n:Nat},(∀ty,(Go.Builtin.copy_ #[t,t2] ty #[a.eval x,a.eval y]).run P w=.ok (.int .i64 n) w')->(Go.execOp a.eval o).run P w=.ok (.value (.int .i64 n)) w':=by
  intro w' n h
  obtain ⟨cal,cargs,cats⟩:=c
  simp only at hcal hargs hats
  subst hcal
  have e1:cargs=#[x,y]:=Array.ext' hargs
  have e2:cats=#[t,t2]:=Array.ext' hats
  subst e1;subst e2
  simp only [Go.execOp,ho,Go.resolve,Go.invoke,Go.builtin,Sem.run_bind,Sem.run_pure,Result.andThen_ok]
  simp [h]
 unfold qjN at hr
 split at hr
 ·rename_i ds hxv hpc
  rw [hxv] at h1
  have h3:=h1.inv_d
  generalize hxe:a.eval x=xc at h3
  obtain ⟨ad2,cap2,us,hye,hul,hrep,hcell⟩:=qr4 hR h2 hpc
  cases h3 with
  | sl0 ad cap=>
   refine qb hd hR (c:=.int .i64 (0:Nat)) (.s (.d _ _ (.i _ _))) (exec (fun ty=>?_)) hr
   have hf:=Go.run_firstCells_some (P:=P) w i.size 0 ad2 ds.length cap2 [] (by simp) (fun j v hj=>by simp at hj)
   rw [hxe,hye]
   simp [Go.Builtin.copy_,Go.Builtin.lenOf,Go.run_underlying ht,kK hi,hf,Go.storeCells,Go.goInt]
  | sl _ b off cap sz vs hne=>exact absurd rfl hne
 ·rename_i id off n cap ds hxv hpc
  rw [hxv] at h1
  split at hr
  ·rename_i l cs hob
   split at hr
   ·rename_i hb
    obtain ⟨b1,b2⟩:=hb
    simp only [okH,Option.some.injEq] at hr
    subst hr
    obtain ⟨ad2,cap2,us,hye,hul,hrep,hcell⟩:=qr4 hR h2 hpc
    generalize hxe:a.eval x=xc at h1
    cases h1 with
    | s h1=>cases h1 with
     | rs _ _ _ _ cap' hid hcap hcap'=>
     cases hR.h id _ hob with
     | row _ _ arr T hbk hown hpub hle hζ hcr=>
     have hone:∀v ∈ us.take (min ds.length n),v.oneCell'=true:=fun v hv=>RepDL.ones hrep b2 v (List.mem_of_mem_take hv)
     have hlen:((ds.take n).map V.d).length=(us.take (min ds.length n)).length:=by simp only [List.length_map,List.length_take,hul];omega
     have hfit:off+((ds.take n).map V.d).length<=cs.length:=by simp;omega
     have hf:=Go.run_firstCells_some (P:=P) w i.size (min ds.length n) ad2 ds.length cap2 (us.take (min ds.length n)) (by rw [hs1];simp [hul]) (fun j v hj=>hcell j v (by
      have hj2:=(List.getElem?_eq_some_iff.1 hj).1
      simp at hj2
      rwa [List.getElem?_take,if_pos (by omega)] at hj))
     have hst:=kG P (g.φ id) off T (0,0) (us.take (min ds.length n)) 0 arr w hbk (fun j _ _=>by simp) (by simp at hlen hfit |-;omega) hone
     simp only [Nat.add_zero] at hst
     have hvrep:∀(j:Nat) x v,((ds.take n).map V.d)[j]?=some x->(us.take (min ds.length n))[j]?=some v->RepS M g w x v:=fun j x v hx hv=>by
      obtain ⟨u',hu',hr'⟩:=(RepSL.ofD (M:=M) (hrep.take (min ds.length n))).get j x (by
       rw [show ds.take (min ds.length n)=ds.take n by rw [List.take_eq_take_iff];omega]
       exact hx)
      rw [hv] at hu';cases hu'
      exact hr'
     obtain ⟨k1,_,k3,k2⟩:=qlL (R:=fun _=>RepS M g w) (us:=us.take (min ds.length n)) hle hlen hfit hcr hvrep
     have hw:=Wr.setRow (w:=w) (arr.toList.take off++us.take (min ds.length n)++arr.toList.drop (off+(us.take (min ds.length n)).length)).toArray hpub
     have hrp:RepO M g (w.setRow (g.φ id) (arr.toList.take off++us.take (min ds.length n)++arr.toList.drop (off+(us.take (min ds.length n)).length)).toArray) id (.row l (cs.take off++(ds.take n).map .d++cs.drop (off+((ds.take n).map V.d).length))):=
      .row _ _ _ T (Go.setRow_heap w (g.φ id) arr _ T (0,0) hbk) hown hpub k1 (Nat.le_trans hζ (by
       have h5:off+(us.take (min ds.length n)).length<=arr.size:=by omega
       simp only [List.size_toArray,List.length_append,List.length_take,List.length_drop,Array.length_toList] at h5 |-
       omega)) (fun i x v hx hv=>(k2 i x v hx hv).mono hw.grow (qOB _) (fun _ _=>rfl) (k2 i x v hx hv).ref)
     obtain ⟨h3,h4⟩:=hR.setObj hob hown hw hrp (min st.lo id)
     refine ⟨.int .i64 (min ds.length n:Nat),_,g,β,.value (exec (fun ty=>?_)),h3.putV hd (.s (.d _ _ (.i _ _))),h4⟩
     rw [hxe,hye]
     have hmin:Nat.min ds.length n=min ds.length n:=rfl
     simp [Go.Builtin.copy_,Go.Builtin.lenOf,Go.run_underlying ht,kK hi,hmin,hf,hst,Go.goInt]
   ·cases hr
  ·cases hr
 ·cases hr
theorem Rel.freezeK {tmps:Array Value} (hR:Rel M g w β st tmps) {id sz len:Nat} {l:L} {cs:List V} {ds:List D} (hob:st.H[id]?=some (.row l cs)) (hds:jQ cs=some ds) (hones:D.ones ds=true) (hcl:cs.length=len * sz) (hl:l.n=sz) (hlen:0<len) (hsz:0<sz) (ha:l.agg=true\/sz=1) (lo:Nat) {cap:Nat}
  (hcap:len<=cap) (hζ2:cap * sz<=g.ζ id) {w':World} {T:TypeId} {arr:Array Value} (hbk:w.heap[g.φ id]?=some (.cells arr T (0,0))) (hw':w'.heap[g.φ id]?=some (.cells arr T (arr.size,arr.size+1))) (hother:∀x,x≠g.φ id->w'.heap[x]?=w.heap[x]?) (hsize:w'.heap.size=w.heap.size) (hio:w'.os=w.os/\w'.output=w.output) (ℓ:Option Loc) :
  ∃g',Rel M g' w' β {st with H:=qQ st.H id .dead,lo:=lo} tmps/\Evo g w g' w'/\∀d,ℓ=some (.slot d)->OwnSl g' w' (.slot d) (chunk l len ds) (.slice (some ⟨g.φ id,0,none⟩) len cap):=by
 subst hl
 cases hR.h id _ hob with
 | row _ _ arr2 T2 hb ho hp hle hζ hr=>
 rw [hbk] at hb
 cases hb
 have hbl:g.φ id<w.heap.size:=(Array.getElem?_eq_some_iff.1 hbk).1
 let g':Gh:={n:=g.n,Φ:=g.Φ,pub:=fun x=>if x=g.φ id then cs.length else g.pub x,own:=fun x=>if x=g.φ id then ℓ else g.own x}
 have hcellO:∀x o,x≠g.φ id->w'.cell? ⟨x,o,none⟩=w.cell? ⟨x,o,none⟩:=fun x o hx=>zu (hother x hx) o
 have hg:Grow g w g' w':=⟨by omega,fun x=>by
  show g.pub x<=(if x=g.φ id then cs.length else g.pub x)
  split
  ·rename_i e;subst e;rw [hp];exact Nat.zero_le _
  ·exact qOB _,fun x o hx=>by
  by_cases hxe:x=g.φ id
  ·subst hxe;rw [hp] at hx;omega
  ·exact hcellO x o hxe⟩
 have hk:∀ℓ',ℓ'≠.oblk id->Kept g w g' w' ℓ':=fun ℓ' hℓ=>⟨fun x hx=>by
  have hne:x≠g.φ id:=by
   intro e;subst e
   rw [ho] at hx
   exact hℓ (Option.some.inj hx).symm
  exact ⟨by simp [g',hne];exact hx,hother x hne,by simp [g',hne]⟩⟩
 have hE:Evo g w g' w':=⟨hg,qOB _,fun _ _=>rfl,fun x hx hxo=>by
  have hne:x≠g.φ id:=by
   intro e;subst e;rw [ho] at hxo
   rcases hxo with h|h<;>cases h
  exact ⟨by simp [g',hne],hother x hne,by simp [g',hne]⟩,hio⟩
 refine ⟨g',⟨by simpa [qQ,g'] using hR.n,fun k=>?_,fun i ob hi=>?_,fun x hx=>?_,hR.gl.mono hg⟩,hE,fun d hd=>?_⟩
 ·exact (hR.e k).mono hg (qOB _) (fun _ _=>rfl) (hk _ (by simp)) (hk _ (by simp)) (fun i=>hk _ (by simp))
 ·simp only [qQ,List.getElem?_set] at hi
  split at hi
  ·split at hi
   ·cases hi;exact .dead
   ·cases hi
  ·rename_i hne
   exact (hR.h i ob hi).mono hg (qOB _) (fun _ _=>rfl) (by rw [hR.n];exact (List.getElem?_eq_some_iff.1 hi).1) (hk _ (by simp;exact fun e=>hne e.symm)) (fun i=>hk _ (by simp))
 ·have hne:x≠g.φ id:=by omega
  have:=hR.fresh x (by omega)
  simpa [g',hne] using this
 ·obtain ⟨vs,hvl,hrep,hcell⟩:=qaA (M:=M) (g:=g) (off:=0) (n:=cs.length) (cs:=cs) (by simpa using hds) hle (by simp) hbk (fun i x v hx hv=>by
   have h:=hr i x v hx hv
   have e:zy x=x:=by cases h<;>rfl
   rw [e];exact h)
  have hdl:ds.length=len * l.n:=by rw [hrep.length,hvl,hcl]
  obtain ⟨c1,c2,c3⟩:=qfv hsz ha len hdl hones
  have hrep':RepDL g'.pub w' ds vs:=hrep.mono hg.pub hg.cell
  have e:Value.slice (some ⟨g.φ id,0,none⟩) len cap=Value.slice (some ⟨g.φ id,0,none⟩) (chunk l len ds).length cap:=by rw [c3]
  rw [e]
  have hsame:∀o,w'.cell? ⟨g.φ id,o,none⟩=w.cell? ⟨g.φ id,o,none⟩:=fun o=>by simp [World.cell?,hw',hbk]
  refine .mk _ (g.φ id) 0 cap l.n vs arr T (arr.size,arr.size+1) (by intro e;rw [e] at c3;simp at c3;omega) c2 (by rw [c1];exact hrep') (fun j v hj=>by rw [hsame];exact hcell j v hj) ?_ (by rw [c3];exact hcap) (hrep.ones hones) (by simp [g',hd]) hw' (by omega) (fun o h1 h2=>?_)
  ·show (if g.φ id=g.φ id then cs.length else _)=0+vs.length
   rw [if_pos rfl,hvl];omega
  ·rw [qeO hw' o]
   have:o<arr.size:=by omega
   simp;omega
theorem qBy (hd:qg o a) (hR:Rel M g w β st a.tmps) {t e:TypeId} (ht:P.underlying t=some (.slice e)) (he:P.underlying e=some (.int .u8)) {x:Operand} (ho:o.op=.convert t t x)
  {x':O} (hx:opnd M false x=some x') {r:Or} (hr:qnt x' st=some r):Left1 P M g w o a r:=by
 have h1:=qf hR hx
 unfold qnt at hr
 split at hr
 ·rename_i id sz len hxv
  rw [hxv] at h1
  split at hr
  ·rename_i xs H' lo' hf
   obtain ⟨l,cs,ds,hob,hds,hones,hcl,hl,hlen,hsz,ha,e1,rfl,rfl⟩:=qcV hf
   simp only [V.d.injEq,D.sl.injEq] at e1
   subst e1
   simp only [okH,Option.some.injEq] at hr
   subst hr
   generalize hxe:a.eval x=xc at h1
   cases h1 with
   | s h1=>
   cases h1 with
   | row _ _ _ cap hid hcap hζ=>
   cases hR.h id _ hob with
   | row _ _ arr T hbk hown hpub hle hζa hcr=>
   have hw1:(w.freeze ⟨g.φ id,arr.size,none⟩ 1).heap[g.φ id]?=some (.cells arr T (arr.size,arr.size+1)):=by
    unfold World.freeze
    simp [Array.getElem?_modify,hbk]
   have hw2:∀x,x≠g.φ id->(w.freeze ⟨g.φ id,arr.size,none⟩ 1).heap[x]?=w.heap[x]?:=fun x hx=>by
    unfold World.freeze
    simp [Array.getElem?_modify,Ne.symm hx]
   have hw3:(w.freeze ⟨g.φ id,arr.size,none⟩ 1).heap.size=w.heap.size:=by unfold World.freeze;simp
   have hrun:(Go.execOp a.eval o).run P w=.ok (.value (.slice (some ⟨g.φ id,0,none⟩) len cap)) (w.freeze ⟨g.φ id,arr.size,none⟩ 1):=by
    have q1:World.shape? w (g.φ id)=some (T,arr.size):=by simp [World.shape?,hbk]
    simp [Go.execOp,ho,hxe,Go.convert,Go.run_underlying ht,Go.run_underlying he,Go.markStringish,Go.run_shape,q1,Go.run_freeze]
   obtain ⟨g',k1,k2,k3⟩:=hR.freezeK hob hds hones hcl hl hlen hsz ha (min st.lo id) hcap hζ hbk hw1 hw2 hw3 (by unfold World.freeze;exact ⟨rfl,rfl⟩) (o.dst.map .slot)
   refine ⟨_,_,g',β,.value hrun,?_,k2⟩
   rw [qL (by intro cs e;cases e),Act.put_tmps]
   cases hdst:o.dst with
   | none=>exact k1
   | some d=>exact k1.lay (hd d hdst) (.osl (k3 d (by rw [hdst];rfl)))
  ·cases hr
 ·cases hr
end
end W
/-
  Every operation.
-/
namespace W
open Go (World Value Addr IntKind Program TypeId FuncId Operand Act Oper Next Result Sem BinOp UnOp Ending Exit)
section
variable {P:Program} {M:Maps} {g:Gh} {w:World} {β:Nat->Nat} {st:St} {o:Oper} {a:Act} {call:Call}
structure Ends (P:Program) (M:Maps) (g:Gh) (w:World) (o:Oper) (a:Act) (r:Or) (K:Act->World->Prop) (Q:Exit->Act->World->Prop):Prop where
 k:r.pan=false->∀c w' g' β',Rel M g' w' β' (put o.dst r.v r.st) (a.put o.dst c).tmps->Evo g w g' w'->K (a.put o.dst c) w'
 q:r.pan=true->∀cv w' g' β',Rel M g' w' β' r.st a.tmps->Evo g w g' w'->RepA M g' w' 0 r.v cv->Q (.panic [{v:=cv,recovered:=false}]) a w'
theorem Left1.wp {r:Or} {K:Act->World->Prop} {Q:Exit->Act->World->Prop} (h:Left1 P M g w o a r) (hp:r.pan=false) (he:Ends P M g w o a r K Q):o.wp P a w K Q:=by
 obtain ⟨c,w',g',β',hy,hR,hE⟩:=h
 exact hy.wp (he.k hp c w' g' β' hR hE)
theorem qzD (hR:Rel M g w β st a.tmps) {x:Operand} {x':O} (hx:opnd M false x=some x') (ho:o.op=.panic x) {r:Or} (hr:qne x' st=some r) {K:Act->World->Prop} {Q:Exit->Act->World->Prop}
  (he:Ends P M g w o a r K Q):o.wp P a w K Q:=by
 have h1:=qf hR hx
 unfold qne at hr
 split at hr
 ·rename_i t y hv
  simp only [Option.some.injEq] at hr
  subst hr
  rw [hv] at h1
  generalize hc:a.eval x=c at h1
  cases h1 with
  | s h1=>
   have h2:=h1
   cases h1 with
   | ifc _ t' _ cv ht hcv=>
    have hrun:(Go.execOp a.eval o).run P w=.halt (.panic (.iface t' cv)) w:=by
     simp only [Go.execOp,ho,hc,Go.Instr.panic,Sem.run_bind]
     rfl
    unfold Oper.wp
    rw [hrun]
    exact he.q rfl _ w g β hR (Evo.refl g w) (.s h2)
 ·cases hr
theorem qrg (hd:qg o a) (hR:Rel M g w β st a.tmps) {c:Go.Call} (hcal:c.callee=.builtin .append) {t u e:TypeId} (hats:c.argTypes.toList=[t,u]) (ht:P.underlying t=some (.slice e)) (hu:qo0 P u)
  {i:Go.TypeInfo} (hi:P.info? e=some i) {zd:D} (hz:zE P e=some zd) (hzl:zd.cells.length=i.size) (ho:o.op=.call c) {k:OpK} (htr:qtn M P e i c.args.toList=some k) {r:Or} (hr:qa call k st=some r):k.mayPan=false/\Left1 P M g w o a r:=by
 unfold qtn at htr
 split at htr
 ·rename_i l x' y' hl hx
  split at htr
  ·rename_i hs
   simp only [Option.some.injEq] at htr
   subst htr
   obtain ⟨x,y,hargs,hx1,hy1⟩:=qo8 hx
   obtain ⟨i2,z,hi2,hzz,hzd⟩:=kR hz
   rw [hi] at hi2
   cases hi2
   have hzs:z.cells.size=i.size:=by
    have:=(zO g.pub w z zd hzd).cells.length
    rw [hzl] at this
    simpa using this.symm
   exact ⟨rfl,qu3 hd hR ht hu hi hzz hzs ho hcal hargs hats hs.1 hx1 hy1 hr⟩
  ·cases htr
 ·cases htr
theorem qtc (hcs:qn P M call) (hd:qg o a) (hR:Rel M g w β st a.tmps) {A:Ann} {m:Nat->Bool} {loc:Bool} {k:OpK} (htr:zo M P A m loc o.op=some k) (hloc:loc=true->o.dst≠none)
  {r:Or} (hr:qa call k st=some r) {K:Act->World->Prop} {Q:Exit->Act->World->Prop} (he:Ends P M g w o a r K Q):o.wp P a w K Q:=by
 have fin:k.mayPan=false->Left1 P M g w o a r->o.wp P a w K Q:=fun hk h=>h.wp (qst hr hk) he
 cases hop:o.op with
 | move x=>
  simp only [hop,zo] at htr
  split at htr
  ·split at htr
   ·rename_i n hx
    simp only [Option.some.injEq] at htr
    subst htr
    exact fin rfl (qrx hd hR hx (.inl hop) hr)
   ·cases htr
  ·rw [Option.map_eq_some_iff] at htr
   obtain ⟨y,hy,rfl⟩:=htr
   exact fin rfl (qtl hd hR hy (.inl hop) hr)
 | assign x=>
  simp only [hop,zo] at htr
  split at htr
  ·split at htr
   ·rename_i n hx
    simp only [Option.some.injEq] at htr
    subst htr
    exact fin rfl (qrx hd hR hx (.inr hop) hr)
   ·cases htr
  ·rw [Option.map_eq_some_iff] at htr
   obtain ⟨y,hy,rfl⟩:=htr
   exact fin rfl (qtl hd hR hy (.inr hop) hr)
 | pick c x y=>
  simp only [hop,zo,qOD,qOA,qOE,Option.some.injEq] at htr
  obtain ⟨c',hc,x',hx,y',hy,rfl⟩:=htr
  exact fin rfl (qAY hd hR hc hx hy hop hr)
 | alloc t=>
  simp only [hop,zo,qOD,qOA,qOE,Option.some.injEq] at htr
  obtain ⟨z,hz,rfl⟩:=htr
  exact fin rfl (qy2 hd hR hz hop hloc hr)
 | box t x=>
  simp only [hop,zo,qOD,qOA,qOE,Option.some.injEq] at htr
  obtain ⟨x',hx,rfl⟩:=htr
  exact fin rfl (qDz hd hR hx hop hloc hr)
 | build t ps=>
  simp only [hop,zo] at htr
  split at htr
  ·rename_i fs hu
   split at htr
   ·rename_i hpl
    split at htr
    ·simp only [qOD,qOA,qOE,Option.some.injEq] at htr
     obtain ⟨z,hz,ps',hps,rfl⟩:=htr
     exact fin rfl (qo4 hd hR hop hu hpl hz hps hr)
    ·simp only [qOD,qOA,qOE,Option.some.injEq] at htr
     obtain ⟨z,hz,ps',hps,rfl⟩:=htr
     exact fin rfl (qpU hd hR hop hu hpl hz hps hr)
   ·cases htr
  ·rename_i n e hu
   simp only [qOD,qOA,qOE,Option.some.injEq] at htr
   obtain ⟨z,hz,l,hl,ps',hps,rfl⟩:=htr
   exact fin rfl (qq6 hd hR hop hu hl hz hps hr)
  ·cases htr
 | buildSlice t n ps=>
  simp only [hop,zo] at htr
  split at htr
  ·rename_i e hu
   split at htr
   ·rename_i l z hl hz
    split at htr
    ·rename_i hs
     split at htr
     ·simp only [qOD,qOA,qOE,Option.some.injEq] at htr
      obtain ⟨ps',hps,rfl⟩:=htr
      exact fin rfl (qw9 hd hR hop hu hl hz hs hps hr)
     ·split at htr
      ·simp only [qOD,qOA,qOE,Option.some.injEq] at htr
       obtain ⟨ps',hps,rfl⟩:=htr
       exact fin rfl (qrH hd hR hop hu hl hz hs hps hr)
      ·split at htr
       ·split at htr
        ·rename_i h1n
         simp only [qOD,qOA,qOE,Option.some.injEq] at htr
         obtain ⟨ps',hps,rfl⟩:=htr
         exact fin rfl (qsO hd hR hop hu hl hz hs h1n hps hr)
        ·cases htr
       simp only [qOD,qOA,qOE,Option.some.injEq] at htr
       obtain ⟨ps',hps,rfl⟩:=htr
       exact fin rfl (qrD hd hR hop hu hl hz hs hps hr)
    ·cases htr
   ·cases htr
  ·cases htr
 | load t x=>
  simp only [hop,zo] at htr
  split at htr
  ·simp only [qOD,qOA,qOE,Option.some.injEq] at htr
   obtain ⟨l,hl,x',hx,rfl⟩:=htr
   refine fin rfl ?_
   simp only [qa,qfw] at hr
   split at hr
   ·rename_i y hy
    refine qvC hd hR hl hx (sl:=none) hop ?_
    unfold zB
    rw [hy]
    exact hr
   ·cases hr
  simp only [qOD,qOA,qOE,Option.some.injEq] at htr
  obtain ⟨l,hl,x',hx,rfl⟩:=htr
  refine fin rfl ?_
  simp only [qa] at hr
  cases hm:m 9 with
  | false=>rw [hm] at hr;exact qvC hd hR hl hx hop hr
  | true=>rw [hm] at hr;exact qwQ hd hR hl hx hop hr
 | store t p x=>
  simp only [hop,zo,qOD,qOA,qOE,Option.some.injEq] at htr
  obtain ⟨l,hl,p',hp,x',hx,rfl⟩:=htr
  exact fin rfl (qzO hd hR hl hp hx hop hr)
 | nilCheck x=>
  simp only [hop,zo,Option.map_eq_some_iff] at htr
  obtain ⟨y,hy,rfl⟩:=htr
  exact fin rfl (qtR hd hR hy hop hr)
 | binOp op t x y yt=>
  simp only [hop,zo,qOD,qOA,qOE,Option.some.injEq] at htr
  obtain ⟨kd,hk,x',hx,y',hy,rfl⟩:=htr
  exact fin rfl (qEt hd hR hx hy hk hop hr)
 | unOp op t x=>
  simp only [hop,zo,qOD,qOA,qOE,Option.some.injEq] at htr
  obtain ⟨x',hx,rfl⟩:=htr
  exact fin rfl (qKz hd hR hx hop hr)
 | convert s t x=>
  simp only [hop,zo] at htr
  split at htr
  ·rename_i k1 k2 h1 h2
   simp only [qOD,qOA,qOE,Option.some.injEq] at htr
   obtain ⟨x',hx,rfl⟩:=htr
   exact fin rfl (qC2 hd hR hx h1 h2 hop hr)
  ·rename_i h1 h2
   simp only [qOD,qOA,qOE,Option.some.injEq] at htr
   obtain ⟨x',hx,rfl⟩:=htr
   exact fin rfl (qy5 hd hR hx h1 h2 hop hr)
  ·rename_i e h1 h2
   split at htr
   ·rename_i h3
    split at htr
    ·simp only [qOD,qOA,qOE,Option.some.injEq] at htr
     obtain ⟨x',hx,rfl⟩:=htr
     exact fin rfl (qs8 hd hR hx h1 h2 h3 hop hr)
    ·simp only [qOD,qOA,qOE,Option.some.injEq] at htr
     obtain ⟨x',hx,rfl⟩:=htr
     exact fin rfl (qzI hd hR hx h1 h2 h3 hop hr)
   ·cases htr
  ·rename_i e h1 h2
   split at htr
   ·rename_i h3
    simp only [qOD,qOA,qOE,Option.some.injEq] at htr
    obtain ⟨x',hx,rfl⟩:=htr
    exact fin rfl (qCQ hd hR hx h1 h2 h3 hop hr)
   ·cases htr
  ·rename_i e0 e h1 h2
   split at htr
   ·rename_i h3
    split at htr
    ·rename_i hst
     subst hst
     split at htr
     ·simp only [qOD,qOA,qOE,Option.some.injEq] at htr
      obtain ⟨x',hx,rfl⟩:=htr
      exact fin rfl (qBy hd hR h2 h3 hop hx hr)
     ·simp only [qOD,qOA,qOE,Option.some.injEq] at htr
      obtain ⟨x',hx,rfl⟩:=htr
      exact fin rfl (qCN hd hR h2 h3 hop hx hr)
    ·cases htr
   ·cases htr
  ·cases htr
 | typeAssert x xt t c=>
  cases c with
  | false=>simp [hop,zo] at htr
  | true=>
   simp only [hop,zo] at htr
   split at htr
   ·cases htr
   ·cases htr
   ·rename_i dd hni hu
    split at htr
    ·rename_i t' ht
     split at htr
     ·rename_i hinj
      simp only [qOD,qOA,qOE,Option.some.injEq] at htr
      obtain ⟨z,hz,x',hx,rfl⟩:=htr
      exact fin rfl (qsW hd hR ht hinj hu (fun m e=>hni m e) hz hx hop hr)
     ·cases htr
    ·cases htr
 | makeInterface t x=>
  simp only [hop,zo] at htr
  split at htr
  ·cases htr
  ·cases htr
  ·rename_i dd hni hu
   simp only [qOD,qOA,qOE,Option.some.injEq] at htr
   obtain ⟨t',ht,x',hx,rfl⟩:=htr
   exact fin rfl (qy9 hd hR ht hu (fun m e=>hni m e) hx hop hr)
 | makeFunc fn xs ys=>
  cases fn with
  | func f=>
   simp only [hop,zo,qOD,qOA,qOE,Option.some.injEq] at htr
   obtain ⟨f',hf,xs',hx,ys',hy,rfl⟩:=htr
   exact fin rfl (qCd hd hR hf hx hy hop hr)
  | _=>simp [hop,zo] at htr
 | makeMap t x=>
  cases x with
  | none=>
   simp only [hop,zo] at htr
   split at htr
   ·simp only [Option.some.injEq] at htr
    subst htr
    exact fin rfl (qzN hd hR hop hr)
   ·cases htr
  | some x=>simp [hop,zo] at htr
 | makeSlice t x y=>
  simp only [hop,zo] at htr
  split at htr
  ·rename_i e hu
   split at htr
   ·rename_i i z hi hz
    split at htr
    ·rename_i hs
     simp only [qOD,qOA,qOE,Option.some.injEq] at htr
     obtain ⟨x',hx,y',hy,rfl⟩:=htr
     exact fin rfl (qvP hd hR hu hi hz hs hx hy hop hr)
    ·cases htr
   ·cases htr
  ·cases htr
 | slice t x lo hi mx=>
  cases mx with
  | some z=>
   cases hi with
   | none=>simp [hop,zo] at htr
   | some h=>
    simp only [hop,zo] at htr
    split at htr
    ·rename_i e hu
     simp only [qOD,qOA,qOE,Option.some.injEq] at htr
     obtain ⟨l,hl,x',hx,lo',hlo,hi',hhi,mx',hmx,rfl⟩:=htr
     exact fin rfl (qw4 hd hR hu hl hx hlo hhi hmx hop hr)
    ·cases htr
  | none=>
   simp only [hop,zo] at htr
   split at htr
   ·rename_i hu
    simp only [qOD,qOA,qOE,Option.some.injEq] at htr
    obtain ⟨x',hx,lo',hlo,hi',hhi,rfl⟩:=htr
    refine fin rfl ?_
    exact qw8 hd hR hu hx hlo hhi hop hr
   ·rename_i e hu
    split at htr
    ·split at htr
     ·rename_i h0 l hl
      simp only [qOD,qOA,qOE,Option.some.injEq] at htr
      obtain ⟨x',hx,h',hh,rfl⟩:=htr
      obtain ⟨ie,d,hie,_,_⟩:=z5 hl
      exact fin rfl (qwA hd hR hu hie hop hx hh hr)
     ·cases htr
    simp only [qOD,qOA,qOE,Option.some.injEq] at htr
    obtain ⟨l,hl,x',hx,lo',hlo,hi',hhi,rfl⟩:=htr
    exact fin rfl (qxJ hd hR hu hl hx hlo hhi hop hr)
   ·rename_i n e hu
    split at htr
    ·rename_i i hi1
     split at htr
     ·rename_i h1s
      simp only [qOD,qOA,qOE,Option.some.injEq] at htr
      obtain ⟨x',hx,lo',hlo,hi',hhi,rfl⟩:=htr
      exact fin rfl (qxB hd hR hu hi1 h1s hx hlo hhi hop hr)
     ·cases htr
    ·cases htr
   ·cases htr
 | fieldAddr t x f=>
  simp only [hop,zo] at htr
  split at htr
  ·rename_i fs hu
   split at htr
   ·rename_i fd hfd
    split at htr
    ·rename_i l hl
     split at htr
     ·cases htr
     ·rename_i h0
      simp only [qOD,qOA,qOE,Option.some.injEq] at htr
      obtain ⟨x',hx,rfl⟩:=htr
      exact fin rfl (qrV hd hR hu hfd hl h0 hx hop hr)
    ·cases htr
   ·cases htr
  ·cases htr
 | field t x f=>
  simp only [hop,zo] at htr
  split at htr
  ·rename_i fs hu
   split at htr
   ·rename_i fd hfd
    simp only [qOD,qOA,qOE,Option.some.injEq] at htr
    obtain ⟨x',hx,l,hl,rfl⟩:=htr
    exact fin rfl (qyQ hd hR hu hfd hl hx hop hr)
   ·cases htr
  ·cases htr
 | indexAddr t x i=>
  simp only [hop,zo] at htr
  split at htr
  ·rename_i e hu
   simp only [qOD,qOA,qOE,Option.some.injEq] at htr
   obtain ⟨x',hx,i',hi,l,hl,rfl⟩:=htr
   exact fin rfl (qp4 hd hR hu hl hx hi hop hr)
  ·rename_i n e hu
   simp only [qOD,qOA,qOE,Option.some.injEq] at htr
   obtain ⟨x',hx,i',hi,l,hl,rfl⟩:=htr
   exact fin rfl (qrr hd hR hu hl hx hi hop hr)
  ·cases htr
 | index t x i=>
  simp only [hop,zo] at htr
  split at htr
  ·rename_i hu
   simp only [qOD,qOA,qOE,Option.some.injEq] at htr
   obtain ⟨x',hx,i',hi,rfl⟩:=htr
   exact fin rfl (qzt hd hR hu hx hi hop hr)
  ·cases htr
 | lookup t x i c=>
  simp only [hop,zo] at htr
  split at htr
  ·rename_i k e hu
   simp only [qOD,qOA,qOE,Option.some.injEq] at htr
   obtain ⟨kk,hk,z,hz,x',hx,i',hi,rfl⟩:=htr
   exact fin rfl (qwy hd hR hu hk hz hx hi hop hr)
  ·cases htr
 | mapUpdate t p i x=>
  simp only [hop,zo] at htr
  split at htr
  ·rename_i k e hu
   simp only [qOD,qOA,qOE,Option.some.injEq] at htr
   obtain ⟨kk,hk,p',hp,i',hi,x',hx,rfl⟩:=htr
   exact fin rfl (qmv hd hR hu hk hp hi hx (.inl hop) hr)
  ·cases htr
 | insert t p i x=>
  simp only [hop,zo] at htr
  split at htr
  ·rename_i k e hu
   simp only [qOD,qOA,qOE,Option.some.injEq] at htr
   obtain ⟨kk,hk,p',hp,i',hi,x',hx,rfl⟩:=htr
   exact fin rfl (qmv hd hR hu hk hp hi hx (.inr hop) hr)
  ·cases htr
 | extract t i=>
  cases t with
  | tmp t=>
   simp only [hop,zo,Option.some.injEq] at htr
   subst htr
   exact fin rfl (qut hd hR hop hr)
  | _=>simp [hop,zo] at htr
 | range t x=>
  simp only [hop,zo] at htr
  split at htr
  ·rename_i k e hu
   simp only [qOD,qOA,qOE,Option.some.injEq] at htr
   obtain ⟨x',hx,rfl⟩:=htr
   exact fin rfl (qxX hd hR hu hop hx hr)
  ·cases htr
 | next x b=>
  cases b with
  | true=>simp [hop,zo] at htr
  | false=>
   simp only [hop,zo,qOD,qOA,qOE,Option.some.injEq] at htr
   obtain ⟨x',hx,rfl⟩:=htr
   exact fin rfl (qBJ (t:=0) hd hR hop hx hr)
 | panic x=>
  simp only [hop,zo,qOD,qOA,qOE,Option.some.injEq] at htr
  obtain ⟨x',hx,rfl⟩:=htr
  exact qzD hR hx hop hr he
 | call c=>
  simp only [hop,zo] at htr
  split at htr
  ·rename_i hcal
   split at htr
   ·rename_i s hats
    split at htr
    ·rename_i hu
     simp only [qOD,qOA,qOE,Option.some.injEq] at htr
     obtain ⟨l,hl,rfl⟩:=htr
     refine fin rfl ?_
     rcases l with _|⟨x',_|⟨y',l⟩⟩
     ·simp [qa,eBi] at hr
     ·exact qBf hd hR hcal hats hu hl hop hr
     ·simp [qa,eBi] at hr
    ·rename_i e hu
     simp only [qOD,qOA,qOE,Option.some.injEq] at htr
     obtain ⟨l,hl,rfl⟩:=htr
     refine fin rfl ?_
     rcases l with _|⟨x',_|⟨y',l⟩⟩
     ·simp [qa,eBi] at hr
     ·exact qAN hd hR hcal hats hu hl hop hr
     ·simp [qa,eBi] at hr
    ·rename_i k e hu
     simp only [qOD,qOA,qOE,Option.some.injEq] at htr
     obtain ⟨l,hl,rfl⟩:=htr
     refine fin rfl ?_
     rcases l with _|⟨x',_|⟨y',l⟩⟩
     ·simp [qa,eBi] at hr
     ·exact qBU hd hR hcal hats hu hl hop hr
     ·simp [qa,eBi] at hr
    ·cases htr
   ·cases htr
  ·rename_i hcal
   split at htr
   ·rename_i s x hats hargs
    split at htr
    ·rename_i e hu
     simp only [qOD,qOA,qOE,Option.some.injEq] at htr
     obtain ⟨x',hx,rfl⟩:=htr
     exact fin rfl (qBw hd hR hu hop hcal hargs hats hx hr)
    ·cases htr
   ·cases htr
  ·rename_i hcal
   split at htr
   ·rename_i s s2 x y hats hargs
    split at htr
    ·rename_i e e2 hu hu2
     split at htr
     ·rename_i i hi
      split at htr
      ·rename_i hs
       simp only [qOD,qOA,qOE,Option.some.injEq] at htr
       obtain ⟨x',hx,y',hy,rfl⟩:=htr
       exact fin rfl (qAq hd hR hu hi hs hop hcal hargs hats hx hy hr)
      ·cases htr
     ·cases htr
    ·cases htr
   ·cases htr
  ·rename_i hcal
   split at htr
   ·rename_i s x hats hargs
    split at htr
    ·rename_i e hu
     split at htr
     ·rename_i i z hi hz
      split at htr
      ·rename_i hs
       simp only [qOD,qOA,qOE,Option.some.injEq] at htr
       obtain ⟨x',hx,rfl⟩:=htr
       exact fin rfl (qxv hd hR hu hi hz hs.1 hs.2 hop hcal hargs hats hx hr)
      ·cases htr
     ·cases htr
    ·cases htr
   ·cases htr
  ·rename_i hcal
   simp only [qOD,qOA,qOE,Option.some.injEq] at htr
   obtain ⟨l,hl,rfl⟩:=htr
   refine fin rfl ?_
   have hr':(match qtE (l.map (rd st.env)) with|some v=>ok v st|none=>none)=some r:=hr
   split at hr'
   ·rename_i v hv
    exact qD8 hd hR hcal hl hop hv hr'
   ·cases hr'
  ·rename_i hcal
   simp only [qOD,qOA,qOE,Option.some.injEq] at htr
   obtain ⟨l,hl,rfl⟩:=htr
   refine fin rfl ?_
   have hr':(match qs0 (l.map (rd st.env)) with|some v=>ok v st|none=>none)=some r:=hr
   split at hr'
   ·rename_i v hv
    exact qET hd hR hcal hl hop hv hr'
   ·cases hr'
  ·rename_i hcal
   split at htr
   ·rename_i s u hats
    split at htr
    ·rename_i e e2 hu hu2
     split at htr
     ·rename_i i z hi hz
      split at htr
      ·rename_i hzl
       split at htr
       ·obtain ⟨k1,k2⟩:=qrg hd hR hcal hats hu (.inr ⟨_,hu2⟩) hi hz hzl hop htr hr
        exact fin k1 k2
       split at htr
       ·unfold qBi at htr
        split at htr
        ·rename_i l x' y' hly hl
         split at htr
         ·rename_i hln
          simp only [Option.some.injEq] at htr
          subst htr
          exact fin rfl (quX hd hR hcal hats hu (.inr ⟨_,hu2⟩) hi hz hzl hl hop hln hr)
         ·cases htr
        ·cases htr
       simp only [qOD,qOA,qOE,Option.some.injEq] at htr
       obtain ⟨l,hl,rfl⟩:=htr
       refine fin rfl ?_
       rcases l with _|⟨x',_|⟨y',_|⟨z',l⟩⟩⟩
       ·simp [qa,eBi] at hr
       ·simp [qa,eBi] at hr
       ·exact qm6 hd hR hcal hats hu (.inr ⟨_,hu2⟩) hi hz hzl hl hop hr
       ·simp [qa,eBi] at hr
      ·cases htr
     ·cases htr
    ·rename_i e hu hu2
     split at htr
     ·split at htr
      ·rename_i i z l x n hi hz hl hargs
       split at htr
       ·rename_i hs
        simp only [qOD,qOA,qOE,Option.some.injEq] at htr
        obtain ⟨x',hx,n',hn,rfl⟩:=htr
        obtain ⟨i2,zv,hi2,hzz,hzd⟩:=kR hz
        rw [hi] at hi2
        cases hi2
        exact fin rfl (qxz hd hR hu hu2 hi hzz (zO g.pub w zv z hzd).cells hop hcal hargs hats hs.1 hs.2 hx hn hr)
       ·cases htr
      ·cases htr
     ·cases htr
    ·rename_i e hu hu2
     split at htr
     ·rename_i i z hi hz
      split at htr
      ·rename_i hzl
       split at htr
       ·obtain ⟨k1,k2⟩:=qrg hd hR hcal hats hu (.inl hu2) hi hz hzl hop htr hr
        exact fin k1 k2
       simp only [qOD,qOA,qOE,Option.some.injEq] at htr
       obtain ⟨l,hl,rfl⟩:=htr
       refine fin rfl ?_
       rcases l with _|⟨x',_|⟨y',_|⟨z',l⟩⟩⟩
       ·simp [qa,eBi] at hr
       ·simp [qa,eBi] at hr
       ·exact qm6 hd hR hcal hats hu (.inl hu2) hi hz hzl hl hop hr
       ·simp [qa,eBi] at hr
      ·cases htr
     ·cases htr
    ·cases htr
   ·cases htr
  ·rename_i f hcal
   simp only [qOD,qOA,qOE] at htr
   obtain ⟨f',hf,htr⟩:=htr
   split at htr
   ·simp only [qOA,Option.some.injEq] at htr
    obtain ⟨l,hl,rfl⟩:=htr
    exact qzG hcs hd hR hcal hf hl hop hr (fun c w' g' β' h1 h2=>he.k (qst (call:=call) (k:=.callQ f' l) hr rfl) c w' g' β' h1 h2)
   simp only [qOA] at htr
   obtain ⟨l,hl,htr⟩:=htr
   split at htr
   ·rename_i hnd
    simp only [Option.some.injEq] at htr
    subst htr
    exact qCb hcs hd hR hcal hf hl hnd hop hr he.k he.q
   ·cases htr
  ·cases htr
 | _=>simp [hop,zo] at htr
end
end W
/-
  Frames of functions and of a range's rounds: what holds of an operation in the one holds in the other.
-/
namespace W
open Go (World Value Addr IntKind Program TypeId FuncId Operand Act Oper Next Result Sem BinOp UnOp Ending Exit Code Fence)
inductive WF:Fence->Prop
 | wide:WF Fence.wide
 | round (l:Nat):WF (Fence.wide.inRound l)
theorem WF.fn {F:Fence} (h:WF F) (f:FuncId):F.fn f:=by cases h<;>trivial
theorem WF.depth {F:Fence} (h:WF F):F.depth.isSome=true->∀{p:Prop},p:=by cases h<;>(intro h;cases h)
theorem WF.room {F:Fence} (h:WF F) (n:Nat):F.room n:=by cases h<;>exact Go.room_wide n
theorem WF.steps {F:Fence} (h:WF F) {P:Program} {m m':Go.Machine}:Go.StepsIn (Go.Machine.fenced P F) P m m'↔Go.Steps P m m':=by
 cases h with
 | wide=>exact Go.stepsIn_wide
 | round l=>rw [Go.fenced_inRound];exact Go.stepsIn_wide
theorem WF.comes {F:Fence} (h:WF F) {P:Program} {m m':Go.Machine} {e:Ending}:Go.ComesIn (Go.Machine.fenced P F) P m m' e↔Go.Comes P m m' e:=by
 cases h with
 | wide=>exact Go.comesIn_wide
 | round l=>rw [Go.fenced_inRound];exact Go.comesIn_wide
theorem WF.calls {F:Fence} (h:WF F) {n:Nat} {P:Program} {f:FuncId} {args:Array Value} {w:World} {R:Ending->World->Prop}:Go.CallsIn F n P f args w R↔Go.Calls P f args w R:=
 ⟨fun hc cs=>let ⟨e,w',fr,r,s,x⟩:=hc.2 cs (h.room _);⟨e,w',fr,r,h.comes.1 s,x⟩,
  fun hc=>⟨h.fn f,fun cs _=>let ⟨e,w',fr,r,s,x⟩:=hc cs;⟨e,w',fr,r,h.comes.2 s,x⟩⟩⟩
def qfQ (o:Go.Op):Prop:=∀c,o≠.defer c
theorem qjs {F:Fence} (hF:WF F) {n:Nat} {P:Program} {o:Oper} {a:Act} {w:World} {K:Act->World->Prop} {Q:Exit->Act->World->Prop} (hnd:F.round=none\/qfQ o.op) (h:o.wp P a w K Q) :
  o.wpIn F n P a w K Q:=by
 refine ⟨fun f _=>hF.fn f,?_⟩
 have e:o.semAt F.round a.eval=Go.execOp a.eval o:=by
  rcases hnd with h1|h1
  ·rw [h1];rfl
  ·exact Oper.semAt_eq _ _ _ h1
 rw [e]
 unfold Oper.wp at h
 generalize (Go.execOp a.eval o).run P w=r at h
 cases r with
 | ok x w'=>
  cases x<;>simp only [Oper.upon,Oper.uponIn] at h |-<;>first
   | exact h
   | exact ⟨fun hd=>hF.depth hd,hF.calls.2 h⟩
   | exact ⟨fun hd=>hF.depth hd,fun c cs hr=>let ⟨v,w',r,s⟩:=h c cs;⟨v,w',r,hF.steps.2 s⟩⟩
   | exact h.elim
 | halt x w'=>cases x<;>simp only [Oper.upon,Oper.uponIn] at h |-<;>exact h
inductive MarksOk (g:Gh) (w0 w:World):List Go.Deferred->Prop
 | nil:MarksOk g w0 w []
 | cons {d:Go.Deferred} {ms:List Go.Deferred} (r:Nat) (ht:d.target=.collected r) (hlo:w0.heap.size<=r) (hb:w.heap[r]?=some (.deferred (some []))) (ho:g.own r=none)
   (hf:∀d' ∈ ms,d'.target≠.collected r) (hl:MarksOk g w0 w ms):MarksOk g w0 w (d::ms)
theorem MarksOk.lt {g:Gh} {w0 w:World} {ms:List Go.Deferred} (h:MarksOk g w0 w ms):∀d ∈ ms,∃r,d.target=.collected r/\w0.heap.size<=r/\r<w.heap.size:=by
 induction h with
 | nil=>intro d hd;cases hd
 | cons r ht hlo hb ho hf hl ih=>
  intro d hd
  rcases List.mem_cons.1 hd with rfl|hd
  ·exact ⟨r,ht,hlo,(Array.getElem?_eq_some_iff.1 hb).1⟩
  ·exact ih d hd
theorem MarksOk.mono {g g':Gh} {w0 w w':World} {ms:List Go.Deferred} (h:MarksOk g w0 w ms) (hE:Evo g w g' w'):MarksOk g' w0 w' ms:=by
 induction h with
 | nil=>exact .nil
 | cons r ht hlo hb ho hf hl ih=>
  obtain ⟨k1,k2,_⟩:=hE.keep r (Array.getElem?_eq_some_iff.1 hb).1 (.inl ho)
  exact .cons r ht hlo (k2.trans hb) (k1.trans ho) hf ih
theorem MarksOk.base {g:Gh} {w0 w0' w:World} (hs:w0'.heap.size<=w0.heap.size) {ms:List Go.Deferred} (h:MarksOk g w0 w ms):MarksOk g w0' w ms:=by
 induction h with
 | nil=>exact .nil
 | cons r ht hlo hb ho hf hl ih=>exact .cons r ht (Nat.le_trans hs hlo) hb ho hf ih
theorem MarksOk.append {g1 g2:Gh} {w0 w1 w2:World} (hE:Evo g1 w1 g2 w2) (hs:w0.heap.size<=w1.heap.size) {ms1:List Go.Deferred} (h1:MarksOk g1 w0 w1 ms1):∀{ms2:List Go.Deferred},MarksOk g2 w1 w2 ms2->MarksOk g2 w0 w2 (ms2++ms1)
 | [],_=>h1.mono hE
 | d::ms2,.cons r ht hlo hb ho hf hl=>by
  refine .cons r ht (Nat.le_trans hs hlo) hb ho (fun d' hd'=>?_) (MarksOk.append hE hs h1 hl)
  rcases List.mem_append.1 hd' with h|h
  ·exact hf d' h
  ·obtain ⟨r',hr',_,hlt⟩:=h1.lt d' h
   rw [hr']
   intro e
   cases e
   omega
theorem qBs {w:World} {r:Nat} {o o':Go.Obj} (h:w.heap[r]?=some o) (ho:o.isCells=false) (ho':o'.isCells=false) (a:Addr):(w.putObj r o').cell? a=w.cell? a:=by
 by_cases e:a.block=r
 ·have h1:(w.putObj r o').heap[a.block]?=some o':=by rw [e];exact Go.World.putObj_heap_same (Array.getElem?_eq_some_iff.1 h).1
  have h2:w.heap[a.block]?=some o:=by rw [e];exact h
  simp only [World.cell?,h1,h2]
  cases o<;>cases o'<;>simp_all [Go.Obj.isCells]
 ·have h1:(w.putObj r o').heap[a.block]?=w.heap[a.block]?:=Go.World.putObj_heap_other e
  simp only [World.cell?,h1]
section
variable {M:Maps} {g:Gh} {w:World} {r:Nat} {o o':Go.Obj}
theorem qmH:(w.putObj r o').heap.size=w.heap.size:=by simp [World.putObj]
theorem qap (h:w.heap[r]?=some o) (ho:o.isCells=false) (ho':o'.isCells=false):Grow g w g (w.putObj r o'):=⟨by rw [qmH];exact qOB _,fun _=>qOB _,fun b x _=>qBs h ho ho' _⟩
theorem qiS (hown:g.own r=none) (ℓ:Loc):Kept g w g (w.putObj r o') ℓ:=⟨fun b hb=>⟨hb,Go.World.putObj_heap_other (fun e=>by subst e;rw [hb] at hown;cases hown),rfl⟩⟩
theorem qvx {H:List Obj} (hH:RelH M g w H) (h:w.heap[r]?=some o) (ho:o.isCells=false) (ho':o'.isCells=false) (hown:g.own r=none):RelH M g (w.putObj r o') H:=
 ⟨hH.n,fun id ob hob=>(hH.h id ob hob).mono (qap h ho ho') (qOB _) (fun _ _=>rfl) (by rw [hH.n];exact (List.getElem?_eq_some_iff.1 hob).1) (qiS hown _) (fun i=>qiS hown _),
  fun b hb=>hH.fresh b (by rw [qmH] at hb;exact hb),hH.gl.mono (qap h ho ho')⟩
theorem qob {g0:Gh} {w0:World} (hE:Evo g0 w0 g w) (hlo:w0.heap.size<=r) (h:w.heap[r]?=some o) (ho:o.isCells=false) (ho':o'.isCells=false):Evo g0 w0 g (w.putObj r o'):=
 ⟨hE.toGrow.trans (qap h ho ho'),hE.n,hE.φ,fun b hb hx=>by
  obtain ⟨h1,h2,h3⟩:=hE.keep b hb hx
  exact ⟨h1,(Go.World.putObj_heap_other (by omega)).trans h2,h3⟩,hE.io.1,hE.io.2⟩
theorem qor {β:Nat->Nat} {st:St} {tmps:Array Value} (hR:Rel M g w β st tmps) (h:w.heap[r]?=some o) (ho:o.isCells=false) (ho':o'.isCells=false) (hown:g.own r=none):Rel M g (w.putObj r o') β st tmps:=by
 have hH:=qvx hR.toH h ho ho' hown
 refine ⟨hH.n,fun k=>?_,hH.h,hH.fresh,hH.gl⟩
 exact (hR.e k).mono (qap h ho ho') (qOB _) (fun _ _=>rfl) (qiS hown _) (qiS hown _) (fun i=>qiS hown _)
end
end W
/-
  A region whose order is open: its operations may be written in another order.
-/
namespace W
open Go (World Value Program Act Oper Exit Fence Code)
structure PermOk (n:Nat) (ord:List Nat):Prop where
 len:ord.length=n
 lt:∀k,k<n->ord.getD k n<n/\jZ ord (ord.getD k n)=k
 pos:∀k,k<n->jZ ord k<n/\ord.getD (jZ ord k) n=k
theorem qxu {n:Nat} {ord:List Nat} (h:qA3 n ord=true):PermOk n ord:=by
 simp only [qA3,qOy,List.all_eq_true,List.mem_range,Nat.blt_eq] at h
 exact ⟨qOz h.1,fun k hk=>⟨(h.2 k hk).1.1.1,qOz (h.2 k hk).1.1.2⟩,fun k hk=>⟨(h.2 k hk).1.2,qOz (h.2 k hk).2⟩⟩
theorem qqA {i:Nat}:∀{l:List Nat} {k:Nat},i ∉ l->qyb i k l=none
 | [],_,_=>rfl
 | j::l,k,h=>by
  simp only [List.mem_cons,not_or] at h
  simp only [qyb]
  have:qOC j i=false:=by
   cases hq:qOC j i with
   | false=>rfl
   | true=>exact absurd (qOz hq).symm h.1
  rw [this,cond_false]
  exact qqA h.2
section
variable {n:Nat} {ord:List Nat} {ops:Array Oper}
theorem PermOk.out (h:PermOk n ord) {i:Nat} (hi:n<=i):jZ ord i=i:=by
 unfold jZ
 rw [qqA]
 ·rfl
 ·intro hm
  obtain ⟨k,hk,rfl⟩:=List.getElem_of_mem hm
  have h1:=(h.lt k (by rw [<- h.len];exact hk)).1
  rw [List.getD_eq_getElem?_getD,List.getElem?_eq_getElem hk,Option.getD_some] at h1
  omega
theorem qc0 (h:PermOk ops.size ord) (i:Nat):(z3 ord ops)[jZ ord i]?=(ops[i]?).map (qbn ord):=by
 have hall:∀(l:List Nat),(∀x ∈ l,x<ops.size)->∀k:Nat,(l.filterMap fun i=>(ops[i]?).map (qbn ord))[k]?=(l[k]?).bind fun i=>(ops[i]?).map (qbn ord):=by
  intro l
  induction l with
  | nil=>intro _ k;simp
  | cons x l ih=>
   intro hl k
   have hx:x<ops.size:=hl x (by simp)
   rw [List.filterMap_cons]
   simp only [Array.getElem?_eq_getElem hx,qOG]
   cases k with
   | zero=>simp [Array.getElem?_eq_getElem hx]
   | succ k=>simpa using ih (fun y hy=>hl y (by simp [hy])) k
 have hord:∀x ∈ ord,x<ops.size:=fun x hx=>by
  obtain ⟨k,hk,rfl⟩:=List.getElem_of_mem hx
  have h1:=(h.lt k (by rw [<- h.len];exact hk)).1
  rw [List.getD_eq_getElem?_getD,List.getElem?_eq_getElem hk,Option.getD_some] at h1
  exact h1
 unfold z3
 rw [List.getElem?_toArray,hall ord hord]
 rcases Nat.lt_or_ge i ops.size with hi|hi
 ·obtain ⟨h1,h2⟩:=h.pos i hi
  have h3:jZ ord i<ord.length:=by rw [h.len];exact h1
  rw [List.getD_eq_getElem?_getD,List.getElem?_eq_getElem h3,Option.getD_some] at h2
  rw [List.getElem?_eq_getElem h3,h2,Option.bind_some]
 ·rw [h.out hi,List.getElem?_eq_none (by rw [h.len];exact hi),Array.getElem?_eq_none hi];rfl
theorem qnH (h:PermOk ops.size ord):(z3 ord ops).size=ops.size:=by
 rcases Nat.lt_or_ge ops.size (z3 ord ops).size with h1|h1
 ·exfalso
  have h2:=qc0 h ops.size
  rw [h.out (qOB _),Array.getElem?_eq_none (qOB _),Option.map_none,Array.getElem?_eq_none_iff] at h2
  omega
 ·rcases Nat.lt_or_ge (z3 ord ops).size ops.size with h2|h2
  ·exfalso
   obtain ⟨q1,q2⟩:=h.lt _ h2
   have h3:=qc0 h (ord.getD (z3 ord ops).size ops.size)
   rw [q2,Array.getElem?_eq_none (qOB _),Array.getElem?_eq_getElem q1] at h3
   cases h3
  ·omega
theorem qmN (h:PermOk ops.size ord) {listed listed':Array Bool} (hs:listed.size=ops.size) (hs':listed'.size=ops.size) (hl:∀i,i<ops.size->listed'.getD (jZ ord i) true=listed.getD i true) {i:Nat} :
  i ∈ Go.Region.ready .any ops listed↔jZ ord i ∈ Go.Region.ready .any (z3 ord ops) listed':=by
 have hg:∀j,listed'.getD (jZ ord j) false=listed.getD j false:=fun j=>by
  rcases Nat.lt_or_ge j ops.size with hj|hj
  ·have:=hl j hj
   have h1:jZ ord j<listed'.size:=by rw [hs'];exact (h.pos j hj).1
   have h2:j<listed.size:=by rw [hs];exact hj
   simpa [Array.getD_eq_getD_getElem?,Array.getElem?_eq_getElem h1,Array.getElem?_eq_getElem h2] using this
  ·rw [h.out hj,Array.getD_eq_getD_getElem?,Array.getD_eq_getD_getElem?,Array.getElem?_eq_none (by omega),Array.getElem?_eq_none (by omega)]
 rw [Go.mem_ready,Go.mem_ready,qc0 h]
 constructor
 ·rintro ⟨h0,o,ho,hall⟩
  have hi:i<ops.size:=(Array.getElem?_eq_some_iff.1 ho).1
  refine ⟨by rw [hl i hi];exact h0,qbn ord o,by rw [ho];rfl,fun e he hb=>?_⟩
  simp only [qbn,Array.mem_map] at he
  obtain ⟨e0,he0,rfl⟩:=he
  rw [hg]
  exact hall e0 he0 hb
 ·rintro ⟨h0,o',ho',hall⟩
  cases ho:ops[i]? with
  | none=>rw [ho] at ho';cases ho'
  | some o=>
   rw [ho] at ho'
   simp only [qOG,Option.some.injEq] at ho'
   subst ho'
   have hi:i<ops.size:=(Array.getElem?_eq_some_iff.1 ho).1
   refine ⟨by rw [<- hl i hi];exact h0,o,rfl,fun e he hb=>?_⟩
   rw [<- hg]
   exact hall {e with on:=jZ ord e.on} (by simp only [qbn,Array.mem_map];exact ⟨e,he,rfl⟩) hb
theorem qDa (h:PermOk ops.size ord) {F:Fence} {m:Nat} {P:Program} {Q:Exit->Act->World->Prop} {i:Nat} {K:Act->World->Prop} {a:Act} {w:World}:Go.wpOpIn F m P (z3 ord ops) Q (jZ ord i) K a w->Go.wpOpIn F m P ops Q i K a w:=by
 unfold Go.wpOpIn
 rw [qc0 h]
 cases ho:ops[i]? with
 | none=>exact id
 | some o=>
  simp only [qOG]
  have hw:Go.Region.wanted (qbn ord o) (Go.yielded (z3 ord ops) a.tmps)=Go.Region.wanted o (Go.yielded ops a.tmps):=by
   unfold Go.Region.wanted qbn
   cases o.guard with
   | none=>rfl
   | some q=>
    obtain ⟨j,b⟩:=q
    simp only [qOG]
    have:Go.yielded (z3 ord ops) a.tmps (jZ ord j)=Go.yielded ops a.tmps j:=by
     unfold Go.yielded
     rw [qc0 h]
     cases ops[j]?<;>rfl
    rw [this]
  rw [hw]
  exact id
theorem qAZ (h:PermOk ops.size ord) {F:Fence} {m:Nat} {P:Program} {Q:Exit->Act->World->Prop}:∀(fuel:Nat) {listed listed':Array Bool} {a:Act} {w:World},listed.size=ops.size->listed'.size=ops.size->(∀i,i<ops.size->listed'.getD (jZ ord i) true=listed.getD i true)->
  Go.wpAnyIn F m P .any (z3 ord ops) Q fuel listed' a w->Go.wpAnyIn F m P .any ops Q fuel listed a w:=by
 have nil:∀{listed listed':Array Bool},listed.size=ops.size->listed'.size=ops.size->(∀i,i<ops.size->listed'.getD (jZ ord i) true=listed.getD i true)->(Go.Region.ready .any ops listed=[]↔Go.Region.ready .any (z3 ord ops) listed'=[]):=by
  intro listed listed' hs hs' hl
  constructor
  ·intro hr
   cases hq:Go.Region.ready .any (z3 ord ops) listed' with
   | nil=>rfl
   | cons j t=>
    exfalso
    have hj:j ∈ Go.Region.ready .any (z3 ord ops) listed':=by rw [hq];simp
    have hj':=hj
    rw [Go.mem_ready] at hj'
    obtain ⟨_,o,ho,_⟩:=hj'
    have hlt:j<ops.size:=by rw [<- qnH h];exact (Array.getElem?_eq_some_iff.1 ho).1
    obtain ⟨q1,q2⟩:=h.lt j hlt
    rw [<- q2,<- qmN h hs hs' hl,hr] at hj
    cases hj
  ·intro hr
   cases hq:Go.Region.ready .any ops listed with
   | nil=>rfl
   | cons j t=>
    exfalso
    have hj:j ∈ Go.Region.ready .any ops listed:=by rw [hq];simp
    rw [qmN h hs hs' hl,hr] at hj
    cases hj
 intro fuel
 induction fuel with
 | zero=>intro listed listed' a w hs hs' hl hw;exact ⟨(nil hs hs' hl).2 hw.1,hw.2⟩
 | succ fuel ih=>
  intro listed listed' a w hs hs' hl hw
  refine ⟨fun hr=>hw.1 ((nil hs hs' hl).1 hr),fun i hi=>?_⟩
  refine qDa h (Go.wpOpIn_mono (fun a' w' hk=>?_) (hw.2 _ ((qmN h hs hs' hl).1 hi)))
  refine ih (by simpa using hs) (by simpa using hs') (fun k hk=>?_) hk
  by_cases hki:i=k
  ·subst hki
   have h1:jZ ord i<listed'.size:=by rw [hs'];exact (h.pos i hk).1
   have h2:i<listed.size:=by rw [hs];exact hk
   simp [Array.getD_eq_getD_getElem?,h1,h2]
  ·have hne:jZ ord i≠jZ ord k:=fun e=>by
    have hi':=hi
    rw [Go.mem_ready] at hi'
    obtain ⟨_,o,ho,_⟩:=hi'
    have q1:=(h.pos i (Array.getElem?_eq_some_iff.1 ho).1).2
    have q2:=(h.pos k hk).2
    rw [e,q2] at q1
    exact hki q1.symm
   rw [Go.getD_set_ne true hki,Go.getD_set_ne true hne,hl k hk]
theorem qCg {pm:List (Nat × List Nat)} {rid:Nat} {F:Fence} {m:Nat} {P:Program} {Q:Exit->Act->World->Prop} {a:Act} {w:World} (hw:Go.wpAnyIn F m P .any (qiv pm rid ops) Q (qiv pm rid ops).size (Array.replicate (qiv pm rid ops).size false) a w) :
  Go.wpAnyIn F m P .any ops Q ops.size (Array.replicate ops.size false) a w:=by
 unfold qiv at hw
 split at hw
 ·rename_i ord _
  rw [qOx] at hw
  split at hw
  ·rename_i hb
   have h:=qxu hb
   rw [qnH h] at hw
   refine qAZ h _ (by simp) (by simp) (fun i hi=>?_) hw
   have:=(h.pos i hi).1
   simp [Array.getD_eq_getD_getElem?,this,hi]
  ·exact hw
 ·exact hw
theorem qA5 {pm:List (Nat × List Nat)} {rid:Nat} {o:Oper} (ho:o ∈ (qiv pm rid ops).toList):∃o0 ∈ ops.toList,o.op=o0.op/\o.dst=o0.dst:=by
 unfold qiv at ho
 split at ho
 ·rename_i ord _
  rw [qOx] at ho
  split at ho
  ·simp only [z3,List.mem_filterMap,Option.map_eq_some_iff] at ho
   obtain ⟨i,_,o0,h0,rfl⟩:=ho
   exact ⟨o0,by have:=Array.mem_of_getElem? h0;simpa using this,rfl,rfl⟩
  ·exact ⟨o,ho,rfl,rfl⟩
 ·exact ⟨o,ho,rfl,rfl⟩
end
end W
/-
  Regions in their order, code, loops.
-/
namespace W
open Go (World Value Addr IntKind Program TypeId FuncId Operand Act Oper Next Result Sem BinOp UnOp Ending Exit Code Fence)
def DefOk (g:Gh) (w0 w:World) (ds ds':List Go.Deferred):Prop:=∃ms,ds'=ms++ds/\MarksOk g w0 w ms
theorem DefOk.refl {g:Gh} {w0 w:World} {ds:List Go.Deferred}:DefOk g w0 w ds ds:=⟨[],rfl,.nil⟩
theorem DefOk.same {g:Gh} {w0 w:World} {ds ds':List Go.Deferred} (h:ds'=ds):DefOk g w0 w ds ds':=by subst h;exact .refl
theorem DefOk.trans {g1 g2:Gh} {w0 w1 w2:World} {d0 d1 d2:List Go.Deferred} (hs:w0.heap.size<=w1.heap.size) (h1:DefOk g1 w0 w1 d0 d1) (hE:Evo g1 w1 g2 w2) (h2:DefOk g2 w1 w2 d1 d2):DefOk g2 w0 w2 d0 d2:=by
 obtain ⟨m1,rfl,k1⟩:=h1
 obtain ⟨m2,rfl,k2⟩:=h2
 exact ⟨m2++m1,by simp,k1.append hE hs k2⟩
theorem DefOk.mono {g g':Gh} {w0 w w':World} {ds ds':List Go.Deferred} (h:DefOk g w0 w ds ds') (hE:Evo g w g' w'):DefOk g' w0 w' ds ds':=by
 obtain ⟨ms,h1,h2⟩:=h
 exact ⟨ms,h1,h2.mono hE⟩
structure Good (nd:Prop) (M:Maps) (g:Gh) (w:World) (a:Act) (st':St) (a':Act) (w':World):Prop where
 r:∃g' β',Rel M g' w' β' st' a'.tmps/\Evo g w g' w'/\DefOk g' w w' a.defers a'.defers
 size:a'.tmps.size=a.tmps.size
 d:nd->a'.defers=a.defers
structure BadEnd (nd:Prop) (M:Maps) (g:Gh) (w:World) (a:Act) (v:V) (st':St) (ch:List Go.PanicEntry) (a':Act) (w':World):Prop where
 r:∃g' cv β',ch=[{v:=cv,recovered:=false}]/\Rel M g' w' β' st' a'.tmps/\Evo g w g' w'/\RepA M g' w' 0 v cv/\DefOk g' w w' a.defers a'.defers
 size:a'.tmps.size=a.tmps.size
 d:nd->a'.defers=a.defers
def Post (nd:Prop) (M:Maps) (g:Gh) (w:World) (a:Act) (e:Ex) (st':St):Exit->Act->World->Prop:=fun x a' w'=>
 match e,x with
 | .nrm,.normal=>Good nd M g w a st' a' w'
 | .exit id,.exit id'=>id'=id/\Good nd M g w a st' a' w'
 | .ret,.ret=>Good nd M g w a st' a' w'
 | .pan v,.panic ch=>BadEnd nd M g w a v st' ch a' w'
 | _,_=>False
theorem Good.trans {nd nd':Prop} {M:Maps} {g g1:Gh} {w w1:World} {a a1:Act} {st':St} {a':Act} {w':World} (hE:Evo g w g1 w1) (hs:a1.tmps.size=a.tmps.size) (hd:DefOk g1 w w1 a.defers a1.defers) (hd':nd->a1.defers=a.defers) (hn:nd->nd') (h:Good nd' M g1 w1 a1 st' a' w'):Good nd M g w a st' a' w':=
 let ⟨⟨g',β',h1,h2,h4⟩,h3,h5⟩:=h
 ⟨⟨g',β',h1,hE.trans h2,hd.trans hE.size h2 h4⟩,h3.trans hs,fun k=>(h5 (hn k)).trans (hd' k)⟩
theorem Good.weak {nd nd':Prop} {M:Maps} {g:Gh} {w:World} {a:Act} {st':St} {a':Act} {w':World} (hn:nd->nd') (h:Good nd' M g w a st' a' w'):Good nd M g w a st' a' w':=⟨h.r,h.size,fun k=>h.d (hn k)⟩
theorem Post.trans {nd nd':Prop} {M:Maps} {g g1:Gh} {w w1:World} {a a1:Act} {e:Ex} {st':St} (hE:Evo g w g1 w1) (hs:a1.tmps.size=a.tmps.size) (hd:DefOk g1 w w1 a.defers a1.defers) (hd':nd->a1.defers=a.defers) (hn:nd->nd') {x:Exit} {a':Act} {w':World}
  (h:Post nd' M g1 w1 a1 e st' x a' w'):Post nd M g w a e st' x a' w':=by
 unfold Post at *
 split at h
 ·exact h.trans hE hs hd hd' hn
 ·exact ⟨h.1,h.2.trans hE hs hd hd' hn⟩
 ·exact h.trans hE hs hd hd' hn
 ·obtain ⟨⟨g',cv,β',h1,h2,h3,h4,h5⟩,h6,h7⟩:=h
  exact ⟨⟨g',cv,β',h1,h2,hE.trans h3,h4,hd.trans hE.size h3 h5⟩,h6.trans hs,fun k=>(h7 (hn k)).trans (hd' k)⟩
 ·exact h.elim
theorem Post.weak {nd nd':Prop} {M:Maps} {g:Gh} {w:World} {a:Act} {e:Ex} {st':St} (hn:nd->nd') {x:Exit} {a':Act} {w':World} (h:Post nd' M g w a e st' x a' w'):Post nd M g w a e st' x a' w':=
 h.trans (Evo.refl g w) rfl .refl (fun _=>rfl) hn
theorem kY (a:Act) (d:Option Nat) (c:Value):(a.put d c).tmps.size=a.tmps.size:=by cases d<;>simp [Act.put]
theorem kQ (a:Act) (d:Option Nat) (c:Value):(a.put d c).defers=a.defers:=by cases d<;>rfl
section
variable {P:Program} {M:Maps} {g:Gh} {w:World} {β:Nat->Nat} {st:St} {a:Act} {call:Call}
theorem jF (hR:Rel M g w β st a.tmps) {ops:Array Oper} {o:Oper} {g':Option (Nat × Bool)} (hg:gOf ops o.guard=some g') {b:Bool} (hw:wanted g' st.env=some b) :
  Go.Region.wanted o (Go.yielded ops a.tmps)=b:=by
 unfold Go.Region.wanted
 cases ho:o.guard with
 | none=>
  rw [ho] at hg
  simp only [gOf,Option.some.injEq] at hg
  subst hg
  simpa [wanted] using hw
 | some jw=>
  obtain ⟨j,want⟩:=jw
  rw [ho] at hg
  simp only [gOf] at hg
  split at hg
  ·rename_i o' ho'
   split at hg
   ·rename_i d hd
    simp only [Option.some.injEq] at hg
    subst hg
    have hy:Go.yielded ops a.tmps j=match a.tmps[d]? with|some (.bool b)=>some b|_=>none:=by
     simp only [Go.yielded,ho',Option.bind_some,hd]
     rfl
    simp only [hy]
    have he:=hR.e d
    simp only [wanted] at hw
    split at hw
    ·rename_i z hz
     simp only [Option.some.injEq] at hw
     rw [hz] at he
     have hv:a.tmps.getD d Go.undef=.bool z:=by
      generalize a.tmps.getD d Go.undef=c at he
      cases he with
      | s h=>cases h with|d _ _ h=>cases h;rfl
     rw [Array.getD_eq_getD_getElem?] at hv
     cases hq:a.tmps[d]? with
     | none=>rw [hq] at hv;simp [Go.undef] at hv
     | some c=>
      rw [hq] at hv
      simp only [Option.getD_some] at hv
      subst hv
      rw [<- hw]
      simp
    ·rename_i hz
     simp only [Option.some.injEq] at hw
     rw [hz] at he
     have hv:a.tmps.getD d Go.undef=.tuple #[]:=by
      generalize a.tmps.getD d Go.undef=c at he
      cases he with
      | s h=>cases h with|tup _ vs h=>
       have:vs=#[]:=Array.ext' (by
        generalize vs.toList=l at h
        cases h;rfl)
       rw [this]
     rw [Array.getD_eq_getD_getElem?] at hv
     rw [<- hw]
     cases hq:a.tmps[d]? with
     | none=>rfl
     | some c=>
      rw [hq] at hv
      simp only [Option.getD_some] at hv
      subst hv
      rfl
    ·cases hw
   ·cases hg
  ·cases hg
theorem qoB (hR:Rel M g w β st a.tmps) {o:Oper} (hd:qg o a):Rel M g w β (put o.dst (.tup []) st) (a.put o.dst Go.undef).tmps:=
 hR.putV hd (.s (.tup [] #[] .nil))
theorem qgL {g:Gh} {w0 w:World} (a:Act) (d:Option Nat) (c:Value):DefOk g w0 w a.defers (a.put d c).defers:=.same (kQ a d c)
theorem qnv {a:Act} {d:Option Nat} {c:Value} {n:Nat} (h:d≠some n):(a.put d c).tmps.getD n Go.undef=a.tmps.getD n Go.undef:=by
 cases d with
 | none=>rfl
 | some m=>
  have:m≠n:=fun e=>h (by rw [e])
  simp only [Act.put,Array.getD_eq_getD_getElem?]
  rw [Array.getElem?_setIfInBounds_ne this]
theorem qx7 (l:List Op):∀(ns:List Nat) {st:St} {g:Gh} {e:Ex} {st':St} {tmps:Array Value},qk call ((ns.map fun n=>(⟨none,.fz n,none⟩:Op))++l) st=some (e,st')->Rel M g w β st tmps->
  ∃st1 g1,Rel M g1 w β st1 tmps/\Evo g w g1 w/\qk call l st1=some (e,st')
 | [],st,g,e,st',tmps,h,hR=>⟨st,g,hR,Evo.refl g w,h⟩
 | n::ns,st,g,e,st',tmps,h,hR=>by
  simp only [List.map_cons,List.cons_append,qk,wanted,qa] at h
  split at h
  ·rename_i q hq
   obtain ⟨hp,g1,k1,k2⟩:=qJR hR hq
   simp only [hp,cond_false,put] at h
   obtain ⟨st2,g2,j1,j2,j3⟩:=qx7 l ns h k1
   exact ⟨st2,g2,j1,k2.trans j2,j3⟩
  ·cases h
theorem qzi (fz:List (Nat × Nat × Nat)) (rid i:Nat):∃ns:List Nat,qCC fz rid i=ns.map fun n=>(⟨none,.fz n,none⟩:Op):=by
 refine ⟨(fz.filter fun (r,j,_)=>r == rid && j == i).map (·.2.2),?_⟩
 simp [qCC,List.map_map,Function.comp_def]
theorem qnw (hcs:qn P M call) {A:Ann} {rid nt:Nat} {ops:Array Oper} {F:Fence} (hF:WF F) {n:Nat} (fz:List (Nat × Nat × Nat)):∀(rest:List Oper) (i:Nat) (more:List Nat) (l:List Op) (st:St) (g:Gh) (w:World) (β:Nat->Nat) (a:Act),(∀k o,rest[k]?=some o->ops[i+k]?=some o)->
  zZ M P A rid ops i rest=some l->(∀o ∈ rest,∀d,o.dst=some d->d<nt)->(∀o ∈ rest,F.round=none\/qfQ o.op)->nt<=a.tmps.size->∀(e:Ex) (st':St),qk call (qwe fz rid i l) st=some (e,st')->Rel M g w β st a.tmps->
  ∀Q:Exit->Act->World->Prop,(∀a' w',Good True M g w a st' a' w'->(∀n,(∀o ∈ rest,o.dst≠some n)->a'.tmps.getD n Go.undef=a.tmps.getD n Go.undef)->e=.nrm->Go.wpOpsIn F n P ops Q more a' w')->(∀x a' w',Post True M g w a e st' x a' w'->e≠.nrm->Q x a' w')->Go.wpOpsIn F n P ops Q (List.range' i rest.length++more) a w
 | [],i,more,l,st,g,w,β,a,hget,htr,hdst,hnd,hnt,e,st',hrun,hR,Q,hK,hQ=>by
  simp only [zZ,Option.some.injEq] at htr
  subst htr
  simp only [qwe,qk,Option.some.injEq,Prod.mk.injEq] at hrun
  obtain ⟨rfl,rfl⟩:=hrun
  exact hK _ _ ⟨⟨g,β,hR,Evo.refl g w,.refl⟩,rfl,fun _=>rfl⟩ (fun _ _=>rfl) rfl
 | o::rest,i,more,l,st,g,w,β,a,hget,htr,hdst,hnd,hnt,e,st',hrun,hR,Q,hK,hQ=>by
  simp only [zZ] at htr
  split at htr
  ·rename_i g' r hg hr
   simp only [Option.some.injEq] at htr
   subst htr
   have hoi:ops[i]?=some o:=by simpa using hget 0 o rfl
   have hget':∀k o,rest[k]?=some o->ops[i+1+k]?=some o:=fun k o hk=>by
    have:=hget (k+1) o (by simpa using hk)
    rwa [show i+(k+1)=i+1+k by omega] at this
   have hd:qg o a:=fun n hn=>Nat.lt_of_lt_of_le (hdst o (by simp) n hn) hnt
   have hdst':∀o ∈ rest,∀d,o.dst=some d->d<nt:=fun o ho=>hdst o (by simp [ho])
   have hnd':∀o ∈ rest,F.round=none\/qfQ o.op:=fun o ho=>hnd o (by simp [ho])
   rw [List.length_cons,List.range'_succ,List.cons_append,Go.wpOpsIn_cons]
   unfold Go.wpOpIn
   simp only [hoi]
   obtain ⟨ns,hns⟩:=qzi fz rid i
   rw [qwe,hns] at hrun
   obtain ⟨st0,g0,hR0,hE0,hrun⟩:=qx7 _ ns hrun hR
   have hK:=fun a' w' (h:Good True M g0 w a st' a' w')=>hK a' w' (h.trans hE0 rfl .refl (fun _=>rfl) id)
   have hQ:=fun x a' w' (h:Post True M g0 w a e st' x a' w')=>hQ x a' w' (h.trans hE0 rfl .refl (fun _=>rfl) id)
   clear hR
   revert hR0 hK hQ hrun
   clear hE0
   generalize g0=g
   generalize st0=st
   intro hR hrun hK hQ
   simp only [qk] at hrun
   split at hrun
   ·rename_i hw
    rw [jF hR hg hw]
    simp only [if_true]
    refine qjs hF (hnd o (by simp)) ?_
    split at hrun
    ·rename_i q hq
     refine qtc hcs hd hR (qbC hq) (fun hloc hn=>?_) hq ⟨fun hp c w1 g1 β1 hR1 hE1=>?_,fun hp cv w1 g1 β1 hR1 hE1 hv=>?_⟩
     ·rw [hn] at hloc;simp at hloc
     ·simp only [hp,cond_false] at hrun
      exact qnw hcs hF fz rest (i+1) more r _ g1 w1 β1 _ hget' hr hdst' hnd' (by rw [kY];exact hnt) e st' hrun hR1 Q
       (fun a' w' hp hk he=>hK a' w' (hp.trans hE1 (kY _ _ _) (qgL _ _ _) (fun _=>kQ _ _ _) id) (fun n hn=>(hk n (fun o ho=>hn o (by simp [ho]))).trans (qnv (hn o (by simp)))) he) (fun x a' w' hpost=>hQ x a' w' (hpost.trans hE1 (kY _ _ _) (qgL _ _ _) (fun _=>kQ _ _ _) id))
     ·simp only [hp,cond_true,Option.some.injEq,Prod.mk.injEq] at hrun
      obtain ⟨rfl,rfl⟩:=hrun
      exact hQ _ _ _ (show Post True M g w a (.pan q.v) q.st (.panic _) a w1 from ⟨⟨g1,cv,β1,rfl,hR1,hE1,hv,.refl⟩,rfl,fun _=>rfl⟩) (by simp)
    ·cases hrun
   ·rename_i hw
    rw [jF hR hg hw]
    simp only [qOF,if_false]
    refine ⟨fun f _=>hF.fn f,?_⟩
    exact qnw hcs hF fz rest (i+1) more r _ g w β _ hget' hr hdst' hnd' (by rw [kY];exact hnt) e st' hrun (qoB hR hd) Q
     (fun a' w' hp hk he=>hK a' w' (hp.trans (Evo.refl g w) (kY _ _ _) (qgL _ _ _) (fun _=>kQ _ _ _) id) (fun n hn=>(hk n (fun o ho=>hn o (by simp [ho]))).trans (qnv (hn o (by simp)))) he) (fun x a' w' hpost=>hQ x a' w' (hpost.trans (Evo.refl g w) (kY _ _ _) (qgL _ _ _) (fun _=>kQ _ _ _) id))
   ·cases hrun
  ·cases htr
theorem qvB (rid:Nat):∀(i:Nat) (l:List Op),qwe [] rid i l=l
 | _,[]=>rfl
 | i,o::l=>by rw [qwe,qvB rid (i+1) l];rfl
theorem ql4 (hcs:qn P M call) {A:Ann} {rid nt:Nat} {ops:Array Oper} {F:Fence} (hF:WF F) {n:Nat}:∀(rest:List Oper) (i:Nat) (more:List Nat) (l:List Op) (st:St) (g:Gh) (w:World) (β:Nat->Nat) (a:Act),(∀k o,rest[k]?=some o->ops[i+k]?=some o)->
  zZ M P A rid ops i rest=some l->(∀o ∈ rest,∀d,o.dst=some d->d<nt)->(∀o ∈ rest,F.round=none\/qfQ o.op)->nt<=a.tmps.size->∀(e:Ex) (st':St),qk call l st=some (e,st')->Rel M g w β st a.tmps->
  ∀Q:Exit->Act->World->Prop,(∀a' w',Good True M g w a st' a' w'->(∀n,(∀o ∈ rest,o.dst≠some n)->a'.tmps.getD n Go.undef=a.tmps.getD n Go.undef)->e=.nrm->Go.wpOpsIn F n P ops Q more a' w')->(∀x a' w',Post True M g w a e st' x a' w'->e≠.nrm->Q x a' w')->Go.wpOpsIn F n P ops Q (List.range' i rest.length++more) a w:=
 fun rest i more l st g w β a hget htr hdst hnd hnt e st' hrun hR Q hK hQ=>qnw hcs hF [] rest i more l st g w β a hget htr hdst hnd hnt e st' (by rw [qvB];exact hrun) hR Q hK hQ
theorem qEV (hcs:qn P M call) {A:Ann} {rid nt:Nat} {ops:Array Oper} {F:Fence} (hF:WF F) {n:Nat} {l:List Op} {st:St} {a:Act} (htr:zZ M P A rid ops 0 ops.toList=some l) (hdst:∀o ∈ ops.toList,∀d,o.dst=some d->d<nt) (hnd:∀o ∈ ops.toList,F.round=none\/qfQ o.op)
  (hnt:nt<=a.tmps.size) {e:Ex} {st':St} (fz:List (Nat × Nat × Nat)) (hrun:qk call (qwe fz rid 0 l) st=some (e,st')) (hR:Rel M g w β st a.tmps) {Q:Exit->Act->World->Prop} (hQ:∀x a' w',Post True M g w a e st' x a' w'->Q x a' w'):Go.wpOpsIn F n P ops Q (List.range ops.size) a w:=by
 have:=qnw hcs hF (n:=n) fz ops.toList 0 [] l st g w β a (fun k o hk=>by simpa using hk) htr hdst hnd hnt e st' hrun hR Q (fun a' w' hg _ he=>by subst he;exact hQ _ _ _ (show Post True M g w a .nrm st' .normal a' w' from hg)) (fun x a' w' hp _=>hQ x a' w' hp)
 rwa [List.append_nil,show List.range' 0 ops.toList.length=List.range ops.size by simp [List.range_eq_range']] at this
theorem qtp (live:List Nat) (e:Env) (k:Nat):get k (restrict live e)=(if k ∈ live then (match get k e with | .lp _ _=>.undef|v=>v) else .undef):=by
 unfold restrict
 induction live with
 | nil=>simp [get]
 | cons n l ih=>
  simp only [List.map_cons,qc,ih]
  by_cases h:k=n
  ·subst h;simp;cases get k e<;>rfl
  ·simp [h]
theorem Rel.restrict {tmps:Array Value} (hR:Rel M g w β st tmps) (live:List Nat):Rel M g w β {st with env:=W.restrict live st.env} tmps:=by
 refine ⟨hR.n,fun k=>?_,hR.h,hR.fresh,hR.gl⟩
 show RepT M g w β k (get k (W.restrict live st.env)) _
 rw [qtp]
 split
 ·have:=hR.e k
  generalize get k st.env=v at this
  generalize tmps.getD k Go.undef=c at this
  cases this with
  | s h=>cases h<;>exact .s (by constructor<;>assumption)
  | osl h=>exact .osl h
  | lp s off=>exact .s (.undef _)
  | cp x b off vs hr hc hp=>exact .cp x b off vs hr hc hp
  | box cs arr T hb ho hp hl hr=>exact .box cs arr T hb ho hp hl hr
 ·exact .s (.undef _)
end
def qg1 (P:Program) (M:Maps) (ex:C->St->Option (Ex × St)):Prop:=
 ∀(A:Ann) (blk:Nat) (code:Code) (c:C),trC M P A blk code=some c->∀st e st',ex c st=some (e,st')->∀g w β a nt,jm nt code=true->nt<=a.tmps.size->Rel M g w β st a.tmps->
  ∀(F:Fence) (n:Nat),WF F->(F.round=none\/qd code=true)->∀Q:Exit->Act->World->Prop,(∀x a' w',Post (qd code=true) M g w a e st' x a' w'->Q x a' w')->code.wpIn F n P Q a w
noncomputable def least (p:Nat->Prop):Nat:=open Classical in if h:∃n,p n/\∀m,m<n->¬p m then Classical.choose h else 0
theorem qjE {p:Nat->Prop} {n:Nat} (h:p n):p (least p)/\least p<=n:=by
 have ex:∃n,p n/\∀m,m<n->¬p m:=by
  induction n using Nat.strongRecOn with
  | _ n ih=>
   by_cases hm:∃m,m<n/\p m
   ·obtain ⟨m,h1,h2⟩:=hm;exact ih m h1 h2
   ·exact ⟨n,h,fun m h1 h2=>hm ⟨m,h1,h2⟩⟩
 unfold least
 rw [dif_pos ex]
 obtain ⟨h1,h2⟩:=Classical.choose_spec ex
 refine ⟨h1,?_⟩
 rcases Nat.lt_or_ge n (Classical.choose ex) with hlt|hge
 ·exact absurd h (h2 n hlt)
 ·exact hge
def qyG (P:Program) (M:Maps) (call:Call):Prop:=
 ∀(A:Ann) (rid:Nat) (ops0 ops:Array Oper) (l0 l:List Op),ops=qiv A.pm rid ops0->zZ M P A rid ops 0 ops.toList=some l0->l=qgJ A.ck rid l0->qwI ops=true->ql1 ops l=true->okP ops l=true->
  ∀st e st',qx call (l.zipIdx.map fun (o,i)=>(o,zr ops l o i,qji ops l i)) st=some (e,st')->∀g w β a nt,(∀o ∈ ops.toList,∀d,o.dst=some d->d<nt)->nt<=a.tmps.size->Rel M g w β st a.tmps->
  ∀(F:Fence) (n:Nat),WF F->(F.round=none\/qd (.region rid ops true)=true)->∀Q:Exit->Act->World->Prop,(∀x a' w',Post True M g w a e st' x a' w'->Q x a' w')->(Code.region rid ops0 true).wpIn F n P Q a w
def qwl (P:Program) (M:Maps) (call:Call):Prop:=
 ∀(A:Ann) (rid:Nat) (ops0 ops:Array Oper) (l0 l:List Op),ops=qiv A.pm rid ops0->zZ M P A rid ops 0 ops.toList=some l0->l=qgJ A.ck rid l0->qwI ops=true->ql1 ops l=true->qoH ops l=true->
  ∀st st1 e st',qx call ((l.zipIdx.map fun (o,i)=>(o,zr ops l o i,qbu ops l i)).take (l.length - 1)) st=some (.nrm,st1)->qk call (l.drop (l.length - 1)) st1=some (e,st')->
  ∀g w β a nt,(∀o ∈ ops.toList,∀d,o.dst=some d->d<nt)->nt<=a.tmps.size->Rel M g w β st a.tmps->
  ∀(F:Fence) (n:Nat),WF F->(F.round=none\/qd (.region rid ops true)=true)->∀Q:Exit->Act->World->Prop,(∀x a' w',Post True M g w a e st' x a' w'->Q x a' w')->(Code.region rid ops0 true).wpIn F n P Q a w
theorem qlA {call:Call}:∀{l:List (Op × Bool × List Nat)} {st:St} {e:Ex} {st':St},(∀x ∈ l,qT yr x.2.2=false)->qx call l st=some (e,st')->e=.nrm
 | [],st,e,st',_,h=>by simp only [qx,Option.some.injEq,Prod.mk.injEq] at h;exact h.1.symm
 | (o,s,no)::l,st,e,st',hn,h=>by
  have hn':∀x ∈ l,qT yr x.2.2=false:=fun x hx=>hn x (by simp [hx])
  simp only [qx] at h
  split at h
  ·split at h
   ·rw [qOx] at h
    split at h
    ·rw [qza,show qT yr no=false from hn (o,s,no) (by simp),Bool.and_false] at h
     cases h
    ·split at h
     ·exact qlA hn' h
     ·cases h
   ·cases h
  ·exact qlA hn' h
  ·cases h
theorem qzK {ops:Array Oper} {l:List Op} (h:qoH ops l=true):∀x ∈ (l.zipIdx.map fun (o,i)=>(o,zr ops l o i,qbu ops l i)).take (l.length - 1),qT yr x.2.2=false:=by
 intro x hx
 rw [<- List.map_take,List.mem_map] at hx
 obtain ⟨⟨o,i⟩,hm,rfl⟩:=hx
 obtain ⟨k,hk⟩:=List.mem_iff_getElem?.1 hm
 rw [List.getElem?_take] at hk
 split at hk
 ·rename_i hlt
  rw [List.getElem?_zipIdx] at hk
  cases hq:l[k]? with
  | none=>rw [hq] at hk;cases hk
  | some o'=>
   rw [hq] at hk
   simp at hk
   simp only [qoH,qOy,List.all_eq_true] at h
   have:=(h.2 k (by simpa using hlt)).2
   rw [<- hk.2]
   simpa using this
 ·cases hk
theorem qlY {nt:Nat} {rid:Nat} {ops:Array Oper} {b:Bool} (h:jm nt (.region rid ops b)=true):∀o ∈ ops.toList,∀d,o.dst=some d->d<nt:=fun o ho d hd=>by
 simp only [jm,List.all_eq_true] at h
 have:=h o ho
 rw [hd] at this
 simp only [Nat.blt_eq] at this
 exact this
theorem qsE {F:Fence} {rid:Nat} {ops:Array Oper} {b:Bool} (h:F.round=none\/qd (.region rid ops b)=true):∀o ∈ ops.toList,F.round=none\/qfQ o.op:=fun o ho=>by
 rcases h with h|h
 ·exact .inl h
 ·refine .inr (fun c hc=>?_)
  simp only [qd,List.all_eq_true] at h
  have:=h o ho
  rw [hc] at this
  cases this
section
variable {P:Program} {M:Maps} {g:Gh} {w:World} {β:Nat->Nat} {st:St} {a:Act} {call:Call}
theorem qxA {f:FuncId} {args:Array Value} {w:World} {R:Ending->World->Prop} (h:qtZ P f args w R) (hent:(Go.callFunc f args).run P w=.ok (.enter f args) w) {R':Ending->World->Prop}
  (h1:∀v v' w',R (.returned v) w'->R' (.returned v') w') (h2:∀ch w',R (.panicked ch) w'->R' (.panicked ch) w'):Go.Calls P f args w R':=by
 have:=h ⟨none,.move (.const Go.undef),0, "",#[],none⟩ {tmps:=#[],defers:=[]} (fun _ w'=>∃v,R (.returned v) w') (fun x _ w'=>match x with | .panic ch=>R (.panicked ch) w'|_=>False) (fun v w' h=>⟨v,h⟩) (fun ch w' h=>h)
 rw [hent] at this
 refine Go.Calls.mono this (fun e w' he=>?_)
 cases e with
 | returned v=>obtain ⟨v0,he⟩:=he;exact h1 _ _ _ he
 | panicked ch=>exact h2 _ _ he
 | outgrown=>obtain ⟨_,_,he⟩:=he;exact he.elim
theorem qn4 {α:Type} {l:List (Nat × α)} {k:Nat} {v:α} (h:look l k=some v):(k,v) ∈ l:=by
 induction l with
 | nil=>cases h
 | cons p l ih=>
  obtain ⟨n,u⟩:=p
  simp only [look] at h
  rw [qOx] at h
  split at h
  ·rename_i hk
   have:=qOz hk
   cases h;subst this;simp
  ·exact List.mem_cons_of_mem _ (ih h)
theorem qw2 (hcs:qn P M call) {k:Nat} {f:Operand} {f':O} {ps:Array Nat} {x y:Code} {cap:List V} {live:List Nat} (hf:opnd M false f=some f') (hent:∀f2,look M.fm f2=some k->qs2 P f2=true) (hfn:rd st.env f'=.fn k [] cap)
  {r:Cr} (hr:call k (.undef::cap) st.H=some r) (hpan:r.pan=false) (hR:Rel M g w β st a.tmps) (m:Nat) (Q:Exit->Act->World->Prop)
  (hQ:∀x a' w',Post False M g w a .nrm ⟨restrict live st.env,r.H,min st.lo r.lo⟩ x a' w'->Q x a' w'):(Code.rangeFunc f ps x y).wpIn Fence.wide m P Q a w:=by
 have h1:=qf hR hf
 rw [hfn] at h1
 generalize hfe:a.eval f=fc at h1
 cases h1 with
 | s h1=>cases h1 with
  | fn _ f2 _ _ fv cv hlook hr1 hr2=>
   have hfv:fv=#[]:=by
    apply Array.ext'
    generalize fv.toList=q at hr1
    cases hr1;rfl
   subst hfv
   have hen:=hent f2 hlook
   unfold qs2 at hen
   split at hen
   ·rename_i fn2 q1
    simp only [qOy,bne_iff_ne,ne_eq,Option.isSome_iff_exists] at hen
    obtain ⟨⟨bd,q3⟩,q2⟩:=hen
    refine Go.wpIn_rangeFunc (fun fid _=>?_)
    let rc:Go.LoopState->Go.Loop:=fun s=>{state:=s,pending:=none,fn:=fid,tmps:=a.tmps,params:=ps,assign:=x,body:=y,defers:=w.heap.size}
    let L:=w.heap.size+1
    let W1:World:=(w.alloc (.deferred (some []))).alloc (.loop (rc .ready))
    have hRa:=hR.alloc none 0 (.deferred (some []))
    have hRb:=hRa.alloc none 0 (.loop (rc .ready))
    have hE1:=(z8 hR.fr none 0 (.deferred (some []))).trans (z8 hRa.fr none 0 (.loop (rc .ready)))
    have hsz:(w.alloc (.deferred (some []))).heap.size=w.heap.size+1:=by simp
    have hL:W1.heap[L]?=some (.loop (rc .ready)):=by
     have:=qK (w.alloc (.deferred (some []))) (.loop (rc .ready))
     rwa [hsz] at this
    have hD:W1.heap[w.heap.size]?=some (.deferred (some [])):=by
     refine (qO (w.alloc (.deferred (some []))) _ (by rw [hsz];exact Nat.lt_succ_self _)).trans ?_
     exact qK w _
    have hr2':=hr2.mono hE1.toGrow hE1.n hE1.φ hr2.ref
    have hdoes:=hcs k _ _ r hr f2 hlook (qA (zJ 0 []) _) W1 (.func (.yield L) #[] #[]::cv.toList) (.cons (.s (.undef _)) (qcq 1 hr2')) (qjP hRb.toH)
    have eargs:(Value.func (.yield L) #[] #[]::cv.toList).toArray=#[Value.func (.yield L) #[] #[]]++cv:=by apply Array.ext';simp
    rw [eargs] at hdoes
    refine ⟨L,[{target:=.collected w.heap.size,args:=#[]}],W1,{target:=.fn (.func f2) cv,args:=#[.func (.yield L) #[] #[]]},W1,f2,#[.func (.yield L) #[] #[]]++cv,W1,Go.run_enterLoop_outer _ _ _ _ _,?_,fun _ _=>trivial,?_,fun h=>WF.wide.depth h,?_⟩
    ·have hres:(Go.resolve a.eval (Go.rangeCall f L) 0).run P W1=(Go.Deferred.ofValue (.func (.func f2) #[] cv) #[.func (.yield L) #[] #[]]).run P W1:=by
      have hmap:Array.map a.eval #[.const (.func (.yield L) #[] #[])]=#[.func (.yield L) #[] #[]]:=by simp [Act.eval]
      simp only [Go.resolve,hfe,hmap]
     rw [hres];rfl
    ·simp [Go.invoke,Go.callFunc,q1,q2,q3]
    ·refine Go.callsIn_wide.2 (qxA hdoes (by simp [Go.callFunc,q1,q2,q3]) (fun _ v W5 hp=>?_) (fun ch W5 hp=>?_))
     ·obtain ⟨_,g2,hH,hE,_⟩:=hp
      have hR3:=(hRb.restRel hE hH (lo:=min st.lo r.lo) none).restrict live
      have hE3:=qiB (d:=none) hRb.fr hE
      have hoL:((g.withNew w.heap.size none 0).withNew (w.alloc (.deferred (some []))).heap.size none 0).own L=none:=by simp [Gh.withNew,L]
      have hoD:((g.withNew w.heap.size none 0).withNew (w.alloc (.deferred (some []))).heap.size none 0).own w.heap.size=none:=by simp [Gh.withNew]
      obtain ⟨k1,k2,_⟩:=hE3.keep L (Array.getElem?_eq_some_iff.1 hL).1 (.inl hoL)
      obtain ⟨m1,m2,_⟩:=hE3.keep w.heap.size (Array.getElem?_eq_some_iff.1 hD).1 (.inl hoD)
      have hL5:=k2.trans hL
      have hrun:=Go.run_endLoop (P:=P) hL5 (by simp [rc])
      refine ⟨none,_,hrun,hQ .normal _ _ ⟨⟨_,β,qor hR3 hL5 rfl rfl (k1.trans hoL),qob (hE1.trans hE3) (Nat.le_succ _) hL5 rfl rfl,[{target:=.collected w.heap.size,args:=#[]}],rfl,.cons w.heap.size rfl (qOB _) ?_ (m1.trans hoD) (fun d' hd'=>by cases hd') .nil⟩,rfl,fun h=>h.elim⟩⟩
      exact (Go.World.putObj_heap_other (by simp [L])).trans (m2.trans hD)
     ·have:=hp.1;rw [hpan] at this;cases this
   ·cases hen
end
def qu4 (P:Program) (M:Maps) (ex:C->St->Option (Ex × St)):Prop:=
 ∀(k:Nat) (l:L) (f:Operand) (f':O) (p0 p1:Nat) (live:List Nat) (x y:Code) (a b:C) (A:Ann) (blk:Nat),look M.bk k=some l->opnd M false f=some f'->trC M P A blk x=some a->trC M P A blk y=some b->qd x=true->qd y=true->
  ∀(c:V) (st:St) (n:Nat) (e:Ex) (st':St),rd st.env f'=.fn k [] [c]->c.ok=true->qa0 c st.H st.lo=some n->rounds (ex a) (ex b) l c p0 p1 (jK live st.env) n st.H st.lo=some (e,st')->
  ∀g w β act nt,p0<nt->p1<nt->jm nt x=true->jm nt y=true->nt<=act.tmps.size->Rel M g w β st act.tmps->
  ∀m (Q:Exit->Act->World->Prop),(∀x a' w',Post False M g w act e st' x a' w'->Q x a' w')->(Code.rangeFunc f #[p0,p1] x y).wpIn Fence.wide m P Q act w
theorem qvJ {P:Program} {M:Maps} {pg:Pg} (hC:∀n,qg1 P M (exec pg n)->qn P M (qm pg (exec pg n))) (hO:∀n,qn P M (qm pg (exec pg n))->qyG P M (qm pg (exec pg n))/\qwl P M (qm pg (exec pg n))) (hB:∀n,qg1 P M (exec pg n)->qu4 P M (exec pg n)):∀n,qg1 P M (exec pg n):=by
 intro n
 induction n using Nat.strongRecOn with
 | _ n IH=>
 cases n with
 | zero=>intro A blk code c _ st e st' h;simp [exec] at h
 | succ n=>
  have ih:=IH n (Nat.lt_succ_self n)
  have hcs:=hC n ih
  intro A blk code c htr st e st' hrun g w β a nt hdst hnt hR F m hF hnd Q hQ
  have hrun:step (qm pg (exec pg n)) (exec pg n) c st=some (e,st'):=hrun
  cases code with
  | skip=>
   simp only [trC,Option.some.injEq] at htr
   subst htr
   simp only [step,Option.some.injEq,Prod.mk.injEq] at hrun
   obtain ⟨rfl,rfl⟩:=hrun
   exact Go.wpIn_skip (hQ _ _ _ (show Post _ M g w a .nrm st .normal a w from ⟨⟨g,β,hR,Evo.refl g w,.refl⟩,rfl,fun _=>rfl⟩))
  | region rid ops draw=>
   cases draw with
   | false=>
    simp only [trC] at htr
    split at htr
    ·rename_i l hl
     simp only [Option.some.injEq] at htr
     subst htr
     refine Go.wpIn_region ?_
     exact qEV hcs hF hl (qlY hdst) (qsE hnd) hnt _ hrun hR (fun x a' w' hp=>hQ x a' w' (hp.weak (fun _=>trivial)))
    ·simp only [Option.some.injEq] at htr
     subst htr
     cases hrun
   | true=>
    simp only [trC] at htr
    split at htr
    ·rename_i l hl
     have hdst':∀o ∈ (qiv A.pm rid ops).toList,∀d,o.dst=some d->d<nt:=fun o ho d hd=>by
      obtain ⟨o0,h0,_,e2⟩:=qA5 ho
      exact qlY hdst o0 h0 d (by rw [<- e2];exact hd)
     have hnd':F.round=none\/qd (.region rid (qiv A.pm rid ops) true)=true:=hnd.imp id (fun h=>by
      simp only [qd,List.all_eq_true] at h |-
      intro o ho
      obtain ⟨o0,h0,e1,_⟩:=qA5 ho
      rw [e1];exact h o0 h0)
     rw [qz5] at htr
     split at htr
     ·rename_i hc
      simp only [qOy] at hc
      simp only [Option.some.injEq] at htr
      subst htr
      unfold qA6 at hrun
      rw [qOx] at hrun
      split at hrun
      ·rename_i hlast
       simp only [step] at hrun
       cases n with
       | zero=>simp [exec] at hrun
       | succ k=>
        split at hrun
        ·rename_i st1 h1
         exact (hO k (hC k (IH k (by omega)))).2 A rid ops _ l _ rfl hl rfl hc.1 hc.2 hlast st st1 e st' h1 hrun g w β a nt hdst' hnt hR F m hF hnd' Q (fun x a' w' hp=>hQ x a' w' (hp.weak (fun _=>trivial)))
        ·rename_i hne
         exfalso
         have h2:qx (qm pg (exec pg k)) _ st=some (e,st'):=hrun
         have:=qlA (qzK hlast) h2
         subst this
         exact hne st' hrun
      ·rw [qOx] at hrun
       split at hrun
       ·rename_i hok
        exact (hO _ hcs).1 A rid ops _ l _ rfl hl rfl hc.1 hc.2 hok st e st' hrun g w β a nt hdst' hnt hR F m hF hnd' Q (fun x a' w' hp=>hQ x a' w' (hp.weak (fun _=>trivial)))
       ·cases hrun
     ·simp only [Option.some.injEq] at htr
      subst htr
      cases hrun
    ·simp only [Option.some.injEq] at htr
     subst htr
     cases hrun
  | seq x y=>
   simp only [trC] at htr
   split at htr
   ·rename_i cx cy hx hy
    simp only [Option.some.injEq] at htr
    subst htr
    simp only [jm,qOy] at hdst
    have hnd1:F.round=none\/qd x=true:=hnd.imp id (fun h=>by simp only [qd,qOy] at h;exact h.1)
    have hnd2:F.round=none\/qd y=true:=hnd.imp id (fun h=>by simp only [qd,qOy] at h;exact h.2)
    simp only [step] at hrun
    refine Go.wpIn_seq ?_
    split at hrun
    ·rename_i st1 h1
     refine ih A blk x cx hx st _ st1 h1 g w β a nt hdst.1 hnt hR F m hF hnd1 _ (fun ex a1 w1 hp=>?_)
     unfold Post at hp
     split at hp
     ·obtain ⟨⟨g1,β1,hR1,hE1,hd1⟩,hs1,hq1⟩:=hp
      exact ih A blk y cy hy st1 e st' hrun g1 w1 β1 a1 nt hdst.2 (by rw [hs1];exact hnt) hR1 F m hF hnd2 Q (fun x' a' w' hp=>hQ x' a' w' (hp.trans hE1 hs1 hd1 (fun h=>hq1 (by simp only [qd,qOy] at h;exact h.1)) (fun h=>by simp only [qd,qOy] at h;exact h.2)))
     all_goals first|exact hp.elim|(rename_i h;cases h)
    ·rename_i hne
     refine ih A blk x cx hx st e st' hrun g w β a nt hdst.1 hnt hR F m hF hnd1 _ (fun ex a1 w1 hp=>?_)
     have hq:=hQ ex a1 w1 (hp.weak (fun h=>by simp only [qd,qOy] at h;exact h.1))
     cases ex with
     | normal=>
      exfalso
      cases e with
      | nrm=>exact hne st' hrun
      | _=>exact hp
     | _=>exact hq
   ·cases htr
  | cond o x y=>
   simp only [trC] at htr
   split at htr
   ·rename_i o' cx cy ho hx hy
    simp only [Option.some.injEq] at htr
    subst htr
    simp only [jm,qOy] at hdst
    have hnd1:F.round=none\/qd x=true:=hnd.imp id (fun h=>by simp only [qd,qOy] at h;exact h.1)
    have hnd2:F.round=none\/qd y=true:=hnd.imp id (fun h=>by simp only [qd,qOy] at h;exact h.2)
    have ho1:=qf hR ho
    simp only [step] at hrun
    split at hrun
    ·rename_i hv
     rw [hv] at ho1
     exact Go.wpIn_cond_true (qkJ ho1.inv_d) (ih A blk x cx hx st e st' hrun g w β a nt hdst.1 hnt hR F m hF hnd1 Q (fun x' a' w' hp=>hQ x' a' w' (hp.weak (fun h=>by simp only [qd,qOy] at h;exact h.1))))
    ·rename_i hv
     rw [hv] at ho1
     exact Go.wpIn_cond_false (qkJ ho1.inv_d) (ih A blk y cy hy st e st' hrun g w β a nt hdst.2 hnt hR F m hF hnd2 Q (fun x' a' w' hp=>hQ x' a' w' (hp.weak (fun h=>by simp only [qd,qOy] at h;exact h.2))))
    ·cases hrun
   ·cases htr
  | block id x=>
   simp only [trC] at htr
   split at htr
   ·rename_i cx hx
    simp only [Option.some.injEq] at htr
    subst htr
    simp only [jm] at hdst
    have hnd1:F.round=none\/qd x=true:=hnd.imp (fun h=>h) (fun h=>by simpa only [qd] using h)
    simp only [step] at hrun
    refine Go.wpIn_block ?_
    have res:∀{st1:St} {a1:Act} {w1:World},Good (qd x=true) M g w a st1 a1 w1->Good (qd (.block id x)=true) M g w a {st1 with env:=restrict ((look A.bl id).getD []) st1.env} a1 w1:=fun h=>by
     obtain ⟨⟨g1,β1,hR1,hE1,hd1⟩,hs1,hq1⟩:=h
     exact ⟨⟨g1,β1,hR1.restrict _,hE1,hd1⟩,hs1,fun h=>hq1 (by simpa only [qd] using h)⟩
    split at hrun
    ·rename_i st1 h1
     simp only [Option.some.injEq,Prod.mk.injEq] at hrun
     obtain ⟨rfl,rfl⟩:=hrun
     refine ih A id x cx hx st _ st1 h1 g w β a nt hdst hnt hR F m hF hnd1 _ (fun ex a1 w1 hp=>?_)
     cases ex<;>first|exact hQ _ _ _ (show Post _ M g w a .nrm _ .normal a1 w1 from res hp)|exact hp.elim
    ·rename_i j st1 h1
     rw [qOx] at hrun
     split at hrun
     ·rename_i hj
      have hj:=qOz hj
      simp only [Option.some.injEq,Prod.mk.injEq] at hrun
      obtain ⟨rfl,rfl⟩:=hrun
      refine ih A id x cx hx st _ st1 h1 g w β a nt hdst hnt hR F m hF hnd1 _ (fun ex a1 w1 hp=>?_)
      cases ex with
      | exit id'=>
       obtain ⟨h2,h3⟩:=hp
       simp only [Exit.inBlock,h2,hj,if_true]
       exact hQ _ _ _ (show Post _ M g w a .nrm _ .normal a1 w1 from res h3)
      | _=>exact hp.elim
     ·rename_i hj
      have hj:j≠id:=fun e=>hj (by subst e;simp)
      simp only [Option.some.injEq,Prod.mk.injEq] at hrun
      obtain ⟨rfl,rfl⟩:=hrun
      refine ih A id x cx hx st _ st1 h1 g w β a nt hdst hnt hR F m hF hnd1 _ (fun ex a1 w1 hp=>?_)
      cases ex with
      | exit id'=>
       have h2:=hp.1
       subst h2
       simp only [Exit.inBlock,hj,if_false]
       exact hQ _ _ _ (Post.weak (fun h=>by simpa only [qd] using h) hp)
      | _=>exact hp.elim
    ·rename_i hne1 hne2
     refine ih A id x cx hx st e st' hrun g w β a nt hdst hnt hR F m hF hnd1 _ (fun ex a1 w1 hp=>?_)
     cases e with
     | nrm=>exact (hne1 st' hrun).elim
     | exit j=>exact (hne2 j st' hrun).elim
     | _=>cases ex<;>first|exact hQ _ _ _ (Post.weak (fun h=>by simpa only [qd] using h) hp)|exact hp.elim
   ·cases htr
  | loop x=>
   simp only [trC] at htr
   split at htr
   ·rename_i cx hx
    simp only [Option.some.injEq] at htr
    subst htr
    simp only [jm] at hdst
    have hnd1:F.round=none\/qd x=true:=hnd.imp id (fun h=>by simpa only [qd] using h)
    let live:=(look A.ll blk).getD []
    let J:Act->World->Nat->Prop:=fun a1 w1 k=>k<=n+1/\∃st1 g1 β1,Rel M g1 w1 β1 st1 a1.tmps/\Evo g w g1 w1/\a1.tmps.size=a.tmps.size/\DefOk g1 w w1 a.defers a1.defers/\(qd x=true->a1.defers=a.defers)/\exec pg k (.loop live cx) st1=some (e,st')
    refine Go.wpIn_loop (fun a1 w1=>∃k,J a1 w1 k) (fun a1 w1=>least (J a1 w1)) ⟨n+1,qOB _,st,g,β,hR,Evo.refl g w,rfl,.refl,fun _=>rfl,hrun⟩ (fun a1 w1 hI=>?_)
    obtain ⟨k0,hk0⟩:=hI
    have hk:=(qjE hk0).1
    generalize least (J a1 w1)=k at hk
    obtain ⟨hkn,st1,g1,β1,hR1,hE1,hs1,hd1,hq1,hrun1⟩:=hk
    cases k with
    | zero=>simp [exec] at hrun1
    | succ k=>
     have hrun1:step (qm pg (exec pg k)) (exec pg k) (.loop live cx) st1=some (e,st'):=hrun1
     have ihk:=IH k (by omega)
     simp only [step] at hrun1
     split at hrun1
     ·rename_i st2 h2
      refine ihk A blk x cx hx _ _ st2 h2 g1 w1 β1 a1 nt hdst (by rw [hs1];exact hnt) (hR1.restrict live) F m hF hnd1 _ (fun ex a2 w2 hp=>?_)
      cases ex with
      | normal=>
       obtain ⟨⟨g2,β2,hR2,hE2,hd2⟩,hs2,hq2⟩:=(hp:Good (qd x=true) M g1 w1 a1 st2 a2 w2)
       have hJ:J a2 w2 k:=⟨by omega,st2,g2,β2,hR2,hE1.trans hE2,hs2.trans hs1,hd1.trans hE1.size hE2 hd2,fun h=>(hq2 h).trans (hq1 h),hrun1⟩
       exact ⟨⟨k,hJ⟩,Nat.lt_succ_of_le (qjE hJ).2⟩
      | _=>exact hp.elim
     ·rename_i hne
      refine ihk A blk x cx hx _ e st' hrun1 g1 w1 β1 a1 nt hdst (by rw [hs1];exact hnt) (hR1.restrict live) F m hF hnd1 _ (fun ex a2 w2 hp=>?_)
      have hq:=hQ ex a2 w2 (hp.trans hE1 hs1 hd1 (fun h=>hq1 (by simpa only [qd] using h)) (fun h=>by simpa only [qd] using h))
      cases ex with
      | normal=>
       exfalso
       cases e with
       | nrm=>exact hne st' hrun1
       | _=>exact hp
      | _=>exact hq
   ·cases htr
  | exit id=>
   simp only [trC,Option.some.injEq] at htr
   subst htr
   simp only [step,Option.some.injEq,Prod.mk.injEq] at hrun
   obtain ⟨rfl,rfl⟩:=hrun
   exact Go.wpIn_exit (hQ _ _ _ (show Post _ M g w a (.exit id) st (.exit id) a w from ⟨rfl,⟨g,β,hR,Evo.refl g w,.refl⟩,rfl,fun _=>rfl⟩))
  | ret=>
   simp only [trC,Option.some.injEq] at htr
   subst htr
   simp only [step,Option.some.injEq,Prod.mk.injEq] at hrun
   obtain ⟨rfl,rfl⟩:=hrun
   exact Go.wpIn_ret (hQ _ _ _ (show Post _ M g w a .ret st .ret a w from ⟨⟨g,β,hR,Evo.refl g w,.refl⟩,rfl,fun _=>rfl⟩))
  | rangeFunc f ps x y=>
   have hnone:F.round=none:=hnd.resolve_right (by simp [qd])
   have hFw:F=Fence.wide:=by cases hF with|wide=>rfl|round l=>cases hnone
   subst hFw
   simp only [trC] at htr
   split at htr
   ·rename_i k hk
    split at htr
    ·rename_i l f' p0 p1 cx cy hl hf hps hx hy
     split at htr
     ·rename_i hnn
      simp only [qOy] at hnn
      simp only [Option.some.injEq] at htr
      subst htr
      obtain ⟨cv,q,h1,h2,h3,h4⟩:=qq4 hrun
      have hps2:ps=#[p0,p1]:=by
       apply Array.ext';simpa using hps
      subst hps2
      simp only [jm,qOy,List.all_cons,List.all_nil,Bool.and_true,Nat.blt_eq] at hdst
      exact hB n ih k l f f' p0 p1 _ x y cx cy A blk hl hf hx hy hnn.1 hnn.2 cv st q e st' h1 h2 h3 h4 g w β a nt hdst.1.1 hdst.1.2 hdst.2.1 hdst.2.2 hnt hR m Q (fun x' a' w' hp=>hQ x' a' w' (hp.weak (fun h=>by simp [qd] at h)))
     ·simp only [Option.some.injEq] at htr;subst htr;cases hrun
    ·simp only [Option.some.injEq] at htr;subst htr;cases hrun
   ·split at htr
    ·rename_i k f' hk hf
     split at htr
     ·rename_i hnn
      simp only [qOy,List.all_eq_true] at hnn
      simp only [Option.some.injEq] at htr
      subst htr
      obtain ⟨cap,r,h1,_,h2,h3,h5⟩:=qjI hrun
      cases h5
      exact qw2 hcs hf (fun f2 hl=>by
       have:=hnn.2 (f2,k) (qn4 hl)
       simpa using this) h1 h2 h3 hR m Q (fun x' a' w' hp=>hQ x' a' w' (hp.weak (fun h=>by simp [qd] at h)))
     ·simp only [Option.some.injEq] at htr;subst htr;cases hrun
    ·simp only [Option.some.injEq] at htr;subst htr;cases hrun
  | _=>
   simp only [trC,Option.some.injEq] at htr
   subst htr
   cases hrun
end W
/-
  More fuel changes nothing.
-/
namespace W
open Go (IntKind BinOp UnOp)
def yU (c c':Call):Prop:=∀i vs H r,c i vs H=some r->c' i vs H=some r
def qrQ (e e':C->St->Option (Ex × St)):Prop:=∀c st x,e c st=some x->e' c st=some x
theorem qv4 {c c':Call} (h:yU c c') {f:O} {l:List O} {st:St} {r:Or} (hr:jc c f l st=some r):jc c' f l st=some r:=by
 unfold jc at hr |-
 split at hr
 ·rename_i i first cap hf
  simp only at hr |-
  split at hr
  ·rename_i hl
   split at hr
   ·rename_i q hq
    (try rw [if_pos hl])
    rw [h _ _ _ _ hq]
    exact hr
   ·cases hr
  ·cases hr
 ·cases hr
theorem qfg {c c':Call} (h:yU c c') {k:OpK} {st:St} {r:Or} (hr:qa c k st=some r):qa c' k st=some r:=by
 cases k with
 | call f l=>exact qv4 h hr
 | callC f l ck=>
  obtain ⟨h1,h2⟩:=qeL hr
  exact qqr (qv4 h h1) h2
 | callQ f l=>
  simp only [qa] at hr |-
  unfold qfA at hr |-
  split at hr
  ·split at hr
   ·rename_i i hf _ ds hds
    split at hr
    ·rename_i q hq
     simp only [h _ _ _ _ hq]
     exact hr
    ·cases hr
   ·cases hr
  ·cases hr
 | _=>exact hr
theorem qeM {c c':Call} (h:yU c c'):∀(l:List Op) {st:St} {x:Ex × St},qk c l st=some x->qk c' l st=some x
 | [],st,x,hr=>hr
 | o::l,st,x,hr=>by
  simp only [qk] at hr |-
  split at hr
  ·rename_i hw
   (try simp only [hw])
   split at hr
   ·rename_i r hk
    simp only [qfg h hk]
    rw [qOx] at hr |-
    split at hr
    ·rename_i hp;rw [if_pos hp];exact hr
    ·rename_i hp;rw [if_neg hp];exact qeM h l hr
   ·cases hr
  ·rename_i hw
   (try simp only [hw])
   exact qeM h l hr
  ·cases hr
theorem qfl {c c':Call} (h:yU c c'):∀(l:List (Op × Bool × List Nat)) {st:St} {x:Ex × St},qx c l st=some x->qx c' l st=some x
 | [],st,x,hr=>hr
 | (o,s,no)::l,st,x,hr=>by
  simp only [qx] at hr |-
  split at hr
  ·rename_i hw
   (try simp only [hw])
   split at hr
   ·rename_i r hk
    simp only [qfg h hk]
    rw [qOx] at hr |-
    split at hr
    ·rename_i hp
     rw [if_pos hp];exact hr
    ·rename_i hp
     rw [if_neg hp]
     split at hr
     ·rename_i st1 h1;(try simp only [h1]);exact qfl h l hr
     ·cases hr
   ·cases hr
  ·rename_i hw
   (try simp only [hw])
   exact qfl h l hr
  ·cases hr
theorem qpW (n:Nat):qOC n n=true:=by simp
theorem qiT {ra rb ra' rb':St->Option (Ex × St)} (ha:∀st x,ra st=some x->ra' st=some x) (hb:∀st x,rb st=some x->rb' st=some x) {l:L} {c:V} {p0 p1:Nat} {base:Env}:∀(i:Nat) {H:List Obj} {lo:Nat} {x:Ex × St},rounds ra rb l c p0 p1 base i H lo=some x->rounds ra' rb' l c p0 p1 base i H lo=some x
 | 0,H,lo,x,h=>h
 | i+1,H,lo,x,h=>by
  obtain ⟨v,st1,hv,hok,h1,h2⟩:=qjo h
  simp only [rounds,hv,hok,cond_true,ha _ _ h1]
  rcases h2 with ⟨st2,h2,h3⟩|⟨ex,st2,h2,hx,rfl⟩
  ·simp only [hb _ _ h2];exact qiT ha hb i h3
  ·rcases hx with rfl|⟨j,rfl⟩<;>simp only [hb _ _ h2]
theorem qsV {c c':Call} {e e':C->St->Option (Ex × St)} (hc:yU c c') (he:qrQ e e') {x:C} {st:St} {y:Ex × St} (h:step c e x st=some y):step c' e' x st=some y:=by
 cases x with
 | skip=>exact h
 | ops l=>exact qeM hc l h
 | opsD l=>exact qfl hc l h
 | seq a b=>
  simp only [step] at h |-
  cases ha:e a st with
  | none=>rw [ha] at h;cases h
  | some p=>
   rw [ha] at h
   rw [he _ _ _ ha]
   obtain ⟨ex,st1⟩:=p
   cases ex with
   | nrm=>exact he _ _ _ h
   | _=>exact h
 | cond o a b=>
  simp only [step] at h |-
  split at h
  ·rename_i hv;(try simp only [hv]);exact he _ _ _ h
  ·rename_i hv;(try simp only [hv]);exact he _ _ _ h
  ·cases h
 | block id live a=>
  simp only [step] at h |-
  cases ha:e a st with
  | none=>rw [ha] at h;cases h
  | some p=>rw [ha] at h;rw [he _ _ _ ha];exact h
 | loop live a=>
  simp only [step] at h |-
  cases ha:e a {st with env:=restrict live st.env} with
  | none=>rw [ha] at h;cases h
  | some p=>
   rw [ha] at h
   rw [he _ _ _ ha]
   obtain ⟨ex,st1⟩:=p
   cases ex with
   | nrm=>exact he _ _ _ h
   | _=>exact h
 | exit id=>exact h
 | ret=>exact h
 | stuck=>exact h
 | rangeB k l f p0 p1 live a b=>
  simp only [step] at h |-
  split at h
  ·rename_i k' c' hf
   (try simp only [hf])
   rw [qOx] at h |-
   split at h
   ·rename_i hk
    rw [if_pos hk]
    split at h
    ·rename_i n hn;(try simp only [hn]);exact qiT (he a) (he b) n h
    ·cases h
   ·cases h
  ·cases h
 | rangeZ k f live=>
  obtain ⟨cap,r,h1,h2,h3,h4,h5⟩:=qjI h
  simp only [step,h1,Nat.beq_refl,h2,Bool.and_self,cond_true,hc _ _ _ _ h3,h4,cond_false,h5]
theorem qd6 {pg:Pg} {e e':C->St->Option (Ex × St)} (he:qrQ e e') {fn:Fn} {H:List Obj} {h:Nat} {vs:List V} {v:V} {st:St} {r:Cr} (hh:handle pg e fn H h vs v st=some r):handle pg e' fn H h vs v st=some r:=by
 obtain ⟨hf,d,st',h1,h2,h3,h6,h4,h5⟩:=qf0 hh
 unfold handle
 simp only [h1,h2,h3,h6,qpW,List.isEmpty_nil,Bool.and_self,cond_true]
 rcases h4 with h4|h4<;>simp only [he _ _ _ h4,h5]
theorem qkP {pg:Pg} {e e':C->St->Option (Ex × St)} (he:qrQ e e') {fn:Fn} {H:List Obj} {t:Nat} {rest:C} {st:St} {r:Cr} (hh:deferred pg e fn H t rest st=some r):deferred pg e' fn H t rest st=some r:=by
 obtain ⟨h,first,cap,ex,st',v,h1,h2,h3,h4,h5⟩:=qby hh
 unfold deferred
 simp only [h1,h2,cond_true]
 rcases h5 with ⟨h5|h5,rfl⟩|⟨rfl,h6⟩
 ·subst h5;simp only [he _ _ _ h3,qd6 he h4]
 ·subst h5;simp only [he _ _ _ h3,qd6 he h4]
 ·simp only [he _ _ _ h3,h6,cond_true,qd6 he h4]
theorem qlw {pg:Pg} {e e':C->St->Option (Ex × St)} (he:qrQ e e'):yU (qm pg e) (qm pg e'):=by
 intro i vs H r h
 unfold qm at h |-
 cases hf:pg.fn i with
 | none=>rw [hf] at h;exact h
 | some fn=>
  rw [hf] at h
  simp only at h |-
  split at h
  ·rename_i hn
   rw [if_pos hn]
   cases hb:e fn.body {env:=kf 0 vs,H,lo:=H.length} with
   | none=>rw [hb] at h;cases h
   | some p=>
    rw [hb] at h;rw [he _ _ _ hb]
    obtain ⟨ex,st⟩:=p
    cases ex with
    | nrm=>
     simp only at h |-
     cases hd:fn.dfr with
     | none=>rw [hd] at h;exact h
     | some q=>obtain ⟨t,rest⟩:=q;rw [hd] at h;exact qkP he h
    | _=>exact h
  ·cases h
theorem qoy {pg:Pg}:∀n,qrQ (exec pg n) (exec pg (n+1))
 | 0=>fun c st x h=>by simp [exec] at h
 | n+1=>fun c st x h=>qsV (qlw (qoy n)) (qoy n) h
theorem kW {pg:Pg} {n m:Nat} (h:n<=m):qrQ (exec pg n) (exec pg m):=by
 induction h with
 | refl=>exact fun _ _ _ h=>h
 | step _ ih=>exact fun c st x hx=>qoy _ _ _ _ (ih c st x hx)
theorem qdh {pg:Pg} {n m:Nat} (h:n<=m):yU (kA pg n) (kA pg m):=qlw (kW h)
def Runs (pg:Pg) (c:C) (st:St) (e:Ex) (st':St):Prop:=∃n,exec pg n c st=some (e,st')
def CallsTo (pg:Pg) (f:Nat) (vs:List V) (H:List Obj) (r:Cr):Prop:=∃n,kA pg n f vs H=some r
def RunsOps (pg:Pg) (l:List Op) (st:St) (e:Ex) (st':St):Prop:=∃n,qk (kA pg n) l st=some (e,st')
variable {pg:Pg}
theorem Runs.skip {st:St}:Runs pg .skip st .nrm st:=⟨1,rfl⟩
theorem Runs.exit {st:St} {id:Nat}:Runs pg (.exit id) st (.exit id) st:=⟨1,rfl⟩
theorem Runs.ret {st:St}:Runs pg .ret st .ret st:=⟨1,rfl⟩
theorem Runs.ops {l:List Op} {st:St} {e:Ex} {st':St} (h:RunsOps pg l st e st'):Runs pg (.ops l) st e st':=by
 obtain ⟨n,h⟩:=h
 exact ⟨n+1,h⟩
theorem Runs.seq {a b:C} {st st1:St} {e:Ex} {st':St} (h:Runs pg a st .nrm st1) (h':Runs pg b st1 e st'):Runs pg (.seq a b) st e st':=by
 obtain ⟨n,h⟩:=h
 obtain ⟨m,h'⟩:=h'
 refine ⟨max n m+1,?_⟩
 show step _ (exec pg (max n m)) (.seq a b) st=_
 simp only [step,kW (Nat.le_max_left n m) _ _ _ h,kW (Nat.le_max_right n m) _ _ _ h']
theorem Runs.block {id:Nat} {live:List Nat} {a:C} {st st1:St} (h:Runs pg a st .nrm st1\/Runs pg a st (.exit id) st1):Runs pg (.block id live a) st .nrm {st1 with env:=restrict live st1.env}:=by
 rcases h with ⟨n,h⟩|⟨n,h⟩
 ·exact ⟨n+1,by show step _ (exec pg n) (.block id live a) st=_;simp only [step,h]⟩
 ·exact ⟨n+1,by show step _ (exec pg n) (.block id live a) st=_;simp [step,h]⟩
theorem Runs.loop {live:List Nat} {a:C} {st st1:St} {e:Ex} {st':St} (h:Runs pg a {st with env:=restrict live st.env} .nrm st1) (h':Runs pg (.loop live a) st1 e st'):Runs pg (.loop live a) st e st':=by
 obtain ⟨n,h⟩:=h
 obtain ⟨m,h'⟩:=h'
 refine ⟨max n m+1,?_⟩
 show step _ (exec pg (max n m)) (.loop live a) st=_
 simp only [step,kW (Nat.le_max_left n m) _ _ _ h,kW (Nat.le_max_right n m) _ _ _ h']
theorem RunsOps.nil {st:St}:RunsOps pg [] st .nrm st:=⟨0,rfl⟩
theorem RunsOps.plain {l l':List Op} {st st1:St} {e:Ex} {st':St} (h:∀call,qk call (l++l') st=qk call l' st1) (h':RunsOps pg l' st1 e st'):RunsOps pg (l++l') st e st':=by
 obtain ⟨n,h'⟩:=h'
 exact ⟨n,by rw [h];exact h'⟩
theorem RunsOps.callee {d:Option Nat} {f:O} {args:List O} {l:List Op} {st:St} {i:Nat} {first cap:List V} {r:Cr} {e:Ex} {st':St} (hf:rd st.env f=.fn i first cap)
  (hl:V.allLeave (first++args.map (rd st.env)++cap)=true) (hc:CallsTo pg i (first++args.map (rd st.env)++cap) st.H r) (hp:r.pan=false)
  (h:RunsOps pg l (put d r.v {env:=spentAll args st.env,H:=r.H,lo:=min st.lo r.lo}) e st'):RunsOps pg (⟨d,.call f args,none⟩::l) st e st':=by
 obtain ⟨n,hc⟩:=hc
 obtain ⟨m,h⟩:=h
 refine ⟨max n m,?_⟩
 simp only [qk,wanted,qa,jc,hf,hl,if_true,qdh (Nat.le_max_left n m) _ _ _ _ hc,hp,cond_false]
 exact qeM (qdh (Nat.le_max_right n m)) l h
theorem CallsTo.fn {f:Nat} {fn:Fn} {vs:List V} {H:List Obj} {r:Cr} {st:St} {rs:List V} (hf:pg.fn f=some fn) (hn:fn.np=vs.length) (hr0:fn.rcv=none) (hd0:fn.dfr=none)
  (h:Runs pg fn.body {env:=kf 0 vs,H,lo:=H.length} .ret st\/Runs pg fn.body {env:=kf 0 vs,H,lo:=H.length} .nrm st) (hr:qM fn.own st fn.res=some rs) (hl:leave H false (qlN rs) st=some r):CallsTo pg f vs H r:=by
 rcases h with ⟨n,h⟩|⟨n,h⟩
 ·exact ⟨n,by simp only [kA,qm,hf,hn,hr0,hd0,and_self,if_true,h,zL,hr,hl]⟩
 ·exact ⟨n,by simp only [kA,qm,hf,hn,hr0,hd0,and_self,if_true,h,zL,hr,hl]⟩
end W
/-
  Code with a deferred closure; closures that recover first.
-/
namespace W
open Go (World Value Addr IntKind Program TypeId FuncId Operand Act Oper Next Result Sem BinOp UnOp Ending Exit Code Func Fence Frame)
def qoC (ex:C->St->Option (Ex × St)):Prop:=∀c st x,ex c st=some x->∃call ex',qrQ ex' ex/\step call ex' c st=some x
theorem qlW {pg:Pg} (n:Nat):qoC (exec pg n):=fun c st x h=>by
 cases n with
 | zero=>simp [exec] at h
 | succ n=>exact ⟨_,_,qoy n,h⟩
theorem qcn {P:Program} {M:Maps}:qn P M qdt:=fun i vs H r h=>by cases h
def qNz (M:Maps) (g:Gh) (w:World) (a:Act) (h:Nat) (first cap:List V) (e:Ex) (st':St) (x:Exit) (a':Act) (w':World):Prop:=
 ∃g1 w1 a1 ds1 h' fv cv,look M.fm h'=some h/\RepSL M g1 w1 first fv.toList/\RepSL M g1 w1 cap cv.toList/\Evo g w g1 w1/\a1.tmps.size=a.tmps.size/\DefOk g1 w w1 a.defers ds1/\
  a1.defers={target:=.fn (.func h') cv,args:=fv}::ds1/\Post False M g1 w1 a1 e st' x a' w'
section
variable {P:Program} {M:Maps} {ex:C->St->Option (Ex × St)}
theorem qEn {call:Call} {q:Op} (hq:∀st,qa call q.k st=qa qdt q.k st) (st:St):qk call [q] st=qk qdt [q] st:=by
 simp only [qk,hq]
theorem qnM (he:qg1 P M ex) (hs:qoC ex) {A:Ann} {nt:Nat} {m:Nat}:∀{c:Code} {pre:C} {t:Nat} {post:C},trD M P A c=some (pre,t,post)->∀{st:St} {e1:Ex} {st1:St},ex pre st=some (e1,st1)->∀{g:Gh} {w:World} {β:Nat->Nat} {a:Act},jm nt c=true->nt<=a.tmps.size->Rel M g w β st a.tmps->
  ∀{Q:Exit->Act->World->Prop},(e1≠.nrm->∀x a' w',Post False M g w a e1 st1 x a' w'->Q x a' w')->
  (e1=.nrm->∃h first cap e2 st2,get t st1.env=.fn h first cap/\V.ok.oks (first++cap)=true/\ex post st1=some (e2,st2)/\∀x a' w',qNz M g w a h first cap e2 st2 x a' w'->Q x a' w')->c.wpIn Fence.wide m P Q a w
 | .region id ops draw,pre,t,post,htr,st,e1,st1,hrun,g,w,β,a,hdst,hnt,hR,Q,h1,h2=>by
  cases draw with
  | true=>simp [trD] at htr
  | false=>
   simp only [trD] at htr
   split at htr
   ·rename_i o1 o2 hops
    split at htr
    ·rename_i f1 fa fb t' args ty l ho1 ho2 hd2 hg2 hl
     split at htr
     ·rename_i hargs
      simp only [Option.some.injEq,Prod.mk.injEq] at htr
      obtain ⟨rfl,rfl,rfl⟩:=htr
      obtain ⟨call,ex',hle,hst⟩:=hs _ _ _ hrun
      have hst:qk call l st=some (e1,st1):=hst
      have hst':qk qdt l st=some (e1,st1):=by
       simp only [zZ] at hl
       split at hl
       ·rename_i g' r hg hr
        simp only [Option.some.injEq] at hr
        subst hr
        simp only [Option.some.injEq] at hl
        subst hl
        rw [<- qEn (fun st=>?_)]
        ·exact hst
        ·rw [ho1]
         have key:∀k:Option OpK,(k=none\/∃f a b,k=some (.mkFn f a b))->∀st,qa call (qax k) st=qa qdt (qax k) st:=by
          intro k hk st
          rcases hk with rfl|⟨f,a,b,rfl⟩<;>rfl
         refine key _ ?_ st
         cases f1 with
         | func f=>
          simp only [zo,qOD,qOE]
          cases look M.fm f with
          | none=>exact .inl rfl
          | some q=>
           cases opnds M (fun _=>false) 0 fa.toList with
           | none=>exact .inl rfl
           | some q1=>
            cases opnds M (fun _=>false) 0 fb.toList with
            | none=>exact .inl rfl
            | some q2=>exact .inr ⟨_,_,_,rfl⟩
         | _=>exact .inl rfl
       ·cases hl
      have hsz:ops.size=2:=by rw [<- Array.length_toList,hops];rfl
      refine Go.wpIn_region ?_
      have hget:∀k o,[o1][k]?=some o->ops[0+k]?=some o:=fun k o hk=>by
       cases k with
       | zero=>rw [<- Array.getElem?_toList,hops];simpa using hk
       | succ k=>simp at hk
      have hdst':=qlY hdst
      rw [hsz,show List.range 2=List.range' 0 [o1].length++[1] from rfl]
      refine ql4 qcn .wide [o1] 0 [1] l st g w β a hget hl (fun o ho=>hdst' o (by rw [hops];simp only [List.mem_singleton] at ho;simp [ho])) (fun _ _=>.inl rfl) hnt e1 st1 hst' hR Q (fun a' w' hg _ he1=>?_) (fun x a' w' hp hne=>h1 hne x a' w' (hp.weak (fun h=>h.elim)))
      obtain ⟨h,first,cap,e2,st2,k1,k2,k3,k4⟩:=h2 he1
      obtain ⟨call2,ex2,_,hsk⟩:=hs _ _ _ k3
      have hsk:some (Ex.nrm,st1)=some (e2,st2):=hsk
      simp only [Option.some.injEq,Prod.mk.injEq] at hsk
      obtain ⟨rfl,rfl⟩:=hsk
      obtain ⟨⟨g1,β1,hR1,hE1,hD1⟩,hs1,_⟩:=hg
      have ho:ops[1]?=some o2:=by rw [<- Array.getElem?_toList,hops];rfl
      have hT:=hR1.e t'
      rw [k1] at hT
      generalize htm:a'.tmps.getD t' Go.undef=c at hT
      cases hT with
      | s hT=>
       cases hT with
       | fn _ f2 _ _ fv cv hlook hr1 hr2=>
        simp only [Go.wpOpsIn,ho,Go.Region.wanted,hg2,if_true,Go.Oper.wpIn]
        refine ⟨fun f _=>trivial,?_⟩
        have hres:(Go.execOp a'.eval o2).run P w'=.ok (.defer {target:=.fn (.func f2) cv,args:=fv}) w':=by
         have hev:a'.eval (.tmp t')=.func (.func f2) fv cv:=htm
         have ha:args=#[]:=by apply Array.ext';simpa using hargs
         subst ha
         simp only [Go.execOp,ho2,Go.resolve,hev,Go.Deferred.ofValue,Sem.run_bind,Sem.run_pure,Result.andThen_ok]
         simp
        show o2.uponIn _ _ _ _ _ _ ((o2.semAt none a'.eval).run P w')
        rw [Oper.semAt_none,hres,Oper.uponIn_defer,hd2]
        simp only [Go.Act.put]
        refine k4 .normal _ _ ⟨g1,w',{tmps:=a'.tmps,defers:={target:=.fn (.func f2) cv,args:=fv}::a'.defers},a'.defers,f2,fv,cv,hlook,hr1,hr2,hE1,hs1,hD1,rfl,?_⟩
        exact (show Good False M g1 w' _ st1 _ w' from ⟨⟨g1,β1,hR1,Evo.refl g1 w',.refl⟩,rfl,fun _=>rfl⟩)
     ·cases htr
    ·cases htr
   ·cases htr
 | .seq x y,pre,t,post,htr,st,e1,st1,hrun,g,w,β,a,hdst,hnt,hR,Q,h1,h2=>by
  simp only [jm,qOy] at hdst
  simp only [trD] at htr
  refine Go.wpIn_seq ?_
  split at htr
  ·rename_i pre' t' post' hx
   split at htr
   ·rename_i cy hy
    simp only [Option.some.injEq,Prod.mk.injEq] at htr
    obtain ⟨rfl,rfl,rfl⟩:=htr
    refine qnM he hs hx hrun hdst.1 hnt hR (fun hne x a' w' hp=>?_) (fun he1=>?_)
    ·have hq:=h1 hne x a' w' hp
     cases x with
     | normal=>
      exfalso
      cases e1 with
      | nrm=>exact hne rfl
      | _=>exact hp
     | _=>exact hq
    ·obtain ⟨h,first,cap,e2,st2,k1,k2,k3,k4⟩:=h2 he1
     obtain ⟨call2,ex2,hle,hst⟩:=hs _ _ _ k3
     simp only [step] at hst
     split at hst
     ·rename_i stm hm
      refine ⟨h,first,cap,.nrm,stm,k1,k2,hle _ _ _ hm,fun x a' w' hp=>?_⟩
      have hp0:=hp
      obtain ⟨g2,w2,a2,ds1,h',fv,cv,q1,q2,q3,q4,q5,q6,q7,q8⟩:=hp
      cases x with
      | normal=>
       obtain ⟨⟨g3,β3,r1,r2,r3⟩,r4,_⟩:=(q8:Good False M g2 w2 a2 stm a' w')
       refine he A 0 y cy hy stm e2 st2 (hle _ _ _ hst) g3 w' β3 a' nt hdst.2 (by rw [r4,q5];exact hnt) r1 Fence.wide m .wide (.inl rfl) Q (fun x2 a3 w3 hp2=>?_)
       exact k4 x2 a3 w3 ⟨g2,w2,a2,ds1,h',fv,cv,q1,q2,q3,q4,q5,q6,q7,hp2.trans r2 r4 r3 (fun h=>h.elim) (fun h=>h.elim)⟩
      | _=>exact q8.elim
     ·rename_i hne
      refine ⟨h,first,cap,e2,st2,k1,k2,hle _ _ _ hst,fun x a' w' hp=>?_⟩
      have hq:=k4 x a' w' hp
      cases x with
      | normal=>
       exfalso
       obtain ⟨g2,w2,a2,ds1,h',fv,cv,q1,q2,q3,q4,q5,q6,q7,q8⟩:=hp
       cases e2 with
       | nrm=>exact hne st2 hst
       | _=>exact q8
      | _=>exact hq
   ·cases htr
  ·split at htr
   ·rename_i cx pre' t' post' hx hy
    simp only [Option.some.injEq,Prod.mk.injEq] at htr
    obtain ⟨rfl,rfl,rfl⟩:=htr
    obtain ⟨call2,ex2,hle,hst⟩:=hs _ _ _ hrun
    simp only [step] at hst
    split at hst
    ·rename_i stm hm
     refine he A 0 x cx hx st .nrm stm (hle _ _ _ hm) g w β a nt hdst.1 hnt hR Fence.wide m .wide (.inl rfl) _ (fun x' a1 w1 hp=>?_)
     cases x' with
     | normal=>
      obtain ⟨⟨g3,β3,r1,r2,r3⟩,r4,_⟩:=(hp:Good _ M g w a stm a1 w1)
      refine qnM he hs hy (hle _ _ _ hst) hdst.2 (by rw [r4];exact hnt) r1 (fun hne x a' w' hp=>h1 hne x a' w' (hp.trans r2 r4 r3 (fun h=>h.elim) (fun h=>h.elim))) (fun he1=>?_)
      obtain ⟨h,first,cap,e2,st2,k1,k2,k3,k4⟩:=h2 he1
      refine ⟨h,first,cap,e2,st2,k1,k2,k3,fun x a' w' hp=>?_⟩
      obtain ⟨g2,w2,a2,ds1,h',fv,cv,q1,q2,q3,q4,q5,q6,q7,q8⟩:=hp
      exact k4 x a' w' ⟨g2,w2,a2,ds1,h',fv,cv,q1,q2,q3,r2.trans q4,q5.trans r4,r3.trans r2.size q4 q6,q7,q8⟩
     | _=>exact hp.elim
    ·rename_i hne
     have hne':e1≠.nrm:=fun h=>hne st1 (by rw [hst,h])
     refine he A 0 x cx hx st e1 st1 (hle _ _ _ hst) g w β a nt hdst.1 hnt hR Fence.wide m .wide (.inl rfl) _ (fun x' a1 w1 hp=>?_)
     have hq:=h1 hne' x' a1 w1 (hp.weak (fun h=>h.elim))
     cases x' with
     | normal=>
      exfalso
      cases e1 with
      | nrm=>exact hne' rfl
      | _=>exact hp
     | _=>exact hq
   ·cases htr
 | .skip,_,_,_,htr,_,_,_,_,_,_,_,_,_,_,_,_,_,_=>by cases htr
 | .cond _ _ _,_,_,_,htr,_,_,_,_,_,_,_,_,_,_,_,_,_,_=>by cases htr
 | .block _ _,_,_,_,htr,_,_,_,_,_,_,_,_,_,_,_,_,_,_=>by cases htr
 | .loop _,_,_,_,htr,_,_,_,_,_,_,_,_,_,_,_,_,_,_=>by cases htr
 | .rangeFunc _ _ _ _,_,_,_,htr,_,_,_,_,_,_,_,_,_,_,_,_,_,_=>by cases htr
 | .exit _,_,_,_,htr,_,_,_,_,_,_,_,_,_,_,_,_,_,_=>by cases htr
 | .scope _,_,_,_,htr,_,_,_,_,_,_,_,_,_,_,_,_,_,_=>by cases htr
 | .label _,_,_,_,htr,_,_,_,_,_,_,_,_,_,_,_,_,_,_=>by cases htr
 | .goto _,_,_,_,htr,_,_,_,_,_,_,_,_,_,_,_,_,_,_=>by cases htr
 | .ret,_,_,_,htr,_,_,_,_,_,_,_,_,_,_,_,_,_,_=>by cases htr
 | .refuse _,_,_,_,htr,_,_,_,_,_,_,_,_,_,_,_,_,_,_=>by cases htr
theorem qs3 (he:qg1 P M ex) (hs:qoC ex) {A:Ann} {nt:Nat} {m:Nat}:∀{c:Code} {d:Nat} {x:C},trH M P A c=some (d,x)->∀{st:St} {v:V} {e:Ex} {st1:St},ex x ⟨(d,v)::st.env,st.H,st.lo⟩=some (e,st1)->e=.nrm\/e=.ret->
  ∀{g:Gh} {w:World} {β:Nat->Nat} {a:Act} {cs cs':List Frame} {cv:Value},jm nt c=true->nt<=a.tmps.size->Rel M g w β st a.tmps->RepS M g w v cv->(Go.recoverD cs=some (cv,cs')\/(Go.recoverD cs=none/\cv=.nilIface/\cs'=cs))->
  ∀{Q:Exit->Act->List Frame->World->Prop},(∀x a' w',Post (qd c=true) M g w a e st1 x a' w'->Q x a' cs' w')->c.wpSIn Fence.wide m P Q a cs w
 | .region id ops draw,d,x,htr,st,v,e,st1,hrun,hen,g,w,β,a,cs,cs',cv,hdst,hnt,hR,hv,hrec,Q,hQ=>by
  cases draw with
  | true=>simp [trH] at htr
  | false=>
   simp only [trH] at htr
   split at htr
   ·rename_i o o2 hops
    split at htr
    ·rename_i args tys y d' l ho ho2 hd hg hl
     simp only [Option.some.injEq,Prod.mk.injEq] at htr
     obtain ⟨rfl,rfl⟩:=htr
     obtain ⟨call,ex',hle,hst⟩:=hs _ _ _ hrun
     have hst:qk call l ⟨(d',v)::st.env,st.H,st.lo⟩=some (e,st1):=hst
     have hdst':=qlY hdst
     have hsz:ops.size=2:=by rw [<- Array.length_toList,hops];rfl
     have h0:ops[0]?=some o:=by rw [<- Array.getElem?_toList,hops];rfl
     have h1:ops[1]?=some o2:=by rw [<- Array.getElem?_toList,hops];rfl
     refine Go.wpSIn_region ?_
     rw [hsz,show List.range 2=[0,1] from rfl]
     have hrun0:(Go.execOp a.eval o).run P w=.ok .recover w:=by
      simp only [Go.execOp,ho,Go.resolve,Sem.run_bind,Sem.run_pure,Result.andThen_ok,Go.invoke]
      rfl
     have hdo:qg o a:=fun n hn=>Nat.lt_of_lt_of_le (hdst' o (by rw [hops];simp) n hn) hnt
     have hR0:Rel M g w β ⟨(d',v)::st.env,st.H,st.lo⟩ (a.put o.dst cv).tmps:=by
      have:=hR.putV hdo (.s hv)
      rw [qL (RepV.notBox (RepV.s hv) (β:=β)),hd] at this
      rw [hd]
      exact this
     have tail:Go.wpOpsSIn Fence.wide m P ops Q [1] (a.put o.dst cv) cs' w:=by
      simp only [zZ] at hl
      split at hl
      ·rename_i g' r hg2 hr
       simp only [Option.some.injEq] at hr
       subst hr
       simp only [Option.some.injEq] at hl
       subst hl
       have hd2:qg o2 (a.put o.dst cv):=fun n hn=>by rw [kY];exact Nat.lt_of_lt_of_le (hdst' o2 (by rw [hops];simp) n hn) hnt
       simp only [Go.wpOpsSIn,h1]
       refine ⟨fun f _=>trivial,?_⟩
       simp only [qk] at hst
       have fin:∀(c:Value) (w':World) (g':Gh) (β':Nat->Nat) (stx:St),e=.nrm->stx=st1->Rel M g' w' β' stx ((a.put o.dst cv).put o2.dst c).tmps->Evo g w g' w'->Q .normal ((a.put o.dst cv).put o2.dst c) cs' w':=by
        intro c w' g' β' stx he1 hx hR' hE'
        subst hx
        subst he1
        refine hQ .normal _ w' (show Good _ M g w a stx _ w' from ⟨⟨g',β',hR',hE',.same (by rw [kQ,kQ])⟩,by rw [kY,kY],fun _=>by rw [kQ,kQ]⟩)
       split at hst
       ·rename_i hw
        rw [jF hR0 hg2 hw]
        simp only [if_true]
        split at hst
        ·rename_i q hq
         have hk:=qbC hq
         have key:q.pan=false/\Left1 P M g w o2 (a.put o.dst cv) q:=by
          revert hk hq
          generalize qax _=K
          intro hq hk
          rw [ho2] at hk
          simp only [zo] at hk
          split at hk
          ·split at hk
           ·rename_i n hx
            simp only [Option.some.injEq] at hk
            subst hk
            have hq':qll n ⟨(d',v)::st.env,st.H,st.lo⟩=some q:=hq
            refine ⟨?_,qrx hd2 hR0 hx (.inr ho2) hq'⟩
            unfold qll at hq'
            split at hq'
            ·exact qB hq'
            ·cases hq'
           ·cases hk
          ·rw [Option.map_eq_some_iff] at hk
           obtain ⟨y',hy,rfl⟩:=hk
           have hq':qrJ y' ⟨(d',v)::st.env,st.H,st.lo⟩=some q:=hq
           have hq2:=hq'
           simp only [qrJ,ok,Option.some.injEq] at hq2
           exact ⟨by rw [<- hq2],qtl hd2 hR0 hy (.inr ho2) hq'⟩
         rw [key.1] at hst
         simp only [cond_false,Option.some.injEq,Prod.mk.injEq] at hst
         obtain ⟨c,w',g',β',hyi,hR',hE'⟩:=key.2
         cases hyi with
         | value h=>rw [h];exact fin c w' g' β' _ hst.1.symm hst.2 hR' hE'
         | skip h=>rw [h];exact fin _ w' g' β' _ hst.1.symm hst.2 hR' hE'
        ·cases hst
       ·rename_i hw
        rw [jF hR0 hg2 hw]
        simp only [qOF,if_false]
        simp only [Option.some.injEq,Prod.mk.injEq] at hst
        exact fin _ w g β _ hst.1.symm hst.2 (qoB hR0 hd2) (Evo.refl g w)
       ·cases hst
      ·cases hl
     show Go.wpOpsSIn Fence.wide m P ops Q (0::[1]) a cs w
     unfold Go.wpOpsSIn
     simp only [h0]
     refine ⟨fun f _=>trivial,?_⟩
     simp only [Go.Region.wanted,hg,if_true,hrun0]
     rcases hrec with hrec|⟨hrec,rfl,rfl⟩
     ·rw [hrec];exact tail
     ·rw [hrec];exact tail
    ·cases htr
   ·cases htr
 | .seq x y,d,z,htr,st,v,e,st1,hrun,hen,g,w,β,a,cs,cs',cv,hdst,hnt,hR,hv,hrec,Q,hQ=>by
  simp only [jm,qOy] at hdst
  simp only [trH] at htr
  split at htr
  ·rename_i d' x' y' hx hy
   simp only [Option.some.injEq,Prod.mk.injEq] at htr
   obtain ⟨rfl,rfl⟩:=htr
   obtain ⟨call,ex',hle,hst⟩:=hs _ _ _ hrun
   simp only [step] at hst
   refine Go.wpSIn_seq ?_
   split at hst
   ·rename_i stm hm
    refine qs3 he hs hx (hle _ _ _ hm) (.inl rfl) hdst.1 hnt hR hv hrec (fun z a1 w1 hp=>?_)
    cases z with
    | normal=>
     obtain ⟨⟨g3,β3,r1,r2,r3⟩,r4,r5⟩:=(hp:Good _ M g w a stm a1 w1)
     refine Go.wpSIn_of_wpIn rfl (he A 0 y y' hy stm e st1 (hle _ _ _ hst) g3 w1 β3 a1 nt hdst.2 (by rw [r4];exact hnt) r1 Fence.wide m .wide (.inl rfl) _ (fun x2 a3 w3 hp2=>?_))
     exact hQ x2 a3 w3 (hp2.trans r2 r4 r3 (fun h=>r5 (by simp only [qd,qOy] at h;exact h.1)) (fun h=>by simp only [qd,qOy] at h;exact h.2))
    | _=>exact hp.elim
   ·rename_i hne
    have hret:e=.ret:=hen.resolve_left (fun h=>hne st1 (by rw [hst,h]))
    subst hret
    refine qs3 he hs hx (hle _ _ _ hst) (.inr rfl) hdst.1 hnt hR hv hrec (fun z a1 w1 hp=>?_)
    cases z with
    | ret=>exact hQ _ _ _ (hp.weak (fun h=>by simp only [qd,qOy] at h;exact h.1))
    | _=>exact hp.elim
  ·cases htr
 | .skip,_,_,htr,_,_,_,_,_,_,_,_,_,_,_,_,_,_,_,_,_,_,_,_=>by cases htr
 | .cond _ _ _,_,_,htr,_,_,_,_,_,_,_,_,_,_,_,_,_,_,_,_,_,_,_,_=>by cases htr
 | .block _ _,_,_,htr,_,_,_,_,_,_,_,_,_,_,_,_,_,_,_,_,_,_,_,_=>by cases htr
 | .loop _,_,_,htr,_,_,_,_,_,_,_,_,_,_,_,_,_,_,_,_,_,_,_,_=>by cases htr
 | .rangeFunc _ _ _ _,_,_,htr,_,_,_,_,_,_,_,_,_,_,_,_,_,_,_,_,_,_,_,_=>by cases htr
 | .exit _,_,_,htr,_,_,_,_,_,_,_,_,_,_,_,_,_,_,_,_,_,_,_,_=>by cases htr
 | .scope _,_,_,htr,_,_,_,_,_,_,_,_,_,_,_,_,_,_,_,_,_,_,_,_=>by cases htr
 | .label _,_,_,htr,_,_,_,_,_,_,_,_,_,_,_,_,_,_,_,_,_,_,_,_=>by cases htr
 | .goto _,_,_,htr,_,_,_,_,_,_,_,_,_,_,_,_,_,_,_,_,_,_,_,_=>by cases htr
 | .ret,_,_,htr,_,_,_,_,_,_,_,_,_,_,_,_,_,_,_,_,_,_,_,_=>by cases htr
 | .refuse _,_,_,htr,_,_,_,_,_,_,_,_,_,_,_,_,_,_,_,_,_,_,_,_=>by cases htr
end
end W
/-
  A range over slices.Backward(x): simulated.
-/
namespace W
open Go (World Value Addr IntKind Program TypeId FuncId Operand Act Oper Next Result Sem BinOp UnOp Ending Exit Code Func Fence Frame)
def qeX (tS tI:TypeId):Array Oper:=#[⟨some 4,.load tS (.tmp 1),tS, "iter.go:28",#[],none⟩,
 ⟨some 5,.call ⟨.builtin .len,#[.tmp 4],#[tS]⟩,tI, "iter.go:28",#[⟨0,.data⟩],none⟩,
 ⟨some 6,.binOp .sub tI (.tmp 5) (.const (.int .i64 1)) tI,tI, "iter.go:28",#[⟨1,.data⟩],none⟩,
 ⟨some 3,.assign (.tmp 6),tI, "iter.go:28",#[⟨2,.data⟩,⟨0,.phase⟩,⟨1,.phase⟩,⟨2,.phase⟩],none⟩]
def qc8 (tI tB:TypeId):Array Oper:=#[⟨some 7,.move (.tmp 3),tI, "iter.go:28",#[],none⟩,
 ⟨some 8,.binOp .geq tI (.tmp 7) (.const (.int .i64 0)) tI,tB, "iter.go:28",#[⟨0,.data⟩],none⟩]
def zA (tS tE tY tI tB t0:TypeId):Array Oper:=#[⟨some 11,.move (.tmp 0),tY, "iter.go:29",#[],none⟩,
 ⟨some 12,.move (.tmp 3),tI, "iter.go:29",#[],none⟩,
 ⟨some 13,.load tS (.tmp 1),tS, "iter.go:29",#[],none⟩,
 ⟨some 14,.move (.tmp 3),tI, "iter.go:29",#[],none⟩,
 ⟨some 15,.indexAddr tS (.tmp 13) (.tmp 14),t0, "iter.go:29",#[⟨2,.data⟩,⟨3,.data⟩],none⟩,
 ⟨some 16,.load tE (.tmp 15),tE, "iter.go:29",#[⟨4,.data⟩],none⟩,
 ⟨some 17,.call ⟨.value (.tmp 11),#[.tmp 12,.tmp 16],#[tI,tE]⟩,tB, "iter.go:29",#[⟨0,.data⟩,⟨1,.data⟩,⟨5,.data⟩],none⟩,
 ⟨some 18,.unOp .not tB (.tmp 17),tB, "iter.go:29",#[⟨6,.data⟩],none⟩]
def qak (tI:TypeId):Array Oper:=#[⟨some 9,.move (.tmp 3),tI, "iter.go:28",#[],none⟩,
 ⟨some 10,.binOp .sub tI (.tmp 9) (.const (.int .i64 1)) tI,tI, "iter.go:28",#[⟨0,.data⟩],none⟩,
 ⟨some 3,.assign (.tmp 10),tI, "iter.go:28",#[⟨1,.data⟩,⟨0,.phase⟩,⟨1,.phase⟩],none⟩]
def qum (tS tE tY tI tB t0:TypeId):Code:=
 .seq (.region 0 (qeX tS tI) false) (.block 0 (.loop (.seq (.seq (.region 1 (qc8 tI tB) false) (.cond (.tmp 8) .skip (.exit 0)))
  (.seq (.block 1 (.seq (.region 3 (zA tS tE tY tI tB t0) false) (.cond (.tmp 18) .ret .skip))) (.region 2 (qak tI) false)))))
def qJl (P:Program) (f:FuncId) (l:L):Prop:=∃tS tE tY tI tB t0 fn,P.funcs[f]?=some fn/\(fn.name == "runtime.NumGoroutine")=false/\fn.body=some (qum tS tE tY tI tB t0)/\fn.ntmps=19/\fn.results=#[]/\
 P.underlying tS=some (.slice tE)/\lay P tS=some ⟨1,false⟩/\lay P tE=some l/\P.underlying tI=some (.int .i64)/\P.underlying tB=some .bool
def qui (P:Program) (M:Maps):Prop:=∀f' k l,look M.fm f'=some k->look M.bk k=some l->qJl P f' l
def OpK.plain:OpK->Bool
 | .mov (.t _)=>true
 | .load false _ _ _=>true
 | .bi .lenL _=>true
 | .bin _ _ _ _=>true
 | .un _ _=>true
 | .indexAddr _ _ _ _=>true
 | _=>false
theorem qvp {call:Call} {k:OpK} {st:St} {r:Or} (hk:k.plain=true) (h:qa call k st=some r):r.st=st/\r.pan=false:=by
 have key:∀{v:V},ok v st=some r->r.st=st/\r.pan=false:=fun h=>by
  simp only [ok,Option.some.injEq] at h;subst h;exact ⟨rfl,rfl⟩
 cases k with
 | mov x=>cases x with
  | t n=>exact key h
  | _=>cases hk
 | load mv sl l a=>
  cases mv with
  | true=>cases hk
  | false=>
   simp only [qa,zB,cond_false,qOx] at h
   split at h
   ·cases h
   ·split at h
    ·rename_i hc;cases hc
    ·split at h
     ·exact key h
     ·cases h
 | bi b l=>
  cases b with
  | lenL=>
   have h:eBi .lenL l st=some r:=h
   match l with
   | [x]=>
    have h:qcZ x st=some r:=h
    unfold qcZ at h
    repeat' (split at h)
    all_goals first|exact key h|cases h
   | []=>cases h
   | _::_::_=>cases h
  | _=>cases hk
 | bin op kd x y=>
  simp only [qa] at h
  unfold qoZ at h
  split at h
  ·exact key h
  ·cases h
 | un op x=>
  simp only [qa] at h
  unfold eUn at h
  repeat' (split at h)
  all_goals first|exact key h|cases h
 | indexAddr x i n arr=>
  simp only [qa] at h
  unfold qV jn zM at h
  simp only [qOx] at h
  repeat' (split at h)
  all_goals first|exact key h|cases h
 | _=>cases hk
theorem qwG {m:Nat} {dst:Option Nat} {v c:V} {st:St} (hc:c.ok=true) (hg:get m st.env=c) (hd:dst≠some m):get m (put dst v st).env=c:=by
 cases dst with
 | none=>exact hg
 | some n=>
  have hne:m≠n:=fun e=>hd (by rw [e])
  show get m ((n,v)::_)=c
  rw [qc,if_neg hne]
  cases v with
  | box cs=>
   show get m (qbt n st.env)=c
   rw [qmR,hg]
   cases c<;>first|rfl|cases hc
  | _=>exact hg
theorem qef {call:Call}:∀(l:List Op) {st:St} {e:Ex} {st':St},(∀q ∈ l,q.k.plain=true/\q.g=none)->qk call l st=some (e,st')->e=.nrm/\st'.H=st.H/\st'.lo=st.lo/\
  ∀m c,c.ok=true->get m st.env=c->(∀q ∈ l,q.dst≠some m)->get m st'.env=c
 | [],st,e,st',_,h=>by
  simp only [qk,Option.some.injEq,Prod.mk.injEq] at h
  obtain ⟨rfl,rfl⟩:=h
  exact ⟨rfl,rfl,rfl,fun m c _ hg _=>hg⟩
 | q::l,st,e,st',hl,h=>by
  obtain ⟨h1,h2⟩:=hl q (by simp)
  simp only [qk,h2,wanted] at h
  split at h
  ·rename_i r hr
   obtain ⟨k1,k2⟩:=qvp h1 hr
   rw [k2,cond_false,k1] at h
   obtain ⟨i1,i2,i3,i4⟩:=qef l (fun q hq=>hl q (by simp [hq])) h
   refine ⟨i1,i2.trans (by cases q.dst<;>rfl),i3.trans (by cases q.dst<;>rfl),fun m c hc hg hd=>?_⟩
   exact i4 m c hc (qwG hc hg (hd q (by simp))) (fun q' hq'=>hd q' (by simp [hq']))
  ·cases h
section
variable {P:Program} {M:Maps}
theorem qnd {g:Gh} {w:World} {H:List Obj} (hH:RelH M g w H) {β:Nat->Nat} {env:Env} {lo:Nat} {tmps:Array Value} (he:∀k,RepS M g w (get k env) (tmps.getD k Go.undef)):Rel M g w β ⟨env,H,lo⟩ tmps:=
 ⟨hH.n,fun k=>.s (he k),hH.h,hH.fresh,hH.gl⟩
theorem qg2 {g:Gh} {w:World} {tmps:Array Value}:∀{env:Env},(∀p ∈ env,RepS M g w p.2 (tmps.getD p.1 Go.undef))->∀k,RepS M g w (get k env) (tmps.getD k Go.undef)
 | [],_,k=>.undef _
 | (m,v)::env,h,k=>by
  rw [qc]
  split
  ·rename_i e;subst e;exact h (k,v) (by simp)
  ·exact qg2 (fun p hp=>h p (by simp [hp])) k
theorem qrq {g:Gh} {w:World} {β:Nat->Nat} {st:St} {tmps:Array Value} (hR:Rel M g w β st tmps) {k:Nat} {v:V} (hg:get k st.env=v) (hv:v.ok=true):RepS M g w v (tmps.getD k Go.undef):=by
 have h:=hR.e k
 rw [hg] at h
 generalize tmps.getD k Go.undef=c at h
 cases h with
 | s h=>exact h
 | _=>cases hv
theorem qrb {g:Gh} {w:World} {k:IntKind} {n:Int} {c:Value} (h:RepS M g w (.d (.i k n)) c):c=.int k n:=by
 cases h with|d _ _ h=>cases h;rfl
theorem qsd {g:Gh} {w:World} {b:Bool} {c:Value} (h:RepS M g w (.d (.b b)) c):c=.bool b:=by
 cases h with|d _ _ h=>cases h;rfl
theorem qz3 {g:Gh} {w:World} {β:Nat->Nat} {st:St} {tmps:Array Value} (hR:Rel M g w β st tmps) (live:List Nat):∀p ∈ jK live st.env,RepS M g w p.2 (tmps.getD p.1 Go.undef):=by
 intro p hp
 unfold jK at hp
 obtain ⟨n,_,rfl⟩:=List.mem_map.1 hp
 unfold qCY
 cases h:(get n st.env).ok with
 | true=>exact qrq hR rfl h
 | false=>exact .undef _
theorem qba {g g':Gh} {w w':World} (hE:Evo g w g' w') {v:V} {c:Value} (h:RepS M g w v c):RepS M g' w' v c:=h.mono hE.toGrow hE.n hE.φ h.ref
theorem qAP {n:Int} (h1:-9223372036854775808<=n) (h2:n<=9223372036854775807):wr .i64 n=n:=by
 cases n with
 | ofNat a=>
  simp only [wr,qqX]
  rw [(Nat.ble_eq_true_of_le (by rw [Int.ofNat_eq_natCast] at h2;omega):Nat.ble a 9223372036854775807=true)];rfl
 | negSucc a=>
  simp only [wr,qvs]
  rw [(Nat.ble_eq_true_of_le (by omega):Nat.ble a 9223372036854775807=true)];rfl
theorem qCz {tS tE tI:TypeId} (u1:P.underlying tS=some (.slice tE)) (u2:lay P tS=some ⟨1,false⟩) (u4:P.underlying tI=some (.int .i64)):zZ M P {} 0 (qeX tS tI) 0 (qeX tS tI).toList=some qh8:=by
 simp [qeX,zZ,gOf,zo,opnd,opnds,toD,u1,u2,qpO,u4,qax,mvs,qrh,qyZ,look,qh8]
theorem qC1 {tI tB:TypeId} (u4:P.underlying tI=some (.int .i64)):zZ M P {} 1 (qc8 tI tB) 0 (qc8 tI tB).toList=some [⟨some 7,.mov (.t 3),none⟩,⟨some 8,.bin .geq .num (.t 7) (.c (.i .i64 0)),none⟩]:=by
 simp [qc8,zZ,gOf,zo,opnd,opnds,toD,qpO,u4,qax,mvs,qrh,qyZ,look]
theorem qCt {tI:TypeId} (u4:P.underlying tI=some (.int .i64)):zZ M P {} 2 (qak tI) 0 (qak tI).toList=some [⟨some 9,.mov (.t 3),none⟩,⟨some 10,.bin .sub .num (.t 9) (.c (.i .i64 1)),none⟩,⟨some 3,.mov (.t 10),none⟩]:=by
 simp [qak,zZ,gOf,zo,opnd,opnds,toD,qpO,u4,qax,mvs,qrh,qyZ,look]
theorem qBd {tS tE tY tI tB t0:TypeId} {l:L} (u1:P.underlying tS=some (.slice tE)) (u2:lay P tS=some ⟨1,false⟩) (u3:lay P tE=some l) :
  zZ M P {} 3 (zA tS tE tY tI tB t0) 1 (((zA tS tE tY tI tB t0).toList.drop 1).take 5)=some (qir l):=by
 simp [zA,zZ,gOf,zo,opnd,opnds,toD,u1,u2,u3,qpO,qax,mvs,qrh,qyZ,look,qir]
theorem qzL {tS tE tY tI tB t0:TypeId} (u5:P.underlying tB=some .bool) :
  zZ M P {} 3 (zA tS tE tY tI tB t0) 7 ((zA tS tE tY tI tB t0).toList.drop 7)=some [⟨some 18,.un .not (.t 17),none⟩]:=by
 simp [zA,zZ,gOf,zo,opnd,opnds,toD,qpO,qax,mvs,qrh,qyZ,look]
theorem qAr {z:Int} {c:V} {H:List Obj} {lo:Nat}:qk qdt [⟨some 7,.mov (.t 3),none⟩,⟨some 8,.bin .geq .num (.t 7) (.c (.i .i64 0)),none⟩] ⟨[(3,.d (.i .i64 z)),(1,c)],H,lo⟩=some (.nrm,⟨[(8,.d (.b (leI 0 z))),(7,.d (.i .i64 z)),(3,.d (.i .i64 z)),(1,c)],H,lo⟩):=rfl
theorem qzq {z:Int} {c:V} {H:List Obj} {lo:Nat}:qk qdt [⟨some 9,.mov (.t 3),none⟩,⟨some 10,.bin .sub .num (.t 9) (.c (.i .i64 1)),none⟩,⟨some 3,.mov (.t 10),none⟩] ⟨[(3,.d (.i .i64 z)),(1,c)],H,lo⟩ =
  some (.nrm,⟨[(3,.d (.i .i64 (wr .i64 (z - 1)))),(10,.d (.i .i64 (wr .i64 (z - 1)))),(9,.d (.i .i64 z)),(3,.d (.i .i64 z)),(1,c)],H,lo⟩):=rfl
theorem qwY {z:Bool} {H:List Obj} {lo:Nat}:qk qdt [⟨some 18,.un .not (.t 17),none⟩] ⟨[(17,.d (.b z))],H,lo⟩=some (.nrm,⟨[(18,.d (.b !z)),(17,.d (.b z))],H,lo⟩):=rfl
end
end W
/-
  A range over slices.Backward(x): simulated (the proof).
-/
namespace W
open Go (World Value Addr IntKind Program TypeId FuncId Operand Act Oper Next Result Sem BinOp UnOp Ending Exit Code Func Fence Frame)
section
variable {P:Program} {M:Maps} {ex:C->St->Option (Ex × St)}
structure RCtx (P:Program) (M:Maps) (ex:C->St->Option (Ex × St)) where
 l:L
 c:V
 hc:c.ok=true
 p0:Nat
 p1:Nat
 base:Env
 a:C
 b:C
 x:Code
 y:Code
 A:Ann
 blk:Nat
 hx:trC M P A blk x=some a
 hy:trC M P A blk y=some b
 hnx:qd x=true
 hny:qd y=true
 nt:Nat
 hp0:p0<nt
 hp1:p1<nt
 hdx:jm nt x=true
 hdy:jm nt y=true
 e:Ex
 st':St
 g:Gh
 w:World
 act:Act
 hnt:nt<=act.tmps.size
 hbase:∀p ∈ base,RepS M g w p.2 (act.tmps.getD p.1 Go.undef)
 fid:FuncId
namespace RCtx
variable (X:RCtx P M ex)
def D:Nat:=X.w.heap.size
def L':Nat:=X.w.heap.size+1
def rc (s:Go.LoopState) (pe:Option Code):Go.Loop:={state:=s,pending:=pe,fn:=X.fid,tmps:=X.act.tmps,params:=#[X.p0,X.p1],assign:=X.x,body:=X.y,defers:=X.w.heap.size}
def yv:Value:=.func (.yield X.L') #[] #[]
structure Mem (s:Go.LoopState) (pe:Option Code) (H:List Obj) (gi:Gh) (W:World):Prop where
 h:RelH M gi W H
 E:Evo X.g X.w gi W
 r:W.heap[X.L']?=some (.loop (X.rc s pe))
 ro:gi.own X.L'=none
 d:W.heap[X.D]?=some (.deferred (some []))
 dd:gi.own X.D=none
variable {X}
theorem Mem.put {s:Go.LoopState} {pe:Option Code} {H:List Obj} {gi:Gh} {W:World} (h:X.Mem s pe H gi W) (s':Go.LoopState) (pe':Option Code):X.Mem s' pe' H gi (W.putObj X.L' (.loop (X.rc s' pe'))):=
 ⟨qvx h.h h.r rfl rfl h.ro,qob h.E (Nat.le_succ _) h.r rfl rfl,Go.World.putObj_heap_same (Array.getElem?_eq_some_iff.1 h.r).1,h.ro,(Go.World.putObj_heap_other (by unfold D L';omega)).trans h.d,h.dd⟩
theorem Mem.evo {s:Go.LoopState} {pe:Option Code} {H:List Obj} {gi:Gh} {W:World} (h:X.Mem s pe H gi W) {g':Gh} {W':World} {H':List Obj} (hE:Evo gi W g' W') (hH:RelH M g' W' H'):X.Mem s pe H' g' W':=by
 obtain ⟨k1,k2,_⟩:=hE.keep _ (Array.getElem?_eq_some_iff.1 h.r).1 (.inl h.ro)
 obtain ⟨m1,m2,_⟩:=hE.keep _ (Array.getElem?_eq_some_iff.1 h.d).1 (.inl h.dd)
 exact ⟨hH,h.E.trans hE,k2.trans h.r,k1.trans h.ro,m2.trans h.d,m1.trans h.dd⟩
theorem Mem.fin {s:Go.LoopState} {pe:Option Code} {H:List Obj} {gi:Gh} {W:World} (h:X.Mem s pe H gi W) (hs:s≠.busy) {lo:Nat} :
  ∃W4,(Go.Instr.endLoop X.L').run P W=.ok pe W4/\Good False M X.g X.w X.act ⟨X.base,H,lo⟩ {X.act with defers:={target:=.collected X.D,args:=#[]}::X.act.defers} W4:=by
 have hr:=Go.run_endLoop (P:=P) h.r (by show s≠.busy;exact hs)
 have h4:=h.put .exhausted pe
 refine ⟨_,hr,⟨gi,fun _=>0,qnd h4.h (qg2 (fun p hp=>?_)),h4.E,[{target:=.collected X.D,args:=#[]}],rfl,?_⟩,rfl,fun h=>h.elim⟩
 ·exact qba h4.E (X.hbase p hp)
 ·exact .cons X.D rfl (qOB _) h4.d h4.dd (fun d' hd'=>by cases hd') .nil
structure BI (X:RCtx P M ex) (n i:Nat) (aB:Act) (W:World):Prop where
 tm:19<=aB.tmps.size
 df:aB.defers=[]
 t0:aB.tmps.getD 0 Go.undef=X.yv
 t3:aB.tmps.getD 3 Go.undef=.int .i64 ((i:Int) - 1)
 le:i<=n
 m:∃gi H lo,X.Mem .ready none H gi W/\RepS M gi W X.c (aB.tmps.getD 1 Go.undef)/\rounds (ex X.a) (ex X.b) X.l X.c X.p0 X.p1 X.base i H lo=some (X.e,X.st')
theorem qEK:leI 0 (((0:Nat):Int) - 1)=false:=rfl
theorem qEs (k:Nat):leI 0 (((k+1:Nat):Int) - 1)=true:=by
 rw [show ((k+1:Nat):Int) - 1=(k:Int) by omega];rfl
abbrev qLm (X:RCtx P M ex) (m:Nat) (Q:Exit->Act->World->Prop):Ending->World->Prop:=Go.rangePost Fence.wide m P X.L' Q {X.act with defers:=[{target:=.collected X.D,args:=#[]}]++X.act.defers}
theorem qzy {t:Array Value} {p0 p1:Nat} {x0 x1:Value} (h0:p0<t.size) (h1:p1<t.size) (k:Nat):((t.setIfInBounds p0 x0).setIfInBounds p1 x1).getD k Go.undef=if k=p1 then x1 else if k=p0 then x0 else t.getD k Go.undef:=by
 simp only [Array.getD_eq_getD_getElem?]
 by_cases e1:k=p1
 ·subst e1;simp [h1]
 ·rw [if_neg e1,Array.getElem?_setIfInBounds_ne (fun e=>e1 e.symm)]
  by_cases e0:k=p0
  ·subst e0;simp [h0]
  ·rw [if_neg e0,Array.getElem?_setIfInBounds_ne (fun e=>e0 e.symm)]
def qw7:Ex->Option Code
 | .ret=>some .ret
 | .exit j=>some (.exit j)
 | _=>none
theorem round {m:Nat} (he:qg1 P M ex) {i:Nat} {H:List Obj} {lo:Nat} {v:V} {st1:St} (h1:ex X.a ⟨(X.p1,v)::(X.p0,.d (.i .i64 i))::X.base,H,lo⟩=some (.nrm,st1)) {e5:Ex} {st2:St} (h2:ex X.b st1=some (e5,st2)) (he5:e5=.nrm\/e5=.ret\/∃j,e5=.exit j)
  {gi:Gh} {W:World} (hM:X.Mem .ready none H gi W) {x0 x1:Value} (hx0:x0=.int .i64 i) (hx1:RepS M gi W v x1) {R:Ending->World->Prop}
  (hR1:e5=.nrm->∀(g5:Gh) (W5:World),X.Mem .ready none st2.H g5 W5->(∀v c,RepS M gi W v c->RepS M g5 W5 v c)->R (.returned (.bool true)) W5)
  (hR2:e5≠.nrm->∀(g5:Gh) (W5:World),X.Mem .done (qw7 e5) st2.H g5 W5->R (.returned (.bool false)) W5) :
  Go.RoundIn Fence.wide m P X.L' X.fid ((X.act.tmps.setIfInBounds X.p0 x0).setIfInBounds X.p1 x1) X.x X.y W R:=by
 have hp0:X.p0<X.act.tmps.size:=Nat.lt_of_lt_of_le X.hp0 X.hnt
 have hp1:X.p1<X.act.tmps.size:=Nat.lt_of_lt_of_le X.hp1 X.hnt
 refine Go.roundIn_of_wpIn trivial ?_
 refine he X.A X.blk X.x X.a X.hx _ .nrm st1 h1 gi W (fun _=>0) _ X.nt X.hdx (by simp;exact X.hnt) (qnd hM.h (fun k=>?_)) (Fence.wide.inRound X.L') m (.round _) (.inr X.hnx) _ (fun z a1 w1 hp=>?_)
 ·rw [qzy hp0 hp1,qc]
  by_cases e1:k=X.p1
  ·rw [if_pos e1,if_pos e1];exact hx1
  ·rw [if_neg e1,if_neg e1,qc]
   by_cases e0:k=X.p0
   ·rw [if_pos e0,if_pos e0,hx0];exact .d _ _ (.i _ _)
   ·rw [if_neg e0,if_neg e0]
    exact qg2 (fun p hp=>qba hM.E (X.hbase p hp)) k
 ·cases z with
  | normal=>
   obtain ⟨⟨g4,β4,r1,r2,_⟩,r3,_⟩:=(hp:Good _ M gi W _ st1 a1 w1)
   have hM4:=hM.evo r2 r1.toH
   refine ⟨_,Go.run_beginRound hM4.r rfl,?_⟩
   have hMb:=hM4.put .busy none
   refine he X.A X.blk X.y X.b X.hy st1 e5 st2 h2 g4 _ β4 a1 X.nt X.hdy (by rw [r3];simp;exact X.hnt) (qor r1 hM4.r rfl rfl hM4.ro) (Fence.wide.inRound X.L') m (.round _) (.inr X.hny) _ (fun z a' w' hp=>?_)
   have key:∀{nd:Prop},Good nd M g4 (w1.putObj X.L' (.loop (X.rc .busy none))) a1 st2 a' w'->∃g5,X.Mem .busy none st2.H g5 w'/\(∀v c,RepS M gi W v c->RepS M g5 w' v c):=by
    intro nd hg
    obtain ⟨⟨g5,β5,k1,k2,_⟩,_,_⟩:=hg
    exact ⟨g5,hMb.evo k2 k1.toH,fun v c h=>qba k2 (((qba r2 h)).mono (qap hM4.r rfl rfl) (qOB _) (fun _ _=>rfl) (qba r2 h).ref)⟩
   have gr:∀{g5:Gh} {v:V} {c:Value},X.Mem .busy none st2.H g5 w'->RepS M g5 w' v c->∀(pe:Option Code) (s:Go.LoopState),RepS M g5 (w'.putObj X.L' (.loop (X.rc s pe))) v c:=fun hM5 h pe s=>h.mono (qap hM5.r rfl rfl) (qOB _) (fun _ _=>rfl) h.ref
   rcases he5 with rfl|rfl|⟨j,rfl⟩
   ·cases z with
    | normal=>
     obtain ⟨g5,hM5,h5⟩:=key hp
     exact ⟨_,_,Go.run_endRound none hM5.r,hR1 rfl g5 _ (hM5.put .ready none) (fun v c h=>gr hM5 (h5 v c h) _ _)⟩
    | _=>exact hp.elim
   ·cases z with
    | ret=>
     obtain ⟨g5,hM5,h5⟩:=key hp
     exact ⟨_,_,Go.run_endRound (some .ret) hM5.r,hR2 (by simp) g5 _ (hM5.put .done (some .ret))⟩
    | _=>exact hp.elim
   ·cases z with
    | exit id=>
     obtain ⟨hid,hp⟩:=hp
     subst hid
     obtain ⟨g5,hM5,h5⟩:=key hp
     exact ⟨_,_,Go.run_endRound (some (.exit id)) hM5.r,hR2 (by simp) g5 _ (hM5.put .done (some (.exit id)))⟩
    | _=>exact hp.elim
  | _=>exact hp.elim
def qBE (tS tE tY tI tB t0:TypeId):Code:=.seq (.seq (.region 1 (qc8 tI tB) false) (.cond (.tmp 8) .skip (.exit 0)))
  (.seq (.block 1 (.seq (.region 3 (zA tS tE tY tI tB t0) false) (.cond (.tmp 18) .ret .skip))) (.region 2 (qak tI) false))
theorem qry {ops:List Oper} {k:Nat} (h:(ops.all fun o=>match o.dst with|some d=>Nat.blt d k|none=>true)=true):∀o ∈ ops,∀d,o.dst=some d->d<k:=fun o ho d hd=>by
 rw [List.all_eq_true] at h
 have:=h o ho
 rw [hd] at this
 simpa using this
theorem qbm {ops:List Oper} {k:Nat} (h:(ops.all fun o=>match o.dst with|some d=>!Nat.beq d k|none=>true)=true):∀o ∈ ops,o.dst≠some k:=fun o ho hd=>by
 rw [List.all_eq_true] at h
 have:=h o ho
 rw [hd] at this
 simp at this
theorem qE9 {m:Nat} {Q:Exit->Act->World->Prop} (hQ:∀x a' w',Post False M X.g X.w X.act X.e X.st' x a' w'->Q x a' w') {s:Go.LoopState} {pe:Option Code} {H:List Obj} {lo:Nat} {g5:Gh} {W5:World} (hM:X.Mem s pe H g5 W5) (hs:s≠.busy)
  (hst:X.st'=⟨X.base,H,lo⟩) (hpe:pe=qw7 X.e) (he:X.e=.nrm\/X.e=.ret\/∃j,X.e=.exit j) (v:Value):qLm X m Q (.returned v) W5:=by
 obtain ⟨W4,h1,h2⟩:=hM.fin hs (lo:=lo)
 refine ⟨pe,W4,h1,?_⟩
 rw [<- hst] at h2
 rcases he with h|h|⟨j,h⟩
 ·rw [hpe,h]
  exact hQ .normal _ _ (by rw [h];exact h2)
 ·rw [hpe,h]
  exact Go.wpIn_ret (hQ .ret _ _ (by rw [h];exact h2))
 ·rw [hpe,h]
  exact Go.wpIn_exit (hQ (.exit j) _ _ (by rw [h];exact ⟨rfl,h2⟩))
theorem loop {m:Nat} {Q:Exit->Act->World->Prop} (he:qg1 P M ex) {tS tE tY tI tB t0:TypeId} (u1:P.underlying tS=some (.slice tE)) (u2:lay P tS=some ⟨1,false⟩) (u3:lay P tE=some X.l) (u4:P.underlying tI=some (.int .i64)) (u5:P.underlying tB=some .bool)
  {fn2:Func} (q5:fn2.results=#[]) (hQ:∀x a' w',Post False M X.g X.w X.act X.e X.st' x a' w'->Q x a' w') {n:Nat} (hn:n<=4611686018427387904) {aB:Act} {W:World} (h0:BI X n n aB W) :
  (Code.block 0 (.loop (qBE tS tE tY tI tB t0))).wpIn Fence.wide (m - 1) P (Go.bodyPost P fn2 (qLm X m Q)) aB W:=by
 refine Go.wpIn_block (Go.wpIn_loop (fun aB W=>∃i,BI X n i aB W) (fun aB W=>least (fun i=>BI X n i aB W)) ⟨n,h0⟩ (fun aB W hI=>?_))
 obtain ⟨i0,hi0⟩:=hI
 have hi:=(qjE (p:=fun i=>BI X n i aB W) hi0).1
 generalize least (fun i=>BI X n i aB W)=i at hi
 clear hi0 i0 h0
 obtain ⟨gi,H,lo,hM,hc,hr⟩:=hi.m
 have res:∀(tmps:Array Value) (W:World),(Go.results fn2 tmps).run P W=.ok (.tuple #[]) W:=fun tmps W=>by simp [Go.results,q5]
 refine Go.wpIn_seq (Go.wpIn_seq (Go.wpIn_region ?_))
 rw [show (qc8 tI tB).size=2 from rfl,show List.range 2=List.range' 0 (qc8 tI tB).toList.length++[] from rfl]
 refine ql4 (nt:=19) qcn .wide (qc8 tI tB).toList 0 [] _ ⟨[(3,.d (.i .i64 ((i:Int) - 1))),(1,X.c)],H,lo⟩ gi W (fun _=>0) aB (fun k o hk=>by simpa using hk) (qC1 (M:=M) u4) (qry rfl) (fun _ _=>.inl rfl) hi.tm .nrm _ qAr
  (qnd hM.h (qg2 (fun p hp=>?_))) _ (fun a1 W1 hg hfr _=>?_) (fun x a' w' _ hne=>absurd rfl hne)
 ·simp only [List.mem_cons,List.not_mem_nil,or_false] at hp
  rcases hp with rfl|rfl
  ·show RepS M gi W _ (aB.tmps.getD 3 _);rw [hi.t3];exact .d _ _ (.i _ _)
  ·exact hc
 obtain ⟨⟨g1,β1,hR1,hE1,hD1⟩,hs1,hd1⟩:=hg
 have hM1:=hM.evo hE1 hR1.toH
 have e8:a1.tmps.getD 8 Go.undef=.bool (leI 0 ((i:Int) - 1)):=qsd (qrq hR1 (k:=8) rfl rfl)
 have f0:a1.tmps.getD 0 Go.undef=X.yv:=(hfr 0 (qbm rfl)).trans hi.t0
 have f1:a1.tmps.getD 1 Go.undef=aB.tmps.getD 1 Go.undef:=hfr 1 (qbm rfl)
 have f3:a1.tmps.getD 3 Go.undef=.int .i64 ((i:Int) - 1):=(hfr 3 (qbm rfl)).trans hi.t3
 have df1:a1.defers=[]:=(hd1 trivial).trans hi.df
 have hc1:RepS M g1 W1 X.c (a1.tmps.getD 1 Go.undef):=by rw [f1];exact qba hE1 hc
 have sz1:19<=a1.tmps.size:=by rw [hs1];exact hi.tm
 show (Code.cond (.tmp 8) .skip (.exit 0)).wpIn _ _ _ _ a1 W1
 cases i with
 | zero=>
  rw [qEK] at e8
  refine Go.wpIn_cond_false e8 (Go.wpIn_exit ?_)
  simp only [rounds,Option.some.injEq,Prod.mk.injEq] at hr
  simp only [Exit.then,Exit.inBlock,if_true]
  exact ⟨df1,_,res _ _,qE9 hQ hM1 (by simp) hr.2.symm (by rw [<- hr.1];rfl) (.inl hr.1.symm) _⟩
 | succ i=>
  rw [qEs] at e8
  rw [show (((i+1:Nat):Int) - 1)=(i:Int) by omega] at f3
  refine Go.wpIn_cond_true e8 (Go.wpIn_skip ?_)
  obtain ⟨v,st1,hv,hok,hx1,hx2⟩:=qjo hr
  show (Code.seq (.block 1 (.seq (.region 3 (zA tS tE tY tI tB t0) false) (.cond (.tmp 18) .ret .skip))) (.region 2 (qak tI) false)).wpIn _ _ _ _ a1 W1
  refine Go.wpIn_seq (Go.wpIn_block (Go.wpIn_seq (Go.wpIn_region ?_)))
  rw [show (zA tS tE tY tI tB t0).size=8 from rfl,show List.range 8=0::(List.range' 1 (((zA tS tE tY tI tB t0).toList.drop 1).take 5).length++[6,7]) from rfl,Go.wpOpsIn_cons]
  unfold Go.wpOpIn
  simp only [show (zA tS tE tY tI tB t0)[0]?=some ⟨some 11,.move (.tmp 0),tY, "iter.go:29",#[],none⟩ from rfl,Go.Region.wanted,if_true]
  refine ⟨fun _ _=>trivial,?_⟩
  rw [show (Oper.semAt Fence.wide.round a1.eval ⟨some 11,.move (.tmp 0),tY, "iter.go:29",#[],none⟩).run P W1=.ok (.value (a1.eval (.tmp 0))) W1 from rfl,Oper.uponIn_value]
  have ev0:a1.eval (.tmp 0)=X.yv:=f0
  rw [ev0]
  let a2:Act:=a1.put (some 11) X.yv
  show Go.wpOpsIn _ _ _ _ _ _ a2 W1
  have g11:a2.tmps.getD 11 Go.undef=X.yv:=by
   show (a1.tmps.setIfInBounds 11 X.yv).getD 11 Go.undef=_
   simp only [Array.getD_eq_getD_getElem?]
   rw [Array.getElem?_setIfInBounds_self_of_lt (by omega)];rfl
  have ge:∀k,k≠11->a2.tmps.getD k Go.undef=a1.tmps.getD k Go.undef:=fun k hk=>qnv (by intro e;cases e;exact hk rfl)
  unfold qwF at hv
  split at hv
  ·rename_i stb hb
   simp only [Option.some.injEq] at hv
   refine ql4 (nt:=19) qcn .wide _ 1 [6,7] _ ⟨[(3,.d (.i .i64 i)),(1,X.c)],H,lo⟩ g1 W1 (fun _=>0) a2 (fun k o hk=>?_) (qBd (M:=M) u1 u2 u3) (qry rfl) (fun _ _=>.inl rfl) (by rw [kY];exact sz1) .nrm stb hb
    (qnd hM1.h (qg2 (fun p hp=>?_))) _ (fun a3 W3 hg3 hfr3 _=>?_) (fun x a' w' _ hne=>absurd rfl hne)
   ·match k,hk with
    | 0,hk=>exact hk
    | 1,hk=>exact hk
    | 2,hk=>exact hk
    | 3,hk=>exact hk
    | 4,hk=>exact hk
    | k+5,hk=>cases hk
   ·simp only [List.mem_cons,List.not_mem_nil,or_false] at hp
    rcases hp with rfl|rfl
    ·show RepS M g1 W1 _ (a2.tmps.getD 3 _);rw [ge 3 (by omega),f3];exact .d _ _ (.i _ _)
    ·show RepS M g1 W1 _ (a2.tmps.getD 1 _);rw [ge 1 (by omega)];exact hc1
   obtain ⟨⟨g3,β3,hR3,hE3,hD3⟩,hs3,hd3⟩:=hg3
   have hM3:=hM1.evo hE3 hR3.toH
   obtain ⟨_,bH,bLo,bget⟩:=qef (qir X.l) (fun q hq=>by
    simp only [qir,List.mem_cons,List.not_mem_nil,or_false] at hq
    rcases hq with rfl|rfl|rfl|rfl|rfl<;>exact ⟨rfl,rfl⟩) hb
   have bH:stb.H=H:=bH
   rw [bH] at hM3
   have h16:RepS M g3 W3 v (a3.tmps.getD 16 Go.undef):=qrq hR3 hv hok
   have h12:a3.tmps.getD 12 Go.undef=.int .i64 i:=by
    refine qrb (qrq hR3 (k:=12) ?_ rfl)
    unfold qir at hb
    simp only [qk,wanted] at hb
    have hmv:qa qdt (.mov (.t 3)) ⟨[(3,.d (.i .i64 (i:Int))),(1,X.c)],H,lo⟩=some ⟨false,true,.d (.i .i64 i),⟨[(3,.d (.i .i64 i)),(1,X.c)],H,lo⟩⟩:=rfl
    rw [hmv] at hb
    simp only [cond_false] at hb
    have hb':qk qdt [⟨some 13,.load false none ⟨1,false⟩ (.t 1),none⟩,⟨some 14,.mov (.t 3),none⟩,⟨some 15,.indexAddr (.t 13) (.t 14) X.l.n none,none⟩,⟨some 16,.load false none X.l (.t 15),none⟩] (put (some 12) (.d (.i .i64 i)) ⟨[(3,.d (.i .i64 i)),(1,X.c)],H,lo⟩)=some (.nrm,stb):=hb
    refine (qef _ (fun q hq=>?_) hb').2.2.2 12 _ rfl rfl (fun q hq=>?_)
    ·simp only [List.mem_cons,List.not_mem_nil,or_false] at hq
     rcases hq with rfl|rfl|rfl|rfl<;>exact ⟨rfl,rfl⟩
    ·simp only [List.mem_cons,List.not_mem_nil,or_false] at hq
     rcases hq with rfl|rfl|rfl|rfl<;>simp
   have g0:a3.tmps.getD 0 Go.undef=X.yv:=(hfr3 0 (qbm rfl)).trans ((ge 0 (by omega)).trans f0)
   have g1':a3.tmps.getD 1 Go.undef=a1.tmps.getD 1 Go.undef:=(hfr3 1 (qbm rfl)).trans (ge 1 (by omega))
   have g3':a3.tmps.getD 3 Go.undef=.int .i64 i:=(hfr3 3 (qbm rfl)).trans ((ge 3 (by omega)).trans f3)
   have g11':a3.tmps.getD 11 Go.undef=X.yv:=(hfr3 11 (qbm rfl)).trans g11
   have df3:a3.defers=[]:=(hd3 trivial).trans df1
   have hc3:RepS M g3 W3 X.c (a3.tmps.getD 1 Go.undef):=by rw [g1'];exact qba hE3 hc1
   have sz3:19<=a3.tmps.size:=by rw [hs3];show 19<=(a1.put _ _).tmps.size;rw [kY];exact sz1
   rw [Go.wpOpsIn_cons]
   unfold Go.wpOpIn
   simp only [show (zA tS tE tY tI tB t0)[6]?=some ⟨some 17,.call ⟨.value (.tmp 11),#[.tmp 12,.tmp 16],#[tI,tE]⟩,tB, "iter.go:29",#[⟨0,.data⟩,⟨1,.data⟩,⟨5,.data⟩],none⟩ from rfl,Go.Region.wanted,if_true]
   refine ⟨fun _ _=>trivial,?_⟩
   have hy:=Go.run_yield (P:=P) (args:=#[a3.tmps.getD 12 Go.undef,a3.tmps.getD 16 Go.undef]) hM3.r rfl
   have hsem:(Oper.semAt Fence.wide.round a3.eval ⟨some 17,.call ⟨.value (.tmp 11),#[.tmp 12,.tmp 16],#[tI,tE]⟩,tB, "iter.go:29",#[⟨0,.data⟩,⟨1,.data⟩,⟨5,.data⟩],none⟩).run P W3 =
     .ok (.round X.L' X.fid ((X.act.tmps.setIfInBounds X.p0 (a3.tmps.getD 12 Go.undef)).setIfInBounds X.p1 (a3.tmps.getD 16 Go.undef)) X.x X.y) W3:=by
    have e11:a3.eval (.tmp 11)=.func (.yield X.L') #[] #[]:=g11'
    rw [show Fence.wide.round=none from rfl,Oper.semAt_none]
    simp only [Go.execOp,Go.resolve,e11,Go.Deferred.ofValue,Sem.run_bind,Sem.run_pure,Result.andThen_ok,Go.invoke]
    have:(#[]++Array.map a3.eval #[Operand.tmp 12,Operand.tmp 16]:Array Value)=#[a3.tmps.getD 12 Go.undef,a3.tmps.getD 16 Go.undef]:=by simp [Act.eval]
    rw [this,hy]
    simp [RCtx.rc]
   rw [hsem,Oper.uponIn_round]
   refine ⟨fun h=>WF.wide.depth h,?_⟩
   have back:∀(bv:Bool) (g5:Gh) (W5:World) {s:Go.LoopState} {pe:Option Code} {H5:List Obj},X.Mem s pe H5 g5 W5->∀K:Act->World->Prop,(∀a4 W6 g6,X.Mem s pe H5 g6 W6->Evo g5 W5 g6 W6->19<=a4.tmps.size->a4.defers=[]->a4.tmps.getD 18 Go.undef=.bool (!bv)->a4.tmps.getD 0 Go.undef=X.yv->a4.tmps.getD 1 Go.undef=a3.tmps.getD 1 Go.undef->a4.tmps.getD 3 Go.undef=.int .i64 i->K a4 W6)->
     ∀Q':Exit->Act->World->Prop,(∀a W,K a W->Q' .normal a W)->Go.wpOpsIn Fence.wide (m - 1) P (zA tS tE tY tI tB t0) Q' [7] (a3.put (some 17) (.bool bv)) W5:=by
    intro bv g5 W5 s pe H5 hM5 K hK Q' hQ'
    have h17:(a3.put (some 17) (.bool bv)).tmps.getD 17 Go.undef=.bool bv:=by
     show (a3.tmps.setIfInBounds 17 (.bool bv)).getD 17 Go.undef=_
     simp only [Array.getD_eq_getD_getElem?]
     rw [Array.getElem?_setIfInBounds_self_of_lt (by omega)];rfl
    have hge:∀k,k≠17->(a3.put (some 17) (.bool bv)).tmps.getD k Go.undef=a3.tmps.getD k Go.undef:=fun k hk=>qnv (by intro e;cases e;exact hk rfl)
    rw [show [7]=List.range' 7 ((zA tS tE tY tI tB t0).toList.drop 7).length++[] from rfl]
    refine ql4 (nt:=19) qcn .wide _ 7 [] _ ⟨[(17,.d (.b bv))],H5,0⟩ g5 W5 (fun _=>0) _ (fun k o hk=>?_) (qzL (M:=M) u5) (qry rfl) (fun _ _=>.inl rfl) (by rw [kY];exact sz3) .nrm _ qwY
     (qnd hM5.h (qg2 (fun p hp=>?_))) _ (fun a4 W6 hg6 hfr6 _=>hQ' a4 W6 ?_) (fun x a' w' _ hne=>absurd rfl hne)
    ·match k,hk with
     | 0,hk=>exact hk
     | k+1,hk=>cases hk
    ·simp only [List.mem_cons,List.not_mem_nil,or_false] at hp
     subst hp
     show RepS M g5 W5 _ ((a3.put (some 17) (.bool bv)).tmps.getD 17 _);rw [h17];exact .d _ _ (.b _)
    obtain ⟨⟨g6,β6,hR6,hE6,hD6⟩,hs6,hd6⟩:=hg6
    refine hK a4 W6 g6 (hM5.evo hE6 hR6.toH) hE6 (by rw [hs6,kY];exact sz3) ((hd6 trivial).trans df3) (qsd (qrq hR6 (k:=18) rfl rfl)) ?_ ?_ ?_
    ·exact (hfr6 0 (qbm rfl)).trans ((hge 0 (by omega)).trans g0)
    ·exact (hfr6 1 (qbm rfl)).trans (hge 1 (by omega))
    ·exact (hfr6 3 (qbm rfl)).trans ((hge 3 (by omega)).trans g3')
   have he5:∃e5 st2,ex X.b st1=some (e5,st2)/\(e5=.nrm\/e5=.ret\/∃j,e5=.exit j)/\(e5=.nrm->rounds (ex X.a) (ex X.b) X.l X.c X.p0 X.p1 X.base i st2.H st2.lo=some (X.e,X.st'))/\(e5≠.nrm->X.e=e5/\X.st'=⟨X.base,st2.H,st2.lo⟩):=by
    rcases hx2 with ⟨st2,k1,k2⟩|⟨e5,st2,k1,k2,k3⟩
    ·exact ⟨.nrm,st2,k1,.inl rfl,fun _=>k2,fun h=>absurd rfl h⟩
    ·have k3:=Prod.mk.inj k3
     rcases k2 with rfl|⟨j,rfl⟩
     ·exact ⟨.ret,st2,k1,.inr (.inl rfl),(fun h=>by cases h),fun _=>k3⟩
     ·exact ⟨.exit j,st2,k1,.inr (.inr ⟨j,rfl⟩),(fun h=>by cases h),fun _=>k3⟩
   obtain ⟨e5,st2,hxb,hek,hgo,hend⟩:=he5
   refine round he hx1 hxb hek hM3 h12 h16 (fun hnrm g5 W5 hM5 hrep=>?_) (fun hne g5 W5 hM5=>?_)
   ·
    have hr2:=hgo hnrm
    refine back true g5 W5 hM5 (fun a4 W6=>∃g6,X.Mem .ready none st2.H g6 W6/\RepS M g6 W6 X.c (a4.tmps.getD 1 Go.undef)/\19<=a4.tmps.size/\a4.defers=[]/\a4.tmps.getD 18 Go.undef=.bool false/\a4.tmps.getD 0 Go.undef=X.yv/\a4.tmps.getD 3 Go.undef=.int .i64 i)
     (fun a4 W6 g6 k1 k2 k3 k4 k5 k6 k7 k8=>⟨g6,k1,by rw [k7];exact qba k2 (hrep _ _ hc3),k3,k4,k5,k6,k8⟩) _ (fun a4 W6 hK=>?_)
    obtain ⟨g6,k1,k2,k3,k4,k5,k6,k8⟩:=hK
    show (Code.cond (.tmp 18) .ret .skip).wpIn _ _ _ _ a4 W6
    refine Go.wpIn_cond_false k5 (Go.wpIn_skip ?_)
    show (Code.region 2 (qak tI) false).wpIn _ _ _ _ a4 W6
    refine Go.wpIn_region ?_
    rw [show (qak tI).size=3 from rfl,show List.range 3=List.range' 0 (qak tI).toList.length++[] from rfl]
    refine ql4 (nt:=19) qcn .wide (qak tI).toList 0 [] _ ⟨[(3,.d (.i .i64 (i:Int))),(1,X.c)],st2.H,st2.lo⟩ g6 W6 (fun _=>0) a4 (fun k o hk=>by simpa using hk) (qCt (M:=M) u4) (qry rfl) (fun _ _=>.inl rfl) k3 .nrm _ qzq
     (qnd k1.h (qg2 (fun p hp=>?_))) _ (fun a5 W7 hg7 hfr7 _=>?_) (fun x a' w' _ hne=>absurd rfl hne)
    ·simp only [List.mem_cons,List.not_mem_nil,or_false] at hp
     rcases hp with rfl|rfl
     ·show RepS M g6 W6 _ (a4.tmps.getD 3 _);rw [k8];exact .d _ _ (.i _ _)
     ·exact k2
    obtain ⟨⟨g7,β7,hR7,hE7,hD7⟩,hs7,hd7⟩:=hg7
    have hle:=hi.le
    have hwr:wr .i64 ((i:Int) - 1)=(i:Int) - 1:=qAP (by omega) (by omega)
    have hBI:BI X n i a5 W7:=⟨by rw [hs7];exact k3,(hd7 trivial).trans k4,(hfr7 0 (qbm rfl)).trans k6,by
      have:=qrb (qrq hR7 (k:=3) (v:=.d (.i .i64 (wr .i64 ((i:Int) - 1)))) rfl rfl)
      rw [hwr] at this;exact this,by omega,g7,st2.H,st2.lo,k1.evo hE7 hR7.toH,by rw [hfr7 1 (qbm rfl)];exact qba hE7 k2,hr2⟩
    exact ⟨⟨i,hBI⟩,Nat.lt_succ_of_le (qjE (p:=fun i=>BI X n i a5 W7) hBI).2⟩
   ·
    obtain ⟨hxe,hxs⟩:=hend hne
    refine back false g5 W5 hM5 (fun a4 W6=>∃g6,X.Mem .done (qw7 e5) st2.H g6 W6/\a4.defers=[]/\a4.tmps.getD 18 Go.undef=.bool true)
     (fun a4 W6 g6 k1 k2 k3 k4 k5 k6 k7 k8=>⟨g6,k1,k4,k5⟩) _ (fun a4 W6 hK=>?_)
    obtain ⟨g6,k1,k4,k5⟩:=hK
    show (Code.cond (.tmp 18) .ret .skip).wpIn _ _ _ _ a4 W6
    refine Go.wpIn_cond_true k5 (Go.wpIn_ret ?_)
    exact ⟨k4,_,res _ _,qE9 hQ k1 (by simp) hxs (by rw [hxe]) (hxe▸hek) _⟩
  ·cases hv
theorem iter {m:Nat} {Q:Exit->Act->World->Prop} (he:qg1 P M ex) {tS tE tY tI tB t0:TypeId} (u1:P.underlying tS=some (.slice tE)) (u2:lay P tS=some ⟨1,false⟩) (u3:lay P tE=some X.l) (u4:P.underlying tI=some (.int .i64)) (u5:P.underlying tB=some .bool)
  {fn2:Func} (q5:fn2.results=#[]) (hQ:∀x a' w',Post False M X.g X.w X.act X.e X.st' x a' w'->Q x a' w') {n:Nat} {H:List Obj} {lo:Nat} (hcount:qa0 X.c H lo=some n) (hrounds:rounds (ex X.a) (ex X.b) X.l X.c X.p0 X.p1 X.base n H lo=some (X.e,X.st'))
  {g1:Gh} {W1:World} (hM:X.Mem .ready none H g1 W1) {cvl:Value} (hc1:RepS M g1 W1 X.c cvl) {aB:Act} (hsz:19<=aB.tmps.size) (hdf:aB.defers=[]) (ht0:aB.tmps.getD 0 Go.undef=X.yv) (ht1:aB.tmps.getD 1 Go.undef=cvl) :
  (qum tS tE tY tI tB t0).wpIn Fence.wide (m - 1) P (Go.bodyPost P fn2 (qLm X m Q)) aB W1:=by
 unfold qa0 at hcount
 split at hcount
 ·rename_i sta hsta
  split at hcount
  ·rename_i n0 hn0
   rw [qOx] at hcount
   split at hcount
   ·rename_i hbd
    simp only [Option.some.injEq] at hcount
    simp only [qOy] at hbd
    have hb1:=qOH hbd.1
    have hb2:0<=n0+1:=by
     have h2:=hbd.2
     cases hz:n0+1 with
     | ofNat q=>exact Int.natCast_nonneg q
     | negSucc q=>rw [hz] at h2;cases h2
    refine Go.wpIn_seq (Go.wpIn_region ?_)
    rw [show (qeX tS tI).size=4 from rfl,show List.range 4=List.range' 0 (qeX tS tI).toList.length++[] from rfl]
    refine ql4 (nt:=19) qcn .wide (qeX tS tI).toList 0 [] _ ⟨[(1,X.c)],H,lo⟩ g1 W1 (fun _=>0) aB (fun k o hk=>by simpa using hk) (qCz (M:=M) u1 u2 u4) (qry rfl) (fun _ _=>.inl rfl) hsz .nrm _ hsta
     (qnd hM.h (qg2 (fun p hp=>?_))) _ (fun a1 W2 hg hfr _=>?_) (fun x a' w' _ hne=>absurd rfl hne)
    ·simp only [List.mem_cons,List.not_mem_nil,or_false] at hp
     subst hp
     show RepS M g1 W1 _ (aB.tmps.getD 1 _);rw [ht1];exact hc1
    obtain ⟨⟨g2,β2,hR2,hE2,hD2⟩,hs2,hd2⟩:=hg
    obtain ⟨_,bH,bLo,_⟩:=qef qh8 (fun q hq=>by
     simp only [qh8,List.mem_cons,List.not_mem_nil,or_false] at hq
     rcases hq with rfl|rfl|rfl|rfl<;>exact ⟨rfl,rfl⟩) hsta
    have bH:sta.H=H:=bH
    have hM2:=hM.evo hE2 hR2.toH
    rw [bH] at hM2
    refine loop (X:=X) he u1 u2 u3 u4 u5 q5 hQ (n:=n) (by omega) ⟨by rw [hs2];exact hsz,(hd2 trivial).trans hdf,(hfr 0 (qbm rfl)).trans ht0,?_,qOB _,g2,H,lo,hM2,?_,hrounds⟩
    ·have:=qrb (qrq hR2 hn0 rfl)
     rw [this]
     congr 1
     omega
    ·rw [hfr 1 (qbm rfl),ht1]
     exact qba hE2 hc1
   ·cases hcount
  ·cases hcount
 ·cases hcount
end RCtx
theorem qzb {a b u:Value} {k:Nat}:(#[a,b]++Array.replicate k u).getD 0 Go.undef=a:=by simp [Array.getD_eq_getD_getElem?,Array.getElem?_append]
theorem qzX {a b u:Value} {k:Nat}:(#[a,b]++Array.replicate k u).getD 1 Go.undef=b:=by simp [Array.getD_eq_getD_getElem?,Array.getElem?_append]
theorem qBO {a b u:Value}:19<=(#[a,b]++Array.replicate (19 - (#[a,b]:Array Value).size) u).size:=by simp
theorem qwf (hB:qui P M) (he:qg1 P M ex):qu4 P M ex:=by
 intro k l f f' p0 p1 live x y a b A blk hk hf hx hy hnx hny c st n e st' hfn hcok hcount hrounds g w β act nt hp0 hp1 hdx hdy hnt hR m Q hQ
 have h1:=qf hR hf
 rw [hfn] at h1
 generalize hfe:act.eval f=fc at h1
 cases h1 with
 | s h1=>cases h1 with
  | fn _ f2 _ _ fv cv hlook hr1 hr2=>
   have hfv:fv=#[]:=by
    apply Array.ext'
    generalize fv.toList=q at hr1
    cases hr1;rfl
   subst hfv
   obtain ⟨cvl,hcv,hcr⟩:∃cvl,cv=#[cvl]/\RepS M g w c cvl:=by
    generalize hq:cv.toList=q at hr2
    cases hr2 with
    | cons _ v _ _ h hl=>cases hl;exact ⟨v,by apply Array.ext';simpa using hq,h⟩
   subst hcv
   obtain ⟨tS,tE,tY,tI,tB,t0,fn2,q1,q2,q3,q4,q5,u1,u2,u3,u4,u5⟩:=hB f2 k l hlook hk
   refine Go.wpIn_rangeFunc (fun fid _=>?_)
   let X:RCtx P M ex:={l,c,hc:=hcok,p0,p1,base:=jK live st.env,a,b,x,y,A,blk,hx,hy,hnx,hny,nt,hp0,hp1,hdx,hdy,e,st',g,w,act,hnt,hbase:=qz3 hR live,fid}
   let W1:World:=(w.alloc (.deferred (some []))).alloc (.loop (X.rc .ready none))
   have hRa:=hR.alloc none 0 (.deferred (some []))
   have hRb:=hRa.alloc none 0 (.loop (X.rc .ready none))
   have hE1:=(z8 hR.fr none 0 (.deferred (some []))).trans (z8 hRa.fr none 0 (.loop (X.rc .ready none)))
   have hsz:(w.alloc (.deferred (some []))).heap.size=w.heap.size+1:=by simp
   have hM:X.Mem .ready none st.H _ W1:=⟨hRb.toH,hE1,by
     have:=qK (w.alloc (.deferred (some []))) (.loop (X.rc .ready none))
     rwa [hsz] at this,by simp [Gh.withNew,RCtx.L',X],by
     refine (qO (w.alloc (.deferred (some []))) _ (by rw [hsz];exact Nat.lt_succ_self _)).trans ?_
     exact qK w _,by simp [Gh.withNew,RCtx.D,X]⟩
   refine ⟨X.L',[{target:=.collected X.D,args:=#[]}],W1,{target:=.fn (.func f2) #[cvl],args:=#[.func (.yield X.L') #[] #[]]},W1,f2,#[.func (.yield X.L') #[] #[],cvl],W1,?_,?_,fun _ _=>trivial,?_,fun h=>WF.wide.depth h,?_⟩
   ·exact Go.run_enterLoop_outer _ _ _ _ _
   ·have hres:(Go.resolve act.eval (Go.rangeCall f X.L') 0).run P W1=(Go.Deferred.ofValue (.func (.func f2) #[] #[cvl]) #[.func (.yield X.L') #[] #[]]).run P W1:=by
     have hmap:Array.map act.eval #[.const (.func (.yield X.L') #[] #[])]=#[.func (.yield X.L') #[] #[]]:=by simp [Act.eval]
     simp only [Go.resolve,hfe,hmap]
    rw [hres];rfl
   ·have hn:¬fn2.name= "runtime.NumGoroutine" :=by simpa using q2
    simp [Go.invoke,Go.callFunc,q1,hn,q3]
   ·refine Go.callsIn_of_wp q1 q3 trivial ?_
    rw [q4]
    exact RCtx.iter (X:=X) he u1 u2 u3 u4 u5 q5 hQ hcount hrounds hM (qba hE1 hcr) qBO rfl qzb qzX
end
end W
/-
  A function's body, as its caller sees it.
-/
namespace W
open Go (World Value Addr IntKind Program TypeId FuncId Operand Act Oper Next Result Sem BinOp UnOp Ending Exit Code Func Calls Fence)
section
variable {P:Program} {M:Maps} {g:Gh} {w:World} {β:Nat->Nat} {st:St} {a:Act}
theorem quT:∀(vs:List V) (j k:Nat),get k (kf j vs)=if j<=k then (vs[k - j]?).getD .undef else .undef
 | [],j,k=>by simp [kf,get]
 | v::l,j,k=>by
  simp only [kf,qc,quT l (j+1) k]
  by_cases h:k=j
  ·subst h;simp
  ·by_cases h2:j+1<=k
   ·have e:k - j=(k - (j+1))+1:=by omega
    simp [h,h2,show j<=k by omega,e]
   ·simp [h,h2,show ¬j<=k by omega]
theorem ArgsRep.get:∀{vs:List V} {cs:List Value} {j:Nat},ArgsRep M g w j vs cs->∀i v,vs[i]?=some v->∃c,cs[i]?=some c/\RepA M g w (j+i) v c
 | _,_,_,.nil _,i,v,h=>by simp at h
 | _,_,j,.cons h hl,0,v,hv=>by simp at hv;subst hv;exact ⟨_,rfl,h⟩
 | _,_,j,.cons h hl,i+1,v,hv=>by
  obtain ⟨c,h1,h2⟩:=hl.get i v (by simpa using hv)
  exact ⟨c,by simpa using h1,by rwa [show j+1+i=j+(i+1) by omega] at h2⟩
theorem ArgsRep.length:∀{vs:List V} {cs:List Value} {j:Nat},ArgsRep M g w j vs cs->vs.length=cs.length
 | _,_,_,.nil _=>rfl
 | _,_,_,.cons h hl=>by simp [hl.length]
theorem qsn {H:List Obj} {vs:List V} {cs:List Value} (ha:ArgsRep M g w 0 vs cs) (hH:RelH M g w H) (n lo:Nat) :
  Rel M g w β {env:=kf 0 vs,H:=H,lo:=lo} (cs.toArray++Array.replicate n Go.undef):=by
 refine ⟨hH.n,fun k=>?_,hH.h,hH.fresh,hH.gl⟩
 show RepT M g w β k (get k (kf 0 vs)) _
 rw [quT]
 simp only [Nat.zero_le,if_true,Nat.sub_zero]
 cases hv:vs[k]? with
 | none=>exact .s (.undef _)
 | some v=>
  obtain ⟨c,h1,h2⟩:=ha.get k v hv
  have hlt:k<cs.length:=(List.getElem?_eq_some_iff.1 h1).1
  have e:(cs.toArray++Array.replicate n Go.undef).getD k Go.undef=c:=by
   rw [Array.getD_eq_getD_getElem?,Array.getElem?_append_left (by simpa using hlt)]
   simp [h1]
  rw [e]
  simp only [Option.getD_some,Nat.zero_add] at h2 |-
  cases h2 with
  | s h=>exact .s h
  | osl h=>exact .osl h
def qyS (tmps:Array Value):Go.ResultVar->Sem Value
 | .tmp t=>pure (tmps.getD t Go.undef)
 | .cell b t=>do Go.loadVar t (<- Go.asAddr (tmps.getD b Go.undef))
theorem qxS (fn:Func) (tmps:Array Value):Go.results fn tmps=(do
  let vs <- fn.results.mapM (qyS tmps)
  pure (if h:vs.size=1 then vs[0] else .tuple vs)):=by
 rfl
theorem qqL (hR:Rel M g w β st a.tmps) {rv:Go.ResultVar} {r:Rv} (ht:qD2 P rv=some r) {own:Bool} {v:V} (hv:yJ own st r=some v) (hl:v.leaves=true) :
  ∃c,(qyS a.tmps rv).run P w=.ok c w/\
   (RepS M g w v c\/∃n xs,v=.osl xs/\OwnSl g w (.slot n) xs c):=by
 cases rv with
 | tmp t=>
  simp only [qD2,Option.some.injEq] at ht
  subst ht
  refine ⟨a.tmps.getD t Go.undef,rfl,?_⟩
  simp only [yJ] at hv
  have he:=hR.e t
  generalize get t st.env=x at he hv
  generalize a.tmps.getD t Go.undef=c at he
  cases he with
  | s h=>
   have hx:v=x\/v=copy x:=by
    cases h<;>simp only [Option.some.injEq] at hv<;>cases own<;>simp only [cond_true,cond_false] at hv<;>first|exact .inl hv.symm|exact .inr hv.symm
   rcases hx with rfl|rfl
   ·exact .inl h
   ·exact .inl (qn2 h)
  | osl h=>
   simp only [Option.some.injEq] at hv
   cases own with
   | true=>simp only [cond_true] at hv;subst hv;exact .inr ⟨t,_,rfl,h⟩
   | false=>simp only [cond_false,copy] at hv;subst hv;exact .inl (.d _ _ h.rep)
  | lp s off=>
   simp only [Option.some.injEq] at hv
   cases own<;>simp only [cond_true,cond_false,copy] at hv<;>subst hv<;>simp [V.leaves,V.ok] at hl
  | cp x b off vs hr hc hp=>
   simp only [Option.some.injEq] at hv
   cases own<;>simp only [cond_true,cond_false,copy] at hv<;>subst hv<;>simp [V.leaves,V.ok] at hl
  | box cs arr T hb ho hp hl' hr=>cases hv
 | cell b t=>
  simp only [qD2,Option.map_eq_some_iff] at ht
  obtain ⟨l,hlay,rfl⟩:=ht
  simp only [yJ] at hv
  have he:=hR.e b
  split at hv
  ·rename_i cs hbox
   rw [hbox] at he
   generalize htm:a.tmps.getD b Go.undef=c at he
   cases he with
   | s h=>cases h
   | box _ arr T hb ho hp hl' hr=>
    obtain ⟨c,h1,h2⟩:=qnD (P:=P) hlay hb (Nat.le_of_eq hl') hr hv
    refine ⟨c,?_,.inl h2⟩
    simp only [qyS,htm,Go.asAddr,Sem.run_bind,Sem.run_pure,Result.andThen_ok,h1]
  ·rename_i id off hptr
   rw [hptr] at he
   generalize htm:a.tmps.getD b Go.undef=c at he
   have hld:qF l st (.ptr id off)=some v:=hv
   cases he with
   | s h=>
    obtain ⟨c',h1,h2⟩:=qqS (P:=P) (a:=a) hlay hR (.s h) hld
    refine ⟨c',?_,.inl h2⟩
    simp only [qyS,htm,Sem.run_bind]
    cases h with
    | ptr _ _ hid=>
     simp only [Go.asAddr,Sem.run_pure,Result.andThen_ok]
     simp only [Go.Instr.loadAt] at h1
     exact h1
  ·cases hv
theorem qqu:∀{vs:List V},V.ok.oks vs=true->∀v ∈ vs,v.ok=true
 | [],_,v,h=>by simp at h
 | x::l,h,v,hv=>by
  simp only [V.ok.oks,qOy] at h
  rcases List.mem_cons.1 hv with e|hv
  ·subst e;exact h.1
  ·exact qqu h.2 v hv
theorem qtV {v:V} (h:v.ok=true):v.leaves=true:=by cases v<;>first|exact h|rfl
theorem qlI (hR:Rel M g w β st a.tmps) {own:Bool}:∀{rvs:List Go.ResultVar} {rs:List Rv} {vs:List V},qj2 P rvs=some rs->qM own st rs=some vs->(∀v ∈ vs,v.ok=true)->
  ∃cs,(rvs.mapM (qyS a.tmps)).run P w=.ok cs w/\RepSL M g w vs cs
 | [],rs,vs,ht,hv,_=>by
  simp only [qj2,Option.some.injEq] at ht
  subst ht
  simp only [qM,Option.some.injEq] at hv
  subst hv
  exact ⟨[],by simp,.nil⟩
 | rv::rvs,rs,vs,ht,hv,hok=>by
  simp only [qj2] at ht
  split at ht
  ·rename_i r l hr hl
   simp only [Option.some.injEq] at ht
   subst ht
   simp only [qM] at hv
   split at hv
   ·rename_i v hv1
    split at hv
    ·rename_i vs' hv2
     simp only [Option.some.injEq] at hv
     subst hv
     have hvok:=hok v (by simp)
     obtain ⟨c,h1,h2⟩:=qqL (P:=P) hR hr hv1 (qtV hvok)
     obtain ⟨cs,h3,h4⟩:=qlI hR hl hv2 (fun v hv=>hok v (by simp [hv]))
     have h2':RepS M g w v c:=by
      rcases h2 with h|⟨n,xs,rfl,_⟩
      ·exact h
      ·cases hvok
     refine ⟨c::cs,?_,.cons _ _ _ _ h2' h4⟩
     rw [List.mapM_cons]
     simp only [Sem.run_bind,h1,Result.andThen_ok,h3,Sem.run_pure]
    ·cases hv
   ·cases hv
  ·cases ht
theorem quI {H:List Obj} (h:RelH M g w H) {b n:Nat} (hb:g.own b=some (.slot n)) (hlt:b<w.heap.size) (ℓ:Option Loc):RelH M (g.setOwn b ℓ) w H:=
 ⟨h.n,fun id o ho=>(h.h id o ho).mono (qaN g w b ℓ) (qOB _) (fun _ _=>rfl) (by rw [h.n];exact (List.getElem?_eq_some_iff.1 ho).1) (zw ℓ hb (by simp)) (fun i=>zw ℓ hb (by simp)),fun x hx=>by
  have:x≠b:=by omega
  simpa [Gh.setOwn,this] using h.fresh x hx,h.gl.mono (qaN g w b ℓ)⟩
theorem qup {fn:Func} {rs:List Rv} (htr:qj2 P fn.results.toList=some rs) (hR:Rel M g w β st a.tmps) {own:Bool} {vs:List V} (hv:qM own st rs=some vs) (hl:(qlN vs).leaves=true) :
  ∃c g',(Go.results fn a.tmps).run P w=.ok c w/\RelH M g' w st.H/\Evo g w g' w/\RepA M g' w 0 (qlN vs) c:=by
 have hm:∀cs,(fn.results.toList.mapM (qyS a.tmps)).run P w=.ok cs w->
   (Go.results fn a.tmps).run P w=.ok (match cs with | [c]=>c|cs=>.tuple cs.toArray) w:=by
  intro cs h
  rw [qxS,Array.mapM_eq_mapM_toList]
  simp only [Sem.run_bind,map_eq_pure_bind,h,Result.andThen_ok,Sem.run_pure]
  rcases cs with _|⟨c,_|⟨c2,cs⟩⟩<;>simp
 by_cases h1:∃v,vs=[v]
 ·obtain ⟨v,rfl⟩:=h1
  simp only [qlN] at hl |-
  cases hrs:fn.results.toList with
  | nil=>
   rw [hrs] at htr
   simp only [qj2,Option.some.injEq] at htr
   subst htr
   simp [qM] at hv
  | cons rv l=>
   rw [hrs] at htr
   simp only [qj2] at htr
   split at htr
   ·rename_i r rl hr hrl
    simp only [Option.some.injEq] at htr
    subst htr
    simp only [qM] at hv
    split at hv
    ·rename_i v1 hv1
     split at hv
     ·rename_i vs' hv2
      simp only [Option.some.injEq,List.cons.injEq] at hv
      obtain ⟨rfl,rfl⟩:=hv
      obtain ⟨c,k1,k2⟩:=qqL (P:=P) hR hr hv1 hl
      obtain ⟨cs,k3,k4⟩:=qlI hR hrl hv2 (by simp)
      cases k4
      have hrun:=hm [c] (by rw [hrs,List.mapM_cons];simp only [Sem.run_bind,k1,Result.andThen_ok,k3,Sem.run_pure])
      rcases k2 with k2|⟨n,xs,rfl,k2⟩
      ·exact ⟨c,g,hrun,hR.toH,Evo.refl g w,.s k2⟩
      ·rcases k2.setOwn with ⟨b,hb,hlt,hv'⟩|hv'
       case inr=>exact ⟨c,g,hrun,hR.toH,Evo.refl g w,.osl (hv' _)⟩
       exact ⟨c,g.setOwn b (some (.slot 0)),hrun,quI hR.toH hb hlt _,qfi _ hb (by simp),.osl (hv' _)⟩
     ·cases hv
    ·cases hv
   ·cases htr
 ·have e:qlN vs=.tup vs:=by
   rcases vs with _|⟨v,_|⟨v2,vs⟩⟩
   ·rfl
   ·exact absurd ⟨v,rfl⟩ h1
   ·rfl
  rw [e] at hl |-
  have hok:V.ok.oks vs=true:=by simpa [V.leaves,V.ok] using hl
  obtain ⟨cs,k1,k2⟩:=qlI hR htr hv (qqu hok)
  have hlen:=k2.length
  refine ⟨.tuple cs.toArray,g,?_,hR.toH,Evo.refl g w,.s (.tup _ _ (by simpa using k2))⟩
  rw [hm cs k1]
  rcases cs with _|⟨c,_|⟨c2,cs⟩⟩
  ·rfl
  ·exfalso
   apply h1
   match vs,hlen with
   | [v],_=>exact ⟨v,rfl⟩
  ·rfl
end
def qM8 (P:Program) (M:Maps) (pg:Pg):Prop:=
 ∀f' i,look M.fm f'=some i->∀fn',pg.fn i=some fn'->∃fn A own,P.funcs[f']?=some fn/\(fn.name == "runtime.NumGoroutine")=false/\qcS M P A own fn=some fn'
def Tab (P:Program) (M:Maps) (pg:Pg):Prop:=qM8 P M pg/\qui P M
theorem qwi {P:Program} {M:Maps} {A:Ann} {own:Bool} {fn:Func} {fn':Fn} (h:qcS M P A own fn=some fn') :
  ∃c x d hh rs,fn.body=some c/\jm fn.ntmps c=true/\qtL M P A c=some (x,d,hh)/\qj2 P fn.results.toList=some rs/\fn'=⟨fn.params.size+fn.nfree,rs,own,x,d,hh⟩:=by
 unfold qcS at h
 split at h
 ·rename_i c hbody
  split at h
  ·cases h
  ·rename_i hdst
   split at h
   ·rename_i x d hh rs hb hrs
    simp only [Option.some.injEq] at h
    exact ⟨c,x,d,hh,rs,hbody,by simpa using hdst,hb,hrs,h.symm⟩
   ·cases h
 ·cases h
theorem MarksOk.put {g:Gh} {w0 w:World} {ms:List Go.Deferred} (h:MarksOk g w0 w ms) {r:Nat} {o:Go.Obj} (hr:∀d ∈ ms,d.target≠.collected r):MarksOk g w0 (w.putObj r o) ms:=by
 induction h with
 | nil=>exact .nil
 | cons r' ht hlo hb ho hf hl ih=>
  rename_i d ms
  have hne:r'≠r:=fun e=>hr d (by simp) (by rw [ht,e])
  exact .cons r' ht hlo ((Go.World.putObj_heap_other hne).trans hb) ho hf (ih (fun d' hd'=>hr d' (by simp [hd'])))
theorem qel {P:Program} {F:Fence} {n:Nat} {fn:Func} {tmps:Array Value} {R:Ending->World->Prop} {u:Go.FrameMode} {rest:List Go.Deferred} (hu:u≠.run) {g:Gh} {w0:World} (J:World->Prop)
  (hJ:∀w r,J w->w.heap[r]?=some (.deferred (some []))->g.own r=none->w0.heap.size<=r->J (w.putObj r (.deferred none))) (hrest:∀w,J w->Go.LeavesInM F n P fn tmps R rest u w) :
  ∀(ms:List Go.Deferred) (w:World),MarksOk g w0 w ms->J w->Go.LeavesInM F n P fn tmps R (ms++rest) u w
 | [],w,_,h=>hrest w h
 | d::ms,w,.cons r ht hlo hb ho hf hl,h=>by
  refine ⟨hu,.inl ⟨r,w.putObj r (.deferred none),ht,Go.run_takeDeferred hb,?_⟩⟩
  exact qel hu J hJ hrest ms _ (hl.put hf) (hJ w r h hb ho hlo)
section
variable {P:Program} {M:Maps} {g:Gh} {w:World}
theorem qn8 {fn:Func} {fn':Fn} (hrs:qj2 P fn.results.toList=some fn'.res) {H:List Obj} (hH:RelH M g w H) {st2:St} (hlo:∀id,id<st2.lo->id<H.length->st2.H[id]?=H[id]?) {r:Cr} (hend:zL fn' H st2=some r)
  {g2:Gh} {w2:World} {β2:Nat->Nat} {a:Act} (hR:Rel M g2 w2 β2 st2 a.tmps) (hE:Evo g w g2 w2) {ms:List Go.Deferred} (hm:MarksOk g2 w w2 ms):Go.LeavesInM Fence.wide 0 P fn a.tmps (qG M g w r) ms .returning w2:=by
 have:=qel (P:=P) (F:=Fence.wide) (n:=0) (fn:=fn) (tmps:=a.tmps) (R:=qG M g w r) (u:=.returning) (rest:=[]) (by simp) (g:=g2) (w0:=w) (fun wx=>Rel M g2 wx β2 st2 a.tmps/\Evo g w g2 wx)
  (fun wx r' h hb ho hl=>⟨qor h.1 hb rfl rfl ho,qob h.2 hl hb rfl rfl⟩) (fun wx h=>?_) ms w2 hm ⟨hR,hE⟩
 ·rwa [List.append_nil] at this
 ·obtain ⟨hRx,hEx⟩:=h
  obtain ⟨vs,hvs,hl⟩:=qpz hend
  have hlv:(qlN vs).leaves=true:=by
   unfold leave at hl
   cases hq:(qlN vs).leaves with
   | true=>rfl
   | false=>simp [hq] at hl
  obtain ⟨v,g3,k1,k2,k3,k4⟩:=qup hrs hRx hvs hlv
  obtain ⟨h1,h2⟩:=qqd hH k2 (hEx.trans k3) hlo k4 hl
  exact ⟨v,k1,h1,h2⟩
theorem qti {fn:Func} {H:List Obj} (hH:RelH M g w H) {st2:St} (hlo:∀id,id<st2.lo->id<H.length->st2.H[id]?=H[id]?) {v:V} {r:Cr} (hend:leave H true v st2=some r) {cv:Value}
  {g2:Gh} {w2:World} {β2:Nat->Nat} {a:Act} (hR:Rel M g2 w2 β2 st2 a.tmps) (hE:Evo g w g2 w2) (hv:RepA M g2 w2 0 v cv) {ms:List Go.Deferred} (hm:MarksOk g2 w w2 ms) :
  Go.LeavesInM Fence.wide 0 P fn a.tmps (qG M g w r) ms (.panicking [{v:=cv,recovered:=false}]) w2:=by
 have:=qel (P:=P) (F:=Fence.wide) (n:=0) (fn:=fn) (tmps:=a.tmps) (R:=qG M g w r) (u:=.panicking [{v:=cv,recovered:=false}]) (rest:=[]) (by simp) (g:=g2) (w0:=w) (fun wx=>Rel M g2 wx β2 st2 a.tmps/\Evo g w g2 wx/\RepA M g2 wx 0 v cv)
  (fun wx r' h hb ho hl=>⟨qor h.1 hb rfl rfl ho,qob h.2.1 hl hb rfl rfl,?_⟩) (fun wx h=>?_) ms w2 hm ⟨hR,hE,hv⟩
 ·rwa [List.append_nil] at this
 ·cases h.2.2 with
  | s hs=>exact .s (hs.mono (qap hb rfl rfl) (qOB _) (fun _ _=>rfl) hs.ref)
  | osl hs=>exact .osl (hs.mono (qap hb rfl rfl) (qiS ho _))
 ·obtain ⟨hRx,hEx,hvx⟩:=h
  obtain ⟨h1,g3,h2,h3,h4⟩:=qqd hH hRx.toH hEx hlo hvx hend
  exact ⟨h1,g3,cv,rfl,h2,h3,h4⟩
theorem qtm {pg:Pg} (hT:Tab P M pg) {ex:C->St->Option (Ex × St)} (hlo:∀c st e st',ex c st=some (e,st')->LoOk st st') (he:qg1 P M ex) (hs:qoC ex)
  {fn:Func} {fn':Fn} (hrs:qj2 P fn.results.toList=some fn'.res) {H:List Obj} (hH:RelH M g w H) {h:Nat} {vs:List V} {v:V} {st':St} (hlo':∀id,id<st'.lo->id<H.length->st'.H[id]?=H[id]?) {r:Cr} (hh:handle pg ex fn' H h vs v st'=some r)
  {h':FuncId} (hlook:look M.fm h'=some h) {fv cv:Array Value} {g2:Gh} {w2:World} {β2:Nat->Nat} {a:Act} (hR:Rel M g2 w2 β2 st' a.tmps) (hE:Evo g w g2 w2) (hvs:RepSL M g2 w2 vs (fv++cv).toList) {ms:List Go.Deferred} (hm:MarksOk g2 w w2 ms)
  {u:Go.FrameMode} {pv:Value} (hv:RepS M g2 w2 v pv) (hu:(u=.returning/\pv=.nilIface)\/u=.panicking [{v:=pv,recovered:=false}]) :
  Go.LeavesInM Fence.wide 0 P fn a.tmps (qG M g w r) ({target:=.fn (.func h') cv,args:=fv}::ms) u w2:=by
 obtain ⟨hf,d,st2,k1,k2,k3,k4,k5,k6⟩:=qf0 hh
 obtain ⟨fnh,A,own,q1,q2,q3⟩:=hT.1 h' h hlook hf k1
 obtain ⟨c,x,dd,hh',rs,c1,c2,c3,c4,c5⟩:=qwi q3
 subst c5
 simp only at k2 k3 k4 k5
 subst k2
 subst k4
 have hres:fnh.results=#[]:=by
  apply Array.ext'
  cases hq:fnh.results.toList with
  | nil=>rfl
  | cons y l=>
   rw [hq] at c4
   simp only [qj2] at c4
   split at c4<;>simp at c4
 have htr:trH M P A c=some (d,x)/\qd c=true:=by
  unfold qtL at c3
  split at c3
  ·split at c3
   ·rename_i hnd
    split at c3
    ·rename_i d' x' ht
     simp only [Option.some.injEq,Prod.mk.injEq] at c3
     obtain ⟨rfl,rfl,rfl⟩:=c3
     exact ⟨ht,hnd⟩
    ·cases c3
   ·cases c3
  ·split at c3
   ·split at c3<;>simp at c3
   ·split at c3<;>simp at c3
 have hun:u≠.run:=by rcases hu with ⟨rfl,_⟩|rfl<;>simp
 have hinv:∀wx,(Go.invoke (.fn (.func h') cv) fv).run P wx=.ok (.enter h' (fv++cv)) wx:=fun wx=>by
  have hn:¬fnh.name= "runtime.NumGoroutine" :=by simpa using q2
  simp [Go.invoke,Go.callFunc,q1,hn,c1]
 refine ⟨hun,.inr ⟨fun hd=>WF.wide.depth hd,.func h',cv,h',fv++cv,rfl,hinv w2,fun _ _=>trivial,?_⟩⟩
 refine Go.callsDIn_of_wpSIn q1 c1 trivial (fun c₀ cs hmode=>?_)
 have hargs:ArgsRep M (qA (zJ 0 []) g2) w2 0 vs (fv++cv).toList:=qcq 0 hvs
 have hrel:=qsn (β:=fun _=>0) hargs (qjP (hand:=zJ 0 []) hR.toH) (fnh.ntmps - (fv++cv).size) st'.lo
 have hrel':Rel M (qA (zJ 0 []) g2) w2 (fun _=>0) {env:=kf 0 vs,H:=st'.H,lo:=st'.lo} ((fv++cv)++Array.replicate (fnh.ntmps - (fv++cv).size) Go.undef):=by
  have e:(fv++cv).toList.toArray=fv++cv:=by simp
  rw [e] at hrel
  exact hrel
 have hsz:fnh.ntmps<=((fv++cv)++Array.replicate (fnh.ntmps - (fv++cv).size) Go.undef).size:=by simp only [Array.size_append,Array.size_replicate];omega
 let u':Go.FrameMode:=match u with | .panicking [{v,..}]=>.panicking [{v,recovered:=true}]|u=>u
 have hset:Go.settle u'=.returning:=by rcases hu with ⟨rfl,_⟩|rfl<;>rfl
 have hrec:Go.recoverD (c₀::cs)=some (pv,{c₀ with mode:=u'}::cs)\/(Go.recoverD (c₀::cs)=none/\pv=.nilIface/\{c₀ with mode:=u'}::cs=c₀::cs):=by
  rcases hu with ⟨rfl,hp⟩|rfl
  ·refine .inr ⟨by simp [Go.recoverD,hmode],hp,?_⟩
   show {c₀ with mode:=Go.FrameMode.returning}::cs=c₀::cs
   rw [<- hmode]
  ·exact .inl (by simp [Go.recoverD,hmode,u'])
 have main:∀(e3:Ex),(e3=.nrm\/e3=.ret)->ex x ⟨(d,v)::kf 0 vs,st'.H,st'.lo⟩=some (e3,st2)->c.wpSIn Fence.wide 0 P (Go.bodyPostS P fnh c₀ cs fun
     | .returned _,u',w'=>Go.LeavesInM Fence.wide 0 P fn a.tmps (qG M g w r) ms (Go.settle u') w'
     | .panicked chain,u',w'=>Go.LeavesInM Fence.wide 0 P fn a.tmps (qG M g w r) ms (Go.raised u' chain) w'
     | .outgrown,_,w'=>qG M g w r .outgrown w') {tmps:=(fv++cv)++Array.replicate (fnh.ntmps - (fv++cv).size) Go.undef,defers:=[]} (c₀::cs) w2:=by
  intro e3 hen hrun
  refine qs3 he hs htr.1 (st:=⟨kf 0 vs,st'.H,st'.lo⟩) hrun hen c2 hsz hrel' (qnj hv) hrec (fun z a3 w3 hp=>?_)
  have key:Good (qd c=true) M (qA (zJ 0 []) g2) w2 {tmps:=(fv++cv)++Array.replicate (fnh.ntmps - (fv++cv).size) Go.undef,defers:=[]} st2 a3 w3->
    a3.defers=[]/\∃u'',{c₀ with mode:=u'}::cs={c₀ with mode:=u''}::cs/\∃v,(Go.results fnh a3.tmps).run P w3=.ok v w3/\Go.LeavesInM Fence.wide 0 P fn a.tmps (qG M g w r) ms (Go.settle u'') w3:=by
   intro hg
   obtain ⟨⟨g3,β3,r1,r2,_⟩,_,r5⟩:=hg
   refine ⟨r5 htr.2,u',rfl,.tuple #[],by simp [Go.results,hres],?_⟩
   rw [hset]
   have hR4:=hR.restRel (os:=[]) (j:=0) r2 r1.toH (lo:=st2.lo) none
   have hE4:Evo g2 w2 (jU (zJ 0 []) none g2 g3) w3:=qiB hR.fr r2
   refine qn8 hrs hH (fun id h1 h2=>?_) k6 hR4 (hE.trans hE4) (hm.mono hE4)
   have hl:=hlo _ _ _ _ hrun
   have h1:id<st2.lo:=h1
   have:=hl.old id h1 (Nat.lt_of_lt_of_le h2 ?_)
   ·exact this.trans (hlo' id (Nat.lt_of_lt_of_le h1 hl.lo) h2)
   ·have:=hR.n
    have:=hE.n
    have:=hH.n
    simp only at *
    omega
  rcases hen with rfl|rfl
  ·cases z with
   | normal=>exact key hp
   | _=>exact hp.elim
  ·cases z with
   | ret=>exact key hp
   | _=>exact hp.elim
 rcases k5 with k5|k5
 ·exact main .nrm (.inl rfl) k5
 ·exact main .ret (.inr rfl) k5
end
theorem qkV {P:Program} {M:Maps} {pg:Pg} (hT:Tab P M pg) {ex:C->St->Option (Ex × St)} (hlo:∀c st e st',ex c st=some (e,st')->LoOk st st') (he:qg1 P M ex) (hs:qoC ex)
  {i:Nat} {vs:List V} {H:List Obj} {r:Cr} (hcall:qm pg ex i vs H=some r) {f':FuncId} (hlook:look M.fm f'=some i) (hext:pg.fn i≠none) {g:Gh} {w:World} {argv:List Value} (hargs:ArgsRep M g w 0 vs argv) (hH:RelH M g w H) :
  Calls P f' argv.toArray w (qG M g w r)/\(Go.callFunc f' argv.toArray).run P w=.ok (.enter f' argv.toArray) w:=by
 unfold qm at hcall
 split at hcall
 ·rename_i hn;exact absurd hn hext
 ·rename_i fn' hfn'
  obtain ⟨fn,A,own,hf,hname,htr⟩:=hT.1 f' i hlook fn' hfn'
  obtain ⟨c,x,dd,hh,rs,hbody,hdst,hb,hrs,rfl⟩:=qwi htr
  simp only at hcall
  split at hcall
  ·rename_i hnp
   obtain ⟨hnp,hhn⟩:=hnp
   subst hhn
   have hrel:=qsn (β:=fun _=>0) hargs hH (fn.ntmps - argv.toArray.size) H.length
   have hsize:fn.ntmps<=(argv.toArray++Array.replicate (fn.ntmps - argv.toArray.size) Go.undef).size:=by simp;omega
   have main:c.wpIn Fence.wide 0 P (Go.bodyPostM Fence.wide 0 P fn (qG M g w r)) {tmps:=argv.toArray++Array.replicate (fn.ntmps - argv.toArray.size) Go.undef,defers:=[]} w->
     Calls P f' argv.toArray w (qG M g w r)/\(Go.callFunc f' argv.toArray).run P w=.ok (.enter f' argv.toArray) w:=by
    intro hwp
    refine ⟨Go.callsIn_wide.1 (Go.callsIn_of_wp_marks (args:=argv.toArray) hf hbody trivial hwp),?_⟩
    have hn:¬fn.name= "runtime.NumGoroutine" :=by simpa using hname
    simp [Go.callFunc,hf,hn,hbody]
   apply main
   have old:∀{st:St} {e:Ex},ex x {env:=kf 0 vs,H,lo:=H.length}=some (e,st)->∀id,id<st.lo->id<H.length->st.H[id]?=H[id]?:=fun h id h1 h2=>(hlo _ _ _ _ h).old id h1 h2
   have endR:∀{e:Ex} {st:St},ex x {env:=kf 0 vs,H,lo:=H.length}=some (e,st)->zL ⟨fn.params.size+fn.nfree,rs,own,x,dd,none⟩ H st=some r->∀a' w',Good False M g w {tmps:=argv.toArray++Array.replicate (fn.ntmps - argv.toArray.size) Go.undef,defers:=[]} st a' w'->
     Go.LeavesInM Fence.wide 0 P fn a'.tmps (qG M g w r) a'.defers .returning w':=by
    intro e st hrun hend a' w' hg
    obtain ⟨⟨g1,β1,hR1,hE1,ms,hms,hmk⟩,_,_⟩:=hg
    rw [hms,List.append_nil]
    exact qn8 (fn':=⟨fn.params.size+fn.nfree,rs,own,x,dd,none⟩) hrs hH (old hrun) hend hR1 hE1 hmk
   have endP:∀{v:V} {st:St},ex x {env:=kf 0 vs,H,lo:=H.length}=some (.pan v,st)->leave H true v st=some r->∀ch a' w',BadEnd False M g w {tmps:=argv.toArray++Array.replicate (fn.ntmps - argv.toArray.size) Go.undef,defers:=[]} v st ch a' w'->
     Go.LeavesInM Fence.wide 0 P fn a'.tmps (qG M g w r) a'.defers (.panicking ch) w':=by
    intro v st hrun hend ch a' w' hg
    obtain ⟨⟨g1,cv,β1,rfl,hR1,hE1,hv,ms,hms,hmk⟩,_,_⟩:=hg
    rw [hms,List.append_nil]
    exact qti hH (old hrun) hend hR1 hE1 hv hmk
   unfold qtL at hb
   split at hb
   ·split at hb
    ·split at hb<;>simp at hb
    ·cases hb
   ·split at hb
    ·
     split at hb
     ·rename_i pre t post htD
      simp only [Option.some.injEq,Prod.mk.injEq] at hb
      obtain ⟨rfl,rfl,_⟩:=hb
      split at hcall
      ·rename_i st hrun
       simp only at hcall
       obtain ⟨h,first,cap,e,st',v,k1,k2,k3,k4,k5⟩:=qby hcall
       refine qnM he hs htD hrun hdst hsize hrel (fun hne=>absurd rfl hne) (fun _=>⟨h,first,cap,e,st',k1,k2,k3,fun z a' w' hp=>?_⟩)
       obtain ⟨g1,w1,a1,ds1,h',fv,cv,q1,q2,q3,q4,q5,⟨ms0,q6,q6'⟩,q7,q8⟩:=hp
       have q6:ds1=ms0:=by simpa using q6
       subst q6
       have hlo2:∀id,id<st'.lo->id<H.length->st'.H[id]?=H[id]?:=fun id h1 h2=>by
        have l1:=hlo _ _ _ _ hrun
        have l2:=hlo _ _ _ _ k3
        exact (l1.trans l2).old id h1 h2
       have fin:∀{g2:Gh} {β2:Nat->Nat} {u:Go.FrameMode} {pv:Value},Rel M g2 w' β2 st' a'.tmps->Evo g1 w1 g2 w'->DefOk g2 w1 w' a1.defers a'.defers->RepS M g2 w' v pv->((u=.returning/\pv=.nilIface)\/u=.panicking [{v:=pv,recovered:=false}])->
         Go.LeavesInM Fence.wide 0 P fn a'.tmps (qG M g w r) a'.defers u w':=by
        intro g2 β2 u pv hR2 hE2 hD2 hv hu
        obtain ⟨ms,hms,hmk⟩:=hD2
        rw [hms,q7]
        have hun:u≠.run:=by rcases hu with ⟨rfl,_⟩|rfl<;>simp
        have hsl:RepSL M g1 w1 (first++cap) (fv++cv).toList:=by
         rw [Array.toList_append];exact q2.append q3
        refine qel hun (g:=g2) (w0:=w1) (fun wx=>Rel M g2 wx β2 st' a'.tmps/\Evo g w g2 wx/\RepS M g2 wx v pv/\RepSL M g2 wx (first++cap) (fv++cv).toList/\MarksOk g2 w wx ds1)
         (fun wx r' hx hb' ho' hl'=>⟨qor hx.1 hb' rfl rfl ho',qob hx.2.1 (Nat.le_trans q4.size hl') hb' rfl rfl,?_,?_,?_⟩) (fun wx hx=>?_) ms w' hmk ⟨hR2,q4.trans hE2,hv,?_,q6'.mono hE2⟩
        ·exact hx.2.2.1.mono (qap hb' rfl rfl) (qOB _) (fun _ _=>rfl) hx.2.2.1.ref
        ·exact hx.2.2.2.1.mono (qap hb' rfl rfl) (qOB _) (fun _ _=>rfl) hx.2.2.2.1.ref
        ·refine hx.2.2.2.2.put (fun d hd=>?_)
         obtain ⟨r0,hr0,_,hlt⟩:=q6'.lt d hd
         rw [hr0]
         intro e
         cases e
         omega
        ·exact qtm (fn':=⟨fn.params.size+fn.nfree,rs,own,pre,some (t,post),none⟩) hT hlo he hs hrs hH hlo2 k4 q1 hx.1 hx.2.1 hx.2.2.2.1 hx.2.2.2.2 hx.2.2.1 hu
        ·exact hsl.mono hE2.toGrow hE2.n hE2.φ hsl.ref
       rcases k5 with ⟨hen,rfl⟩|⟨rfl,hi⟩
       ·have good:Good False M g1 w1 a1 st' a' w'->Go.LeavesInM Fence.wide 0 P fn a'.tmps (qG M g w r) a'.defers .returning w':=fun hg=>by
         obtain ⟨⟨g2,β2,hR2,hE2,hD2⟩,_,_⟩:=hg
         exact fin hR2 hE2 hD2 (.d _ _ .ni) (.inl ⟨rfl,rfl⟩)
        rcases hen with rfl|rfl
        ·cases z with
         | normal=>exact good q8
         | _=>exact q8.elim
        ·cases z with
         | ret=>exact good q8
         | _=>exact q8.elim
       ·cases z with
        | panic ch=>
         obtain ⟨⟨g2,pv,β2,rfl,hR2,hE2,hv,hD2⟩,_,_⟩:=(q8:BadEnd False M g1 w1 a1 v st' ch a' w')
         cases hv with
         | s hv=>exact fin hR2 hE2 hD2 hv (.inr rfl)
         | osl hv=>cases hi
        | _=>exact q8.elim
      ·rename_i st hrun
       refine qnM he hs htD hrun hdst hsize hrel (fun _ z a' w' hp=>?_) (fun h=>by cases h)
       cases z with
       | ret=>exact endR hrun hcall a' w' hp
       | _=>exact hp.elim
      ·rename_i v st hrun
       refine qnM he hs htD hrun hdst hsize hrel (fun _ z a' w' hp=>?_) (fun h=>by cases h)
       cases z with
       | panic ch=>exact endP hrun hcall ch a' w' hp
       | _=>exact hp.elim
      ·cases hcall
     ·cases hb
    ·split at hb
     ·rename_i x' hc
      simp only [Option.some.injEq,Prod.mk.injEq] at hb
      obtain ⟨rfl,rfl,_⟩:=hb
      split at hcall
      ·rename_i st hrun
       refine he A 0 c x' hc _ .nrm st hrun g w _ {tmps:=argv.toArray++Array.replicate (fn.ntmps - argv.toArray.size) Go.undef,defers:=[]} fn.ntmps hdst hsize hrel Fence.wide 0 .wide (.inl rfl) _ (fun z a' w' hp=>?_)
       cases z with
       | normal=>exact endR hrun hcall a' w' (Good.weak (fun h=>h.elim) hp)
       | _=>exact hp.elim
      ·rename_i st hrun
       refine he A 0 c x' hc _ .ret st hrun g w _ {tmps:=argv.toArray++Array.replicate (fn.ntmps - argv.toArray.size) Go.undef,defers:=[]} fn.ntmps hdst hsize hrel Fence.wide 0 .wide (.inl rfl) _ (fun z a' w' hp=>?_)
       cases z with
       | ret=>exact endR hrun hcall a' w' (Good.weak (fun h=>h.elim) hp)
       | _=>exact hp.elim
      ·rename_i v st hrun
       refine he A 0 c x' hc _ (.pan v) st hrun g w _ {tmps:=argv.toArray++Array.replicate (fn.ntmps - argv.toArray.size) Go.undef,defers:=[]} fn.ntmps hdst hsize hrel Fence.wide 0 .wide (.inl rfl) _ (fun z a' w' hp=>?_)
       cases z with
       | panic ch=>
        have hp:BadEnd _ M g w _ v st ch a' w':=hp
        exact endP hrun hcall ch a' w' ⟨hp.r,hp.size,fun h=>h.elim⟩
       | _=>exact hp.elim
      ·cases hcall
     ·cases hb
  ·cases hcall
theorem qrU {P:Program} {f':FuncId} {args:Array Value} {w:World} {M:Maps} {g:Gh} {r:Cr} (h:Calls P f' args w (qG M g w r)/\(Go.callFunc f' args).run P w=.ok (.enter f' args) w):qtZ P f' args w (qG M g w r):=by
 intro o a K Q hK hQ
 rw [h.2,Oper.upon_enter]
 refine h.1.mono (fun en w' hp=>?_)
 cases en with
 | returned v=>exact hK v w' hp
 | panicked ch=>exact hQ ch w' hp
 | outgrown=>exact hp.elim
theorem qjO {P:Program} {M:Maps} {pg:Pg} (hT:Tab P M pg) (hx:qn P M pg.ext) {ex:C->St->Option (Ex × St)} (hlo:∀c st e st',ex c st=some (e,st')->LoOk st st') (he:qg1 P M ex) (hs:qoC ex) :
  qn P M (qm pg ex):=by
 intro i vs H r hcall f' hlook g w argv hargs hH
 cases hn:pg.fn i with
 | none=>
  have:pg.ext i vs H=some r:=by
   unfold qm at hcall
   rw [hn] at hcall
   exact hcall
  exact hx i vs H r this f' hlook g w argv hargs hH
 | some fn'=>exact qrU (qkV hT hlo he hs hcall hlook (by rw [hn];simp) hargs hH)
end W
/-
  What an operation looks at, and what it changes.
-/
namespace W
open Go (IntKind BinOp UnOp)
structure Fr (k:OpK) (st st2:St) (r r2:Or):Prop where
 pan:r2.pan=r.pan
 same:r2.same=r.same
 v:r2.v=r.v
 inn:∀s,s ∈ k.boxW->get s r2.st.env=get s r.st.env
 out1:∀s,s ∉ k.boxW->get s r.st.env=get s st.env
 out2:∀s,s ∉ k.boxW->get s r2.st.env=get s st2.env
 H1:k.free=true->r.same=true->r.st.H=st.H/\r2.st.H=st2.H
 H2:st2.H=st.H->r2.st.H=r.st.H
 lp:∀n,zc n r.st.env=zc n st.env
 lp2:∀n,zc n r2.st.env=zc n st2.env
def qOh (k:OpK) (e e2:Env):Prop:=∀s,s ∈ qj k.rds\/s ∈ k.boxR->get s e2=get s e
theorem qkM {e e2:Env} {x:O} (h:∀s,s ∈ qj [x]->get s e2=get s e):rd e2 x=rd e x:=by
 cases x with
 | t n=>simp only [rd];rw [h n (by simp [qj])]
 | mv n=>simp only [rd];rw [h n (by simp [qj])]
 | c x=>rfl
 | f i=>rfl
 | g i x=>rfl
theorem qC (a b:List O):qj (a++b)=qj a++qj b:=by
 induction a with
 | nil=>rfl
 | cons x l ih=>cases x<;>simp [qj,ih]
theorem qw (x:O) (l:List O):qj (x::l)=qj [x]++qj l:=qC [x] l
theorem qcv {e e2:Env}:∀{l:List O},(∀s,s ∈ qj l->get s e2=get s e)->l.map (rd e2)=l.map (rd e)
 | [],_=>rfl
 | x::l,h=>by
  rw [qw] at h
  simp only [List.map_cons]
  rw [qkM (fun s hs=>h s (by simp [hs])),qcv (fun s hs=>h s (by simp [hs]))]
theorem jD {e e2:Env} {x:Option O} (h:∀s,s ∈ qj x.toList->get s e2=get s e):qN e2 x=qN e x:=by
 cases x with
 | none=>rfl
 | some x=>simp only [qN];rw [qkM (x:=x) (by simpa using h)]
theorem qfP (n:Nat) (x:O) (e:Env):zc n (spent x e)=zc n e:=by cases x<;>rfl
theorem qan (n:Nat):∀(l:List O) (e:Env),zc n (spentAll l e)=zc n e
 | [],_=>rfl
 | x::l,e=>by simp only [spentAll];rw [qan n l,qfP]
theorem jN (x:O) (e:Env) (k:Nat):get k (spent x e)=if k ∈ ki [x] then .undef else get k e:=qS [x] e k
variable {st st2:St} {r:Or}
theorem qp2 {k:OpK} (hst:r.st=st) {r2:Or} (h2:r2={r with st:=st2}) (hW:∀s,s ∈ k.boxW->get s st2.env=get s st.env):Fr k st st2 r r2:=by
 subst h2
 refine ⟨rfl,rfl,rfl,fun s hs=>(by rw [hst];exact hW s hs),fun s _=>(by rw [hst]),fun s _=>rfl,fun _ _=>⟨by rw [hst],rfl⟩,fun h=>(by rw [hst];exact h),fun n=>(by rw [hst]),fun n=>rfl⟩
theorem qeY {k:OpK} {l:List O} {v:V} (hW:k.boxW=ki l) {same:Bool} {pan:Bool} {H' H2':List Obj} {lo lo2:Nat} (h1:k.free=true->same=true->H'=st.H/\H2'=st2.H) (h2:st2.H=st.H->H2'=H') :
  Fr k st st2 ⟨pan,same,v,{env:=spentAll l st.env,H:=H',lo:=lo}⟩ ⟨pan,same,v,{env:=spentAll l st2.env,H:=H2',lo:=lo2}⟩:=by
 refine ⟨rfl,rfl,rfl,fun s hs=>?_,fun s hs=>?_,fun s hs=>?_,h1,h2,fun n=>qan n l _,fun n=>qan n l _⟩
 ·rw [hW] at hs;simp only [qS,hs,if_true]
 ·rw [hW] at hs;simp only [qS,hs,if_false]
 ·rw [hW] at hs;simp only [qS,hs,if_false]
theorem qe {v:V} (h:ok v st=some r):r.st=st/\ok v st2=some {r with st:=st2}:=by
 simp only [ok,Option.some.injEq] at h;subst h;exact ⟨rfl,rfl⟩
theorem qKP {c a b:O} (h:qfK c a b st=some r) (e1:rd st2.env c=rd st.env c) (e2:rd st2.env a=rd st.env a) (e3:rd st2.env b=rd st.env b):r.st=st/\qfK c a b st2=some {r with st:=st2}:=by
 unfold qfK at h |-;rw [e1,e2,e3]
 split at h
 ·rename_i hz;(try simp only [hz]);exact qe h
 ·cases h
theorem qDo {z:List D} {p:List (Nat × Nat × O)} (h:qcp z p st=some r) (e:(p.map fun (o,s,x)=>(o,s,rd st2.env x))=(p.map fun (o,s,x)=>(o,s,rd st.env x))):r.st=st/\qcp z p st2=some {r with st:=st2}:=by
 unfold qcp at h |-;rw [e]
 cases hk:qeG (p.map fun (o,s,x)=>(o,s,rd st.env x)) with
 | false=>rw [hk] at h;simp at h
 | true=>
  rw [hk] at h
  simp only [Bool.not_true,cond_false] at h |-
  split at h
  ·rename_i hz;(try simp only [hz]);exact qe h
  ·cases h
theorem qsM {z:D} {n:Nat} {p:List (Nat × O)} (h:qX z n p st=some r) (e:(p.map fun (j,x)=>(j,rd st2.env x))=(p.map fun (j,x)=>(j,rd st.env x))):r.st=st/\qX z n p st2=some {r with st:=st2}:=by
 unfold qX at h |-;rw [e]
 split at h
 ·rename_i hz;(try simp only [hz])
  split at h
  ·rename_i hw;(try simp only [hw,if_true]);exact qe h
  ·cases h
 ·cases h
theorem qBx {z:List D} {p:List (Nat × Nat × O)} (h:qcz z p st=some r) (e:(p.map fun (o,s,x)=>(o,s,rd st2.env x))=(p.map fun (o,s,x)=>(o,s,rd st.env x))):r.st=st/\qcz z p st2=some {r with st:=st2}:=by
 unfold qcz at h |-;rw [e]
 cases hk:qeG (p.map fun (o,s,x)=>(o,s,rd st.env x)) with
 | false=>rw [hk] at h;simp at h
 | true=>
  rw [hk] at h
  simp only [Bool.not_true,cond_false] at h |-
  split at h
  ·rename_i hz;(try simp only [hz]);exact qe h
  ·cases h
theorem qu1 {z:D} {n:Nat} {p:List (Nat × O)} (h:jA z n p st=some r) (e:(p.map fun (j,x)=>(j,rd st2.env x))=(p.map fun (j,x)=>(j,rd st.env x))):r.st=st/\jA z n p st2=some {r with st:=st2}:=by
 unfold jA at h |-;rw [e]
 split at h
 ·rename_i hz;(try simp only [hz])
  split at h
  ·rename_i hw;(try simp only [hw,if_true]);exact qe h
  ·cases h
 ·cases h
theorem qw6 {x:O} (h:kS x st=some r) (e1:rd st2.env x=rd st.env x):r.st=st/\kS x st2=some {r with st:=st2}:=by
 unfold kS at h |-;rw [e1]
 split at h
 ·rename_i hz;(try simp only [hz]);exact qe h
 ·rename_i hz;(try simp only [hz]);exact qe h
 ·rename_i hz;(try simp only [hz]);exact qe h
 ·cases h
theorem qNo {op:BinOp} {kd:Kd} {x y:O} (h:qoZ op kd x y st=some r) (e1:rd st2.env x=rd st.env x) (e2:rd st2.env y=rd st.env y):r.st=st/\qoZ op kd x y st2=some {r with st:=st2}:=by
 unfold qoZ at h |-;rw [e1,e2]
 split at h
 ·rename_i hz;(try simp only [hz]);exact qe h
 ·cases h
theorem qOc {op:UnOp} {x:O} (h:eUn op x st=some r) (e1:rd st2.env x=rd st.env x):r.st=st/\eUn op x st2=some {r with st:=st2}:=by
 unfold eUn at h |-;rw [e1]
 split at h
 ·rename_i hz;(try simp only [hz])
  split at h
  ·rename_i hw;(try simp only [hw]);exact qe h
  ·cases h
 ·cases h
theorem qKW {k:IntKind} {x:O} (h:qiR k x st=some r) (e1:rd st2.env x=rd st.env x):r.st=st/\qiR k x st2=some {r with st:=st2}:=by
 unfold qiR at h |-;rw [e1]
 split at h
 ·rename_i hz;(try simp only [hz]);exact qe h
 ·cases h
theorem qD0 {x:O} (h:qjh x st=some r) (e1:rd st2.env x=rd st.env x):r.st=st/\qjh x st2=some {r with st:=st2}:=by
 unfold qjh at h |-;rw [e1]
 split at h
 ·rename_i hz;(try simp only [hz]);exact qe h
 ·cases h
theorem qHQ {x:O} (h:qnW x st=some r) (e1:rd st2.env x=rd st.env x) (hH:st2.H=st.H):r.st=st/\qnW x st2=some {r with st:=st2}:=by
 unfold qnW at h |-;rw [e1,hH]
 simp only [qOx] at h |-
 split at h
 ·rename_i hz;(try simp only [hz]);exact qe h
 ·rename_i hz;(try simp only [hz])
  split at h
  ·rename_i hw;(try simp only [hw]);exact qe h
  ·cases h
 ·rename_i hz;(try simp only [hz])
  split at h
  ·rename_i hw;(try simp only [hw])
   split at h
   ·rename_i hw2;(try simp only [hw2,if_true])
    split at h
    ·rename_i hw3;(try simp only [hw3])
     split at h
     ·rename_i hw4;(try simp only [hw4]);exact qe h
     ·cases h
    ·cases h
   ·cases h
  ·cases h
 ·cases h
theorem qLe {x:O} (h:qoo x st=some r) (e1:rd st2.env x=rd st.env x):r.st=st/\qoo x st2=some {r with st:=st2}:=by
 unfold qoo at h |-;rw [e1]
 split at h
 ·rename_i hz;(try simp only [hz]);exact qe h
 ·cases h
theorem qEp {t:Nat} {x:O} (h:qje t x st=some r) (e1:rd st2.env x=rd st.env x):r.st=st/\qje t x st2=some {r with st:=st2}:=by
 unfold qje at h |-;rw [e1]
 split at h
 ·rename_i hz;(try simp only [hz,if_true]);exact qe h
 ·cases h
theorem qwH {t:Nat} {z:D} {x:O} (h:yx t z x st=some r) (e1:rd st2.env x=rd st.env x):r.st=st/\yx t z x st2=some {r with st:=st2}:=by
 unfold yx at h |-;rw [e1]
 split at h
 ·rename_i t' v hz
  (try simp only [hz])
  cases hb:qOC t' t with
  | true=>simp only [hb,cond_true] at h |-;exact qe h
  | false=>simp only [hb,cond_false] at h |-;exact qe h
 ·rename_i hz;(try simp only [hz]);exact qe h
 ·cases h
theorem qIR {f:Nat} {a b:List O} (h:qmC f a b st=some r) (e1:a.map (rd st2.env)=a.map (rd st.env)) (e2:b.map (rd st2.env)=b.map (rd st.env)):r.st=st/\qmC f a b st2=some {r with st:=st2}:=by
 unfold qmC at h |-;rw [e1,e2]
 split at h
 ·rename_i hz;(try simp only [hz,if_true]);exact qe h
 ·cases h
theorem qB8 {x:O} {a b:Option O} (h:jq x a b st=some r) (e1:rd st2.env x=rd st.env x) (e2:qN st2.env a=qN st.env a) (e3:qN st2.env b=qN st.env b):r.st=st/\jq x a b st2=some {r with st:=st2}:=by
 unfold jq at h |-;rw [e1,e2,e3]
 split at h
 ·rename_i hz1 hz2;(try simp only [hz1,hz2])
  split at h
  ·rename_i hw;(try simp only [hw]);exact qe h
  ·cases h
 ·cases h
theorem qBq {n:Nat} {x:O} {a b:Option O} (h:qd0 n x a b st=some r) (e1:rd st2.env x=rd st.env x) (e2:qN st2.env a=qN st.env a) (e3:qN st2.env b=qN st.env b):r.st=st/\qd0 n x a b st2=some {r with st:=st2}:=by
 unfold qd0 at h |-;rw [e1,e2,e3]
 split at h
 ·rename_i hz1 hz2;(try simp only [hz1,hz2])
  split at h
  ·rename_i hw;(try simp only [hw]);exact qe h
  ·cases h
 ·cases h
theorem qCL {n:Nat} {x:O} {a b:Option O} (h:qex n x a b st=some r) (e1:rd st2.env x=rd st.env x) (e2:qN st2.env a=qN st.env a) (e3:qN st2.env b=qN st.env b):r.st=st/\qex n x a b st2=some {r with st:=st2}:=by
 unfold qex at h |-;rw [e1,e2,e3]
 split at h
 ·rename_i hz1 hz2;(try simp only [hz1,hz2])
  split at h
  ·rename_i hw;(try simp only [hw]);exact qe h
  ·cases h
 ·cases h
theorem qBa {n:Nat} {x:O} {a:Option O} {b m:O} (h:qet n x a b m st=some r) (e1:rd st2.env x=rd st.env x) (e2:qN st2.env a=qN st.env a) (e3:rd st2.env b=rd st.env b) (e4:rd st2.env m=rd st.env m):r.st=st/\qet n x a b m st2=some {r with st:=st2}:=by
 unfold qet at h |-;rw [e1,e2,e3,e4]
 split at h
 ·rename_i hz1 hz2 hz3;(try simp only [hz1,hz2,hz3])
  split at h
  ·rename_i hw;(try simp only [hw]);exact qe h
  ·cases h
 ·cases h
theorem qv0 {x:O} {o:Nat} {l:L} (h:qU x o l st=some r) (e1:rd st2.env x=rd st.env x):r.st=st/\qU x o l st2=some {r with st:=st2}:=by
 unfold qU at h |-;rw [e1]
 split at h
 ·rename_i hz;(try simp only [hz]);exact qe h
 ·rename_i hz;(try simp only [hz]);exact qe h
 ·rename_i hz;(try simp only [hz])
  split at h
  ·rename_i hw;(try simp only [hw])
   split at h
   ·rename_i hq;(try simp only [hq,if_true]);exact qe h
   ·cases h
  ·cases h
 ·cases h
theorem qDs {x:O} {o:Nat} {l:L} (h:qe3 x o l st=some r) (e1:rd st2.env x=rd st.env x):r.st=st/\qe3 x o l st2=some {r with st:=st2}:=by
 unfold qe3 at h |-;rw [e1]
 split at h
 ·rename_i hz;(try simp only [hz])
  split at h
  ·rename_i hw;(try simp only [hw]);exact qe h
  ·cases h
 ·rename_i hz;(try simp only [hz])
  split at h
  ·rename_i hw;(try simp only [hw]);exact qe h
  ·cases h
 ·cases h
theorem quz {x i:O} {n:Nat} {arr:Option Nat} (h:qV x i n arr st=some r) (e1:rd st2.env x=rd st.env x) (e2:rd st2.env i=rd st.env i):r.st=st/\qV x i n arr st2=some {r with st:=st2}:=by
 unfold qV at h |-;rw [e2]
 split at h
 ·rename_i hz;(try simp only [hz])
  cases arr with
  | some len=>
   simp only [jn,qOx,e1] at h |-
   split at h
   ·rename_i hw;(try simp only [hw,if_true])
    split at h
    ·rename_i hq;(try simp only [hq]);exact qe h
    ·rename_i hq;(try simp only [hq]);exact qe h
    ·rename_i hq;(try simp only [hq])
     split at h
     ·rename_i hq1;(try simp only [hq1,if_true])
      split at h
      ·rename_i hq2;(try simp only [hq2])
       split at h
       ·rename_i hq3;(try simp only [hq3,if_true]);exact qe h
       ·cases h
      ·cases h
     ·cases h
    ·cases h
   ·cases h
  | none=>
   simp only [zM,qOx,e1] at h |-
   split at h
   ·rename_i hw;(try simp only [hw,if_true])
    split at h
    ·rename_i hq;(try simp only [hq])
     split at h
     ·rename_i hq2;(try simp only [hq2])
      split at h
      ·rename_i hq3;(try simp only [hq3,if_true]);exact qe h
      ·cases h
     ·cases h
    ·rename_i hq;(try simp only [hq])
     split at h
     ·rename_i hq3;(try simp only [hq3,if_true]);exact qe h
     ·cases h
    ·rename_i hq;(try simp only [hq])
     split at h
     ·rename_i hq3;(try simp only [hq3,if_true]);exact qe h
     ·cases h
    ·cases h
   ·cases h
 ·cases h
theorem qED {x i:O} (h:qe9 x i st=some r) (e1:rd st2.env x=rd st.env x) (e2:rd st2.env i=rd st.env i):r.st=st/\qe9 x i st2=some {r with st:=st2}:=by
 unfold qe9 at h |-;rw [e1,e2]
 split at h
 ·rename_i hz1 hz2;(try simp only [hz1,hz2,qOx] at h |-)
  split at h
  ·rename_i hw;(try simp only [hw,if_true])
   split at h
   ·rename_i hq;(try simp only [hq]);exact qe h
   ·cases h
  ·cases h
 ·cases h
theorem qAO {kk:Nat} {z:D} {m k:O} {c:Bool} (h:zH kk z m k c st=some r) (e1:rd st2.env m=rd st.env m) (e2:rd st2.env k=rd st.env k) (eH:st2.H=st.H):r.st=st/\zH kk z m k c st2=some {r with st:=st2}:=by
 unfold zH at h |-;rw [e1,e2]
 split at h
 ·rename_i hz1 hz2;(try simp only [hz1,hz2])
  split at h
  ·rename_i hw;(try simp only [hw,if_true]);exact qe h
  ·cases h
 ·rename_i hz1 hz2;(try simp only [hz1,hz2,eH])
  split at h
  ·rename_i hw;(try simp only [hw])
   split at h
   ·rename_i hq;(try simp only [hq,if_true])
    split at h
    ·rename_i hq2;(try simp only [hq2]);exact qe h
    ·rename_i hq2;(try simp only [hq2]);exact qe h
    ·cases h
   ·cases h
  ·cases h
 ·cases h
theorem qzs {x:O} {i:Nat} (h:yi x i st=some r) (e:∀s,s ∈ qj [x]->get s st2.env=get s st.env):r.st=st/\yi x i st2=some {r with st:=st2}:=by
 unfold yi at h |-
 split at h
 ·rename_i n
  rw [e n (by simp [qj])]
  split at h
  ·rename_i hz;(try simp only [hz])
   split at h
   ·rename_i hw;(try simp only [hw]);exact qe h
   ·cases h
  ·cases h
 ·cases h
end W
