/-
  LoaderMany, part 5.
-/
import Derived.Lib.LaidTab
import Derived.Test.YtccijlniolfhlaaGreatDoorW4
set_option linter.unusedSimpArgs false
set_option linter.unusedVariables false
/-
  Equations for walking code whose data are terms: memory, slices, texts, maps.
-/
open Bool renaming cond_eq_ite->qJo,and_eq_true->qJp,false_eq_true->qJw
open Option renaming bind_eq_some_iff->qJq,bind_eq_bind->qJt,pure_def->qJu
open Nat renaming le_refl->qJr,eq_of_beq_eq_true->qJs,beq->qJv
namespace W
open Go (IntKind BinOp UnOp)
variable {pg:Pg} {call:Call} {st:St} {p:Prop} [Decidable p]
end W
/-
  Slices of encoded elements; dictionaries; integers that fit.
-/
namespace W
open Go (IntKind BinOp UnOp)
section
variable {α:Type} {e:α->D} {L:List α} {x:α} {st:St} {pg:Pg}
end
theorem qyc {x:Int} (h1:-9223372036854775808<=x) (h2:x<=9223372036854775807):wr .i64 x=x:=by
 cases x with
 | ofNat a=>simp only [wr,qnx,qy6];rw [decide_eq_true (by rw [Int.ofNat_eq_natCast] at h2;omega)];rfl
 | negSucc a=>simp only [wr,qsw,qy6];rw [decide_eq_true (by omega)];rfl
theorem qHO {x:Int} (h1:0<=x) (h2:x<=255):wr .u8 x=x:=by
 cases x with
 | ofNat a=>simp only [wr,qnx,qy6];rw [decide_eq_true (by rw [Int.ofNat_eq_natCast] at h2;omega)];rfl
 | negSucc a=>have:=Int.negSucc_lt_zero a;omega
end W
/-
  What arguments read as, kind by kind.
-/
namespace W
open Go (World Value Addr IntKind Program TypeId FuncId Func DataW MemPlace TypeDesc Lit)
theorem qed {n a b:Nat} (h:look ((List.range n).map fun i=>(i,i)) a=some b):a=b:=by
 have key:∀(l:List Nat),look (l.map fun i=>(i,i)) a=some b->a=b:=by
  intro l
  induction l with
  | nil=>intro h;cases h
  | cons x l ih=>
   intro h
   simp only [List.map_cons,look,qJo] at h
   split at h
   ·rename_i hb
    cases h
    exact qJs hb
   ·exact ih h
 exact key _ h
variable {P:Program} {t e:TypeId} {x:D}
theorem qAD {k:IntKind} (hu:P.underlying t=some (.int k)) (h:Arg P t x):∃z,x=.i k z/\(Lit.int k z).wf=true:=by
 obtain ⟨n,xs,ht,rfl⟩:=h
 cases n with
 | zero=>exact ht.elim
 | succ n=>
  simp only [Ty,hu] at ht
  obtain ⟨z,rfl,hw⟩:=ht
  exact ⟨z,by simp [qbx,hu,elD],hw⟩
inductive SlD {α:Type} (e:α->D):D->List α->Prop
 | nil:SlD e .nil []
 | sl (L:List α):SlD e (.sl (L.map e)) L
theorem SlD.len {α:Type} {e:α->D} {x:D} {L:List α} (h:SlD e x L) {H:List Obj}:qH6 .lenL (.d x) H=some (.d (.i .i64 L.length)):=by
 cases h with
 | nil=>rfl
 | sl=>simp [qH6]
end W
/-
  Tables of the library, as the rows list them.
-/
namespace W
def qda:D:=.agg [.i .u8 0,.i .u8 1,.i .u8 28,.i .u8 2,.i .u8 29,.i .u8 14,.i .u8 24,.i .u8 3,.i .u8 30,.i .u8 22,.i .u8 20,.i .u8 15,.i .u8 25,.i .u8 17,.i .u8 4,.i .u8 8,.i .u8 31,.i .u8 27,.i .u8 13,.i .u8 23,.i .u8 21,.i .u8 19,.i .u8 16,.i .u8 7,.i .u8 26,.i .u8 12,.i .u8 18,.i .u8 6,.i .u8 11,.i .u8 5,.i .u8 10,.i .u8 9]
def qdQ:D:=.agg [.i .u8 0,.i .u8 1,.i .u8 56,.i .u8 2,.i .u8 57,.i .u8 49,.i .u8 28,.i .u8 3,.i .u8 61,.i .u8 58,.i .u8 42,.i .u8 50,.i .u8 38,.i .u8 29,.i .u8 17,.i .u8 4,.i .u8 62,.i .u8 47,.i .u8 59,.i .u8 36,.i .u8 45,.i .u8 43,.i .u8 51,.i .u8 22,.i .u8 53,.i .u8 39,.i .u8 33,.i .u8 30,.i .u8 24,.i .u8 18,.i .u8 12,.i .u8 5,.i .u8 63,.i .u8 55,.i .u8 48,.i .u8 27,.i .u8 60,.i .u8 41,.i .u8 37,.i .u8 16,.i .u8 46,.i .u8 35,.i .u8 44,.i .u8 21,.i .u8 52,.i .u8 32,.i .u8 23,.i .u8 11,.i .u8 54,.i .u8 26,.i .u8 40,.i .u8 15,.i .u8 34,.i .u8 20,.i .u8 31,.i .u8 10,.i .u8 25,.i .u8 14,.i .u8 19,.i .u8 9,.i .u8 13,.i .u8 8,.i .u8 7,.i .u8 6]
def qaA:D:=.agg [.i .u64 1,.i .u64 10,.i .u64 100,.i .u64 1000,.i .u64 10000,.i .u64 100000,.i .u64 1000000,.i .u64 10000000,.i .u64 100000000,.i .u64 1000000000,.i .u64 10000000000,.i .u64 100000000000,.i .u64 1000000000000,.i .u64 10000000000000,.i .u64 100000000000000,.i .u64 1000000000000000,.i .u64 10000000000000000,.i .u64 100000000000000000,.i .u64 1000000000000000000,.i .u64 10000000000000000000]
def qhy:D:=.agg [.i .u8 0,.i .u8 0,.i .u8 0,.i .u8 0,.i .u8 0,.i .u8 0,.i .u8 0,.i .u8 0,.i .u8 0,.i .u8 1,.i .u8 1,.i .u8 1,.i .u8 1,.i .u8 1,.i .u8 0,.i .u8 0,.i .u8 0,.i .u8 0,.i .u8 0,.i .u8 0,.i .u8 0,.i .u8 0,.i .u8 0,.i .u8 0,.i .u8 0,.i .u8 0,.i .u8 0,.i .u8 0,.i .u8 0,.i .u8 0,.i .u8 0,.i .u8 0,.i .u8 1,.i .u8 0,.i .u8 0,.i .u8 0,.i .u8 0,.i .u8 0,.i .u8 0,.i .u8 0,.i .u8 0,.i .u8 0,.i .u8 0,.i .u8 0,.i .u8 0,.i .u8 0,.i .u8 0,.i .u8 0,.i .u8 0,.i .u8 0,.i .u8 0,.i .u8 0,.i .u8 0,.i .u8 0,.i .u8 0,.i .u8 0,.i .u8 0,.i .u8 0,.i .u8 0,.i .u8 0,.i .u8 0,.i .u8 0,.i .u8 0,.i .u8 0,.i .u8 0,.i .u8 0,.i .u8 0,.i .u8 0,.i .u8 0,.i .u8 0,.i .u8 0,.i .u8 0,.i .u8 0,.i .u8 0,.i .u8 0,.i .u8 0,.i .u8 0,.i .u8 0,.i .u8 0,.i .u8 0,.i .u8 0,.i .u8 0,.i .u8 0,.i .u8 0,.i .u8 0,.i .u8 0,.i .u8 0,.i .u8 0,.i .u8 0,.i .u8 0,.i .u8 0,.i .u8 0,.i .u8 0,.i .u8 0,.i .u8 0,.i .u8 0,.i .u8 0,.i .u8 0,.i .u8 0,.i .u8 0,.i .u8 0,.i .u8 0,.i .u8 0,.i .u8 0,.i .u8 0,.i .u8 0,.i .u8 0,.i .u8 0,.i .u8 0,.i .u8 0,.i .u8 0,.i .u8 0,.i .u8 0,.i .u8 0,.i .u8 0,.i .u8 0,.i .u8 0,.i .u8 0,.i .u8 0,.i .u8 0,.i .u8 0,.i .u8 0,.i .u8 0,.i .u8 0,.i .u8 0,.i .u8 0,.i .u8 0,.i .u8 0,.i .u8 0,.i .u8 0,.i .u8 0,.i .u8 0,.i .u8 0,.i .u8 0,.i .u8 0,.i .u8 0,.i .u8 0,.i .u8 0,.i .u8 0,.i .u8 0,.i .u8 0,.i .u8 0,.i .u8 0,.i .u8 0,.i .u8 0,.i .u8 0,.i .u8 0,.i .u8 0,.i .u8 0,.i .u8 0,.i .u8 0,.i .u8 0,.i .u8 0,.i .u8 0,.i .u8 0,.i .u8 0,.i .u8 0,.i .u8 0,.i .u8 0,.i .u8 0,.i .u8 0,.i .u8 0,.i .u8 0,.i .u8 0,.i .u8 0,.i .u8 0,.i .u8 0,.i .u8 0,.i .u8 0,.i .u8 0,.i .u8 0,.i .u8 0,.i .u8 0,.i .u8 0,.i .u8 0,.i .u8 0,.i .u8 0,.i .u8 0,.i .u8 0,.i .u8 0,.i .u8 0,.i .u8 0,.i .u8 0,.i .u8 0,.i .u8 0,.i .u8 0,.i .u8 0,.i .u8 0,.i .u8 0,.i .u8 0,.i .u8 0,.i .u8 0,.i .u8 0,.i .u8 0,.i .u8 0,.i .u8 0,.i .u8 0,.i .u8 0,.i .u8 0,.i .u8 0,.i .u8 0,.i .u8 0,.i .u8 0,.i .u8 0,.i .u8 0,.i .u8 0,.i .u8 0,.i .u8 0,.i .u8 0,.i .u8 0,.i .u8 0,.i .u8 0,.i .u8 0,.i .u8 0,.i .u8 0,.i .u8 0,.i .u8 0,.i .u8 0,.i .u8 0,.i .u8 0,.i .u8 0,.i .u8 0,.i .u8 0,.i .u8 0,.i .u8 0,.i .u8 0,.i .u8 0,.i .u8 0,.i .u8 0,.i .u8 0,.i .u8 0,.i .u8 0,.i .u8 0,.i .u8 0,.i .u8 0,.i .u8 0,.i .u8 0,.i .u8 0,.i .u8 0,.i .u8 0,.i .u8 0,.i .u8 0,.i .u8 0,.i .u8 0,.i .u8 0,.i .u8 0,.i .u8 0,.i .u8 0,.i .u8 0,.i .u8 0,.i .u8 0,.i .u8 0,.i .u8 0,.i .u8 0,.i .u8 0,.i .u8 0]
end W
/-
  Tables that the rows list are what the small semantics reads.
-/
namespace W
open Go (World Value Addr IntKind Program TypeId FuncId Func DataW MemPlace Lit)
theorem qwi {W:World} {b i:Nat} {v:Value} (h:W.cell? ⟨b,i,none⟩=some v):i<(g0 W).pub b:=by
 show i<(match W.heap[b]? with|some (.cells c _ _)=>c.size|_=>0)
 simp only [World.cell?] at h
 split at h
 ·rename_i c t f hb
  rw [hb]
  simp only [Option.isSome_none,qJw,if_false] at h
  exact (Array.getElem?_eq_some_iff.1 h).1
 ·cases h
theorem qsm {pub:Nat->Nat} {w:World} (k:IntKind):∀zs:List Int,RepDL pub w (zs.map (D.i k)) (zs.map fun z=>Value.int k z)
 | []=>.nil
 | z::zs=>.cons _ _ _ _ (.i k z) (qsm k zs)
theorem qqQ {P:Program} {W:World} {name:String} {k:IntKind} {zs:List Int} {g:Nat} {t e:TypeId} {n:Nat}
  (hg:P.globalNamed name=some g) (hty:(P.globals[g]?).map (·.type)=some t) (ht:P.underlying t=some (.array n e)) (he:P.underlying e=some (.int k)) (hce:P.cellsOf e=1) (hct:P.cellsOf t=n) :
  ∀{laid:List (String × DataW Unit)} {ps:List MemPlace},DataW.LaidVars P W laid ps->(name,Go.Lib.tabData k zs) ∈ laid->Go.Lib.TabIs P W name k zs
 | [],_,_,hm=>by cases hm
 | (nm,d)::rest,ps,h,hm=>by
  obtain ⟨g',t',cs,fuel,p,q,hg',ht',hvar,hd,hrest,_⟩:=h
  rcases List.mem_cons.1 hm with e|hm
  ·cases e
   obtain rfl:=Option.some.inj (hg.symm.trans hg')
   obtain rfl:=Option.some.inj (hty.symm.trans ht')
   unfold Go.Lib.TabIs
   rw [hvar,<- Go.Lib.cells_of_tab ht he hce hct hd]
  ·exact qqQ hg hty ht he hce hct hrest hm
theorem qxw {M:Maps} {P:Program} {W:World} (h2:qBG M (g0 W) W) (h:∀n x,look M.gl n=some x->∃name k zs,P.globalNamed name=some n/\x=.agg (zs.map (D.i k))/\zs≠[]/\Go.Lib.TabIs P W name k zs):GlOk M (g0 W) W:=by
 refine ⟨?_,h2⟩
 intro n x hn
 obtain ⟨name,k,zs,hg,rfl,hne,ht⟩:=h n x hn
 refine ⟨zs.map fun z=>Value.int k z,qsm k zs,fun j v hj=>?_,?_⟩
 ·have hlt:j<zs.length:=by
   have:=(List.getElem?_eq_some_iff.1 hj).1
   simpa using this
  rw [Nat.zero_add,ht.cell hg j hlt]
  have:(zs.map fun z=>Value.int k z)[j]?=some (.int k (zs.getD j 0)):=by simp [List.getD,hlt]
  rw [this] at hj
  exact hj
 ·have hpos:0<zs.length:=by cases zs with|nil=>exact absurd rfl hne|cons=>simp
  have:=qwi (ht.cell hg (zs.length - 1) (by omega))
  simp only [List.length_map]
  omega
end W
/- A program of which parts that a run doesn't reach are cut away: what it gives, the whole one gives. -/
namespace W
open Go (World Value Program FuncId)
inductive Cut:C->C->Prop where
 | stuck (c:C):Cut c .stuck
 | skip:Cut .skip .skip
 | ops (l):Cut (.ops l) (.ops l)
 | opsD (l):Cut (.opsD l) (.opsD l)
 | seq {a a' b b':C} (h:Cut a a') (h':Cut b b'):Cut (.seq a b) (.seq a' b')
 | cond {a a' b b':C} (o) (h:Cut a a') (h':Cut b b'):Cut (.cond o a b) (.cond o a' b')
 | block {a a':C} (id live) (h:Cut a a'):Cut (.block id live a) (.block id live a')
 | loop {a a':C} (live) (h:Cut a a'):Cut (.loop live a) (.loop live a')
 | exit (id):Cut (.exit id) (.exit id)
 | ret:Cut .ret .ret
 | rangeB {a a' b b':C} (k l f p0 p1 live) (h:Cut a a') (h':Cut b b'):Cut (.rangeB k l f p0 p1 live a b) (.rangeB k l f p0 p1 live a' b')
 | rangeZ (k f live):Cut (.rangeZ k f live) (.rangeZ k f live)
theorem Cut.refl:∀c,Cut c c
 | .skip=>.skip
 | .ops l=>.ops l
 | .opsD l=>.opsD l
 | .seq a b=>.seq (refl a) (refl b)
 | .cond o a b=>.cond o (refl a) (refl b)
 | .block i l a=>.block i l (refl a)
 | .loop l a=>.loop l (refl a)
 | .exit i=>.exit i
 | .ret=>.ret
 | .stuck=>.stuck _
 | .rangeB k l f p0 p1 live a b=>.rangeB k l f p0 p1 live (refl a) (refl b)
 | .rangeZ k f live=>.rangeZ k f live
def ExCut (e e':C->St->Option (Ex × St)):Prop:=∀c' c,Cut c' c->∀st x,e c st=some x->e' c' st=some x
theorem ExCut.le {e e':C->St->Option (Ex × St)} (h:ExCut e e'):qqw e e':=fun c st x=>h c c (.refl c) st x
theorem qyo {c c':Call} {e e':C->St->Option (Ex × St)} (hc:yd c c') (he:ExCut e e') {x' x:C} (hx:Cut x' x) {st:St} {y:Ex × St} (h:step c e x st=some y):step c' e' x' st=some y:=by
 cases hx with
 | stuck=>cases h
 | skip=>exact h
 | ops l=>exact qcx hc l h
 | opsD l=>exact qdE hc l h
 | seq h1 h2=>
  simp only [step] at h |-
  rename_i a a' b b'
  cases ha:e a' st with
  | none=>rw [ha] at h;cases h
  | some p=>
   rw [ha] at h
   rw [he _ _ h1 _ _ ha]
   obtain ⟨ex,st1⟩:=p
   cases ex with
   | nrm=>exact he _ _ h2 _ _ h
   | _=>exact h
 | cond o h1 h2=>
  simp only [step] at h |-
  split at h
  ·rename_i hv;(try simp only [hv]);exact he _ _ h1 _ _ h
  ·rename_i hv;(try simp only [hv]);exact he _ _ h2 _ _ h
  ·cases h
 | block id live h1=>
  simp only [step] at h |-
  rename_i a a'
  cases ha:e a' st with
  | none=>rw [ha] at h;cases h
  | some p=>rw [ha] at h;rw [he _ _ h1 _ _ ha];exact h
 | loop live h1=>
  simp only [step] at h |-
  rename_i a a'
  cases ha:e a' {st with env:=restrict live st.env} with
  | none=>rw [ha] at h;cases h
  | some p=>
   rw [ha] at h
   rw [he _ _ h1 _ _ ha]
   obtain ⟨ex,st1⟩:=p
   cases ex with
   | nrm=>exact he _ _ (.loop live h1) _ _ h
   | _=>exact h
 | exit id=>exact h
 | ret=>exact h
 | rangeB k l f p0 p1 live h1 h2=>
  simp only [step] at h |-
  split at h
  ·rename_i k' c' hf
   (try simp only [hf])
   rw [qJo] at h |-
   split at h
   ·rename_i hk
    rw [if_pos hk]
    split at h
    ·rename_i n hn;(try simp only [hn]);exact qfa (he _ _ h1) (he _ _ h2) n h
    ·cases h
   ·cases h
  ·cases h
 | rangeZ k f live=>exact qrY hc he.le (x:=.rangeZ k f live) h
def qta (fn0 fn:Fn):Prop:=∃c,fn={fn0 with body:=c}/\Cut fn0.body c
structure PgCut (pg' pg:Pg):Prop where
 some:∀i fn,pg.fn i=some fn->∃fn0,pg'.fn i=some fn0/\qta fn0 fn
 none:∀i,pg.fn i=none->pg'.fn i=none
 ext:pg'.ext=pg.ext
theorem qk5 {pg' pg:Pg} (hp:PgCut pg' pg) {e e':C->St->Option (Ex × St)} (he:ExCut e e') {fn:Fn} {H:List Obj} {h:Nat} {vs:List V} {v:V} {st:St} {r:Cr} (hh:handle pg e fn H h vs v st=some r):handle pg' e' fn H h vs v st=some r:=by
 obtain ⟨hf,d,st',h1,h2,h3,h6,h4,h5⟩:=qdI hh
 obtain ⟨hf0,g1,c,rfl,g2⟩:=hp.some _ _ h1
 have h2':hf0.rcv=_:=h2
 have h3':hf0.np=_:=h3
 have h6':hf0.res=_:=h6
 unfold handle
 simp only [g1,h2',h3',h6',qoa,List.isEmpty_nil,Bool.and_self,cond_true]
 rcases h4 with h4|h4<;>simp only [he _ _ g2 _ _ h4,h5]
theorem qro {pg' pg:Pg} (hp:PgCut pg' pg) {e e':C->St->Option (Ex × St)} (he:ExCut e e') {fn:Fn} {H:List Obj} {t:Nat} {rest:C} {st:St} {r:Cr} (hh:deferred pg e fn H t rest st=some r):deferred pg' e' fn H t rest st=some r:=by
 obtain ⟨h,first,cap,ex,st',v,h1,h2,h3,h4,h5⟩:=qat hh
 unfold deferred
 simp only [h1,h2,cond_true]
 rcases h5 with ⟨h5|h5,rfl⟩|⟨rfl,h6⟩
 ·subst h5;simp only [he.le _ _ _ h3,qk5 hp he h4]
 ·subst h5;simp only [he.le _ _ _ h3,qk5 hp he h4]
 ·simp only [he.le _ _ _ h3,h6,cond_true,qk5 hp he h4]
theorem qmp {pg' pg:Pg} (hp:PgCut pg' pg) {e e':C->St->Option (Ex × St)} (he:ExCut e e'):yd (ql pg e) (ql pg' e'):=by
 intro i vs H r h
 unfold ql at h |-
 cases hf:pg.fn i with
 | none=>rw [hf] at h;rw [hp.none _ hf,hp.ext];exact h
 | some fn=>
  obtain ⟨fn0,g1,c,rfl,g2⟩:=hp.some _ _ hf
  rw [hf] at h
  rw [g1]
  simp only at h |-
  split at h
  ·rename_i hn
   rw [if_pos hn]
   cases hb:e c {env:=qW 0 vs,H,lo:=H.length} with
   | none=>rw [hb] at h;cases h
   | some p=>
    rw [hb] at h;rw [he _ _ g2 _ _ hb]
    obtain ⟨ex,st⟩:=p
    cases ex with
    | nrm=>
     simp only at h |-
     cases hd:fn0.dfr with
     | none=>rw [hd] at h;exact h
     | some q=>
      obtain ⟨t,rest⟩:=q
      rw [hd] at h
      exact qro hp he h
    | _=>exact h
  ·cases h
theorem qo2 {pg' pg:Pg} (hp:PgCut pg' pg):∀n,ExCut (exec pg n) (exec pg' n)
 | 0=>fun _ _ _ _ _ h=>by simp [exec] at h
 | n+1=>fun c' c hc st x h=>qyo (qmp hp (qo2 hp n)) (qo2 hp n) hc h
theorem qqB {pg' pg:Pg} (hp:PgCut pg' pg) (n:Nat):yd (zh pg n) (zh pg' n):=qmp hp (qo2 hp n)
def qiU:C->Nat->C × Nat
 | .seq a b,n=>match qiU a (n / 2) with
  | (a',m)=>bif qJv (n % 2) 1 then (match qiU b m with|(b',m')=>(.seq a' b',m')) else (.seq a' .stuck,m)
 | .cond o a b,n=>match (bif qJv (n % 2) 1 then qiU a (n / 2) else (.stuck,n / 2):C × Nat) with
  | (a',m)=>match (bif qJv (m % 2) 1 then qiU b (m / 2) else (.stuck,m / 2):C × Nat) with
   | (b',m')=>(.cond o a' b',m')
 | .block i l a,n=>match qiU a n with|(a',m)=>(.block i l a',m)
 | .loop l a,n=>match qiU a n with|(a',m)=>(.loop l a',m)
 | .rangeB k l f p0 p1 live a b,n=>match qiU a n with
  | (a',m)=>match qiU b m with|(b',m')=>(.rangeB k l f p0 p1 live a' b',m')
 | c,n=>(c,n)
theorem qgo:∀c n,Cut c (qiU c n).1
 | .seq a b,n=>by
  unfold qiU
  have h1:=qgo a (n / 2)
  have h2:=qgo b (qiU a (n / 2)).2
  cases h:qJv (n % 2) 1 with
  | true=>simp only [h,cond_true];exact .seq h1 h2
  | false=>simp only [h,cond_false];exact .seq h1 (.stuck _)
 | .cond o a b,n=>by
  unfold qiU
  have h1:Cut a (bif qJv (n % 2) 1 then qiU a (n / 2) else (.stuck,n / 2):C × Nat).1:=by
   cases h:qJv (n % 2) 1 with
   | true=>exact qgo a _
   | false=>exact .stuck _
  generalize (bif qJv (n % 2) 1 then qiU a (n / 2) else (.stuck,n / 2):C × Nat)=p at h1 |-
  obtain ⟨a',m⟩:=p
  have h2:Cut b (bif qJv (m % 2) 1 then qiU b (m / 2) else (.stuck,m / 2):C × Nat).1:=by
   cases h:qJv (m % 2) 1 with
   | true=>exact qgo b _
   | false=>exact .stuck _
  simp only
  generalize (bif qJv (m % 2) 1 then qiU b (m / 2) else (.stuck,m / 2):C × Nat)=p at h2 |-
  obtain ⟨b',m'⟩:=p
  exact .cond o h1 h2
 | .block i l a,n=>.block i l (qgo a n)
 | .loop l a,n=>.loop l (qgo a n)
 | .rangeB k l f p0 p1 live a b,n=>.rangeB k l f p0 p1 live (qgo a n) (qgo b _)
 | .skip,_=>.skip
 | .ops l,_=>.ops l
 | .opsD l,_=>.opsD l
 | .exit i,_=>.exit i
 | .ret,_=>.ret
 | .stuck,_=>.stuck _
 | .rangeZ k f live,_=>.rangeZ k f live
def qzt (n:Nat) (fn:Fn):Fn:={fn with body:=(qiU fn.body n).1}
theorem qGA (n:Nat) (fn:Fn):qta fn (qzt n fn):=⟨_,rfl,qgo _ _⟩
def qmL (P:Program) (M:Maps) (pg:Pg):Prop:=
 ∀f' i,look M.fm f'=some i->∀fn',pg.fn i=some fn'->∃fn A own fn0,P.funcs[f']?=some fn/\(fn.name == "runtime.NumGoroutine")=false/\qqr M P A own fn=some fn0/\qta fn0 fn'
def qnD (P:Program) (M:Maps) (i:Nat) (fn':Fn):Prop:=∃fn A own fn0,P.funcs[i]?=some fn/\(fn.name == "runtime.NumGoroutine")=false/\qqr M P A own fn=some fn0/\qta fn0 fn'
theorem qHo {P:Program} {M:Maps} {i:Nat} {fn':Fn} {fn:Go.Func} (h:P.funcs[i]?=some fn) (A:Ann) (own:Bool) (n:Nat) (hn:(fn.name == "runtime.NumGoroutine")=false) (ht:(qqr M P A own fn).map (qzt n)=some fn'):qnD P M i fn':=by
 obtain ⟨fn0,h1,h2⟩:=Option.map_eq_some_iff.1 ht
 exact ⟨fn,A,own,fn0,h,hn,h1,h2▸qGA n fn0⟩
theorem qDg {P:Program} {M:Maps} {i:Nat} {fn':Fn} {fn:Go.Func} {A:Ann} {own:Bool} (h:P.funcs[i]?=some fn) (hn:(fn.name == "runtime.NumGoroutine")=false) (ht:qqr M P A own fn=some fn'):qnD P M i fn':=⟨fn,A,own,fn',h,hn,ht,_,rfl,.refl _⟩
def qtc (n:Nat):List (Nat × Fn)->Option Fn
 | []=>none
 | p::l=>bif qJv n p.1 then some p.2 else qtc n l
theorem qq2 {n:Nat} {f:Fn}:∀{l:List (Nat × Fn)},qtc n l=some f->(n,f) ∈ l
 | [],h=>by cases h
 | (k,g)::l,h=>by
  unfold qtc at h
  rw [qJo] at h
  split at h
  ·rename_i hb
   cases h
   obtain rfl:=qJs hb
   exact .head _
  ·exact .tail _ (qq2 h)
inductive RowsOk (P:Program) (M:Maps):List (Nat × Fn)->Prop
 | nil:RowsOk P M []
 | cons {i:Nat} {f:Fn} {T:List (Nat × Fn)} (h:qnD P M i f) (t:RowsOk P M T):RowsOk P M ((i,f)::T)
theorem RowsOk.all {P:Program} {M:Maps} {T:List (Nat × Fn)} (h:RowsOk P M T):∀p ∈ T,qnD P M p.1 p.2:=by
 induction h with
 | nil=>intro p hp;cases hp
 | cons h t ih=>
  intro p hp
  cases hp with
  | head=>exact h
  | tail _ hp=>exact ih p hp
theorem qzo {P:Program} {M:Maps} {pg:Pg} {T:List (Nat × Fn)} (hT:∀p ∈ T,qnD P M p.1 p.2) (hp:∀i fn,pg.fn i=some fn->qtc i T=some fn) (hid:∀f' i,look M.fm f'=some i->f'=i):qmL P M pg:=fun f' i hl fn' hf=>by
 obtain rfl:=hid _ _ hl
 exact hT _ (qq2 (hp _ _ hf))
theorem whole {P:Program} {M:Maps} {pg:Pg} (hT:qmL P M pg) (hid:∀f' i,look M.fm f'=some i->f'=i):∃pg',qGY P M pg'/\PgCut pg' pg:=by
 have key:∀i fn,pg.fn i=some fn->∃fn0,qta fn0 fn/\∀f',look M.fm f'=some i->∃fn A own,P.funcs[f']?=some fn/\(fn.name == "runtime.NumGoroutine")=false/\qqr M P A own fn=some fn0:=fun i fn h=>by
  cases hl:look M.fm i with
  | none=>exact ⟨fn,⟨_,rfl,.refl _⟩,fun f' hf=>by rw [hid _ _ hf,hl] at hf;cases hf⟩
  | some j=>
   have e:=hid _ _ hl
   subst e
   obtain ⟨fn1,A,own,fn0,h1,h2,h3,h4⟩:=hT _ _ hl _ h
   exact ⟨fn0,h4,fun f' hf=>by rw [hid _ _ hf];exact ⟨fn1,A,own,h1,h2,h3⟩⟩
 refine ⟨⟨fun i=>match h:pg.fn i with|none=>none|some fn=>some (key i fn h).choose,pg.ext⟩,?_,?_,?_,rfl⟩
 ·intro f' i hl fn' hf
  simp only at hf
  split at hf
  ·cases hf
  ·rename_i fn h
   cases hf
   exact (key i fn h).choose_spec.2 f' hl
 ·intro i fn h
  refine ⟨(key i fn h).choose,?_,(key i fn h).choose_spec.1⟩
  simp only
  split
  ·rename_i h';rw [h] at h';cases h'
  ·rename_i fn2 h'
   rw [h] at h';cases h';rfl
 ·intro i h
  simp only
  split
  ·rfl
  ·rename_i fn2 h';rw [h] at h';cases h'
theorem qyC {P:Program} {M:Maps} {pg:Pg} (hm:P.follows .mixedOrders=true) (hT:qmL P M pg) (hB:qoJ P M) (hid:∀f' i,look M.fm f'=some i->f'=i) (hx:qn P M pg.ext) (hxlo:qo pg.ext) (n:Nat):qn P M (zh pg n):=by
 obtain ⟨pg',h1,h2⟩:=whole hT hid
 have hs:=sound hm ⟨h1,hB⟩ (by rw [h2.ext];exact hx) (by rw [h2.ext];exact hxlo) n
 intro i vs H r h
 exact hs i vs H r (qqB h2 n i vs H r h)
end W
