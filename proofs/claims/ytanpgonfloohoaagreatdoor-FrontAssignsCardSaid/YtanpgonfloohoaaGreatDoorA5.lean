/-
  FrontAssigns, part 5.
-/
import Derived.Lib.LaidTab
import Derived.Test.YtanpgonfloohoaaGreatDoorA4
set_option linter.unusedSimpArgs false
set_option linter.unusedVariables false
/-
  Equations for walking code whose data are terms: memory, slices, texts, maps.
-/
open Bool renaming cond_eq_ite->qOx,and_eq_true->qOy,false_eq_true->qOF
open Nat renaming eq_of_beq_eq_true->qOz,le_refl->qOB,beq->qOC,le_of_ble_eq_true->qOH
open Option renaming bind_eq_some_iff->qOA,bind_eq_bind->qOD,pure_def->qOE,map_some->qOG
namespace W
open Go (IntKind BinOp UnOp)
variable {pg:Pg} {call:Call} {st:St} {p:Prop} [Decidable p]
theorem qFc {c:D}:V.ref (.d c)=0:=(rfl)
def faV (v:V) (off:Nat) (l:L):Option V:=
 match v with
 | .ptr id o=>some (.ptr id (o+off))
 | .lp s o=>some (.lp s (o+off))
 | .cp (.agg cs)=>match D.part off l cs with
  | some y=>if l.agg || y.one then some (.cp y) else none
  | none=>none
 | _=>none
theorem qkc {x:O} {off:Nat} {l:L}:qa call (.fieldAddr x off l) st=okS (faV (rd st.env x) off l) st:=by
 show qU x off l st=_
 unfold qU faV
 cases rd st.env x with
 | cp w=>
  cases w with
  | agg cs=>
   simp only
   cases D.part off l cs with
   | none=>rfl
   | some y=>simp only;split<;>rfl
  | _=>rfl
 | _=>rfl
theorem qtw {i o off:Nat} {l:L}:faV (.ptr i o) off l=some (.ptr i (o+off)):=(rfl)
theorem qAK {i o off:Nat} {l:L}:faV (.lp i o) off l=some (.lp i (o+off)):=(rfl)
theorem qNG {k:IntKind} {x:Int}:D.one (.i k x)=true:=(rfl)
theorem qE7 {x:List Nat}:D.one (.s x)=true:=(rfl)
def qyH (l:L) (off:Nat) (o:Option Obj):Option V:=
 match o with
 | some (.cells cs)=>V.part off l cs
 | some (.row _ cs)=>V.part off l cs
 | _=>none
def qn9 (sl:Option Nat) (l:L) (st:St) (v:V):Option V:=
 bif !qE sl v then none else qF l st v
theorem qmV {sl:Option Nat} {l:L} {a:O}:qa call (.load false sl l a) st=okS (qn9 sl l st (rd st.env a)) st:=by
 show zB false sl l a st=_
 unfold zB qn9
 cases qE sl (rd st.env a) with
 | false=>rfl
 | true=>simp only [Bool.not_true,cond_false];cases qF l st (rd st.env a)<;>rfl
theorem qoS {l:L} {i o:Nat}:qn9 none l st (.ptr i o)=qyH l o (st.H[i]?):=by
 simp only [qn9,qE,Bool.not_true,cond_false,qF,qyH]
 all_goals rfl
theorem qts {o:Nat} {cs:List V}:qyH ⟨1,false⟩ o (some (.cells cs))=(cs[o]?).map zy:=by simp [qyH,V.part]
def qwR (l:L) (o:Nat) (v:V):Option V:=
 match v with
 | .box cs=>V.part o l cs
 | _=>none
theorem quF {l:L} {s o:Nat}:qn9 (some s) l st (.lp s o)=qwR l o (get s st.env):=by
 simp only [qn9,qE,qyc,decide_true,Bool.not_true,cond_false,qF,qwR]
 all_goals rfl
theorem qBg {o:Nat} {cs:List V}:qwR ⟨1,false⟩ o (.box cs)=(cs[o]?).map zy:=by simp [qwR,V.part]
theorem qCV {o n:Nat} {cs:List V} (h:(o+n<=cs.length)=True):qwR ⟨n,true⟩ o (.box cs)=some (qfh (((cs.drop o).take n).map zy)):=by simp [qwR,V.part,h]
theorem qm1 {n:List Nat}:qn9 none ⟨1,false⟩ st (.cp (.s n))=some (.d (.s n)):=(rfl)
theorem qov {cs:List D} {n:Nat} (h:(cs.length=n)=True):qn9 none ⟨n,true⟩ st (.cp (.agg cs))=some (.d (.agg cs)):=by
 simp [qn9,qE,qF,h]
def qs1 (sl:Option Nat) (l:L) (x v:V) (st:St):Option Or:=
 match sl,v with
 | none,.ptr i o=>(match st.H[i]? with
  | some (.cells cs)=>if x.cells.length=l.n && V.ones x.cells then (match kr cs o x.cells with
   | some cs'=>some ⟨false,false,.undef,{st with H:=qQ st.H i (.cells cs'),lo:=min st.lo i}⟩
   | none=>none) else none
  | some (.row k cs)=>if x.cells.length=l.n && V.ones x.cells && V.ok.oks x.cells then (match kr cs o x.cells with
   | some cs'=>some ⟨false,false,.undef,{st with H:=qQ st.H i (.row k cs'),lo:=min st.lo i}⟩
   | none=>none) else none
  | _=>none)
 | some s,.lp s' o=>bif qOC s s' then (match get s' st.env with
  | .box cs=>if x.cells.length=l.n && V.ones x.cells then (match kr cs o x.cells with
   | some cs'=>some ⟨false,true,.undef,{st with env:=(s',.box cs')::st.env}⟩
   | none=>none) else none
  | _=>none) else none
 | _,_=>none
theorem quU {sl:Option Nat} {l:L} {a x:O}:qa call (.store sl l a x) st=qs1 sl l (rd st.env x) (rd st.env a) {st with env:=spent x st.env}:=by
 show yS sl l a x st=_
 unfold yS qs1
 cases rd st.env a with
 | ptr i o=>
  cases sl with
  | none=>
   simp only [qE,Bool.not_true,cond_false,yy]
   cases st.H[i]? with
   | none=>rfl
   | some ob=>
    cases ob with
    | cells cs=>
     simp only
     cases (decide ((rd st.env x).cells.length=l.n) && V.ones (rd st.env x).cells) with
     | true=>simp only [if_true];cases kr cs o (rd st.env x).cells<;>rfl
     | false=>rfl
    | row k cs=>
     simp only
     cases (decide ((rd st.env x).cells.length=l.n) && V.ones (rd st.env x).cells && V.ok.oks (rd st.env x).cells) with
     | true=>simp only [if_true];cases kr cs o (rd st.env x).cells<;>rfl
     | false=>rfl
    | _=>rfl
  | some s=>simp [qE]
 | lp s o=>
  cases sl with
  | none=>simp [qE]
  | some s'=>
   simp only [qE,yy]
   cases qOC s' s with
   | false=>rfl
   | true=>
    simp only [Bool.not_true,cond_false,cond_true]
    cases get s (spent x st.env) with
    | box cs=>
     simp only
     cases (decide ((rd st.env x).cells.length=l.n) && V.ones (rd st.env x).cells) with
     | true=>simp only [if_true];cases kr cs o (rd st.env x).cells<;>rfl
     | false=>rfl
    | _=>rfl
 | _=>cases sl<;>first|rfl|simp [qE,yy]
def qtr (l:L) (x:V) (o s:Nat) (st:St) (b:V):Option Or:=
 match b with
 | .box cs=>if x.cells.length=l.n && V.ones x.cells then (match kr cs o x.cells with
   | some cs'=>some ⟨false,true,.undef,{st with env:=(s,.box cs')::st.env}⟩
   | none=>none) else none
 | _=>none
theorem qzz {l:L} {x:V} {s o:Nat}:qs1 (some s) l x (.lp s o) st=qtr l x o s st (get s st.env):=by
 simp only [qs1,qyc,decide_true,cond_true,qtr]
def qwr (s:Nat) (st:St) (r:Option (List V)):Option Or:=
 match r with
 | some cs'=>some ⟨false,true,.undef,{st with env:=(s,.box cs')::st.env}⟩
 | none=>none
theorem qwo {l:L} {x:V} {s o:Nat} {cs:List V} (h1:(x.cells.length=l.n)=True) (h2:V.ones x.cells=true):qtr l x o s st (.box cs)=qwr s st (kr cs o x.cells):=by
 simp only [qtr,h1,h2,decide_true,Bool.and_self,if_true,qwr]
theorem quG {s:Nat} {cs:List V}:qwr s st (some cs)=some ⟨false,true,.undef,{st with env:=(s,.box cs)::st.env}⟩:=(rfl)
theorem qzA {cs:List D}:V.cells (.d (.agg cs))=cs.map .d:=(rfl)
theorem qBe:V.ones []=true:=(rfl)
theorem qAe {v:V} {vs:List V}:V.ones (v::vs)=(v.one && V.ones vs):=(rfl)
theorem qID {x:D}:V.one (.d x)=x.one:=(rfl)
theorem qtf {zero:List D}:qa call (.alloc true zero) st=some ⟨false,true,.box (zero.map .d),st⟩:=(rfl)
def qMc (cs:List V) (r:Option (List D)):V:=match r with|some ds=>.d (.agg ds)|none=>.agg cs
theorem qvH {cs:List V}:qfh cs=qMc cs (jQ cs):=(rfl)
theorem qsb {cs:List V} {ds:List D}:qMc cs (some ds)=.d (.agg ds):=(rfl)
def qFj (x:D) (r:Option (List D)):Option (List D):=match r with|some r=>some (x::r)|none=>none
theorem qp9 {x:D} {r:List D}:qFj x (some r)=some (x::r):=(rfl)
theorem qwa:jQ []=some []:=(rfl)
theorem qCy {x:D} {l:List V}:jQ (.d x::l)=qFj x (jQ l):=(rfl)
def slO (r:Option (List D)):Option V:=match r with|some xs=>if D.wfs xs then some (.osl xs) else none|none=>none
theorem qpd {zero:D} {n:Nat} {ps:List (Nat × O)}:qa call (.buildSlice zero n ps) st=okS (slO (qdW zero.cells.length (List.replicate n zero) (ps.map fun (j,x)=>(j,rd st.env x)))) st:=by
 show qX zero n ps st=_
 unfold qX slO
 cases qdW zero.cells.length (List.replicate n zero) (ps.map fun (j,x)=>(j,rd st.env x)) with
 | none=>rfl
 | some xs=>simp only;split<;>rfl
theorem qzd {z:Nat} {es:List D}:qdW z es []=some es:=(rfl)
theorem qxm {z j:Nat} {es:List D} {x:D} {r:List (Nat × V)} (h:(x.cells.length=z)=True) (hj:(j<es.length)=True):qdW z es ((j,.d x)::r)=qdW z (es.set j x) r:=by
 simp [qdW,h,hj]
theorem qAB {xs:List D} (h:D.wfs xs=true):slO (some xs)=some (.osl xs):=by simp [slO,h]
theorem qDI:D.wfs []=true:=(rfl)
theorem qBW {x:D} {l:List D}:D.wfs (x::l)=(x.wf && D.wfs l):=(rfl)
theorem qIe {x:D} (h:x.one=true):x.wf=true:=by cases x<;>first|rfl|cases h
theorem qCo {x:List Nat}:D.cells (.s x)=[.s x]:=(rfl)
def iaV (v i:V) (size:Nat) (arr:Option Nat):Option V:=
 match i with
 | .d (.i _ n)=>match arr with
  | some len=>bif leI 0 n && !leI len n then (match v with
    | .ptr id o=>some (.ptr id (o+n.toNat * size))
    | .lp s o=>some (.lp s (o+n.toNat * size))
    | .cp (.agg cs)=>bif qOC size 1 then (match cs[n.toNat]? with
     | some y=>if y.one then some (.cp y) else none
     | none=>none) else none
    | _=>none) else none
  | none=>bif leI 0 n then (match v with
    | .d (.sl xs)=>(match xs[n.toNat]? with
     | some y=>bif qOC y.cells.length size then some (.cp y) else none
     | none=>none)
    | .rs id o len _=>bif !leI len n && qOC size 1 then some (.ptr id (o+n.toNat)) else none
    | .row id sz len=>bif !leI len n && qOC size sz then some (.ptr id (n.toNat * sz)) else none
    | _=>none) else none
 | _=>none
theorem qj7 {x i:O} {size:Nat} {arr:Option Nat}:qa call (.indexAddr x i size arr) st=okS (iaV (rd st.env x) (rd st.env i) size arr) st:=by
 show qV x i size arr st=_
 unfold qV iaV
 cases rd st.env i with
 | d w=>
  cases w with
  | i k n=>
   cases arr with
   | some len=>
    simp only [jn]
    cases leI 0 n && !leI len n with
    | false=>rfl
    | true=>
     simp only [cond_true]
     cases rd st.env x with
     | cp w=>
      cases w with
      | agg cs=>
       simp only
       cases qOC size 1 with
       | false=>rfl
       | true=>
        simp only [cond_true]
        cases cs[n.toNat]? with
        | none=>rfl
        | some y=>simp only;split<;>rfl
      | _=>rfl
     | _=>rfl
   | none=>
    simp only [zM]
    cases leI 0 n with
    | false=>rfl
    | true=>
     simp only [cond_true]
     cases rd st.env x with
     | d u=>
      cases u with
      | sl xs=>
       simp only
       cases xs[n.toNat]? with
       | none=>rfl
       | some y=>simp only;cases qOC y.cells.length size<;>rfl
      | _=>rfl
     | rs id o len c=>simp only;cases !leI len n && qOC size 1<;>rfl
     | row id sz len=>simp only;cases !leI len n && qOC size sz<;>rfl
     | _=>rfl
  | _=>rfl
 | _=>rfl
theorem qtg {xs:List D} {k:IntKind} {n:Int} {size:Nat} {y:D} (h0:0<=n) (h:xs[n.toNat]?=some y) (hy:(y.cells.length=size)=True):iaV (.d (.sl xs)) (.d (.i k n)) size none=some (.cp y):=by
 have hy:y.cells.length=size:=by rw [hy];trivial
 simp [iaV,qvf,h0,h,qyc,hy]
theorem qpJ {e:Env}:qN e none=some none:=(rfl)
def qNl (v:V):Option (Option Int):=match v with | .d (.i _ n)=>some (some n)|_=>none
theorem qpB {e:Env} {o:O}:qN e (some o)=qNl (rd e o):=(rfl)
theorem qBY {k:IntKind} {n:Int}:qNl (.d (.i k n))=some (some n):=(rfl)
def qIU (f:Option Int->Option Int->Option V) (a b:Option (Option Int)):Option V:=match a,b with|some a,some b=>f a b|_,_=>none
theorem qnz {x:O} {lo hi:Option O}:qa call (.sliceS x lo hi) st=okS (qIU (qhm (rd st.env x)) (qN st.env lo) (qN st.env hi)) st:=by
 show jq x lo hi st=_
 unfold jq qIU
 cases qN st.env lo with
 | none=>rfl
 | some a=>cases qN st.env hi with
  | none=>rfl
  | some b=>simp only;cases qhm (rd st.env x) a b<;>rfl
theorem qsi {f:Option Int->Option Int->Option V} {a b:Option Int}:qIU f (some a) (some b)=f a b:=(rfl)
theorem qvy {t:List Nat} {lo hi:Option Int} (h1:0<=lo.getD 0) (h2:lo.getD 0<=hi.getD t.length) (h3:hi.getD t.length<=t.length):qhm (.d (.s t)) lo hi=some (.d (.s ((t.take (hi.getD t.length).toNat).drop (lo.getD 0).toNat))):=by
 simp [qhm,qkw,qvf,h1,h2,h3]
end W
/-
  Slices of encoded elements; dictionaries; integers that fit.
-/
namespace W
open Go (IntKind BinOp UnOp)
section
variable {α:Type} {e:α->D} {L:List α} {x:α} {st:St} {pg:Pg}
def slD (e:α->D) (L:List α):D:=match L with | []=>.nil|x::l=>.sl ((x::l).map e)
theorem qBS {H:List Obj}:qrS .lenL (.d (slD e L)) H=some (.d (.i .i64 L.length)):=by
 cases L<;>simp [slD,qrS]
theorem qEU {k:IntKind} {n:Int} {size:Nat} (he:∀x,(e x).cells.length=size) (h0:0<=n) (h:L[n.toNat]?=some x):iaV (.d (slD e L)) (.d (.i k n)) size none=some (.cp (e x)):=by
 cases L with
 | nil=>simp at h
 | cons y l=>
  refine qtg h0 ?_ (by simp [he])
  rw [List.getElem?_map,h];rfl
end
theorem qwX {x:Int} (h1:-9223372036854775808<=x) (h2:x<=9223372036854775807):wr .i64 x=x:=by
 cases x with
 | ofNat a=>simp only [wr,qqX,qyj];rw [decide_eq_true (by rw [Int.ofNat_eq_natCast] at h2;omega)];rfl
 | negSucc a=>simp only [wr,qvs,qyj];rw [decide_eq_true (by omega)];rfl
end W
/-
  What arguments read as, kind by kind.
-/
namespace W
open Go (World Value Addr IntKind Program TypeId FuncId Func DataW MemPlace TypeDesc Lit)
theorem z4 {n a b:Nat} (h:look ((List.range n).map fun i=>(i,i)) a=some b):a=b:=by
 have key:∀(l:List Nat),look (l.map fun i=>(i,i)) a=some b->a=b:=by
  intro l
  induction l with
  | nil=>intro h;cases h
  | cons x l ih=>
   intro h
   simp only [List.map_cons,look,qOx] at h
   split at h
   ·rename_i hb
    cases h
    exact qOz hb
   ·exact ih h
 exact key _ h
variable {P:Program} {t e:TypeId} {x:D}
theorem qyF {k:IntKind} (hu:P.underlying t=some (.int k)) (h:Arg P t x):∃z,x=.i k z/\(Lit.int k z).wf=true:=by
 obtain ⟨n,xs,ht,rfl⟩:=h
 cases n with
 | zero=>exact ht.elim
 | succ n=>
  simp only [Ty,hu] at ht
  obtain ⟨z,rfl,hw⟩:=ht
  exact ⟨z,by simp [qcB,hu,elD],hw⟩
inductive SlD {α:Type} (e:α->D):D->List α->Prop
 | nil:SlD e .nil []
 | sl (L:List α):SlD e (.sl (L.map e)) L
theorem SlD.len {α:Type} {e:α->D} {x:D} {L:List α} (h:SlD e x L) {H:List Obj}:qrS .lenL (.d x) H=some (.d (.i .i64 L.length)):=by
 cases h with
 | nil=>rfl
 | sl=>simp [qrS]
end W
/-
  Tables of the library, as the rows list them.
-/
namespace W
def qeZ:D:=.agg [.i .u8 0,.i .u8 1,.i .u8 28,.i .u8 2,.i .u8 29,.i .u8 14,.i .u8 24,.i .u8 3,.i .u8 30,.i .u8 22,.i .u8 20,.i .u8 15,.i .u8 25,.i .u8 17,.i .u8 4,.i .u8 8,.i .u8 31,.i .u8 27,.i .u8 13,.i .u8 23,.i .u8 21,.i .u8 19,.i .u8 16,.i .u8 7,.i .u8 26,.i .u8 12,.i .u8 18,.i .u8 6,.i .u8 11,.i .u8 5,.i .u8 10,.i .u8 9]
def qff:D:=.agg [.i .u8 0,.i .u8 1,.i .u8 56,.i .u8 2,.i .u8 57,.i .u8 49,.i .u8 28,.i .u8 3,.i .u8 61,.i .u8 58,.i .u8 42,.i .u8 50,.i .u8 38,.i .u8 29,.i .u8 17,.i .u8 4,.i .u8 62,.i .u8 47,.i .u8 59,.i .u8 36,.i .u8 45,.i .u8 43,.i .u8 51,.i .u8 22,.i .u8 53,.i .u8 39,.i .u8 33,.i .u8 30,.i .u8 24,.i .u8 18,.i .u8 12,.i .u8 5,.i .u8 63,.i .u8 55,.i .u8 48,.i .u8 27,.i .u8 60,.i .u8 41,.i .u8 37,.i .u8 16,.i .u8 46,.i .u8 35,.i .u8 44,.i .u8 21,.i .u8 52,.i .u8 32,.i .u8 23,.i .u8 11,.i .u8 54,.i .u8 26,.i .u8 40,.i .u8 15,.i .u8 34,.i .u8 20,.i .u8 31,.i .u8 10,.i .u8 25,.i .u8 14,.i .u8 19,.i .u8 9,.i .u8 13,.i .u8 8,.i .u8 7,.i .u8 6]
def qbO:D:=.agg [.i .u64 1,.i .u64 10,.i .u64 100,.i .u64 1000,.i .u64 10000,.i .u64 100000,.i .u64 1000000,.i .u64 10000000,.i .u64 100000000,.i .u64 1000000000,.i .u64 10000000000,.i .u64 100000000000,.i .u64 1000000000000,.i .u64 10000000000000,.i .u64 100000000000000,.i .u64 1000000000000000,.i .u64 10000000000000000,.i .u64 100000000000000000,.i .u64 1000000000000000000,.i .u64 10000000000000000000]
def qkz:D:=.agg [.i .u8 0,.i .u8 0,.i .u8 0,.i .u8 0,.i .u8 0,.i .u8 0,.i .u8 0,.i .u8 0,.i .u8 0,.i .u8 1,.i .u8 1,.i .u8 1,.i .u8 1,.i .u8 1,.i .u8 0,.i .u8 0,.i .u8 0,.i .u8 0,.i .u8 0,.i .u8 0,.i .u8 0,.i .u8 0,.i .u8 0,.i .u8 0,.i .u8 0,.i .u8 0,.i .u8 0,.i .u8 0,.i .u8 0,.i .u8 0,.i .u8 0,.i .u8 0,.i .u8 1,.i .u8 0,.i .u8 0,.i .u8 0,.i .u8 0,.i .u8 0,.i .u8 0,.i .u8 0,.i .u8 0,.i .u8 0,.i .u8 0,.i .u8 0,.i .u8 0,.i .u8 0,.i .u8 0,.i .u8 0,.i .u8 0,.i .u8 0,.i .u8 0,.i .u8 0,.i .u8 0,.i .u8 0,.i .u8 0,.i .u8 0,.i .u8 0,.i .u8 0,.i .u8 0,.i .u8 0,.i .u8 0,.i .u8 0,.i .u8 0,.i .u8 0,.i .u8 0,.i .u8 0,.i .u8 0,.i .u8 0,.i .u8 0,.i .u8 0,.i .u8 0,.i .u8 0,.i .u8 0,.i .u8 0,.i .u8 0,.i .u8 0,.i .u8 0,.i .u8 0,.i .u8 0,.i .u8 0,.i .u8 0,.i .u8 0,.i .u8 0,.i .u8 0,.i .u8 0,.i .u8 0,.i .u8 0,.i .u8 0,.i .u8 0,.i .u8 0,.i .u8 0,.i .u8 0,.i .u8 0,.i .u8 0,.i .u8 0,.i .u8 0,.i .u8 0,.i .u8 0,.i .u8 0,.i .u8 0,.i .u8 0,.i .u8 0,.i .u8 0,.i .u8 0,.i .u8 0,.i .u8 0,.i .u8 0,.i .u8 0,.i .u8 0,.i .u8 0,.i .u8 0,.i .u8 0,.i .u8 0,.i .u8 0,.i .u8 0,.i .u8 0,.i .u8 0,.i .u8 0,.i .u8 0,.i .u8 0,.i .u8 0,.i .u8 0,.i .u8 0,.i .u8 0,.i .u8 0,.i .u8 0,.i .u8 0,.i .u8 0,.i .u8 0,.i .u8 0,.i .u8 0,.i .u8 0,.i .u8 0,.i .u8 0,.i .u8 0,.i .u8 0,.i .u8 0,.i .u8 0,.i .u8 0,.i .u8 0,.i .u8 0,.i .u8 0,.i .u8 0,.i .u8 0,.i .u8 0,.i .u8 0,.i .u8 0,.i .u8 0,.i .u8 0,.i .u8 0,.i .u8 0,.i .u8 0,.i .u8 0,.i .u8 0,.i .u8 0,.i .u8 0,.i .u8 0,.i .u8 0,.i .u8 0,.i .u8 0,.i .u8 0,.i .u8 0,.i .u8 0,.i .u8 0,.i .u8 0,.i .u8 0,.i .u8 0,.i .u8 0,.i .u8 0,.i .u8 0,.i .u8 0,.i .u8 0,.i .u8 0,.i .u8 0,.i .u8 0,.i .u8 0,.i .u8 0,.i .u8 0,.i .u8 0,.i .u8 0,.i .u8 0,.i .u8 0,.i .u8 0,.i .u8 0,.i .u8 0,.i .u8 0,.i .u8 0,.i .u8 0,.i .u8 0,.i .u8 0,.i .u8 0,.i .u8 0,.i .u8 0,.i .u8 0,.i .u8 0,.i .u8 0,.i .u8 0,.i .u8 0,.i .u8 0,.i .u8 0,.i .u8 0,.i .u8 0,.i .u8 0,.i .u8 0,.i .u8 0,.i .u8 0,.i .u8 0,.i .u8 0,.i .u8 0,.i .u8 0,.i .u8 0,.i .u8 0,.i .u8 0,.i .u8 0,.i .u8 0,.i .u8 0,.i .u8 0,.i .u8 0,.i .u8 0,.i .u8 0,.i .u8 0,.i .u8 0,.i .u8 0,.i .u8 0,.i .u8 0,.i .u8 0,.i .u8 0,.i .u8 0,.i .u8 0,.i .u8 0,.i .u8 0,.i .u8 0,.i .u8 0,.i .u8 0,.i .u8 0,.i .u8 0,.i .u8 0,.i .u8 0,.i .u8 0,.i .u8 0,.i .u8 0,.i .u8 0,.i .u8 0,.i .u8 0,.i .u8 0,.i .u8 0,.i .u8 0,.i .u8 0,.i .u8 0,.i .u8 0,.i .u8 0,.i .u8 0,.i .u8 0,.i .u8 0,.i .u8 0,.i .u8 0]
end W
/-
  Tables that the rows list are what the small semantics reads.
-/
namespace W
open Go (World Value Addr IntKind Program TypeId FuncId Func DataW MemPlace Lit)
theorem qzJ {W:World} {b i:Nat} {v:Value} (h:W.cell? ⟨b,i,none⟩=some v):i<(g0 W).pub b:=by
 show i<(match W.heap[b]? with|some (.cells c _ _)=>c.size|_=>0)
 simp only [World.cell?] at h
 split at h
 ·rename_i c t f hb
  rw [hb]
  simp only [Option.isSome_none,qOF,if_false] at h
  exact (Array.getElem?_eq_some_iff.1 h).1
 ·cases h
theorem quE {pub:Nat->Nat} {w:World} (k:IntKind):∀zs:List Int,RepDL pub w (zs.map (D.i k)) (zs.map fun z=>Value.int k z)
 | []=>.nil
 | z::zs=>.cons _ _ _ _ (.i k z) (quE k zs)
theorem qso {P:Program} {W:World} {name:String} {k:IntKind} {zs:List Int} {g:Nat} {t e:TypeId} {n:Nat}
  (hg:P.globalNamed name=some g) (hty:(P.globals[g]?).map (·.type)=some t) (ht:P.underlying t=some (.array n e)) (he:P.underlying e=some (.int k)) (hce:P.cellsOf e=1) (hct:P.cellsOf t=n) :
  ∀{laid:List (String × DataW Unit)} {ps:List MemPlace},DataW.LaidVars P W laid ps->(name,Go.Lib.tabData k zs) ∈ laid->Go.Lib.TabIs P W name k zs
 | [],_,_,hm=>by cases hm
 | (nm,d)::rest,ps,h,hm=>by
  obtain ⟨g',t',cs,fuel,p,q,hg',ht',hvar,hd,hrest,_⟩:=h
  rcases List.mem_cons.1 hm with e|hm
  ·cases e
   obtain rfl:=Option.some.inj (hg.symm.trans hg')
   obtain rfl:=Option.some.inj (hty.symm.trans ht')
   unfold Go.Lib.TabIs
   rw [hvar,<- Go.Lib.cells_of_tab ht he hce hct hd]
  ·exact qso hg hty ht he hce hct hrest hm
theorem qzj {M:Maps} {P:Program} {W:World} (h2:qE1 M (g0 W) W) (h:∀n x,look M.gl n=some x->∃name k zs,P.globalNamed name=some n/\x=.agg (zs.map (D.i k))/\zs≠[]/\Go.Lib.TabIs P W name k zs):GlOk M (g0 W) W:=by
 refine ⟨?_,h2⟩
 intro n x hn
 obtain ⟨name,k,zs,hg,rfl,hne,ht⟩:=h n x hn
 refine ⟨zs.map fun z=>Value.int k z,quE k zs,fun j v hj=>?_,?_⟩
 ·have hlt:j<zs.length:=by
   have:=(List.getElem?_eq_some_iff.1 hj).1
   simpa using this
  rw [Nat.zero_add,ht.cell hg j hlt]
  have:(zs.map fun z=>Value.int k z)[j]?=some (.int k (zs.getD j 0)):=by simp [List.getD,hlt]
  rw [this] at hj
  exact hj
 ·have hpos:0<zs.length:=by cases zs with|nil=>exact absurd rfl hne|cons=>simp
  have:=qzJ (ht.cell hg (zs.length - 1) (by omega))
  simp only [List.length_map]
  omega
end W
/- A program of which parts that a run doesn't reach are cut away: what it gives, the whole one gives. -/
namespace W
open Go (World Value Program FuncId)
inductive Cut:C->C->Prop where
 | stuck (c:C):Cut c .stuck
 | skip:Cut .skip .skip
 | ops (l):Cut (.ops l) (.ops l)
 | opsD (l):Cut (.opsD l) (.opsD l)
 | seq {a a' b b':C} (h:Cut a a') (h':Cut b b'):Cut (.seq a b) (.seq a' b')
 | cond {a a' b b':C} (o) (h:Cut a a') (h':Cut b b'):Cut (.cond o a b) (.cond o a' b')
 | block {a a':C} (id live) (h:Cut a a'):Cut (.block id live a) (.block id live a')
 | loop {a a':C} (live) (h:Cut a a'):Cut (.loop live a) (.loop live a')
 | exit (id):Cut (.exit id) (.exit id)
 | ret:Cut .ret .ret
 | rangeB {a a' b b':C} (k l f p0 p1 live) (h:Cut a a') (h':Cut b b'):Cut (.rangeB k l f p0 p1 live a b) (.rangeB k l f p0 p1 live a' b')
 | rangeZ (k f live):Cut (.rangeZ k f live) (.rangeZ k f live)
theorem Cut.refl:∀c,Cut c c
 | .skip=>.skip
 | .ops l=>.ops l
 | .opsD l=>.opsD l
 | .seq a b=>.seq (refl a) (refl b)
 | .cond o a b=>.cond o (refl a) (refl b)
 | .block i l a=>.block i l (refl a)
 | .loop l a=>.loop l (refl a)
 | .exit i=>.exit i
 | .ret=>.ret
 | .stuck=>.stuck _
 | .rangeB k l f p0 p1 live a b=>.rangeB k l f p0 p1 live (refl a) (refl b)
 | .rangeZ k f live=>.rangeZ k f live
def ExCut (e e':C->St->Option (Ex × St)):Prop:=∀c' c,Cut c' c->∀st x,e c st=some x->e' c' st=some x
theorem ExCut.le {e e':C->St->Option (Ex × St)} (h:ExCut e e'):qrQ e e':=fun c st x=>h c c (.refl c) st x
theorem qBH {c c':Call} {e e':C->St->Option (Ex × St)} (hc:yU c c') (he:ExCut e e') {x' x:C} (hx:Cut x' x) {st:St} {y:Ex × St} (h:step c e x st=some y):step c' e' x' st=some y:=by
 cases hx with
 | stuck=>cases h
 | skip=>exact h
 | ops l=>exact qeM hc l h
 | opsD l=>exact qfl hc l h
 | seq h1 h2=>
  simp only [step] at h |-
  rename_i a a' b b'
  cases ha:e a' st with
  | none=>rw [ha] at h;cases h
  | some p=>
   rw [ha] at h
   rw [he _ _ h1 _ _ ha]
   obtain ⟨ex,st1⟩:=p
   cases ex with
   | nrm=>exact he _ _ h2 _ _ h
   | _=>exact h
 | cond o h1 h2=>
  simp only [step] at h |-
  split at h
  ·rename_i hv;(try simp only [hv]);exact he _ _ h1 _ _ h
  ·rename_i hv;(try simp only [hv]);exact he _ _ h2 _ _ h
  ·cases h
 | block id live h1=>
  simp only [step] at h |-
  rename_i a a'
  cases ha:e a' st with
  | none=>rw [ha] at h;cases h
  | some p=>rw [ha] at h;rw [he _ _ h1 _ _ ha];exact h
 | loop live h1=>
  simp only [step] at h |-
  rename_i a a'
  cases ha:e a' {st with env:=restrict live st.env} with
  | none=>rw [ha] at h;cases h
  | some p=>
   rw [ha] at h
   rw [he _ _ h1 _ _ ha]
   obtain ⟨ex,st1⟩:=p
   cases ex with
   | nrm=>exact he _ _ (.loop live h1) _ _ h
   | _=>exact h
 | exit id=>exact h
 | ret=>exact h
 | rangeB k l f p0 p1 live h1 h2=>
  simp only [step] at h |-
  split at h
  ·rename_i k' c' hf
   (try simp only [hf])
   rw [qOx] at h |-
   split at h
   ·rename_i hk
    rw [if_pos hk]
    split at h
    ·rename_i n hn;(try simp only [hn]);exact qiT (he _ _ h1) (he _ _ h2) n h
    ·cases h
   ·cases h
  ·cases h
 | rangeZ k f live=>exact qsV hc he.le (x:=.rangeZ k f live) h
def qvN (fn0 fn:Fn):Prop:=∃c,fn={fn0 with body:=c}/\Cut fn0.body c
structure PgCut (pg' pg:Pg):Prop where
 some:∀i fn,pg.fn i=some fn->∃fn0,pg'.fn i=some fn0/\qvN fn0 fn
 none:∀i,pg.fn i=none->pg'.fn i=none
 ext:pg'.ext=pg.ext
theorem qm3 {pg' pg:Pg} (hp:PgCut pg' pg) {e e':C->St->Option (Ex × St)} (he:ExCut e e') {fn:Fn} {H:List Obj} {h:Nat} {vs:List V} {v:V} {st:St} {r:Cr} (hh:handle pg e fn H h vs v st=some r):handle pg' e' fn H h vs v st=some r:=by
 obtain ⟨hf,d,st',h1,h2,h3,h6,h4,h5⟩:=qf0 hh
 obtain ⟨hf0,g1,c,rfl,g2⟩:=hp.some _ _ h1
 have h2':hf0.rcv=_:=h2
 have h3':hf0.np=_:=h3
 have h6':hf0.res=_:=h6
 unfold handle
 simp only [g1,h2',h3',h6',qpW,List.isEmpty_nil,Bool.and_self,cond_true]
 rcases h4 with h4|h4<;>simp only [he _ _ g2 _ _ h4,h5]
theorem qtb {pg' pg:Pg} (hp:PgCut pg' pg) {e e':C->St->Option (Ex × St)} (he:ExCut e e') {fn:Fn} {H:List Obj} {t:Nat} {rest:C} {st:St} {r:Cr} (hh:deferred pg e fn H t rest st=some r):deferred pg' e' fn H t rest st=some r:=by
 obtain ⟨h,first,cap,ex,st',v,h1,h2,h3,h4,h5⟩:=qby hh
 unfold deferred
 simp only [h1,h2,cond_true]
 rcases h5 with ⟨h5|h5,rfl⟩|⟨rfl,h6⟩
 ·subst h5;simp only [he.le _ _ _ h3,qm3 hp he h4]
 ·subst h5;simp only [he.le _ _ _ h3,qm3 hp he h4]
 ·simp only [he.le _ _ _ h3,h6,cond_true,qm3 hp he h4]
theorem qnV {pg' pg:Pg} (hp:PgCut pg' pg) {e e':C->St->Option (Ex × St)} (he:ExCut e e'):yU (qm pg e) (qm pg' e'):=by
 intro i vs H r h
 unfold qm at h |-
 cases hf:pg.fn i with
 | none=>rw [hf] at h;rw [hp.none _ hf,hp.ext];exact h
 | some fn=>
  obtain ⟨fn0,g1,c,rfl,g2⟩:=hp.some _ _ hf
  rw [hf] at h
  rw [g1]
  simp only at h |-
  split at h
  ·rename_i hn
   rw [if_pos hn]
   cases hb:e c {env:=kf 0 vs,H,lo:=H.length} with
   | none=>rw [hb] at h;cases h
   | some p=>
    rw [hb] at h;rw [he _ _ g2 _ _ hb]
    obtain ⟨ex,st⟩:=p
    cases ex with
    | nrm=>
     simp only at h |-
     cases hd:fn0.dfr with
     | none=>rw [hd] at h;exact h
     | some q=>
      obtain ⟨t,rest⟩:=q
      rw [hd] at h
      exact qtb hp he h
    | _=>exact h
  ·cases h
theorem qqz {pg' pg:Pg} (hp:PgCut pg' pg):∀n,ExCut (exec pg n) (exec pg' n)
 | 0=>fun _ _ _ _ _ h=>by simp [exec] at h
 | n+1=>fun c' c hc st x h=>qBH (qnV hp (qqz hp n)) (qqz hp n) hc h
theorem qz8 {pg' pg:Pg} (hp:PgCut pg' pg) (n:Nat):yU (kA pg n) (kA pg' n):=qnV hp (qqz hp n)
def qlR:C->Nat->C × Nat
 | .seq a b,n=>match qlR a (n / 2) with
  | (a',m)=>bif qOC (n % 2) 1 then (match qlR b m with|(b',m')=>(.seq a' b',m')) else (.seq a' .stuck,m)
 | .cond o a b,n=>match (bif qOC (n % 2) 1 then qlR a (n / 2) else (.stuck,n / 2):C × Nat) with
  | (a',m)=>match (bif qOC (m % 2) 1 then qlR b (m / 2) else (.stuck,m / 2):C × Nat) with
   | (b',m')=>(.cond o a' b',m')
 | .block i l a,n=>match qlR a n with|(a',m)=>(.block i l a',m)
 | .loop l a,n=>match qlR a n with|(a',m)=>(.loop l a',m)
 | .rangeB k l f p0 p1 live a b,n=>match qlR a n with
  | (a',m)=>match qlR b m with|(b',m')=>(.rangeB k l f p0 p1 live a' b',m')
 | c,n=>(c,n)
theorem qjU:∀c n,Cut c (qlR c n).1
 | .seq a b,n=>by
  unfold qlR
  have h1:=qjU a (n / 2)
  have h2:=qjU b (qlR a (n / 2)).2
  cases h:qOC (n % 2) 1 with
  | true=>simp only [h,cond_true];exact .seq h1 h2
  | false=>simp only [h,cond_false];exact .seq h1 (.stuck _)
 | .cond o a b,n=>by
  unfold qlR
  have h1:Cut a (bif qOC (n % 2) 1 then qlR a (n / 2) else (.stuck,n / 2):C × Nat).1:=by
   cases h:qOC (n % 2) 1 with
   | true=>exact qjU a _
   | false=>exact .stuck _
  generalize (bif qOC (n % 2) 1 then qlR a (n / 2) else (.stuck,n / 2):C × Nat)=p at h1 |-
  obtain ⟨a',m⟩:=p
  have h2:Cut b (bif qOC (m % 2) 1 then qlR b (m / 2) else (.stuck,m / 2):C × Nat).1:=by
   cases h:qOC (m % 2) 1 with
   | true=>exact qjU b _
   | false=>exact .stuck _
  simp only
  generalize (bif qOC (m % 2) 1 then qlR b (m / 2) else (.stuck,m / 2):C × Nat)=p at h2 |-
  obtain ⟨b',m'⟩:=p
  exact .cond o h1 h2
 | .block i l a,n=>.block i l (qjU a n)
 | .loop l a,n=>.loop l (qjU a n)
 | .rangeB k l f p0 p1 live a b,n=>.rangeB k l f p0 p1 live (qjU a n) (qjU b _)
 | .skip,_=>.skip
 | .ops l,_=>.ops l
 | .opsD l,_=>.opsD l
 | .exit i,_=>.exit i
 | .ret,_=>.ret
 | .stuck,_=>.stuck _
 | .rangeZ k f live,_=>.rangeZ k f live
def qBp (n:Nat) (fn:Fn):Fn:={fn with body:=(qlR fn.body n).1}
theorem qMh (n:Nat) (fn:Fn):qvN fn (qBp n fn):=⟨_,rfl,qjU _ _⟩
def qm0 (P:Program) (M:Maps) (pg:Pg):Prop:=
 ∀f' i,look M.fm f'=some i->∀fn',pg.fn i=some fn'->∃fn A own fn0,P.funcs[f']?=some fn/\(fn.name == "runtime.NumGoroutine")=false/\qcS M P A own fn=some fn0/\qvN fn0 fn'
def j6 (P:Program) (M:Maps) (i:Nat) (fn':Fn):Prop:=∃fn A own fn0,P.funcs[i]?=some fn/\(fn.name == "runtime.NumGoroutine")=false/\qcS M P A own fn=some fn0/\qvN fn0 fn'
theorem qNQ {P:Program} {M:Maps} {i:Nat} {fn':Fn} {fn:Go.Func} (h:P.funcs[i]?=some fn) (A:Ann) (own:Bool) (n:Nat) (hn:(fn.name == "runtime.NumGoroutine")=false) (ht:(qcS M P A own fn).map (qBp n)=some fn'):j6 P M i fn':=by
 obtain ⟨fn0,h1,h2⟩:=Option.map_eq_some_iff.1 ht
 exact ⟨fn,A,own,fn0,h,hn,h1,h2▸qMh n fn0⟩
theorem yl {P:Program} {M:Maps} {i:Nat} {fn':Fn} {fn:Go.Func} {A:Ann} {own:Bool} (h:P.funcs[i]?=some fn) (hn:(fn.name == "runtime.NumGoroutine")=false) (ht:qcS M P A own fn=some fn'):j6 P M i fn':=⟨fn,A,own,fn',h,hn,ht,_,rfl,.refl _⟩
def qvK (n:Nat):List (Nat × Fn)->Option Fn
 | []=>none
 | p::l=>bif qOC n p.1 then some p.2 else qvK n l
theorem qsc {n:Nat} {f:Fn}:∀{l:List (Nat × Fn)},qvK n l=some f->(n,f) ∈ l
 | [],h=>by cases h
 | (k,g)::l,h=>by
  unfold qvK at h
  rw [qOx] at h
  split at h
  ·rename_i hb
   cases h
   obtain rfl:=qOz hb
   exact .head _
  ·exact .tail _ (qsc h)
inductive RowsOk (P:Program) (M:Maps):List (Nat × Fn)->Prop
 | nil:RowsOk P M []
 | cons {i:Nat} {f:Fn} {T:List (Nat × Fn)} (h:j6 P M i f) (t:RowsOk P M T):RowsOk P M ((i,f)::T)
theorem RowsOk.all {P:Program} {M:Maps} {T:List (Nat × Fn)} (h:RowsOk P M T):∀p ∈ T,j6 P M p.1 p.2:=by
 induction h with
 | nil=>intro p hp;cases hp
 | cons h t ih=>
  intro p hp
  cases hp with
  | head=>exact h
  | tail _ hp=>exact ih p hp
theorem qwP {P:Program} {M:Maps} {pg:Pg} {T:List (Nat × Fn)} (hT:∀p ∈ T,j6 P M p.1 p.2) (hp:∀i fn,pg.fn i=some fn->qvK i T=some fn) (hid:∀f' i,look M.fm f'=some i->f'=i):qm0 P M pg:=fun f' i hl fn' hf=>by
 obtain rfl:=hid _ _ hl
 exact hT _ (qsc (hp _ _ hf))
theorem whole {P:Program} {M:Maps} {pg:Pg} (hT:qm0 P M pg) (hid:∀f' i,look M.fm f'=some i->f'=i):∃pg',qM8 P M pg'/\PgCut pg' pg:=by
 have key:∀i fn,pg.fn i=some fn->∃fn0,qvN fn0 fn/\∀f',look M.fm f'=some i->∃fn A own,P.funcs[f']?=some fn/\(fn.name == "runtime.NumGoroutine")=false/\qcS M P A own fn=some fn0:=fun i fn h=>by
  cases hl:look M.fm i with
  | none=>exact ⟨fn,⟨_,rfl,.refl _⟩,fun f' hf=>by rw [hid _ _ hf,hl] at hf;cases hf⟩
  | some j=>
   have e:=hid _ _ hl
   subst e
   obtain ⟨fn1,A,own,fn0,h1,h2,h3,h4⟩:=hT _ _ hl _ h
   exact ⟨fn0,h4,fun f' hf=>by rw [hid _ _ hf];exact ⟨fn1,A,own,h1,h2,h3⟩⟩
 refine ⟨⟨fun i=>match h:pg.fn i with|none=>none|some fn=>some (key i fn h).choose,pg.ext⟩,?_,?_,?_,rfl⟩
 ·intro f' i hl fn' hf
  simp only at hf
  split at hf
  ·cases hf
  ·rename_i fn h
   cases hf
   exact (key i fn h).choose_spec.2 f' hl
 ·intro i fn h
  refine ⟨(key i fn h).choose,?_,(key i fn h).choose_spec.1⟩
  simp only
  split
  ·rename_i h';rw [h] at h';cases h'
  ·rename_i fn2 h'
   rw [h] at h';cases h';rfl
 ·intro i h
  simp only
  split
  ·rfl
  ·rename_i fn2 h';rw [h] at h';cases h'
theorem quf {P:Program} {M:Maps} {pg:Pg} (hm:P.follows .mixedOrders=true) (hT:qm0 P M pg) (hB:qui P M) (hid:∀f' i,look M.fm f'=some i->f'=i) (hx:qn P M pg.ext) (hxlo:qu pg.ext) (n:Nat):qn P M (kA pg n):=by
 obtain ⟨pg',h1,h2⟩:=whole hT hid
 have hs:=sound hm ⟨h1,hB⟩ (by rw [h2.ext];exact hx) (by rw [h2.ext];exact hxlo) n
 intro i vs H r h
 exact hs i vs H r (qz8 h2 n i vs H r h)
end W
