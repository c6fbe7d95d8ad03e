/-
  FrontExports, part 5.
-/
import Derived.Lib.LaidTab
import Derived.Test.YtanpgonfloohoaaGreatDoorX4
/-
  Equations for walking code whose data are terms: memory, slices, texts, maps.
-/
set_option linter.unusedSimpArgs false
set_option linter.unusedVariables false
open Bool renaming cond_eq_ite→qM3,and_eq_true→qM4,false_eq_true→qNa,not_true→qNd,and_self→qNf
open Nat renaming eq_of_beq_eq_true→qM5,le_refl→qM7,beq→qM8,zero_add→qNe
open Option renaming bind_eq_some_iff→qM6,bind_eq_bind→qM9,pure_def→qNb,map_some→qNc
namespace W
open Go (IntKind BinOp UnOp)
variable {pg:Pg} {call:Call} {st:St} {p:Prop} [Decidable p]
theorem qx1 {c:D}:V.ref (.d c)=0:=(rfl)
def faV (v:V) (off:Nat) (l:L):Option V:=
 match v with
 | .ptr id o=>some (.ptr id (o+off))
 | .lp s o=>some (.lp s (o+off))
 | .cp (.agg cs)=>match D.part off l cs with
  | some y=>if l.agg || y.one then some (.cp y) else none
  | none=>none
 | _=>none
theorem qjH {x:O} {off:Nat} {l:L}:qa call (.fieldAddr x off l) st=okS (faV (rd st.env x) off l) st:=by
 show qW x off l st=_
 unfold qW faV
 cases rd st.env x with
 | cp w=>
  cases w with
  | agg cs=>
   simp only
   cases D.part off l cs with
   | none=>rfl
   | some y=>simp only;split<;>rfl
  | _=>rfl
 | _=>rfl
theorem qsO {i o off:Nat} {l:L}:faV (.ptr i o) off l=some (.ptr i (o+off)):=(rfl)
theorem qCm {i o off:Nat} {l:L}:faV (.lp i o) off l=some (.lp i (o+off)):=(rfl)
theorem qKU {x:Bool}:D.one (.b x)=true:=(rfl)
theorem qLG {k:IntKind} {x:Int}:D.one (.i k x)=true:=(rfl)
theorem qFA {x:List Nat}:D.one (.s x)=true:=(rfl)
theorem qIL {x:List D}:D.one (.sl x)=true:=(rfl)
theorem qEw:D.one .nil=true:=(rfl)
def qxL (l:L) (off:Nat) (o:Option Obj):Option V:=
 match o with
 | some (.cells cs)=>V.part off l cs
 | some (.row _ cs)=>V.part off l cs
 | _=>none
def qh3 (sl:Option Nat) (l:L) (st:St) (v:V):Option V:=
 bif !qD sl v then none else qC l st v
theorem qmJ {sl:Option Nat} {l:L} {a:O}:qa call (.load false sl l a) st=okS (qh3 sl l st (rd st.env a)) st:=by
 show zD false sl l a st=_
 unfold zD qh3
 cases qD sl (rd st.env a) with
 | false=>rfl
 | true=>simp only [qNd,cond_false];cases qC l st (rd st.env a)<;>rfl
theorem qoD {l:L} {i o:Nat}:qh3 none l st (.ptr i o)=qxL l o (st.H[i]?):=by
 simp only [qh3,qD,qNd,cond_false,qC,qxL]
 all_goals rfl
theorem qtN {o:Nat} {cs:List V}:qxL ⟨1,false⟩ o (some (.cells cs))=(cs[o]?).map zB:=by simp [qxL,V.part]
def qwQ (l:L) (o:Nat) (v:V):Option V:=
 match v with
 | .box cs=>V.part o l cs
 | _=>none
theorem qp7 {l:L} {s o:Nat}:qh3 (some s) l st (.lp s o)=qwQ l o (get s st.env):=by
 simp only [qh3,qD,qxO,decide_true,qNd,cond_false,qC,qwQ]
 all_goals rfl
theorem qBD {o:Nat} {cs:List V}:qwQ ⟨1,false⟩ o (.box cs)=(cs[o]?).map zB:=by simp [qwQ,V.part]
theorem qxw {o n:Nat} {cs:List V} (h:(o+n≤cs.length)=True):qwQ ⟨n,true⟩ o (.box cs)=some (qfU (((cs.drop o).take n).map zB)):=by simp [qwQ,V.part,h]
theorem qwl {n:Bool}:qh3 none ⟨1,false⟩ st (.cp (.b n))=some (.d (.b n)):=(rfl)
theorem qmy {n:List Nat}:qh3 none ⟨1,false⟩ st (.cp (.s n))=some (.d (.s n)):=(rfl)
theorem qnM {cs:List D} {n:Nat} (h:(cs.length=n)=True):qh3 none ⟨n,true⟩ st (.cp (.agg cs))=some (.d (.agg cs)):=by
 simp [qh3,qD,qC,h]
def ldC (l:L) (st:St) (v:V):Option V:=match v with | .cp x=>qh3 none l st (.cp x)|_=>none
theorem qGs {l:L} {x:D}:ldC l st (.cp x)=qh3 none l st (.cp x):=(rfl)
theorem qur {l:L} {a:O}:qa call (.loadC l a) st=okS (ldC l st (rd st.env a)) st:=by
 show qcn l a st=_
 unfold qcn
 cases rd st.env a with
 | cp x=>
  simp only [ldC,qh3,qD,cond_true,qNd,cond_false]
  cases qC l st (.cp x)<;>rfl
 | _=>rfl
def qtu (sl:Option Nat) (l:L) (x v:V) (st:St):Option Or:=
 match sl,v with
 | none,.ptr i o=>(match st.H[i]? with
  | some (.cells cs)=>if x.cells.length=l.n && V.ones x.cells then (match kD cs o x.cells with
   | some cs'=>some ⟨false,false,.undef,{st with H:=qN st.H i (.cells cs'),lo:=min st.lo i}⟩
   | none=>none) else none
  | some (.row k cs)=>if x.cells.length=l.n && V.ones x.cells && V.ok.oks x.cells then (match kD cs o x.cells with
   | some cs'=>some ⟨false,false,.undef,{st with H:=qN st.H i (.row k cs'),lo:=min st.lo i}⟩
   | none=>none) else none
  | _=>none)
 | some s,.lp s' o=>bif qM8 s s' then (match get s' st.env with
  | .box cs=>if x.cells.length=l.n && V.ones x.cells then (match kD cs o x.cells with
   | some cs'=>some ⟨false,true,.undef,{st with env:=(s',.box cs')::st.env}⟩
   | none=>none) else none
  | _=>none) else none
 | _,_=>none
theorem qpb {sl:Option Nat} {l:L} {a x:O}:qa call (.store sl l a x) st=qtu sl l (rd st.env x) (rd st.env a) {st with env:=spent x st.env}:=by
 show yU sl l a x st=_
 unfold yU qtu
 cases rd st.env a with
 | ptr i o=>
  cases sl with
  | none=>
   simp only [qD,qNd,cond_false,yH]
   cases st.H[i]? with
   | none=>rfl
   | some ob=>
    cases ob with
    | cells cs=>
     simp only
     cases (decide ((rd st.env x).cells.length=l.n) && V.ones (rd st.env x).cells) with
     | true=>simp only [if_true];cases kD cs o (rd st.env x).cells<;>rfl
     | false=>rfl
    | row k cs=>
     simp only
     cases (decide ((rd st.env x).cells.length=l.n) && V.ones (rd st.env x).cells && V.ok.oks (rd st.env x).cells) with
     | true=>simp only [if_true];cases kD cs o (rd st.env x).cells<;>rfl
     | false=>rfl
    | _=>rfl
  | some s=>simp [qD]
 | lp s o=>
  cases sl with
  | none=>simp [qD]
  | some s'=>
   simp only [qD,yH]
   cases qM8 s' s with
   | false=>rfl
   | true=>
    simp only [qNd,cond_false,cond_true]
    cases get s (spent x st.env) with
    | box cs=>
     simp only
     cases (decide ((rd st.env x).cells.length=l.n) && V.ones (rd st.env x).cells) with
     | true=>simp only [if_true];cases kD cs o (rd st.env x).cells<;>rfl
     | false=>rfl
    | _=>rfl
 | _=>cases sl<;>first|rfl|simp [qD,yH]
def qsK (l:L) (x:V) (o s:Nat) (st:St) (b:V):Option Or:=
 match b with
 | .box cs=>if x.cells.length=l.n && V.ones x.cells then (match kD cs o x.cells with
   | some cs'=>some ⟨false,true,.undef,{st with env:=(s,.box cs')::st.env}⟩
   | none=>none) else none
 | _=>none
theorem qst {l:L} {x:V} {s o:Nat}:qtu (some s) l x (.lp s o) st=qsK l x o s st (get s st.env):=by
 simp only [qtu,qxO,decide_true,cond_true,qsK]
def qxi (s:Nat) (st:St) (r:Option (List V)):Option Or:=
 match r with
 | some cs'=>some ⟨false,true,.undef,{st with env:=(s,.box cs')::st.env}⟩
 | none=>none
theorem qqr {l:L} {x:V} {s o:Nat} {cs:List V} (h1:(x.cells.length=l.n)=True) (h2:V.ones x.cells=true):qsK l x o s st (.box cs)=qxi s st (kD cs o x.cells):=by
 simp only [qsK,h1,h2,decide_true,qNf,if_true,qxi]
theorem qpr {s:Nat} {cs:List V}:qxi s st (some cs)=some ⟨false,true,.undef,{st with env:=(s,.box cs)::st.env}⟩:=(rfl)
theorem qsn {cs:List D}:V.cells (.d (.agg cs))=cs.map .d:=(rfl)
theorem qt3:V.ones []=true:=(rfl)
theorem qr3 {v:V} {vs:List V}:V.ones (v::vs)=(v.one && V.ones vs):=(rfl)
theorem qBI {x:D}:V.one (.d x)=x.one:=(rfl)
theorem qnJ {zero:List D}:qa call (.alloc true zero) st=some ⟨false,true,.box (zero.map .d),st⟩:=(rfl)
def qK2 (cs:List V) (r:Option (List D)):V:=match r with|some ds=>.d (.agg ds)|none=>.agg cs
theorem qqg {cs:List V}:qfU cs=qK2 cs (jX cs):=(rfl)
theorem qoR {cs:List V} {ds:List D}:qK2 cs (some ds)=.d (.agg ds):=(rfl)
def qFJ (x:D) (r:Option (List D)):Option (List D):=match r with|some r=>some (x::r)|none=>none
theorem qmN {x:D} {r:List D}:qFJ x (some r)=some (x::r):=(rfl)
theorem qrb:jX []=some []:=(rfl)
theorem qwd {x:D} {l:List V}:jX (.d x::l)=qFJ x (jX l):=(rfl)
def slO (r:Option (List D)):Option V:=match r with|some xs=>if D.wfs xs then some (.osl xs) else none|none=>none
theorem qoo {zero:D} {n:Nat} {ps:List (Nat × O)}:qa call (.buildSlice zero n ps) st=okS (slO (qdW zero.cells.length (List.replicate n zero) (ps.map fun (j,x)=>(j,rd st.env x)))) st:=by
 show kc zero n ps st=_
 unfold kc slO
 cases qdW zero.cells.length (List.replicate n zero) (ps.map fun (j,x)=>(j,rd st.env x)) with
 | none=>rfl
 | some xs=>simp only;split<;>rfl
theorem qzr {z:Nat} {es:List D}:qdW z es []=some es:=(rfl)
theorem qwq {z j:Nat} {es:List D} {x:D} {r:List (Nat × V)} (h:(x.cells.length=z)=True) (hj:(j<es.length)=True):qdW z es ((j,.d x)::r)=qdW z (es.set j x) r:=by
 simp [qdW,h,hj]
theorem qAH {xs:List D} (h:D.wfs xs=true):slO (some xs)=some (.osl xs):=by simp [slO,h]
theorem qDl:D.wfs []=true:=(rfl)
theorem qAI {x:D} {l:List D}:D.wfs (x::l)=(x.wf && D.wfs l):=(rfl)
theorem qJf {x:D} (h:x.one=true):x.wf=true:=by cases x<;>first|rfl|cases h
theorem qH1 {cs:List D}:D.wf (.agg cs)=D.ones cs:=(rfl)
theorem qyC:D.ones []=true:=(rfl)
theorem qwe {x:D} {l:List D}:D.ones (x::l)=(x.one && D.ones l):=(rfl)
theorem qBL {x:Bool}:D.cells (.b x)=[.b x]:=(rfl)
theorem qAm {x:List Nat}:D.cells (.s x)=[.s x]:=(rfl)
theorem qwo {cs:List D}:D.cells (.agg cs)=cs:=(rfl)
def iaV (v i:V) (size:Nat) (arr:Option Nat):Option V:=
 match i with
 | .d (.i _ n)=>match arr with
  | some len=>bif leI 0 n && !leI len n then (match v with
    | .ptr id o=>some (.ptr id (o+n.toNat * size))
    | .lp s o=>some (.lp s (o+n.toNat * size))
    | .cp (.agg cs)=>bif qM8 size 1 then (match cs[n.toNat]? with
     | some y=>if y.one then some (.cp y) else none
     | none=>none) else none
    | _=>none) else none
  | none=>bif leI 0 n then (match v with
    | .d (.sl xs)=>(match xs[n.toNat]? with
     | some y=>bif qM8 y.cells.length size then some (.cp y) else none
     | none=>none)
    | .rs id o len _=>bif !leI len n && qM8 size 1 then some (.ptr id (o+n.toNat)) else none
    | .row id sz len=>bif !leI len n && qM8 size sz then some (.ptr id (n.toNat * sz)) else none
    | _=>none) else none
 | _=>none
theorem qjF {x i:O} {size:Nat} {arr:Option Nat}:qa call (.indexAddr x i size arr) st=okS (iaV (rd st.env x) (rd st.env i) size arr) st:=by
 show qX x i size arr st=_
 unfold qX iaV
 cases rd st.env i with
 | d w=>
  cases w with
  | i k n=>
   cases arr with
   | some len=>
    simp only [jp]
    cases leI 0 n && !leI len n with
    | false=>rfl
    | true=>
     simp only [cond_true]
     cases rd st.env x with
     | cp w=>
      cases w with
      | agg cs=>
       simp only
       cases qM8 size 1 with
       | false=>rfl
       | true=>
        simp only [cond_true]
        cases cs[n.toNat]? with
        | none=>rfl
        | some y=>simp only;split<;>rfl
      | _=>rfl
     | _=>rfl
   | none=>
    simp only [zM]
    cases leI 0 n with
    | false=>rfl
    | true=>
     simp only [cond_true]
     cases rd st.env x with
     | d u=>
      cases u with
      | sl xs=>
       simp only
       cases xs[n.toNat]? with
       | none=>rfl
       | some y=>simp only;cases qM8 y.cells.length size<;>rfl
      | _=>rfl
     | rs id o len c=>simp only;cases !leI len n && qM8 size 1<;>rfl
     | row id sz len=>simp only;cases !leI len n && qM8 size sz<;>rfl
     | _=>rfl
  | _=>rfl
 | _=>rfl
theorem jR {xs:List D} {k:IntKind} {n:Int} {size:Nat} {y:D} (h0:0≤n) (h:xs[n.toNat]?=some y) (hy:(y.cells.length=size)=True):iaV (.d (.sl xs)) (.d (.i k n)) size none=some (.cp y):=by
 have hy:y.cells.length=size:=by rw [hy];trivial
 simp [iaV,qp1,h0,h,qxO,hy]
theorem qha {e:Env}:qO e none=some none:=(rfl)
def qLb (v:V):Option (Option Int):=match v with | .d (.i _ n)=>some (some n)|_=>none
theorem qg5 {e:Env} {o:O}:qO e (some o)=qLb (rd e o):=(rfl)
theorem qtW {k:IntKind} {n:Int}:qLb (.d (.i k n))=some (some n):=(rfl)
def qGy (f:Option Int→Option Int→Option V) (a b:Option (Option Int)):Option V:=match a,b with|some a,some b=>f a b|_,_=>none
theorem qeo {x:O} {lo hi:Option O}:qa call (.sliceS x lo hi) st=okS (qGy (qdE (rd st.env x)) (qO st.env lo) (qO st.env hi)) st:=by
 show jz x lo hi st=_
 unfold jz qGy
 cases qO st.env lo with
 | none=>rfl
 | some a=>cases qO st.env hi with
  | none=>rfl
  | some b=>simp only;cases qdE (rd st.env x) a b<;>rfl
theorem qlF {f:Option Int→Option Int→Option V} {a b:Option Int}:qGy f (some a) (some b)=f a b:=(rfl)
theorem qvi {t:List Nat} {lo hi:Option Int} (h1:0≤lo.getD 0) (h2:lo.getD 0≤hi.getD t.length) (h3:hi.getD t.length≤t.length):qdE (.d (.s t)) lo hi=some (.d (.s ((t.take (hi.getD t.length).toNat).drop (lo.getD 0).toNat))):=by
 simp [qdE,qj9,qp1,h1,h2,h3]
end W
/-
  Slices of encoded elements; dictionaries; integers that fit.
-/
set_option linter.unusedSimpArgs false
set_option linter.unusedVariables false
namespace W
open Go (IntKind BinOp UnOp)
section
variable {α:Type} {e:α→D} {L:List α} {x:α} {st:St} {pg:Pg}
def slD (e:α→D) (L:List α):D:=match L with | []=>.nil|x::l=>.sl ((x::l).map e)
theorem qBp {H:List Obj}:qqn .lenL (.d (slD e L)) H=some (.d (.i .i64 L.length)):=by
 cases L<;>simp [slD,qqn]
theorem qFl {k:IntKind} {n:Int} {size:Nat} (he:∀x,(e x).cells.length=size) (h0:0≤n) (h:L[n.toNat]?=some x):iaV (.d (slD e L)) (.d (.i k n)) size none=some (.cp (e x)):=by
 cases L with
 | nil=>simp at h
 | cons y l=>
  refine jR h0 ?_ (by simp [he])
  rw [List.getElem?_map,h];rfl
end
theorem qHQ {x:Int} (h1:-9223372036854775808≤x) (h2:x≤9223372036854775807):wr .i64 x=x:=by
 cases x with
 | ofNat a=>simp only [wr,qpd,quH];rw [decide_eq_true (by rw [Int.ofNat_eq_natCast] at h2;omega)];rfl
 | negSucc a=>simp only [wr,qva,quH];rw [decide_eq_true (by omega)];rfl
theorem qpu {x:Int} (h1:0≤x) (h2:x≤255):wr .u8 x=x:=by
 cases x with
 | ofNat a=>simp only [wr,qpd,quH];rw [decide_eq_true (by rw [Int.ofNat_eq_natCast] at h2;omega)];rfl
 | negSucc a=>have:=Int.negSucc_lt_zero a;omega
end W
/-
  What arguments read as, kind by kind.
-/
set_option linter.unusedSimpArgs false
set_option linter.unusedVariables false
namespace W
open Go (World Value Addr IntKind Program TypeId FuncId Func DataW MemPlace TypeDesc Lit)
theorem qg9 {n a b:Nat} (h:look ((List.range n).map fun i=>(i,i)) a=some b):a=b:=by
 have key:∀(l:List Nat),look (l.map fun i=>(i,i)) a=some b→a=b:=by
  intro l
  induction l with
  | nil=>intro h;cases h
  | cons x l ih=>
   intro h
   simp only [List.map_cons,look,qM3] at h
   split at h
   ·rename_i hb
    cases h
    exact qM5 hb
   ·exact ih h
 exact key _ h
variable {P:Program} {t e:TypeId} {x:D}
theorem qxN {k:IntKind} (hu:P.underlying t=some (.int k)) (h:Arg P t x):∃z,x=.i k z∧(Lit.int k z).wf=true:=by
 obtain ⟨n,xs,ht,rfl⟩:=h
 cases n with
 | zero=>exact ht.elim
 | succ n=>
  simp only [Ty,hu] at ht
  obtain ⟨z,rfl,hw⟩:=ht
  exact ⟨z,by simp [qcO,hu,elD],hw⟩
inductive SlD {α:Type} (e:α→D):D→List α→Prop
 | nil:SlD e .nil []
 | sl (L:List α):SlD e (.sl (L.map e)) L
theorem SlD.len {α:Type} {e:α→D} {x:D} {L:List α} (h:SlD e x L) {H:List Obj}:qqn .lenL (.d x) H=some (.d (.i .i64 L.length)):=by
 cases h with
 | nil=>rfl
 | sl=>simp [qqn]
end W
/-
  Tables of the library, as the rows list them.
-/
namespace W
def qfs:D:=.agg [.i .u8 0,.i .u8 1,.i .u8 28,.i .u8 2,.i .u8 29,.i .u8 14,.i .u8 24,.i .u8 3,.i .u8 30,.i .u8 22,.i .u8 20,.i .u8 15,.i .u8 25,.i .u8 17,.i .u8 4,.i .u8 8,.i .u8 31,.i .u8 27,.i .u8 13,.i .u8 23,.i .u8 21,.i .u8 19,.i .u8 16,.i .u8 7,.i .u8 26,.i .u8 12,.i .u8 18,.i .u8 6,.i .u8 11,.i .u8 5,.i .u8 10,.i .u8 9]
def qgp:D:=.agg [.i .u8 0,.i .u8 1,.i .u8 56,.i .u8 2,.i .u8 57,.i .u8 49,.i .u8 28,.i .u8 3,.i .u8 61,.i .u8 58,.i .u8 42,.i .u8 50,.i .u8 38,.i .u8 29,.i .u8 17,.i .u8 4,.i .u8 62,.i .u8 47,.i .u8 59,.i .u8 36,.i .u8 45,.i .u8 43,.i .u8 51,.i .u8 22,.i .u8 53,.i .u8 39,.i .u8 33,.i .u8 30,.i .u8 24,.i .u8 18,.i .u8 12,.i .u8 5,.i .u8 63,.i .u8 55,.i .u8 48,.i .u8 27,.i .u8 60,.i .u8 41,.i .u8 37,.i .u8 16,.i .u8 46,.i .u8 35,.i .u8 44,.i .u8 21,.i .u8 52,.i .u8 32,.i .u8 23,.i .u8 11,.i .u8 54,.i .u8 26,.i .u8 40,.i .u8 15,.i .u8 34,.i .u8 20,.i .u8 31,.i .u8 10,.i .u8 25,.i .u8 14,.i .u8 19,.i .u8 9,.i .u8 13,.i .u8 8,.i .u8 7,.i .u8 6]
def qbQ:D:=.agg [.i .u64 1,.i .u64 10,.i .u64 100,.i .u64 1000,.i .u64 10000,.i .u64 100000,.i .u64 1000000,.i .u64 10000000,.i .u64 100000000,.i .u64 1000000000,.i .u64 10000000000,.i .u64 100000000000,.i .u64 1000000000000,.i .u64 10000000000000,.i .u64 100000000000000,.i .u64 1000000000000000,.i .u64 10000000000000000,.i .u64 100000000000000000,.i .u64 1000000000000000000,.i .u64 10000000000000000000]
def qjR:D:=.agg [.i .u8 0,.i .u8 0,.i .u8 0,.i .u8 0,.i .u8 0,.i .u8 0,.i .u8 0,.i .u8 0,.i .u8 0,.i .u8 1,.i .u8 1,.i .u8 1,.i .u8 1,.i .u8 1,.i .u8 0,.i .u8 0,.i .u8 0,.i .u8 0,.i .u8 0,.i .u8 0,.i .u8 0,.i .u8 0,.i .u8 0,.i .u8 0,.i .u8 0,.i .u8 0,.i .u8 0,.i .u8 0,.i .u8 0,.i .u8 0,.i .u8 0,.i .u8 0,.i .u8 1,.i .u8 0,.i .u8 0,.i .u8 0,.i .u8 0,.i .u8 0,.i .u8 0,.i .u8 0,.i .u8 0,.i .u8 0,.i .u8 0,.i .u8 0,.i .u8 0,.i .u8 0,.i .u8 0,.i .u8 0,.i .u8 0,.i .u8 0,.i .u8 0,.i .u8 0,.i .u8 0,.i .u8 0,.i .u8 0,.i .u8 0,.i .u8 0,.i .u8 0,.i .u8 0,.i .u8 0,.i .u8 0,.i .u8 0,.i .u8 0,.i .u8 0,.i .u8 0,.i .u8 0,.i .u8 0,.i .u8 0,.i .u8 0,.i .u8 0,.i .u8 0,.i .u8 0,.i .u8 0,.i .u8 0,.i .u8 0,.i .u8 0,.i .u8 0,.i .u8 0,.i .u8 0,.i .u8 0,.i .u8 0,.i .u8 0,.i .u8 0,.i .u8 0,.i .u8 0,.i .u8 0,.i .u8 0,.i .u8 0,.i .u8 0,.i .u8 0,.i .u8 0,.i .u8 0,.i .u8 0,.i .u8 0,.i .u8 0,.i .u8 0,.i .u8 0,.i .u8 0,.i .u8 0,.i .u8 0,.i .u8 0,.i .u8 0,.i .u8 0,.i .u8 0,.i .u8 0,.i .u8 0,.i .u8 0,.i .u8 0,.i .u8 0,.i .u8 0,.i .u8 0,.i .u8 0,.i .u8 0,.i .u8 0,.i .u8 0,.i .u8 0,.i .u8 0,.i .u8 0,.i .u8 0,.i .u8 0,.i .u8 0,.i .u8 0,.i .u8 0,.i .u8 0,.i .u8 0,.i .u8 0,.i .u8 0,.i .u8 0,.i .u8 0,.i .u8 0,.i .u8 0,.i .u8 0,.i .u8 0,.i .u8 0,.i .u8 0,.i .u8 0,.i .u8 0,.i .u8 0,.i .u8 0,.i .u8 0,.i .u8 0,.i .u8 0,.i .u8 0,.i .u8 0,.i .u8 0,.i .u8 0,.i .u8 0,.i .u8 0,.i .u8 0,.i .u8 0,.i .u8 0,.i .u8 0,.i .u8 0,.i .u8 0,.i .u8 0,.i .u8 0,.i .u8 0,.i .u8 0,.i .u8 0,.i .u8 0,.i .u8 0,.i .u8 0,.i .u8 0,.i .u8 0,.i .u8 0,.i .u8 0,.i .u8 0,.i .u8 0,.i .u8 0,.i .u8 0,.i .u8 0,.i .u8 0,.i .u8 0,.i .u8 0,.i .u8 0,.i .u8 0,.i .u8 0,.i .u8 0,.i .u8 0,.i .u8 0,.i .u8 0,.i .u8 0,.i .u8 0,.i .u8 0,.i .u8 0,.i .u8 0,.i .u8 0,.i .u8 0,.i .u8 0,.i .u8 0,.i .u8 0,.i .u8 0,.i .u8 0,.i .u8 0,.i .u8 0,.i .u8 0,.i .u8 0,.i .u8 0,.i .u8 0,.i .u8 0,.i .u8 0,.i .u8 0,.i .u8 0,.i .u8 0,.i .u8 0,.i .u8 0,.i .u8 0,.i .u8 0,.i .u8 0,.i .u8 0,.i .u8 0,.i .u8 0,.i .u8 0,.i .u8 0,.i .u8 0,.i .u8 0,.i .u8 0,.i .u8 0,.i .u8 0,.i .u8 0,.i .u8 0,.i .u8 0,.i .u8 0,.i .u8 0,.i .u8 0,.i .u8 0,.i .u8 0,.i .u8 0,.i .u8 0,.i .u8 0,.i .u8 0,.i .u8 0,.i .u8 0,.i .u8 0,.i .u8 0,.i .u8 0,.i .u8 0,.i .u8 0,.i .u8 0,.i .u8 0,.i .u8 0,.i .u8 0,.i .u8 0,.i .u8 0,.i .u8 0,.i .u8 0,.i .u8 0,.i .u8 0,.i .u8 0,.i .u8 0,.i .u8 0,.i .u8 0,.i .u8 0,.i .u8 0,.i .u8 0,.i .u8 0]
end W
/-
  Tables that the rows list are what the small semantics reads.
-/
set_option linter.unusedSimpArgs false
set_option linter.unusedVariables false
namespace W
open Go (World Value Addr IntKind Program TypeId FuncId Func DataW MemPlace Lit)
theorem qzR {W:World} {b i:Nat} {v:Value} (h:W.cell? ⟨b,i,none⟩=some v):i<(g0 W).pub b:=by
 show i<(match W.heap[b]? with|some (.cells c _ _)=>c.size|_=>0)
 simp only [World.cell?] at h
 split at h
 ·rename_i c t f hb
  rw [hb]
  simp only [Option.isSome_none,qNa,if_false] at h
  exact (Array.getElem?_eq_some_iff.1 h).1
 ·cases h
theorem qvd {pub:Nat→Nat} {w:World} (k:IntKind):∀zs:List Int,RepDL pub w (zs.map (D.i k)) (zs.map fun z=>Value.int k z)
 | []=>.nil
 | z::zs=>.cons _ _ _ _ (.i k z) (qvd k zs)
theorem qsw {P:Program} {W:World} {name:String} {k:IntKind} {zs:List Int} {g:Nat} {t e:TypeId} {n:Nat}
  (hg:P.globalNamed name=some g) (hty:(P.globals[g]?).map (·.type)=some t) (ht:P.underlying t=some (.array n e)) (he:P.underlying e=some (.int k)) (hce:P.cellsOf e=1) (hct:P.cellsOf t=n) :
  ∀{laid:List (String × DataW Unit)} {ps:List MemPlace},DataW.LaidVars P W laid ps→(name,Go.Lib.tabData k zs) ∈ laid→Go.Lib.TabIs P W name k zs
 | [],_,_,hm=>by cases hm
 | (nm,d)::rest,ps,h,hm=>by
  obtain ⟨g',t',cs,fuel,p,q,hg',ht',hvar,hd,hrest,_⟩:=h
  rcases List.mem_cons.1 hm with e|hm
  ·cases e
   obtain rfl:=Option.some.inj (hg.symm.trans hg')
   obtain rfl:=Option.some.inj (hty.symm.trans ht')
   unfold Go.Lib.TabIs
   rw [hvar,←Go.Lib.cells_of_tab ht he hce hct hd]
  ·exact qsw hg hty ht he hce hct hrest hm
theorem qzF {M:Maps} {P:Program} {W:World} (h2:qFH M (g0 W) W) (h:∀n x,look M.gl n=some x→∃name k zs,P.globalNamed name=some n∧x=.agg (zs.map (D.i k))∧zs≠[]∧Go.Lib.TabIs P W name k zs):GlOk M (g0 W) W:=by
 refine ⟨?_,h2⟩
 intro n x hn
 obtain ⟨name,k,zs,hg,rfl,hne,ht⟩:=h n x hn
 refine ⟨zs.map fun z=>Value.int k z,qvd k zs,fun j v hj=>?_,?_⟩
 ·have hlt:j<zs.length:=by
   have:=(List.getElem?_eq_some_iff.1 hj).1
   simpa using this
  rw [qNe,ht.cell hg j hlt]
  have:(zs.map fun z=>Value.int k z)[j]?=some (.int k (zs.getD j 0)):=by simp [List.getD,hlt]
  rw [this] at hj
  exact hj
 ·have hpos:0<zs.length:=by cases zs with|nil=>exact absurd rfl hne|cons=>simp
  have:=qzR (ht.cell hg (zs.length - 1) (by omega))
  simp only [List.length_map]
  omega
end W
/- A program of which parts that a run doesn't reach are cut away: what it gives, the whole one gives. -/
set_option linter.unusedSimpArgs false
set_option linter.unusedVariables false
namespace W
open Go (World Value Program FuncId)
inductive Cut:C→C→Prop where
 | stuck (c:C):Cut c .stuck
 | skip:Cut .skip .skip
 | ops (l):Cut (.ops l) (.ops l)
 | opsD (l):Cut (.opsD l) (.opsD l)
 | seq {a a' b b':C} (h:Cut a a') (h':Cut b b'):Cut (.seq a b) (.seq a' b')
 | cond {a a' b b':C} (o) (h:Cut a a') (h':Cut b b'):Cut (.cond o a b) (.cond o a' b')
 | block {a a':C} (id live) (h:Cut a a'):Cut (.block id live a) (.block id live a')
 | loop {a a':C} (live) (h:Cut a a'):Cut (.loop live a) (.loop live a')
 | exit (id):Cut (.exit id) (.exit id)
 | ret:Cut .ret .ret
 | rangeB {a a' b b':C} (k l f p0 p1 live) (h:Cut a a') (h':Cut b b'):Cut (.rangeB k l f p0 p1 live a b) (.rangeB k l f p0 p1 live a' b')
 | rangeZ (k f live):Cut (.rangeZ k f live) (.rangeZ k f live)
theorem Cut.refl:∀c,Cut c c
 | .skip=>.skip
 | .ops l=>.ops l
 | .opsD l=>.opsD l
 | .seq a b=>.seq (refl a) (refl b)
 | .cond o a b=>.cond o (refl a) (refl b)
 | .block i l a=>.block i l (refl a)
 | .loop l a=>.loop l (refl a)
 | .exit i=>.exit i
 | .ret=>.ret
 | .stuck=>.stuck _
 | .rangeB k l f p0 p1 live a b=>.rangeB k l f p0 p1 live (refl a) (refl b)
 | .rangeZ k f live=>.rangeZ k f live
def ExCut (e e':C→St→Option (Ex × St)):Prop:=∀c' c,Cut c' c→∀st x,e c st=some x→e' c' st=some x
theorem ExCut.le {e e':C→St→Option (Ex × St)} (h:ExCut e e'):qrD e e':=fun c st x=>h c c (.refl c) st x
theorem qBz {c c':Call} {e e':C→St→Option (Ex × St)} (hc:yT c c') (he:ExCut e e') {x' x:C} (hx:Cut x' x) {st:St} {y:Ex × St} (h:step c e x st=some y):step c' e' x' st=some y:=by
 cases hx with
 | stuck=>cases h
 | skip=>exact h
 | ops l=>exact qe1 hc l h
 | opsD l=>exact qgl hc l h
 | seq h1 h2=>
  simp only [step] at h ⊢
  rename_i a a' b b'
  cases ha:e a' st with
  | none=>rw [ha] at h;cases h
  | some p=>
   rw [ha] at h
   rw [he _ _ h1 _ _ ha]
   obtain ⟨ex,st1⟩:=p
   cases ex with
   | nrm=>exact he _ _ h2 _ _ h
   | _=>exact h
 | cond o h1 h2=>
  simp only [step] at h ⊢
  split at h
  ·rename_i hv;(try simp only [hv]);exact he _ _ h1 _ _ h
  ·rename_i hv;(try simp only [hv]);exact he _ _ h2 _ _ h
  ·cases h
 | block id live h1=>
  simp only [step] at h ⊢
  rename_i a a'
  cases ha:e a' st with
  | none=>rw [ha] at h;cases h
  | some p=>rw [ha] at h;rw [he _ _ h1 _ _ ha];exact h
 | loop live h1=>
  simp only [step] at h ⊢
  rename_i a a'
  cases ha:e a' {st with env:=restrict live st.env} with
  | none=>rw [ha] at h;cases h
  | some p=>
   rw [ha] at h
   rw [he _ _ h1 _ _ ha]
   obtain ⟨ex,st1⟩:=p
   cases ex with
   | nrm=>exact he _ _ (.loop live h1) _ _ h
   | _=>exact h
 | exit id=>exact h
 | ret=>exact h
 | rangeB k l f p0 p1 live h1 h2=>
  simp only [step] at h ⊢
  split at h
  ·rename_i k' c' hf
   (try simp only [hf])
   rw [qM3] at h ⊢
   split at h
   ·rename_i hk
    rw [if_pos hk]
    split at h
    ·rename_i n hn;(try simp only [hn]);exact qiq (he _ _ h1) (he _ _ h2) n h
    ·cases h
   ·cases h
  ·cases h
 | rangeZ k f live=>exact qs5 hc he.le (x:=.rangeZ k f live) h
def qvK (fn0 fn:Fn):Prop:=∃c,fn={fn0 with body:=c}∧Cut fn0.body c
structure PgCut (pg' pg:Pg):Prop where
 some:∀i fn,pg.fn i=some fn→∃fn0,pg'.fn i=some fn0∧qvK fn0 fn
 none:∀i,pg.fn i=none→pg'.fn i=none
 ext:pg'.ext=pg.ext
theorem qmS {pg' pg:Pg} (hp:PgCut pg' pg) {e e':C→St→Option (Ex × St)} (he:ExCut e e') {fn:Fn} {H:List Obj} {h:Nat} {vs:List V} {v:V} {st:St} {r:Cr} (hh:handle pg e fn H h vs v st=some r):handle pg' e' fn H h vs v st=some r:=by
 obtain ⟨hf,d,st',h1,h2,h3,h6,h4,h5⟩:=qgm hh
 obtain ⟨hf0,g1,c,rfl,g2⟩:=hp.some _ _ h1
 have h2':hf0.rcv=_:=h2
 have h3':hf0.np=_:=h3
 have h6':hf0.res=_:=h6
 unfold handle
 simp only [g1,h2',h3',h6',qpU,List.isEmpty_nil,qNf,cond_true]
 rcases h4 with h4|h4<;>simp only [he _ _ g2 _ _ h4,h5]
theorem qt0 {pg' pg:Pg} (hp:PgCut pg' pg) {e e':C→St→Option (Ex × St)} (he:ExCut e e') {fn:Fn} {H:List Obj} {t:Nat} {rest:C} {st:St} {r:Cr} (hh:deferred pg e fn H t rest st=some r):deferred pg' e' fn H t rest st=some r:=by
 obtain ⟨h,first,cap,ex,st',v,h1,h2,h3,h4,h5⟩:=qbs hh
 unfold deferred
 simp only [h1,h2,cond_true]
 rcases h5 with ⟨h5|h5,rfl⟩|⟨rfl,h6⟩
 ·subst h5;simp only [he.le _ _ _ h3,qmS hp he h4]
 ·subst h5;simp only [he.le _ _ _ h3,qmS hp he h4]
 ·simp only [he.le _ _ _ h3,h6,cond_true,qmS hp he h4]
theorem qng {pg' pg:Pg} (hp:PgCut pg' pg) {e e':C→St→Option (Ex × St)} (he:ExCut e e'):yT (qq pg e) (qq pg' e'):=by
 intro i vs H r h
 unfold qq at h ⊢
 cases hf:pg.fn i with
 | none=>rw [hf] at h;rw [hp.none _ hf,hp.ext];exact h
 | some fn=>
  obtain ⟨fn0,g1,c,rfl,g2⟩:=hp.some _ _ hf
  rw [hf] at h
  rw [g1]
  simp only at h ⊢
  split at h
  ·rename_i hn
   rw [if_pos hn]
   cases hb:e c {env:=ku 0 vs,H,lo:=H.length} with
   | none=>rw [hb] at h;cases h
   | some p=>
    rw [hb] at h;rw [he _ _ g2 _ _ hb]
    obtain ⟨ex,st⟩:=p
    cases ex with
    | nrm=>
     simp only at h ⊢
     cases hd:fn0.dfr with
     | none=>rw [hd] at h;exact h
     | some q=>
      obtain ⟨t,rest⟩:=q
      rw [hd] at h
      exact qt0 hp he h
    | _=>exact h
  ·cases h
theorem qqM {pg' pg:Pg} (hp:PgCut pg' pg):∀n,ExCut (exec pg n) (exec pg' n)
 | 0=>fun _ _ _ _ _ h=>by simp [exec] at h
 | n+1=>fun c' c hc st x h=>qBz (qng hp (qqM hp n)) (qqM hp n) hc h
theorem qzS {pg' pg:Pg} (hp:PgCut pg' pg) (n:Nat):yT (kR pg n) (kR pg' n):=qng hp (qqM hp n)
def qkp:C→Nat→C × Nat
 | .seq a b,n=>match qkp a (n / 2) with
  | (a',m)=>bif qM8 (n % 2) 1 then (match qkp b m with|(b',m')=>(.seq a' b',m')) else (.seq a' .stuck,m)
 | .cond o a b,n=>match (bif qM8 (n % 2) 1 then qkp a (n / 2) else (.stuck,n / 2):C × Nat) with
  | (a',m)=>match (bif qM8 (m % 2) 1 then qkp b (m / 2) else (.stuck,m / 2):C × Nat) with
   | (b',m')=>(.cond o a' b',m')
 | .block i l a,n=>match qkp a n with|(a',m)=>(.block i l a',m)
 | .loop l a,n=>match qkp a n with|(a',m)=>(.loop l a',m)
 | .rangeB k l f p0 p1 live a b,n=>match qkp a n with
  | (a',m)=>match qkp b m with|(b',m')=>(.rangeB k l f p0 p1 live a' b',m')
 | c,n=>(c,n)
theorem qiS:∀c n,Cut c (qkp c n).1
 | .seq a b,n=>by
  unfold qkp
  have h1:=qiS a (n / 2)
  have h2:=qiS b (qkp a (n / 2)).2
  cases h:qM8 (n % 2) 1 with
  | true=>simp only [h,cond_true];exact .seq h1 h2
  | false=>simp only [h,cond_false];exact .seq h1 (.stuck _)
 | .cond o a b,n=>by
  unfold qkp
  have h1:Cut a (bif qM8 (n % 2) 1 then qkp a (n / 2) else (.stuck,n / 2):C × Nat).1:=by
   cases h:qM8 (n % 2) 1 with
   | true=>exact qiS a _
   | false=>exact .stuck _
  generalize (bif qM8 (n % 2) 1 then qkp a (n / 2) else (.stuck,n / 2):C × Nat)=p at h1 ⊢
  obtain ⟨a',m⟩:=p
  have h2:Cut b (bif qM8 (m % 2) 1 then qkp b (m / 2) else (.stuck,m / 2):C × Nat).1:=by
   cases h:qM8 (m % 2) 1 with
   | true=>exact qiS b _
   | false=>exact .stuck _
  simp only
  generalize (bif qM8 (m % 2) 1 then qkp b (m / 2) else (.stuck,m / 2):C × Nat)=p at h2 ⊢
  obtain ⟨b',m'⟩:=p
  exact .cond o h1 h2
 | .block i l a,n=>.block i l (qiS a n)
 | .loop l a,n=>.loop l (qiS a n)
 | .rangeB k l f p0 p1 live a b,n=>.rangeB k l f p0 p1 live (qiS a n) (qiS b _)
 | .skip,_=>.skip
 | .ops l,_=>.ops l
 | .opsD l,_=>.opsD l
 | .exit i,_=>.exit i
 | .ret,_=>.ret
 | .stuck,_=>.stuck _
 | .rangeZ k f live,_=>.rangeZ k f live
def qBv (n:Nat) (fn:Fn):Fn:={fn with body:=(qkp fn.body n).1}
theorem qL8 (n:Nat) (fn:Fn):qvK fn (qBv n fn):=⟨_,rfl,qiS _ _⟩
def qqh (P:Program) (M:Maps) (pg:Pg):Prop:=
 ∀f' i,look M.fm f'=some i→∀fn',pg.fn i=some fn'→∃fn A own fn0,P.funcs[f']?=some fn∧(fn.name == "runtime.NumGoroutine")=false∧qdf M P A own fn=some fn0∧qvK fn0 fn'
def ye (P:Program) (M:Maps) (i:Nat) (fn':Fn):Prop:=∃fn A own fn0,P.funcs[i]?=some fn∧(fn.name == "runtime.NumGoroutine")=false∧qdf M P A own fn=some fn0∧qvK fn0 fn'
theorem qKZ {P:Program} {M:Maps} {i:Nat} {fn':Fn} {fn:Go.Func} (h:P.funcs[i]?=some fn) (A:Ann) (own:Bool) (n:Nat) (hn:(fn.name == "runtime.NumGoroutine")=false) (ht:(qdf M P A own fn).map (qBv n)=some fn'):ye P M i fn':=by
 obtain ⟨fn0,h1,h2⟩:=Option.map_eq_some_iff.1 ht
 exact ⟨fn,A,own,fn0,h,hn,h1,h2▸qL8 n fn0⟩
theorem yk {P:Program} {M:Maps} {i:Nat} {fn':Fn} {fn:Go.Func} {A:Ann} {own:Bool} (h:P.funcs[i]?=some fn) (hn:(fn.name == "runtime.NumGoroutine")=false) (ht:qdf M P A own fn=some fn'):ye P M i fn':=⟨fn,A,own,fn',h,hn,ht,_,rfl,.refl _⟩
def qvI (n:Nat):List (Nat × Fn)→Option Fn
 | []=>none
 | p::l=>bif qM8 n p.1 then some p.2 else qvI n l
theorem qsI {n:Nat} {f:Fn}:∀{l:List (Nat × Fn)},qvI n l=some f→(n,f) ∈ l
 | [],h=>by cases h
 | (k,g)::l,h=>by
  unfold qvI at h
  rw [qM3] at h
  split at h
  ·rename_i hb
   cases h
   obtain rfl:=qM5 hb
   exact .head _
  ·exact .tail _ (qsI h)
inductive RowsOk (P:Program) (M:Maps):List (Nat × Fn)→Prop
 | nil:RowsOk P M []
 | cons {i:Nat} {f:Fn} {T:List (Nat × Fn)} (h:ye P M i f) (t:RowsOk P M T):RowsOk P M ((i,f)::T)
theorem RowsOk.all {P:Program} {M:Maps} {T:List (Nat × Fn)} (h:RowsOk P M T):∀p ∈ T,ye P M p.1 p.2:=by
 induction h with
 | nil=>intro p hp;cases hp
 | cons h t ih=>
  intro p hp
  cases hp with
  | head=>exact h
  | tail _ hp=>exact ih p hp
theorem qBs {P:Program} {M:Maps} {pg:Pg} {T:List (Nat × Fn)} (hT:∀p ∈ T,ye P M p.1 p.2) (hp:∀i fn,pg.fn i=some fn→qvI i T=some fn) (hid:∀f' i,look M.fm f'=some i→f'=i):qqh P M pg:=fun f' i hl fn' hf=>by
 obtain rfl:=hid _ _ hl
 exact hT _ (qsI (hp _ _ hf))
theorem whole {P:Program} {M:Maps} {pg:Pg} (hT:qqh P M pg) (hid:∀f' i,look M.fm f'=some i→f'=i):∃pg',qK4 P M pg'∧PgCut pg' pg:=by
 have key:∀i fn,pg.fn i=some fn→∃fn0,qvK fn0 fn∧∀f',look M.fm f'=some i→∃fn A own,P.funcs[f']?=some fn∧(fn.name == "runtime.NumGoroutine")=false∧qdf M P A own fn=some fn0:=fun i fn h=>by
  cases hl:look M.fm i with
  | none=>exact ⟨fn,⟨_,rfl,.refl _⟩,fun f' hf=>by rw [hid _ _ hf,hl] at hf;cases hf⟩
  | some j=>
   have e:=hid _ _ hl
   subst e
   obtain ⟨fn1,A,own,fn0,h1,h2,h3,h4⟩:=hT _ _ hl _ h
   exact ⟨fn0,h4,fun f' hf=>by rw [hid _ _ hf];exact ⟨fn1,A,own,h1,h2,h3⟩⟩
 refine ⟨⟨fun i=>match h:pg.fn i with|none=>none|some fn=>some (key i fn h).choose,pg.ext⟩,?_,?_,?_,rfl⟩
 ·intro f' i hl fn' hf
  simp only at hf
  split at hf
  ·cases hf
  ·rename_i fn h
   cases hf
   exact (key i fn h).choose_spec.2 f' hl
 ·intro i fn h
  refine ⟨(key i fn h).choose,?_,(key i fn h).choose_spec.1⟩
  simp only
  split
  ·rename_i h';rw [h] at h';cases h'
  ·rename_i fn2 h'
   rw [h] at h';cases h';rfl
 ·intro i h
  simp only
  split
  ·rfl
  ·rename_i fn2 h';rw [h] at h';cases h'
theorem qA5 {P:Program} {M:Maps} {pg:Pg} (hm:P.follows .mixedOrders=true) (hT:qqh P M pg) (hB:qtn P M) (hid:∀f' i,look M.fm f'=some i→f'=i) (hx:qw P M pg.ext) (hxlo:qy pg.ext) (n:Nat):qw P M (kR pg n):=by
 obtain ⟨pg',h1,h2⟩:=whole hT hid
 have hs:=sound hm ⟨h1,hB⟩ (by rw [h2.ext];exact hx) (by rw [h2.ext];exact hxlo) n
 intro i vs H r h
 exact hs i vs H r (qzS h2 n i vs H r h)
end W
