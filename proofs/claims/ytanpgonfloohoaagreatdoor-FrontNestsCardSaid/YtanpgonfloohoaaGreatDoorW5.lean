/-
  FrontNests, part 5.
-/
import Derived.Lib.LaidTab
import Derived.Test.YtanpgonfloohoaaGreatDoorW4
/-
  Equations for walking code whose data are terms: memory, slices, texts, maps.
-/
set_option linter.unusedSimpArgs false
set_option linter.unusedVariables false
open Bool renaming cond_eq_ite→qIU,and_eq_true→qIV,false_eq_true→qI1,not_true→qI6
open Option renaming bind_eq_some_iff→qIW,bind_eq_bind→qIZ,pure_def→qI2,map_some→qI5
open Nat renaming eq_of_beq_eq_true→qIX,le_refl→qIY,beq→qI0
open List renaming length_nil→qI3,length_cons→qI4
namespace W
open Go (IntKind BinOp UnOp)
variable {pg:Pg} {call:Call} {st:St} {p:Prop} [Decidable p]
theorem qBG {c:D}:V.ref (.d c)=0:=(rfl)
def faV (v:V) (off:Nat) (l:L):Option V:=
 match v with
 | .ptr id o=>some (.ptr id (o+off))
 | .lp s o=>some (.lp s (o+off))
 | .cp (.agg cs)=>match D.part off l cs with
  | some y=>if l.agg || y.one then some (.cp y) else none
  | none=>none
 | _=>none
theorem qiq {x:O} {off:Nat} {l:L}:qc call (.fieldAddr x off l) st=okS (faV (rd st.env x) off l) st:=by
 show kh x off l st=_
 unfold kh faV
 cases rd st.env x with
 | cp w=>
  cases w with
  | agg cs=>
   simp only
   cases D.part off l cs with
   | none=>rfl
   | some y=>simp only;split<;>rfl
  | _=>rfl
 | _=>rfl
theorem qqV {i o off:Nat} {l:L}:faV (.ptr i o) off l=some (.ptr i (o+off)):=(rfl)
theorem qyr {i o off:Nat} {l:L}:faV (.lp i o) off l=some (.lp i (o+off)):=(rfl)
theorem qH1 {k:IntKind} {x:Int}:D.one (.i k x)=true:=(rfl)
theorem qHS {x:List Nat}:D.one (.s x)=true:=(rfl)
def qu8 (l:L) (off:Nat) (o:Option Obj):Option V:=
 match o with
 | some (.cells cs)=>V.part off l cs
 | some (.row _ cs)=>V.part off l cs
 | _=>none
def qlj (sl:Option Nat) (l:L) (st:St) (v:V):Option V:=
 bif !qI sl v then none else qH l st v
theorem qnT {sl:Option Nat} {l:L} {a:O}:qc call (.load false sl l a) st=okS (qlj sl l st (rd st.env a)) st:=by
 show zU false sl l a st=_
 unfold zU qlj
 cases qI sl (rd st.env a) with
 | false=>rfl
 | true=>simp only [qI6,cond_false];cases qH l st (rd st.env a)<;>rfl
theorem qmU {l:L} {i o:Nat}:qlj none l st (.ptr i o)=qu8 l o (st.H[i]?):=by
 simp only [qlj,qI,qI6,cond_false,qH,qu8]
 all_goals rfl
theorem qqJ {o:Nat} {cs:List V}:qu8 ⟨1,false⟩ o (some (.cells cs))=(cs[o]?).map zW:=by simp [qu8,V.part]
def qtm (l:L) (o:Nat) (v:V):Option V:=
 match v with
 | .box cs=>V.part o l cs
 | _=>none
theorem qs6 {l:L} {s o:Nat}:qlj (some s) l st (.lp s o)=qtm l o (get s st.env):=by
 simp only [qlj,qI,quU,decide_true,qI6,cond_false,qH,qtm]
 all_goals rfl
theorem qzX {o:Nat} {cs:List V}:qtm ⟨1,false⟩ o (.box cs)=(cs[o]?).map zW:=by simp [qtm,V.part]
theorem qxt {o n:Nat} {cs:List V} (h:(o+n≤cs.length)=True):qtm ⟨n,true⟩ o (.box cs)=some (qfd (((cs.drop o).take n).map zW)):=by simp [qtm,V.part,h]
theorem qoD {n:List Nat}:qlj none ⟨1,false⟩ st (.cp (.s n))=some (.d (.s n)):=(rfl)
theorem qmp {cs:List D} {n:Nat} (h:(cs.length=n)=True):qlj none ⟨n,true⟩ st (.cp (.agg cs))=some (.d (.agg cs)):=by
 simp [qlj,qI,qH,h]
def qq4 (sl:Option Nat) (l:L) (x v:V) (st:St):Option Or:=
 match sl,v with
 | none,.ptr i o=>(match st.H[i]? with
  | some (.cells cs)=>if x.cells.length=l.n && V.ones x.cells then (match kI cs o x.cells with
   | some cs'=>some ⟨false,false,.undef,{st with H:=qT st.H i (.cells cs'),lo:=min st.lo i}⟩
   | none=>none) else none
  | some (.row k cs)=>if x.cells.length=l.n && V.ones x.cells && V.ok.oks x.cells then (match kI cs o x.cells with
   | some cs'=>some ⟨false,false,.undef,{st with H:=qT st.H i (.row k cs'),lo:=min st.lo i}⟩
   | none=>none) else none
  | _=>none)
 | some s,.lp s' o=>bif qI0 s s' then (match get s' st.env with
  | .box cs=>if x.cells.length=l.n && V.ones x.cells then (match kI cs o x.cells with
   | some cs'=>some ⟨false,true,.undef,{st with env:=(s',.box cs')::st.env}⟩
   | none=>none) else none
  | _=>none) else none
 | _,_=>none
theorem qrA {sl:Option Nat} {l:L} {a x:O}:qc call (.store sl l a x) st=qq4 sl l (rd st.env x) (rd st.env a) {st with env:=spent x st.env}:=by
 show qam sl l a x st=_
 unfold qam qq4
 cases rd st.env a with
 | ptr i o=>
  cases sl with
  | none=>
   simp only [qI,qI6,cond_false,y7]
   cases st.H[i]? with
   | none=>rfl
   | some ob=>
    cases ob with
    | cells cs=>
     simp only
     cases (decide ((rd st.env x).cells.length=l.n) && V.ones (rd st.env x).cells) with
     | true=>simp only [if_true];cases kI cs o (rd st.env x).cells<;>rfl
     | false=>rfl
    | row k cs=>
     simp only
     cases (decide ((rd st.env x).cells.length=l.n) && V.ones (rd st.env x).cells && V.ok.oks (rd st.env x).cells) with
     | true=>simp only [if_true];cases kI cs o (rd st.env x).cells<;>rfl
     | false=>rfl
    | _=>rfl
  | some s=>simp [qI]
 | lp s o=>
  cases sl with
  | none=>simp [qI]
  | some s'=>
   simp only [qI,y7]
   cases qI0 s' s with
   | false=>rfl
   | true=>
    simp only [qI6,cond_false,cond_true]
    cases get s (spent x st.env) with
    | box cs=>
     simp only
     cases (decide ((rd st.env x).cells.length=l.n) && V.ones (rd st.env x).cells) with
     | true=>simp only [if_true];cases kI cs o (rd st.env x).cells<;>rfl
     | false=>rfl
    | _=>rfl
 | _=>cases sl<;>first|rfl|simp [qI,y7]
def qqQ (l:L) (x:V) (o s:Nat) (st:St) (b:V):Option Or:=
 match b with
 | .box cs=>if x.cells.length=l.n && V.ones x.cells then (match kI cs o x.cells with
   | some cs'=>some ⟨false,true,.undef,{st with env:=(s,.box cs')::st.env}⟩
   | none=>none) else none
 | _=>none
theorem qvF {l:L} {x:V} {s o:Nat}:qq4 (some s) l x (.lp s o) st=qqQ l x o s st (get s st.env):=by
 simp only [qq4,quU,decide_true,cond_true,qqQ]
def qtB (s:Nat) (st:St) (r:Option (List V)):Option Or:=
 match r with
 | some cs'=>some ⟨false,true,.undef,{st with env:=(s,.box cs')::st.env}⟩
 | none=>none
theorem qur {l:L} {x:V} {s o:Nat} {cs:List V} (h1:(x.cells.length=l.n)=True) (h2:V.ones x.cells=true):qqQ l x o s st (.box cs)=qtB s st (kI cs o x.cells):=by
 simp only [qqQ,h1,h2,decide_true,Bool.and_self,if_true,qtB]
theorem qsU {s:Nat} {cs:List V}:qtB s st (some cs)=some ⟨false,true,.undef,{st with env:=(s,.box cs)::st.env}⟩:=(rfl)
theorem qws {cs:List D}:V.cells (.d (.agg cs))=cs.map .d:=(rfl)
theorem qyc:V.ones []=true:=(rfl)
theorem qwv {v:V} {vs:List V}:V.ones (v::vs)=(v.one && V.ones vs):=(rfl)
theorem qEj {x:D}:V.one (.d x)=x.one:=(rfl)
theorem qqT {zero:List D}:qc call (.alloc true zero) st=some ⟨false,true,.box (zero.map .d),st⟩:=(rfl)
def qHI (cs:List V) (r:Option (List D)):V:=match r with|some ds=>.d (.agg ds)|none=>.agg cs
theorem qtb {cs:List V}:qfd cs=qHI cs (yz cs):=(rfl)
theorem qpV {cs:List V} {ds:List D}:qHI cs (some ds)=.d (.agg ds):=(rfl)
def qBq (x:D) (r:Option (List D)):Option (List D):=match r with|some r=>some (x::r)|none=>none
theorem qnR {x:D} {r:List D}:qBq x (some r)=some (x::r):=(rfl)
theorem qtd:yz []=some []:=(rfl)
theorem qz5 {x:D} {l:List V}:yz (.d x::l)=qBq x (yz l):=(rfl)
def iaV (v i:V) (size:Nat) (arr:Option Nat):Option V:=
 match i with
 | .d (.i _ n)=>match arr with
  | some len=>bif leI 0 n && !leI len n then (match v with
    | .ptr id o=>some (.ptr id (o+n.toNat * size))
    | .lp s o=>some (.lp s (o+n.toNat * size))
    | .cp (.agg cs)=>bif qI0 size 1 then (match cs[n.toNat]? with
     | some y=>if y.one then some (.cp y) else none
     | none=>none) else none
    | _=>none) else none
  | none=>bif leI 0 n then (match v with
    | .d (.sl xs)=>(match xs[n.toNat]? with
     | some y=>bif qI0 y.cells.length size then some (.cp y) else none
     | none=>none)
    | .rs id o len _=>bif !leI len n && qI0 size 1 then some (.ptr id (o+n.toNat)) else none
    | .row id sz len=>bif !leI len n && qI0 size sz then some (.ptr id (n.toNat * sz)) else none
    | _=>none) else none
 | _=>none
theorem qnu {x i:O} {size:Nat} {arr:Option Nat}:qc call (.indexAddr x i size arr) st=okS (iaV (rd st.env x) (rd st.env i) size arr) st:=by
 show kg x i size arr st=_
 unfold kg iaV
 cases rd st.env i with
 | d w=>
  cases w with
  | i k n=>
   cases arr with
   | some len=>
    simp only [jK]
    cases leI 0 n && !leI len n with
    | false=>rfl
    | true=>
     simp only [cond_true]
     cases rd st.env x with
     | cp w=>
      cases w with
      | agg cs=>
       simp only
       cases qI0 size 1 with
       | false=>rfl
       | true=>
        simp only [cond_true]
        cases cs[n.toNat]? with
        | none=>rfl
        | some y=>simp only;split<;>rfl
      | _=>rfl
     | _=>rfl
   | none=>
    simp only [jd]
    cases leI 0 n with
    | false=>rfl
    | true=>
     simp only [cond_true]
     cases rd st.env x with
     | d u=>
      cases u with
      | sl xs=>
       simp only
       cases xs[n.toNat]? with
       | none=>rfl
       | some y=>simp only;cases qI0 y.cells.length size<;>rfl
      | _=>rfl
     | rs id o len c=>simp only;cases !leI len n && qI0 size 1<;>rfl
     | row id sz len=>simp only;cases !leI len n && qI0 size sz<;>rfl
     | _=>rfl
  | _=>rfl
 | _=>rfl
theorem qxX {xs:List D} {k:IntKind} {n:Int} {size:Nat} {y:D} (h0:0≤n) (h:xs[n.toNat]?=some y) (hy:(y.cells.length=size)=True):iaV (.d (.sl xs)) (.d (.i k n)) size none=some (.cp y):=by
 have hy:y.cells.length=size:=by rw [hy];trivial
 simp [iaV,qsE,h0,h,quU,hy]
theorem qnd {e:Env}:qZ e none=some none:=(rfl)
def qGZ (v:V):Option (Option Int):=match v with | .d (.i _ n)=>some (some n)|_=>none
theorem qm8 {e:Env} {o:O}:qZ e (some o)=qGZ (rd e o):=(rfl)
theorem qyT {k:IntKind} {n:Int}:qGZ (.d (.i k n))=some (some n):=(rfl)
def qEp (f:Option Int→Option Int→Option V) (a b:Option (Option Int)):Option V:=match a,b with|some a,some b=>f a b|_,_=>none
theorem qmf {x:O} {lo hi:Option O}:qc call (.sliceS x lo hi) st=okS (qEp (qgw (rd st.env x)) (qZ st.env lo) (qZ st.env hi)) st:=by
 show yh x lo hi st=_
 unfold yh qEp
 cases qZ st.env lo with
 | none=>rfl
 | some a=>cases qZ st.env hi with
  | none=>rfl
  | some b=>simp only;cases qgw (rd st.env x) a b<;>rfl
theorem qp3 {f:Option Int→Option Int→Option V} {a b:Option Int}:qEp f (some a) (some b)=f a b:=(rfl)
theorem qrx {t:List Nat} {lo hi:Option Int} (h1:0≤lo.getD 0) (h2:lo.getD 0≤hi.getD t.length) (h3:hi.getD t.length≤t.length):qgw (.d (.s t)) lo hi=some (.d (.s ((t.take (hi.getD t.length).toNat).drop (lo.getD 0).toNat))):=by
 simp [qgw,qiA,qsE,h1,h2,h3]
end W
/-
  Slices of encoded elements; dictionaries; integers that fit.
-/
set_option linter.unusedSimpArgs false
set_option linter.unusedVariables false
namespace W
open Go (IntKind BinOp UnOp)
section
variable {α:Type} {e:α→D} {L:List α} {x:α} {st:St} {pg:Pg}
def slD (e:α→D) (L:List α):D:=match L with | []=>.nil|x::l=>.sl ((x::l).map e)
theorem qzh {H:List Obj}:qq7 .lenL (.d (slD e L)) H=some (.d (.i .i64 L.length)):=by
 cases L<;>simp [slD,qq7]
theorem qAa {k:IntKind} {n:Int} {size:Nat} (he:∀x,(e x).cells.length=size) (h0:0≤n) (h:L[n.toNat]?=some x):iaV (.d (slD e L)) (.d (.i k n)) size none=some (.cp (e x)):=by
 cases L with
 | nil=>simp at h
 | cons y l=>
  refine qxX h0 ?_ (by simp [he])
  rw [List.getElem?_map,h];rfl
end
theorem qbe {x:Int} (h1:-9223372036854775808≤x) (h2:x≤9223372036854775807):wr .i64 x=x:=by
 cases x with
 | ofNat a=>simp only [wr,qnc,qsf];rw [decide_eq_true (by rw [Int.ofNat_eq_natCast] at h2;omega)];rfl
 | negSucc a=>simp only [wr,qrK,qsf];rw [decide_eq_true (by omega)];rfl
theorem qkN {x:Int} (h1:0≤x) (h2:x≤255):wr .u8 x=x:=by
 cases x with
 | ofNat a=>simp only [wr,qnc,qsf];rw [decide_eq_true (by rw [Int.ofNat_eq_natCast] at h2;omega)];rfl
 | negSucc a=>have:=Int.negSucc_lt_zero a;omega
end W
/-
  What arguments read as, kind by kind.
-/
set_option linter.unusedSimpArgs false
set_option linter.unusedVariables false
namespace W
open Go (World Value Addr IntKind Program TypeId FuncId Func DataW MemPlace TypeDesc Lit)
theorem qfS {n a b:Nat} (h:look ((List.range n).map fun i=>(i,i)) a=some b):a=b:=by
 have key:∀(l:List Nat),look (l.map fun i=>(i,i)) a=some b→a=b:=by
  intro l
  induction l with
  | nil=>intro h;cases h
  | cons x l ih=>
   intro h
   simp only [List.map_cons,look,qIU] at h
   split at h
   ·rename_i hb
    cases h
    exact qIX hb
   ·exact ih h
 exact key _ h
variable {P:Program} {t e:TypeId} {x:D}
theorem qvh {k:IntKind} (hu:P.underlying t=some (.int k)) (h:Arg P t x):∃z,x=.i k z∧(Lit.int k z).wf=true:=by
 obtain ⟨n,xs,ht,rfl⟩:=h
 cases n with
 | zero=>exact ht.elim
 | succ n=>
  simp only [Ty,hu] at ht
  obtain ⟨z,rfl,hw⟩:=ht
  exact ⟨z,by simp [qcu,hu,elD],hw⟩
inductive SlD {α:Type} (e:α→D):D→List α→Prop
 | nil:SlD e .nil []
 | sl (L:List α):SlD e (.sl (L.map e)) L
theorem SlD.len {α:Type} {e:α→D} {x:D} {L:List α} (h:SlD e x L) {H:List Obj}:qq7 .lenL (.d x) H=some (.d (.i .i64 L.length)):=by
 cases h with
 | nil=>rfl
 | sl=>simp [qq7]
end W
/-
  Tables of the library, as the rows list them.
-/
namespace W
def qey:D:=.agg [.i .u8 0,.i .u8 1,.i .u8 28,.i .u8 2,.i .u8 29,.i .u8 14,.i .u8 24,.i .u8 3,.i .u8 30,.i .u8 22,.i .u8 20,.i .u8 15,.i .u8 25,.i .u8 17,.i .u8 4,.i .u8 8,.i .u8 31,.i .u8 27,.i .u8 13,.i .u8 23,.i .u8 21,.i .u8 19,.i .u8 16,.i .u8 7,.i .u8 26,.i .u8 12,.i .u8 18,.i .u8 6,.i .u8 11,.i .u8 5,.i .u8 10,.i .u8 9]
def qe3:D:=.agg [.i .u8 0,.i .u8 1,.i .u8 56,.i .u8 2,.i .u8 57,.i .u8 49,.i .u8 28,.i .u8 3,.i .u8 61,.i .u8 58,.i .u8 42,.i .u8 50,.i .u8 38,.i .u8 29,.i .u8 17,.i .u8 4,.i .u8 62,.i .u8 47,.i .u8 59,.i .u8 36,.i .u8 45,.i .u8 43,.i .u8 51,.i .u8 22,.i .u8 53,.i .u8 39,.i .u8 33,.i .u8 30,.i .u8 24,.i .u8 18,.i .u8 12,.i .u8 5,.i .u8 63,.i .u8 55,.i .u8 48,.i .u8 27,.i .u8 60,.i .u8 41,.i .u8 37,.i .u8 16,.i .u8 46,.i .u8 35,.i .u8 44,.i .u8 21,.i .u8 52,.i .u8 32,.i .u8 23,.i .u8 11,.i .u8 54,.i .u8 26,.i .u8 40,.i .u8 15,.i .u8 34,.i .u8 20,.i .u8 31,.i .u8 10,.i .u8 25,.i .u8 14,.i .u8 19,.i .u8 9,.i .u8 13,.i .u8 8,.i .u8 7,.i .u8 6]
def qbM:D:=.agg [.i .u64 1,.i .u64 10,.i .u64 100,.i .u64 1000,.i .u64 10000,.i .u64 100000,.i .u64 1000000,.i .u64 10000000,.i .u64 100000000,.i .u64 1000000000,.i .u64 10000000000,.i .u64 100000000000,.i .u64 1000000000000,.i .u64 10000000000000,.i .u64 100000000000000,.i .u64 1000000000000000,.i .u64 10000000000000000,.i .u64 100000000000000000,.i .u64 1000000000000000000,.i .u64 10000000000000000000]
def qix:D:=.agg [.i .u8 0,.i .u8 0,.i .u8 0,.i .u8 0,.i .u8 0,.i .u8 0,.i .u8 0,.i .u8 0,.i .u8 0,.i .u8 1,.i .u8 1,.i .u8 1,.i .u8 1,.i .u8 1,.i .u8 0,.i .u8 0,.i .u8 0,.i .u8 0,.i .u8 0,.i .u8 0,.i .u8 0,.i .u8 0,.i .u8 0,.i .u8 0,.i .u8 0,.i .u8 0,.i .u8 0,.i .u8 0,.i .u8 0,.i .u8 0,.i .u8 0,.i .u8 0,.i .u8 1,.i .u8 0,.i .u8 0,.i .u8 0,.i .u8 0,.i .u8 0,.i .u8 0,.i .u8 0,.i .u8 0,.i .u8 0,.i .u8 0,.i .u8 0,.i .u8 0,.i .u8 0,.i .u8 0,.i .u8 0,.i .u8 0,.i .u8 0,.i .u8 0,.i .u8 0,.i .u8 0,.i .u8 0,.i .u8 0,.i .u8 0,.i .u8 0,.i .u8 0,.i .u8 0,.i .u8 0,.i .u8 0,.i .u8 0,.i .u8 0,.i .u8 0,.i .u8 0,.i .u8 0,.i .u8 0,.i .u8 0,.i .u8 0,.i .u8 0,.i .u8 0,.i .u8 0,.i .u8 0,.i .u8 0,.i .u8 0,.i .u8 0,.i .u8 0,.i .u8 0,.i .u8 0,.i .u8 0,.i .u8 0,.i .u8 0,.i .u8 0,.i .u8 0,.i .u8 0,.i .u8 0,.i .u8 0,.i .u8 0,.i .u8 0,.i .u8 0,.i .u8 0,.i .u8 0,.i .u8 0,.i .u8 0,.i .u8 0,.i .u8 0,.i .u8 0,.i .u8 0,.i .u8 0,.i .u8 0,.i .u8 0,.i .u8 0,.i .u8 0,.i .u8 0,.i .u8 0,.i .u8 0,.i .u8 0,.i .u8 0,.i .u8 0,.i .u8 0,.i .u8 0,.i .u8 0,.i .u8 0,.i .u8 0,.i .u8 0,.i .u8 0,.i .u8 0,.i .u8 0,.i .u8 0,.i .u8 0,.i .u8 0,.i .u8 0,.i .u8 0,.i .u8 0,.i .u8 0,.i .u8 0,.i .u8 0,.i .u8 0,.i .u8 0,.i .u8 0,.i .u8 0,.i .u8 0,.i .u8 0,.i .u8 0,.i .u8 0,.i .u8 0,.i .u8 0,.i .u8 0,.i .u8 0,.i .u8 0,.i .u8 0,.i .u8 0,.i .u8 0,.i .u8 0,.i .u8 0,.i .u8 0,.i .u8 0,.i .u8 0,.i .u8 0,.i .u8 0,.i .u8 0,.i .u8 0,.i .u8 0,.i .u8 0,.i .u8 0,.i .u8 0,.i .u8 0,.i .u8 0,.i .u8 0,.i .u8 0,.i .u8 0,.i .u8 0,.i .u8 0,.i .u8 0,.i .u8 0,.i .u8 0,.i .u8 0,.i .u8 0,.i .u8 0,.i .u8 0,.i .u8 0,.i .u8 0,.i .u8 0,.i .u8 0,.i .u8 0,.i .u8 0,.i .u8 0,.i .u8 0,.i .u8 0,.i .u8 0,.i .u8 0,.i .u8 0,.i .u8 0,.i .u8 0,.i .u8 0,.i .u8 0,.i .u8 0,.i .u8 0,.i .u8 0,.i .u8 0,.i .u8 0,.i .u8 0,.i .u8 0,.i .u8 0,.i .u8 0,.i .u8 0,.i .u8 0,.i .u8 0,.i .u8 0,.i .u8 0,.i .u8 0,.i .u8 0,.i .u8 0,.i .u8 0,.i .u8 0,.i .u8 0,.i .u8 0,.i .u8 0,.i .u8 0,.i .u8 0,.i .u8 0,.i .u8 0,.i .u8 0,.i .u8 0,.i .u8 0,.i .u8 0,.i .u8 0,.i .u8 0,.i .u8 0,.i .u8 0,.i .u8 0,.i .u8 0,.i .u8 0,.i .u8 0,.i .u8 0,.i .u8 0,.i .u8 0,.i .u8 0,.i .u8 0,.i .u8 0,.i .u8 0,.i .u8 0,.i .u8 0,.i .u8 0,.i .u8 0,.i .u8 0,.i .u8 0,.i .u8 0,.i .u8 0,.i .u8 0,.i .u8 0,.i .u8 0,.i .u8 0,.i .u8 0,.i .u8 0,.i .u8 0,.i .u8 0,.i .u8 0,.i .u8 0,.i .u8 0,.i .u8 0,.i .u8 0,.i .u8 0,.i .u8 0,.i .u8 0,.i .u8 0]
end W
/-
  Tables that the rows list are what the small semantics reads.
-/
set_option linter.unusedSimpArgs false
set_option linter.unusedVariables false
namespace W
open Go (World Value Addr IntKind Program TypeId FuncId Func DataW MemPlace Lit)
theorem qv3 {W:World} {b i:Nat} {v:Value} (h:W.cell? ⟨b,i,none⟩=some v):i<(g0 W).pub b:=by
 show i<(match W.heap[b]? with|some (.cells c _ _)=>c.size|_=>0)
 simp only [World.cell?] at h
 split at h
 ·rename_i c t f hb
  rw [hb]
  simp only [Option.isSome_none,qI1,if_false] at h
  exact (Array.getElem?_eq_some_iff.1 h).1
 ·cases h
theorem qsA {pub:Nat→Nat} {w:World} (k:IntKind):∀zs:List Int,RepDL pub w (zs.map (D.i k)) (zs.map fun z=>Value.int k z)
 | []=>.nil
 | z::zs=>.cons _ _ _ _ (.i k z) (qsA k zs)
theorem qpF {P:Program} {W:World} {name:String} {k:IntKind} {zs:List Int} {g:Nat} {t e:TypeId} {n:Nat}
  (hg:P.globalNamed name=some g) (hty:(P.globals[g]?).map (·.type)=some t) (ht:P.underlying t=some (.array n e)) (he:P.underlying e=some (.int k)) (hce:P.cellsOf e=1) (hct:P.cellsOf t=n) :
  ∀{laid:List (String × DataW Unit)} {ps:List MemPlace},DataW.LaidVars P W laid ps→(name,Go.Lib.tabData k zs) ∈ laid→Go.Lib.TabIs P W name k zs
 | [],_,_,hm=>by cases hm
 | (nm,d)::rest,ps,h,hm=>by
  obtain ⟨g',t',cs,fuel,p,q,hg',ht',hvar,hd,hrest,_⟩:=h
  rcases List.mem_cons.1 hm with e|hm
  ·cases e
   obtain rfl:=Option.some.inj (hg.symm.trans hg')
   obtain rfl:=Option.some.inj (hty.symm.trans ht')
   unfold Go.Lib.TabIs
   rw [hvar,←Go.Lib.cells_of_tab ht he hce hct hd]
  ·exact qpF hg hty ht he hce hct hrest hm
theorem qwO {M:Maps} {P:Program} {W:World} (h2:qBx M (g0 W) W) (h:∀n x,look M.gl n=some x→∃name k zs,P.globalNamed name=some n∧x=.agg (zs.map (D.i k))∧zs≠[]∧Go.Lib.TabIs P W name k zs):GlOk M (g0 W) W:=by
 refine ⟨?_,h2⟩
 intro n x hn
 obtain ⟨name,k,zs,hg,rfl,hne,ht⟩:=h n x hn
 refine ⟨zs.map fun z=>Value.int k z,qsA k zs,fun j v hj=>?_,?_⟩
 ·have hlt:j<zs.length:=by
   have:=(List.getElem?_eq_some_iff.1 hj).1
   simpa using this
  rw [Nat.zero_add,ht.cell hg j hlt]
  have:(zs.map fun z=>Value.int k z)[j]?=some (.int k (zs.getD j 0)):=by simp [List.getD,hlt]
  rw [this] at hj
  exact hj
 ·have hpos:0<zs.length:=by cases zs with|nil=>exact absurd rfl hne|cons=>simp
  have:=qv3 (ht.cell hg (zs.length - 1) (by omega))
  simp only [List.length_map]
  omega
end W
/- A program of which parts that a run doesn't reach are cut away: what it gives, the whole one gives. -/
set_option linter.unusedSimpArgs false
set_option linter.unusedVariables false
namespace W
open Go (World Value Program FuncId)
inductive Cut:C→C→Prop where
 | stuck (c:C):Cut c .stuck
 | skip:Cut .skip .skip
 | ops (l):Cut (.ops l) (.ops l)
 | opsD (l):Cut (.opsD l) (.opsD l)
 | seq {a a' b b':C} (h:Cut a a') (h':Cut b b'):Cut (.seq a b) (.seq a' b')
 | cond {a a' b b':C} (o) (h:Cut a a') (h':Cut b b'):Cut (.cond o a b) (.cond o a' b')
 | block {a a':C} (id live) (h:Cut a a'):Cut (.block id live a) (.block id live a')
 | loop {a a':C} (live) (h:Cut a a'):Cut (.loop live a) (.loop live a')
 | exit (id):Cut (.exit id) (.exit id)
 | ret:Cut .ret .ret
 | rangeB {a a' b b':C} (k l f p0 p1 live) (h:Cut a a') (h':Cut b b'):Cut (.rangeB k l f p0 p1 live a b) (.rangeB k l f p0 p1 live a' b')
 | rangeZ (k f live):Cut (.rangeZ k f live) (.rangeZ k f live)
theorem Cut.refl:∀c,Cut c c
 | .skip=>.skip
 | .ops l=>.ops l
 | .opsD l=>.opsD l
 | .seq a b=>.seq (refl a) (refl b)
 | .cond o a b=>.cond o (refl a) (refl b)
 | .block i l a=>.block i l (refl a)
 | .loop l a=>.loop l (refl a)
 | .exit i=>.exit i
 | .ret=>.ret
 | .stuck=>.stuck _
 | .rangeB k l f p0 p1 live a b=>.rangeB k l f p0 p1 live (refl a) (refl b)
 | .rangeZ k f live=>.rangeZ k f live
def ExCut (e e':C→St→Option (Ex × St)):Prop:=∀c' c,Cut c' c→∀st x,e c st=some x→e' c' st=some x
theorem ExCut.le {e e':C→St→Option (Ex × St)} (h:ExCut e e'):qpl e e':=fun c st x=>h c c (.refl c) st x
theorem qzb {c c':Call} {e e':C→St→Option (Ex × St)} (hc:qak c c') (he:ExCut e e') {x' x:C} (hx:Cut x' x) {st:St} {y:Ex × St} (h:step c e x st=some y):step c' e' x' st=some y:=by
 cases hx with
 | stuck=>cases h
 | skip=>exact h
 | ops l=>exact qdX hc l h
 | opsD l=>exact qfl hc l h
 | seq h1 h2=>
  simp only [step] at h ⊢
  rename_i a a' b b'
  cases ha:e a' st with
  | none=>rw [ha] at h;cases h
  | some p=>
   rw [ha] at h
   rw [he _ _ h1 _ _ ha]
   obtain ⟨ex,st1⟩:=p
   cases ex with
   | nrm=>exact he _ _ h2 _ _ h
   | _=>exact h
 | cond o h1 h2=>
  simp only [step] at h ⊢
  split at h
  ·rename_i hv;(try simp only [hv]);exact he _ _ h1 _ _ h
  ·rename_i hv;(try simp only [hv]);exact he _ _ h2 _ _ h
  ·cases h
 | block id live h1=>
  simp only [step] at h ⊢
  rename_i a a'
  cases ha:e a' st with
  | none=>rw [ha] at h;cases h
  | some p=>rw [ha] at h;rw [he _ _ h1 _ _ ha];exact h
 | loop live h1=>
  simp only [step] at h ⊢
  rename_i a a'
  cases ha:e a' {st with env:=restrict live st.env} with
  | none=>rw [ha] at h;cases h
  | some p=>
   rw [ha] at h
   rw [he _ _ h1 _ _ ha]
   obtain ⟨ex,st1⟩:=p
   cases ex with
   | nrm=>exact he _ _ (.loop live h1) _ _ h
   | _=>exact h
 | exit id=>exact h
 | ret=>exact h
 | rangeB k l f p0 p1 live h1 h2=>
  simp only [step] at h ⊢
  split at h
  ·rename_i k' c' hf
   (try simp only [hf])
   rw [qIU] at h ⊢
   split at h
   ·rename_i hk
    rw [if_pos hk]
    split at h
    ·rename_i n hn;(try simp only [hn]);exact qhi (he _ _ h1) (he _ _ h2) n h
    ·cases h
   ·cases h
  ·cases h
 | rangeZ k f live=>exact qqm hc he.le (x:=.rangeZ k f live) h
def qsB (fn0 fn:Fn):Prop:=∃c,fn={fn0 with body:=c}∧Cut fn0.body c
structure PgCut (pg' pg:Pg):Prop where
 some:∀i fn,pg.fn i=some fn→∃fn0,pg'.fn i=some fn0∧qsB fn0 fn
 none:∀i,pg.fn i=none→pg'.fn i=none
 ext:pg'.ext=pg.ext
theorem qkS {pg' pg:Pg} (hp:PgCut pg' pg) {e e':C→St→Option (Ex × St)} (he:ExCut e e') {fn:Fn} {H:List Obj} {h:Nat} {vs:List V} {v:V} {st:St} {r:Cr} (hh:handle pg e fn H h vs v st=some r):handle pg' e' fn H h vs v st=some r:=by
 obtain ⟨hf,d,st',h1,h2,h3,h6,h4,h5⟩:=qd6 hh
 obtain ⟨hf0,g1,c,rfl,g2⟩:=hp.some _ _ h1
 have h2':hf0.rcv=_:=h2
 have h3':hf0.np=_:=h3
 have h6':hf0.res=_:=h6
 unfold handle
 simp only [g1,h2',h3',h6',qnJ,List.isEmpty_nil,Bool.and_self,cond_true]
 rcases h4 with h4|h4<;>simp only [he _ _ g2 _ _ h4,h5]
theorem qra {pg' pg:Pg} (hp:PgCut pg' pg) {e e':C→St→Option (Ex × St)} (he:ExCut e e') {fn:Fn} {H:List Obj} {t:Nat} {rest:C} {st:St} {r:Cr} (hh:deferred pg e fn H t rest st=some r):deferred pg' e' fn H t rest st=some r:=by
 obtain ⟨h,first,cap,ex,st',v,h1,h2,h3,h4,h5⟩:=qbk hh
 unfold deferred
 simp only [h1,h2,cond_true]
 rcases h5 with ⟨h5|h5,rfl⟩|⟨rfl,h6⟩
 ·subst h5;simp only [he.le _ _ _ h3,qkS hp he h4]
 ·subst h5;simp only [he.le _ _ _ h3,qkS hp he h4]
 ·simp only [he.le _ _ _ h3,h6,cond_true,qkS hp he h4]
theorem qmc {pg' pg:Pg} (hp:PgCut pg' pg) {e e':C→St→Option (Ex × St)} (he:ExCut e e'):qak (qp pg e) (qp pg' e'):=by
 intro i vs H r h
 unfold qp at h ⊢
 cases hf:pg.fn i with
 | none=>rw [hf] at h;rw [hp.none _ hf,hp.ext];exact h
 | some fn=>
  obtain ⟨fn0,g1,c,rfl,g2⟩:=hp.some _ _ hf
  rw [hf] at h
  rw [g1]
  simp only at h ⊢
  split at h
  ·rename_i hn
   rw [if_pos hn]
   cases hb:e c {env:=kB 0 vs,H,lo:=H.length} with
   | none=>rw [hb] at h;cases h
   | some p=>
    rw [hb] at h;rw [he _ _ g2 _ _ hb]
    obtain ⟨ex,st⟩:=p
    cases ex with
    | nrm=>
     simp only at h ⊢
     cases hd:fn0.dfr with
     | none=>rw [hd] at h;exact h
     | some q=>
      obtain ⟨t,rest⟩:=q
      rw [hd] at h
      exact qra hp he h
    | _=>exact h
  ·cases h
theorem qoN {pg' pg:Pg} (hp:PgCut pg' pg):∀n,ExCut (exec pg n) (exec pg' n)
 | 0=>fun _ _ _ _ _ h=>by simp [exec] at h
 | n+1=>fun c' c hc st x h=>qzb (qmc hp (qoN hp n)) (qoN hp n) hc h
theorem qwR {pg' pg:Pg} (hp:PgCut pg' pg) (n:Nat):qak (zu pg n) (zu pg' n):=qmc hp (qoN hp n)
def qjq:C→Nat→C × Nat
 | .seq a b,n=>match qjq a (n / 2) with
  | (a',m)=>bif qI0 (n % 2) 1 then (match qjq b m with|(b',m')=>(.seq a' b',m')) else (.seq a' .stuck,m)
 | .cond o a b,n=>match (bif qI0 (n % 2) 1 then qjq a (n / 2) else (.stuck,n / 2):C × Nat) with
  | (a',m)=>match (bif qI0 (m % 2) 1 then qjq b (m / 2) else (.stuck,m / 2):C × Nat) with
   | (b',m')=>(.cond o a' b',m')
 | .block i l a,n=>match qjq a n with|(a',m)=>(.block i l a',m)
 | .loop l a,n=>match qjq a n with|(a',m)=>(.loop l a',m)
 | .rangeB k l f p0 p1 live a b,n=>match qjq a n with
  | (a',m)=>match qjq b m with|(b',m')=>(.rangeB k l f p0 p1 live a' b',m')
 | c,n=>(c,n)
theorem qhD:∀c n,Cut c (qjq c n).1
 | .seq a b,n=>by
  unfold qjq
  have h1:=qhD a (n / 2)
  have h2:=qhD b (qjq a (n / 2)).2
  cases h:qI0 (n % 2) 1 with
  | true=>simp only [h,cond_true];exact .seq h1 h2
  | false=>simp only [h,cond_false];exact .seq h1 (.stuck _)
 | .cond o a b,n=>by
  unfold qjq
  have h1:Cut a (bif qI0 (n % 2) 1 then qjq a (n / 2) else (.stuck,n / 2):C × Nat).1:=by
   cases h:qI0 (n % 2) 1 with
   | true=>exact qhD a _
   | false=>exact .stuck _
  generalize (bif qI0 (n % 2) 1 then qjq a (n / 2) else (.stuck,n / 2):C × Nat)=p at h1 ⊢
  obtain ⟨a',m⟩:=p
  have h2:Cut b (bif qI0 (m % 2) 1 then qjq b (m / 2) else (.stuck,m / 2):C × Nat).1:=by
   cases h:qI0 (m % 2) 1 with
   | true=>exact qhD b _
   | false=>exact .stuck _
  simp only
  generalize (bif qI0 (m % 2) 1 then qjq b (m / 2) else (.stuck,m / 2):C × Nat)=p at h2 ⊢
  obtain ⟨b',m'⟩:=p
  exact .cond o h1 h2
 | .block i l a,n=>.block i l (qhD a n)
 | .loop l a,n=>.loop l (qhD a n)
 | .rangeB k l f p0 p1 live a b,n=>.rangeB k l f p0 p1 live (qhD a n) (qhD b _)
 | .skip,_=>.skip
 | .ops l,_=>.ops l
 | .opsD l,_=>.opsD l
 | .exit i,_=>.exit i
 | .ret,_=>.ret
 | .stuck,_=>.stuck _
 | .rangeZ k f live,_=>.rangeZ k f live
def qBH (n:Nat) (fn:Fn):Fn:={fn with body:=(qjq fn.body n).1}
theorem qIe (n:Nat) (fn:Fn):qsB fn (qBH n fn):=⟨_,rfl,qhD _ _⟩
def qok (P:Program) (M:Maps) (pg:Pg):Prop:=
 ∀f' i,look M.fm f'=some i→∀fn',pg.fn i=some fn'→∃fn A own fn0,P.funcs[f']?=some fn∧(fn.name == "runtime.NumGoroutine")=false∧qdS M P A own fn=some fn0∧qsB fn0 fn'
def qa (P:Program) (M:Maps) (i:Nat) (fn':Fn):Prop:=∃fn A own fn0,P.funcs[i]?=some fn∧(fn.name == "runtime.NumGoroutine")=false∧qdS M P A own fn=some fn0∧qsB fn0 fn'
theorem qb {P:Program} {M:Maps} {i:Nat} {fn':Fn} {fn:Go.Func} (h:P.funcs[i]?=some fn) (A:Ann) (own:Bool) (n:Nat) (hn:(fn.name == "runtime.NumGoroutine")=false) (ht:(qdS M P A own fn).map (qBH n)=some fn'):qa P M i fn':=by
 obtain ⟨fn0,h1,h2⟩:=Option.map_eq_some_iff.1 ht
 exact ⟨fn,A,own,fn0,h,hn,h1,h2▸qIe n fn0⟩
theorem qal {P:Program} {M:Maps} {i:Nat} {fn':Fn} {fn:Go.Func} {A:Ann} {own:Bool} (h:P.funcs[i]?=some fn) (hn:(fn.name == "runtime.NumGoroutine")=false) (ht:qdS M P A own fn=some fn'):qa P M i fn':=⟨fn,A,own,fn',h,hn,ht,_,rfl,.refl _⟩
def qsJ (n:Nat):List (Nat × Fn)→Option Fn
 | []=>none
 | p::l=>bif qI0 n p.1 then some p.2 else qsJ n l
theorem qpY {n:Nat} {f:Fn}:∀{l:List (Nat × Fn)},qsJ n l=some f→(n,f) ∈ l
 | [],h=>by cases h
 | (k,g)::l,h=>by
  unfold qsJ at h
  rw [qIU] at h
  split at h
  ·rename_i hb
   cases h
   obtain rfl:=qIX hb
   exact .head _
  ·exact .tail _ (qpY h)
inductive RowsOk (P:Program) (M:Maps):List (Nat × Fn)→Prop
 | nil:RowsOk P M []
 | cons {i:Nat} {f:Fn} {T:List (Nat × Fn)} (h:qa P M i f) (t:RowsOk P M T):RowsOk P M ((i,f)::T)
theorem RowsOk.all {P:Program} {M:Maps} {T:List (Nat × Fn)} (h:RowsOk P M T):∀p ∈ T,qa P M p.1 p.2:=by
 induction h with
 | nil=>intro p hp;cases hp
 | cons h t ih=>
  intro p hp
  cases hp with
  | head=>exact h
  | tail _ hp=>exact ih p hp
theorem qyo {P:Program} {M:Maps} {pg:Pg} {T:List (Nat × Fn)} (hT:∀p ∈ T,qa P M p.1 p.2) (hp:∀i fn,pg.fn i=some fn→qsJ i T=some fn) (hid:∀f' i,look M.fm f'=some i→f'=i):qok P M pg:=fun f' i hl fn' hf=>by
 obtain rfl:=hid _ _ hl
 exact hT _ (qpY (hp _ _ hf))
theorem whole {P:Program} {M:Maps} {pg:Pg} (hT:qok P M pg) (hid:∀f' i,look M.fm f'=some i→f'=i):∃pg',qHE P M pg'∧PgCut pg' pg:=by
 have key:∀i fn,pg.fn i=some fn→∃fn0,qsB fn0 fn∧∀f',look M.fm f'=some i→∃fn A own,P.funcs[f']?=some fn∧(fn.name == "runtime.NumGoroutine")=false∧qdS M P A own fn=some fn0:=fun i fn h=>by
  cases hl:look M.fm i with
  | none=>exact ⟨fn,⟨_,rfl,.refl _⟩,fun f' hf=>by rw [hid _ _ hf,hl] at hf;cases hf⟩
  | some j=>
   have e:=hid _ _ hl
   subst e
   obtain ⟨fn1,A,own,fn0,h1,h2,h3,h4⟩:=hT _ _ hl _ h
   exact ⟨fn0,h4,fun f' hf=>by rw [hid _ _ hf];exact ⟨fn1,A,own,h1,h2,h3⟩⟩
 refine ⟨⟨fun i=>match h:pg.fn i with|none=>none|some fn=>some (key i fn h).choose,pg.ext⟩,?_,?_,?_,rfl⟩
 ·intro f' i hl fn' hf
  simp only at hf
  split at hf
  ·cases hf
  ·rename_i fn h
   cases hf
   exact (key i fn h).choose_spec.2 f' hl
 ·intro i fn h
  refine ⟨(key i fn h).choose,?_,(key i fn h).choose_spec.1⟩
  simp only
  split
  ·rename_i h';rw [h] at h';cases h'
  ·rename_i fn2 h'
   rw [h] at h';cases h';rfl
 ·intro i h
  simp only
  split
  ·rfl
  ·rename_i fn2 h';rw [h] at h';cases h'
theorem qzt {P:Program} {M:Maps} {pg:Pg} (hm:P.follows .mixedOrders=true) (hT:qok P M pg) (hB:qrj P M) (hid:∀f' i,look M.fm f'=some i→f'=i) (hx:qx P M pg.ext) (hxlo:qz pg.ext) (n:Nat):qx P M (zu pg n):=by
 obtain ⟨pg',h1,h2⟩:=whole hT hid
 have hs:=sound hm ⟨h1,hB⟩ (by rw [h2.ext];exact hx) (by rw [h2.ext];exact hxlo) n
 intro i vs H r h
 exact hs i vs H r (qwR h2 n i vs H r h)
end W
