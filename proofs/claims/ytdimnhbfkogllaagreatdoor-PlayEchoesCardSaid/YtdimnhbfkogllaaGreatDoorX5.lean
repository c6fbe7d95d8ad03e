/-
  PlayEchoes, part 5.
-/
import Derived.Lib.LaidTab
import Derived.Test.YtdimnhbfkogllaaGreatDoorX4
set_option linter.unusedSimpArgs false
set_option linter.unusedVariables false
/-
  Equations for walking code whose data are terms: memory, slices, texts, maps.
-/
open Bool renaming cond_eq_ite->qSH,and_eq_true->qSI,false_eq_true->qSO,and_self->qSP,not_true->qSW
open Nat renaming le_refl->qSJ,eq_of_beq_eq_true->qSL,beq->qSN,zero_add->qSV,le_of_ble_eq_true->qSY
open Option renaming bind_eq_some_iff->qSK,bind_eq_bind->qSM,pure_def->qSQ,map_some->qSU
open List renaming map_cons->qSR,length_cons->qSS,length_nil->qST,cons_append->qSX,getElem?_cons_zero->qSZ,length_append->qS0,map_nil->qS1,nil_append->qS2
namespace W
open Go (IntKind BinOp UnOp)
variable {pg:Pg} {call:Call} {st:St} {p:Prop} [Decidable p]
def faV (v:V) (off:Nat) (l:L):Option V:=
 match v with
 | .ptr id o=>some (.ptr id (o+off))
 | .lp s o=>some (.lp s (o+off))
 | .cp (.agg cs)=>match D.part off l cs with
  | some y=>if l.agg || y.one then some (.cp y) else none
  | none=>none
 | _=>none
theorem yn {x:O} {off:Nat} {l:L}:qa call (.fieldAddr x off l) st=okS (faV (rd st.env x) off l) st:=by
 show qX x off l st=_
 unfold qX faV
 cases rd st.env x with
 | cp w=>
  cases w with
  | agg cs=>
   simp only
   cases D.part off l cs with
   | none=>rfl
   | some y=>simp only;split<;>rfl
  | _=>rfl
 | _=>rfl
theorem qxT {i o off:Nat} {l:L}:faV (.ptr i o) off l=some (.ptr i (o+off)):=(rfl)
theorem qx3 {i o off:Nat} {l:L}:faV (.lp i o) off l=some (.lp i (o+off)):=(rfl)
theorem qG1 {x:Bool}:D.one (.b x)=true:=(rfl)
theorem qCf {k:IntKind} {x:Int}:D.one (.i k x)=true:=(rfl)
theorem qOJ {x:List D}:D.one (.sl x)=true:=(rfl)
theorem qHC:D.one .nil=true:=(rfl)
def qCm (l:L) (off:Nat) (o:Option Obj):Option V:=
 match o with
 | some (.cells cs)=>V.part off l cs
 | some (.row _ cs)=>V.part off l cs
 | _=>none
def qpS (sl:Option Nat) (l:L) (st:St) (v:V):Option V:=
 bif !qz sl v then none else qH l st v
theorem qfn {sl:Option Nat} {l:L} {a:O}:qa call (.load false sl l a) st=okS (qpS sl l st (rd st.env a)) st:=by
 show zD false sl l a st=_
 unfold zD qpS
 cases qz sl (rd st.env a) with
 | false=>rfl
 | true=>simp only [qSW,cond_false];cases qH l st (rd st.env a)<;>rfl
theorem qDI {l:L} {i o:Nat}:qpS none l st (.ptr i o)=qCm l o (st.H[i]?):=by
 simp only [qpS,qz,qSW,cond_false,qH,qCm]
 all_goals rfl
theorem qIf {o:Nat} {cs:List V}:qCm ⟨1,false⟩ o (some (.cells cs))=(cs[o]?).map zK:=by simp [qCm,V.part]
def qDP (l:L) (o:Nat) (v:V):Option V:=
 match v with
 | .box cs=>V.part o l cs
 | _=>none
theorem qp4 {l:L} {s o:Nat}:qpS (some s) l st (.lp s o)=qDP l o (get s st.env):=by
 simp only [qpS,qz,qs2,decide_true,qSW,cond_false,qH,qDP]
 all_goals rfl
theorem qyD {o:Nat} {cs:List V}:qDP ⟨1,false⟩ o (.box cs)=(cs[o]?).map zK:=by simp [qDP,V.part]
theorem qsi {o n:Nat} {cs:List V} (h:(o+n<=cs.length)=True):qDP ⟨n,true⟩ o (.box cs)=some (qdg (((cs.drop o).take n).map zK)):=by simp [qDP,V.part,h]
theorem qt6 {k:IntKind} {n:Int}:qpS none ⟨1,false⟩ st (.cp (.i k n))=some (.d (.i k n)):=(rfl)
theorem qpP {cs:List D} {n:Nat} (h:(cs.length=n)=True):qpS none ⟨n,true⟩ st (.cp (.agg cs))=some (.d (.agg cs)):=by
 simp [qpS,qz,qH,h]
theorem qqa {a:O}:qa call (.load true none ⟨1,false⟩ a) st=(match rd st.env a with
  | .ptr i o=>(match st.H[i]? with
   | some (.cells cs)=>(match cs[o]? with
    | some v=>some ⟨false,false,v,{st with H:=qq st.H i (.cells (cs.set o .undef)),lo:=min st.lo i}⟩
    | none=>none)
   | _=>none)
  | _=>none):=by
 show zD true none ⟨1,false⟩ a st=_
 unfold zD
 cases rd st.env a with
 | ptr i o=>
  simp only [qz,qSW,cond_false,cond_true,qmJ]
  cases st.H[i]? with
  | none=>rfl
  | some ob=>
   cases ob with
   | cells cs=>simp only;cases cs[o]?<;>rfl
   | _=>rfl
 | lp s o=>simp [qz]
 | _=>rfl
def qst (sl:Option Nat) (l:L) (x v:V) (st:St):Option Or:=
 match sl,v with
 | none,.ptr i o=>(match st.H[i]? with
  | some (.cells cs)=>if x.cells.length=l.n && V.ones x.cells then (match qL cs o x.cells with
   | some cs'=>some ⟨false,false,.undef,{st with H:=qq st.H i (.cells cs'),lo:=min st.lo i}⟩
   | none=>none) else none
  | some (.row k cs)=>if x.cells.length=l.n && V.ones x.cells && V.ok.oks x.cells then (match qL cs o x.cells with
   | some cs'=>some ⟨false,false,.undef,{st with H:=qq st.H i (.row k cs'),lo:=min st.lo i}⟩
   | none=>none) else none
  | _=>none)
 | some s,.lp s' o=>bif qSN s s' then (match get s' st.env with
  | .box cs=>if x.cells.length=l.n && V.ones x.cells then (match qL cs o x.cells with
   | some cs'=>some ⟨false,true,.undef,{st with env:=(s',.box cs')::st.env}⟩
   | none=>none) else none
  | _=>none) else none
 | _,_=>none
theorem qgS {sl:Option Nat} {l:L} {a x:O}:qa call (.store sl l a x) st=qst sl l (rd st.env x) (rd st.env a) {st with env:=spent x st.env}:=by
 show qaz sl l a x st=_
 unfold qaz qst
 cases rd st.env a with
 | ptr i o=>
  cases sl with
  | none=>
   simp only [qz,qSW,cond_false,qai]
   cases st.H[i]? with
   | none=>rfl
   | some ob=>
    cases ob with
    | cells cs=>
     simp only
     cases (decide ((rd st.env x).cells.length=l.n) && V.ones (rd st.env x).cells) with
     | true=>simp only [if_true];cases qL cs o (rd st.env x).cells<;>rfl
     | false=>rfl
    | row k cs=>
     simp only
     cases (decide ((rd st.env x).cells.length=l.n) && V.ones (rd st.env x).cells && V.ok.oks (rd st.env x).cells) with
     | true=>simp only [if_true];cases qL cs o (rd st.env x).cells<;>rfl
     | false=>rfl
    | _=>rfl
  | some s=>simp [qz]
 | lp s o=>
  cases sl with
  | none=>simp [qz]
  | some s'=>
   simp only [qz,qai]
   cases qSN s' s with
   | false=>rfl
   | true=>
    simp only [qSW,cond_false,cond_true]
    cases get s (spent x st.env) with
    | box cs=>
     simp only
     cases (decide ((rd st.env x).cells.length=l.n) && V.ones (rd st.env x).cells) with
     | true=>simp only [if_true];cases qL cs o (rd st.env x).cells<;>rfl
     | false=>rfl
    | _=>rfl
 | _=>cases sl<;>first|rfl|simp [qz,qai]
def qts (i:Nat) (st:St) (r:Option (List V)):Option Or:=
 match r with
 | some cs'=>some ⟨false,false,.undef,{st with H:=qq st.H i (.cells cs'),lo:=min st.lo i}⟩
 | none=>none
def qCl (i:Nat) (k:L) (st:St) (r:Option (List V)):Option Or:=
 match r with
 | some cs'=>some ⟨false,false,.undef,{st with H:=qq st.H i (.row k cs'),lo:=min st.lo i}⟩
 | none=>none
def qxV (l:L) (x:V) (o i:Nat) (st:St) (ob:Option Obj):Option Or:=
 match ob with
 | some (.cells cs)=>if x.cells.length=l.n && V.ones x.cells then qts i st (qL cs o x.cells) else none
 | some (.row k cs)=>if x.cells.length=l.n && V.ones x.cells && V.ok.oks x.cells then qCl i k st (qL cs o x.cells) else none
 | _=>none
theorem qAj {l:L} {x:V} {i o:Nat}:qst none l x (.ptr i o) st=qxV l x o i st (st.H[i]?):=by
 simp only [qst,qxV,qts,qCl]
theorem qri {l:L} {x:V} {i o:Nat} {cs:List V} (h1:(x.cells.length=l.n)=True) (h2:V.ones x.cells=true):qxV l x o i st (some (.cells cs))=qts i st (qL cs o x.cells):=by
 simp only [qxV,h1,h2,decide_true,qSP,if_true]
theorem qqf {i:Nat} {cs:List V}:qts i st (some cs)=some ⟨false,false,.undef,⟨st.env,qq st.H i (.cells cs),min st.lo i⟩⟩:=(rfl)
def qyf (l:L) (x:V) (o s:Nat) (st:St) (b:V):Option Or:=
 match b with
 | .box cs=>if x.cells.length=l.n && V.ones x.cells then (match qL cs o x.cells with
   | some cs'=>some ⟨false,true,.undef,{st with env:=(s,.box cs')::st.env}⟩
   | none=>none) else none
 | _=>none
theorem qw9 {l:L} {x:V} {s o:Nat}:qst (some s) l x (.lp s o) st=qyf l x o s st (get s st.env):=by
 simp only [qst,qs2,decide_true,cond_true,qyf]
def qA1 (s:Nat) (st:St) (r:Option (List V)):Option Or:=
 match r with
 | some cs'=>some ⟨false,true,.undef,{st with env:=(s,.box cs')::st.env}⟩
 | none=>none
theorem qvi {l:L} {x:V} {s o:Nat} {cs:List V} (h1:(x.cells.length=l.n)=True) (h2:V.ones x.cells=true):qyf l x o s st (.box cs)=qA1 s st (qL cs o x.cells):=by
 simp only [qyf,h1,h2,decide_true,qSP,if_true,qA1]
theorem qsH {s:Nat} {cs:List V}:qA1 s st (some cs)=some ⟨false,true,.undef,{st with env:=(s,.box cs)::st.env}⟩:=(rfl)
theorem qpj {cs:List V} {o:Nat} {v:V} (h:(o<cs.length)=True):qL cs o [v]=some (cs.set o v):=by
 have h:o<cs.length:=by rw [h];trivial
 simp only [qL,List.length_singleton]
 rw [if_pos (by omega),List.set_eq_take_append_cons_drop,if_pos h];simp
theorem qt7 {x:D} (h:x.one=true):V.cells (.d x)=[.d x]:=by cases x<;>first|rfl|cases h
theorem qnl {cs:List D}:V.cells (.d (.agg cs))=cs.map .d:=(rfl)
theorem qw5 {xs:List D}:V.cells (.osl xs)=[.osl xs]:=(rfl)
theorem qq8:V.ones []=true:=(rfl)
theorem qnz {v:V} {vs:List V}:V.ones (v::vs)=(v.one && V.ones vs):=(rfl)
theorem qxk {x:D}:V.one (.d x)=x.one:=(rfl)
theorem qz7 {x:List D}:V.one (.osl x)=true:=(rfl)
theorem qGs {ds:List D} (h:D.ones ds=true):V.ones (ds.map .d)=true:=by
 induction ds with
 | nil=>rfl
 | cons d l ih=>simp only [D.ones,qSI] at h;simp only [qSR,V.ones,V.one,h.1,ih h.2,qSP]
theorem qp0 {zero:List D}:qa call (.alloc true zero) st=some ⟨false,true,.box (zero.map .d),st⟩:=(rfl)
def qIq (loc:Bool) (v:V) (st:St):Option Or:=
 if V.ones v.cells then (bif loc then some ⟨false,true,.box v.cells,st⟩ else some ⟨false,false,.ptr st.H.length 0,{st with H:=st.H++[.cells v.cells]}⟩) else none
theorem qwy {loc:Bool} {x:O}:qa call (.box loc x) st=qIq loc (rd st.env x) {st with env:=spent x st.env}:=by
 show qte loc x st=_
 simp only [qte,qIq]
 cases h:V.ones (rd st.env x).cells<;>cases loc<;>simp [h,ok,okH]
theorem qGG {v:V} (h:V.ones v.cells=true):qIq true v st=some ⟨false,true,.box v.cells,st⟩:=by simp [qIq,h]
def qqb (cells:List V) (ps:List (Nat × Nat × V)):Option (List V):=bif !j9 ps then none else fill cells ps
def qQX (r:Option (List V)):Option V:=match r with|some cs=>some (qdg cs)|none=>none
theorem qsT {zero:List D} {ps:List (Nat × Nat × O)}:qa call (.build zero ps) st=okS (qQX (qqb (zero.map .d) (ps.map fun (o,s,x)=>(o,s,rd st.env x)))) st:=by
 show qa0 zero ps st=_
 unfold qa0 qqb
 cases j9 (ps.map fun (o,s,x)=>(o,s,rd st.env x)) with
 | false=>rfl
 | true=>simp only [qSW,cond_false];cases fill (zero.map .d) (ps.map fun (o,s,x)=>(o,s,rd st.env x))<;>rfl
theorem qwW {cs:List V}:qqb cs []=some cs:=(rfl)
theorem qCK {cs:List V} {o:Nat} {v:V} {ps:List (Nat × Nat × V)} (h:v.cells=[v]) (hv:v.one=true) (ho:(o<cs.length)=True):qqb cs ((o,1,v)::ps)=qqb (cs.set o v) ps:=by
 have ho:o<cs.length:=by rw [ho];trivial
 simp only [qqb,j9,h,V.ones,hv,Bool.true_and,fill,List.length_singleton]
 cases j9 ps with
 | false=>rfl
 | true=>
  simp only [qSW,cond_false]
  rw [if_pos ⟨trivial,by omega⟩,List.set_eq_take_append_cons_drop,if_pos ho];simp
theorem qB6 {cs:List V} {o n:Nat} {ds:List D} {ps:List (Nat × Nat × V)} (h:(ds.length=n)=True) (hv:D.ones ds=true) (ho:(o+n<=cs.length)=True) :
  qqb cs ((o,n,.d (.agg ds))::ps)=qqb (cs.take o++ds.map .d++cs.drop (o+n)) ps:=by
 have ho:o+n<=cs.length:=by rw [ho];trivial
 have h:ds.length=n:=by rw [h];trivial
 have hv':V.ones (ds.map .d)=true:=qGs hv
 simp only [qqb,j9,V.cells,hv',Bool.true_and,fill,List.length_map,h]
 cases j9 ps with
 | false=>rfl
 | true=>
  simp only [qSW,cond_false]
  rw [if_pos ⟨trivial,ho⟩]
theorem qw6 {cs:List V}:qQX (some cs)=some (qdg cs):=(rfl)
def qQR (cs:List V) (r:Option (List D)):V:=match r with|some ds=>.d (.agg ds)|none=>.agg cs
theorem qqY {cs:List V}:qdg cs=qQR cs (yK cs):=(rfl)
theorem qnn {cs:List V} {ds:List D}:qQR cs (some ds)=.d (.agg ds):=(rfl)
def qI2 (x:D) (r:Option (List D)):Option (List D):=match r with|some r=>some (x::r)|none=>none
theorem qjX {x:D} {r:List D}:qI2 x (some r)=some (x::r):=(rfl)
theorem qqy:yK []=some []:=(rfl)
theorem qyj {x:D} {l:List V}:yK (.d x::l)=qI2 x (yK l):=(rfl)
def slO (r:Option (List D)):Option V:=match r with|some xs=>if D.wfs xs then some (.osl xs) else none|none=>none
theorem qak {zero:D} {n:Nat} {ps:List (Nat × O)}:qa call (.buildSlice zero n ps) st=okS (slO (qdS zero.cells.length (List.replicate n zero) (ps.map fun (j,x)=>(j,rd st.env x)))) st:=by
 show qZ zero n ps st=_
 unfold qZ slO
 cases qdS zero.cells.length (List.replicate n zero) (ps.map fun (j,x)=>(j,rd st.env x)) with
 | none=>rfl
 | some xs=>simp only;split<;>rfl
theorem qnj {z:Nat} {es:List D}:qdS z es []=some es:=(rfl)
theorem qjY {z j:Nat} {es:List D} {x:D} {r:List (Nat × V)} (h:(x.cells.length=z)=True) (hj:(j<es.length)=True):qdS z es ((j,.d x)::r)=qdS z (es.set j x) r:=by
 simp [qdS,h,hj]
theorem qqX {xs:List D} (h:D.wfs xs=true):slO (some xs)=some (.osl xs):=by simp [slO,h]
theorem qty:D.wfs []=true:=(rfl)
theorem qre {x:D} {l:List D}:D.wfs (x::l)=(x.wf && D.wfs l):=(rfl)
theorem qGm {x:D} (h:x.one=true):x.wf=true:=by cases x<;>first|rfl|cases h
theorem qHc {cs:List D}:D.wf (.agg cs)=D.ones cs:=(rfl)
theorem qwZ:D.ones []=true:=(rfl)
theorem qtX {x:D} {l:List D}:D.ones (x::l)=(x.one && D.ones l):=(rfl)
theorem qze {k:IntKind} {x:Int}:D.cells (.i k x)=[.i k x]:=(rfl)
theorem qjT {cs:List D}:D.cells (.agg cs)=cs:=(rfl)
def qNN (v:Option V) (e:Env) (st:St):Option Or:=match v with|some v=>some ⟨false,true,v,{st with env:=e}⟩|none=>none
theorem qej {size bytes:Nat} {x y:O}:qa call (.bi (.append size bytes) [x,y]) st=qNN (z8 size bytes (rd st.env x) (rd st.env y)) (spent x st.env) st:=by
 show j7 size bytes x y st=_
 unfold j7 qNN
 cases z8 size bytes (rd st.env x) (rd st.env y)<;>rfl
theorem qnr {v:V} {e:Env}:qNN (some v) e st=some ⟨false,true,v,⟨e,st.H,st.lo⟩⟩:=(rfl)
theorem qsN {z:Nat} {x:D} {l:List D}:qM z (x::l)=qSN x.cells.length z:=(rfl)
theorem qx4 {z b:Nat} {y:D} {ys:List D} (h:qM z (y::ys)=true) (hr:roomy b (y::ys).length=true):z8 z b (.d .nil) (.d (.sl (y::ys)))=some (.osl (y::ys)):=by
 simp only [z8,h,hr,qSP,cond_true]
theorem qIG {z b:Nat} {xs ys:List D} (hx:qM z xs=true) (h:qM z ys=true) (hr:roomy b (xs.length+ys.length)=true):z8 z b (.osl xs) (.d (.sl ys))=some (.osl (xs++ys)):=by
 simp [z8,hx,h,hr]
def iaV (v i:V) (size:Nat) (arr:Option Nat):Option V:=
 match i with
 | .d (.i _ n)=>match arr with
  | some len=>bif leI 0 n && !leI len n then (match v with
    | .ptr id o=>some (.ptr id (o+n.toNat * size))
    | .lp s o=>some (.lp s (o+n.toNat * size))
    | .cp (.agg cs)=>bif qSN size 1 then (match cs[n.toNat]? with
     | some y=>if y.one then some (.cp y) else none
     | none=>none) else none
    | _=>none) else none
  | none=>bif leI 0 n then (match v with
    | .d (.sl xs)=>(match xs[n.toNat]? with
     | some y=>bif qSN y.cells.length size then some (.cp y) else none
     | none=>none)
    | .rs id o len _=>bif !leI len n && qSN size 1 then some (.ptr id (o+n.toNat)) else none
    | .row id sz len=>bif !leI len n && qSN size sz then some (.ptr id (n.toNat * sz)) else none
    | _=>none) else none
 | _=>none
theorem qdp {x i:O} {size:Nat} {arr:Option Nat}:qa call (.indexAddr x i size arr) st=okS (iaV (rd st.env x) (rd st.env i) size arr) st:=by
 show qW x i size arr st=_
 unfold qW iaV
 cases rd st.env i with
 | d w=>
  cases w with
  | i k n=>
   cases arr with
   | some len=>
    simp only [jY]
    cases leI 0 n && !leI len n with
    | false=>rfl
    | true=>
     simp only [cond_true]
     cases rd st.env x with
     | cp w=>
      cases w with
      | agg cs=>
       simp only
       cases qSN size 1 with
       | false=>rfl
       | true=>
        simp only [cond_true]
        cases cs[n.toNat]? with
        | none=>rfl
        | some y=>simp only;split<;>rfl
      | _=>rfl
     | _=>rfl
   | none=>
    simp only [z7]
    cases leI 0 n with
    | false=>rfl
    | true=>
     simp only [cond_true]
     cases rd st.env x with
     | d u=>
      cases u with
      | sl xs=>
       simp only
       cases xs[n.toNat]? with
       | none=>rfl
       | some y=>simp only;cases qSN y.cells.length size<;>rfl
      | _=>rfl
     | rs id o len c=>simp only;cases !leI len n && qSN size 1<;>rfl
     | row id sz len=>simp only;cases !leI len n && qSN size sz<;>rfl
     | _=>rfl
  | _=>rfl
 | _=>rfl
theorem qGi {xs:List D} {k:IntKind} {n:Int} {size:Nat} {y:D} (h0:0<=n) (h:xs[n.toNat]?=some y) (hy:(y.cells.length=size)=True):iaV (.d (.sl xs)) (.d (.i k n)) size none=some (.cp y):=by
 have hy:y.cells.length=size:=by rw [hy];trivial
 simp [iaV,jG,h0,h,qs2,hy]
theorem qDT {l:List O}:qa call (.bi .min l) st=okS (qrH (l.map (rd st.env))) st:=by
 show (match qrH (l.map (rd st.env)) with|some v=>ok v st|none=>none)=_
 cases qrH (l.map (rd st.env))<;>rfl
theorem qJw {k k':IntKind} {m n:Int}:qrH [.d (.i k m),.d (.i k' n)]=some (.d (.i k (if n<m then n else m))):=(rfl)
end W
/-
  Slices of encoded elements; dictionaries; integers that fit.
-/
namespace W
open Go (IntKind BinOp UnOp)
section
variable {α:Type} {e:α->D} {L:List α} {x:α} {st:St} {pg:Pg}
def slV (e:α->D) (L:List α):V:=match L with | []=>.d .nil|x::l=>.osl ((x::l).map e)
def slD (e:α->D) (L:List α):D:=match L with | []=>.nil|x::l=>.sl ((x::l).map e)
theorem qEL {n:Nat}:qf3 n (slV e L)=.d (slD e L):=by cases L<;>rfl
theorem qw7:qg6 (slV e L)=slV e L:=by cases L<;>rfl
theorem qnk:kE (slV e L)=slV e L:=by cases L<;>rfl
theorem qCI {n:Nat}:put (some n) (slV e L) st=⟨(n,slV e L)::st.env,st.H,st.lo⟩:=by cases L<;>rfl
theorem qud {z:Nat} (he:∀x,(e x).cells.length=z):qM z (L.map e)=true:=by
 cases L with
 | nil=>rfl
 | cons x l=>simp [qM,he,qs2]
theorem qH0 {z b:Nat} (he:∀x,(e x).cells.length=z) {M:List α} (hM:M≠[]) (hr:roomy b (L.length+M.length)=true):z8 z b (slV e L) (.d (.sl (M.map e)))=some (slV e (L++M)):=by
 have hM':qM z (M.map e)=true:=qud he
 cases L with
 | nil=>
  cases M with
  | nil=>exact absurd rfl hM
  | cons y l=>exact qx4 hM' (by simpa using hr)
 | cons x l=>
  rw [show slV e (x::l)=.osl ((x::l).map e) from rfl,qIG (qud he) hM' (by simpa using hr)]
  simp [slV]
theorem qGN {z b:Nat} (he:∀x,(e x).cells.length=z) (hr:roomy b (L.length+1)=true):z8 z b (slV e L) (.d (.sl [e x]))=some (slV e (L++[x])):=
 qH0 (M:=[x]) he (by simp) hr
end
theorem qbK {x:Int} (h1:-9223372036854775808<=x) (h2:x<=9223372036854775807):wr .i64 x=x:=by
 cases x with
 | ofNat a=>simp only [wr,qsR,qwS];rw [decide_eq_true (by rw [Int.ofNat_eq_natCast] at h2;omega)];rfl
 | negSucc a=>simp only [wr,qwg,qwS];rw [decide_eq_true (by omega)];rfl
theorem qrn {x:Int} (h1:-2147483648<=x) (h2:x<=2147483647):wr .i32 x=x:=by
 cases x with
 | ofNat a=>simp only [wr,qsR,qwS];rw [decide_eq_true (by rw [Int.ofNat_eq_natCast] at h2;omega)];rfl
 | negSucc a=>simp only [wr,qwg,qwS];rw [decide_eq_true (by omega)];rfl
end W
/-
  What arguments read as, kind by kind.
-/
namespace W
open Go (World Value Addr IntKind Program TypeId FuncId Func DataW MemPlace TypeDesc Lit)
theorem zk {n a b:Nat} (h:look ((List.range n).map fun i=>(i,i)) a=some b):a=b:=by
 have key:∀(l:List Nat),look (l.map fun i=>(i,i)) a=some b->a=b:=by
  intro l
  induction l with
  | nil=>intro h;cases h
  | cons x l ih=>
   intro h
   simp only [qSR,look,qSH] at h
   split at h
   ·rename_i hb
    cases h
    exact qSL hb
   ·exact ih h
 exact key _ h
variable {P:Program} {t e:TypeId} {x:D}
theorem qCi {k:IntKind} (hu:P.underlying t=some (.int k)) (h:Arg P t x):∃z,x=.i k z/\(Lit.int k z).wf=true:=by
 obtain ⟨n,xs,ht,rfl⟩:=h
 cases n with
 | zero=>exact ht.elim
 | succ n=>
  simp only [Ty,hu] at ht
  obtain ⟨z,rfl,hw⟩:=ht
  exact ⟨z,by simp [qbW,hu,elD],hw⟩
theorem qDu (hu:P.underlying t=some (.slice e)) (h:Arg P t x):x=.nil\/∃l:List D,x=.sl l/\l.length<=Go.maxLen/\∀y ∈ l,Arg P e y:=by
 obtain ⟨n,xs,ht,rfl⟩:=h
 cases n with
 | zero=>exact ht.elim
 | succ n=>
  simp only [Ty,hu] at ht
  rcases ht with rfl|⟨yss,rfl,hl,hy⟩
  ·exact .inl (by simp [qbW,hu,elD])
  ·refine .inr ⟨yss.map (elD (qbW P e)),by simp [qbW,hu,elD],by simpa using hl,fun y hm=>?_⟩
   obtain ⟨q,hq,rfl⟩:=List.mem_map.1 hm
   exact ⟨n,q,hy q hq,rfl⟩
theorem qE8 {α:Type} {f:α->D}:∀{l:List D},(∀y ∈ l,∃a,y=f a)->∃L:List α,l=L.map f
 | [],_=>⟨[],rfl⟩
 | y::l,h=>by
  obtain ⟨a,ha⟩:=h y (by simp)
  obtain ⟨L,hL⟩:=qE8 (l:=l) (fun z hz=>h z (by simp [hz]))
  exact ⟨a::L,by simp [ha,hL]⟩
inductive SlD {α:Type} (e:α->D):D->List α->Prop
 | nil:SlD e .nil []
 | sl (L:List α):SlD e (.sl (L.map e)) L
theorem SlD.len {α:Type} {e:α->D} {x:D} {L:List α} (h:SlD e x L) {H:List Obj}:qxt .lenL (.d x) H=some (.d (.i .i64 L.length)):=by
 cases h with
 | nil=>rfl
 | sl=>simp [qxt]
theorem SlD.ix {α:Type} {e:α->D} {x:D} {L:List α} (h:SlD e x L) {k:IntKind} {n size:Nat} {y:α} (he:(e y).cells.length=size) (hn:L[n]?=some y):iaV (.d x) (.d (.i k (n:Nat))) size none=some (.cp (e y)):=by
 cases h with
 | nil=>simp at hn
 | sl=>exact qGi (by omega) (by simp [hn]) (by simp [he])
theorem qOC {α:Type} {f:α->D} (hu:P.underlying t=some (.slice e)) (h:Arg P t x) (he:∀y,Arg P e y->∃a,y=f a):∃L,SlD f x L:=by
 rcases qDu hu h with rfl|⟨l,rfl,_,hl⟩
 ·exact ⟨[],.nil⟩
 ·obtain ⟨L,rfl⟩:=qE8 (f:=f) (fun y hy=>he y (hl y hy))
  exact ⟨L,.sl L⟩
end W
/-
  Tables of the library, as the rows list them.
-/
namespace W
def qgl:D:=.agg [.i .u8 0,.i .u8 1,.i .u8 28,.i .u8 2,.i .u8 29,.i .u8 14,.i .u8 24,.i .u8 3,.i .u8 30,.i .u8 22,.i .u8 20,.i .u8 15,.i .u8 25,.i .u8 17,.i .u8 4,.i .u8 8,.i .u8 31,.i .u8 27,.i .u8 13,.i .u8 23,.i .u8 21,.i .u8 19,.i .u8 16,.i .u8 7,.i .u8 26,.i .u8 12,.i .u8 18,.i .u8 6,.i .u8 11,.i .u8 5,.i .u8 10,.i .u8 9]
def qf7:D:=.agg [.i .u8 0,.i .u8 1,.i .u8 56,.i .u8 2,.i .u8 57,.i .u8 49,.i .u8 28,.i .u8 3,.i .u8 61,.i .u8 58,.i .u8 42,.i .u8 50,.i .u8 38,.i .u8 29,.i .u8 17,.i .u8 4,.i .u8 62,.i .u8 47,.i .u8 59,.i .u8 36,.i .u8 45,.i .u8 43,.i .u8 51,.i .u8 22,.i .u8 53,.i .u8 39,.i .u8 33,.i .u8 30,.i .u8 24,.i .u8 18,.i .u8 12,.i .u8 5,.i .u8 63,.i .u8 55,.i .u8 48,.i .u8 27,.i .u8 60,.i .u8 41,.i .u8 37,.i .u8 16,.i .u8 46,.i .u8 35,.i .u8 44,.i .u8 21,.i .u8 52,.i .u8 32,.i .u8 23,.i .u8 11,.i .u8 54,.i .u8 26,.i .u8 40,.i .u8 15,.i .u8 34,.i .u8 20,.i .u8 31,.i .u8 10,.i .u8 25,.i .u8 14,.i .u8 19,.i .u8 9,.i .u8 13,.i .u8 8,.i .u8 7,.i .u8 6]
def qb2:D:=.agg [.i .u64 1,.i .u64 10,.i .u64 100,.i .u64 1000,.i .u64 10000,.i .u64 100000,.i .u64 1000000,.i .u64 10000000,.i .u64 100000000,.i .u64 1000000000,.i .u64 10000000000,.i .u64 100000000000,.i .u64 1000000000000,.i .u64 10000000000000,.i .u64 100000000000000,.i .u64 1000000000000000,.i .u64 10000000000000000,.i .u64 100000000000000000,.i .u64 1000000000000000000,.i .u64 10000000000000000000]
def qlg:D:=.agg [.i .u8 0,.i .u8 0,.i .u8 0,.i .u8 0,.i .u8 0,.i .u8 0,.i .u8 0,.i .u8 0,.i .u8 0,.i .u8 1,.i .u8 1,.i .u8 1,.i .u8 1,.i .u8 1,.i .u8 0,.i .u8 0,.i .u8 0,.i .u8 0,.i .u8 0,.i .u8 0,.i .u8 0,.i .u8 0,.i .u8 0,.i .u8 0,.i .u8 0,.i .u8 0,.i .u8 0,.i .u8 0,.i .u8 0,.i .u8 0,.i .u8 0,.i .u8 0,.i .u8 1,.i .u8 0,.i .u8 0,.i .u8 0,.i .u8 0,.i .u8 0,.i .u8 0,.i .u8 0,.i .u8 0,.i .u8 0,.i .u8 0,.i .u8 0,.i .u8 0,.i .u8 0,.i .u8 0,.i .u8 0,.i .u8 0,.i .u8 0,.i .u8 0,.i .u8 0,.i .u8 0,.i .u8 0,.i .u8 0,.i .u8 0,.i .u8 0,.i .u8 0,.i .u8 0,.i .u8 0,.i .u8 0,.i .u8 0,.i .u8 0,.i .u8 0,.i .u8 0,.i .u8 0,.i .u8 0,.i .u8 0,.i .u8 0,.i .u8 0,.i .u8 0,.i .u8 0,.i .u8 0,.i .u8 0,.i .u8 0,.i .u8 0,.i .u8 0,.i .u8 0,.i .u8 0,.i .u8 0,.i .u8 0,.i .u8 0,.i .u8 0,.i .u8 0,.i .u8 0,.i .u8 0,.i .u8 0,.i .u8 0,.i .u8 0,.i .u8 0,.i .u8 0,.i .u8 0,.i .u8 0,.i .u8 0,.i .u8 0,.i .u8 0,.i .u8 0,.i .u8 0,.i .u8 0,.i .u8 0,.i .u8 0,.i .u8 0,.i .u8 0,.i .u8 0,.i .u8 0,.i .u8 0,.i .u8 0,.i .u8 0,.i .u8 0,.i .u8 0,.i .u8 0,.i .u8 0,.i .u8 0,.i .u8 0,.i .u8 0,.i .u8 0,.i .u8 0,.i .u8 0,.i .u8 0,.i .u8 0,.i .u8 0,.i .u8 0,.i .u8 0,.i .u8 0,.i .u8 0,.i .u8 0,.i .u8 0,.i .u8 0,.i .u8 0,.i .u8 0,.i .u8 0,.i .u8 0,.i .u8 0,.i .u8 0,.i .u8 0,.i .u8 0,.i .u8 0,.i .u8 0,.i .u8 0,.i .u8 0,.i .u8 0,.i .u8 0,.i .u8 0,.i .u8 0,.i .u8 0,.i .u8 0,.i .u8 0,.i .u8 0,.i .u8 0,.i .u8 0,.i .u8 0,.i .u8 0,.i .u8 0,.i .u8 0,.i .u8 0,.i .u8 0,.i .u8 0,.i .u8 0,.i .u8 0,.i .u8 0,.i .u8 0,.i .u8 0,.i .u8 0,.i .u8 0,.i .u8 0,.i .u8 0,.i .u8 0,.i .u8 0,.i .u8 0,.i .u8 0,.i .u8 0,.i .u8 0,.i .u8 0,.i .u8 0,.i .u8 0,.i .u8 0,.i .u8 0,.i .u8 0,.i .u8 0,.i .u8 0,.i .u8 0,.i .u8 0,.i .u8 0,.i .u8 0,.i .u8 0,.i .u8 0,.i .u8 0,.i .u8 0,.i .u8 0,.i .u8 0,.i .u8 0,.i .u8 0,.i .u8 0,.i .u8 0,.i .u8 0,.i .u8 0,.i .u8 0,.i .u8 0,.i .u8 0,.i .u8 0,.i .u8 0,.i .u8 0,.i .u8 0,.i .u8 0,.i .u8 0,.i .u8 0,.i .u8 0,.i .u8 0,.i .u8 0,.i .u8 0,.i .u8 0,.i .u8 0,.i .u8 0,.i .u8 0,.i .u8 0,.i .u8 0,.i .u8 0,.i .u8 0,.i .u8 0,.i .u8 0,.i .u8 0,.i .u8 0,.i .u8 0,.i .u8 0,.i .u8 0,.i .u8 0,.i .u8 0,.i .u8 0,.i .u8 0,.i .u8 0,.i .u8 0,.i .u8 0,.i .u8 0,.i .u8 0,.i .u8 0,.i .u8 0,.i .u8 0,.i .u8 0,.i .u8 0,.i .u8 0,.i .u8 0,.i .u8 0,.i .u8 0,.i .u8 0,.i .u8 0,.i .u8 0,.i .u8 0,.i .u8 0,.i .u8 0,.i .u8 0,.i .u8 0,.i .u8 0,.i .u8 0,.i .u8 0,.i .u8 0,.i .u8 0]
end W
/-
  Tables that the rows list are what the small semantics reads.
-/
namespace W
open Go (World Value Addr IntKind Program TypeId FuncId Func DataW MemPlace Lit)
theorem qEC {W:World} {b i:Nat} {v:Value} (h:W.cell? ⟨b,i,none⟩=some v):i<(g0 W).pub b:=by
 show i<(match W.heap[b]? with|some (.cells c _ _)=>c.size|_=>0)
 simp only [World.cell?] at h
 split at h
 ·rename_i c t f hb
  rw [hb]
  simp only [Option.isSome_none,qSO,if_false] at h
  exact (Array.getElem?_eq_some_iff.1 h).1
 ·cases h
theorem qzr {pub:Nat->Nat} {w:World} (k:IntKind):∀zs:List Int,RepDL pub w (zs.map (D.i k)) (zs.map fun z=>Value.int k z)
 | []=>.nil
 | z::zs=>.cons _ _ _ _ (.i k z) (qzr k zs)
theorem qw8 {P:Program} {W:World} {name:String} {k:IntKind} {zs:List Int} {g:Nat} {t e:TypeId} {n:Nat}
  (hg:P.globalNamed name=some g) (hty:(P.globals[g]?).map (·.type)=some t) (ht:P.underlying t=some (.array n e)) (he:P.underlying e=some (.int k)) (hce:P.cellsOf e=1) (hct:P.cellsOf t=n) :
  ∀{laid:List (String × DataW Unit)} {ps:List MemPlace},DataW.LaidVars P W laid ps->(name,Go.Lib.tabData k zs) ∈ laid->Go.Lib.TabIs P W name k zs
 | [],_,_,hm=>by cases hm
 | (nm,d)::rest,ps,h,hm=>by
  obtain ⟨g',t',cs,fuel,p,q,hg',ht',hvar,hd,hrest,_⟩:=h
  rcases List.mem_cons.1 hm with e|hm
  ·cases e
   obtain rfl:=Option.some.inj (hg.symm.trans hg')
   obtain rfl:=Option.some.inj (hty.symm.trans ht')
   unfold Go.Lib.TabIs
   rw [hvar,<- Go.Lib.cells_of_tab ht he hce hct hd]
  ·exact qw8 hg hty ht he hce hct hrest hm
theorem qD7 {M:Maps} {P:Program} {W:World} (h2:qIZ M (g0 W) W) (h:∀n x,look M.gl n=some x->∃name k zs,P.globalNamed name=some n/\x=.agg (zs.map (D.i k))/\zs≠[]/\Go.Lib.TabIs P W name k zs):GlOk M (g0 W) W:=by
 refine ⟨?_,h2⟩
 intro n x hn
 obtain ⟨name,k,zs,hg,rfl,hne,ht⟩:=h n x hn
 refine ⟨zs.map fun z=>Value.int k z,qzr k zs,fun j v hj=>?_,?_⟩
 ·have hlt:j<zs.length:=by
   have:=(List.getElem?_eq_some_iff.1 hj).1
   simpa using this
  rw [qSV,ht.cell hg j hlt]
  have:(zs.map fun z=>Value.int k z)[j]?=some (.int k (zs.getD j 0)):=by simp [List.getD,hlt]
  rw [this] at hj
  exact hj
 ·have hpos:0<zs.length:=by cases zs with|nil=>exact absurd rfl hne|cons=>simp
  have:=qEC (ht.cell hg (zs.length - 1) (by omega))
  simp only [List.length_map]
  omega
end W
/- A program of which parts that a run doesn't reach are cut away: what it gives, the whole one gives. -/
namespace W
open Go (World Value Program FuncId)
inductive Cut:C->C->Prop where
 | stuck (c:C):Cut c .stuck
 | skip:Cut .skip .skip
 | ops (l):Cut (.ops l) (.ops l)
 | opsD (l):Cut (.opsD l) (.opsD l)
 | seq {a a' b b':C} (h:Cut a a') (h':Cut b b'):Cut (.seq a b) (.seq a' b')
 | cond {a a' b b':C} (o) (h:Cut a a') (h':Cut b b'):Cut (.cond o a b) (.cond o a' b')
 | block {a a':C} (id live) (h:Cut a a'):Cut (.block id live a) (.block id live a')
 | loop {a a':C} (live) (h:Cut a a'):Cut (.loop live a) (.loop live a')
 | exit (id):Cut (.exit id) (.exit id)
 | ret:Cut .ret .ret
 | rangeB {a a' b b':C} (k l f p0 p1 live) (h:Cut a a') (h':Cut b b'):Cut (.rangeB k l f p0 p1 live a b) (.rangeB k l f p0 p1 live a' b')
 | rangeZ (k f live):Cut (.rangeZ k f live) (.rangeZ k f live)
theorem Cut.refl:∀c,Cut c c
 | .skip=>.skip
 | .ops l=>.ops l
 | .opsD l=>.opsD l
 | .seq a b=>.seq (refl a) (refl b)
 | .cond o a b=>.cond o (refl a) (refl b)
 | .block i l a=>.block i l (refl a)
 | .loop l a=>.loop l (refl a)
 | .exit i=>.exit i
 | .ret=>.ret
 | .stuck=>.stuck _
 | .rangeB k l f p0 p1 live a b=>.rangeB k l f p0 p1 live (refl a) (refl b)
 | .rangeZ k f live=>.rangeZ k f live
def ExCut (e e':C->St->Option (Ex × St)):Prop:=∀c' c,Cut c' c->∀st x,e c st=some x->e' c' st=some x
theorem ExCut.le {e e':C->St->Option (Ex × St)} (h:ExCut e e'):qv5 e e':=fun c st x=>h c c (.refl c) st x
theorem qGd {c c':Call} {e e':C->St->Option (Ex × St)} (hc:qaB c c') (he:ExCut e e') {x' x:C} (hx:Cut x' x) {st:St} {y:Ex × St} (h:step c e x st=some y):step c' e' x' st=some y:=by
 cases hx with
 | stuck=>cases h
 | skip=>exact h
 | ops l=>exact qeO hc l h
 | opsD l=>exact qfz hc l h
 | seq h1 h2=>
  simp only [step] at h |-
  rename_i a a' b b'
  cases ha:e a' st with
  | none=>rw [ha] at h;cases h
  | some p=>
   rw [ha] at h
   rw [he _ _ h1 _ _ ha]
   obtain ⟨ex,st1⟩:=p
   cases ex with
   | nrm=>exact he _ _ h2 _ _ h
   | _=>exact h
 | cond o h1 h2=>
  simp only [step] at h |-
  split at h
  ·rename_i hv;(try simp only [hv]);exact he _ _ h1 _ _ h
  ·rename_i hv;(try simp only [hv]);exact he _ _ h2 _ _ h
  ·cases h
 | block id live h1=>
  simp only [step] at h |-
  rename_i a a'
  cases ha:e a' st with
  | none=>rw [ha] at h;cases h
  | some p=>rw [ha] at h;rw [he _ _ h1 _ _ ha];exact h
 | loop live h1=>
  simp only [step] at h |-
  rename_i a a'
  cases ha:e a' {st with env:=restrict live st.env} with
  | none=>rw [ha] at h;cases h
  | some p=>
   rw [ha] at h
   rw [he _ _ h1 _ _ ha]
   obtain ⟨ex,st1⟩:=p
   cases ex with
   | nrm=>exact he _ _ (.loop live h1) _ _ h
   | _=>exact h
 | exit id=>exact h
 | ret=>exact h
 | rangeB k l f p0 p1 live h1 h2=>
  simp only [step] at h |-
  split at h
  ·rename_i k' c' hf
   (try simp only [hf])
   rw [qSH] at h |-
   split at h
   ·rename_i hk
    rw [if_pos hk]
    split at h
    ·rename_i n hn;(try simp only [hn]);exact qi2 (he _ _ h1) (he _ _ h2) n h
    ·cases h
   ·cases h
  ·cases h
 | rangeZ k f live=>exact qyt hc he.le (x:=.rangeZ k f live) h
def qza (fn0 fn:Fn):Prop:=∃c,fn={fn0 with body:=c}/\Cut fn0.body c
structure PgCut (pg' pg:Pg):Prop where
 some:∀i fn,pg.fn i=some fn->∃fn0,pg'.fn i=some fn0/\qza fn0 fn
 none:∀i,pg.fn i=none->pg'.fn i=none
 ext:pg'.ext=pg.ext
theorem qo4 {pg' pg:Pg} (hp:PgCut pg' pg) {e e':C->St->Option (Ex × St)} (he:ExCut e e') {fn:Fn} {H:List Obj} {h:Nat} {vs:List V} {v:V} {st:St} {r:Cr} (hh:handle pg e fn H h vs v st=some r):handle pg' e' fn H h vs v st=some r:=by
 obtain ⟨hf,d,st',h1,h2,h3,h6,h4,h5⟩:=qfv hh
 obtain ⟨hf0,g1,c,rfl,g2⟩:=hp.some _ _ h1
 have h2':hf0.rcv=_:=h2
 have h3':hf0.np=_:=h3
 have h6':hf0.res=_:=h6
 unfold handle
 simp only [g1,h2',h3',h6',qtB,List.isEmpty_nil,qSP,cond_true]
 rcases h4 with h4|h4<;>simp only [he _ _ g2 _ _ h4,h5]
theorem qxH {pg' pg:Pg} (hp:PgCut pg' pg) {e e':C->St->Option (Ex × St)} (he:ExCut e e') {fn:Fn} {H:List Obj} {t:Nat} {rest:C} {st:St} {r:Cr} (hh:deferred pg e fn H t rest st=some r):deferred pg' e' fn H t rest st=some r:=by
 obtain ⟨h,first,cap,ex,st',v,h1,h2,h3,h4,h5⟩:=qbu hh
 unfold deferred
 simp only [h1,h2,cond_true]
 rcases h5 with ⟨h5|h5,rfl⟩|⟨rfl,h6⟩
 ·subst h5;simp only [he.le _ _ _ h3,qo4 hp he h4]
 ·subst h5;simp only [he.le _ _ _ h3,qo4 hp he h4]
 ·simp only [he.le _ _ _ h3,h6,cond_true,qo4 hp he h4]
theorem qp7 {pg' pg:Pg} (hp:PgCut pg' pg) {e e':C->St->Option (Ex × St)} (he:ExCut e e'):qaB (qs pg e) (qs pg' e'):=by
 intro i vs H r h
 unfold qs at h |-
 cases hf:pg.fn i with
 | none=>rw [hf] at h;rw [hp.none _ hf,hp.ext];exact h
 | some fn=>
  obtain ⟨fn0,g1,c,rfl,g2⟩:=hp.some _ _ hf
  rw [hf] at h
  rw [g1]
  simp only at h |-
  split at h
  ·rename_i hn
   rw [if_pos hn]
   cases hb:e c {env:=qU 0 vs,H,lo:=H.length} with
   | none=>rw [hb] at h;cases h
   | some p=>
    rw [hb] at h;rw [he _ _ g2 _ _ hb]
    obtain ⟨ex,st⟩:=p
    cases ex with
    | nrm=>
     simp only at h |-
     cases hd:fn0.dfr with
     | none=>rw [hd] at h;exact h
     | some q=>
      obtain ⟨t,rest⟩:=q
      rw [hd] at h
      exact qxH hp he h
    | _=>exact h
  ·cases h
theorem qvP {pg' pg:Pg} (hp:PgCut pg' pg):∀n,ExCut (exec pg n) (exec pg' n)
 | 0=>fun _ _ _ _ _ h=>by simp [exec] at h
 | n+1=>fun c' c hc st x h=>qGd (qp7 hp (qvP hp n)) (qvP hp n) hc h
theorem qDG {pg' pg:Pg} (hp:PgCut pg' pg) (n:Nat):qaB (zz pg n) (zz pg' n):=qp7 hp (qvP hp n)
def qmO:C->Nat->C × Nat
 | .seq a b,n=>match qmO a (n / 2) with
  | (a',m)=>bif qSN (n % 2) 1 then (match qmO b m with|(b',m')=>(.seq a' b',m')) else (.seq a' .stuck,m)
 | .cond o a b,n=>match (bif qSN (n % 2) 1 then qmO a (n / 2) else (.stuck,n / 2):C × Nat) with
  | (a',m)=>match (bif qSN (m % 2) 1 then qmO b (m / 2) else (.stuck,m / 2):C × Nat) with
   | (b',m')=>(.cond o a' b',m')
 | .block i l a,n=>match qmO a n with|(a',m)=>(.block i l a',m)
 | .loop l a,n=>match qmO a n with|(a',m)=>(.loop l a',m)
 | .rangeB k l f p0 p1 live a b,n=>match qmO a n with
  | (a',m)=>match qmO b m with|(b',m')=>(.rangeB k l f p0 p1 live a' b',m')
 | c,n=>(c,n)
theorem qjz:∀c n,Cut c (qmO c n).1
 | .seq a b,n=>by
  unfold qmO
  have h1:=qjz a (n / 2)
  have h2:=qjz b (qmO a (n / 2)).2
  cases h:qSN (n % 2) 1 with
  | true=>simp only [h,cond_true];exact .seq h1 h2
  | false=>simp only [h,cond_false];exact .seq h1 (.stuck _)
 | .cond o a b,n=>by
  unfold qmO
  have h1:Cut a (bif qSN (n % 2) 1 then qmO a (n / 2) else (.stuck,n / 2):C × Nat).1:=by
   cases h:qSN (n % 2) 1 with
   | true=>exact qjz a _
   | false=>exact .stuck _
  generalize (bif qSN (n % 2) 1 then qmO a (n / 2) else (.stuck,n / 2):C × Nat)=p at h1 |-
  obtain ⟨a',m⟩:=p
  have h2:Cut b (bif qSN (m % 2) 1 then qmO b (m / 2) else (.stuck,m / 2):C × Nat).1:=by
   cases h:qSN (m % 2) 1 with
   | true=>exact qjz b _
   | false=>exact .stuck _
  simp only
  generalize (bif qSN (m % 2) 1 then qmO b (m / 2) else (.stuck,m / 2):C × Nat)=p at h2 |-
  obtain ⟨b',m'⟩:=p
  exact .cond o h1 h2
 | .block i l a,n=>.block i l (qjz a n)
 | .loop l a,n=>.loop l (qjz a n)
 | .rangeB k l f p0 p1 live a b,n=>.rangeB k l f p0 p1 live (qjz a n) (qjz b _)
 | .skip,_=>.skip
 | .ops l,_=>.ops l
 | .opsD l,_=>.opsD l
 | .exit i,_=>.exit i
 | .ret,_=>.ret
 | .stuck,_=>.stuck _
 | .rangeZ k f live,_=>.rangeZ k f live
def qFr (n:Nat) (fn:Fn):Fn:={fn with body:=(qmO fn.body n).1}
theorem qRL (n:Nat) (fn:Fn):qza fn (qFr n fn):=⟨_,rfl,qjz _ _⟩
def qjM (P:Program) (M:Maps) (pg:Pg):Prop:=
 ∀f' i,look M.fm f'=some i->∀fn',pg.fn i=some fn'->∃fn A own fn0,P.funcs[f']?=some fn/\(fn.name == "runtime.NumGoroutine")=false/\yH M P A own fn=some fn0/\qza fn0 fn'
def zu (P:Program) (M:Maps) (i:Nat) (fn':Fn):Prop:=∃fn A own fn0,P.funcs[i]?=some fn/\(fn.name == "runtime.NumGoroutine")=false/\yH M P A own fn=some fn0/\qza fn0 fn'
theorem qQZ {P:Program} {M:Maps} {i:Nat} {fn':Fn} {fn:Go.Func} (h:P.funcs[i]?=some fn) (A:Ann) (own:Bool) (n:Nat) (hn:(fn.name == "runtime.NumGoroutine")=false) (ht:(yH M P A own fn).map (qFr n)=some fn'):zu P M i fn':=by
 obtain ⟨fn0,h1,h2⟩:=Option.map_eq_some_iff.1 ht
 exact ⟨fn,A,own,fn0,h,hn,h1,h2▸qRL n fn0⟩
theorem kU {P:Program} {M:Maps} {i:Nat} {fn':Fn} {fn:Go.Func} {A:Ann} {own:Bool} (h:P.funcs[i]?=some fn) (hn:(fn.name == "runtime.NumGoroutine")=false) (ht:yH M P A own fn=some fn'):zu P M i fn':=⟨fn,A,own,fn',h,hn,ht,_,rfl,.refl _⟩
def qwE (n:Nat):List (Nat × Fn)->Option Fn
 | []=>none
 | p::l=>bif qSN n p.1 then some p.2 else qwE n l
theorem qrp {n:Nat} {f:Fn}:∀{l:List (Nat × Fn)},qwE n l=some f->(n,f) ∈ l
 | [],h=>by cases h
 | (k,g)::l,h=>by
  unfold qwE at h
  rw [qSH] at h
  split at h
  ·rename_i hb
   cases h
   obtain rfl:=qSL hb
   exact .head _
  ·exact .tail _ (qrp h)
inductive RowsOk (P:Program) (M:Maps):List (Nat × Fn)->Prop
 | nil:RowsOk P M []
 | cons {i:Nat} {f:Fn} {T:List (Nat × Fn)} (h:zu P M i f) (t:RowsOk P M T):RowsOk P M ((i,f)::T)
theorem RowsOk.all {P:Program} {M:Maps} {T:List (Nat × Fn)} (h:RowsOk P M T):∀p ∈ T,zu P M p.1 p.2:=by
 induction h with
 | nil=>intro p hp;cases hp
 | cons h t ih=>
  intro p hp
  cases hp with
  | head=>exact h
  | tail _ hp=>exact ih p hp
theorem qrN {P:Program} {M:Maps} {pg:Pg} {T:List (Nat × Fn)} (hT:∀p ∈ T,zu P M p.1 p.2) (hp:∀i fn,pg.fn i=some fn->qwE i T=some fn) (hid:∀f' i,look M.fm f'=some i->f'=i):qjM P M pg:=fun f' i hl fn' hf=>by
 obtain rfl:=hid _ _ hl
 exact hT _ (qrp (hp _ _ hf))
theorem whole {P:Program} {M:Maps} {pg:Pg} (hT:qjM P M pg) (hid:∀f' i,look M.fm f'=some i->f'=i):∃pg',qRg P M pg'/\PgCut pg' pg:=by
 have key:∀i fn,pg.fn i=some fn->∃fn0,qza fn0 fn/\∀f',look M.fm f'=some i->∃fn A own,P.funcs[f']?=some fn/\(fn.name == "runtime.NumGoroutine")=false/\yH M P A own fn=some fn0:=fun i fn h=>by
  cases hl:look M.fm i with
  | none=>exact ⟨fn,⟨_,rfl,.refl _⟩,fun f' hf=>by rw [hid _ _ hf,hl] at hf;cases hf⟩
  | some j=>
   have e:=hid _ _ hl
   subst e
   obtain ⟨fn1,A,own,fn0,h1,h2,h3,h4⟩:=hT _ _ hl _ h
   exact ⟨fn0,h4,fun f' hf=>by rw [hid _ _ hf];exact ⟨fn1,A,own,h1,h2,h3⟩⟩
 refine ⟨⟨fun i=>match h:pg.fn i with|none=>none|some fn=>some (key i fn h).choose,pg.ext⟩,?_,?_,?_,rfl⟩
 ·intro f' i hl fn' hf
  simp only at hf
  split at hf
  ·cases hf
  ·rename_i fn h
   cases hf
   exact (key i fn h).choose_spec.2 f' hl
 ·intro i fn h
  refine ⟨(key i fn h).choose,?_,(key i fn h).choose_spec.1⟩
  simp only
  split
  ·rename_i h';rw [h] at h';cases h'
  ·rename_i fn2 h'
   rw [h] at h';cases h';rfl
 ·intro i h
  simp only
  split
  ·rfl
  ·rename_i fn2 h';rw [h] at h';cases h'
theorem qsr {P:Program} {M:Maps} {pg:Pg} (hm:P.follows .mixedOrders=true) (hT:qjM P M pg) (hB:qyd P M) (hid:∀f' i,look M.fm f'=some i->f'=i) (hx:qp P M pg.ext) (hxlo:qt pg.ext) (n:Nat):qp P M (zz pg n):=by
 obtain ⟨pg',h1,h2⟩:=whole hT hid
 have hs:=sound hm ⟨h1,hB⟩ (by rw [h2.ext];exact hx) (by rw [h2.ext];exact hxlo) n
 intro i vs H r h
 exact hs i vs H r (qDG h2 n i vs H r h)
end W
