/-
  PlayAgrees, part 5.
-/
import Derived.Lib.LaidTab
import Derived.Test.YtdimnhbfkogllaaGreatDoorW4
set_option linter.unusedSimpArgs false
set_option linter.unusedVariables false
/-
  Equations for walking code whose data are terms: memory, slices, texts, maps.
-/
open Bool renaming cond_eq_ite->qS5,and_eq_true->qS6,false_eq_true->qTb,and_self->qTc,not_true->qTl
open Nat renaming le_refl->qS7,eq_of_beq_eq_true->qS9,beq->qTd,zero_add->qTf,le_of_ble_eq_true->qTq
open Option renaming bind_eq_some_iff->qS8,bind_eq_bind->qTa,map_some->qTh,pure_def->qTj
open List renaming map_cons->qTe,getElem?_cons_zero->qTg,length_nil->qTi,length_cons->qTk,map_nil->qTm,cons_append->qTn,getElem?_cons_succ->qTo,length_append->qTp,nil_append->qTr
namespace W
open Go (IntKind BinOp UnOp)
variable {pg:Pg} {call:Call} {st:St} {p:Prop} [Decidable p]
def faV (v:V) (off:Nat) (l:L):Option V:=
 match v with
 | .ptr id o=>some (.ptr id (o+off))
 | .lp s o=>some (.lp s (o+off))
 | .cp (.agg cs)=>match D.part off l cs with
  | some y=>if l.agg || y.one then some (.cp y) else none
  | none=>none
 | _=>none
theorem yx {x:O} {off:Nat} {l:L}:qa call (.fieldAddr x off l) st=okS (faV (rd st.env x) off l) st:=by
 show qZ x off l st=_
 unfold qZ faV
 cases rd st.env x with
 | cp w=>
  cases w with
  | agg cs=>
   simp only
   cases D.part off l cs with
   | none=>rfl
   | some y=>simp only;split<;>rfl
  | _=>rfl
 | _=>rfl
theorem qxt {i o off:Nat} {l:L}:faV (.ptr i o) off l=some (.ptr i (o+off)):=(rfl)
theorem qxU {i o off:Nat} {l:L}:faV (.lp i o) off l=some (.lp i (o+off)):=(rfl)
theorem qHi {x:Bool}:D.one (.b x)=true:=(rfl)
theorem qCe {k:IntKind} {x:Int}:D.one (.i k x)=true:=(rfl)
theorem qJJ {x:List D}:D.one (.sl x)=true:=(rfl)
theorem qIC:D.one .nil=true:=(rfl)
def qCa (l:L) (off:Nat) (o:Option Obj):Option V:=
 match o with
 | some (.cells cs)=>V.part off l cs
 | some (.row _ cs)=>V.part off l cs
 | _=>none
def qqE (sl:Option Nat) (l:L) (st:St) (v:V):Option V:=
 bif !qB sl v then none else qJ l st v
theorem qf0 {sl:Option Nat} {l:L} {a:O}:qa call (.load false sl l a) st=okS (qqE sl l st (rd st.env a)) st:=by
 show zI false sl l a st=_
 unfold zI qqE
 cases qB sl (rd st.env a) with
 | false=>rfl
 | true=>simp only [qTl,cond_false];cases qJ l st (rd st.env a)<;>rfl
theorem qDa {l:L} {i o:Nat}:qqE none l st (.ptr i o)=qCa l o (st.H[i]?):=by
 simp only [qqE,qB,qTl,cond_false,qJ,qCa]
 all_goals rfl
theorem qHQ {o:Nat} {cs:List V}:qCa ⟨1,false⟩ o (some (.cells cs))=(cs[o]?).map zR:=by simp [qCa,V.part]
def qEP (l:L) (o:Nat) (v:V):Option V:=
 match v with
 | .box cs=>V.part o l cs
 | _=>none
theorem qqt {l:L} {s o:Nat}:qqE (some s) l st (.lp s o)=qEP l o (get s st.env):=by
 simp only [qqE,qB,qkq,decide_true,qTl,cond_false,qJ,qEP]
 all_goals rfl
theorem qyi {o:Nat} {cs:List V}:qEP ⟨1,false⟩ o (.box cs)=(cs[o]?).map zR:=by simp [qEP,V.part]
theorem qpw {o n:Nat} {cs:List V} (h:(o+n<=cs.length)=True):qEP ⟨n,true⟩ o (.box cs)=some (qdn (((cs.drop o).take n).map zR)):=by simp [qEP,V.part,h]
theorem qBR {k:IntKind} {n:Int}:qqE none ⟨1,false⟩ st (.cp (.i k n))=some (.d (.i k n)):=(rfl)
theorem qqD {cs:List D} {n:Nat} (h:(cs.length=n)=True):qqE none ⟨n,true⟩ st (.cp (.agg cs))=some (.d (.agg cs)):=by
 simp [qqE,qB,qJ,h]
theorem qq5 {a:O}:qa call (.load true none ⟨1,false⟩ a) st=(match rd st.env a with
  | .ptr i o=>(match st.H[i]? with
   | some (.cells cs)=>(match cs[o]? with
    | some v=>some ⟨false,false,v,{st with H:=qK st.H i (.cells (cs.set o .undef)),lo:=min st.lo i}⟩
    | none=>none)
   | _=>none)
  | _=>none):=by
 show zI true none ⟨1,false⟩ a st=_
 unfold zI
 cases rd st.env a with
 | ptr i o=>
  simp only [qB,qTl,cond_false,cond_true,qm5]
  cases st.H[i]? with
  | none=>rfl
  | some ob=>
   cases ob with
   | cells cs=>simp only;cases cs[o]?<;>rfl
   | _=>rfl
 | lp s o=>simp [qB]
 | _=>rfl
def qrV (sl:Option Nat) (l:L) (x v:V) (st:St):Option Or:=
 match sl,v with
 | none,.ptr i o=>(match st.H[i]? with
  | some (.cells cs)=>if x.cells.length=l.n && V.ones x.cells then (match qP cs o x.cells with
   | some cs'=>some ⟨false,false,.undef,{st with H:=qK st.H i (.cells cs'),lo:=min st.lo i}⟩
   | none=>none) else none
  | some (.row k cs)=>if x.cells.length=l.n && V.ones x.cells && V.ok.oks x.cells then (match qP cs o x.cells with
   | some cs'=>some ⟨false,false,.undef,{st with H:=qK st.H i (.row k cs'),lo:=min st.lo i}⟩
   | none=>none) else none
  | _=>none)
 | some s,.lp s' o=>bif qTd s s' then (match get s' st.env with
  | .box cs=>if x.cells.length=l.n && V.ones x.cells then (match qP cs o x.cells with
   | some cs'=>some ⟨false,true,.undef,{st with env:=(s',.box cs')::st.env}⟩
   | none=>none) else none
  | _=>none) else none
 | _,_=>none
theorem yY {sl:Option Nat} {l:L} {a x:O}:qa call (.store sl l a x) st=qrV sl l (rd st.env x) (rd st.env a) {st with env:=spent x st.env}:=by
 show qaA sl l a x st=_
 unfold qaA qrV
 cases rd st.env a with
 | ptr i o=>
  cases sl with
  | none=>
   simp only [qB,qTl,cond_false,qak]
   cases st.H[i]? with
   | none=>rfl
   | some ob=>
    cases ob with
    | cells cs=>
     simp only
     cases (decide ((rd st.env x).cells.length=l.n) && V.ones (rd st.env x).cells) with
     | true=>simp only [if_true];cases qP cs o (rd st.env x).cells<;>rfl
     | false=>rfl
    | row k cs=>
     simp only
     cases (decide ((rd st.env x).cells.length=l.n) && V.ones (rd st.env x).cells && V.ok.oks (rd st.env x).cells) with
     | true=>simp only [if_true];cases qP cs o (rd st.env x).cells<;>rfl
     | false=>rfl
    | _=>rfl
  | some s=>simp [qB]
 | lp s o=>
  cases sl with
  | none=>simp [qB]
  | some s'=>
   simp only [qB,qak]
   cases qTd s' s with
   | false=>rfl
   | true=>
    simp only [qTl,cond_false,cond_true]
    cases get s (spent x st.env) with
    | box cs=>
     simp only
     cases (decide ((rd st.env x).cells.length=l.n) && V.ones (rd st.env x).cells) with
     | true=>simp only [if_true];cases qP cs o (rd st.env x).cells<;>rfl
     | false=>rfl
    | _=>rfl
 | _=>cases sl<;>first|rfl|simp [qB,qak]
def qtE (i:Nat) (st:St) (r:Option (List V)):Option Or:=
 match r with
 | some cs'=>some ⟨false,false,.undef,{st with H:=qK st.H i (.cells cs'),lo:=min st.lo i}⟩
 | none=>none
def qCG (i:Nat) (k:L) (st:St) (r:Option (List V)):Option Or:=
 match r with
 | some cs'=>some ⟨false,false,.undef,{st with H:=qK st.H i (.row k cs'),lo:=min st.lo i}⟩
 | none=>none
def qyo (l:L) (x:V) (o i:Nat) (st:St) (ob:Option Obj):Option Or:=
 match ob with
 | some (.cells cs)=>if x.cells.length=l.n && V.ones x.cells then qtE i st (qP cs o x.cells) else none
 | some (.row k cs)=>if x.cells.length=l.n && V.ones x.cells && V.ok.oks x.cells then qCG i k st (qP cs o x.cells) else none
 | _=>none
theorem qzE {l:L} {x:V} {i o:Nat}:qrV none l x (.ptr i o) st=qyo l x o i st (st.H[i]?):=by
 simp only [qrV,qyo,qtE,qCG]
theorem qq4 {l:L} {x:V} {i o:Nat} {cs:List V} (h1:(x.cells.length=l.n)=True) (h2:V.ones x.cells=true):qyo l x o i st (some (.cells cs))=qtE i st (qP cs o x.cells):=by
 simp only [qyo,h1,h2,decide_true,qTc,if_true]
theorem qrg {i:Nat} {cs:List V}:qtE i st (some cs)=some ⟨false,false,.undef,⟨st.env,qK st.H i (.cells cs),min st.lo i⟩⟩:=(rfl)
def qxd (l:L) (x:V) (o s:Nat) (st:St) (b:V):Option Or:=
 match b with
 | .box cs=>if x.cells.length=l.n && V.ones x.cells then (match qP cs o x.cells with
   | some cs'=>some ⟨false,true,.undef,{st with env:=(s,.box cs')::st.env}⟩
   | none=>none) else none
 | _=>none
theorem qiy {l:L} {x:V} {s o:Nat}:qrV (some s) l x (.lp s o) st=qxd l x o s st (get s st.env):=by
 simp only [qrV,qkq,decide_true,cond_true,qxd]
def qBn (s:Nat) (st:St) (r:Option (List V)):Option Or:=
 match r with
 | some cs'=>some ⟨false,true,.undef,{st with env:=(s,.box cs')::st.env}⟩
 | none=>none
theorem qfn {l:L} {x:V} {s o:Nat} {cs:List V} (h1:(x.cells.length=l.n)=True) (h2:V.ones x.cells=true):qxd l x o s st (.box cs)=qBn s st (qP cs o x.cells):=by
 simp only [qxd,h1,h2,decide_true,qTc,if_true,qBn]
theorem qc3 {s:Nat} {cs:List V}:qBn s st (some cs)=some ⟨false,true,.undef,{st with env:=(s,.box cs)::st.env}⟩:=(rfl)
theorem qcn {cs:List V} {o:Nat} {v:V} (h:(o<cs.length)=True):qP cs o [v]=some (cs.set o v):=by
 have h:o<cs.length:=by rw [h];trivial
 simp only [qP,List.length_singleton]
 rw [if_pos (by omega),List.set_eq_take_append_cons_drop,if_pos h];simp
theorem qmU {x:D} (h:x.one=true):V.cells (.d x)=[.d x]:=by cases x<;>first|rfl|cases h
theorem qnG {cs:List D}:V.cells (.d (.agg cs))=cs.map .d:=(rfl)
theorem qw5 {xs:List D}:V.cells (.osl xs)=[.osl xs]:=(rfl)
theorem qrp:V.ones []=true:=(rfl)
theorem qnt {v:V} {vs:List V}:V.ones (v::vs)=(v.one && V.ones vs):=(rfl)
theorem qyv {x:D}:V.one (.d x)=x.one:=(rfl)
theorem qz8 {x:List D}:V.one (.osl x)=true:=(rfl)
theorem qHm {ds:List D} (h:D.ones ds=true):V.ones (ds.map .d)=true:=by
 induction ds with
 | nil=>rfl
 | cons d l ih=>simp only [D.ones,qS6] at h;simp only [qTe,V.ones,V.one,h.1,ih h.2,qTc]
theorem qby {zero:List D}:qa call (.alloc true zero) st=some ⟨false,true,.box (zero.map .d),st⟩:=(rfl)
def qIK (loc:Bool) (v:V) (st:St):Option Or:=
 if V.ones v.cells then (bif loc then some ⟨false,true,.box v.cells,st⟩ else some ⟨false,false,.ptr st.H.length 0,{st with H:=st.H++[.cells v.cells]}⟩) else none
theorem qwc {loc:Bool} {x:O}:qa call (.box loc x) st=qIK loc (rd st.env x) {st with env:=spent x st.env}:=by
 show qti loc x st=_
 simp only [qti,qIK]
 cases h:V.ones (rd st.env x).cells<;>cases loc<;>simp [h,ok,okH]
theorem qFb {v:V} (h:V.ones v.cells=true):qIK true v st=some ⟨false,true,.box v.cells,st⟩:=by simp [qIK,h]
def qqG (cells:List V) (ps:List (Nat × Nat × V)):Option (List V):=bif !yg ps then none else fill cells ps
def qPR (r:Option (List V)):Option V:=match r with|some cs=>some (qdn cs)|none=>none
theorem qyT {zero:List D} {ps:List (Nat × Nat × O)}:qa call (.build zero ps) st=okS (qPR (qqG (zero.map .d) (ps.map fun (o,s,x)=>(o,s,rd st.env x)))) st:=by
 show qaZ zero ps st=_
 unfold qaZ qqG
 cases yg (ps.map fun (o,s,x)=>(o,s,rd st.env x)) with
 | false=>rfl
 | true=>simp only [qTl,cond_false];cases fill (zero.map .d) (ps.map fun (o,s,x)=>(o,s,rd st.env x))<;>rfl
theorem qEC {cs:List V}:qqG cs []=some cs:=(rfl)
theorem qIz {cs:List V} {o:Nat} {v:V} {ps:List (Nat × Nat × V)} (h:v.cells=[v]) (hv:v.one=true) (ho:(o<cs.length)=True):qqG cs ((o,1,v)::ps)=qqG (cs.set o v) ps:=by
 have ho:o<cs.length:=by rw [ho];trivial
 simp only [qqG,yg,h,V.ones,hv,Bool.true_and,fill,List.length_singleton]
 cases yg ps with
 | false=>rfl
 | true=>
  simp only [qTl,cond_false]
  rw [if_pos ⟨trivial,by omega⟩,List.set_eq_take_append_cons_drop,if_pos ho];simp
theorem qCp {cs:List V} {o n:Nat} {ds:List D} {ps:List (Nat × Nat × V)} (h:(ds.length=n)=True) (hv:D.ones ds=true) (ho:(o+n<=cs.length)=True) :
  qqG cs ((o,n,.d (.agg ds))::ps)=qqG (cs.take o++ds.map .d++cs.drop (o+n)) ps:=by
 have ho:o+n<=cs.length:=by rw [ho];trivial
 have h:ds.length=n:=by rw [h];trivial
 have hv':V.ones (ds.map .d)=true:=qHm hv
 simp only [qqG,yg,V.cells,hv',Bool.true_and,fill,List.length_map,h]
 cases yg ps with
 | false=>rfl
 | true=>
  simp only [qTl,cond_false]
  rw [if_pos ⟨trivial,ho⟩]
theorem qD9 {cs:List V}:qPR (some cs)=some (qdn cs):=(rfl)
def qRd (cs:List V) (r:Option (List D)):V:=match r with|some ds=>.d (.agg ds)|none=>.agg cs
theorem qqW {cs:List V}:qdn cs=qRd cs (yr cs):=(rfl)
theorem qnF {cs:List V} {ds:List D}:qRd cs (some ds)=.d (.agg ds):=(rfl)
def qJz (x:D) (r:Option (List D)):Option (List D):=match r with|some r=>some (x::r)|none=>none
theorem qjV {x:D} {r:List D}:qJz x (some r)=some (x::r):=(rfl)
theorem qqp:yr []=some []:=(rfl)
theorem qxN {x:D} {l:List V}:yr (.d x::l)=qJz x (yr l):=(rfl)
def slO (r:Option (List D)):Option V:=match r with|some xs=>if D.wfs xs then some (.osl xs) else none|none=>none
theorem qao {zero:D} {n:Nat} {ps:List (Nat × O)}:qa call (.buildSlice zero n ps) st=okS (slO (qdZ zero.cells.length (List.replicate n zero) (ps.map fun (j,x)=>(j,rd st.env x)))) st:=by
 show kh zero n ps st=_
 unfold kh slO
 cases qdZ zero.cells.length (List.replicate n zero) (ps.map fun (j,x)=>(j,rd st.env x)) with
 | none=>rfl
 | some xs=>simp only;split<;>rfl
theorem qnD {z:Nat} {es:List D}:qdZ z es []=some es:=(rfl)
theorem qjG {z j:Nat} {es:List D} {x:D} {r:List (Nat × V)} (h:(x.cells.length=z)=True) (hj:(j<es.length)=True):qdZ z es ((j,.d x)::r)=qdZ z (es.set j x) r:=by
 simp [qdZ,h,hj]
theorem qqN {xs:List D} (h:D.wfs xs=true):slO (some xs)=some (.osl xs):=by simp [slO,h]
theorem qtv:D.wfs []=true:=(rfl)
theorem qqn {x:D} {l:List D}:D.wfs (x::l)=(x.wf && D.wfs l):=(rfl)
theorem qHf {x:D} (h:x.one=true):x.wf=true:=by cases x<;>first|rfl|cases h
theorem qGS {cs:List D}:D.wf (.agg cs)=D.ones cs:=(rfl)
theorem qwi:D.ones []=true:=(rfl)
theorem quJ {x:D} {l:List D}:D.ones (x::l)=(x.one && D.ones l):=(rfl)
theorem qzc {k:IntKind} {x:Int}:D.cells (.i k x)=[.i k x]:=(rfl)
theorem qkf {cs:List D}:D.cells (.agg cs)=cs:=(rfl)
def qKC (v:Option V) (e:Env) (st:St):Option Or:=match v with|some v=>some ⟨false,true,v,{st with env:=e}⟩|none=>none
theorem qew {size bytes:Nat} {x y:O}:qa call (.bi (.append size bytes) [x,y]) st=qKC (jf size bytes (rd st.env x) (rd st.env y)) (spent x st.env) st:=by
 show j9 size bytes x y st=_
 unfold j9 qKC
 cases jf size bytes (rd st.env x) (rd st.env y)<;>rfl
theorem qnz {v:V} {e:Env}:qKC (some v) e st=some ⟨false,true,v,⟨e,st.H,st.lo⟩⟩:=(rfl)
theorem qsG {z:Nat} {x:D} {l:List D}:qN z (x::l)=qTd x.cells.length z:=(rfl)
theorem qx0 {z b:Nat} {y:D} {ys:List D} (h:qN z (y::ys)=true) (hr:roomy b (y::ys).length=true):jf z b (.d .nil) (.d (.sl (y::ys)))=some (.osl (y::ys)):=by
 simp only [jf,h,hr,qTc,cond_true]
theorem qIG {z b:Nat} {xs ys:List D} (hx:qN z xs=true) (h:qN z ys=true) (hr:roomy b (xs.length+ys.length)=true):jf z b (.osl xs) (.d (.sl ys))=some (.osl (xs++ys)):=by
 simp [jf,hx,h,hr]
def iaV (v i:V) (size:Nat) (arr:Option Nat):Option V:=
 match i with
 | .d (.i _ n)=>match arr with
  | some len=>bif leI 0 n && !leI len n then (match v with
    | .ptr id o=>some (.ptr id (o+n.toNat * size))
    | .lp s o=>some (.lp s (o+n.toNat * size))
    | .cp (.agg cs)=>bif qTd size 1 then (match cs[n.toNat]? with
     | some y=>if y.one then some (.cp y) else none
     | none=>none) else none
    | _=>none) else none
  | none=>bif leI 0 n then (match v with
    | .d (.sl xs)=>(match xs[n.toNat]? with
     | some y=>bif qTd y.cells.length size then some (.cp y) else none
     | none=>none)
    | .rs id o len _=>bif !leI len n && qTd size 1 then some (.ptr id (o+n.toNat)) else none
    | .row id sz len=>bif !leI len n && qTd size sz then some (.ptr id (n.toNat * sz)) else none
    | _=>none) else none
 | _=>none
theorem qko {x i:O} {size:Nat} {arr:Option Nat}:qa call (.indexAddr x i size arr) st=okS (iaV (rd st.env x) (rd st.env i) size arr) st:=by
 show ke x i size arr st=_
 unfold ke iaV
 cases rd st.env i with
 | d w=>
  cases w with
  | i k n=>
   cases arr with
   | some len=>
    simp only [j6]
    cases leI 0 n && !leI len n with
    | false=>rfl
    | true=>
     simp only [cond_true]
     cases rd st.env x with
     | cp w=>
      cases w with
      | agg cs=>
       simp only
       cases qTd size 1 with
       | false=>rfl
       | true=>
        simp only [cond_true]
        cases cs[n.toNat]? with
        | none=>rfl
        | some y=>simp only;split<;>rfl
      | _=>rfl
     | _=>rfl
   | none=>
    simp only [jc]
    cases leI 0 n with
    | false=>rfl
    | true=>
     simp only [cond_true]
     cases rd st.env x with
     | d u=>
      cases u with
      | sl xs=>
       simp only
       cases xs[n.toNat]? with
       | none=>rfl
       | some y=>simp only;cases qTd y.cells.length size<;>rfl
      | _=>rfl
     | rs id o len c=>simp only;cases !leI len n && qTd size 1<;>rfl
     | row id sz len=>simp only;cases !leI len n && qTd size sz<;>rfl
     | _=>rfl
  | _=>rfl
 | _=>rfl
theorem qNJ {xs:List D} {k:IntKind} {n:Int} {size:Nat} {y:D} (h0:0<=n) (h:xs[n.toNat]?=some y) (hy:(y.cells.length=size)=True):iaV (.d (.sl xs)) (.d (.i k n)) size none=some (.cp y):=by
 have hy:y.cells.length=size:=by rw [hy];trivial
 simp [iaV,jx,h0,h,qkq,hy]
theorem qhj {e:Env}:qR e none=some none:=(rfl)
def qRa (v:V):Option (Option Int):=match v with | .d (.i _ n)=>some (some n)|_=>none
theorem qgS {e:Env} {o:O}:qR e (some o)=qRa (rd e o):=(rfl)
theorem qyp {k:IntKind} {n:Int}:qRa (.d (.i k n))=some (some n):=(rfl)
def qM4 (f:Option Int->Option Int->Option V) (a b:Option (Option Int)):Option V:=match a,b with|some a,some b=>f a b|_,_=>none
theorem qeF {z:Nat} {x:O} {lo hi:Option O}:qa call (.sliceL z x lo hi) st=okS (qM4 (qo2 z (rd st.env x)) (qR st.env lo) (qR st.env hi)) st:=by
 show qbF z x lo hi st=_
 unfold qbF qM4
 cases qR st.env lo with
 | none=>rfl
 | some a=>cases qR st.env hi with
  | none=>rfl
  | some b=>simp only;cases qo2 z (rd st.env x) a b<;>rfl
theorem qnM {f:Option Int->Option Int->Option V} {a b:Option Int}:qM4 f (some a) (some b)=f a b:=(rfl)
def qye (r:Option (List Nat)):Option V:=match r with|some t=>some (.d (.s t))|none=>none
def qCv (v:V) (H:List Obj):Option V:=
 match v with
 | .d .nil=>some (.d (.s []))
 | .d (.sl xs)=>qye (zB xs)
 | .rs id o n _=>(match H[id]? with
  | some (.cells cs)=>bif Nat.ble (o+n) cs.length then (match yr ((cs.drop o).take n) with
   | some ds=>qye (zB ds)
   | none=>none) else none
  | _=>none)
 | _=>none
theorem qj4 {x:O}:qa call (.text x) st=okS (qCv (rd st.env x) st.H) st:=by
 show qmg x st=_
 unfold qmg qCv qye
 cases rd st.env x with
 | d u=>cases u with
  | sl xs=>simp only;cases zB xs<;>rfl
  | _=>rfl
 | rs id o n c=>
  simp only
  cases st.H[id]? with
  | none=>rfl
  | some ob=>cases ob with
   | cells cs=>
    simp only
    cases Nat.ble (o+n) cs.length with
    | false=>rfl
    | true=>
     simp only [cond_true]
     cases yr ((cs.drop o).take n) with
     | none=>rfl
     | some ds=>simp only;cases zB ds<;>rfl
   | _=>rfl
 | _=>rfl
theorem qFy {H:List Obj} {xs:List D}:qCv (.d (.sl xs)) H=qye (zB xs):=(rfl)
theorem qyW {t:List Nat} (h:∀c ∈ t,c<256):zB (t.map fun n:Nat=>.i .u8 n)=some t:=by
 induction t with
 | nil=>rfl
 | cons c t ih=>
  have h1:=h c (by simp)
  simp only [qTe,zB]
  rw [if_pos (by omega),ih (fun d hd=>h d (by simp [hd]))]
  simp
end W
/-
  Slices of encoded elements; dictionaries; integers that fit.
-/
namespace W
open Go (IntKind BinOp UnOp)
section
variable {α:Type} {e:α->D} {L:List α} {x:α} {st:St} {pg:Pg}
def slV (e:α->D) (L:List α):V:=match L with | []=>.d .nil|x::l=>.osl ((x::l).map e)
def slD (e:α->D) (L:List α):D:=match L with | []=>.nil|x::l=>.sl ((x::l).map e)
theorem qEb {n:Nat}:qfO n (slV e L)=.d (slD e L):=by cases L<;>rfl
theorem qwh:qhr (slV e L)=slV e L:=by cases L<;>rfl
theorem qnw:qaO (slV e L)=slV e L:=by cases L<;>rfl
theorem qCE {n:Nat}:put (some n) (slV e L) st=⟨(n,slV e L)::st.env,st.H,st.lo⟩:=by cases L<;>rfl
theorem qtY {z:Nat} (he:∀x,(e x).cells.length=z):qN z (L.map e)=true:=by
 cases L with
 | nil=>rfl
 | cons x l=>simp [qN,he,qkq]
theorem qIW {z b:Nat} (he:∀x,(e x).cells.length=z) {M:List α} (hM:M≠[]) (hr:roomy b (L.length+M.length)=true):jf z b (slV e L) (.d (.sl (M.map e)))=some (slV e (L++M)):=by
 have hM':qN z (M.map e)=true:=qtY he
 cases L with
 | nil=>
  cases M with
  | nil=>exact absurd rfl hM
  | cons y l=>exact qx0 hM' (by simpa using hr)
 | cons x l=>
  rw [show slV e (x::l)=.osl ((x::l).map e) from rfl,qIG (qtY he) hM' (by simpa using hr)]
  simp [slV]
theorem qGl {z b:Nat} (he:∀x,(e x).cells.length=z) (hr:roomy b (L.length+1)=true):jf z b (slV e L) (.d (.sl [e x]))=some (slV e (L++[x])):=
 qIW (M:=[x]) he (by simp) hr
end
theorem qdM {x:Int} (h1:-9223372036854775808<=x) (h2:x<=9223372036854775807):wr .i64 x=x:=by
 cases x with
 | ofNat a=>simp only [wr,qsV,qwY];rw [decide_eq_true (by rw [Int.ofNat_eq_natCast] at h2;omega)];rfl
 | negSucc a=>simp only [wr,qwx,qwY];rw [decide_eq_true (by omega)];rfl
theorem qrD {x:Int} (h1:-2147483648<=x) (h2:x<=2147483647):wr .i32 x=x:=by
 cases x with
 | ofNat a=>simp only [wr,qsV,qwY];rw [decide_eq_true (by rw [Int.ofNat_eq_natCast] at h2;omega)];rfl
 | negSucc a=>simp only [wr,qwx,qwY];rw [decide_eq_true (by omega)];rfl
end W
/-
  What arguments read as, kind by kind.
-/
namespace W
open Go (World Value Addr IntKind Program TypeId FuncId Func DataW MemPlace TypeDesc Lit)
theorem zz {n a b:Nat} (h:look ((List.range n).map fun i=>(i,i)) a=some b):a=b:=by
 have key:∀(l:List Nat),look (l.map fun i=>(i,i)) a=some b->a=b:=by
  intro l
  induction l with
  | nil=>intro h;cases h
  | cons x l ih=>
   intro h
   simp only [qTe,look,qS5] at h
   split at h
   ·rename_i hb
    cases h
    exact qS9 hb
   ·exact ih h
 exact key _ h
variable {P:Program} {t e:TypeId} {x:D}
theorem qCz {k:IntKind} (hu:P.underlying t=some (.int k)) (h:Arg P t x):∃z,x=.i k z/\(Lit.int k z).wf=true:=by
 obtain ⟨n,xs,ht,rfl⟩:=h
 cases n with
 | zero=>exact ht.elim
 | succ n=>
  simp only [Ty,hu] at ht
  obtain ⟨z,rfl,hw⟩:=ht
  exact ⟨z,by simp [qan,hu,elD],hw⟩
theorem qF1 (hu:P.underlying t=some .bool) (h:Arg P t x):∃z,x=.b z:=by
 obtain ⟨n,xs,ht,rfl⟩:=h
 cases n with
 | zero=>exact ht.elim
 | succ n=>
  simp only [Ty,hu] at ht
  obtain ⟨z,rfl⟩:=ht
  exact ⟨z,by simp [qan,hu,elD]⟩
theorem qD0 (hu:P.underlying t=some (.slice e)) (h:Arg P t x):x=.nil\/∃l:List D,x=.sl l/\l.length<=Go.maxLen/\∀y ∈ l,Arg P e y:=by
 obtain ⟨n,xs,ht,rfl⟩:=h
 cases n with
 | zero=>exact ht.elim
 | succ n=>
  simp only [Ty,hu] at ht
  rcases ht with rfl|⟨yss,rfl,hl,hy⟩
  ·exact .inl (by simp [qan,hu,elD])
  ·refine .inr ⟨yss.map (elD (qan P e)),by simp [qan,hu,elD],by simpa using hl,fun y hm=>?_⟩
   obtain ⟨q,hq,rfl⟩:=List.mem_map.1 hm
   exact ⟨n,q,hy q hq,rfl⟩
theorem qHh {α:Type} {f:α->D}:∀{l:List D},(∀y ∈ l,∃a,y=f a)->∃L:List α,l=L.map f
 | [],_=>⟨[],rfl⟩
 | y::l,h=>by
  obtain ⟨a,ha⟩:=h y (by simp)
  obtain ⟨L,hL⟩:=qHh (l:=l) (fun z hz=>h z (by simp [hz]))
  exact ⟨a::L,by simp [ha,hL]⟩
inductive SlD {α:Type} (e:α->D):D->List α->Prop
 | nil:SlD e .nil []
 | sl (L:List α):SlD e (.sl (L.map e)) L
theorem SlD.len {α:Type} {e:α->D} {x:D} {L:List α} (h:SlD e x L) {H:List Obj}:qEY .lenL (.d x) H=some (.d (.i .i64 L.length)):=by
 cases h with
 | nil=>rfl
 | sl=>simp [qEY]
theorem qKb {α:Type} {f:α->D} (hu:P.underlying t=some (.slice e)) (h:Arg P t x) (he:∀y,Arg P e y->∃a,y=f a):∃L,SlD f x L:=by
 rcases qD0 hu h with rfl|⟨l,rfl,_,hl⟩
 ·exact ⟨[],.nil⟩
 ·obtain ⟨L,rfl⟩:=qHh (f:=f) (fun y hy=>he y (hl y hy))
  exact ⟨L,.sl L⟩
end W
/-
  Tables of the library, as the rows list them.
-/
namespace W
def qeZ:D:=.agg [.i .u8 0,.i .u8 1,.i .u8 28,.i .u8 2,.i .u8 29,.i .u8 14,.i .u8 24,.i .u8 3,.i .u8 30,.i .u8 22,.i .u8 20,.i .u8 15,.i .u8 25,.i .u8 17,.i .u8 4,.i .u8 8,.i .u8 31,.i .u8 27,.i .u8 13,.i .u8 23,.i .u8 21,.i .u8 19,.i .u8 16,.i .u8 7,.i .u8 26,.i .u8 12,.i .u8 18,.i .u8 6,.i .u8 11,.i .u8 5,.i .u8 10,.i .u8 9]
def qfW:D:=.agg [.i .u8 0,.i .u8 1,.i .u8 56,.i .u8 2,.i .u8 57,.i .u8 49,.i .u8 28,.i .u8 3,.i .u8 61,.i .u8 58,.i .u8 42,.i .u8 50,.i .u8 38,.i .u8 29,.i .u8 17,.i .u8 4,.i .u8 62,.i .u8 47,.i .u8 59,.i .u8 36,.i .u8 45,.i .u8 43,.i .u8 51,.i .u8 22,.i .u8 53,.i .u8 39,.i .u8 33,.i .u8 30,.i .u8 24,.i .u8 18,.i .u8 12,.i .u8 5,.i .u8 63,.i .u8 55,.i .u8 48,.i .u8 27,.i .u8 60,.i .u8 41,.i .u8 37,.i .u8 16,.i .u8 46,.i .u8 35,.i .u8 44,.i .u8 21,.i .u8 52,.i .u8 32,.i .u8 23,.i .u8 11,.i .u8 54,.i .u8 26,.i .u8 40,.i .u8 15,.i .u8 34,.i .u8 20,.i .u8 31,.i .u8 10,.i .u8 25,.i .u8 14,.i .u8 19,.i .u8 9,.i .u8 13,.i .u8 8,.i .u8 7,.i .u8 6]
def qb0:D:=.agg [.i .u64 1,.i .u64 10,.i .u64 100,.i .u64 1000,.i .u64 10000,.i .u64 100000,.i .u64 1000000,.i .u64 10000000,.i .u64 100000000,.i .u64 1000000000,.i .u64 10000000000,.i .u64 100000000000,.i .u64 1000000000000,.i .u64 10000000000000,.i .u64 100000000000000,.i .u64 1000000000000000,.i .u64 10000000000000000,.i .u64 100000000000000000,.i .u64 1000000000000000000,.i .u64 10000000000000000000]
def qkZ:D:=.agg [.i .u8 0,.i .u8 0,.i .u8 0,.i .u8 0,.i .u8 0,.i .u8 0,.i .u8 0,.i .u8 0,.i .u8 0,.i .u8 1,.i .u8 1,.i .u8 1,.i .u8 1,.i .u8 1,.i .u8 0,.i .u8 0,.i .u8 0,.i .u8 0,.i .u8 0,.i .u8 0,.i .u8 0,.i .u8 0,.i .u8 0,.i .u8 0,.i .u8 0,.i .u8 0,.i .u8 0,.i .u8 0,.i .u8 0,.i .u8 0,.i .u8 0,.i .u8 0,.i .u8 1,.i .u8 0,.i .u8 0,.i .u8 0,.i .u8 0,.i .u8 0,.i .u8 0,.i .u8 0,.i .u8 0,.i .u8 0,.i .u8 0,.i .u8 0,.i .u8 0,.i .u8 0,.i .u8 0,.i .u8 0,.i .u8 0,.i .u8 0,.i .u8 0,.i .u8 0,.i .u8 0,.i .u8 0,.i .u8 0,.i .u8 0,.i .u8 0,.i .u8 0,.i .u8 0,.i .u8 0,.i .u8 0,.i .u8 0,.i .u8 0,.i .u8 0,.i .u8 0,.i .u8 0,.i .u8 0,.i .u8 0,.i .u8 0,.i .u8 0,.i .u8 0,.i .u8 0,.i .u8 0,.i .u8 0,.i .u8 0,.i .u8 0,.i .u8 0,.i .u8 0,.i .u8 0,.i .u8 0,.i .u8 0,.i .u8 0,.i .u8 0,.i .u8 0,.i .u8 0,.i .u8 0,.i .u8 0,.i .u8 0,.i .u8 0,.i .u8 0,.i .u8 0,.i .u8 0,.i .u8 0,.i .u8 0,.i .u8 0,.i .u8 0,.i .u8 0,.i .u8 0,.i .u8 0,.i .u8 0,.i .u8 0,.i .u8 0,.i .u8 0,.i .u8 0,.i .u8 0,.i .u8 0,.i .u8 0,.i .u8 0,.i .u8 0,.i .u8 0,.i .u8 0,.i .u8 0,.i .u8 0,.i .u8 0,.i .u8 0,.i .u8 0,.i .u8 0,.i .u8 0,.i .u8 0,.i .u8 0,.i .u8 0,.i .u8 0,.i .u8 0,.i .u8 0,.i .u8 0,.i .u8 0,.i .u8 0,.i .u8 0,.i .u8 0,.i .u8 0,.i .u8 0,.i .u8 0,.i .u8 0,.i .u8 0,.i .u8 0,.i .u8 0,.i .u8 0,.i .u8 0,.i .u8 0,.i .u8 0,.i .u8 0,.i .u8 0,.i .u8 0,.i .u8 0,.i .u8 0,.i .u8 0,.i .u8 0,.i .u8 0,.i .u8 0,.i .u8 0,.i .u8 0,.i .u8 0,.i .u8 0,.i .u8 0,.i .u8 0,.i .u8 0,.i .u8 0,.i .u8 0,.i .u8 0,.i .u8 0,.i .u8 0,.i .u8 0,.i .u8 0,.i .u8 0,.i .u8 0,.i .u8 0,.i .u8 0,.i .u8 0,.i .u8 0,.i .u8 0,.i .u8 0,.i .u8 0,.i .u8 0,.i .u8 0,.i .u8 0,.i .u8 0,.i .u8 0,.i .u8 0,.i .u8 0,.i .u8 0,.i .u8 0,.i .u8 0,.i .u8 0,.i .u8 0,.i .u8 0,.i .u8 0,.i .u8 0,.i .u8 0,.i .u8 0,.i .u8 0,.i .u8 0,.i .u8 0,.i .u8 0,.i .u8 0,.i .u8 0,.i .u8 0,.i .u8 0,.i .u8 0,.i .u8 0,.i .u8 0,.i .u8 0,.i .u8 0,.i .u8 0,.i .u8 0,.i .u8 0,.i .u8 0,.i .u8 0,.i .u8 0,.i .u8 0,.i .u8 0,.i .u8 0,.i .u8 0,.i .u8 0,.i .u8 0,.i .u8 0,.i .u8 0,.i .u8 0,.i .u8 0,.i .u8 0,.i .u8 0,.i .u8 0,.i .u8 0,.i .u8 0,.i .u8 0,.i .u8 0,.i .u8 0,.i .u8 0,.i .u8 0,.i .u8 0,.i .u8 0,.i .u8 0,.i .u8 0,.i .u8 0,.i .u8 0,.i .u8 0,.i .u8 0,.i .u8 0,.i .u8 0,.i .u8 0,.i .u8 0,.i .u8 0,.i .u8 0,.i .u8 0,.i .u8 0,.i .u8 0,.i .u8 0,.i .u8 0,.i .u8 0,.i .u8 0,.i .u8 0,.i .u8 0,.i .u8 0,.i .u8 0,.i .u8 0,.i .u8 0,.i .u8 0]
end W
/-
  Tables that the rows list are what the small semantics reads.
-/
namespace W
open Go (World Value Addr IntKind Program TypeId FuncId Func DataW MemPlace Lit)
theorem qD1 {W:World} {b i:Nat} {v:Value} (h:W.cell? ⟨b,i,none⟩=some v):i<(g0 W).pub b:=by
 show i<(match W.heap[b]? with|some (.cells c _ _)=>c.size|_=>0)
 simp only [World.cell?] at h
 split at h
 ·rename_i c t f hb
  rw [hb]
  simp only [Option.isSome_none,qTb,if_false] at h
  exact (Array.getElem?_eq_some_iff.1 h).1
 ·cases h
theorem qAg {pub:Nat->Nat} {w:World} (k:IntKind):∀zs:List Int,RepDL pub w (zs.map (D.i k)) (zs.map fun z=>Value.int k z)
 | []=>.nil
 | z::zs=>.cons _ _ _ _ (.i k z) (qAg k zs)
theorem qwH {P:Program} {W:World} {name:String} {k:IntKind} {zs:List Int} {g:Nat} {t e:TypeId} {n:Nat}
  (hg:P.globalNamed name=some g) (hty:(P.globals[g]?).map (·.type)=some t) (ht:P.underlying t=some (.array n e)) (he:P.underlying e=some (.int k)) (hce:P.cellsOf e=1) (hct:P.cellsOf t=n) :
  ∀{laid:List (String × DataW Unit)} {ps:List MemPlace},DataW.LaidVars P W laid ps->(name,Go.Lib.tabData k zs) ∈ laid->Go.Lib.TabIs P W name k zs
 | [],_,_,hm=>by cases hm
 | (nm,d)::rest,ps,h,hm=>by
  obtain ⟨g',t',cs,fuel,p,q,hg',ht',hvar,hd,hrest,_⟩:=h
  rcases List.mem_cons.1 hm with e|hm
  ·cases e
   obtain rfl:=Option.some.inj (hg.symm.trans hg')
   obtain rfl:=Option.some.inj (hty.symm.trans ht')
   unfold Go.Lib.TabIs
   rw [hvar,<- Go.Lib.cells_of_tab ht he hce hct hd]
  ·exact qwH hg hty ht he hce hct hrest hm
theorem qDp {M:Maps} {P:Program} {W:World} (h2:qJh M (g0 W) W) (h:∀n x,look M.gl n=some x->∃name k zs,P.globalNamed name=some n/\x=.agg (zs.map (D.i k))/\zs≠[]/\Go.Lib.TabIs P W name k zs):GlOk M (g0 W) W:=by
 refine ⟨?_,h2⟩
 intro n x hn
 obtain ⟨name,k,zs,hg,rfl,hne,ht⟩:=h n x hn
 refine ⟨zs.map fun z=>Value.int k z,qAg k zs,fun j v hj=>?_,?_⟩
 ·have hlt:j<zs.length:=by
   have:=(List.getElem?_eq_some_iff.1 hj).1
   simpa using this
  rw [qTf,ht.cell hg j hlt]
  have:(zs.map fun z=>Value.int k z)[j]?=some (.int k (zs.getD j 0)):=by simp [List.getD,hlt]
  rw [this] at hj
  exact hj
 ·have hpos:0<zs.length:=by cases zs with|nil=>exact absurd rfl hne|cons=>simp
  have:=qD1 (ht.cell hg (zs.length - 1) (by omega))
  simp only [List.length_map]
  omega
end W
/- A program of which parts that a run doesn't reach are cut away: what it gives, the whole one gives. -/
namespace W
open Go (World Value Program FuncId)
inductive Cut:C->C->Prop where
 | stuck (c:C):Cut c .stuck
 | skip:Cut .skip .skip
 | ops (l):Cut (.ops l) (.ops l)
 | opsD (l):Cut (.opsD l) (.opsD l)
 | seq {a a' b b':C} (h:Cut a a') (h':Cut b b'):Cut (.seq a b) (.seq a' b')
 | cond {a a' b b':C} (o) (h:Cut a a') (h':Cut b b'):Cut (.cond o a b) (.cond o a' b')
 | block {a a':C} (id live) (h:Cut a a'):Cut (.block id live a) (.block id live a')
 | loop {a a':C} (live) (h:Cut a a'):Cut (.loop live a) (.loop live a')
 | exit (id):Cut (.exit id) (.exit id)
 | ret:Cut .ret .ret
 | rangeB {a a' b b':C} (k l f p0 p1 live) (h:Cut a a') (h':Cut b b'):Cut (.rangeB k l f p0 p1 live a b) (.rangeB k l f p0 p1 live a' b')
 | rangeZ (k f live):Cut (.rangeZ k f live) (.rangeZ k f live)
theorem Cut.refl:∀c,Cut c c
 | .skip=>.skip
 | .ops l=>.ops l
 | .opsD l=>.opsD l
 | .seq a b=>.seq (refl a) (refl b)
 | .cond o a b=>.cond o (refl a) (refl b)
 | .block i l a=>.block i l (refl a)
 | .loop l a=>.loop l (refl a)
 | .exit i=>.exit i
 | .ret=>.ret
 | .stuck=>.stuck _
 | .rangeB k l f p0 p1 live a b=>.rangeB k l f p0 p1 live (refl a) (refl b)
 | .rangeZ k f live=>.rangeZ k f live
def ExCut (e e':C->St->Option (Ex × St)):Prop:=∀c' c,Cut c' c->∀st x,e c st=some x->e' c' st=some x
theorem ExCut.le {e e':C->St->Option (Ex × St)} (h:ExCut e e'):qv8 e e':=fun c st x=>h c c (.refl c) st x
theorem qFh {c c':Call} {e e':C->St->Option (Ex × St)} (hc:qaB c c') (he:ExCut e e') {x' x:C} (hx:Cut x' x) {st:St} {y:Ex × St} (h:step c e x st=some y):step c' e' x' st=some y:=by
 cases hx with
 | stuck=>cases h
 | skip=>exact h
 | ops l=>exact qeK hc l h
 | opsD l=>exact qf4 hc l h
 | seq h1 h2=>
  simp only [step] at h |-
  rename_i a a' b b'
  cases ha:e a' st with
  | none=>rw [ha] at h;cases h
  | some p=>
   rw [ha] at h
   rw [he _ _ h1 _ _ ha]
   obtain ⟨ex,st1⟩:=p
   cases ex with
   | nrm=>exact he _ _ h2 _ _ h
   | _=>exact h
 | cond o h1 h2=>
  simp only [step] at h |-
  split at h
  ·rename_i hv;(try simp only [hv]);exact he _ _ h1 _ _ h
  ·rename_i hv;(try simp only [hv]);exact he _ _ h2 _ _ h
  ·cases h
 | block id live h1=>
  simp only [step] at h |-
  rename_i a a'
  cases ha:e a' st with
  | none=>rw [ha] at h;cases h
  | some p=>rw [ha] at h;rw [he _ _ h1 _ _ ha];exact h
 | loop live h1=>
  simp only [step] at h |-
  rename_i a a'
  cases ha:e a' {st with env:=restrict live st.env} with
  | none=>rw [ha] at h;cases h
  | some p=>
   rw [ha] at h
   rw [he _ _ h1 _ _ ha]
   obtain ⟨ex,st1⟩:=p
   cases ex with
   | nrm=>exact he _ _ (.loop live h1) _ _ h
   | _=>exact h
 | exit id=>exact h
 | ret=>exact h
 | rangeB k l f p0 p1 live h1 h2=>
  simp only [step] at h |-
  split at h
  ·rename_i k' c' hf
   (try simp only [hf])
   rw [qS5] at h |-
   split at h
   ·rename_i hk
    rw [if_pos hk]
    split at h
    ·rename_i n hn;(try simp only [hn]);exact qiY (he _ _ h1) (he _ _ h2) n h
    ·cases h
   ·cases h
  ·cases h
 | rangeZ k f live=>exact qyf hc he.le (x:=.rangeZ k f live) h
def qzy (fn0 fn:Fn):Prop:=∃c,fn={fn0 with body:=c}/\Cut fn0.body c
structure PgCut (pg' pg:Pg):Prop where
 some:∀i fn,pg.fn i=some fn->∃fn0,pg'.fn i=some fn0/\qzy fn0 fn
 none:∀i,pg.fn i=none->pg'.fn i=none
 ext:pg'.ext=pg.ext
theorem qpH {pg' pg:Pg} (hp:PgCut pg' pg) {e e':C->St->Option (Ex × St)} (he:ExCut e e') {fn:Fn} {H:List Obj} {h:Nat} {vs:List V} {v:V} {st:St} {r:Cr} (hh:handle pg e fn H h vs v st=some r):handle pg' e' fn H h vs v st=some r:=by
 obtain ⟨hf,d,st',h1,h2,h3,h6,h4,h5⟩:=qgi hh
 obtain ⟨hf0,g1,c,rfl,g2⟩:=hp.some _ _ h1
 have h2':hf0.rcv=_:=h2
 have h3':hf0.np=_:=h3
 have h6':hf0.res=_:=h6
 unfold handle
 simp only [g1,h2',h3',h6',qtr,List.isEmpty_nil,qTc,cond_true]
 rcases h4 with h4|h4<;>simp only [he _ _ g2 _ _ h4,h5]
theorem qyC {pg' pg:Pg} (hp:PgCut pg' pg) {e e':C->St->Option (Ex × St)} (he:ExCut e e') {fn:Fn} {H:List Obj} {t:Nat} {rest:C} {st:St} {r:Cr} (hh:deferred pg e fn H t rest st=some r):deferred pg' e' fn H t rest st=some r:=by
 obtain ⟨h,first,cap,ex,st',v,h1,h2,h3,h4,h5⟩:=qbL hh
 unfold deferred
 simp only [h1,h2,cond_true]
 rcases h5 with ⟨h5|h5,rfl⟩|⟨rfl,h6⟩
 ·subst h5;simp only [he.le _ _ _ h3,qpH hp he h4]
 ·subst h5;simp only [he.le _ _ _ h3,qpH hp he h4]
 ·simp only [he.le _ _ _ h3,h6,cond_true,qpH hp he h4]
theorem qqq {pg' pg:Pg} (hp:PgCut pg' pg) {e e':C->St->Option (Ex × St)} (he:ExCut e e'):qaB (qt pg e) (qt pg' e'):=by
 intro i vs H r h
 unfold qt at h |-
 cases hf:pg.fn i with
 | none=>rw [hf] at h;rw [hp.none _ hf,hp.ext];exact h
 | some fn=>
  obtain ⟨fn0,g1,c,rfl,g2⟩:=hp.some _ _ hf
  rw [hf] at h
  rw [g1]
  simp only at h |-
  split at h
  ·rename_i hn
   rw [if_pos hn]
   cases hb:e c {env:=kf 0 vs,H,lo:=H.length} with
   | none=>rw [hb] at h;cases h
   | some p=>
    rw [hb] at h;rw [he _ _ g2 _ _ hb]
    obtain ⟨ex,st⟩:=p
    cases ex with
    | nrm=>
     simp only at h |-
     cases hd:fn0.dfr with
     | none=>rw [hd] at h;exact h
     | some q=>
      obtain ⟨t,rest⟩:=q
      rw [hd] at h
      exact qyC hp he h
    | _=>exact h
  ·cases h
theorem quP {pg' pg:Pg} (hp:PgCut pg' pg):∀n,ExCut (exec pg n) (exec pg' n)
 | 0=>fun _ _ _ _ _ h=>by simp [exec] at h
 | n+1=>fun c' c hc st x h=>qFh (qqq hp (quP hp n)) (quP hp n) hc h
theorem qDn {pg' pg:Pg} (hp:PgCut pg' pg) (n:Nat):qaB (zD pg n) (zD pg' n):=qqq hp (quP hp n)
def qlP:C->Nat->C × Nat
 | .seq a b,n=>match qlP a (n / 2) with
  | (a',m)=>bif qTd (n % 2) 1 then (match qlP b m with|(b',m')=>(.seq a' b',m')) else (.seq a' .stuck,m)
 | .cond o a b,n=>match (bif qTd (n % 2) 1 then qlP a (n / 2) else (.stuck,n / 2):C × Nat) with
  | (a',m)=>match (bif qTd (m % 2) 1 then qlP b (m / 2) else (.stuck,m / 2):C × Nat) with
   | (b',m')=>(.cond o a' b',m')
 | .block i l a,n=>match qlP a n with|(a',m)=>(.block i l a',m)
 | .loop l a,n=>match qlP a n with|(a',m)=>(.loop l a',m)
 | .rangeB k l f p0 p1 live a b,n=>match qlP a n with
  | (a',m)=>match qlP b m with|(b',m')=>(.rangeB k l f p0 p1 live a' b',m')
 | c,n=>(c,n)
theorem qjP:∀c n,Cut c (qlP c n).1
 | .seq a b,n=>by
  unfold qlP
  have h1:=qjP a (n / 2)
  have h2:=qjP b (qlP a (n / 2)).2
  cases h:qTd (n % 2) 1 with
  | true=>simp only [h,cond_true];exact .seq h1 h2
  | false=>simp only [h,cond_false];exact .seq h1 (.stuck _)
 | .cond o a b,n=>by
  unfold qlP
  have h1:Cut a (bif qTd (n % 2) 1 then qlP a (n / 2) else (.stuck,n / 2):C × Nat).1:=by
   cases h:qTd (n % 2) 1 with
   | true=>exact qjP a _
   | false=>exact .stuck _
  generalize (bif qTd (n % 2) 1 then qlP a (n / 2) else (.stuck,n / 2):C × Nat)=p at h1 |-
  obtain ⟨a',m⟩:=p
  have h2:Cut b (bif qTd (m % 2) 1 then qlP b (m / 2) else (.stuck,m / 2):C × Nat).1:=by
   cases h:qTd (m % 2) 1 with
   | true=>exact qjP b _
   | false=>exact .stuck _
  simp only
  generalize (bif qTd (m % 2) 1 then qlP b (m / 2) else (.stuck,m / 2):C × Nat)=p at h2 |-
  obtain ⟨b',m'⟩:=p
  exact .cond o h1 h2
 | .block i l a,n=>.block i l (qjP a n)
 | .loop l a,n=>.loop l (qjP a n)
 | .rangeB k l f p0 p1 live a b,n=>.rangeB k l f p0 p1 live (qjP a n) (qjP b _)
 | .skip,_=>.skip
 | .ops l,_=>.ops l
 | .opsD l,_=>.opsD l
 | .exit i,_=>.exit i
 | .ret,_=>.ret
 | .stuck,_=>.stuck _
 | .rangeZ k f live,_=>.rangeZ k f live
def qFe (n:Nat) (fn:Fn):Fn:={fn with body:=(qlP fn.body n).1}
theorem qQI (n:Nat) (fn:Fn):qzy fn (qFe n fn):=⟨_,rfl,qjP _ _⟩
def qjT (P:Program) (M:Maps) (pg:Pg):Prop:=
 ∀f' i,look M.fm f'=some i->∀fn',pg.fn i=some fn'->∃fn A own fn0,P.funcs[f']?=some fn/\(fn.name == "runtime.NumGoroutine")=false/\jC M P A own fn=some fn0/\qzy fn0 fn'
def kA (P:Program) (M:Maps) (i:Nat) (fn':Fn):Prop:=∃fn A own fn0,P.funcs[i]?=some fn/\(fn.name == "runtime.NumGoroutine")=false/\jC M P A own fn=some fn0/\qzy fn0 fn'
theorem qQq {P:Program} {M:Maps} {i:Nat} {fn':Fn} {fn:Go.Func} (h:P.funcs[i]?=some fn) (A:Ann) (own:Bool) (n:Nat) (hn:(fn.name == "runtime.NumGoroutine")=false) (ht:(jC M P A own fn).map (qFe n)=some fn'):kA P M i fn':=by
 obtain ⟨fn0,h1,h2⟩:=Option.map_eq_some_iff.1 ht
 exact ⟨fn,A,own,fn0,h,hn,h1,h2▸qQI n fn0⟩
theorem qX {P:Program} {M:Maps} {i:Nat} {fn':Fn} {fn:Go.Func} {A:Ann} {own:Bool} (h:P.funcs[i]?=some fn) (hn:(fn.name == "runtime.NumGoroutine")=false) (ht:jC M P A own fn=some fn'):kA P M i fn':=⟨fn,A,own,fn',h,hn,ht,_,rfl,.refl _⟩
def qws (n:Nat):List (Nat × Fn)->Option Fn
 | []=>none
 | p::l=>bif qTd n p.1 then some p.2 else qws n l
theorem qsx {n:Nat} {f:Fn}:∀{l:List (Nat × Fn)},qws n l=some f->(n,f) ∈ l
 | [],h=>by cases h
 | (k,g)::l,h=>by
  unfold qws at h
  rw [qS5] at h
  split at h
  ·rename_i hb
   cases h
   obtain rfl:=qS9 hb
   exact .head _
  ·exact .tail _ (qsx h)
inductive RowsOk (P:Program) (M:Maps):List (Nat × Fn)->Prop
 | nil:RowsOk P M []
 | cons {i:Nat} {f:Fn} {T:List (Nat × Fn)} (h:kA P M i f) (t:RowsOk P M T):RowsOk P M ((i,f)::T)
theorem RowsOk.all {P:Program} {M:Maps} {T:List (Nat × Fn)} (h:RowsOk P M T):∀p ∈ T,kA P M p.1 p.2:=by
 induction h with
 | nil=>intro p hp;cases hp
 | cons h t ih=>
  intro p hp
  cases hp with
  | head=>exact h
  | tail _ hp=>exact ih p hp
theorem qsp {P:Program} {M:Maps} {pg:Pg} {T:List (Nat × Fn)} (hT:∀p ∈ T,kA P M p.1 p.2) (hp:∀i fn,pg.fn i=some fn->qws i T=some fn) (hid:∀f' i,look M.fm f'=some i->f'=i):qjT P M pg:=fun f' i hl fn' hf=>by
 obtain rfl:=hid _ _ hl
 exact hT _ (qsx (hp _ _ hf))
theorem whole {P:Program} {M:Maps} {pg:Pg} (hT:qjT P M pg) (hid:∀f' i,look M.fm f'=some i->f'=i):∃pg',qQl P M pg'/\PgCut pg' pg:=by
 have key:∀i fn,pg.fn i=some fn->∃fn0,qzy fn0 fn/\∀f',look M.fm f'=some i->∃fn A own,P.funcs[f']?=some fn/\(fn.name == "runtime.NumGoroutine")=false/\jC M P A own fn=some fn0:=fun i fn h=>by
  cases hl:look M.fm i with
  | none=>exact ⟨fn,⟨_,rfl,.refl _⟩,fun f' hf=>by rw [hid _ _ hf,hl] at hf;cases hf⟩
  | some j=>
   have e:=hid _ _ hl
   subst e
   obtain ⟨fn1,A,own,fn0,h1,h2,h3,h4⟩:=hT _ _ hl _ h
   exact ⟨fn0,h4,fun f' hf=>by rw [hid _ _ hf];exact ⟨fn1,A,own,h1,h2,h3⟩⟩
 refine ⟨⟨fun i=>match h:pg.fn i with|none=>none|some fn=>some (key i fn h).choose,pg.ext⟩,?_,?_,?_,rfl⟩
 ·intro f' i hl fn' hf
  simp only at hf
  split at hf
  ·cases hf
  ·rename_i fn h
   cases hf
   exact (key i fn h).choose_spec.2 f' hl
 ·intro i fn h
  refine ⟨(key i fn h).choose,?_,(key i fn h).choose_spec.1⟩
  simp only
  split
  ·rename_i h';rw [h] at h';cases h'
  ·rename_i fn2 h'
   rw [h] at h';cases h';rfl
 ·intro i h
  simp only
  split
  ·rfl
  ·rename_i fn2 h';rw [h] at h';cases h'
theorem qst {P:Program} {M:Maps} {pg:Pg} (hm:P.follows .mixedOrders=true) (hT:qjT P M pg) (hB:qxW P M) (hid:∀f' i,look M.fm f'=some i->f'=i) (hx:qs P M pg.ext) (hxlo:qw pg.ext) (n:Nat):qs P M (zD pg n):=by
 obtain ⟨pg',h1,h2⟩:=whole hT hid
 have hs:=sound hm ⟨h1,hB⟩ (by rw [h2.ext];exact hx) (by rw [h2.ext];exact hxlo) n
 intro i vs H r h
 exact hs i vs H r (qDn h2 n i vs H r h)
end W
