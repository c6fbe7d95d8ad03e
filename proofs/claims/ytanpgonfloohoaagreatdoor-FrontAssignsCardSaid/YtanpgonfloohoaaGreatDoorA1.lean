/-
  FrontAssigns, part 1.
-/
import GoSem.Core.View
import Derived.CheckFast
import GoSem.Core.Program
import GoSem.Core.Region
import Derived.Still
import Derived.Calls
import Derived.Orders
import Derived.Laws.Cells
import Derived.Laws.AppendOwn
import Derived.Lib.Strings
import Derived.Laws.StructEq
set_option linter.unusedSimpArgs false
set_option linter.unusedVariables false
/-
  A value semantics for a part of Go: data, values, a small code, its evaluator and the evaluator's limit.
-/
open Bool renaming cond_eq_ite->qOx,and_eq_true->qOy,false_eq_true->qOF
open Nat renaming eq_of_beq_eq_true->qOz,le_refl->qOB,beq->qOC,le_of_ble_eq_true->qOH
open Option renaming bind_eq_some_iff->qOA,bind_eq_bind->qOD,pure_def->qOE,map_some->qOG
namespace W
open Go (IntKind BinOp UnOp)
inductive D where
 | b (x:Bool)
 | i (k:IntKind) (n:Int)
 | s (x:List Nat)
 | nil
 | sl (xs:List D)
 | agg (cs:List D)
 | np|nf|ni|nm
 deriving Inhabited
inductive V where
 | d (x:D)
 | osl (xs:List D)
 | fsl (xs:List D)
 | ptr (id off:Nat)
 | lp (slot off:Nat)
 | box (cs:List V)
 | cp (x:D)
 | rs (id off len cap:Nat)
 | row (id sz len:Nat)
 | map (id:Nat)
 | fn (f:Nat) (first cap:List V)
 | ifc (t:Nat) (x:V)
 | agg (cs:List V)
 | tup (vs:List V)
 | undef
 deriving Inhabited
structure L where
 n:Nat
 agg:Bool
 deriving Inhabited,DecidableEq
inductive Obj where
 | cells (cs:List V)
 | map (es:List (D × V))
 | row (l:L) (cs:List V)
 | dead
 | iter (id:Nat)
 deriving Inhabited
abbrev Env:=List (Nat × V)
def get (n:Nat):Env->V
 | []=>.undef
 | (m,v)::e=>bif qOC n m then v else get n e
def restrict (live:List Nat) (e:Env):Env:=live.map fun n=>(n,match get n e with | .lp _ _=>.undef|v=>v)
def jQ:List V->Option (List D)
 | []=>some []
 | .d x::l=>match jQ l with|some r=>some (x::r)|none=>none
 | .osl xs::l=>match jQ l with|some r=>some (.sl xs::r)|none=>none
 | .fsl xs::l=>match jQ l with|some r=>some (.sl xs::r)|none=>none
 | _::_=>none
def qfh (cs:List V):V:=match jQ cs with|some ds=>.d (.agg ds)|none=>.agg cs
def zy:V->V
 | .osl xs=>.d (.sl xs)
 | v=>v
def copy:V->V
 | .osl xs=>.d (.sl xs)
 | .agg cs=>qfh (cs.map zy)
 | v=>v
inductive O where
 | t (n:Nat)
 | c (x:D)
 | f (i:Nat)
 | mv (n:Nat)
 | g (i:Nat) (x:D)
 deriving Inhabited
def qgG (k:Nat):V->V
 | .box _=>.lp k 0
 | v=>copy v
def qiA:V->V
 | .box _=>.undef
 | v=>v
def rd (e:Env):O->V
 | .t n=>qgG n (get n e)
 | .c x=>.d x
 | .f i=>.fn i [] []
 | .mv n=>qiA (get n e)
 | .g _ x=>.cp x
def spent:O->Env->Env
 | .mv n,e=>(n,.undef)::e
 | _,e=>e
def spentAll:List O->Env->Env
 | [],e=>e
 | o::l,e=>spentAll l (spent o e)
inductive Bi where
 | lenS|lenL|lenM|append (size bytes:Nat)|max|min
 deriving Inhabited,DecidableEq
inductive Kd where
 | num|bool|ptr|slice|map|func|iface
 | agg (ks:List Nat)
 deriving Inhabited,DecidableEq
inductive OpK where
 | mov (x:O)
 | pick (c a b:O)
 | alloc (loc:Bool) (zero:List D)
 | box (loc:Bool) (x:O)
 | build (zero:List D) (parts:List (Nat × Nat × O))
 | buildSlice (zero:D) (len:Nat) (parts:List (Nat × O))
 | load (mv:Bool) (sl:Option Nat) (l:L) (a:O)
 | loadC (l:L) (a:O)
 | store (sl:Option Nat) (l:L) (a x:O)
 | nilCheck (x:O)
 | bin (op:BinOp) (kd:Kd) (x y:O)
 | un (op:UnOp) (x:O)
 | conv (k:IntKind) (x:O)
 | bytes (x:O)
 | text (x:O)
 | movS (x:O)
 | mkIfc (t:Nat) (x:O)
 | mkFn (f:Nat) (first cap:List O)
 | mkMap
 | mkSlice (zero:D) (len cap:O)
 | buildRow (zero:D) (len:Nat) (parts:List (Nat × O))
 | buildFull (zero:D) (len:Nat) (parts:List (Nat × O))
 | buildV (zero:List D) (parts:List (Nat × Nat × O))
 | bytesRow (x:O)
 | assertOk (t:Nat) (zero:D) (x:O)
 | sliceS (x:O) (lo hi:Option O)
 | sliceL (size:Nat) (x:O) (lo hi:Option O)
 | sliceA (n:Nat) (x:O) (lo hi:Option O)
 | sliceM (size:Nat) (x:O) (lo:Option O) (hi mx:O)
 | stuck
 | fieldAddr (x:O) (off:Nat) (l:L)
 | field (x:O) (off:Nat) (l:L)
 | indexAddr (x i:O) (size:Nat) (arr:Option Nat)
 | index (x i:O)
 | lookup (kk:Nat) (zero:D) (m k:O) (ok:Bool)
 | mapUpdate (kk:Nat) (m k x:O)
 | extract (x:O) (i:Nat)
 | bi (b:Bi) (args:List O)
 | call (f:O) (args:List O)
 | panic (x:O)
 | appendR (l:L) (bytes:Nat) (x y:O)
 | buildR (l:L) (zero:D) (len:Nat) (parts:List (Nat × O))
 | fz (n:Nat)
 | capN (x:O)
 | zerosR (l:L) (bytes:Nat) (zero:D) (x n:O)
 | truncR (x hi:O)
 | cvtR (x:O)
 | callQ (f:O) (args:List O)
 | callC (f:O) (args:List O) (chk:List (Nat × L × Nat))
 | appendC (l:L) (bytes:Nat) (x y:O)
 | clearS (z:D) (x:O)
 | rangeM (x:O)
 | next (x:O)
 | movO (n:Nat)
 | copyR (x y:O)
 | cvtO (x:O)
 deriving Inhabited
structure Op where
 dst:Option Nat
 k:OpK
 g:Option (Nat × Bool)
 deriving Inhabited
inductive C where
 | skip
 | ops (l:List Op)
 | opsD (l:List (Op × Bool × List Nat))
 | seq (a b:C)
 | cond (o:O) (a b:C)
 | block (id:Nat) (live:List Nat) (a:C)
 | loop (live:List Nat) (a:C)
 | exit (id:Nat)
 | ret
 | stuck
 | rangeB (k:Nat) (l:L) (f:O) (p0 p1:Nat) (live:List Nat) (a b:C)
 | rangeZ (k:Nat) (f:O) (live:List Nat)
 deriving Inhabited
inductive Rv where
 | t (n:Nat)
 | cell (n:Nat) (l:L)
 deriving Inhabited
structure Fn where
 np:Nat
 res:List Rv
 own:Bool
 body:C
 dfr:Option (Nat × C):=none
 rcv:Option Nat:=none
 deriving Inhabited
structure St where
 env:Env
 H:List Obj
 lo:Nat
 deriving Inhabited
inductive Ex where
 | nrm
 | exit (id:Nat)
 | ret
 | pan (v:V)
 deriving Inhabited
structure Cr where
 pan:Bool
 same:Bool
 v:V
 H:List Obj
 lo:Nat
 deriving Inhabited
abbrev Call:=Nat->List V->List Obj->Option Cr
def D.cells:D->List D
 | .agg cs=>cs
 | x=>[x]
def V.cells:V->List V
 | .d (.agg cs)=>cs.map .d
 | .agg cs=>cs
 | v=>[v]
def D.part (off:Nat) (l:L) (cs:List D):Option D:=
 if l.agg then (if off+l.n<=cs.length then some (.agg ((cs.drop off).take l.n)) else none) else cs[off]?
def V.part (off:Nat) (l:L) (cs:List V):Option V:=
 if l.agg then (if off+l.n<=cs.length then some (qfh (((cs.drop off).take l.n).map zy)) else none) else (cs[off]?).map zy
def qqX (k:IntKind):Nat:=
 match k with
 | .i8=>127 | .i16=>32767 | .i32=>2147483647 | .i64=>9223372036854775807
 | .u8=>255 | .u16=>65535 | .u32=>4294967295 | .u64=>18446744073709551615
def qvs (k:IntKind) (a:Nat):Bool:=
 match k with
 | .i8=>Nat.ble a 127 | .i16=>Nat.ble a 32767 | .i32=>Nat.ble a 2147483647 | .i64=>Nat.ble a 9223372036854775807
 | _=>false
def wr (k:IntKind) (n:Int):Int:=
 match n with
 | .ofNat a=>bif Nat.ble a (qqX k) then .ofNat a else k.wrap n
 | .negSucc a=>bif qvs k a then .negSucc a else k.wrap n
def eqI:Int->Int->Bool
 | .ofNat a,.ofNat b=>qOC a b
 | .negSucc a,.negSucc b=>qOC a b
 | _,_=>false
def leI:Int->Int->Bool
 | .ofNat a,.ofNat b=>Nat.ble a b
 | .negSucc a,.negSucc b=>Nat.ble b a
 | .negSucc _,.ofNat _=>true
 | .ofNat _,.negSucc _=>false
def eqK:IntKind->IntKind->Bool
 | .i8,.i8 | .i16,.i16 | .i32,.i32 | .i64,.i64 | .u8,.u8 | .u16,.u16 | .u32,.u32 | .u64,.u64=>true
 | _,_=>false
def eqT:List Nat->List Nat->Bool
 | [],[]=>true
 | a::x,b::y=>qOC a b && eqT x y
 | _,_=>false
def D.same:D->D->Option Bool
 | .b x,.b y=>some (x == y)
 | .i k x,.i k' y=>bif eqK k k' then some (eqI x y) else none
 | .s x,.s y=>some (eqT x y)
 | _,_=>none
def D.scalarSame:List Nat->List D->List D->Option Bool
 | [],[],[]=>some true
 | 0::ks,.b x::l,.b y::r=>match D.scalarSame ks l r with|some z=>some (x == y && z)|none=>none
 | 1::ks,.i k x::l,.i k' y::r=>bif eqK k k' then (match D.scalarSame ks l r with|some z=>some (eqI x y && z)|none=>none) else none
 | 2::ks,.s x::l,.s y::r=>match D.scalarSame ks l r with|some z=>some (eqT x y && z)|none=>none
 | _,_,_=>none
def qad:List Nat->List Nat->Bool
 | _,[]=>false
 | [],_::_=>true
 | a::x,b::y=>Nat.blt a b || (qOC a b && qad x y)
def qen (op:BinOp) (k:IntKind) (x y:Int):Option Int:=
 let a:=BitVec.ofInt k.bits x
 let b:=BitVec.ofInt k.bits y
 match op with
 | .and=>some (k.wrap (a &&& b).toNat)
 | .or=>some (k.wrap (a ||| b).toNat)
 | .xor=>some (k.wrap (a ^^^ b).toNat)
 | .andNot=>some (k.wrap (a &&& ~~~b).toNat)
 | _=>none
def qjb (op:BinOp) (k:IntKind) (x y:Int):Option D:=
 match op with
 | .add=>some (.i k (wr k (x+y)))
 | .sub=>some (.i k (wr k (x - y)))
 | .mul=>some (.i k (wr k (x * y)))
 | .quo=>bif eqI y 0 then none else some (.i k (wr k (x.tdiv y)))
 | .rem=>bif eqI y 0 then none else some (.i k (x.tmod y))
 | .eql=>some (.b (eqI x y))
 | .neq=>some (.b (!eqI x y))
 | .lss=>some (.b (!leI y x))
 | .leq=>some (.b (leI x y))
 | .gtr=>some (.b (!leI x y))
 | .geq=>some (.b (leI y x))
 | op=>(qen op k x y).map (.i k)
def qny (op:BinOp) (k:IntKind) (x y:Int):Option D:=
 bif !leI 0 y then none else
 match op with
 | .shl=>some (.i k (wr k (x * 2 ^ (min y.toNat k.bits))))
 | .shr=>some (.i k (x.fdiv (2 ^ (min y.toNat k.bits))))
 | _=>none
def qnU (op:BinOp) (x y:List Nat):Option D:=
 match op with
 | .add=>if x.length+y.length<=9223372036854775807 then some (.s (x++y)) else none
 | .eql=>some (.b (eqT x y))
 | .neq=>some (.b (!eqT x y))
 | .lss=>some (.b (qad x y))
 | .leq=>some (.b (qad x y || eqT x y))
 | .gtr=>some (.b (!(qad x y || eqT x y)))
 | .geq=>some (.b (!qad x y))
 | _=>none
def qea:BinOp->Bool
 | .shl | .shr=>true
 | _=>false
def V.isNil (kd:Kd) (v:V):Option Bool:=
 match kd,v with
 | .ptr,.d .np=>some true
 | .ptr,.ptr _ _=>some false
 | .slice,.d .nil=>some true
 | .slice,.d (.sl _)=>some false
 | .slice,.rs _ _ _ _=>some false
 | .slice,.row _ _ _=>some false
 | .map,.d .nm=>some true
 | .map,.map _=>some false
 | .func,.d .nf=>some true
 | .func,.fn _ _ _=>some false
 | .iface,.d .ni=>some true
 | .iface,.ifc _ _=>some false
 | _,_=>none
def qsl (kd:Kd) (cst:Bool) (x y:V):Option Bool:=
 match kd with
 | .bool=>match x,y with
  | .d (.b a),.d (.b b)=>some (a == b)
  | _,_=>none
 | .agg ks=>match x,y with
  | .d (.agg a),.d (.agg b)=>D.scalarSame ks a b
  | _,_=>none
 | kd=>bif cst then (match V.isNil kd x,V.isNil kd y with
  | some true,some b=>some b
  | some false,some true=>some false
  | _,_=>none) else none
def qhz (op:BinOp) (kd:Kd) (cst:Bool) (x y:V):Option V:=
 match kd with
 | .num=>match x,y with
  | .d (.i k a),.d (.i k' b)=>(bif qea op then qny op k a b else (bif eqK k k' then qjb op k a b else none)).map .d
  | .d (.s a),.d (.s b)=>(qnU op a b).map .d
  | _,_=>none
 | kd=>match op with
  | .eql=>(qsl kd cst x y).map fun z=>.d (.b z)
  | .neq=>(qsl kd cst x y).map fun z=>.d (.b !z)
  | _=>none
def isC:O->Bool
 | .c _=>true
 | _=>false
def unD (op:UnOp):D->Option D
 | .i k x=>match op with
  | .neg=>some (.i k (wr k (0 - x)))
  | .xor=>(qen .xor k (if k.signed then -1 else k.max) x).map (.i k)
  | _=>none
 | .b x=>match op with
  | .not=>some (.b !x)
  | _=>none
 | _=>none
def qDi:D->Option Int
 | .nil=>some 0
 | .sl xs=>some xs.length
 | _=>none
def yz:List D->Option (List Nat)
 | []=>some []
 | .i .u8 n::l=>if 0<=n/\n<256 then (yz l).map (n.toNat::·) else none
 | _=>none
def fill (cells:List V):List (Nat × Nat × V)->Option (List V)
 | []=>some cells
 | (off,size,v)::r=>
  let vs:=v.cells
  if vs.length=size/\off+size<=cells.length then fill (cells.take off++vs++cells.drop (off+size)) r else none
def qdW (size:Nat) (es:List D):List (Nat × V)->Option (List D)
 | []=>some es
 | (j,.d x)::r=>if x.cells.length=size/\j<es.length then qdW size (es.set j x) r else none
 | _::_=>none
def kr (cs:List V) (off:Nat) (vs:List V):Option (List V):=
 if off+vs.length<=cs.length then some (cs.take off++vs++cs.drop (off+vs.length)) else none
def qQ (H:List Obj) (id:Nat) (o:Obj):List Obj:=H.set id o
def V.ref:V->Nat
 | .ptr id _=>id+1
 | .rs id _ _ _=>id+1
 | .row id _ _=>id+1
 | .map id=>id+1
 | .fn _ a b=>max (refs a) (refs b)
 | .ifc _ x=>x.ref
 | .agg cs=>refs cs
 | .tup vs=>refs vs
 | .box cs=>refs cs
 | _=>0
 where refs:List V->Nat
 | []=>0
 | v::l=>max v.ref (refs l)
def V.ok:V->Bool
 | .d _=>true
 | .ptr _ _=>true
 | .rs _ _ _ _=>true
 | .row _ _ _=>true
 | .map _=>true
 | .fn _ a b=>oks a && oks b
 | .ifc _ x=>x.ok
 | .agg cs=>oks cs
 | .tup vs=>oks vs
 | .osl _=>false
 | .fsl _=>true
 | .lp _ _=>false
 | .cp _=>false
 | .box _=>false
 | .undef=>true
 where oks:List V->Bool
 | []=>true
 | v::l=>v.ok && oks l
def V.leaves:V->Bool
 | .osl _=>true
 | v=>v.ok
def V.allLeave:List V->Bool
 | []=>true
 | v::l=>v.leaves && V.allLeave l
def D.one:D->Bool
 | .agg _=>false
 | _=>true
def D.ones:List D->Bool
 | []=>true
 | x::l=>x.one && D.ones l
def D.wf (x:D):Bool:=D.ones x.cells
def D.wfs:List D->Bool
 | []=>true
 | x::l=>x.wf && D.wfs l
def V.one:V->Bool
 | .d x=>x.one
 | .osl _=>true
 | .agg _=>false
 | .tup _=>false
 | .undef=>false
 | v=>v.ok
def V.ones:List V->Bool
 | []=>true
 | v::l=>v.one && V.ones l
def qcy (k:D):List (D × V)->Option (Option V)
 | []=>some none
 | (k',v)::l=>match k.same k' with
  | some true=>some (some v)
  | some false=>qcy k l
  | none=>none
def qk6 (k:D) (x:V):List (D × V)->Option (List (D × V))
 | []=>some [(k,x)]
 | (k',v)::l=>match k.same k' with
  | some true=>some ((k',x)::l)
  | some false=>match qk6 k x l with|some r=>some ((k',v)::r)|none=>none
  | none=>none
def zt:Nat->D->Bool
 | 0,.b _=>true
 | 1,.i _ _=>true
 | 2,.s _=>true
 | _,_=>false
structure Or where
 pan:Bool
 same:Bool
 v:V
 st:St
def ok (v:V) (st:St):Option Or:=some ⟨false,true,v,st⟩
def okH (v:V) (st:St):Option Or:=some ⟨false,false,v,st⟩
def qF (l:L) (st:St):V->Option V
 | .lp s off=>match get s st.env with
  | .box cs=>V.part off l cs
  | _=>none
 | .cp x=>if l.agg then (match x with | .agg cs=>if cs.length=l.n then some (.d x) else none|_=>none) else (match x with | .agg _=>none|_=>some (.d x))
 | .ptr id off=>match st.H[id]? with
  | some (.cells cs)=>V.part off l cs
  | some (.row _ cs)=>V.part off l cs
  | _=>none
 | _=>none
def yy (l:L) (st:St) (x:V):V->Option St
 | .lp s off=>match get s st.env with
  | .box cs=>if x.cells.length=l.n && V.ones x.cells then (match kr cs off x.cells with|some cs'=>some {st with env:=(s,.box cs')::st.env}|none=>none) else none
  | _=>none
 | .ptr id off=>match st.H[id]? with
  | some (.cells cs)=>if x.cells.length=l.n && V.ones x.cells then
    (match kr cs off x.cells with
     | some cs'=>some {st with H:=qQ st.H id (.cells cs'),lo:=min st.lo id}
     | none=>none) else none
  | some (.row k cs)=>if x.cells.length=l.n && V.ones x.cells && V.ok.oks x.cells then
    (match kr cs off x.cells with
     | some cs'=>some {st with H:=qQ st.H id (.row k cs'),lo:=min st.lo id}
     | none=>none) else none
  | _=>none
 | _=>none
def qm5 (st:St):V->Option (V × St)
 | .lp s o=>match get s st.env with
  | .box cs=>match cs[o]? with
   | some v=>some (v,{st with env:=(s,.box (cs.set o .undef))::st.env})
   | none=>none
  | _=>none
 | .ptr id o=>match st.H[id]? with
  | some (.cells cs)=>match cs[o]? with
   | some v=>some (v,{st with H:=qQ st.H id (.cells (cs.set o .undef)),lo:=min st.lo id})
   | none=>none
  | _=>none
 | _=>none
def qw5 (xs:List D):V:=
 match xs with
 | []=>.d (.sl [])
 | x::l=>.osl (x::l)
def kL (size:Nat):List D->Bool
 | []=>true
 | x::_=>qOC x.cells.length size
def roomy (bytes n:Nat):Bool:=Nat.ble (n * bytes) 140737488355328 && Nat.ble n 140737488355328
def qlT (size bytes:Nat) (a b:V):Option V:=
 match a,b with
 | .d .nil,.d .nil=>some (.d .nil)
 | .d .nil,.d (.sl ys)=>bif kL size ys && roomy bytes ys.length then some (match ys with | []=>.d .nil|_=>.osl ys) else none
 | .d .nil,.d (.s ys)=>bif qOC size 1 && roomy bytes ys.length then some (match ys with | []=>.d .nil|_=>.osl (ys.map fun n:Nat=>.i .u8 n)) else none
 | .fsl xs,.d (.sl ys)=>bif kL size xs && kL size ys && roomy bytes (xs.length+ys.length) then some (.osl (xs++ys)) else none
 | .osl xs,.d .nil=>some (.osl xs)
 | .osl xs,.d (.sl ys)=>bif kL size xs && kL size ys && roomy bytes (xs.length+ys.length) then some (.osl (xs++ys)) else none
 | .osl xs,.d (.s ys)=>bif kL size xs && qOC size 1 && roomy bytes (xs.length+ys.length) then some (.osl (xs++ys.map fun n:Nat=>.i .u8 n)) else none
 | _,_=>none
def qt9 (l:L):V->Option (List D)
 | .d .nil=>some []
 | .d (.sl ys)=>some ys
 | .d (.s ys)=>bif qOC l.n 1 then some (ys.map fun n:Nat=>.i .u8 n) else none
 | _=>none
def qaW (ys:List D):List V:=(ys.flatMap D.cells).map .d
def chunk (l:L):Nat->List D->List D
 | 0,_=>[]
 | n+1,ds=>(bif l.agg then .agg (ds.take l.n) else (ds.headD .nil))::chunk l n (ds.drop l.n)
def qo9 (v:V) (H:List Obj) (lo:Nat):Option (V × List Obj × Nat):=
 match v with
 | .row id sz len=>match H[id]? with
  | some (.row l cs)=>bif qOC l.n sz && (qOC cs.length (len * sz) && (Nat.blt 0 len && (Nat.blt 0 sz && (l.agg || qOC sz 1)))) then (match jQ cs with
   | some ds=>bif D.ones ds then some (.d (.sl (chunk l len ds)),qQ H id .dead,min lo id) else none
   | none=>none) else none
  | _=>none
 | v=>some (v,H,lo)
def qkw (n:Nat) (lo hi:Option Int):Option (Nat × Nat):=
 let h:=hi.getD n
 let l:=lo.getD 0
 bif leI 0 l && leI l h && leI h n then some (l.toNat,h.toNat) else none
def qhm (x:V) (lo hi:Option Int):Option V:=
 match x with
 | .d (.s t)=>match qkw t.length lo hi with
  | some (l,h)=>some (.d (.s ((t.take h).drop l)))
  | none=>none
 | _=>none
def qCK (size:Nat) (x:V) (lo hi:Option Int):Option V:=
 match x with
 | .d (.sl t)=>bif kL size t then (match qkw t.length lo hi with
  | some (l,h)=>some (.d (.sl ((t.take h).drop l)))
  | none=>none) else none
 | .d .nil=>match qkw 0 lo hi with
  | some _=>some (.d .nil)
  | none=>none
 | .rs id o len cap=>bif qOC size 1 then (match qkw len lo hi with
  | some (l,h)=>some (bif Nat.blt l h then .rs id (o+l) (h - l) (cap - l) else .d (.sl []))
  | none=>none) else none
 | .row id sz len=>bif qOC size 1 && qOC sz 1 then (match qkw len lo hi with
  | some (l,h)=>some (bif Nat.blt l h then .rs id l (h - l) (len - l) else .d (.sl []))
  | none=>none) else none
 | _=>none
def qN (e:Env):Option O->Option (Option Int)
 | none=>some none
 | some o=>match rd e o with
  | .d (.i _ n)=>some (some n)
  | _=>none
def qbE (k:IntKind) (x:Int):List V->Option V
 | []=>some (.d (.i k x))
 | .d (.i _ y)::l=>qbE k (if y>x then y else x) l
 | _=>none
def qbk (k:IntKind) (x:Int):List V->Option V
 | []=>some (.d (.i k x))
 | .d (.i _ y)::l=>qbk k (if y<x then y else x) l
 | _=>none
def qtE:List V->Option V
 | .d (.i k x)::l=>qbE k x l
 | _=>none
def qs0:List V->Option V
 | .d (.i k x)::l=>qbk k x l
 | _=>none
def qE (sl:Option Nat):V->Bool
 | .lp s _=>match sl with
  | some n=>qOC n s
  | none=>false
 | _=>match sl with
  | some _=>false
  | none=>true
def qrJ (x:O) (st:St):Option Or:=
 ok (rd st.env x) {st with env:=spent x st.env}
def qfK (c:O) (a:O) (b:O) (st:St):Option Or:=
 match rd st.env c with
  | .d (.b z)=>ok (if z then rd st.env a else rd st.env b) st
  | _=>none
def qe7 (loc:Bool) (zero:List D) (st:St):Option Or:=
 bif loc then ok (.box (zero.map .d)) st
  else okH (.ptr st.H.length 0) {st with H:=st.H++[.cells (zero.map .d)]}
def qrP (loc:Bool) (x:O) (st:St):Option Or:=
 let v:=rd st.env x
  if !V.ones v.cells then none else bif loc then ok (.box v.cells) {st with env:=spent x st.env}
  else (if V.ones v.cells then okH (.ptr st.H.length 0) {st with H:=st.H++[.cells v.cells],env:=spent x st.env} else none)
def qeG:List (Nat × Nat × V)->Bool
 | []=>true
 | (_,_,v)::l=>V.ones v.cells && qeG l
def qcp (zero:List D) (parts:List (Nat × Nat × O)) (st:St):Option Or:=
 bif !qeG (parts.map fun (o,s,x)=>(o,s,rd st.env x)) then none else
  match fill (zero.map .d) (parts.map fun (o,s,x)=>(o,s,rd st.env x)) with
  | some cs=>ok (qfh cs) st
  | none=>none
def qX (zero:D) (len:Nat) (parts:List (Nat × O)) (st:St):Option Or:=
 match qdW zero.cells.length (List.replicate len zero) (parts.map fun (j,x)=>(j,rd st.env x)) with
  | some xs=>if D.wfs xs then ok (.osl xs) st else none
  | none=>none
def jA (zero:D) (len:Nat) (parts:List (Nat × O)) (st:St):Option Or:=
 match qdW zero.cells.length (List.replicate len zero) (parts.map fun (j,x)=>(j,rd st.env x)) with
  | some xs=>if D.wfs xs then ok (.fsl xs) st else none
  | none=>none
def qcz (zero:List D) (parts:List (Nat × Nat × O)) (st:St):Option Or:=
 bif !qeG (parts.map fun (o,s,x)=>(o,s,rd st.env x)) then none else
  match fill (zero.map .d) (parts.map fun (o,s,x)=>(o,s,rd st.env x)) with
  | some cs=>ok (.agg cs) st
  | none=>none
def yI (zero:D) (len:Nat) (parts:List (Nat × O)) (st:St):Option Or:=
 match qdW zero.cells.length (List.replicate len zero) (parts.map fun (j,x)=>(j,rd st.env x)) with
  | some xs=>if D.wfs xs=true/\D.ones xs=true/\xs≠[] then okH (.rs st.H.length 0 xs.length xs.length) {st with H:=st.H++[.cells (xs.map .d)]} else none
  | none=>none
def yH (x:O) (st:St):Option Or:=
 match rd st.env x with
  | .d (.s t)=>okH (.rs st.H.length 0 t.length t.length) {st with H:=st.H++[.cells (t.map fun n:Nat=>.d (.i .u8 n))]}
  | _=>none
def yx (t:Nat) (zero:D) (x:O) (st:St):Option Or:=
 match rd st.env x with
 | .ifc t' v=>bif qOC t' t then ok (.tup [v,.d (.b true)]) st else ok (.tup [.d zero,.d (.b false)]) st
 | .d .ni=>ok (.tup [.d zero,.d (.b false)]) st
 | _=>none
def zB (mv:Bool) (sl:Option Nat) (l:L) (a:O) (st:St):Option Or:=
 bif !qE sl (rd st.env a) then none else
  bif mv then (bif l.agg then none else match qm5 st (rd st.env a) with|some (v,st')=>(match sl with|some _=>ok v st'|none=>okH v st')|none=>none)
  else (match qF l st (rd st.env a) with|some v=>ok v st|none=>none)
def qfw (l:L) (a:O) (st:St):Option Or:=
 match rd st.env a with
 | .cp x=>match qF l st (.cp x) with
  | some v=>ok v st
  | none=>none
 | _=>none
def yS (sl:Option Nat) (l:L) (a:O) (x:O) (st:St):Option Or:=
 bif !qE sl (rd st.env a) then none else match yy l {st with env:=spent x st.env} (rd st.env x) (rd st.env a) with
  | some st'=>(match sl with|some _=>ok .undef st'|none=>okH .undef st')
  | none=>none
def kS (x:O) (st:St):Option Or:=
 match rd st.env x with
  | .ptr id off=>ok (.ptr id off) st
  | .lp s off=>ok (.lp s off) st
  | .cp y=>ok (.cp y) st
  | _=>none
def qoZ (op:BinOp) (kd:Kd) (x:O) (y:O) (st:St):Option Or:=
 match qhz op kd (isC x || isC y) (rd st.env x) (rd st.env y) with
  | some v=>ok v st
  | none=>none
def eUn (op:UnOp) (x:O) (st:St):Option Or:=
 match rd st.env x with
  | .d y=>match unD op y with
   | some z=>ok (.d z) st
   | none=>none
  | _=>none
def qiR (k:IntKind) (x:O) (st:St):Option Or:=
 match rd st.env x with
  | .d (.i _ n)=>ok (.d (.i k (wr k n))) st
  | _=>none
def qjh (x:O) (st:St):Option Or:=
 match rd st.env x with
  | .d (.s t)=>ok (qw5 (t.map fun n:Nat=>.i .u8 n)) st
  | _=>none
def qnW (x:O) (st:St):Option Or:=
 match rd st.env x with
  | .d .nil=>ok (.d (.s [])) st
  | .d (.sl xs)=>match yz xs with
   | some t=>ok (.d (.s t)) st
   | none=>none
  | .rs id o n _=>match st.H[id]? with
   | some (.cells cs)=>bif Nat.ble (o+n) cs.length then (match jQ ((cs.drop o).take n) with
    | some ds=>(match yz ds with
     | some t=>ok (.d (.s t)) st
     | none=>none)
    | none=>none) else none
   | _=>none
  | _=>none
def qoo (x:O) (st:St):Option Or:=
 match rd st.env x with
  | .d (.s t)=>ok (.d (.s t)) st
  | _=>none
def qje (t:Nat) (x:O) (st:St):Option Or:=
 if (rd st.env x).ok then ok (.ifc t (rd st.env x)) st else none
def qmC (f:Nat) (first:List O) (cap:List O) (st:St):Option Or:=
 if V.ok.oks (first.map (rd st.env)) && V.ok.oks (cap.map (rd st.env)) then ok (.fn f (first.map (rd st.env)) (cap.map (rd st.env))) st else none
def qkI  (st:St):Option Or:=
 okH (.map st.H.length) {st with H:=st.H++[.map []]}
def qbs (zero:D) (len:O) (cap:O) (st:St):Option Or:=
 match rd st.env len,rd st.env cap with
  | .d (.i _ n),.d (.i _ m)=>
   if 0<=n/\n<=m/\m<=1073741824/\zero.one=true then
    (if n=m then okH (.rs st.H.length 0 n.toNat n.toNat) {st with H:=st.H++[.cells (List.replicate n.toNat (.d zero))]} else none)
   else none
  | _,_=>none
def jq (x:O) (lo:Option O) (hi:Option O) (st:St):Option Or:=
 match qN st.env lo,qN st.env hi with
  | some a,some b=>match qhm (rd st.env x) a b with
   | some v=>ok v st
   | none=>none
  | _,_=>none
def qd0 (size:Nat) (x:O) (lo:Option O) (hi:Option O) (st:St):Option Or:=
 match qN st.env lo,qN st.env hi with
  | some a,some b=>match qCK size (rd st.env x) a b with
   | some v=>ok v st
   | none=>none
  | _,_=>none
def qBh (n:Nat) (x:V) (lo hi:Option Int):Option V:=
 match x with
 | .ptr id o=>match qkw n lo hi with
  | some (l,h)=>if l<n then some (.rs id (o+l) (h - l) (n - l)) else none
  | none=>none
 | _=>none
def qex (n:Nat) (x:O) (lo:Option O) (hi:Option O) (st:St):Option Or:=
 match qN st.env lo,qN st.env hi with
  | some a,some b=>match qBh n (rd st.env x) a b with
   | some v=>ok v st
   | none=>none
  | _,_=>none
def qAE (size:Nat) (x:V) (lo:Option Int) (hi m:Int):Option V:=
 match x with
 | .d (.sl t)=>bif kL size t && (leI 0 m && leI m t.length) then (match qkw m.toNat lo (some hi) with
  | some (l,h)=>some (bif qOC h m.toNat then .osl ((t.take h).drop l) else .d (.sl ((t.take h).drop l)))
  | none=>none) else none
 | .d .nil=>bif eqI m 0 then (match qkw 0 lo (some hi) with
  | some _=>some (.d .nil)
  | none=>none) else none
 | .row _ _ _=>bif eqI m 0 then (match qkw 0 lo (some hi) with
  | some _=>some (.osl [])
  | none=>none) else none
 | _=>none
def qet (size:Nat) (x:O) (lo:Option O) (hi mx:O) (st:St):Option Or:=
 match qN st.env lo,rd st.env hi,rd st.env mx with
  | some a,.d (.i _ b),.d (.i _ m)=>match qAE size (rd st.env x) a b m with
   | some v=>ok v st
   | none=>none
  | _,_,_=>none
def qU (x:O) (off:Nat) (l:L) (st:St):Option Or:=
 match rd st.env x with
  | .ptr id o=>ok (.ptr id (o+off)) st
  | .lp s o=>ok (.lp s (o+off)) st
  | .cp (.agg cs)=>match D.part off l cs with
   | some y=>if l.agg || y.one then ok (.cp y) st else none
   | none=>none
  | _=>none
def qe3 (x:O) (off:Nat) (l:L) (st:St):Option Or:=
 match rd st.env x with
  | .d (.agg cs)=>match D.part off l cs with
   | some y=>ok (.d y) st
   | none=>none
  | .agg cs=>match V.part off l cs with
   | some y=>ok y st
   | none=>none
  | _=>none
def jn (x:O) (n:Int) (size len:Nat) (st:St):Option Or:=
 bif leI 0 n && !leI len n then (match rd st.env x with
  | .ptr id o=>ok (.ptr id (o+n.toNat * size)) st
  | .lp s o=>ok (.lp s (o+n.toNat * size)) st
  | .cp (.agg cs)=>bif qOC size 1 then (match cs[n.toNat]? with
   | some y=>if y.one then ok (.cp y) st else none
   | none=>none) else none
  | _=>none) else none
def zM (x:O) (n:Int) (size:Nat) (st:St):Option Or:=
 bif leI 0 n then (match rd st.env x with
  | .d (.sl xs)=>match xs[n.toNat]? with
   | some y=>bif qOC y.cells.length size then ok (.cp y) st else none
   | none=>none
  | .rs id o len _=>bif !leI len n && qOC size 1 then ok (.ptr id (o+n.toNat)) st else none
  | .row id sz len=>bif !leI len n && qOC size sz then ok (.ptr id (n.toNat * sz)) st else none
  | _=>none) else none
def qV (x:O) (i:O) (size:Nat) (arr:Option Nat) (st:St):Option Or:=
 match rd st.env i with
  | .d (.i _ n)=>match arr with
   | some len=>jn x n size len st
   | none=>zM x n size st
  | _=>none
def qe9 (x:O) (i:O) (st:St):Option Or:=
 match rd st.env x,rd st.env i with
  | .d (.s t),.d (.i _ n)=>bif leI 0 n then (match t[n.toNat]? with
    | some y=>ok (.d (.i .u8 y)) st
    | none=>none) else none
  | _,_=>none
def zH (kk:Nat) (zero:D) (m:O) (k:O) (c:Bool) (st:St):Option Or:=
 match rd st.env m,rd st.env k with
  | .d .nm,.d key=>if zt kk key then ok (bif c then .tup [.d zero,.d (.b false)] else .d zero) st else none
  | .map id,.d key=>match st.H[id]? with
   | some (.map es)=>if zt kk key then (match qcy key es with
     | some (some v)=>ok (bif c then .tup [copy v,.d (.b true)] else copy v) st
     | some none=>ok (bif c then .tup [.d zero,.d (.b false)] else .d zero) st
     | none=>none) else none
   | _=>none
  | _,_=>none
def zG (kk:Nat) (m:O) (k:O) (x:O) (st:St):Option Or:=
 match rd st.env m,rd st.env k with
  | .map id,.d key=>match st.H[id]? with
   | some (.map es)=>let v:=rd st.env x
    if zt kk key && v.ok then (match qk6 key v es with
     | some es'=>okH .undef {st with H:=qQ st.H id (.map es'),lo:=min st.lo id,env:=spent x st.env}
     | none=>none) else none
   | _=>none
  | _,_=>none
def yi (x:O) (i:Nat) (st:St):Option Or:=
 match x with
  | .t n=>match get n st.env with
   | .tup vs=>match vs[i]? with
    | some v=>ok (copy v) st
    | none=>none
   | _=>none
  | _=>none
def qkb (x:O) (st:St):Option Or:=
 match rd st.env x with
  | .d (.s t)=>ok (.d (.i .i64 t.length)) st
  | _=>none
def qcZ (x:O) (st:St):Option Or:=
 match rd st.env x with
  | .d y=>match qDi y with
   | some n=>ok (.d (.i .i64 n)) st
   | none=>none
  | .rs _ _ n _=>ok (.d (.i .i64 n)) st
  | .row _ _ n=>ok (.d (.i .i64 n)) st
  | _=>none
def qol (x:O) (st:St):Option Or:=
 match rd st.env x with
  | .d .nm=>ok (.d (.i .i64 0)) st
  | .map id=>match st.H[id]? with
   | some (.map es)=>ok (.d (.i .i64 es.length)) st
   | _=>none
  | _=>none
def yE (size bytes:Nat) (x y:O) (st:St):Option Or:=
 match qlT size bytes (rd st.env x) (rd st.env y) with
  | some v=>ok v {st with env:=spent x st.env}
  | none=>none
def eBi (b:Bi) (args:List O) (st:St):Option Or:=
 match b,args with
  | .lenS,[x]=>qkb x st
  | .lenL,[x]=>qcZ x st
  | .lenM,[x]=>qol x st
  | .append size bytes,[x,y]=>yE size bytes x y st
  | .max,l=>match qtE (l.map (rd st.env)) with|some v=>ok v st|none=>none
  | .min,l=>match qs0 (l.map (rd st.env)) with|some v=>ok v st|none=>none
  | _,_=>none
def yq (l:L) (bytes:Nat) (x y:O) (st:St):Option Or:=
 match qt9 l (rd st.env y) with
 | some ys=>match rd st.env x with
  | .d .nil=>bif kL l.n ys && roomy bytes ys.length then (match ys with
   | []=>ok (.d .nil) st
   | y0::ys=>okH (.row st.H.length l.n (ys.length+1)) {st with H:=st.H++[.row l (qaW (y0::ys))]}) else none
  | .row id sz len=>match st.H[id]? with
   | some (.row l' cs)=>bif qOC sz l.n && (qOC cs.length (len * sz) && (kL l.n ys && roomy bytes (len+ys.length))) then
     okH (.row st.H.length sz (len+ys.length)) {st with H:=qQ st.H id .dead++[.row l' (cs++qaW ys)],lo:=min st.lo id} else none
   | _=>none
  | _=>none
 | none=>none
def qeq (l:L) (zero:D) (len:Nat) (parts:List (Nat × O)) (st:St):Option Or:=
 match qdW zero.cells.length (List.replicate len zero) (parts.map fun (j,x)=>(j,rd st.env x)) with
  | some xs=>if D.wfs xs=true/\xs≠[] then okH (.row st.H.length l.n xs.length) {st with H:=st.H++[.row l (qaW xs)]} else none
  | none=>none
def qmh:List V->List Obj->Nat->Option (List V × List Obj × Nat)
 | [],H,lo=>some ([],H,lo)
 | v::l,H,lo=>match qo9 v H lo with
  | some (v',H',lo')=>match qmh l H' lo' with
   | some (r,H'',lo'')=>some (v'::r,H'',lo'')
   | none=>none
  | none=>none
def eFz (n:Nat) (st:St):Option Or:=
 match get n st.env with
 | .box cs=>match qmh cs st.H st.lo with
  | some (cs',H',lo')=>okH .undef ⟨(n,.box cs')::st.env,H',lo'⟩
  | none=>none
 | .row id sz len=>match qo9 (.row id sz len) st.H st.lo with
  | some (v',H',lo')=>okH .undef ⟨(n,v')::st.env,H',lo'⟩
  | none=>none
 | .ptr id _=>match st.H[id]? with
  | some (.cells cs)=>match qmh cs st.H st.lo with
   | some (cs',H',lo')=>okH .undef ⟨st.env,qQ H' id (.cells cs'),min lo' id⟩
   | none=>none
  | _=>okH .undef st
 | _=>okH .undef st
def qom (x:O) (st:St):Option Or:=
 match rd st.env x with
 | .d .nil=>ok (.d (.i .i64 0)) st
 | _=>none
def qd7 (l:L) (bytes:Nat) (zero:D) (x n:O) (st:St):Option Or:=
 match rd st.env x,rd st.env n with
 | .d .nil,.d (.i .i64 m)=>if 0<m/\m<=536870912/\zero.cells.length=l.n/\bytes<=262144/\D.wf zero=true then okH (.row st.H.length l.n m.toNat) {st with H:=st.H++[.row l (qaW (List.replicate m.toNat zero))]} else none
 | _,_=>none
def qcx (x hi:O) (st:St):Option Or:=
 match rd st.env x,rd st.env hi with
 | .row id sz len,.d (.i _ h)=>match st.H[id]? with
  | some (.row l cs)=>if 0<=h/\h<=len/\cs.length=len * sz then okH (.row st.H.length sz h.toNat) {st with H:=qQ st.H id .dead++[.row l (cs.take (h.toNat * sz))],lo:=min st.lo id} else none
  | _=>none
 | _,_=>none
def qnT (x:O) (st:St):Option Or:=
 match rd st.env x with
 | .row id sz len=>match qo9 (.row id sz len) st.H st.lo with
  | some (v,H,lo)=>okH v {st with H:=H,lo:=lo}
  | none=>none
 | _=>none
def qnt (x:O) (st:St):Option Or:=
 match rd st.env x with
 | .row id sz len=>match qo9 (.row id sz len) st.H st.lo with
  | some (.d (.sl xs),H,lo)=>okH (.osl xs) {st with H:=H,lo:=lo}
  | _=>none
 | _=>none
def qll (n:Nat) (st:St):Option Or:=
 match get n st.env with
 | .osl xs=>ok (.osl xs) {st with env:=(n,.d (.sl xs))::st.env}
 | _=>none
def qw1 (H:List Obj) (v:V):Option (List D):=
 match v with
 | .d (.sl [])=>some []
 | .rs id o n _=>match H[id]? with
  | some (.row _ cs)=>if o+n<=cs.length then jQ ((cs.drop o).take n) else none
  | _=>none
 | _=>none
def qjN (x y:O) (st:St):Option Or:=
 match rd st.env x,qw1 st.H (rd st.env y) with
 | .d (.sl []),some _=>ok (.d (.i .i64 0)) st
 | .rs id o n _,some ds=>match st.H[id]? with
  | some (.row l cs)=>if o+n<=cs.length/\D.ones ds=true then okH (.d (.i .i64 (min ds.length n:Nat))) {st with H:=qQ st.H id (.row l (cs.take o++(ds.take n).map .d++cs.drop (o+((ds.take n).map V.d).length))),lo:=min st.lo id} else none
  | _=>none
 | _,_=>none
def qbA (l:L) (bytes:Nat) (x y:O) (st:St):Option Or:=
 match rd st.env y with
 | .row id sz len=>match rd st.env x,st.H[id]? with
  | .osl [],some (.row _ cs)=>if l.n=sz/\cs.length=len * sz/\0<sz/\(l.agg=true\/sz=1)/\roomy bytes len=true then (match jQ cs with
   | some ds=>if D.ones ds=true then ok (.osl (chunk l len ds)) {st with env:=spent x st.env} else none
   | none=>none) else none
  | _,_=>none
 | _=>yE l.n bytes x y st
def qd4 (z:D) (x:O) (st:St):Option Or:=
 match rd st.env x with
 | .d (.sl [])=>ok (.tup []) st
 | .rs id off len _=>match st.H[id]? with
  | some (.cells cs)=>if off+len<=cs.length/\D.one z=true then okH (.tup []) {st with H:=qQ st.H id (.cells (cs.take off++List.replicate len (.d z)++cs.drop (off+len))),lo:=min st.lo id} else none
  | _=>none
 | _=>none
def qej (x:O) (st:St):Option Or:=
 match rd st.env x with
 | .map id=>match st.H[id]? with
  | some (.map _)=>okH (.ptr st.H.length 0) {st with H:=st.H++[.iter id]}
  | _=>none
 | _=>none
def qnr (x:O) (st:St):Option Or:=
 match rd st.env x with
 | .ptr it 0=>match st.H[it]? with
  | some (.iter id)=>match st.H[id]? with
   | some (.map [])=>ok (.tup [.d (.b false)]) st
   | _=>none
  | _=>none
 | _=>none
def jc (call:Call) (f:O) (args:List O) (st:St):Option Or:=
 match rd st.env f with
  | .fn i first cap=>
   let vs:=first++args.map (rd st.env)++cap
   if V.allLeave vs then (match call i vs st.H with
    | some r=>some ⟨r.pan,r.same,r.v,{env:=spentAll args st.env,H:=r.H,lo:=min st.lo r.lo}⟩
    | none=>none) else none
  | _=>none
def qpX:V->Option D
 | .d x=>some x
 | .osl xs=>some (.sl xs)
 | _=>none
def quD:List V->Option (List D)
 | []=>some []
 | .d x::l=>match quD l with|some r=>some (x::r)|none=>none
 | _::_=>none
def qfA (call:Call) (f:O) (args:List O) (st:St):Option Or:=
 match rd st.env f with
 | .fn i [] []=>match quD (args.map (rd st.env)) with
  | some ds=>match call i (ds.map .d) [] with
   | some r=>match r.pan,qpX r.v with
    | false,some x=>ok (.d x) st
    | _,_=>none
   | none=>none
  | none=>none
 | _=>none
mutual
def eqD:D->D->Bool
 | .b x,.b y=>x == y
 | .i k x,.i k' y=>eqK k k' && eqI x y
 | .s x,.s y=>eqT x y
 | .nil,.nil=>true
 | .sl x,.sl y=>quj x y
 | .agg x,.agg y=>quj x y
 | .np,.np=>true
 | .nf,.nf=>true
 | .ni,.ni=>true
 | .nm,.nm=>true
 | _,_=>false
def quj:List D->List D->Bool
 | [],[]=>true
 | x::l,y::r=>eqD x y && quj l r
 | _,_=>false
end
def V.sm:V->V->Bool
 | .row a b c,.row a' b' c'=>qOC a a' && (qOC b b' && qOC c c')
 | .rs a b c k,.rs a' b' c' k'=>qOC a a' && (qOC b b' && (qOC c c' && qOC k k'))
 | .ptr a b,.ptr a' b'=>qOC a a' && qOC b b'
 | .map a,.map b=>qOC a b
 | .d x,.d y=>eqD x y
 | _,_=>false
def qk5 (v p:V) (l:L) (H:List Obj):Bool:=
 match p with
 | .ptr id off=>match qF l ⟨[],H,0⟩ (.ptr id off) with
  | some v'=>V.sm v v'
  | none=>false
 | _=>false
def qlH (v m k:V) (H:List Obj):Bool:=
 match m,k with
 | .map id,.d key=>match H[id]? with
  | some (.map es)=>match qcy key es with
   | some (some w)=>V.sm v (copy w)
   | _=>false
  | _=>false
 | _,_=>false
def qvi (chk:List (Nat × L × Nat)) (e:Env) (H:List Obj):Bool:=chk.all fun (d,l,a)=>bif Nat.ble 1000000 l.n then qlH (get d e) (rd e (.t a)) (rd e (.t (l.n - 1000000))) H else qk5 (get d e) (rd e (.t a)) l H
def qnc (call:Call) (f:O) (args:List O) (chk:List (Nat × L × Nat)) (st:St):Option Or:=
 match jc call f args st with
 | some r=>bif r.pan || qvi chk st.env r.st.H then some r else none
 | none=>none
def qne (x:O) (st:St):Option Or:=
 match rd st.env x with
 | .ifc t y=>some ⟨true,true,.ifc t y,st⟩
 | _=>none
def qa (call:Call) (k:OpK) (st:St):Option Or:=
 match k with
 | .mov x=>qrJ x st
 | .pick c a b=>qfK c a b st
 | .alloc loc zero=>qe7 loc zero st
 | .box loc x=>qrP loc x st
 | .build zero parts=>qcp zero parts st
 | .buildSlice zero len parts=>qX zero len parts st
 | .load mv sl l a=>zB mv sl l a st
 | .loadC l a=>qfw l a st
 | .store sl l a x=>yS sl l a x st
 | .nilCheck x=>kS x st
 | .bin op kd x y=>qoZ op kd x y st
 | .un op x=>eUn op x st
 | .conv k x=>qiR k x st
 | .bytes x=>qjh x st
 | .text x=>qnW x st
 | .movS x=>qoo x st
 | .mkIfc t x=>qje t x st
 | .mkFn f first cap=>qmC f first cap st
 | .mkMap=>qkI  st
 | .mkSlice zero len cap=>qbs zero len cap st
 | .buildRow zero len parts=>yI zero len parts st
 | .bytesRow x=>yH x st
 | .buildFull z n ps=>jA z n ps st
 | .buildV z ps=>qcz z ps st
 | .assertOk t zero x=>yx t zero x st
 | .sliceS x lo hi=>jq x lo hi st
 | .sliceL size x lo hi=>qd0 size x lo hi st
 | .sliceA n x lo hi=>qex n x lo hi st
 | .sliceM size x lo hi mx=>qet size x lo hi mx st
 | .stuck=>none
 | .fieldAddr x off l=>qU x off l st
 | .field x off l=>qe3 x off l st
 | .indexAddr x i size arr=>qV x i size arr st
 | .index x i=>qe9 x i st
 | .lookup kk zero m k c=>zH kk zero m k c st
 | .mapUpdate kk m k x=>zG kk m k x st
 | .extract x i=>yi x i st
 | .bi b args=>eBi b args st
 | .call f args=>jc call f args st
 | .panic x=>qne x st
 | .appendR l b x y=>yq l b x y st
 | .buildR l z n ps=>qeq l z n ps st
 | .fz n=>eFz n st
 | .capN x=>qom x st
 | .movO n=>qll n st
 | .copyR x y=>qjN x y st
 | .cvtO x=>qnt x st
 | .zerosR l b z x n=>qd7 l b z x n st
 | .truncR x h=>qcx x h st
 | .cvtR x=>qnT x st
 | .callQ f l=>qfA call f l st
 | .callC f l c=>qnc call f l c st
 | .appendC l b x y=>qbA l b x y st
 | .clearS z x=>qd4 z x st
 | .rangeM x=>qej x st
 | .next x=>qnr x st
def qbt (s:Nat):Env->Env
 | []=>[]
 | (n,v)::e=>(n,match v with | .lp t o=>bif qOC t s then .undef else .lp t o|v=>v)::qbt s e
def put (dst:Option Nat) (v:V) (st:St):St:=
 match dst with
 | some n=>{st with env:=(n,v)::(match v with | .box _=>qbt n st.env|_=>st.env)}
 | none=>st
def wanted (g:Option (Nat × Bool)) (e:Env):Option Bool:=
 match g with
 | none=>some true
 | some (n,w)=>match get n e with
  | .d (.b z)=>some (z == w)
  | .tup []=>some false
  | _=>none
def qk (call:Call):List Op->St->Option (Ex × St)
 | [],st=>some (.nrm,st)
 | o::l,st=>match wanted o.g st.env with
  | some true=>match qa call o.k st with
   | some r=>bif r.pan then some (.pan r.v,r.st) else qk call l (put o.dst r.v r.st)
   | none=>none
  | some false=>qk call l (put o.dst (.tup []) st)
  | none=>none
def zc (n:Nat):Env->Bool
 | []=>true
 | (_,.lp m _)::e=>!Nat.beq m n && zc n e
 | _::e=>zc n e
def qT (n:Nat):List Nat->Bool
 | []=>false
 | m::l=>qOC n m || qT n l
def qmy:Nat:=1000000
def qyV:List V->Bool
 | []=>false
 | .undef::_=>true
 | _::l=>qyV l
def jC (bx:Bool) (no:List Nat) (dst:Option Nat) (v:V) (st:St):Option St:=
 match dst with
 | some n=>match v with
  | .box cs=>bif bx && zc n st.env then some {st with env:=(n,.box cs)::st.env} else none
  | .lp m o=>bif qT m no then none else some {st with env:=(n,.lp m o)::st.env}
  | .undef=>bif qT qmy no then none else some {st with env:=(n,.undef)::st.env}
  | .agg cs=>bif qT qmy no && qyV cs then none else some {st with env:=(n,.agg cs)::st.env}
  | v=>some {st with env:=(n,v)::st.env}
 | none=>some st
def qpT:OpK->Bool
 | .alloc loc _=>loc
 | .box loc _=>loc
 | _=>false
def yr:Nat:=1000001
def qza (no:List Nat) (r:Or):Option (Ex × St):=bif r.pan && qT yr no then some (.pan r.v,{r.st with env:=[]}) else none
def qx (call:Call):List (Op × Bool × List Nat)->St->Option (Ex × St)
 | [],st=>some (.nrm,st)
 | (o,serial,no)::l,st=>match wanted o.g st.env with
  | some true=>match qa call o.k st with
   | some r=>bif r.pan || !(r.same || serial) then qza no r else (match jC (qpT o.k) no o.dst r.v r.st with
    | some st'=>qx call l st'
    | none=>none)
   | none=>none
  | some false=>qx call l (put o.dst (.tup []) st)
  | none=>none
def qh8:List Op:=[⟨some 4,.load false none ⟨1,false⟩ (.t 1),none⟩,⟨some 5,.bi .lenL [.t 4],none⟩,⟨some 6,.bin .sub .num (.t 5) (.c (.i .i64 1)),none⟩,⟨some 3,.mov (.t 6),none⟩]
def qir (l:L):List Op:=[⟨some 12,.mov (.t 3),none⟩,⟨some 13,.load false none ⟨1,false⟩ (.t 1),none⟩,⟨some 14,.mov (.t 3),none⟩,⟨some 15,.indexAddr (.t 13) (.t 14) l.n none,none⟩,⟨some 16,.load false none l (.t 15),none⟩]
def qdt:Call:=fun _ _ _=>none
def qa0 (c:V) (H:List Obj) (lo:Nat):Option Nat:=
 match qk qdt qh8 ⟨[(1,c)],H,lo⟩ with
 | some (.nrm,st)=>match get 3 st.env with
  | .d (.i .i64 n)=>bif Nat.ble (n+1).toNat 4611686018427387904 && leI 0 (n+1) then some (n+1).toNat else none
  | _=>none
 | _=>none
def qwF (l:L) (c:V) (i:Nat) (H:List Obj) (lo:Nat):Option V:=
 match qk qdt (qir l) ⟨[(3,.d (.i .i64 i)),(1,c)],H,lo⟩ with
 | some (.nrm,st)=>some (get 16 st.env)
 | _=>none
def qCY (v:V):V:=bif v.ok then v else .undef
def jK (live:List Nat) (e:Env):Env:=live.map fun n=>(n,qCY (get n e))
def rounds (ra rb:St->Option (Ex × St)) (l:L) (c:V) (p0 p1:Nat) (base:Env):Nat->List Obj->Nat->Option (Ex × St)
 | 0,H,lo=>some (.nrm,⟨base,H,lo⟩)
 | i+1,H,lo=>match qwF l c i H lo with
  | some v=>bif v.ok then (match ra ⟨(p1,v)::(p0,.d (.i .i64 i))::base,H,lo⟩ with
   | some (.nrm,st)=>match rb st with
    | some (.nrm,st)=>rounds ra rb l c p0 p1 base i st.H st.lo
    | some (.exit j,st)=>some (.exit j,⟨base,st.H,st.lo⟩)
    | some (.ret,st)=>some (.ret,⟨base,st.H,st.lo⟩)
    | _=>none
   | _=>none) else none
  | none=>none
def step (call:Call) (ex:C->St->Option (Ex × St)):C->St->Option (Ex × St)
 | .skip,st=>some (.nrm,st)
 | .ops l,st=>qk call l st
 | .opsD l,st=>qx call l st
 | .seq a b,st=>match ex a st with
  | some (.nrm,st')=>ex b st'
  | r=>r
 | .cond o a b,st=>match rd st.env o with
  | .d (.b true)=>ex a st
  | .d (.b false)=>ex b st
  | _=>none
 | .block id live a,st=>match ex a st with
  | some (.nrm,st')=>some (.nrm,{st' with env:=restrict live st'.env})
  | some (.exit j,st')=>bif qOC j id then some (.nrm,{st' with env:=restrict live st'.env}) else some (.exit j,st')
  | r=>r
 | .loop live a,st=>match ex a {st with env:=restrict live st.env} with
  | some (.nrm,st')=>ex (.loop live a) st'
  | r=>r
 | .exit id,st=>some (.exit id,st)
 | .ret,st=>some (.ret,st)
 | .stuck,_=>none
 | .rangeB k l f p0 p1 live a b,st=>match rd st.env f with
  | .fn k' [] [c]=>bif qOC k' k && c.ok then (match qa0 c st.H st.lo with
   | some n=>rounds (ex a) (ex b) l c p0 p1 (jK live st.env) n st.H st.lo
   | none=>none) else none
  | _=>none
 | .rangeZ k f live,st=>match rd st.env f with
  | .fn k' [] cap=>bif qOC k' k && V.ok.oks cap then (match call k (.undef::cap) st.H with
   | some r=>bif r.pan then none else some (.nrm,⟨restrict live st.env,r.H,min st.lo r.lo⟩)
   | none=>none) else none
  | _=>none
def yJ (own:Bool) (st:St):Rv->Option V
 | .t n=>match get n st.env with
  | .box _=>none
  | v=>some (bif own then v else copy v)
 | .cell n l=>match get n st.env with
  | .box cs=>V.part 0 l cs
  | .ptr id off=>match st.H[id]? with
   | some (.cells cs)=>V.part off l cs
   | some (.row _ cs)=>V.part off l cs
   | _=>none
  | _=>none
def qM (own:Bool) (st:St):List Rv->Option (List V)
 | []=>some []
 | r::l=>match yJ own st r with
  | some v=>match qM own st l with
   | some vs=>some (v::vs)
   | none=>none
  | none=>none
def kf:Nat->List V->Env
 | _,[]=>[]
 | k,v::l=>(k,v)::kf (k+1) l
def qyu (v:V) (off len:Nat) (o:Option Obj):V:=
 match o with
 | some (.cells cs)=>bif Nat.ble (off+len) cs.length && Nat.blt 0 len then (match jQ ((cs.drop off).take len) with
  | some ds=>bif D.ones ds then .d (.sl ds) else v
  | none=>v) else v
 | _=>v
def settle (n:Nat) (H:List Obj) (v:V):V:=
 match v with
 | .rs id off len cap=>bif Nat.ble n id then qyu (.rs id off len cap) off len H[id]? else .rs id off len cap
 | v=>v
def leave (H:List Obj) (pan:Bool) (v:V) (st:St):Option Cr:=
 bif v.leaves then
  bif Nat.ble (settle H.length st.H v).ref H.length && Nat.ble H.length st.lo then some ⟨pan,true,settle H.length st.H v,H,st.lo⟩
  else some ⟨pan,false,v,st.H,st.lo⟩
 else none
def qlN:List V->V
 | [v]=>v
 | vs=>.tup vs
structure Pg where
 fn:Nat->Option Fn
 ext:Call
def zL (fn:Fn) (H:List Obj) (st:St):Option Cr:=
 match qM fn.own st fn.res with
 | some vs=>leave H false (qlN vs) st
 | none=>none
def handle (pg:Pg) (ex:C->St->Option (Ex × St)) (fn:Fn) (H:List Obj) (h:Nat) (vs:List V) (v:V) (st:St):Option Cr:=
 match pg.fn h with
 | some hf=>match hf.rcv with
  | some d=>bif qOC hf.np vs.length && hf.res.isEmpty then (match ex hf.body ⟨(d,v)::kf 0 vs,st.H,st.lo⟩ with
   | some (.nrm,st')=>zL fn H ⟨st.env,st'.H,st'.lo⟩
   | some (.ret,st')=>zL fn H ⟨st.env,st'.H,st'.lo⟩
   | _=>none) else none
  | none=>none
 | none=>none
def qFo:V->Bool
 | .ifc _ x=>x.ok
 | _=>false
def deferred (pg:Pg) (ex:C->St->Option (Ex × St)) (fn:Fn) (H:List Obj) (t:Nat) (rest:C) (st:St):Option Cr:=
 match get t st.env with
 | .fn h first cap=>bif V.ok.oks (first++cap) then (match ex rest st with
  | some (.nrm,st')=>handle pg ex fn H h (first++cap) (.d .ni) st'
  | some (.ret,st')=>handle pg ex fn H h (first++cap) (.d .ni) st'
  | some (.pan v,st')=>bif qFo v then handle pg ex fn H h (first++cap) v st' else none
  | _=>none) else none
 | _=>none
def qm (pg:Pg) (ex:C->St->Option (Ex × St)):Call:=fun f args H=>
 match pg.fn f with
 | none=>pg.ext f args H
 | some fn=>
  if fn.np=args.length/\fn.rcv=none then
   match ex fn.body {env:=kf 0 args,H,lo:=H.length} with
   | some (.nrm,st)=>match fn.dfr with
    | none=>zL fn H st
    | some (t,rest)=>deferred pg ex fn H t rest st
   | some (.ret,st)=>zL fn H st
   | some (.pan v,st)=>leave H true v st
   | _=>none
  else none
def exec (pg:Pg) (n:Nat):C->St->Option (Ex × St):=
 match n with
 | 0=>fun _ _=>none
 | n+1=>step (qm pg (exec pg n)) (exec pg n)
def kA (pg:Pg) (n:Nat):Call:=qm pg (exec pg n)
end W
/-
  From the model's code to the small code, by the program's own types.
-/
namespace W
open Go (Program Code Oper Operand Value TypeId FuncId Func TypeDesc)
structure Ann where
 loc:List Nat:=[]
 org:List (Nat × Nat):=[]
 mv:List (Nat × Nat × Nat):=[]
 bl:List (Nat × List Nat):=[]
 ll:List (Nat × List Nat):=[]
 rl:List (Nat × List Nat):=[]
 rk:List (Nat × Nat):=[]
 cp:List Nat:=[]
 fz:List (Nat × Nat × Nat):=[]
 rz:List (Nat × Nat):=[]
 ck:List (Nat × Nat × Nat):=[]
 pm:List (Nat × List Nat):=[]
structure Maps where
 fm:List (Nat × Nat)
 tm:List (Nat × Nat)
 gl:List (Nat × D):=[]
 bk:List (Nat × L):=[]
 gi:List Nat:=[]
def look {α:Type} (l:List (Nat × α)) (n:Nat):Option α:=
 match l with
 | []=>none
 | (m,x)::l=>bif qOC n m then some x else look l n
mutual
def toD:Value->Option D
 | .bool x=>some (.b x)
 | .int k n=>some (.i k n)
 | .string x=>some (.s (x.data.toList.map (·.toNat)))
 | .pointer none=>some .np
 | .slice none 0 0=>some .nil
 | .map none=>some .nm
 | .nilFunc=>some .nf
 | .nilIface=>some .ni
 | .agg cs=>match qxn cs.toList with
  | some l=>some (.agg l)
  | none=>none
 | _=>none
def qxn:List Value->Option (List D)
 | []=>some []
 | v::l=>match toD v,qxn l with
  | some x,some r=>some (x::r)
  | _,_=>none
end
def opnd (M:Maps) (m:Bool):Operand->Option O
 | .tmp t=>some (if m then .mv t else .t t)
 | .const v=>(toD v).map .c
 | .func f=>(look M.fm f).map .f
 | .global n=>(look M.gl n).map (O.g n)
def opnds (M:Maps) (m:Nat->Bool) (k:Nat):List Operand->Option (List O)
 | []=>some []
 | x::l=>match opnd M (m k) x,opnds M m (k+1) l with
  | some y,some r=>some (y::r)
  | _,_=>none
def qnn:TypeDesc->Bool
 | .struct _=>true
 | .array _ _=>true
 | _=>false
def lay (P:Program) (t:TypeId):Option L:=
 match P.info? t,P.underlying t with
 | some i,some d=>some ⟨i.size,qnn d⟩
 | _,_=>none
def zE (P:Program) (t:TypeId):Option D:=
 match P.info? t with
 | some i=>match i.zero with
  | some v=>toD v
  | none=>none
 | none=>none
def qfE (P:Program):Nat->List Go.Field->Option (List Nat)
 | _,[]=>some []
 | i,f::l=>if f.name != "_" && f.offset == i then (match P.underlying f.type,lay P f.type,qfE P (i+1) l with
  | some .bool,some ⟨1,false⟩,some r=>some (0::r)
  | some (.int _),some ⟨1,false⟩,some r=>some (1::r)
  | some .string,some ⟨1,false⟩,some r=>some (2::r)
  | _,_,_=>none) else none
def qpO (P:Program) (t:TypeId):Option Kd:=
 match P.underlying t with
 | some (.int _)|some .string=>some .num
 | some .bool=>some .bool
 | some (.pointer _)=>some .ptr
 | some (.slice _)=>some .slice
 | some (.map _ _)=>some .map
 | some (.func _ _ _)=>some .func
 | some (.interface _)=>some .iface
 | some (.struct fs)=>if !P.eqGuardType P.depth t && !P.stoodInHeld t then (qfE P 0 fs.toList).map .agg else none
 | _=>none
def qay (P:Program) (t:TypeId):Option Nat:=
 match P.underlying t with
 | some .bool=>some 0
 | some (.int _)=>some 1
 | some .string=>some 2
 | _=>none
def qlr (M:Maps) (P:Program) (fs:Array Go.Field):List (Nat × Operand)->Option (List (Nat × Nat × O))
 | []=>some []
 | (i,x)::l=>match fs[i]?,opnd M false x,qlr M P fs l with
  | some f,some y,some r=>match lay P f.type with
   | some w=>some ((f.offset,w.n,y)::r)
   | none=>none
  | _,_,_=>none
def qoN (M:Maps) (size:Nat):List (Nat × Operand)->Option (List (Nat × Nat × O))
 | []=>some []
 | (i,x)::l=>match opnd M false x,qoN M size l with
  | some y,some r=>some ((i * size,size,y)::r)
  | _,_=>none
def qdx (M:Maps):List (Nat × Operand)->Option (List (Nat × O))
 | []=>some []
 | (i,x)::l=>match opnd M false x,qdx M l with
  | some y,some r=>some ((i,y)::r)
  | _,_=>none
def qlb (M:Maps):Option Operand->Option (Option O)
 | none=>some none
 | some x=>(opnd M false x).map some
def qrh (A:Ann):Operand->Option Nat
 | .tmp t=>look A.org t
 | _=>none
def ki:List O->List Nat
 | []=>[]
 | .mv n::l=>n::ki l
 | _::l=>ki l
def qrF:List Nat->Bool
 | []=>true
 | n::l=>!l.any (qOC n) && qrF l
def qyZ (A:Ann):Operand->Bool
 | .tmp n=>A.cp.contains n
 | _=>false
def qBi (M:Maps) (P:Program) (e:TypeId) (i:Go.TypeInfo) (m:Bool) (args:List Operand):Option OpK:=
 match lay P e,opnds M (fun k=>k == 0 && m) 0 args with
 | some l,some [x,y]=>if l.n=i.size then some (.appendC l i.bytes x y) else none
 | _,_=>none
def qtn (M:Maps) (P:Program) (e:TypeId) (i:Go.TypeInfo) (args:List Operand):Option OpK:=
 match lay P e,opnds M (fun _=>false) 0 args with
 | some l,some [x,y]=>if l.n=i.size/\0<l.n then some (.appendR l i.bytes x y) else none
 | _,_=>none
def zo (M:Maps) (P:Program) (A:Ann) (m:Nat->Bool) (loc:Bool) (o:Go.Op):Option OpK:=
 match o with
 | .move x | .assign x=>if m 10 then (match opnd M true x with|some (.mv n)=>some (.movO n)|_=>none) else (opnd M (m 0) x).map .mov
 | .pick c a b=>do pure (.pick (<- opnd M false c) (<- opnd M false a) (<- opnd M false b))
 | .alloc t=>do pure (.alloc loc (<- zE P t).cells)
 | .box _ x=>do pure (.box loc (<- opnd M (m 0) x))
 | .build t ps=>match P.underlying t with
  | some (.struct fs)=>if (fs.toList.mapM fun f=>(P.info? f.type).map fun i=>(f.offset,i.size)).isSome then (if loc then do pure (.buildV (<- zE P t).cells (<- qlr M P fs ps.toList)) else do pure (.build (<- zE P t).cells (<- qlr M P fs ps.toList))) else none
  | some (.array _ e)=>do pure (.build (<- zE P t).cells (<- qoN M (<- lay P e).n ps.toList))
  | _=>none
 | .buildSlice t n ps=>match P.underlying t with
  | some (.slice e)=>match lay P e,zE P e with
   | some l,some z=>if z.cells.length=l.n/\0<l.n/\n * l.n<=16777216 then (if m 7 then do pure (.buildR l z n (<- qdx M ps.toList)) else if m 8 then do pure (.buildFull z n (<- qdx M ps.toList)) else if loc then (if l.n=1 then do pure (.buildRow z n (<- qdx M ps.toList)) else none) else do pure (.buildSlice z n (<- qdx M ps.toList))) else none
   | _,_=>none
  | _=>none
 | .load t a=>if qyZ A a then (do pure (.loadC (<- lay P t) (<- opnd M false a))) else do pure (.load (m 9) (qrh A a) (<- lay P t) (<- opnd M false a))
 | .store t a x=>do pure (.store (qrh A a) (<- lay P t) (<- opnd M false a) (<- opnd M (m 1) x))
 | .nilCheck x=>(opnd M false x).map .nilCheck
 | .binOp op t x y _=>do pure (.bin op (<- qpO P t) (<- opnd M false x) (<- opnd M false y))
 | .unOp op _ x=>do pure (.un op (<- opnd M false x))
 | .convert s d x=>match P.underlying s,P.underlying d with
  | some (.int _),some (.int k)=>do pure (.conv k (<- opnd M false x))
  | some .string,some .string=>do pure (.movS (<- opnd M false x))
  | some .string,some (.slice e)=>match P.underlying e with
   | some (.int .u8)=>if loc then do pure (.bytesRow (<- opnd M false x)) else do pure (.bytes (<- opnd M false x))
   | _=>none
  | some (.slice e),some .string=>match P.underlying e with
   | some (.int .u8)=>do pure (.text (<- opnd M false x))
   | _=>none
  | some (.slice _),some (.slice e)=>match P.underlying e with
   | some (.int .u8)=>if s=d then (if m 11 then do pure (.cvtO (<- opnd M false x)) else do pure (.cvtR (<- opnd M false x))) else none
   | _=>none
  | _,_=>none
 | .makeInterface t x=>match P.underlying t with
  | some (.interface _)=>none
  | none=>none
  | some _=>do pure (.mkIfc (<- look M.tm t) (<- opnd M false x))
 | .typeAssert x _ t true=>match P.underlying t with
  | some (.interface _)=>none
  | none=>none
  | some _=>match look M.tm t with
   | some t'=>if M.tm.all (fun p=>p.2 != t' || p.1 == t) then do pure (.assertOk t' (<- zE P t) (<- opnd M false x)) else none
   | none=>none
 | .makeFunc (.func f) a b=>do pure (.mkFn (<- look M.fm f) (<- opnds M (fun _=>false) 0 a.toList) (<- opnds M (fun _=>false) 0 b.toList))
 | .makeMap t none=>match P.underlying t with
  | some (.map _ _)=>some .mkMap
  | _=>none
 | .makeSlice t a b=>match P.underlying t with
  | some (.slice e)=>match P.info? e,zE P e with
   | some i,some z=>if i.size=1/\i.bytes<=262144 then do pure (.mkSlice z (<- opnd M false a) (<- opnd M false b)) else none
   | _,_=>none
  | _=>none
 | .slice t x lo hi none=>match P.underlying t with
  | some .string=>do pure (.sliceS (<- opnd M false x) (<- qlb M lo) (<- qlb M hi))
  | some (.slice e)=>if m 7 then (match lo,hi,lay P e with|none,some h,some _=>do pure (.truncR (<- opnd M false x) (<- opnd M false h))|_,_,_=>none) else do pure (.sliceL (<- lay P e).n (<- opnd M false x) (<- qlb M lo) (<- qlb M hi))
  | some (.array n e)=>match P.info? e with
   | some i=>if i.size=1 then do pure (.sliceA n (<- opnd M false x) (<- qlb M lo) (<- qlb M hi)) else none
   | none=>none
  | _=>none
 | .slice t x lo (some hi) (some mx)=>match P.underlying t with
  | some (.slice e)=>do pure (.sliceM (<- lay P e).n (<- opnd M false x) (<- qlb M lo) (<- opnd M false hi) (<- opnd M false mx))
  | _=>none
 | .fieldAddr t x f=>match P.underlying t with
  | some (.struct fs)=>match fs[f]? with
   | some g=>match lay P g.type with
    | some l=>if l.n=0 then none else do pure (.fieldAddr (<- opnd M false x) g.offset l)
    | none=>none
   | none=>none
  | _=>none
 | .field t x f=>match P.underlying t with
  | some (.struct fs)=>match fs[f]? with
   | some g=>do pure (.field (<- opnd M false x) g.offset (<- lay P g.type))
   | none=>none
  | _=>none
 | .indexAddr t x i=>match P.underlying t with
  | some (.slice e)=>do pure (.indexAddr (<- opnd M false x) (<- opnd M false i) (<- lay P e).n none)
  | some (.array n e)=>do pure (.indexAddr (<- opnd M false x) (<- opnd M false i) (<- lay P e).n (some n))
  | _=>none
 | .index t x i=>match P.underlying t with
  | some .string=>do pure (.index (<- opnd M false x) (<- opnd M false i))
  | _=>none
 | .lookup t x i c=>match P.underlying t with
  | some (.map k e)=>do pure (.lookup (<- qay P k) (<- zE P e) (<- opnd M false x) (<- opnd M false i) c)
  | _=>none
 | .mapUpdate t a k x=>match P.underlying t with
  | some (.map kt _)=>do pure (.mapUpdate (<- qay P kt) (<- opnd M false a) (<- opnd M false k) (<- opnd M (m 2) x))
  | _=>none
 | .insert t a k x=>match P.underlying t with
  | some (.map kt _)=>do pure (.mapUpdate (<- qay P kt) (<- opnd M false a) (<- opnd M false k) (<- opnd M (m 2) x))
  | _=>none
 | .extract (.tmp t) i=>some (.extract (.t t) i)
 | .range t x=>match P.underlying t with
  | some (.map _ _)=>do pure (.rangeM (<- opnd M false x))
  | _=>none
 | .next x false=>do pure (.next (<- opnd M false x))
 | .call c=>match c.callee with
  | .builtin .len=>match c.argTypes.toList with
   | [s]=>match P.underlying s with
    | some .string=>do pure (.bi .lenS (<- opnds M (fun _=>false) 0 c.args.toList))
    | some (.slice _)=>do pure (.bi .lenL (<- opnds M (fun _=>false) 0 c.args.toList))
    | some (.map _ _)=>do pure (.bi .lenM (<- opnds M (fun _=>false) 0 c.args.toList))
    | _=>none
   | _=>none
  | .builtin .cap=>match c.argTypes.toList,c.args.toList with
   | [s],[x]=>match P.underlying s with
    | some (.slice _)=>do pure (.capN (<- opnd M false x))
    | _=>none
   | _,_=>none
  | .builtin .copy=>match c.argTypes.toList,c.args.toList with
   | [s,s2],[x,y]=>match P.underlying s,P.underlying s2 with
    | some (.slice e),some (.slice _)=>match P.info? e with
     | some i=>if i.size=1 then do pure (.copyR (<- opnd M false x) (<- opnd M false y)) else none
     | none=>none
    | _,_=>none
   | _,_=>none
  | .builtin .clear=>match c.argTypes.toList,c.args.toList with
   | [s],[x]=>match P.underlying s with
    | some (.slice e)=>match P.info? e,zE P e with
     | some i,some z=>if i.size=1/\z.cells.length=1 then do pure (.clearS z (<- opnd M false x)) else none
     | _,_=>none
    | _=>none
   | _,_=>none
  | .builtin .max=>do pure (.bi .max (<- opnds M (fun _=>false) 0 c.args.toList))
  | .builtin .min=>do pure (.bi .min (<- opnds M (fun _=>false) 0 c.args.toList))
  | .builtin .append=>match c.argTypes.toList with
   | [s,x]=>match P.underlying s,P.underlying x with
    | some (.slice e),some (.slice _)=>match P.info? e,zE P e with
     | some i,some z=>if z.cells.length=i.size then (if m 7 then qtn M P e i c.args.toList else if m 6 then qBi M P e i (m 0) c.args.toList else do pure (.bi (.append i.size i.bytes) (<- opnds M (fun k=>k == 0 && m 0) 0 c.args.toList))) else none
     | _,_=>none
    | some (.slice e),some (.int .i64)=>if m 7 then (match P.info? e,zE P e,lay P e,c.args.toList with
     | some i,some z,some l,[x,n]=>if l.n=i.size/\0<l.n then do pure (.zerosR l i.bytes z (<- opnd M false x) (<- opnd M false n)) else none
     | _,_,_,_=>none) else none
    | some (.slice e),some .string=>match P.info? e,zE P e with
     | some i,some z=>if z.cells.length=i.size then (if m 7 then qtn M P e i c.args.toList else do pure (.bi (.append i.size i.bytes) (<- opnds M (fun k=>k == 0 && m 0) 0 c.args.toList))) else none
     | _,_=>none
    | _,_=>none
   | _=>none
  | .value f=>do
   let f <- opnd M false f
   if m 63 then (do pure (.callQ f (<- opnds M (fun _=>false) 0 c.args.toList))) else
   let l <- opnds M m 0 c.args.toList
   if qrF (ki l) then pure (.call f l) else none
  | _=>none
 | .panic x=>do pure (.panic (<- opnd M false x))
 | _=>none
def qax:Option OpK->OpK
 | some k=>k
 | none=>.stuck
theorem qbC {call:Call} {k:Option OpK} {st:St} {r:Or} (h:qa call (qax k) st=some r):k=some (qax k):=by
 cases k with
 | some k=>rfl
 | none=>cases h
def gOf (ops:Array Oper):Option (Nat × Bool)->Option (Option (Nat × Bool))
 | none=>some none
 | some (j,w)=>match ops[j]? with
  | some o=>match o.dst with
   | some d=>some (some (d,w))
   | none=>none
  | none=>none
def mvs (A:Ann) (rid i:Nat):List Nat:=(A.mv.filter fun (r,j,_)=>r == rid && j == i).map (·.2.2)
def zZ (M:Maps) (P:Program) (A:Ann) (rid:Nat) (ops:Array Oper):Nat->List Oper->Option (List Op)
 | _,[]=>some []
 | i,o::l=>
  let ms:=mvs A rid i
  match gOf ops o.guard,zZ M P A rid ops (i+1) l with
  | some g,some r=>some (⟨o.dst,qax (zo M P A (fun k=>ms.contains k) (match o.dst with|some d=>A.loc.contains d|none=>false) o.op),g⟩::r)
  | _,_=>none
def OpK.free:OpK->Bool
 | .alloc loc _=>loc
 | .box loc _=>loc
 | .load mv sl _ _=>!mv || sl.isSome
 | .store sl _ _ _=>sl.isSome
 | .mkMap | .mkSlice _ _ _ | .buildRow _ _ _ | .bytesRow _ | .mapUpdate _ _ _ _ | .panic _ | .appendR _ _ _ _ | .buildR _ _ _ _ | .fz _ | .zerosR _ _ _ _ _ | .truncR _ _ | .cvtR _ | .cvtO _ | .copyR _ _ | .rangeM _ | .clearS _ _=>false
 | _=>true
def OpK.looks:OpK->Bool
 | .load _ sl _ _ | .store sl _ _ _=>sl.isNone
 | .alloc loc _ | .box loc _=>!loc
 | .mkMap | .mkSlice _ _ _ | .buildRow _ _ _ | .bytesRow _ | .mapUpdate _ _ _ _ | .panic _ | .appendR _ _ _ _ | .buildR _ _ _ _ | .fz _ | .zerosR _ _ _ _ _ | .truncR _ _ | .cvtR _ | .cvtO _ | .copyR _ _ | .rangeM _ | .next _ | .clearS _ _ | .appendC _ _ _ _ | .callC _ _ _=>true
 | .lookup _ _ _ _ _ | .call _ _ | .text _=>true
 | .bi .lenM _=>true
 | _=>false
def OpK.boxR:OpK->List Nat
 | .load _ (some s) _ _=>[s]
 | .store (some s) _ _ _=>[s]
 | _=>[]
def OpK.boxW:OpK->List Nat
 | .mov x | .box _ x=>ki [x]
 | .load true (some s) _ _=>[s]
 | .store (some s) _ _ x=>s::ki [x]
 | .store none _ _ x | .mapUpdate _ _ _ x=>ki [x]
 | .bi _ args | .call _ args | .callC _ args _=>ki args
 | .appendC _ _ x y=>ki [x,y]
 | .fz n=>[n]
 | .movO n=>[n]
 | _=>[]
def meets (a b:List Nat):Bool:=a.any fun n=>b.contains n
def qj:List O->List Nat
 | []=>[]
 | .t n::l | .mv n::l=>n::qj l
 | _::l=>qj l
def OpK.rds:OpK->List O
 | .clearS _ x | .cvtR x | .cvtO x | .capN x | .rangeM x | .next x | .mov x | .box _ x | .nilCheck x | .un _ x | .conv _ x | .bytes x | .bytesRow x | .text x | .movS x | .mkIfc _ x | .assertOk _ _ x | .fieldAddr x _ _ | .field x _ _ | .extract x _ | .panic x | .load _ _ _ x | .loadC _ x=>[x]
 | .pick c a b=>[c,a,b]
 | .build _ ps | .buildV _ ps=>ps.map (·.2.2)
 | .buildSlice _ _ ps | .buildRow _ _ ps | .buildFull _ _ ps | .buildR _ _ _ ps=>ps.map (·.2)
 | .fz n | .movO n=>[.t n]
 | .copyR a x=>[a,x]
 | .appendC _ _ a x | .zerosR _ _ _ a x | .truncR a x | .appendR _ _ a x | .store _ _ a x | .bin _ _ a x | .indexAddr a x _ _ | .index a x | .lookup _ _ a x _ | .mkSlice _ a x=>[a,x]
 | .mkFn _ a b=>a++b
 | .sliceS x a b | .sliceL _ x a b | .sliceA _ x a b=>x::(a.toList++b.toList)
 | .sliceM _ x a b m=>m::b::x::a.toList
 | .mapUpdate _ a b c=>[a,b,c]
 | .bi _ l=>l
 | .call f l | .callQ f l=>f::l
 | .callC f l c=>f::(l++c.flatMap fun (d,ly,a)=>[.t d,.t a,.t (ly.n - 1000000)])
 | _=>[]
def Op.wr (o:Op):List Nat:=o.dst.toList++o.k.boxW
def Op.re (o:Op):List Nat:=(match o.g with|some (n,_)=>[n]|none=>[])++(qj o.k.rds++(o.k.boxR++o.k.boxW))
def apart (o o':Op):Bool:=
 !(!o.k.free && (o'.k.looks || !o'.k.free)) && !(!o'.k.free && (o.k.looks || !o.k.free)) && !meets o.wr (o'.wr++o'.re) && !meets o'.wr (o.wr++o.re)
def OpK.strip:OpK->OpK
 | .callC f l _=>.call f l
 | k=>k
def Op.strip (o:Op):Op:={o with k:=o.k.strip}
def chkd (l:List Op) (o o':Op) (j:Nat):Bool:=
 match o.k,o'.k,o'.dst,o'.g,o.g with
 | .callC _ _ c,.load false none ly (.t a),some d,none,none=>!Nat.ble 1000000 ly.n && c.contains (d,ly,a) && !Nat.beq a d && l.zipIdx.all (fun (z,q)=>Nat.ble q j || !meets z.wr [d,a])
 | .callC _ _ c,.lookup _ _ (.t a) (.t k) false,some d,none,none=>c.contains (d,⟨1000000+k,false⟩,a) && !Nat.beq a d && !Nat.beq k d && l.zipIdx.all (fun (z,q)=>Nat.ble q j || !meets z.wr [d,a,k])
 | _,_,_,_,_=>false
def qFh (o:Op):Option (Nat × L × Nat):=
 match o.k,o.dst,o.g with
 | .load false none ly (.t a),some d,none=>some (d,ly,a)
 | .lookup _ _ (.t a) (.t k) false,some d,none=>some (d,⟨1000000+k,false⟩,a)
 | _,_,_=>none
def qhQ (c:List (Nat × L × Nat)):OpK->OpK
 | .callC _ _ _=>.stuck
 | .call f l=>match c with
  | []=>.call f l
  | c=>.callC f l c
 | k=>k
def qgJ (ck:List (Nat × Nat × Nat)) (rid:Nat) (l:List Op):List Op:=
 l.zipIdx.map fun (o,i)=>{o with k:=qhQ (ck.filterMap fun (r,i',j)=>if r == rid && i' == i then qFh (l.getD j default) else none) o.k}
def mvd (o o':Op):Bool:=
 match o.k,o.dst,o.g,o'.k,o'.dst,o'.g with
 | .load true none _ (.t _),some _,none,.load false none _ (.t _),some _,none=>!meets o.wr (o'.wr++o'.re) && !meets o'.wr (o.wr++o.re)
 | _,_,_,_,_,_=>false
def ql1 (ops:Array Oper) (l:List Op):Bool:=
 let b:=Go.Region.before ops
 let l:=l.zipIdx
 l.all fun (o,i)=>l.all fun (o',j)=>!Nat.blt i j || (b.getD j 0).testBit i || apart o o'.strip || mvd o o'
def qwI (ops:Array Oper):Bool:=ops.toList.zipIdx.all fun (o,i)=>o.after.toList.all fun e=>!Go.Region.binds .any e || Nat.blt e.on i
def qfz (ops:Array Oper) (n i:Nat):Bool:=
 (List.range n).all fun j=>qOC j i || (bif Nat.blt j i then ((Go.Region.before ops).getD i 0).testBit j else ((Go.Region.before ops).getD j 0).testBit i)
def OpK.isCall:OpK->Bool
 | .call _ _ | .callC _ _ _=>true
 | _=>false
def qjp (ops:Array Oper) (l:List Op) (i:Nat):Bool:=
 l.zipIdx.all fun (o',j)=>qOC j i || (bif Nat.blt j i then ((Go.Region.before ops).getD i 0).testBit j else ((Go.Region.before ops).getD j 0).testBit i) || (!o'.k.looks && o'.k.free) || (Nat.blt j i && chkd l (l.getD i default) o' j)
def zr (ops:Array Oper) (l:List Op) (o:Op) (i:Nat):Bool:=!o.k.free || qfz ops l.length i || (o.k.isCall && qjp ops l i)
def qft (o:Op):List Nat:=if qpT o.k then o.dst.toList else []
def qbu (ops:Array Oper) (l:List Op) (i:Nat):List Nat:=
 l.zipIdx.flatMap fun (o,j)=>if ((Go.Region.before ops).getD i 0).testBit j then [] else bif mvd o (l.getD i default) then [qmy] else qft o
def qoH (ops:Array Oper) (l:List Op):Bool:=(match l.getLast? with|some o=>o.k.isCall|none=>false) && (List.range (l.length - 1)).all fun j=>((Go.Region.before ops).getD (l.length - 1) 0).testBit j && !qT yr (qbu ops l j)
def qvX (ops:Array Oper) (l:List Op) (i:Nat):Bool:=
 (l.getD i default).g.isNone && (l.getD i default).k.isCall && l.zipIdx.all fun (o,j)=>
  bif Nat.blt i j then ((Go.Region.before ops).getD j 0).testBit i
  else bif Nat.blt j i then ((Go.Region.before ops).getD i 0).testBit j || (!zr ops l o j && apart o (l.getD i default).strip) else true
def qji (ops:Array Oper) (l:List Op) (i:Nat):List Nat:=bif qvX ops l i then yr::qbu ops l i else qbu ops l i
def okP (ops:Array Oper) (l:List Op):Bool:=l.zipIdx.all fun (_,i)=>qvX ops l i || !qT yr (qbu ops l i)
def qA6 (ops:Array Oper) (l:List Op):C:=
 bif qoH ops l then .seq (.opsD ((l.zipIdx.map fun (o,i)=>(o,zr ops l o i,qbu ops l i)).take (l.length - 1))) (.ops (l.drop (l.length - 1)))
 else bif okP ops l then .opsD (l.zipIdx.map fun (o,i)=>(o,zr ops l o i,qji ops l i)) else .stuck
def quK (b:Array Nat) (l:List Op):Bool:=
 let l:=l.zipIdx
 l.all fun (o,i)=>l.all fun (o',j)=>!Nat.blt i j || (b.getD j 0).testBit i || apart o o'.strip || mvd o o'
def qz9 (b:Array Nat) (n i:Nat):Bool:=
 (List.range n).all fun j=>qOC j i || (bif Nat.blt j i then (b.getD i 0).testBit j else (b.getD j 0).testBit i)
def qA9 (b:Array Nat) (l:List Op) (i:Nat):Bool:=
 l.zipIdx.all fun (o',j)=>qOC j i || (bif Nat.blt j i then (b.getD i 0).testBit j else (b.getD j 0).testBit i) || (!o'.k.looks && o'.k.free) || (Nat.blt j i && chkd l (l.getD i default) o' j)
def qt2 (b:Array Nat) (l:List Op) (o:Op) (i:Nat):Bool:=!o.k.free || qz9 b l.length i || (o.k.isCall && qA9 b l i)
def qog (b:Array Nat) (l:List Op) (i:Nat):List Nat:=
 l.zipIdx.flatMap fun (o,j)=>if (b.getD i 0).testBit j then [] else bif mvd o (l.getD i default) then [qmy] else qft o
def qER (b:Array Nat) (l:List Op):Bool:=(match l.getLast? with|some o=>o.k.isCall|none=>false) && (List.range (l.length - 1)).all fun j=>(b.getD (l.length - 1) 0).testBit j && !qT yr (qog b l j)
def qB6 (b:Array Nat) (l:List Op) (i:Nat):Bool:=
 (l.getD i default).g.isNone && (l.getD i default).k.isCall && l.zipIdx.all fun (o,j)=>
  bif Nat.blt i j then (b.getD j 0).testBit i
  else bif Nat.blt j i then (b.getD i 0).testBit j || (!qt2 b l o j && apart o (l.getD i default).strip) else true
def qA4 (b:Array Nat) (l:List Op) (i:Nat):List Nat:=bif qB6 b l i then yr::qog b l i else qog b l i
def qOq (b:Array Nat) (l:List Op):Bool:=l.zipIdx.all fun (_,i)=>qB6 b l i || !qT yr (qog b l i)
def qAw (b:Array Nat) (l:List Op):C:=
 bif qER b l then .seq (.opsD ((l.zipIdx.map fun (o,i)=>(o,qt2 b l o i,qog b l i)).take (l.length - 1))) (.ops (l.drop (l.length - 1)))
 else bif qOq b l then .opsD (l.zipIdx.map fun (o,i)=>(o,qt2 b l o i,qA4 b l i)) else .stuck
def qxl (ops:Array Oper) (l:List Op):Option C:=bif qwI ops && quK (Go.CheckFast.beforeF ops) l then some (qAw (Go.CheckFast.beforeF ops) l) else some .stuck
theorem qz5 (ops:Array Oper) (l:List Op):qxl ops l=if qwI ops && ql1 ops l then some (qA6 ops l) else some .stuck:=by
 unfold qxl
 rw [Go.CheckFast.beforeF_eq]
 rw [show quK (Go.Region.before ops) l=ql1 ops l from rfl,show qAw (Go.Region.before ops) l=qA6 ops l from rfl,qOx]
def qd:Code->Bool
 | .region _ ops _=>ops.toList.all fun o=>match o.op with | .defer _=>false|_=>true
 | .seq a b=>qd a && qd b
 | .cond _ a b=>qd a && qd b
 | .block _ a=>qd a
 | .loop a=>qd a
 | .rangeFunc _ _ _ _=>false
 | .scope _=>false
 | _=>true
def qCC (fz:List (Nat × Nat × Nat)) (rid i:Nat):List Op:=(fz.filter fun (r,j,_)=>r == rid && j == i).map fun (_,_,n)=>⟨none,.fz n,none⟩
def qwe (fz:List (Nat × Nat × Nat)) (rid:Nat):Nat->List Op->List Op
 | _,[]=>[]
 | i,o::l=>qCC fz rid i++o::qwe fz rid (i+1) l
def qyb (i:Nat):Nat->List Nat->Option Nat
 | _,[]=>none
 | k,j::l=>bif qOC j i then some k else qyb i (k+1) l
def jZ (ord:List Nat) (i:Nat):Nat:=(qyb i 0 ord).getD i
def qA3 (n:Nat) (ord:List Nat):Bool:=
 qOC ord.length n && (List.range n).all fun k=>Nat.blt (ord.getD k n) n && qOC (jZ ord (ord.getD k n)) k && Nat.blt (jZ ord k) n && qOC (ord.getD (jZ ord k) n) k
def qbn (ord:List Nat) (o:Oper):Oper:={o with after:=o.after.map fun e=>{e with on:=jZ ord e.on},guard:=o.guard.map fun (j,b)=>(jZ ord j,b)}
def z3 (ord:List Nat) (ops:Array Oper):Array Oper:=(ord.filterMap fun i=>(ops[i]?).map (qbn ord)).toArray
def qiv (pm:List (Nat × List Nat)) (id:Nat) (ops:Array Oper):Array Oper:=
 match look pm id with
 | some ord=>bif qA3 ops.size ord then z3 ord ops else ops
 | none=>ops
def qs2 (P:Program) (f:Nat):Bool:=match P.funcs[f]? with
 | some fn=>fn.body.isSome && fn.name != "runtime.NumGoroutine"
 | none=>false
def trC (M:Maps) (P:Program) (A:Ann) (blk:Nat):Code->Option C
 | .skip=>some .skip
 | .region id ops true=>match zZ M P A id (qiv A.pm id ops) 0 (qiv A.pm id ops).toList with
  | some l=>qxl (qiv A.pm id ops) (qgJ A.ck id l)
  | none=>some .stuck
 | .region id ops false=>match zZ M P A id ops 0 ops.toList with
  | some l=>some (.ops (qwe A.fz id 0 l))
  | none=>some .stuck
 | .seq a b=>match trC M P A blk a,trC M P A blk b with
  | some x,some y=>some (.seq x y)
  | _,_=>none
 | .cond c a b=>match opnd M false c,trC M P A blk a,trC M P A blk b with
  | some o,some x,some y=>some (.cond o x y)
  | _,_,_=>none
 | .block id a=>match trC M P A id a with
  | some x=>some (.block id ((look A.bl id).getD []) x)
  | none=>none
 | .loop a=>match trC M P A blk a with
  | some x=>some (.loop ((look A.ll blk).getD []) x)
  | none=>none
 | .exit id=>some (.exit id)
 | .ret=>some .ret
 | .rangeFunc f ps x y=>match look A.rk blk with
  | some k=>match look M.bk k,opnd M false f,ps.toList,trC M P A blk x,trC M P A blk y with
   | some l,some o,[p0,p1],some a,some b=>if qd x && qd y then some (.rangeB k l o p0 p1 ((look A.rl blk).getD []) a b) else some .stuck
   | _,_,_,_,_=>some .stuck
  | none=>match look A.rz blk,opnd M false f with
   | some k,some o=>if qd x && qd y && M.fm.all (fun p=>p.2 != k || qs2 P p.1) then some (.rangeZ k o ((look A.rl blk).getD [])) else some .stuck
   | _,_=>some .stuck
 | _=>some .stuck
def qD2 (P:Program):Go.ResultVar->Option Rv
 | .tmp t=>some (.t t)
 | .cell a t=>(lay P t).map (.cell a)
def qj2 (P:Program):List Go.ResultVar->Option (List Rv)
 | []=>some []
 | r::l=>match qD2 P r,qj2 P l with
  | some x,some y=>some (x::y)
  | _,_=>none
def jm (n:Nat):Code->Bool
 | .region _ ops _=>ops.toList.all fun o=>match o.dst with|some d=>Nat.blt d n|none=>true
 | .seq a b=>jm n a && jm n b
 | .cond _ a b=>jm n a && jm n b
 | .block _ a=>jm n a
 | .loop a=>jm n a
 | .rangeFunc _ ps a b=>ps.toList.all (fun p=>Nat.blt p n) && (jm n a && jm n b)
 | _=>true
def trH (M:Maps) (P:Program) (A:Ann):Code->Option (Nat × C)
 | .region id ops false=>match ops.toList with
  | [o,o2]=>match o.op,o2.op,o.dst,o.guard,zZ M P A id ops 1 [o2] with
   | .call ⟨.builtin .recover,_,_⟩,.assign _,some d,none,some l=>some (d,.ops l)
   | _,_,_,_,_=>none
  | _=>none
 | .seq a b=>match trH M P A a,trC M P A 0 b with
  | some (d,x),some y=>some (d,.seq x y)
  | _,_=>none
 | _=>none
def trD (M:Maps) (P:Program) (A:Ann):Code->Option (C × Nat × C)
 | .region id ops false=>match ops.toList with
  | [o1,o2]=>match o1.op,o2.op,o2.dst,o2.guard,zZ M P A id ops 0 [o1] with
   | .makeFunc _ _ _,.defer ⟨.value (.tmp t),args,_⟩,none,none,some l=>if args.toList=[] then some (.ops l,t,.skip) else none
   | _,_,_,_,_=>none
  | _=>none
 | .seq a b=>match trD M P A a with
  | some (pre,t,post)=>match trC M P A 0 b with
   | some y=>some (pre,t,.seq post y)
   | none=>none
  | none=>match trC M P A 0 a,trD M P A b with
   | some x,some (pre,t,post)=>some (.seq x pre,t,post)
   | _,_=>none
 | _=>none
def qB7:Code->Option Oper
 | .region _ ops _=>ops.toList.head?
 | .seq a _=>qB7 a
 | _=>none
def recovers (c:Code):Bool:=match qB7 c with
 | some o=>match o.op with
  | .call ⟨.builtin .recover,_,_⟩=>true
  | _=>false
 | none=>false
def defers:Code->Bool
 | .region _ ops _=>ops.toList.any fun o=>match o.op with | .defer _=>true|_=>false
 | .seq a b=>defers a || defers b
 | _=>false
def qtL (M:Maps) (P:Program) (A:Ann) (c:Code):Option (C × Option (Nat × C) × Option Nat):=
 if recovers c then (if qd c then (match trH M P A c with|some (d,x)=>some (x,none,some d)|none=>none) else none)
 else if defers c then (match trD M P A c with|some (x,t,y)=>some (x,some (t,y),none)|none=>none)
 else (match trC M P A 0 c with|some x=>some (x,none,none)|none=>none)
def qcS (M:Maps) (P:Program) (A:Ann) (own:Bool) (fn:Func):Option Fn:=
 match fn.body with
 | some c=>if !jm fn.ntmps c then none else match qtL M P A c,qj2 P fn.results.toList with
  | some (x,d,h),some r=>some ⟨fn.params.size+fn.nfree,r,own,x,d,h⟩
  | _,_=>none
 | none=>none
end W
/-
  What a value of the small semantics stands for in the model's memory; that this stays as memory grows.
-/
namespace W
open Go (World Value Addr IntKind Program TypeId FuncId)
inductive Loc where
 | slot (n:Nat)
 | bblk (n:Nat)
 | bcell (n i:Nat)
 | oblk (id:Nat)
 | ocell (id i:Nat)
 | out
 deriving DecidableEq
structure Gh where
 n:Nat
 Φ:Nat->Nat × Nat
 pub:Nat->Nat
 own:Nat->Option Loc
def Gh.φ (g:Gh) (id:Nat):Nat:=(g.Φ id).1
def Gh.ζ (g:Gh) (id:Nat):Nat:=(g.Φ id).2
theorem Gh.φ_eq {g g':Gh} {id:Nat} (h:g'.Φ id=g.Φ id):g'.φ id=g.φ id:=congrArg Prod.fst h
theorem Gh.ζ_eq {g g':Gh} {id:Nat} (h:g'.Φ id=g.Φ id):g'.ζ id=g.ζ id:=congrArg Prod.snd h
mutual
inductive RepD (pub:Nat->Nat) (w:World):D->Value->Prop
 | b (x:Bool):RepD pub w (.b x) (.bool x)
 | i (k:IntKind) (n:Int):RepD pub w (.i k n) (.int k n)
 | s (t:List Nat) (x:ByteArray) (h:x.data.toList.map (·.toNat)=t):RepD pub w (.s t) (.string x)
 | nil:RepD pub w .nil (.slice none 0 0)
 | sl0 (a:Addr) (cap:Nat):RepD pub w (.sl []) (.slice (some a) 0 cap)
 | sl (xs:List D) (b off cap sz:Nat) (vs:List Value) (hne:xs≠[]) (hsz:∀x ∈ xs,x.cells.length=sz)
   (hr:RepDL pub w (xs.flatMap D.cells) vs) (hc:∀j v,vs[j]?=some v->w.cell? ⟨b,off+j,none⟩=some v)
   (hp:off+vs.length<=pub b) (hcap:xs.length<=cap) (hone:∀u ∈ vs,u.oneCell'=true):RepD pub w (.sl xs) (.slice (some ⟨b,off,none⟩) xs.length cap)
 | agg (cs:List D) (vs:Array Value) (h:RepDL pub w cs vs.toList):RepD pub w (.agg cs) (.agg vs)
 | np:RepD pub w .np (.pointer none)
 | nf:RepD pub w .nf .nilFunc
 | ni:RepD pub w .ni .nilIface
 | nm:RepD pub w .nm (.map none)
inductive RepDL (pub:Nat->Nat) (w:World):List D->List Value->Prop
 | nil:RepDL pub w [] []
 | cons (x:D) (v:Value) (l:List D) (vs:List Value) (h:RepD pub w x v) (hl:RepDL pub w l vs):RepDL pub w (x::l) (v::vs)
end
mutual
theorem RepD.mono {pub pub':Nat->Nat} {w w':World} (hp:∀b,pub b<=pub' b) (hc:∀b o,o<pub b->w'.cell? ⟨b,o,none⟩=w.cell? ⟨b,o,none⟩) :
  ∀{x:D} {v:Value},RepD pub w x v->RepD pub' w' x v
 | _,_,.b x=>.b x
 | _,_,.i k n=>.i k n
 | _,_,.s t x h=>.s t x h
 | _,_,.nil=>.nil
 | _,_,.sl0 a cap=>.sl0 a cap
 | _,_,.sl xs b off cap sz vs hne hsz hr hcc hpp hcap hone=>.sl xs b off cap sz vs hne hsz (RepDL.mono hp hc hr)
   (fun j v hj=>by
    have hlt:j<vs.length:=(List.getElem?_eq_some_iff.1 hj).1
    rw [hc b (off+j) (by omega)];exact hcc j v hj) (Nat.le_trans hpp (hp b)) hcap hone
 | _,_,.agg cs vs h=>.agg cs vs (RepDL.mono hp hc h)
 | _,_,.np=>.np
 | _,_,.nf=>.nf
 | _,_,.ni=>.ni
 | _,_,.nm=>.nm
theorem RepDL.mono {pub pub':Nat->Nat} {w w':World} (hp:∀b,pub b<=pub' b) (hc:∀b o,o<pub b->w'.cell? ⟨b,o,none⟩=w.cell? ⟨b,o,none⟩) :
  ∀{l:List D} {vs:List Value},RepDL pub w l vs->RepDL pub' w' l vs
 | _,_,.nil=>.nil
 | _,_,.cons x v l vs h hl=>.cons x v l vs (RepD.mono hp hc h) (RepDL.mono hp hc hl)
end
theorem RepDL.length {pub:Nat->Nat} {w:World}:∀{l:List D} {vs:List Value},RepDL pub w l vs->l.length=vs.length
 | _,_,.nil=>rfl
 | _,_,.cons _ _ _ _ _ hl=>by simp [RepDL.length hl]
theorem RepDL.append {pub:Nat->Nat} {w:World}:∀{l:List D} {vs:List Value} {l':List D} {vs':List Value},RepDL pub w l vs->RepDL pub w l' vs'->RepDL pub w (l++l') (vs++vs')
 | _,_,_,_,.nil,h'=>h'
 | _,_,_,_,.cons x v l vs h hl,h'=>.cons x v _ _ h (RepDL.append hl h')
theorem RepDL.get {pub:Nat->Nat} {w:World}:∀{l:List D} {vs:List Value},RepDL pub w l vs->∀(i:Nat) (x:D),l[i]?=some x->∃v,vs[i]?=some v/\RepD pub w x v
 | _,_,.nil,i,x,h=>by simp at h
 | _,_,.cons y v l vs hy hl,0,x,h=>⟨v,rfl,by simp at h;exact h▸hy⟩
 | _,_,.cons y v l vs hy hl,i+1,x,h=>by simpa using RepDL.get hl i x (by simpa using h)
theorem RepDL.take {pub:Nat->Nat} {w:World}:∀{l:List D} {vs:List Value},RepDL pub w l vs->∀n,RepDL pub w (l.take n) (vs.take n)
 | _,_,.nil,n=>by simpa using RepDL.nil
 | _,_,.cons x v l vs h hl,0=>RepDL.nil
 | _,_,.cons x v l vs h hl,n+1=>.cons x v _ _ h (RepDL.take hl n)
theorem RepDL.drop {pub:Nat->Nat} {w:World}:∀{l:List D} {vs:List Value},RepDL pub w l vs->∀n,RepDL pub w (l.drop n) (vs.drop n)
 | _,_,.nil,n=>by simpa using RepDL.nil
 | _,_,.cons x v l vs h hl,0=>.cons x v _ _ h hl
 | _,_,.cons x v l vs h hl,n+1=>RepDL.drop hl n
theorem RepD.cells {pub:Nat->Nat} {w:World} {x:D} {v:Value} (h:RepD pub w x v):RepDL pub w x.cells v.cells.toList:=by
 cases h with
 | agg cs vs h=>exact h
 | b x=>exact .cons _ _ _ _ (.b x) .nil
 | i k n=>exact .cons _ _ _ _ (.i k n) .nil
 | s t x h=>exact .cons _ _ _ _ (.s t x h) .nil
 | nil=>exact .cons _ _ _ _ .nil .nil
 | sl0 a cap=>exact .cons _ _ _ _ (.sl0 a cap) .nil
 | sl xs b off cap sz vs hne hsz hr hc hp hcap hone=>exact .cons _ _ _ _ (.sl xs b off cap sz vs hne hsz hr hc hp hcap hone) .nil
 | np=>exact .cons _ _ _ _ .np .nil
 | nf=>exact .cons _ _ _ _ .nf .nil
 | ni=>exact .cons _ _ _ _ .ni .nil
 | nm=>exact .cons _ _ _ _ .nm .nil
mutual
inductive RepS (M:Maps) (g:Gh) (w:World):V->Value->Prop
 | d (x:D) (c:Value) (h:RepD g.pub w x c):RepS M g w (.d x) c
 | fsl (xs:List D) (ad:Addr) (h:RepD g.pub w (.sl xs) (.slice (some ad) xs.length xs.length)):RepS M g w (.fsl xs) (.slice (some ad) xs.length xs.length)
 | ptr (id off:Nat) (h:id<g.n):RepS M g w (.ptr id off) (.pointer (some ⟨g.φ id,off,none⟩))
 | rs (id off len cap cap':Nat) (h:id<g.n) (hc:len<=cap) (hc':cap<=cap'):RepS M g w (.rs id off len cap) (.slice (some ⟨g.φ id,off,none⟩) len cap')
 | row (id sz len cap:Nat) (h:id<g.n) (hc:len<=cap) (hz:cap * sz<=g.ζ id):RepS M g w (.row id sz len) (.slice (some ⟨g.φ id,0,none⟩) len cap)
 | map (id:Nat) (h:id<g.n):RepS M g w (.map id) (.map (some (g.φ id)))
 | fn (f f':Nat) (first cap:List V) (fv cv:Array Value) (h:look M.fm f'=some f) (h1:RepSL M g w first fv.toList) (h2:RepSL M g w cap cv.toList) :
   RepS M g w (.fn f first cap) (.func (.func f') fv cv)
 | ifc (t t':Nat) (x:V) (c:Value) (h:look M.tm t'=some t) (hx:RepS M g w x c):RepS M g w (.ifc t x) (.iface t' c)
 | agg (cs:List V) (vs:Array Value) (h:RepSL M g w cs vs.toList):RepS M g w (.agg cs) (.agg vs)
 | tup (cs:List V) (vs:Array Value) (h:RepSL M g w cs vs.toList):RepS M g w (.tup cs) (.tuple vs)
 | undef (c:Value):RepS M g w .undef c
inductive RepSL (M:Maps) (g:Gh) (w:World):List V->List Value->Prop
 | nil:RepSL M g w [] []
 | cons (x:V) (v:Value) (l:List V) (vs:List Value) (h:RepS M g w x v) (hl:RepSL M g w l vs):RepSL M g w (x::l) (v::vs)
end
structure Grow (g:Gh) (w:World) (g':Gh) (w':World):Prop where
 size:w.heap.size<=w'.heap.size
 pub:∀b,g.pub b<=g'.pub b
 cell:∀b o,o<g.pub b->w'.cell? ⟨b,o,none⟩=w.cell? ⟨b,o,none⟩
theorem Grow.refl (g:Gh) (w:World):Grow g w g w:=⟨qOB _,fun _=>qOB _,fun _ _ _=>rfl⟩
theorem Grow.trans {g g' g'':Gh} {w w' w'':World} (h:Grow g w g' w') (h':Grow g' w' g'' w''):Grow g w g'' w'':=
 ⟨Nat.le_trans h.size h'.size,fun b=>Nat.le_trans (h.pub b) (h'.pub b),fun b o ho=>(h'.cell b o (Nat.lt_of_lt_of_le ho (h.pub b))).trans (h.cell b o ho)⟩
mutual
theorem RepS.mono {M:Maps} {g g':Gh} {w w':World} (hg:Grow g w g' w') {n:Nat} (hn:n<=g'.n) (hφ:∀id,id<n->g'.Φ id=g.Φ id) :
  ∀{x:V} {v:Value},RepS M g w x v->x.ref<=n->RepS M g' w' x v
 | _,_,.d x c h,_=>.d x c (h.mono hg.pub hg.cell)
 | _,_,.fsl xs ad h,_=>.fsl xs ad (h.mono hg.pub hg.cell)
 | _,_,.ptr id off h,hr=>by
   simp only [V.ref] at hr
   rw [<- Gh.φ_eq (hφ id (by omega))];exact .ptr id off (by omega)
 | _,_,.rs id off len cap cap' h hc hc',hr=>by
   simp only [V.ref] at hr
   rw [<- Gh.φ_eq (hφ id (by omega))];exact .rs id off len cap cap' (by omega) hc hc'
 | _,_,.row id sz len cap h hc hz,hr=>by
   simp only [V.ref] at hr
   rw [<- Gh.φ_eq (hφ id (by omega))];exact .row id sz len cap (by omega) hc (by rw [Gh.ζ_eq (hφ id (by omega))];exact hz)
 | _,_,.map id h,hr=>by
   simp only [V.ref] at hr
   rw [<- Gh.φ_eq (hφ id (by omega))];exact .map id (by omega)
 | _,_,.fn f f' first cap fv cv h h1 h2,hr=>by
   simp only [V.ref] at hr
   exact .fn f f' first cap fv cv h (RepSL.mono hg hn hφ h1 (by omega)) (RepSL.mono hg hn hφ h2 (by omega))
 | _,_,.ifc t t' x c h hx,hr=>.ifc t t' x c h (RepS.mono hg hn hφ hx (by simpa [V.ref] using hr))
 | _,_,.agg cs vs h,hr=>.agg cs vs (RepSL.mono hg hn hφ h (by simpa [V.ref] using hr))
 | _,_,.tup cs vs h,hr=>.tup cs vs (RepSL.mono hg hn hφ h (by simpa [V.ref] using hr))
 | _,_,.undef c,_=>.undef c
theorem RepSL.mono {M:Maps} {g g':Gh} {w w':World} (hg:Grow g w g' w') {n:Nat} (hn:n<=g'.n) (hφ:∀id,id<n->g'.Φ id=g.Φ id) :
  ∀{l:List V} {vs:List Value},RepSL M g w l vs->V.ref.refs l<=n->RepSL M g' w' l vs
 | _,_,.nil,_=>.nil
 | _,_,.cons x v l vs h hl,hr=>by
   simp only [V.ref.refs] at hr
   exact .cons x v l vs (RepS.mono hg hn hφ h (by omega)) (RepSL.mono hg hn hφ hl (by omega))
end
mutual
theorem RepS.ref {M:Maps} {g:Gh} {w:World}:∀{x:V} {v:Value},RepS M g w x v->x.ref<=g.n
 | _,_,.d x c h=>by simp [V.ref]
 | _,_,.fsl xs ad h=>by simp [V.ref]
 | _,_,.ptr id off h=>by simp only [V.ref];omega
 | _,_,.rs id off len cap cap' h hc hc'=>by simp only [V.ref];omega
 | _,_,.row id sz len cap h hc hz=>by simp only [V.ref];omega
 | _,_,.map id h=>by simp only [V.ref];omega
 | _,_,.fn f f' first cap fv cv h h1 h2=>by
   simp only [V.ref];have:=RepSL.ref h1;have:=RepSL.ref h2;omega
 | _,_,.ifc t t' x c h hx=>by simp only [V.ref];exact RepS.ref hx
 | _,_,.agg cs vs h=>by simp only [V.ref];exact RepSL.ref h
 | _,_,.tup cs vs h=>by simp only [V.ref];exact RepSL.ref h
 | _,_,.undef c=>by simp [V.ref]
theorem RepSL.ref {M:Maps} {g:Gh} {w:World}:∀{l:List V} {vs:List Value},RepSL M g w l vs->V.ref.refs l<=g.n
 | _,_,.nil=>by simp [V.ref.refs]
 | _,_,.cons x v l vs h hl=>by simp only [V.ref.refs];have:=RepS.ref h;have:=RepSL.ref hl;omega
end
theorem RepSL.length {M:Maps} {g:Gh} {w:World}:∀{l:List V} {vs:List Value},RepSL M g w l vs->l.length=vs.length
 | _,_,.nil=>rfl
 | _,_,.cons _ _ _ _ _ hl=>by simp [RepSL.length hl]
theorem RepSL.append {M:Maps} {g:Gh} {w:World}:∀{l:List V} {vs:List Value} {l':List V} {vs':List Value},RepSL M g w l vs->RepSL M g w l' vs'->RepSL M g w (l++l') (vs++vs')
 | _,_,_,_,.nil,h'=>h'
 | _,_,_,_,.cons x v l vs h hl,h'=>.cons x v _ _ h (RepSL.append hl h')
theorem RepSL.get {M:Maps} {g:Gh} {w:World}:∀{l:List V} {vs:List Value},RepSL M g w l vs->∀(i:Nat) (x:V),l[i]?=some x->∃v,vs[i]?=some v/\RepS M g w x v
 | _,_,.nil,i,x,h=>by simp at h
 | _,_,.cons y v l vs hy hl,0,x,h=>⟨v,rfl,by simp at h;exact h▸hy⟩
 | _,_,.cons y v l vs hy hl,i+1,x,h=>by simpa using RepSL.get hl i x (by simpa using h)
theorem RepSL.ofD {M:Maps} {g:Gh} {w:World}:∀{l:List D} {vs:List Value},RepDL g.pub w l vs->RepSL M g w (l.map .d) vs
 | _,_,.nil=>.nil
 | _,_,.cons x v l vs h hl=>.cons _ _ _ _ (.d x v h) (RepSL.ofD hl)
end W
/-
  A frame's slots and the objects, and what they stand for; reading an operand; laying a value into a slot.
-/
namespace W
open Go (World Value Addr IntKind Program TypeId FuncId Operand)
inductive OwnSl (g:Gh) (w:World) (ℓ:Loc):List D->Value->Prop
 | mk (xs:List D) (b off cap sz:Nat) (vs:List Value) (arr:Array Value) (T:TypeId) (fz:Nat × Nat) (hne:xs≠[]) (hsz:∀x ∈ xs,x.cells.length=sz)
   (hr:RepDL g.pub w (xs.flatMap D.cells) vs) (hc:∀j v,vs[j]?=some v->w.cell? ⟨b,off+j,none⟩=some v)
   (hp:g.pub b=off+vs.length) (hcap:xs.length<=cap) (hone:∀u ∈ vs,u.oneCell'=true) (ho:g.own b=some ℓ) (hb:w.heap[b]?=some (.cells arr T fz)) (ha:off+cap * sz<=arr.size)
   (hf:∀o,off+vs.length<=o->o<off+cap * sz->w.frozen? ⟨b,o,none⟩=false):OwnSl g w ℓ xs (.slice (some ⟨b,off,none⟩) xs.length cap)
 | full (xs:List D) (ad:Addr) (h:RepD g.pub w (.sl xs) (.slice (some ad) xs.length xs.length)):OwnSl g w ℓ xs (.slice (some ad) xs.length xs.length)
theorem qDf {g:Gh} {w:World} {ys:List D} {o:Option Addr} {n k:Nat} (h:RepD g.pub w (.sl ys) (.slice o n k)) (hnk:n=k) (ℓ:Loc):OwnSl g w ℓ ys (.slice o n k):=by
 generalize hc:Value.slice o n k=c at h
 cases h with
 | sl0 a cap=>
  injection hc with h1 h2 h3
  subst h1;subst h2;subst h3
  subst hnk
  exact .full [] a (.sl0 a 0)
 | sl _ b off cap sz vs h1 h2 h3 h4 h5 h6 h7=>
  injection hc with e1 e2 e3
  subst e1;subst e2;subst e3
  subst hnk
  exact .full ys _ (.sl ys b off _ sz vs h1 h2 h3 h4 h5 h6 h7)
inductive RepC (M:Maps) (g:Gh) (w:World) (ℓ:Loc):V->Value->Prop
 | s {v:V} {c:Value} (h:RepS M g w v c):RepC M g w ℓ v c
 | osl {xs:List D} {c:Value} (h:OwnSl g w ℓ xs c):RepC M g w ℓ (.osl xs) c
inductive RepT (M:Maps) (g:Gh) (w:World) (β:Nat->Nat) (k:Nat):V->Value->Prop
 | s {v:V} {c:Value} (h:RepS M g w v c):RepT M g w β k v c
 | osl {xs:List D} {c:Value} (h:OwnSl g w (.slot k) xs c):RepT M g w β k (.osl xs) c
 | lp (s off:Nat):RepT M g w β k (.lp s off) (.pointer (some ⟨β s,off,none⟩))
 | cp (x:D) (b off:Nat) (vs:List Value) (hr:RepDL g.pub w x.cells vs) (hc:∀j v,vs[j]?=some v->w.cell? ⟨b,off+j,none⟩=some v)
   (hp:off+vs.length<=g.pub b):RepT M g w β k (.cp x) (.pointer (some ⟨b,off,none⟩))
 | box (cs:List V) (arr:Array Value) (T:TypeId) (hb:w.heap[β k]?=some (.cells arr T (0,0))) (ho:g.own (β k)=some (.bblk k)) (hp:g.pub (β k)=0) (hl:cs.length=arr.size)
   (hr:∀(i:Nat) x v,cs[i]?=some x->arr[i]?=some v->RepC M g w (.bcell k i) x v):RepT M g w β k (.box cs) (.pointer (some ⟨β k,0,none⟩))
inductive RepEs (M:Maps) (g:Gh) (w:World):List (D × V)->List Go.MapEntry->Prop
 | nil:RepEs M g w [] []
 | cons (k:D) (x:V) (e:Go.MapEntry) (es:List (D × V)) (ents:List Go.MapEntry) (hk:RepD g.pub w k e.key) (hg:∃kk,zt kk k=true) (hx:RepS M g w x e.val)
   (hl:RepEs M g w es ents):RepEs M g w ((k,x)::es) (e::ents)
theorem RepEs.mono {M:Maps} {g g':Gh} {w w':World} (hg:Grow g w g' w') (hn:g.n<=g'.n) (hφ:∀id,id<g.n->g'.Φ id=g.Φ id) :
  ∀{es:List (D × V)} {ents:List Go.MapEntry},RepEs M g w es ents->RepEs M g' w' es ents
 | _,_,.nil=>.nil
 | _,_,.cons k x e es ents hk hgk hx hl=>.cons k x e es ents (hk.mono hg.pub hg.cell) hgk (hx.mono hg hn hφ hx.ref) (RepEs.mono hg hn hφ hl)
theorem RepEs.length {M:Maps} {g:Gh} {w:World}:∀{es:List (D × V)} {ents:List Go.MapEntry},RepEs M g w es ents->es.length=ents.length
 | _,_,.nil=>rfl
 | _,_,.cons _ _ _ _ _ _ _ _ hl=>by simp [RepEs.length hl]
inductive RepO (M:Maps) (g:Gh) (w:World) (id:Nat):Obj->Prop
 | cells (cs:List V) (arr:Array Value) (T:TypeId) (fz:Nat × Nat) (hb:w.heap[g.φ id]?=some (.cells arr T fz)) (hz:∀j,j<cs.length->(decide (fz.1<=j) && decide (j<fz.2))=false) (ho:g.own (g.φ id)=some (.oblk id)) (hp:g.pub (g.φ id)=0) (hl:cs.length<=arr.size)
   (hr:∀(i:Nat) x v,cs[i]?=some x->arr[i]?=some v->RepC M g w (.ocell id i) x v):RepO M g w id (.cells cs)
 | row (l:L) (cs:List V) (arr:Array Value) (T:TypeId) (hb:w.heap[g.φ id]?=some (.cells arr T (0,0))) (ho:g.own (g.φ id)=some (.oblk id)) (hp:g.pub (g.φ id)=0) (hl:cs.length<=arr.size) (hζ:g.ζ id<=arr.size)
   (hr:∀(i:Nat) x v,cs[i]?=some x->arr[i]?=some v->RepS M g w x v):RepO M g w id (.row l cs)
 | dead:RepO M g w id .dead
 | iter (id' last:Nat) (hb:w.heap[g.φ id]?=some (.mapIter (some (g.φ id')) last #[] last)) (ho:g.own (g.φ id)=some (.oblk id)) (hid:id'<g.n):RepO M g w id (.iter id')
 | map (es:List (D × V)) (ents:Array Go.MapEntry) (clock:Nat) (hb:w.heap[g.φ id]?=some (.map ents clock)) (ho:g.own (g.φ id)=some (.oblk id))
   (hr:RepEs M g w es ents.toList):RepO M g w id (.map es)
theorem RepO.rowCells {M:Maps} {g:Gh} {w:World} {id:Nat} {l:L} {cs:List V} (h:RepO M g w id (.row l cs)):RepO M g w id (.cells cs):=by
 cases h with
 | row _ _ arr T hb ho hp hl hζ hr=>exact .cells cs arr T (0,0) hb (fun j _=>by simp) ho hp hl (fun i x v hx hv=>.s (hr i x v hx hv))
def qNr (M:Maps) (g:Gh) (w:World):Prop:=∀n x,look M.gl n=some x->
 ∃vs,RepDL g.pub w x.cells vs/\(∀(j:Nat) v,vs[j]?=some v->w.cell? ⟨n,0+j,none⟩=some v)/\0+vs.length<=g.pub n
def qE1 (M:Maps) (g:Gh) (w:World):Prop:=∀n,n ∈ M.gi->(∃ev,w.cell? ⟨n,0,none⟩=some ev/\(ev=.nilIface\/∃te pe,ev=.iface te pe))/\0<g.pub n
def GlOk (M:Maps) (g:Gh) (w:World):Prop:=qNr M g w/\qE1 M g w
theorem GlOk.mono {M:Maps} {g g':Gh} {w w':World} (h:GlOk M g w) (hg:Grow g w g' w'):GlOk M g' w':=⟨fun n x hn=>by
 obtain ⟨vs,h1,h2,h3⟩:=h.1 n x hn
 refine ⟨vs,h1.mono hg.pub hg.cell,fun j v hj=>?_,Nat.le_trans h3 (hg.pub n)⟩
 have hlt:j<vs.length:=(List.getElem?_eq_some_iff.1 hj).1
 rw [hg.cell n (0+j) (by omega)]
 exact h2 j v hj,fun n hn=>by
 obtain ⟨⟨ev,h1,h2⟩,h3⟩:=h.2 n hn
 refine ⟨⟨ev,?_,h2⟩,Nat.lt_of_lt_of_le h3 (hg.pub n)⟩
 rw [hg.cell n 0 h3]
 exact h1⟩
structure Rel (M:Maps) (g:Gh) (w:World) (β:Nat->Nat) (st:St) (tmps:Array Value):Prop where
 n:g.n=st.H.length
 e:∀k,RepT M g w β k (get k st.env) (tmps.getD k Go.undef)
 h:∀id o,st.H[id]?=some o->RepO M g w id o
 fresh:∀b,w.heap.size<=b->g.own b=none/\g.pub b=0
 gl:GlOk M g w
structure Evo (g:Gh) (w:World) (g':Gh) (w':World):Prop extends Grow g w g' w' where
 n:g.n<=g'.n
 φ:∀id,id<g.n->g'.Φ id=g.Φ id
 keep:∀b,b<w.heap.size->g.own b=none\/g.own b=some .out->g'.own b=g.own b/\w'.heap[b]?=w.heap[b]?/\g'.pub b=g.pub b
 io:w'.os=w.os/\w'.output=w.output
theorem Evo.refl (g:Gh) (w:World):Evo g w g w:=⟨Grow.refl g w,qOB _,fun _ _=>rfl,fun _ _ _=>⟨rfl,rfl,rfl⟩,⟨rfl,rfl⟩⟩
theorem Evo.trans {g g' g'':Gh} {w w' w'':World} (h:Evo g w g' w') (h':Evo g' w' g'' w''):Evo g w g'' w'':=
 ⟨h.toGrow.trans h'.toGrow,Nat.le_trans h.n h'.n,fun id hi=>(h'.φ id (Nat.lt_of_lt_of_le hi h.n)).trans (h.φ id hi),fun b hb ho=>by
  obtain ⟨h1,h2,h3⟩:=h.keep b hb ho
  obtain ⟨k1,k2,k3⟩:=h'.keep b (Nat.lt_of_lt_of_le hb h.size) (h1▸ho)
  exact ⟨k1.trans h1,k2.trans h2,k3.trans h3⟩,h'.io.1.trans h.io.1,h'.io.2.trans h.io.2⟩
structure Kept (g:Gh) (w:World) (g':Gh) (w':World) (ℓ:Loc):Prop where
 k:∀b,g.own b=some ℓ->g'.own b=some ℓ/\w'.heap[b]?=w.heap[b]?/\g'.pub b=g.pub b
theorem Kept.refl (g:Gh) (w:World) (ℓ:Loc):Kept g w g w ℓ:=⟨fun _ h=>⟨h,rfl,rfl⟩⟩
theorem qrz {w w':World} {b:Nat} (h:w'.heap[b]?=w.heap[b]?) (o:Nat):w'.frozen? ⟨b,o,none⟩=w.frozen? ⟨b,o,none⟩:=by
 simp only [World.frozen?,h]
theorem zu {w w':World} {b:Nat} (h:w'.heap[b]?=w.heap[b]?) (o:Nat):w'.cell? ⟨b,o,none⟩=w.cell? ⟨b,o,none⟩:=by
 simp only [World.cell?,h]
theorem OwnSl.mono {g g':Gh} {w w':World} (hg:Grow g w g' w') {ℓ:Loc} (hk:Kept g w g' w' ℓ) {xs:List D} {c:Value} (h:OwnSl g w ℓ xs c):OwnSl g' w' ℓ xs c:=by
 cases h with
 | mk b off cap sz vs arr T fz hne hsz hr hc hp hcap hone ho hb ha hf=>
  obtain ⟨h1,h2,h3⟩:=hk.k b ho
  exact .mk xs b off cap sz vs arr T fz hne hsz (hr.mono hg.pub hg.cell) (fun j v hj=>by rw [zu h2];exact hc j v hj) (h3.trans hp) hcap hone h1 (h2.trans hb) ha
   (fun o h0 h1=>by rw [qrz h2];exact hf o h0 h1)
 | full ad h=>exact .full xs ad (h.mono hg.pub hg.cell)
theorem OwnSl.rep {g:Gh} {w:World} {ℓ:Loc} {xs:List D} {c:Value} (h:OwnSl g w ℓ xs c):RepD g.pub w (.sl xs) c:=by
 cases h with
 | mk b off cap sz vs arr T fz hne hsz hr hc hp hcap hone ho hb ha hf=>exact .sl xs b off cap sz vs hne hsz hr hc (by omega) hcap hone
 | full ad h=>exact h
theorem RepC.mono {M:Maps} {g g':Gh} {w w':World} (hg:Grow g w g' w') (hn:g.n<=g'.n) (hφ:∀id,id<g.n->g'.Φ id=g.Φ id) {ℓ:Loc} (hk:Kept g w g' w' ℓ) {v:V} {c:Value}
  (h:RepC M g w ℓ v c):RepC M g' w' ℓ v c:=by
 cases h with
 | s h=>exact .s (h.mono hg hn hφ h.ref)
 | osl h=>exact .osl (h.mono hg hk)
theorem RepT.mono {M:Maps} {g g':Gh} {w w':World} (hg:Grow g w g' w') (hn:g.n<=g'.n) (hφ:∀id,id<g.n->g'.Φ id=g.Φ id) {β:Nat->Nat} {k:Nat}
  (h1:Kept g w g' w' (.slot k)) (h2:Kept g w g' w' (.bblk k)) (h3:∀i,Kept g w g' w' (.bcell k i)) {v:V} {c:Value} (h:RepT M g w β k v c):RepT M g' w' β k v c:=by
 cases h with
 | s h=>exact .s (h.mono hg hn hφ h.ref)
 | osl h=>exact .osl (h.mono hg h1)
 | lp s off=>exact .lp s off
 | cp x b off vs hr hc hp=>
  refine .cp x b off vs (hr.mono hg.pub hg.cell) (fun j v hj=>?_) (Nat.le_trans hp (hg.pub b))
  have hlt:j<vs.length:=(List.getElem?_eq_some_iff.1 hj).1
  rw [hg.cell b (off+j) (by omega)]
  exact hc j v hj
 | box cs arr T hb ho hp hl hr=>
  obtain ⟨k1,k2,k3⟩:=h2.k _ ho
  exact .box cs arr T (k2.trans hb) k1 (k3.trans hp) hl (fun i x v hx hv=>(hr i x v hx hv).mono hg hn hφ (h3 i))
theorem RepO.mono {M:Maps} {g g':Gh} {w w':World} (hg:Grow g w g' w') (hn:g.n<=g'.n) (hφ:∀id,id<g.n->g'.Φ id=g.Φ id) {id:Nat} (hid:id<g.n)
  (h1:Kept g w g' w' (.oblk id)) (h3:∀i,Kept g w g' w' (.ocell id i)) {o:Obj} (h:RepO M g w id o):RepO M g' w' id o:=by
 have e:=Gh.φ_eq (hφ id hid)
 cases h with
 | cells cs arr T fz hb hz ho hp hl hr=>
  obtain ⟨k1,k2,k3⟩:=h1.k _ ho
  exact .cells cs arr T fz (by rw [e];exact k2.trans hb) hz (by rw [e];exact k1) (by rw [e];exact k3.trans hp) hl (fun i x v hx hv=>(hr i x v hx hv).mono hg hn hφ (h3 i))
 | row l cs arr T hb ho hp hl hζ hr=>
  obtain ⟨k1,k2,k3⟩:=h1.k _ ho
  exact .row l cs arr T (by rw [e];exact k2.trans hb) (by rw [e];exact k1) (by rw [e];exact k3.trans hp) hl (by rw [Gh.ζ_eq (hφ id hid)];exact hζ) (fun i x v hx hv=>(hr i x v hx hv).mono hg hn hφ (hr i x v hx hv).ref)
 | dead=>exact .dead
 | iter id' last hb ho hi'=>
  obtain ⟨k1,k2,k3⟩:=h1.k _ ho
  exact .iter id' last (by rw [e,Gh.φ_eq (hφ id' hi')];exact k2.trans hb) (by rw [e];exact k1) (by omega)
 | map es ents clock hb ho hr=>
  obtain ⟨k1,k2,k3⟩:=h1.k _ ho
  exact .map es ents clock (by rw [e];exact k2.trans hb) (by rw [e];exact k1) (hr.mono hg hn hφ)
theorem qc (k n:Nat) (v:V) (e:Env):get k ((n,v)::e)=if k=n then v else get k e:=by
 simp only [get]
 by_cases h:k=n
 ·subst h;simp
 ·have:qOC k n=false:=by rw [Bool.eq_false_iff];intro hb;exact h (qOz hb)
  simp [this,h]
theorem qvh (tmps:Array Value) (n k:Nat) (c:Value) (hn:n<tmps.size):(tmps.setIfInBounds n c).getD k Go.undef=if k=n then c else tmps.getD k Go.undef:=by
 by_cases h:k=n
 ·subst h;simp [hn]
 ·have h':n≠k:=fun e=>h e.symm
  simp [Array.getD_eq_getD_getElem?,Array.getElem?_setIfInBounds_ne h',h]
theorem Rel.lay {M:Maps} {g:Gh} {w:World} {β:Nat->Nat} {st:St} {tmps:Array Value} (h:Rel M g w β st tmps) {n:Nat} (hn:n<tmps.size) {v:V} {c:Value} (hv:RepT M g w β n v c) :
  Rel M g w β {st with env:=(n,v)::st.env} (tmps.setIfInBounds n c):=
 ⟨h.n,fun k=>by
  show RepT M g w β k (get k ((n,v)::st.env)) _
  rw [qc,qvh _ _ _ _ hn]
  split
  ·rename_i e;subst e;exact hv
  ·exact h.e k,h.h,h.fresh,h.gl⟩
theorem Rel.drop {M:Maps} {g:Gh} {w:World} {β:Nat->Nat} {st:St} {tmps:Array Value} (h:Rel M g w β st tmps) (n:Nat) :
  Rel M g w β {st with env:=(n,.undef)::st.env} tmps:=
 ⟨h.n,fun k=>by
  show RepT M g w β k (get k ((n,.undef)::st.env)) _
  rw [qc]
  split
  ·exact .s (.undef _)
  ·exact h.e k,h.h,h.fresh,h.gl⟩
theorem Rel.spent {M:Maps} {g:Gh} {w:World} {β:Nat->Nat} {st:St} {tmps:Array Value} (h:Rel M g w β st tmps) (o:O) :
  Rel M g w β {st with env:=W.spent o st.env} tmps:=by
 cases o<;>first|exact h|exact h.drop _
theorem Rel.spentAll {M:Maps} {g:Gh} {w:World} {β:Nat->Nat} {tmps:Array Value}:∀(os:List O) {st:St},Rel M g w β st tmps->
  Rel M g w β {st with env:=W.spentAll os st.env} tmps
 | [],_,h=>h
 | o::l,_,h=>Rel.spentAll l (h.spent o)
structure SameMem (w w':World):Prop where
 heap:w'.heap=w.heap
 io:w'.os=w.os/\w'.output=w.output
theorem SameMem.refl (w:World):SameMem w w:=⟨rfl,rfl,rfl⟩
theorem SameMem.grow {w w':World} (h:SameMem w w') (g:Gh):Grow g w g w':=
 ⟨by rw [h.heap];exact qOB _,fun _=>qOB _,fun b o _=>by simp only [World.cell?,h.heap]⟩
theorem SameMem.kept {w w':World} (h:SameMem w w') (g:Gh) (ℓ:Loc):Kept g w g w' ℓ:=⟨fun b hb=>⟨hb,by rw [h.heap],rfl⟩⟩
theorem SameMem.evo {w w':World} (h:SameMem w w') (g:Gh):Evo g w g w':=⟨h.grow g,qOB _,fun _ _=>rfl,fun b _ _=>⟨rfl,by rw [h.heap],rfl⟩,h.io⟩
theorem Rel.sameMem {M:Maps} {g:Gh} {w w':World} {β:Nat->Nat} {st:St} {tmps:Array Value} (hs:SameMem w w') (h:Rel M g w β st tmps):Rel M g w' β st tmps:=
 ⟨h.n,fun k=>(h.e k).mono (hs.grow g) (qOB _) (fun _ _=>rfl) (hs.kept g _) (hs.kept g _) (fun _=>hs.kept g _),
  fun id o ho=>(h.h id o ho).mono (hs.grow g) (qOB _) (fun _ _=>rfl) (by rw [h.n];exact (List.getElem?_eq_some_iff.1 ho).1) (hs.kept g _) (fun _=>hs.kept g _),
  fun b hb=>h.fresh b (by rw [<- hs.heap];exact hb),h.gl.mono (hs.grow g)⟩
end W
/-
  Operands: what is read stands for what the model reads.
-/
namespace W
open Go (World Value Addr IntKind Program TypeId FuncId Operand Act)
mutual
theorem zO (pub:Nat->Nat) (w:World):∀(v:Value) (x:D),toD v=some x->RepD pub w x v
 | .bool z,x,h=>by simp only [toD,Option.some.injEq] at h;subst h;exact .b z
 | .int k n,x,h=>by simp only [toD,Option.some.injEq] at h;subst h;exact .i k n
 | .string s,x,h=>by simp only [toD,Option.some.injEq] at h;subst h;exact .s _ s rfl
 | .pointer none,x,h=>by simp only [toD,Option.some.injEq] at h;subst h;exact .np
 | .pointer (some _),x,h=>by simp [toD] at h
 | .slice none 0 0,x,h=>by simp only [toD,Option.some.injEq] at h;subst h;exact .nil
 | .slice none (n+1) c,x,h=>by simp [toD] at h
 | .slice none 0 (c+1),x,h=>by simp [toD] at h
 | .slice (some _) n c,x,h=>by simp [toD] at h
 | .map none,x,h=>by simp only [toD,Option.some.injEq] at h;subst h;exact .nm
 | .map (some _),x,h=>by simp [toD] at h
 | .nilFunc,x,h=>by simp only [toD,Option.some.injEq] at h;subst h;exact .nf
 | .nilIface,x,h=>by simp only [toD,Option.some.injEq] at h;subst h;exact .ni
 | .agg cs,x,h=>by
   simp only [toD] at h
   cases hl:qxn cs.toList with
   | none=>simp [hl] at h
   | some l=>
    simp only [hl,Option.some.injEq] at h
    subst h
    exact .agg l cs (quw pub w cs.toList l hl)
 | .float _ _,x,h=>by simp [toD] at h
 | .complex _ _ _,x,h=>by simp [toD] at h
 | .chan _,x,h=>by simp [toD] at h
 | .func _ _ _,x,h=>by simp [toD] at h
 | .iface _ _,x,h=>by simp [toD] at h
 | .tuple _,x,h=>by simp [toD] at h
theorem quw (pub:Nat->Nat) (w:World):∀(l:List Value) (xs:List D),qxn l=some xs->RepDL pub w xs l
 | [],xs,h=>by simp only [qxn,Option.some.injEq] at h;subst h;exact .nil
 | v::l,xs,h=>by
   simp only [qxn] at h
   cases h1:toD v with
   | none=>simp [h1] at h
   | some x=>cases h2:qxn l with
    | none=>simp [h1,h2] at h
    | some r=>
     simp only [h1,h2,Option.some.injEq] at h
     subst h
     exact .cons x v r l (zO pub w v x h1) (quw pub w l r h2)
end
theorem qqP {M:Maps} {g:Gh} {w:World}:∀{cs:List V} {vs:List Value} {ds:List D},RepSL M g w cs vs->jQ cs=some ds->RepDL g.pub w ds vs
 | _,_,ds,.nil,h=>by simp only [jQ,Option.some.injEq] at h;subst h;exact .nil
 | _,_,ds,.cons x v l vs hx hl,h=>by
   cases hx with
   | d y c hy=>
    simp only [jQ] at h
    cases h2:jQ l with
    | none=>simp [h2] at h
    | some r=>
     simp only [h2,Option.some.injEq] at h
     subst h
     exact .cons y v r vs hy (qqP hl h2)
   | fsl ys ad hy=>
    simp only [jQ] at h
    cases h2:jQ l with
    | none=>simp [h2] at h
    | some r=>
     simp only [h2,Option.some.injEq] at h
     subst h
     exact .cons (.sl ys) _ r vs hy (qqP hl h2)
   | ptr|rs|row|map|fn|ifc|agg|tup|undef=>simp [jQ] at h
theorem qoL {M:Maps} {g:Gh} {w:World}:∀{cs:List V} {vs:List Value},RepSL M g w cs vs->cs.map zy=cs
 | _,_,.nil=>rfl
 | _,_,.cons x v l vs hx hl=>by
   have h1:zy x=x:=by cases hx<;>rfl
   simp [h1,qoL hl]
theorem qlX {M:Maps} {g:Gh} {w:World} {cs:List V} {vs:Array Value} (h:RepSL M g w cs vs.toList):RepS M g w (qfh cs) (.agg vs):=by
 unfold qfh
 cases hd:jQ cs with
 | some ds=>exact .d _ _ (.agg ds vs (qqP h hd))
 | none=>exact .agg cs vs h
theorem qn2 {M:Maps} {g:Gh} {w:World} {x:V} {v:Value} (h:RepS M g w x v):RepS M g w (copy x) v:=by
 cases h with
 | agg cs vs h=>simp only [copy];rw [qoL h];exact qlX h
 | d x _ h=>exact .d x _ h
 | fsl xs ad h=>exact .fsl xs ad h
 | ptr id off h=>exact .ptr id off h
 | rs id off len cap cap2 h hc hc2=>exact .rs id off len cap cap2 h hc hc2
 | row id sz len cap h hc hz=>exact .row id sz len cap h hc hz
 | map id h=>exact .map id h
 | fn f f' first cap fv cv h h1 h2=>exact .fn f f' first cap fv cv h h1 h2
 | ifc t t' x c h hx=>exact .ifc t t' x c h hx
 | tup cs vs h=>exact .tup cs vs h
 | undef=>exact .undef _
inductive RepV (M:Maps) (g:Gh) (w:World) (β:Nat->Nat):V->Value->Prop
 | s {v:V} {c:Value} (h:RepS M g w v c):RepV M g w β v c
 | lp (s off:Nat):RepV M g w β (.lp s off) (.pointer (some ⟨β s,off,none⟩))
 | cp (x:D) (b off:Nat) (vs:List Value) (hr:RepDL g.pub w x.cells vs) (hc:∀j v,vs[j]?=some v->w.cell? ⟨b,off+j,none⟩=some v)
   (hp:off+vs.length<=g.pub b):RepV M g w β (.cp x) (.pointer (some ⟨b,off,none⟩))
theorem RepV.at {M:Maps} {g:Gh} {w:World} {β:Nat->Nat} {v:V} {c:Value} (h:RepV M g w β v c) (k:Nat):RepT M g w β k v c:=by
 cases h with
 | s h=>exact .s h
 | lp s off=>exact .lp s off
 | cp x b off vs hr hc hp=>exact .cp x b off vs hr hc hp
theorem RepT.read {M:Maps} {g:Gh} {w:World} {β:Nat->Nat} {k:Nat} {v:V} {c:Value} (h:RepT M g w β k v c) :
  RepV M g w β (qgG k v) c:=by
 cases h with
 | s h=>
  cases h with
  | d x _ h=>exact .s (.d x _ h)
  | fsl xs ad h=>exact .s (.fsl xs ad h)
  | ptr id off h=>exact .s (.ptr id off h)
  | rs id off len cap cap2 h hc hc2=>exact .s (.rs id off len cap cap2 h hc hc2)
  | row id sz len cap h hc hz=>exact .s (.row id sz len cap h hc hz)
  | map id h=>exact .s (.map id h)
  | fn f f' first cap fv cv h h1 h2=>exact .s (.fn f f' first cap fv cv h h1 h2)
  | ifc t t' x c h hx=>exact .s (.ifc t t' x c h hx)
  | agg cs vs h=>exact .s (qn2 (.agg cs vs h))
  | tup cs vs h=>exact .s (.tup cs vs h)
  | undef=>exact .s (.undef _)
 | osl h=>exact .s (.d _ _ h.rep)
 | lp s off=>exact .lp s off
 | cp x b off vs hr hc hp=>exact .cp x b off vs hr hc hp
 | box cs arr T hb ho hp hl hr=>exact .lp k 0
theorem qf {M:Maps} {g:Gh} {w:World} {β:Nat->Nat} {st:St} {a:Act} (hR:Rel M g w β st a.tmps) {x:Operand} {o:O} (h:opnd M false x=some o) :
  RepV M g w β (rd st.env o) (a.eval x):=by
 cases x with
 | tmp t=>
  simp only [opnd,qOF,if_false,Option.some.injEq] at h
  subst h
  have:=(hR.e t).read
  exact this
 | const v=>
  simp only [opnd] at h
  cases hd:toD v with
  | none=>simp [hd] at h
  | some y=>
   simp only [hd,qOG,Option.some.injEq] at h
   subst h
   exact .s (.d y v (zO g.pub w v y hd))
 | func f=>
  simp only [opnd] at h
  cases hd:look M.fm f with
  | none=>simp [hd] at h
  | some y=>
   simp only [hd,qOG,Option.some.injEq] at h
   subst h
   exact .s (.fn y f [] [] #[] #[] hd .nil .nil)
 | global n=>
  simp only [opnd] at h
  cases hd:look M.gl n with
  | none=>simp [hd] at h
  | some y=>
   simp only [hd,qOG,Option.some.injEq] at h
   subst h
   obtain ⟨vs,h1,h2,h3⟩:=hR.gl.1 n y hd
   exact .cp y n 0 vs h1 h2 h3
inductive RepO' (M:Maps) (g:Gh) (w:World) (β:Nat->Nat):O->V->Value->Prop
 | v {o:O} {v:V} {c:Value} (h:RepV M g w β v c):RepO' M g w β o v c
 | own {n:Nat} {xs:List D} {c:Value} (h:OwnSl g w (.slot n) xs c):RepO' M g w β (.mv n) (.osl xs) c
theorem qgT {M:Maps} {g:Gh} {w:World} {β:Nat->Nat} {st:St} {a:Act} (hR:Rel M g w β st a.tmps) {m:Bool} {x:Operand} {o:O} (h:opnd M m x=some o) :
  RepO' M g w β o (rd st.env o) (a.eval x):=by
 cases m with
 | false=>exact .v (qf hR h)
 | true=>
  cases x with
  | tmp t=>
   simp only [opnd,if_true,Option.some.injEq] at h
   subst h
   have:=hR.e t
   show RepO' M g w β (.mv t) (qiA (get t st.env)) (a.tmps.getD t Go.undef)
   generalize get t st.env=v at this
   generalize a.tmps.getD t Go.undef=c at this
   cases this with
   | s h=>cases h<;>exact .v (.s (by constructor<;>assumption))
   | osl h=>exact .own h
   | lp s off=>exact .v (.lp s off)
   | cp x b off vs hr hc hp=>exact .v (.cp x b off vs hr hc hp)
   | box cs arr T hb ho hp hl hr=>exact .v (.s (.undef _))
  | const v=>exact .v (qf (x:=.const v) hR (by simpa [opnd] using h))
  | func f=>exact .v (qf (x:=.func f) hR (by simpa [opnd] using h))
  | global n=>exact .v (qf (x:=.global n) hR (by simpa [opnd] using h))
end W
/-
  Operations that change no object, one by one: what the model does is what the small semantics does.
-/
namespace W
open Go (World Value Addr IntKind Program TypeId FuncId Operand Act Oper Next Result Sem)
def Gh.setOwn (g:Gh) (b:Nat) (ℓ:Option Loc):Gh:={g with own:=fun x=>if x=b then ℓ else g.own x}
theorem qaN (g:Gh) (w:World) (b:Nat) (ℓ:Option Loc):Grow g w (g.setOwn b ℓ) w:=⟨qOB _,fun _=>qOB _,fun _ _ _=>rfl⟩
theorem zw {g:Gh} {w:World} {b:Nat} {ℓ₀:Loc} (ℓ:Option Loc) (hb:g.own b=some ℓ₀) {ℓ₁:Loc} (hne:ℓ₁≠ℓ₀):Kept g w (g.setOwn b ℓ) w ℓ₁:=
 ⟨fun x hx=>⟨by
  have:x≠b:=fun e=>by subst e;rw [hb] at hx;exact hne (Option.some.inj hx).symm
  simp [Gh.setOwn,this,hx],rfl,rfl⟩⟩
theorem qfi {g:Gh} {w:World} {b:Nat} {ℓ₀:Loc} (ℓ:Option Loc) (hb:g.own b=some ℓ₀) (h0:ℓ₀≠.out):Evo g w (g.setOwn b ℓ) w:=
 ⟨qaN g w b ℓ,qOB _,fun _ _=>rfl,fun x _ ho=>⟨by
  have:x≠b:=fun e=>by
   subst e;rw [hb] at ho
   rcases ho with h|h
   ·cases h
   ·exact h0 (Option.some.inj h)
  simp [Gh.setOwn,this],rfl,rfl⟩,⟨rfl,rfl⟩⟩
theorem Rel.reown {M:Maps} {g:Gh} {w:World} {β:Nat->Nat} {st:St} {tmps:Array Value} (h:Rel M g w β st tmps) {n b:Nat} (hn:get n st.env=.undef) (hb:g.own b=some (.slot n)) (hlt:b<w.heap.size)
  (ℓ:Option Loc):Rel M (g.setOwn b ℓ) w β st tmps:=by
 have hg:=qaN g w b ℓ
 refine ⟨h.n,fun k=>?_,fun id o ho=>?_,fun x hx=>?_,h.gl.mono hg⟩
 ·by_cases hk:k=n
  ·subst hk;rw [hn];exact .s (.undef _)
  ·exact (h.e k).mono hg (qOB _) (fun _ _=>rfl) (zw ℓ hb (by simp [hk])) (zw ℓ hb (by simp)) (fun i=>zw ℓ hb (by simp))
 ·exact (h.h id o ho).mono hg (qOB _) (fun _ _=>rfl) (by rw [h.n];exact (List.getElem?_eq_some_iff.1 ho).1) (zw ℓ hb (by simp)) (fun i=>zw ℓ hb (by simp))
 ·have:x≠b:=by omega
  simpa [Gh.setOwn,this] using h.fresh x hx
theorem OwnSl.setOwn {g:Gh} {w:World} {ℓ:Loc} {xs:List D} {c:Value} (h:OwnSl g w ℓ xs c) :
  (∃b,g.own b=some ℓ/\b<w.heap.size/\∀ℓ',OwnSl (g.setOwn b (some ℓ')) w ℓ' xs c)\/∀ℓ',OwnSl g w ℓ' xs c:=by
 cases h with
 | full ad h=>exact .inr fun ℓ'=>.full xs ad h
 | mk b off cap sz vs arr T fz hne hsz hr hc hp hcap hone ho hb ha hf=>
  exact .inl ⟨b,ho,(Array.getElem?_eq_some_iff.1 hb).1,fun ℓ'=>.mk xs b off cap sz vs arr T fz hne hsz hr hc hp hcap hone (by simp [Gh.setOwn]) hb ha hf⟩
inductive Yields (P:Program) (o:Oper) (a:Act) (w:World):Value->World->Prop
 | value {c:Value} {w':World} (h:(Go.execOp a.eval o).run P w=.ok (.value c) w'):Yields P o a w c w'
 | skip {w':World} (h:(Go.execOp a.eval o).run P w=.ok .skip w'):Yields P o a w Go.undef w'
theorem Yields.wp {P:Program} {o:Oper} {a:Act} {w:World} {c:Value} {w':World} (h:Yields P o a w c w') {next:Act->World->Prop} {Q:Go.Exit->Act->World->Prop} (hn:next (a.put o.dst c) w') :
  o.wp P a w next Q:=by
 unfold Oper.wp
 cases h with
 | value h=>rw [h];exact hn
 | skip h=>rw [h];exact hn
def Left1 (P:Program) (M:Maps) (g:Gh) (w:World) (o:Oper) (a:Act) (r:Or):Prop:=
 ∃c w' g' β',Yields P o a w c w'/\Rel M g' w' β' (put o.dst r.v r.st) (a.put o.dst c).tmps/\Evo g w g' w'
def qg (o:Oper) (a:Act):Prop:=∀n,o.dst=some n->n<a.tmps.size
theorem qL {v:V} (hv:∀cs,v≠.box cs) (dst:Option Nat) (st:St):put dst v st=match dst with|some n=>{st with env:=(n,v)::st.env}|none=>st:=by
 cases dst with
 | none=>rfl
 | some n=>cases v<;>first|rfl|(exact absurd rfl (hv _))
theorem RepV.notBox {M:Maps} {g:Gh} {w:World} {β:Nat->Nat} {v:V} {c:Value} (h:RepV M g w β v c):∀cs,v≠.box cs:=by
 intro cs e;subst e
 cases h with
 | s h=>cases h
theorem Act.put_tmps (a:Act) (dst:Option Nat) (c:Value):(a.put dst c).tmps=match dst with|some n=>a.tmps.setIfInBounds n c|none=>a.tmps:=by
 cases dst<;>rfl
theorem Rel.putV {M:Maps} {g:Gh} {w:World} {β:Nat->Nat} {st:St} {a:Act} {o:Oper} (hd:qg o a) (h:Rel M g w β st a.tmps) {v:V} {c:Value} (hv:RepV M g w β v c) :
  Rel M g w β (put o.dst v st) (a.put o.dst c).tmps:=by
 rw [qL hv.notBox,Act.put_tmps]
 cases hdst:o.dst with
 | none=>exact h
 | some n=>exact h.lay (hd n hdst) (hv.at n)
theorem Rel.putOwn {M:Maps} {g:Gh} {w:World} {β:Nat->Nat} {st:St} {a:Act} {o:Oper} (hd:qg o a) (h:Rel M g w β st a.tmps) {n:Nat} (hn:get n st.env=.undef) {xs:List D} {c:Value}
  (hv:OwnSl g w (.slot n) xs c):∃g',Rel M g' w β (put o.dst (.osl xs) st) (a.put o.dst c).tmps/\Evo g w g' w:=by
 rw [qL (by intro cs e;cases e),Act.put_tmps]
 cases hdst:o.dst with
 | none=>exact ⟨g,h,Evo.refl g w⟩
 | some d=>
  rcases hv.setOwn with ⟨b,hb,hlt,hv'⟩|hv'
  case inr=>exact ⟨g,h.lay (hd d hdst) (.osl (hv' _)),Evo.refl g w⟩
  exact ⟨g.setOwn b (some (.slot d)),(h.reown hn hb hlt (some (.slot d))).lay (hd d hdst) (.osl (hv' _)),qfi _ hb (by simp)⟩
theorem Rel.putFull {M:Maps} {g:Gh} {w:World} {β:Nat->Nat} {st:St} {a:Act} {o:Oper} (hd:qg o a) (h:Rel M g w β st a.tmps) {xs:List D} {c:Value}
  (hv:∀ℓ,OwnSl g w ℓ xs c):Rel M g w β (put o.dst (.osl xs) st) (a.put o.dst c).tmps:=by
 rw [qL (by intro cs e;cases e),Act.put_tmps]
 cases hdst:o.dst with
 | none=>exact h
 | some d=>exact h.lay (hd d hdst) (.osl (hv _))
theorem qsB {P:Program} {M:Maps} {g:Gh} {w:World} {β:Nat->Nat} {st:St} {o:Oper} {a:Act} (hd:qg o a) (hR:Rel M g w β st a.tmps) {xs:List D} {c:Value} (hv:∀ℓ,OwnSl g w ℓ xs c)
  (hrun:(Go.execOp a.eval o).run P w=.ok (.value c) w) {r:Or} (hr:ok (.osl xs) st=some r):Left1 P M g w o a r:=by
 simp only [ok,Option.some.injEq] at hr
 subst hr
 exact ⟨c,w,g,β,.value hrun,hR.putFull hd hv,Evo.refl g w⟩
theorem qb {P:Program} {M:Maps} {g:Gh} {w:World} {β:Nat->Nat} {st:St} {o:Oper} {a:Act} (hd:qg o a) (hR:Rel M g w β st a.tmps) {v:V} {c:Value} (hv:RepV M g w β v c)
  (hrun:(Go.execOp a.eval o).run P w=.ok (.value c) w) {r:Or} (hr:ok v st=some r):Left1 P M g w o a r:=by
 simp only [ok,Option.some.injEq] at hr
 subst hr
 exact ⟨c,w,g,β,.value hrun,hR.putV hd hv,Evo.refl g w⟩
theorem Rel.putRead {M:Maps} {g:Gh} {w:World} {β:Nat->Nat} {st:St} {a:Act} {o:Oper} (hd:qg o a) (h:Rel M g w β st a.tmps) {x:O} {v:V} {c:Value} (hv:RepO' M g w β x v c) :
  ∃g',Rel M g' w β (put o.dst v {st with env:=W.spent x st.env}) (a.put o.dst c).tmps/\Evo g w g' w:=by
 cases hv with
 | v hv=>exact ⟨g,(h.spent x).putV hd hv,Evo.refl g w⟩
 | own hv=>
  rename_i n xs
  exact (h.drop n).putOwn hd (by simp [qc]) hv
theorem qtl {P:Program} {M:Maps} {g:Gh} {w:World} {β:Nat->Nat} {st:St} {o:Oper} {a:Act} (hd:qg o a) (hR:Rel M g w β st a.tmps) {m:Bool} {x:Operand} {y:O} (hy:opnd M m x=some y)
  (ho:o.op=.move x\/o.op=.assign x) {r:Or} (hr:qrJ y st=some r):Left1 P M g w o a r:=by
 simp only [qrJ,ok,Option.some.injEq] at hr
 subst hr
 obtain ⟨g',h1,h2⟩:=hR.putRead hd (qgT hR hy)
 refine ⟨a.eval x,w,g',β,.value ?_,h1,h2⟩
 rcases ho with ho|ho<;>simp only [Go.execOp,ho]<;>rfl
end W
/-
  Operations on numbers, texts, bools, nil.
-/
namespace W
open Go (World Value Addr IntKind Program TypeId FuncId Operand Act Oper Next Result Sem BinOp UnOp)
theorem qkW (a b:Int):eqI a b=(a == b):=by
 cases a<;>cases b<;>simp only [eqI]
 ·rename_i a b
  rw [Bool.eq_iff_iff,Nat.beq_eq,beq_iff_eq];simp only [Int.ofNat_eq_natCast];omega
 ·rfl
 ·rfl
 ·rename_i a b
  rw [Bool.eq_iff_iff,Nat.beq_eq,beq_iff_eq];simp
theorem qmM (a b:Int):leI a b=decide (a<=b):=by
 cases a<;>cases b<;>simp only [leI]
 ·rename_i a b
  rw [Bool.eq_iff_iff,Nat.ble_eq,decide_eq_true_iff];simp
 ·rename_i a b
  rw [eq_comm,decide_eq_false_iff_not]
  have:=Int.negSucc_lt_zero b;simp only [Int.ofNat_eq_natCast];omega
 ·rename_i a b
  rw [eq_comm,decide_eq_true_iff]
  have:=Int.negSucc_lt_zero a;simp only [Int.ofNat_eq_natCast];omega
 ·rename_i a b
  rw [Bool.eq_iff_iff,Nat.ble_eq,decide_eq_true_iff]
  simp only [Int.negSucc_eq];omega
theorem qJ8 (a b:IntKind):eqK a b=(a == b):=by cases a<;>cases b<;>rfl
theorem qnu {a b:IntKind} (h:eqK a b=true):a=b:=by rw [qJ8] at h;exact beq_iff_eq.1 h
theorem qq7:∀(a b:List Nat),eqT a b=(a == b)
 | [],[]=>rfl
 | [],_::_=>rfl
 | _::_,[]=>rfl
 | a::x,b::y=>by
  simp only [eqT,qq7 x y]
  rw [List.cons_beq_cons]
  congr 1
  rw [Bool.eq_iff_iff,Nat.beq_eq,beq_iff_eq]
theorem qqh (k:IntKind) (n:Int):wr k n=k.wrap n:=by
 unfold wr
 cases n with
 | ofNat a=>
  simp only
  cases h:Nat.ble a (qqX k) with
  | false=>rfl
  | true=>
   simp only [cond_true]
   have ha:=qOH h
   cases k<;>simp only [qqX] at ha<;>simp only [IntKind.wrap,IntKind.bits,IntKind.signed]<;>simp<;>omega
 | negSucc a=>
  simp only
  cases h:qvs k a with
  | false=>rfl
  | true=>
   simp only [cond_true]
   cases k<;>simp only [qvs,qOF] at h<;>(have ha:=qOH h)<;>simp only [IntKind.wrap,IntKind.bits,IntKind.signed,Int.negSucc_eq]<;>simp<;>omega
theorem qm9 (a b:ByteArray):(a.data.toList.map (·.toNat) == b.data.toList.map (·.toNat))=(a.toList == b.toList):=by
 rw [Go.Lib.toList_data,Go.Lib.toList_data]
 have inj:∀(x y:List UInt8),x.map (·.toNat)=y.map (·.toNat)->x=y:=by
  intro x
  induction x with
  | nil=>intro y h;cases y<;>simp_all
  | cons a x ih=>
   intro y h
   cases y with
   | nil=>simp at h
   | cons b y=>
    simp only [List.map_cons,List.cons.injEq] at h
    rw [UInt8.toNat_inj.1 h.1,ih y h.2]
 rw [Bool.eq_iff_iff,beq_iff_eq,beq_iff_eq]
 exact ⟨inj _ _,fun h=>by rw [h]⟩
theorem qpu:∀(a b:List UInt8),qad (a.map (·.toNat)) (b.map (·.toNat))=Go.Op.bytesLess a b
 | _,[]=>by simp [qad,Go.Op.bytesLess]
 | [],_::_=>by simp [qad,Go.Op.bytesLess]
 | a::x,b::y=>by
  simp only [List.map_cons,qad,Go.Op.bytesLess,qpu x y]
  congr 1
  ·rw [Bool.eq_iff_iff,Nat.blt_eq,decide_eq_true_iff,UInt8.lt_iff_toNat_lt]
  ·congr 1
   rw [Bool.eq_iff_iff,Nat.beq_eq,beq_iff_eq,UInt8.toNat_inj]
theorem RepV.inv_d {M:Maps} {g:Gh} {w:World} {β:Nat->Nat} {x:D} {c:Value} (h:RepV M g w β (.d x) c):RepD g.pub w x c:=by
 cases h with
 | s h=>cases h with|d _ _ h=>exact h
theorem RepV.inv_ptr {M:Maps} {g:Gh} {w:World} {β:Nat->Nat} {id off:Nat} {c:Value} (h:RepV M g w β (.ptr id off) c):c=.pointer (some ⟨g.φ id,off,none⟩)/\id<g.n:=by
 cases h with
 | s h=>cases h with|ptr _ _ h=>exact ⟨rfl,h⟩
theorem RepV.inv_lp {M:Maps} {g:Gh} {w:World} {β:Nat->Nat} {s off:Nat} {c:Value} (h:RepV M g w β (.lp s off) c):c=.pointer (some ⟨β s,off,none⟩):=by
 cases h with
 | s h=>cases h
 | lp _ _=>rfl
theorem RepV.inv_cp {M:Maps} {g:Gh} {w:World} {β:Nat->Nat} {x:D} {c:Value} (h:RepV M g w β (.cp x) c) :
  ∃b off vs,c=.pointer (some ⟨b,off,none⟩)/\RepDL g.pub w x.cells vs/\(∀j v,vs[j]?=some v->w.cell? ⟨b,off+j,none⟩=some v)/\off+vs.length<=g.pub b:=by
 cases h with
 | s h=>cases h
 | cp _ b off vs hr hc hp=>exact ⟨b,off,vs,rfl,hr,hc,hp⟩
theorem qkJ {pub:Nat->Nat} {w:World} {z:Bool} {c:Value} (h:RepD pub w (.b z) c):c=.bool z:=by cases h;rfl
theorem jp {pub:Nat->Nat} {w:World} {k:IntKind} {n:Int} {c:Value} (h:RepD pub w (.i k n) c):c=.int k n:=by cases h;rfl
theorem qcm {pub:Nat->Nat} {w:World} {t:List Nat} {c:Value} (h:RepD pub w (.s t) c):∃x:ByteArray,c=.string x/\x.data.toList.map (·.toNat)=t:=by
 cases h with|s _ x h=>exact ⟨x,rfl,h⟩
section
variable {P:Program} {M:Maps} {g:Gh} {w:World} {β:Nat->Nat} {st:St} {o:Oper} {a:Act}
theorem qAY (hd:qg o a) (hR:Rel M g w β st a.tmps) {c x y:Operand} {c' x' y':O} (hc:opnd M false c=some c') (hx:opnd M false x=some x') (hy:opnd M false y=some y')
  (ho:o.op=.pick c x y) {r:Or} (hr:qfK c' x' y' st=some r):Left1 P M g w o a r:=by
 have h1:=qf hR hc
 unfold qfK at hr
 split at hr
 ·rename_i z hz
  rw [hz] at h1
  have e1:=qkJ h1.inv_d
  cases z
  ·exact qb hd hR (qf hR hy) (by simp [Go.execOp,ho,e1,Go.asBool]) (by simpa using hr)
  ·exact qb hd hR (qf hR hx) (by simp [Go.execOp,ho,e1,Go.asBool]) (by simpa using hr)
 ·cases hr
theorem qtR (hd:qg o a) (hR:Rel M g w β st a.tmps) {x:Operand} {x':O} (hx:opnd M false x=some x')
  (ho:o.op=.nilCheck x) {r:Or} (hr:kS x' st=some r):Left1 P M g w o a r:=by
 have h1:=qf hR hx
 unfold kS at hr
 split at hr
 ·rename_i id off hz
  rw [hz] at h1
  exact qb hd hR h1 (by simp [Go.execOp,ho,h1.inv_ptr.1]) hr
 ·rename_i s off hz
  rw [hz] at h1
  exact qb hd hR h1 (by simp [Go.execOp,ho,h1.inv_lp]) hr
 ·rename_i y hz
  rw [hz] at h1
  obtain ⟨b,off,vs,e,_⟩:=h1.inv_cp
  exact qb hd hR h1 (by simp [Go.execOp,ho,e]) hr
 ·cases hr
theorem qKz (hd:qg o a) (hR:Rel M g w β st a.tmps) {op:UnOp} {t:TypeId} {x:Operand} {x':O} (hx:opnd M false x=some x')
  (ho:o.op=.unOp op t x) {r:Or} (hr:eUn op x' st=some r):Left1 P M g w o a r:=by
 have h1:=qf hR hx
 unfold eUn at hr
 split at hr
 ·rename_i y hz
  rw [hz] at h1
  split at hr
  ·rename_i z hz2
   have h3:=h1.inv_d
   unfold unD at hz2
   split at hz2
   ·rename_i k n
    have e1:=jp h3
    split at hz2
    ·simp only [Option.some.injEq] at hz2
     subst hz2
     exact qb hd hR (.s (.d _ _ (.i k _))) (by simp [Go.execOp,ho,e1,Go.Op.unary,Go.Op.intArith,qqh]) hr
    ·simp only [qen,qOG,Option.some.injEq] at hz2
     subst hz2
     exact qb hd hR (.s (.d _ _ (.i k _))) (by simp [Go.execOp,ho,e1,Go.Op.unary,Go.Op.intBits]) hr
    ·cases hz2
   ·rename_i z
    have e1:=qkJ h3
    split at hz2
    ·simp only [Option.some.injEq] at hz2
     subst hz2
     exact qb hd hR (.s (.d _ _ (.b _))) (by simp [Go.execOp,ho,e1,Go.Op.unary]) hr
    ·cases hz2
   ·cases hz2
  ·cases hr
 ·cases hr
theorem qC2 (hd:qg o a) (hR:Rel M g w β st a.tmps) {s t:TypeId} {ks k:IntKind} {x:Operand} {x':O} (hx:opnd M false x=some x') (hs:P.underlying s=some (.int ks)) (ht:P.underlying t=some (.int k))
  (ho:o.op=.convert s t x) {r:Or} (hr:qiR k x' st=some r):Left1 P M g w o a r:=by
 have h1:=qf hR hx
 unfold qiR at hr
 split at hr
 ·rename_i k' n hz
  rw [hz] at h1
  have e1:=jp h1.inv_d
  exact qb hd hR (.s (.d _ _ (.i k _))) (by simp [Go.execOp,ho,e1,Go.convert,Go.run_underlying hs,Go.run_underlying ht,Go.Conv.intToInt,qqh]) hr
 ·cases hr
theorem qy5 (hd:qg o a) (hR:Rel M g w β st a.tmps) {s t:TypeId} {x:Operand} {x':O} (hx:opnd M false x=some x') (hs:P.underlying s=some .string) (ht:P.underlying t=some .string)
  (ho:o.op=.convert s t x) {r:Or} (hr:qoo x' st=some r):Left1 P M g w o a r:=by
 have h1:=qf hR hx
 unfold qoo at hr
 split at hr
 ·rename_i y hz
  rw [hz] at h1
  obtain ⟨z,e1,_⟩:=qcm h1.inv_d
  exact qb hd hR h1 (by simp [Go.execOp,ho,e1,Go.convert,Go.run_underlying hs,Go.run_underlying ht]) hr
 ·cases hr
end
end W
/-
  Two operands: numbers, texts, equality.
-/
namespace W
open Go (World Value Addr IntKind Program TypeId FuncId Operand Act Oper Next Result Sem BinOp UnOp)
theorem qj0 {P:Program} {w:World} (op:BinOp) (t:TypeId) (x y:Operand) (k k':IntKind) (a b:Int):(Go.eqGuard op t x y (.int k a) (.int k' b)).run P w=.ok () w:=by
 cases op<;>simp [Go.eqGuard]
theorem qpN {P:Program} {w:World} (op:BinOp) (t:TypeId) (x y:Operand) (a b:ByteArray):(Go.eqGuard op t x y (.string a) (.string b)).run P w=.ok () w:=by
 cases op<;>simp [Go.eqGuard]
theorem qoW {P:Program} {w:World} (op:BinOp) (t:TypeId) (x y:Operand) (a b:Bool):(Go.eqGuard op t x y (.bool a) (.bool b)).run P w=.ok () w:=by
 cases op<;>simp [Go.eqGuard]
theorem qxD {P:Program} {w:World} {op:BinOp} {t:TypeId} {k:IntKind} {a b:Int} {z:D} (hs:qea op=false) (h:qjb op k a b=some z) {pub:Nat->Nat} :
  ∃c,(Go.binOp op t (.int k a) (.int k b)).run P w=.ok c w/\RepD pub w z c:=by
 have nz:eqI b 0=false->b≠0:=fun hb=>by rw [qkW,beq_eq_false_iff_ne] at hb;exact hb
 have lt1:(!leI b a)=decide (a<b):=by rw [qmM,<- decide_not];congr 1;exact propext Int.not_le
 have lt2:(!leI a b)=decide (a>b):=by rw [qmM,<- decide_not];congr 1;exact propext Int.not_le
 cases op<;>simp only [qea,Bool.true_eq_false,reduceCtorEq] at hs<;>simp only [qjb,qen,Option.some.injEq,qOG,reduceCtorEq,Option.map_none] at h
 case add=>subst h;exact ⟨.int k (k.wrap (a+b)),by simp [Go.binOp,Go.Op.intArith],by rw [qqh];exact .i _ _⟩
 case sub=>subst h;exact ⟨.int k (k.wrap (a - b)),by simp [Go.binOp,Go.Op.intArith],by rw [qqh];exact .i _ _⟩
 case mul=>subst h;exact ⟨.int k (k.wrap (a * b)),by simp [Go.binOp,Go.Op.intArith],by rw [qqh];exact .i _ _⟩
 case quo=>
  cases hb:eqI b 0 with
  | true=>simp [hb] at h
  | false=>
   simp only [hb,cond_false,Option.some.injEq] at h
   subst h
   exact ⟨.int k (k.wrap (a.tdiv b)),by simp [Go.binOp,Go.Op.intDiv,nz hb],by rw [qqh];exact .i _ _⟩
 case rem=>
  cases hb:eqI b 0 with
  | true=>simp [hb] at h
  | false=>
   simp only [hb,cond_false,Option.some.injEq] at h
   subst h
   exact ⟨.int k (a.tmod b),by simp [Go.binOp,Go.Op.intDiv,nz hb],.i _ _⟩
 case and=>subst h;exact ⟨_,by simp only [Go.binOp,ne_eq,not_true_eq_false,if_false,Go.Op.intBits];rfl,.i _ _⟩
 case or=>subst h;exact ⟨_,by simp only [Go.binOp,ne_eq,not_true_eq_false,if_false,Go.Op.intBits];rfl,.i _ _⟩
 case xor=>subst h;exact ⟨_,by simp only [Go.binOp,ne_eq,not_true_eq_false,if_false,Go.Op.intBits];rfl,.i _ _⟩
 case andNot=>subst h;exact ⟨_,by simp only [Go.binOp,ne_eq,not_true_eq_false,if_false,Go.Op.intBits];rfl,.i _ _⟩
 case eql=>subst h;exact ⟨.bool (a == b),by simp [Go.binOp,Go.Op.intCmp],by rw [qkW];exact .b _⟩
 case neq=>subst h;exact ⟨.bool (a != b),by simp [Go.binOp,Go.Op.intCmp],by rw [qkW];exact .b _⟩
 case lss=>subst h;exact ⟨.bool (decide (a<b)),by simp [Go.binOp,Go.Op.intCmp],by rw [lt1];exact .b _⟩
 case leq=>subst h;exact ⟨.bool (decide (a<=b)),by simp [Go.binOp,Go.Op.intCmp],by rw [qmM];exact .b _⟩
 case gtr=>subst h;exact ⟨.bool (decide (a>b)),by simp [Go.binOp,Go.Op.intCmp],by rw [lt2];exact .b _⟩
 case geq=>subst h;exact ⟨.bool (decide (a>=b)),by simp [Go.binOp,Go.Op.intCmp],by rw [qmM];exact .b _⟩
theorem qzl {P:Program} {w:World} {op:BinOp} {t:TypeId} {k k':IntKind} {a b:Int} {z:D} (hs:qea op=true) (h:qny op k a b=some z) {pub:Nat->Nat} :
  ∃c,(Go.binOp op t (.int k a) (.int k' b)).run P w=.ok c w/\RepD pub w z c:=by
 unfold qny at h
 cases hb:leI 0 b with
 | false=>simp [hb] at h
 | true=>
  have h0:¬b<0:=by rw [qmM,decide_eq_true_iff] at hb;omega
  simp only [hb,Bool.not_true,cond_false] at h
  cases op<;>simp only [qea,qOF] at hs<;>simp only [Option.some.injEq] at h<;>subst h
  ·exact ⟨.int k (k.wrap (a * 2 ^ (min b.toNat k.bits))),by simp [Go.binOp,Go.Op.shift,h0],by rw [qqh];exact .i _ _⟩
  ·exact ⟨.int k (a.fdiv (2 ^ (min b.toNat k.bits))),by simp [Go.binOp,Go.Op.shift,h0],.i _ _⟩
theorem qvI {P:Program} {w:World} {op:BinOp} {t:TypeId} {x y:ByteArray} {z:D} (h:qnU op (x.data.toList.map (·.toNat)) (y.data.toList.map (·.toNat))=some z) {pub:Nat->Nat} :
  ∃c,(Go.binOp op t (.string x) (.string y)).run P w=.ok c w/\RepD pub w z c:=by
 have e1:∀a b:ByteArray,eqT (a.data.toList.map (·.toNat)) (b.data.toList.map (·.toNat))=(a.toList == b.toList):=fun a b=>by rw [qq7,qm9]
 have e2:∀a b:ByteArray,qad (a.data.toList.map (·.toNat)) (b.data.toList.map (·.toNat))=Go.Op.bytesLess a.toList b.toList:=fun a b=>by
  rw [qpu,Go.Lib.toList_data,Go.Lib.toList_data]
 cases op<;>simp only [qnU,reduceCtorEq,Option.some.injEq,e1,e2] at h
 case add=>
  split at h
  ·rename_i hl
   simp only [Option.some.injEq] at h
   subst h
   simp only [List.length_map] at hl
   have hsz:¬((((x.size+y.size:Nat):Int))>IntKind.i64.max):=by
    have e:IntKind.i64.max=9223372036854775807:=rfl
    rw [e]
    have a1:x.data.toList.length=x.size:=by rw [Array.length_toList];rfl
    have a2:y.data.toList.length=y.size:=by rw [Array.length_toList];rfl
    omega
   refine ⟨.string (x++y),?_,.s _ _ ?_⟩
   ·simp only [Go.binOp,Go.Op.stringOp,if_neg hsz,Sem.run_pure]
   ·simp
  ·cases h
 case eql=>subst h;exact ⟨.bool (x.toList == y.toList),by simp [Go.binOp,Go.Op.stringOp],.b _⟩
 case neq=>subst h;exact ⟨.bool (!(x.toList == y.toList)),by simp [Go.binOp,Go.Op.stringOp],.b _⟩
 case lss=>subst h;exact ⟨.bool (Go.Op.bytesLess x.toList y.toList),by simp [Go.binOp,Go.Op.stringOp],.b _⟩
 case leq=>subst h;exact ⟨.bool (Go.Op.bytesLess x.toList y.toList || x.toList == y.toList),by simp [Go.binOp,Go.Op.stringOp],.b _⟩
 case gtr=>subst h;exact ⟨.bool (!(Go.Op.bytesLess x.toList y.toList || x.toList == y.toList)),by simp [Go.binOp,Go.Op.stringOp],.b _⟩
 case geq=>subst h;exact ⟨.bool (!Go.Op.bytesLess x.toList y.toList),by simp [Go.binOp,Go.Op.stringOp],.b _⟩
theorem qcs {P:Program} {t:TypeId} {d:Go.TypeDesc} (h:P.underlying t=some d) (w:World):(Go.isAgg t).run P w=.ok (qnn d) w:=by
 unfold Go.isAgg
 rw [Sem.run_bind,Go.run_underlying h]
 cases d<;>rfl
theorem qem {P:Program} {w:World} {d:Nat}:∀{fs:List Go.Field} {i:Nat} {ks:List Nat} {l r:List D} {xs ys:Array Value} {z:Bool} {pub:Nat->Nat},
  qfE P i fs=some ks->RepDL pub w l (xs.toList.drop i)->RepDL pub w r (ys.toList.drop i)->D.scalarSame ks l r=some z->
  (Go.Op.eqFields (d+1) xs ys fs).run P w=.ok z w
 | [],i,ks,l,r,xs,ys,z,pub,hk,hl,hr,hz=>by
  simp only [qfE,Option.some.injEq] at hk
  subst hk
  cases l<;>cases r<;>simp [D.scalarSame] at hz
  subst hz
  simp [Go.Op.eqFields]
 | f::fs,i,ks,l,r,xs,ys,z,pub,hk,hl,hr,hz=>by
  simp only [qfE] at hk
  split at hk
  ·rename_i hf
   simp only [qOy,bne_iff_ne,ne_eq,beq_iff_eq] at hf
   obtain ⟨hn,hoff⟩:=hf
   have cell:∀{m:List D} {vs:Array Value},RepDL pub w m (vs.toList.drop i)->∀{x:D} {m':List D},m=x::m'->∃c,vs[i]?=some c/\RepD pub w x c/\RepDL pub w m' (vs.toList.drop (i+1)):=by
    intro m vs hm x m' e
    subst e
    generalize hdr:vs.toList.drop i=dv at hm
    cases hm with
    | cons _ c _ vs' hx hl'=>
     have h0:(vs.toList.drop i)[0]?=some c:=by rw [hdr];rfl
     refine ⟨c,by simpa using h0,hx,?_⟩
     have:vs.toList.drop (i+1)=vs':=by
      have:=congrArg List.tail hdr
      rw [List.tail_drop] at this
      simpa using this
     rw [this];exact hl'
   have part1:∀{vs:Array Value} {c:Value},vs[i]?=some c->∀{dd:Go.TypeDesc},P.underlying f.type=some dd->qnn dd=false->(Go.part f.type vs f.offset).run P w=.ok c w:=by
    intro vs c hc dd hu hd
    rw [hoff]
    simp only [Go.part,Sem.run_bind,qcs hu w,hd,Result.andThen_ok,qOF,if_false,hc,Sem.run_pure]
   split at hk
   ·rename_i rest hu hl' hrest
    simp only [Option.some.injEq] at hk
    subst hk
    match l,r,hz with
    | .b x::l,.b y::r,hz=>
     simp only [D.scalarSame] at hz
     split at hz
     ·rename_i z' hz'
      simp only [Option.some.injEq] at hz
      subst hz
      obtain ⟨c1,h1,r1,t1⟩:=cell hl rfl
      obtain ⟨c2,h2,r2,t2⟩:=cell hr rfl
      have e1:=qkJ r1;have e2:=qkJ r2
      subst e1;subst e2
      simp only [Go.Op.eqFields,ne_eq,hn,not_false_eq_true,if_true,Sem.run_bind,part1 h1 hu rfl,part1 h2 hu rfl,Result.andThen_ok,Go.run_equalIn_bool' w d f.type x y hu]
      cases hxy:(x == y)
      ·simp
      ·simpa using qem hrest t1 t2 hz'
     ·cases hz
   ·rename_i rest kk hu hl' hrest
    simp only [Option.some.injEq] at hk
    subst hk
    match l,r,hz with
    | .i k x::l,.i k' y::r,hz=>
     simp only [D.scalarSame] at hz
     cases hkk:eqK k k' with
     | false=>simp [hkk] at hz
     | true=>
      have:=qnu hkk
      subst this
      simp only [hkk,cond_true] at hz
      split at hz
      ·rename_i z' hz'
       simp only [Option.some.injEq] at hz
       subst hz
       obtain ⟨c1,h1,r1,t1⟩:=cell hl rfl
       obtain ⟨c2,h2,r2,t2⟩:=cell hr rfl
       have e1:=jp r1;have e2:=jp r2
       subst e1;subst e2
       simp only [Go.Op.eqFields,ne_eq,hn,not_false_eq_true,if_true,Sem.run_bind,part1 h1 hu rfl,part1 h2 hu rfl,Result.andThen_ok,Go.run_equalIn_int w d f.type k rest x y hu,qkW]
       cases hxy:(x == y)
       ·simp
       ·simpa using qem hrest t1 t2 hz'
      ·cases hz
   ·rename_i rest hu hl' hrest
    simp only [Option.some.injEq] at hk
    subst hk
    match l,r,hz with
    | .s x::l,.s y::r,hz=>
     simp only [D.scalarSame] at hz
     split at hz
     ·rename_i z' hz'
      simp only [Option.some.injEq] at hz
      subst hz
      obtain ⟨c1,h1,r1,t1⟩:=cell hl rfl
      obtain ⟨c2,h2,r2,t2⟩:=cell hr rfl
      obtain ⟨s1,e1,f1⟩:=qcm r1
      obtain ⟨s2,e2,f2⟩:=qcm r2
      subst e1;subst e2;subst f1;subst f2
      simp only [Go.Op.eqFields,ne_eq,hn,not_false_eq_true,if_true,Sem.run_bind,part1 h1 hu rfl,part1 h2 hu rfl,Result.andThen_ok,Go.run_equalIn_string w d f.type s1 s2 hu,qq7,qm9]
      cases hxy:(s1.toList == s2.toList)
      ·simp
      ·simpa using qem hrest t1 t2 hz'
     ·cases hz
   ·cases hk
  ·cases hk
section
variable {P:Program} {M:Maps} {g:Gh} {w:World} {β:Nat->Nat} {st:St} {o:Oper} {a:Act}
inductive NilIs:Go.TypeDesc->Value->Bool->Prop
 | p0 (el:TypeId):NilIs (.pointer el) (.pointer none) true
 | p1 (el:TypeId) (ad:Addr):NilIs (.pointer el) (.pointer (some ad)) false
 | s0 (el:TypeId):NilIs (.slice el) (.slice none 0 0) true
 | s1 (el:TypeId) (ad:Addr) (n m:Nat):NilIs (.slice el) (.slice (some ad) n m) false
 | m0 (k e:TypeId):NilIs (.map k e) (.map none) true
 | m1 (k e:TypeId) (r:Nat):NilIs (.map k e) (.map (some r)) false
 | f0 (p r:Array TypeId) (q:Bool):NilIs (.func p r q) .nilFunc true
 | f1 (p r:Array TypeId) (q:Bool) (f:Go.Fn) (x y:Array Value):NilIs (.func p r q) (.func f x y) false
 | i0 (m:Array (String × TypeId)):NilIs (.interface m) .nilIface true
 | i1 (m:Array (String × TypeId)) (t:TypeId) (x:Value):NilIs (.interface m) (.iface t x) false
theorem qqf {kd:Kd} {t:TypeId} (ht:qpO P t=some kd) {v:V} {e:Value} {b:Bool} (hv:RepV M g w β v e) (hb:V.isNil kd v=some b) :
  ∃dd,P.underlying t=some dd/\NilIs dd e b:=by
 have hk:(kd=.ptr->∃el,P.underlying t=some (.pointer el))/\(kd=.slice->∃el,P.underlying t=some (.slice el))/\(kd=.map->∃k el,P.underlying t=some (.map k el))/\
   (kd=.func->∃p r q,P.underlying t=some (.func p r q))/\(kd=.iface->∃m,P.underlying t=some (.interface m)):=by
  unfold qpO at ht
  refine ⟨?_,?_,?_,?_,?_⟩<;>rintro rfl<;>split at ht<;>(try simp only [Option.some.injEq,reduceCtorEq] at ht)<;>first
   | exact ⟨_,by assumption⟩
   | exact ⟨_,_,by assumption⟩
   | exact ⟨_,_,_,by assumption⟩
   | (split at ht<;>first|(cases ht;done)|(rename_i fs _ _;cases hq:qfE P 0 fs.toList<;>simp [hq] at ht))
 obtain ⟨k1,k2,k3,k4,k5⟩:=hk
 unfold V.isNil at hb
 split at hb<;>simp only [Option.some.injEq,reduceCtorEq] at hb<;>try subst hb
 ·obtain ⟨el,hu⟩:=k1 rfl;cases hv.inv_d;exact ⟨_,hu,.p0 el⟩
 ·obtain ⟨el,hu⟩:=k1 rfl;obtain ⟨rfl,_⟩:=hv.inv_ptr;exact ⟨_,hu,.p1 el _⟩
 ·obtain ⟨el,hu⟩:=k2 rfl;cases hv.inv_d;exact ⟨_,hu,.s0 el⟩
 ·obtain ⟨el,hu⟩:=k2 rfl;cases hv.inv_d<;>exact ⟨_,hu,.s1 el _ _ _⟩
 ·obtain ⟨el,hu⟩:=k2 rfl;cases hv with|s h=>cases h;exact ⟨_,hu,.s1 el _ _ _⟩
 ·obtain ⟨el,hu⟩:=k2 rfl;cases hv with|s h=>cases h;exact ⟨_,hu,.s1 el _ _ _⟩
 ·obtain ⟨k,el,hu⟩:=k3 rfl;cases hv.inv_d;exact ⟨_,hu,.m0 k el⟩
 ·obtain ⟨k,el,hu⟩:=k3 rfl;cases hv with|s h=>cases h;exact ⟨_,hu,.m1 k el _⟩
 ·obtain ⟨p,r,q,hu⟩:=k4 rfl;cases hv.inv_d;exact ⟨_,hu,.f0 p r q⟩
 ·obtain ⟨p,r,q,hu⟩:=k4 rfl;cases hv with|s h=>cases h;exact ⟨_,hu,.f1 p r q _ _ _⟩
 ·obtain ⟨m,hu⟩:=k5 rfl;cases hv.inv_d;exact ⟨_,hu,.i0 m⟩
 ·obtain ⟨m,hu⟩:=k5 rfl;cases hv with|s h=>cases h;exact ⟨_,hu,.i1 m _ _⟩
theorem qAc {t:TypeId} {dd:Go.TypeDesc} (hu:P.underlying t=some dd) {c d:Value} {b1 b2:Bool} (h1:NilIs dd c b1) (h2:NilIs dd d b2) (hb:b1=true\/b2=true) (n:Nat) :
  (Go.Op.equalIn (n+1) t c d).run P w=.ok (b1 && b2) w:=by
 cases h1<;>cases h2<;>(try (simp at hb;done))<;>simp only [Go.Op.equalIn,Sem.run_bind,Go.run_underlying hu,Result.andThen_ok]<;>rfl
theorem qzu {t:TypeId} {dd:Go.TypeDesc} {c d:Value} {b1 b2:Bool} (h1:NilIs dd c b1) (h2:NilIs dd d b2) {xo yo:Operand} (hcst:(∃v,xo=.const v)\/(∃v,yo=.const v)) (op:BinOp) :
  (Go.eqGuard op t xo yo c d).run P w=.ok () w:=by
 cases h1<;>cases h2<;>cases op<;>first
  | (simp only [Go.eqGuard];rfl)
  | (simp only [Go.eqGuard];rcases hcst with ⟨v,rfl⟩|⟨v,rfl⟩<;>simp)
theorem qz1 {t:TypeId} {dd:Go.TypeDesc} {c d:Value} {b1 b2:Bool} (h1:NilIs dd c b1) (h2:NilIs dd d b2) {op:BinOp} (hop:op=.eql\/op=.neq) :
  Go.binOp op t c d=(do let r <- Go.Op.equal t c d;pure (.bool (if op=.eql then r else !r))):=by
 rcases hop with rfl|rfl<;>cases h1<;>cases h2<;>simp [Go.binOp]
theorem qAl {kd:Kd} {t:TypeId} (ht:qpO P t=some kd) {x y:V} {c d:Value} (hx:RepV M g w β x c) (hy:RepV M g w β y d) {z:Bool} (xo yo:Operand)
  (hcst:(∃v,xo=.const v)\/(∃v,yo=.const v))
  (h:(match V.isNil kd x,V.isNil kd y with
   | some true,some b=>some b
   | some false,some true=>some false
   | _,_=>none)=some z) :
  (Go.Op.equal t c d).run P w=.ok z w/\(∀op,(Go.eqGuard op t xo yo c d).run P w=.ok () w)/\∀op,op=.eql\/op=.neq->Go.binOp op t c d=(do let r <- Go.Op.equal t c d;pure (.bool (if op=.eql then r else !r))):=by
 cases h1:V.isNil kd x with
 | none=>simp [h1] at h
 | some b1=>cases h2:V.isNil kd y with
  | none=>cases b1<;>simp [h1,h2] at h
  | some b2=>
   obtain ⟨dd,hu,n1⟩:=qqf ht hx h1
   obtain ⟨dd',hu',n2⟩:=qqf ht hy h2
   rw [hu] at hu'
   simp only [Option.some.injEq] at hu'
   subst hu'
   rw [h1,h2] at h
   refine ⟨?_,qzu n1 n2 hcst,fun op=>qz1 n1 n2⟩
   have hm:Go.Op.equal t c d=Go.Op.equalIn (9999+1) t c d:=rfl
   rw [hm]
   cases b1<;>cases b2<;>simp only [Option.some.injEq,reduceCtorEq] at h<;>subst h<;>exact qAc hu n1 n2 (by simp) _
theorem qEt (hd:qg o a) (hR:Rel M g w β st a.tmps) {op:BinOp} {t yt:TypeId} {kd:Kd} {x y:Operand} {x' y':O} (hx:opnd M false x=some x') (hy:opnd M false y=some y') (ht:qpO P t=some kd)
  (ho:o.op=.binOp op t x y yt) {r:Or} (hr:qoZ op kd x' y' st=some r):Left1 P M g w o a r:=by
 have h1:=qf hR hx
 have h2:=qf hR hy
 have cst:∀{q:Operand} {q':O},opnd M false q=some q'->isC q'=true->∃v,q=.const v:=by
  intro q q' h hc
  cases q<;>simp only [opnd] at h
  ·simp only [qOF,if_false,Option.some.injEq] at h;subst h;simp [isC] at hc
  ·exact ⟨_,rfl⟩
  ·rename_i f
   cases hl:look M.gl f with
   | none=>rw [hl] at h;cases h
   | some z=>rw [hl] at h;simp only [qOG,Option.some.injEq] at h;subst h;simp [isC] at hc
  ·rename_i f
   cases hl:look M.fm f with
   | none=>rw [hl] at h;cases h
   | some z=>rw [hl] at h;simp only [qOG,Option.some.injEq] at h;subst h;simp [isC] at hc
 unfold qoZ at hr
 split at hr
 ·rename_i v hv
  suffices hs:∃c,(do Go.eqGuard op t x y (a.eval x) (a.eval y);Go.binOp op t (a.eval x) (a.eval y):Sem Value).run P w=.ok c w/\RepV M g w β v c by
   obtain ⟨c,hc,hv'⟩:=hs
   refine qb hd hR hv' ?_ hr
   simp only [Go.execOp,ho]
   rw [Sem.run_bind,hc]
   rfl
  unfold qhz at hv
  split at hv
  ·split at hv
   ·rename_i k p k' q e1 e2
    rw [e1] at h1;rw [e2] at h2
    have f1:=jp h1.inv_d;have f2:=jp h2.inv_d
    rw [f1,f2]
    cases hs:qea op with
    | true=>
     simp only [hs,cond_true] at hv
     cases hz:qny op k p q with
     | none=>simp [hz] at hv
     | some z=>
      simp only [hz,qOG,Option.some.injEq] at hv
      subst hv
      obtain ⟨c,hc,hrep⟩:=qzl (P:=P) (w:=w) (t:=t) (k':=k') hs hz (pub:=g.pub)
      exact ⟨c,by rw [Sem.run_bind,qj0];exact hc,.s (.d _ _ hrep)⟩
    | false=>
     simp only [hs,cond_false] at hv
     cases hkk:eqK k k' with
     | false=>simp [hkk] at hv
     | true=>
      have:=qnu hkk
      subst this
      simp only [hkk,cond_true] at hv
      cases hz:qjb op k p q with
      | none=>simp [hz] at hv
      | some z=>
       simp only [hz,qOG,Option.some.injEq] at hv
       subst hv
       obtain ⟨c,hc,hrep⟩:=qxD (P:=P) (w:=w) (t:=t) hs hz (pub:=g.pub)
       exact ⟨c,by rw [Sem.run_bind,qj0];exact hc,.s (.d _ _ hrep)⟩
   ·rename_i p q e1 e2
    rw [e1] at h1;rw [e2] at h2
    obtain ⟨s1,f1,g1⟩:=qcm h1.inv_d
    obtain ⟨s2,f2,g2⟩:=qcm h2.inv_d
    rw [f1,f2]
    cases hz:qnU op p q with
    | none=>simp [hz] at hv
    | some z=>
     simp only [hz,qOG,Option.some.injEq] at hv
     subst hv
     rw [<- g1,<- g2] at hz
     obtain ⟨c,hc,hrep⟩:=qvI (P:=P) (w:=w) (t:=t) hz (pub:=g.pub)
     exact ⟨c,by rw [Sem.run_bind,qpN];exact hc,.s (.d _ _ hrep)⟩
   ·cases hv
  ·
   have key:∀{z:Bool},qsl kd (isC x' || isC y') (rd st.env x') (rd st.env y')=some z->
     (Go.Op.equal t (a.eval x) (a.eval y)).run P w=.ok z w/\(∀op,(Go.eqGuard op t x y (a.eval x) (a.eval y)).run P w=.ok () w)/\
     ∀op,op=.eql\/op=.neq->Go.binOp op t (a.eval x) (a.eval y)=(do let r <- Go.Op.equal t (a.eval x) (a.eval y);pure (.bool (if op=.eql then r else !r))):=by
    intro z hz
    unfold qsl at hz
    split at hz
    ·split at hz
     ·rename_i p q e1 e2
      rw [e1] at h1;rw [e2] at h2
      have f1:=qkJ h1.inv_d;have f2:=qkJ h2.inv_d
      simp only [Option.some.injEq] at hz
      subst hz
      rw [f1,f2]
      have hu:P.underlying t=some .bool:=by
       unfold qpO at ht
       split at ht<;>simp_all
      refine ⟨?_,fun op=>qoW op t x y p q,?_⟩
      ·have hm:Go.Op.equal t (.bool p) (.bool q)=Go.Op.equalIn (9999+1) t (.bool p) (.bool q):=rfl
       rw [hm]
       exact Go.run_equalIn_bool' w 9999 t p q hu
      ·rintro op (rfl|rfl)<;>simp [Go.binOp]
     ·cases hz
    ·rename_i ks
     split at hz
     ·rename_i p q e1 e2
      rw [e1] at h1;rw [e2] at h2
      have r1:=h1.inv_d;have r2:=h2.inv_d
      generalize a.eval x=cx at r1 |-
      generalize a.eval y=cy at r2 |-
      cases r1 with
      | agg _ vs1 l1=>cases r2 with
       | agg _ vs2 l2=>
        unfold qpO at ht
        split at ht<;>(try simp only [Option.some.injEq,reduceCtorEq] at ht)
        rename_i fs hu
        split at ht
        ·rename_i hcond
         simp only [qOy,Bool.not_eq_true'] at hcond
         cases hk:qfE P 0 fs.toList with
         | none=>simp [hk] at ht
         | some ks'=>
          simp only [hk,qOG,Option.some.injEq,Kd.agg.injEq] at ht
          subst ht
          have hfs:P.fieldsOf t=fs:=by simp [Go.Program.fieldsOf,hu]
          refine ⟨?_,fun op=>Go.run_eqGuard_agg w op t x y vs1 vs2 hcond.1,?_⟩
          ·have hm:Go.Op.equal t (.agg vs1) (.agg vs2)=Go.Op.equalIn (9998+1+1) t (.agg vs1) (.agg vs2):=rfl
           rw [hm]
           rw [Go.run_equalIn_struct w _ t vs1 vs2 (by rw [hfs];exact hu) hcond.2,hfs]
           exact qem hk (by simpa using l1) (by simpa using l2) hz
          ·rintro op (rfl|rfl)<;>simp [Go.binOp]
        ·cases ht
     ·cases hz
    ·cases hc:(isC x' || isC y') with
     | false=>simp [hc] at hz
     | true=>
      simp only [hc,cond_true] at hz
      refine qAl ht h1 h2 x y ?_ hz
      simp only [Bool.or_eq_true] at hc
      exact hc.imp (fun h=>cst hx h) (fun h=>cst hy h)
   split at hv
   ·cases hz:qsl kd (isC x' || isC y') (rd st.env x') (rd st.env y') with
    | none=>simp [hz] at hv
    | some z=>
     simp only [hz,qOG,Option.some.injEq] at hv
     subst hv
     obtain ⟨k1,k2,k3⟩:=key hz
     exact ⟨.bool z,by rw [Sem.run_bind,k2,k3 _ (.inl rfl)];simp [k1],.s (.d _ _ (.b z))⟩
   ·cases hz:qsl kd (isC x' || isC y') (rd st.env x') (rd st.env y') with
    | none=>simp [hz] at hv
    | some z=>
     simp only [hz,qOG,Option.some.injEq] at hv
     subst hv
     obtain ⟨k1,k2,k3⟩:=key hz
     exact ⟨.bool !z,by rw [Sem.run_bind,k2,k3 _ (.inr rfl)];simp [k1],.s (.d _ _ (.b _))⟩
   ·cases hv
 ·cases hr
end
end W
/-
  Reads: of boxes, of objects, of what never changes.
-/
namespace W
open Go (World Value Addr IntKind Program TypeId FuncId Operand Act Oper Next Result Sem BinOp UnOp)
theorem z5 {P:Program} {t:TypeId} {l:L} (h:lay P t=some l):∃i d,P.info? t=some i/\P.underlying t=some d/\l=⟨i.size,qnn d⟩:=by
 unfold lay at h
 split at h
 ·rename_i i d h1 h2
  simp only [Option.some.injEq] at h
  exact ⟨i,d,h1,h2,h.symm⟩
 ·cases h
theorem kl (b off i:Nat):(⟨b,off,none⟩:Addr).add i=⟨b,off+i,none⟩:=by
 unfold Addr.add
 split
 ·rename_i h;simp [h]
 ·rfl
theorem kK {P:Program} {t:TypeId} {i:Go.TypeInfo} (h:P.info? t=some i) (w:World):(Go.sizeOf t).run P w=.ok i.size w:=by
 simp [Go.sizeOf,Go.typeInfo,h]
theorem jg {P:Program} {w:World} {t:TypeId} {l:L} (hl:lay P t=some l) {b off:Nat} {vs:List Value} (hc:∀j v,vs[j]?=some v->w.cell? ⟨b,off+j,none⟩=some v) :
  (l.agg=true->vs.length=l.n->(Go.loadVar t ⟨b,off,none⟩).run P w=.ok (.agg vs.toArray) w)/\
  (l.agg=false->∀v,vs[0]?=some v->(Go.loadVar t ⟨b,off,none⟩).run P w=.ok v w):=by
 obtain ⟨i,d,hi,hu,rfl⟩:=z5 hl
 refine ⟨fun ha hn=>?_,fun ha v hv=>?_⟩
 ·simp only at ha hn
  have h1:=Go.run_loadCells_list (P:=P) w ⟨b,off,none⟩ vs (fun j v hj=>by rw [kl];exact hc j v hj)
  unfold Go.loadVar
  rw [Sem.run_bind,qcs hu,ha]
  simp only [Result.andThen_ok,if_true,Sem.run_bind,kK hi,<- hn,h1,Sem.run_pure]
 ·simp only at ha
  unfold Go.loadVar
  rw [Sem.run_bind,qcs hu,ha]
  have:=hc 0 v hv
  simp only [Nat.add_zero] at this
  simp [this]
theorem RepC.read {M:Maps} {g:Gh} {w:World} {ℓ:Loc} {v:V} {c:Value} (h:RepC M g w ℓ v c):RepS M g w (zy v) c:=by
 cases h with
 | s h=>
  have:zy v=v:=by cases h<;>rfl
  rw [this];exact h
 | osl h=>exact .d _ _ h.rep
theorem qsk {M:Maps} {g:Gh} {w:World} {f:Nat->Loc}:∀{cs:List V} {vs:List Value} (k:Nat),cs.length=vs.length->(∀i x v,cs[i]?=some x->vs[i]?=some v->RepC M g w (f (k+i)) x v)->
  RepSL M g w (cs.map zy) vs
 | [],[],_,_,_=>.nil
 | [],_::_,_,h,_=>by simp at h
 | _::_,[],_,h,_=>by simp at h
 | x::cs,v::vs,k,h,hr=>by
  refine .cons _ _ _ _ ((hr 0 x v rfl rfl).read) (qsk (f:=f) (k+1) (by simpa using h) (fun i y u hy hu=>?_))
  have:=hr (i+1) y u (by simpa using hy) (by simpa using hu)
  rwa [show k+(i+1)=k+1+i by omega] at this
theorem qnD {P:Program} {M:Maps} {g:Gh} {w:World} {f:Nat->Loc} {t:TypeId} {l:L} (hl:lay P t=some l) {b off:Nat} {cs:List V} {arr:Array Value} {T:TypeId} {fz:Nat × Nat}
  (hb:w.heap[b]?=some (.cells arr T fz)) (hlen:cs.length<=arr.size) (hr:∀(i:Nat) x v,cs[i]?=some x->arr[i]?=some v->RepC M g w (f i) x v) {v:V} (h:V.part off l cs=some v) :
  ∃c,(Go.loadVar t ⟨b,off,none⟩).run P w=.ok c w/\RepS M g w v c:=by
 have hcell:∀o,w.cell? ⟨b,o,none⟩=arr[o]?:=fun o=>by simp [World.cell?,hb]
 unfold V.part at h
 cases ha:l.agg with
 | true=>
  simp only [ha,if_true] at h
  split at h
  ·rename_i hle
   simp only [Option.some.injEq] at h
   subst h
   let vs:=(arr.toList.drop off).take l.n
   have hvl:vs.length=l.n:=by simp [vs];omega
   have hvs:∀j u,vs[j]?=some u->arr[off+j]?=some u:=fun j u hj=>by
    have hj':j<l.n:=by rw [<- hvl];exact (List.getElem?_eq_some_iff.1 hj).1
    simp only [vs,List.getElem?_take,hj',if_true,List.getElem?_drop] at hj
    simpa using hj
   have h1:=(jg (P:=P) hl (fun j u hj=>by rw [hcell];exact hvs j u hj)).1 ha hvl
   refine ⟨_,h1,?_⟩
   have hcs:((cs.drop off).take l.n).length=vs.length:=by rw [hvl];simp;omega
   have h2:RepSL M g w (((cs.drop off).take l.n).map zy) vs:=qsk (f:=f) off hcs (fun i x u hx hu=>by
    have hi:i<l.n:=by rw [<- hvl];exact (List.getElem?_eq_some_iff.1 hu).1
    have hx':cs[off+i]?=some x:=by simpa [List.getElem?_take,hi,List.getElem?_drop] using hx
    exact hr (off+i) x u hx' (hvs i u hu))
   exact qlX (by simpa using h2)
  ·cases h
 | false=>
  simp only [ha,qOF,if_false] at h
  cases hx:cs[off]? with
  | none=>simp [hx] at h
  | some x=>
   simp only [hx,qOG,Option.some.injEq] at h
   subst h
   have hlt:off<arr.size:=Nat.lt_of_lt_of_le (List.getElem?_eq_some_iff.1 hx).1 hlen
   have hv:arr[off]?=some arr[off]:=by simp [hlt]
   refine ⟨arr[off],?_,(hr off x _ hx hv).read⟩
   exact (jg (P:=P) (vs:=[arr[off]]) hl (fun j u hj=>by
    rw [hcell]
    cases j with
    | zero=>simp at hj;subst hj;simp
    | succ j=>simp at hj)).2 ha _ rfl
section
variable {P:Program} {M:Maps} {g:Gh} {w:World} {β:Nat->Nat} {st:St} {o:Oper} {a:Act}
theorem qqS {l:L} {t:TypeId} (hl:lay P t=some l) (hR:Rel M g w β st a.tmps) {p:V} {pc:Value} (hp:RepV M g w β p pc) {v:V} (h:qF l st p=some v) :
  ∃c,(Go.Instr.loadAt t pc).run P w=.ok c w/\RepS M g w v c:=by
 unfold qF at h
 split at h
 ·rename_i s off
  have e:=hp.inv_lp
  subst e
  split at h
  ·rename_i cs hbox
   have hs:=hR.e s
   rw [hbox] at hs
   generalize a.tmps.getD s Go.undef=cc at hs
   cases hs with
   | s h=>cases h
   | box _ arr T hb ho hp0 hlen hr=>
    obtain ⟨c,hc,hrep⟩:=qnD (P:=P) hl hb (Nat.le_of_eq hlen) hr h
    exact ⟨c,by simpa [Go.Instr.loadAt,Go.Instr.sureAddr] using hc,hrep⟩
  ·cases h
 ·rename_i x
  obtain ⟨b,off,vs,e,hr,hc,hpub⟩:=hp.inv_cp
  subst e
  have hlen:=hr.length
  cases ha:l.agg with
  | true=>
   simp only [ha,if_true] at h
   split at h
   ·rename_i cs
    split at h
    ·rename_i hn
     simp only [Option.some.injEq] at h
     subst h
     have hr':RepDL g.pub w cs vs:=hr
     refine ⟨.agg vs.toArray,?_,.d _ _ (.agg cs _ (by simpa using hr'))⟩
     have:=(jg (P:=P) hl hc).1 ha (by rw [<- hlen];exact hn)
     simpa [Go.Instr.loadAt,Go.Instr.sureAddr] using this
    ·cases h
   ·cases h
  | false=>
   simp only [ha,qOF,if_false] at h
   split at h
   ·cases h
   ·rename_i hne
    simp only [Option.some.injEq] at h
    subst h
    have hx:x.cells=[x]:=by cases x<;>first|rfl|exact absurd rfl (hne _)
    rw [hx] at hr
    cases hr with
    | cons _ c _ vs' h1 h2=>
     cases h2
     refine ⟨c,?_,.d _ _ h1⟩
     have:=(jg (P:=P) hl hc).2 ha c rfl
     simpa [Go.Instr.loadAt,Go.Instr.sureAddr] using this
 ·rename_i id off
  obtain ⟨e,hid⟩:=hp.inv_ptr
  subst e
  split at h
  ·rename_i cs hH
   have ho:=hR.h id _ hH
   cases ho with
   | cells _ arr T fz hb hz ho hp0 hlen hr=>
    obtain ⟨c,hc,hrep⟩:=qnD (P:=P) hl hb hlen hr h
    exact ⟨c,by simpa [Go.Instr.loadAt,Go.Instr.sureAddr] using hc,hrep⟩
  ·rename_i k cs hH
   have ho:=(hR.h id _ hH).rowCells
   cases ho with
   | cells _ arr T fz hb hz ho hp0 hlen hr=>
    obtain ⟨c,hc,hrep⟩:=qnD (P:=P) hl hb hlen hr h
    exact ⟨c,by simpa [Go.Instr.loadAt,Go.Instr.sureAddr] using hc,hrep⟩
  ·cases h
 ·cases h
theorem qvC (hd:qg o a) (hR:Rel M g w β st a.tmps) {t:TypeId} {l:L} (hl:lay P t=some l) {sl:Option Nat} {x:Operand} {x':O} (hx:opnd M false x=some x')
  (ho:o.op=.load t x) {r:Or} (hr:zB false sl l x' st=some r):Left1 P M g w o a r:=by
 have h1:=qf hR hx
 unfold zB at hr
 cases hs:qE sl (rd st.env x') with
 | false=>simp [hs] at hr
 | true=>
  simp only [hs,Bool.not_true,cond_false] at hr
  split at hr
  ·rename_i v hv
   obtain ⟨c,hc,hrep⟩:=qqS hl hR h1 hv
   exact qb hd hR (.s hrep) (by simp only [Go.execOp,ho];rw [Sem.run_bind,hc];rfl) hr
  ·cases hr
theorem qzv {pub:Nat->Nat} {f:Go.Field} {off:Nat} {l:L} (hl:lay P f.type=some l) {cs:List D} {vs:Array Value} (h:RepDL pub w cs vs.toList) {y:D} (hy:D.part off l cs=some y) :
  ∃c,(Go.part f.type vs off).run P w=.ok c w/\RepD pub w y c:=by
 obtain ⟨i,d,hi,hu,rfl⟩:=z5 hl
 have hlen:=h.length
 unfold D.part at hy
 cases ha:qnn d with
 | true=>
  simp only [ha,if_true] at hy
  split at hy
  ·rename_i hle
   simp only [Option.some.injEq] at hy
   subst hy
   refine ⟨.agg (vs.extract off (off+i.size)),?_,?_⟩
   ·simp only [Go.part,Sem.run_bind,qcs hu w,ha,Result.andThen_ok,if_true,kK hi,Sem.run_pure]
   ·refine .agg _ _ ?_
    have:=(h.drop off).take i.size
    simpa [Array.toList_extract,List.drop_take,Nat.add_sub_cancel_left] using this
  ·cases hy
 | false=>
  simp only [ha,qOF,if_false] at hy
  obtain ⟨c,hc,hrep⟩:=h.get off y hy
  exact ⟨c,by simp only [Go.part,Sem.run_bind,qcs hu w,ha,Result.andThen_ok,qOF,if_false];simp at hc;simp [hc],hrep⟩
theorem qyQ (hd:qg o a) (hR:Rel M g w β st a.tmps) {t:TypeId} {fs:Array Go.Field} (ht:P.underlying t=some (.struct fs)) {f:Nat} {fd:Go.Field} (hf:fs[f]?=some fd) {l:L} (hl:lay P fd.type=some l)
  {x:Operand} {x':O} (hx:opnd M false x=some x') (ho:o.op=.field t x f) {r:Or} (hr:qe3 x' fd.offset l st=some r):Left1 P M g w o a r:=by
 have h1:=qf hR hx
 have run:∀{vs:Array Value} {c:Value},a.eval x=.agg vs->(Go.part fd.type vs fd.offset).run P w=.ok c w->(Go.execOp a.eval o).run P w=.ok (.value c) w:=by
  intro vs c he hp
  simp only [Go.execOp,ho,Go.Instr.field,Sem.run_bind,Go.run_underlying ht,Result.andThen_ok,hf,he,Go.asAgg,Sem.run_pure,hp]
 unfold qe3 at hr
 split at hr
 ·rename_i cs hz
  rw [hz] at h1
  have h2:=h1.inv_d
  split at hr
  ·rename_i y hy
   generalize hc:a.eval x=cc at h2
   cases h2 with
   | agg _ vs hvs=>
    obtain ⟨c,hc',hrep⟩:=qzv hl hvs hy
    exact qb hd hR (.s (.d _ _ hrep)) (run hc hc') hr
  ·cases hr
 ·rename_i cs hz
  rw [hz] at h1
  split at hr
  ·rename_i y hy
   generalize hc:a.eval x=cc at h1
   cases h1 with
   | s h1=>cases h1 with
    | agg _ vs hvs=>
     obtain ⟨i,d,hi,hu,rfl⟩:=z5 hl
     have hlen:=hvs.length
     unfold V.part at hy
     cases ha:qnn d with
     | true=>
      simp only [ha,if_true] at hy
      split at hy
      ·rename_i hle
       simp only [Option.some.injEq] at hy
       subst hy
       refine qb hd hR (.s ?_) (run hc (c:=.agg (vs.extract fd.offset (fd.offset+i.size))) ?_) hr
       ·rw [qoL (vs:=((vs.toList.drop fd.offset).take i.size))]
        ·refine qlX ?_
         have:RepSL M g w ((cs.drop fd.offset).take i.size) ((vs.toList.drop fd.offset).take i.size):=by
          clear hle hlen
          generalize fd.offset=off
          generalize vs.toList=vl at hvs
          have dr:∀{cs:List V} {vl:List Value} (n:Nat),RepSL M g w cs vl->RepSL M g w (cs.drop n) (vl.drop n):=by
           intro cs vl n
           induction n generalizing cs vl with
           | zero=>exact fun h=>h
           | succ n ih=>intro h;cases h with|nil=>simpa using RepSL.nil|cons _ _ _ _ _ hl=>exact ih hl
          have tk:∀{cs:List V} {vl:List Value} (n:Nat),RepSL M g w cs vl->RepSL M g w (cs.take n) (vl.take n):=by
           intro cs vl n
           induction n generalizing cs vl with
           | zero=>exact fun _=>.nil
           | succ n ih=>intro h;cases h with|nil=>simpa using RepSL.nil|cons _ _ _ _ hx hl=>exact .cons _ _ _ _ hx (ih hl)
          exact tk _ (dr _ hvs)
         simpa [Array.toList_extract,List.drop_take,Nat.add_sub_cancel_left] using this
        ·have dr:∀{cs:List V} {vl:List Value} (n:Nat),RepSL M g w cs vl->RepSL M g w (cs.drop n) (vl.drop n):=by
          intro cs vl n
          induction n generalizing cs vl with
          | zero=>exact fun h=>h
          | succ n ih=>intro h;cases h with|nil=>simpa using RepSL.nil|cons _ _ _ _ _ hl=>exact ih hl
         have tk:∀{cs:List V} {vl:List Value} (n:Nat),RepSL M g w cs vl->RepSL M g w (cs.take n) (vl.take n):=by
          intro cs vl n
          induction n generalizing cs vl with
          | zero=>exact fun _=>.nil
          | succ n ih=>intro h;cases h with|nil=>simpa using RepSL.nil|cons _ _ _ _ hx hl=>exact .cons _ _ _ _ hx (ih hl)
         exact tk _ (dr _ hvs)
       ·simp only [Go.part,Sem.run_bind,qcs hu w,ha,Result.andThen_ok,if_true,kK hi,Sem.run_pure]
      ·cases hy
     | false=>
      simp only [ha,qOF,if_false] at hy
      cases hq:cs[fd.offset]? with
      | none=>simp [hq] at hy
      | some q=>
       simp only [hq,qOG,Option.some.injEq] at hy
       subst hy
       obtain ⟨c,hc',hrep⟩:=hvs.get _ q hq
       have e:zy q=q:=by cases hrep<;>rfl
       rw [e] at hr
       refine qb hd hR (.s hrep) (run hc (c:=c) ?_) hr
       simp only [Go.part,Sem.run_bind,qcs hu w,ha,Result.andThen_ok,qOF,if_false];simp at hc';simp [hc']
  ·cases hr
 ·cases hr
end
end W
/-
  Places, pieces of slices and texts, lengths, look-ups.
-/
namespace W
open Go (World Value Addr IntKind Program TypeId FuncId Operand Act Oper Next Result Sem BinOp UnOp)
theorem RepV.ok {M:Maps} {g:Gh} {w:World} {β:Nat->Nat} {v:V} {c:Value} (h:RepV M g w β v c) (hv:v.ok=true):RepS M g w v c:=by
 cases h with
 | s h=>exact h
 | lp s off=>simp [V.ok] at hv
 | cp x b off vs hr hc hp=>simp [V.ok] at hv
theorem qeP {x:D} (h:x.one=true):x.cells=[x]:=by cases x<;>first|rfl|(simp [D.one] at h)
theorem qvt:∀(xs:List D) (sz n:Nat) (y:D),(∀x ∈ xs,x.cells.length=sz)->xs[n]?=some y->
  ((xs.flatMap D.cells).drop (n * sz)).take sz=y.cells
 | [],_,_,_,_,h=>by simp at h
 | x::xs,sz,0,y,hs,h=>by
  simp only [List.getElem?_cons_zero,Option.some.injEq] at h
  subst h
  have:=hs x (by simp)
  simp only [Nat.zero_mul,List.drop_zero,List.flatMap_cons]
  rw [<- this,List.take_left']
  rfl
 | x::xs,sz,n+1,y,hs,h=>by
  have h0:=hs x (by simp)
  simp only [List.flatMap_cons]
  rw [show (n+1) * sz=x.cells.length+n * sz by rw [h0,Nat.succ_mul];omega,<- List.drop_drop,List.drop_left' rfl]
  exact qvt xs sz n y (fun z hz=>hs z (by simp [hz])) (by simpa using h)
theorem kM:∀(xs:List D) (sz:Nat),(∀x ∈ xs,x.cells.length=sz)->(xs.flatMap D.cells).length=xs.length * sz
 | [],_,_=>by simp
 | x::xs,sz,h=>by
  simp only [List.flatMap_cons,List.length_append,List.length_cons,kM xs sz (fun z hz=>h z (by simp [hz])),h x (by simp),Nat.succ_mul]
  omega
theorem qoJ:∀(xs:List D) (sz n:Nat),(∀x ∈ xs,x.cells.length=sz)->n<=xs.length->(xs.drop n).flatMap D.cells=(xs.flatMap D.cells).drop (n * sz)
 | xs,sz,0,_,_=>by simp
 | [],sz,n+1,_,h=>by simp at h
 | x::xs,sz,n+1,hs,h=>by
  have h0:=hs x (by simp)
  simp only [List.drop_succ_cons,List.flatMap_cons]
  rw [qoJ xs sz n (fun z hz=>hs z (by simp [hz])) (by simpa using h),show (n+1) * sz=x.cells.length+n * sz by rw [h0,Nat.succ_mul];omega,<- List.drop_drop,List.drop_left' rfl]
theorem qoY:∀(xs:List D) (sz n:Nat),(∀x ∈ xs,x.cells.length=sz)->(xs.take n).flatMap D.cells=(xs.flatMap D.cells).take (n * sz)
 | xs,sz,0,_=>by simp
 | [],sz,n+1,_=>by simp
 | x::xs,sz,n+1,hs=>by
  have h0:=hs x (by simp)
  simp only [List.take_succ_cons,List.flatMap_cons]
  rw [qoY xs sz n (fun z hz=>hs z (by simp [hz])),show (n+1) * sz=x.cells.length+n * sz by rw [h0,Nat.succ_mul];omega,List.take_length_add_append]
theorem qgZ {P:Program} {w:World} (k:IntKind) (n:Int):(Go.asIntOf (.int k n)).run P w=.ok (k,n) w:=rfl
section
variable {P:Program} {M:Maps} {g:Gh} {w:World} {β:Nat->Nat} {st:St} {o:Oper} {a:Act}
theorem qp7 {t:TypeId} {l:L} (hl:lay P t=some l) (h0:l.n≠0) {fd:Go.Field} (hfd:fd.type=t) (b off:Nat):(Go.fieldPlace ⟨b,off,none⟩ fd).run P w=.ok ⟨b,off+fd.offset,none⟩ w:=by
 obtain ⟨i,d,hi,hu,rfl⟩:=z5 hl
 subst hfd
 simp only at h0
 simp only [Go.fieldPlace,Sem.run_bind,kK hi,Result.andThen_ok,h0,if_false,Sem.run_pure,kl]
theorem qrV (hd:qg o a) (hR:Rel M g w β st a.tmps) {t:TypeId} {fs:Array Go.Field} (ht:P.underlying t=some (.struct fs)) {f:Nat} {fd:Go.Field} (hf:fs[f]?=some fd) {l:L} (hl:lay P fd.type=some l)
  (h0:l.n≠0) {x:Operand} {x':O} (hx:opnd M false x=some x') (ho:o.op=.fieldAddr t x f) {r:Or} (hr:qU x' fd.offset l st=some r):Left1 P M g w o a r:=by
 have h1:=qf hR hx
 have run:∀{b off:Nat},a.eval x=.pointer (some ⟨b,off,none⟩)->(Go.execOp a.eval o).run P w=.ok (.value (.pointer (some ⟨b,off+fd.offset,none⟩))) w:=by
  intro b off he
  simp only [Go.execOp,ho,Go.Instr.fieldAt,Sem.run_bind,Go.run_underlying ht,Result.andThen_ok,hf,he,Go.Instr.sureAddr,Sem.run_pure,qp7 hl h0 rfl]
 unfold qU at hr
 split at hr
 ·rename_i id off hz
  rw [hz] at h1
  obtain ⟨e,hid⟩:=h1.inv_ptr
  exact qb hd hR (.s (.ptr id (off+fd.offset) hid)) (run e) hr
 ·rename_i s off hz
  rw [hz] at h1
  exact qb hd hR (.lp s (off+fd.offset)) (run h1.inv_lp) hr
 ·rename_i cs hz
  rw [hz] at h1
  obtain ⟨b,off,vs,e,hrep,hc,hpub⟩:=h1.inv_cp
  have hrep':RepDL g.pub w cs vs:=hrep
  have hlen:=hrep'.length
  split at hr
  ·rename_i y hy
   split at hr
   ·rename_i hone
    unfold D.part at hy
    cases ha:l.agg with
    | true=>
     simp only [ha,if_true] at hy
     split at hy
     ·rename_i hle
      simp only [Option.some.injEq] at hy
      subst hy
      refine qb hd hR (.cp _ b (off+fd.offset) ((vs.drop fd.offset).take l.n) ?_ ?_ ?_) (run e) hr
      ·exact (hrep'.drop fd.offset).take l.n
      ·intro j v hj
       have hj':j<l.n:=by
        have:=(List.getElem?_eq_some_iff.1 hj).1
        simp at this;omega
       rw [show off+fd.offset+j=off+(fd.offset+j) by omega]
       exact hc _ _ (by simpa [List.getElem?_take,hj',List.getElem?_drop] using hj)
      ·simp;omega
     ·cases hy
    | false=>
     simp only [ha,qOF,if_false,Bool.false_or] at hy hone
     obtain ⟨c,hc',hrep1⟩:=hrep'.get _ y hy
     have hlt:fd.offset<vs.length:=(List.getElem?_eq_some_iff.1 hc').1
     refine qb hd hR (.cp _ b (off+fd.offset) [c] ?_ ?_ ?_) (run e) hr
     ·rw [qeP hone];exact .cons _ _ _ _ hrep1 .nil
     ·intro j v hj
      cases j with
      | zero=>simp at hj;subst hj;exact hc _ _ hc'
      | succ j=>simp at hj
     ·simp;omega
   ·cases hr
  ·cases hr
 ·cases hr
theorem qjT {t e:TypeId} {i:Go.TypeInfo} (ht:P.underlying t=some (.slice e)) (hi:P.info? e=some i) (b off len cap:Nat) (k:IntKind) (n:Int) (h0:0<=n) (h1:n<len) :
  (Go.Instr.indexAt t (.slice (some ⟨b,off,none⟩) len cap) (.int k n)).run P w=.ok (.pointer (some ⟨b,off+n.toNat * i.size,none⟩)) w:=by
 simp only [Go.Instr.indexAt,Sem.run_bind,qgZ,Result.andThen_ok,Go.run_underlying ht,Sem.run_pure,h0,h1,and_self,if_true,kK hi,kl]
theorem qjD {t e:TypeId} {len:Nat} {i:Go.TypeInfo} (ht:P.underlying t=some (.array len e)) (hi:P.info? e=some i) (b off:Nat) (k:IntKind) (n:Int) (h0:0<=n) (h1:n<len) :
  (Go.Instr.indexAt t (.pointer (some ⟨b,off,none⟩)) (.int k n)).run P w=.ok (.pointer (some ⟨b,off+n.toNat * i.size,none⟩)) w:=by
 simp only [Go.Instr.indexAt,Sem.run_bind,qgZ,Result.andThen_ok,Go.run_underlying ht,Go.Instr.sureAddr,Sem.run_pure,h0,h1,and_self,if_true,kK hi,kl]
theorem qlB {a b:Int} (h:leI a b=true):a<=b:=by rw [qmM,decide_eq_true_iff] at h;exact h
theorem qCD {a b:Int} (h:leI a b=false):b<a:=by rw [qmM,decide_eq_false_iff_not] at h;omega
theorem qp4 (hd:qg o a) (hR:Rel M g w β st a.tmps) {t e:TypeId} (ht:P.underlying t=some (.slice e)) {l:L} (hl:lay P e=some l) {x i:Operand} {x' i':O} (hx:opnd M false x=some x') (hi:opnd M false i=some i')
  (ho:o.op=.indexAddr t x i) {r:Or} (hr:qV x' i' l.n none st=some r):Left1 P M g w o a r:=by
 have h1:=qf hR hx
 have h2:=qf hR hi
 obtain ⟨inf,d,hinf,hu,rfl⟩:=z5 hl
 unfold qV at hr
 split at hr
 ·rename_i k n hz
  rw [hz] at h2
  have e2:=jp h2.inv_d
  simp only [zM] at hr
  cases hb:leI 0 n with
  | false=>simp [hb] at hr
  | true=>
   have h0:=qlB hb
   simp only [hb,cond_true] at hr
   split at hr
   ·rename_i xs hz1
    rw [hz1] at h1
    have h3:=h1.inv_d
    split at hr
    ·rename_i y hy
     cases hsz:qOC y.cells.length inf.size with
     | false=>simp [hsz] at hr
     | true=>
      have hsz':=qOz hsz
      simp only [hsz,cond_true] at hr
      have hlt:n.toNat<xs.length:=(List.getElem?_eq_some_iff.1 hy).1
      generalize hc:a.eval x=c at h3
      cases h3 with
      | sl0=>simp at hy
      | sl _ b off cap sz vs hne hs hrep hcell hpub hcap hone=>
       have hmem:y ∈ xs:=List.mem_of_getElem? hy
       have hsz2:sz=inf.size:=by rw [<- hs y hmem];exact hsz'
       subst hsz2
       have hfl:=kM xs inf.size hs
       have hvl:=hrep.length
       have hle:(n.toNat+1) * inf.size<=xs.length * inf.size:=Nat.mul_le_mul_right _ hlt
       rw [Nat.succ_mul] at hle
       refine qb hd hR (.cp y b (off+n.toNat * inf.size) ((vs.drop (n.toNat * inf.size)).take inf.size) ?_ ?_ ?_) ?_ hr
       ·have:=(hrep.drop (n.toNat * inf.size)).take inf.size
        rwa [qvt xs inf.size n.toNat y hs hy] at this
       ·intro j v hj
        have hj':j<inf.size:=by
         have:=(List.getElem?_eq_some_iff.1 hj).1
         simp at this;omega
        rw [show off+n.toNat * inf.size+j=off+(n.toNat * inf.size+j) by omega]
        exact hcell _ _ (by simpa [List.getElem?_take,hj',List.getElem?_drop] using hj)
       ·simp;omega
       ·simp only [Go.execOp,ho,hc,e2]
        rw [Sem.run_bind,qjT ht hinf b off xs.length cap k n h0 (by omega)]
        rfl
    ·cases hr
   ·rename_i id off len cap hz1
    rw [hz1] at h1
    cases hsz:(!leI (len:Int) n && qOC inf.size 1) with
    | false=>simp [hsz] at hr
    | true=>
     simp only [hsz,cond_true] at hr
     simp only [qOy,Bool.not_eq_true'] at hsz
     have hs1:=qOz hsz.2
     have hlt:=qCD hsz.1
     generalize hc:a.eval x=c at h1
     cases h1 with
     | s h1=>cases h1 with
      | rs _ _ _ _ c2 hid hcap hcap2=>
       refine qb hd hR (.s (.ptr id (off+n.toNat) hid)) ?_ hr
       simp only [Go.execOp,ho,hc,e2]
       rw [Sem.run_bind,qjT ht hinf _ off len c2 k n h0 hlt,hs1]
       simp
   ·rename_i id sz len hz1
    rw [hz1] at h1
    cases hsz:(!leI (len:Int) n && qOC inf.size sz) with
    | false=>simp [hsz] at hr
    | true=>
     simp only [hsz,cond_true] at hr
     simp only [qOy,Bool.not_eq_true'] at hsz
     have hs1:=qOz hsz.2
     have hlt:=qCD hsz.1
     generalize hc:a.eval x=c at h1
     cases h1 with
     | s h1=>cases h1 with
      | row _ _ _ c2 hid hcap hcap2=>
       refine qb hd hR (.s (.ptr id (n.toNat * sz) hid)) ?_ hr
       simp only [Go.execOp,ho,hc,e2]
       rw [Sem.run_bind,qjT ht hinf _ 0 len c2 k n h0 hlt,hs1]
       simp
   ·cases hr
 ·cases hr
theorem qrr (hd:qg o a) (hR:Rel M g w β st a.tmps) {t e:TypeId} {len:Nat} (ht:P.underlying t=some (.array len e)) {l:L} (hl:lay P e=some l) {x i:Operand} {x' i':O} (hx:opnd M false x=some x') (hi:opnd M false i=some i')
  (ho:o.op=.indexAddr t x i) {r:Or} (hr:qV x' i' l.n (some len) st=some r):Left1 P M g w o a r:=by
 have h1:=qf hR hx
 have h2:=qf hR hi
 obtain ⟨inf,d,hinf,hu,rfl⟩:=z5 hl
 unfold qV at hr
 split at hr
 ·rename_i k n hz
  rw [hz] at h2
  have e2:=jp h2.inv_d
  simp only [jn] at hr
  cases hb:(leI 0 n && !leI (len:Int) n) with
  | false=>simp [hb] at hr
  | true=>
   simp only [hb,cond_true] at hr
   simp only [qOy,Bool.not_eq_true'] at hb
   have h0:=qlB hb.1
   have hlt:=qCD hb.2
   split at hr
   ·rename_i id off hz1
    rw [hz1] at h1
    obtain ⟨e1,hid⟩:=h1.inv_ptr
    refine qb hd hR (.s (.ptr id _ hid)) ?_ hr
    simp only [Go.execOp,ho,e1,e2]
    rw [Sem.run_bind,qjD ht hinf _ off k n h0 hlt]
    rfl
   ·rename_i s off hz1
    rw [hz1] at h1
    refine qb hd hR (.lp s _) ?_ hr
    simp only [Go.execOp,ho,h1.inv_lp,e2]
    rw [Sem.run_bind,qjD ht hinf _ off k n h0 hlt]
    rfl
   ·rename_i cs hz1
    rw [hz1] at h1
    rw [qOx] at hr
    split at hr
    ·rename_i hsz
     have hs1:=qOz hsz
     split at hr
     ·rename_i y hy
      split at hr
      ·rename_i hone
       generalize hc:a.eval x=c at h1
       cases h1 with
       | s h1=>cases h1
       | cp _ b off vs hrep hcell hpub=>
        have hrep':RepDL g.pub w cs vs:=hrep
        obtain ⟨c,hc',hrep1⟩:=hrep'.get _ y hy
        have hlt':n.toNat<vs.length:=(List.getElem?_eq_some_iff.1 hc').1
        refine qb hd hR (.cp _ b (off+n.toNat) [c] ?_ ?_ ?_) ?_ hr
        ·rw [qeP hone];exact .cons _ _ _ _ hrep1 .nil
        ·intro j v hj
         cases j with
         | zero=>simp at hj;subst hj;exact hcell _ _ hc'
         | succ j=>simp at hj
        ·simp;omega
        ·simp only [Go.execOp,ho,hc,e2]
         rw [Sem.run_bind,qjD ht hinf _ off k n h0 hlt,hs1,Nat.mul_one]
         rfl
      ·cases hr
     ·cases hr
    ·cases hr
   ·cases hr
 ·cases hr
theorem qzt (hd:qg o a) (hR:Rel M g w β st a.tmps) {t:TypeId} (ht:P.underlying t=some .string) {x i:Operand} {x' i':O} (hx:opnd M false x=some x') (hi:opnd M false i=some i')
  (ho:o.op=.index t x i) {r:Or} (hr:qe9 x' i' st=some r):Left1 P M g w o a r:=by
 have h1:=qf hR hx
 have h2:=qf hR hi
 unfold qe9 at hr
 split at hr
 ·rename_i s k n hz1 hz2
  rw [hz1] at h1;rw [hz2] at h2
  obtain ⟨z,e1,f1⟩:=qcm h1.inv_d
  have e2:=jp h2.inv_d
  cases hb:leI 0 n with
  | false=>simp [hb] at hr
  | true=>
   have h0:=qlB hb
   simp only [hb,cond_true] at hr
   split at hr
   ·rename_i y hy
    subst f1
    have hlt:n.toNat<z.size:=by
     have:=(List.getElem?_eq_some_iff.1 hy).1
     simp only [List.length_map,Array.length_toList] at this
     exact this
    have hg:z[n.toNat]?=some z[n.toNat]:=Go.ByteArray.getElem?_lt' z n.toNat hlt
    have hy':y=z[n.toNat].toNat:=by
     have hlt':n.toNat<z.data.size:=hlt
     have h3:(z.data.toList.map (·.toNat))[n.toNat]?=some z.data[n.toNat].toNat:=by
      rw [List.getElem?_map,Array.getElem?_toList,Array.getElem?_eq_getElem hlt']
      rfl
     rw [h3] at hy
     simp only [Option.some.injEq] at hy
     exact hy.symm
    subst hy'
    refine qb hd hR (.s (.d _ _ (.i .u8 _))) ?_ hr
    simp only [Go.execOp,ho,e1,e2,Go.Instr.index,Sem.run_bind,qgZ,Result.andThen_ok,Go.run_underlying ht,h0,if_true,hg,Sem.run_pure]
   ·cases hr
 ·cases hr
theorem qut (hd:qg o a) (hR:Rel M g w β st a.tmps) {t i:Nat} (ho:o.op=.extract (.tmp t) i) {r:Or} (hr:yi (.t t) i st=some r):Left1 P M g w o a r:=by
 unfold yi at hr
 simp only at hr
 split at hr
 ·rename_i vs hz
  split at hr
  ·rename_i v hv
   have h1:=hR.e t
   rw [hz] at h1
   have he:a.eval (.tmp t)=a.tmps.getD t Go.undef:=rfl
   generalize hc:a.tmps.getD t Go.undef=c at h1
   cases h1 with
   | s h1=>cases h1 with
    | tup _ cs hcs=>
     obtain ⟨c',hc',hrep⟩:=hcs.get i v hv
     refine qb hd hR (.s (qn2 hrep)) ?_ hr
     simp at hc'
     simp [Go.execOp,ho,he,hc,Go.Instr.extract,hc']
  ·cases hr
 ·cases hr
theorem qy9 (hd:qg o a) (hR:Rel M g w β st a.tmps) {t:TypeId} {t':Nat} (hm:look M.tm t=some t') {dd:Go.TypeDesc} (hu:P.underlying t=some dd) (hni:∀m,dd≠.interface m) {x:Operand} {x':O} (hx:opnd M false x=some x')
  (ho:o.op=.makeInterface t x) {r:Or} (hr:qje t' x' st=some r):Left1 P M g w o a r:=by
 have h1:=qf hR hx
 unfold qje at hr
 split at hr
 ·rename_i hok
  refine qb hd hR (.s (.ifc t' t _ _ hm (h1.ok hok))) ?_ hr
  simp only [Go.execOp,ho,Go.Instr.makeInterface,Sem.run_bind,Go.run_underlying hu,Result.andThen_ok]
  cases dd<;>first|rfl|exact absurd rfl (hni _)
 ·cases hr
theorem qii (hR:Rel M g w β st a.tmps):∀{k:Nat} {xs:List Operand} {ys:List O},opnds M (fun _=>false) k xs=some ys->V.ok.oks (ys.map (rd st.env))=true->
  RepSL M g w (ys.map (rd st.env)) (xs.map a.eval)
 | _,[],ys,h,_=>by simp only [opnds,Option.some.injEq] at h;subst h;exact .nil
 | k,x::xs,ys,h,hk=>by
  simp only [opnds] at h
  split at h
  ·rename_i y r hy hr
   simp only [Option.some.injEq] at h
   subst h
   simp only [List.map_cons,V.ok.oks,qOy] at hk
   exact .cons _ _ _ _ ((qf hR hy).ok hk.1) (qii hR hr hk.2)
  ·cases h
theorem qCd (hd:qg o a) (hR:Rel M g w β st a.tmps) {f:FuncId} {f':Nat} (hm:look M.fm f=some f') {xs ys:Array Operand} {xs' ys':List O} (hx:opnds M (fun _=>false) 0 xs.toList=some xs')
  (hy:opnds M (fun _=>false) 0 ys.toList=some ys') (ho:o.op=.makeFunc (.func f) xs ys) {r:Or} (hr:qmC f' xs' ys' st=some r):Left1 P M g w o a r:=by
 unfold qmC at hr
 split at hr
 ·rename_i hok
  simp only [qOy] at hok
  refine qb hd hR (.s (.fn f' f _ _ (xs.map a.eval) (ys.map a.eval) hm ?_ ?_)) ?_ hr
  ·simpa using qii hR hx hok.1
  ·simpa using qii hR hy hok.2
  ·simp [Go.execOp,ho,Go.Instr.makeFunc]
 ·cases hr
end
end W
/-
  Pieces, lengths, look-ups.
-/
namespace W
open Go (World Value Addr IntKind Program TypeId FuncId Operand Act Oper Next Result Sem BinOp UnOp)
theorem ky {P:Program} {w:World} {k:IntKind} {n:Int} {y:Nat} (code:Go.BoundsCode) (h0:0<=n) (h1:n<=y):(Go.Instr.sliceBound (.int k n) y code).run P w=.ok n.toNat w:=by
 simp only [Go.Instr.sliceBound,Sem.run_bind,qgZ,Result.andThen_ok,h0,h1,and_self,if_true,Sem.run_pure]
def qx1:Option Value->Option Int->Prop
 | none,none=>True
 | some v,some n=>∃k,v=.int k n
 | _,_=>False
theorem qR {P:Program} {w:World} (isSlice:Bool) {len cap:Nat} (hlc:len<=cap) {lo hi:Option Value} {a b:Option Int} (ha:qx1 lo a)
  (hb:qx1 hi b) {l h:Nat} (hcut:qkw len a b=some (l,h)) :
  (Go.Instr.sliceBounds isSlice len cap lo hi none).run P w=.ok (l,h,cap) w/\l<=h/\h<=len:=by
 unfold qkw at hcut
 cases hc:(leI 0 (a.getD 0) && leI (a.getD 0) (b.getD ↑len) && leI (b.getD ↑len) ↑len) with
 | false=>simp [hc] at hcut
 | true=>
  simp only [hc,cond_true,Option.some.injEq,Prod.mk.injEq] at hcut
  simp only [qOy] at hc
  have c1:=qlB hc.1.1
  have c2:=qlB hc.1.2
  have c3:=qlB hc.2
  obtain ⟨rfl,rfl⟩:=hcut
  refine ⟨?_,by omega,by omega⟩
  match lo,a,ha,hi,b,hb with
  | none,none,_,none,none,_=>simp [Go.Instr.sliceBounds]
  | none,none,_,some v,some n,⟨k,hv⟩=>
   subst hv
   simp only [Option.getD_some,Option.getD_none] at c1 c2 c3 |-
   simp only [Go.Instr.sliceBounds,Sem.run_bind,Sem.run_pure,Result.andThen_ok,ky _ (by omega:(0:Int)<=n) (by omega:n<=(cap:Int))]
   rfl
  | some v,some n,⟨k,hv⟩,none,none,_=>
   subst hv
   simp only [Option.getD_some,Option.getD_none] at c1 c2 c3 |-
   simp only [Go.Instr.sliceBounds,Sem.run_bind,Sem.run_pure,Result.andThen_ok,ky _ c1 c2]
   rfl
  | some v,some n,⟨k,hv⟩,some v',some n',⟨k',hv'⟩=>
   subst hv;subst hv'
   simp only [Option.getD_some,Option.getD_none] at c1 c2 c3 |-
   simp only [Go.Instr.sliceBounds,Sem.run_bind,Sem.run_pure,Result.andThen_ok,ky _ (by omega:(0:Int)<=n') (by omega:n'<=(cap:Int)),ky _ c1 (show n<=((n'.toNat:Nat):Int) by omega)]
section
variable {P:Program} {M:Maps} {g:Gh} {w:World} {β:Nat->Nat} {st:St} {o:Oper} {a:Act}
theorem qaI (hR:Rel M g w β st a.tmps) {x:Option Operand} {y:Option O} (h:qlb M x=some y) {n:Option Int} (hn:qN st.env y=some n) :
  qx1 (x.map a.eval) n:=by
 cases x with
 | none=>
  simp only [qlb,Option.some.injEq] at h
  subst h
  simp only [qN,Option.some.injEq] at hn
  subst hn
  trivial
 | some x=>
  simp only [qlb] at h
  cases hx:opnd M false x with
  | none=>simp [hx] at h
  | some x'=>
   simp only [hx,qOG,Option.some.injEq] at h
   subst h
   have h1:=qf hR hx
   simp only [qN] at hn
   split at hn
   ·rename_i k m hz
    simp only [Option.some.injEq] at hn
    subst hn
    rw [hz] at h1
    exact ⟨k,jp h1.inv_d⟩
   ·cases hn
theorem qmE {t:TypeId} {d:Go.TypeDesc} (hu:P.underlying t=some d) (hna:∀n e,d≠.array n e) (x:Value) (lo hi mx:Option Value):(Go.Instr.sliceAt t x lo hi mx).run P w=(Go.Instr.slice t x lo hi mx).run P w:=by
 unfold Go.Instr.sliceAt
 rw [Sem.run_bind,Go.run_underlying hu]
 cases d<;>first|rfl|exact absurd rfl (hna _ _)
theorem qEl (s:ByteArray) (l h:Nat) (hh:h<=s.size):(s.extract l h).data.toList.map (·.toNat)=((s.data.toList.map (·.toNat)).take h).drop l:=by
 rw [Go.Lib.extract_data,List.map_take,List.map_drop]
 rw [List.drop_take]
theorem qnC {t:TypeId} {d:Go.TypeDesc} (hu:P.underlying t=some d) (hna:∀n e,d≠.array n e) {x:Operand} {lo hi:Option Operand} (ho:o.op=.slice t x lo hi none) {c:Value}
  (h:(Go.Instr.slice t (a.eval x) (lo.map a.eval) (hi.map a.eval) none).run P w=.ok c w):(Go.execOp a.eval o).run P w=.ok (.value c) w:=by
 simp only [Go.execOp,ho,Option.map_none]
 rw [Sem.run_bind,qmE hu hna,h]
 rfl
theorem qw8 (hd:qg o a) (hR:Rel M g w β st a.tmps) {t:TypeId} (hu:P.underlying t=some .string)
  {x:Operand} {x':O} (hx:opnd M false x=some x') {lo hi:Option Operand} {lo' hi':Option O} (hlo:qlb M lo=some lo') (hhi:qlb M hi=some hi')
  (ho:o.op=.slice t x lo hi none) {r:Or} (hr:jq x' lo' hi' st=some r):Left1 P M g w o a r:=by
 have h1:=qf hR hx
 unfold jq at hr
 split at hr
 ·rename_i p q hp hq
  have b1:=qaI hR hlo hp
  have b2:=qaI hR hhi hq
  split at hr
  ·rename_i v hv
   unfold qhm at hv
   split at hv
   ·rename_i s hz
    rw [hz] at h1
    obtain ⟨z,e1,f1⟩:=qcm h1.inv_d
    split at hv
    ·rename_i l h hcut
     simp only [Option.some.injEq] at hv
     subst hv
     have hlen:s.length=z.size:=by rw [<- f1,List.length_map,Array.length_toList];rfl
     rw [hlen] at hcut
     obtain ⟨hrun,h3,h4⟩:=qR (P:=P) (w:=w) false (qOB z.size) b1 b2 hcut
     refine qb hd hR (.s (.d _ _ (.s _ (z.extract l h) ?_))) (qnC hu (by simp) ho ?_) hr
     ·rw [qEl z l h h4,f1]
     ·rw [e1]
      simp only [Go.Instr.slice,Sem.run_bind,Go.run_underlying hu,Result.andThen_ok,Option.isSome_none,qOF,if_false,Sem.run_pure,hrun]
    ·cases hv
   ·cases hv
  ·cases hr
 ·cases hr
theorem qie {size:Nat} {xs:List D} (h:kL size xs=true) {sz:Nat} (hne:xs≠[]) (hs:∀x ∈ xs,x.cells.length=sz):sz=size:=by
 cases xs with
 | nil=>exact absurd rfl hne
 | cons x l=>
  have:=qOz h
  rw [<- hs x (by simp)]
  exact this
theorem qxJ (hd:qg o a) (hR:Rel M g w β st a.tmps) {t e:TypeId} {ly:L} (hu:P.underlying t=some (.slice e)) (hl:lay P e=some ly)
  {x:Operand} {x':O} (hx:opnd M false x=some x') {lo hi:Option Operand} {lo' hi':Option O} (hlo:qlb M lo=some lo') (hhi:qlb M hi=some hi')
  (ho:o.op=.slice t x lo hi none) {r:Or} (hr:qd0 ly.n x' lo' hi' st=some r):Left1 P M g w o a r:=by
 have h1:=qf hR hx
 obtain ⟨inf,d,hinf,hud,rfl⟩:=z5 hl
 unfold qd0 at hr
 split at hr
 ·rename_i p q hp hq
  have b1:=qaI hR hlo hp
  have b2:=qaI hR hhi hq
  have run:∀{ad:Option Addr} {len cap l h:Nat},len<=cap->qkw len p q=some (l,h)->a.eval x=.slice ad len cap->
    (Go.execOp a.eval o).run P w=.ok (.value (.slice (if cap=l then ad else ad.map (·.add (l * inf.size))) (h - l) (cap - l))) w:=by
   intro ad len cap l h hlc hcut he
   obtain ⟨hrun,h3,h4⟩:=qR (P:=P) (w:=w) true hlc b1 b2 hcut
   refine qnC hu (by simp) ho ?_
   rw [he]
   simp only [Go.Instr.slice,Sem.run_bind,Go.run_underlying hu,Result.andThen_ok,hrun,kK hinf,Sem.run_pure]
  split at hr
  ·rename_i v hv
   unfold qCK at hv
   split at hv
   ·rename_i xs hz
    rw [hz] at h1
    cases hh:kL inf.size xs with
    | false=>simp [hh] at hv
    | true=>
     simp only [hh,cond_true] at hv
     split at hv
     ·rename_i l h hcut
      simp only [Option.some.injEq] at hv
      subst hv
      have hb:=(qR (P:=P) (w:=w) true (qOB xs.length) b1 b2 hcut).2
      have h3:=h1.inv_d
      generalize hc:a.eval x=c at h3
      cases h3 with
      | sl0 ad cap=>
       simp only [List.length_nil] at hcut hb
       have hr2:=run (Nat.zero_le cap) hcut hc
       have e0:h - l=0:=by omega
       rw [e0] at hr2
       have hlst:(([]:List D).take h).drop l=[]:=by simp
       rw [hlst] at hr
       have hsome:∃a',(if cap=l then some ad else (some ad:Option Addr).map (·.add (l * inf.size)))=some a':=by split<;>exact ⟨_,rfl⟩
       obtain ⟨a',ha'⟩:=hsome
       rw [ha'] at hr2
       exact qb hd hR (.s (.d _ _ (.sl0 _ _))) hr2 hr
      | sl _ b off cap sz vs hne hs hrep hcell hpub hcap hone=>
       have hr2:=run hcap hcut hc
       by_cases hlh:l=h
       ·subst hlh
        have e0:l - l=0:=by omega
        rw [e0] at hr2
        have hlst:(xs.take l).drop l=[]:=by
         apply List.drop_eq_nil_of_le;simp;omega
        rw [hlst] at hr
        have hsome:∃a',(if cap=l then some (⟨b,off,none⟩:Addr) else (some (⟨b,off,none⟩:Addr)).map (·.add (l * inf.size)))=some a':=by split<;>exact ⟨_,rfl⟩
        obtain ⟨a',ha'⟩:=hsome
        rw [ha'] at hr2
        exact qb hd hR (.s (.d _ _ (.sl0 _ _))) hr2 hr
       ·have hsz:=qie hh hne hs
        subst hsz
        have hlt:l<h:=by omega
        have hcl:cap≠l:=by omega
        simp only [hcl,if_false,qOG,kl] at hr2
        have hlen2:((xs.take h).drop l).length=h - l:=by simp;omega
        have hsub:∀y ∈ (xs.take h).drop l,y.cells.length=inf.size:=fun y hy=>hs y (List.mem_of_mem_take (List.mem_of_mem_drop hy))
        have hvl:vs.length=xs.length * inf.size:=by rw [<- hrep.length,kM xs _ hs]
        have hmul:h * inf.size<=xs.length * inf.size:=Nat.mul_le_mul_right _ hb.2
        have hmul2:l * inf.size<=h * inf.size:=Nat.mul_le_mul_right _ (by omega)
        have hflat:((xs.take h).drop l).flatMap D.cells=((xs.flatMap D.cells).take (h * inf.size)).drop (l * inf.size):=by
         rw [qoJ _ inf.size l (fun y hy=>hs y (List.mem_of_mem_take hy)) (by simp;omega),qoY xs inf.size h hs]
        refine qb hd hR (.s (.d _ _ ?_)) hr2 hr
        rw [<- hlen2]
        refine .sl _ b (off+l * inf.size) (cap - l) inf.size ((vs.take (h * inf.size)).drop (l * inf.size)) ?_ hsub ?_ ?_ ?_ ?_ (fun u hu=>hone u (List.mem_of_mem_take (List.mem_of_mem_drop hu)))
        ·intro e;rw [e] at hlen2;simp at hlen2;omega
        ·rw [hflat];exact (hrep.take _).drop _
        ·intro j v hj
         have hj2:l * inf.size+j<h * inf.size:=by
          have:=(List.getElem?_eq_some_iff.1 hj).1
          simp at this;omega
         rw [show off+l * inf.size+j=off+(l * inf.size+j) by omega]
         exact hcell _ _ (by simpa [List.getElem?_drop,List.getElem?_take,hj2] using hj)
        ·simp;omega
        ·rw [hlen2];omega
     ·cases hv
   ·rename_i hz
    rw [hz] at h1
    split at hv
    ·rename_i lh hcut
     simp only [Option.some.injEq] at hv
     subst hv
     have h3:=h1.inv_d
     generalize hc:a.eval x=c at h3
     cases h3
     obtain ⟨l,h⟩:=lh
     have hb:=(qR (P:=P) (w:=w) true (qOB 0) b1 b2 hcut).2
     have hr2:=run (qOB 0) hcut hc
     have e0:l=0:=by omega
     have e1:h=0:=by omega
     subst e0;subst e1
     exact qb hd hR (.s (.d _ _ .nil)) (by simpa using hr2) hr
    ·cases hv
   ·rename_i id off len cap hz
    rw [hz] at h1
    cases hsz:qOC inf.size 1 with
    | false=>simp [hsz] at hv
    | true=>
     simp only [hsz,cond_true] at hv
     split at hv
     ·rename_i l h hcut
      rw [qOx] at hv
      split at hv
      ·rename_i hlt
       simp only [Option.some.injEq] at hv
       subst hv
       have e1:inf.size=1:=qOz hsz
       have hlt:l<h:=by simpa using hlt
       generalize hc:a.eval x=c at h1
       cases h1 with
       | s h3=>cases h3 with
        | rs _ _ _ _ c2 hid hcap hcap2=>
         have hb:=(qR (P:=P) (w:=w) true (Nat.le_trans hcap hcap2) b1 b2 hcut).2
         have hr2:=run (Nat.le_trans hcap hcap2) hcut hc
         have hcl:c2≠l:=by omega
         simp only [hcl,if_false,qOG,kl,e1,Nat.mul_one] at hr2
         exact qb hd hR (.s (.rs id (off+l) (h - l) (cap - l) (c2 - l) hid (by omega) (by omega))) hr2 hr
      ·rename_i hlt
       simp only [Option.some.injEq] at hv
       subst hv
       have hlt:¬l<h:=by simpa using hlt
       generalize hc:a.eval x=c at h1
       cases h1 with
       | s h3=>cases h3 with
        | rs _ _ _ _ c2 hid hcap hcap2=>
         have hr2:=run (Nat.le_trans hcap hcap2) hcut hc
         have hsome:∃a',(if c2=l then some (⟨g.φ id,off,none⟩:Addr) else (some (⟨g.φ id,off,none⟩:Addr)).map (·.add (l * inf.size)))=some a':=by split<;>exact ⟨_,rfl⟩
         obtain ⟨a',ha'⟩:=hsome
         rw [ha',show h - l=0 by omega] at hr2
         exact qb hd hR (.s (.d _ _ (.sl0 _ _))) hr2 hr
     ·cases hv
   ·rename_i id sz len hz
    rw [hz] at h1
    cases hsz:(qOC inf.size 1 && qOC sz 1) with
    | false=>simp [hsz] at hv
    | true=>
     simp only [hsz,cond_true] at hv
     rw [qOy] at hsz
     have e1:inf.size=1:=qOz hsz.1
     split at hv
     ·rename_i l h hcut
      rw [qOx] at hv
      generalize hc:a.eval x=c at h1
      cases h1 with
      | s h3=>cases h3 with
       | row _ _ _ cap hid hcap hζ=>
        have hb:=(qR (P:=P) (w:=w) true hcap b1 b2 hcut).2
        have hr2:=run hcap hcut hc
        split at hv
        ·rename_i hlt
         simp only [Option.some.injEq] at hv
         subst hv
         have hlt:l<h:=by simpa using hlt
         have hcl:cap≠l:=by omega
         simp only [hcl,if_false,qOG,kl,e1,Nat.mul_one,Nat.zero_add] at hr2
         exact qb hd hR (.s (.rs id l (h - l) (len - l) (cap - l) hid (by omega) (by omega))) hr2 hr
        ·rename_i hlt
         simp only [Option.some.injEq] at hv
         subst hv
         have hlt:¬l<h:=by simpa using hlt
         have hsome:∃a',(if cap=l then some (⟨g.φ id,0,none⟩:Addr) else (some (⟨g.φ id,0,none⟩:Addr)).map (·.add (l * inf.size)))=some a':=by split<;>exact ⟨_,rfl⟩
         obtain ⟨a',ha'⟩:=hsome
         rw [ha',show h - l=0 by omega] at hr2
         exact qb hd hR (.s (.d _ _ (.sl0 _ _))) hr2 hr
     ·cases hv
   ·cases hv
  ·cases hr
 ·cases hr
theorem qxB (hd:qg o a) (hR:Rel M g w β st a.tmps) {t e:TypeId} {n:Nat} {i:Go.TypeInfo} (hu:P.underlying t=some (.array n e)) (hinf:P.info? e=some i) (h1s:i.size=1)
  {x:Operand} {x':O} (hx:opnd M false x=some x') {lo hi:Option Operand} {lo' hi':Option O} (hlo:qlb M lo=some lo') (hhi:qlb M hi=some hi')
  (ho:o.op=.slice t x lo hi none) {r:Or} (hr:qex n x' lo' hi' st=some r):Left1 P M g w o a r:=by
 have h1:=qf hR hx
 unfold qex at hr
 split at hr
 ·rename_i p q hp hq
  have b1:=qaI hR hlo hp
  have b2:=qaI hR hhi hq
  split at hr
  ·rename_i v hv
   unfold qBh at hv
   split at hv
   ·rename_i id off hz
    rw [hz] at h1
    obtain ⟨e1,hid⟩:=h1.inv_ptr
    split at hv
    ·rename_i l h hcut
     split at hv
     ·rename_i hln
      simp only [Option.some.injEq] at hv
      subst hv
      have hb:=qR (P:=P) (w:=w) false (qOB n) b1 b2 hcut
      refine qb hd hR (.s (.rs id (off+l) (h - l) (n - l) (n - l) hid (by omega) (qOB _))) ?_ hr
      have hne:¬n=l:=by omega
      simp only [Go.execOp,ho,Option.map_none,Go.Instr.sliceAt,e1,Go.Instr.sureAddr,Sem.run_bind,Go.run_underlying hu,Result.andThen_ok,Sem.run_pure,hb.1,kK hinf,hne,if_false,h1s,Nat.mul_one,kl]
     ·cases hv
    ·cases hv
   ·cases hv
  ·cases hr
 ·cases hr
theorem qpi {P:Program} {w:World} {len cap:Nat} {m:Int} {k k':IntKind} {b:Int} (h0:0<=m) (hm:m<=cap) {lo:Option Value} {a:Option Int} (ha:qx1 lo a)
  {l h:Nat} (hcut:qkw m.toNat a (some b)=some (l,h)) :
  (Go.Instr.sliceBounds true len cap lo (some (.int k b)) (some (.int k' m))).run P w=.ok (l,h,m.toNat) w/\l<=h/\h<=m.toNat:=by
 unfold qkw at hcut
 cases hc:(leI 0 (a.getD 0) && leI (a.getD 0) ((some b).getD ↑m.toNat) && leI ((some b).getD ↑m.toNat) ↑m.toNat) with
 | false=>simp only [hc,cond_false] at hcut;cases hcut
 | true=>
  simp only [hc,cond_true,Option.some.injEq,Prod.mk.injEq] at hcut
  simp only [qOy] at hc
  have c1:=qlB hc.1.1
  have c2:=qlB hc.1.2
  have c3:=qlB hc.2
  obtain ⟨rfl,rfl⟩:=hcut
  simp only [Option.getD_some] at c2 c3 |-
  refine ⟨?_,by omega,by omega⟩
  match lo,a,ha with
  | none,none,_=>
   simp only [Option.getD_none] at c1 c2 |-
   simp only [Go.Instr.sliceBounds,Sem.run_bind,Sem.run_pure,Result.andThen_ok,ky _ h0 hm,ky _ (by omega:(0:Int)<=b) c3]
   rfl
  | some v,some n,⟨k,hv⟩=>
   subst hv
   simp only [Option.getD_some] at c1 c2 |-
   simp only [Go.Instr.sliceBounds,Sem.run_bind,Sem.run_pure,Result.andThen_ok,ky _ h0 hm,ky _ (by omega:(0:Int)<=b) c3,ky _ c1 (show n<=((b.toNat:Nat):Int) by omega)]
theorem qrL {t:TypeId} {d:Go.TypeDesc} (hu:P.underlying t=some d) (hna:∀n e,d≠.array n e) {x:Operand} {lo:Option Operand} {hi mx:Operand} (ho:o.op=.slice t x lo (some hi) (some mx)) {c:Value}
  (h:(Go.Instr.slice t (a.eval x) (lo.map a.eval) (some (a.eval hi)) (some (a.eval mx))).run P w=.ok c w):(Go.execOp a.eval o).run P w=.ok (.value c) w:=by
 simp only [Go.execOp,ho,qOG]
 rw [Sem.run_bind,qmE hu hna,h]
 rfl
theorem qzC {xs:List D} {c:Value} (h3:RepD g.pub w (.sl xs) c) {size l h m:Nat} (hh:kL size xs=true) (hlh:l<=h) (hhm:h<=m) (hmx:m<=xs.length) :
  ∃ad len cap,c=.slice ad len cap/\len=xs.length/\m<=cap/\RepD g.pub w (.sl ((xs.take h).drop l)) (.slice (if m=l then ad else ad.map (·.add (l * size))) (h - l) (m - l)):=by
 cases h3 with
 | sl0 ad cap=>
  simp only [List.length_nil] at hmx
  refine ⟨_,_,_,rfl,rfl,by omega,?_⟩
  have e0:h - l=0:=by omega
  have hml:m=l:=by omega
  rw [e0,if_pos hml]
  simp only [List.take_nil,List.drop_nil]
  exact .sl0 _ _
 | sl _ b off cap sz vs hne hs hrep hcell hpub hcap hone=>
  refine ⟨_,_,_,rfl,rfl,by omega,?_⟩
  by_cases hlh2:l=h
  ·subst hlh2
   have e0:l - l=0:=by omega
   rw [e0]
   have hlst:(xs.take l).drop l=[]:=by
    apply List.drop_eq_nil_of_le;simp;omega
   rw [hlst]
   have hsome:∃a',(if m=l then some (⟨b,off,none⟩:Addr) else (some (⟨b,off,none⟩:Addr)).map (·.add (l * size)))=some a':=by split<;>exact ⟨_,rfl⟩
   obtain ⟨a',ha'⟩:=hsome
   rw [ha']
   exact .sl0 _ _
  ·have hsz:=qie hh hne hs
   subst hsz
   have hlt:l<h:=by omega
   have hcl:m≠l:=by omega
   simp only [hcl,if_false,qOG,kl]
   have hlen2:((xs.take h).drop l).length=h - l:=by simp;omega
   have hsub:∀y ∈ (xs.take h).drop l,y.cells.length=sz:=fun y hy=>hs y (List.mem_of_mem_take (List.mem_of_mem_drop hy))
   have hvl:vs.length=xs.length * sz:=by rw [<- hrep.length,kM xs _ hs]
   have hmul:h * sz<=xs.length * sz:=Nat.mul_le_mul_right _ (by omega)
   have hmul2:l * sz<=h * sz:=Nat.mul_le_mul_right _ (by omega)
   have hflat:((xs.take h).drop l).flatMap D.cells=((xs.flatMap D.cells).take (h * sz)).drop (l * sz):=by
    rw [qoJ _ sz l (fun y hy=>hs y (List.mem_of_mem_take hy)) (by simp;omega),qoY xs sz h hs]
   rw [<- hlen2]
   refine .sl _ b (off+l * sz) (m - l) sz ((vs.take (h * sz)).drop (l * sz)) ?_ hsub ?_ ?_ ?_ ?_ (fun u hu=>hone u (List.mem_of_mem_take (List.mem_of_mem_drop hu)))
   ·intro e;rw [e] at hlen2;simp at hlen2;omega
   ·rw [hflat];exact (hrep.take _).drop _
   ·intro j v hj
    have hj2:l * sz+j<h * sz:=by
     have:=(List.getElem?_eq_some_iff.1 hj).1
     simp at this;omega
    rw [show off+l * sz+j=off+(l * sz+j) by omega]
    exact hcell _ _ (by simpa [List.getElem?_drop,List.getElem?_take,hj2] using hj)
   ·simp;omega
   ·rw [hlen2];omega
theorem qw4 (hd:qg o a) (hR:Rel M g w β st a.tmps) {t e:TypeId} {ly:L} (hu:P.underlying t=some (.slice e)) (hl:lay P e=some ly)
  {x:Operand} {x':O} (hx:opnd M false x=some x') {lo:Option Operand} {hi mx:Operand} {lo':Option O} {hi' mx':O} (hlo:qlb M lo=some lo') (hhi:opnd M false hi=some hi') (hmx:opnd M false mx=some mx')
  (ho:o.op=.slice t x lo (some hi) (some mx)) {r:Or} (hr:qet ly.n x' lo' hi' mx' st=some r):Left1 P M g w o a r:=by
 have h1:=qf hR hx
 have h2:=qf hR hhi
 have h4:=qf hR hmx
 obtain ⟨inf,d,hinf,hud,rfl⟩:=z5 hl
 unfold qet at hr
 split at hr
 ·rename_i p kb b km m hp hzb hzm
  have b1:=qaI hR hlo hp
  rw [hzb] at h2;rw [hzm] at h4
  have eb:=jp h2.inv_d
  have em:=jp h4.inv_d
  have run:∀{ad:Option Addr} {len cap l h:Nat},0<=m->m<=cap->qkw m.toNat p (some b)=some (l,h)->a.eval x=.slice ad len cap->
    (Go.execOp a.eval o).run P w=.ok (.value (.slice (if m.toNat=l then ad else ad.map (·.add (l * inf.size))) (h - l) (m.toNat - l))) w:=by
   intro ad len cap l h hm0 hmc hcut he
   obtain ⟨hrun,h3,h4⟩:=qpi (P:=P) (w:=w) (len:=len) (k:=kb) (k':=km) hm0 hmc b1 hcut
   refine qrL hu (by simp) ho ?_
   rw [he,eb,em]
   simp only [Go.Instr.slice,Sem.run_bind,Go.run_underlying hu,Result.andThen_ok,hrun,kK hinf,Sem.run_pure]
  split at hr
  ·rename_i v hv
   unfold qAE at hv
   split at hv
   ·rename_i xs hz
    rw [hz] at h1
    cases hh:(kL inf.size xs && (leI 0 m && leI m xs.length)) with
    | false=>simp [hh] at hv
    | true=>
     simp only [hh,cond_true] at hv
     simp only [qOy] at hh
     have hml:=qlB hh.2.2
     have hm0:=qlB hh.2.1
     split at hv
     ·rename_i l h hcut
      simp only [Option.some.injEq] at hv
      subst hv
      have hb:=(qR (P:=P) (w:=w) true (qOB m.toNat) b1 (hi:=some (.int kb b)) (b:=some b) ⟨kb,rfl⟩ hcut).2
      obtain ⟨ad,len,cap,hc,hlen,hmc,hrep⟩:=qzC (m:=m.toNat) h1.inv_d hh.1 hb.1 hb.2 (by omega)
      have hrun:=run hm0 (by omega) hcut hc
      cases hbe:qOC h m.toNat with
      | false=>
       simp only [hbe,cond_false] at hr
       exact qb hd hR (.s (.d _ _ hrep)) hrun hr
      | true=>
       simp only [hbe,cond_true] at hr
       have he:=qOz hbe
       exact qsB hd hR (qDf hrep (by omega)) hrun hr
     ·cases hv
   ·rename_i hz
    rw [hz] at h1
    rw [qOx] at hv
    split at hv
    ·rename_i hm
     have hm:m=0:=by rw [qkW] at hm;simpa using hm
     subst hm
     split at hv
     ·rename_i lh hcut
      simp only [Option.some.injEq] at hv
      subst hv
      have h3:=h1.inv_d
      generalize hc:a.eval x=c at h3
      cases h3
      obtain ⟨l,h⟩:=lh
      have hb:=(qR (P:=P) (w:=w) true (qOB 0) b1 (hi:=some (.int kb b)) (b:=some b) ⟨kb,rfl⟩ hcut).2
      have hr2:=run (Int.le_refl 0) (Int.le_refl 0) hcut hc
      have e0:l=0:=by omega
      have e1:h=0:=by omega
      subst e0;subst e1
      exact qb hd hR (.s (.d _ _ .nil)) (by simpa using hr2) hr
     ·cases hv
    ·cases hv
   ·rename_i id sz len hz
    rw [hz] at h1
    rw [qOx] at hv
    split at hv
    ·rename_i hm
     have hm:m=0:=by rw [qkW] at hm;simpa using hm
     subst hm
     split at hv
     ·rename_i lh hcut
      simp only [Option.some.injEq] at hv
      subst hv
      generalize hc:a.eval x=c at h1
      cases h1 with
      | s h3=>cases h3 with
       | row _ _ _ cap hid hcap hζ=>
        obtain ⟨l,h⟩:=lh
        have hb:=(qR (P:=P) (w:=w) true (qOB 0) b1 (hi:=some (.int kb b)) (b:=some b) ⟨kb,rfl⟩ hcut).2
        have hr2:=run (Int.le_refl 0) (by omega) hcut hc
        have e0:l=0:=by omega
        have e1:h=0:=by omega
        subst e0;subst e1
        exact qsB hd hR (fun ℓ=>.full [] _ (.sl0 _ _)) (by simpa using hr2) hr
     ·cases hv
    ·cases hv
   ·cases hv
  ·cases hr
 ·cases hr
theorem qpZ {ats:Array TypeId} {args:Array Operand} {ty:TypeId} {x:Operand} (ho:o.op=.call {callee:=.builtin .len,args:=args,argTypes:=ats}) (hargs:args.toList=[x]) {s:TypeId} (hats:ats.toList=[s]) {c:Value}
  (h:∀ty,(Go.Builtin.len_ #[s] ty #[a.eval x]).run P w=.ok c w):(Go.execOp a.eval o).run P w=.ok (.value c) w:=by
 have e1:args=#[x]:=by cases args;simp_all
 have e2:ats=#[s]:=by cases ats;simp_all
 subst e1;subst e2
 simp only [Go.execOp,ho,Go.resolve,Go.invoke,Go.builtin,Sem.run_bind,Sem.run_pure,Result.andThen_ok]
 simp [h]
theorem qpc {x':O} {f:Nat->Bool} {args:List Operand} (h:opnds M f 0 args=some [x']):∃x,args=[x]/\opnd M (f 0) x=some x':=by
 cases args with
 | nil=>simp [opnds] at h
 | cons x l=>
  simp only [opnds] at h
  split at h
  ·rename_i y r hy hr
   simp only [Option.some.injEq,List.cons.injEq] at h
   obtain ⟨rfl,rfl⟩:=h
   cases l with
   | nil=>exact ⟨x,rfl,hy⟩
   | cons z l=>
    simp only [opnds] at hr
    split at hr<;>simp at hr
  ·cases h
theorem qBf (hd:qg o a) (hR:Rel M g w β st a.tmps) {c:Go.Call} (hcal:c.callee=.builtin .len) {s:TypeId} (hats:c.argTypes.toList=[s]) (hu:P.underlying s=some .string) {x':O} (hx:opnds M (fun _=>false) 0 c.args.toList=some [x'])
  (ho:o.op=.call c) {r:Or} (hr:qkb x' st=some r):Left1 P M g w o a r:=by
 obtain ⟨x,hargs,hx1⟩:=qpc hx
 have h1:=qf hR hx1
 obtain ⟨cal,args,ats⟩:=c
 simp only at hcal hats hargs
 subst hcal
 unfold qkb at hr
 split at hr
 ·rename_i t hz
  rw [hz] at h1
  obtain ⟨z,e1,f1⟩:=qcm h1.inv_d
  have hlen:(t.length:Int)=(z.size:Int):=by rw [<- f1,List.length_map,Array.length_toList];rfl
  refine qb hd hR (.s (.d _ _ (.i .i64 _))) (qpZ (ty:=0) ho hargs hats (fun ty=>?_)) hr
  simp [Go.Builtin.len_,Go.run_underlying hu,e1,Go.goInt,hlen]
 ·cases hr
theorem qAN (hd:qg o a) (hR:Rel M g w β st a.tmps) {c:Go.Call} (hcal:c.callee=.builtin .len) {s e:TypeId} (hats:c.argTypes.toList=[s]) (hu:P.underlying s=some (.slice e)) {x':O} (hx:opnds M (fun _=>false) 0 c.args.toList=some [x'])
  (ho:o.op=.call c) {r:Or} (hr:qcZ x' st=some r):Left1 P M g w o a r:=by
 obtain ⟨x,hargs,hx1⟩:=qpc hx
 have h1:=qf hR hx1
 obtain ⟨cal,args,ats⟩:=c
 simp only at hcal hats hargs
 subst hcal
 have run:∀{ad:Option Addr} {n m:Nat},a.eval x=.slice ad n m->(Go.execOp a.eval o).run P w=.ok (.value (.int .i64 n)) w:=by
  intro ad n m he
  refine qpZ (ty:=0) ho hargs hats (fun ty=>?_)
  simp [Go.Builtin.len_,Go.run_underlying hu,he,Go.goInt]
 unfold qcZ at hr
 split at hr
 ·rename_i y hz
  rw [hz] at h1
  have h2:=h1.inv_d
  generalize hc:a.eval x=cc at h2
  split at hr
  ·rename_i n hn
   unfold qDi at hn
   split at hn
   ·simp only [Option.some.injEq] at hn
    subst hn
    cases h2
    exact qb hd hR (.s (.d _ _ (.i .i64 _))) (run hc) hr
   ·simp only [Option.some.injEq] at hn
    subst hn
    cases h2 with
    | sl0 ad cap=>exact qb hd hR (.s (.d _ _ (.i .i64 _))) (run hc) hr
    | sl _ b off cap sz vs hne hs hrep hcell hpub hcap hone=>exact qb hd hR (.s (.d _ _ (.i .i64 _))) (run hc) hr
   ·cases hn
  ·cases hr
 ·rename_i id off n m hz
  rw [hz] at h1
  generalize hc:a.eval x=cc at h1
  cases h1 with
  | s h1=>cases h1 with
   | rs _ _ _ _ _ hid hcap _=>exact qb hd hR (.s (.d _ _ (.i .i64 _))) (run hc) hr
 ·rename_i id sz n hz
  rw [hz] at h1
  generalize hc:a.eval x=cc at h1
  cases h1 with
  | s h1=>cases h1 with
   | row _ _ _ _ hid hcap _=>exact qb hd hR (.s (.d _ _ (.i .i64 _))) (run hc) hr
 ·cases hr
theorem qBU (hd:qg o a) (hR:Rel M g w β st a.tmps) {c:Go.Call} (hcal:c.callee=.builtin .len) {s k e:TypeId} (hats:c.argTypes.toList=[s]) (hu:P.underlying s=some (.map k e)) {x':O} (hx:opnds M (fun _=>false) 0 c.args.toList=some [x'])
  (ho:o.op=.call c) {r:Or} (hr:qol x' st=some r):Left1 P M g w o a r:=by
 obtain ⟨x,hargs,hx1⟩:=qpc hx
 have h1:=qf hR hx1
 obtain ⟨cal,args,ats⟩:=c
 simp only at hcal hats hargs
 subst hcal
 unfold qol at hr
 split at hr
 ·rename_i hz
  rw [hz] at h1
  have h2:=h1.inv_d
  generalize hc:a.eval x=cc at h2
  cases h2
  refine qb hd hR (.s (.d _ _ (.i .i64 _))) (qpZ (ty:=0) ho hargs hats (fun ty=>?_)) hr
  simp [Go.Builtin.len_,Go.run_underlying hu,hc,Go.goInt]
 ·rename_i id hz
  rw [hz] at h1
  generalize hc:a.eval x=cc at h1
  cases h1 with
  | s h1=>cases h1 with
   | map _ hid=>
    split at hr
    ·rename_i es hH
     have hO:=hR.h id _ hH
     cases hO with
     | map _ ents clock hb ho' hr'=>
      have hl:es.length=ents.size:=by simpa using hr'.length
      refine qb hd hR (.s (.d _ _ (.i .i64 _))) (qpZ (ty:=0) ho hargs hats (fun ty=>?_)) hr
      have hg:(Go.getObj (g.φ id)).run P w=.ok (.map ents clock) w:=by simp [Go.getObj,Sem.run,hb]
      simp only [Go.Builtin.len_,hc]
      simp [Go.run_underlying hu,hg,Go.goInt,hl]
    ·cases hr
 ·cases hr
end
end W
/-
  Maps looked into; the greatest, the least.
-/
namespace W
open Go (World Value Addr IntKind Program TypeId FuncId Operand Act Oper Next Result Sem BinOp UnOp)
theorem qgN {P:Program} {kt:TypeId} {kk:Nat} {dd:Go.TypeDesc} (hk:qay P kt=some kk) (hu:P.underlying kt=some dd) {pub:Nat->Nat} {w:World} {k k':D} {c c':Value} (hg:zt kk k=true)
  (h:RepD pub w k c) (h':RepD pub w k' c') {z:Bool} (hs:k.same k'=some z):Go.Instr.sameNow dd c c'=some z:=by
 unfold qay at hk
 rw [hu] at hk
 unfold zt at hg
 split at hg
 ·cases h;cases h'<;>simp only [D.same,Option.some.injEq,reduceCtorEq] at hs
  split at hk<;>simp only [Option.some.injEq,reduceCtorEq] at hk<;>(try omega)
  rename_i e;injection e with e;subst e;subst hs;rfl
 ·cases h;cases h'<;>simp only [D.same,Option.some.injEq,reduceCtorEq] at hs
  rename_i k1 n1 k2 n2
  cases hkk:eqK k1 k2 with
  | false=>simp [hkk] at hs
  | true=>
   have:=qnu hkk
   subst this
   simp only [hkk,cond_true,Option.some.injEq] at hs
   split at hk<;>simp only [Option.some.injEq,reduceCtorEq] at hk<;>(try omega)
   rename_i e;injection e with e;subst e;subst hs
   simp [Go.Instr.sameNow,qkW]
 ·cases h;cases h'<;>simp only [D.same,Option.some.injEq,reduceCtorEq] at hs
  rename_i b1 h1 t2 b2 h2
  split at hk<;>simp only [Option.some.injEq,reduceCtorEq] at hk<;>(try omega)
  rename_i e;injection e with e;subst e;subst hs;subst h1;subst h2
  simp only [Go.Instr.sameNow,qq7,qm9,Go.beq_toListBytes]
 ·cases hg
theorem qk2 {P:Program} {M:Maps} {g:Gh} {w:World} {kt:TypeId} {kk:Nat} {dd:Go.TypeDesc} (hk:qay P kt=some kk) (hu:P.underlying kt=some dd) {k:D} {c:Value} (hg:zt kk k=true)
  (h:RepD g.pub w k c):∀{es:List (D × V)} {ents:List Go.MapEntry} (j:Nat) {r:Option V},RepEs M g w es ents->qcy k es=some r->
  match r with
  | none=>Go.Instr.findNow dd c ents j=some none
  | some v=>∃i e,ents[i]?=some e/\Go.Instr.findNow dd c ents j=some (some (j+i,e.val))/\RepS M g w v e.val/\(∃k',es[i]?=some (k',v)/\k.same k'=some true/\RepD g.pub w k' e.key)
 | _,_,j,r,.nil,hf=>by
  simp only [qcy,Option.some.injEq] at hf
  subst hf
  rfl
 | _,_,j,r,.cons k' x e es ents hk' hgk hx hl,hf=>by
  simp only [qcy] at hf
  split at hf
  ·rename_i hs
   simp only [Option.some.injEq] at hf
   subst hf
   refine ⟨0,e,rfl,?_,hx,k',rfl,hs,hk'⟩
   simp only [Go.Instr.findNow,qgN hk hu hg h hk' hs,Nat.add_zero]
  ·rename_i hs
   have ih:=qk2 hk hu hg h (j+1) hl hf
   have e1:Go.Instr.findNow dd c (e::ents) j=Go.Instr.findNow dd c ents (j+1):=by simp only [Go.Instr.findNow,qgN hk hu hg h hk' hs]
   cases r with
   | none=>simp only at ih |-;rw [e1];exact ih
   | some v=>
    simp only at ih |-
    obtain ⟨i,en,h1,h2,h3,k'',h4,h5,h6⟩:=ih
    exact ⟨i+1,en,by simpa using h1,by rw [e1,h2];congr 3;omega,h3,k'',by simpa using h4,h5,h6⟩
  ·cases hf
theorem qhA {P:Program} {kt:TypeId} {kk:Nat} (hk:qay P kt=some kk):∃dd,P.underlying kt=some dd/\(∀m,dd≠.interface m)/\(∀n e,dd≠.array n e)/\(∀fs,dd≠.struct fs):=by
 unfold qay at hk
 split at hk
 ·exact ⟨_,by assumption,by simp,by simp,by simp⟩
 ·exact ⟨_,by assumption,by simp,by simp,by simp⟩
 ·exact ⟨_,by assumption,by simp,by simp,by simp⟩
 ·cases hk
theorem qbc {P:Program} {w:World} {kt:TypeId} {kk:Nat} (hk:qay P kt=some kk) (e:Bool) (v:Value):(Go.Instr.checkKey e 10000 kt v).run P w=.ok () w:=by
 obtain ⟨dd,hu,h1,h2,h3⟩:=qhA hk
 have:Go.Instr.checkKey e 10000 kt v=Go.Instr.checkKey e (9999+1) kt v:=rfl
 rw [this,Go.Instr.checkKey,Sem.run_bind,Go.run_underlying hu]
 cases dd<;>first|(exact absurd rfl (h1 _))|(exact absurd rfl (h2 _ _))|(exact absurd rfl (h3 _))|rfl|(cases v<;>rfl)
theorem qdm {P:Program} {w:World} {kt:TypeId} {dd:Go.TypeDesc} (hu:P.underlying kt=some dd) {c:Value} {ents:List Go.MapEntry} {r:Option (Nat × Value)} (h:Go.Instr.findNow dd c ents 0=some r) :
  (Go.Instr.findKey kt c ents).run P w=.ok r w:=by
 unfold Go.Instr.findKey
 rw [Sem.run_bind,Go.run_underlying hu]
 simp only [Result.andThen_ok,h,Sem.run_pure]
theorem kR {P:Program} {t:TypeId} {z:D} (h:zE P t=some z):∃i v,P.info? t=some i/\i.zero=some v/\toD v=some z:=by
 unfold zE at h
 split at h
 ·rename_i i hi
  split at h
  ·rename_i v hv;exact ⟨i,v,hi,hv,h⟩
  ·cases h
 ·cases h
theorem qlM {P:Program} {w:World} {t:TypeId} {i:Go.TypeInfo} {v:Value} (hi:P.info? t=some i) (hv:i.zero=some v):(Go.zeroValue t).run P w=.ok v w:=by
 simp [Go.zeroValue,Go.typeInfo,hi,hv]
section
variable {P:Program} {M:Maps} {g:Gh} {w:World} {β:Nat->Nat} {st:St} {o:Oper} {a:Act}
theorem qwy (hd:qg o a) (hR:Rel M g w β st a.tmps) {t kt e:TypeId} (hu:P.underlying t=some (.map kt e)) {kk:Nat} (hk:qay P kt=some kk) {zero:D} (hz:zE P e=some zero)
  {x i:Operand} {x' i':O} (hx:opnd M false x=some x') (hi:opnd M false i=some i') {c:Bool} (ho:o.op=.lookup t x i c) {r:Or} (hr:zH kk zero x' i' c st=some r):Left1 P M g w o a r:=by
 have h1:=qf hR hx
 have h2:=qf hR hi
 obtain ⟨inf,zv,hinf,hzv,htd⟩:=kR hz
 obtain ⟨dd,hdd,_⟩:=qhA hk
 have hzrep:RepD g.pub w zero zv:=zO g.pub w zv zero htd
 have fin:∀{v:V} {val:Value} {b:Bool},RepS M g w v val->(Go.execOp a.eval o).run P w=.ok (.value (if c then .tuple #[val,.bool b] else val)) w->
   ok (bif c then .tup [v,.d (.b b)] else v) st=some r->Left1 P M g w o a r:=by
  intro v val b hv hrun hr
  cases c with
  | false=>exact qb hd hR (.s hv) (by simpa using hrun) (by simpa using hr)
  | true=>exact qb hd hR (.s (.tup _ #[val,.bool b] (.cons _ _ _ _ hv (.cons _ _ _ _ (.d _ _ (.b b)) .nil)))) (by simpa using hrun) (by simpa using hr)
 have hrun0:(Go.execOp a.eval o).run P w=((Go.Instr.lookup t (a.eval x) (a.eval i) c).run P w).andThen fun v w'=>.ok (.value v) w':=by
  simp only [Go.execOp,ho]
  rw [Sem.run_bind]
  rfl
 unfold zH at hr
 split at hr
 ·rename_i key hm hkey
  rw [hm] at h1;rw [hkey] at h2
  split at hr
  ·rename_i hgood
   have h3:=h1.inv_d
   generalize hc1:a.eval x=cx at h3
   cases h3
   refine fin (b:=false) (.d _ _ hzrep) ?_ hr
   rw [hrun0,hc1]
   have hf:(Go.Instr.findKey kt (a.eval i) []).run P w=.ok none w:=qdm hdd rfl
   simp only [Go.Instr.lookup,Sem.run_bind,Go.run_underlying hu,Result.andThen_ok,Sem.run_pure,qbc hk,hf,qlM hinf hzv]
  ·cases hr
 ·rename_i id key hm hkey
  rw [hm] at h1;rw [hkey] at h2
  split at hr
  ·rename_i es hH
   split at hr
   ·rename_i hgood
    generalize hc1:a.eval x=cx at h1
    cases h1 with
    | s h1=>cases h1 with
     | map _ hid=>
      have hO:=hR.h id _ hH
      cases hO with
      | map _ ents clock hb ho' hr'=>
       have hg:(Go.getObj (g.φ id)).run P w=.ok (.map ents clock) w:=by simp [Go.getObj,Sem.run,hb]
       split at hr
       ·rename_i v hf
        have:=qk2 hk hdd hgood h2.inv_d 0 hr' hf
        simp only at this
        obtain ⟨j,en,e1,e2,e3,_⟩:=this
        refine fin (v:=copy v) (b:=true) (qn2 e3) ?_ hr
        rw [hrun0,hc1]
        simp only [Go.Instr.lookup,Sem.run_bind,Go.run_underlying hu,Result.andThen_ok,hg,Sem.run_pure,qbc hk,qdm hdd e2]
       ·rename_i hf
        have:=qk2 hk hdd hgood h2.inv_d 0 hr' hf
        simp only at this
        refine fin (b:=false) (.d _ _ hzrep) ?_ hr
        rw [hrun0,hc1]
        simp only [Go.Instr.lookup,Sem.run_bind,Go.run_underlying hu,Result.andThen_ok,hg,Sem.run_pure,qbc hk,qdm hdd this,qlM hinf hzv]
       ·cases hr
   ·cases hr
  ·cases hr
 ·cases hr
theorem qyL {k:IntKind}:∀{l:List V} {vs:List Value} {x:Int} {v:V},RepSL M g w l vs->qbE k x l=some v->∃n,v=.d (.i k n)/\(vs.foldlM Go.Builtin.max2 (.int k x)).run P w=.ok (.int k n) w
 | [],_,x,v,.nil,h=>by
  simp only [qbE,Option.some.injEq] at h
  exact ⟨x,h.symm,rfl⟩
 | _,_,x,v,.cons y c l vs hy hl,h=>by
  cases y with
  | d y=>cases y with
   | i k' n=>
    simp only [qbE] at h
    cases hy with
    | d _ _ hy=>
     have e:=jp hy
     subst e
     obtain ⟨m,e1,e2⟩:=qyL hl h
     refine ⟨m,e1,?_⟩
     rw [List.foldlM_cons,Sem.run_bind]
     simp only [Go.Builtin.max2,Sem.run_pure,Result.andThen_ok]
     exact e2
   | _=>simp [qbE] at h
  | _=>simp [qbE] at h
theorem qyB {k:IntKind}:∀{l:List V} {vs:List Value} {x:Int} {v:V},RepSL M g w l vs->qbk k x l=some v->∃n,v=.d (.i k n)/\(vs.foldlM Go.Builtin.min2 (.int k x)).run P w=.ok (.int k n) w
 | [],_,x,v,.nil,h=>by
  simp only [qbk,Option.some.injEq] at h
  exact ⟨x,h.symm,rfl⟩
 | _,_,x,v,.cons y c l vs hy hl,h=>by
  cases y with
  | d y=>cases y with
   | i k' n=>
    simp only [qbk] at h
    cases hy with
    | d _ _ hy=>
     have e:=jp hy
     subst e
     obtain ⟨m,e1,e2⟩:=qyB hl h
     refine ⟨m,e1,?_⟩
     rw [List.foldlM_cons,Sem.run_bind]
     simp only [Go.Builtin.min2,Sem.run_pure,Result.andThen_ok]
     exact e2
   | _=>simp [qbk] at h
  | _=>simp [qbk] at h
theorem quv (hR:Rel M g w β st a.tmps) {xs:List Operand} {ys:List O} {k:Nat} (h:opnds M (fun _=>false) k xs=some ys) (hn:∀v ∈ ys.map (rd st.env),v.ok=true):RepSL M g w (ys.map (rd st.env)) (xs.map a.eval):=by
 refine qii hR h ?_
 have:∀l:List V,(∀v ∈ l,v.ok=true)->V.ok.oks l=true:=by
  intro l
  induction l with
  | nil=>intro _;rfl
  | cons v l ih=>intro h;simp only [V.ok.oks,qOy];exact ⟨h v (by simp),ih fun u hu=>h u (by simp [hu])⟩
 exact this _ hn
theorem qrl {k:IntKind}:∀{l:List V} {x:Int} {v:V},qbE k x l=some v->∀u ∈ l,u.ok=true
 | [],_,_,_=>by simp
 | y::l,x,v,h=>by
  cases y with
  | d y=>cases y with
   | i k' n=>
    simp only [qbE] at h
    intro u hu
    cases hu with
    | head=>rfl
    | tail _ hu=>exact qrl h u hu
   | _=>simp [qbE] at h
  | _=>simp [qbE] at h
theorem qrd {k:IntKind}:∀{l:List V} {x:Int} {v:V},qbk k x l=some v->∀u ∈ l,u.ok=true
 | [],_,_,_=>by simp
 | y::l,x,v,h=>by
  cases y with
  | d y=>cases y with
   | i k' n=>
    simp only [qbk] at h
    intro u hu
    cases hu with
    | head=>rfl
    | tail _ hu=>exact qrd h u hu
   | _=>simp [qbk] at h
  | _=>simp [qbk] at h
theorem qD8 (hd:qg o a) (hR:Rel M g w β st a.tmps) {c:Go.Call} (hcal:c.callee=.builtin .max) {ys:List O} (hx:opnds M (fun _=>false) 0 c.args.toList=some ys)
  (ho:o.op=.call c) {v:V} (hv:qtE (ys.map (rd st.env))=some v) {r:Or} (hr:ok v st=some r):Left1 P M g w o a r:=by
 obtain ⟨cal,args,ats⟩:=c
 simp only at hcal
 subst hcal
 cases hl:ys.map (rd st.env) with
 | nil=>simp [hl,qtE] at hv
 | cons y l=>
  cases y with
  | d y=>cases y with
   | i k n=>
    rw [hl] at hv
    simp only [qtE] at hv
    have hrep:=quv hR hx (by
     rw [hl]
     intro u hu
     cases hu with
     | head=>rfl
     | tail _ hu=>exact qrl hv u hu)
    rw [hl] at hrep
    generalize hargs:args.toList.map a.eval=vs at hrep
    cases hrep with
    | cons _ c0 _ vs' h0 hl'=>
     cases h0 with
     | d _ _ h0=>
      have e:=jp h0
      subst e
      obtain ⟨m,e1,e2⟩:=qyL (P:=P) hl' hv
      subst e1
      refine qb hd hR (.s (.d _ _ (.i k m))) ?_ hr
      have he:(args.map a.eval).toList=.int k n::vs':=by simpa using hargs
      simp only [Go.execOp,ho,Go.resolve,Go.invoke,Go.builtin,Sem.run_bind,Sem.run_pure,Result.andThen_ok,Go.Builtin.max_,he,e2]
   | _=>rw [hl] at hv;simp [qtE] at hv
  | _=>rw [hl] at hv;simp [qtE] at hv
theorem qET (hd:qg o a) (hR:Rel M g w β st a.tmps) {c:Go.Call} (hcal:c.callee=.builtin .min) {ys:List O} (hx:opnds M (fun _=>false) 0 c.args.toList=some ys)
  (ho:o.op=.call c) {v:V} (hv:qs0 (ys.map (rd st.env))=some v) {r:Or} (hr:ok v st=some r):Left1 P M g w o a r:=by
 obtain ⟨cal,args,ats⟩:=c
 simp only at hcal
 subst hcal
 cases hl:ys.map (rd st.env) with
 | nil=>simp [hl,qs0] at hv
 | cons y l=>
  cases y with
  | d y=>cases y with
   | i k n=>
    rw [hl] at hv
    simp only [qs0] at hv
    have hrep:=quv hR hx (by
     rw [hl]
     intro u hu
     cases hu with
     | head=>rfl
     | tail _ hu=>exact qrd hv u hu)
    rw [hl] at hrep
    generalize hargs:args.toList.map a.eval=vs at hrep
    cases hrep with
    | cons _ c0 _ vs' h0 hl'=>
     cases h0 with
     | d _ _ h0=>
      have e:=jp h0
      subst e
      obtain ⟨m,e1,e2⟩:=qyB (P:=P) hl' hv
      subst e1
      refine qb hd hR (.s (.d _ _ (.i k m))) ?_ hr
      have he:(args.map a.eval).toList=.int k n::vs':=by simpa using hargs
      simp only [Go.execOp,ho,Go.resolve,Go.invoke,Go.builtin,Sem.run_bind,Sem.run_pure,Result.andThen_ok,Go.Builtin.min_,he,e2]
   | _=>rw [hl] at hv;simp [qs0] at hv
  | _=>rw [hl] at hv;simp [qs0] at hv
end
end W
/-
  New memory: a block more; a box in a slot; an object more.
-/
namespace W
open Go (World Value Addr IntKind Program TypeId FuncId Operand Act Oper Next Result Sem BinOp UnOp)
def Gh.withNew (g:Gh) (b:Nat) (ℓ:Option Loc) (p:Nat):Gh:={g with own:=fun x=>if x=b then ℓ else g.own x,pub:=fun x=>if x=b then p else g.pub x}
theorem qO (w:World) (o:Go.Obj) {b:Nat} (h:b<w.heap.size):(w.alloc o).heap[b]?=w.heap[b]?:=by
 show (w.heap.push o)[b]?=_
 simp [Array.getElem?_push,Nat.ne_of_lt h]
theorem qK (w:World) (o:Go.Obj):(w.alloc o).heap[w.heap.size]?=some o:=by
 show (w.heap.push o)[w.heap.size]?=_
 simp
structure Fresh (g:Gh) (w:World):Prop where
 f:∀b,w.heap.size<=b->g.own b=none/\g.pub b=0
theorem Rel.fr {M:Maps} {g:Gh} {w:World} {β:Nat->Nat} {st:St} {tmps:Array Value} (h:Rel M g w β st tmps):Fresh g w:=⟨h.fresh⟩
section
variable {g:Gh} {w:World} (hf:Fresh g w) (ℓ:Option Loc) (p:Nat) (o:Go.Obj)
 include hf
theorem qaM:Grow g w (g.withNew w.heap.size ℓ p) (w.alloc o):=
 ⟨by simp,fun b=>by
  show g.pub b<=(if b=w.heap.size then p else g.pub b)
  split
  ·rename_i e;subst e;rw [(hf.f _ (qOB _)).2];exact Nat.zero_le _
  ·exact qOB _,fun b off ho=>by
  have hb:b<w.heap.size:=by
   rcases Nat.lt_or_ge b w.heap.size with h|h
   ·exact h
   ·rw [(hf.f b h).2] at ho;omega
  exact zu (qO w o hb) off⟩
theorem qcr (ℓ':Loc):Kept g w (g.withNew w.heap.size ℓ p) (w.alloc o) ℓ':=
 ⟨fun b hb=>by
  have hlt:b<w.heap.size:=by
   rcases Nat.lt_or_ge b w.heap.size with h|h
   ·exact h
   ·rw [(hf.f b h).1] at hb;cases hb
  have hne:b≠w.heap.size:=by omega
  exact ⟨by simp [Gh.withNew,hne,hb],qO w o hlt,by simp [Gh.withNew,hne]⟩⟩
theorem z8:Evo g w (g.withNew w.heap.size ℓ p) (w.alloc o):=
 ⟨qaM hf ℓ p o,qOB _,fun _ _=>rfl,fun b hb _=>by
  have hne:b≠w.heap.size:=by omega
  exact ⟨by simp [Gh.withNew,hne],qO w o hb,by simp [Gh.withNew,hne]⟩,⟨rfl,rfl⟩⟩
theorem quq:Fresh (g.withNew w.heap.size ℓ p) (w.alloc o):=
 ⟨fun b hb=>by
  simp only [World.size_alloc] at hb
  have hne:b≠w.heap.size:=by omega
  have:=hf.f b (by omega)
  simpa [Gh.withNew,hne] using this⟩
end
theorem Rel.alloc {M:Maps} {g:Gh} {w:World} {β:Nat->Nat} {st:St} {tmps:Array Value} (h:Rel M g w β st tmps) (ℓ:Option Loc) (p:Nat) (o:Go.Obj) :
  Rel M (g.withNew w.heap.size ℓ p) (w.alloc o) β st tmps:=by
 have hf:=h.fr
 refine ⟨h.n,fun k=>?_,fun id ob hob=>?_,(quq hf ℓ p o).f,h.gl.mono (qaM hf ℓ p o)⟩
 ·exact (h.e k).mono (qaM hf ℓ p o) (qOB _) (fun _ _=>rfl) (qcr hf ℓ p o _) (qcr hf ℓ p o _) (fun i=>qcr hf ℓ p o _)
 ·exact (h.h id ob hob).mono (qaM hf ℓ p o) (qOB _) (fun _ _=>rfl) (by rw [h.n];exact (List.getElem?_eq_some_iff.1 hob).1) (qcr hf ℓ p o _) (fun i=>qcr hf ℓ p o _)
theorem qmR (s k:Nat):∀e:Env,get k (qbt s e)=match get k e with | .lp t o=>bif qOC t s then .undef else .lp t o|v=>v
 | []=>rfl
 | (n,v)::e=>by
  simp only [qbt,qc]
  by_cases h:k=n
  ·simp only [h,if_true];all_goals (cases v<;>rfl)
  ·simp only [h,if_false];exact qmR s k e
theorem Rel.putBox {M:Maps} {g:Gh} {w:World} {β:Nat->Nat} {st:St} {tmps:Array Value} (h:Rel M g w β st tmps) {n:Nat} (hn:n<tmps.size) {cs:List V} {b:Nat} {arr:Array Value} {T:TypeId}
  (hb:w.heap[b]?=some (.cells arr T (0,0))) (ho:g.own b=some (.bblk n)) (hp:g.pub b=0) (hl:cs.length=arr.size) (hr:∀(i:Nat) x v,cs[i]?=some x->arr[i]?=some v->RepC M g w (.bcell n i) x v) :
  Rel M g w (fun k=>if k=n then b else β k) {st with env:=(n,.box cs)::qbt n st.env} (tmps.setIfInBounds n (.pointer (some ⟨b,0,none⟩))):=by
 refine ⟨h.n,fun k=>?_,h.h,h.fresh,h.gl⟩
 show RepT M g w _ k (get k ((n,.box cs)::qbt n st.env)) _
 rw [qc,qvh _ _ _ _ hn]
 by_cases hk:k=n
 ·subst hk
  simp only [if_true]
  have:=RepT.box (M:=M) (g:=g) (w:=w) (β:=fun x=>if x=k then b else β x) (k:=k) cs arr T (by simpa using hb) (by simpa using ho) (by simpa using hp) hl hr
  simpa using this
 ·simp only [hk,if_false,qmR]
  have:=h.e k
  generalize get k st.env=v at this
  generalize tmps.getD k Go.undef=c at this
  cases this with
  | s h=>cases h<;>exact .s (by constructor<;>assumption)
  | osl h=>exact .osl h
  | lp s off=>
   simp only
   by_cases hs:s=n
   ·subst hs
    have:qOC s s=true:=by simp
    rw [this];exact .s (.undef _)
   ·have hb':qOC s n=false:=by rw [Bool.eq_false_iff];intro e;exact hs (qOz e)
    rw [hb']
    have:=RepT.lp (M:=M) (g:=g) (w:=w) (β:=fun x=>if x=n then b else β x) (k:=k) s off
    simpa [hs] using this
  | cp x b off vs hr hc hp=>exact .cp x b off vs hr hc hp
  | box cs' arr' T' hb' ho' hp' hl' hr'=>
   have:=RepT.box (M:=M) (g:=g) (w:=w) (β:=fun x=>if x=n then b else β x) (k:=k) cs' arr' T' (by simpa [hk] using hb') (by simpa [hk] using ho') (by simpa [hk] using hp') hl' hr'
   simpa [hk] using this
def Gh.withObj (g:Gh) (b:Nat) (c:Nat:=0):Gh:={n:=g.n+1,Φ:=fun id=>if id=g.n then (b,c) else g.Φ id,pub:=g.pub,own:=fun x=>if x=b then some (.oblk g.n) else g.own x}
theorem Rel.newObj {M:Maps} {g:Gh} {w:World} {β:Nat->Nat} {st:St} {tmps:Array Value} (h:Rel M g w β st tmps) (ob:Obj) (o:Go.Obj) {c:Nat}
  (hrep:RepO M (g.withObj w.heap.size c) (w.alloc o) g.n ob) :
  Rel M (g.withObj w.heap.size c) (w.alloc o) β {st with H:=st.H++[ob]} tmps/\Evo g w (g.withObj w.heap.size c) (w.alloc o):=by
 have hf:=h.fr
 have hg:Grow g w (g.withObj w.heap.size c) (w.alloc o):=⟨by simp,fun _=>qOB _,fun b off ho=>by
  have hb:b<w.heap.size:=by
   rcases Nat.lt_or_ge b w.heap.size with h|h
   ·exact h
   ·rw [(hf.f b h).2] at ho;omega
  exact zu (qO w o hb) off⟩
 have hk:∀ℓ,Kept g w (g.withObj w.heap.size c) (w.alloc o) ℓ:=fun ℓ=>⟨fun b hb=>by
  have hlt:b<w.heap.size:=by
   rcases Nat.lt_or_ge b w.heap.size with h|h
   ·exact h
   ·rw [(hf.f b h).1] at hb;cases hb
  have hne:b≠w.heap.size:=by omega
  exact ⟨by simp [Gh.withObj,hne,hb],qO w o hlt,rfl⟩⟩
 have hn:g.n<=(g.withObj w.heap.size c).n:=Nat.le_succ _
 have hφ:∀id,id<g.n->(g.withObj w.heap.size c).Φ id=g.Φ id:=fun id hi=>by
  have:id≠g.n:=by omega
  simp [Gh.withObj,this]
 refine ⟨⟨?_,fun k=>?_,fun id ob' hob=>?_,fun b hb=>?_,h.gl.mono hg⟩,hg,hn,hφ,fun b hb _=>?_,⟨rfl,rfl⟩⟩
 ·show g.n+1=(st.H++[ob]).length
  simp [h.n]
 ·exact (h.e k).mono hg hn hφ (hk _) (hk _) (fun i=>hk _)
 ·rw [List.getElem?_append] at hob
  split at hob
  ·rename_i hlt
   exact (h.h id ob' hob).mono hg hn hφ (by rw [h.n];exact hlt) (hk _) (fun i=>hk _)
  ·rename_i hge
   have:id - st.H.length=0:=by
    rcases Nat.eq_zero_or_pos (id - st.H.length) with h0|h0
    ·exact h0
    ·rw [List.getElem?_eq_none (by simp;omega)] at hob;cases hob
   rw [this] at hob
   simp only [List.getElem?_cons_zero,Option.some.injEq] at hob
   subst hob
   have:id=g.n:=by rw [h.n];omega
   rw [this];exact hrep
 ·simp only [World.size_alloc] at hb
  have hne:b≠w.heap.size:=by omega
  have:=hf.f b (by omega)
  simpa [Gh.withObj,hne] using this
 ·have hne:b≠w.heap.size:=by omega
  exact ⟨by simp [Gh.withObj,hne],qO w o hb,rfl⟩
end W
