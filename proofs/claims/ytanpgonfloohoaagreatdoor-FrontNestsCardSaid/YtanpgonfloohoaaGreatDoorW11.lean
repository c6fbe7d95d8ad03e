/-
  FrontNests, part 11.
-/
import Derived.Test.YtanpgonfloohoaaGreatDoorW7
/-
  The same evaluator, in forms that the kernel reckons fast.
-/
set_option linter.unusedSimpArgs false
set_option linter.unusedVariables false
open Bool renaming cond_eq_ite→qIU,and_eq_true→qIV,false_eq_true→qI1,not_true→qI6
open Option renaming bind_eq_some_iff→qIW,bind_eq_bind→qIZ,pure_def→qI2,map_some→qI5
open Nat renaming eq_of_beq_eq_true→qIX,le_refl→qIY,beq→qI0
open List renaming length_nil→qI3,length_cons→qI4
namespace W
open Go (IntKind BinOp UnOp)
noncomputable def fget (n:Nat) (e:Env):V:=List.rec (motive:=fun _=>V) .undef (fun p _ ih=>Bool.rec ih p.2 (qI0 n p.1)) e
theorem y1 (n:Nat) (e:Env):fget n e=get n e:=by
 induction e with
 | nil=>rfl
 | cons p e ih=>
  obtain ⟨m,v⟩:=p
  show Bool.rec (fget n e) v (qI0 n m)=bif qI0 n m then v else get n e
  rw [ih]
  cases qI0 n m<;>rfl
noncomputable def quO {α:Type} (l:List α) (n:Nat):Option α:=
 List.rec (motive:=fun _=>Nat→Option α) (fun _=>none) (fun x _ ih n=>Nat.rec (motive:=fun _=>Option α) (some x) (fun m _=>ih m) n) l n
theorem qs9 {α:Type} (l:List α) (n:Nat):quO l n=l[n]?:=by
 induction l generalizing n with
 | nil=>rfl
 | cons x l ih=>
  cases n with
  | zero=>rfl
  | succ n=>exact ih n
noncomputable def tl4 {α:Type} (l:List α):List α:=List.rec (motive:=fun _=>List α) [] (fun _ t _=>List.rec (motive:=fun _=>List α) [] (fun _ t _=>List.rec (motive:=fun _=>List α) [] (fun _ t _=>List.rec (motive:=fun _=>List α) [] (fun _ t _=>t) t) t) t) l
theorem qEs {α:Type} (l:List α):tl4 l=l.drop 4:=by
 rcases l with _|⟨_,_|⟨_,_|⟨_,_|⟨_,l⟩⟩⟩⟩<;>rfl
noncomputable def qtg {α:Type} (l:List α) (q:Nat):List α:=Nat.rec (motive:=fun _=>List α) l (fun _ ih=>tl4 (tl4 (tl4 (tl4 ih)))) q
theorem qod {α:Type} (l:List α):∀q,qtg l q=l.drop (16 * q)
 | 0=>rfl
 | q+1=>by
  show tl4 (tl4 (tl4 (tl4 (qtg l q))))=_
  simp only [qEs,qod l q,List.drop_drop]
  congr 1
noncomputable def fnth {α:Type} (l:List α) (n:Nat):Option α:=
 Nat.rec (motive:=fun _=>Option α) (quO l n) (fun q _=>quO (qtg l (Nat.succ q)) (Nat.mod n 16)) (Nat.div n 16)
theorem jb {α:Type} (l:List α) (n:Nat):fnth l n=l[n]?:=by
 unfold fnth
 have e:Nat.div n 16=n / 16:=rfl
 rw [e]
 cases hq:n / 16 with
 | zero=>exact qs9 l n
 | succ q=>
  show quO (qtg l (q+1)) (n % 16)=_
  rw [qs9,qod,List.getElem?_drop]
  congr 1
  omega
noncomputable def frd (e:Env) (o:O):V:=O.rec (motive:=fun _=>V) (fun n=>qg5 n (fget n e)) (fun x=>.d x) (fun i=>.fn i [] []) (fun n=>qif (fget n e)) (fun _ x=>.cp x) o
theorem qan (e:Env) (o:O):frd e o=rd e o:=by cases o<;>simp only [frd,y1]<;>rfl
noncomputable def qo {α:Type} (a:Nat) (k:Nat→α):α:=Nat.rec (motive:=fun _=>α) (k 0) (fun m _=>k (Nat.succ m)) a
noncomputable def qnN {α:Type} (n:Int) (k:Int→α):α:=Int.rec (motive:=fun _=>α) (fun a=>qo a fun a=>k (.ofNat a)) (fun a=>qo a fun a=>k (.negSucc a)) n
noncomputable def qus {α:Type} (b:Bool) (k:Bool→α):α:=Bool.rec (motive:=fun _=>α) (k false) (k true) b
theorem kz {α:Type} (a:Nat) (k:Nat→α):qo a k=k a:=by cases a<;>rfl
theorem qmQ {α:Type} (n:Int) (k:Int→α):qnN n k=k n:=by
 cases n with
 | ofNat a=>exact kz a fun a=>k (.ofNat a)
 | negSucc a=>exact kz a fun a=>k (.negSucc a)
theorem qpu {α:Type} (b:Bool) (k:Bool→α):qus b k=k b:=by cases b<;>rfl
noncomputable def qtN {α:Type} (l:List Nat) (k:List Nat→α):α:=
 List.rec (motive:=fun _=>(List Nat→α)→α) (fun k=>k []) (fun x _ ih k=>qo x fun x=>ih fun r=>k (x::r)) l k
theorem qv6 {α:Type} (l:List Nat) (k:List Nat→α):qtN l k=k l:=by
 induction l generalizing k with
 | nil=>rfl
 | cons x l ih=>exact (kz x fun x=>qtN l fun r=>k (x::r)).trans (ih fun r=>k (x::r))
noncomputable def jo {β α:Type} (f:β→(β→α)→α) (l:List β) (k:List β→α):α:=
 List.rec (motive:=fun _=>(List β→α)→α) (fun k=>k []) (fun x _ ih k=>f x fun x=>ih fun r=>k (x::r)) l k
theorem ky {β α:Type} {f:β→(β→α)→α} (hf:∀x k,f x k=k x) (l:List β) (k:List β→α):jo f l k=k l:=by
 induction l generalizing k with
 | nil=>rfl
 | cons x l ih=>exact (hf x fun x=>jo f l fun r=>k (x::r)).trans (ih fun r=>k (x::r))
noncomputable def qhM {α:Type} (x:D) (k:D→α):α:=
 D.casesOn (motive_1:=fun _=>α) x (fun z=>qus z fun z=>k (.b z)) (fun kk n=>qnN n fun n=>k (.i kk n)) (fun t=>k (.s t)) (k .nil) (fun xs=>k (.sl xs)) (fun cs=>k (.agg cs)) (k .np) (k .nf) (k .ni) (k .nm)
theorem qcb {α:Type} (x:D) (k:D→α):qhM x k=k x:=by
 cases x with
 | b z=>exact qpu z fun z=>k (.b z)
 | i kk n=>exact qmQ n fun n=>k (.i kk n)
 | _=>rfl
noncomputable def qe8 {α:Type} (x:D) (k:D→α):α:=
 D.casesOn (motive_1:=fun _=>α) x (fun z=>qus z fun z=>k (.b z)) (fun kk n=>qnN n fun n=>k (.i kk n)) (fun t=>qtN t fun t=>k (.s t)) (k .nil) (fun xs=>jo qhM xs fun xs=>k (.sl xs)) (fun cs=>jo qhM cs fun cs=>k (.agg cs)) (k .np) (k .nf) (k .ni) (k .nm)
theorem yr {α:Type} (x:D) (k:D→α):qe8 x k=k x:=by
 cases x with
 | b z=>exact qpu z fun z=>k (.b z)
 | i kk n=>exact qmQ n fun n=>k (.i kk n)
 | s t=>exact qv6 t fun t=>k (.s t)
 | sl xs=>exact ky qcb xs fun xs=>k (.sl xs)
 | agg xs=>exact ky qcb xs fun xs=>k (.agg xs)
 | _=>rfl
noncomputable def yi {α:Type} (v:V) (k:V→α):α:=
 V.casesOn (motive_1:=fun _=>α) v (fun x=>qhM x fun x=>k (.d x)) (fun xs=>k (.osl xs)) (fun xs=>k (.fsl xs)) (fun i o=>qo i fun i=>qo o fun o=>k (.ptr i o)) (fun i o=>qo i fun i=>qo o fun o=>k (.lp i o)) (fun cs=>k (.box cs)) (fun x=>k (.cp x))
  (fun i o n c=>k (.rs i o n c)) (fun i o n=>qo i fun i=>qo o fun o=>qo n fun n=>k (.row i o n)) (fun i=>qo i fun i=>k (.map i)) (fun f a b=>k (.fn f a b)) (fun t x=>k (.ifc t x)) (fun cs=>k (.agg cs)) (fun vs=>k (.tup vs)) (k .undef)
theorem z3 {α:Type} (v:V) (k:V→α):yi v k=k v:=by
 cases v with
 | d x=>exact qcb x fun x=>k (.d x)
 | _=>simp only [yi,kz]
noncomputable def qcZ {α:Type} (v:V) (k:V→α):α:=
 V.casesOn (motive_1:=fun _=>α) v (fun x=>qe8 x fun x=>k (.d x)) (fun xs=>jo qhM xs fun xs=>k (.osl xs)) (fun xs=>jo qhM xs fun xs=>k (.fsl xs)) (fun i o=>qo i fun i=>qo o fun o=>k (.ptr i o)) (fun i o=>qo i fun i=>qo o fun o=>k (.lp i o)) (fun cs=>jo yi cs fun cs=>k (.box cs)) (fun x=>qhM x fun x=>k (.cp x))
  (fun i o n c=>qo i fun i=>qo o fun o=>qo n fun n=>qo c fun c=>k (.rs i o n c)) (fun i o n=>qo i fun i=>qo o fun o=>qo n fun n=>k (.row i o n)) (fun i=>qo i fun i=>k (.map i)) (fun f a b=>qo f fun f=>k (.fn f a b)) (fun t x=>k (.ifc t x)) (fun cs=>jo yi cs fun cs=>k (.agg cs)) (fun vs=>jo yi vs fun vs=>k (.tup vs)) (k .undef)
theorem qce {α:Type} (v:V) (k:V→α):qcZ v k=k v:=by
 cases v with
 | d x=>exact yr x fun x=>k (.d x)
 | osl xs=>exact ky qcb xs fun xs=>k (.osl xs)
 | fsl xs=>exact ky qcb xs fun xs=>k (.fsl xs)
 | box cs=>exact ky z3 cs fun cs=>k (.box cs)
 | cp x=>exact qcb x fun x=>k (.cp x)
 | agg cs=>exact ky z3 cs fun cs=>k (.agg cs)
 | tup cs=>exact ky z3 cs fun cs=>k (.tup cs)
 | _=>simp only [qcZ,kz]
noncomputable def qxV {α:Type} (o:Obj) (k:Obj→α):α:=
 Obj.casesOn (motive:=fun _=>α) o (fun cs=>jo yi cs fun cs=>k (.cells cs)) (fun es=>jo (fun p k=>yi p.2 fun v=>k (p.1,v)) es fun es=>k (.map es)) (fun l cs=>jo yi cs fun cs=>k (.row l cs)) (k .dead) (fun i=>qo i fun i=>k (.iter i))
theorem qwD {α:Type} (o:Obj) (k:Obj→α):qxV o k=k o:=by
 cases o with
 | cells cs=>exact ky z3 cs fun cs=>k (.cells cs)
 | map es=>exact ky (fun p k=>z3 p.2 fun v=>k (p.1,v)) es fun es=>k (.map es)
 | row l cs=>exact ky z3 cs fun cs=>k (.row l cs)
 | dead=>rfl
 | iter i=>exact kz i fun i=>k (.iter i)
noncomputable def qzL {α:Type} (H:List Obj) (k:List Obj→α):α:=jo (fun o k=>qxV o k) H k
theorem qvK {α:Type} (H:List Obj) (k:List Obj→α):qzL H k=k H:=ky qwD _ _
noncomputable def qub {α:Type} (o:Obj) (k:Obj→α):α:=
 Obj.casesOn (motive:=fun _=>α) o (fun cs=>jo yi cs fun cs=>k (.cells cs)) (fun es=>jo (fun p k=>yi p.2 fun v=>k (p.1,v)) es fun es=>k (.map es)) (fun l cs=>jo (fun v k=>k v) cs fun cs=>k (.row l cs)) (k .dead) (fun i=>qo i fun i=>k (.iter i))
theorem qvI {α:Type} (o:Obj) (k:Obj→α):qub o k=k o:=by
 cases o with
 | cells cs=>exact ky z3 cs fun cs=>k (.cells cs)
 | map es=>exact ky (fun p k=>z3 p.2 fun v=>k (p.1,v)) es fun es=>k (.map es)
 | row l cs=>exact ky (fun _ _=>rfl) cs fun cs=>k (.row l cs)
 | dead=>rfl
 | iter i=>exact kz i fun i=>k (.iter i)
noncomputable def qzP (l:List Obj):Bool:=List.rec (motive:=fun _=>Bool) true (fun _ _ _=>false) l
noncomputable def qlr {α:Type} (f:Obj→(Obj→α)→α) (H:List Obj) (k:List Obj→α):α:=
 List.rec (motive:=fun _=>(List Obj→α)→α) (fun k=>k []) (fun o t ih k=>Bool.rec (motive:=fun _=>α) (f o fun o=>ih fun t=>k (o::t)) (qub o fun o=>k [o]) (qzP t)) H k
theorem qsu {α:Type} {f:Obj→(Obj→α)→α} (hf:∀o k,f o k=k o) (H:List Obj) (k:List Obj→α):qlr f H k=k H:=by
 induction H generalizing k with
 | nil=>rfl
 | cons o t ih=>
  show Bool.rec (motive:=fun _=>α) (f o fun o=>qlr f t fun t=>k (o::t)) (qub o fun o=>k [o]) (qzP t)=_
  cases t with
  | nil=>exact qvI o fun o=>k [o]
  | cons o' t=>
   show (f o fun o=>qlr f (o'::t) fun t=>k (o::t))=_
   rw [hf,ih]
noncomputable def qoE {α:Type} (H:List Obj) (k:List Obj→α):α:=qlr (fun o k=>k o) H k
theorem qpz {α:Type} (H:List Obj) (k:List Obj→α):qoE H k=k H:=qsu (fun _ _=>rfl) H k
noncomputable def qvk (l:L) (off:Nat) (cs:List V):Option V:=Bool.rec (motive:=fun _=>Option V) ((fnth cs off).map zW) (V.part off l cs) l.agg
noncomputable def qqA (l:L) (st:St) (v:V):Option V:=
 match v with
 | .lp s off=>match fget s st.env with
  | .box cs=>qvk l off cs
  | _=>none
 | .ptr id off=>match fnth st.H id with
  | some (.cells cs)=>qvk l off cs
  | some (.row _ cs)=>qvk l off cs
  | _=>none
 | v=>qH l st v
theorem qDc (l:L) (off:Nat) (cs:List V):qvk l off cs=V.part off l cs:=by
 obtain ⟨n,agg⟩:=l
 cases agg with
 | true=>rfl
 | false=>show (fnth cs off).map zW=_;rw [jb];simp [V.part]
theorem qtU:qqA=qH:=by
 funext l st v
 cases v<;>simp only [qqA,qDc,y1,jb]<;>rfl
noncomputable def qBQ (x:O) (st:St):Option Or:=ok (frd st.env x) {st with env:=spent x st.env}
noncomputable def qyV (c:O) (a:O) (b:O) (st:St):Option Or:=
 match frd st.env c with
  | .d (.b z)=>ok (Bool.rec (motive:=fun _=>V) (frd st.env b) (frd st.env a) z) st
  | _=>none
noncomputable def qx6 (mv:Bool) (sl:Option Nat) (l:L) (a:O) (st:St):Option Or:=
 Bool.rec (motive:=fun _=>Option Or) (bif !qI sl (frd st.env a) then none else (match qqA l st (frd st.env a) with|some v=>ok v st|none=>none)) (zU true sl l a st) mv
noncomputable def qmH (x:O) (st:St):Option Or:=
 match frd st.env x with
  | .ptr id off=>ok (.ptr id off) st
  | .lp s off=>ok (.lp s off) st
  | .cp y=>ok (.cp y) st
  | _=>none
noncomputable def qEm (op:BinOp) (kd:Kd) (x:O) (y:O) (st:St):Option Or:=
 match qad op kd (isC x || isC y) (frd st.env x) (frd st.env y) with
  | some v=>ok v st
  | none=>none
noncomputable def qk8 (x:O) (off:Nat) (l:L) (st:St):Option Or:=
 match frd st.env x with
  | .ptr id o=>ok (.ptr id (o+off)) st
  | .lp s o=>ok (.lp s (o+off)) st
  | _=>kh x off l st
noncomputable def qlh (x:O) (i:O) (size:Nat) (arr:Option Nat) (st:St):Option Or:=
 match frd st.env i with
  | .d (.i _ n)=>match arr with
   | some len=>bif leI 0 n && !leI len n then (match frd st.env x with
    | .ptr id o=>ok (.ptr id (o+n.toNat * size)) st
    | .lp s o=>ok (.lp s (o+n.toNat * size)) st
    | .cp (.agg cs)=>bif qI0 size 1 then (match fnth cs n.toNat with
     | some y=>if y.one then ok (.cp y) st else none
     | none=>none) else none
    | _=>none) else none
   | none=>bif leI 0 n then (match frd st.env x with
    | .d (.sl xs)=>match fnth xs n.toNat with
     | some y=>bif qI0 y.cells.length size then ok (.cp y) st else none
     | none=>none
    | .rs id o len _=>bif !leI len n && qI0 size 1 then ok (.ptr id (o+n.toNat)) st else none
    | .row id sz len=>bif !leI len n && qI0 size sz then ok (.ptr id (n.toNat * sz)) st else none
    | _=>none) else none
  | _=>none
noncomputable def qtC (x:O) (i:O) (st:St):Option Or:=
 match frd st.env x,frd st.env i with
  | .d (.s t),.d (.i _ n)=>bif leI 0 n then (match fnth t n.toNat with
    | some y=>ok (.d (.i .u8 y)) st
    | none=>none) else none
  | _,_=>none
noncomputable def qot (x:O) (i:Nat) (st:St):Option Or:=
 match x with
  | .t n=>match fget n st.env with
   | .tup vs=>match fnth vs i with
    | some v=>ok (copy v) st
    | none=>none
   | _=>none
  | _=>none
noncomputable def jt {α:Type} (l:List α):Nat:=List.rec (motive:=fun _=>Nat) 0 (fun _ _ ih=>Nat.succ ih) l
theorem kp {α:Type} (l:List α):jt l=l.length:=by
 induction l with
 | nil=>rfl
 | cons x l ih=>simp only [qI4,←ih];rfl
noncomputable def qBs (x:O) (st:St):Option Or:=
 match frd st.env x with
  | .d (.s t)=>ok (.d (.i .i64 (jt t))) st
  | _=>none
noncomputable def qBu (x:O) (st:St):Option Or:=
 match frd st.env x with
  | .d .nil=>ok (.d (.i .i64 0)) st
  | .d (.sl xs)=>ok (.d (.i .i64 (jt xs))) st
  | .rs _ _ n _=>ok (.d (.i .i64 n)) st
  | .row _ _ n=>ok (.d (.i .i64 n)) st
  | _=>none
noncomputable def fBi (b:Bi) (args:List O) (st:St):Option Or:=
 match b,args with
  | .lenS,[x]=>qBs x st
  | .lenL,[x]=>qBu x st
  | b,l=>eBi b l st
noncomputable def qeR (call:Call) (k:OpK) (st:St):Option Or:=
 match k with
 | .mov x=>qBQ x st
 | .pick c a b=>qyV c a b st
 | .load mv sl l a=>qx6 mv sl l a st
 | .nilCheck x=>qmH x st
 | .bin op kd x y=>qEm op kd x y st
 | .fieldAddr x off l=>qk8 x off l st
 | .indexAddr x i size arr=>qlh x i size arr st
 | .index x i=>qtC x i st
 | .extract x i=>qot x i st
 | .bi b args=>fBi b args st
 | k=>qc call k st
theorem qwI:qeR=qc:=by
 funext call k st
 cases k with
 | mov x=>simp only [qeR,qBQ,qan];rfl
 | pick c a b=>
  simp only [qeR,qyV,qan,qc,qee]
  cases rd st.env c with
  | d w=>cases w with
   | b z=>cases z<;>rfl
   | _=>rfl
  | _=>rfl
 | load mv sl l a=>cases mv<;>simp only [qeR,qx6,qan,qtU]<;>rfl
 | nilCheck x=>simp only [qeR,qmH,qan];rfl
 | bin op kd x y=>simp only [qeR,qEm,qan];rfl
 | fieldAddr x off l=>
  simp only [qeR,qk8,qan,qc]
  split<;>rename_i h<;>(try simp only [kh,h])
 | indexAddr x i size arr=>simp only [qeR,qlh,qan,jb];rfl
 | index x i=>simp only [qeR,qtC,qan,jb];rfl
 | extract x i=>simp only [qeR,qot,y1,jb];rfl
 | bi b args=>
  simp only [qeR,fBi,qc]
  split
  ·rename_i x;simp only [qBs,qan,kp];rfl
  ·rename_i x
   simp only [qBu,qan,kp]
   show _=qcP x st
   unfold qcP
   cases rd st.env x with
   | d w=>cases w<;>rfl
   | _=>rfl
  ·rfl
 | _=>rfl
noncomputable def makes (k:OpK):Bool:=
 match k with
 | .mov _=>false
 | .load _ _ _ _=>false
 | .extract _ _=>false
 | .pick _ _ _=>false
 | .nilCheck _=>false
 | .store _ _ _ _=>false
 | .call _ _=>false
 | .indexAddr _ _ _ _=>false
 | .fieldAddr _ _ _=>false
 | .field _ _ _=>false
 | _=>true
noncomputable def qoJ {α:Type} (m:Bool) (v:V) (k:V→α):α:=Bool.rec (motive:=fun _=>α) (yi v k) (qcZ v k) m
theorem qp0 {α:Type} (m:Bool) (v:V) (k:V→α):qoJ m v k=k v:=by
 cases m
 ·exact z3 v k
 ·exact qce v k
end W
/-
  Code turned into closures, which the kernel works out once; each operation its own closure.
-/
set_option linter.unusedSimpArgs false
set_option linter.unusedVariables false
namespace W
open Go (IntKind BinOp UnOp)
abbrev R:=Option (Ex × St)
abbrev KF:=Call→Nat→Env→List Obj→Nat→R
inductive K where
 | mk (f:KF)
noncomputable def K.run (k:K):KF:=K.rec (motive:=fun _=>KF) (fun f=>f) k
inductive KO where
 | mk (f:Env→V)
noncomputable def KO.run (k:KO):Env→V:=KO.rec (motive:=fun _=>Env→V) (fun f=>f) k
noncomputable def kY (o:O):KO:=O.rec (motive:=fun _=>KO) (fun n=>.mk fun e=>fget n e) (fun x=>.mk fun _=>.d x) (fun i=>.mk fun _=>.fn i [] []) (fun n=>.mk fun e=>qif (fget n e)) (fun _ x=>.mk fun _=>.cp x) o
def V.isBox:V→Bool
 | .box _=>true
 | _=>false
def V.pl:V→Prop
 | .box _=>False
 | .osl _=>False
 | .agg _=>False
 | _=>True
theorem ku {o:O} {e:Env} (h:((kY o).run e).pl):rd e o=(kY o).run e:=by
 cases o with
 | t n=>
  have h:(fget n e).pl:=h
  show qg5 n (get n e)=fget n e
  rw [←y1]
  cases hv:fget n e<;>rw [hv] at h<;>first|rfl|exact h.elim
 | mv n=>
  show qif (get n e)=qif (fget n e)
  rw [y1]
 | _=>rfl
inductive OI where
 | no
 | yes (k:IntKind) (n:Int)
noncomputable def vI (v:V):OI:=V.rec (motive_1:=fun _=>OI) (motive_2:=fun _=>OI) (fun x=>D.rec (motive_1:=fun _=>OI) (motive_2:=fun _=>OI) (fun _=>.no) (fun k n=>.yes k n) (fun _=>.no) .no (fun _ _=>.no) (fun _ _=>.no) .no .no .no .no .no (fun _ _ _ _=>.no) x) (fun _=>.no) (fun _=>.no) (fun _ _=>.no) (fun _ _=>.no) (fun _ _=>.no) (fun _=>.no) (fun _ _ _ _=>.no) (fun _ _ _=>.no) (fun _=>.no) (fun _ _ _ _ _=>.no) (fun _ _ _=>.no) (fun _ _=>.no) (fun _ _=>.no) .no .no (fun _ _ _ _=>.no) v
theorem qd9 {v:V} {k:IntKind} {n:Int} (h:vI v=.yes k n):v=.d (.i k n):=by
 cases v with
 | d x=>cases x with
  | i k' n'=>have h:OI.yes k' n'=.yes k n:=h;cases h;rfl
  | _=>cases h
 | _=>cases h
inductive OB where
 | no|f|t
noncomputable def vB (v:V):OB:=V.rec (motive_1:=fun _=>OB) (motive_2:=fun _=>OB) (fun x=>D.rec (motive_1:=fun _=>OB) (motive_2:=fun _=>OB) (fun y=>Bool.rec (motive:=fun _=>OB) .f .t y) (fun _ _=>.no) (fun _=>.no) .no (fun _ _=>.no) (fun _ _=>.no) .no .no .no .no .no (fun _ _ _ _=>.no) x) (fun _=>.no) (fun _=>.no) (fun _ _=>.no) (fun _ _=>.no) (fun _ _=>.no) (fun _=>.no) (fun _ _ _ _=>.no) (fun _ _ _=>.no) (fun _=>.no) (fun _ _ _ _ _=>.no) (fun _ _ _=>.no) (fun _ _=>.no) (fun _ _=>.no) .no .no (fun _ _ _ _=>.no) v
theorem qID {v:V} (h:vB v=.t):v=.d (.b true):=by
 cases v with
 | d x=>cases x with
  | b y=>cases y with
   | true=>rfl
   | false=>cases h
  | _=>cases h
 | _=>cases h
theorem qIM {v:V} (h:vB v=.f):v=.d (.b false):=by
 cases v with
 | d x=>cases x with
  | b y=>cases y with
   | false=>rfl
   | true=>cases h
  | _=>cases h
 | _=>cases h
inductive OP where
 | no
 | p (id off:Nat)
 | l (s off:Nat)
 | c (x:D)
noncomputable def vP (v:V):OP:=V.rec (motive_1:=fun _=>OP) (motive_2:=fun _=>OP) (fun _=>.no) (fun _=>.no) (fun _=>.no) (fun a b=>.p a b) (fun a b=>.l a b) (fun _ _=>.no) (fun x=>.c x) (fun _ _ _ _=>.no) (fun _ _ _=>.no) (fun _=>.no) (fun _ _ _ _ _=>.no) (fun _ _ _=>.no) (fun _ _=>.no) (fun _ _=>.no) .no .no (fun _ _ _ _=>.no) v
theorem qH3 {v:V} {a b:Nat} (h:vP v=.p a b):v=.ptr a b:=by
 cases v with
 | ptr c d=>have h:OP.p c d=.p a b:=h;cases h;rfl
 | _=>cases h
theorem qIu {v:V} {a b:Nat} (h:vP v=.l a b):v=.lp a b:=by
 cases v with
 | lp c d=>have h:OP.l c d=.l a b:=h;cases h;rfl
 | _=>cases h
theorem qIt {v:V} {x:D} (h:vP v=.c x):v=.cp x:=by
 cases v with
 | cp y=>have h:OP.c y=.c x:=h;cases h;rfl
 | _=>cases h
inductive OL where
 | no|nil
 | sl (xs:List D)
noncomputable def vL (v:V):OL:=V.rec (motive_1:=fun _=>OL) (motive_2:=fun _=>OL) (fun x=>D.rec (motive_1:=fun _=>OL) (motive_2:=fun _=>OL) (fun _=>.no) (fun _ _=>.no) (fun _=>.no) .nil (fun xs _=>.sl xs) (fun _ _=>.no) .no .no .no .no .no (fun _ _ _ _=>.no) x) (fun _=>.no) (fun _=>.no) (fun _ _=>.no) (fun _ _=>.no) (fun _ _=>.no) (fun _=>.no) (fun _ _ _ _=>.no) (fun _ _ _=>.no) (fun _=>.no) (fun _ _ _ _ _=>.no) (fun _ _ _=>.no) (fun _ _=>.no) (fun _ _=>.no) .no .no (fun _ _ _ _=>.no) v
theorem qGl {v:V} (h:vL v=.nil):v=.d .nil:=by
 cases v with
 | d x=>cases x with
  | nil=>rfl
  | _=>cases h
 | _=>cases h
theorem qzJ {v:V} {xs:List D} (h:vL v=.sl xs):v=.d (.sl xs):=by
 cases v with
 | d x=>cases x with
  | sl ys=>have h:OL.sl ys=.sl xs:=h;cases h;rfl
  | _=>cases h
 | _=>cases h
inductive OT where
 | no
 | s (t:List Nat)
noncomputable def vT (v:V):OT:=V.rec (motive_1:=fun _=>OT) (motive_2:=fun _=>OT) (fun x=>D.rec (motive_1:=fun _=>OT) (motive_2:=fun _=>OT) (fun _=>.no) (fun _ _=>.no) (fun t=>.s t) .no (fun _ _=>.no) (fun _ _=>.no) .no .no .no .no .no (fun _ _ _ _=>.no) x) (fun _=>.no) (fun _=>.no) (fun _ _=>.no) (fun _ _=>.no) (fun _ _=>.no) (fun _=>.no) (fun _ _ _ _=>.no) (fun _ _ _=>.no) (fun _=>.no) (fun _ _ _ _ _=>.no) (fun _ _ _=>.no) (fun _ _=>.no) (fun _ _=>.no) .no .no (fun _ _ _ _=>.no) v
theorem qmA {v:V} {t:List Nat} (h:vT v=.s t):v=.d (.s t):=by
 cases v with
 | d x=>cases x with
  | s u=>have h:OT.s u=.s t:=h;cases h;rfl
  | _=>cases h
 | _=>cases h
inductive OU where
 | no
 | t (vs:List V)
noncomputable def vU (v:V):OU:=V.rec (motive_1:=fun _=>OU) (motive_2:=fun _=>OU) (fun _=>.no) (fun _=>.no) (fun _=>.no) (fun _ _=>.no) (fun _ _=>.no) (fun _ _=>.no) (fun _=>.no) (fun _ _ _ _=>.no) (fun _ _ _=>.no) (fun _=>.no) (fun _ _ _ _ _=>.no) (fun _ _ _=>.no) (fun _ _=>.no) (fun vs _=>.t vs) .no .no (fun _ _ _ _=>.no) v
theorem qIB {v:V} {vs:List V} (h:vU v=.t vs):v=.tup vs:=by
 cases v with
 | tup ws=>have h:OU.t ws=.t vs:=h;cases h;rfl
 | _=>cases h
inductive OF where
 | no
 | f (i:Nat)
noncomputable def vF (v:V):OF:=V.rec (motive_1:=fun _=>OF) (motive_2:=fun _=>OF) (fun _=>.no) (fun _=>.no) (fun _=>.no) (fun _ _=>.no) (fun _ _=>.no) (fun _ _=>.no) (fun _=>.no) (fun _ _ _ _=>.no) (fun _ _ _=>.no) (fun _=>.no) (fun f a b _ _=>List.rec (motive:=fun _=>OF) (List.rec (motive:=fun _=>OF) (.f f) (fun _ _ _=>.no) b) (fun _ _ _=>.no) a) (fun _ _ _=>.no) (fun _ _=>.no) (fun _ _=>.no) .no .no (fun _ _ _ _=>.no) v
theorem qIL {v:V} {i:Nat} (h:vF v=.f i):v=.fn i [] []:=by
 cases v with
 | fn f a b=>cases a with
  | nil=>cases b with
   | nil=>have h:OF.f f=.f i:=h;cases h;rfl
   | cons _ _=>cases h
  | cons _ _=>cases h
 | _=>cases h
noncomputable def qBo (m:Nat) (v:V) (κ:V→R):R:=V.rec (motive_1:=fun _=>R) (motive_2:=fun _=>R) (fun x=>κ (.d x)) (fun xs=>κ (.d (.sl xs))) (fun xs=>κ (.fsl xs)) (fun a b=>κ (.ptr a b)) (fun a b=>κ (.lp a b)) (fun _ _=>κ (.lp m 0)) (fun x=>κ (.cp x)) (fun a b c d=>κ (.rs a b c d)) (fun a b c=>κ (.row a b c)) (fun a=>κ (.map a)) (fun f a b _ _=>κ (.fn f a b)) (fun t x _=>κ (.ifc t x)) (fun cs _=>qcZ (qfd (cs.map zW)) κ) (fun vs _=>κ (.tup vs)) (κ .undef) none (fun _ _ _ _=>none) v
theorem qy4 (m:Nat) (v:V) (κ:V→R):qBo m v κ=κ (qg5 m v):=by
 cases v with
 | agg cs=>exact qce _ _
 | _=>rfl
noncomputable def qBt (v:V) (κ:V→R):R:=V.rec (motive_1:=fun _=>R) (motive_2:=fun _=>R) (fun x=>κ (.d x)) (fun xs=>κ (.osl xs)) (fun xs=>κ (.fsl xs)) (fun a b=>κ (.ptr a b)) (fun a b=>κ (.lp a b)) (fun _ _=>κ .undef) (fun x=>κ (.cp x)) (fun a b c d=>κ (.rs a b c d)) (fun a b c=>κ (.row a b c)) (fun a=>κ (.map a)) (fun f a b _ _=>κ (.fn f a b)) (fun t x _=>κ (.ifc t x)) (fun cs _=>κ (.agg cs)) (fun vs _=>κ (.tup vs)) (κ .undef) none (fun _ _ _ _=>none) v
theorem qzG (v:V) (κ:V→R):qBt v κ=κ (qif v):=by cases v<;>rfl
noncomputable def qxF (v:V) (κ:V→R):R:=V.rec (motive_1:=fun _=>R) (motive_2:=fun _=>R) (fun x=>κ (.d x)) (fun xs=>κ (.osl xs)) (fun xs=>κ (.fsl xs)) (fun a b=>κ (.ptr a b)) (fun _ _=>κ .undef) (fun cs _=>κ (.box cs)) (fun x=>κ (.cp x)) (fun a b c d=>κ (.rs a b c d)) (fun a b c=>κ (.row a b c)) (fun a=>κ (.map a)) (fun f a b _ _=>κ (.fn f a b)) (fun t x _=>κ (.ifc t x)) (fun cs _=>κ (.agg cs)) (fun vs _=>κ (.tup vs)) (κ .undef) none (fun _ _ _ _=>none) v
theorem qzA (v:V) (κ:V→R):qxF v κ=κ (match v with | .lp _ _=>.undef|v=>v):=by cases v<;>rfl
noncomputable def qBn (v:V) (κ:V→R):R:=V.rec (motive_1:=fun _=>R) (motive_2:=fun _=>R) (fun x=>κ (.d x)) (fun xs=>κ (.d (.sl xs))) (fun xs=>κ (.fsl xs)) (fun a b=>κ (.ptr a b)) (fun a b=>κ (.lp a b)) (fun _ _=>none) (fun x=>κ (.cp x)) (fun a b c d=>κ (.rs a b c d)) (fun a b c=>κ (.row a b c)) (fun a=>κ (.map a)) (fun f a b _ _=>κ (.fn f a b)) (fun t x _=>κ (.ifc t x)) (fun cs _=>κ (.agg cs)) (fun vs _=>κ (.tup vs)) (κ .undef) none (fun _ _ _ _=>none) v
theorem qtM {v:V} {κ:V→R} {x:Ex × St} (h:qBn v κ=some x):(zW v).isBox=false∧κ (zW v)=some x:=by
 cases v<;>first|exact ⟨rfl,h⟩|cases h
theorem qmq (cs:List V):(qfd cs).isBox=false:=by unfold qfd;split<;>rfl
noncomputable def quT (v:V) (κ:V→R):R:=V.rec (motive_1:=fun _=>R) (motive_2:=fun _=>R) (fun x=>κ (.d x)) (fun xs=>κ (.d (.sl xs))) (fun xs=>κ (.fsl xs)) (fun a b=>κ (.ptr a b)) (fun a b=>κ (.lp a b)) (fun _ _=>none) (fun x=>κ (.cp x)) (fun a b c d=>κ (.rs a b c d)) (fun a b c=>κ (.row a b c)) (fun a=>κ (.map a)) (fun f a b _ _=>κ (.fn f a b)) (fun t x _=>κ (.ifc t x)) (fun cs _=>qcZ (qfd (cs.map zW)) κ) (fun vs _=>κ (.tup vs)) (κ .undef) none (fun _ _ _ _=>none) v
theorem qk3 {v:V} {κ:V→R} {x:Ex × St} (h:quT v κ=some x):(copy v).isBox=false∧κ (copy v)=some x:=by
 cases v with
 | agg cs=>
  have h:qcZ (qfd (cs.map zW)) κ=some x:=h
  rw [qce] at h
  exact ⟨qmq _,h⟩
 | box cs=>cases h
 | _=>exact ⟨rfl,h⟩
noncomputable def qjz (v:V) (z:R) (κ:V→R):R:=V.rec (motive_1:=fun _=>R) (motive_2:=fun _=>R) (fun x=>κ (.d x)) (fun xs=>κ (.osl xs)) (fun xs=>κ (.fsl xs)) (fun a b=>κ (.ptr a b)) (fun a b=>κ (.lp a b)) (fun _ _=>z) (fun x=>κ (.cp x)) (fun a b c d=>κ (.rs a b c d)) (fun a b c=>κ (.row a b c)) (fun a=>κ (.map a)) (fun f a b _ _=>κ (.fn f a b)) (fun t x _=>κ (.ifc t x)) (fun cs _=>κ (.agg cs)) (fun vs _=>κ (.tup vs)) (κ .undef) none (fun _ _ _ _=>none) v
noncomputable def qrk (v:V) (z:R) (κ:V→R):R:=V.rec (motive_1:=fun _=>R) (motive_2:=fun _=>R) (fun x=>κ (.d x)) (fun xs=>κ (.osl xs)) (fun xs=>κ (.fsl xs)) (fun a b=>κ (.ptr a b)) (fun _ _=>z) (fun _ _=>z) (fun x=>κ (.cp x)) (fun a b c d=>κ (.rs a b c d)) (fun a b c=>κ (.row a b c)) (fun a=>κ (.map a)) (fun f a b _ _=>κ (.fn f a b)) (fun t x _=>κ (.ifc t x)) (fun cs _=>κ (.agg cs)) (fun vs _=>κ (.tup vs)) (κ .undef) none (fun _ _ _ _=>none) v
theorem qrs {v:V} {κ:V→R} {x:Ex × St} (h:qrk v none κ=some x):v.isBox=false∧(∀m o,v≠.lp m o)∧κ v=some x:=by
 cases v<;>first|exact ⟨rfl,nofun,h⟩|cases h
theorem qjh {v:V} {z:R} {κ:V→R} {x:Ex × St} (h:qjz v z κ=some x):z=some x∨(v.isBox=false∧κ v=some x):=by
 cases v<;>first|exact .inr ⟨rfl,h⟩|exact .inl h
inductive KR where
 | mk (f:Env→(V→R)→R)
noncomputable def KR.run (k:KR):Env→(V→R)→R:=KR.rec (motive:=fun _=>Env→(V→R)→R) (fun f=>f) k
noncomputable def rdC (o:O):KR:=O.rec (motive:=fun _=>KR) (fun n=>.mk fun e κ=>qBo n (fget n e) κ) (fun x=>.mk fun _ κ=>κ (.d x)) (fun i=>.mk fun _ κ=>κ (.fn i [] [])) (fun n=>.mk fun e κ=>qBt (fget n e) κ) (fun _ x=>.mk fun _ κ=>κ (.cp x)) o
theorem qgm (o:O) (e:Env) (κ:V→R):(rdC o).run e κ=κ (rd e o):=by
 cases o with
 | t n=>exact (qy4 n (fget n e) κ).trans (by rw [y1];rfl)
 | mv n=>exact (qzG (fget n e) κ).trans (by rw [y1];rfl)
 | _=>rfl
inductive KE where
 | mk (f:Env→Env)
noncomputable def KE.run (k:KE):Env→Env:=KE.rec (motive:=fun _=>Env→Env) (fun f=>f) k
noncomputable def spC (o:O) (r:KE):KE:=O.rec (motive:=fun _=>KE) (fun _=>r) (fun _=>r) (fun _=>r) (fun n=>.mk fun e=>r.run ((n,.undef)::e)) (fun _ _=>r) o
noncomputable def spL (l:List O):KE:=List.rec (motive:=fun _=>KE) (.mk fun e=>e) (fun o _ ih=>spC o ih) l
theorem qtO (l:List O) (e:Env):(spL l).run e=spentAll l e:=by
 induction l generalizing e with
 | nil=>rfl
 | cons o l ih=>
  show (spC o (spL l)).run e=spentAll l (spent o e)
  cases o<;>first|exact ih _|exact ih e
noncomputable def spO (o:O):KE:=spC o (.mk fun e=>e)
theorem qk2 (o:O) (e:Env):(spO o).run e=spent o e:=by cases o<;>rfl
inductive KA where
 | mk (f:Env→(List V→R)→R)
noncomputable def KA.run (k:KA):Env→(List V→R)→R:=KA.rec (motive:=fun _=>Env→(List V→R)→R) (fun f=>f) k
noncomputable def qzW (l:List O):KA:=List.rec (motive:=fun _=>KA) (.mk fun _ κ=>κ []) (fun o _ ih=>.mk fun e κ=>(rdC o).run e fun v=>ih.run e fun r=>κ (v::r)) l
theorem qqZ (l:List O) (e:Env) (κ:List V→R):(qzW l).run e κ=κ (l.map (rd e)):=by
 induction l generalizing κ with
 | nil=>rfl
 | cons o l ih=>
  show (rdC o).run e (fun v=>(qzW l).run e fun r=>κ (v::r))=_
  rw [qgm,ih];rfl
noncomputable def iadd (a b:Int):Int:=Int.rec (motive:=fun _=>Int) (fun m=>Int.rec (motive:=fun _=>Int) (fun n=>.ofNat (Nat.add m n)) (fun n=>a+b) b) (fun _=>a+b) a
theorem qAK (a b:Int):iadd a b=a+b:=by cases a<;>cases b<;>rfl
noncomputable def imul (a b:Int):Int:=Int.rec (motive:=fun _=>Int) (fun m=>Int.rec (motive:=fun _=>Int) (fun n=>.ofNat (Nat.mul m n)) (fun n=>a * b) b) (fun _=>a * b) a
theorem qAQ (a b:Int):imul a b=a * b:=by cases a<;>cases b<;>rfl
noncomputable def isub (a b:Int):Int:=Int.rec (motive:=fun _=>Int) (fun m=>Int.rec (motive:=fun _=>Int) (fun n=>Bool.rec (motive:=fun _=>Int) (a - b) (.ofNat (Nat.sub m n)) (Nat.ble n m)) (fun n=>a - b) b) (fun _=>a - b) a
theorem qAW (a b:Int):isub a b=a - b:=by
 cases a with
 | ofNat m=>cases b with
  | ofNat n=>
   show Bool.rec (motive:=fun _=>Int) (Int.ofNat m - Int.ofNat n) (Int.ofNat (Nat.sub m n)) (Nat.ble n m)=_
   cases h:Nat.ble n m with
   | false=>rfl
   | true=>
    have:=Nat.le_of_ble_eq_true h
    show Int.ofNat (m - n)=Int.ofNat m - Int.ofNat n
    simp only [Int.ofNat_eq_natCast];omega
  | negSucc n=>rfl
 | negSucc m=>rfl
noncomputable def ile (a b:Int):Bool:=Int.rec (motive:=fun _=>Bool) (fun m=>Int.rec (motive:=fun _=>Bool) (fun n=>Nat.ble m n) (fun _=>false) b) (fun m=>Int.rec (motive:=fun _=>Bool) (fun _=>true) (fun n=>Nat.ble n m) b) a
theorem qrb (a b:Int):ile a b=leI a b:=by cases a<;>cases b<;>rfl
noncomputable def ieq (a b:Int):Bool:=Int.rec (motive:=fun _=>Bool) (fun m=>Int.rec (motive:=fun _=>Bool) (fun n=>qI0 m n) (fun _=>false) b) (fun m=>Int.rec (motive:=fun _=>Bool) (fun _=>false) (fun n=>qI0 m n) b) a
theorem qzT (a b:Int):ieq a b=eqI a b:=by cases a<;>cases b<;>rfl
noncomputable def kcode (k:IntKind):Nat:=IntKind.rec (motive:=fun _=>Nat) 0 1 2 3 4 5 6 7 k
theorem qrM (a b:IntKind):qI0 (kcode a) (kcode b)=eqK a b:=by cases a<;>cases b<;>rfl
noncomputable def kmax (k:IntKind):Nat:=IntKind.rec (motive:=fun _=>Nat) 127 32767 2147483647 9223372036854775807 255 65535 4294967295 18446744073709551615 k
theorem qA0 (k:IntKind):kmax k=qnc k:=by cases k<;>rfl
noncomputable def iwr (k:IntKind) (z:Int):Int:=Int.rec (motive:=fun _=>Int) (fun a=>Bool.rec (motive:=fun _=>Int) (wr k (.ofNat a)) (.ofNat a) (Nat.ble a (kmax k))) (fun a=>wr k (.negSucc a)) z
theorem qC7 (k:IntKind) (z:Int):iwr k z=wr k z:=by
 cases z with
 | ofNat a=>
  show Bool.rec (motive:=fun _=>Int) (wr k (.ofNat a)) (.ofNat a) (Nat.ble a (kmax k))=_
  rw [qA0]
  cases h:Nat.ble a (qnc k) with
  | false=>rfl
  | true=>simp only [wr,h,cond_true]
 | negSucc a=>rfl
noncomputable def inot (b:Bool):Bool:=Bool.rec (motive:=fun _=>Bool) true false b
theorem qqE (b:Bool):inot b=!b:=by cases b<;>rfl
def qrr (pg:Pg) (r:R) (k:K) (call:Call) (n:Nat) (x:Ex × St):Prop:=(∃s,r=some (.nrm,s)∧k.run call n s.env s.H s.lo=some x)∨(r=some x∧x.1≠.nrm)
def qpH (r:Option Or) (dst:Option Nat) (k:K) (call:Call) (n:Nat) (x:Ex × St):Prop:=
 ∃q,r=some q∧((q.pan=false∧∃st,put dst q.v q.st=st∧k.run call n st.env st.H st.lo=some x)∨(q.pan=true∧x=(.pan q.v,q.st)))
def qS (f:KF) (op:OpK) (dst:Option Nat) (k:K):Prop:=∀{call:Call} {n:Nat} {e:Env} {H:List Obj} {lo:Nat} {x:Ex × St},f call n e H lo=some x→qpH (qc call op ⟨e,H,lo⟩) dst k call n x
noncomputable def qhm (dst:Option Nat) (v:V) (k:K):KF:=fun call n e H lo=>match put dst v ⟨e,H,lo⟩ with|⟨e,H,lo⟩=>k.run call n e H lo
theorem qhC {dst:Option Nat} {v:V} {same:Bool} {k:K} {call:Call} {n:Nat} {e:Env} {H:List Obj} {lo:Nat} {x:Ex × St} (h:qhm dst v k call n e H lo=some x):qpH (some ⟨false,same,v,⟨e,H,lo⟩⟩) dst k call n x:=by
 refine ⟨_,rfl,.inl ⟨rfl,_,rfl,?_⟩⟩
 exact h
theorem qk {d:Nat} {v:V} {same:Bool} {k:K} {call:Call} {n:Nat} {e:Env} {H:List Obj} {lo:Nat} {x:Ex × St} (hv:v.isBox=false) (h:k.run call n ((d,v)::e) H lo=some x):qpH (some ⟨false,same,v,⟨e,H,lo⟩⟩) (some d) k call n x:=by
 refine ⟨_,rfl,.inl ⟨rfl,_,rfl,?_⟩⟩
 cases v<;>first|exact h|cases hv
inductive KS where
 | mk (f:Call→St→Option Or)
noncomputable def KS.run (k:KS):Call→St→Option Or:=KS.rec (motive:=fun _=>Call→St→Option Or) (fun f=>f) k
noncomputable def qFk (op:OpK):KS:=
 match op with
 | .mov x=>.mk fun _ st=>qBQ x st
 | .pick c a b=>.mk fun _ st=>qyV c a b st
 | .alloc loc zero=>.mk fun _ st=>qeA loc zero st
 | .box loc x=>.mk fun _ st=>qpd loc x st
 | .build zero parts=>.mk fun _ st=>qb9 zero parts st
 | .buildSlice zero len parts=>.mk fun _ st=>zc zero len parts st
 | .load mv sl l a=>.mk fun _ st=>qx6 mv sl l a st
 | .loadC l a=>.mk fun _ st=>qff l a st
 | .store sl l a x=>.mk fun _ st=>qam sl l a x st
 | .nilCheck x=>.mk fun _ st=>qmH x st
 | .bin op kd x y=>.mk fun _ st=>qEm op kd x y st
 | .un op x=>.mk fun _ st=>eUn op x st
 | .conv k x=>.mk fun _ st=>qhg k x st
 | .mkFn f first cap=>.mk fun _ st=>qkF f first cap st
 | .sliceS x lo hi=>.mk fun _ st=>yh x lo hi st
 | .fieldAddr x off l=>.mk fun _ st=>qk8 x off l st
 | .field x off l=>.mk fun _ st=>qe1 x off l st
 | .indexAddr x i size arr=>.mk fun _ st=>qlh x i size arr st
 | .index x i=>.mk fun _ st=>qtC x i st
 | .lookup kk zero m k c=>.mk fun _ st=>ja kk zero m k c st
 | .mapUpdate kk m k x=>.mk fun _ st=>z9 kk m k x st
 | .extract x i=>.mk fun _ st=>qot x i st
 | .bi b args=>.mk fun _ st=>fBi b args st
 | .call f args=>.mk fun call st=>jE call f args st
 | op=>.mk fun call st=>qc call op st
theorem qvw (op:OpK) (call:Call) (st:St):(qFk op).run call st=qc call op st:=by
 rw [←qwI]
 cases op<;>rfl
noncomputable def qma (op:OpK):Bool:=
 match op with
 | .appendR _ _ _ _ | .truncR _ _ | .zerosR _ _ _ _ _ | .buildR _ _ _ _ | .rangeM _ | .mkMap | .mkSlice _ _ _ | .alloc _ _ | .box _ _ | .bytesRow _ | .buildRow _ _ _ | .cvtR _=>true
 | _=>false
noncomputable def qnX {α:Type} (b:Bool) (H:List Obj) (k:List Obj→α):α:=Bool.rec (motive:=fun _=>α) (qzL H k) (qoE H k) b
theorem qpL {α:Type} (b:Bool) (H:List Obj) (k:List Obj→α):qnX b H k=k H:=by cases b;exact qvK _ _;exact qpz _ _
noncomputable def qDO (dst:Option Nat) (op:OpK) (k:K):KF:=fun call n e H lo=>
 match (qFk op).run call ⟨e,H,lo⟩ with
 | some ⟨pan,same,v,⟨e',H',lo'⟩⟩=>Bool.rec (motive:=fun _=>R)
   (qoJ (makes op) v fun v=>Bool.rec (motive:=fun _=>R) (qnX (qma op) H' fun H'=>qo lo' fun lo'=>qhm dst v k call n e' H' lo') (qhm dst v k call n e' H' lo') same)
   (some (.pan v,⟨e',H',lo'⟩)) pan
 | none=>none
theorem qwa {dst:Option Nat} {op:OpK} {k:K}:qS (qDO dst op k) op dst k:=by
 intro call n e H lo x h
 unfold qDO at h
 rw [qvw] at h
 split at h
 ·rename_i pan same v e' H' lo' hq
  rw [hq]
  cases pan with
  | false=>
   have h:(qoJ (makes op) v fun v=>Bool.rec (motive:=fun _=>R) (qnX (qma op) H' fun H'=>qo lo' fun lo'=>qhm dst v k call n e' H' lo') (qhm dst v k call n e' H' lo') same)=some x:=h
   rw [qp0] at h
   have h2:qhm dst v k call n e' H' lo'=some x:=by
    cases same with
    | false=>simpa only [qpL,kz] using h
    | true=>exact h
   exact qhC h2
  | true=>
   have h:some (Ex.pan v,(⟨e',H',lo'⟩:St))=some x:=h
   cases h
   exact ⟨_,rfl,.inr ⟨rfl,rfl⟩⟩
 ·cases h
noncomputable def asN (v:V) (z:R) (κ:IntKind→Int→R):R:=OI.rec (motive:=fun _=>R) z κ (vI v)
theorem qbd {v:V} {z:R} {κ:IntKind→Int→R} {x:Ex × St} (h:asN v z κ=some x):z=some x∨∃k n,v=.d (.i k n)∧κ k n=some x:=by
 unfold asN at h
 cases hv:vI v with
 | no=>rw [hv] at h;exact .inl h
 | yes k n=>rw [hv] at h;exact .inr ⟨k,n,qd9 hv,h⟩
noncomputable def qsb (d:Nat) (f:Int→Int→Bool) (a b:KO) (g k:K):KF:=fun call n e H lo=>
 asN (a.run e) (g.run call n e H lo) fun ka x=>asN (b.run e) none fun kb y=>Bool.rec (motive:=fun _=>R) none (Bool.rec (motive:=fun _=>R) (k.run call n ((d,.d (.b false))::e) H lo) (k.run call n ((d,.d (.b true))::e) H lo) (f x y)) (qI0 (kcode ka) (kcode kb))
noncomputable def qyI (d:Nat) (f:Int→Int→Int) (a b:KO) (g k:K):KF:=fun call n e H lo=>
 asN (a.run e) (g.run call n e H lo) fun ka x=>asN (b.run e) none fun kb y=>Bool.rec (motive:=fun _=>R) none (qnN (iwr ka (f x y)) fun z=>k.run call n ((d,.d (.i ka z))::e) H lo) (qI0 (kcode ka) (kcode kb))
theorem qlJ {o:O} {e:Env} {k:IntKind} {n:Int} (h:(kY o).run e=.d (.i k n)):rd e o=.d (.i k n):=by
 rw [ku (by rw [h];trivial),h]
theorem qdY {d:Nat} {f:Int→Int→Bool} {op:BinOp} {x y:O} {g k:K} (hop:qdm op=false) (hf:∀kk a b,qhN op kk a b=some (.b (f a b))) (hg:qS g.run (.bin op .num x y) (some d) k):qS (qsb d f (kY x) (kY y) g k) (.bin op .num x y) (some d) k:=by
 intro call n e H lo z h
 unfold qsb at h
 rcases qbd h with h|⟨ka,a,ha,h⟩
 ·exact hg h
 rcases qbd h with h|⟨kb,b,hb,h⟩
 ·cases h
 rw [qrM] at h
 cases hk:eqK ka kb with
 | false=>rw [hk] at h;cases h
 | true=>
  rw [hk] at h
  have he:qc call (.bin op .num x y) ⟨e,H,lo⟩=some ⟨false,true,.d (.b (f a b)),⟨e,H,lo⟩⟩:=by
   simp only [qc,qmC,qlJ ha,qlJ hb,qad,hop,hk,cond_true,cond_false,hf,qI5,ok]
  rw [he]
  cases hz:f a b with
  | false=>rw [hz] at h;exact qk rfl h
  | true=>rw [hz] at h;exact qk rfl h
theorem qmN {d:Nat} {f:Int→Int→Int} {op:BinOp} {x y:O} {g k:K} (hop:qdm op=false) (hf:∀kk a b,qhN op kk a b=some (.i kk (wr kk (f a b)))) (hg:qS g.run (.bin op .num x y) (some d) k):qS (qyI d f (kY x) (kY y) g k) (.bin op .num x y) (some d) k:=by
 intro call n e H lo z h
 unfold qyI at h
 rcases qbd h with h|⟨ka,a,ha,h⟩
 ·exact hg h
 rcases qbd h with h|⟨kb,b,hb,h⟩
 ·cases h
 rw [qrM] at h
 cases hk:eqK ka kb with
 | false=>rw [hk] at h;cases h
 | true=>
  rw [hk] at h
  have h:(qnN (iwr ka (f a b)) fun z=>k.run call n ((d,.d (.i ka z))::e) H lo)=some z:=h
  rw [qmQ,qC7] at h
  have he:qc call (.bin op .num x y) ⟨e,H,lo⟩=some ⟨false,true,.d (.i ka (wr ka (f a b))),⟨e,H,lo⟩⟩:=by
   simp only [qc,qmC,qlJ ha,qlJ hb,qad,hop,hk,cond_true,cond_false,hf,qI5,ok]
  rw [he]
  exact qk rfl h
noncomputable def gK (dst:Option Nat) (op:OpK) (k:K):K:=.mk (qDO dst op k)
theorem ki {dst:Option Nat} {op:OpK} {k:K}:qS (gK dst op k).run op dst k:=qwa
noncomputable def qGz (d:Nat) (op:BinOp) (kd:Kd) (x y:O) (k:K):K:=
 match op,kd with
 | .add,.num=>.mk (qyI d iadd (kY x) (kY y) (gK (some d) (.bin .add .num x y) k) k)
 | .sub,.num=>.mk (qyI d isub (kY x) (kY y) (gK (some d) (.bin .sub .num x y) k) k)
 | .mul,.num=>.mk (qyI d imul (kY x) (kY y) (gK (some d) (.bin .mul .num x y) k) k)
 | .lss,.num=>.mk (qsb d (fun a b=>inot (ile b a)) (kY x) (kY y) (gK (some d) (.bin .lss .num x y) k) k)
 | .leq,.num=>.mk (qsb d ile (kY x) (kY y) (gK (some d) (.bin .leq .num x y) k) k)
 | .gtr,.num=>.mk (qsb d (fun a b=>inot (ile a b)) (kY x) (kY y) (gK (some d) (.bin .gtr .num x y) k) k)
 | .geq,.num=>.mk (qsb d (fun a b=>ile b a) (kY x) (kY y) (gK (some d) (.bin .geq .num x y) k) k)
 | .eql,.num=>.mk (qsb d ieq (kY x) (kY y) (gK (some d) (.bin .eql .num x y) k) k)
 | .neq,.num=>.mk (qsb d (fun a b=>inot (ieq a b)) (kY x) (kY y) (gK (some d) (.bin .neq .num x y) k) k)
 | op,kd=>gK (some d) (.bin op kd x y) k
theorem qwi {d:Nat} {op:BinOp} {kd:Kd} {x y:O} {k:K}:qS (qGz d op kd x y k).run (.bin op kd x y) (some d) k:=by
 unfold qGz
 split
 ·exact qmN rfl (fun kk a b=>by rw [qAK];rfl) ki
 ·exact qmN rfl (fun kk a b=>by rw [qAW];rfl) ki
 ·exact qmN rfl (fun kk a b=>by rw [qAQ];rfl) ki
 ·exact qdY rfl (fun kk a b=>by rw [qqE,qrb];rfl) ki
 ·exact qdY rfl (fun kk a b=>by rw [qrb];rfl) ki
 ·exact qdY rfl (fun kk a b=>by rw [qqE,qrb];rfl) ki
 ·exact qdY rfl (fun kk a b=>by rw [qrb];rfl) ki
 ·exact qdY rfl (fun kk a b=>by rw [qzT];rfl) ki
 ·exact qdY rfl (fun kk a b=>by rw [qqE,qzT];rfl) ki
 ·exact ki
theorem qty (m:Nat) (v:V):(qg5 m v).isBox=false:=by
 cases v with
 | agg cs=>exact qmq _
 | _=>rfl
theorem qw7 (v:V):(qif v).isBox=false:=by cases v<;>rfl
theorem quu (e:Env) (o:O):(rd e o).isBox=false:=by
 cases o with
 | t n=>exact qty _ _
 | mv n=>exact qw7 _
 | _=>rfl
noncomputable def qEV (d:Nat) (x:O) (k:K):KF:=fun call n e H lo=>(rdC x).run e fun v=>k.run call n ((d,v)::(spO x).run e) H lo
theorem qvA {d:Nat} {x:O} {k:K}:qS (qEV d x k) (.mov x) (some d) k:=by
 intro call n e H lo z h
 unfold qEV at h
 rw [qgm,qk2] at h
 exact qk (quu e x) h
noncomputable def asP (v:V) (z:R) (p l:Nat→Nat→R) (c:D→R):R:=OP.rec (motive:=fun _=>R) z p l c (vP v)
theorem qeY {v:V} {z:R} {p l:Nat→Nat→R} {c:D→R} {x:Ex × St} (h:asP v z p l c=some x):z=some x∨(∃a b,v=.ptr a b∧p a b=some x)∨(∃a b,v=.lp a b∧l a b=some x)∨∃y,v=.cp y∧c y=some x:=by
 unfold asP at h
 cases hv:vP v with
 | no=>rw [hv] at h;exact .inl h
 | p a b=>rw [hv] at h;exact .inr (.inl ⟨a,b,qH3 hv,h⟩)
 | l a b=>rw [hv] at h;exact .inr (.inr (.inl ⟨a,b,qIu hv,h⟩))
 | c y=>rw [hv] at h;exact .inr (.inr (.inr ⟨y,qIt hv,h⟩))
noncomputable def qmP (o:Option Obj):Option (List V):=Option.rec (motive:=fun _=>Option (List V)) none (fun ob=>Obj.rec (motive:=fun _=>Option (List V)) (fun cs=>some cs) (fun _=>none) (fun _ _=>none) none (fun _=>none) ob) o
theorem qnl {o:Option Obj} {cs:List V} (h:qmP o=some cs):o=some (.cells cs):=by
 cases o with
 | none=>cases h
 | some ob=>cases ob with
  | cells c=>have h:some c=some cs:=h;cases h;rfl
  | _=>cases h
noncomputable def quF (o:Option Obj):Option (List V):=Option.rec (motive:=fun _=>Option (List V)) none (fun ob=>Obj.rec (motive:=fun _=>Option (List V)) (fun cs=>some cs) (fun _=>none) (fun _ cs=>some cs) none (fun _=>none) ob) o
theorem qs2 {o:Option Obj} {cs:List V} (h:quF o=some cs):o=some (.cells cs)∨∃l,o=some (.row l cs):=by
 cases o with
 | none=>cases h
 | some ob=>cases ob with
  | cells c=>have h:some c=some cs:=h;cases h;exact .inl rfl
  | row l c=>have h:some c=some cs:=h;cases h;exact .inr ⟨l,rfl⟩
  | _=>cases h
noncomputable def qry (v:V):Option (List V):=V.rec (motive_1:=fun _=>Option (List V)) (motive_2:=fun _=>Option (List V)) (fun _=>none) (fun _=>none) (fun _=>none) (fun _ _=>none) (fun _ _=>none) (fun cs _=>some cs) (fun _=>none) (fun _ _ _ _=>none) (fun _ _ _=>none) (fun _=>none) (fun _ _ _ _ _=>none) (fun _ _ _=>none) (fun _ _=>none) (fun _ _=>none) none none (fun _ _ _ _=>none) v
theorem qqc {v:V} {cs:List V} (h:qry v=some cs):v=.box cs:=by
 cases v with
 | box c=>have h:some c=some cs:=h;cases h;rfl
 | _=>cases h
noncomputable def orN {α:Type} (o:Option α) (κ:α→R):R:=Option.rec (motive:=fun _=>R) none κ o
theorem zh {α:Type} {o:Option α} {κ:α→R} {x:Ex × St} (h:orN o κ=some x):∃a,o=some a∧κ a=some x:=by
 cases o with
 | none=>cases h
 | some a=>exact ⟨a,rfl,h⟩
noncomputable def orZ {α:Type} (o:Option α) (z:R) (κ:α→R):R:=Option.rec (motive:=fun _=>R) z κ o
theorem qlM {α:Type} {o:Option α} {z:R} {κ:α→R} {x:Ex × St} (h:orZ o z κ=some x):z=some x∨∃a,o=some a∧κ a=some x:=by
 cases o with
 | none=>exact .inl h
 | some a=>exact .inr ⟨a,rfl,h⟩
noncomputable def qst (l:L) (off:Nat) (cs:List V) (κ:V→R):R:=L.rec (motive:=fun _=>R) (fun n agg=>Bool.rec (motive:=fun _=>R) (orN (fnth cs off) fun v=>qBn v κ) (orN (V.part off ⟨n,agg⟩ cs) fun v=>qcZ v κ) agg) l
theorem qoT {l:L} {off:Nat} {cs:List V} {κ:V→R} {x:Ex × St} (h:qst l off cs κ=some x):∃v,V.part off l cs=some v∧v.isBox=false∧κ v=some x:=by
 obtain ⟨n,agg⟩:=l
 cases agg with
 | false=>
  obtain ⟨v,h1,h2⟩:=zh (o:=fnth cs off) h
  rw [jb] at h1
  obtain ⟨h3,h4⟩:=qtM h2
  exact ⟨_,by simp [V.part,h1],h3,h4⟩
 | true=>
  obtain ⟨v,h1,h2⟩:=zh (o:=V.part off ⟨n,true⟩ cs) h
  rw [qce] at h2
  refine ⟨v,h1,?_,h2⟩
  simp only [V.part,if_true] at h1
  split at h1
  ·cases h1;exact qmq _
  ·cases h1
noncomputable def isAgg (x:D):Option (List D):=D.rec (motive_1:=fun _=>Option (List D)) (motive_2:=fun _=>Option (List D)) (fun _=>none) (fun _ _=>none) (fun _=>none) none (fun _ _=>none) (fun cs _=>some cs) none none none none none (fun _ _ _ _=>none) x
noncomputable def qqR (l:L) (x:D) (κ:V→R):R:=L.rec (motive:=fun _=>R) (fun n agg=>Option.rec (motive:=fun _=>R) (Bool.rec (motive:=fun _=>R) (κ (.d x)) none agg) (fun cs=>Bool.rec (motive:=fun _=>R) none (Bool.rec (motive:=fun _=>R) none (κ (.d x)) (qI0 (jt cs) n)) agg) (isAgg x)) l
theorem qnp {l:L} {x:D} {κ:V→R} {y:Ex × St} {st:St} (h:qqR l x κ=some y):qH l st (.cp x)=some (.d x)∧κ (.d x)=some y:=by
 obtain ⟨n,agg⟩:=l
 cases x with
 | agg cs=>
  cases agg with
  | false=>cases h
  | true=>
   have h:Bool.rec (motive:=fun _=>R) none (κ (.d (.agg cs))) (qI0 (jt cs) n)=some y:=h
   cases hb:qI0 (jt cs) n with
   | false=>rw [hb] at h;cases h
   | true=>
    rw [hb] at h
    have:=qIX hb
    rw [kp] at this
    exact ⟨by simp [qH,this],h⟩
 | _=>
  cases agg with
  | false=>exact ⟨rfl,h⟩
  | true=>cases h
noncomputable def qBF (d:Nat) (sl:Option Nat) (l:L) (a:O) (g k:K):KF:=
 Option.rec (motive:=fun _=>KF)
  (fun call n e H lo=>asP ((kY a).run e) (g.run call n e H lo) (fun id off=>orZ (quF (fnth H id)) (g.run call n e H lo) fun cs=>qst l off cs fun v=>k.run call n ((d,v)::e) H lo) (fun _ _=>none) (fun x=>qqR l x fun v=>k.run call n ((d,v)::e) H lo))
  (fun s0 call n e H lo=>asP ((kY a).run e) (g.run call n e H lo) (fun _ _=>none) (fun s off=>Bool.rec (motive:=fun _=>R) none (orN (qry (fget s e)) fun cs=>qst l off cs fun v=>k.run call n ((d,v)::e) H lo) (qI0 s0 s)) (fun _=>none)) sl
theorem qtq {d:Nat} {sl:Option Nat} {l:L} {a:O} {g k:K} (hg:qS g.run (.load false sl l a) (some d) k):qS (qBF d sl l a g k) (.load false sl l a) (some d) k:=by
 intro call n e H lo z h
 cases sl with
 | none=>
  have h:(asP ((kY a).run e) (g.run call n e H lo) (fun id off=>orZ (quF (fnth H id)) (g.run call n e H lo) fun cs=>qst l off cs fun v=>k.run call n ((d,v)::e) H lo) (fun _ _=>none) (fun x=>qqR l x fun v=>k.run call n ((d,v)::e) H lo))=some z:=h
  rcases qeY h with h|⟨id,off,ha,h⟩|⟨_,_,_,h⟩|⟨y,ha,h⟩
  ·exact hg h
  ·rcases qlM h with h|⟨cs,hc,h⟩
   ·exact hg h
   obtain ⟨v,hv,hb,h⟩:=qoT h
   have ha':rd e a=.ptr id off:=by rw [ku (by rw [ha];trivial),ha]
   have he:qc call (.load false none l a) ⟨e,H,lo⟩=some ⟨false,true,v,⟨e,H,lo⟩⟩:=by
    rcases qs2 hc with hc|⟨l',hc⟩<;>
    ·rw [jb] at hc
     simp only [qc,zU,ha',qI,qH,hc,hv,qI6,cond_false,ok]
   rw [he];exact qk hb h
  ·cases h
  ·obtain ⟨h1,h2⟩:=qnp (st:=⟨e,H,lo⟩) h
   have ha':rd e a=.cp y:=by rw [ku (by rw [ha];trivial),ha]
   have he:qc call (.load false none l a) ⟨e,H,lo⟩=some ⟨false,true,.d y,⟨e,H,lo⟩⟩:=by
    simp only [qc,zU,ha',qI,h1,qI6,cond_false,ok]
   rw [he];exact qk rfl h2
 | some s0=>
  have h:(asP ((kY a).run e) (g.run call n e H lo) (fun _ _=>none) (fun s off=>Bool.rec (motive:=fun _=>R) none (orN (qry (fget s e)) fun cs=>qst l off cs fun v=>k.run call n ((d,v)::e) H lo) (qI0 s0 s)) (fun _=>none))=some z:=h
  rcases qeY h with h|⟨_,_,_,h⟩|⟨s,off,ha,h⟩|⟨_,_,h⟩
  ·exact hg h
  ·cases h
  ·cases hb:qI0 s0 s with
   | false=>rw [hb] at h;cases h
   | true=>
    rw [hb] at h
    obtain ⟨cs,hc,h⟩:=zh (o:=qry (fget s e)) h
    obtain ⟨v,hv,hbx,h⟩:=qoT h
    have hc:=qqc hc
    rw [y1] at hc
    have ha':rd e a=.lp s off:=by rw [ku (by rw [ha];trivial),ha]
    have he:qc call (.load false (some s0) l a) ⟨e,H,lo⟩=some ⟨false,true,v,⟨e,H,lo⟩⟩:=by
     simp only [qc,zU,ha',qI,qH,hc,hv,hb,qI6,cond_false,ok]
    rw [he];exact qk hbx h
  ·cases h
noncomputable def qtK (d:Nat) (l:L) (a:O) (k:K):KF:=fun call n e H lo=>asP ((kY a).run e) none (fun _ _=>none) (fun _ _=>none) (fun x=>qqR l x fun v=>k.run call n ((d,v)::e) H lo)
theorem qr7 {d:Nat} {l:L} {a:O} {k:K}:qS (qtK d l a k) (.loadC l a) (some d) k:=by
 intro call n e H lo z h
 unfold qtK at h
 rcases qeY h with h|⟨_,_,_,h⟩|⟨_,_,_,h⟩|⟨y,ha,h⟩
 ·cases h
 ·cases h
 ·cases h
 ·obtain ⟨h1,h2⟩:=qnp (st:=⟨e,H,lo⟩) h
  have ha':rd e a=.cp y:=by rw [ku (by rw [ha];trivial),ha]
  have he:qc call (.loadC l a) ⟨e,H,lo⟩=some ⟨false,true,.d y,⟨e,H,lo⟩⟩:=by
   simp only [qc,qff,ha',h1,ok]
  rw [he];exact qk rfl h2
noncomputable def qEz (d:Nat) (a:O) (g k:K):KF:=fun call n e H lo=>
 asP ((kY a).run e) (g.run call n e H lo) (fun id off=>k.run call n ((d,.ptr id off)::e) H lo) (fun s off=>k.run call n ((d,.lp s off)::e) H lo) (fun x=>k.run call n ((d,.cp x)::e) H lo)
theorem qvQ {d:Nat} {a:O} {g k:K} (hg:qS g.run (.nilCheck a) (some d) k):qS (qEz d a g k) (.nilCheck a) (some d) k:=by
 intro call n e H lo z h
 unfold qEz at h
 rcases qeY h with h|⟨id,off,ha,h⟩|⟨s,off,ha,h⟩|⟨y,ha,h⟩
 ·exact hg h
 ·have ha':rd e a=.ptr id off:=(ku (by rw [ha];trivial)).trans ha
  rw [show qc call (.nilCheck a) ⟨e,H,lo⟩=some ⟨false,true,.ptr id off,⟨e,H,lo⟩⟩ by simp only [qc,zn,ha',ok]]
  exact qk rfl h
 ·have ha':rd e a=.lp s off:=(ku (by rw [ha];trivial)).trans ha
  rw [show qc call (.nilCheck a) ⟨e,H,lo⟩=some ⟨false,true,.lp s off,⟨e,H,lo⟩⟩ by simp only [qc,zn,ha',ok]]
  exact qk rfl h
 ·have ha':rd e a=.cp y:=(ku (by rw [ha];trivial)).trans ha
  rw [show qc call (.nilCheck a) ⟨e,H,lo⟩=some ⟨false,true,.cp y,⟨e,H,lo⟩⟩ by simp only [qc,zn,ha',ok]]
  exact qk rfl h
noncomputable def qDA (d:Nat) (a:O) (o:Nat) (l:L) (g k:K):KF:=fun call n e H lo=>
 asP ((kY a).run e) (g.run call n e H lo) (fun id off=>qo (Nat.add off o) fun off=>k.run call n ((d,.ptr id off)::e) H lo) (fun s off=>qo (Nat.add off o) fun off=>k.run call n ((d,.lp s off)::e) H lo) (fun _=>g.run call n e H lo)
theorem qhp {a:Nat} {κ:Nat→R}:qo a κ=κ a:=kz a κ
theorem qwY {d:Nat} {a:O} {o:Nat} {l:L} {g k:K} (hg:qS g.run (.fieldAddr a o l) (some d) k):qS (qDA d a o l g k) (.fieldAddr a o l) (some d) k:=by
 intro call n e H lo z h
 unfold qDA at h
 rcases qeY h with h|⟨id,off,ha,h⟩|⟨s,off,ha,h⟩|⟨y,ha,h⟩
 ·exact hg h
 ·rw [qhp] at h
  have ha':rd e a=.ptr id off:=(ku (by rw [ha];trivial)).trans ha
  have he:qc call (.fieldAddr a o l) ⟨e,H,lo⟩=some ⟨false,true,.ptr id (off+o),⟨e,H,lo⟩⟩:=by
   simp only [qc,kh,ha',ok]
  rw [he];exact qk rfl h
 ·rw [qhp] at h
  have ha':rd e a=.lp s off:=(ku (by rw [ha];trivial)).trans ha
  have he:qc call (.fieldAddr a o l) ⟨e,H,lo⟩=some ⟨false,true,.lp s (off+o),⟨e,H,lo⟩⟩:=by
   simp only [qc,kh,ha',ok]
  rw [he];exact qk rfl h
 ·exact hg h
noncomputable def qpv (z:Int) (κ:Nat→R):R:=Int.rec (motive:=fun _=>R) κ (fun _=>none) z
theorem qeJ {z:Int} {κ:Nat→R} {x:Ex × St} (h:qpv z κ=some x):∃m:Nat,z=.ofNat m∧κ m=some x:=by
 cases z with
 | ofNat m=>exact ⟨m,rfl,h⟩
 | negSucc m=>cases h
noncomputable def szD (y:D):Nat:=D.rec (motive_1:=fun _=>Nat) (motive_2:=fun _=>Nat) (fun _=>1) (fun _ _=>1) (fun _=>1) 1 (fun _ _=>1) (fun cs _=>jt cs) 1 1 1 1 1 (fun _ _ _ _=>1) y
theorem qqF (y:D):szD y=y.cells.length:=by
 cases y with
 | agg cs=>exact kp cs
 | _=>rfl
noncomputable def asL (v:V) (z nl:R) (κ:List D→R):R:=OL.rec (motive:=fun _=>R) z nl κ (vL v)
theorem qoF {v:V} {z nl:R} {κ:List D→R} {x:Ex × St} (h:asL v z nl κ=some x):z=some x∨(v=.d .nil∧nl=some x)∨∃xs,v=.d (.sl xs)∧κ xs=some x:=by
 unfold asL at h
 cases hv:vL v with
 | no=>rw [hv] at h;exact .inl h
 | nil=>rw [hv] at h;exact .inr (.inl ⟨qGl hv,h⟩)
 | sl xs=>rw [hv] at h;exact .inr (.inr ⟨xs,qzJ hv,h⟩)
noncomputable def asT (v:V) (z:R) (κ:List Nat→R):R:=OT.rec (motive:=fun _=>R) z κ (vT v)
theorem ql2 {v:V} {z:R} {κ:List Nat→R} {x:Ex × St} (h:asT v z κ=some x):z=some x∨∃t,v=.d (.s t)∧κ t=some x:=by
 unfold asT at h
 cases hv:vT v with
 | no=>rw [hv] at h;exact .inl h
 | s t=>rw [hv] at h;exact .inr ⟨t,qmA hv,h⟩
noncomputable def qBS (d:Nat) (x i:O) (size:Nat) (g k:K):KF:=fun call n e H lo=>
 asL ((kY x).run e) (g.run call n e H lo) none fun xs=>asN ((kY i).run e) none fun _ z=>qpv z fun m=>orN (fnth xs m) fun y=>Bool.rec (motive:=fun _=>R) none (k.run call n ((d,.cp y)::e) H lo) (qI0 (szD y) size)
theorem qwy {d:Nat} {x i:O} {size:Nat} {g k:K} (hg:qS g.run (.indexAddr x i size none) (some d) k):qS (qBS d x i size g k) (.indexAddr x i size none) (some d) k:=by
 intro call n e H lo z h
 unfold qBS at h
 rcases qoF h with h|⟨_,h⟩|⟨xs,hx,h⟩
 ·exact hg h
 ·cases h
 rcases qbd h with h|⟨kk,w,hi,h⟩
 ·cases h
 obtain ⟨m,rfl,h⟩:=qeJ h
 obtain ⟨y,hy,h⟩:=zh h
 rw [jb] at hy
 rw [qqF] at h
 cases hb:qI0 y.cells.length size with
 | false=>rw [hb] at h;cases h
 | true=>
  rw [hb] at h
  have hx':rd e x=.d (.sl xs):=(ku (by rw [hx];trivial)).trans hx
  have hl:leI 0 (Int.ofNat m)=true:=by show Nat.ble 0 m=true;exact Nat.ble_eq_true_of_le (Nat.zero_le m)
  have ht:(Int.ofNat m).toNat=m:=rfl
  have he:qc call (.indexAddr x i size none) ⟨e,H,lo⟩=some ⟨false,true,.cp y,⟨e,H,lo⟩⟩:=by
   simp only [qc,kg,jd,hx',qlJ hi,hl,ht,hy,hb,cond_true,ok]
  rw [he];exact qk rfl h
noncomputable def qFc (d:Nat) (x i:O) (k:K):KF:=fun call n e H lo=>
 asT ((kY x).run e) none fun t=>asN ((kY i).run e) none fun _ z=>qpv z fun m=>orN (fnth t m) fun y=>k.run call n ((d,.d (.i .u8 (.ofNat y)))::e) H lo
theorem qw0 {d:Nat} {x i:O} {k:K}:qS (qFc d x i k) (.index x i) (some d) k:=by
 intro call n e H lo z h
 unfold qFc at h
 rcases ql2 h with h|⟨t,hx,h⟩
 ·cases h
 rcases qbd h with h|⟨kk,w,hi,h⟩
 ·cases h
 obtain ⟨m,rfl,h⟩:=qeJ h
 obtain ⟨y,hy,h⟩:=zh h
 rw [jb] at hy
 have hx':rd e x=.d (.s t):=(ku (by rw [hx];trivial)).trans hx
 have hl:leI 0 (Int.ofNat m)=true:=by show Nat.ble 0 m=true;exact Nat.ble_eq_true_of_le (Nat.zero_le m)
 have ht:(Int.ofNat m).toNat=m:=rfl
 have he:qc call (.index x i) ⟨e,H,lo⟩=some ⟨false,true,.d (.i .u8 (.ofNat y)),⟨e,H,lo⟩⟩:=by
  simp only [qc,qfc,hx',qlJ hi,hl,ht,hy,cond_true,ok];rfl
 rw [he];exact qk rfl h
noncomputable def asU (v:V) (κ:List V→R):R:=OU.rec (motive:=fun _=>R) none κ (vU v)
theorem qyw {v:V} {κ:List V→R} {x:Ex × St} (h:asU v κ=some x):∃vs,v=.tup vs∧κ vs=some x:=by
 unfold asU at h
 cases hv:vU v with
 | no=>rw [hv] at h;cases h
 | t vs=>rw [hv] at h;exact ⟨vs,qIB hv,h⟩
noncomputable def qDq (d m i:Nat) (k:K):KF:=fun call n e H lo=>
 asU (fget m e) fun vs=>orN (fnth vs i) fun v=>quT v fun v=>k.run call n ((d,v)::e) H lo
theorem qvy {d m i:Nat} {k:K}:qS (qDq d m i k) (.extract (.t m) i) (some d) k:=by
 intro call n e H lo z h
 unfold qDq at h
 obtain ⟨vs,hv,h⟩:=qyw h
 obtain ⟨v,hn,h⟩:=zh h
 obtain ⟨hb,h⟩:=qk3 h
 rw [y1] at hv
 rw [jb] at hn
 have he:qc call (.extract (.t m) i) ⟨e,H,lo⟩=some ⟨false,true,copy v,⟨e,H,lo⟩⟩:=by
  simp only [qc,yS,hv,hn,ok]
 rw [he];exact qk hb h
noncomputable def qzC (d:Nat) (x:O) (k:K):KF:=fun call n e H lo=>
 asT ((kY x).run e) none fun t=>qo (jt t) fun m=>k.run call n ((d,.d (.i .i64 (.ofNat m)))::e) H lo
theorem qui {d:Nat} {x:O} {k:K}:qS (qzC d x k) (.bi .lenS [x]) (some d) k:=by
 intro call n e H lo z h
 unfold qzC at h
 rcases ql2 h with h|⟨t,hx,h⟩
 ·cases h
 rw [qhp,kp] at h
 have hx':rd e x=.d (.s t):=(ku (by rw [hx];trivial)).trans hx
 have he:qc call (.bi .lenS [x]) ⟨e,H,lo⟩=some ⟨false,true,.d (.i .i64 (.ofNat t.length)),⟨e,H,lo⟩⟩:=by
  simp only [qc,eBi,qil,hx',ok];rfl
 rw [he];exact qk rfl h
noncomputable def qxv (d:Nat) (x:O) (g k:K):KF:=fun call n e H lo=>
 asL ((kY x).run e) (g.run call n e H lo) (k.run call n ((d,.d (.i .i64 (.ofNat 0)))::e) H lo) fun xs=>qo (jt xs) fun m=>k.run call n ((d,.d (.i .i64 (.ofNat m)))::e) H lo
theorem quB {d:Nat} {x:O} {g k:K} (hg:qS g.run (.bi .lenL [x]) (some d) k):qS (qxv d x g k) (.bi .lenL [x]) (some d) k:=by
 intro call n e H lo z h
 unfold qxv at h
 rcases qoF h with h|⟨hx,h⟩|⟨xs,hx,h⟩
 ·exact hg h
 ·have hx':rd e x=.d .nil:=(ku (by rw [hx];trivial)).trans hx
  have he:qc call (.bi .lenL [x]) ⟨e,H,lo⟩=some ⟨false,true,.d (.i .i64 (.ofNat 0)),⟨e,H,lo⟩⟩:=by
   simp only [qc,eBi,qcP,qAM,hx',ok];rfl
  rw [he];exact qk rfl h
 ·rw [qhp,kp] at h
  have hx':rd e x=.d (.sl xs):=(ku (by rw [hx];trivial)).trans hx
  have he:qc call (.bi .lenL [x]) ⟨e,H,lo⟩=some ⟨false,true,.d (.i .i64 (.ofNat xs.length)),⟨e,H,lo⟩⟩:=by
   simp only [qc,eBi,qcP,qAM,hx',ok];rfl
  rw [he];exact qk rfl h
noncomputable def asB (v:V) (a b:R):R:=OB.rec (motive:=fun _=>R) none b a (vB v)
theorem qn9 {v:V} {a b:R} {x:Ex × St} (h:asB v a b=some x):(v=.d (.b true)∧a=some x)∨(v=.d (.b false)∧b=some x):=by
 unfold asB at h
 cases hv:vB v with
 | no=>rw [hv] at h;cases h
 | t=>rw [hv] at h;exact .inl ⟨qID hv,h⟩
 | f=>rw [hv] at h;exact .inr ⟨qIM hv,h⟩
noncomputable def qC6 (d:Nat) (x:O) (k:K):KF:=fun call n e H lo=>
 asB ((kY x).run e) (k.run call n ((d,.d (.b false))::e) H lo) (k.run call n ((d,.d (.b true))::e) H lo)
theorem qwc {d:Nat} {x:O} {k:K}:qS (qC6 d x k) (.un .not x) (some d) k:=by
 intro call n e H lo z h
 unfold qC6 at h
 rcases qn9 h with ⟨hx,h⟩|⟨hx,h⟩
 ·have hx':rd e x=.d (.b true):=(ku (by rw [hx];trivial)).trans hx
  rw [show qc call (.un .not x) ⟨e,H,lo⟩=some ⟨false,true,.d (.b false),⟨e,H,lo⟩⟩ by simp only [qc,eUn,hx',unD,ok];rfl]
  exact qk rfl h
 ·have hx':rd e x=.d (.b false):=(ku (by rw [hx];trivial)).trans hx
  rw [show qc call (.un .not x) ⟨e,H,lo⟩=some ⟨false,true,.d (.b true),⟨e,H,lo⟩⟩ by simp only [qc,eUn,hx',unD,ok];rfl]
  exact qk rfl h
noncomputable def quG (v:V):Bool:=V.rec (motive_1:=fun _=>Bool) (motive_2:=fun _=>Bool) (fun x=>D.rec (motive_1:=fun _=>Bool) (motive_2:=fun _=>Bool) (fun _=>true) (fun _ _=>true) (fun _=>true) true (fun _ _=>true) (fun _ _=>false) true true true true true (fun _ _ _ _=>true) x) (fun _=>true) (fun _=>true) (fun _ _=>true) (fun _ _=>false) (fun _ _=>false) (fun _=>false) (fun _ _ _ _=>true) (fun _ _ _=>true) (fun _=>true) (fun _ _ _ _ _=>false) (fun _ _ _=>false) (fun _ _=>false) (fun _ _=>false) false false (fun _ _ _ _=>false) v
theorem quW {v:V} (h:quG v=true):v.cells=[v]∧V.ones [v]=true:=by
 cases v with
 | d x=>cases x<;>first|exact ⟨rfl,rfl⟩|cases h
 | _=>first|exact ⟨rfl,rfl⟩|cases h
noncomputable def qrE (v:V) (cs:List V):Nat→(List V→R)→R:=
 List.rec (motive:=fun _=>Nat→(List V→R)→R) (fun _ _=>none) (fun c t ih off κ=>Nat.rec (motive:=fun _=>R) (κ (v::t)) (fun m _=>ih m fun t'=>κ (c::t')) off) cs
theorem qjU {v:V}:∀{cs:List V} {off:Nat} {κ:List V→R} {x:Ex × St},qrE v cs off κ=some x→∃cs',kI cs off [v]=some cs'∧κ cs'=some x
 | [],off,κ,x,h=>by cases h
 | c::t,0,κ,x,h=>⟨v::t,by simp [kI],h⟩
 | c::t,m+1,κ,x,h=>by
  have h:qrE v t m (fun t'=>κ (c::t'))=some x:=h
  obtain ⟨cs',h1,h2⟩:=qjU h
  refine ⟨c::cs',?_,h2⟩
  simp only [kI,qI4,qI3] at h1 ⊢
  split at h1
  ·rename_i hl
   cases h1
   rw [if_pos (by omega)]
   simp [Nat.add_right_comm]
  ·cases h1
noncomputable def qkJ (o:Obj) (H:List Obj):Nat→(List Obj→R)→R:=
 List.rec (motive:=fun _=>Nat→(List Obj→R)→R) (fun _ _=>none) (fun c t ih off κ=>Nat.rec (motive:=fun _=>R) (κ (o::t)) (fun m _=>ih m fun t'=>κ (c::t')) off) H
theorem qch {o:Obj}:∀{H:List Obj} {id:Nat} {κ:List Obj→R} {x:Ex × St},qkJ o H id κ=some x→κ (qT H id o)=some x
 | [],off,κ,x,h=>by cases h
 | c::t,0,κ,x,h=>h
 | c::t,m+1,κ,x,h=>by
  have h:qkJ o t m (fun t'=>κ (c::t'))=some x:=h
  exact qch (H:=t) (id:=m) (κ:=fun t'=>κ (c::t')) h
noncomputable def qkq (a b:Nat) (κ:Nat→R):R:=Bool.rec (motive:=fun _=>R) (κ b) (κ a) (Nat.ble a b)
theorem qfN (a b:Nat) (κ:Nat→R):qkq a b κ=κ (min a b):=by
 unfold qkq
 cases h:Nat.ble a b with
 | true=>rw [Nat.min_eq_left (Nat.le_of_ble_eq_true h)]
 | false=>
  have:¬a≤b:=fun hc=>by rw [Nat.ble_eq_true_of_le hc] at h;cases h
  rw [Nat.min_eq_right (by omega)]
noncomputable def qzY (g k:K) (v:V) (id off:Nat) (call:Call) (n:Nat) (e:Env) (H:List Obj) (lo:Nat) (e':Env):R:=
 match fnth H id with
 | some (.row l cs)=>Bool.rec (motive:=fun _=>R) (g.run call n e H lo) (qrE v cs off fun cs=>qkJ (.row l cs) H id fun H=>qkq lo id fun lo=>k.run call n e' H lo) v.ok
 | _=>g.run call n e H lo
noncomputable def qGW (sl:Option Nat) (a x:O) (g k:K):KF:=
 Option.rec (motive:=fun _=>KF)
  (fun call n e H lo=>asP ((kY a).run e) (g.run call n e H lo) (fun id off=>(rdC x).run e fun v=>Bool.rec (motive:=fun _=>R) (g.run call n e H lo) (orZ (qmP (fnth H id)) (qzY g k v id off call n e H lo ((spO x).run e)) fun cs=>qrE v cs off fun cs=>qkJ (.cells cs) H id fun H=>qkq lo id fun lo=>k.run call n ((spO x).run e) H lo) (quG v)) (fun _ _=>none) (fun _=>none))
  (fun s0 call n e H lo=>asP ((kY a).run e) (g.run call n e H lo) (fun _ _=>none) (fun s off=>(rdC x).run e fun v=>Bool.rec (motive:=fun _=>R) (g.run call n e H lo) (Bool.rec (motive:=fun _=>R) none (orN (qry (fget s ((spO x).run e))) fun cs=>qrE v cs off fun cs=>k.run call n ((s,.box cs)::(spO x).run e) H lo) (qI0 s0 s)) (quG v)) (fun _=>none)) sl
theorem qwJ {sl:Option Nat} {a x:O} {g k:K} (hg:qS g.run (.store sl ⟨1,false⟩ a x) none k):qS (qGW sl a x g k) (.store sl ⟨1,false⟩ a x) none k:=by
 intro call n e H lo z h
 cases sl with
 | none=>
  have h:(asP ((kY a).run e) (g.run call n e H lo) (fun id off=>(rdC x).run e fun v=>Bool.rec (motive:=fun _=>R) (g.run call n e H lo) (orZ (qmP (fnth H id)) (qzY g k v id off call n e H lo ((spO x).run e)) fun cs=>qrE v cs off fun cs=>qkJ (.cells cs) H id fun H=>qkq lo id fun lo=>k.run call n ((spO x).run e) H lo) (quG v)) (fun _ _=>none) (fun _=>none))=some z:=h
  rcases qeY h with h|⟨id,off,ha,h⟩|⟨_,_,_,h⟩|⟨y,ha,h⟩
  ·exact hg h
  ·rw [qgm] at h
   cases ho:quG (rd e x) with
   | false=>rw [ho] at h;exact hg h
   | true=>
    rw [ho] at h
    obtain ⟨h1,h2⟩:=quW ho
    rcases qlM (o:=qmP (fnth H id)) h with h|⟨cs,hc,h⟩
    ·unfold qzY at h
     rw [jb] at h
     split at h
     ·rename_i l' cs hob
      cases hok:(rd e x).ok with
      | false=>rw [hok] at h;exact hg h
      | true=>
       rw [hok] at h
       obtain ⟨cs',hs,h⟩:=qjU h
       have h:=qch h
       rw [qfN,qk2] at h
       have ha':rd e a=.ptr id off:=(ku (by rw [ha];trivial)).trans ha
       have he:qc call (.store none ⟨1,false⟩ a x) ⟨e,H,lo⟩=some ⟨false,false,.undef,⟨spent x e,qT H id (.row l' cs'),min lo id⟩⟩:=by
        simp only [qc,qam,ha',qI,y7,hob,h1,h2,hs,hok,V.ok.oks,qI6,cond_false,okH,qI4,qI3,Nat.zero_add,decide_true,Bool.and_self,if_true]
       rw [he]
       exact ⟨_,rfl,.inl ⟨rfl,_,rfl,h⟩⟩
     ·exact hg h
    obtain ⟨cs',hs,h⟩:=qjU h
    have h:=qch h
    rw [qfN,qk2] at h
    have hc:=qnl hc
    rw [jb] at hc
    have ha':rd e a=.ptr id off:=(ku (by rw [ha];trivial)).trans ha
    have he:qc call (.store none ⟨1,false⟩ a x) ⟨e,H,lo⟩=some ⟨false,false,.undef,⟨spent x e,qT H id (.cells cs'),min lo id⟩⟩:=by
     simp only [qc,qam,ha',qI,y7,hc,h1,h2,hs,qI6,cond_false,okH,qI4,qI3,Nat.zero_add,decide_true,Bool.and_self,if_true]
    rw [he]
    exact ⟨_,rfl,.inl ⟨rfl,_,rfl,h⟩⟩
  ·cases h
  ·cases h
 | some s0=>
  have h:(asP ((kY a).run e) (g.run call n e H lo) (fun _ _=>none) (fun s off=>(rdC x).run e fun v=>Bool.rec (motive:=fun _=>R) (g.run call n e H lo) (Bool.rec (motive:=fun _=>R) none (orN (qry (fget s ((spO x).run e))) fun cs=>qrE v cs off fun cs=>k.run call n ((s,.box cs)::(spO x).run e) H lo) (qI0 s0 s)) (quG v)) (fun _=>none))=some z:=h
  rcases qeY h with h|⟨_,_,_,h⟩|⟨s,off,ha,h⟩|⟨_,_,h⟩
  ·exact hg h
  ·cases h
  ·rw [qgm] at h
   cases ho:quG (rd e x) with
   | false=>rw [ho] at h;exact hg h
   | true=>
    rw [ho] at h
    obtain ⟨h1,h2⟩:=quW ho
    have h:Bool.rec (motive:=fun _=>R) none (orN (qry (fget s ((spO x).run e))) fun cs=>qrE (rd e x) cs off fun cs=>k.run call n ((s,.box cs)::(spO x).run e) H lo) (qI0 s0 s)=some z:=h
    cases hb:qI0 s0 s with
    | false=>rw [hb] at h;cases h
    | true=>
     rw [hb] at h
     obtain ⟨cs,hc,h⟩:=zh (o:=qry (fget s ((spO x).run e))) h
     obtain ⟨cs',hs,h⟩:=qjU h
     have hc:=qqc hc
     rw [y1,qk2] at hc
     rw [qk2] at h
     have ha':rd e a=.lp s off:=(ku (by rw [ha];trivial)).trans ha
     have he:qc call (.store (some s0) ⟨1,false⟩ a x) ⟨e,H,lo⟩=some ⟨false,true,.undef,⟨(s,.box cs')::spent x e,H,lo⟩⟩:=by
      simp only [qc,qam,ha',qI,y7,hb,hc,h1,h2,hs,qI6,cond_false,ok,qI4,qI3,Nat.zero_add,decide_true,Bool.and_self,if_true]
     rw [he]
     exact ⟨_,rfl,.inl ⟨rfl,_,rfl,h⟩⟩
  ·cases h
noncomputable def qy5 {α:Type} (o:α) (l:List α):(List α→R)→R:=List.rec (motive:=fun _=>(List α→R)→R) (fun κ=>κ [o]) (fun x _ ih κ=>ih fun r=>κ (x::r)) l
theorem qrU {α:Type} (o:α) (l:List α) (κ:List α→R):qy5 o l κ=κ (l++[o]):=by
 induction l generalizing κ with
 | nil=>rfl
 | cons x l ih=>exact ih _
noncomputable def qFW (d:Nat) (zero:List D) (k:K):KF:=fun call n e H lo=>
 jo (fun v κ=>κ v) (zero.map V.d) fun cs=>qo (jt H) fun m=>qy5 (.cells cs) H fun H=>k.run call n ((d,.ptr m 0)::e) H lo
theorem qwU {d:Nat} {zero:List D} {k:K}:qS (qFW d zero k) (.alloc false zero) (some d) k:=by
 intro call n e H lo z h
 unfold qFW at h
 rw [ky (fun v κ=>rfl),qhp,kp,qrU] at h
 exact qk (same:=false) rfl h
noncomputable def qCJ (d:Nat) (k:K):KF:=fun call n e H lo=>qo (jt H) fun m=>qy5 (.map []) H fun H=>k.run call n ((d,.map m)::e) H lo
theorem qwT {d:Nat} {k:K}:qS (qCJ d k) .mkMap (some d) k:=by
 intro call n e H lo z h
 unfold qCJ at h
 rw [qhp,kp,qrU] at h
 exact qk (same:=false) rfl h
noncomputable def qmI (a:List Nat):List Nat→Bool:=List.rec (motive:=fun _=>List Nat→Bool) (fun b=>List.rec (motive:=fun _=>Bool) true (fun _ _ _=>false) b) (fun x _ ih b=>List.rec (motive:=fun _=>Bool) false (fun y t _=>Bool.rec (motive:=fun _=>Bool) false (ih t) (qI0 x y)) b) a
theorem qnG:∀a b:List Nat,qmI a b=eqT a b
 | [],[]=>rfl
 | [],_::_=>rfl
 | _::_,[]=>rfl
 | x::a,y::b=>by
  show Bool.rec (motive:=fun _=>Bool) false (qmI a b) (qI0 x y)=(qI0 x y && eqT a b)
  rw [qnG a b]
  cases qI0 x y<;>rfl
noncomputable def qsO (x w:D):Option Bool:=D.rec (motive_1:=fun _=>Option Bool) (motive_2:=fun _=>Option Bool) (fun y=>D.same (.b y) w) (fun k n=>D.same (.i k n) w) (fun t=>OT.rec (motive:=fun _=>Option Bool) (D.same (.s t) w) (fun u=>some (qmI t u)) (vT (.d w))) none (fun _ _=>none) (fun _ _=>none) none none none none none (fun _ _ _ _=>none) x
theorem qrD (x w:D):qsO x w=D.same x w:=by
 cases x with
 | s t=>
  show OT.rec (motive:=fun _=>Option Bool) (D.same (.s t) w) (fun u=>some (qmI t u)) (vT (.d w))=_
  cases h:vT (.d w) with
  | no=>rfl
  | s u=>
   have:=qmA h
   cases this
   show some (qmI t u)=some (eqT t u)
   rw [qnG]
 | b z=>rfl
 | i k n=>rfl
 | _=>cases w<;>rfl
noncomputable def qyU (k:D) (es:List (D × V)):Option (Option V):=List.rec (motive:=fun _=>Option (Option V)) (some none) (fun p _ ih=>Option.rec (motive:=fun _=>Option (Option V)) none (fun b=>Bool.rec (motive:=fun _=>Option (Option V)) ih (some (some p.2)) b) (qsO k p.1)) es
theorem qy1 (k:D) (es:List (D × V)):qyU k es=qcl k es:=by
 induction es with
 | nil=>rfl
 | cons p es ih=>
  obtain ⟨k',v⟩:=p
  show Option.rec (motive:=fun _=>Option (Option V)) none (fun b=>Bool.rec (motive:=fun _=>Option (Option V)) (qyU k es) (some (some v)) b) (qsO k k')=qcl k ((k',v)::es)
  rw [qrD,ih]
  simp only [qcl]
  cases D.same k k' with
  | none=>rfl
  | some b=>cases b<;>rfl
noncomputable def qyd (k:D) (v:V) (es:List (D × V)):(List (D × V)→R)→R:=List.rec (motive:=fun _=>(List (D × V)→R)→R) (fun κ=>κ [(k,v)]) (fun p t ih κ=>Option.rec (motive:=fun _=>R) none (fun b=>Bool.rec (motive:=fun _=>R) (ih fun r=>κ (p::r)) (κ ((p.1,v)::t)) b) (qsO k p.1)) es
theorem qpb {k:D} {v:V}:∀{es:List (D × V)} {κ:List (D × V)→R} {x:Ex × St},qyd k v es κ=some x→∃es',qjI k v es=some es'∧κ es'=some x
 | [],κ,x,h=>⟨_,rfl,h⟩
 | (k',w)::es,κ,x,h=>by
  have h:Option.rec (motive:=fun _=>R) none (fun b=>Bool.rec (motive:=fun _=>R) (qyd k v es fun r=>κ ((k',w)::r)) (κ ((k',v)::es)) b) (qsO k k')=some x:=h
  rw [qrD] at h
  cases hs:D.same k k' with
  | none=>rw [hs] at h;cases h
  | some b=>
   rw [hs] at h
   cases b with
   | true=>exact ⟨_,by simp only [qjI,hs],h⟩
   | false=>
    obtain ⟨es',h1,h2⟩:=qpb (es:=es) h
    exact ⟨_,by simp only [qjI,hs,h1],h2⟩
noncomputable def vD (v:V):Option D:=V.rec (motive_1:=fun _=>Option D) (motive_2:=fun _=>Option D) (fun x=>some x) (fun _=>none) (fun _=>none) (fun _ _=>none) (fun _ _=>none) (fun _ _=>none) (fun _=>none) (fun _ _ _ _=>none) (fun _ _ _=>none) (fun _=>none) (fun _ _ _ _ _=>none) (fun _ _ _=>none) (fun _ _=>none) (fun _ _=>none) none none (fun _ _ _ _=>none) v
theorem qq9 {v:V} {x:D} (h:vD v=some x):v=.d x:=by
 cases v with
 | d y=>have h:some y=some x:=h;cases h;rfl
 | _=>cases h
noncomputable def qFO (v:V):Option Nat:=V.rec (motive_1:=fun _=>Option Nat) (motive_2:=fun _=>Option Nat) (fun _=>none) (fun _=>none) (fun _=>none) (fun _ _=>none) (fun _ _=>none) (fun _ _=>none) (fun _=>none) (fun _ _ _ _=>none) (fun _ _ _=>none) (fun a=>some a) (fun _ _ _ _ _=>none) (fun _ _ _=>none) (fun _ _=>none) (fun _ _=>none) none none (fun _ _ _ _=>none) v
theorem qpR {v:V} {m:Nat} (h:qFO v=some m):v=.map m:=by
 cases v with
 | map y=>have h:some y=some m:=h;cases h;rfl
 | _=>cases h
noncomputable def qCP (o:Option Obj):Option (List (D × V)):=Option.rec (motive:=fun _=>Option (List (D × V))) none (fun ob=>Obj.rec (motive:=fun _=>Option (List (D × V))) (fun _=>none) (fun es=>some es) (fun _ _=>none) none (fun _=>none) ob) o
theorem qpC {o:Option Obj} {es:List (D × V)} (h:qCP o=some es):o=some (.map es):=by
 cases o with
 | none=>cases h
 | some ob=>cases ob with
  | map c=>have h:some c=some es:=h;cases h;rfl
  | _=>cases h
noncomputable def qaf (b:Bool) (κ:R):R:=Bool.rec (motive:=fun _=>R) none κ b
theorem kf {b:Bool} {κ:R} {x:Ex × St} (h:qaf b κ=some x):b=true∧κ=some x:=by
 cases b with
 | false=>cases h
 | true=>exact ⟨rfl,h⟩
noncomputable def qyP (d:Nat) (kk:Nat) (zero:D) (m q:O) (c:Bool) (g k:K):KF:=fun call n e H lo=>
 orZ (qFO ((kY m).run e)) (g.run call n e H lo) fun id=>orN (vD ((kY q).run e)) fun key=>orN (qCP (fnth H id)) fun es=>qaf (zN kk key) (orN (qyU key es) fun r=>
  Option.rec (motive:=fun _=>R) (Bool.rec (motive:=fun _=>R) (k.run call n ((d,.d zero)::e) H lo) (k.run call n ((d,.tup [.d zero,.d (.b false)])::e) H lo) c) (fun v=>Bool.rec (motive:=fun _=>R) (quT v fun v=>k.run call n ((d,v)::e) H lo) (quT v fun v=>k.run call n ((d,.tup [v,.d (.b true)])::e) H lo) c) r)
theorem qt2 {d kk:Nat} {zero:D} {m q:O} {c:Bool} {g k:K} (hg:qS g.run (.lookup kk zero m q c) (some d) k):qS (qyP d kk zero m q c g k) (.lookup kk zero m q c) (some d) k:=by
 intro call n e H lo z h
 unfold qyP at h
 rcases qlM h with h|⟨id,hm,h⟩
 ·exact hg h
 obtain ⟨key,hq,h⟩:=zh h
 obtain ⟨es,hs,h⟩:=zh h
 obtain ⟨hgk,h⟩:=kf h
 obtain ⟨r,hf,h⟩:=zh h
 have hm:=qpR hm
 have hq:=qq9 hq
 have hs:=qpC hs
 rw [jb] at hs
 rw [qy1] at hf
 have hm':rd e m=.map id:=(ku (by rw [hm];trivial)).trans hm
 have hq':rd e q=.d key:=(ku (by rw [hq];trivial)).trans hq
 cases r with
 | none=>
  have he:qc call (.lookup kk zero m q c) ⟨e,H,lo⟩=some ⟨false,true,bif c then .tup [.d zero,.d (.b false)] else .d zero,⟨e,H,lo⟩⟩:=by
   simp only [qc,ja,hm',hq',hs,hgk,hf,ok,if_true]
  rw [he]
  cases c<;>exact qk rfl h
 | some v=>
  have he:qc call (.lookup kk zero m q c) ⟨e,H,lo⟩=some ⟨false,true,bif c then .tup [copy v,.d (.b true)] else copy v,⟨e,H,lo⟩⟩:=by
   simp only [qc,ja,hm',hq',hs,hgk,hf,ok,if_true]
  rw [he]
  cases c with
  | false=>
   obtain ⟨hb,h⟩:=qk3 (v:=v) h
   exact qk hb h
  | true=>
   obtain ⟨hb,h⟩:=qk3 (v:=v) h
   exact qk rfl h
noncomputable def okF (v:V):Bool:=V.rec (motive_1:=fun _=>Bool) (motive_2:=fun _=>Bool) (fun _=>true) (fun _=>false) (fun _=>true) (fun _ _=>true) (fun _ _=>false) (fun _ _=>false) (fun _=>false) (fun _ _ _ _=>true) (fun _ _ _=>true) (fun _=>true) (fun f a b _ _=>V.ok (.fn f a b)) (fun t x _=>V.ok (.ifc t x)) (fun cs _=>V.ok (.agg cs)) (fun vs _=>V.ok (.tup vs)) true false (fun _ _ _ _=>false) v
theorem qFP (v:V):okF v=v.ok:=by cases v<;>rfl
noncomputable def qBT (kk:Nat) (m q x:O) (k:K):KF:=fun call n e H lo=>
 orN (qFO ((kY m).run e)) fun id=>orN (vD ((kY q).run e)) fun key=>orN (qCP (fnth H id)) fun es=>(rdC x).run e fun v=>qaf (zN kk key) (qaf (okF v) (qyd key v es fun es=>qkJ (.map es) H id fun H=>qkq lo id fun lo=>k.run call n ((spO x).run e) H lo))
theorem qwF {kk:Nat} {m q x:O} {k:K}:qS (qBT kk m q x k) (.mapUpdate kk m q x) none k:=by
 intro call n e H lo z h
 unfold qBT at h
 obtain ⟨id,hm,h⟩:=zh h
 obtain ⟨key,hq,h⟩:=zh h
 obtain ⟨es,hs,h⟩:=zh h
 rw [qgm] at h
 obtain ⟨hgk,h⟩:=kf h
 obtain ⟨hok,h⟩:=kf h
 obtain ⟨es',hp,h⟩:=qpb h
 have h:=qch h
 rw [qfN,qk2] at h
 have hm:=qpR hm
 have hq:=qq9 hq
 have hs:=qpC hs
 rw [jb] at hs
 rw [qFP] at hok
 have hm':rd e m=.map id:=(ku (by rw [hm];trivial)).trans hm
 have hq':rd e q=.d key:=(ku (by rw [hq];trivial)).trans hq
 have he:qc call (.mapUpdate kk m q x) ⟨e,H,lo⟩=some ⟨false,false,.undef,⟨spent x e,qT H id (.map es'),min lo id⟩⟩:=by
  simp only [qc,z9,hm',hq',hs,hgk,hok,hp,okH,if_true,Bool.and_self]
 rw [he]
 exact ⟨_,rfl,.inl ⟨rfl,_,rfl,h⟩⟩
noncomputable def hdF (size:Nat) (l:List D):Bool:=List.rec (motive:=fun _=>Bool) true (fun x _ _=>qI0 (szD x) size) l
theorem quq (size:Nat) (l:List D):hdF size l=ze size l:=by
 cases l with
 | nil=>rfl
 | cons x l=>show qI0 (szD x) size=qI0 x.cells.length size;rw [qqF]
noncomputable def qoU (bytes n:Nat):Bool:=Bool.rec (motive:=fun _=>Bool) false (Nat.ble n 140737488355328) (Nat.ble (Nat.mul n bytes) 140737488355328)
theorem qn8 (bytes n:Nat):qoU bytes n=roomy bytes n:=by
 show Bool.rec (motive:=fun _=>Bool) false (Nat.ble n 140737488355328) (Nat.ble (n * bytes) 140737488355328)=(Nat.ble (n * bytes) 140737488355328 && Nat.ble n 140737488355328)
 cases Nat.ble (n * bytes) 140737488355328<;>rfl
noncomputable def qye {α:Type} (ys:List α) (l:List α):(List α→R)→R:=List.rec (motive:=fun _=>(List α→R)→R) (fun κ=>κ ys) (fun x _ ih κ=>ih fun r=>κ (x::r)) l
theorem quQ {α:Type} (ys l:List α) (κ:List α→R):qye ys l κ=κ (l++ys):=by
 induction l generalizing κ with
 | nil=>rfl
 | cons x l ih=>exact ih _
inductive OA where
 | no|nil
 | osl (xs:List D)
 | fsl (xs:List D)
noncomputable def vA (v:V):OA:=V.rec (motive_1:=fun _=>OA) (motive_2:=fun _=>OA) (fun x=>D.rec (motive_1:=fun _=>OA) (motive_2:=fun _=>OA) (fun _=>.no) (fun _ _=>.no) (fun _=>.no) .nil (fun _ _=>.no) (fun _ _=>.no) .no .no .no .no .no (fun _ _ _ _=>.no) x) (fun xs=>.osl xs) (fun xs=>.fsl xs) (fun _ _=>.no) (fun _ _=>.no) (fun _ _=>.no) (fun _=>.no) (fun _ _ _ _=>.no) (fun _ _ _=>.no) (fun _=>.no) (fun _ _ _ _ _=>.no) (fun _ _ _=>.no) (fun _ _=>.no) (fun _ _=>.no) .no .no (fun _ _ _ _=>.no) v
theorem qCx {v:V} (h:vA v=.nil):v=.d .nil:=by
 cases v with
 | d x=>cases x with
  | nil=>rfl
  | _=>cases h
 | _=>cases h
theorem qCs {v:V} {xs:List D} (h:vA v=.osl xs):v=.osl xs:=by
 cases v with
 | osl ys=>have h:OA.osl ys=.osl xs:=h;cases h;rfl
 | d x=>cases x<;>cases h
 | _=>cases h
theorem qGm {v:V} {xs:List D} (h:vA v=.fsl xs):v=.fsl xs:=by
 cases v with
 | fsl ys=>have h:OA.fsl ys=.fsl xs:=h;cases h;rfl
 | d x=>cases x<;>cases h
 | _=>cases h
noncomputable def qHa {α:Type} (l:List α):Bool:=List.rec (motive:=fun _=>Bool) false (fun _ _ _=>true) l
noncomputable def qBU (d size bytes:Nat) (x y:O) (g k:K):KF:=fun call n e H lo=>
 (rdC x).run e fun a=>(rdC y).run e fun b=>asL b (g.run call n e H lo) (g.run call n e H lo) fun ys=>
  OA.rec (motive:=fun _=>R) (g.run call n e H lo)
   (Bool.rec (motive:=fun _=>R) (g.run call n e H lo) (qaf (hdF size ys) (qaf (qoU bytes (jt ys)) (k.run call n ((d,.osl ys)::(spO x).run e) H lo))) (qHa ys))
   (fun xs=>qaf (hdF size xs) (qaf (hdF size ys) (qaf (qoU bytes (Nat.add (jt xs) (jt ys))) (qye ys xs fun zs=>k.run call n ((d,.osl zs)::(spO x).run e) H lo))))
   (fun xs=>qaf (hdF size xs) (qaf (hdF size ys) (qaf (qoU bytes (Nat.add (jt xs) (jt ys))) (qye ys xs fun zs=>k.run call n ((d,.osl zs)::(spO x).run e) H lo)))) (vA a)
theorem qw2 {d size bytes:Nat} {x y:O} {g k:K} (hg:qS g.run (.bi (.append size bytes) [x,y]) (some d) k):qS (qBU d size bytes x y g k) (.bi (.append size bytes) [x,y]) (some d) k:=by
 intro call n e H lo z h
 unfold qBU at h
 rw [qgm,qgm] at h
 rcases qoF h with h|⟨_,h⟩|⟨ys,hy,h⟩
 ·exact hg h
 ·exact hg h
 have done:∀{v:V},v.isBox=false→qj3 size bytes (rd e x) (rd e y)=some v→k.run call n ((d,v)::(spO x).run e) H lo=some z→qpH (qc call (.bi (.append size bytes) [x,y]) ⟨e,H,lo⟩) (some d) k call n z:=by
  intro v hb hv hk
  have he:qc call (.bi (.append size bytes) [x,y]) ⟨e,H,lo⟩=some ⟨false,true,v,⟨spent x e,H,lo⟩⟩:=by
   simp only [qc,eBi,y6,hv,ok]
  rw [he]
  rw [qk2] at hk
  exact qk hb hk
 cases ha:vA (rd e x) with
 | no=>rw [ha] at h;exact hg h
 | nil=>
  rw [ha] at h
  cases ys with
  | nil=>exact hg h
  | cons y0 ys=>
   obtain ⟨h1,h⟩:=kf (κ:=qaf (qoU bytes (jt (y0::ys))) (k.run call n ((d,.osl (y0::ys))::(spO x).run e) H lo)) h
   obtain ⟨h2,h⟩:=kf h
   rw [quq] at h1
   rw [qn8,kp] at h2
   exact done rfl (by rw [qCx ha,hy];simp only [qj3,h1,h2,Bool.and_self,cond_true]) h
 | osl xs=>
  rw [ha] at h
  obtain ⟨h1,h⟩:=kf (b:=hdF size xs) (κ:=qaf (hdF size ys) (qaf (qoU bytes (Nat.add (jt xs) (jt ys))) (qye ys xs fun zs=>k.run call n ((d,.osl zs)::(spO x).run e) H lo))) h
  obtain ⟨h2,h⟩:=kf h
  obtain ⟨h3,h⟩:=kf h
  rw [quq] at h1 h2
  rw [qn8,kp,kp] at h3
  have h3:roomy bytes (xs.length+ys.length)=true:=h3
  rw [quQ] at h
  exact done rfl (by rw [qCs ha,hy];simp only [qj3,h1,h2,h3,Bool.and_self,cond_true]) h
 | fsl xs=>
  rw [ha] at h
  obtain ⟨h1,h⟩:=kf (b:=hdF size xs) (κ:=qaf (hdF size ys) (qaf (qoU bytes (Nat.add (jt xs) (jt ys))) (qye ys xs fun zs=>k.run call n ((d,.osl zs)::(spO x).run e) H lo))) h
  obtain ⟨h2,h⟩:=kf h
  obtain ⟨h3,h⟩:=kf h
  rw [quq] at h1 h2
  rw [qn8,kp,kp] at h3
  have h3:roomy bytes (xs.length+ys.length)=true:=h3
  rw [quQ] at h
  exact done rfl (by rw [qGm ha,hy];simp only [qj3,h1,h2,h3,Bool.and_self,cond_true]) h
noncomputable def qg2 (l:List D):Bool:=List.rec (motive:=fun _=>Bool) true (fun x _ ih=>D.rec (motive_1:=fun _=>Bool) (motive_2:=fun _=>Bool) (fun _=>ih) (fun _ _=>ih) (fun _=>ih) ih (fun _ _=>ih) (fun _ _=>false) ih ih ih ih ih (fun _ _ _ _=>ih) x) l
theorem qxf (l:List D):qg2 l=D.ones l:=by
 induction l with
 | nil=>rfl
 | cons x l ih=>
  show (D.rec (motive_1:=fun _=>Bool) (motive_2:=fun _=>Bool) (fun _=>qg2 l) (fun _ _=>qg2 l) (fun _=>qg2 l) (qg2 l) (fun _ _=>qg2 l) (fun _ _=>false) (qg2 l) (qg2 l) (qg2 l) (qg2 l) (qg2 l) (fun _ _ _ _=>qg2 l) x)=(x.one && D.ones l)
  rw [ih]
  cases x<;>rfl
noncomputable def wfF (x:D):Bool:=D.rec (motive_1:=fun _=>Bool) (motive_2:=fun _=>Bool) (fun _=>true) (fun _ _=>true) (fun _=>true) true (fun _ _=>true) (fun cs _=>qg2 cs) true true true true true (fun _ _ _ _=>true) x
theorem qCQ (x:D):wfF x=x.wf:=by
 cases x with
 | agg cs=>exact qxf cs
 | _=>rfl
noncomputable def qES (d:Nat) (zero:D) (x:O) (g k:K):KF:=fun call n e H lo=>
 (rdC x).run e fun v=>orZ (vD v) (g.run call n e H lo) fun y=>qaf (qI0 (szD y) (szD zero)) (qaf (wfF y) (k.run call n ((d,.osl [y])::e) H lo))
theorem qwk {d:Nat} {zero:D} {x:O} {g k:K} (hg:qS g.run (.buildSlice zero 1 [(0,x)]) (some d) k):qS (qES d zero x g k) (.buildSlice zero 1 [(0,x)]) (some d) k:=by
 intro call n e H lo z h
 unfold qES at h
 rw [qgm] at h
 rcases qlM h with h|⟨y,hv,h⟩
 ·exact hg h
 obtain ⟨h1,h⟩:=kf h
 obtain ⟨h2,h⟩:=kf h
 have hv:=qq9 hv
 rw [qqF,qqF] at h1
 have h1:=qIX h1
 rw [qCQ] at h2
 have he:qc call (.buildSlice zero 1 [(0,x)]) ⟨e,H,lo⟩=some ⟨false,true,.osl [y],⟨e,H,lo⟩⟩:=by
  simp [qc,zc,hv,qkx,h1,D.wfs,h2,ok,List.replicate]
 rw [he];exact qk rfl h
noncomputable def lvF (v:V):Bool:=V.rec (motive_1:=fun _=>Bool) (motive_2:=fun _=>Bool) (fun _=>true) (fun _=>true) (fun _=>true) (fun _ _=>true) (fun _ _=>false) (fun _ _=>false) (fun _=>false) (fun _ _ _ _=>true) (fun _ _ _=>true) (fun _=>true) (fun f a b _ _=>V.ok (.fn f a b)) (fun t x _=>V.ok (.ifc t x)) (fun cs _=>V.ok (.agg cs)) (fun vs _=>V.ok (.tup vs)) true false (fun _ _ _ _=>false) v
theorem qzy (v:V):lvF v=v.leaves:=by cases v<;>rfl
noncomputable def lvs (l:List V):Bool:=List.rec (motive:=fun _=>Bool) true (fun v _ ih=>Bool.rec (motive:=fun _=>Bool) false ih (lvF v)) l
theorem quC (l:List V):lvs l=V.allLeave l:=by
 induction l with
 | nil=>rfl
 | cons v l ih=>
  show Bool.rec (motive:=fun _=>Bool) false (lvs l) (lvF v)=(v.leaves && V.allLeave l)
  rw [ih,qzy]
  cases v.leaves<;>rfl
noncomputable def qC0 (dst:Option Nat) (v:V) (k:K):KF:=fun call n e H lo=>
 Option.rec (motive:=fun _=>R) (k.run call n e H lo) (fun d=>qjz v (qhm (some d) v k call n e H lo) fun v=>k.run call n ((d,v)::e) H lo) dst
theorem quj {dst:Option Nat} {v:V} {same:Bool} {k:K} {call:Call} {n:Nat} {e:Env} {H:List Obj} {lo:Nat} {x:Ex × St} (h:qC0 dst v k call n e H lo=some x):qpH (some ⟨false,same,v,⟨e,H,lo⟩⟩) dst k call n x:=by
 cases dst with
 | none=>exact ⟨_,rfl,.inl ⟨rfl,_,rfl,h⟩⟩
 | some d=>
  have h:qjz v (qhm (some d) v k call n e H lo) (fun v=>k.run call n ((d,v)::e) H lo)=some x:=h
  rcases qjh h with h|⟨hb,h⟩
  ·exact qhC h
  ·exact qk hb h
noncomputable def qxY (dst:Option Nat) (i:Nat) (args:List O) (k:K):KF:=fun call n e H lo=>
 (qzW args).run e fun vs=>qaf (lvs vs) (orN (call i vs H) fun r=>Cr.rec (motive:=fun _=>R) (fun pan same v H' lo'=>qkq lo lo' fun lo=>Bool.rec (motive:=fun _=>R) (qC0 dst v k call n ((spL args).run e) H' lo) (some (.pan v,⟨(spL args).run e,H',lo⟩)) pan) r)
theorem qmW {dst:Option Nat} {i:Nat} {args:List O} {k:K}:qS (qxY dst i args k) (.call (.f i) args) dst k:=by
 intro call n e H lo z h
 unfold qxY at h
 rw [qqZ] at h
 obtain ⟨h1,h⟩:=kf h
 obtain ⟨r,hr,h⟩:=zh h
 rw [quC] at h1
 obtain ⟨pan,same,v,H',lo'⟩:=r
 have h:(qkq lo lo' fun lo=>Bool.rec (motive:=fun _=>R) (qC0 dst v k call n ((spL args).run e) H' lo) (some (.pan v,⟨(spL args).run e,H',lo⟩)) pan)=some z:=h
 rw [qfN,qtO] at h
 have he:qc call (.call (.f i) args) ⟨e,H,lo⟩=some ⟨pan,same,v,⟨spentAll args e,H',min lo lo'⟩⟩:=by
  simp only [qc,jE,rd,List.nil_append,List.append_nil,h1,if_true,hr]
 rw [he]
 cases pan with
 | false=>exact quj h
 | true=>
  have h:some (Ex.pan v,(⟨spentAll args e,H',min lo lo'⟩:St))=some z:=h
  cases h
  exact ⟨_,rfl,.inr ⟨rfl,rfl⟩⟩
noncomputable def qtR {β γ:Type} (l m:List β) (κ:List β→γ):γ:=List.rec (motive:=fun _=>(List β→γ)→γ) (fun κ=>κ m) (fun x _ ih κ=>ih fun t=>κ (x::t)) l κ
theorem qqW {β γ:Type} (l m:List β) (κ:List β→γ):qtR l m κ=κ (l++m):=by
 induction l generalizing κ with
 | nil=>rfl
 | cons x l ih=>exact ih fun t=>κ (x::t)
noncomputable def qyq (d:Nat) (l:L) (bytes:Nat) (x y:O) (g k:K):KF:=fun call n e H lo=>
 match frd e x with
 | .row id sz len=>match fnth H id with
  | some (.row l' cs)=>match qrh l (frd e y) with
   | some ys=>Bool.rec (motive:=fun _=>R) none (jo (fun v k=>yi v k) (qa7 ys) fun new=>qtR cs new fun cs=>qkJ .dead H id fun H2=>qtR H2 [.row l' cs] fun H3=>qo (jt H) fun m=>qo (Nat.add len (jt ys)) fun len2=>qkq lo id fun lo=>k.run call n ((d,.row m sz len2)::e) H3 lo)
     (qI0 sz l.n && (qI0 (jt cs) (len * sz) && (ze l.n ys && roomy bytes (len+jt ys))))
   | none=>none
  | _=>g.run call n e H lo
 | _=>g.run call n e H lo
theorem qtu {d:Nat} {l:L} {bytes:Nat} {x y:O} {g k:K} (hg:qS g.run (.appendR l bytes x y) (some d) k):qS (qyq d l bytes x y g k) (.appendR l bytes x y) (some d) k:=by
 intro call n e H lo z h
 unfold qyq at h
 rw [qan] at h
 split at h
 ·rename_i id sz len hx
  rw [jb] at h
  split at h
  ·rename_i l' cs hob
   rw [qan] at h
   split at h
   ·rename_i ys hys
    rw [kp cs,kp ys,kp H] at h
    cases hb:(qI0 sz l.n && (qI0 cs.length (len * sz) && (ze l.n ys && roomy bytes (len+ys.length)))) with
    | false=>rw [hb] at h;cases h
    | true=>
     rw [hb] at h
     have h:(jo (fun v k=>yi v k) (qa7 ys) fun new=>qtR cs new fun cs=>qkJ .dead H id fun H2=>qtR H2 [.row l' cs] fun H3=>qo H.length fun m=>qo (Nat.add len ys.length) fun len2=>qkq lo id fun lo=>k.run call n ((d,.row m sz len2)::e) H3 lo)=some z:=h
     rw [ky z3,qqW] at h
     have h:=qch h
     rw [qqW,kz,kz,qfN] at h
     have he:qc call (.appendR l bytes x y) ⟨e,H,lo⟩=some ⟨false,false,.row H.length sz (len+ys.length),⟨e,qT H id .dead++[.row l' (cs++qa7 ys)],min lo id⟩⟩:=by
      simp only [qc,yW,hys,hx,hob,hb,cond_true]
      rfl
     rw [he]
     exact qk rfl h
   ·cases h
  ·exact hg h
 ·exact hg h
noncomputable def fTk {β γ:Type} (l:List β):Nat→(List β→γ)→γ:=List.rec (motive:=fun _=>Nat→(List β→γ)→γ) (fun _ κ=>κ []) (fun x _ ih n κ=>Nat.rec (motive:=fun _=>γ) (κ []) (fun m _=>ih m fun t=>κ (x::t)) n) l
theorem quc {β γ:Type}:∀(l:List β) (n:Nat) (κ:List β→γ),fTk l n κ=κ (l.take n)
 | [],n,κ=>by simp [fTk]
 | x::l,0,κ=>rfl
 | x::l,n+1,κ=>by
  show fTk l n (fun t=>κ (x::t))=_
  rw [quc];rfl
theorem qxc {a b:Int} (h:leI a b=true):a≤b:=by
 cases a<;>cases b<;>simp only [leI] at h
 ·have:=Nat.le_of_ble_eq_true h
  simp only [Int.ofNat_eq_natCast];omega
 ·cases h
 ·simp only [Int.ofNat_eq_natCast,Int.negSucc_eq];omega
 ·have:=Nat.le_of_ble_eq_true h
  simp only [Int.negSucc_eq];omega
noncomputable def qCm (d:Nat) (x hi:O) (g k:K):KF:=fun call n e H lo=>
 match frd e x,frd e hi with
 | .row id sz len,.d (.i _ h)=>match fnth H id with
  | some (.row l cs)=>Bool.rec (motive:=fun _=>R) none (fTk cs (h.toNat * sz) fun cs=>qkJ .dead H id fun H2=>qtR H2 [.row l cs] fun H3=>qo (jt H) fun m=>qo h.toNat fun hn=>qkq lo id fun lo=>k.run call n ((d,.row m sz hn)::e) H3 lo)
    (leI 0 h && (leI h len && qI0 (jt cs) (len * sz)))
  | _=>g.run call n e H lo
 | _,_=>g.run call n e H lo
theorem qwo {d:Nat} {x hi:O} {g k:K} (hg:qS g.run (.truncR x hi) (some d) k):qS (qCm d x hi g k) (.truncR x hi) (some d) k:=by
 intro call n e H lo z h
 unfold qCm at h
 rw [qan,qan] at h
 split at h
 ·rename_i id sz len kk hh hx hhi
  rw [jb] at h
  split at h
  ·rename_i l cs hob
   rw [kp cs,kp H] at h
   cases hb:(leI 0 hh && (leI hh len && qI0 cs.length (len * sz))) with
   | false=>rw [hb] at h;cases h
   | true=>
    rw [hb] at h
    have h:(fTk cs (hh.toNat * sz) fun cs=>qkJ .dead H id fun H2=>qtR H2 [.row l cs] fun H3=>qo H.length fun m=>qo hh.toNat fun hn=>qkq lo id fun lo=>k.run call n ((d,.row m sz hn)::e) H3 lo)=some z:=h
    rw [quc] at h
    have h:=qch h
    rw [qqW,kz,kz,qfN] at h
    simp only [qIV] at hb
    have hc:0≤hh∧hh≤(len:Int)∧cs.length=len * sz:=⟨qxc hb.1,qxc hb.2.1,qIX hb.2.2⟩
    have he:qc call (.truncR x hi) ⟨e,H,lo⟩=some ⟨false,false,.row H.length sz hh.toNat,⟨e,qT H id .dead++[.row l (cs.take (hh.toNat * sz))],min lo id⟩⟩:=by
     simp only [qc,qcq,hx,hhi,hob,hc,and_self,if_true]
     rfl
    rw [he]
    exact qk rfl h
  ·exact hg h
 ·exact hg h
noncomputable def fDr {β γ:Type} (l:List β):Nat→(List β→γ)→γ:=List.rec (motive:=fun _=>Nat→(List β→γ)→γ) (fun _ κ=>κ []) (fun x r ih n κ=>Nat.rec (motive:=fun _=>γ) (κ (x::r)) (fun m _=>ih m κ) n) l
theorem qyG {β γ:Type}:∀(l:List β) (n:Nat) (κ:List β→γ),fDr l n κ=κ (l.drop n)
 | [],n,κ=>by simp [fDr]
 | x::l,0,κ=>rfl
 | x::l,n+1,κ=>by
  show fDr l n κ=_
  rw [qyG];rfl
noncomputable def fDc {β γ:Type} (l:List β) (n:Nat) (κ:List β→γ):γ:=fDr (qtg l (Nat.div n 16)) (Nat.mod n 16) κ
theorem qtF {β γ:Type} (l:List β) (n:Nat) (κ:List β→γ):fDc l n κ=κ (l.drop n):=by
 unfold fDc
 rw [qyG,qod,List.drop_drop]
 congr 2
 have e:Nat.div n 16=n / 16:=rfl
 have e2:Nat.mod n 16=n % 16:=rfl
 rw [e,e2];omega
noncomputable def qDv (d:Nat) (x a:O) (g k:K):KF:=fun call n e H lo=>
 asT ((kY x).run e) (g.run call n e H lo) fun t=>asN ((kY a).run e) none fun _ z=>qpv z fun m=>Bool.rec (motive:=fun _=>R) none (fDc t m fun r=>k.run call n ((d,.d (.s r))::e) H lo) (Nat.ble m (jt t))
theorem qwG {d:Nat} {x a:O} {g k:K} (hg:qS g.run (.sliceS x (some a) none) (some d) k):qS (qDv d x a g k) (.sliceS x (some a) none) (some d) k:=by
 intro call n e H lo z h
 unfold qDv at h
 rcases ql2 h with h|⟨t,hx,h⟩
 ·exact hg h
 rcases qbd h with h|⟨kk,w,hi,h⟩
 ·cases h
 obtain ⟨m,rfl,h1⟩:=qeJ h
 replace h:=h1
 clear h1
 rw [kp] at h
 cases hb:Nat.ble m t.length with
 | false=>rw [hb] at h;cases h
 | true=>
  rw [hb,qtF] at h
  have hx':rd e x=.d (.s t):=(ku (by rw [hx];trivial)).trans hx
  have h0:leI 0 (Int.ofNat m)=true:=by show Nat.ble 0 m=true;exact Nat.ble_eq_true_of_le (Nat.zero_le m)
  have h1:leI (Int.ofNat m) (t.length:Int)=true:=hb
  have h2:leI (t.length:Int) (t.length:Int)=true:=Nat.ble_eq_true_of_le (qIY _)
  have he:qc call (.sliceS x (some a) none) ⟨e,H,lo⟩=some ⟨false,true,.d (.s (t.drop m)),⟨e,H,lo⟩⟩:=by
   simp only [qc,yh,qZ,hx',qlJ hi,qgw,qiA,Option.getD_some,Option.getD_none,h0,h1,h2,Bool.and_self,cond_true,ok]
   simp
  rw [he];exact qk rfl h
noncomputable def qDx (d:Nat) (x a b:O) (g k:K):KF:=fun call n e H lo=>
 asT ((kY x).run e) (g.run call n e H lo) fun t=>asN ((kY a).run e) none fun _ z=>qpv z fun m=>asN ((kY b).run e) none fun _ z=>qpv z fun p=>Bool.rec (motive:=fun _=>R) none (Bool.rec (motive:=fun _=>R) none (fDc t m fun r=>fTk r (Nat.sub p m) fun r=>k.run call n ((d,.d (.s r))::e) H lo) (Nat.ble p (jt t))) (Nat.ble m p)
theorem qwE {d:Nat} {x a b:O} {g k:K} (hg:qS g.run (.sliceS x (some a) (some b)) (some d) k):qS (qDx d x a b g k) (.sliceS x (some a) (some b)) (some d) k:=by
 intro call n e H lo z h
 unfold qDx at h
 rcases ql2 h with h|⟨t,hx,h⟩
 ·exact hg h
 rcases qbd h with h|⟨kk,w,hi,h⟩
 ·cases h
 obtain ⟨m,rfl,h1⟩:=qeJ h
 replace h:=h1
 clear h1
 rcases qbd h with h|⟨kk2,w2,hi2,h⟩
 ·cases h
 obtain ⟨p,rfl,h1⟩:=qeJ h
 replace h:=h1
 clear h1
 rw [kp] at h
 cases hc:Nat.ble m p with
 | false=>rw [hc] at h;cases h
 | true=>
 rw [hc] at h
 cases hb:Nat.ble p t.length with
 | false=>rw [hb] at h;cases h
 | true=>
  rw [hb] at h
  have h:(fDc t m fun r=>fTk r (Nat.sub p m) fun r=>k.run call n ((d,.d (.s r))::e) H lo)=some z:=h
  rw [qtF,quc] at h
  have hx':rd e x=.d (.s t):=(ku (by rw [hx];trivial)).trans hx
  have h0:leI 0 (Int.ofNat m)=true:=by show Nat.ble 0 m=true;exact Nat.ble_eq_true_of_le (Nat.zero_le m)
  have h1:leI (Int.ofNat m) (Int.ofNat p)=true:=hc
  have h2:leI (Int.ofNat p) (t.length:Int)=true:=hb
  have he:qc call (.sliceS x (some a) (some b)) ⟨e,H,lo⟩=some ⟨false,true,.d (.s ((t.drop m).take (Nat.sub p m))),⟨e,H,lo⟩⟩:=by
   simp only [qc,yh,qZ,hx',qlJ hi,qlJ hi2,qgw,qiA,Option.getD_some,h0,h1,h2,Bool.and_self,cond_true,ok]
   show some _=some _
   congr 4
   exact List.drop_take
  rw [he];exact qk rfl h
noncomputable def qyx (d:Nat) (c a b:O) (k:K):KF:=fun call n e H lo=>
 asB ((kY c).run e) ((rdC a).run e fun v=>k.run call n ((d,v)::e) H lo) ((rdC b).run e fun v=>k.run call n ((d,v)::e) H lo)
theorem qul {d:Nat} {c a b:O} {k:K}:qS (qyx d c a b k) (.pick c a b) (some d) k:=by
 intro call n e H lo z h
 unfold qyx at h
 rw [qgm,qgm] at h
 rcases qn9 h with ⟨hx,h⟩|⟨hx,h⟩
 ·have hx':rd e c=.d (.b true):=(ku (by rw [hx];trivial)).trans hx
  rw [show qc call (.pick c a b) ⟨e,H,lo⟩=some ⟨false,true,rd e a,⟨e,H,lo⟩⟩ by simp only [qc,qee,hx',if_true,ok]]
  exact qk (quu e a) h
 ·have hx':rd e c=.d (.b false):=(ku (by rw [hx];trivial)).trans hx
  rw [show qc call (.pick c a b) ⟨e,H,lo⟩=some ⟨false,true,rd e b,⟨e,H,lo⟩⟩ by simp only [qc,qee,hx',qI1,if_false,ok]]
  exact qk (quu e b) h
noncomputable def asF (v:V) (z:R) (κ:Nat→R):R:=OF.rec (motive:=fun _=>R) z κ (vF v)
theorem qrW {v:V} {z:R} {κ:Nat→R} {x:Ex × St} (h:asF v z κ=some x):z=some x∨∃i,v=.fn i [] []∧κ i=some x:=by
 unfold asF at h
 cases hv:vF v with
 | no=>rw [hv] at h;exact .inl h
 | f i=>rw [hv] at h;exact .inr ⟨i,qIL hv,h⟩
theorem qxu {call:Call} {f:O} {args:List O} {e:Env} {H:List Obj} {lo i:Nat} (hx:(kY f).run e=.fn i [] []):qc call (.call f args) ⟨e,H,lo⟩=qc call (.call (.f i) args) ⟨e,H,lo⟩:=by
 have hx':rd e f=.fn i [] []:=(ku (by rw [hx];trivial)).trans hx
 have e2:rd e (.f i)=.fn i [] []:=rfl
 simp only [qc,jE,hx',e2]
noncomputable def qFX (dst:Option Nat) (f:O) (args:List O) (g k:K):KF:=fun call n e H lo=>
 asF ((kY f).run e) (g.run call n e H lo) fun i=>qxY dst i args k call n e H lo
theorem qwz {dst:Option Nat} {f:O} {args:List O} {g k:K} (hg:qS g.run (.call f args) dst k):qS (qFX dst f args g k) (.call f args) dst k:=by
 intro call n e H lo z h
 unfold qFX at h
 rcases qrW h with h|⟨i,hi,h⟩
 ·exact hg h
 ·rw [qxu hi];exact qmW h
noncomputable def qpe (dst:Option Nat) (op:OpK) (k:K):K:=
 match dst with
 | some d=>match op with
  | .mov x=>.mk (qEV d x k)
  | .bin op kd x y=>qGz d op kd x y k
  | .load false sl l a=>.mk (qBF d sl l a (gK (some d) (.load false sl l a) k) k)
  | .loadC l a=>.mk (qtK d l a k)
  | .nilCheck a=>.mk (qEz d a (gK (some d) (.nilCheck a) k) k)
  | .fieldAddr a o l=>.mk (qDA d a o l (gK (some d) (.fieldAddr a o l) k) k)
  | .indexAddr x i size none=>.mk (qBS d x i size (gK (some d) (.indexAddr x i size none) k) k)
  | .index x i=>.mk (qFc d x i k)
  | .extract (.t m) i=>.mk (qDq d m i k)
  | .bi .lenS [x]=>.mk (qzC d x k)
  | .bi .lenL [x]=>.mk (qxv d x (gK (some d) (.bi .lenL [x]) k) k)
  | .bi (.append size bytes) [x,y]=>.mk (qBU d size bytes x y (gK (some d) (.bi (.append size bytes) [x,y]) k) k)
  | .un .not x=>.mk (qC6 d x k)
  | .alloc false zero=>.mk (qFW d zero k)
  | .mkMap=>.mk (qCJ d k)
  | .lookup kk zero m q c=>.mk (qyP d kk zero m q c (gK (some d) (.lookup kk zero m q c) k) k)
  | .buildSlice zero 1 [(0,x)]=>.mk (qES d zero x (gK (some d) (.buildSlice zero 1 [(0,x)]) k) k)
  | .call (.f i) args=>.mk (qxY (some d) i args k)
  | .appendR l b x y=>.mk (qyq d l b x y (gK (some d) (.appendR l b x y) k) k)
  | .truncR x hi=>.mk (qCm d x hi (gK (some d) (.truncR x hi) k) k)
  | .pick c a b=>.mk (qyx d c a b k)
  | .call f args=>.mk (qFX (some d) f args (gK (some d) (.call f args) k) k)
  | .sliceS x (some a) none=>.mk (qDv d x a (gK (some d) (.sliceS x (some a) none) k) k)
  | .sliceS x (some a) (some b)=>.mk (qDx d x a b (gK (some d) (.sliceS x (some a) (some b)) k) k)
  | op=>gK (some d) op k
 | none=>match op with
  | .store sl ⟨1,false⟩ a x=>.mk (qGW sl a x (gK none (.store sl ⟨1,false⟩ a x) k) k)
  | .mapUpdate kk m q x=>.mk (qBT kk m q x k)
  | .call (.f i) args=>.mk (qxY none i args k)
  | op=>gK none op k
theorem qv0 {dst:Option Nat} {op:OpK} {k:K}:qS (qpe dst op k).run op dst k:=by
 unfold qpe
 split
 ·split
  ·exact qvA
  ·exact qwi
  ·exact qtq ki
  ·exact qr7
  ·exact qvQ ki
  ·exact qwY ki
  ·exact qwy ki
  ·exact qw0
  ·exact qvy
  ·exact qui
  ·exact quB ki
  ·exact qw2 ki
  ·exact qwc
  ·exact qwU
  ·exact qwT
  ·exact qt2 ki
  ·exact qwk ki
  ·exact qmW
  ·exact qtu ki
  ·exact qwo ki
  ·exact qul
  ·exact qwz ki
  ·exact qwG ki
  ·exact qwE ki
  ·exact ki
 ·split
  ·exact qwJ ki
  ·exact qwF
  ·exact qmW
  ·exact ki
theorem qlc {dst:Option Nat} {op:OpK} {k:K} {call:Call} {n:Nat} {e:Env} {H:List Obj} {lo:Nat} {z:Ex × St} (h:(qpe dst op k).run call n e H lo=some z):qpH (qc call op ⟨e,H,lo⟩) dst k call n z:=qv0 h
noncomputable def vG (v:V):Option (Option Bool):=V.rec (motive_1:=fun _=>Option (Option Bool)) (motive_2:=fun _=>Option (Option Bool)) (fun x=>D.rec (motive_1:=fun _=>Option (Option Bool)) (motive_2:=fun _=>Option (Option Bool)) (fun y=>some (some y)) (fun _ _=>none) (fun _=>none) none (fun _ _=>none) (fun _ _=>none) none none none none none (fun _ _ _ _=>none) x) (fun _=>none) (fun _=>none) (fun _ _=>none) (fun _ _=>none) (fun _ _=>none) (fun _=>none) (fun _ _ _ _=>none) (fun _ _ _=>none) (fun _=>none) (fun _ _ _ _ _=>none) (fun _ _ _=>none) (fun _ _=>none) (fun vs _=>List.rec (motive:=fun _=>Option (Option Bool)) (some none) (fun _ _ _=>none) vs) none none (fun _ _ _ _=>none) v
theorem qBr (m:Nat) (w:Bool) (e:Env):wanted (some (m,w)) e=Option.rec (motive:=fun _=>Option Bool) none (fun r=>Option.rec (motive:=fun _=>Option Bool) (some false) (fun z=>some (z == w)) r) (vG (fget m e)):=by
 rw [y1]
 simp only [wanted]
 cases get m e with
 | d x=>cases x<;>rfl
 | tup vs=>cases vs<;>rfl
 | _=>rfl
noncomputable def eqB (a b:Bool):Bool:=Bool.rec (motive:=fun _=>Bool) (Bool.rec (motive:=fun _=>Bool) true false b) b a
theorem qzS (a b:Bool):eqB a b=(a == b):=by cases a<;>cases b<;>rfl
noncomputable def qyE (o:Op) (k:K):K:=
 match o.g with
 | none=>qpe o.dst o.k k
 | some (m,w)=>.mk fun call n e H lo=>orN (vG (fget m e)) fun r=>Option.rec (motive:=fun _=>R) (qhm o.dst (.tup []) k call n e H lo) (fun z=>Bool.rec (motive:=fun _=>R) (qhm o.dst (.tup []) k call n e H lo) ((qpe o.dst o.k k).run call n e H lo) (eqB z w)) r
noncomputable def qgp (l:List Op) (k:K):K:=List.rec (motive:=fun _=>K) k (fun o _ ih=>qyE o ih) l
theorem qiV {pg:Pg} {call:Call} (hc:qak call (ql pg)) {n:Nat} {k:K}:∀(l:List Op) {e:Env} {H:List Obj} {lo:Nat} {x:Ex × St},(qgp l k).run call n e H lo=some x→qrr pg (qn (ql pg) l ⟨e,H,lo⟩) k call n x
 | [],e,H,lo,x,h=>.inl ⟨⟨e,H,lo⟩,rfl,h⟩
 | o::l,e,H,lo,x,h=>by
  have h:(qyE o (qgp l k)).run call n e H lo=some x:=h
  have key:wanted o.g e=some true→(qpe o.dst o.k (qgp l k)).run call n e H lo=some x→qrr pg (qn (ql pg) (o::l) ⟨e,H,lo⟩) k call n x:=by
   intro hw h
   obtain ⟨q,hq,hq2⟩:=qlc h
   have hq':=qeN hc hq
   simp only [qn,hw,hq']
   rcases hq2 with ⟨hp,st,hst,hrun⟩|⟨hp,rfl⟩
   ·rw [hp,hst]
    exact qiV hc l hrun
   ·rw [hp]
    exact .inr ⟨rfl,by simp⟩
  have skip:wanted o.g e=some false→qhm o.dst (.tup []) (qgp l k) call n e H lo=some x→qrr pg (qn (ql pg) (o::l) ⟨e,H,lo⟩) k call n x:=by
   intro hw' h
   obtain ⟨q,hq,hq2⟩:=qhC (same:=true) h
   cases hq
   rcases hq2 with ⟨_,st,hst,hrun⟩|⟨hp,_⟩
   ·simp only [qn,hw']
    rw [hst]
    exact qiV hc l hrun
   ·cases hp
  unfold qyE at h
  split at h
  ·rename_i hg
   exact key (by rw [hg];rfl) h
  ·rename_i m w hg
   have h:(orN (vG (fget m e)) fun r=>Option.rec (motive:=fun _=>R) (qhm o.dst (.tup []) (qgp l k) call n e H lo) (fun z=>Bool.rec (motive:=fun _=>R) (qhm o.dst (.tup []) (qgp l k) call n e H lo) ((qpe o.dst o.k (qgp l k)).run call n e H lo) (eqB z w)) r)=some x:=h
   obtain ⟨r,hr,h⟩:=zh h
   have hw:=qBr m w e
   rw [hr] at hw
   rw [←hg] at hw
   cases r with
   | none=>exact skip hw h
   | some z=>
    have hw:wanted o.g e=some (z == w):=hw
    rw [←qzS] at hw
    have h:Bool.rec (motive:=fun _=>R) (qhm o.dst (.tup []) (qgp l k) call n e H lo) ((qpe o.dst o.k (qgp l k)).run call n e H lo) (eqB z w)=some x:=h
    cases hb:eqB z w with
    | false=>rw [hb] at h hw;exact skip hw h
    | true=>rw [hb] at h hw;exact key hw h
noncomputable def nbK (k:K):K:=.mk fun call n e H lo=>List.rec (motive:=fun _=>R) none (fun p _ _=>Prod.rec (motive:=fun _=>R) (fun _ v=>qjz v none fun _=>k.run call n e H lo) p) e
theorem qrq {k:K} {call:Call} {n d:Nat} {v:V} {e:Env} {H:List Obj} {lo:Nat} {x:Ex × St} (h:(nbK k).run call n ((d,v)::e) H lo=some x):v.isBox=false∧k.run call n ((d,v)::e) H lo=some x:=by
 have h:qjz v none (fun _=>k.run call n ((d,v)::e) H lo)=some x:=h
 rcases qjh h with h|h
 ·cases h
 ·exact h
def qvi:OpK→Bool
 | .mov _ | .pick _ _ _ | .build _ _ | .buildSlice _ _ _ | .load _ _ _ _ | .loadC _ _ | .nilCheck _ | .bin _ _ _ _ | .un _ _ | .conv _ _ | .fieldAddr _ _ _ | .field _ _ _ | .indexAddr _ _ _ _ | .index _ _ | .extract _ _ | .bi _ _ | .store _ _ _ _ | .lookup _ _ _ _ _ | .sliceS _ _ _ | .appendR _ _ _ _=>true
 | _=>false
def qth:OpK→Bool
 | .load mv _ _ _=>!mv
 | .store _ _ _ _ | .appendR _ _ _ _=>false
 | _=>true
theorem qBJ {v:V} {st:St} {q:Or} (h:ok v st=some q):q.pan=false∧q.same=true:=by cases h;exact ⟨rfl,rfl⟩
theorem qHO {v:V} {st:St} {q:Or} (h:okH v st=some q):q.pan=false:=by cases h;rfl
theorem qAr {op:OpK} (hf:qvi op=true) {call:Call} {st:St} {q:Or} (h:qc call op st=some q):q.pan=false∧(qth op=true→q.same=true):=by
 cases op<;>first
  | cases hf;done
  | skip
 all_goals simp only [qc,qps,qee,qb9,zc,zU,qff,zn,qmC,eUn,qhg,kh,qe1,kg,jK,jd,qfc,yS,eBi,qil,qcP,ql9,y6,qam,ja,yh,yW,qIU] at h
 all_goals repeat' split at h
 all_goals first
  | (cases h;done)
  | exact ⟨(qBJ h).1,fun _=>(qBJ h).2⟩
  | exact ⟨qHO h,fun hp=>by first|(cases hp;done)|(simp_all [qth])⟩
def qpa (f:KF) (op:OpK) (se:Bool) (no:List Nat) (dst:Option Nat) (k:K):Prop:=∀{call:Call} {n:Nat} {e:Env} {H:List Obj} {lo:Nat} {x:Ex × St},f call n e H lo=some x→
 ∃q,qc call op ⟨e,H,lo⟩=some q∧((q.pan=false∧(q.same || se)=true∧∃st,yb (qnx op) no dst q.v q.st=some st∧k.run call n st.env st.H st.lo=some x)∨(q.pan=true∧kc yR no=true∧x=(.pan q.v,{q.st with env:=[]})))
theorem qvv {bx:Bool} {d:Nat} {v:V} {st:St} (h:v.isBox=false):yb bx [] (some d) v st=some {st with env:=(d,v)::st.env}:=by
 cases v<;>first|rfl|cases h
theorem qAl {k:K} {call:Call} {n d:Nat} {v:V} {st:St} {x:Ex × St} (h:(nbK k).run call n (put (some d) v st).env (put (some d) v st).H (put (some d) v st).lo=some x):v.isBox=false∧k.run call n ((d,v)::st.env) st.H st.lo=some x:=by
 cases v with
 | box cs=>
  have h:(nbK k).run call n ((d,.box cs)::qbo d st.env) st.H st.lo=some x:=h
  have:=(qrq h).1
  cases this
 | _=>exact qrq h
noncomputable def qBv (dst:Option Nat) (op:OpK) (k:K):K:=
 match dst with
 | some d=>qpe (some d) op (nbK k)
 | none=>qpe none op k
theorem qtS {dst:Option Nat} {op:OpK} {se:Bool} {k:K} (hf:qvi op=true) (hp:(qth op || se)=true):qpa (qBv dst op k).run op se [] dst k:=by
 intro call n e H lo x h
 have key:∀q:Or,qc call op ⟨e,H,lo⟩=some q→q.pan=false∧(q.same || se)=true:=fun q hq=>by
  obtain ⟨h1,h2⟩:=qAr hf hq
  refine ⟨h1,?_⟩
  rw [Bool.or_eq_true] at hp ⊢
  exact hp.imp h2 id
 cases dst with
 | some d=>
  obtain ⟨q,hq,h2⟩:=qlc (dst:=some d) h
  obtain ⟨h3,h4⟩:=key q hq
  rcases h2 with ⟨_,st,rfl,h5⟩|⟨h5,_⟩
  ·obtain ⟨hb,h6⟩:=qAl h5
   exact ⟨q,hq,.inl ⟨h3,h4,_,qvv hb,h6⟩⟩
  ·rw [h3] at h5;cases h5
 | none=>
  obtain ⟨q,hq,h2⟩:=qlc (dst:=none) h
  obtain ⟨h3,h4⟩:=key q hq
  rcases h2 with ⟨_,st,rfl,h5⟩|⟨h5,_⟩
  ·exact ⟨q,hq,.inl ⟨h3,h4,_,rfl,h5⟩⟩
  ·rw [h3] at h5;cases h5
noncomputable def qp7 (dst:Option Nat) (op:OpK) (se:Bool) (no:List Nat) (k:K):KF:=fun call n e H lo=>
 match (qFk op).run call ⟨e,H,lo⟩ with
 | some ⟨pan,same,v,⟨e',H',lo'⟩⟩=>Bool.rec (motive:=fun _=>R) (Bool.rec (motive:=fun _=>R) none
   (qoJ (makes op) v fun v=>match yb (qnx op) no dst v ⟨e',H',lo'⟩ with
    | some ⟨e2,H2,lo2⟩=>Bool.rec (motive:=fun _=>R) (qnX (qma op) H2 fun H2=>qo lo2 fun lo2=>k.run call n e2 H2 lo2) (k.run call n e2 H2 lo2) same
    | none=>none) (same || se)) (Bool.rec (motive:=fun _=>R) none (some (.pan v,⟨[],H',lo'⟩)) (kc yR no)) pan
 | none=>none
theorem qhZ {dst:Option Nat} {op:OpK} {se:Bool} {no:List Nat} {k:K}:qpa (qp7 dst op se no k) op se no dst k:=by
 intro call n e H lo x h
 unfold qp7 at h
 rw [qvw] at h
 split at h
 ·rename_i pan same v e' H' lo' hq
  cases pan with
  | true=>
   have h:Bool.rec (motive:=fun _=>R) none (some (.pan v,⟨[],H',lo'⟩)) (kc yR no)=some x:=h
   cases hm:kc yR no with
   | false=>rw [hm] at h;cases h
   | true=>
    rw [hm] at h
    exact ⟨_,hq,.inr ⟨rfl,rfl,(Option.some.inj h).symm⟩⟩
  | false=>
   cases hs:(same || se) with
   | false=>rw [hs] at h;cases h
   | true=>
    rw [hs] at h
    have h:(qoJ (makes op) v fun v=>match yb (qnx op) no dst v ⟨e',H',lo'⟩ with
     | some ⟨e2,H2,lo2⟩=>Bool.rec (motive:=fun _=>R) (qnX (qma op) H2 fun H2=>qo lo2 fun lo2=>k.run call n e2 H2 lo2) (k.run call n e2 H2 lo2) same
     | none=>none)=some x:=h
    rw [qp0] at h
    split at h
    ·rename_i e2 H2 lo2 hp
     refine ⟨_,hq,.inl ⟨rfl,hs,_,hp,?_⟩⟩
     cases same with
     | false=>simpa only [qpL,kz] using h
     | true=>exact h
    ·cases h
 ·cases h
noncomputable def qAj (d i:Nat) (args:List O) (se:Bool) (k:K):KF:=fun call n e H lo=>
 (qzW args).run e fun vs=>qaf (lvs vs) (orN (call i vs H) fun r=>Cr.rec (motive:=fun _=>R) (fun pan same v H' lo'=>qkq lo lo' fun lo=>Bool.rec (motive:=fun _=>R) (Bool.rec (motive:=fun _=>R) none (qjz v none fun v=>k.run call n ((d,v)::(spL args).run e) H' lo) (same || se)) none pan) r)
theorem qp4 {d i:Nat} {args:List O} {se:Bool} {k:K}:qpa (qAj d i args se k) (.call (.f i) args) se [] (some d) k:=by
 intro call n e H lo z h
 unfold qAj at h
 rw [qqZ] at h
 obtain ⟨h1,h⟩:=kf h
 obtain ⟨r,hr,h⟩:=zh h
 rw [quC] at h1
 obtain ⟨pan,same,v,H',lo'⟩:=r
 have h:(qkq lo lo' fun lo=>Bool.rec (motive:=fun _=>R) (Bool.rec (motive:=fun _=>R) none (qjz v none fun v=>k.run call n ((d,v)::(spL args).run e) H' lo) (same || se)) none pan)=some z:=h
 rw [qfN,qtO] at h
 cases pan with
 | true=>cases h
 | false=>
  cases hs:(same || se) with
  | false=>rw [hs] at h;cases h
  | true=>
   rw [hs] at h
   have h:qjz v none (fun v=>k.run call n ((d,v)::spentAll args e) H' (min lo lo'))=some z:=h
   rcases qjh h with h|⟨hb,h⟩
   ·cases h
   ·have he:qc call (.call (.f i) args) ⟨e,H,lo⟩=some ⟨false,same,v,⟨spentAll args e,H',min lo lo'⟩⟩:=by
     simp only [qc,jE,rd,List.nil_append,List.append_nil,h1,if_true,hr]
    exact ⟨_,he,.inl ⟨rfl,hs,_,qvv hb,h⟩⟩
theorem qxx {bx:Bool} {d:Nat} {v:V} {st:St} (h:v.isBox=false) (hl:∀m o,v≠.lp m o):yb bx [yR] (some d) v st=some {st with env:=(d,v)::st.env}:=by
 cases v<;>first|exact absurd rfl (hl _ _)|(cases h;done)|rfl
noncomputable def qDr (d i:Nat) (args:List O) (se:Bool) (k:K):KF:=fun call n e H lo=>
 (qzW args).run e fun vs=>qaf (lvs vs) (orN (call i vs H) fun r=>Cr.rec (motive:=fun _=>R) (fun pan same v H' lo'=>qkq lo lo' fun lo=>Bool.rec (motive:=fun _=>R) (Bool.rec (motive:=fun _=>R) none (qrk v none fun v=>k.run call n ((d,v)::(spL args).run e) H' lo) (same || se)) (some (.pan v,⟨[],H',lo⟩)) pan) r)
theorem qww {d i:Nat} {args:List O} {se:Bool} {k:K}:qpa (qDr d i args se k) (.call (.f i) args) se [yR] (some d) k:=by
 intro call n e H lo z h
 unfold qDr at h
 rw [qqZ] at h
 obtain ⟨h1,h⟩:=kf h
 obtain ⟨r,hr,h⟩:=zh h
 rw [quC] at h1
 obtain ⟨pan,same,v,H',lo'⟩:=r
 have h:(qkq lo lo' fun lo=>Bool.rec (motive:=fun _=>R) (Bool.rec (motive:=fun _=>R) none (qrk v none fun v=>k.run call n ((d,v)::(spL args).run e) H' lo) (same || se)) (some (.pan v,⟨[],H',lo⟩)) pan)=some z:=h
 rw [qfN,qtO] at h
 cases pan with
 | true=>
  have he:qc call (.call (.f i) args) ⟨e,H,lo⟩=some ⟨true,same,v,⟨spentAll args e,H',min lo lo'⟩⟩:=by
   simp only [qc,jE,rd,List.nil_append,List.append_nil,h1,if_true,hr]
  exact ⟨_,he,.inr ⟨rfl,rfl,(Option.some.inj h).symm⟩⟩
 | false=>
  cases hs:(same || se) with
  | false=>rw [hs] at h;cases h
  | true=>
   rw [hs] at h
   have h:qrk v none (fun v=>k.run call n ((d,v)::spentAll args e) H' (min lo lo'))=some z:=h
   obtain ⟨hb,hl,h⟩:=qrs h
   ·have he:qc call (.call (.f i) args) ⟨e,H,lo⟩=some ⟨false,same,v,⟨spentAll args e,H',min lo lo'⟩⟩:=by
     simp only [qc,jE,rd,List.nil_append,List.append_nil,h1,if_true,hr]
    exact ⟨_,he,.inl ⟨rfl,hs,_,qxx hb hl,h⟩⟩
noncomputable def qz2 (d:Nat) (f:O) (args:List O) (se:Bool) (g:K) (k:K):KF:=fun call n e H lo=>
 asF ((kY f).run e) (g.run call n e H lo) fun i=>qAj d i args se k call n e H lo
theorem qtr {d:Nat} {f:O} {args:List O} {se:Bool} {g k:K} (hg:qpa g.run (.call f args) se [] (some d) k):qpa (qz2 d f args se g k) (.call f args) se [] (some d) k:=by
 intro call n e H lo z h
 unfold qz2 at h
 rcases qrW h with h|⟨i,hi,h⟩
 ·exact hg h
 ·rw [qxu hi];exact qp4 h
noncomputable def qtj (dst:Option Nat) (op:OpK) (se:Bool) (no:List Nat) (k:K):K:=
 match no,op,dst with
 | [],.call (.f i) args,some d=>.mk (qAj d i args se k)
 | [],.call f args,some d=>.mk (qz2 d f args se (.mk (qp7 (some d) (.call f args) se [] k)) k)
 | [m],.call (.f i) args,some d=>match Nat.decEq m yR with
  | .isTrue _=>.mk (qDr d i args se k)
  | .isFalse _=>.mk (qp7 (some d) (.call (.f i) args) se [m] k)
 | [],op,dst=>Bool.rec (motive:=fun _=>K) (.mk (qp7 dst op se [] k)) (qBv dst op k) (qvi op && (qth op || se))
 | no,op,dst=>.mk (qp7 dst op se no k)
theorem qvR {dst:Option Nat} {op:OpK} {se:Bool} {no:List Nat} {k:K}:qpa (qtj dst op se no k).run op se no dst k:=by
 unfold qtj
 split
 ·exact qp4
 ·refine qtr ?_
  intro call n e H lo x h
  exact qhZ h
 ·split
  ·rename_i hm _
   subst hm
   exact qww
  ·exact qhZ
 ·cases hb:(qvi op && (qth op || se)) with
  | false=>exact qhZ
  | true=>
   rw [qIV] at hb
   exact qtS hb.1 hb.2
 ·exact qhZ
noncomputable def qqq (l:List (Op × Bool × List Nat)) (k:K):K:=List.rec (motive:=fun _=>K) k (fun p _ ih=>match p with
 | (⟨dst,op,none⟩,se,no)=>qtj dst op se no ih
 | (⟨dst,op,some (m,w)⟩,se,no)=>.mk fun call n e H lo=>orN (vG (fget m e)) fun r=>Option.rec (motive:=fun _=>R) (qhm dst (.tup []) ih call n e H lo) (fun z=>Bool.rec (motive:=fun _=>R) (qhm dst (.tup []) ih call n e H lo) ((qtj dst op se no ih).run call n e H lo) (eqB z w)) r) l
theorem qms {pg:Pg} {call:Call} (hc:qak call (ql pg)) {n:Nat} {k:K}:∀(l:List (Op × Bool × List Nat)) {e:Env} {H:List Obj} {lo:Nat} {x:Ex × St},(qqq l k).run call n e H lo=some x→qrr pg (qA (ql pg) l ⟨e,H,lo⟩) k call n x
 | [],e,H,lo,x,h=>.inl ⟨⟨e,H,lo⟩,rfl,h⟩
 | (⟨dst,op,g⟩,se,no)::l,e,H,lo,x,h=>by
  have key:wanted g e=some true→(qtj dst op se no (qqq l k)).run call n e H lo=some x→qrr pg (qA (ql pg) ((⟨dst,op,g⟩,se,no)::l) ⟨e,H,lo⟩) k call n x:=by
   intro hw h
   obtain ⟨q,hq,⟨hp,hs,st,hst,hrun⟩|⟨hp,hm,hx⟩⟩:=qvR h
   rotate_left
   ·have hq':=qeN hc hq
    refine .inr ⟨?_,by rw [hx];exact nofun⟩
    simp only [qA,hw,hq',hp,Bool.true_or,cond_true,qw5,hm,Bool.and_self,hx]
   have hq':=qeN hc hq
   simp only [qA,hw,hq',hp,hs,hst,qI6,Bool.or_self,cond_false]
   exact qms hc l hrun
  have skip:wanted g e=some false→qhm dst (.tup []) (qqq l k) call n e H lo=some x→qrr pg (qA (ql pg) ((⟨dst,op,g⟩,se,no)::l) ⟨e,H,lo⟩) k call n x:=by
   intro hw' h
   obtain ⟨q,hq,hq2⟩:=qhC (same:=true) h
   cases hq
   rcases hq2 with ⟨_,st,hst,hrun⟩|⟨hp,_⟩
   ·simp only [qA,hw']
    rw [hst]
    exact qms hc l hrun
   ·cases hp
  cases g with
  | none=>exact key rfl h
  | some mw=>
   obtain ⟨m,w⟩:=mw
   have h:(orN (vG (fget m e)) fun r=>Option.rec (motive:=fun _=>R) (qhm dst (.tup []) (qqq l k) call n e H lo) (fun z=>Bool.rec (motive:=fun _=>R) (qhm dst (.tup []) (qqq l k) call n e H lo) ((qtj dst op se no (qqq l k)).run call n e H lo) (eqB z w)) r)=some x:=h
   obtain ⟨r,hr,h⟩:=zh h
   have hw:=qBr m w e
   rw [hr] at hw
   cases r with
   | none=>exact skip hw h
   | some z=>
    have hw:wanted (some (m,w)) e=some (z == w):=hw
    rw [←qzS] at hw
    have h:Bool.rec (motive:=fun _=>R) (qhm dst (.tup []) (qqq l k) call n e H lo) ((qtj dst op se no (qqq l k)).run call n e H lo) (eqB z w)=some x:=h
    cases hb:eqB z w with
    | false=>rw [hb] at h hw;exact skip hw h
    | true=>rw [hb] at h hw;exact key hw h
noncomputable def qfA:K:=.mk fun _ _ e H lo=>some (.nrm,⟨e,H,lo⟩)
noncomputable def frest (live:List Nat) (e:Env) (κ:Env→R):R:=
 List.rec (motive:=fun _=>(Env→R)→R) (fun κ=>κ []) (fun n _ ih κ=>qxF (fget n e) fun v=>ih fun r=>κ ((n,v)::r)) live κ
theorem qlW (live:List Nat) (e:Env) (κ:Env→R):frest live e κ=κ (restrict live e):=by
 induction live generalizing κ with
 | nil=>rfl
 | cons n l ih=>
  show qxF (fget n e) (fun v=>frest l e fun r=>κ ((n,v)::r))=_
  rw [qzA,ih,y1]
  rfl
noncomputable def onX (r:R) (fn:Env→List Obj→Nat→R) (fx:Nat→Env→List Obj→Nat→R):R:=
 Option.rec (motive:=fun _=>R) none (fun p=>Prod.rec (motive:=fun _=>R) (fun ex st=>St.rec (motive:=fun _=>R) (fun e H lo=>Ex.rec (motive:=fun _=>R) (fn e H lo) (fun j=>fx j e H lo) (some (.ret,⟨e,H,lo⟩)) (fun v=>some (.pan v,⟨e,H,lo⟩)) ex) st) p) r
noncomputable def qBC (id:Nat) (live:List Nat) (k:K) (call:Call) (n:Nat) (r:R):R:=
 onX r (fun e H lo=>frest live e fun e=>k.run call n e H lo) fun j e H lo=>Bool.rec (motive:=fun _=>R) (some (.exit j,⟨e,H,lo⟩)) (frest live e fun e=>k.run call n e H lo) (qI0 j id)
noncomputable def qu5 (live:List Nat) (a:K) (call:Call) (n:Nat):Env→List Obj→Nat→R:=
 Nat.rec (motive:=fun _=>Env→List Obj→Nat→R) (fun _ _ _=>none) (fun m ih e H lo=>frest live e fun e=>onX (a.run call m e H lo) ih fun j e H lo=>some (.exit j,⟨e,H,lo⟩)) n
noncomputable def qkZ (c:C):K→K:=
 C.rec (motive:=fun _=>K→K) (fun k=>k) (fun l k=>qgp l k) (fun l k=>qqq l k)
  (fun _ _ da db k=>da (db k)) (fun o _ _ da db k=>.mk fun call n e H lo=>asB ((kY o).run e) ((da k).run call n e H lo) ((db k).run call n e H lo))
  (fun id live _ da k=>.mk fun call n e H lo=>qBC id live k call n ((da qfA).run call n e H lo))
  (fun live _ da _=>.mk fun call n e H lo=>qu5 live (da qfA) call n e H lo)
  (fun id _=>.mk fun _ _ e H lo=>some (.exit id,⟨e,H,lo⟩)) (fun _=>.mk fun _ _ e H lo=>some (.ret,⟨e,H,lo⟩)) (fun _=>.mk fun _ _ _ _ _=>none)
  (fun k l f p0 p1 live _ _ da db kk=>.mk fun call n e H lo=>match frd e f with
   | .fn k' [] [c]=>Bool.rec (motive:=fun _=>R) none (match qa0 c H lo with
    | some m=>jo (fun p k=>yi p.2 fun v=>k (p.1,v)) (yp live e) fun base=>qo m fun m=>match rounds (fun st=>(da qfA).run call n st.env st.H st.lo) (fun st=>(db qfA).run call n st.env st.H st.lo) l c p0 p1 base m H lo with
     | some (.nrm,⟨e,H,lo⟩)=>kk.run call n e H lo
     | r=>r
    | none=>none) (qI0 k' k && c.ok)
   | _=>none)
  (fun k f live kk=>.mk fun call n e H lo=>match frd e f with
   | .fn k' [] cap=>Bool.rec (motive:=fun _=>R) none (match call k (.undef::cap) H with
    | some r=>Bool.rec (motive:=fun _=>R) (frest live e fun e=>qoE r.H fun H=>qo (min lo r.lo) fun lo=>kk.run call n e H lo) none r.pan
    | none=>none) (qI0 k' k && V.ok.oks cap)
   | _=>none) c
theorem qm2 {pg:Pg} {r:R} {call:Call} {n:Nat} {x:Ex × St} (h:qrr pg r qfA call n x):r=some x:=by
 rcases h with ⟨s,h1,h2⟩|⟨h1,_⟩
 ·have h2:some (Ex.nrm,(⟨s.env,s.H,s.lo⟩:St))=some x:=h2
  cases h2
  exact h1
 ·exact h1
theorem qwq {pg:Pg} {live:List Nat} {a:C} {st:St}:exL pg (.loop live a) st=(match exL pg a {st with env:=restrict live st.env} with|some (.nrm,st')=>exL pg (.loop live a) st'|r=>r):=by rw [jG];rfl
theorem qoA {pg:Pg} {live:List Nat} {a:C} {da:K} {call:Call} (ih:∀(n:Nat) (e:Env) (H:List Obj) (lo:Nat) (x:Ex × St),da.run call n e H lo=some x→exL pg a ⟨e,H,lo⟩=some x) :
  ∀(n:Nat) {e:Env} {H:List Obj} {lo:Nat} {x:Ex × St},qu5 live da call n e H lo=some x→exL pg (.loop live a) ⟨e,H,lo⟩=some x∧x.1≠.nrm
 | 0,e,H,lo,x,h=>by cases h
 | n+1,e,H,lo,x,h=>by
  have h:(frest live e fun e=>onX (da.run call n e H lo) (qu5 live da call n) fun j e H lo=>some (.exit j,⟨e,H,lo⟩))=some x:=h
  rw [qlW] at h
  rw [qwq]
  cases hq:da.run call n (restrict live e) H lo with
  | none=>rw [hq] at h;cases h
  | some y=>
   have hy:=ih n _ _ _ _ hq
   obtain ⟨ex,st⟩:=y
   rw [hq] at h
   show (match exL pg a ⟨restrict live e,H,lo⟩ with|some (.nrm,st')=>exL pg (.loop live a) st'|r=>r)=some x∧_
   rw [hy]
   cases ex with
   | nrm=>exact qoA ih n h
   | exit id=>cases h;exact ⟨rfl,by simp⟩
   | ret=>cases h;exact ⟨rfl,by simp⟩
   | pan v=>cases h;exact ⟨rfl,by simp⟩
theorem yq {pg:Pg} {call:Call} (hc:qak call (ql pg)):∀(c:C) (k:K) (n:Nat) (e:Env) (H:List Obj) (lo:Nat) (x:Ex × St),(qkZ c k).run call n e H lo=some x→qrr pg (exL pg c ⟨e,H,lo⟩) k call n x
 | .skip,k,n,e,H,lo,x,h=>.inl ⟨⟨e,H,lo⟩,by rw [jG];rfl,h⟩
 | .ops l,k,n,e,H,lo,x,h=>by
  have:=qiV hc l h
  rwa [show exL pg (.ops l) ⟨e,H,lo⟩=qn (ql pg) l ⟨e,H,lo⟩ by rw [jG];rfl]
 | .opsD l,k,n,e,H,lo,x,h=>by
  have:=qms hc l h
  rwa [show exL pg (.opsD l) ⟨e,H,lo⟩=qA (ql pg) l ⟨e,H,lo⟩ by rw [jG];rfl]
 | .seq a b,k,n,e,H,lo,x,h=>by
  have ha:=yq hc a (qkZ b k) n e H lo x h
  rw [show exL pg (.seq a b) ⟨e,H,lo⟩=(match exL pg a ⟨e,H,lo⟩ with|some (.nrm,st')=>exL pg b st'|r=>r) by rw [jG];rfl]
  rcases ha with ⟨s,h1,h2⟩|⟨h1,h2⟩
  ·rw [h1]
   exact yq hc b k n s.env s.H s.lo x h2
  ·rw [h1]
   obtain ⟨ex,st⟩:=x
   cases ex with
   | nrm=>exact absurd rfl h2
   | _=>exact .inr ⟨rfl,h2⟩
 | .cond o a b,k,n,e,H,lo,x,h=>by
  have h:asB ((kY o).run e) ((qkZ a k).run call n e H lo) ((qkZ b k).run call n e H lo)=some x:=h
  rw [show exL pg (.cond o a b) ⟨e,H,lo⟩=(match rd e o with | .d (.b true)=>exL pg a ⟨e,H,lo⟩ | .d (.b false)=>exL pg b ⟨e,H,lo⟩|_=>none) by rw [jG];rfl]
  rcases qn9 h with ⟨hx,h⟩|⟨hx,h⟩
  ·have hx':rd e o=.d (.b true):=(ku (by rw [hx];trivial)).trans hx
   rw [hx'];exact yq hc a k n e H lo x h
  ·have hx':rd e o=.d (.b false):=(ku (by rw [hx];trivial)).trans hx
   rw [hx'];exact yq hc b k n e H lo x h
 | .block id live a,k,n,e,H,lo,x,h=>by
  have h:qBC id live k call n ((qkZ a qfA).run call n e H lo)=some x:=h
  rw [show exL pg (.block id live a) ⟨e,H,lo⟩=(match exL pg a ⟨e,H,lo⟩ with
   | some (.nrm,st')=>some (.nrm,{st' with env:=restrict live st'.env})
   | some (.exit j,st')=>bif qI0 j id then some (.nrm,{st' with env:=restrict live st'.env}) else some (.exit j,st')
   | r=>r) by rw [jG];rfl]
  cases hq:(qkZ a qfA).run call n e H lo with
  | none=>rw [hq] at h;cases h
  | some y=>
   have hy:=qm2 (yq hc a qfA n e H lo y hq)
   rw [hq] at h
   rw [hy]
   obtain ⟨ex,e',H',lo'⟩:=y
   cases ex with
   | nrm=>
    have h:(frest live e' fun e=>k.run call n e H' lo')=some x:=h
    rw [qlW] at h
    exact .inl ⟨_,rfl,h⟩
   | exit j=>
    have h:Bool.rec (motive:=fun _=>R) (some (.exit j,⟨e',H',lo'⟩)) (frest live e' fun e=>k.run call n e H' lo') (qI0 j id)=some x:=h
    cases hb:qI0 j id with
    | true=>
     rw [hb] at h
     have h:(frest live e' fun e=>k.run call n e H' lo')=some x:=h
     rw [qlW] at h
     exact .inl ⟨⟨restrict live e',H',lo'⟩,by simp only [hb,cond_true],h⟩
    | false=>
     rw [hb] at h
     have h:some (Ex.exit j,(⟨e',H',lo'⟩:St))=some x:=h
     cases h
     exact .inr ⟨by simp only [hb,cond_false],by simp⟩
   | ret=>cases h;exact .inr ⟨rfl,by simp⟩
   | pan v=>cases h;exact .inr ⟨rfl,by simp⟩
 | .loop live a,k,n,e,H,lo,x,h=>by
  have h:qu5 live (qkZ a qfA) call n e H lo=some x:=h
  exact .inr (qoA (fun n e H lo x h=>qm2 (yq hc a qfA n e H lo x h)) n h)
 | .exit id,k,n,e,H,lo,x,h=>by
  have h:some (Ex.exit id,(⟨e,H,lo⟩:St))=some x:=h
  cases h
  exact .inr ⟨by rw [jG];rfl,by simp⟩
 | .ret,k,n,e,H,lo,x,h=>by
  have h:some (Ex.ret,(⟨e,H,lo⟩:St))=some x:=h
  cases h
  exact .inr ⟨by rw [jG];rfl,by simp⟩
 | .stuck,k,n,e,H,lo,x,h=>by
  have h:none=some x:=h
  cases h
 | .rangeB k l f p0 p1 live a b,kk,n,e,H,lo,x,h=>by
  have h:(match frd e f with
   | .fn k' [] [c]=>Bool.rec (motive:=fun _=>R) none (match qa0 c H lo with
    | some m=>jo (fun (p:Nat × V) k=>yi p.2 fun v=>k (p.1,v)) (yp live e) fun base=>qo m fun m=>match rounds (fun st=>(qkZ a qfA).run call n st.env st.H st.lo) (fun st=>(qkZ b qfA).run call n st.env st.H st.lo) l c p0 p1 base m H lo with
     | some (.nrm,⟨e,H,lo⟩)=>kk.run call n e H lo
     | r=>r
    | none=>none) (qI0 k' k && c.ok)
   | _=>none)=some x:=h
  rw [qan] at h
  rw [show exL pg (.rangeB k l f p0 p1 live a b) ⟨e,H,lo⟩=(match rd e f with
   | .fn k' [] [c]=>bif qI0 k' k && c.ok then (match qa0 c H lo with
    | some n=>rounds (exL pg a) (exL pg b) l c p0 p1 (yp live e) n H lo
    | none=>none) else none
   | _=>none) by rw [jG];rfl]
  split at h
  ·rename_i k' c hf
   (try simp only [hf])
   cases hb:(qI0 k' k && c.ok) with
   | false=>rw [hb] at h;cases h
   | true=>
    rw [hb] at h
    (try simp only [cond_true,hb])
    split at h
    ·rename_i m hm
     (try simp only [hm])
     rw [ky (fun p k=>z3 p.2 fun v=>k (p.1,v)),kz] at h
     have le:∀y,rounds (fun st=>(qkZ a qfA).run call n st.env st.H st.lo) (fun st=>(qkZ b qfA).run call n st.env st.H st.lo) l c p0 p1 (yp live e) m H lo=some y→rounds (exL pg a) (exL pg b) l c p0 p1 (yp live e) m H lo=some y:=fun y hy=>
      qhi (fun st z hz=>qm2 (yq hc a qfA n st.env st.H st.lo z hz)) (fun st z hz=>qm2 (yq hc b qfA n st.env st.H st.lo z hz)) m hy
     cases hq:rounds (fun st=>(qkZ a qfA).run call n st.env st.H st.lo) (fun st=>(qkZ b qfA).run call n st.env st.H st.lo) l c p0 p1 (yp live e) m H lo with
     | none=>rw [hq] at h;cases h
     | some y=>
      rw [hq] at h
      rw [le y hq]
      obtain ⟨ex,e',H',lo'⟩:=y
      cases ex with
      | nrm=>exact .inl ⟨_,rfl,h⟩
      | exit id=>cases h;exact .inr ⟨rfl,by simp⟩
      | ret=>cases h;exact .inr ⟨rfl,by simp⟩
      | pan v=>cases h;exact .inr ⟨rfl,by simp⟩
    ·cases h
  ·cases h
 | .rangeZ k f live,kk,n,e,H,lo,x,h=>by
  have h:(match frd e f with
   | .fn k' [] cap=>Bool.rec (motive:=fun _=>R) none (match call k (.undef::cap) H with
    | some r=>Bool.rec (motive:=fun _=>R) (frest live e fun e=>qoE r.H fun H=>qo (min lo r.lo) fun lo=>kk.run call n e H lo) none r.pan
    | none=>none) (qI0 k' k && V.ok.oks cap)
   | _=>none)=some x:=h
  rw [qan] at h
  split at h
  ·rename_i k' cap hf
   cases hb:(qI0 k' k && V.ok.oks cap) with
   | false=>rw [hb] at h;cases h
   | true=>
    rw [hb] at h
    split at h
    ·rename_i r hr
     cases hp:r.pan with
     | true=>rw [hp] at h;cases h
     | false=>
      rw [hp] at h
      have h:(frest live e fun e=>qoE r.H fun H=>qo (min lo r.lo) fun lo=>kk.run call n e H lo)=some x:=h
      rw [qlW,qpz,kz] at h
      refine .inl ⟨⟨restrict live e,r.H,min lo r.lo⟩,?_,h⟩
      rw [jG]
      have hr':=hc _ _ _ _ hr
      show step _ _ _ _=_
      simp only [step,hf,hb,cond_true,hr',hp,cond_false]
    ·cases h
  ·cases h
noncomputable def qxl (own:Bool) (v:V) (κ:V→Option Cr):Option Cr:=V.rec (motive_1:=fun _=>Option Cr) (motive_2:=fun _=>Option Cr) (fun x=>κ (.d x)) (fun xs=>Bool.rec (motive:=fun _=>Option Cr) (κ (.d (.sl xs))) (κ (.osl xs)) own) (fun xs=>κ (.fsl xs)) (fun a b=>κ (.ptr a b)) (fun a b=>κ (.lp a b)) (fun _ _=>none) (fun x=>κ (.cp x)) (fun a b c d=>κ (.rs a b c d)) (fun a b c=>κ (.row a b c)) (fun a=>κ (.map a)) (fun f a b _ _=>κ (.fn f a b)) (fun t x _=>κ (.ifc t x)) (fun cs _=>Bool.rec (motive:=fun _=>Option Cr) (qcZ (qfd (cs.map zW)) κ) (κ (.agg cs)) own) (fun vs _=>κ (.tup vs)) (κ .undef) none (fun _ _ _ _=>none) v
theorem qA3 (own:Bool) (v:V) (κ:V→Option Cr):qxl own v κ=(match (match v with | .box _=>none|v=>some (bif own then v else copy v)) with|some v=>κ v|none=>none):=by
 cases v with
 | agg cs=>cases own with
  | true=>rfl
  | false=>exact qce _ _
 | _=>cases own<;>rfl
inductive KX where
 | mk (f:Env→List Obj→Nat→(List V→Option Cr)→Option Cr)
noncomputable def KX.run (k:KX):Env→List Obj→Nat→(List V→Option Cr)→Option Cr:=KX.rec (motive:=fun _=>Env→List Obj→Nat→(List V→Option Cr)→Option Cr) (fun f=>f) k
noncomputable def qHv (own:Bool) (r:Rv) (ih:KX):KX:=
 Rv.rec (motive:=fun _=>KX) (fun n=>.mk fun e H lo κ=>qxl own (fget n e) fun v=>ih.run e H lo fun vs=>κ (v::vs))
  (fun n l=>.mk fun e H lo κ=>match y8 own ⟨e,H,lo⟩ (.cell n l) with|some v=>qcZ v fun v=>ih.run e H lo fun vs=>κ (v::vs)|none=>none) r
noncomputable def qwu (own:Bool) (l:List Rv):KX:=List.rec (motive:=fun _=>KX) (.mk fun _ _ _ κ=>κ []) (fun r _ ih=>qHv own r ih) l
theorem qBl (own:Bool) (l:List Rv) (e:Env) (H:List Obj) (lo:Nat) (κ:List V→Option Cr):(qwu own l).run e H lo κ=(match qO own ⟨e,H,lo⟩ l with|some vs=>κ vs|none=>none):=by
 induction l generalizing κ with
 | nil=>rfl
 | cons r l ih=>
  show (qHv own r (qwu own l)).run e H lo κ=_
  simp only [qO]
  cases r with
  | t n=>
   show qxl own (fget n e) (fun v=>(qwu own l).run e H lo fun vs=>κ (v::vs))=_
   rw [qA3,y1]
   simp only [ih,y8]
   cases hv:get n e<;>first|rfl|(simp only [];cases qO own ⟨e,H,lo⟩ l<;>rfl)
  | cell n l'=>
   show (match y8 own ⟨e,H,lo⟩ (.cell n l') with|some v=>qcZ v fun v=>(qwu own l).run e H lo fun vs=>κ (v::vs)|none=>none)=_
   cases y8 own ⟨e,H,lo⟩ (.cell n l') with
   | none=>rfl
   | some v=>
    simp only [qce,ih]
    cases qO own ⟨e,H,lo⟩ l<;>rfl
noncomputable def qDz (v:V):Nat:=V.rec (motive_1:=fun _=>Nat) (motive_2:=fun _=>Nat) (fun _=>0) (fun _=>0) (fun _=>0) (fun a _=>Nat.succ a) (fun _ _=>0) (fun cs _=>V.ref (.box cs)) (fun _=>0) (fun a _ _ _=>Nat.succ a) (fun a _ _=>Nat.succ a) (fun a=>Nat.succ a) (fun f a b _ _=>V.ref (.fn f a b)) (fun t x _=>V.ref (.ifc t x)) (fun cs _=>V.ref (.agg cs)) (fun vs _=>V.ref (.tup vs)) 0 0 (fun _ _ _ _=>0) v
theorem qA7 (v:V):qDz v=v.ref:=by cases v<;>rfl
noncomputable def qGM (v:V):Bool:=V.rec (motive_1:=fun _=>Bool) (motive_2:=fun _=>Bool) (fun _=>false) (fun _=>false) (fun _=>false) (fun _ _=>false) (fun _ _=>false) (fun _ _=>false) (fun _=>false) (fun _ _ _ _=>true) (fun _ _ _=>false) (fun _=>false) (fun _ _ _ _ _=>false) (fun _ _ _=>false) (fun _ _=>false) (fun _ _=>false) false false (fun _ _ _ _=>false) v
noncomputable def qqS (H:List Obj) (v:V) (H':List Obj) (lo:Nat):Option Cr:=
 Bool.rec (motive:=fun _=>Option Cr)
  (Bool.rec (motive:=fun _=>Option Cr) none
   (Bool.rec (motive:=fun _=>Option Cr) (some ⟨false,false,v,H',lo⟩) (Bool.rec (motive:=fun _=>Option Cr) (some ⟨false,false,v,H',lo⟩) (some ⟨false,true,v,H,lo⟩) (Nat.ble (jt H) lo)) (Nat.ble (qDz v) (jt H))) (lvF v))
  (match leave H false v ⟨[],H',lo⟩ with|some ⟨pan,same,v,H,lo⟩=>qcZ v fun v=>some (Cr.mk pan same v H lo)|none=>none) (qGM v)
theorem qvx (H:List Obj) (pan:Bool) (v:V) (e e':Env) (H':List Obj) (lo:Nat):leave H pan v ⟨e,H',lo⟩=leave H pan v ⟨e',H',lo⟩:=rfl
theorem qwb (H:List Obj) (v:V) (e:Env) (H':List Obj) (lo:Nat):qqS H v H' lo=leave H false v ⟨e,H',lo⟩:=by
 unfold qqS
 cases hr:qGM v with
 | true=>
  show (match leave H false v ⟨[],H',lo⟩ with|some ⟨pan,same,v,H,lo⟩=>qcZ v fun v=>some (Cr.mk pan same v H lo)|none=>none)=_
  rw [qvx H false v [] e]
  cases leave H false v ⟨e,H',lo⟩ with
  | none=>rfl
  | some r=>obtain ⟨a,b,c,d,f⟩:=r;exact qce _ _
 | false=>
  show Bool.rec (motive:=fun _=>Option Cr) none (Bool.rec (motive:=fun _=>Option Cr) (some ⟨false,false,v,H',lo⟩) (Bool.rec (motive:=fun _=>Option Cr) (some ⟨false,false,v,H',lo⟩) (some ⟨false,true,v,H,lo⟩) (Nat.ble (jt H) lo)) (Nat.ble (qDz v) (jt H))) (lvF v)=_
  have hs:settle H.length H' v=v:=by cases v<;>first|rfl|cases hr
  unfold leave
  simp only [hs,qzy,qA7,kp]
  cases v.leaves with
  | false=>rfl
  | true=>
   cases Nat.ble v.ref H.length with
   | false=>rfl
   | true=>cases Nat.ble H.length lo<;>rfl
noncomputable def qFD (vs:List V) (κ:V→Option Cr):Option Cr:=List.rec (motive:=fun _=>Option Cr) (κ (.tup [])) (fun v t _=>List.rec (motive:=fun _=>Option Cr) (κ v) (fun w u _=>κ (.tup (v::w::u))) t) vs
theorem qA4 (vs:List V) (κ:V→Option Cr):qFD vs κ=κ (qjK vs):=by
 cases vs with
 | nil=>rfl
 | cons v t=>cases t<;>rfl
noncomputable def qyk (fn:Fn) (H:List Obj) (st:St):Option Cr:=St.rec (motive:=fun _=>Option Cr) (fun e H' lo=>(qwu fn.own fn.res).run e H' lo fun vs=>qFD vs fun v=>qqS H v H' lo) st
theorem qvn (fn:Fn) (H:List Obj) (st:St):qyk fn H st=ju fn H st:=by
 obtain ⟨e,H',lo⟩:=st
 show ((qwu fn.own fn.res).run e H' lo fun vs=>qFD vs fun v=>qqS H v H' lo)=_
 rw [qBl]
 unfold ju
 cases qO fn.own ⟨e,H',lo⟩ fn.res with
 | none=>rfl
 | some vs=>simp only [qA4];exact qwb H _ e H' lo
noncomputable def qyb (fn:Fn):K:=qkZ fn.body qfA
noncomputable def exJ (call:Call) (n:Nat):C→St→Option (Ex × St):=fun c st=>(qkZ c qfA).run call n st.env st.H st.lo
noncomputable def qAu (pg:Pg) (call:Call) (n:Nat) (H:List Obj) (fn:Fn) (r:R):Option Cr:=
 Option.rec (motive:=fun _=>Option Cr) none (fun p=>Prod.rec (motive:=fun _=>Option Cr) (fun ex st=>Ex.rec (motive:=fun _=>Option Cr)
  (Option.rec (motive:=fun _=>Option Cr) (qyk fn H st) (fun q=>deferred pg (exJ call n) fn H q.1 q.2 st) fn.dfr) (fun _=>none) (qyk fn H st) (fun v=>leave H true v st) ex) p) r
def isNone {α:Type}:Option α→Bool
 | none=>true
 | some _=>false
theorem qvL {α:Type} {o:Option α} (h:isNone o=true):o=none:=by cases o<;>first|rfl|cases h
noncomputable def qA8 (vs:List V):Nat→(Env→Option Cr)→Option Cr:=List.rec (motive:=fun _=>Nat→(Env→Option Cr)→Option Cr) (fun _ κ=>κ []) (fun v _ ih m κ=>ih (Nat.succ m) fun r=>κ ((m,v)::r)) vs
theorem qAC (vs:List V) (m:Nat) (κ:Env→Option Cr):qA8 vs m κ=κ (kB m vs):=by
 induction vs generalizing m κ with
 | nil=>rfl
 | cons v vs ih=>exact ih _ _
noncomputable def qai (pg:Pg) (n:Nat):Call:=
 Nat.rec (motive:=fun _=>Call) (fun _ _ _=>none) (fun m ih f vs H=>Option.rec (motive:=fun _=>Option Cr) (pg.ext f vs H)
  (fun fn=>Bool.rec (motive:=fun _=>Option Cr) none (Bool.rec (motive:=fun _=>Option Cr) none (qA8 vs 0 fun e=>qo (jt H) fun hl=>qAu pg ih m H fn ((qyb fn).run ih m e H hl)) (qI0 fn.np (jt vs))) (isNone fn.rcv)) (pg.fn f)) n
theorem qFn {pg:Pg} {call:Call} (hc:qak call (ql pg)) (n:Nat):qpl (exJ call n) (exL pg):=fun c st x h=>qm2 (yq hc c qfA n st.env st.H st.lo x h)
theorem qn0 (pg:Pg):∀n,qak (qai pg n) (ql pg)
 | 0=>fun i vs H r h=>by cases h
 | n+1=>fun i vs H r h=>by
  have h:Option.rec (motive:=fun _=>Option Cr) (pg.ext i vs H)
   (fun fn=>Bool.rec (motive:=fun _=>Option Cr) none (Bool.rec (motive:=fun _=>Option Cr) none (qA8 vs 0 fun e=>qo (jt H) fun hl=>qAu pg (qai pg n) n H fn ((qyb fn).run (qai pg n) n e H hl)) (qI0 fn.np (jt vs))) (isNone fn.rcv)) (pg.fn i)=some r:=h
  rw [ql4]
  unfold qp
  cases hf:pg.fn i with
  | none=>rw [hf] at h;exact h
  | some fn=>
   rw [hf] at h
   have h:Bool.rec (motive:=fun _=>Option Cr) none (Bool.rec (motive:=fun _=>Option Cr) none (qA8 vs 0 fun e=>qo (jt H) fun hl=>qAu pg (qai pg n) n H fn ((qyb fn).run (qai pg n) n e H hl)) (qI0 fn.np (jt vs))) (isNone fn.rcv)=some r:=h
   rw [qAC,kz,kp,kp] at h
   cases hb1:isNone fn.rcv with
   | false=>rw [hb1] at h;cases h
   | true=>
    rw [hb1] at h
    cases hb:qI0 fn.np vs.length with
    | false=>rw [hb] at h;cases h
    | true=>
     rw [hb] at h
     have h:qAu pg (qai pg n) n H fn ((qyb fn).run (qai pg n) n (kB 0 vs) H H.length)=some r:=h
     have hcond:fn.np=vs.length∧fn.rcv=none:=⟨qIX hb,qvL hb1⟩
     simp only [if_pos hcond]
     cases hq:(qyb fn).run (qai pg n) n (kB 0 vs) H H.length with
     | none=>rw [hq] at h;cases h
     | some y=>
      have hy:=qm2 (yq (qn0 pg n) fn.body qfA n _ _ _ _ hq)
      rw [hq] at h
      rw [hy]
      obtain ⟨ex,st⟩:=y
      cases ex with
      | nrm=>
       have h:Option.rec (motive:=fun _=>Option Cr) (qyk fn H st) (fun q=>deferred pg (exJ (qai pg n) n) fn H q.1 q.2 st) fn.dfr=some r:=h
       show (match fn.dfr with
        | none=>ju fn H st
        | some (t,rest)=>deferred pg (exL pg) fn H t rest st)=some r
       cases hd:fn.dfr with
       | none=>rw [hd,qvn] at h;exact h
       | some q=>
        obtain ⟨t,rest⟩:=q
        rw [hd] at h
        exact qje (qFn (qn0 pg n) n) h
      | exit id=>cases h
      | ret=>
       have h:qyk fn H st=some r:=h
       rw [qvn] at h;exact h
      | pan v=>exact h
theorem qpw {pg:Pg} {n f:Nat} {vs:List V} {H:List Obj} {r:Cr} (h:qai pg n f vs H=some r):ql pg f vs H=some r:=qn0 pg n _ _ _ _ h
end W
/-
  What the kernel works out of a call on closed data, as a fact about the call.
-/
set_option linter.unusedSimpArgs false
set_option linter.unusedVariables false
namespace W
open Go (IntKind BinOp UnOp)
def qmZ:List V→List D→Bool
 | [],[]=>true
 | .d x::l,y::r=>eqD x y && qmZ l r
 | _,_=>false
theorem qrm:∀{l:List V} {r:List D},qmZ l r=true→l=r.map .d
 | [],[],_=>rfl
 | v::l,y::r,h=>by
  cases v with
  | d x=>
   simp only [qmZ,qIV] at h
   rw [qq6 h.1,qrm h.2];rfl
  | _=>cases h
 | [],_::_,h=>by simp [qmZ] at h
 | v::_,[],h=>by cases v<;>simp [qmZ] at h
def isD (r:Option Cr) (x:D):Bool:=match r with
 | some ⟨false,true,.d y,_,_⟩=>eqD y x
 | _=>false
def qz4 (r:Option Cr) (x:List D):Bool:=match r with
 | some ⟨false,true,.tup y,_,_⟩=>qmZ y x
 | _=>false
theorem qpS {pg:Pg} (hx:qz pg.ext) {f:Nat} {vs:List V} {H H':List Obj} {v:V} {lo:Nat} (h:ql pg f vs H=some ⟨false,true,v,H',lo⟩):ql pg f vs H=some ⟨false,true,v,H,lo⟩:=by
 obtain ⟨n,hn⟩:=jH.1 h
 have hlo:=(yZ hx (qaP hx n) _ _ _ _ hn).2.2 rfl
 simp only at hlo
 rw [hlo] at h
 exact h
theorem qx3 {pg:Pg} (hx:qz pg.ext) {N f:Nat} {vs:List V} {H:List Obj} {x:D} (h:isD (qai pg N f vs H) x=true):∃lo,ql pg f vs H=some ⟨false,true,.d x,H,lo⟩:=by
 unfold isD at h
 split at h
 ·rename_i y H' lo hr
  rw [qq6 h] at hr
  exact ⟨lo,qpS hx (qpw hr)⟩
 ·cases h
theorem qt3 {pg:Pg} (hx:qz pg.ext) {N f:Nat} {vs:List V} {H:List Obj} {x:List D} (h:qz4 (qai pg N f vs H) x=true):∃lo,ql pg f vs H=some ⟨false,true,.tup (x.map .d),H,lo⟩:=by
 unfold qz4 at h
 split at h
 ·rename_i y H' lo hr
  rw [qrm h] at hr
  exact ⟨lo,qpS hx (qpw hr)⟩
 ·cases h
end W
/- A call of no arguments whose result is data is the same beside whatever objects there are. -/
set_option linter.unusedSimpArgs false
set_option linter.unusedVariables false
namespace W
open Go (World Value Addr IntKind Program TypeId FuncId)
end W
/- Calls whose arguments and results are data, known beforehand (by the kernel), stand in for the functions' code. -/
set_option linter.unusedSimpArgs false
set_option linter.unusedVariables false
namespace W
open Go (World Value Addr IntKind Program TypeId FuncId)
inductive Out where
 | one (x:D)
 | tup (l:List D)
def Out.v:Out→V
 | .one x=>.d x
 | .tup l=>.tup (l.map .d)
structure Ent where
 f:Nat
 a:List D
 r:Out
def pick (i:Nat) (vs:List V):List Ent→Option Ent
 | []=>none
 | e::T=>bif qI0 e.f i && qmZ vs e.a then some e else pick i vs T
def qpf (T:List Ent) (i:Nat) (vs:List V) (H:List Obj):Option Cr:=match pick i vs T with
 | some e=>some ⟨false,true,e.r.v,H,H.length⟩
 | none=>none
def Ent.is (r:Option Cr):Out→Bool
 | .one x=>isD r x
 | .tup l=>qz4 r l
def Ent.Ok (pg:Pg) (e:Ent):Prop:=∃lo,ql pg e.f (e.a.map .d) []=some ⟨false,true,e.r.v,[],lo⟩
theorem qf8 {pg:Pg} (hx:qz pg.ext) {N f:Nat} {l:List D} {r:Out} (h:Ent.is (qai pg N f (l.map .d) []) r=true):Ent.Ok pg ⟨f,l,r⟩:=by
 cases r with
 | one x=>exact qx3 hx h
 | tup l=>exact qt3 hx h
theorem qpT {i:Nat} {vs:List V} {e:Ent}:∀{T:List Ent},pick i vs T=some e→e ∈ T∧e.f=i∧vs=e.a.map .d
 | [],h=>by cases h
 | q::T,h=>by
  unfold pick at h
  rw [qIU] at h
  split at h
  ·rename_i hb
   cases h
   simp only [qIV] at hb
   exact ⟨.head _,qIX hb.1,qrm hb.2⟩
  ·obtain ⟨h1,h2⟩:=qpT h
   exact ⟨.tail _ h1,h2⟩
theorem quS {T:List Ent}:qz (qpf T):=fun i vs H r h=>by
 unfold qpf at h
 split at h
 ·cases h
  exact ⟨qIY _,fun _ _ _=>rfl,fun _=>rfl⟩
 ·cases h
theorem qBB {M:Maps} {g g':Gh} {w w':World} (e:g'.pub=g.pub) (ew:w'=w):∀{l:List D} {vs:List Value},RepSL M g w (l.map .d) vs→RepSL M g' w' (l.map .d) vs
 | [],_,h=>by cases h;exact .nil
 | x::l,_,h=>by
  rw [List.map_cons] at h ⊢
  cases h with
  | cons _ _ _ _ h0 h=>
   refine .cons _ _ _ _ ?_ (qBB e ew h)
   cases h0 with
   | d _ _ hr=>exact .d _ _ (by rw [e,ew];exact hr)
theorem qAd {P:Program} {M:Maps} {pg:Pg} (hsim:∀n,qx P M (zu pg n)) {e:Ent} (h:e.Ok pg)
  {f':FuncId} (hl:look M.fm f'=some e.f) {g:Gh} {w:World} {H:List Obj} (hH:RelH M g w H) {argv:List Value} (ha:ArgsRep M g w 0 (e.a.map .d) argv):qqi P f' argv.toArray w (qJ M g w ⟨false,true,e.r.v,H,H.length⟩):=by
 obtain ⟨lo,h⟩:=h
 obtain ⟨n,hn⟩:=jH.1 h
 refine qo4 (hsim n) hn rfl (fun {g1 g2 w' c} ep hA=>?_) hl hH ha
 revert hA
 cases e.r with
 | one x=>
  intro hA
  cases hA with
  | s hA=>cases hA with
   | d _ _ hr=>exact .s (.d _ _ (by rw [ep];exact hr))
 | tup l=>
  intro hA
  cases hA with
  | s hA=>cases hA with
   | tup _ _ hr=>exact .s (.tup _ _ (qBB ep rfl hr))
theorem qsC {P:Program} {M:Maps} {T:List Ent} (hT:∀e ∈ T,∃pg,(∀n,qx P M (zu pg n))∧e.Ok pg):qx P M (qpf T):=by
 intro i vs H r h f' hl g w argv ha hH
 unfold qpf at h
 split at h
 ·rename_i e he
  cases h
  obtain ⟨h1,rfl,rfl⟩:=qpT he
  obtain ⟨pg,hsim,hok⟩:=hT e h1
  exact qAd hsim hok hl hH ha
 ·cases h
end W
namespace W
set_option maxRecDepth 100000
def ixN (c:Nat):List Nat→Int
 | []=>-1
 | x::l=>bif qI0 x c then 0 else match ixN c l with
  | .ofNat n=>.ofNat (n+1)
  | v=>v
def ixX (vs:List V) (H:List Obj):Option Cr:=
 match vs with
 | [.d (.s t),.d (.i .u8 (.ofNat c))]=>some ⟨false,true,.d (.i .i64 (ixN (c % 256) t)),H,H.length⟩
 | _=>none
def pg:Pg:=⟨fun n=>bif qI0 n 296 then none else prog n,fun i vs H=>bif qI0 i 296 then ixX vs H else none⟩
theorem qEc:qz fun _ vs H=>ixX vs H:=fun i vs H r h=>by
 simp only [ixX] at h
 split at h
 ·cases h
  exact ⟨qIY _,fun _ _ _=>rfl,fun _=>rfl⟩
 ·cases h
theorem qud:qz pg.ext:=fun i vs H r h=>by
 simp only [pg,qIU] at h
 split at h
 ·exact qEc i vs H r h
 ·cases h
end W
/-
  More equations: nil slices, shifts, bits, bytes.
-/
set_option linter.unusedSimpArgs false
set_option linter.unusedVariables false
namespace W
open Go (IntKind BinOp UnOp)
theorem qfQ {n:Nat}:isC (.t n)=false:=(rfl)
theorem qc0 {x:D}:isC (.c x)=true:=(rfl)
def qvp (s:Nat) (v:V):V:=match v with | .lp t o=>bif qI0 t s then .undef else .lp t o|v=>v
theorem qun {s:Nat}:qbo s []=[]:=(rfl)
theorem qs1 {s n:Nat} {v:V} {e:Env}:qbo s ((n,v)::e)=(n,qvp s v)::qbo s e:=(rfl)
theorem qu1 {s:Nat} {x:D}:qvp s (.d x)=.d x:=(rfl)
theorem qwL {s i o:Nat}:qvp s (.ptr i o)=.ptr i o:=(rfl)
theorem qnn {s:Nat}:qvp s .undef=.undef:=(rfl)
theorem qqn {cs vs:List V} (h:(vs.length=cs.length)=True):kI cs 0 vs=some vs:=by
 have h:vs.length=cs.length:=by rw [h];trivial
 simp [kI,h]
def qDu (l:L) (st:St):V→Option V
 | .box cs=>V.part 0 l cs
 | .ptr id off=>qH l st (.ptr id off)
 | _=>none
theorem qlX {own:Bool} {st:St} {n:Nat} {l:L}:y8 own st (.cell n l)=qDu l st (get n st.env):=by
 simp only [y8,qDu]
 cases get n st.env<;>rfl
theorem qr9 {l:L} {st:St} {cs:List V}:qDu l st (.box cs)=qtm l 0 (.box cs):=(rfl)
theorem qp6 {i o:Nat}:qif (.ptr i o)=.ptr i o:=(rfl)
def e8 (n:Nat):D:=.i .u8 (n:Int)
end W
/- Walking on: interfaces, panics, function values, deferred closures. -/
set_option linter.unusedSimpArgs false
set_option linter.unusedVariables false
namespace W
open Go (IntKind BinOp UnOp)
variable {pg:Pg} {st:St} {call:Call}
end W
/-
  Walking of rows that may be written.
-/
set_option linter.unusedSimpArgs false
set_option linter.unusedVariables false
namespace W
open Go (IntKind BinOp UnOp)
section
variable {call:Call} {st:St}
end
end W
/- Small functions of the scanners and parsers whose results are told at once. -/
set_option linter.unusedSimpArgs false
set_option linter.unusedVariables false
namespace W
open Go (IntKind BinOp UnOp)
set_option maxRecDepth 20000
set_option linter.defProp false in
def qmd:=(And.intro (And.intro (And.intro (And.intro (And.intro @qd0 @j7) (And.intro @qoO (And.intro @qqj @qhr))) (And.intro (And.intro @qq5 @qfQ) (And.intro @qqk (And.intro @y5 @qrz)))) (And.intro (And.intro (And.intro @yd @kU) (And.intro @jf (And.intro @qqG @qbA))) (And.intro (And.intro @zG (And.intro @qlv @qb8)) (And.intro @yN (And.intro @qn6 @qla))))) (And.intro (And.intro (And.intro (And.intro @zI @qaU) (And.intro @yG (And.intro @qvm @quV))) (And.intro (And.intro @yu (And.intro @qfI @qcr)) (And.intro @qjX (And.intro @qlu @qmL)))) (And.intro (And.intro (And.intro @zE @yH) (And.intro @qtc (And.intro @qgT @je))) (And.intro (And.intro @qcd (And.intro @qBG @qc0)) (And.intro @yL (And.intro @qgN @qmT))))))
noncomputable def qt8 (H:List Obj) (b:Bool):Option Cr:=Bool.rec (motive:=fun _=>Option Cr) (some ⟨false,true,.d (.b false),H,H.length⟩) (some ⟨false,true,.d (.b true),H,H.length⟩) b
theorem qml {H:List Obj} {b:Bool} {r:Cr} (h:qt8 H b=some r):r=⟨false,true,.d (.b b),H,H.length⟩:=by cases b<;>exact (Option.some.inj h).symm
theorem qAs {l:List Nat} {n:Nat} (h:n≤l.length):qgw (.d (.s l)) none (some (n:Int))=some (.d (.s (l.take n))):=by
 rw [qrx (by simp) (by simp) (by simp;omega)]
 simp
theorem qAZ {l:List Nat} {n:Nat} (h:n≤l.length):qgw (.d (.s l)) (some (n:Int)) none=some (.d (.s (l.drop n))):=by
 rw [qrx (by simp) (by simp;omega) (by simp)]
 simp
theorem qtV {a b:List Nat}:qmI a b=decide (a=b):=by rw [qnG,qyu]
theorem qjH {a b:Nat}:qI0 a b=decide (a=b):=by rw [Bool.eq_iff_iff,Nat.beq_eq];simp
noncomputable def byF (vs:List V):Option Nat:=
 match vs with
 | [v]=>(match vI v with
  | .yes k (.ofNat n)=>bif qI0 (kcode k) 4 then some n else none
  | _=>none)
 | _=>none
theorem qzr {vs:List V} {n:Nat} (h:byF vs=some n):vs=[.d (.i .u8 (n:Int))]:=by
 unfold byF at h
 split at h
 ·rename_i v
  split at h
  ·rename_i k m hv
   rw [qIU] at h
   split at h
   ·rename_i hk
    cases h
    rw [qd9 hv]
    cases k<;>first|rfl|cases hk
   ·cases h
  ·cases h
 ·cases h
noncomputable def inR (a b c:Nat):Bool:=Bool.rec (motive:=fun _=>Bool) false (Nat.ble c b) (Nat.ble a c)
theorem qnO {a b c:Nat}:inR a b c=(decide (a≤c) && decide (c≤b)):=by
 have h1:∀x y:Nat,Nat.ble x y=decide (x≤y):=fun x y=>by rw [Bool.eq_iff_iff,Nat.ble_eq];simp
 unfold inR
 rw [h1,h1]
 by_cases h:a≤c<;>simp [h]
noncomputable def orF (a b:Bool):Bool:=Bool.rec (motive:=fun _=>Bool) b true a
theorem qk4 {a b:Bool}:orF a b=(a || b):=by cases a<;>rfl
noncomputable def cLt (c:Nat):Bool:=orF (inR 97 122 c) (inR 65 90 c)
noncomputable def cDg (c:Nat):Bool:=inR 48 57 c
noncomputable def cBl (c:Nat):Bool:=orF (orF (qI0 c 9) (qI0 c 10)) (orF (qI0 c 13) (qI0 c 32))
noncomputable def byX (f:Nat→Bool) (vs:List V) (H:List Obj):Option Cr:=Option.rec (motive:=fun _=>Option Cr) none (fun c=>qt8 H (f c)) (byF vs)
theorem qjg {f:Nat→Bool} {vs:List V} {H:List Obj} {r:Cr} (h:byX f vs H=some r):∃c:Nat,vs=[.d (.i .u8 (c:Int))]∧r=⟨false,true,.d (.b (f c)),H,H.length⟩:=by
 unfold byX at h
 cases hb:byF vs with
 | none=>rw [hb] at h;cases h
 | some c=>rw [hb] at h;exact ⟨c,qzr hb,qml h⟩
theorem qnf {c:Nat} {H:List Obj}:ql pg 104 [.d (.i .u8 c)] H=some ⟨false,true,.d (.b (cLt c)),H,H.length⟩:=by
 rw [zf (fn:=qaC) rfl rfl,cLt,qk4,qnO,qnO]
 have e1:((97:Int)≤(c:Int))=(97≤c):=by rw [eq_iff_iff];omega
 have e2:((c:Int)≤122)=(c≤122):=by rw [eq_iff_iff];omega
 have e3:((65:Int)≤(c:Int))=(65≤c):=by rw [eq_iff_iff];omega
 have e4:((c:Int)≤90)=(c≤90):=by rw [eq_iff_iff];omega
 by_cases h1:97≤c<;>by_cases h2:c≤122<;>by_cases h3:65≤c<;>by_cases h4:c≤90
 all_goals simp only [qmd,qaC,Nat.zero_add,reduceCtorEq,Bool.or_true,e1,h1,decide_true,↓reduceIte,Nat.reduceEqDiff,qq2,e2,h2,qI6,qI1,quN,kr,Bool.and_self,h3,h4,Bool.or_self,decide_false,Bool.and_false,Bool.or_false,Bool.and_true,Bool.not_false,e3,e4]
 all_goals rfl
theorem qql {c:Nat} {H:List Obj}:ql pg 76 [.d (.i .u8 c)] H=some ⟨false,true,.d (.b (cLt c)),H,H.length⟩:=by
 rw [zf (fn:=zL) rfl rfl,cLt,qk4,qnO,qnO]
 have e1:((97:Int)≤(c:Int))=(97≤c):=by rw [eq_iff_iff];omega
 have e2:((c:Int)≤122)=(c≤122):=by rw [eq_iff_iff];omega
 have e3:((65:Int)≤(c:Int))=(65≤c):=by rw [eq_iff_iff];omega
 have e4:((c:Int)≤90)=(c≤90):=by rw [eq_iff_iff];omega
 by_cases h1:97≤c<;>by_cases h2:c≤122<;>by_cases h3:65≤c<;>by_cases h4:c≤90
 all_goals simp only [qmd,zL,Nat.zero_add,reduceCtorEq,Bool.or_true,e1,h1,decide_true,↓reduceIte,Nat.reduceEqDiff,qq2,e2,h2,qI6,qI1,quN,kr,Bool.and_self,h3,h4,Bool.or_self,decide_false,Bool.and_false,Bool.or_false,Bool.and_true,Bool.not_false,e3,e4]
 all_goals rfl
theorem qow {c:Nat} {H:List Obj}:ql pg 106 [.d (.i .u8 c)] H=some ⟨false,true,.d (.b (cDg c)),H,H.length⟩:=by
 rw [zf (fn:=qbs) rfl rfl,cDg,qnO]
 have e1:((48:Int)≤(c:Int))=(48≤c):=by rw [eq_iff_iff];omega
 have e2:((c:Int)≤57)=(c≤57):=by rw [eq_iff_iff];omega
 by_cases h1:48≤c<;>by_cases h2:c≤57
 all_goals simp only [qmd,qbs,Nat.zero_add,reduceCtorEq,Bool.or_true,e1,h1,decide_true,↓reduceIte,Nat.reduceEqDiff,qq2,e2,h2,kr,Bool.and_self,decide_false,Bool.and_false,qI1,Bool.and_true]
 all_goals rfl
noncomputable def cNm (c:Nat):Bool:=orF (cLt c) (cDg c)
theorem qup {c:Nat} {H:List Obj}:ql pg 172 [.d (.i .u8 c)] H=some ⟨false,true,.d (.b (cNm c)),H,H.length⟩:=by
 rw [zf (fn:=qbv) rfl rfl,cNm,qk4]
 have hl:=qnf (c:=c) (H:=H)
 have hd:=qow (c:=c) (H:=H)
 cases hq:cDg c<;>rw [hq] at hd<;>cases hr:cLt c<;>rw [hr] at hl
 all_goals simp only [qmd,qbv,Nat.zero_add,reduceCtorEq,kQ,List.map_cons,List.map_nil,kE,qQ,Bool.and_self,yF,hl,kN,kD,qP,Nat.min_self,qkv,qcm,qaH,Bool.not_false,↓reduceIte,Nat.reduceEqDiff,hd,qI1,kr,Bool.or_self,qI6,Bool.or_false,Bool.or_true]
 all_goals rfl
theorem quh {c:Nat} {H:List Obj}:ql pg 75 [.d (.i .u8 c)] H=some ⟨false,true,.d (.b (cBl c)),H,H.length⟩:=by
 rw [zf (fn:=z4) rfl rfl,cBl,qk4,qk4,qk4,qjH,qjH,qjH,qjH]
 have e1:((c:Int)=9)=(c=9):=by rw [eq_iff_iff];omega
 have e2:((c:Int)=10)=(c=10):=by rw [eq_iff_iff];omega
 have e3:((c:Int)=13)=(c=13):=by rw [eq_iff_iff];omega
 have e4:((c:Int)=32)=(c=32):=by rw [eq_iff_iff];omega
 by_cases h1:c=9<;>by_cases h2:c=10<;>by_cases h3:c=13<;>by_cases h4:c=32
 all_goals simp only [qmd,z4,h1,Int.cast_ofNat_Int,Nat.zero_add,reduceCtorEq,Bool.or_true,qhX,decide_true,qI6,qI1,↓reduceIte,Nat.reduceEqDiff,kr,decide_false,Bool.or_false,Bool.or_self,h2,Int.reduceEq,Bool.not_false,h3,h4,e1,e2,e3,e4]
 all_goals rfl
noncomputable def qwZ (t:List Nat):List Nat→Bool:=List.rec (motive:=fun _=>List Nat→Bool) (fun _=>true) (fun x _ ih l=>List.rec (motive:=fun _=>Bool) false (fun y r _=>Bool.rec (motive:=fun _=>Bool) false (ih r) (qI0 x y)) l) t
theorem quZ:∀t l:List Nat,qwZ t l=decide (l.take t.length=t)
 | [],l=>by show true=_;simp
 | x::t,[]=>by show false=_;simp
 | x::t,y::l=>by
  show Bool.rec (motive:=fun _=>Bool) false (qwZ t l) (qI0 x y)=_
  rw [quZ t l]
  rw [qjH]
  by_cases h:x=y
  ·simp [h]
  ·simp [h,Ne.symm h]
theorem qxI {l t:List Nat} {H:List Obj}:ql pg 240 [.d (.s l),.d (.s t)] H=some ⟨false,true,.d (.b (qwZ t l)),H,H.length⟩:=by
 rw [zf (fn:=qq) rfl rfl,quZ]
 by_cases h:t.length≤l.length
 ·have h1:((t.length:Int)≤(l.length:Int))=True:=by rw [eq_iff_iff];simp;omega
  have h2:=qAs h
  simp only [qmd,qq,Nat.zero_add,Nat.reduceAdd,reduceCtorEq,qoL,qx0,Nat.reduceEqDiff,Bool.or_self,h1,decide_true,↓reduceIte,qmf,qnd,qm8,qyT,qp3,h2,qsW,kr]
  all_goals rfl
 ·have h1:((t.length:Int)≤(l.length:Int))=False:=by rw [eq_iff_iff];simp;omega
  have h2:decide (l.take t.length=t)=false:=by
   simp only [decide_eq_false_iff_not]
   intro e
   have:=congrArg List.length e
   simp at this
   omega
  simp only [qmd,qq,Nat.zero_add,Nat.reduceAdd,reduceCtorEq,qoL,qx0,Nat.reduceEqDiff,Bool.or_self,h1,decide_false,qI1,↓reduceIte,kr,h2]
  all_goals rfl
theorem qAH {l t:List Nat} {H:List Obj}:ql pg 176 [.d (.s l),.d (.s t)] H=some ⟨false,true,.d (.b (qwZ t l)),H,H.length⟩:=by
 rw [zf (fn:=zM) rfl rfl]
 simp only [qmd,zM,Nat.zero_add,Nat.reduceAdd,qkv,reduceCtorEq,qcm,qaH,Nat.reduceEqDiff,kQ,List.map_cons,List.map_nil,kE,qQ,Bool.and_self,yF,qxI,kN,kD,qP,Nat.min_self,kr]
 all_goals rfl
noncomputable def atF (v:V) (H:List Obj):Option (List V):=OP.rec (motive:=fun _=>Option (List V)) none (fun id off=>Bool.rec (motive:=fun _=>Option (List V)) none (qmP (fnth H id)) (qI0 off 0)) (fun _ _=>none) (fun _=>none) (vP v)
theorem qr6 {v:V} {H:List Obj} {cs:List V} (h:atF v H=some cs):∃id,v=.ptr id 0∧H[id]?=some (.cells cs):=by
 unfold atF at h
 cases hv:vP v with
 | p id off=>
  rw [hv] at h
  have h:Bool.rec (motive:=fun _=>Option (List V)) none (qmP (fnth H id)) (qI0 off 0)=some cs:=h
  cases hb:qI0 off 0 with
  | false=>rw [hb] at h;cases h
  | true=>
   rw [hb] at h
   have e:=qIX hb
   subst e
   refine ⟨id,qH3 hv,?_⟩
   rw [←jb]
   exact qnl h
 | _=>rw [hv] at h;cases h
noncomputable def qD5 (vs:List V) (H:List Obj):Option Cr:=
 match vs with
 | [v,w]=>(match atF v H with
  | some (s::i::_)=>(match vT s,vI i,vT w with
   | .s s,.yes .i64 (.ofNat n),.s t=>Bool.rec (motive:=fun _=>Option Cr) none (fDc s n fun r=>qt8 H (qwZ t r)) (Nat.ble n (jt s))
   | _,_,_=>none)
  | _=>none)
 | _=>none
theorem qAb {vs:List V} {H:List Obj} {r:Cr} (h:qD5 vs H=some r):ql pg 108 vs H=some r:=by
 unfold qD5 at h
 split at h
 ·rename_i v w
  split at h
  ·rename_i s i l ha
   obtain ⟨id,rfl,hH⟩:=qr6 ha
   split at h
   ·rename_i s' n t hs hi hw
    rw [qmA hs,qd9 hi] at hH
    rw [qmA hw]
    rw [kp] at h
    cases hd:Nat.ble n s'.length with
    | false=>rw [hd] at h;cases h
    | true=>
     rw [hd] at h
     have hn:=Nat.le_of_ble_eq_true hd
     replace h:(fDc s' n fun r=>qt8 H (qwZ t r))=some r:=h
     rw [qtF] at h
     rw [qml h]
     have h2:=qAZ hn
     rw [zf (fn:=z0) rfl rfl]
     simp only [qmd,z0,Nat.zero_add,Nat.reduceAdd,qon,qm1,reduceCtorEq,qmG,qmE,qoB,qmO,qd7,qiq,qqV,Nat.add_zero,qnT,qmU,hH,Int.ofNat_eq_natCast,qqJ,List.getElem?_cons_zero,qI5,qvq,qtW,List.getElem?_cons_succ,qmf,Nat.reduceEqDiff,qm8,qyT,qnd,qp3,h2,qkv,qcm,qaH,kQ,List.map_cons,List.map_nil,kE,qQ,Bool.and_self,yF,qAH,kN,kD,qP,Nat.min_self,qjs,qjA,kr]
     all_goals rfl
   ·cases h
  ·cases h
 ·cases h
end W
/- Small functions, continued: the symbol that is read; a text in a list, a byte in a text. -/
set_option linter.unusedSimpArgs false
set_option linter.unusedVariables false
namespace W
open Go (IntKind BinOp UnOp)
set_option maxRecDepth 20000
set_option linter.defProp false in
def qju:=(And.intro (And.intro (And.intro (And.intro (And.intro @qgT (And.intro @qbA @qvF)) (And.intro @qgN (And.intro @yN @yd))) (And.intro (And.intro @zE (And.intro @qwv @qnT)) (And.intro (And.intro @qvD @qqn) (And.intro @qsU @qAN)))) (And.intro (And.intro (And.intro @qHS (And.intro @qnu @qrz)) (And.intro (And.intro @qcd @y5) (And.intro @yH @qaU))) (And.intro (And.intro @qyl (And.intro @qun @qhr)) (And.intro (And.intro @qwL @qjX) (And.intro @je @qrA))))) (And.intro (And.intro (And.intro (And.intro @qws (And.intro @qBG @qur)) (And.intro (And.intro @qyc @j7) (And.intro @zI @qvq))) (And.intro (And.intro @qqT (And.intro @qEj @jf)) (And.intro (And.intro @yL @qlu) (And.intro @yu @yG)))) (And.intro (And.intro (And.intro @qs1 (And.intro @qH1 @qb8)) (And.intro (And.intro @kU @qiq) (And.intro @qfI @qsW))) (And.intro (And.intro @qlv (And.intro @qd0 @qcr)) (And.intro (And.intro @qmT @qfQ) (And.intro @zG @y4))))))
noncomputable def qxm (v:V) (H:List Obj):Option (List D):=
 match atF v H with
 | some (l::i::_)=>(match vL l,vI i with
  | .sl xs,.yes .i64 (.ofNat n)=>(match fnth xs n with
   | some y=>(match isAgg y with
    | some [a,b,c,d,e]=>(match vI (.d a),vI (.d b),vI (.d c),vT (.d d),vI (.d e) with
     | .yes k1 n1,.yes k2 n2,.yes k3 n3,.s t,.yes k5 n5=>some [.i k1 n1,.i k2 n2,.i k3 n3,.s t,.i k5 n5]
     | _,_,_,_,_=>none)
    | _=>none)
   | none=>none)
  | _,_=>none)
 | _=>none
theorem qm3 {v:V} {H:List Obj} {cs:List D} (h:qxm v H=some cs):∃id xs l,∃n:Nat,v=.ptr id 0∧H[id]?=some (.cells (.d (.sl xs)::.d (.i .i64 (n:Int))::l))∧iaV (.d (.sl xs)) (.d (.i .i64 (n:Int))) 5 none=some (.cp (.agg cs))∧∃k1 n1 k2 n2 k3 n3 t k5 n5,cs=[.i k1 n1,.i k2 n2,.i k3 n3,.s t,.i k5 n5]:=by
 unfold qxm at h
 split at h
 ·rename_i l i q ha
  obtain ⟨id,rfl,hH⟩:=qr6 ha
  split at h
  ·rename_i xs n hl hi
   rw [qzJ hl,qd9 hi] at hH
   split at h
   ·rename_i y hy
    split at h
    ·rename_i a b c d e hg
     split at h
     ·rename_i k1 n1 k2 n2 k3 n3 t k5 n5 h1 h2 h3 h4 h5
      cases h
      cases qd9 h1;cases qd9 h2;cases qd9 h3;cases qmA h4;cases qd9 h5
      rw [jb] at hy
      cases y with
      | agg u=>
       have hg:some u=some _:=hg
       cases hg
       exact ⟨id,xs,q,n,rfl,hH,qxX (by omega) (by simpa using hy) (by simp [D.cells]),k1,n1,k2,n2,k3,n3,t,k5,n5,rfl⟩
      | _=>cases hg
     ·cases h
    ·cases h
   ·cases h
  ·cases h
 ·cases h
noncomputable def qsr (vs:List V) (H:List Obj):Option Cr:=
 match vs with
 | [v]=>(match qxm v H with
  | some cs=>some ⟨false,true,.d (.agg cs),H,H.length⟩
  | none=>none)
 | _=>none
theorem qp8 {vs:List V} {H:List Obj} {r:Cr} (h:qsr vs H=some r):∃id xs l,∃n:Nat,vs=[.ptr id 0]∧H[id]?=some (.cells (.d (.sl xs)::.d (.i .i64 (n:Int))::l))∧∃k1 n1 k2 n2 k3 n3 t k5 n5,iaV (.d (.sl xs)) (.d (.i .i64 (n:Int))) 5 none=some (.cp (.agg [.i k1 n1,.i k2 n2,.i k3 n3,.s t,.i k5 n5]))∧r=⟨false,true,.d (.agg [.i k1 n1,.i k2 n2,.i k3 n3,.s t,.i k5 n5]),H,H.length⟩:=by
 unfold qsr at h
 split at h
 ·split at h
  ·rename_i v cs hc
   cases h
   obtain ⟨id,xs,l,n,rfl,hH,hi,k1,n1,k2,n2,k3,n3,t,k5,n5,rfl⟩:=qm3 hc
   exact ⟨id,xs,l,n,rfl,hH,k1,n1,k2,n2,k3,n3,t,k5,n5,hi,rfl⟩
  ·cases h
 ·cases h
theorem qw9 {vs:List V} {H:List Obj} {r:Cr} (h:qsr vs H=some r):ql pg 51 vs H=some r:=by
 obtain ⟨id,xs,l,n,rfl,hH,k1,n1,k2,n2,k3,n3,t,k5,n5,hi,rfl⟩:=qp8 h
 rw [zf (fn:=zY) rfl rfl]
 simp only [qju,zY,Nat.zero_add,List.map_cons,List.map_nil,qon,qm1,reduceCtorEq,qmG,qmE,qoB,qmO,qd7,qqV,Nat.add_zero,qmU,hH,qqJ,List.getElem?_cons_zero,qI5,qtW,List.getElem?_cons_succ,Nat.reduceEqDiff,hi,qjs,qvb,qI4,qI3,Nat.reduceAdd,qmp,Bool.and_self,qpK,qjA,qlX,qr9,Nat.reduceLeDiff,qxt,List.drop_zero,List.take_succ_cons,List.take_zero,qtb,qz5,qtd,qnR,qpV,kr]
 all_goals rfl
theorem qz7 {vs:List V} {H:List Obj} {r:Cr} (h:qsr vs H=some r):ql pg 41 vs H=some r:=by
 obtain ⟨id,xs,l,n,rfl,hH,k1,n1,k2,n2,k3,n3,t,k5,n5,hi,rfl⟩:=qp8 h
 rw [zf (fn:=kx) rfl rfl]
 simp only [qju,kx,Nat.zero_add,List.map_cons,List.map_nil,qon,qm1,reduceCtorEq,qmG,qmE,qoB,qmO,qd7,qqV,Nat.add_zero,qmU,hH,qqJ,List.getElem?_cons_zero,qI5,qtW,List.getElem?_cons_succ,Nat.reduceEqDiff,hi,qjs,qvb,qI4,qI3,Nat.reduceAdd,qmp,Bool.and_self,qpK,qjA,qlX,qr9,Nat.reduceLeDiff,qxt,List.drop_zero,List.take_succ_cons,List.take_zero,qtb,qz5,qtd,qnR,qpV,kr]
 all_goals rfl
noncomputable def isX (vs:List V) (H:List Obj):Option Cr:=
 match vs with
 | [v,w]=>(match qxm v H with
  | some [k,_,_,t,_]=>(match vI (.d k),vT (.d t),vT w with
   | .yes .i64 (.ofNat n),.s t,.s s=>qt8 H (Bool.rec (motive:=fun _=>Bool) false (qmI t s) (orF (qI0 n 5) (qI0 n 6)))
   | _,_,_=>none)
  | _=>none)
 | _=>none
theorem qHd {vs:List V} {H:List Obj} {r:Cr} (h:isX vs H=some r):ql pg 115 vs H=some r:=by
 unfold isX at h
 split at h
 ·rename_i v w
  split at h
  ·rename_i k p q t z ht
   split at h
   ·rename_i n t' s hk hs hw
    have hn:ql pg 51 [v] H=some ⟨false,true,.d (.agg [k,p,q,t,z]),H,H.length⟩:=qw9 (by simp only [qsr,ht])
    have hk:=qd9 hk;cases hk
    have hs:=qmA hs;cases hs
    rw [qmA hw]
    rw [qml h,qk4,qjH,qjH,qtV]
    rw [zf (fn:=jj) rfl rfl]
    simp only [Int.ofNat_eq_natCast] at hn
    have e1:((n:Int)=5)=(n=5):=by rw [eq_iff_iff];omega
    have e2:((n:Int)=6)=(n=6):=by rw [eq_iff_iff];omega
    obtain ⟨id,xs,l,m,rfl,_,_,k1,n1,k2,n2,k3,n3,u,k5,n5,hc⟩:=qm3 ht
    cases hc
    by_cases h1:n=5<;>by_cases h2:n=6<;>by_cases h3:t'=s
    all_goals simp only [qju,jj,Nat.zero_add,Nat.reduceAdd,qkv,reduceCtorEq,qp6,qaH,qve,kQ,List.map_cons,List.map_nil,kE,qn2,qQ,Bool.and_self,yF,hn,h1,Int.cast_ofNat_Int,h3,kN,kD,qP,Nat.min_self,qu1,qnn,Nat.reduceEqDiff,qcm,qI4,qI3,qrV,qyr,Nat.add_zero,qxy,qsc,qs6,qzX,List.getElem?_cons_zero,qI5,qc0,Bool.or_true,qhX,decide_true,qn6,qtc,qI6,qq5,qI1,↓reduceIte,qqk,qla,qmL,qvm,qoO,List.getElem?_cons_succ,Bool.or_self,qqj,kr,decide_false,Bool.or_false,h2,Int.reduceEq,Bool.not_false,e1,e2,qqG]
    all_goals rfl
   ·cases h
  ·cases h
 ·cases h
noncomputable def qyv (vs:List V) (H:List Obj):Option Cr:=
 match vs with
 | [v,k',w]=>(match qxm v H with
  | some [k,_,_,t,_]=>(match vI (.d k),vT (.d t),vT w,vI k' with
   | .yes .i64 (.ofNat n),.s t,.s s,.yes .i64 (.ofNat m)=>qt8 H (Bool.rec (motive:=fun _=>Bool) false (qmI t s) (qI0 n m))
   | _,_,_,_=>none)
  | _=>none)
 | _=>none
theorem qBb {vs:List V} {H:List Obj} {r:Cr} (h:qyv vs H=some r):ql pg 38 vs H=some r:=by
 unfold qyv at h
 split at h
 ·rename_i v k' w
  split at h
  ·rename_i k p q t z ht
   split at h
   ·rename_i n t' s m hk hs hw hm
    have hn:ql pg 41 [v] H=some ⟨false,true,.d (.agg [k,p,q,t,z]),H,H.length⟩:=qz7 (by simp only [qsr,ht])
    have hk:=qd9 hk;cases hk
    have hs:=qmA hs;cases hs
    rw [qmA hw,qd9 hm]
    rw [qml h,qjH,qtV]
    rw [zf (fn:=kj) rfl rfl]
    simp only [Int.ofNat_eq_natCast] at hn ⊢
    have e1:((n:Int)=(m:Int))=(n=m):=by rw [eq_iff_iff];omega
    obtain ⟨id,xs,l,i,rfl,_,_,k1,n1,k2,n2,k3,n3,u,k5,n5,hc⟩:=qm3 ht
    cases hc
    by_cases h1:n=m<;>by_cases h3:t'=s
    all_goals simp only [qju,kj,Nat.zero_add,Nat.reduceAdd,qkv,reduceCtorEq,qp6,qaH,qve,kQ,List.map_cons,List.map_nil,kE,qn2,qQ,Bool.and_self,yF,hn,h1,h3,kN,kD,qP,Nat.min_self,qu1,qnn,Nat.reduceEqDiff,qcm,qI4,qI3,qrV,qyr,Nat.add_zero,qxy,qsc,qs6,qzX,List.getElem?_cons_zero,qI5,Bool.or_self,qhX,decide_true,qn6,qoO,qq5,↓reduceIte,List.getElem?_cons_succ,qla,qqj,kr,decide_false,e1,qI1,qqk,qmL,qqG]
    all_goals rfl
   ·cases h
  ·cases h
 ·cases h
noncomputable def elF (w:List Nat) (xs:List D):Option Bool:=List.rec (motive:=fun _=>Option Bool) (some false) (fun x _ ih=>OT.rec (motive:=fun _=>Option Bool) none (fun t=>Option.rec (motive:=fun _=>Option Bool) none (fun b=>some (Bool.rec (motive:=fun _=>Bool) b true (qmI t w))) ih) (vT (.d x))) xs
theorem qrG {w:List Nat}:∀{xs:List D} {b:Bool},elF w xs=some b→∃L:List (List Nat),xs=L.map D.s∧b=decide (w ∈ L)
 | [],b,h=>by have h:some false=some b:=h;cases h;exact ⟨[],rfl,by simp⟩
 | x::xs,b,h=>by
  replace h:OT.rec (motive:=fun _=>Option Bool) none (fun t=>Option.rec (motive:=fun _=>Option Bool) none (fun b=>some (Bool.rec (motive:=fun _=>Bool) b true (qmI t w))) (elF w xs)) (vT (.d x))=some b:=h
  cases hv:vT (.d x) with
  | no=>rw [hv] at h;cases h
  | s t=>
   rw [hv] at h
   have e:=qmA hv;cases e
   cases hr:elF w xs with
   | none=>rw [hr] at h;cases h
   | some b'=>
    rw [hr] at h
    obtain ⟨L,rfl,rfl⟩:=qrG hr
    refine ⟨t::L,rfl,?_⟩
    have h:some (Bool.rec (motive:=fun _=>Bool) (decide (w ∈ L)) true (qmI t w))=some b:=h
    cases h
    rw [qtV]
    by_cases he:t=w
    ·simp [he]
    ·simp [he,Ne.symm he]
theorem zD {pg:Pg} {e:Env} {H:List Obj} {lo:Nat}:exL pg qt ⟨e,H,lo⟩=qL pg (kl (get 0 e)) (kl (get 1 e)) (kl (get 7 e)) (kl (get 8 e)) H lo:=qlF
theorem zH {pg:Pg} {v0 v1 v7 v8:V} {H:List Obj} {lo:Nat}:qL pg v0 v1 v7 v8 H lo=qeT pg (exL pg qu ⟨[(0,kl v0),(1,kl v1),(7,kl v7),(8,kl v8)],H,lo⟩) qt:=by
 unfold qL qt;rw [qfk];simp only [qju,qs,qC,Nat.reduceEqDiff]
theorem qtn {L:List (List Nat)} {t:List Nat} (hz:L.length≤1000000000000) {H:List Obj} :
  ∀(k i:Nat),L.length - i=k→i≤L.length→(∀j,j<i→L[j]?≠some t)→
   ∃e x r,(x=.nrm∨x=.ret)∧(decide ((0:Int)≤r)=decide (t ∈ L))∧get 4 e=.d (.i .i64 r)∧
    qeT pg (qgx 0 [] (qL pg (.d (slD D.s L)) (.d (.s t)) (.d (.i .i64 (L.length:Nat))) (.d (.i .i64 (i:Nat))) H H.length)) qK=some (x,⟨e,H,H.length⟩):=by
 intro k
 induction k with
 | zero=>
  intro i hk hi hno
  obtain rfl:i=L.length:=by omega
  have h1:((L.length:Int)<(L.length:Int))=False:=by simp
  have hnm:t ∉ L:=by
   intro h
   obtain ⟨j,hj⟩:=List.getElem?_of_mem h
   have:j<L.length:=(List.getElem?_eq_some_iff.1 hj).1
   exact hno j this hj
  rw [zH]
  simp only [qju,qu,Bool.or_self,reduceCtorEq,Nat.reduceEqDiff,qbB,h1,decide_false,zZ,jX,qI1,↓reduceIte,qiY,qer,qcK,qC,qK,Int.reduceNeg]
  exact ⟨_,_,-1,.inr rfl,by simp [hnm],rfl,rfl⟩
 | succ k ih=>
  intro i hk hi hno
  have h1:((i:Int)<(L.length:Int))=True:=by rw [eq_iff_iff];simp;omega
  have hlt:i<L.length:=by omega
  have hia:iaV (.d (slD D.s L)) (.d (.i .i64 (i:Int))) 1 none=some (.cp (.s L[i])):=qAa (fun _=>rfl) (by omega) (by simp)
  have hw:wr .i64 ((i:Int)+1)=((i+1:Nat):Int):=by rw [qbe (by omega) (by omega)];omega
  rw [zH]
  by_cases he:t=L[i]
  ·have h2:(t=L[i])=True:=by simp [he]
   simp only [qju,qu,Bool.or_self,reduceCtorEq,Nat.reduceEqDiff,qbB,h1,decide_true,zZ,jX,↓reduceIte,qaB,jB,hia,qyL,qoD,h2,qia,qjY,qK,Int.reduceNeg]
   exact ⟨_,_,(i:Int),.inr rfl,by rw [he];simp,rfl,rfl⟩
  ·have h2:(t=L[i])=False:=by simp [he]
   have ih':=ih (i+1) (by omega) (by omega) (fun j hj=>by
    rcases Nat.lt_or_ge j i with h|h
    ·exact hno j h
    ·obtain rfl:j=i:=by omega
     rw [List.getElem?_eq_getElem hlt]
     intro h';exact he (Option.some.inj h').symm)
   simp only [qju,qu,Bool.or_self,reduceCtorEq,Nat.reduceEqDiff,qbB,h1,decide_true,zZ,jX,↓reduceIte,qaB,jB,hia,qyL,qoD,h2,decide_false,qI1,qb7,qs,qC,qc0,Bool.or_true,qcn,hw,zD]
   exact ih'
theorem quA {L:List (List Nat)} {t:List Nat} (hz:L.length≤1000000000000) {H:List Obj} :
  ∃r:Int,decide ((0:Int)≤r)=decide (t ∈ L)∧ql pg 178 [.d (slD D.s L),.d (.s t)] H=some ⟨false,true,.d (.i .i64 r),H,H.length⟩:=by
 obtain ⟨e,x,r,hx,h1,h2,h3⟩:=qtn (t:=t) hz (H:=H) L.length 0 rfl (by omega) (by simp)
 refine ⟨r,h1,?_⟩
 rw [zf (fn:=qB) rfl rfl]
 have hz0:((0:Nat):Int)=0:=rfl
 rw [hz0] at h3
 simp only [qju,qB,Nat.zero_add,Nat.reduceAdd,reduceCtorEq,qtI,qzh,jB,zD,Nat.reduceEqDiff]
 rw [h3]
 rcases hx with rfl|rfl
 all_goals simp only [qju,qxM,h2,kr]
 all_goals rfl
theorem qpo {L:List (List Nat)} {t:List Nat} (hz:L.length≤1000000000000) {H:List Obj}:ql pg 112 [.d (slD D.s L),.d (.s t)] H=some ⟨false,true,.d (.b (decide (t ∈ L))),H,H.length⟩:=by
 obtain ⟨r,h1,h2⟩:=quA (t:=t) hz (H:=H)
 rw [zf (fn:=qw) rfl rfl]
 simp only [qju,qw,Nat.zero_add,Nat.reduceAdd,qkv,reduceCtorEq,qcm,qaH,Nat.reduceEqDiff,kQ,List.map_cons,List.map_nil,kE,qQ,Bool.and_self,yF,h2,kN,kD,qP,Nat.min_self,qc0,Bool.or_true,quV,h1,kr]
 all_goals rfl
noncomputable def ctX (vs:List V) (H:List Obj):Option Cr:=
 match vs with
 | [l,w]=>(match vL l,vT w with
  | .sl (x::xs),.s w=>Option.rec (motive:=fun _=>Option Cr) none (fun b=>Bool.rec (motive:=fun _=>Option Cr) none (qt8 H b) (Nat.ble (jt (x::xs)) 1000000000000)) (elF w (x::xs))
  | _,_=>none)
 | _=>none
theorem qEf {vs:List V} {H:List Obj} {r:Cr} (h:ctX vs H=some r):ql pg 112 vs H=some r:=by
 unfold ctX at h
 split at h
 ·split at h
  ·rename_i x xs w' hl hw
   rw [qzJ hl,qmA hw]
   cases he:elF w' (x::xs) with
   | none=>rw [he] at h;cases h
   | some b=>
    rw [he] at h
    obtain ⟨L,hL,rfl⟩:=qrG he
    cases hb:Nat.ble (jt (x::xs)) 1000000000000 with
    | false=>rw [hb] at h;cases h
    | true=>
     rw [hb] at h
     rw [qml h]
     have hz:=Nat.le_of_ble_eq_true hb
     rw [kp,hL,List.length_map] at hz
     have hs:D.sl (x::xs)=slD D.s L:=by
      rw [hL]
      cases L with
      | nil=>cases hL
      | cons a l=>rfl
     rw [hs]
     exact qpo hz
  ·cases h
 ·cases h
end W
/- What stands in for small functions; calls whose results are known. -/
namespace W
set_option maxRecDepth 100000
inductive KZ where
 | mk (f:List V→List Obj→Option Cr)
noncomputable def KZ.run (k:KZ):List V→List Obj→Option Cr:=KZ.rec (motive:=fun _=>List V→List Obj→Option Cr) (fun f=>f) k
def qIP:D:=(.s [65,82,82,65,89,32,66,69,71,73,78,32,66,89,32,67,65,83,69,32,67,79,78,83,84,32,68,73,86,32,68,79,32,69,76,83,69,32,69,76,83,73,70,32,69,78,68,32,70,65,76,83,69,32,70,79,82,32,73,70,32,73,77,80,79,82,84,32,73,78,32,73,83,32,77,79,68,32,77,79,68,85,76,69,32,78,73,76,32,79,70,32,79,82,32,80,79,73,78,84,69,82,32,80,82,79,67,69,68,85,82,69,32,82,69,67,79,82,68,32,82,69,80,69,65,84,32,82,69,84,85,82,78,32,84,72,69,78,32,84,79,32,84,82,85,69,32,84,89,80,69,32,85,78,84,73,76,32,86,65,82,32,87,72,73,76,69])
def qIH:D:=(.sl (List.map .s [[65,82,82,65,89],[66,69,71,73,78],[66,89],[67,65,83,69],[67,79,78,83,84],[68,73,86],[68,79],[69,76,83,69],[69,76,83,73,70],[69,78,68],[70,65,76,83,69],[70,79,82],[73,70],[73,77,80,79,82,84],[73,78],[73,83],[77,79,68],[77,79,68,85,76,69],[78,73,76],[79,70],[79,82],[80,79,73,78,84,69,82],[80,82,79,67,69,68,85,82,69],[82,69,67,79,82,68],[82,69,80,69,65,84],[82,69,84,85,82,78],[84,72,69,78],[84,79],[84,82,85,69],[84,89,80,69],[85,78,84,73,76],[86,65,82],[87,72,73,76,69]]))
def qIC:D:=(.s [73,78,84,69,71,69,82,32,67,72,65,82,32,66,79,79,76,69,65,78,32,83,69,84,32,65,66,83,32,79,68,68,32,76,83,76,32,65,83,82,32,82,79,82,32,79,82,68,32,67,72,82,32,76,69,78,32,73,78,67,32,68,69,67,32,73,78,67,76,32,69,88,67,76,32,78,69,87,32,65,83,83,69,82,84])
def qIx:D:=(.sl (List.map .s [[73,78,84,69,71,69,82],[67,72,65,82],[66,79,79,76,69,65,78],[83,69,84],[65,66,83],[79,68,68],[76,83,76],[65,83,82],[82,79,82],[79,82,68],[67,72,82],[76,69,78],[73,78,67],[68,69,67],[73,78,67,76],[69,88,67,76],[78,69,87],[65,83,83,69,82,84]]))
def qlD:List Ent:=[
⟨78,[(.s [77,79,68,85,76,69])],.one (.b true)⟩,
⟨78,[(.s [77])],.one (.b false)⟩,
⟨78,[(.s [86,65,82])],.one (.b true)⟩,
⟨78,[(.s [105])],.one (.b false)⟩,
⟨78,[(.s [73,78,84,69,71,69,82])],.one (.b false)⟩,
⟨78,[(.s [66,69,71,73,78])],.one (.b true)⟩,
⟨78,[(.s [69,78,68])],.one (.b true)⟩,
⟨78,[(.s [82,69,80,69,65,84])],.one (.b true)⟩,
⟨78,[(.s [85,78,84,73,76])],.one (.b true)⟩,
⟨78,[(.s [84,82,85,69])],.one (.b true)⟩,
⟨78,[(.s [65,82,82,65,89])],.one (.b true)⟩,
⟨78,[(.s [79,70])],.one (.b true)⟩,
⟨81,[(.s [43,45,42,47,38,126,61,35,60,62,46,44,59,58,40,41,91,93,123,125,94,124]),(.i .u8 59)],.one (.b true)⟩,
⟨81,[(.s [43,45,42,47,38,126,61,35,60,62,46,44,59,58,40,41,91,93,123,125,94,124]),(.i .u8 58)],.one (.b true)⟩,
⟨81,[(.s [43,45,42,47,38,126,61,35,60,62,46,44,59,58,40,41,91,93,123,125,94,124]),(.i .u8 40)],.one (.b true)⟩,
⟨81,[(.s [43,45,42,47,38,126,61,35,60,62,46,44,59,58,40,41,91,93,123,125,94,124]),(.i .u8 41)],.one (.b true)⟩,
⟨81,[(.s [43,45,42,47,38,126,61,35,60,62,46,44,59,58,40,41,91,93,123,125,94,124]),(.i .u8 46)],.one (.b true)⟩,
⟨81,[(.s [43,45,42,47,38,126,61,35,60,62,46,44,59,58,40,41,91,93,123,125,94,124]),(.i .u8 43)],.one (.b true)⟩,
⟨113,[qIP],.one qIH⟩,
⟨113,[qIC],.one qIx⟩]
def qHt (n:Nat):Bool:=qI0 n 38 || qI0 n 41 || qI0 n 51 || qI0 n 75 || qI0 n 76 || qI0 n 78 || qI0 n 81 || qI0 n 104 || qI0 n 106 || qI0 n 108 || qI0 n 112 || qI0 n 113 || qI0 n 115 || qI0 n 172 || qI0 n 296
noncomputable def zl:List (Nat × KZ):=[(51,.mk (qsr)),(41,.mk (qsr)),(115,.mk (isX)),(38,.mk (qyv)),(104,.mk (byX cLt)),(76,.mk (byX cLt)),(106,.mk (byX cDg)),(172,.mk (byX cNm)),(75,.mk (byX cBl)),(108,.mk (qD5)),(112,.mk (ctX)),(296,.mk (ixX))]
noncomputable def eq1 (v:V) (y:D):Bool:=OT.rec (motive:=fun _=>Bool) (qmZ [v] [y]) (fun t=>OT.rec (motive:=fun _=>Bool) false (fun u=>qmI t u) (vT (.d y))) (vT v)
noncomputable def qrY (vs:List V):List D→Bool:=List.rec (motive:=fun _=>List D→Bool) (fun l=>List.rec (motive:=fun _=>Bool) true (fun _ _ _=>false) l) (fun v _ ih l=>List.rec (motive:=fun _=>Bool) false (fun y r _=>Bool.rec (motive:=fun _=>Bool) false (ih r) (eq1 v y)) l) vs
noncomputable def qsF (i:Nat) (vs:List V) (T:List Ent):Option Ent:=List.rec (motive:=fun _=>Option Ent) none (fun e _ ih=>Bool.rec (motive:=fun _=>Option Ent) ih (Bool.rec (motive:=fun _=>Option Ent) ih (some e) (qrY vs e.a)) (qI0 e.f i)) T
theorem qEg {v:V} {y:D}:eq1 v y=qmZ [v] [y]:=by
 unfold eq1
 cases hv:vT v with
 | no=>rfl
 | s t=>
  rw [qmA hv]
  cases hy:vT (.d y) with
  | no=>
   show false=(eqD (.s t) y && true)
   cases y with
   | s u=>cases hy
   | _=>rfl
  | s u=>
   have e:=qmA hy;cases e
   show qmI t u=(eqD (.s t) (.s u) && true)
   rw [qnG,Bool.and_true];rfl
theorem qsx:∀(vs:List V) (l:List D),qrY vs l=qmZ vs l
 | [],[]=>rfl
 | [],_::_=>rfl
 | v::vs,[]=>by cases v<;>rfl
 | v::vs,y::l=>by
  have e:qrY (v::vs) (y::l)=Bool.rec (motive:=fun _=>Bool) false (qrY vs l) (eq1 v y):=rfl
  rw [e,qEg,qsx vs l]
  cases v with
  | d x=>simp only [qmZ,Bool.and_true];cases eqD x y<;>rfl
  | _=>rfl
theorem qsV {i:Nat} {vs:List V}:∀T:List Ent,qsF i vs T=pick i vs T
 | []=>rfl
 | e::T=>by
  have h:qsF i vs (e::T)=Bool.rec (motive:=fun _=>Option Ent) (qsF i vs T) (Bool.rec (motive:=fun _=>Option Ent) (qsF i vs T) (some e) (qrY vs e.a)) (qI0 e.f i):=rfl
  rw [h,qsV T,qsx]
  rw [show pick i vs (e::T)=bif qI0 e.f i && qmZ vs e.a then some e else pick i vs T from rfl]
  cases qI0 e.f i<;>cases qmZ vs e.a<;>rfl
noncomputable def qyC (T:List Ent) (i:Nat) (vs:List V) (H:List Obj):Option Cr:=Option.rec (motive:=fun _=>Option Cr) none (fun e=>some ⟨false,true,e.r.v,H,H.length⟩) (qsF i vs T)
theorem qAO {T:List Ent} {i:Nat} {vs:List V} {H:List Obj}:qyC T i vs H=qpf T i vs H:=by
 unfold qyC qpf
 rw [qsV]
 cases pick i vs T<;>rfl
noncomputable def qqa (i:Nat) (l:List (Nat × KZ)) (d:KZ):KZ:=List.rec (motive:=fun _=>KZ) d (fun p _ ih=>Bool.rec (motive:=fun _=>KZ) ih p.2 (qI0 p.1 i)) l
noncomputable def pgT (gone:Nat→Bool) (T:List Ent):Pg:=⟨fun n=>bif qHt n || gone n then none else pg.fn n,fun i vs H=>(qqa i zl (.mk (qyC T i))).run vs H⟩
noncomputable def pg1:Pg:=pgT (fun _=>false) qlD
theorem qIm:∀p ∈ zl,∀vs H r,p.2.run vs H=some r→ql pg p.1 vs H=some r:=by
 simp only [zl,List.forall_mem_cons]
 exact ⟨fun _ _ _ h=>qw9 h,fun _ _ _ h=>qz7 h,fun _ _ _ h=>qHd h,fun _ _ _ h=>qBb h,fun _ _ _ h=>(by obtain ⟨c,rfl,rfl⟩:=qjg h;exact qnf),fun _ _ _ h=>(by obtain ⟨c,rfl,rfl⟩:=qjg h;exact qql),fun _ _ _ h=>(by obtain ⟨c,rfl,rfl⟩:=qjg h;exact qow),fun _ _ _ h=>(by obtain ⟨c,rfl,rfl⟩:=qjg h;exact qup),fun _ _ _ h=>(by obtain ⟨c,rfl,rfl⟩:=qjg h;exact quh),fun _ _ _ h=>qAb h,fun _ _ _ h=>qEf h,fun _ _ _ h=>(by rw [ql4];unfold qp;rw [show pg.fn 296=none from rfl];exact h),fun _ h=>by cases h⟩
theorem qsQ {i:Nat} {d:KZ}:∀l:List (Nat × KZ),qqa i l d=d∨∃p ∈ l,p.1=i∧qqa i l d=p.2
 | []=>.inl rfl
 | p::l=>by
  have e:qqa i (p::l) d=Bool.rec (motive:=fun _=>KZ) (qqa i l d) p.2 (qI0 p.1 i):=rfl
  rw [e]
  cases hb:qI0 p.1 i with
  | true=>exact .inr ⟨p,.head _,qIX hb,rfl⟩
  | false=>exact (qsQ l).elim .inl fun ⟨q,hq,h⟩=>.inr ⟨q,.tail _ hq,h⟩
theorem qsn {T:List Ent} {i:Nat} {vs:List V} {H:List Obj} {r:Cr} (h:(qqa i zl (.mk (qyC T i))).run vs H=some r):ql pg i vs H=some r∨qpf T i vs H=some r:=by
 rcases qsQ (i:=i) (d:=.mk (qyC T i)) zl with e|⟨p,hp,rfl,e⟩
 ·rw [e] at h;exact .inr (qAO▸h)
 ·rw [e] at h;exact .inl (qIm p hp vs H r h)
theorem qAt {pg:Pg} (hx:qz pg.ext) (f:Nat):qz fun _ vs H=>ql pg f vs H:=fun i vs H r h=>by
 obtain ⟨n,hn⟩:=jH.1 h
 exact yZ hx (qaP hx n) _ _ _ _ hn
theorem qco {gone:Nat→Bool} {T:List Ent}:qz (pgT gone T).ext:=fun i vs H r h=>by
 rcases qsn h with h|h
 ·exact qAt qud i i vs H r h
 ·exact quS i vs H r h
end W
/- Sources nested so and so deep, their symbols, their trees. -/
namespace W
set_option maxRecDepth 100000
def rep (p:List Nat):Nat→List Nat
 | 0=>[]
 | n+1=>rep p n++p
def sA:List Nat:=[77,79,68,85,76,69,32,77,59,32,86,65,82,32,105,58,32,73,78,84,69,71,69,82,59,32,66,69,71,73,78,32,105,32,58,61,32]
def sB:List Nat:=[77,79,68,85,76,69,32,77,59,32,86,65,82,32,105,58,32,73,78,84,69,71,69,82,59,32,66,69,71,73,78,32,105,32,58,61,32,105]
def sC:List Nat:=[77,79,68,85,76,69,32,77,59,32,86,65,82,32,105,58,32,73,78,84,69,71,69,82,59,32,66,69,71,73,78,32]
def sD:List Nat:=[77,79,68,85,76,69,32,77,59,32,86,65,82,32,105,58,32]
def sE:List Nat:=[32,69,78,68,32,77,46]
def sF:List Nat:=[73,78,84,69,71,69,82,59,32,69,78,68,32,77,46]
def sR:List Nat:=[82,69,80,69,65,84,32,105,32,58,61,32,49,59]
def sU:List Nat:=[32,85,78,84,73,76,32,84,82,85,69]
def sP:List Nat:=[32,43,32,105]
def sY:List Nat:=[65,82,82,65,89,32,49,32,79,70,32]
def src (w k:Nat):List Nat:=match w with
 | 0=>(((sA++rep [40] k)++[105])++rep [41] k)++sE
 | 1=>(sB++rep sP k)++sE
 | 2=>((sC++rep sR k)++rep sU k)++sE
 | _=>(sD++rep sY k)++sF
def isW (c:Nat):Bool:=(Nat.ble 48 c && Nat.ble c 57) || (Nat.ble 65 c && Nat.ble c 90) || (Nat.ble 97 c && Nat.ble c 122)
def tk (k a b:Nat) (t:List Nat) (n:Nat):D:=.agg [.i .i64 (.ofNat k),.i .i64 (.ofNat a),.i .i64 (.ofNat b),.s t,.i .i32 (.ofNat n)]
def kws:List (List Nat):=[[65,82,82,65,89],[66,69,71,73,78],[69,78,68],[77,79,68,85,76,69],[79,70],[82,69,80,69,65,84],[84,82,85,69],[85,78,84,73,76],[86,65,82]]
def wd (p:Nat) (w:List Nat) (r:List D):List D:=match w with
 | []=>r
 | c::_=>let a:=p - w.length
  bif !isW c then tk 5 a p w.reverse 0::r
  else bif Nat.ble c 57 then tk 2 a p [] (c - 48)::r
  else tk (bif kws.any (eqT w.reverse) then 6 else 1) a p w.reverse 0::r
def toks (p:Nat) (w:List Nat):List Nat→List D
 | []=>wd p w [tk 0 p p [] 0]
 | c::l=>
  bif isW c then (match w with
   | d::_=>bif isW d then toks (p+1) (c::w) l else wd p w (toks (p+1) [c] l)
   | []=>toks (p+1) [c] l)
  else bif qI0 c 61 && eqT w [58] then wd (p+1) (c::w) (toks (p+1) [] l)
  else wd p w (bif qI0 c 58 then toks (p+1) [c] l else bif qI0 c 32 then toks (p+1) [] l else tk 5 p (p+1) [c] 0::toks (p+1) [] l)
def tkS (s:List Nat):D:=.sl (toks 0 [] s)
def xE (op f:Nat) (n:Nat) (t:List Nat) (l:D):D:=.agg [.i .i64 (.ofNat op),.i .i64 (.ofNat f),.i .i64 0,.s [],.nil,.i .i32 (.ofNat n),.s t,l]
def xI:D:=xE 1 1 0 [77,46,105] .nil
def sum:Nat→D
 | 0=>xI
 | k+1=>xE 9 1 0 [] (.sl [sum k,xI])
def rpt:Nat→List D
 | 0=>[]
 | k+1=>[.agg [.i .i64 4,.sl [xE 0 3 1 [] .nil],.sl [.sl (.agg [.i .i64 0,.sl [xI,xE 0 1 1 [] .nil],.nil,.nil]::rpt k)],.nil]]
def arr:Nat→List D
 | 0=>[.i .i64 1,.i .i64 0,.s [],.nil]
 | k+1=>[.i .i64 7,.i .i64 1,.s [],.sl [.agg (arr k)]]
def md (n:List Nat) (v b:D):D:=.agg [.s n,.nil,.nil,.nil,.nil,v,.nil,b]
def mI (t:List D):D:=.sl [.agg (.s [105]::.b false::t)]
def mA (x:D):D:=md [77] (mI (arr 0)) (.sl [.agg [.i .i64 0,.sl [xI,x],.nil,.nil]])
def tre (w k:Nat):D:=match w with
 | 0=>mA xI
 | 1=>mA (sum k)
 | 2=>md [77] (mI (arr 0)) (.sl (rpt k))
 | _=>md [77] (mI (arr k)) .nil
def bad:D:=md [] .nil .nil
def oF (w k p:Nat):Out:=match p with
 | 0=>.tup [tre w k,.nil]
 | p=>.tup [bad,.sl [.agg [.i .i64 (.ofNat p),.i .i64 34]]]
def oR (w k p:Nat):Out:=match p with
 | 0=>.tup [tre w k,.i .i64 0]
 | _=>.tup [bad,.i .i64 34]
def eSF (w k:Nat):Ent:=⟨16,[.s (src w k)],.tup [tkS (src w k),.nil]⟩
def eSR (w k:Nat):Ent:=⟨13,[.s (src w k)],.tup [tkS (src w k),.i .i64 0,.i .i64 0]⟩
def eCF (w k p:Nat):Ent:=⟨11,[.s (src w k),.nil],oF w k p⟩
def eCR (w k p:Nat):Ent:=⟨10,[.s (src w k),.nil],oR w k p⟩
def eTd (w k:Nat):Ent:=⟨8,[.s (src w k),.nil],.one (.b true)⟩
def fn_k:Ent:=⟨7,[],.one (.b true)⟩
def g1 (n:Nat):Bool:=qI0 n 13 || qI0 n 16
def g2 (n:Nat):Bool:=qI0 n 10 || qI0 n 11
noncomputable def pgS (w k:Nat):Pg:=pgT g1 (eSF w k::eSR w k::qlD)
noncomputable def pgC (w k p:Nat):Pg:=pgT g2 (eCF w k p::eCR w k p::qlD)
noncomputable def frc {γ:Type} (l:List Nat) (κ:List Nat→γ):γ:=List.rec (motive:=fun _=>(List Nat→γ)→γ) (fun κ=>κ []) (fun x _ ih κ=>ih fun r=>κ (x::r)) l κ
theorem qkW {γ:Type}:∀(l:List Nat) (κ:List Nat→γ),frc l κ=κ l
 | [],κ=>rfl
 | x::l,κ=>by show frc l (fun r=>κ (x::r))=_;rw [qkW]
theorem kSF {w k:Nat} (h:(frc (src w k) fun s=>qe8 (tkS s) fun t=>Ent.is (qai pg1 1000 16 [.d (.s s)] []) (.tup [t,.nil]))=true):(eSF w k).Ok pg1:=by
 rw [qkW,yr] at h;exact qf8 qco h
theorem kSR {w k:Nat} (h:(frc (src w k) fun s=>qe8 (tkS s) fun t=>Ent.is (qai pg1 1000 13 [.d (.s s)] []) (.tup [t,.i .i64 0,.i .i64 0]))=true):(eSR w k).Ok pg1:=by
 rw [qkW,yr] at h;exact qf8 qco h
theorem kCF {w k p:Nat} (h:(frc (src w k) fun s=>qe8 (tkS s) fun t=>Ent.is (qai (pgT g1 (⟨16,[.s s],.tup [t,.nil]⟩::⟨13,[.s s],.tup [t,.i .i64 0,.i .i64 0]⟩::qlD)) 1000 11 [.d (.s s),.d .nil] []) (oF w k p))=true):(eCF w k p).Ok (pgS w k):=by
 rw [qkW,yr] at h;exact qf8 qco h
def eSm (w k:Nat):Ent:=⟨62,[tre w k],.one (.b true)⟩
def eCl (w k:Nat):Ent:=⟨19,[tre w k],.one (tre w k)⟩
def g3 (n:Nat):Bool:=g1 n || qI0 n 62 || qI0 n 19
noncomputable def pgM (w k:Nat):Pg:=pgT g3 (eSF w k::eSR w k::eSm w k::eCl w k::qlD)
theorem kSm {w k:Nat} (h:(qe8 (tre w k) fun m=>Ent.is (qai pg1 1000 62 [.d m] []) (.one (.b true)))=true):(eSm w k).Ok pg1:=by
 rw [yr] at h;exact qf8 qco h
theorem kCl {w k:Nat} (h:(qe8 (tre w k) fun m=>Ent.is (qai pg1 1000 19 [.d m] []) (.one m))=true):(eCl w k).Ok pg1:=by
 rw [yr] at h;exact qf8 qco h
theorem kCM {w k:Nat} (h:(frc (src w k) fun s=>qe8 (tkS s) fun t=>qe8 (tre w k) fun m=>Ent.is (qai (pgT g3 (⟨16,[.s s],.tup [t,.nil]⟩::⟨13,[.s s],.tup [t,.i .i64 0,.i .i64 0]⟩::⟨62,[m],.one (.b true)⟩::⟨19,[m],.one m⟩::qlD)) 1000 11 [.d (.s s),.d .nil] []) (.tup [m,.nil]))=true):(eCF w k 0).Ok (pgM w k):=by
 rw [qkW,yr,yr] at h;exact qf8 qco h
theorem kCR {w k p:Nat} (h:(frc (src w k) fun s=>qe8 (tkS s) fun t=>Ent.is (qai (pgT g1 (⟨16,[.s s],.tup [t,.nil]⟩::⟨13,[.s s],.tup [t,.i .i64 0,.i .i64 0]⟩::qlD)) 1000 10 [.d (.s s),.d .nil] []) (oR w k p))=true):(eCR w k p).Ok (pgS w k):=by
 rw [qkW,yr] at h;exact qf8 qco h
theorem kTd {w k p:Nat} (h:(frc (src w k) fun s=>qe8 (tre w k) fun m=>Ent.is (qai (pgT g2 (⟨11,[.s s,.nil],Nat.rec (motive:=fun _=>Out) (.tup [m,.nil]) (fun q _=>oF w k (q+1)) p⟩::⟨10,[.s s,.nil],Nat.rec (motive:=fun _=>Out) (.tup [m,.i .i64 0]) (fun q _=>oR w k (q+1)) p⟩::qlD)) 1000 8 [.d (.s s),.d .nil] []) (.one (.b true)))=true):(eTd w k).Ok (pgC w k p):=by
 rw [qkW,yr] at h
 cases p<;>exact qf8 qco h
def fnL:List Ent:=fn_k::[eTd 0 62,eTd 0 63,eTd 0 64,eTd 0 65,eTd 0 66,eTd 1 62,eTd 1 63,eTd 1 64,eTd 1 65,eTd 1 66,eTd 2 62,eTd 2 63,eTd 2 64,eTd 2 65,eTd 2 66,eTd 3 5,eTd 3 6,eTd 3 7,eTd 3 8,eTd 3 9]
end W
