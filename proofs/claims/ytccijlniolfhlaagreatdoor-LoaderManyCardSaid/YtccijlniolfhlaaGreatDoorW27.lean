/-
  LoaderMany, part 27.
-/
import Derived.Test.YtccijlniolfhlaaGreatDoorW15
set_option linter.unusedSimpArgs false
set_option linter.unusedVariables false
/-
  The same evaluator, in forms that the kernel reckons fast.
-/
open Bool renaming cond_eq_ite->qJo,and_eq_true->qJp,false_eq_true->qJw
open Option renaming bind_eq_some_iff->qJq,bind_eq_bind->qJt,pure_def->qJu
open Nat renaming le_refl->qJr,eq_of_beq_eq_true->qJs,beq->qJv
namespace W
open Go (IntKind BinOp UnOp)
noncomputable def fget (n:Nat) (e:Env):V:=List.rec (motive:=fun _=>V) .undef (fun p _ ih=>Bool.rec ih p.2 (qJv n p.1)) e
theorem jF (n:Nat) (e:Env):fget n e=get n e:=by
 induction e with
 | nil=>rfl
 | cons p e ih=>
  obtain ⟨m,v⟩:=p
  show Bool.rec (fget n e) v (qJv n m)=bif qJv n m then v else get n e
  rw [ih]
  cases qJv n m<;>rfl
noncomputable def qvR {α:Type} (l:List α) (n:Nat):Option α:=
 List.rec (motive:=fun _=>Nat->Option α) (fun _=>none) (fun x _ ih n=>Nat.rec (motive:=fun _=>Option α) (some x) (fun m _=>ih m) n) l n
theorem qsB {α:Type} (l:List α) (n:Nat):qvR l n=l[n]?:=by
 induction l generalizing n with
 | nil=>rfl
 | cons x l ih=>
  cases n with
  | zero=>rfl
  | succ n=>exact ih n
noncomputable def tl4 {α:Type} (l:List α):List α:=List.rec (motive:=fun _=>List α) [] (fun _ t _=>List.rec (motive:=fun _=>List α) [] (fun _ t _=>List.rec (motive:=fun _=>List α) [] (fun _ t _=>List.rec (motive:=fun _=>List α) [] (fun _ t _=>t) t) t) t) l
theorem qCm {α:Type} (l:List α):tl4 l=l.drop 4:=by
 rcases l with _|⟨_,_|⟨_,_|⟨_,_|⟨_,l⟩⟩⟩⟩<;>rfl
noncomputable def qtp {α:Type} (l:List α) (q:Nat):List α:=Nat.rec (motive:=fun _=>List α) l (fun _ ih=>tl4 (tl4 (tl4 (tl4 ih)))) q
theorem qpq {α:Type} (l:List α):∀q,qtp l q=l.drop (16 * q)
 | 0=>rfl
 | q+1=>by
  show tl4 (tl4 (tl4 (tl4 (qtp l q))))=_
  simp only [qCm,qpq l q,List.drop_drop]
  congr 1
noncomputable def fnth {α:Type} (l:List α) (n:Nat):Option α:=
 Nat.rec (motive:=fun _=>Option α) (qvR l n) (fun q _=>qvR (qtp l (Nat.succ q)) (Nat.mod n 16)) (Nat.div n 16)
theorem zP {α:Type} (l:List α) (n:Nat):fnth l n=l[n]?:=by
 unfold fnth
 have e:Nat.div n 16=n / 16:=rfl
 rw [e]
 cases hq:n / 16 with
 | zero=>exact qsB l n
 | succ q=>
  show qvR (qtp l (q+1)) (n % 16)=_
  rw [qsB,qpq,List.getElem?_drop]
  congr 1
  omega
noncomputable def frd (e:Env) (o:O):V:=O.rec (motive:=fun _=>V) (fun n=>qnn n (fget n e)) (fun x=>.d x) (fun i=>.fn i [] []) (fun n=>ql5 (fget n e)) (fun _ x=>.cp x) o
theorem ya (e:Env) (o:O):frd e o=rd e o:=by cases o<;>simp only [frd,jF]<;>rfl
noncomputable def qj {α:Type} (a:Nat) (k:Nat->α):α:=Nat.rec (motive:=fun _=>α) (k 0) (fun m _=>k (Nat.succ m)) a
noncomputable def qoM {α:Type} (n:Int) (k:Int->α):α:=Int.rec (motive:=fun _=>α) (fun a=>qj a fun a=>k (.ofNat a)) (fun a=>qj a fun a=>k (.negSucc a)) n
noncomputable def qup {α:Type} (b:Bool) (k:Bool->α):α:=Bool.rec (motive:=fun _=>α) (k false) (k true) b
theorem qR {α:Type} (a:Nat) (k:Nat->α):qj a k=k a:=by cases a<;>rfl
theorem qmW {α:Type} (n:Int) (k:Int->α):qoM n k=k n:=by
 cases n with
 | ofNat a=>exact qR a fun a=>k (.ofNat a)
 | negSucc a=>exact qR a fun a=>k (.negSucc a)
theorem qrc {α:Type} (b:Bool) (k:Bool->α):qup b k=k b:=by cases b<;>rfl
noncomputable def qua {α:Type} (l:List Nat) (k:List Nat->α):α:=
 List.rec (motive:=fun _=>(List Nat->α)->α) (fun k=>k []) (fun x _ ih k=>qj x fun x=>ih fun r=>k (x::r)) l k
theorem qxq {α:Type} (l:List Nat) (k:List Nat->α):qua l k=k l:=by
 induction l generalizing k with
 | nil=>rfl
 | cons x l ih=>exact (qR x fun x=>qua l fun r=>k (x::r)).trans (ih fun r=>k (x::r))
noncomputable def zG {β α:Type} (f:β->(β->α)->α) (l:List β) (k:List β->α):α:=
 List.rec (motive:=fun _=>(List β->α)->α) (fun k=>k []) (fun x _ ih k=>f x fun x=>ih fun r=>k (x::r)) l k
theorem qU {β α:Type} {f:β->(β->α)->α} (hf:∀x k,f x k=k x) (l:List β) (k:List β->α):zG f l k=k l:=by
 induction l generalizing k with
 | nil=>rfl
 | cons x l ih=>exact (hf x fun x=>zG f l fun r=>k (x::r)).trans (ih fun r=>k (x::r))
noncomputable def qgz {α:Type} (x:D) (k:D->α):α:=
 D.casesOn (motive_1:=fun _=>α) x (fun z=>qup z fun z=>k (.b z)) (fun kk n=>qoM n fun n=>k (.i kk n)) (fun t=>k (.s t)) (k .nil) (fun xs=>k (.sl xs)) (fun cs=>k (.agg cs)) (k .np) (k .nf) (k .ni) (k .nm)
theorem qaT {α:Type} (x:D) (k:D->α):qgz x k=k x:=by
 cases x with
 | b z=>exact qrc z fun z=>k (.b z)
 | i kk n=>exact qmW n fun n=>k (.i kk n)
 | _=>rfl
noncomputable def qzk {α:Type} (x:D) (k:D->α):α:=
 D.casesOn (motive_1:=fun _=>α) x (fun z=>qup z fun z=>k (.b z)) (fun kk n=>qoM n fun n=>k (.i kk n)) (fun t=>qua t fun t=>k (.s t)) (k .nil) (fun xs=>zG qgz xs fun xs=>k (.sl xs)) (fun cs=>zG qgz cs fun cs=>k (.agg cs)) (k .np) (k .nf) (k .ni) (k .nm)
theorem qv2 {α:Type} (x:D) (k:D->α):qzk x k=k x:=by
 cases x with
 | b z=>exact qrc z fun z=>k (.b z)
 | i kk n=>exact qmW n fun n=>k (.i kk n)
 | s t=>exact qxq t fun t=>k (.s t)
 | sl xs=>exact qU qaT xs fun xs=>k (.sl xs)
 | agg xs=>exact qU qaT xs fun xs=>k (.agg xs)
 | _=>rfl
noncomputable def jj {α:Type} (v:V) (k:V->α):α:=
 V.casesOn (motive_1:=fun _=>α) v (fun x=>qgz x fun x=>k (.d x)) (fun xs=>k (.osl xs)) (fun xs=>k (.fsl xs)) (fun i o=>qj i fun i=>qj o fun o=>k (.ptr i o)) (fun i o=>qj i fun i=>qj o fun o=>k (.lp i o)) (fun cs=>k (.box cs)) (fun x=>k (.cp x))
  (fun i o n c=>k (.rs i o n c)) (fun i o n=>qj i fun i=>qj o fun o=>qj n fun n=>k (.row i o n)) (fun i=>qj i fun i=>k (.map i)) (fun f a b=>k (.fn f a b)) (fun t x=>k (.ifc t x)) (fun cs=>k (.agg cs)) (fun vs=>k (.tup vs)) (k .undef)
theorem zl {α:Type} (v:V) (k:V->α):jj v k=k v:=by
 cases v with
 | d x=>exact qaT x fun x=>k (.d x)
 | _=>simp only [jj,qR]
noncomputable def qbN {α:Type} (v:V) (k:V->α):α:=
 V.casesOn (motive_1:=fun _=>α) v (fun x=>qzk x fun x=>k (.d x)) (fun xs=>zG qgz xs fun xs=>k (.osl xs)) (fun xs=>zG qgz xs fun xs=>k (.fsl xs)) (fun i o=>qj i fun i=>qj o fun o=>k (.ptr i o)) (fun i o=>qj i fun i=>qj o fun o=>k (.lp i o)) (fun cs=>zG jj cs fun cs=>k (.box cs)) (fun x=>qgz x fun x=>k (.cp x))
  (fun i o n c=>qj i fun i=>qj o fun o=>qj n fun n=>qj c fun c=>k (.rs i o n c)) (fun i o n=>qj i fun i=>qj o fun o=>qj n fun n=>k (.row i o n)) (fun i=>qj i fun i=>k (.map i)) (fun f a b=>qj f fun f=>k (.fn f a b)) (fun t x=>k (.ifc t x)) (fun cs=>zG jj cs fun cs=>k (.agg cs)) (fun vs=>zG jj vs fun vs=>k (.tup vs)) (k .undef)
theorem qaS {α:Type} (v:V) (k:V->α):qbN v k=k v:=by
 cases v with
 | d x=>exact qv2 x fun x=>k (.d x)
 | osl xs=>exact qU qaT xs fun xs=>k (.osl xs)
 | fsl xs=>exact qU qaT xs fun xs=>k (.fsl xs)
 | box cs=>exact qU zl cs fun cs=>k (.box cs)
 | cp x=>exact qaT x fun x=>k (.cp x)
 | agg cs=>exact qU zl cs fun cs=>k (.agg cs)
 | tup cs=>exact qU zl cs fun cs=>k (.tup cs)
 | _=>simp only [qbN,qR]
noncomputable def qyX {α:Type} (o:Obj) (k:Obj->α):α:=
 Obj.casesOn (motive:=fun _=>α) o (fun cs=>zG jj cs fun cs=>k (.cells cs)) (fun es=>zG (fun p k=>jj p.2 fun v=>k (p.1,v)) es fun es=>k (.map es)) (fun l cs=>zG jj cs fun cs=>k (.row l cs)) (k .dead) (fun i=>qj i fun i=>k (.iter i))
theorem qwF {α:Type} (o:Obj) (k:Obj->α):qyX o k=k o:=by
 cases o with
 | cells cs=>exact qU zl cs fun cs=>k (.cells cs)
 | map es=>exact qU (fun p k=>zl p.2 fun v=>k (p.1,v)) es fun es=>k (.map es)
 | row l cs=>exact qU zl cs fun cs=>k (.row l cs)
 | dead=>rfl
 | iter i=>exact qR i fun i=>k (.iter i)
noncomputable def qzL {α:Type} (H:List Obj) (k:List Obj->α):α:=zG (fun o k=>qyX o k) H k
theorem qxA {α:Type} (H:List Obj) (k:List Obj->α):qzL H k=k H:=qU qwF _ _
noncomputable def qu2 {α:Type} (o:Obj) (k:Obj->α):α:=
 Obj.casesOn (motive:=fun _=>α) o (fun cs=>zG jj cs fun cs=>k (.cells cs)) (fun es=>zG (fun p k=>jj p.2 fun v=>k (p.1,v)) es fun es=>k (.map es)) (fun l cs=>zG (fun v k=>k v) cs fun cs=>k (.row l cs)) (k .dead) (fun i=>qj i fun i=>k (.iter i))
theorem qw0 {α:Type} (o:Obj) (k:Obj->α):qu2 o k=k o:=by
 cases o with
 | cells cs=>exact qU zl cs fun cs=>k (.cells cs)
 | map es=>exact qU (fun p k=>zl p.2 fun v=>k (p.1,v)) es fun es=>k (.map es)
 | row l cs=>exact qU (fun _ _=>rfl) cs fun cs=>k (.row l cs)
 | dead=>rfl
 | iter i=>exact qR i fun i=>k (.iter i)
noncomputable def qx0 (l:List Obj):Bool:=List.rec (motive:=fun _=>Bool) true (fun _ _ _=>false) l
noncomputable def qlk {α:Type} (f:Obj->(Obj->α)->α) (H:List Obj) (k:List Obj->α):α:=
 List.rec (motive:=fun _=>(List Obj->α)->α) (fun k=>k []) (fun o t ih k=>Bool.rec (motive:=fun _=>α) (f o fun o=>ih fun t=>k (o::t)) (qu2 o fun o=>k [o]) (qx0 t)) H k
theorem qsH {α:Type} {f:Obj->(Obj->α)->α} (hf:∀o k,f o k=k o) (H:List Obj) (k:List Obj->α):qlk f H k=k H:=by
 induction H generalizing k with
 | nil=>rfl
 | cons o t ih=>
  show Bool.rec (motive:=fun _=>α) (f o fun o=>qlk f t fun t=>k (o::t)) (qu2 o fun o=>k [o]) (qx0 t)=_
  cases t with
  | nil=>exact qw0 o fun o=>k [o]
  | cons o' t=>
   show (f o fun o=>qlk f (o'::t) fun t=>k (o::t))=_
   rw [hf,ih]
noncomputable def qpk {α:Type} (H:List Obj) (k:List Obj->α):α:=qlk (fun o k=>k o) H k
theorem qqD {α:Type} (H:List Obj) (k:List Obj->α):qpk H k=k H:=qsH (fun _ _=>rfl) H k
noncomputable def qvH (l:L) (off:Nat) (cs:List V):Option V:=Bool.rec (motive:=fun _=>Option V) ((fnth cs off).map zX) (V.part off l cs) l.agg
noncomputable def qsg (l:L) (st:St) (v:V):Option V:=
 match v with
 | .lp s off=>match fget s st.env with
  | .box cs=>qvH l off cs
  | _=>none
 | .ptr id off=>match fnth st.H id with
  | some (.cells cs)=>qvH l off cs
  | some (.row _ cs)=>qvH l off cs
  | _=>none
 | v=>qF l st v
theorem qCk (l:L) (off:Nat) (cs:List V):qvH l off cs=V.part off l cs:=by
 obtain ⟨n,agg⟩:=l
 cases agg with
 | true=>rfl
 | false=>show (fnth cs off).map zX=_;rw [zP];simp [V.part]
theorem qva:qsg=qF:=by
 funext l st v
 cases v<;>simp only [qsg,qCk,jF,zP]<;>rfl
noncomputable def qCs (x:O) (st:St):Option Or:=ok (frd st.env x) {st with env:=spent x st.env}
noncomputable def qyQ (c:O) (a:O) (b:O) (st:St):Option Or:=
 match frd st.env c with
  | .d (.b z)=>ok (Bool.rec (motive:=fun _=>V) (frd st.env b) (frd st.env a) z) st
  | _=>none
noncomputable def qzz (mv:Bool) (sl:Option Nat) (l:L) (a:O) (st:St):Option Or:=
 Bool.rec (motive:=fun _=>Option Or) (bif !qV sl (frd st.env a) then none else (match qsg l st (frd st.env a) with|some v=>ok v st|none=>none)) (zz true sl l a st) mv
noncomputable def qmT (x:O) (st:St):Option Or:=
 match frd st.env x with
  | .ptr id off=>ok (.ptr id off) st
  | .lp s off=>ok (.lp s off) st
  | .cp y=>ok (.cp y) st
  | _=>none
noncomputable def qFO (op:BinOp) (kd:Kd) (x:O) (y:O) (st:St):Option Or:=
 match qqk op kd (isC x || isC y) (frd st.env x) (frd st.env y) with
  | some v=>ok v st
  | none=>none
noncomputable def qlg (x:O) (off:Nat) (l:L) (st:St):Option Or:=
 match frd st.env x with
  | .ptr id o=>ok (.ptr id (o+off)) st
  | .lp s o=>ok (.lp s (o+off)) st
  | _=>kg x off l st
noncomputable def qkE (x:O) (i:O) (size:Nat) (arr:Option Nat) (st:St):Option Or:=
 match frd st.env i with
  | .d (.i _ n)=>match arr with
   | some len=>bif leI 0 n && !leI len n then (match frd st.env x with
    | .ptr id o=>ok (.ptr id (o+n.toNat * size)) st
    | .lp s o=>ok (.lp s (o+n.toNat * size)) st
    | .cp (.agg cs)=>bif qJv size 1 then (match fnth cs n.toNat with
     | some y=>if y.one then ok (.cp y) st else none
     | none=>none) else none
    | _=>none) else none
   | none=>bif leI 0 n then (match frd st.env x with
    | .d (.sl xs)=>match fnth xs n.toNat with
     | some y=>bif qJv y.cells.length size then ok (.cp y) st else none
     | none=>none
    | .rs id o len _=>bif !leI len n && qJv size 1 then ok (.ptr id (o+n.toNat)) st else none
    | .row id sz len=>bif !leI len n && qJv size sz then ok (.ptr id (n.toNat * sz)) st else none
    | _=>none) else none
  | _=>none
noncomputable def quq (x:O) (i:O) (st:St):Option Or:=
 match frd st.env x,frd st.env i with
  | .d (.s t),.d (.i _ n)=>bif leI 0 n then (match fnth t n.toNat with
    | some y=>ok (.d (.i .u8 y)) st
    | none=>none) else none
  | _,_=>none
noncomputable def qoq (x:O) (i:Nat) (st:St):Option Or:=
 match x with
  | .t n=>match fget n st.env with
   | .tup vs=>match fnth vs i with
    | some v=>ok (copy v) st
    | none=>none
   | _=>none
  | _=>none
noncomputable def jo {α:Type} (l:List α):Nat:=List.rec (motive:=fun _=>Nat) 0 (fun _ _ ih=>Nat.succ ih) l
theorem kh {α:Type} (l:List α):jo l=l.length:=by
 induction l with
 | nil=>rfl
 | cons x l ih=>simp only [List.length_cons,<- ih];rfl
noncomputable def qBx (x:O) (st:St):Option Or:=
 match frd st.env x with
  | .d (.s t)=>ok (.d (.i .i64 (jo t))) st
  | _=>none
noncomputable def qBz (x:O) (st:St):Option Or:=
 match frd st.env x with
  | .d .nil=>ok (.d (.i .i64 0)) st
  | .d (.sl xs)=>ok (.d (.i .i64 (jo xs))) st
  | .rs _ _ n _=>ok (.d (.i .i64 n)) st
  | .row _ _ n=>ok (.d (.i .i64 n)) st
  | _=>none
noncomputable def fBi (b:Bi) (args:List O) (st:St):Option Or:=
 match b,args with
  | .lenS,[x]=>qBx x st
  | .lenL,[x]=>qBz x st
  | b,l=>eBi b l st
noncomputable def qdA (call:Call) (k:OpK) (st:St):Option Or:=
 match k with
 | .mov x=>qCs x st
 | .pick c a b=>qyQ c a b st
 | .load mv sl l a=>qzz mv sl l a st
 | .nilCheck x=>qmT x st
 | .bin op kd x y=>qFO op kd x y st
 | .fieldAddr x off l=>qlg x off l st
 | .indexAddr x i size arr=>qkE x i size arr st
 | .index x i=>quq x i st
 | .extract x i=>qoq x i st
 | .bi b args=>fBi b args st
 | k=>qa call k st
theorem qv8:qdA=qa:=by
 funext call k st
 cases k with
 | mov x=>simp only [qdA,qCs,ya];rfl
 | pick c a b=>
  simp only [qdA,qyQ,ya,qa,qfw]
  cases rd st.env c with
  | d w=>cases w with
   | b z=>cases z<;>rfl
   | _=>rfl
  | _=>rfl
 | load mv sl l a=>cases mv<;>simp only [qdA,qzz,ya,qva]<;>rfl
 | nilCheck x=>simp only [qdA,qmT,ya];rfl
 | bin op kd x y=>simp only [qdA,qFO,ya];rfl
 | fieldAddr x off l=>
  simp only [qdA,qlg,ya,qa]
  split<;>rename_i h<;>(try simp only [kg,h])
 | indexAddr x i size arr=>simp only [qdA,qkE,ya,zP];rfl
 | index x i=>simp only [qdA,quq,ya,zP];rfl
 | extract x i=>simp only [qdA,qoq,jF,zP];rfl
 | bi b args=>
  simp only [qdA,fBi,qa]
  split
  ·rename_i x;simp only [qBx,ya,kh];rfl
  ·rename_i x
   simp only [qBz,ya,kh]
   show _=qdi x st
   unfold qdi
   cases rd st.env x with
   | d w=>cases w<;>rfl
   | _=>rfl
  ·rfl
 | _=>rfl
noncomputable def makes (k:OpK):Bool:=
 match k with
 | .mov _=>false
 | .load _ _ _ _=>false
 | .extract _ _=>false
 | .pick _ _ _=>false
 | .nilCheck _=>false
 | .store _ _ _ _=>false
 | .call _ _=>false
 | .indexAddr _ _ _ _=>false
 | .fieldAddr _ _ _=>false
 | .field _ _ _=>false
 | _=>true
noncomputable def qo9 {α:Type} (m:Bool) (v:V) (k:V->α):α:=Bool.rec (motive:=fun _=>α) (jj v k) (qbN v k) m
theorem qqF {α:Type} (m:Bool) (v:V) (k:V->α):qo9 m v k=k v:=by
 cases m
 ·exact zl v k
 ·exact qaS v k
end W
/-
  Code turned into closures, which the kernel works out once; each operation its own closure.
-/
namespace W
open Go (IntKind BinOp UnOp)
abbrev R:=Option (Ex × St)
abbrev KF:=Call->Nat->Env->List Obj->Nat->R
inductive K where
 | mk (f:KF)
noncomputable def K.run (k:K):KF:=K.rec (motive:=fun _=>KF) (fun f=>f) k
inductive KO where
 | mk (f:Env->V)
noncomputable def KO.run (k:KO):Env->V:=KO.rec (motive:=fun _=>Env->V) (fun f=>f) k
noncomputable def ky (o:O):KO:=O.rec (motive:=fun _=>KO) (fun n=>.mk fun e=>fget n e) (fun x=>.mk fun _=>.d x) (fun i=>.mk fun _=>.fn i [] []) (fun n=>.mk fun e=>ql5 (fget n e)) (fun _ x=>.mk fun _=>.cp x) o
def V.isBox:V->Bool
 | .box _=>true
 | _=>false
def V.pl:V->Prop
 | .box _=>False
 | .osl _=>False
 | .agg _=>False
 | _=>True
theorem qO {o:O} {e:Env} (h:((ky o).run e).pl):rd e o=(ky o).run e:=by
 cases o with
 | t n=>
  have h:(fget n e).pl:=h
  show qnn n (get n e)=fget n e
  rw [<- jF]
  cases hv:fget n e<;>rw [hv] at h<;>first|rfl|exact h.elim
 | mv n=>
  show ql5 (get n e)=ql5 (fget n e)
  rw [jF]
 | _=>rfl
inductive OI where
 | no
 | yes (k:IntKind) (n:Int)
noncomputable def vI (v:V):OI:=V.rec (motive_1:=fun _=>OI) (motive_2:=fun _=>OI) (fun x=>D.rec (motive_1:=fun _=>OI) (motive_2:=fun _=>OI) (fun _=>.no) (fun k n=>.yes k n) (fun _=>.no) .no (fun _ _=>.no) (fun _ _=>.no) .no .no .no .no .no (fun _ _ _ _=>.no) x) (fun _=>.no) (fun _=>.no) (fun _ _=>.no) (fun _ _=>.no) (fun _ _=>.no) (fun _=>.no) (fun _ _ _ _=>.no) (fun _ _ _=>.no) (fun _=>.no) (fun _ _ _ _ _=>.no) (fun _ _ _=>.no) (fun _ _=>.no) (fun _ _=>.no) .no .no (fun _ _ _ _=>.no) v
theorem qCJ {v:V} {k:IntKind} {n:Int} (h:vI v=.yes k n):v=.d (.i k n):=by
 cases v with
 | d x=>cases x with
  | i k' n'=>have h:OI.yes k' n'=.yes k n:=h;cases h;rfl
  | _=>cases h
 | _=>cases h
inductive OB where
 | no|f|t
noncomputable def vB (v:V):OB:=V.rec (motive_1:=fun _=>OB) (motive_2:=fun _=>OB) (fun x=>D.rec (motive_1:=fun _=>OB) (motive_2:=fun _=>OB) (fun y=>Bool.rec (motive:=fun _=>OB) .f .t y) (fun _ _=>.no) (fun _=>.no) .no (fun _ _=>.no) (fun _ _=>.no) .no .no .no .no .no (fun _ _ _ _=>.no) x) (fun _=>.no) (fun _=>.no) (fun _ _=>.no) (fun _ _=>.no) (fun _ _=>.no) (fun _=>.no) (fun _ _ _ _=>.no) (fun _ _ _=>.no) (fun _=>.no) (fun _ _ _ _ _=>.no) (fun _ _ _=>.no) (fun _ _=>.no) (fun _ _=>.no) .no .no (fun _ _ _ _=>.no) v
theorem qIZ {v:V} (h:vB v=.t):v=.d (.b true):=by
 cases v with
 | d x=>cases x with
  | b y=>cases y with
   | true=>rfl
   | false=>cases h
  | _=>cases h
 | _=>cases h
theorem qI0 {v:V} (h:vB v=.f):v=.d (.b false):=by
 cases v with
 | d x=>cases x with
  | b y=>cases y with
   | false=>rfl
   | true=>cases h
  | _=>cases h
 | _=>cases h
inductive OP where
 | no
 | p (id off:Nat)
 | l (s off:Nat)
 | c (x:D)
noncomputable def vP (v:V):OP:=V.rec (motive_1:=fun _=>OP) (motive_2:=fun _=>OP) (fun _=>.no) (fun _=>.no) (fun _=>.no) (fun a b=>.p a b) (fun a b=>.l a b) (fun _ _=>.no) (fun x=>.c x) (fun _ _ _ _=>.no) (fun _ _ _=>.no) (fun _=>.no) (fun _ _ _ _ _=>.no) (fun _ _ _=>.no) (fun _ _=>.no) (fun _ _=>.no) .no .no (fun _ _ _ _=>.no) v
theorem qII {v:V} {a b:Nat} (h:vP v=.p a b):v=.ptr a b:=by
 cases v with
 | ptr c d=>have h:OP.p c d=.p a b:=h;cases h;rfl
 | _=>cases h
theorem qI5 {v:V} {a b:Nat} (h:vP v=.l a b):v=.lp a b:=by
 cases v with
 | lp c d=>have h:OP.l c d=.l a b:=h;cases h;rfl
 | _=>cases h
theorem qIF {v:V} {x:D} (h:vP v=.c x):v=.cp x:=by
 cases v with
 | cp y=>have h:OP.c y=.c x:=h;cases h;rfl
 | _=>cases h
inductive OL where
 | no|nil
 | sl (xs:List D)
noncomputable def vL (v:V):OL:=V.rec (motive_1:=fun _=>OL) (motive_2:=fun _=>OL) (fun x=>D.rec (motive_1:=fun _=>OL) (motive_2:=fun _=>OL) (fun _=>.no) (fun _ _=>.no) (fun _=>.no) .nil (fun xs _=>.sl xs) (fun _ _=>.no) .no .no .no .no .no (fun _ _ _ _=>.no) x) (fun _=>.no) (fun _=>.no) (fun _ _=>.no) (fun _ _=>.no) (fun _ _=>.no) (fun _=>.no) (fun _ _ _ _=>.no) (fun _ _ _=>.no) (fun _=>.no) (fun _ _ _ _ _=>.no) (fun _ _ _=>.no) (fun _ _=>.no) (fun _ _=>.no) .no .no (fun _ _ _ _=>.no) v
theorem qEj {v:V} (h:vL v=.nil):v=.d .nil:=by
 cases v with
 | d x=>cases x with
  | nil=>rfl
  | _=>cases h
 | _=>cases h
theorem qG2 {v:V} {xs:List D} (h:vL v=.sl xs):v=.d (.sl xs):=by
 cases v with
 | d x=>cases x with
  | sl ys=>have h:OL.sl ys=.sl xs:=h;cases h;rfl
  | _=>cases h
 | _=>cases h
inductive OT where
 | no
 | s (t:List Nat)
noncomputable def vT (v:V):OT:=V.rec (motive_1:=fun _=>OT) (motive_2:=fun _=>OT) (fun x=>D.rec (motive_1:=fun _=>OT) (motive_2:=fun _=>OT) (fun _=>.no) (fun _ _=>.no) (fun t=>.s t) .no (fun _ _=>.no) (fun _ _=>.no) .no .no .no .no .no (fun _ _ _ _=>.no) x) (fun _=>.no) (fun _=>.no) (fun _ _=>.no) (fun _ _=>.no) (fun _ _=>.no) (fun _=>.no) (fun _ _ _ _=>.no) (fun _ _ _=>.no) (fun _=>.no) (fun _ _ _ _ _=>.no) (fun _ _ _=>.no) (fun _ _=>.no) (fun _ _=>.no) .no .no (fun _ _ _ _=>.no) v
theorem qHt {v:V} {t:List Nat} (h:vT v=.s t):v=.d (.s t):=by
 cases v with
 | d x=>cases x with
  | s u=>have h:OT.s u=.s t:=h;cases h;rfl
  | _=>cases h
 | _=>cases h
inductive OU where
 | no
 | t (vs:List V)
noncomputable def vU (v:V):OU:=V.rec (motive_1:=fun _=>OU) (motive_2:=fun _=>OU) (fun _=>.no) (fun _=>.no) (fun _=>.no) (fun _ _=>.no) (fun _ _=>.no) (fun _ _=>.no) (fun _=>.no) (fun _ _ _ _=>.no) (fun _ _ _=>.no) (fun _=>.no) (fun _ _ _ _ _=>.no) (fun _ _ _=>.no) (fun _ _=>.no) (fun vs _=>.t vs) .no .no (fun _ _ _ _=>.no) v
theorem qI2 {v:V} {vs:List V} (h:vU v=.t vs):v=.tup vs:=by
 cases v with
 | tup ws=>have h:OU.t ws=.t vs:=h;cases h;rfl
 | _=>cases h
inductive OF where
 | no
 | f (i:Nat)
noncomputable def vF (v:V):OF:=V.rec (motive_1:=fun _=>OF) (motive_2:=fun _=>OF) (fun _=>.no) (fun _=>.no) (fun _=>.no) (fun _ _=>.no) (fun _ _=>.no) (fun _ _=>.no) (fun _=>.no) (fun _ _ _ _=>.no) (fun _ _ _=>.no) (fun _=>.no) (fun f a b _ _=>List.rec (motive:=fun _=>OF) (List.rec (motive:=fun _=>OF) (.f f) (fun _ _ _=>.no) b) (fun _ _ _=>.no) a) (fun _ _ _=>.no) (fun _ _=>.no) (fun _ _=>.no) .no .no (fun _ _ _ _=>.no) v
theorem qIH {v:V} {i:Nat} (h:vF v=.f i):v=.fn i [] []:=by
 cases v with
 | fn f a b=>cases a with
  | nil=>cases b with
   | nil=>have h:OF.f f=.f i:=h;cases h;rfl
   | cons _ _=>cases h
  | cons _ _=>cases h
 | _=>cases h
noncomputable def qBI (m:Nat) (v:V) (κ:V->R):R:=V.rec (motive_1:=fun _=>R) (motive_2:=fun _=>R) (fun x=>κ (.d x)) (fun xs=>κ (.d (.sl xs))) (fun xs=>κ (.fsl xs)) (fun a b=>κ (.ptr a b)) (fun a b=>κ (.lp a b)) (fun _ _=>κ (.lp m 0)) (fun x=>κ (.cp x)) (fun a b c d=>κ (.rs a b c d)) (fun a b c=>κ (.row a b c)) (fun a=>κ (.map a)) (fun f a b _ _=>κ (.fn f a b)) (fun t x _=>κ (.ifc t x)) (fun cs _=>qbN (qfh (cs.map zX)) κ) (fun vs _=>κ (.tup vs)) (κ .undef) none (fun _ _ _ _=>none) v
theorem qzR (m:Nat) (v:V) (κ:V->R):qBI m v κ=κ (qnn m v):=by
 cases v with
 | agg cs=>exact qaS _ _
 | _=>rfl
noncomputable def qBr (v:V) (κ:V->R):R:=V.rec (motive_1:=fun _=>R) (motive_2:=fun _=>R) (fun x=>κ (.d x)) (fun xs=>κ (.osl xs)) (fun xs=>κ (.fsl xs)) (fun a b=>κ (.ptr a b)) (fun a b=>κ (.lp a b)) (fun _ _=>κ .undef) (fun x=>κ (.cp x)) (fun a b c d=>κ (.rs a b c d)) (fun a b c=>κ (.row a b c)) (fun a=>κ (.map a)) (fun f a b _ _=>κ (.fn f a b)) (fun t x _=>κ (.ifc t x)) (fun cs _=>κ (.agg cs)) (fun vs _=>κ (.tup vs)) (κ .undef) none (fun _ _ _ _=>none) v
theorem qzl (v:V) (κ:V->R):qBr v κ=κ (ql5 v):=by cases v<;>rfl
noncomputable def qyJ (v:V) (κ:V->R):R:=V.rec (motive_1:=fun _=>R) (motive_2:=fun _=>R) (fun x=>κ (.d x)) (fun xs=>κ (.osl xs)) (fun xs=>κ (.fsl xs)) (fun a b=>κ (.ptr a b)) (fun _ _=>κ .undef) (fun cs _=>κ (.box cs)) (fun x=>κ (.cp x)) (fun a b c d=>κ (.rs a b c d)) (fun a b c=>κ (.row a b c)) (fun a=>κ (.map a)) (fun f a b _ _=>κ (.fn f a b)) (fun t x _=>κ (.ifc t x)) (fun cs _=>κ (.agg cs)) (fun vs _=>κ (.tup vs)) (κ .undef) none (fun _ _ _ _=>none) v
theorem qyM (v:V) (κ:V->R):qyJ v κ=κ (match v with | .lp _ _=>.undef|v=>v):=by cases v<;>rfl
noncomputable def qBL (v:V) (κ:V->R):R:=V.rec (motive_1:=fun _=>R) (motive_2:=fun _=>R) (fun x=>κ (.d x)) (fun xs=>κ (.d (.sl xs))) (fun xs=>κ (.fsl xs)) (fun a b=>κ (.ptr a b)) (fun a b=>κ (.lp a b)) (fun _ _=>none) (fun x=>κ (.cp x)) (fun a b c d=>κ (.rs a b c d)) (fun a b c=>κ (.row a b c)) (fun a=>κ (.map a)) (fun f a b _ _=>κ (.fn f a b)) (fun t x _=>κ (.ifc t x)) (fun cs _=>κ (.agg cs)) (fun vs _=>κ (.tup vs)) (κ .undef) none (fun _ _ _ _=>none) v
theorem quU {v:V} {κ:V->R} {x:Ex × St} (h:qBL v κ=some x):(zX v).isBox=false/\κ (zX v)=some x:=by
 cases v<;>first|exact ⟨rfl,h⟩|cases h
theorem qm8 (cs:List V):(qfh cs).isBox=false:=by unfold qfh;split<;>rfl
noncomputable def qvZ (v:V) (κ:V->R):R:=V.rec (motive_1:=fun _=>R) (motive_2:=fun _=>R) (fun x=>κ (.d x)) (fun xs=>κ (.d (.sl xs))) (fun xs=>κ (.fsl xs)) (fun a b=>κ (.ptr a b)) (fun a b=>κ (.lp a b)) (fun _ _=>none) (fun x=>κ (.cp x)) (fun a b c d=>κ (.rs a b c d)) (fun a b c=>κ (.row a b c)) (fun a=>κ (.map a)) (fun f a b _ _=>κ (.fn f a b)) (fun t x _=>κ (.ifc t x)) (fun cs _=>qbN (qfh (cs.map zX)) κ) (fun vs _=>κ (.tup vs)) (κ .undef) none (fun _ _ _ _=>none) v
theorem qkx {v:V} {κ:V->R} {x:Ex × St} (h:qvZ v κ=some x):(copy v).isBox=false/\κ (copy v)=some x:=by
 cases v with
 | agg cs=>
  have h:qbN (qfh (cs.map zX)) κ=some x:=h
  rw [qaS] at h
  exact ⟨qm8 _,h⟩
 | box cs=>cases h
 | _=>exact ⟨rfl,h⟩
noncomputable def qi0 (v:V) (z:R) (κ:V->R):R:=V.rec (motive_1:=fun _=>R) (motive_2:=fun _=>R) (fun x=>κ (.d x)) (fun xs=>κ (.osl xs)) (fun xs=>κ (.fsl xs)) (fun a b=>κ (.ptr a b)) (fun a b=>κ (.lp a b)) (fun _ _=>z) (fun x=>κ (.cp x)) (fun a b c d=>κ (.rs a b c d)) (fun a b c=>κ (.row a b c)) (fun a=>κ (.map a)) (fun f a b _ _=>κ (.fn f a b)) (fun t x _=>κ (.ifc t x)) (fun cs _=>κ (.agg cs)) (fun vs _=>κ (.tup vs)) (κ .undef) none (fun _ _ _ _=>none) v
noncomputable def qrM (v:V) (z:R) (κ:V->R):R:=V.rec (motive_1:=fun _=>R) (motive_2:=fun _=>R) (fun x=>κ (.d x)) (fun xs=>κ (.osl xs)) (fun xs=>κ (.fsl xs)) (fun a b=>κ (.ptr a b)) (fun _ _=>z) (fun _ _=>z) (fun x=>κ (.cp x)) (fun a b c d=>κ (.rs a b c d)) (fun a b c=>κ (.row a b c)) (fun a=>κ (.map a)) (fun f a b _ _=>κ (.fn f a b)) (fun t x _=>κ (.ifc t x)) (fun cs _=>κ (.agg cs)) (fun vs _=>κ (.tup vs)) (κ .undef) none (fun _ _ _ _=>none) v
theorem qtN {v:V} {κ:V->R} {x:Ex × St} (h:qrM v none κ=some x):v.isBox=false/\(∀m o,v≠.lp m o)/\κ v=some x:=by
 cases v<;>first|exact ⟨rfl,nofun,h⟩|cases h
theorem qi3 {v:V} {z:R} {κ:V->R} {x:Ex × St} (h:qi0 v z κ=some x):z=some x\/(v.isBox=false/\κ v=some x):=by
 cases v<;>first|exact .inr ⟨rfl,h⟩|exact .inl h
inductive KR where
 | mk (f:Env->(V->R)->R)
noncomputable def KR.run (k:KR):Env->(V->R)->R:=KR.rec (motive:=fun _=>Env->(V->R)->R) (fun f=>f) k
noncomputable def rdC (o:O):KR:=O.rec (motive:=fun _=>KR) (fun n=>.mk fun e κ=>qBI n (fget n e) κ) (fun x=>.mk fun _ κ=>κ (.d x)) (fun i=>.mk fun _ κ=>κ (.fn i [] [])) (fun n=>.mk fun e κ=>qBr (fget n e) κ) (fun _ x=>.mk fun _ κ=>κ (.cp x)) o
theorem qeZ (o:O) (e:Env) (κ:V->R):(rdC o).run e κ=κ (rd e o):=by
 cases o with
 | t n=>exact (qzR n (fget n e) κ).trans (by rw [jF];rfl)
 | mv n=>exact (qzl (fget n e) κ).trans (by rw [jF];rfl)
 | _=>rfl
inductive KE where
 | mk (f:Env->Env)
noncomputable def KE.run (k:KE):Env->Env:=KE.rec (motive:=fun _=>Env->Env) (fun f=>f) k
noncomputable def spC (o:O) (r:KE):KE:=O.rec (motive:=fun _=>KE) (fun _=>r) (fun _=>r) (fun _=>r) (fun n=>.mk fun e=>r.run ((n,.undef)::e)) (fun _ _=>r) o
noncomputable def spL (l:List O):KE:=List.rec (motive:=fun _=>KE) (.mk fun e=>e) (fun o _ ih=>spC o ih) l
theorem quW (l:List O) (e:Env):(spL l).run e=spentAll l e:=by
 induction l generalizing e with
 | nil=>rfl
 | cons o l ih=>
  show (spC o (spL l)).run e=spentAll l (spent o e)
  cases o<;>first|exact ih _|exact ih e
noncomputable def spO (o:O):KE:=spC o (.mk fun e=>e)
theorem qkA (o:O) (e:Env):(spO o).run e=spent o e:=by cases o<;>rfl
inductive KA where
 | mk (f:Env->(List V->R)->R)
noncomputable def KA.run (k:KA):Env->(List V->R)->R:=KA.rec (motive:=fun _=>Env->(List V->R)->R) (fun f=>f) k
noncomputable def qzU (l:List O):KA:=List.rec (motive:=fun _=>KA) (.mk fun _ κ=>κ []) (fun o _ ih=>.mk fun e κ=>(rdC o).run e fun v=>ih.run e fun r=>κ (v::r)) l
theorem qr1 (l:List O) (e:Env) (κ:List V->R):(qzU l).run e κ=κ (l.map (rd e)):=by
 induction l generalizing κ with
 | nil=>rfl
 | cons o l ih=>
  show (rdC o).run e (fun v=>(qzU l).run e fun r=>κ (v::r))=_
  rw [qeZ,ih];rfl
noncomputable def iadd (a b:Int):Int:=Int.rec (motive:=fun _=>Int) (fun m=>Int.rec (motive:=fun _=>Int) (fun n=>.ofNat (Nat.add m n)) (fun n=>a+b) b) (fun _=>a+b) a
theorem qAX (a b:Int):iadd a b=a+b:=by cases a<;>cases b<;>rfl
noncomputable def imul (a b:Int):Int:=Int.rec (motive:=fun _=>Int) (fun m=>Int.rec (motive:=fun _=>Int) (fun n=>.ofNat (Nat.mul m n)) (fun n=>a * b) b) (fun _=>a * b) a
theorem qAU (a b:Int):imul a b=a * b:=by cases a<;>cases b<;>rfl
noncomputable def isub (a b:Int):Int:=Int.rec (motive:=fun _=>Int) (fun m=>Int.rec (motive:=fun _=>Int) (fun n=>Bool.rec (motive:=fun _=>Int) (a - b) (.ofNat (Nat.sub m n)) (Nat.ble n m)) (fun n=>a - b) b) (fun _=>a - b) a
theorem qAG (a b:Int):isub a b=a - b:=by
 cases a with
 | ofNat m=>cases b with
  | ofNat n=>
   show Bool.rec (motive:=fun _=>Int) (Int.ofNat m - Int.ofNat n) (Int.ofNat (Nat.sub m n)) (Nat.ble n m)=_
   cases h:Nat.ble n m with
   | false=>rfl
   | true=>
    have:=Nat.le_of_ble_eq_true h
    show Int.ofNat (m - n)=Int.ofNat m - Int.ofNat n
    simp only [Int.ofNat_eq_natCast];omega
  | negSucc n=>rfl
 | negSucc m=>rfl
noncomputable def ile (a b:Int):Bool:=Int.rec (motive:=fun _=>Bool) (fun m=>Int.rec (motive:=fun _=>Bool) (fun n=>Nat.ble m n) (fun _=>false) b) (fun m=>Int.rec (motive:=fun _=>Bool) (fun _=>true) (fun n=>Nat.ble n m) b) a
theorem qsi (a b:Int):ile a b=leI a b:=by cases a<;>cases b<;>rfl
noncomputable def ieq (a b:Int):Bool:=Int.rec (motive:=fun _=>Bool) (fun m=>Int.rec (motive:=fun _=>Bool) (fun n=>qJv m n) (fun _=>false) b) (fun m=>Int.rec (motive:=fun _=>Bool) (fun _=>false) (fun n=>qJv m n) b) a
theorem qx6 (a b:Int):ieq a b=eqI a b:=by cases a<;>cases b<;>rfl
noncomputable def kcode (k:IntKind):Nat:=IntKind.rec (motive:=fun _=>Nat) 0 1 2 3 4 5 6 7 k
theorem qty (a b:IntKind):qJv (kcode a) (kcode b)=eqK a b:=by cases a<;>cases b<;>rfl
noncomputable def kmax (k:IntKind):Nat:=IntKind.rec (motive:=fun _=>Nat) 127 32767 2147483647 9223372036854775807 255 65535 4294967295 18446744073709551615 k
theorem qAZ (k:IntKind):kmax k=qnx k:=by cases k<;>rfl
noncomputable def iwr (k:IntKind) (z:Int):Int:=Int.rec (motive:=fun _=>Int) (fun a=>Bool.rec (motive:=fun _=>Int) (wr k (.ofNat a)) (.ofNat a) (Nat.ble a (kmax k))) (fun a=>wr k (.negSucc a)) z
theorem qCh (k:IntKind) (z:Int):iwr k z=wr k z:=by
 cases z with
 | ofNat a=>
  show Bool.rec (motive:=fun _=>Int) (wr k (.ofNat a)) (.ofNat a) (Nat.ble a (kmax k))=_
  rw [qAZ]
  cases h:Nat.ble a (qnx k) with
  | false=>rfl
  | true=>simp only [wr,h,cond_true]
 | negSucc a=>rfl
noncomputable def inot (b:Bool):Bool:=Bool.rec (motive:=fun _=>Bool) true false b
theorem qrB (b:Bool):inot b=!b:=by cases b<;>rfl
def qsq (pg:Pg) (r:R) (k:K) (call:Call) (n:Nat) (x:Ex × St):Prop:=(∃s,r=some (.nrm,s)/\k.run call n s.env s.H s.lo=some x)\/(r=some x/\x.1≠.nrm)
def qqS (r:Option Or) (dst:Option Nat) (k:K) (call:Call) (n:Nat) (x:Ex × St):Prop:=
 ∃q,r=some q/\((q.pan=false/\∃st,put dst q.v q.st=st/\k.run call n st.env st.H st.lo=some x)\/(q.pan=true/\x=(.pan q.v,q.st)))
def qD (f:KF) (op:OpK) (dst:Option Nat) (k:K):Prop:=∀{call:Call} {n:Nat} {e:Env} {H:List Obj} {lo:Nat} {x:Ex × St},f call n e H lo=some x->qqS (qa call op ⟨e,H,lo⟩) dst k call n x
noncomputable def qfk (dst:Option Nat) (v:V) (k:K):KF:=fun call n e H lo=>match put dst v ⟨e,H,lo⟩ with|⟨e,H,lo⟩=>k.run call n e H lo
theorem qgF {dst:Option Nat} {v:V} {same:Bool} {k:K} {call:Call} {n:Nat} {e:Env} {H:List Obj} {lo:Nat} {x:Ex × St} (h:qfk dst v k call n e H lo=some x):qqS (some ⟨false,same,v,⟨e,H,lo⟩⟩) dst k call n x:=by
 refine ⟨_,rfl,.inl ⟨rfl,_,rfl,?_⟩⟩
 exact h
theorem qh {d:Nat} {v:V} {same:Bool} {k:K} {call:Call} {n:Nat} {e:Env} {H:List Obj} {lo:Nat} {x:Ex × St} (hv:v.isBox=false) (h:k.run call n ((d,v)::e) H lo=some x):qqS (some ⟨false,same,v,⟨e,H,lo⟩⟩) (some d) k call n x:=by
 refine ⟨_,rfl,.inl ⟨rfl,_,rfl,?_⟩⟩
 cases v<;>first|exact h|cases hv
inductive KS where
 | mk (f:Call->St->Option Or)
noncomputable def KS.run (k:KS):Call->St->Option Or:=KS.rec (motive:=fun _=>Call->St->Option Or) (fun f=>f) k
noncomputable def qB0 (op:OpK):KS:=
 match op with
 | .mov x=>.mk fun _ st=>qCs x st
 | .pick c a b=>.mk fun _ st=>qyQ c a b st
 | .alloc loc zero=>.mk fun _ st=>qc5 loc zero st
 | .box loc x=>.mk fun _ st=>qqi loc x st
 | .build zero parts=>.mk fun _ st=>qaU zero parts st
 | .buildSlice zero len parts=>.mk fun _ st=>kz zero len parts st
 | .load mv sl l a=>.mk fun _ st=>qzz mv sl l a st
 | .loadC l a=>.mk fun _ st=>qcD l a st
 | .store sl l a x=>.mk fun _ st=>qai sl l a x st
 | .nilCheck x=>.mk fun _ st=>qmT x st
 | .bin op kd x y=>.mk fun _ st=>qFO op kd x y st
 | .un op x=>.mk fun _ st=>eUn op x st
 | .conv k x=>.mk fun _ st=>qfg k x st
 | .mkFn f first cap=>.mk fun _ st=>qkd f first cap st
 | .sliceS x lo hi=>.mk fun _ st=>jT x lo hi st
 | .fieldAddr x off l=>.mk fun _ st=>qlg x off l st
 | .field x off l=>.mk fun _ st=>qc1 x off l st
 | .indexAddr x i size arr=>.mk fun _ st=>qkE x i size arr st
 | .index x i=>.mk fun _ st=>quq x i st
 | .lookup kk zero m k c=>.mk fun _ st=>zp kk zero m k c st
 | .mapUpdate kk m k x=>.mk fun _ st=>zk kk m k x st
 | .extract x i=>.mk fun _ st=>qoq x i st
 | .bi b args=>.mk fun _ st=>fBi b args st
 | .call f args=>.mk fun call st=>zV call f args st
 | op=>.mk fun call st=>qa call op st
theorem qvu (op:OpK) (call:Call) (st:St):(qB0 op).run call st=qa call op st:=by
 rw [<- qv8]
 cases op<;>rfl
noncomputable def qlq (op:OpK):Bool:=
 match op with
 | .appendR _ _ _ _ | .truncR _ _ | .zerosR _ _ _ _ _ | .buildR _ _ _ _ | .rangeM _ | .mkMap | .mkSlice _ _ _ | .alloc _ _ | .box _ _ | .bytesRow _ | .buildRow _ _ _ | .cvtR _=>true
 | _=>false
noncomputable def qos {α:Type} (b:Bool) (H:List Obj) (k:List Obj->α):α:=Bool.rec (motive:=fun _=>α) (qzL H k) (qpk H k) b
theorem qqE {α:Type} (b:Bool) (H:List Obj) (k:List Obj->α):qos b H k=k H:=by cases b;exact qxA _ _;exact qqD _ _
noncomputable def qDJ (dst:Option Nat) (op:OpK) (k:K):KF:=fun call n e H lo=>
 match (qB0 op).run call ⟨e,H,lo⟩ with
 | some ⟨pan,same,v,⟨e',H',lo'⟩⟩=>Bool.rec (motive:=fun _=>R)
   (qo9 (makes op) v fun v=>Bool.rec (motive:=fun _=>R) (qos (qlq op) H' fun H'=>qj lo' fun lo'=>qfk dst v k call n e' H' lo') (qfk dst v k call n e' H' lo') same)
   (some (.pan v,⟨e',H',lo'⟩)) pan
 | none=>none
theorem qxc {dst:Option Nat} {op:OpK} {k:K}:qD (qDJ dst op k) op dst k:=by
 intro call n e H lo x h
 unfold qDJ at h
 rw [qvu] at h
 split at h
 ·rename_i pan same v e' H' lo' hq
  rw [hq]
  cases pan with
  | false=>
   have h:(qo9 (makes op) v fun v=>Bool.rec (motive:=fun _=>R) (qos (qlq op) H' fun H'=>qj lo' fun lo'=>qfk dst v k call n e' H' lo') (qfk dst v k call n e' H' lo') same)=some x:=h
   rw [qqF] at h
   have h2:qfk dst v k call n e' H' lo'=some x:=by
    cases same with
    | false=>simpa only [qqE,qR] using h
    | true=>exact h
   exact qgF h2
  | true=>
   have h:some (Ex.pan v,(⟨e',H',lo'⟩:St))=some x:=h
   cases h
   exact ⟨_,rfl,.inr ⟨rfl,rfl⟩⟩
 ·cases h
noncomputable def asN (v:V) (z:R) (κ:IntKind->Int->R):R:=OI.rec (motive:=fun _=>R) z κ (vI v)
theorem qaq {v:V} {z:R} {κ:IntKind->Int->R} {x:Ex × St} (h:asN v z κ=some x):z=some x\/∃k n,v=.d (.i k n)/\κ k n=some x:=by
 unfold asN at h
 cases hv:vI v with
 | no=>rw [hv] at h;exact .inl h
 | yes k n=>rw [hv] at h;exact .inr ⟨k,n,qCJ hv,h⟩
noncomputable def qsO (d:Nat) (f:Int->Int->Bool) (a b:KO) (g k:K):KF:=fun call n e H lo=>
 asN (a.run e) (g.run call n e H lo) fun ka x=>asN (b.run e) none fun kb y=>Bool.rec (motive:=fun _=>R) none (Bool.rec (motive:=fun _=>R) (k.run call n ((d,.d (.b false))::e) H lo) (k.run call n ((d,.d (.b true))::e) H lo) (f x y)) (qJv (kcode ka) (kcode kb))
noncomputable def qxX (d:Nat) (f:Int->Int->Int) (a b:KO) (g k:K):KF:=fun call n e H lo=>
 asN (a.run e) (g.run call n e H lo) fun ka x=>asN (b.run e) none fun kb y=>Bool.rec (motive:=fun _=>R) none (qoM (iwr ka (f x y)) fun z=>k.run call n ((d,.d (.i ka z))::e) H lo) (qJv (kcode ka) (kcode kb))
theorem qlB {o:O} {e:Env} {k:IntKind} {n:Int} (h:(ky o).run e=.d (.i k n)):rd e o=.d (.i k n):=by
 rw [qO (by rw [h];trivial),h]
theorem qcy {d:Nat} {f:Int->Int->Bool} {op:BinOp} {x y:O} {g k:K} (hop:qcn op=false) (hf:∀kk a b,qiS op kk a b=some (.b (f a b))) (hg:qD g.run (.bin op .num x y) (some d) k):qD (qsO d f (ky x) (ky y) g k) (.bin op .num x y) (some d) k:=by
 intro call n e H lo z h
 unfold qsO at h
 rcases qaq h with h|⟨ka,a,ha,h⟩
 ·exact hg h
 rcases qaq h with h|⟨kb,b,hb,h⟩
 ·cases h
 rw [qty] at h
 cases hk:eqK ka kb with
 | false=>rw [hk] at h;cases h
 | true=>
  rw [hk] at h
  have he:qa call (.bin op .num x y) ⟨e,H,lo⟩=some ⟨false,true,.d (.b (f a b)),⟨e,H,lo⟩⟩:=by
   simp only [qa,qm6,qlB ha,qlB hb,qqk,hop,hk,cond_true,cond_false,hf,Option.map_some,ok]
  rw [he]
  cases hz:f a b with
  | false=>rw [hz] at h;exact qh rfl h
  | true=>rw [hz] at h;exact qh rfl h
theorem qnd {d:Nat} {f:Int->Int->Int} {op:BinOp} {x y:O} {g k:K} (hop:qcn op=false) (hf:∀kk a b,qiS op kk a b=some (.i kk (wr kk (f a b)))) (hg:qD g.run (.bin op .num x y) (some d) k):qD (qxX d f (ky x) (ky y) g k) (.bin op .num x y) (some d) k:=by
 intro call n e H lo z h
 unfold qxX at h
 rcases qaq h with h|⟨ka,a,ha,h⟩
 ·exact hg h
 rcases qaq h with h|⟨kb,b,hb,h⟩
 ·cases h
 rw [qty] at h
 cases hk:eqK ka kb with
 | false=>rw [hk] at h;cases h
 | true=>
  rw [hk] at h
  have h:(qoM (iwr ka (f a b)) fun z=>k.run call n ((d,.d (.i ka z))::e) H lo)=some z:=h
  rw [qmW,qCh] at h
  have he:qa call (.bin op .num x y) ⟨e,H,lo⟩=some ⟨false,true,.d (.i ka (wr ka (f a b))),⟨e,H,lo⟩⟩:=by
   simp only [qa,qm6,qlB ha,qlB hb,qqk,hop,hk,cond_true,cond_false,hf,Option.map_some,ok]
  rw [he]
  exact qh rfl h
noncomputable def gK (dst:Option Nat) (op:OpK) (k:K):K:=.mk (qDJ dst op k)
theorem qK {dst:Option Nat} {op:OpK} {k:K}:qD (gK dst op k).run op dst k:=qxc
noncomputable def qEO (d:Nat) (op:BinOp) (kd:Kd) (x y:O) (k:K):K:=
 match op,kd with
 | .add,.num=>.mk (qxX d iadd (ky x) (ky y) (gK (some d) (.bin .add .num x y) k) k)
 | .sub,.num=>.mk (qxX d isub (ky x) (ky y) (gK (some d) (.bin .sub .num x y) k) k)
 | .mul,.num=>.mk (qxX d imul (ky x) (ky y) (gK (some d) (.bin .mul .num x y) k) k)
 | .lss,.num=>.mk (qsO d (fun a b=>inot (ile b a)) (ky x) (ky y) (gK (some d) (.bin .lss .num x y) k) k)
 | .leq,.num=>.mk (qsO d ile (ky x) (ky y) (gK (some d) (.bin .leq .num x y) k) k)
 | .gtr,.num=>.mk (qsO d (fun a b=>inot (ile a b)) (ky x) (ky y) (gK (some d) (.bin .gtr .num x y) k) k)
 | .geq,.num=>.mk (qsO d (fun a b=>ile b a) (ky x) (ky y) (gK (some d) (.bin .geq .num x y) k) k)
 | .eql,.num=>.mk (qsO d ieq (ky x) (ky y) (gK (some d) (.bin .eql .num x y) k) k)
 | .neq,.num=>.mk (qsO d (fun a b=>inot (ieq a b)) (ky x) (ky y) (gK (some d) (.bin .neq .num x y) k) k)
 | op,kd=>gK (some d) (.bin op kd x y) k
theorem qwg {d:Nat} {op:BinOp} {kd:Kd} {x y:O} {k:K}:qD (qEO d op kd x y k).run (.bin op kd x y) (some d) k:=by
 unfold qEO
 split
 ·exact qnd rfl (fun kk a b=>by rw [qAX];rfl) qK
 ·exact qnd rfl (fun kk a b=>by rw [qAG];rfl) qK
 ·exact qnd rfl (fun kk a b=>by rw [qAU];rfl) qK
 ·exact qcy rfl (fun kk a b=>by rw [qrB,qsi];rfl) qK
 ·exact qcy rfl (fun kk a b=>by rw [qsi];rfl) qK
 ·exact qcy rfl (fun kk a b=>by rw [qrB,qsi];rfl) qK
 ·exact qcy rfl (fun kk a b=>by rw [qsi];rfl) qK
 ·exact qcy rfl (fun kk a b=>by rw [qx6];rfl) qK
 ·exact qcy rfl (fun kk a b=>by rw [qrB,qx6];rfl) qK
 ·exact qK
theorem qu9 (m:Nat) (v:V):(qnn m v).isBox=false:=by
 cases v with
 | agg cs=>exact qm8 _
 | _=>rfl
theorem qxl (v:V):(ql5 v).isBox=false:=by cases v<;>rfl
theorem qun (e:Env) (o:O):(rd e o).isBox=false:=by
 cases o with
 | t n=>exact qu9 _ _
 | mv n=>exact qxl _
 | _=>rfl
noncomputable def qFw (d:Nat) (x:O) (k:K):KF:=fun call n e H lo=>(rdC x).run e fun v=>k.run call n ((d,v)::(spO x).run e) H lo
theorem qwC {d:Nat} {x:O} {k:K}:qD (qFw d x k) (.mov x) (some d) k:=by
 intro call n e H lo z h
 unfold qFw at h
 rw [qeZ,qkA] at h
 exact qh (qun e x) h
noncomputable def asP (v:V) (z:R) (p l:Nat->Nat->R) (c:D->R):R:=OP.rec (motive:=fun _=>R) z p l c (vP v)
theorem qdh {v:V} {z:R} {p l:Nat->Nat->R} {c:D->R} {x:Ex × St} (h:asP v z p l c=some x):z=some x\/(∃a b,v=.ptr a b/\p a b=some x)\/(∃a b,v=.lp a b/\l a b=some x)\/∃y,v=.cp y/\c y=some x:=by
 unfold asP at h
 cases hv:vP v with
 | no=>rw [hv] at h;exact .inl h
 | p a b=>rw [hv] at h;exact .inr (.inl ⟨a,b,qII hv,h⟩)
 | l a b=>rw [hv] at h;exact .inr (.inr (.inl ⟨a,b,qI5 hv,h⟩))
 | c y=>rw [hv] at h;exact .inr (.inr (.inr ⟨y,qIF hv,h⟩))
noncomputable def qrO (o:Option Obj):Option (List V):=Option.rec (motive:=fun _=>Option (List V)) none (fun ob=>Obj.rec (motive:=fun _=>Option (List V)) (fun cs=>some cs) (fun _=>none) (fun _ _=>none) none (fun _=>none) ob) o
theorem qtO {o:Option Obj} {cs:List V} (h:qrO o=some cs):o=some (.cells cs):=by
 cases o with
 | none=>cases h
 | some ob=>cases ob with
  | cells c=>have h:some c=some cs:=h;cases h;rfl
  | _=>cases h
noncomputable def quN (o:Option Obj):Option (List V):=Option.rec (motive:=fun _=>Option (List V)) none (fun ob=>Obj.rec (motive:=fun _=>Option (List V)) (fun cs=>some cs) (fun _=>none) (fun _ cs=>some cs) none (fun _=>none) ob) o
theorem qtt {o:Option Obj} {cs:List V} (h:quN o=some cs):o=some (.cells cs)\/∃l,o=some (.row l cs):=by
 cases o with
 | none=>cases h
 | some ob=>cases ob with
  | cells c=>have h:some c=some cs:=h;cases h;exact .inl rfl
  | row l c=>have h:some c=some cs:=h;cases h;exact .inr ⟨l,rfl⟩
  | _=>cases h
noncomputable def qsx (v:V):Option (List V):=V.rec (motive_1:=fun _=>Option (List V)) (motive_2:=fun _=>Option (List V)) (fun _=>none) (fun _=>none) (fun _=>none) (fun _ _=>none) (fun _ _=>none) (fun cs _=>some cs) (fun _=>none) (fun _ _ _ _=>none) (fun _ _ _=>none) (fun _=>none) (fun _ _ _ _ _=>none) (fun _ _ _=>none) (fun _ _=>none) (fun _ _=>none) none none (fun _ _ _ _=>none) v
theorem qqH {v:V} {cs:List V} (h:qsx v=some cs):v=.box cs:=by
 cases v with
 | box c=>have h:some c=some cs:=h;cases h;rfl
 | _=>cases h
noncomputable def orN {α:Type} (o:Option α) (κ:α->R):R:=Option.rec (motive:=fun _=>R) none κ o
theorem kD {α:Type} {o:Option α} {κ:α->R} {x:Ex × St} (h:orN o κ=some x):∃a,o=some a/\κ a=some x:=by
 cases o with
 | none=>cases h
 | some a=>exact ⟨a,rfl,h⟩
noncomputable def orZ {α:Type} (o:Option α) (z:R) (κ:α->R):R:=Option.rec (motive:=fun _=>R) z κ o
theorem ql9 {α:Type} {o:Option α} {z:R} {κ:α->R} {x:Ex × St} (h:orZ o z κ=some x):z=some x\/∃a,o=some a/\κ a=some x:=by
 cases o with
 | none=>exact .inl h
 | some a=>exact .inr ⟨a,rfl,h⟩
noncomputable def qtT (l:L) (off:Nat) (cs:List V) (κ:V->R):R:=L.rec (motive:=fun _=>R) (fun n agg=>Bool.rec (motive:=fun _=>R) (orN (fnth cs off) fun v=>qBL v κ) (orN (V.part off ⟨n,agg⟩ cs) fun v=>qbN v κ) agg) l
theorem qpZ {l:L} {off:Nat} {cs:List V} {κ:V->R} {x:Ex × St} (h:qtT l off cs κ=some x):∃v,V.part off l cs=some v/\v.isBox=false/\κ v=some x:=by
 obtain ⟨n,agg⟩:=l
 cases agg with
 | false=>
  obtain ⟨v,h1,h2⟩:=kD (o:=fnth cs off) h
  rw [zP] at h1
  obtain ⟨h3,h4⟩:=quU h2
  exact ⟨_,by simp [V.part,h1],h3,h4⟩
 | true=>
  obtain ⟨v,h1,h2⟩:=kD (o:=V.part off ⟨n,true⟩ cs) h
  rw [qaS] at h2
  refine ⟨v,h1,?_,h2⟩
  simp only [V.part,if_true] at h1
  split at h1
  ·cases h1;exact qm8 _
  ·cases h1
noncomputable def isAgg (x:D):Option (List D):=D.rec (motive_1:=fun _=>Option (List D)) (motive_2:=fun _=>Option (List D)) (fun _=>none) (fun _ _=>none) (fun _=>none) none (fun _ _=>none) (fun cs _=>some cs) none none none none none (fun _ _ _ _=>none) x
noncomputable def qrT (l:L) (x:D) (κ:V->R):R:=L.rec (motive:=fun _=>R) (fun n agg=>Option.rec (motive:=fun _=>R) (Bool.rec (motive:=fun _=>R) (κ (.d x)) none agg) (fun cs=>Bool.rec (motive:=fun _=>R) none (Bool.rec (motive:=fun _=>R) none (κ (.d x)) (qJv (jo cs) n)) agg) (isAgg x)) l
theorem qnO {l:L} {x:D} {κ:V->R} {y:Ex × St} {st:St} (h:qrT l x κ=some y):qF l st (.cp x)=some (.d x)/\κ (.d x)=some y:=by
 obtain ⟨n,agg⟩:=l
 cases x with
 | agg cs=>
  cases agg with
  | false=>cases h
  | true=>
   have h:Bool.rec (motive:=fun _=>R) none (κ (.d (.agg cs))) (qJv (jo cs) n)=some y:=h
   cases hb:qJv (jo cs) n with
   | false=>rw [hb] at h;cases h
   | true=>
    rw [hb] at h
    have:=qJs hb
    rw [kh] at this
    exact ⟨by simp [qF,this],h⟩
 | _=>
  cases agg with
  | false=>exact ⟨rfl,h⟩
  | true=>cases h
noncomputable def qBQ (d:Nat) (sl:Option Nat) (l:L) (a:O) (g k:K):KF:=
 Option.rec (motive:=fun _=>KF)
  (fun call n e H lo=>asP ((ky a).run e) (g.run call n e H lo) (fun id off=>orZ (quN (fnth H id)) (g.run call n e H lo) fun cs=>qtT l off cs fun v=>k.run call n ((d,v)::e) H lo) (fun _ _=>none) (fun x=>qrT l x fun v=>k.run call n ((d,v)::e) H lo))
  (fun s0 call n e H lo=>asP ((ky a).run e) (g.run call n e H lo) (fun _ _=>none) (fun s off=>Bool.rec (motive:=fun _=>R) none (orN (qsx (fget s e)) fun cs=>qtT l off cs fun v=>k.run call n ((d,v)::e) H lo) (qJv s0 s)) (fun _=>none)) sl
theorem qug {d:Nat} {sl:Option Nat} {l:L} {a:O} {g k:K} (hg:qD g.run (.load false sl l a) (some d) k):qD (qBQ d sl l a g k) (.load false sl l a) (some d) k:=by
 intro call n e H lo z h
 cases sl with
 | none=>
  have h:(asP ((ky a).run e) (g.run call n e H lo) (fun id off=>orZ (quN (fnth H id)) (g.run call n e H lo) fun cs=>qtT l off cs fun v=>k.run call n ((d,v)::e) H lo) (fun _ _=>none) (fun x=>qrT l x fun v=>k.run call n ((d,v)::e) H lo))=some z:=h
  rcases qdh h with h|⟨id,off,ha,h⟩|⟨_,_,_,h⟩|⟨y,ha,h⟩
  ·exact hg h
  ·rcases ql9 h with h|⟨cs,hc,h⟩
   ·exact hg h
   obtain ⟨v,hv,hb,h⟩:=qpZ h
   have ha':rd e a=.ptr id off:=by rw [qO (by rw [ha];trivial),ha]
   have he:qa call (.load false none l a) ⟨e,H,lo⟩=some ⟨false,true,v,⟨e,H,lo⟩⟩:=by
    rcases qtt hc with hc|⟨l',hc⟩<;>
    ·rw [zP] at hc
     simp only [qa,zz,ha',qV,qF,hc,hv,Bool.not_true,cond_false,ok]
   rw [he];exact qh hb h
  ·cases h
  ·obtain ⟨h1,h2⟩:=qnO (st:=⟨e,H,lo⟩) h
   have ha':rd e a=.cp y:=by rw [qO (by rw [ha];trivial),ha]
   have he:qa call (.load false none l a) ⟨e,H,lo⟩=some ⟨false,true,.d y,⟨e,H,lo⟩⟩:=by
    simp only [qa,zz,ha',qV,h1,Bool.not_true,cond_false,ok]
   rw [he];exact qh rfl h2
 | some s0=>
  have h:(asP ((ky a).run e) (g.run call n e H lo) (fun _ _=>none) (fun s off=>Bool.rec (motive:=fun _=>R) none (orN (qsx (fget s e)) fun cs=>qtT l off cs fun v=>k.run call n ((d,v)::e) H lo) (qJv s0 s)) (fun _=>none))=some z:=h
  rcases qdh h with h|⟨_,_,_,h⟩|⟨s,off,ha,h⟩|⟨_,_,h⟩
  ·exact hg h
  ·cases h
  ·cases hb:qJv s0 s with
   | false=>rw [hb] at h;cases h
   | true=>
    rw [hb] at h
    obtain ⟨cs,hc,h⟩:=kD (o:=qsx (fget s e)) h
    obtain ⟨v,hv,hbx,h⟩:=qpZ h
    have hc:=qqH hc
    rw [jF] at hc
    have ha':rd e a=.lp s off:=by rw [qO (by rw [ha];trivial),ha]
    have he:qa call (.load false (some s0) l a) ⟨e,H,lo⟩=some ⟨false,true,v,⟨e,H,lo⟩⟩:=by
     simp only [qa,zz,ha',qV,qF,hc,hv,hb,Bool.not_true,cond_false,ok]
    rw [he];exact qh hbx h
  ·cases h
noncomputable def qu5 (d:Nat) (l:L) (a:O) (k:K):KF:=fun call n e H lo=>asP ((ky a).run e) none (fun _ _=>none) (fun _ _=>none) (fun x=>qrT l x fun v=>k.run call n ((d,v)::e) H lo)
theorem qtz {d:Nat} {l:L} {a:O} {k:K}:qD (qu5 d l a k) (.loadC l a) (some d) k:=by
 intro call n e H lo z h
 unfold qu5 at h
 rcases qdh h with h|⟨_,_,_,h⟩|⟨_,_,_,h⟩|⟨y,ha,h⟩
 ·cases h
 ·cases h
 ·cases h
 ·obtain ⟨h1,h2⟩:=qnO (st:=⟨e,H,lo⟩) h
  have ha':rd e a=.cp y:=by rw [qO (by rw [ha];trivial),ha]
  have he:qa call (.loadC l a) ⟨e,H,lo⟩=some ⟨false,true,.d y,⟨e,H,lo⟩⟩:=by
   simp only [qa,qcD,ha',h1,ok]
  rw [he];exact qh rfl h2
noncomputable def qEG (d:Nat) (a:O) (g k:K):KF:=fun call n e H lo=>
 asP ((ky a).run e) (g.run call n e H lo) (fun id off=>k.run call n ((d,.ptr id off)::e) H lo) (fun s off=>k.run call n ((d,.lp s off)::e) H lo) (fun x=>k.run call n ((d,.cp x)::e) H lo)
theorem qwM {d:Nat} {a:O} {g k:K} (hg:qD g.run (.nilCheck a) (some d) k):qD (qEG d a g k) (.nilCheck a) (some d) k:=by
 intro call n e H lo z h
 unfold qEG at h
 rcases qdh h with h|⟨id,off,ha,h⟩|⟨s,off,ha,h⟩|⟨y,ha,h⟩
 ·exact hg h
 ·have ha':rd e a=.ptr id off:=(qO (by rw [ha];trivial)).trans ha
  rw [show qa call (.nilCheck a) ⟨e,H,lo⟩=some ⟨false,true,.ptr id off,⟨e,H,lo⟩⟩ by simp only [qa,zj,ha',ok]]
  exact qh rfl h
 ·have ha':rd e a=.lp s off:=(qO (by rw [ha];trivial)).trans ha
  rw [show qa call (.nilCheck a) ⟨e,H,lo⟩=some ⟨false,true,.lp s off,⟨e,H,lo⟩⟩ by simp only [qa,zj,ha',ok]]
  exact qh rfl h
 ·have ha':rd e a=.cp y:=(qO (by rw [ha];trivial)).trans ha
  rw [show qa call (.nilCheck a) ⟨e,H,lo⟩=some ⟨false,true,.cp y,⟨e,H,lo⟩⟩ by simp only [qa,zj,ha',ok]]
  exact qh rfl h
noncomputable def qFu (d:Nat) (a:O) (o:Nat) (l:L) (g k:K):KF:=fun call n e H lo=>
 asP ((ky a).run e) (g.run call n e H lo) (fun id off=>qj (Nat.add off o) fun off=>k.run call n ((d,.ptr id off)::e) H lo) (fun s off=>qj (Nat.add off o) fun off=>k.run call n ((d,.lp s off)::e) H lo) (fun _=>g.run call n e H lo)
theorem qgl {a:Nat} {κ:Nat->R}:qj a κ=κ a:=qR a κ
theorem qw7 {d:Nat} {a:O} {o:Nat} {l:L} {g k:K} (hg:qD g.run (.fieldAddr a o l) (some d) k):qD (qFu d a o l g k) (.fieldAddr a o l) (some d) k:=by
 intro call n e H lo z h
 unfold qFu at h
 rcases qdh h with h|⟨id,off,ha,h⟩|⟨s,off,ha,h⟩|⟨y,ha,h⟩
 ·exact hg h
 ·rw [qgl] at h
  have ha':rd e a=.ptr id off:=(qO (by rw [ha];trivial)).trans ha
  have he:qa call (.fieldAddr a o l) ⟨e,H,lo⟩=some ⟨false,true,.ptr id (off+o),⟨e,H,lo⟩⟩:=by
   simp only [qa,kg,ha',ok]
  rw [he];exact qh rfl h
 ·rw [qgl] at h
  have ha':rd e a=.lp s off:=(qO (by rw [ha];trivial)).trans ha
  have he:qa call (.fieldAddr a o l) ⟨e,H,lo⟩=some ⟨false,true,.lp s (off+o),⟨e,H,lo⟩⟩:=by
   simp only [qa,kg,ha',ok]
  rw [he];exact qh rfl h
 ·exact hg h
noncomputable def qq3 (z:Int) (κ:Nat->R):R:=Int.rec (motive:=fun _=>R) κ (fun _=>none) z
theorem qdP {z:Int} {κ:Nat->R} {x:Ex × St} (h:qq3 z κ=some x):∃m:Nat,z=.ofNat m/\κ m=some x:=by
 cases z with
 | ofNat m=>exact ⟨m,rfl,h⟩
 | negSucc m=>cases h
noncomputable def szD (y:D):Nat:=D.rec (motive_1:=fun _=>Nat) (motive_2:=fun _=>Nat) (fun _=>1) (fun _ _=>1) (fun _=>1) 1 (fun _ _=>1) (fun cs _=>jo cs) 1 1 1 1 1 (fun _ _ _ _=>1) y
theorem qrh (y:D):szD y=y.cells.length:=by
 cases y with
 | agg cs=>exact kh cs
 | _=>rfl
noncomputable def asL (v:V) (z nl:R) (κ:List D->R):R:=OL.rec (motive:=fun _=>R) z nl κ (vL v)
theorem qpt {v:V} {z nl:R} {κ:List D->R} {x:Ex × St} (h:asL v z nl κ=some x):z=some x\/(v=.d .nil/\nl=some x)\/∃xs,v=.d (.sl xs)/\κ xs=some x:=by
 unfold asL at h
 cases hv:vL v with
 | no=>rw [hv] at h;exact .inl h
 | nil=>rw [hv] at h;exact .inr (.inl ⟨qEj hv,h⟩)
 | sl xs=>rw [hv] at h;exact .inr (.inr ⟨xs,qG2 hv,h⟩)
noncomputable def asT (v:V) (z:R) (κ:List Nat->R):R:=OT.rec (motive:=fun _=>R) z κ (vT v)
theorem qmu {v:V} {z:R} {κ:List Nat->R} {x:Ex × St} (h:asT v z κ=some x):z=some x\/∃t,v=.d (.s t)/\κ t=some x:=by
 unfold asT at h
 cases hv:vT v with
 | no=>rw [hv] at h;exact .inl h
 | s t=>rw [hv] at h;exact .inr ⟨t,qHt hv,h⟩
noncomputable def qDF (d:Nat) (x i:O) (size:Nat) (g k:K):KF:=fun call n e H lo=>
 asL ((ky x).run e) (g.run call n e H lo) none fun xs=>asN ((ky i).run e) none fun _ z=>qq3 z fun m=>orN (fnth xs m) fun y=>Bool.rec (motive:=fun _=>R) none (k.run call n ((d,.cp y)::e) H lo) (qJv (szD y) size)
theorem qwU {d:Nat} {x i:O} {size:Nat} {g k:K} (hg:qD g.run (.indexAddr x i size none) (some d) k):qD (qDF d x i size g k) (.indexAddr x i size none) (some d) k:=by
 intro call n e H lo z h
 unfold qDF at h
 rcases qpt h with h|⟨_,h⟩|⟨xs,hx,h⟩
 ·exact hg h
 ·cases h
 rcases qaq h with h|⟨kk,w,hi,h⟩
 ·cases h
 obtain ⟨m,rfl,h⟩:=qdP h
 obtain ⟨y,hy,h⟩:=kD h
 rw [zP] at hy
 rw [qrh] at h
 cases hb:qJv y.cells.length size with
 | false=>rw [hb] at h;cases h
 | true=>
  rw [hb] at h
  have hx':rd e x=.d (.sl xs):=(qO (by rw [hx];trivial)).trans hx
  have hl:leI 0 (Int.ofNat m)=true:=by show Nat.ble 0 m=true;exact Nat.ble_eq_true_of_le (Nat.zero_le m)
  have ht:(Int.ofNat m).toNat=m:=rfl
  have he:qa call (.indexAddr x i size none) ⟨e,H,lo⟩=some ⟨false,true,.cp y,⟨e,H,lo⟩⟩:=by
   simp only [qa,kl,ja,hx',qlB hi,hl,ht,hy,hb,cond_true,ok]
  rw [he];exact qh rfl h
noncomputable def qFL (d:Nat) (x i:O) (k:K):KF:=fun call n e H lo=>
 asT ((ky x).run e) none fun t=>asN ((ky i).run e) none fun _ z=>qq3 z fun m=>orN (fnth t m) fun y=>k.run call n ((d,.d (.i .u8 (.ofNat y)))::e) H lo
theorem qwS {d:Nat} {x i:O} {k:K}:qD (qFL d x i k) (.index x i) (some d) k:=by
 intro call n e H lo z h
 unfold qFL at h
 rcases qmu h with h|⟨t,hx,h⟩
 ·cases h
 rcases qaq h with h|⟨kk,w,hi,h⟩
 ·cases h
 obtain ⟨m,rfl,h⟩:=qdP h
 obtain ⟨y,hy,h⟩:=kD h
 rw [zP] at hy
 have hx':rd e x=.d (.s t):=(qO (by rw [hx];trivial)).trans hx
 have hl:leI 0 (Int.ofNat m)=true:=by show Nat.ble 0 m=true;exact Nat.ble_eq_true_of_le (Nat.zero_le m)
 have ht:(Int.ofNat m).toNat=m:=rfl
 have he:qa call (.index x i) ⟨e,H,lo⟩=some ⟨false,true,.d (.i .u8 (.ofNat y)),⟨e,H,lo⟩⟩:=by
  simp only [qa,qdg,hx',qlB hi,hl,ht,hy,cond_true,ok];rfl
 rw [he];exact qh rfl h
noncomputable def asU (v:V) (κ:List V->R):R:=OU.rec (motive:=fun _=>R) none κ (vU v)
theorem qyB {v:V} {κ:List V->R} {x:Ex × St} (h:asU v κ=some x):∃vs,v=.tup vs/\κ vs=some x:=by
 unfold asU at h
 cases hv:vU v with
 | no=>rw [hv] at h;cases h
 | t vs=>rw [hv] at h;exact ⟨vs,qI2 hv,h⟩
noncomputable def qDf (d m i:Nat) (k:K):KF:=fun call n e H lo=>
 asU (fget m e) fun vs=>orN (fnth vs i) fun v=>qvZ v fun v=>k.run call n ((d,v)::e) H lo
theorem qw4 {d m i:Nat} {k:K}:qD (qDf d m i k) (.extract (.t m) i) (some d) k:=by
 intro call n e H lo z h
 unfold qDf at h
 obtain ⟨vs,hv,h⟩:=qyB h
 obtain ⟨v,hn,h⟩:=kD h
 obtain ⟨hb,h⟩:=qkx h
 rw [jF] at hv
 rw [zP] at hn
 have he:qa call (.extract (.t m) i) ⟨e,H,lo⟩=some ⟨false,true,copy v,⟨e,H,lo⟩⟩:=by
  simp only [qa,jJ,hv,hn,ok]
 rw [he];exact qh hb h
noncomputable def qz7 (d:Nat) (x:O) (k:K):KF:=fun call n e H lo=>
 asT ((ky x).run e) none fun t=>qj (jo t) fun m=>k.run call n ((d,.d (.i .i64 (.ofNat m)))::e) H lo
theorem qul {d:Nat} {x:O} {k:K}:qD (qz7 d x k) (.bi .lenS [x]) (some d) k:=by
 intro call n e H lo z h
 unfold qz7 at h
 rcases qmu h with h|⟨t,hx,h⟩
 ·cases h
 rw [qgl,kh] at h
 have hx':rd e x=.d (.s t):=(qO (by rw [hx];trivial)).trans hx
 have he:qa call (.bi .lenS [x]) ⟨e,H,lo⟩=some ⟨false,true,.d (.i .i64 (.ofNat t.length)),⟨e,H,lo⟩⟩:=by
  simp only [qa,eBi,qka,hx',ok];rfl
 rw [he];exact qh rfl h
noncomputable def qym (d:Nat) (x:O) (g k:K):KF:=fun call n e H lo=>
 asL ((ky x).run e) (g.run call n e H lo) (k.run call n ((d,.d (.i .i64 (.ofNat 0)))::e) H lo) fun xs=>qj (jo xs) fun m=>k.run call n ((d,.d (.i .i64 (.ofNat m)))::e) H lo
theorem qvi {d:Nat} {x:O} {g k:K} (hg:qD g.run (.bi .lenL [x]) (some d) k):qD (qym d x g k) (.bi .lenL [x]) (some d) k:=by
 intro call n e H lo z h
 unfold qym at h
 rcases qpt h with h|⟨hx,h⟩|⟨xs,hx,h⟩
 ·exact hg h
 ·have hx':rd e x=.d .nil:=(qO (by rw [hx];trivial)).trans hx
  have he:qa call (.bi .lenL [x]) ⟨e,H,lo⟩=some ⟨false,true,.d (.i .i64 (.ofNat 0)),⟨e,H,lo⟩⟩:=by
   simp only [qa,eBi,qdi,qBg,hx',ok];rfl
  rw [he];exact qh rfl h
 ·rw [qgl,kh] at h
  have hx':rd e x=.d (.sl xs):=(qO (by rw [hx];trivial)).trans hx
  have he:qa call (.bi .lenL [x]) ⟨e,H,lo⟩=some ⟨false,true,.d (.i .i64 (.ofNat xs.length)),⟨e,H,lo⟩⟩:=by
   simp only [qa,eBi,qdi,qBg,hx',ok];rfl
  rw [he];exact qh rfl h
noncomputable def asB (v:V) (a b:R):R:=OB.rec (motive:=fun _=>R) none b a (vB v)
theorem qpf {v:V} {a b:R} {x:Ex × St} (h:asB v a b=some x):(v=.d (.b true)/\a=some x)\/(v=.d (.b false)/\b=some x):=by
 unfold asB at h
 cases hv:vB v with
 | no=>rw [hv] at h;cases h
 | t=>rw [hv] at h;exact .inl ⟨qIZ hv,h⟩
 | f=>rw [hv] at h;exact .inr ⟨qI0 hv,h⟩
noncomputable def qC8 (d:Nat) (x:O) (k:K):KF:=fun call n e H lo=>
 asB ((ky x).run e) (k.run call n ((d,.d (.b false))::e) H lo) (k.run call n ((d,.d (.b true))::e) H lo)
theorem qwE {d:Nat} {x:O} {k:K}:qD (qC8 d x k) (.un .not x) (some d) k:=by
 intro call n e H lo z h
 unfold qC8 at h
 rcases qpf h with ⟨hx,h⟩|⟨hx,h⟩
 ·have hx':rd e x=.d (.b true):=(qO (by rw [hx];trivial)).trans hx
  rw [show qa call (.un .not x) ⟨e,H,lo⟩=some ⟨false,true,.d (.b false),⟨e,H,lo⟩⟩ by simp only [qa,eUn,hx',unD,ok];rfl]
  exact qh rfl h
 ·have hx':rd e x=.d (.b false):=(qO (by rw [hx];trivial)).trans hx
  rw [show qa call (.un .not x) ⟨e,H,lo⟩=some ⟨false,true,.d (.b true),⟨e,H,lo⟩⟩ by simp only [qa,eUn,hx',unD,ok];rfl]
  exact qh rfl h
noncomputable def quG (v:V):Bool:=V.rec (motive_1:=fun _=>Bool) (motive_2:=fun _=>Bool) (fun x=>D.rec (motive_1:=fun _=>Bool) (motive_2:=fun _=>Bool) (fun _=>true) (fun _ _=>true) (fun _=>true) true (fun _ _=>true) (fun _ _=>false) true true true true true (fun _ _ _ _=>true) x) (fun _=>true) (fun _=>true) (fun _ _=>true) (fun _ _=>false) (fun _ _=>false) (fun _=>false) (fun _ _ _ _=>true) (fun _ _ _=>true) (fun _=>true) (fun _ _ _ _ _=>false) (fun _ _ _=>false) (fun _ _=>false) (fun _ _=>false) false false (fun _ _ _ _=>false) v
theorem qvx {v:V} (h:quG v=true):v.cells=[v]/\V.ones [v]=true:=by
 cases v with
 | d x=>cases x<;>first|exact ⟨rfl,rfl⟩|cases h
 | _=>first|exact ⟨rfl,rfl⟩|cases h
noncomputable def qtA (v:V) (cs:List V):Nat->(List V->R)->R:=
 List.rec (motive:=fun _=>Nat->(List V->R)->R) (fun _ _=>none) (fun c t ih off κ=>Nat.rec (motive:=fun _=>R) (κ (v::t)) (fun m _=>ih m fun t'=>κ (c::t')) off) cs
theorem qjr {v:V}:∀{cs:List V} {off:Nat} {κ:List V->R} {x:Ex × St},qtA v cs off κ=some x->∃cs',qaj cs off [v]=some cs'/\κ cs'=some x
 | [],off,κ,x,h=>by cases h
 | c::t,0,κ,x,h=>⟨v::t,by simp [qaj],h⟩
 | c::t,m+1,κ,x,h=>by
  have h:qtA v t m (fun t'=>κ (c::t'))=some x:=h
  obtain ⟨cs',h1,h2⟩:=qjr h
  refine ⟨c::cs',?_,h2⟩
  simp only [qaj,List.length_cons,List.length_nil] at h1 |-
  split at h1
  ·rename_i hl
   cases h1
   rw [if_pos (by omega)]
   simp [Nat.add_right_comm]
  ·cases h1
noncomputable def qks (o:Obj) (H:List Obj):Nat->(List Obj->R)->R:=
 List.rec (motive:=fun _=>Nat->(List Obj->R)->R) (fun _ _=>none) (fun c t ih off κ=>Nat.rec (motive:=fun _=>R) (κ (o::t)) (fun m _=>ih m fun t'=>κ (c::t')) off) H
theorem qaY {o:Obj}:∀{H:List Obj} {id:Nat} {κ:List Obj->R} {x:Ex × St},qks o H id κ=some x->κ (qI H id o)=some x
 | [],off,κ,x,h=>by cases h
 | c::t,0,κ,x,h=>h
 | c::t,m+1,κ,x,h=>by
  have h:qks o t m (fun t'=>κ (c::t'))=some x:=h
  exact qaY (H:=t) (id:=m) (κ:=fun t'=>κ (c::t')) h
noncomputable def qjI (a b:Nat) (κ:Nat->R):R:=Bool.rec (motive:=fun _=>R) (κ b) (κ a) (Nat.ble a b)
theorem qen (a b:Nat) (κ:Nat->R):qjI a b κ=κ (min a b):=by
 unfold qjI
 cases h:Nat.ble a b with
 | true=>rw [Nat.min_eq_left (Nat.le_of_ble_eq_true h)]
 | false=>
  have:¬a<=b:=fun hc=>by rw [Nat.ble_eq_true_of_le hc] at h;cases h
  rw [Nat.min_eq_right (by omega)]
noncomputable def qxD (g k:K) (v:V) (id off:Nat) (call:Call) (n:Nat) (e:Env) (H:List Obj) (lo:Nat) (e':Env):R:=
 match fnth H id with
 | some (.row l cs)=>Bool.rec (motive:=fun _=>R) (g.run call n e H lo) (qtA v cs off fun cs=>qks (.row l cs) H id fun H=>qjI lo id fun lo=>k.run call n e' H lo) v.ok
 | _=>g.run call n e H lo
noncomputable def qHJ (sl:Option Nat) (a x:O) (g k:K):KF:=
 Option.rec (motive:=fun _=>KF)
  (fun call n e H lo=>asP ((ky a).run e) (g.run call n e H lo) (fun id off=>(rdC x).run e fun v=>Bool.rec (motive:=fun _=>R) (g.run call n e H lo) (orZ (qrO (fnth H id)) (qxD g k v id off call n e H lo ((spO x).run e)) fun cs=>qtA v cs off fun cs=>qks (.cells cs) H id fun H=>qjI lo id fun lo=>k.run call n ((spO x).run e) H lo) (quG v)) (fun _ _=>none) (fun _=>none))
  (fun s0 call n e H lo=>asP ((ky a).run e) (g.run call n e H lo) (fun _ _=>none) (fun s off=>(rdC x).run e fun v=>Bool.rec (motive:=fun _=>R) (g.run call n e H lo) (Bool.rec (motive:=fun _=>R) none (orN (qsx (fget s ((spO x).run e))) fun cs=>qtA v cs off fun cs=>k.run call n ((s,.box cs)::(spO x).run e) H lo) (qJv s0 s)) (quG v)) (fun _=>none)) sl
theorem qwb {sl:Option Nat} {a x:O} {g k:K} (hg:qD g.run (.store sl ⟨1,false⟩ a x) none k):qD (qHJ sl a x g k) (.store sl ⟨1,false⟩ a x) none k:=by
 intro call n e H lo z h
 cases sl with
 | none=>
  have h:(asP ((ky a).run e) (g.run call n e H lo) (fun id off=>(rdC x).run e fun v=>Bool.rec (motive:=fun _=>R) (g.run call n e H lo) (orZ (qrO (fnth H id)) (qxD g k v id off call n e H lo ((spO x).run e)) fun cs=>qtA v cs off fun cs=>qks (.cells cs) H id fun H=>qjI lo id fun lo=>k.run call n ((spO x).run e) H lo) (quG v)) (fun _ _=>none) (fun _=>none))=some z:=h
  rcases qdh h with h|⟨id,off,ha,h⟩|⟨_,_,_,h⟩|⟨y,ha,h⟩
  ·exact hg h
  ·rw [qeZ] at h
   cases ho:quG (rd e x) with
   | false=>rw [ho] at h;exact hg h
   | true=>
    rw [ho] at h
    obtain ⟨h1,h2⟩:=qvx ho
    rcases ql9 (o:=qrO (fnth H id)) h with h|⟨cs,hc,h⟩
    ·unfold qxD at h
     rw [zP] at h
     split at h
     ·rename_i l' cs hob
      cases hok:(rd e x).ok with
      | false=>rw [hok] at h;exact hg h
      | true=>
       rw [hok] at h
       obtain ⟨cs',hs,h⟩:=qjr h
       have h:=qaY h
       rw [qen,qkA] at h
       have ha':rd e a=.ptr id off:=(qO (by rw [ha];trivial)).trans ha
       have he:qa call (.store none ⟨1,false⟩ a x) ⟨e,H,lo⟩=some ⟨false,false,.undef,⟨spent x e,qI H id (.row l' cs'),min lo id⟩⟩:=by
        simp only [qa,qai,ha',qV,qa3,hob,h1,h2,hs,hok,V.ok.oks,Bool.not_true,cond_false,okH,List.length_cons,List.length_nil,Nat.zero_add,decide_true,Bool.and_self,if_true]
       rw [he]
       exact ⟨_,rfl,.inl ⟨rfl,_,rfl,h⟩⟩
     ·exact hg h
    obtain ⟨cs',hs,h⟩:=qjr h
    have h:=qaY h
    rw [qen,qkA] at h
    have hc:=qtO hc
    rw [zP] at hc
    have ha':rd e a=.ptr id off:=(qO (by rw [ha];trivial)).trans ha
    have he:qa call (.store none ⟨1,false⟩ a x) ⟨e,H,lo⟩=some ⟨false,false,.undef,⟨spent x e,qI H id (.cells cs'),min lo id⟩⟩:=by
     simp only [qa,qai,ha',qV,qa3,hc,h1,h2,hs,Bool.not_true,cond_false,okH,List.length_cons,List.length_nil,Nat.zero_add,decide_true,Bool.and_self,if_true]
    rw [he]
    exact ⟨_,rfl,.inl ⟨rfl,_,rfl,h⟩⟩
  ·cases h
  ·cases h
 | some s0=>
  have h:(asP ((ky a).run e) (g.run call n e H lo) (fun _ _=>none) (fun s off=>(rdC x).run e fun v=>Bool.rec (motive:=fun _=>R) (g.run call n e H lo) (Bool.rec (motive:=fun _=>R) none (orN (qsx (fget s ((spO x).run e))) fun cs=>qtA v cs off fun cs=>k.run call n ((s,.box cs)::(spO x).run e) H lo) (qJv s0 s)) (quG v)) (fun _=>none))=some z:=h
  rcases qdh h with h|⟨_,_,_,h⟩|⟨s,off,ha,h⟩|⟨_,_,h⟩
  ·exact hg h
  ·cases h
  ·rw [qeZ] at h
   cases ho:quG (rd e x) with
   | false=>rw [ho] at h;exact hg h
   | true=>
    rw [ho] at h
    obtain ⟨h1,h2⟩:=qvx ho
    have h:Bool.rec (motive:=fun _=>R) none (orN (qsx (fget s ((spO x).run e))) fun cs=>qtA (rd e x) cs off fun cs=>k.run call n ((s,.box cs)::(spO x).run e) H lo) (qJv s0 s)=some z:=h
    cases hb:qJv s0 s with
    | false=>rw [hb] at h;cases h
    | true=>
     rw [hb] at h
     obtain ⟨cs,hc,h⟩:=kD (o:=qsx (fget s ((spO x).run e))) h
     obtain ⟨cs',hs,h⟩:=qjr h
     have hc:=qqH hc
     rw [jF,qkA] at hc
     rw [qkA] at h
     have ha':rd e a=.lp s off:=(qO (by rw [ha];trivial)).trans ha
     have he:qa call (.store (some s0) ⟨1,false⟩ a x) ⟨e,H,lo⟩=some ⟨false,true,.undef,⟨(s,.box cs')::spent x e,H,lo⟩⟩:=by
      simp only [qa,qai,ha',qV,qa3,hb,hc,h1,h2,hs,Bool.not_true,cond_false,ok,List.length_cons,List.length_nil,Nat.zero_add,decide_true,Bool.and_self,if_true]
     rw [he]
     exact ⟨_,rfl,.inl ⟨rfl,_,rfl,h⟩⟩
  ·cases h
noncomputable def qza {α:Type} (o:α) (l:List α):(List α->R)->R:=List.rec (motive:=fun _=>(List α->R)->R) (fun κ=>κ [o]) (fun x _ ih κ=>ih fun r=>κ (x::r)) l
theorem qtS {α:Type} (o:α) (l:List α) (κ:List α->R):qza o l κ=κ (l++[o]):=by
 induction l generalizing κ with
 | nil=>rfl
 | cons x l ih=>exact ih _
noncomputable def qBV (d:Nat) (zero:List D) (k:K):KF:=fun call n e H lo=>
 zG (fun v κ=>κ v) (zero.map V.d) fun cs=>qj (jo H) fun m=>qza (.cells cs) H fun H=>k.run call n ((d,.ptr m 0)::e) H lo
theorem qwH {d:Nat} {zero:List D} {k:K}:qD (qBV d zero k) (.alloc false zero) (some d) k:=by
 intro call n e H lo z h
 unfold qBV at h
 rw [qU (fun v κ=>rfl),qgl,kh,qtS] at h
 exact qh (same:=false) rfl h
noncomputable def qFW (d:Nat) (k:K):KF:=fun call n e H lo=>qj (jo H) fun m=>qza (.map []) H fun H=>k.run call n ((d,.map m)::e) H lo
theorem qxb {d:Nat} {k:K}:qD (qFW d k) .mkMap (some d) k:=by
 intro call n e H lo z h
 unfold qFW at h
 rw [qgl,kh,qtS] at h
 exact qh (same:=false) rfl h
noncomputable def qyU (a:List Nat):List Nat->Bool:=List.rec (motive:=fun _=>List Nat->Bool) (fun b=>List.rec (motive:=fun _=>Bool) true (fun _ _ _=>false) b) (fun x _ ih b=>List.rec (motive:=fun _=>Bool) false (fun y t _=>Bool.rec (motive:=fun _=>Bool) false (ih t) (qJv x y)) b) a
theorem qvG:∀a b:List Nat,qyU a b=eqT a b
 | [],[]=>rfl
 | [],_::_=>rfl
 | _::_,[]=>rfl
 | x::a,y::b=>by
  show Bool.rec (motive:=fun _=>Bool) false (qyU a b) (qJv x y)=(qJv x y && eqT a b)
  rw [qvG a b]
  cases qJv x y<;>rfl
noncomputable def qtV (x w:D):Option Bool:=D.rec (motive_1:=fun _=>Option Bool) (motive_2:=fun _=>Option Bool) (fun y=>D.same (.b y) w) (fun k n=>D.same (.i k n) w) (fun t=>OT.rec (motive:=fun _=>Option Bool) (D.same (.s t) w) (fun u=>some (qyU t u)) (vT (.d w))) none (fun _ _=>none) (fun _ _=>none) none none none none none (fun _ _ _ _=>none) x
theorem qsC (x w:D):qtV x w=D.same x w:=by
 cases x with
 | s t=>
  show OT.rec (motive:=fun _=>Option Bool) (D.same (.s t) w) (fun u=>some (qyU t u)) (vT (.d w))=_
  cases h:vT (.d w) with
  | no=>rfl
  | s u=>
   have:=qHt h
   cases this
   show some (qyU t u)=some (eqT t u)
   rw [qvG]
 | b z=>rfl
 | i k n=>rfl
 | _=>cases w<;>rfl
noncomputable def qyL (k:D) (es:List (D × V)):Option (Option V):=List.rec (motive:=fun _=>Option (Option V)) (some none) (fun p _ ih=>Option.rec (motive:=fun _=>Option (Option V)) none (fun b=>Bool.rec (motive:=fun _=>Option (Option V)) ih (some (some p.2)) b) (qtV k p.1)) es
theorem qya (k:D) (es:List (D × V)):qyL k es=qa1 k es:=by
 induction es with
 | nil=>rfl
 | cons p es ih=>
  obtain ⟨k',v⟩:=p
  show Option.rec (motive:=fun _=>Option (Option V)) none (fun b=>Bool.rec (motive:=fun _=>Option (Option V)) (qyL k es) (some (some v)) b) (qtV k k')=qa1 k ((k',v)::es)
  rw [qsC,ih]
  simp only [qa1]
  cases D.same k k' with
  | none=>rfl
  | some b=>cases b<;>rfl
noncomputable def qzi (k:D) (v:V) (es:List (D × V)):(List (D × V)->R)->R:=List.rec (motive:=fun _=>(List (D × V)->R)->R) (fun κ=>κ [(k,v)]) (fun p t ih κ=>Option.rec (motive:=fun _=>R) none (fun b=>Bool.rec (motive:=fun _=>R) (ih fun r=>κ (p::r)) (κ ((p.1,v)::t)) b) (qtV k p.1)) es
theorem qoC {k:D} {v:V}:∀{es:List (D × V)} {κ:List (D × V)->R} {x:Ex × St},qzi k v es κ=some x->∃es',qiH k v es=some es'/\κ es'=some x
 | [],κ,x,h=>⟨_,rfl,h⟩
 | (k',w)::es,κ,x,h=>by
  have h:Option.rec (motive:=fun _=>R) none (fun b=>Bool.rec (motive:=fun _=>R) (qzi k v es fun r=>κ ((k',w)::r)) (κ ((k',v)::es)) b) (qtV k k')=some x:=h
  rw [qsC] at h
  cases hs:D.same k k' with
  | none=>rw [hs] at h;cases h
  | some b=>
   rw [hs] at h
   cases b with
   | true=>exact ⟨_,by simp only [qiH,hs],h⟩
   | false=>
    obtain ⟨es',h1,h2⟩:=qoC (es:=es) h
    exact ⟨_,by simp only [qiH,hs,h1],h2⟩
noncomputable def vD (v:V):Option D:=V.rec (motive_1:=fun _=>Option D) (motive_2:=fun _=>Option D) (fun x=>some x) (fun _=>none) (fun _=>none) (fun _ _=>none) (fun _ _=>none) (fun _ _=>none) (fun _=>none) (fun _ _ _ _=>none) (fun _ _ _=>none) (fun _=>none) (fun _ _ _ _ _=>none) (fun _ _ _=>none) (fun _ _=>none) (fun _ _=>none) none none (fun _ _ _ _=>none) v
theorem qrL {v:V} {x:D} (h:vD v=some x):v=.d x:=by
 cases v with
 | d y=>have h:some y=some x:=h;cases h;rfl
 | _=>cases h
noncomputable def qEV (v:V):Option Nat:=V.rec (motive_1:=fun _=>Option Nat) (motive_2:=fun _=>Option Nat) (fun _=>none) (fun _=>none) (fun _=>none) (fun _ _=>none) (fun _ _=>none) (fun _ _=>none) (fun _=>none) (fun _ _ _ _=>none) (fun _ _ _=>none) (fun a=>some a) (fun _ _ _ _ _=>none) (fun _ _ _=>none) (fun _ _=>none) (fun _ _=>none) none none (fun _ _ _ _=>none) v
theorem qqC {v:V} {m:Nat} (h:qEV v=some m):v=.map m:=by
 cases v with
 | map y=>have h:some y=some m:=h;cases h;rfl
 | _=>cases h
noncomputable def qGj (o:Option Obj):Option (List (D × V)):=Option.rec (motive:=fun _=>Option (List (D × V))) none (fun ob=>Obj.rec (motive:=fun _=>Option (List (D × V))) (fun _=>none) (fun es=>some es) (fun _ _=>none) none (fun _=>none) ob) o
theorem qqZ {o:Option Obj} {es:List (D × V)} (h:qGj o=some es):o=some (.map es):=by
 cases o with
 | none=>cases h
 | some ob=>cases ob with
  | map c=>have h:some c=some es:=h;cases h;rfl
  | _=>cases h
noncomputable def j7 (b:Bool) (κ:R):R:=Bool.rec (motive:=fun _=>R) none κ b
theorem qJ {b:Bool} {κ:R} {x:Ex × St} (h:j7 b κ=some x):b=true/\κ=some x:=by
 cases b with
 | false=>cases h
 | true=>exact ⟨rfl,h⟩
noncomputable def qx4 (d:Nat) (kk:Nat) (zero:D) (m q:O) (c:Bool) (g k:K):KF:=fun call n e H lo=>
 orZ (qEV ((ky m).run e)) (g.run call n e H lo) fun id=>orN (vD ((ky q).run e)) fun key=>orN (qGj (fnth H id)) fun es=>j7 (kZ kk key) (orN (qyL key es) fun r=>
  Option.rec (motive:=fun _=>R) (Bool.rec (motive:=fun _=>R) (k.run call n ((d,.d zero)::e) H lo) (k.run call n ((d,.tup [.d zero,.d (.b false)])::e) H lo) c) (fun v=>Bool.rec (motive:=fun _=>R) (qvZ v fun v=>k.run call n ((d,v)::e) H lo) (qvZ v fun v=>k.run call n ((d,.tup [v,.d (.b true)])::e) H lo) c) r)
theorem quD {d kk:Nat} {zero:D} {m q:O} {c:Bool} {g k:K} (hg:qD g.run (.lookup kk zero m q c) (some d) k):qD (qx4 d kk zero m q c g k) (.lookup kk zero m q c) (some d) k:=by
 intro call n e H lo z h
 unfold qx4 at h
 rcases ql9 h with h|⟨id,hm,h⟩
 ·exact hg h
 obtain ⟨key,hq,h⟩:=kD h
 obtain ⟨es,hs,h⟩:=kD h
 obtain ⟨hgk,h⟩:=qJ h
 obtain ⟨r,hf,h⟩:=kD h
 have hm:=qqC hm
 have hq:=qrL hq
 have hs:=qqZ hs
 rw [zP] at hs
 rw [qya] at hf
 have hm':rd e m=.map id:=(qO (by rw [hm];trivial)).trans hm
 have hq':rd e q=.d key:=(qO (by rw [hq];trivial)).trans hq
 cases r with
 | none=>
  have he:qa call (.lookup kk zero m q c) ⟨e,H,lo⟩=some ⟨false,true,bif c then .tup [.d zero,.d (.b false)] else .d zero,⟨e,H,lo⟩⟩:=by
   simp only [qa,zp,hm',hq',hs,hgk,hf,ok,if_true]
  rw [he]
  cases c<;>exact qh rfl h
 | some v=>
  have he:qa call (.lookup kk zero m q c) ⟨e,H,lo⟩=some ⟨false,true,bif c then .tup [copy v,.d (.b true)] else copy v,⟨e,H,lo⟩⟩:=by
   simp only [qa,zp,hm',hq',hs,hgk,hf,ok,if_true]
  rw [he]
  cases c with
  | false=>
   obtain ⟨hb,h⟩:=qkx (v:=v) h
   exact qh hb h
  | true=>
   obtain ⟨hb,h⟩:=qkx (v:=v) h
   exact qh rfl h
noncomputable def okF (v:V):Bool:=V.rec (motive_1:=fun _=>Bool) (motive_2:=fun _=>Bool) (fun _=>true) (fun _=>false) (fun _=>true) (fun _ _=>true) (fun _ _=>false) (fun _ _=>false) (fun _=>false) (fun _ _ _ _=>true) (fun _ _ _=>true) (fun _=>true) (fun f a b _ _=>V.ok (.fn f a b)) (fun t x _=>V.ok (.ifc t x)) (fun cs _=>V.ok (.agg cs)) (fun vs _=>V.ok (.tup vs)) true false (fun _ _ _ _=>false) v
theorem qF7 (v:V):okF v=v.ok:=by cases v<;>rfl
noncomputable def qDB (kk:Nat) (m q x:O) (k:K):KF:=fun call n e H lo=>
 orN (qEV ((ky m).run e)) fun id=>orN (vD ((ky q).run e)) fun key=>orN (qGj (fnth H id)) fun es=>(rdC x).run e fun v=>j7 (kZ kk key) (j7 (okF v) (qzi key v es fun es=>qks (.map es) H id fun H=>qjI lo id fun lo=>k.run call n ((spO x).run e) H lo))
theorem qxo {kk:Nat} {m q x:O} {k:K}:qD (qDB kk m q x k) (.mapUpdate kk m q x) none k:=by
 intro call n e H lo z h
 unfold qDB at h
 obtain ⟨id,hm,h⟩:=kD h
 obtain ⟨key,hq,h⟩:=kD h
 obtain ⟨es,hs,h⟩:=kD h
 rw [qeZ] at h
 obtain ⟨hgk,h⟩:=qJ h
 obtain ⟨hok,h⟩:=qJ h
 obtain ⟨es',hp,h⟩:=qoC h
 have h:=qaY h
 rw [qen,qkA] at h
 have hm:=qqC hm
 have hq:=qrL hq
 have hs:=qqZ hs
 rw [zP] at hs
 rw [qF7] at hok
 have hm':rd e m=.map id:=(qO (by rw [hm];trivial)).trans hm
 have hq':rd e q=.d key:=(qO (by rw [hq];trivial)).trans hq
 have he:qa call (.mapUpdate kk m q x) ⟨e,H,lo⟩=some ⟨false,false,.undef,⟨spent x e,qI H id (.map es'),min lo id⟩⟩:=by
  simp only [qa,zk,hm',hq',hs,hgk,hok,hp,okH,if_true,Bool.and_self]
 rw [he]
 exact ⟨_,rfl,.inl ⟨rfl,_,rfl,h⟩⟩
noncomputable def hdF (size:Nat) (l:List D):Bool:=List.rec (motive:=fun _=>Bool) true (fun x _ _=>qJv (szD x) size) l
theorem qu6 (size:Nat) (l:List D):hdF size l=kC size l:=by
 cases l with
 | nil=>rfl
 | cons x l=>show qJv (szD x) size=qJv x.cells.length size;rw [qrh]
noncomputable def qo0 (bytes n:Nat):Bool:=Bool.rec (motive:=fun _=>Bool) false (Nat.ble n 140737488355328) (Nat.ble (Nat.mul n bytes) 140737488355328)
theorem qov (bytes n:Nat):qo0 bytes n=roomy bytes n:=by
 show Bool.rec (motive:=fun _=>Bool) false (Nat.ble n 140737488355328) (Nat.ble (n * bytes) 140737488355328)=(Nat.ble (n * bytes) 140737488355328 && Nat.ble n 140737488355328)
 cases Nat.ble (n * bytes) 140737488355328<;>rfl
noncomputable def qye {α:Type} (ys:List α) (l:List α):(List α->R)->R:=List.rec (motive:=fun _=>(List α->R)->R) (fun κ=>κ ys) (fun x _ ih κ=>ih fun r=>κ (x::r)) l
theorem qvY {α:Type} (ys l:List α) (κ:List α->R):qye ys l κ=κ (l++ys):=by
 induction l generalizing κ with
 | nil=>rfl
 | cons x l ih=>exact ih _
inductive OA where
 | no|nil
 | osl (xs:List D)
 | fsl (xs:List D)
noncomputable def vA (v:V):OA:=V.rec (motive_1:=fun _=>OA) (motive_2:=fun _=>OA) (fun x=>D.rec (motive_1:=fun _=>OA) (motive_2:=fun _=>OA) (fun _=>.no) (fun _ _=>.no) (fun _=>.no) .nil (fun _ _=>.no) (fun _ _=>.no) .no .no .no .no .no (fun _ _ _ _=>.no) x) (fun xs=>.osl xs) (fun xs=>.fsl xs) (fun _ _=>.no) (fun _ _=>.no) (fun _ _=>.no) (fun _=>.no) (fun _ _ _ _=>.no) (fun _ _ _=>.no) (fun _=>.no) (fun _ _ _ _ _=>.no) (fun _ _ _=>.no) (fun _ _=>.no) (fun _ _=>.no) .no .no (fun _ _ _ _=>.no) v
theorem qDW {v:V} (h:vA v=.nil):v=.d .nil:=by
 cases v with
 | d x=>cases x with
  | nil=>rfl
  | _=>cases h
 | _=>cases h
theorem qGk {v:V} {xs:List D} (h:vA v=.osl xs):v=.osl xs:=by
 cases v with
 | osl ys=>have h:OA.osl ys=.osl xs:=h;cases h;rfl
 | d x=>cases x<;>cases h
 | _=>cases h
theorem qDH {v:V} {xs:List D} (h:vA v=.fsl xs):v=.fsl xs:=by
 cases v with
 | fsl ys=>have h:OA.fsl ys=.fsl xs:=h;cases h;rfl
 | d x=>cases x<;>cases h
 | _=>cases h
noncomputable def qIb {α:Type} (l:List α):Bool:=List.rec (motive:=fun _=>Bool) false (fun _ _ _=>true) l
noncomputable def qEL (d size bytes:Nat) (x y:O) (g k:K):KF:=fun call n e H lo=>
 (rdC x).run e fun a=>(rdC y).run e fun b=>asL b (g.run call n e H lo) (g.run call n e H lo) fun ys=>
  OA.rec (motive:=fun _=>R) (g.run call n e H lo)
   (Bool.rec (motive:=fun _=>R) (g.run call n e H lo) (j7 (hdF size ys) (j7 (qo0 bytes (jo ys)) (k.run call n ((d,.osl ys)::(spO x).run e) H lo))) (qIb ys))
   (fun xs=>j7 (hdF size xs) (j7 (hdF size ys) (j7 (qo0 bytes (Nat.add (jo xs) (jo ys))) (qye ys xs fun zs=>k.run call n ((d,.osl zs)::(spO x).run e) H lo))))
   (fun xs=>j7 (hdF size xs) (j7 (hdF size ys) (j7 (qo0 bytes (Nat.add (jo xs) (jo ys))) (qye ys xs fun zs=>k.run call n ((d,.osl zs)::(spO x).run e) H lo)))) (vA a)
theorem qwa {d size bytes:Nat} {x y:O} {g k:K} (hg:qD g.run (.bi (.append size bytes) [x,y]) (some d) k):qD (qEL d size bytes x y g k) (.bi (.append size bytes) [x,y]) (some d) k:=by
 intro call n e H lo z h
 unfold qEL at h
 rw [qeZ,qeZ] at h
 rcases qpt h with h|⟨_,h⟩|⟨ys,hy,h⟩
 ·exact hg h
 ·exact hg h
 have done:∀{v:V},v.isBox=false->qjs size bytes (rd e x) (rd e y)=some v->k.run call n ((d,v)::(spO x).run e) H lo=some z->qqS (qa call (.bi (.append size bytes) [x,y]) ⟨e,H,lo⟩) (some d) k call n z:=by
  intro v hb hv hk
  have he:qa call (.bi (.append size bytes) [x,y]) ⟨e,H,lo⟩=some ⟨false,true,v,⟨spent x e,H,lo⟩⟩:=by
   simp only [qa,eBi,jW,hv,ok]
  rw [he]
  rw [qkA] at hk
  exact qh hb hk
 cases ha:vA (rd e x) with
 | no=>rw [ha] at h;exact hg h
 | nil=>
  rw [ha] at h
  cases ys with
  | nil=>exact hg h
  | cons y0 ys=>
   obtain ⟨h1,h⟩:=qJ (κ:=j7 (qo0 bytes (jo (y0::ys))) (k.run call n ((d,.osl (y0::ys))::(spO x).run e) H lo)) h
   obtain ⟨h2,h⟩:=qJ h
   rw [qu6] at h1
   rw [qov,kh] at h2
   exact done rfl (by rw [qDW ha,hy];simp only [qjs,h1,h2,Bool.and_self,cond_true]) h
 | osl xs=>
  rw [ha] at h
  obtain ⟨h1,h⟩:=qJ (b:=hdF size xs) (κ:=j7 (hdF size ys) (j7 (qo0 bytes (Nat.add (jo xs) (jo ys))) (qye ys xs fun zs=>k.run call n ((d,.osl zs)::(spO x).run e) H lo))) h
  obtain ⟨h2,h⟩:=qJ h
  obtain ⟨h3,h⟩:=qJ h
  rw [qu6] at h1 h2
  rw [qov,kh,kh] at h3
  have h3:roomy bytes (xs.length+ys.length)=true:=h3
  rw [qvY] at h
  exact done rfl (by rw [qGk ha,hy];simp only [qjs,h1,h2,h3,Bool.and_self,cond_true]) h
 | fsl xs=>
  rw [ha] at h
  obtain ⟨h1,h⟩:=qJ (b:=hdF size xs) (κ:=j7 (hdF size ys) (j7 (qo0 bytes (Nat.add (jo xs) (jo ys))) (qye ys xs fun zs=>k.run call n ((d,.osl zs)::(spO x).run e) H lo))) h
  obtain ⟨h2,h⟩:=qJ h
  obtain ⟨h3,h⟩:=qJ h
  rw [qu6] at h1 h2
  rw [qov,kh,kh] at h3
  have h3:roomy bytes (xs.length+ys.length)=true:=h3
  rw [qvY] at h
  exact done rfl (by rw [qDH ha,hy];simp only [qjs,h1,h2,h3,Bool.and_self,cond_true]) h
noncomputable def qfP (l:List D):Bool:=List.rec (motive:=fun _=>Bool) true (fun x _ ih=>D.rec (motive_1:=fun _=>Bool) (motive_2:=fun _=>Bool) (fun _=>ih) (fun _ _=>ih) (fun _=>ih) ih (fun _ _=>ih) (fun _ _=>false) ih ih ih ih ih (fun _ _ _ _=>ih) x) l
theorem qy1 (l:List D):qfP l=D.ones l:=by
 induction l with
 | nil=>rfl
 | cons x l ih=>
  show (D.rec (motive_1:=fun _=>Bool) (motive_2:=fun _=>Bool) (fun _=>qfP l) (fun _ _=>qfP l) (fun _=>qfP l) (qfP l) (fun _ _=>qfP l) (fun _ _=>false) (qfP l) (qfP l) (qfP l) (qfP l) (qfP l) (fun _ _ _ _=>qfP l) x)=(x.one && D.ones l)
  rw [ih]
  cases x<;>rfl
noncomputable def wfF (x:D):Bool:=D.rec (motive_1:=fun _=>Bool) (motive_2:=fun _=>Bool) (fun _=>true) (fun _ _=>true) (fun _=>true) true (fun _ _=>true) (fun cs _=>qfP cs) true true true true true (fun _ _ _ _=>true) x
theorem qCA (x:D):wfF x=x.wf:=by
 cases x with
 | agg cs=>exact qy1 cs
 | _=>rfl
noncomputable def qB9 (d:Nat) (zero:D) (x:O) (g k:K):KF:=fun call n e H lo=>
 (rdC x).run e fun v=>orZ (vD v) (g.run call n e H lo) fun y=>j7 (qJv (szD y) (szD zero)) (j7 (wfF y) (k.run call n ((d,.osl [y])::e) H lo))
theorem qwl {d:Nat} {zero:D} {x:O} {g k:K} (hg:qD g.run (.buildSlice zero 1 [(0,x)]) (some d) k):qD (qB9 d zero x g k) (.buildSlice zero 1 [(0,x)]) (some d) k:=by
 intro call n e H lo z h
 unfold qB9 at h
 rw [qeZ] at h
 rcases ql9 h with h|⟨y,hv,h⟩
 ·exact hg h
 obtain ⟨h1,h⟩:=qJ h
 obtain ⟨h2,h⟩:=qJ h
 have hv:=qrL hv
 rw [qrh,qrh] at h1
 have h1:=qJs h1
 rw [qCA] at h2
 have he:qa call (.buildSlice zero 1 [(0,x)]) ⟨e,H,lo⟩=some ⟨false,true,.osl [y],⟨e,H,lo⟩⟩:=by
  simp [qa,kz,hv,qku,h1,D.wfs,h2,ok,List.replicate]
 rw [he];exact qh rfl h
noncomputable def lvF (v:V):Bool:=V.rec (motive_1:=fun _=>Bool) (motive_2:=fun _=>Bool) (fun _=>true) (fun _=>true) (fun _=>true) (fun _ _=>true) (fun _ _=>false) (fun _ _=>false) (fun _=>false) (fun _ _ _ _=>true) (fun _ _ _=>true) (fun _=>true) (fun f a b _ _=>V.ok (.fn f a b)) (fun t x _=>V.ok (.ifc t x)) (fun cs _=>V.ok (.agg cs)) (fun vs _=>V.ok (.tup vs)) true false (fun _ _ _ _=>false) v
theorem qzJ (v:V):lvF v=v.leaves:=by cases v<;>rfl
noncomputable def lvs (l:List V):Bool:=List.rec (motive:=fun _=>Bool) true (fun v _ ih=>Bool.rec (motive:=fun _=>Bool) false ih (lvF v)) l
theorem qvj (l:List V):lvs l=V.allLeave l:=by
 induction l with
 | nil=>rfl
 | cons v l ih=>
  show Bool.rec (motive:=fun _=>Bool) false (lvs l) (lvF v)=(v.leaves && V.allLeave l)
  rw [ih,qzJ]
  cases v.leaves<;>rfl
noncomputable def qB3 (dst:Option Nat) (v:V) (k:K):KF:=fun call n e H lo=>
 Option.rec (motive:=fun _=>R) (k.run call n e H lo) (fun d=>qi0 v (qfk (some d) v k call n e H lo) fun v=>k.run call n ((d,v)::e) H lo) dst
theorem qt4 {dst:Option Nat} {v:V} {same:Bool} {k:K} {call:Call} {n:Nat} {e:Env} {H:List Obj} {lo:Nat} {x:Ex × St} (h:qB3 dst v k call n e H lo=some x):qqS (some ⟨false,same,v,⟨e,H,lo⟩⟩) dst k call n x:=by
 cases dst with
 | none=>exact ⟨_,rfl,.inl ⟨rfl,_,rfl,h⟩⟩
 | some d=>
  have h:qi0 v (qfk (some d) v k call n e H lo) (fun v=>k.run call n ((d,v)::e) H lo)=some x:=h
  rcases qi3 h with h|⟨hb,h⟩
  ·exact qgF h
  ·exact qh hb h
noncomputable def qxW (dst:Option Nat) (i:Nat) (args:List O) (k:K):KF:=fun call n e H lo=>
 (qzU args).run e fun vs=>j7 (lvs vs) (orN (call i vs H) fun r=>Cr.rec (motive:=fun _=>R) (fun pan same v H' lo'=>qjI lo lo' fun lo=>Bool.rec (motive:=fun _=>R) (qB3 dst v k call n ((spL args).run e) H' lo) (some (.pan v,⟨(spL args).run e,H',lo⟩)) pan) r)
theorem qmM {dst:Option Nat} {i:Nat} {args:List O} {k:K}:qD (qxW dst i args k) (.call (.f i) args) dst k:=by
 intro call n e H lo z h
 unfold qxW at h
 rw [qr1] at h
 obtain ⟨h1,h⟩:=qJ h
 obtain ⟨r,hr,h⟩:=kD h
 rw [qvj] at h1
 obtain ⟨pan,same,v,H',lo'⟩:=r
 have h:(qjI lo lo' fun lo=>Bool.rec (motive:=fun _=>R) (qB3 dst v k call n ((spL args).run e) H' lo) (some (.pan v,⟨(spL args).run e,H',lo⟩)) pan)=some z:=h
 rw [qen,quW] at h
 have he:qa call (.call (.f i) args) ⟨e,H,lo⟩=some ⟨pan,same,v,⟨spentAll args e,H',min lo lo'⟩⟩:=by
  simp only [qa,zV,rd,List.nil_append,List.append_nil,h1,if_true,hr]
 rw [he]
 cases pan with
 | false=>exact qt4 h
 | true=>
  have h:some (Ex.pan v,(⟨spentAll args e,H',min lo lo'⟩:St))=some z:=h
  cases h
  exact ⟨_,rfl,.inr ⟨rfl,rfl⟩⟩
noncomputable def quv {β γ:Type} (l m:List β) (κ:List β->γ):γ:=List.rec (motive:=fun _=>(List β->γ)->γ) (fun κ=>κ m) (fun x _ ih κ=>ih fun t=>κ (x::t)) l κ
theorem qrp {β γ:Type} (l m:List β) (κ:List β->γ):quv l m κ=κ (l++m):=by
 induction l generalizing κ with
 | nil=>rfl
 | cons x l ih=>exact ih fun t=>κ (x::t)
noncomputable def qx3 (d:Nat) (l:L) (bytes:Nat) (x y:O) (g k:K):KF:=fun call n e H lo=>
 match frd e x with
 | .row id sz len=>match fnth H id with
  | some (.row l' cs)=>match qrg l (frd e y) with
   | some ys=>Bool.rec (motive:=fun _=>R) none (zG (fun v k=>jj v k) (yQ ys) fun new=>quv cs new fun cs=>qks .dead H id fun H2=>quv H2 [.row l' cs] fun H3=>qj (jo H) fun m=>qj (Nat.add len (jo ys)) fun len2=>qjI lo id fun lo=>k.run call n ((d,.row m sz len2)::e) H3 lo)
     (qJv sz l.n && (qJv (jo cs) (len * sz) && (kC l.n ys && roomy bytes (len+jo ys))))
   | none=>none
  | _=>g.run call n e H lo
 | _=>g.run call n e H lo
theorem quw {d:Nat} {l:L} {bytes:Nat} {x y:O} {g k:K} (hg:qD g.run (.appendR l bytes x y) (some d) k):qD (qx3 d l bytes x y g k) (.appendR l bytes x y) (some d) k:=by
 intro call n e H lo z h
 unfold qx3 at h
 rw [ya] at h
 split at h
 ·rename_i id sz len hx
  rw [zP] at h
  split at h
  ·rename_i l' cs hob
   rw [ya] at h
   split at h
   ·rename_i ys hys
    rw [kh cs,kh ys,kh H] at h
    cases hb:(qJv sz l.n && (qJv cs.length (len * sz) && (kC l.n ys && roomy bytes (len+ys.length)))) with
    | false=>rw [hb] at h;cases h
    | true=>
     rw [hb] at h
     have h:(zG (fun v k=>jj v k) (yQ ys) fun new=>quv cs new fun cs=>qks .dead H id fun H2=>quv H2 [.row l' cs] fun H3=>qj H.length fun m=>qj (Nat.add len ys.length) fun len2=>qjI lo id fun lo=>k.run call n ((d,.row m sz len2)::e) H3 lo)=some z:=h
     rw [qU zl,qrp] at h
     have h:=qaY h
     rw [qrp,qR,qR,qen] at h
     have he:qa call (.appendR l bytes x y) ⟨e,H,lo⟩=some ⟨false,false,.row H.length sz (len+ys.length),⟨e,qI H id .dead++[.row l' (cs++yQ ys)],min lo id⟩⟩:=by
      simp only [qa,jI,hys,hx,hob,hb,cond_true]
      rfl
     rw [he]
     exact qh rfl h
   ·cases h
  ·exact hg h
 ·exact hg h
noncomputable def fTk {β γ:Type} (l:List β):Nat->(List β->γ)->γ:=List.rec (motive:=fun _=>Nat->(List β->γ)->γ) (fun _ κ=>κ []) (fun x _ ih n κ=>Nat.rec (motive:=fun _=>γ) (κ []) (fun m _=>ih m fun t=>κ (x::t)) n) l
theorem quu {β γ:Type}:∀(l:List β) (n:Nat) (κ:List β->γ),fTk l n κ=κ (l.take n)
 | [],n,κ=>by simp [fTk]
 | x::l,0,κ=>rfl
 | x::l,n+1,κ=>by
  show fTk l n (fun t=>κ (x::t))=_
  rw [quu];rfl
theorem qzE {a b:Int} (h:leI a b=true):a<=b:=by
 cases a<;>cases b<;>simp only [leI] at h
 ·have:=Nat.le_of_ble_eq_true h
  simp only [Int.ofNat_eq_natCast];omega
 ·cases h
 ·simp only [Int.ofNat_eq_natCast,Int.negSucc_eq];omega
 ·have:=Nat.le_of_ble_eq_true h
  simp only [Int.negSucc_eq];omega
noncomputable def qCb (d:Nat) (x hi:O) (g k:K):KF:=fun call n e H lo=>
 match frd e x,frd e hi with
 | .row id sz len,.d (.i _ h)=>match fnth H id with
  | some (.row l cs)=>Bool.rec (motive:=fun _=>R) none (fTk cs (h.toNat * sz) fun cs=>qks .dead H id fun H2=>quv H2 [.row l cs] fun H3=>qj (jo H) fun m=>qj h.toNat fun hn=>qjI lo id fun lo=>k.run call n ((d,.row m sz hn)::e) H3 lo)
    (leI 0 h && (leI h len && qJv (jo cs) (len * sz)))
  | _=>g.run call n e H lo
 | _,_=>g.run call n e H lo
theorem qwR {d:Nat} {x hi:O} {g k:K} (hg:qD g.run (.truncR x hi) (some d) k):qD (qCb d x hi g k) (.truncR x hi) (some d) k:=by
 intro call n e H lo z h
 unfold qCb at h
 rw [ya,ya] at h
 split at h
 ·rename_i id sz len kk hh hx hhi
  rw [zP] at h
  split at h
  ·rename_i l cs hob
   rw [kh cs,kh H] at h
   cases hb:(leI 0 hh && (leI hh len && qJv cs.length (len * sz))) with
   | false=>rw [hb] at h;cases h
   | true=>
    rw [hb] at h
    have h:(fTk cs (hh.toNat * sz) fun cs=>qks .dead H id fun H2=>quv H2 [.row l cs] fun H3=>qj H.length fun m=>qj hh.toNat fun hn=>qjI lo id fun lo=>k.run call n ((d,.row m sz hn)::e) H3 lo)=some z:=h
    rw [quu] at h
    have h:=qaY h
    rw [qrp,qR,qR,qen] at h
    simp only [qJp] at hb
    have hc:0<=hh/\hh<=(len:Int)/\cs.length=len * sz:=⟨qzE hb.1,qzE hb.2.1,qJs hb.2.2⟩
    have he:qa call (.truncR x hi) ⟨e,H,lo⟩=some ⟨false,false,.row H.length sz hh.toNat,⟨e,qI H id .dead++[.row l (cs.take (hh.toNat * sz))],min lo id⟩⟩:=by
     simp only [qa,qa4,hx,hhi,hob,hc,and_self,if_true]
     rfl
    rw [he]
    exact qh rfl h
  ·exact hg h
 ·exact hg h
noncomputable def fDr {β γ:Type} (l:List β):Nat->(List β->γ)->γ:=List.rec (motive:=fun _=>Nat->(List β->γ)->γ) (fun _ κ=>κ []) (fun x r ih n κ=>Nat.rec (motive:=fun _=>γ) (κ (x::r)) (fun m _=>ih m κ) n) l
theorem qyn {β γ:Type}:∀(l:List β) (n:Nat) (κ:List β->γ),fDr l n κ=κ (l.drop n)
 | [],n,κ=>by simp [fDr]
 | x::l,0,κ=>rfl
 | x::l,n+1,κ=>by
  show fDr l n κ=_
  rw [qyn];rfl
noncomputable def fDc {β γ:Type} (l:List β) (n:Nat) (κ:List β->γ):γ:=fDr (qtp l (Nat.div n 16)) (Nat.mod n 16) κ
theorem qxE {β γ:Type} (l:List β) (n:Nat) (κ:List β->γ):fDc l n κ=κ (l.drop n):=by
 unfold fDc
 rw [qyn,qpq,List.drop_drop]
 congr 2
 have e:Nat.div n 16=n / 16:=rfl
 have e2:Nat.mod n 16=n % 16:=rfl
 rw [e,e2];omega
noncomputable def qCu (d:Nat) (x a:O) (g k:K):KF:=fun call n e H lo=>
 asT ((ky x).run e) (g.run call n e H lo) fun t=>asN ((ky a).run e) none fun _ z=>qq3 z fun m=>Bool.rec (motive:=fun _=>R) none (fDc t m fun r=>k.run call n ((d,.d (.s r))::e) H lo) (Nat.ble m (jo t))
theorem qwY {d:Nat} {x a:O} {g k:K} (hg:qD g.run (.sliceS x (some a) none) (some d) k):qD (qCu d x a g k) (.sliceS x (some a) none) (some d) k:=by
 intro call n e H lo z h
 unfold qCu at h
 rcases qmu h with h|⟨t,hx,h⟩
 ·exact hg h
 rcases qaq h with h|⟨kk,w,hi,h⟩
 ·cases h
 obtain ⟨m,rfl,h1⟩:=qdP h
 replace h:=h1
 clear h1
 rw [kh] at h
 cases hb:Nat.ble m t.length with
 | false=>rw [hb] at h;cases h
 | true=>
  rw [hb,qxE] at h
  have hx':rd e x=.d (.s t):=(qO (by rw [hx];trivial)).trans hx
  have h0:leI 0 (Int.ofNat m)=true:=by show Nat.ble 0 m=true;exact Nat.ble_eq_true_of_le (Nat.zero_le m)
  have h1:leI (Int.ofNat m) (t.length:Int)=true:=hb
  have h2:leI (t.length:Int) (t.length:Int)=true:=Nat.ble_eq_true_of_le (qJr _)
  have he:qa call (.sliceS x (some a) none) ⟨e,H,lo⟩=some ⟨false,true,.d (.s (t.drop m)),⟨e,H,lo⟩⟩:=by
   simp only [qa,jT,kv,hx',qlB hi,qrW,qiV,Option.getD_some,Option.getD_none,h0,h1,h2,Bool.and_self,cond_true,ok]
   simp
  rw [he];exact qh rfl h
noncomputable def qBY (d:Nat) (x a b:O) (g k:K):KF:=fun call n e H lo=>
 asT ((ky x).run e) (g.run call n e H lo) fun t=>asN ((ky a).run e) none fun _ z=>qq3 z fun m=>asN ((ky b).run e) none fun _ z=>qq3 z fun p=>Bool.rec (motive:=fun _=>R) none (Bool.rec (motive:=fun _=>R) none (fDc t m fun r=>fTk r (Nat.sub p m) fun r=>k.run call n ((d,.d (.s r))::e) H lo) (Nat.ble p (jo t))) (Nat.ble m p)
theorem qwB {d:Nat} {x a b:O} {g k:K} (hg:qD g.run (.sliceS x (some a) (some b)) (some d) k):qD (qBY d x a b g k) (.sliceS x (some a) (some b)) (some d) k:=by
 intro call n e H lo z h
 unfold qBY at h
 rcases qmu h with h|⟨t,hx,h⟩
 ·exact hg h
 rcases qaq h with h|⟨kk,w,hi,h⟩
 ·cases h
 obtain ⟨m,rfl,h1⟩:=qdP h
 replace h:=h1
 clear h1
 rcases qaq h with h|⟨kk2,w2,hi2,h⟩
 ·cases h
 obtain ⟨p,rfl,h1⟩:=qdP h
 replace h:=h1
 clear h1
 rw [kh] at h
 cases hc:Nat.ble m p with
 | false=>rw [hc] at h;cases h
 | true=>
 rw [hc] at h
 cases hb:Nat.ble p t.length with
 | false=>rw [hb] at h;cases h
 | true=>
  rw [hb] at h
  have h:(fDc t m fun r=>fTk r (Nat.sub p m) fun r=>k.run call n ((d,.d (.s r))::e) H lo)=some z:=h
  rw [qxE,quu] at h
  have hx':rd e x=.d (.s t):=(qO (by rw [hx];trivial)).trans hx
  have h0:leI 0 (Int.ofNat m)=true:=by show Nat.ble 0 m=true;exact Nat.ble_eq_true_of_le (Nat.zero_le m)
  have h1:leI (Int.ofNat m) (Int.ofNat p)=true:=hc
  have h2:leI (Int.ofNat p) (t.length:Int)=true:=hb
  have he:qa call (.sliceS x (some a) (some b)) ⟨e,H,lo⟩=some ⟨false,true,.d (.s ((t.drop m).take (Nat.sub p m))),⟨e,H,lo⟩⟩:=by
   simp only [qa,jT,kv,hx',qlB hi,qlB hi2,qrW,qiV,Option.getD_some,h0,h1,h2,Bool.and_self,cond_true,ok]
   show some _=some _
   congr 4
   exact List.drop_take
  rw [he];exact qh rfl h
noncomputable def qz3 (d:Nat) (c a b:O) (k:K):KF:=fun call n e H lo=>
 asB ((ky c).run e) ((rdC a).run e fun v=>k.run call n ((d,v)::e) H lo) ((rdC b).run e fun v=>k.run call n ((d,v)::e) H lo)
theorem qud {d:Nat} {c a b:O} {k:K}:qD (qz3 d c a b k) (.pick c a b) (some d) k:=by
 intro call n e H lo z h
 unfold qz3 at h
 rw [qeZ,qeZ] at h
 rcases qpf h with ⟨hx,h⟩|⟨hx,h⟩
 ·have hx':rd e c=.d (.b true):=(qO (by rw [hx];trivial)).trans hx
  rw [show qa call (.pick c a b) ⟨e,H,lo⟩=some ⟨false,true,rd e a,⟨e,H,lo⟩⟩ by simp only [qa,qfw,hx',if_true,ok]]
  exact qh (qun e a) h
 ·have hx':rd e c=.d (.b false):=(qO (by rw [hx];trivial)).trans hx
  rw [show qa call (.pick c a b) ⟨e,H,lo⟩=some ⟨false,true,rd e b,⟨e,H,lo⟩⟩ by simp only [qa,qfw,hx',qJw,if_false,ok]]
  exact qh (qun e b) h
noncomputable def asF (v:V) (z:R) (κ:Nat->R):R:=OF.rec (motive:=fun _=>R) z κ (vF v)
theorem qsZ {v:V} {z:R} {κ:Nat->R} {x:Ex × St} (h:asF v z κ=some x):z=some x\/∃i,v=.fn i [] []/\κ i=some x:=by
 unfold asF at h
 cases hv:vF v with
 | no=>rw [hv] at h;exact .inl h
 | f i=>rw [hv] at h;exact .inr ⟨i,qIH hv,h⟩
theorem qzD {call:Call} {f:O} {args:List O} {e:Env} {H:List Obj} {lo i:Nat} (hx:(ky f).run e=.fn i [] []):qa call (.call f args) ⟨e,H,lo⟩=qa call (.call (.f i) args) ⟨e,H,lo⟩:=by
 have hx':rd e f=.fn i [] []:=(qO (by rw [hx];trivial)).trans hx
 have e2:rd e (.f i)=.fn i [] []:=rfl
 simp only [qa,zV,hx',e2]
noncomputable def qE8 (dst:Option Nat) (f:O) (args:List O) (g k:K):KF:=fun call n e H lo=>
 asF ((ky f).run e) (g.run call n e H lo) fun i=>qxW dst i args k call n e H lo
theorem qv5 {dst:Option Nat} {f:O} {args:List O} {g k:K} (hg:qD g.run (.call f args) dst k):qD (qE8 dst f args g k) (.call f args) dst k:=by
 intro call n e H lo z h
 unfold qE8 at h
 rcases qsZ h with h|⟨i,hi,h⟩
 ·exact hg h
 ·rw [qzD hi];exact qmM h
noncomputable def qqv (dst:Option Nat) (op:OpK) (k:K):K:=
 match dst with
 | some d=>match op with
  | .mov x=>.mk (qFw d x k)
  | .bin op kd x y=>qEO d op kd x y k
  | .load false sl l a=>.mk (qBQ d sl l a (gK (some d) (.load false sl l a) k) k)
  | .loadC l a=>.mk (qu5 d l a k)
  | .nilCheck a=>.mk (qEG d a (gK (some d) (.nilCheck a) k) k)
  | .fieldAddr a o l=>.mk (qFu d a o l (gK (some d) (.fieldAddr a o l) k) k)
  | .indexAddr x i size none=>.mk (qDF d x i size (gK (some d) (.indexAddr x i size none) k) k)
  | .index x i=>.mk (qFL d x i k)
  | .extract (.t m) i=>.mk (qDf d m i k)
  | .bi .lenS [x]=>.mk (qz7 d x k)
  | .bi .lenL [x]=>.mk (qym d x (gK (some d) (.bi .lenL [x]) k) k)
  | .bi (.append size bytes) [x,y]=>.mk (qEL d size bytes x y (gK (some d) (.bi (.append size bytes) [x,y]) k) k)
  | .un .not x=>.mk (qC8 d x k)
  | .alloc false zero=>.mk (qBV d zero k)
  | .mkMap=>.mk (qFW d k)
  | .lookup kk zero m q c=>.mk (qx4 d kk zero m q c (gK (some d) (.lookup kk zero m q c) k) k)
  | .buildSlice zero 1 [(0,x)]=>.mk (qB9 d zero x (gK (some d) (.buildSlice zero 1 [(0,x)]) k) k)
  | .call (.f i) args=>.mk (qxW (some d) i args k)
  | .appendR l b x y=>.mk (qx3 d l b x y (gK (some d) (.appendR l b x y) k) k)
  | .truncR x hi=>.mk (qCb d x hi (gK (some d) (.truncR x hi) k) k)
  | .pick c a b=>.mk (qz3 d c a b k)
  | .call f args=>.mk (qE8 (some d) f args (gK (some d) (.call f args) k) k)
  | .sliceS x (some a) none=>.mk (qCu d x a (gK (some d) (.sliceS x (some a) none) k) k)
  | .sliceS x (some a) (some b)=>.mk (qBY d x a b (gK (some d) (.sliceS x (some a) (some b)) k) k)
  | op=>gK (some d) op k
 | none=>match op with
  | .store sl ⟨1,false⟩ a x=>.mk (qHJ sl a x (gK none (.store sl ⟨1,false⟩ a x) k) k)
  | .mapUpdate kk m q x=>.mk (qDB kk m q x k)
  | .call (.f i) args=>.mk (qxW none i args k)
  | op=>gK none op k
theorem qwD {dst:Option Nat} {op:OpK} {k:K}:qD (qqv dst op k).run op dst k:=by
 unfold qqv
 split
 ·split
  ·exact qwC
  ·exact qwg
  ·exact qug qK
  ·exact qtz
  ·exact qwM qK
  ·exact qw7 qK
  ·exact qwU qK
  ·exact qwS
  ·exact qw4
  ·exact qul
  ·exact qvi qK
  ·exact qwa qK
  ·exact qwE
  ·exact qwH
  ·exact qxb
  ·exact quD qK
  ·exact qwl qK
  ·exact qmM
  ·exact quw qK
  ·exact qwR qK
  ·exact qud
  ·exact qv5 qK
  ·exact qwY qK
  ·exact qwB qK
  ·exact qK
 ·split
  ·exact qwb qK
  ·exact qxo
  ·exact qmM
  ·exact qK
theorem qkP {dst:Option Nat} {op:OpK} {k:K} {call:Call} {n:Nat} {e:Env} {H:List Obj} {lo:Nat} {z:Ex × St} (h:(qqv dst op k).run call n e H lo=some z):qqS (qa call op ⟨e,H,lo⟩) dst k call n z:=qwD h
noncomputable def vG (v:V):Option (Option Bool):=V.rec (motive_1:=fun _=>Option (Option Bool)) (motive_2:=fun _=>Option (Option Bool)) (fun x=>D.rec (motive_1:=fun _=>Option (Option Bool)) (motive_2:=fun _=>Option (Option Bool)) (fun y=>some (some y)) (fun _ _=>none) (fun _=>none) none (fun _ _=>none) (fun _ _=>none) none none none none none (fun _ _ _ _=>none) x) (fun _=>none) (fun _=>none) (fun _ _=>none) (fun _ _=>none) (fun _ _=>none) (fun _=>none) (fun _ _ _ _=>none) (fun _ _ _=>none) (fun _=>none) (fun _ _ _ _ _=>none) (fun _ _ _=>none) (fun _ _=>none) (fun vs _=>List.rec (motive:=fun _=>Option (Option Bool)) (some none) (fun _ _ _=>none) vs) none none (fun _ _ _ _=>none) v
theorem qBK (m:Nat) (w:Bool) (e:Env):wanted (some (m,w)) e=Option.rec (motive:=fun _=>Option Bool) none (fun r=>Option.rec (motive:=fun _=>Option Bool) (some false) (fun z=>some (z == w)) r) (vG (fget m e)):=by
 rw [jF]
 simp only [wanted]
 cases get m e with
 | d x=>cases x<;>rfl
 | tup vs=>cases vs<;>rfl
 | _=>rfl
noncomputable def eqB (a b:Bool):Bool:=Bool.rec (motive:=fun _=>Bool) (Bool.rec (motive:=fun _=>Bool) true false b) b a
theorem qzN (a b:Bool):eqB a b=(a == b):=by cases a<;>cases b<;>rfl
noncomputable def qyV (o:Op) (k:K):K:=
 match o.g with
 | none=>qqv o.dst o.k k
 | some (m,w)=>.mk fun call n e H lo=>orN (vG (fget m e)) fun r=>Option.rec (motive:=fun _=>R) (qfk o.dst (.tup []) k call n e H lo) (fun z=>Bool.rec (motive:=fun _=>R) (qfk o.dst (.tup []) k call n e H lo) ((qqv o.dst o.k k).run call n e H lo) (eqB z w)) r
noncomputable def qeN (l:List Op) (k:K):K:=List.rec (motive:=fun _=>K) k (fun o _ ih=>qyV o ih) l
theorem qiJ {pg:Pg} {call:Call} (hc:yd call (qN pg)) {n:Nat} {k:K}:∀(l:List Op) {e:Env} {H:List Obj} {lo:Nat} {x:Ex × St},(qeN l k).run call n e H lo=some x->qsq pg (qk (qN pg) l ⟨e,H,lo⟩) k call n x
 | [],e,H,lo,x,h=>.inl ⟨⟨e,H,lo⟩,rfl,h⟩
 | o::l,e,H,lo,x,h=>by
  have h:(qyV o (qeN l k)).run call n e H lo=some x:=h
  have key:wanted o.g e=some true->(qqv o.dst o.k (qeN l k)).run call n e H lo=some x->qsq pg (qk (qN pg) (o::l) ⟨e,H,lo⟩) k call n x:=by
   intro hw h
   obtain ⟨q,hq,hq2⟩:=qkP h
   have hq':=qds hc hq
   simp only [qk,hw,hq']
   rcases hq2 with ⟨hp,st,hst,hrun⟩|⟨hp,rfl⟩
   ·rw [hp,hst]
    exact qiJ hc l hrun
   ·rw [hp]
    exact .inr ⟨rfl,by simp⟩
  have skip:wanted o.g e=some false->qfk o.dst (.tup []) (qeN l k) call n e H lo=some x->qsq pg (qk (qN pg) (o::l) ⟨e,H,lo⟩) k call n x:=by
   intro hw' h
   obtain ⟨q,hq,hq2⟩:=qgF (same:=true) h
   cases hq
   rcases hq2 with ⟨_,st,hst,hrun⟩|⟨hp,_⟩
   ·simp only [qk,hw']
    rw [hst]
    exact qiJ hc l hrun
   ·cases hp
  unfold qyV at h
  split at h
  ·rename_i hg
   exact key (by rw [hg];rfl) h
  ·rename_i m w hg
   have h:(orN (vG (fget m e)) fun r=>Option.rec (motive:=fun _=>R) (qfk o.dst (.tup []) (qeN l k) call n e H lo) (fun z=>Bool.rec (motive:=fun _=>R) (qfk o.dst (.tup []) (qeN l k) call n e H lo) ((qqv o.dst o.k (qeN l k)).run call n e H lo) (eqB z w)) r)=some x:=h
   obtain ⟨r,hr,h⟩:=kD h
   have hw:=qBK m w e
   rw [hr] at hw
   rw [<- hg] at hw
   cases r with
   | none=>exact skip hw h
   | some z=>
    have hw:wanted o.g e=some (z == w):=hw
    rw [<- qzN] at hw
    have h:Bool.rec (motive:=fun _=>R) (qfk o.dst (.tup []) (qeN l k) call n e H lo) ((qqv o.dst o.k (qeN l k)).run call n e H lo) (eqB z w)=some x:=h
    cases hb:eqB z w with
    | false=>rw [hb] at h hw;exact skip hw h
    | true=>rw [hb] at h hw;exact key hw h
noncomputable def nbK (k:K):K:=.mk fun call n e H lo=>List.rec (motive:=fun _=>R) none (fun p _ _=>Prod.rec (motive:=fun _=>R) (fun _ v=>qi0 v none fun _=>k.run call n e H lo) p) e
theorem qtJ {k:K} {call:Call} {n d:Nat} {v:V} {e:Env} {H:List Obj} {lo:Nat} {x:Ex × St} (h:(nbK k).run call n ((d,v)::e) H lo=some x):v.isBox=false/\k.run call n ((d,v)::e) H lo=some x:=by
 have h:qi0 v none (fun _=>k.run call n ((d,v)::e) H lo)=some x:=h
 rcases qi3 h with h|h
 ·cases h
 ·exact h
def qvI:OpK->Bool
 | .mov _ | .pick _ _ _ | .build _ _ | .buildSlice _ _ _ | .load _ _ _ _ | .loadC _ _ | .nilCheck _ | .bin _ _ _ _ | .un _ _ | .conv _ _ | .fieldAddr _ _ _ | .field _ _ _ | .indexAddr _ _ _ _ | .index _ _ | .extract _ _ | .bi _ _ | .store _ _ _ _ | .lookup _ _ _ _ _ | .sliceS _ _ _ | .appendR _ _ _ _=>true
 | _=>false
def qtj:OpK->Bool
 | .load mv _ _ _=>!mv
 | .store _ _ _ _ | .appendR _ _ _ _=>false
 | _=>true
theorem qBn {v:V} {st:St} {q:Or} (h:ok v st=some q):q.pan=false/\q.same=true:=by cases h;exact ⟨rfl,rfl⟩
theorem qHU {v:V} {st:St} {q:Or} (h:okH v st=some q):q.pan=false:=by cases h;rfl
theorem qAg {op:OpK} (hf:qvI op=true) {call:Call} {st:St} {q:Or} (h:qa call op st=some q):q.pan=false/\(qtj op=true->q.same=true):=by
 cases op<;>first
  | cases hf;done
  | skip
 all_goals simp only [qa,qqf,qfw,qaU,kz,zz,qcD,zj,qm6,eUn,qfg,kg,qc1,kl,jL,ja,qdg,jJ,eBi,qka,qdi,qma,jW,qai,zp,jT,jI,qJo] at h
 all_goals repeat' split at h
 all_goals first
  | (cases h;done)
  | exact ⟨(qBn h).1,fun _=>(qBn h).2⟩
  | exact ⟨qHU h,fun hp=>by first|(cases hp;done)|(simp_all [qtj])⟩
def qot (f:KF) (op:OpK) (se:Bool) (no:List Nat) (dst:Option Nat) (k:K):Prop:=∀{call:Call} {n:Nat} {e:Env} {H:List Obj} {lo:Nat} {x:Ex × St},f call n e H lo=some x->
 ∃q,qa call op ⟨e,H,lo⟩=some q/\((q.pan=false/\(q.same || se)=true/\∃st,yh (qpQ op) no dst q.v q.st=some st/\k.run call n st.env st.H st.lo=some x)\/(q.pan=true/\qH jQ no=true/\x=(.pan q.v,{q.st with env:=[]})))
theorem qv1 {bx:Bool} {d:Nat} {v:V} {st:St} (h:v.isBox=false):yh bx [] (some d) v st=some {st with env:=(d,v)::st.env}:=by
 cases v<;>first|rfl|cases h
theorem qA8 {k:K} {call:Call} {n d:Nat} {v:V} {st:St} {x:Ex × St} (h:(nbK k).run call n (put (some d) v st).env (put (some d) v st).H (put (some d) v st).lo=some x):v.isBox=false/\k.run call n ((d,v)::st.env) st.H st.lo=some x:=by
 cases v with
 | box cs=>
  have h:(nbK k).run call n ((d,.box cs)::qeI d st.env) st.H st.lo=some x:=h
  have:=(qtJ h).1
  cases this
 | _=>exact qtJ h
noncomputable def qBu (dst:Option Nat) (op:OpK) (k:K):K:=
 match dst with
 | some d=>qqv (some d) op (nbK k)
 | none=>qqv none op k
theorem quI {dst:Option Nat} {op:OpK} {se:Bool} {k:K} (hf:qvI op=true) (hp:(qtj op || se)=true):qot (qBu dst op k).run op se [] dst k:=by
 intro call n e H lo x h
 have key:∀q:Or,qa call op ⟨e,H,lo⟩=some q->q.pan=false/\(q.same || se)=true:=fun q hq=>by
  obtain ⟨h1,h2⟩:=qAg hf hq
  refine ⟨h1,?_⟩
  rw [Bool.or_eq_true] at hp |-
  exact hp.imp h2 id
 cases dst with
 | some d=>
  obtain ⟨q,hq,h2⟩:=qkP (dst:=some d) h
  obtain ⟨h3,h4⟩:=key q hq
  rcases h2 with ⟨_,st,rfl,h5⟩|⟨h5,_⟩
  ·obtain ⟨hb,h6⟩:=qA8 h5
   exact ⟨q,hq,.inl ⟨h3,h4,_,qv1 hb,h6⟩⟩
  ·rw [h3] at h5;cases h5
 | none=>
  obtain ⟨q,hq,h2⟩:=qkP (dst:=none) h
  obtain ⟨h3,h4⟩:=key q hq
  rcases h2 with ⟨_,st,rfl,h5⟩|⟨h5,_⟩
  ·exact ⟨q,hq,.inl ⟨h3,h4,_,rfl,h5⟩⟩
  ·rw [h3] at h5;cases h5
noncomputable def qq1 (dst:Option Nat) (op:OpK) (se:Bool) (no:List Nat) (k:K):KF:=fun call n e H lo=>
 match (qB0 op).run call ⟨e,H,lo⟩ with
 | some ⟨pan,same,v,⟨e',H',lo'⟩⟩=>Bool.rec (motive:=fun _=>R) (Bool.rec (motive:=fun _=>R) none
   (qo9 (makes op) v fun v=>match yh (qpQ op) no dst v ⟨e',H',lo'⟩ with
    | some ⟨e2,H2,lo2⟩=>Bool.rec (motive:=fun _=>R) (qos (qlq op) H2 fun H2=>qj lo2 fun lo2=>k.run call n e2 H2 lo2) (k.run call n e2 H2 lo2) same
    | none=>none) (same || se)) (Bool.rec (motive:=fun _=>R) none (some (.pan v,⟨[],H',lo'⟩)) (qH jQ no)) pan
 | none=>none
theorem qgT {dst:Option Nat} {op:OpK} {se:Bool} {no:List Nat} {k:K}:qot (qq1 dst op se no k) op se no dst k:=by
 intro call n e H lo x h
 unfold qq1 at h
 rw [qvu] at h
 split at h
 ·rename_i pan same v e' H' lo' hq
  cases pan with
  | true=>
   have h:Bool.rec (motive:=fun _=>R) none (some (.pan v,⟨[],H',lo'⟩)) (qH jQ no)=some x:=h
   cases hm:qH jQ no with
   | false=>rw [hm] at h;cases h
   | true=>
    rw [hm] at h
    exact ⟨_,hq,.inr ⟨rfl,rfl,(Option.some.inj h).symm⟩⟩
  | false=>
   cases hs:(same || se) with
   | false=>rw [hs] at h;cases h
   | true=>
    rw [hs] at h
    have h:(qo9 (makes op) v fun v=>match yh (qpQ op) no dst v ⟨e',H',lo'⟩ with
     | some ⟨e2,H2,lo2⟩=>Bool.rec (motive:=fun _=>R) (qos (qlq op) H2 fun H2=>qj lo2 fun lo2=>k.run call n e2 H2 lo2) (k.run call n e2 H2 lo2) same
     | none=>none)=some x:=h
    rw [qqF] at h
    split at h
    ·rename_i e2 H2 lo2 hp
     refine ⟨_,hq,.inl ⟨rfl,hs,_,hp,?_⟩⟩
     cases same with
     | false=>simpa only [qqE,qR] using h
     | true=>exact h
    ·cases h
 ·cases h
noncomputable def qAk (d i:Nat) (args:List O) (se:Bool) (k:K):KF:=fun call n e H lo=>
 (qzU args).run e fun vs=>j7 (lvs vs) (orN (call i vs H) fun r=>Cr.rec (motive:=fun _=>R) (fun pan same v H' lo'=>qjI lo lo' fun lo=>Bool.rec (motive:=fun _=>R) (Bool.rec (motive:=fun _=>R) none (qi0 v none fun v=>k.run call n ((d,v)::(spL args).run e) H' lo) (same || se)) none pan) r)
theorem qqK {d i:Nat} {args:List O} {se:Bool} {k:K}:qot (qAk d i args se k) (.call (.f i) args) se [] (some d) k:=by
 intro call n e H lo z h
 unfold qAk at h
 rw [qr1] at h
 obtain ⟨h1,h⟩:=qJ h
 obtain ⟨r,hr,h⟩:=kD h
 rw [qvj] at h1
 obtain ⟨pan,same,v,H',lo'⟩:=r
 have h:(qjI lo lo' fun lo=>Bool.rec (motive:=fun _=>R) (Bool.rec (motive:=fun _=>R) none (qi0 v none fun v=>k.run call n ((d,v)::(spL args).run e) H' lo) (same || se)) none pan)=some z:=h
 rw [qen,quW] at h
 cases pan with
 | true=>cases h
 | false=>
  cases hs:(same || se) with
  | false=>rw [hs] at h;cases h
  | true=>
   rw [hs] at h
   have h:qi0 v none (fun v=>k.run call n ((d,v)::spentAll args e) H' (min lo lo'))=some z:=h
   rcases qi3 h with h|⟨hb,h⟩
   ·cases h
   ·have he:qa call (.call (.f i) args) ⟨e,H,lo⟩=some ⟨false,same,v,⟨spentAll args e,H',min lo lo'⟩⟩:=by
     simp only [qa,zV,rd,List.nil_append,List.append_nil,h1,if_true,hr]
    exact ⟨_,he,.inl ⟨rfl,hs,_,qv1 hb,h⟩⟩
theorem qzn {bx:Bool} {d:Nat} {v:V} {st:St} (h:v.isBox=false) (hl:∀m o,v≠.lp m o):yh bx [jQ] (some d) v st=some {st with env:=(d,v)::st.env}:=by
 cases v<;>first|exact absurd rfl (hl _ _)|(cases h;done)|rfl
noncomputable def qFd (d i:Nat) (args:List O) (se:Bool) (k:K):KF:=fun call n e H lo=>
 (qzU args).run e fun vs=>j7 (lvs vs) (orN (call i vs H) fun r=>Cr.rec (motive:=fun _=>R) (fun pan same v H' lo'=>qjI lo lo' fun lo=>Bool.rec (motive:=fun _=>R) (Bool.rec (motive:=fun _=>R) none (qrM v none fun v=>k.run call n ((d,v)::(spL args).run e) H' lo) (same || se)) (some (.pan v,⟨[],H',lo⟩)) pan) r)
theorem qxn {d i:Nat} {args:List O} {se:Bool} {k:K}:qot (qFd d i args se k) (.call (.f i) args) se [jQ] (some d) k:=by
 intro call n e H lo z h
 unfold qFd at h
 rw [qr1] at h
 obtain ⟨h1,h⟩:=qJ h
 obtain ⟨r,hr,h⟩:=kD h
 rw [qvj] at h1
 obtain ⟨pan,same,v,H',lo'⟩:=r
 have h:(qjI lo lo' fun lo=>Bool.rec (motive:=fun _=>R) (Bool.rec (motive:=fun _=>R) none (qrM v none fun v=>k.run call n ((d,v)::(spL args).run e) H' lo) (same || se)) (some (.pan v,⟨[],H',lo⟩)) pan)=some z:=h
 rw [qen,quW] at h
 cases pan with
 | true=>
  have he:qa call (.call (.f i) args) ⟨e,H,lo⟩=some ⟨true,same,v,⟨spentAll args e,H',min lo lo'⟩⟩:=by
   simp only [qa,zV,rd,List.nil_append,List.append_nil,h1,if_true,hr]
  exact ⟨_,he,.inr ⟨rfl,rfl,(Option.some.inj h).symm⟩⟩
 | false=>
  cases hs:(same || se) with
  | false=>rw [hs] at h;cases h
  | true=>
   rw [hs] at h
   have h:qrM v none (fun v=>k.run call n ((d,v)::spentAll args e) H' (min lo lo'))=some z:=h
   obtain ⟨hb,hl,h⟩:=qtN h
   ·have he:qa call (.call (.f i) args) ⟨e,H,lo⟩=some ⟨false,same,v,⟨spentAll args e,H',min lo lo'⟩⟩:=by
     simp only [qa,zV,rd,List.nil_append,List.append_nil,h1,if_true,hr]
    exact ⟨_,he,.inl ⟨rfl,hs,_,qzn hb hl,h⟩⟩
noncomputable def qxK (d:Nat) (f:O) (args:List O) (se:Bool) (g:K) (k:K):KF:=fun call n e H lo=>
 asF ((ky f).run e) (g.run call n e H lo) fun i=>qAk d i args se k call n e H lo
theorem qu8 {d:Nat} {f:O} {args:List O} {se:Bool} {g k:K} (hg:qot g.run (.call f args) se [] (some d) k):qot (qxK d f args se g k) (.call f args) se [] (some d) k:=by
 intro call n e H lo z h
 unfold qxK at h
 rcases qsZ h with h|⟨i,hi,h⟩
 ·exact hg h
 ·rw [qzD hi];exact qqK h
noncomputable def quF (dst:Option Nat) (op:OpK) (se:Bool) (no:List Nat) (k:K):K:=
 match no,op,dst with
 | [],.call (.f i) args,some d=>.mk (qAk d i args se k)
 | [],.call f args,some d=>.mk (qxK d f args se (.mk (qq1 (some d) (.call f args) se [] k)) k)
 | [m],.call (.f i) args,some d=>match Nat.decEq m jQ with
  | .isTrue _=>.mk (qFd d i args se k)
  | .isFalse _=>.mk (qq1 (some d) (.call (.f i) args) se [m] k)
 | [],op,dst=>Bool.rec (motive:=fun _=>K) (.mk (qq1 dst op se [] k)) (qBu dst op k) (qvI op && (qtj op || se))
 | no,op,dst=>.mk (qq1 dst op se no k)
theorem qxe {dst:Option Nat} {op:OpK} {se:Bool} {no:List Nat} {k:K}:qot (quF dst op se no k).run op se no dst k:=by
 unfold quF
 split
 ·exact qqK
 ·refine qu8 ?_
  intro call n e H lo x h
  exact qgT h
 ·split
  ·rename_i hm _
   subst hm
   exact qxn
  ·exact qgT
 ·cases hb:(qvI op && (qtj op || se)) with
  | false=>exact qgT
  | true=>
   rw [qJp] at hb
   exact quI hb.1 hb.2
 ·exact qgT
noncomputable def qr4 (l:List (Op × Bool × List Nat)) (k:K):K:=List.rec (motive:=fun _=>K) k (fun p _ ih=>match p with
 | (⟨dst,op,none⟩,se,no)=>quF dst op se no ih
 | (⟨dst,op,some (m,w)⟩,se,no)=>.mk fun call n e H lo=>orN (vG (fget m e)) fun r=>Option.rec (motive:=fun _=>R) (qfk dst (.tup []) ih call n e H lo) (fun z=>Bool.rec (motive:=fun _=>R) (qfk dst (.tup []) ih call n e H lo) ((quF dst op se no ih).run call n e H lo) (eqB z w)) r) l
theorem qmU {pg:Pg} {call:Call} (hc:yd call (qN pg)) {n:Nat} {k:K}:∀(l:List (Op × Bool × List Nat)) {e:Env} {H:List Obj} {lo:Nat} {x:Ex × St},(qr4 l k).run call n e H lo=some x->qsq pg (qA (qN pg) l ⟨e,H,lo⟩) k call n x
 | [],e,H,lo,x,h=>.inl ⟨⟨e,H,lo⟩,rfl,h⟩
 | (⟨dst,op,g⟩,se,no)::l,e,H,lo,x,h=>by
  have key:wanted g e=some true->(quF dst op se no (qr4 l k)).run call n e H lo=some x->qsq pg (qA (qN pg) ((⟨dst,op,g⟩,se,no)::l) ⟨e,H,lo⟩) k call n x:=by
   intro hw h
   obtain ⟨q,hq,⟨hp,hs,st,hst,hrun⟩|⟨hp,hm,hx⟩⟩:=qxe h
   rotate_left
   ·have hq':=qds hc hq
    refine .inr ⟨?_,by rw [hx];exact nofun⟩
    simp only [qA,hw,hq',hp,Bool.true_or,cond_true,qzd,hm,Bool.and_self,hx]
   have hq':=qds hc hq
   simp only [qA,hw,hq',hp,hs,hst,Bool.not_true,Bool.or_self,cond_false]
   exact qmU hc l hrun
  have skip:wanted g e=some false->qfk dst (.tup []) (qr4 l k) call n e H lo=some x->qsq pg (qA (qN pg) ((⟨dst,op,g⟩,se,no)::l) ⟨e,H,lo⟩) k call n x:=by
   intro hw' h
   obtain ⟨q,hq,hq2⟩:=qgF (same:=true) h
   cases hq
   rcases hq2 with ⟨_,st,hst,hrun⟩|⟨hp,_⟩
   ·simp only [qA,hw']
    rw [hst]
    exact qmU hc l hrun
   ·cases hp
  cases g with
  | none=>exact key rfl h
  | some mw=>
   obtain ⟨m,w⟩:=mw
   have h:(orN (vG (fget m e)) fun r=>Option.rec (motive:=fun _=>R) (qfk dst (.tup []) (qr4 l k) call n e H lo) (fun z=>Bool.rec (motive:=fun _=>R) (qfk dst (.tup []) (qr4 l k) call n e H lo) ((quF dst op se no (qr4 l k)).run call n e H lo) (eqB z w)) r)=some x:=h
   obtain ⟨r,hr,h⟩:=kD h
   have hw:=qBK m w e
   rw [hr] at hw
   cases r with
   | none=>exact skip hw h
   | some z=>
    have hw:wanted (some (m,w)) e=some (z == w):=hw
    rw [<- qzN] at hw
    have h:Bool.rec (motive:=fun _=>R) (qfk dst (.tup []) (qr4 l k) call n e H lo) ((quF dst op se no (qr4 l k)).run call n e H lo) (eqB z w)=some x:=h
    cases hb:eqB z w with
    | false=>rw [hb] at h hw;exact skip hw h
    | true=>rw [hb] at h hw;exact key hw h
noncomputable def qdY:K:=.mk fun _ _ e H lo=>some (.nrm,⟨e,H,lo⟩)
noncomputable def frest (live:List Nat) (e:Env) (κ:Env->R):R:=
 List.rec (motive:=fun _=>(Env->R)->R) (fun κ=>κ []) (fun n _ ih κ=>qyJ (fget n e) fun v=>ih fun r=>κ ((n,v)::r)) live κ
theorem qmn (live:List Nat) (e:Env) (κ:Env->R):frest live e κ=κ (restrict live e):=by
 induction live generalizing κ with
 | nil=>rfl
 | cons n l ih=>
  show qyJ (fget n e) (fun v=>frest l e fun r=>κ ((n,v)::r))=_
  rw [qyM,ih,jF]
  rfl
noncomputable def onX (r:R) (fn:Env->List Obj->Nat->R) (fx:Nat->Env->List Obj->Nat->R):R:=
 Option.rec (motive:=fun _=>R) none (fun p=>Prod.rec (motive:=fun _=>R) (fun ex st=>St.rec (motive:=fun _=>R) (fun e H lo=>Ex.rec (motive:=fun _=>R) (fn e H lo) (fun j=>fx j e H lo) (some (.ret,⟨e,H,lo⟩)) (fun v=>some (.pan v,⟨e,H,lo⟩)) ex) st) p) r
noncomputable def qBo (id:Nat) (live:List Nat) (k:K) (call:Call) (n:Nat) (r:R):R:=
 onX r (fun e H lo=>frest live e fun e=>k.run call n e H lo) fun j e H lo=>Bool.rec (motive:=fun _=>R) (some (.exit j,⟨e,H,lo⟩)) (frest live e fun e=>k.run call n e H lo) (qJv j id)
noncomputable def qvX (live:List Nat) (a:K) (call:Call) (n:Nat):Env->List Obj->Nat->R:=
 Nat.rec (motive:=fun _=>Env->List Obj->Nat->R) (fun _ _ _=>none) (fun m ih e H lo=>frest live e fun e=>onX (a.run call m e H lo) ih fun j e H lo=>some (.exit j,⟨e,H,lo⟩)) n
noncomputable def qli (c:C):K->K:=
 C.rec (motive:=fun _=>K->K) (fun k=>k) (fun l k=>qeN l k) (fun l k=>qr4 l k)
  (fun _ _ da db k=>da (db k)) (fun o _ _ da db k=>.mk fun call n e H lo=>asB ((ky o).run e) ((da k).run call n e H lo) ((db k).run call n e H lo))
  (fun id live _ da k=>.mk fun call n e H lo=>qBo id live k call n ((da qdY).run call n e H lo))
  (fun live _ da _=>.mk fun call n e H lo=>qvX live (da qdY) call n e H lo)
  (fun id _=>.mk fun _ _ e H lo=>some (.exit id,⟨e,H,lo⟩)) (fun _=>.mk fun _ _ e H lo=>some (.ret,⟨e,H,lo⟩)) (fun _=>.mk fun _ _ _ _ _=>none)
  (fun k l f p0 p1 live _ _ da db kk=>.mk fun call n e H lo=>match frd e f with
   | .fn k' [] [c]=>Bool.rec (motive:=fun _=>R) none (match yH c H lo with
    | some m=>zG (fun p k=>jj p.2 fun v=>k (p.1,v)) (jq live e) fun base=>qj m fun m=>match rounds (fun st=>(da qdY).run call n st.env st.H st.lo) (fun st=>(db qdY).run call n st.env st.H st.lo) l c p0 p1 base m H lo with
     | some (.nrm,⟨e,H,lo⟩)=>kk.run call n e H lo
     | r=>r
    | none=>none) (qJv k' k && c.ok)
   | _=>none)
  (fun k f live kk=>.mk fun call n e H lo=>match frd e f with
   | .fn k' [] cap=>Bool.rec (motive:=fun _=>R) none (match call k (.undef::cap) H with
    | some r=>Bool.rec (motive:=fun _=>R) (frest live e fun e=>qpk r.H fun H=>qj (min lo r.lo) fun lo=>kk.run call n e H lo) none r.pan
    | none=>none) (qJv k' k && V.ok.oks cap)
   | _=>none) c
theorem qmS {pg:Pg} {r:R} {call:Call} {n:Nat} {x:Ex × St} (h:qsq pg r qdY call n x):r=some x:=by
 rcases h with ⟨s,h1,h2⟩|⟨h1,_⟩
 ·have h2:some (Ex.nrm,(⟨s.env,s.H,s.lo⟩:St))=some x:=h2
  cases h2
  exact h1
 ·exact h1
theorem qwo {pg:Pg} {live:List Nat} {a:C} {st:St}:exL pg (.loop live a) st=(match exL pg a {st with env:=restrict live st.env} with|some (.nrm,st')=>exL pg (.loop live a) st'|r=>r):=by rw [jM];rfl
theorem qoG {pg:Pg} {live:List Nat} {a:C} {da:K} {call:Call} (ih:∀(n:Nat) (e:Env) (H:List Obj) (lo:Nat) (x:Ex × St),da.run call n e H lo=some x->exL pg a ⟨e,H,lo⟩=some x) :
  ∀(n:Nat) {e:Env} {H:List Obj} {lo:Nat} {x:Ex × St},qvX live da call n e H lo=some x->exL pg (.loop live a) ⟨e,H,lo⟩=some x/\x.1≠.nrm
 | 0,e,H,lo,x,h=>by cases h
 | n+1,e,H,lo,x,h=>by
  have h:(frest live e fun e=>onX (da.run call n e H lo) (qvX live da call n) fun j e H lo=>some (.exit j,⟨e,H,lo⟩))=some x:=h
  rw [qmn] at h
  rw [qwo]
  cases hq:da.run call n (restrict live e) H lo with
  | none=>rw [hq] at h;cases h
  | some y=>
   have hy:=ih n _ _ _ _ hq
   obtain ⟨ex,st⟩:=y
   rw [hq] at h
   show (match exL pg a ⟨restrict live e,H,lo⟩ with|some (.nrm,st')=>exL pg (.loop live a) st'|r=>r)=some x/\_
   rw [hy]
   cases ex with
   | nrm=>exact qoG ih n h
   | exit id=>cases h;exact ⟨rfl,by simp⟩
   | ret=>cases h;exact ⟨rfl,by simp⟩
   | pan v=>cases h;exact ⟨rfl,by simp⟩
theorem jt {pg:Pg} {call:Call} (hc:yd call (qN pg)):∀(c:C) (k:K) (n:Nat) (e:Env) (H:List Obj) (lo:Nat) (x:Ex × St),(qli c k).run call n e H lo=some x->qsq pg (exL pg c ⟨e,H,lo⟩) k call n x
 | .skip,k,n,e,H,lo,x,h=>.inl ⟨⟨e,H,lo⟩,by rw [jM];rfl,h⟩
 | .ops l,k,n,e,H,lo,x,h=>by
  have:=qiJ hc l h
  rwa [show exL pg (.ops l) ⟨e,H,lo⟩=qk (qN pg) l ⟨e,H,lo⟩ by rw [jM];rfl]
 | .opsD l,k,n,e,H,lo,x,h=>by
  have:=qmU hc l h
  rwa [show exL pg (.opsD l) ⟨e,H,lo⟩=qA (qN pg) l ⟨e,H,lo⟩ by rw [jM];rfl]
 | .seq a b,k,n,e,H,lo,x,h=>by
  have ha:=jt hc a (qli b k) n e H lo x h
  rw [show exL pg (.seq a b) ⟨e,H,lo⟩=(match exL pg a ⟨e,H,lo⟩ with|some (.nrm,st')=>exL pg b st'|r=>r) by rw [jM];rfl]
  rcases ha with ⟨s,h1,h2⟩|⟨h1,h2⟩
  ·rw [h1]
   exact jt hc b k n s.env s.H s.lo x h2
  ·rw [h1]
   obtain ⟨ex,st⟩:=x
   cases ex with
   | nrm=>exact absurd rfl h2
   | _=>exact .inr ⟨rfl,h2⟩
 | .cond o a b,k,n,e,H,lo,x,h=>by
  have h:asB ((ky o).run e) ((qli a k).run call n e H lo) ((qli b k).run call n e H lo)=some x:=h
  rw [show exL pg (.cond o a b) ⟨e,H,lo⟩=(match rd e o with | .d (.b true)=>exL pg a ⟨e,H,lo⟩ | .d (.b false)=>exL pg b ⟨e,H,lo⟩|_=>none) by rw [jM];rfl]
  rcases qpf h with ⟨hx,h⟩|⟨hx,h⟩
  ·have hx':rd e o=.d (.b true):=(qO (by rw [hx];trivial)).trans hx
   rw [hx'];exact jt hc a k n e H lo x h
  ·have hx':rd e o=.d (.b false):=(qO (by rw [hx];trivial)).trans hx
   rw [hx'];exact jt hc b k n e H lo x h
 | .block id live a,k,n,e,H,lo,x,h=>by
  have h:qBo id live k call n ((qli a qdY).run call n e H lo)=some x:=h
  rw [show exL pg (.block id live a) ⟨e,H,lo⟩=(match exL pg a ⟨e,H,lo⟩ with
   | some (.nrm,st')=>some (.nrm,{st' with env:=restrict live st'.env})
   | some (.exit j,st')=>bif qJv j id then some (.nrm,{st' with env:=restrict live st'.env}) else some (.exit j,st')
   | r=>r) by rw [jM];rfl]
  cases hq:(qli a qdY).run call n e H lo with
  | none=>rw [hq] at h;cases h
  | some y=>
   have hy:=qmS (jt hc a qdY n e H lo y hq)
   rw [hq] at h
   rw [hy]
   obtain ⟨ex,e',H',lo'⟩:=y
   cases ex with
   | nrm=>
    have h:(frest live e' fun e=>k.run call n e H' lo')=some x:=h
    rw [qmn] at h
    exact .inl ⟨_,rfl,h⟩
   | exit j=>
    have h:Bool.rec (motive:=fun _=>R) (some (.exit j,⟨e',H',lo'⟩)) (frest live e' fun e=>k.run call n e H' lo') (qJv j id)=some x:=h
    cases hb:qJv j id with
    | true=>
     rw [hb] at h
     have h:(frest live e' fun e=>k.run call n e H' lo')=some x:=h
     rw [qmn] at h
     exact .inl ⟨⟨restrict live e',H',lo'⟩,by simp only [hb,cond_true],h⟩
    | false=>
     rw [hb] at h
     have h:some (Ex.exit j,(⟨e',H',lo'⟩:St))=some x:=h
     cases h
     exact .inr ⟨by simp only [hb,cond_false],by simp⟩
   | ret=>cases h;exact .inr ⟨rfl,by simp⟩
   | pan v=>cases h;exact .inr ⟨rfl,by simp⟩
 | .loop live a,k,n,e,H,lo,x,h=>by
  have h:qvX live (qli a qdY) call n e H lo=some x:=h
  exact .inr (qoG (fun n e H lo x h=>qmS (jt hc a qdY n e H lo x h)) n h)
 | .exit id,k,n,e,H,lo,x,h=>by
  have h:some (Ex.exit id,(⟨e,H,lo⟩:St))=some x:=h
  cases h
  exact .inr ⟨by rw [jM];rfl,by simp⟩
 | .ret,k,n,e,H,lo,x,h=>by
  have h:some (Ex.ret,(⟨e,H,lo⟩:St))=some x:=h
  cases h
  exact .inr ⟨by rw [jM];rfl,by simp⟩
 | .stuck,k,n,e,H,lo,x,h=>by
  have h:none=some x:=h
  cases h
 | .rangeB k l f p0 p1 live a b,kk,n,e,H,lo,x,h=>by
  have h:(match frd e f with
   | .fn k' [] [c]=>Bool.rec (motive:=fun _=>R) none (match yH c H lo with
    | some m=>zG (fun (p:Nat × V) k=>jj p.2 fun v=>k (p.1,v)) (jq live e) fun base=>qj m fun m=>match rounds (fun st=>(qli a qdY).run call n st.env st.H st.lo) (fun st=>(qli b qdY).run call n st.env st.H st.lo) l c p0 p1 base m H lo with
     | some (.nrm,⟨e,H,lo⟩)=>kk.run call n e H lo
     | r=>r
    | none=>none) (qJv k' k && c.ok)
   | _=>none)=some x:=h
  rw [ya] at h
  rw [show exL pg (.rangeB k l f p0 p1 live a b) ⟨e,H,lo⟩=(match rd e f with
   | .fn k' [] [c]=>bif qJv k' k && c.ok then (match yH c H lo with
    | some n=>rounds (exL pg a) (exL pg b) l c p0 p1 (jq live e) n H lo
    | none=>none) else none
   | _=>none) by rw [jM];rfl]
  split at h
  ·rename_i k' c hf
   (try simp only [hf])
   cases hb:(qJv k' k && c.ok) with
   | false=>rw [hb] at h;cases h
   | true=>
    rw [hb] at h
    (try simp only [cond_true,hb])
    split at h
    ·rename_i m hm
     (try simp only [hm])
     rw [qU (fun p k=>zl p.2 fun v=>k (p.1,v)),qR] at h
     have le:∀y,rounds (fun st=>(qli a qdY).run call n st.env st.H st.lo) (fun st=>(qli b qdY).run call n st.env st.H st.lo) l c p0 p1 (jq live e) m H lo=some y->rounds (exL pg a) (exL pg b) l c p0 p1 (jq live e) m H lo=some y:=fun y hy=>
      qfa (fun st z hz=>qmS (jt hc a qdY n st.env st.H st.lo z hz)) (fun st z hz=>qmS (jt hc b qdY n st.env st.H st.lo z hz)) m hy
     cases hq:rounds (fun st=>(qli a qdY).run call n st.env st.H st.lo) (fun st=>(qli b qdY).run call n st.env st.H st.lo) l c p0 p1 (jq live e) m H lo with
     | none=>rw [hq] at h;cases h
     | some y=>
      rw [hq] at h
      rw [le y hq]
      obtain ⟨ex,e',H',lo'⟩:=y
      cases ex with
      | nrm=>exact .inl ⟨_,rfl,h⟩
      | exit id=>cases h;exact .inr ⟨rfl,by simp⟩
      | ret=>cases h;exact .inr ⟨rfl,by simp⟩
      | pan v=>cases h;exact .inr ⟨rfl,by simp⟩
    ·cases h
  ·cases h
 | .rangeZ k f live,kk,n,e,H,lo,x,h=>by
  have h:(match frd e f with
   | .fn k' [] cap=>Bool.rec (motive:=fun _=>R) none (match call k (.undef::cap) H with
    | some r=>Bool.rec (motive:=fun _=>R) (frest live e fun e=>qpk r.H fun H=>qj (min lo r.lo) fun lo=>kk.run call n e H lo) none r.pan
    | none=>none) (qJv k' k && V.ok.oks cap)
   | _=>none)=some x:=h
  rw [ya] at h
  split at h
  ·rename_i k' cap hf
   cases hb:(qJv k' k && V.ok.oks cap) with
   | false=>rw [hb] at h;cases h
   | true=>
    rw [hb] at h
    split at h
    ·rename_i r hr
     cases hp:r.pan with
     | true=>rw [hp] at h;cases h
     | false=>
      rw [hp] at h
      have h:(frest live e fun e=>qpk r.H fun H=>qj (min lo r.lo) fun lo=>kk.run call n e H lo)=some x:=h
      rw [qmn,qqD,qR] at h
      refine .inl ⟨⟨restrict live e,r.H,min lo r.lo⟩,?_,h⟩
      rw [jM]
      have hr':=hc _ _ _ _ hr
      show step _ _ _ _=_
      simp only [step,hf,hb,cond_true,hr',hp,cond_false]
    ·cases h
  ·cases h
noncomputable def qzf (own:Bool) (v:V) (κ:V->Option Cr):Option Cr:=V.rec (motive_1:=fun _=>Option Cr) (motive_2:=fun _=>Option Cr) (fun x=>κ (.d x)) (fun xs=>Bool.rec (motive:=fun _=>Option Cr) (κ (.d (.sl xs))) (κ (.osl xs)) own) (fun xs=>κ (.fsl xs)) (fun a b=>κ (.ptr a b)) (fun a b=>κ (.lp a b)) (fun _ _=>none) (fun x=>κ (.cp x)) (fun a b c d=>κ (.rs a b c d)) (fun a b c=>κ (.row a b c)) (fun a=>κ (.map a)) (fun f a b _ _=>κ (.fn f a b)) (fun t x _=>κ (.ifc t x)) (fun cs _=>Bool.rec (motive:=fun _=>Option Cr) (qbN (qfh (cs.map zX)) κ) (κ (.agg cs)) own) (fun vs _=>κ (.tup vs)) (κ .undef) none (fun _ _ _ _=>none) v
theorem qA5 (own:Bool) (v:V) (κ:V->Option Cr):qzf own v κ=(match (match v with | .box _=>none|v=>some (bif own then v else copy v)) with|some v=>κ v|none=>none):=by
 cases v with
 | agg cs=>cases own with
  | true=>rfl
  | false=>exact qaS _ _
 | _=>cases own<;>rfl
inductive KX where
 | mk (f:Env->List Obj->Nat->(List V->Option Cr)->Option Cr)
noncomputable def KX.run (k:KX):Env->List Obj->Nat->(List V->Option Cr)->Option Cr:=KX.rec (motive:=fun _=>Env->List Obj->Nat->(List V->Option Cr)->Option Cr) (fun f=>f) k
noncomputable def qHl (own:Bool) (r:Rv) (ih:KX):KX:=
 Rv.rec (motive:=fun _=>KX) (fun n=>.mk fun e H lo κ=>qzf own (fget n e) fun v=>ih.run e H lo fun vs=>κ (v::vs))
  (fun n l=>.mk fun e H lo κ=>match yZ own ⟨e,H,lo⟩ (.cell n l) with|some v=>qbN v fun v=>ih.run e H lo fun vs=>κ (v::vs)|none=>none) r
noncomputable def qwp (own:Bool) (l:List Rv):KX:=List.rec (motive:=fun _=>KX) (.mk fun _ _ _ κ=>κ []) (fun r _ ih=>qHl own r ih) l
theorem qAc (own:Bool) (l:List Rv) (e:Env) (H:List Obj) (lo:Nat) (κ:List V->Option Cr):(qwp own l).run e H lo κ=(match qC own ⟨e,H,lo⟩ l with|some vs=>κ vs|none=>none):=by
 induction l generalizing κ with
 | nil=>rfl
 | cons r l ih=>
  show (qHl own r (qwp own l)).run e H lo κ=_
  simp only [qC]
  cases r with
  | t n=>
   show qzf own (fget n e) (fun v=>(qwp own l).run e H lo fun vs=>κ (v::vs))=_
   rw [qA5,jF]
   simp only [ih,yZ]
   cases hv:get n e<;>first|rfl|(simp only [];cases qC own ⟨e,H,lo⟩ l<;>rfl)
  | cell n l'=>
   show (match yZ own ⟨e,H,lo⟩ (.cell n l') with|some v=>qbN v fun v=>(qwp own l).run e H lo fun vs=>κ (v::vs)|none=>none)=_
   cases yZ own ⟨e,H,lo⟩ (.cell n l') with
   | none=>rfl
   | some v=>
    simp only [qaS,ih]
    cases qC own ⟨e,H,lo⟩ l<;>rfl
noncomputable def qFp (v:V):Nat:=V.rec (motive_1:=fun _=>Nat) (motive_2:=fun _=>Nat) (fun _=>0) (fun _=>0) (fun _=>0) (fun a _=>Nat.succ a) (fun _ _=>0) (fun cs _=>V.ref (.box cs)) (fun _=>0) (fun a _ _ _=>Nat.succ a) (fun a _ _=>Nat.succ a) (fun a=>Nat.succ a) (fun f a b _ _=>V.ref (.fn f a b)) (fun t x _=>V.ref (.ifc t x)) (fun cs _=>V.ref (.agg cs)) (fun vs _=>V.ref (.tup vs)) 0 0 (fun _ _ _ _=>0) v
theorem qAJ (v:V):qFp v=v.ref:=by cases v<;>rfl
noncomputable def qGP (v:V):Bool:=V.rec (motive_1:=fun _=>Bool) (motive_2:=fun _=>Bool) (fun _=>false) (fun _=>false) (fun _=>false) (fun _ _=>false) (fun _ _=>false) (fun _ _=>false) (fun _=>false) (fun _ _ _ _=>true) (fun _ _ _=>false) (fun _=>false) (fun _ _ _ _ _=>false) (fun _ _ _=>false) (fun _ _=>false) (fun _ _=>false) false false (fun _ _ _ _=>false) v
noncomputable def qrR (H:List Obj) (v:V) (H':List Obj) (lo:Nat):Option Cr:=
 Bool.rec (motive:=fun _=>Option Cr)
  (Bool.rec (motive:=fun _=>Option Cr) none
   (Bool.rec (motive:=fun _=>Option Cr) (some ⟨false,false,v,H',lo⟩) (Bool.rec (motive:=fun _=>Option Cr) (some ⟨false,false,v,H',lo⟩) (some ⟨false,true,v,H,lo⟩) (Nat.ble (jo H) lo)) (Nat.ble (qFp v) (jo H))) (lvF v))
  (match leave H false v ⟨[],H',lo⟩ with|some ⟨pan,same,v,H,lo⟩=>qbN v fun v=>some (Cr.mk pan same v H lo)|none=>none) (qGP v)
theorem qxx (H:List Obj) (pan:Bool) (v:V) (e e':Env) (H':List Obj) (lo:Nat):leave H pan v ⟨e,H',lo⟩=leave H pan v ⟨e',H',lo⟩:=rfl
theorem qw9 (H:List Obj) (v:V) (e:Env) (H':List Obj) (lo:Nat):qrR H v H' lo=leave H false v ⟨e,H',lo⟩:=by
 unfold qrR
 cases hr:qGP v with
 | true=>
  show (match leave H false v ⟨[],H',lo⟩ with|some ⟨pan,same,v,H,lo⟩=>qbN v fun v=>some (Cr.mk pan same v H lo)|none=>none)=_
  rw [qxx H false v [] e]
  cases leave H false v ⟨e,H',lo⟩ with
  | none=>rfl
  | some r=>obtain ⟨a,b,c,d,f⟩:=r;exact qaS _ _
 | false=>
  show Bool.rec (motive:=fun _=>Option Cr) none (Bool.rec (motive:=fun _=>Option Cr) (some ⟨false,false,v,H',lo⟩) (Bool.rec (motive:=fun _=>Option Cr) (some ⟨false,false,v,H',lo⟩) (some ⟨false,true,v,H,lo⟩) (Nat.ble (jo H) lo)) (Nat.ble (qFp v) (jo H))) (lvF v)=_
  have hs:settle H.length H' v=v:=by cases v<;>first|rfl|cases hr
  unfold leave
  simp only [hs,qzJ,qAJ,kh]
  cases v.leaves with
  | false=>rfl
  | true=>
   cases Nat.ble v.ref H.length with
   | false=>rfl
   | true=>cases Nat.ble H.length lo<;>rfl
noncomputable def qCg (vs:List V) (κ:V->Option Cr):Option Cr:=List.rec (motive:=fun _=>Option Cr) (κ (.tup [])) (fun v t _=>List.rec (motive:=fun _=>Option Cr) (κ v) (fun w u _=>κ (.tup (v::w::u))) t) vs
theorem qBk (vs:List V) (κ:V->Option Cr):qCg vs κ=κ (qiG vs):=by
 cases vs with
 | nil=>rfl
 | cons v t=>cases t<;>rfl
noncomputable def qz1 (fn:Fn) (H:List Obj) (st:St):Option Cr:=St.rec (motive:=fun _=>Option Cr) (fun e H' lo=>(qwp fn.own fn.res).run e H' lo fun vs=>qCg vs fun v=>qrR H v H' lo) st
theorem qvL (fn:Fn) (H:List Obj) (st:St):qz1 fn H st=zQ fn H st:=by
 obtain ⟨e,H',lo⟩:=st
 show ((qwp fn.own fn.res).run e H' lo fun vs=>qCg vs fun v=>qrR H v H' lo)=_
 rw [qAc]
 unfold zQ
 cases qC fn.own ⟨e,H',lo⟩ fn.res with
 | none=>rfl
 | some vs=>simp only [qBk];exact qw9 H _ e H' lo
noncomputable def qxI (fn:Fn):K:=qli fn.body qdY
noncomputable def exJ (call:Call) (n:Nat):C->St->Option (Ex × St):=fun c st=>(qli c qdY).run call n st.env st.H st.lo
noncomputable def qAn (pg:Pg) (call:Call) (n:Nat) (H:List Obj) (fn:Fn) (r:R):Option Cr:=
 Option.rec (motive:=fun _=>Option Cr) none (fun p=>Prod.rec (motive:=fun _=>Option Cr) (fun ex st=>Ex.rec (motive:=fun _=>Option Cr)
  (Option.rec (motive:=fun _=>Option Cr) (qz1 fn H st) (fun q=>deferred pg (exJ call n) fn H q.1 q.2 st) fn.dfr) (fun _=>none) (qz1 fn H st) (fun v=>leave H true v st) ex) p) r
def isNone {α:Type}:Option α->Bool
 | none=>true
 | some _=>false
theorem qw1 {α:Type} {o:Option α} (h:isNone o=true):o=none:=by cases o<;>first|rfl|cases h
noncomputable def qA3 (vs:List V):Nat->(Env->Option Cr)->Option Cr:=List.rec (motive:=fun _=>Nat->(Env->Option Cr)->Option Cr) (fun _ κ=>κ []) (fun v _ ih m κ=>ih (Nat.succ m) fun r=>κ ((m,v)::r)) vs
theorem qBl (vs:List V) (m:Nat) (κ:Env->Option Cr):qA3 vs m κ=κ (qW m vs):=by
 induction vs generalizing m κ with
 | nil=>rfl
 | cons v vs ih=>exact ih _ _
noncomputable def qdk (pg:Pg) (n:Nat):Call:=
 Nat.rec (motive:=fun _=>Call) (fun _ _ _=>none) (fun m ih f vs H=>Option.rec (motive:=fun _=>Option Cr) (pg.ext f vs H)
  (fun fn=>Bool.rec (motive:=fun _=>Option Cr) none (Bool.rec (motive:=fun _=>Option Cr) none (qA3 vs 0 fun e=>qj (jo H) fun hl=>qAn pg ih m H fn ((qxI fn).run ih m e H hl)) (qJv fn.np (jo vs))) (isNone fn.rcv)) (pg.fn f)) n
theorem qy8 {pg:Pg} {call:Call} (hc:yd call (qN pg)) (n:Nat):qqw (exJ call n) (exL pg):=fun c st x h=>qmS (jt hc c qdY n st.env st.H st.lo x h)
theorem qmi (pg:Pg):∀n,yd (qdk pg n) (qN pg)
 | 0=>fun i vs H r h=>by cases h
 | n+1=>fun i vs H r h=>by
  have h:Option.rec (motive:=fun _=>Option Cr) (pg.ext i vs H)
   (fun fn=>Bool.rec (motive:=fun _=>Option Cr) none (Bool.rec (motive:=fun _=>Option Cr) none (qA3 vs 0 fun e=>qj (jo H) fun hl=>qAn pg (qdk pg n) n H fn ((qxI fn).run (qdk pg n) n e H hl)) (qJv fn.np (jo vs))) (isNone fn.rcv)) (pg.fn i)=some r:=h
  rw [qp5]
  unfold ql
  cases hf:pg.fn i with
  | none=>rw [hf] at h;exact h
  | some fn=>
   rw [hf] at h
   have h:Bool.rec (motive:=fun _=>Option Cr) none (Bool.rec (motive:=fun _=>Option Cr) none (qA3 vs 0 fun e=>qj (jo H) fun hl=>qAn pg (qdk pg n) n H fn ((qxI fn).run (qdk pg n) n e H hl)) (qJv fn.np (jo vs))) (isNone fn.rcv)=some r:=h
   rw [qBl,qR,kh,kh] at h
   cases hb1:isNone fn.rcv with
   | false=>rw [hb1] at h;cases h
   | true=>
    rw [hb1] at h
    cases hb:qJv fn.np vs.length with
    | false=>rw [hb] at h;cases h
    | true=>
     rw [hb] at h
     have h:qAn pg (qdk pg n) n H fn ((qxI fn).run (qdk pg n) n (qW 0 vs) H H.length)=some r:=h
     have hcond:fn.np=vs.length/\fn.rcv=none:=⟨qJs hb,qw1 hb1⟩
     simp only [if_pos hcond]
     cases hq:(qxI fn).run (qdk pg n) n (qW 0 vs) H H.length with
     | none=>rw [hq] at h;cases h
     | some y=>
      have hy:=qmS (jt (qmi pg n) fn.body qdY n _ _ _ _ hq)
      rw [hq] at h
      rw [hy]
      obtain ⟨ex,st⟩:=y
      cases ex with
      | nrm=>
       have h:Option.rec (motive:=fun _=>Option Cr) (qz1 fn H st) (fun q=>deferred pg (exJ (qdk pg n) n) fn H q.1 q.2 st) fn.dfr=some r:=h
       show (match fn.dfr with
        | none=>zQ fn H st
        | some (t,rest)=>deferred pg (exL pg) fn H t rest st)=some r
       cases hd:fn.dfr with
       | none=>rw [hd,qvL] at h;exact h
       | some q=>
        obtain ⟨t,rest⟩:=q
        rw [hd] at h
        exact qic (qy8 (qmi pg n) n) h
      | exit id=>cases h
      | ret=>
       have h:qz1 fn H st=some r:=h
       rw [qvL] at h;exact h
      | pan v=>exact h
theorem qrb {pg:Pg} {n f:Nat} {vs:List V} {H:List Obj} {r:Cr} (h:qdk pg n f vs H=some r):qN pg f vs H=some r:=qmi pg n _ _ _ _ h
end W
/-
  What the kernel works out of a call on closed data, as a fact about the call.
-/
namespace W
open Go (IntKind BinOp UnOp)
def quJ:List V->List D->Bool
 | [],[]=>true
 | .d x::l,y::r=>eqD x y && quJ l r
 | _,_=>false
theorem qr3:∀{l:List V} {r:List D},quJ l r=true->l=r.map .d
 | [],[],_=>rfl
 | v::l,y::r,h=>by
  cases v with
  | d x=>
   simp only [quJ,qJp] at h
   rw [qsa h.1,qr3 h.2];rfl
  | _=>cases h
 | [],_::_,h=>by simp [quJ] at h
 | v::_,[],h=>by cases v<;>simp [quJ] at h
def isD (r:Option Cr) (x:D):Bool:=match r with
 | some ⟨false,true,.d y,_,_⟩=>eqD y x
 | _=>false
def qyv (r:Option Cr) (x:List D):Bool:=match r with
 | some ⟨false,true,.tup y,_,_⟩=>quJ y x
 | _=>false
theorem qqT {pg:Pg} (hx:qo pg.ext) {f:Nat} {vs:List V} {H H':List Obj} {v:V} {lo:Nat} (h:qN pg f vs H=some ⟨false,true,v,H',lo⟩):qN pg f vs H=some ⟨false,true,v,H,lo⟩:=by
 obtain ⟨n,hn⟩:=jR.1 h
 have hlo:=(yM hx (qab hx n) _ _ _ _ hn).2.2 rfl
 simp only at hlo
 rw [hlo] at h
 exact h
theorem qzx {pg:Pg} (hx:qo pg.ext) {N f:Nat} {vs:List V} {H:List Obj} {x:D} (h:isD (qdk pg N f vs H) x=true):∃lo,qN pg f vs H=some ⟨false,true,.d x,H,lo⟩:=by
 unfold isD at h
 split at h
 ·rename_i y H' lo hr
  rw [qsa h] at hr
  exact ⟨lo,qqT hx (qrb hr)⟩
 ·cases h
theorem qvb {pg:Pg} (hx:qo pg.ext) {N f:Nat} {vs:List V} {H:List Obj} {x:List D} (h:qyv (qdk pg N f vs H) x=true):∃lo,qN pg f vs H=some ⟨false,true,.tup (x.map .d),H,lo⟩:=by
 unfold qyv at h
 split at h
 ·rename_i y H' lo hr
  rw [qr3 h] at hr
  exact ⟨lo,qqT hx (qrb hr)⟩
 ·cases h
end W
/- A call of no arguments whose result is data is the same beside whatever objects there are. -/
namespace W
open Go (World Value Addr IntKind Program TypeId FuncId)
end W
/- Calls whose arguments and results are data, known beforehand (by the kernel), stand in for the functions' code. -/
namespace W
open Go (World Value Addr IntKind Program TypeId FuncId)
inductive Out where
 | one (x:D)
 | tup (l:List D)
def Out.v:Out->V
 | .one x=>.d x
 | .tup l=>.tup (l.map .d)
structure Ent where
 f:Nat
 a:List D
 r:Out
def pick (i:Nat) (vs:List V):List Ent->Option Ent
 | []=>none
 | e::T=>bif qJv e.f i && quJ vs e.a then some e else pick i vs T
def qyE (T:List Ent) (i:Nat) (vs:List V) (H:List Obj):Option Cr:=match pick i vs T with
 | some e=>some ⟨false,true,e.r.v,H,H.length⟩
 | none=>none
def Ent.is (r:Option Cr):Out->Bool
 | .one x=>isD r x
 | .tup l=>qyv r l
def Ent.Ok (pg:Pg) (e:Ent):Prop:=∃lo,qN pg e.f (e.a.map .d) []=some ⟨false,true,e.r.v,[],lo⟩
theorem qxL {pg:Pg} (hx:qo pg.ext) {N f:Nat} {l:List D} {r:Out} (h:Ent.is (qdk pg N f (l.map .d) []) r=true):Ent.Ok pg ⟨f,l,r⟩:=by
 cases r with
 | one x=>exact qzx hx h
 | tup l=>exact qvb hx h
theorem qqL {i:Nat} {vs:List V} {e:Ent}:∀{T:List Ent},pick i vs T=some e->e ∈ T/\e.f=i/\vs=e.a.map .d
 | [],h=>by cases h
 | q::T,h=>by
  unfold pick at h
  rw [qJo] at h
  split at h
  ·rename_i hb
   cases h
   simp only [qJp] at hb
   exact ⟨.head _,qJs hb.1,qr3 hb.2⟩
  ·obtain ⟨h1,h2⟩:=qqL h
   exact ⟨.tail _ h1,h2⟩
theorem qAr {T:List Ent}:qo (qyE T):=fun i vs H r h=>by
 unfold qyE at h
 split at h
 ·cases h
  exact ⟨qJr _,fun _ _ _=>rfl,fun _=>rfl⟩
 ·cases h
theorem qBv {M:Maps} {g g':Gh} {w w':World} (e:g'.pub=g.pub) (ew:w'=w):∀{l:List D} {vs:List Value},RepSL M g w (l.map .d) vs->RepSL M g' w' (l.map .d) vs
 | [],_,h=>by cases h;exact .nil
 | x::l,_,h=>by
  rw [List.map_cons] at h |-
  cases h with
  | cons _ _ _ _ h0 h=>
   refine .cons _ _ _ _ ?_ (qBv e ew h)
   cases h0 with
   | d _ _ hr=>exact .d _ _ (by rw [e,ew];exact hr)
theorem qAu {P:Program} {M:Maps} {pg:Pg} (hsim:∀n,qn P M (zh pg n)) {e:Ent} (h:e.Ok pg)
  {f':FuncId} (hl:look M.fm f'=some e.f) {g:Gh} {w:World} {H:List Obj} (hH:RelH M g w H) {argv:List Value} (ha:ArgsRep M g w 0 (e.a.map .d) argv):qsQ P f' argv.toArray w (qy M g w ⟨false,true,e.r.v,H,H.length⟩):=by
 obtain ⟨lo,h⟩:=h
 obtain ⟨n,hn⟩:=jR.1 h
 refine qoz (hsim n) hn rfl (fun {g1 g2 w' c} ep hA=>?_) hl hH ha
 revert hA
 cases e.r with
 | one x=>
  intro hA
  cases hA with
  | s hA=>cases hA with
   | d _ _ hr=>exact .s (.d _ _ (by rw [ep];exact hr))
 | tup l=>
  intro hA
  cases hA with
  | s hA=>cases hA with
   | tup _ _ hr=>exact .s (.tup _ _ (qBv ep rfl hr))
theorem qxJ {P:Program} {M:Maps} {T:List Ent} (hT:∀e ∈ T,∃pg,(∀n,qn P M (zh pg n))/\e.Ok pg):qn P M (qyE T):=by
 intro i vs H r h f' hl g w argv ha hH
 unfold qyE at h
 split at h
 ·rename_i e he
  cases h
  obtain ⟨h1,rfl,rfl⟩:=qqL he
  obtain ⟨pg,hsim,hok⟩:=hT e h1
  exact qAu hsim hok hl hH ha
 ·cases h
end W
namespace W
set_option maxRecDepth 100000
def ixN (c:Nat):List Nat->Int
 | []=>-1
 | x::l=>bif qJv x c then 0 else match ixN c l with
  | .ofNat n=>.ofNat (n+1)
  | v=>v
def ixX (vs:List V) (H:List Obj):Option Cr:=
 match vs with
 | [.d (.s t),.d (.i .u8 (.ofNat c))]=>some ⟨false,true,.d (.i .i64 (ixN (c % 256) t)),H,H.length⟩
 | _=>none
def pg:Pg:=⟨fun n=>bif qJv n 489 then none else prog n,fun i vs H=>bif qJv i 489 then ixX vs H else none⟩
theorem qzZ:qo fun _ vs H=>ixX vs H:=fun i vs H r h=>by
 simp only [ixX] at h
 split at h
 ·cases h
  exact ⟨qJr _,fun _ _ _=>rfl,fun _=>rfl⟩
 ·cases h
theorem qzP:qo pg.ext:=fun i vs H r h=>by
 simp only [pg,qJo] at h
 split at h
 ·exact qzZ i vs H r h
 ·cases h
end W
/- The modules that are packed; tables. -/
namespace W
set_option maxRecDepth 100000
def byL (l:List Int):D:=.sl (l.map (.i .u8))
def qAz:List Ent:=[⟨264,[(.s [65,82,82,65,89,32,66,69,71,73,78,32,66,89,32,67,65,83,69,32,67,79,78,83,84,32,68,73,86,32,68,79,32,69,76,83,69,32,69,76,83,73,70,32,69,78,68,32,70,65,76,83,69,32,70,79,82,32,73,70,32,73,77,80,79,82,84,32,73,78,32,73,83,32,77,79,68,32,77,79,68,85,76,69,32,78,73,76,32,79,70,32,79,82,32,80,79,73,78,84,69,82,32,80,82,79,67,69,68,85,82,69,32,82,69,67,79,82,68,32,82,69,80,69,65,84,32,82,69,84,85,82,78,32,84,72,69,78,32,84,79,32,84,82,85,69,32,84,89,80,69,32,85,78,84,73,76,32,86,65,82,32,87,72,73,76,69])],.one (.sl (List.map .s [[65,82,82,65,89],[66,69,71,73,78],[66,89],[67,65,83,69],[67,79,78,83,84],[68,73,86],[68,79],[69,76,83,69],[69,76,83,73,70],[69,78,68],[70,65,76,83,69],[70,79,82],[73,70],[73,77,80,79,82,84],[73,78],[73,83],[77,79,68],[77,79,68,85,76,69],[78,73,76],[79,70],[79,82],[80,79,73,78,84,69,82],[80,82,79,67,69,68,85,82,69],[82,69,67,79,82,68],[82,69,80,69,65,84],[82,69,84,85,82,78],[84,72,69,78],[84,79],[84,82,85,69],[84,89,80,69],[85,78,84,73,76],[86,65,82],[87,72,73,76,69]]))⟩,
 ⟨264,[(.s [73,78,84,69,71,69,82,32,67,72,65,82,32,66,79,79,76,69,65,78,32,83,69,84,32,65,66,83,32,79,68,68,32,76,83,76,32,65,83,82,32,82,79,82,32,79,82,68,32,67,72,82,32,76,69,78,32,73,78,67,32,68,69,67,32,73,78,67,76,32,69,88,67,76,32,78,69,87,32,65,83,83,69,82,84])],.one (.sl (List.map .s [[73,78,84,69,71,69,82],[67,72,65,82],[66,79,79,76,69,65,78],[83,69,84],[65,66,83],[79,68,68],[76,83,76],[65,83,82],[82,79,82],[79,82,68],[67,72,82],[76,69,78],[73,78,67],[68,69,67],[73,78,67,76],[69,88,67,76],[78,69,87],[65,83,83,69,82,84]]))⟩]
def pk (i:Nat) (l:List Int):Ent:=⟨5,[.agg [.s [77,97+i],.nil,.nil,.nil,.nil,.nil,.nil,.nil],.nil],.tup [byL l,.i .i64 0]⟩
def lmP:List Ent:=[pk 0 [87,65,70,82,2,22,21,87,65,70,82,1,11,3,2,77,97,0,0,0,0,0,0,0,25,1,1,240,69,150,4,88],
 pk 1 [87,65,70,82,2,22,21,87,65,70,82,1,11,3,2,77,98,0,0,0,0,0,0,0,25,9,1,241,69,187,4,98],
 pk 2 [87,65,70,82,2,22,21,87,65,70,82,1,11,3,2,77,99,0,0,0,0,0,0,0,25,17,1,242,69,224,4,108],
 pk 3 [87,65,70,82,2,22,21,87,65,70,82,1,11,3,2,77,100,0,0,0,0,0,0,0,25,25,1,243,70,5,4,118],
 pk 4 [87,65,70,82,2,22,21,87,65,70,82,1,11,3,2,77,101,0,0,0,0,0,0,0,25,33,1,244,70,42,4,128],
 pk 5 [87,65,70,82,2,22,21,87,65,70,82,1,11,3,2,77,102,0,0,0,0,0,0,0,25,41,1,245,70,79,4,138],
 pk 6 [87,65,70,82,2,22,21,87,65,70,82,1,11,3,2,77,103,0,0,0,0,0,0,0,25,49,1,246,70,116,4,148],
 pk 7 [87,65,70,82,2,22,21,87,65,70,82,1,11,3,2,77,104,0,0,0,0,0,0,0,25,57,1,247,70,153,4,158],
 pk 8 [87,65,70,82,2,22,21,87,65,70,82,1,11,3,2,77,105,0,0,0,0,0,0,0,25,65,1,248,70,190,4,168],
 pk 9 [87,65,70,82,2,22,21,87,65,70,82,1,11,3,2,77,106,0,0,0,0,0,0,0,25,73,1,249,70,227,4,178],
 pk 10 [87,65,70,82,2,22,21,87,65,70,82,1,11,3,2,77,107,0,0,0,0,0,0,0,25,81,1,250,71,8,4,188],
 pk 11 [87,65,70,82,2,22,21,87,65,70,82,1,11,3,2,77,108,0,0,0,0,0,0,0,25,89,1,251,71,45,4,198],
 pk 12 [87,65,70,82,2,22,21,87,65,70,82,1,11,3,2,77,109,0,0,0,0,0,0,0,25,97,1,252,71,82,4,208],
 pk 13 [87,65,70,82,2,22,21,87,65,70,82,1,11,3,2,77,110,0,0,0,0,0,0,0,25,105,1,253,71,119,4,218],
 pk 14 [87,65,70,82,2,22,21,87,65,70,82,1,11,3,2,77,111,0,0,0,0,0,0,0,25,113,1,254,71,156,4,228],
 pk 15 [87,65,70,82,2,22,21,87,65,70,82,1,11,3,2,77,112,0,0,0,0,0,0,0,25,121,1,255,71,193,4,238],
 pk 16 [87,65,70,82,2,22,21,87,65,70,82,1,11,3,2,77,113,0,0,0,0,0,0,0,25,129,2,0,70,232,3,249],
 pk 17 [87,65,70,82,2,22,21,87,65,70,82,1,11,3,2,77,114,0,0,0,0,0,0,0,25,137,2,1,71,13,4,3]]
def rdE (e:Ent):Ent:=⟨15,match e.r with | .tup [b,_]=>[b]|_=>[],.tup [match e.a with|m::_=>m|_=>.nil,.nil,.i .i64 0]⟩
def lmR:List Ent:=lmP.map rdE
def lm_k:Ent:=⟨4,[],.one (.b true)⟩
def pgT (gone:Nat->Bool) (T:List Ent):Pg:=⟨fun n=>bif gone n then none else pg.fn n,fun i vs H=>bif qJv i 489 then ixX vs H else qyE T i vs H⟩
theorem jV {gone:Nat->Bool} {T:List Ent}:qo (pgT gone T).ext:=fun i vs H r h=>by
 simp only [pgT,qJo] at h
 split at h
 ·exact qzZ i vs H r h
 ·exact qAr i vs H r h
def g1 (n:Nat):Bool:=qJv n 264
def g2 (n:Nat):Bool:=qJv n 264 || qJv n 4 || qJv n 5 || qJv n 15
def pg1:Pg:=pgT g1 qAz
def pgM:Pg:=pgT g2 (lm_k::(lmP++(lmR++qAz)))
theorem qam {pg:Pg} (hx:qo pg.ext) {N:Nat} {T:List Ent} (h:(T.all fun e=>Ent.is (qdk pg N e.f (e.a.map .d) []) e.r)=true):∀e ∈ T,e.Ok pg:=fun e he=>qxL hx (List.all_eq_true.1 h e he)
def quX:C:=.seq (.block 0 [3,4] ko) jG
noncomputable def isT (r:Option (Ex × St)):Bool:=match r with
 | some (.ret,st)=>(match fget 2 st.env with | .d (.b true)=>true|_=>false)
 | _=>false
noncomputable def qsF (k:Nat):Bool:=isT (exJ (qdk pgM 1000) 1000 quX ⟨[(5,.d (.i .i64 0)),(4,.d .nil),(3,.d (.i .i64 (.ofNat k)))],[],0⟩)
end W
