/-
  PlayAgrees, part 29.
-/
import Derived.KernelRfl
import Derived.Test.YtdimnhbfkogllaaGreatDoorW16
set_option linter.unusedSimpArgs false
set_option linter.unusedVariables false
/-
  The same evaluator, in forms that the kernel reckons fast.
-/
open Bool renaming cond_eq_ite->qS5,and_eq_true->qS6,false_eq_true->qTb,and_self->qTc,not_true->qTl
open Nat renaming le_refl->qS7,eq_of_beq_eq_true->qS9,beq->qTd,zero_add->qTf,le_of_ble_eq_true->qTq
open Option renaming bind_eq_some_iff->qS8,bind_eq_bind->qTa,map_some->qTh,pure_def->qTj
open List renaming map_cons->qTe,getElem?_cons_zero->qTg,length_nil->qTi,length_cons->qTk,map_nil->qTm,cons_append->qTn,getElem?_cons_succ->qTo,length_append->qTp,nil_append->qTr
namespace W
open Go (IntKind BinOp UnOp)
noncomputable def fget (n:Nat) (e:Env):V:=List.rec (motive:=fun _=>V) .undef (fun p _ ih=>Bool.rec ih p.2 (qTd n p.1)) e
theorem qar (n:Nat) (e:Env):fget n e=get n e:=by
 induction e with
 | nil=>rfl
 | cons p e ih=>
  obtain ⟨m,v⟩:=p
  show Bool.rec (fget n e) v (qTd n m)=bif qTd n m then v else get n e
  rw [ih]
  cases qTd n m<;>rfl
noncomputable def qCD {α:Type} (l:List α) (n:Nat):Option α:=
 List.rec (motive:=fun _=>Nat->Option α) (fun _=>none) (fun x _ ih n=>Nat.rec (motive:=fun _=>Option α) (some x) (fun m _=>ih m) n) l n
theorem qyV {α:Type} (l:List α) (n:Nat):qCD l n=l[n]?:=by
 induction l generalizing n with
 | nil=>rfl
 | cons x l ih=>
  cases n with
  | zero=>rfl
  | succ n=>exact ih n
noncomputable def tl4 {α:Type} (l:List α):List α:=List.rec (motive:=fun _=>List α) [] (fun _ t _=>List.rec (motive:=fun _=>List α) [] (fun _ t _=>List.rec (motive:=fun _=>List α) [] (fun _ t _=>List.rec (motive:=fun _=>List α) [] (fun _ t _=>t) t) t) t) l
theorem qMZ {α:Type} (l:List α):tl4 l=l.drop 4:=by
 rcases l with _|⟨_,_|⟨_,_|⟨_,_|⟨_,l⟩⟩⟩⟩<;>rfl
noncomputable def qy6 {α:Type} (l:List α) (q:Nat):List α:=Nat.rec (motive:=fun _=>List α) l (fun _ ih=>tl4 (tl4 (tl4 (tl4 ih)))) q
theorem qvA {α:Type} (l:List α):∀q,qy6 l q=l.drop (16 * q)
 | 0=>rfl
 | q+1=>by
  show tl4 (tl4 (tl4 (tl4 (qy6 l q))))=_
  simp only [qMZ,qvA l q,List.drop_drop]
  congr 1
noncomputable def fnth {α:Type} (l:List α) (n:Nat):Option α:=
 Nat.rec (motive:=fun _=>Option α) (qCD l n) (fun q _=>qCD (qy6 l (Nat.succ q)) (Nat.mod n 16)) (Nat.div n 16)
theorem jI {α:Type} (l:List α) (n:Nat):fnth l n=l[n]?:=by
 unfold fnth
 have e:Nat.div n 16=n / 16:=rfl
 rw [e]
 cases hq:n / 16 with
 | zero=>exact qyV l n
 | succ q=>
  show qCD (qy6 l (q+1)) (n % 16)=_
  rw [qyV,qvA,List.getElem?_drop]
  congr 1
  omega
noncomputable def frd (e:Env) (o:O):V:=O.rec (motive:=fun _=>V) (fun n=>qfO n (fget n e)) (fun x=>.d x) (fun i=>.fn i [] []) (fun n=>qhr (fget n e)) (fun _ x=>.cp x) o
theorem qaC (e:Env) (o:O):frd e o=rd e o:=by cases o<;>simp only [frd,qar]<;>rfl
noncomputable def qq {α:Type} (a:Nat) (k:Nat->α):α:=Nat.rec (motive:=fun _=>α) (k 0) (fun m _=>k (Nat.succ m)) a
noncomputable def qvl {α:Type} (n:Int) (k:Int->α):α:=Int.rec (motive:=fun _=>α) (fun a=>qq a fun a=>k (.ofNat a)) (fun a=>qq a fun a=>k (.negSucc a)) n
noncomputable def qB0 {α:Type} (b:Bool) (k:Bool->α):α:=Bool.rec (motive:=fun _=>α) (k false) (k true) b
theorem qW {α:Type} (a:Nat) (k:Nat->α):qq a k=k a:=by cases a<;>rfl
theorem qrU {α:Type} (n:Int) (k:Int->α):qvl n k=k n:=by
 cases n with
 | ofNat a=>exact qW a fun a=>k (.ofNat a)
 | negSucc a=>exact qW a fun a=>k (.negSucc a)
theorem qwC {α:Type} (b:Bool) (k:Bool->α):qB0 b k=k b:=by cases b<;>rfl
noncomputable def qAV {α:Type} (l:List Nat) (k:List Nat->α):α:=
 List.rec (motive:=fun _=>(List Nat->α)->α) (fun k=>k []) (fun x _ ih k=>qq x fun x=>ih fun r=>k (x::r)) l k
theorem qED {α:Type} (l:List Nat) (k:List Nat->α):qAV l k=k l:=by
 induction l generalizing k with
 | nil=>rfl
 | cons x l ih=>exact (qW x fun x=>qAV l fun r=>k (x::r)).trans (ih fun r=>k (x::r))
noncomputable def js {β α:Type} (f:β->(β->α)->α) (l:List β) (k:List β->α):α:=
 List.rec (motive:=fun _=>(List β->α)->α) (fun k=>k []) (fun x _ ih k=>f x fun x=>ih fun r=>k (x::r)) l k
theorem kv {β α:Type} {f:β->(β->α)->α} (hf:∀x k,f x k=k x) (l:List β) (k:List β->α):js f l k=k l:=by
 induction l generalizing k with
 | nil=>rfl
 | cons x l ih=>exact (hf x fun x=>js f l fun r=>k (x::r)).trans (ih fun r=>k (x::r))
noncomputable def qjv {α:Type} (x:D) (k:D->α):α:=
 D.casesOn (motive_1:=fun _=>α) x (fun z=>qB0 z fun z=>k (.b z)) (fun kk n=>qvl n fun n=>k (.i kk n)) (fun t=>k (.s t)) (k .nil) (fun xs=>k (.sl xs)) (fun cs=>k (.agg cs)) (k .np) (k .nf) (k .ni) (k .nm)
theorem qcj {α:Type} (x:D) (k:D->α):qjv x k=k x:=by
 cases x with
 | b z=>exact qwC z fun z=>k (.b z)
 | i kk n=>exact qrU n fun n=>k (.i kk n)
 | _=>rfl
noncomputable def qGn {α:Type} (x:D) (k:D->α):α:=
 D.casesOn (motive_1:=fun _=>α) x (fun z=>qB0 z fun z=>k (.b z)) (fun kk n=>qvl n fun n=>k (.i kk n)) (fun t=>qAV t fun t=>k (.s t)) (k .nil) (fun xs=>js qjv xs fun xs=>k (.sl xs)) (fun cs=>js qjv cs fun cs=>k (.agg cs)) (k .np) (k .nf) (k .ni) (k .nm)
theorem qEr {α:Type} (x:D) (k:D->α):qGn x k=k x:=by
 cases x with
 | b z=>exact qwC z fun z=>k (.b z)
 | i kk n=>exact qrU n fun n=>k (.i kk n)
 | s t=>exact qED t fun t=>k (.s t)
 | sl xs=>exact kv qcj xs fun xs=>k (.sl xs)
 | agg xs=>exact kv qcj xs fun xs=>k (.agg xs)
 | _=>rfl
noncomputable def yf {α:Type} (v:V) (k:V->α):α:=
 V.casesOn (motive_1:=fun _=>α) v (fun x=>qjv x fun x=>k (.d x)) (fun xs=>k (.osl xs)) (fun xs=>k (.fsl xs)) (fun i o=>qq i fun i=>qq o fun o=>k (.ptr i o)) (fun i o=>qq i fun i=>qq o fun o=>k (.lp i o)) (fun cs=>k (.box cs)) (fun x=>k (.cp x))
  (fun i o n c=>k (.rs i o n c)) (fun i o n=>qq i fun i=>qq o fun o=>qq n fun n=>k (.row i o n)) (fun i=>qq i fun i=>k (.map i)) (fun f a b=>k (.fn f a b)) (fun t x=>k (.ifc t x)) (fun cs=>k (.agg cs)) (fun vs=>k (.tup vs)) (k .undef)
theorem z5 {α:Type} (v:V) (k:V->α):yf v k=k v:=by
 cases v with
 | d x=>exact qcj x fun x=>k (.d x)
 | _=>simp only [yf,qW]
noncomputable def qdI {α:Type} (v:V) (k:V->α):α:=
 V.casesOn (motive_1:=fun _=>α) v (fun x=>qGn x fun x=>k (.d x)) (fun xs=>js qjv xs fun xs=>k (.osl xs)) (fun xs=>js qjv xs fun xs=>k (.fsl xs)) (fun i o=>qq i fun i=>qq o fun o=>k (.ptr i o)) (fun i o=>qq i fun i=>qq o fun o=>k (.lp i o)) (fun cs=>js yf cs fun cs=>k (.box cs)) (fun x=>qjv x fun x=>k (.cp x))
  (fun i o n c=>qq i fun i=>qq o fun o=>qq n fun n=>qq c fun c=>k (.rs i o n c)) (fun i o n=>qq i fun i=>qq o fun o=>qq n fun n=>k (.row i o n)) (fun i=>qq i fun i=>k (.map i)) (fun f a b=>qq f fun f=>k (.fn f a b)) (fun t x=>k (.ifc t x)) (fun cs=>js yf cs fun cs=>k (.agg cs)) (fun vs=>js yf vs fun vs=>k (.tup vs)) (k .undef)
theorem qcu {α:Type} (v:V) (k:V->α):qdI v k=k v:=by
 cases v with
 | d x=>exact qEr x fun x=>k (.d x)
 | osl xs=>exact kv qcj xs fun xs=>k (.osl xs)
 | fsl xs=>exact kv qcj xs fun xs=>k (.fsl xs)
 | box cs=>exact kv z5 cs fun cs=>k (.box cs)
 | cp x=>exact qcj x fun x=>k (.cp x)
 | agg cs=>exact kv z5 cs fun cs=>k (.agg cs)
 | tup cs=>exact kv z5 cs fun cs=>k (.tup cs)
 | _=>simp only [qdI,qW]
noncomputable def qGu {α:Type} (o:Obj) (k:Obj->α):α:=
 Obj.casesOn (motive:=fun _=>α) o (fun cs=>js yf cs fun cs=>k (.cells cs)) (fun es=>js (fun p k=>yf p.2 fun v=>k (p.1,v)) es fun es=>k (.map es)) (fun l cs=>js yf cs fun cs=>k (.row l cs)) (k .dead) (fun i=>qq i fun i=>k (.iter i))
theorem qEl {α:Type} (o:Obj) (k:Obj->α):qGu o k=k o:=by
 cases o with
 | cells cs=>exact kv z5 cs fun cs=>k (.cells cs)
 | map es=>exact kv (fun p k=>z5 p.2 fun v=>k (p.1,v)) es fun es=>k (.map es)
 | row l cs=>exact kv z5 cs fun cs=>k (.row l cs)
 | dead=>rfl
 | iter i=>exact qW i fun i=>k (.iter i)
noncomputable def qGJ {α:Type} (H:List Obj) (k:List Obj->α):α:=js (fun o k=>qGu o k) H k
theorem qEM {α:Type} (H:List Obj) (k:List Obj->α):qGJ H k=k H:=kv qEl _ _
noncomputable def qAM {α:Type} (o:Obj) (k:Obj->α):α:=
 Obj.casesOn (motive:=fun _=>α) o (fun cs=>js yf cs fun cs=>k (.cells cs)) (fun es=>js (fun p k=>yf p.2 fun v=>k (p.1,v)) es fun es=>k (.map es)) (fun l cs=>js (fun v k=>k v) cs fun cs=>k (.row l cs)) (k .dead) (fun i=>qq i fun i=>k (.iter i))
theorem qEQ {α:Type} (o:Obj) (k:Obj->α):qAM o k=k o:=by
 cases o with
 | cells cs=>exact kv z5 cs fun cs=>k (.cells cs)
 | map es=>exact kv (fun p k=>z5 p.2 fun v=>k (p.1,v)) es fun es=>k (.map es)
 | row l cs=>exact kv (fun _ _=>rfl) cs fun cs=>k (.row l cs)
 | dead=>rfl
 | iter i=>exact qW i fun i=>k (.iter i)
noncomputable def qGZ (l:List Obj):Bool:=List.rec (motive:=fun _=>Bool) true (fun _ _ _=>false) l
noncomputable def qqe {α:Type} (f:Obj->(Obj->α)->α) (H:List Obj) (k:List Obj->α):α:=
 List.rec (motive:=fun _=>(List Obj->α)->α) (fun k=>k []) (fun o t ih k=>Bool.rec (motive:=fun _=>α) (f o fun o=>ih fun t=>k (o::t)) (qAM o fun o=>k [o]) (qGZ t)) H k
theorem qz2 {α:Type} {f:Obj->(Obj->α)->α} (hf:∀o k,f o k=k o) (H:List Obj) (k:List Obj->α):qqe f H k=k H:=by
 induction H generalizing k with
 | nil=>rfl
 | cons o t ih=>
  show Bool.rec (motive:=fun _=>α) (f o fun o=>qqe f t fun t=>k (o::t)) (qAM o fun o=>k [o]) (qGZ t)=_
  cases t with
  | nil=>exact qEQ o fun o=>k [o]
  | cons o' t=>
   show (f o fun o=>qqe f (o'::t) fun t=>k (o::t))=_
   rw [hf,ih]
noncomputable def qt9 {α:Type} (H:List Obj) (k:List Obj->α):α:=qqe (fun o k=>k o) H k
theorem qw4 {α:Type} (H:List Obj) (k:List Obj->α):qt9 H k=k H:=qz2 (fun _ _=>rfl) H k
noncomputable def qCU (l:L) (off:Nat) (cs:List V):Option V:=Bool.rec (motive:=fun _=>Option V) ((fnth cs off).map zR) (V.part off l cs) l.agg
noncomputable def qxL (l:L) (st:St) (v:V):Option V:=
 match v with
 | .lp s off=>match fget s st.env with
  | .box cs=>qCU l off cs
  | _=>none
 | .ptr id off=>match fnth st.H id with
  | some (.cells cs)=>qCU l off cs
  | some (.row _ cs)=>qCU l off cs
  | _=>none
 | v=>qJ l st v
theorem qKP (l:L) (off:Nat) (cs:List V):qCU l off cs=V.part off l cs:=by
 obtain ⟨n,agg⟩:=l
 cases agg with
 | true=>rfl
 | false=>show (fnth cs off).map zR=_;rw [jI];simp [V.part]
theorem qBx:qxL=qJ:=by
 funext l st v
 cases v<;>simp only [qxL,qKP,qar,jI]<;>rfl
noncomputable def qN7 (x:O) (st:St):Option Or:=ok (frd st.env x) {st with env:=spent x st.env}
noncomputable def qFU (c:O) (a:O) (b:O) (st:St):Option Or:=
 match frd st.env c with
  | .d (.b z)=>ok (Bool.rec (motive:=fun _=>V) (frd st.env b) (frd st.env a) z) st
  | _=>none
noncomputable def qGT (mv:Bool) (sl:Option Nat) (l:L) (a:O) (st:St):Option Or:=
 Bool.rec (motive:=fun _=>Option Or) (bif !qB sl (frd st.env a) then none else (match qxL l st (frd st.env a) with|some v=>ok v st|none=>none)) (zI true sl l a st) mv
noncomputable def qso (x:O) (st:St):Option Or:=
 match frd st.env x with
  | .ptr id off=>ok (.ptr id off) st
  | .lp s off=>ok (.lp s off) st
  | .cp y=>ok (.cp y) st
  | _=>none
noncomputable def qLW (op:BinOp) (kd:Kd) (x:O) (y:O) (st:St):Option Or:=
 match qey op kd (isC x || isC y) (frd st.env x) (frd st.env y) with
  | some v=>ok v st
  | none=>none
noncomputable def qpf (x:O) (off:Nat) (l:L) (st:St):Option Or:=
 match frd st.env x with
  | .ptr id o=>ok (.ptr id (o+off)) st
  | .lp s o=>ok (.lp s (o+off)) st
  | _=>qZ x off l st
noncomputable def qo3 (x:O) (i:O) (size:Nat) (arr:Option Nat) (st:St):Option Or:=
 match frd st.env i with
  | .d (.i _ n)=>match arr with
   | some len=>bif leI 0 n && !leI len n then (match frd st.env x with
    | .ptr id o=>ok (.ptr id (o+n.toNat * size)) st
    | .lp s o=>ok (.lp s (o+n.toNat * size)) st
    | .cp (.agg cs)=>bif qTd size 1 then (match fnth cs n.toNat with
     | some y=>if y.one then ok (.cp y) st else none
     | none=>none) else none
    | _=>none) else none
   | none=>bif leI 0 n then (match frd st.env x with
    | .d (.sl xs)=>match fnth xs n.toNat with
     | some y=>bif qTd y.cells.length size then ok (.cp y) st else none
     | none=>none
    | .rs id o len _=>bif !leI len n && qTd size 1 then ok (.ptr id (o+n.toNat)) st else none
    | .row id sz len=>bif !leI len n && qTd size sz then ok (.ptr id (n.toNat * sz)) st else none
    | _=>none) else none
  | _=>none
noncomputable def qBQ (x:O) (i:O) (st:St):Option Or:=
 match frd st.env x,frd st.env i with
  | .d (.s t),.d (.i _ n)=>bif leI 0 n then (match fnth t n.toNat with
    | some y=>ok (.d (.i .u8 y)) st
    | none=>none) else none
  | _,_=>none
noncomputable def qtS (x:O) (i:Nat) (st:St):Option Or:=
 match x with
  | .t n=>match fget n st.env with
   | .tup vs=>match fnth vs i with
    | some v=>ok (copy v) st
    | none=>none
   | _=>none
  | _=>none
noncomputable def jS {α:Type} (l:List α):Nat:=List.rec (motive:=fun _=>Nat) 0 (fun _ _ ih=>Nat.succ ih) l
theorem ko {α:Type} (l:List α):jS l=l.length:=by
 induction l with
 | nil=>rfl
 | cons x l ih=>simp only [qTk,<- ih];rfl
noncomputable def qJG (x:O) (st:St):Option Or:=
 match frd st.env x with
  | .d (.s t)=>ok (.d (.i .i64 (jS t))) st
  | _=>none
noncomputable def qI9 (x:O) (st:St):Option Or:=
 match frd st.env x with
  | .d .nil=>ok (.d (.i .i64 0)) st
  | .d (.sl xs)=>ok (.d (.i .i64 (jS xs))) st
  | .rs _ _ n _=>ok (.d (.i .i64 n)) st
  | .row _ _ n=>ok (.d (.i .i64 n)) st
  | _=>none
noncomputable def fBi (b:Bi) (args:List O) (st:St):Option Or:=
 match b,args with
  | .lenS,[x]=>qJG x st
  | .lenL,[x]=>qI9 x st
  | b,l=>eBi b l st
noncomputable def qfU (call:Call) (k:OpK) (st:St):Option Or:=
 match k with
 | .mov x=>qN7 x st
 | .pick c a b=>qFU c a b st
 | .load mv sl l a=>qGT mv sl l a st
 | .nilCheck x=>qso x st
 | .bin op kd x y=>qLW op kd x y st
 | .fieldAddr x off l=>qpf x off l st
 | .indexAddr x i size arr=>qo3 x i size arr st
 | .index x i=>qBQ x i st
 | .extract x i=>qtS x i st
 | .bi b args=>fBi b args st
 | k=>qa call k st
theorem qD3:qfU=qa:=by
 funext call k st
 cases k with
 | mov x=>simp only [qfU,qN7,qaC];rfl
 | pick c a b=>
  simp only [qfU,qFU,qaC,qa,qf8]
  cases rd st.env c with
  | d w=>cases w with
   | b z=>cases z<;>rfl
   | _=>rfl
  | _=>rfl
 | load mv sl l a=>cases mv<;>simp only [qfU,qGT,qaC,qBx]<;>rfl
 | nilCheck x=>simp only [qfU,qso,qaC];rfl
 | bin op kd x y=>simp only [qfU,qLW,qaC];rfl
 | fieldAddr x off l=>
  simp only [qfU,qpf,qaC,qa]
  split<;>rename_i h<;>(try simp only [qZ,h])
 | indexAddr x i size arr=>simp only [qfU,qo3,qaC,jI];rfl
 | index x i=>simp only [qfU,qBQ,qaC,jI];rfl
 | extract x i=>simp only [qfU,qtS,qar,jI];rfl
 | bi b args=>
  simp only [qfU,fBi,qa]
  split
  ·rename_i x;simp only [qJG,qaC,ko];rfl
  ·rename_i x
   simp only [qI9,qaC,ko]
   show _=qc7 x st
   unfold qc7
   cases rd st.env x with
   | d w=>cases w<;>rfl
   | _=>rfl
  ·rfl
 | _=>rfl
noncomputable def makes (k:OpK):Bool:=
 match k with
 | .mov _=>false
 | .load _ _ _ _=>false
 | .extract _ _=>false
 | .pick _ _ _=>false
 | .nilCheck _=>false
 | .store _ _ _ _=>false
 | .call _ _=>false
 | .indexAddr _ _ _ _=>false
 | .fieldAddr _ _ _=>false
 | .field _ _ _=>false
 | _=>true
noncomputable def qvF {α:Type} (m:Bool) (v:V) (k:V->α):α:=Bool.rec (motive:=fun _=>α) (yf v k) (qdI v k) m
theorem qwb {α:Type} (m:Bool) (v:V) (k:V->α):qvF m v k=k v:=by
 cases m
 ·exact z5 v k
 ·exact qcu v k
end W
/-
  Code turned into closures, which the kernel works out once; each operation its own closure.
-/
namespace W
open Go (IntKind BinOp UnOp)
abbrev R:=Option (Ex × St)
abbrev KF:=Call->Nat->Env->List Obj->Nat->R
inductive K where
 | mk (f:KF)
noncomputable def K.run (k:K):KF:=K.rec (motive:=fun _=>KF) (fun f=>f) k
inductive KO where
 | mk (f:Env->V)
noncomputable def KO.run (k:KO):Env->V:=KO.rec (motive:=fun _=>Env->V) (fun f=>f) k
noncomputable def kX (o:O):KO:=O.rec (motive:=fun _=>KO) (fun n=>.mk fun e=>fget n e) (fun x=>.mk fun _=>.d x) (fun i=>.mk fun _=>.fn i [] []) (fun n=>.mk fun e=>qhr (fget n e)) (fun _ x=>.mk fun _=>.cp x) o
def V.isBox:V->Bool
 | .box _=>true
 | _=>false
def V.pl:V->Prop
 | .box _=>False
 | .osl _=>False
 | .agg _=>False
 | _=>True
theorem kr {o:O} {e:Env} (h:((kX o).run e).pl):rd e o=(kX o).run e:=by
 cases o with
 | t n=>
  have h:(fget n e).pl:=h
  show qfO n (get n e)=fget n e
  rw [<- qar]
  cases hv:fget n e<;>rw [hv] at h<;>first|rfl|exact h.elim
 | mv n=>
  show qhr (get n e)=qhr (fget n e)
  rw [qar]
 | _=>rfl
inductive OI where
 | no
 | yes (k:IntKind) (n:Int)
noncomputable def vI (v:V):OI:=V.rec (motive_1:=fun _=>OI) (motive_2:=fun _=>OI) (fun x=>D.rec (motive_1:=fun _=>OI) (motive_2:=fun _=>OI) (fun _=>.no) (fun k n=>.yes k n) (fun _=>.no) .no (fun _ _=>.no) (fun _ _=>.no) .no .no .no .no .no (fun _ _ _ _=>.no) x) (fun _=>.no) (fun _=>.no) (fun _ _=>.no) (fun _ _=>.no) (fun _ _=>.no) (fun _=>.no) (fun _ _ _ _=>.no) (fun _ _ _=>.no) (fun _=>.no) (fun _ _ _ _ _=>.no) (fun _ _ _=>.no) (fun _ _=>.no) (fun _ _=>.no) .no .no (fun _ _ _ _=>.no) v
theorem qOQ {v:V} {k:IntKind} {n:Int} (h:vI v=.yes k n):v=.d (.i k n):=by
 cases v with
 | d x=>cases x with
  | i k' n'=>have h:OI.yes k' n'=.yes k n:=h;cases h;rfl
  | _=>cases h
 | _=>cases h
inductive OB where
 | no|f|t
noncomputable def vB (v:V):OB:=V.rec (motive_1:=fun _=>OB) (motive_2:=fun _=>OB) (fun x=>D.rec (motive_1:=fun _=>OB) (motive_2:=fun _=>OB) (fun y=>Bool.rec (motive:=fun _=>OB) .f .t y) (fun _ _=>.no) (fun _=>.no) .no (fun _ _=>.no) (fun _ _=>.no) .no .no .no .no .no (fun _ _ _ _=>.no) x) (fun _=>.no) (fun _=>.no) (fun _ _=>.no) (fun _ _=>.no) (fun _ _=>.no) (fun _=>.no) (fun _ _ _ _=>.no) (fun _ _ _=>.no) (fun _=>.no) (fun _ _ _ _ _=>.no) (fun _ _ _=>.no) (fun _ _=>.no) (fun _ _=>.no) .no .no (fun _ _ _ _=>.no) v
theorem qSU {v:V} (h:vB v=.t):v=.d (.b true):=by
 cases v with
 | d x=>cases x with
  | b y=>cases y with
   | true=>rfl
   | false=>cases h
  | _=>cases h
 | _=>cases h
theorem qSx {v:V} (h:vB v=.f):v=.d (.b false):=by
 cases v with
 | d x=>cases x with
  | b y=>cases y with
   | false=>rfl
   | true=>cases h
  | _=>cases h
 | _=>cases h
inductive OP where
 | no
 | p (id off:Nat)
 | l (s off:Nat)
 | c (x:D)
noncomputable def vP (v:V):OP:=V.rec (motive_1:=fun _=>OP) (motive_2:=fun _=>OP) (fun _=>.no) (fun _=>.no) (fun _=>.no) (fun a b=>.p a b) (fun a b=>.l a b) (fun _ _=>.no) (fun x=>.c x) (fun _ _ _ _=>.no) (fun _ _ _=>.no) (fun _=>.no) (fun _ _ _ _ _=>.no) (fun _ _ _=>.no) (fun _ _=>.no) (fun _ _=>.no) .no .no (fun _ _ _ _=>.no) v
theorem qSz {v:V} {a b:Nat} (h:vP v=.p a b):v=.ptr a b:=by
 cases v with
 | ptr c d=>have h:OP.p c d=.p a b:=h;cases h;rfl
 | _=>cases h
theorem qSf {v:V} {a b:Nat} (h:vP v=.l a b):v=.lp a b:=by
 cases v with
 | lp c d=>have h:OP.l c d=.l a b:=h;cases h;rfl
 | _=>cases h
theorem qSR {v:V} {x:D} (h:vP v=.c x):v=.cp x:=by
 cases v with
 | cp y=>have h:OP.c y=.c x:=h;cases h;rfl
 | _=>cases h
inductive OL where
 | no|nil
 | sl (xs:List D)
noncomputable def vL (v:V):OL:=V.rec (motive_1:=fun _=>OL) (motive_2:=fun _=>OL) (fun x=>D.rec (motive_1:=fun _=>OL) (motive_2:=fun _=>OL) (fun _=>.no) (fun _ _=>.no) (fun _=>.no) .nil (fun xs _=>.sl xs) (fun _ _=>.no) .no .no .no .no .no (fun _ _ _ _=>.no) x) (fun _=>.no) (fun _=>.no) (fun _ _=>.no) (fun _ _=>.no) (fun _ _=>.no) (fun _=>.no) (fun _ _ _ _=>.no) (fun _ _ _=>.no) (fun _=>.no) (fun _ _ _ _ _=>.no) (fun _ _ _=>.no) (fun _ _=>.no) (fun _ _=>.no) .no .no (fun _ _ _ _=>.no) v
theorem qO4 {v:V} (h:vL v=.nil):v=.d .nil:=by
 cases v with
 | d x=>cases x with
  | nil=>rfl
  | _=>cases h
 | _=>cases h
theorem qRp {v:V} {xs:List D} (h:vL v=.sl xs):v=.d (.sl xs):=by
 cases v with
 | d x=>cases x with
  | sl ys=>have h:OL.sl ys=.sl xs:=h;cases h;rfl
  | _=>cases h
 | _=>cases h
inductive OT where
 | no
 | s (t:List Nat)
noncomputable def vT (v:V):OT:=V.rec (motive_1:=fun _=>OT) (motive_2:=fun _=>OT) (fun x=>D.rec (motive_1:=fun _=>OT) (motive_2:=fun _=>OT) (fun _=>.no) (fun _ _=>.no) (fun t=>.s t) .no (fun _ _=>.no) (fun _ _=>.no) .no .no .no .no .no (fun _ _ _ _=>.no) x) (fun _=>.no) (fun _=>.no) (fun _ _=>.no) (fun _ _=>.no) (fun _ _=>.no) (fun _=>.no) (fun _ _ _ _=>.no) (fun _ _ _=>.no) (fun _=>.no) (fun _ _ _ _ _=>.no) (fun _ _ _=>.no) (fun _ _=>.no) (fun _ _=>.no) .no .no (fun _ _ _ _=>.no) v
theorem qPT {v:V} {t:List Nat} (h:vT v=.s t):v=.d (.s t):=by
 cases v with
 | d x=>cases x with
  | s u=>have h:OT.s u=.s t:=h;cases h;rfl
  | _=>cases h
 | _=>cases h
inductive OU where
 | no
 | t (vs:List V)
noncomputable def vU (v:V):OU:=V.rec (motive_1:=fun _=>OU) (motive_2:=fun _=>OU) (fun _=>.no) (fun _=>.no) (fun _=>.no) (fun _ _=>.no) (fun _ _=>.no) (fun _ _=>.no) (fun _=>.no) (fun _ _ _ _=>.no) (fun _ _ _=>.no) (fun _=>.no) (fun _ _ _ _ _=>.no) (fun _ _ _=>.no) (fun _ _=>.no) (fun vs _=>.t vs) .no .no (fun _ _ _ _=>.no) v
theorem qSy {v:V} {vs:List V} (h:vU v=.t vs):v=.tup vs:=by
 cases v with
 | tup ws=>have h:OU.t ws=.t vs:=h;cases h;rfl
 | _=>cases h
inductive OF where
 | no
 | f (i:Nat)
noncomputable def vF (v:V):OF:=V.rec (motive_1:=fun _=>OF) (motive_2:=fun _=>OF) (fun _=>.no) (fun _=>.no) (fun _=>.no) (fun _ _=>.no) (fun _ _=>.no) (fun _ _=>.no) (fun _=>.no) (fun _ _ _ _=>.no) (fun _ _ _=>.no) (fun _=>.no) (fun f a b _ _=>List.rec (motive:=fun _=>OF) (List.rec (motive:=fun _=>OF) (.f f) (fun _ _ _=>.no) b) (fun _ _ _=>.no) a) (fun _ _ _=>.no) (fun _ _=>.no) (fun _ _=>.no) .no .no (fun _ _ _ _=>.no) v
theorem qS4 {v:V} {i:Nat} (h:vF v=.f i):v=.fn i [] []:=by
 cases v with
 | fn f a b=>cases a with
  | nil=>cases b with
   | nil=>have h:OF.f f=.f i:=h;cases h;rfl
   | cons _ _=>cases h
  | cons _ _=>cases h
 | _=>cases h
noncomputable def qJr (m:Nat) (v:V) (κ:V->R):R:=V.rec (motive_1:=fun _=>R) (motive_2:=fun _=>R) (fun x=>κ (.d x)) (fun xs=>κ (.d (.sl xs))) (fun xs=>κ (.fsl xs)) (fun a b=>κ (.ptr a b)) (fun a b=>κ (.lp a b)) (fun _ _=>κ (.lp m 0)) (fun x=>κ (.cp x)) (fun a b c d=>κ (.rs a b c d)) (fun a b c=>κ (.row a b c)) (fun a=>κ (.map a)) (fun f a b _ _=>κ (.fn f a b)) (fun t x _=>κ (.ifc t x)) (fun cs _=>qdI (qdn (cs.map zR)) κ) (fun vs _=>κ (.tup vs)) (κ .undef) none (fun _ _ _ _=>none) v
theorem qFI (m:Nat) (v:V) (κ:V->R):qJr m v κ=κ (qfO m v):=by
 cases v with
 | agg cs=>exact qcu _ _
 | _=>rfl
noncomputable def qJc (v:V) (κ:V->R):R:=V.rec (motive_1:=fun _=>R) (motive_2:=fun _=>R) (fun x=>κ (.d x)) (fun xs=>κ (.osl xs)) (fun xs=>κ (.fsl xs)) (fun a b=>κ (.ptr a b)) (fun a b=>κ (.lp a b)) (fun _ _=>κ .undef) (fun x=>κ (.cp x)) (fun a b c d=>κ (.rs a b c d)) (fun a b c=>κ (.row a b c)) (fun a=>κ (.map a)) (fun f a b _ _=>κ (.fn f a b)) (fun t x _=>κ (.ifc t x)) (fun cs _=>κ (.agg cs)) (fun vs _=>κ (.tup vs)) (κ .undef) none (fun _ _ _ _=>none) v
theorem qF6 (v:V) (κ:V->R):qJc v κ=κ (qhr v):=by cases v<;>rfl
noncomputable def qHa (v:V) (κ:V->R):R:=V.rec (motive_1:=fun _=>R) (motive_2:=fun _=>R) (fun x=>κ (.d x)) (fun xs=>κ (.osl xs)) (fun xs=>κ (.fsl xs)) (fun a b=>κ (.ptr a b)) (fun _ _=>κ .undef) (fun cs _=>κ (.box cs)) (fun x=>κ (.cp x)) (fun a b c d=>κ (.rs a b c d)) (fun a b c=>κ (.row a b c)) (fun a=>κ (.map a)) (fun f a b _ _=>κ (.fn f a b)) (fun t x _=>κ (.ifc t x)) (fun cs _=>κ (.agg cs)) (fun vs _=>κ (.tup vs)) (κ .undef) none (fun _ _ _ _=>none) v
theorem qFm (v:V) (κ:V->R):qHa v κ=κ (match v with | .lp _ _=>.undef|v=>v):=by cases v<;>rfl
noncomputable def qI5 (v:V) (κ:V->R):R:=V.rec (motive_1:=fun _=>R) (motive_2:=fun _=>R) (fun x=>κ (.d x)) (fun xs=>κ (.d (.sl xs))) (fun xs=>κ (.fsl xs)) (fun a b=>κ (.ptr a b)) (fun a b=>κ (.lp a b)) (fun _ _=>none) (fun x=>κ (.cp x)) (fun a b c d=>κ (.rs a b c d)) (fun a b c=>κ (.row a b c)) (fun a=>κ (.map a)) (fun f a b _ _=>κ (.fn f a b)) (fun t x _=>κ (.ifc t x)) (fun cs _=>κ (.agg cs)) (fun vs _=>κ (.tup vs)) (κ .undef) none (fun _ _ _ _=>none) v
theorem qAL {v:V} {κ:V->R} {x:Ex × St} (h:qI5 v κ=some x):(zR v).isBox=false/\κ (zR v)=some x:=by
 cases v<;>first|exact ⟨rfl,h⟩|cases h
theorem qsq (cs:List V):(qdn cs).isBox=false:=by unfold qdn;split<;>rfl
noncomputable def qCH (v:V) (κ:V->R):R:=V.rec (motive_1:=fun _=>R) (motive_2:=fun _=>R) (fun x=>κ (.d x)) (fun xs=>κ (.d (.sl xs))) (fun xs=>κ (.fsl xs)) (fun a b=>κ (.ptr a b)) (fun a b=>κ (.lp a b)) (fun _ _=>none) (fun x=>κ (.cp x)) (fun a b c d=>κ (.rs a b c d)) (fun a b c=>κ (.row a b c)) (fun a=>κ (.map a)) (fun f a b _ _=>κ (.fn f a b)) (fun t x _=>κ (.ifc t x)) (fun cs _=>qdI (qdn (cs.map zR)) κ) (fun vs _=>κ (.tup vs)) (κ .undef) none (fun _ _ _ _=>none) v
theorem qpF {v:V} {κ:V->R} {x:Ex × St} (h:qCH v κ=some x):(copy v).isBox=false/\κ (copy v)=some x:=by
 cases v with
 | agg cs=>
  have h:qdI (qdn (cs.map zR)) κ=some x:=h
  rw [qcu] at h
  exact ⟨qsq _,h⟩
 | box cs=>cases h
 | _=>exact ⟨rfl,h⟩
noncomputable def qmv (v:V) (z:R) (κ:V->R):R:=V.rec (motive_1:=fun _=>R) (motive_2:=fun _=>R) (fun x=>κ (.d x)) (fun xs=>κ (.osl xs)) (fun xs=>κ (.fsl xs)) (fun a b=>κ (.ptr a b)) (fun a b=>κ (.lp a b)) (fun _ _=>z) (fun x=>κ (.cp x)) (fun a b c d=>κ (.rs a b c d)) (fun a b c=>κ (.row a b c)) (fun a=>κ (.map a)) (fun f a b _ _=>κ (.fn f a b)) (fun t x _=>κ (.ifc t x)) (fun cs _=>κ (.agg cs)) (fun vs _=>κ (.tup vs)) (κ .undef) none (fun _ _ _ _=>none) v
noncomputable def qxS (v:V) (z:R) (κ:V->R):R:=V.rec (motive_1:=fun _=>R) (motive_2:=fun _=>R) (fun x=>κ (.d x)) (fun xs=>κ (.osl xs)) (fun xs=>κ (.fsl xs)) (fun a b=>κ (.ptr a b)) (fun _ _=>z) (fun _ _=>z) (fun x=>κ (.cp x)) (fun a b c d=>κ (.rs a b c d)) (fun a b c=>κ (.row a b c)) (fun a=>κ (.map a)) (fun f a b _ _=>κ (.fn f a b)) (fun t x _=>κ (.ifc t x)) (fun cs _=>κ (.agg cs)) (fun vs _=>κ (.tup vs)) (κ .undef) none (fun _ _ _ _=>none) v
theorem qyG {v:V} {κ:V->R} {x:Ex × St} (h:qxS v none κ=some x):v.isBox=false/\(∀m o,v≠.lp m o)/\κ v=some x:=by
 cases v<;>first|exact ⟨rfl,nofun,h⟩|cases h
theorem qmm {v:V} {z:R} {κ:V->R} {x:Ex × St} (h:qmv v z κ=some x):z=some x\/(v.isBox=false/\κ v=some x):=by
 cases v<;>first|exact .inr ⟨rfl,h⟩|exact .inl h
inductive KR where
 | mk (f:Env->(V->R)->R)
noncomputable def KR.run (k:KR):Env->(V->R)->R:=KR.rec (motive:=fun _=>Env->(V->R)->R) (fun f=>f) k
noncomputable def rdC (o:O):KR:=O.rec (motive:=fun _=>KR) (fun n=>.mk fun e κ=>qJr n (fget n e) κ) (fun x=>.mk fun _ κ=>κ (.d x)) (fun i=>.mk fun _ κ=>κ (.fn i [] [])) (fun n=>.mk fun e κ=>qJc (fget n e) κ) (fun _ x=>.mk fun _ κ=>κ (.cp x)) o
theorem qhz (o:O) (e:Env) (κ:V->R):(rdC o).run e κ=κ (rd e o):=by
 cases o with
 | t n=>exact (qFI n (fget n e) κ).trans (by rw [qar];rfl)
 | mv n=>exact (qF6 (fget n e) κ).trans (by rw [qar];rfl)
 | _=>rfl
inductive KE where
 | mk (f:Env->Env)
noncomputable def KE.run (k:KE):Env->Env:=KE.rec (motive:=fun _=>Env->Env) (fun f=>f) k
noncomputable def spC (o:O) (r:KE):KE:=O.rec (motive:=fun _=>KE) (fun _=>r) (fun _=>r) (fun _=>r) (fun n=>.mk fun e=>r.run ((n,.undef)::e)) (fun _ _=>r) o
noncomputable def spL (l:List O):KE:=List.rec (motive:=fun _=>KE) (.mk fun e=>e) (fun o _ ih=>spC o ih) l
theorem qB9 (l:List O) (e:Env):(spL l).run e=spentAll l e:=by
 induction l generalizing e with
 | nil=>rfl
 | cons o l ih=>
  show (spC o (spL l)).run e=spentAll l (spent o e)
  cases o<;>first|exact ih _|exact ih e
noncomputable def spO (o:O):KE:=spC o (.mk fun e=>e)
theorem qpb (o:O) (e:Env):(spO o).run e=spent o e:=by cases o<;>rfl
inductive KA where
 | mk (f:Env->(List V->R)->R)
noncomputable def KA.run (k:KA):Env->(List V->R)->R:=KA.rec (motive:=fun _=>Env->(List V->R)->R) (fun f=>f) k
noncomputable def qFJ (l:List O):KA:=List.rec (motive:=fun _=>KA) (.mk fun _ κ=>κ []) (fun o _ ih=>.mk fun e κ=>(rdC o).run e fun v=>ih.run e fun r=>κ (v::r)) l
theorem qyl (l:List O) (e:Env) (κ:List V->R):(qFJ l).run e κ=κ (l.map (rd e)):=by
 induction l generalizing κ with
 | nil=>rfl
 | cons o l ih=>
  show (rdC o).run e (fun v=>(qFJ l).run e fun r=>κ (v::r))=_
  rw [qhz,ih];rfl
noncomputable def iadd (a b:Int):Int:=Int.rec (motive:=fun _=>Int) (fun m=>Int.rec (motive:=fun _=>Int) (fun n=>.ofNat (Nat.add m n)) (fun n=>a+b) b) (fun _=>a+b) a
theorem qIn (a b:Int):iadd a b=a+b:=by cases a<;>cases b<;>rfl
noncomputable def imul (a b:Int):Int:=Int.rec (motive:=fun _=>Int) (fun m=>Int.rec (motive:=fun _=>Int) (fun n=>.ofNat (Nat.mul m n)) (fun n=>a * b) b) (fun _=>a * b) a
theorem qIe (a b:Int):imul a b=a * b:=by cases a<;>cases b<;>rfl
noncomputable def isub (a b:Int):Int:=Int.rec (motive:=fun _=>Int) (fun m=>Int.rec (motive:=fun _=>Int) (fun n=>Bool.rec (motive:=fun _=>Int) (a - b) (.ofNat (Nat.sub m n)) (Nat.ble n m)) (fun n=>a - b) b) (fun _=>a - b) a
theorem qHW (a b:Int):isub a b=a - b:=by
 cases a with
 | ofNat m=>cases b with
  | ofNat n=>
   show Bool.rec (motive:=fun _=>Int) (Int.ofNat m - Int.ofNat n) (Int.ofNat (Nat.sub m n)) (Nat.ble n m)=_
   cases h:Nat.ble n m with
   | false=>rfl
   | true=>
    have:=qTq h
    show Int.ofNat (m - n)=Int.ofNat m - Int.ofNat n
    simp only [Int.ofNat_eq_natCast];omega
  | negSucc n=>rfl
 | negSucc m=>rfl
noncomputable def ile (a b:Int):Bool:=Int.rec (motive:=fun _=>Bool) (fun m=>Int.rec (motive:=fun _=>Bool) (fun n=>Nat.ble m n) (fun _=>false) b) (fun m=>Int.rec (motive:=fun _=>Bool) (fun _=>true) (fun n=>Nat.ble n m) b) a
theorem qx8 (a b:Int):ile a b=leI a b:=by cases a<;>cases b<;>rfl
noncomputable def ieq (a b:Int):Bool:=Int.rec (motive:=fun _=>Bool) (fun m=>Int.rec (motive:=fun _=>Bool) (fun n=>qTd m n) (fun _=>false) b) (fun m=>Int.rec (motive:=fun _=>Bool) (fun _=>false) (fun n=>qTd m n) b) a
theorem qG3 (a b:Int):ieq a b=eqI a b:=by cases a<;>cases b<;>rfl
noncomputable def kcode (k:IntKind):Nat:=IntKind.rec (motive:=fun _=>Nat) 0 1 2 3 4 5 6 7 k
theorem qz0 (a b:IntKind):qTd (kcode a) (kcode b)=eqK a b:=by cases a<;>cases b<;>rfl
noncomputable def kmax (k:IntKind):Nat:=IntKind.rec (motive:=fun _=>Nat) 127 32767 2147483647 9223372036854775807 255 65535 4294967295 18446744073709551615 k
theorem qIr (k:IntKind):kmax k=qsV k:=by cases k<;>rfl
noncomputable def iwr (k:IntKind) (z:Int):Int:=Int.rec (motive:=fun _=>Int) (fun a=>Bool.rec (motive:=fun _=>Int) (wr k (.ofNat a)) (.ofNat a) (Nat.ble a (kmax k))) (fun a=>wr k (.negSucc a)) z
theorem qNt (k:IntKind) (z:Int):iwr k z=wr k z:=by
 cases z with
 | ofNat a=>
  show Bool.rec (motive:=fun _=>Int) (wr k (.ofNat a)) (.ofNat a) (Nat.ble a (kmax k))=_
  rw [qIr]
  cases h:Nat.ble a (qsV k) with
  | false=>rfl
  | true=>simp only [wr,h,cond_true]
 | negSucc a=>rfl
noncomputable def inot (b:Bool):Bool:=Bool.rec (motive:=fun _=>Bool) true false b
theorem qxm (b:Bool):inot b=!b:=by cases b<;>rfl
def qzD (pg:Pg) (r:R) (k:K) (call:Call) (n:Nat) (x:Ex × St):Prop:=(∃s,r=some (.nrm,s)/\k.run call n s.env s.H s.lo=some x)\/(r=some x/\x.1≠.nrm)
def qwn (r:Option Or) (dst:Option Nat) (k:K) (call:Call) (n:Nat) (x:Ex × St):Prop:=
 ∃q,r=some q/\((q.pan=false/\∃st,put dst q.v q.st=st/\k.run call n st.env st.H st.lo=some x)\/(q.pan=true/\x=(.pan q.v,q.st)))
def qT (f:KF) (op:OpK) (dst:Option Nat) (k:K):Prop:=∀{call:Call} {n:Nat} {e:Env} {H:List Obj} {lo:Nat} {x:Ex × St},f call n e H lo=some x->qwn (qa call op ⟨e,H,lo⟩) dst k call n x
noncomputable def qh0 (dst:Option Nat) (v:V) (k:K):KF:=fun call n e H lo=>match put dst v ⟨e,H,lo⟩ with|⟨e,H,lo⟩=>k.run call n e H lo
theorem qjQ {dst:Option Nat} {v:V} {same:Bool} {k:K} {call:Call} {n:Nat} {e:Env} {H:List Obj} {lo:Nat} {x:Ex × St} (h:qh0 dst v k call n e H lo=some x):qwn (some ⟨false,same,v,⟨e,H,lo⟩⟩) dst k call n x:=by
 refine ⟨_,rfl,.inl ⟨rfl,_,rfl,?_⟩⟩
 exact h
theorem ql {d:Nat} {v:V} {same:Bool} {k:K} {call:Call} {n:Nat} {e:Env} {H:List Obj} {lo:Nat} {x:Ex × St} (hv:v.isBox=false) (h:k.run call n ((d,v)::e) H lo=some x):qwn (some ⟨false,same,v,⟨e,H,lo⟩⟩) (some d) k call n x:=by
 refine ⟨_,rfl,.inl ⟨rfl,_,rfl,?_⟩⟩
 cases v<;>first|exact h|cases hv
inductive KS where
 | mk (f:Call->St->Option Or)
noncomputable def KS.run (k:KS):Call->St->Option Or:=KS.rec (motive:=fun _=>Call->St->Option Or) (fun f=>f) k
noncomputable def qLl (op:OpK):KS:=
 match op with
 | .mov x=>.mk fun _ st=>qN7 x st
 | .pick c a b=>.mk fun _ st=>qFU c a b st
 | .alloc loc zero=>.mk fun _ st=>qff loc zero st
 | .box loc x=>.mk fun _ st=>qti loc x st
 | .build zero parts=>.mk fun _ st=>qaZ zero parts st
 | .buildSlice zero len parts=>.mk fun _ st=>kh zero len parts st
 | .load mv sl l a=>.mk fun _ st=>qGT mv sl l a st
 | .loadC l a=>.mk fun _ st=>qgb l a st
 | .store sl l a x=>.mk fun _ st=>qaA sl l a x st
 | .nilCheck x=>.mk fun _ st=>qso x st
 | .bin op kd x y=>.mk fun _ st=>qLW op kd x y st
 | .un op x=>.mk fun _ st=>eUn op x st
 | .conv k x=>.mk fun _ st=>qiW k x st
 | .mkFn f first cap=>.mk fun _ st=>qoI f first cap st
 | .sliceS x lo hi=>.mk fun _ st=>qal x lo hi st
 | .fieldAddr x off l=>.mk fun _ st=>qpf x off l st
 | .field x off l=>.mk fun _ st=>qfC x off l st
 | .indexAddr x i size arr=>.mk fun _ st=>qo3 x i size arr st
 | .index x i=>.mk fun _ st=>qBQ x i st
 | .lookup kk zero m k c=>.mk fun _ st=>z8 kk zero m k c st
 | .mapUpdate kk m k x=>.mk fun _ st=>zZ kk m k x st
 | .extract x i=>.mk fun _ st=>qtS x i st
 | .bi b args=>.mk fun _ st=>fBi b args st
 | .call f args=>.mk fun call st=>jJ call f args st
 | op=>.mk fun call st=>qa call op st
theorem qC3 (op:OpK) (call:Call) (st:St):(qLl op).run call st=qa call op st:=by
 rw [<- qD3]
 cases op<;>rfl
noncomputable def qro (op:OpK):Bool:=
 match op with
 | .appendR _ _ _ _ | .truncR _ _ | .zerosR _ _ _ _ _ | .buildR _ _ _ _ | .rangeM _ | .mkMap | .mkSlice _ _ _ | .alloc _ _ | .box _ _ | .bytesRow _ | .buildRow _ _ _ | .cvtR _=>true
 | _=>false
noncomputable def quE {α:Type} (b:Bool) (H:List Obj) (k:List Obj->α):α:=Bool.rec (motive:=fun _=>α) (qGJ H k) (qt9 H k) b
theorem qwR {α:Type} (b:Bool) (H:List Obj) (k:List Obj->α):quE b H k=k H:=by cases b;exact qEM _ _;exact qw4 _ _
noncomputable def qLm (dst:Option Nat) (op:OpK) (k:K):KF:=fun call n e H lo=>
 match (qLl op).run call ⟨e,H,lo⟩ with
 | some ⟨pan,same,v,⟨e',H',lo'⟩⟩=>Bool.rec (motive:=fun _=>R)
   (qvF (makes op) v fun v=>Bool.rec (motive:=fun _=>R) (quE (qro op) H' fun H'=>qq lo' fun lo'=>qh0 dst v k call n e' H' lo') (qh0 dst v k call n e' H' lo') same)
   (some (.pan v,⟨e',H',lo'⟩)) pan
 | none=>none
theorem qDd {dst:Option Nat} {op:OpK} {k:K}:qT (qLm dst op k) op dst k:=by
 intro call n e H lo x h
 unfold qLm at h
 rw [qC3] at h
 split at h
 ·rename_i pan same v e' H' lo' hq
  rw [hq]
  cases pan with
  | false=>
   have h:(qvF (makes op) v fun v=>Bool.rec (motive:=fun _=>R) (quE (qro op) H' fun H'=>qq lo' fun lo'=>qh0 dst v k call n e' H' lo') (qh0 dst v k call n e' H' lo') same)=some x:=h
   rw [qwb] at h
   have h2:qh0 dst v k call n e' H' lo'=some x:=by
    cases same with
    | false=>simpa only [qwR,qW] using h
    | true=>exact h
   exact qjQ h2
  | true=>
   have h:some (Ex.pan v,(⟨e',H',lo'⟩:St))=some x:=h
   cases h
   exact ⟨_,rfl,.inr ⟨rfl,rfl⟩⟩
 ·cases h
noncomputable def asN (v:V) (z:R) (κ:IntKind->Int->R):R:=OI.rec (motive:=fun _=>R) z κ (vI v)
theorem qbP {v:V} {z:R} {κ:IntKind->Int->R} {x:Ex × St} (h:asN v z κ=some x):z=some x\/∃k n,v=.d (.i k n)/\κ k n=some x:=by
 unfold asN at h
 cases hv:vI v with
 | no=>rw [hv] at h;exact .inl h
 | yes k n=>rw [hv] at h;exact .inr ⟨k,n,qOQ hv,h⟩
noncomputable def qAk (d:Nat) (f:Int->Int->Bool) (a b:KO) (g k:K):KF:=fun call n e H lo=>
 asN (a.run e) (g.run call n e H lo) fun ka x=>asN (b.run e) none fun kb y=>Bool.rec (motive:=fun _=>R) none (Bool.rec (motive:=fun _=>R) (k.run call n ((d,.d (.b false))::e) H lo) (k.run call n ((d,.d (.b true))::e) H lo) (f x y)) (qTd (kcode ka) (kcode kb))
noncomputable def qGs (d:Nat) (f:Int->Int->Int) (a b:KO) (g k:K):KF:=fun call n e H lo=>
 asN (a.run e) (g.run call n e H lo) fun ka x=>asN (b.run e) none fun kb y=>Bool.rec (motive:=fun _=>R) none (qvl (iwr ka (f x y)) fun z=>k.run call n ((d,.d (.i ka z))::e) H lo) (qTd (kcode ka) (kcode kb))
theorem qrn {o:O} {e:Env} {k:IntKind} {n:Int} (h:(kX o).run e=.d (.i k n)):rd e o=.d (.i k n):=by
 rw [kr (by rw [h];trivial),h]
theorem qeI {d:Nat} {f:Int->Int->Bool} {op:BinOp} {x y:O} {g k:K} (hop:qeh op=false) (hf:∀kk a b,qhN op kk a b=some (.b (f a b))) (hg:qT g.run (.bin op .num x y) (some d) k):qT (qAk d f (kX x) (kX y) g k) (.bin op .num x y) (some d) k:=by
 intro call n e H lo z h
 unfold qAk at h
 rcases qbP h with h|⟨ka,a,ha,h⟩
 ·exact hg h
 rcases qbP h with h|⟨kb,b,hb,h⟩
 ·cases h
 rw [qz0] at h
 cases hk:eqK ka kb with
 | false=>rw [hk] at h;cases h
 | true=>
  rw [hk] at h
  have he:qa call (.bin op .num x y) ⟨e,H,lo⟩=some ⟨false,true,.d (.b (f a b)),⟨e,H,lo⟩⟩:=by
   simp only [qa,qsa,qrn ha,qrn hb,qey,hop,hk,cond_true,cond_false,hf,qTh,ok]
  rw [he]
  cases hz:f a b with
  | false=>rw [hz] at h;exact ql rfl h
  | true=>rw [hz] at h;exact ql rfl h
theorem qry {d:Nat} {f:Int->Int->Int} {op:BinOp} {x y:O} {g k:K} (hop:qeh op=false) (hf:∀kk a b,qhN op kk a b=some (.i kk (wr kk (f a b)))) (hg:qT g.run (.bin op .num x y) (some d) k):qT (qGs d f (kX x) (kX y) g k) (.bin op .num x y) (some d) k:=by
 intro call n e H lo z h
 unfold qGs at h
 rcases qbP h with h|⟨ka,a,ha,h⟩
 ·exact hg h
 rcases qbP h with h|⟨kb,b,hb,h⟩
 ·cases h
 rw [qz0] at h
 cases hk:eqK ka kb with
 | false=>rw [hk] at h;cases h
 | true=>
  rw [hk] at h
  have h:(qvl (iwr ka (f a b)) fun z=>k.run call n ((d,.d (.i ka z))::e) H lo)=some z:=h
  rw [qrU,qNt] at h
  have he:qa call (.bin op .num x y) ⟨e,H,lo⟩=some ⟨false,true,.d (.i ka (wr ka (f a b))),⟨e,H,lo⟩⟩:=by
   simp only [qa,qsa,qrn ha,qrn hb,qey,hop,hk,cond_true,cond_false,hf,qTh,ok]
  rw [he]
  exact ql rfl h
noncomputable def gK (dst:Option Nat) (op:OpK) (k:K):K:=.mk (qLm dst op k)
theorem ki {dst:Option Nat} {op:OpK} {k:K}:qT (gK dst op k).run op dst k:=qDd
noncomputable def qKI (d:Nat) (op:BinOp) (kd:Kd) (x y:O) (k:K):K:=
 match op,kd with
 | .add,.num=>.mk (qGs d iadd (kX x) (kX y) (gK (some d) (.bin .add .num x y) k) k)
 | .sub,.num=>.mk (qGs d isub (kX x) (kX y) (gK (some d) (.bin .sub .num x y) k) k)
 | .mul,.num=>.mk (qGs d imul (kX x) (kX y) (gK (some d) (.bin .mul .num x y) k) k)
 | .lss,.num=>.mk (qAk d (fun a b=>inot (ile b a)) (kX x) (kX y) (gK (some d) (.bin .lss .num x y) k) k)
 | .leq,.num=>.mk (qAk d ile (kX x) (kX y) (gK (some d) (.bin .leq .num x y) k) k)
 | .gtr,.num=>.mk (qAk d (fun a b=>inot (ile a b)) (kX x) (kX y) (gK (some d) (.bin .gtr .num x y) k) k)
 | .geq,.num=>.mk (qAk d (fun a b=>ile b a) (kX x) (kX y) (gK (some d) (.bin .geq .num x y) k) k)
 | .eql,.num=>.mk (qAk d ieq (kX x) (kX y) (gK (some d) (.bin .eql .num x y) k) k)
 | .neq,.num=>.mk (qAk d (fun a b=>inot (ieq a b)) (kX x) (kX y) (gK (some d) (.bin .neq .num x y) k) k)
 | op,kd=>gK (some d) (.bin op kd x y) k
theorem qDD {d:Nat} {op:BinOp} {kd:Kd} {x y:O} {k:K}:qT (qKI d op kd x y k).run (.bin op kd x y) (some d) k:=by
 unfold qKI
 split
 ·exact qry rfl (fun kk a b=>by rw [qIn];rfl) ki
 ·exact qry rfl (fun kk a b=>by rw [qHW];rfl) ki
 ·exact qry rfl (fun kk a b=>by rw [qIe];rfl) ki
 ·exact qeI rfl (fun kk a b=>by rw [qxm,qx8];rfl) ki
 ·exact qeI rfl (fun kk a b=>by rw [qx8];rfl) ki
 ·exact qeI rfl (fun kk a b=>by rw [qxm,qx8];rfl) ki
 ·exact qeI rfl (fun kk a b=>by rw [qx8];rfl) ki
 ·exact qeI rfl (fun kk a b=>by rw [qG3];rfl) ki
 ·exact qeI rfl (fun kk a b=>by rw [qxm,qG3];rfl) ki
 ·exact ki
theorem qBg (m:Nat) (v:V):(qfO m v).isBox=false:=by
 cases v with
 | agg cs=>exact qsq _
 | _=>rfl
theorem qDk (v:V):(qhr v).isBox=false:=by cases v<;>rfl
theorem qAK (e:Env) (o:O):(rd e o).isBox=false:=by
 cases o with
 | t n=>exact qBg _ _
 | mv n=>exact qDk _
 | _=>rfl
noncomputable def qKH (d:Nat) (x:O) (k:K):KF:=fun call n e H lo=>(rdC x).run e fun v=>k.run call n ((d,v)::(spO x).run e) H lo
theorem qDM {d:Nat} {x:O} {k:K}:qT (qKH d x k) (.mov x) (some d) k:=by
 intro call n e H lo z h
 unfold qKH at h
 rw [qhz,qpb] at h
 exact ql (qAK e x) h
noncomputable def asP (v:V) (z:R) (p l:Nat->Nat->R) (c:D->R):R:=OP.rec (motive:=fun _=>R) z p l c (vP v)
theorem qfG {v:V} {z:R} {p l:Nat->Nat->R} {c:D->R} {x:Ex × St} (h:asP v z p l c=some x):z=some x\/(∃a b,v=.ptr a b/\p a b=some x)\/(∃a b,v=.lp a b/\l a b=some x)\/∃y,v=.cp y/\c y=some x:=by
 unfold asP at h
 cases hv:vP v with
 | no=>rw [hv] at h;exact .inl h
 | p a b=>rw [hv] at h;exact .inr (.inl ⟨a,b,qSz hv,h⟩)
 | l a b=>rw [hv] at h;exact .inr (.inr (.inl ⟨a,b,qSf hv,h⟩))
 | c y=>rw [hv] at h;exact .inr (.inr (.inr ⟨y,qSR hv,h⟩))
noncomputable def qxC (o:Option Obj):Option (List V):=Option.rec (motive:=fun _=>Option (List V)) none (fun ob=>Obj.rec (motive:=fun _=>Option (List V)) (fun cs=>some cs) (fun _=>none) (fun _ _=>none) none (fun _=>none) ob) o
theorem qzp {o:Option Obj} {cs:List V} (h:qxC o=some cs):o=some (.cells cs):=by
 cases o with
 | none=>cases h
 | some ob=>cases ob with
  | cells c=>have h:some c=some cs:=h;cases h;rfl
  | _=>cases h
noncomputable def qBV (o:Option Obj):Option (List V):=Option.rec (motive:=fun _=>Option (List V)) none (fun ob=>Obj.rec (motive:=fun _=>Option (List V)) (fun cs=>some cs) (fun _=>none) (fun _ cs=>some cs) none (fun _=>none) ob) o
theorem qzn {o:Option Obj} {cs:List V} (h:qBV o=some cs):o=some (.cells cs)\/∃l,o=some (.row l cs):=by
 cases o with
 | none=>cases h
 | some ob=>cases ob with
  | cells c=>have h:some c=some cs:=h;cases h;exact .inl rfl
  | row l c=>have h:some c=some cs:=h;cases h;exact .inr ⟨l,rfl⟩
  | _=>cases h
noncomputable def qyM (v:V):Option (List V):=V.rec (motive_1:=fun _=>Option (List V)) (motive_2:=fun _=>Option (List V)) (fun _=>none) (fun _=>none) (fun _=>none) (fun _ _=>none) (fun _ _=>none) (fun cs _=>some cs) (fun _=>none) (fun _ _ _ _=>none) (fun _ _ _=>none) (fun _=>none) (fun _ _ _ _ _=>none) (fun _ _ _=>none) (fun _ _=>none) (fun _ _=>none) none none (fun _ _ _ _=>none) v
theorem qwf {v:V} {cs:List V} (h:qyM v=some cs):v=.box cs:=by
 cases v with
 | box c=>have h:some c=some cs:=h;cases h;rfl
 | _=>cases h
noncomputable def orN {α:Type} (o:Option α) (κ:α->R):R:=Option.rec (motive:=fun _=>R) none κ o
theorem zg {α:Type} {o:Option α} {κ:α->R} {x:Ex × St} (h:orN o κ=some x):∃a,o=some a/\κ a=some x:=by
 cases o with
 | none=>cases h
 | some a=>exact ⟨a,rfl,h⟩
noncomputable def orZ {α:Type} (o:Option α) (z:R) (κ:α->R):R:=Option.rec (motive:=fun _=>R) z κ o
theorem qri {α:Type} {o:Option α} {z:R} {κ:α->R} {x:Ex × St} (h:orZ o z κ=some x):z=some x\/∃a,o=some a/\κ a=some x:=by
 cases o with
 | none=>exact .inl h
 | some a=>exact .inr ⟨a,rfl,h⟩
noncomputable def qze (l:L) (off:Nat) (cs:List V) (κ:V->R):R:=L.rec (motive:=fun _=>R) (fun n agg=>Bool.rec (motive:=fun _=>R) (orN (fnth cs off) fun v=>qI5 v κ) (orN (V.part off ⟨n,agg⟩ cs) fun v=>qdI v κ) agg) l
theorem quM {l:L} {off:Nat} {cs:List V} {κ:V->R} {x:Ex × St} (h:qze l off cs κ=some x):∃v,V.part off l cs=some v/\v.isBox=false/\κ v=some x:=by
 obtain ⟨n,agg⟩:=l
 cases agg with
 | false=>
  obtain ⟨v,h1,h2⟩:=zg (o:=fnth cs off) h
  rw [jI] at h1
  obtain ⟨h3,h4⟩:=qAL h2
  exact ⟨_,by simp [V.part,h1],h3,h4⟩
 | true=>
  obtain ⟨v,h1,h2⟩:=zg (o:=V.part off ⟨n,true⟩ cs) h
  rw [qcu] at h2
  refine ⟨v,h1,?_,h2⟩
  simp only [V.part,if_true] at h1
  split at h1
  ·cases h1;exact qsq _
  ·cases h1
noncomputable def isAgg (x:D):Option (List D):=D.rec (motive_1:=fun _=>Option (List D)) (motive_2:=fun _=>Option (List D)) (fun _=>none) (fun _ _=>none) (fun _=>none) none (fun _ _=>none) (fun cs _=>some cs) none none none none none (fun _ _ _ _=>none) x
noncomputable def qxO (l:L) (x:D) (κ:V->R):R:=L.rec (motive:=fun _=>R) (fun n agg=>Option.rec (motive:=fun _=>R) (Bool.rec (motive:=fun _=>R) (κ (.d x)) none agg) (fun cs=>Bool.rec (motive:=fun _=>R) none (Bool.rec (motive:=fun _=>R) none (κ (.d x)) (qTd (jS cs) n)) agg) (isAgg x)) l
theorem qsO {l:L} {x:D} {κ:V->R} {y:Ex × St} {st:St} (h:qxO l x κ=some y):qJ l st (.cp x)=some (.d x)/\κ (.d x)=some y:=by
 obtain ⟨n,agg⟩:=l
 cases x with
 | agg cs=>
  cases agg with
  | false=>cases h
  | true=>
   have h:Bool.rec (motive:=fun _=>R) none (κ (.d (.agg cs))) (qTd (jS cs) n)=some y:=h
   cases hb:qTd (jS cs) n with
   | false=>rw [hb] at h;cases h
   | true=>
    rw [hb] at h
    have:=qS9 hb
    rw [ko] at this
    exact ⟨by simp [qJ,this],h⟩
 | _=>
  cases agg with
  | false=>exact ⟨rfl,h⟩
  | true=>cases h
noncomputable def qJC (d:Nat) (sl:Option Nat) (l:L) (a:O) (g k:K):KF:=
 Option.rec (motive:=fun _=>KF)
  (fun call n e H lo=>asP ((kX a).run e) (g.run call n e H lo) (fun id off=>orZ (qBV (fnth H id)) (g.run call n e H lo) fun cs=>qze l off cs fun v=>k.run call n ((d,v)::e) H lo) (fun _ _=>none) (fun x=>qxO l x fun v=>k.run call n ((d,v)::e) H lo))
  (fun s0 call n e H lo=>asP ((kX a).run e) (g.run call n e H lo) (fun _ _=>none) (fun s off=>Bool.rec (motive:=fun _=>R) none (orN (qyM (fget s e)) fun cs=>qze l off cs fun v=>k.run call n ((d,v)::e) H lo) (qTd s0 s)) (fun _=>none)) sl
theorem qBv {d:Nat} {sl:Option Nat} {l:L} {a:O} {g k:K} (hg:qT g.run (.load false sl l a) (some d) k):qT (qJC d sl l a g k) (.load false sl l a) (some d) k:=by
 intro call n e H lo z h
 cases sl with
 | none=>
  have h:(asP ((kX a).run e) (g.run call n e H lo) (fun id off=>orZ (qBV (fnth H id)) (g.run call n e H lo) fun cs=>qze l off cs fun v=>k.run call n ((d,v)::e) H lo) (fun _ _=>none) (fun x=>qxO l x fun v=>k.run call n ((d,v)::e) H lo))=some z:=h
  rcases qfG h with h|⟨id,off,ha,h⟩|⟨_,_,_,h⟩|⟨y,ha,h⟩
  ·exact hg h
  ·rcases qri h with h|⟨cs,hc,h⟩
   ·exact hg h
   obtain ⟨v,hv,hb,h⟩:=quM h
   have ha':rd e a=.ptr id off:=by rw [kr (by rw [ha];trivial),ha]
   have he:qa call (.load false none l a) ⟨e,H,lo⟩=some ⟨false,true,v,⟨e,H,lo⟩⟩:=by
    rcases qzn hc with hc|⟨l',hc⟩<;>
    ·rw [jI] at hc
     simp only [qa,zI,ha',qB,qJ,hc,hv,qTl,cond_false,ok]
   rw [he];exact ql hb h
  ·cases h
  ·obtain ⟨h1,h2⟩:=qsO (st:=⟨e,H,lo⟩) h
   have ha':rd e a=.cp y:=by rw [kr (by rw [ha];trivial),ha]
   have he:qa call (.load false none l a) ⟨e,H,lo⟩=some ⟨false,true,.d y,⟨e,H,lo⟩⟩:=by
    simp only [qa,zI,ha',qB,h1,qTl,cond_false,ok]
   rw [he];exact ql rfl h2
 | some s0=>
  have h:(asP ((kX a).run e) (g.run call n e H lo) (fun _ _=>none) (fun s off=>Bool.rec (motive:=fun _=>R) none (orN (qyM (fget s e)) fun cs=>qze l off cs fun v=>k.run call n ((d,v)::e) H lo) (qTd s0 s)) (fun _=>none))=some z:=h
  rcases qfG h with h|⟨_,_,_,h⟩|⟨s,off,ha,h⟩|⟨_,_,h⟩
  ·exact hg h
  ·cases h
  ·cases hb:qTd s0 s with
   | false=>rw [hb] at h;cases h
   | true=>
    rw [hb] at h
    obtain ⟨cs,hc,h⟩:=zg (o:=qyM (fget s e)) h
    obtain ⟨v,hv,hbx,h⟩:=quM h
    have hc:=qwf hc
    rw [qar] at hc
    have ha':rd e a=.lp s off:=by rw [kr (by rw [ha];trivial),ha]
    have he:qa call (.load false (some s0) l a) ⟨e,H,lo⟩=some ⟨false,true,v,⟨e,H,lo⟩⟩:=by
     simp only [qa,zI,ha',qB,qJ,hc,hv,hb,qTl,cond_false,ok]
    rw [he];exact ql hbx h
  ·cases h
noncomputable def qB5 (d:Nat) (l:L) (a:O) (k:K):KF:=fun call n e H lo=>asP ((kX a).run e) none (fun _ _=>none) (fun _ _=>none) (fun x=>qxO l x fun v=>k.run call n ((d,v)::e) H lo)
theorem qzX {d:Nat} {l:L} {a:O} {k:K}:qT (qB5 d l a k) (.loadC l a) (some d) k:=by
 intro call n e H lo z h
 unfold qB5 at h
 rcases qfG h with h|⟨_,_,_,h⟩|⟨_,_,_,h⟩|⟨y,ha,h⟩
 ·cases h
 ·cases h
 ·cases h
 ·obtain ⟨h1,h2⟩:=qsO (st:=⟨e,H,lo⟩) h
  have ha':rd e a=.cp y:=by rw [kr (by rw [ha];trivial),ha]
  have he:qa call (.loadC l a) ⟨e,H,lo⟩=some ⟨false,true,.d y,⟨e,H,lo⟩⟩:=by
   simp only [qa,qgb,ha',h1,ok]
  rw [he];exact ql rfl h2
noncomputable def qL3 (d:Nat) (a:O) (g k:K):KF:=fun call n e H lo=>
 asP ((kX a).run e) (g.run call n e H lo) (fun id off=>k.run call n ((d,.ptr id off)::e) H lo) (fun s off=>k.run call n ((d,.lp s off)::e) H lo) (fun x=>k.run call n ((d,.cp x)::e) H lo)
theorem qDu {d:Nat} {a:O} {g k:K} (hg:qT g.run (.nilCheck a) (some d) k):qT (qL3 d a g k) (.nilCheck a) (some d) k:=by
 intro call n e H lo z h
 unfold qL3 at h
 rcases qfG h with h|⟨id,off,ha,h⟩|⟨s,off,ha,h⟩|⟨y,ha,h⟩
 ·exact hg h
 ·have ha':rd e a=.ptr id off:=(kr (by rw [ha];trivial)).trans ha
  rw [show qa call (.nilCheck a) ⟨e,H,lo⟩=some ⟨false,true,.ptr id off,⟨e,H,lo⟩⟩ by simp only [qa,zl,ha',ok]]
  exact ql rfl h
 ·have ha':rd e a=.lp s off:=(kr (by rw [ha];trivial)).trans ha
  rw [show qa call (.nilCheck a) ⟨e,H,lo⟩=some ⟨false,true,.lp s off,⟨e,H,lo⟩⟩ by simp only [qa,zl,ha',ok]]
  exact ql rfl h
 ·have ha':rd e a=.cp y:=(kr (by rw [ha];trivial)).trans ha
  rw [show qa call (.nilCheck a) ⟨e,H,lo⟩=some ⟨false,true,.cp y,⟨e,H,lo⟩⟩ by simp only [qa,zl,ha',ok]]
  exact ql rfl h
noncomputable def qN5 (d:Nat) (a:O) (o:Nat) (l:L) (g k:K):KF:=fun call n e H lo=>
 asP ((kX a).run e) (g.run call n e H lo) (fun id off=>qq (Nat.add off o) fun off=>k.run call n ((d,.ptr id off)::e) H lo) (fun s off=>qq (Nat.add off o) fun off=>k.run call n ((d,.lp s off)::e) H lo) (fun _=>g.run call n e H lo)
theorem qjj {a:Nat} {κ:Nat->R}:qq a κ=κ a:=qW a κ
theorem qD5 {d:Nat} {a:O} {o:Nat} {l:L} {g k:K} (hg:qT g.run (.fieldAddr a o l) (some d) k):qT (qN5 d a o l g k) (.fieldAddr a o l) (some d) k:=by
 intro call n e H lo z h
 unfold qN5 at h
 rcases qfG h with h|⟨id,off,ha,h⟩|⟨s,off,ha,h⟩|⟨y,ha,h⟩
 ·exact hg h
 ·rw [qjj] at h
  have ha':rd e a=.ptr id off:=(kr (by rw [ha];trivial)).trans ha
  have he:qa call (.fieldAddr a o l) ⟨e,H,lo⟩=some ⟨false,true,.ptr id (off+o),⟨e,H,lo⟩⟩:=by
   simp only [qa,qZ,ha',ok]
  rw [he];exact ql rfl h
 ·rw [qjj] at h
  have ha':rd e a=.lp s off:=(kr (by rw [ha];trivial)).trans ha
  have he:qa call (.fieldAddr a o l) ⟨e,H,lo⟩=some ⟨false,true,.lp s (off+o),⟨e,H,lo⟩⟩:=by
   simp only [qa,qZ,ha',ok]
  rw [he];exact ql rfl h
 ·exact hg h
noncomputable def qwW (z:Int) (κ:Nat->R):R:=Int.rec (motive:=fun _=>R) κ (fun _=>none) z
theorem qfk {z:Int} {κ:Nat->R} {x:Ex × St} (h:qwW z κ=some x):∃m:Nat,z=.ofNat m/\κ m=some x:=by
 cases z with
 | ofNat m=>exact ⟨m,rfl,h⟩
 | negSucc m=>cases h
noncomputable def szD (y:D):Nat:=D.rec (motive_1:=fun _=>Nat) (motive_2:=fun _=>Nat) (fun _=>1) (fun _ _=>1) (fun _=>1) 1 (fun _ _=>1) (fun cs _=>jS cs) 1 1 1 1 1 (fun _ _ _ _=>1) y
theorem qxh (y:D):szD y=y.cells.length:=by
 cases y with
 | agg cs=>exact ko cs
 | _=>rfl
noncomputable def asL (v:V) (z nl:R) (κ:List D->R):R:=OL.rec (motive:=fun _=>R) z nl κ (vL v)
theorem qug {v:V} {z nl:R} {κ:List D->R} {x:Ex × St} (h:asL v z nl κ=some x):z=some x\/(v=.d .nil/\nl=some x)\/∃xs,v=.d (.sl xs)/\κ xs=some x:=by
 unfold asL at h
 cases hv:vL v with
 | no=>rw [hv] at h;exact .inl h
 | nil=>rw [hv] at h;exact .inr (.inl ⟨qO4 hv,h⟩)
 | sl xs=>rw [hv] at h;exact .inr (.inr ⟨xs,qRp hv,h⟩)
noncomputable def asT (v:V) (z:R) (κ:List Nat->R):R:=OT.rec (motive:=fun _=>R) z κ (vT v)
theorem qq1 {v:V} {z:R} {κ:List Nat->R} {x:Ex × St} (h:asT v z κ=some x):z=some x\/∃t,v=.d (.s t)/\κ t=some x:=by
 unfold asT at h
 cases hv:vT v with
 | no=>rw [hv] at h;exact .inl h
 | s t=>rw [hv] at h;exact .inr ⟨t,qPT hv,h⟩
noncomputable def qK4 (d:Nat) (x i:O) (size:Nat) (g k:K):KF:=fun call n e H lo=>
 asL ((kX x).run e) (g.run call n e H lo) none fun xs=>asN ((kX i).run e) none fun _ z=>qwW z fun m=>orN (fnth xs m) fun y=>Bool.rec (motive:=fun _=>R) none (k.run call n ((d,.cp y)::e) H lo) (qTd (szD y) size)
theorem qDv {d:Nat} {x i:O} {size:Nat} {g k:K} (hg:qT g.run (.indexAddr x i size none) (some d) k):qT (qK4 d x i size g k) (.indexAddr x i size none) (some d) k:=by
 intro call n e H lo z h
 unfold qK4 at h
 rcases qug h with h|⟨_,h⟩|⟨xs,hx,h⟩
 ·exact hg h
 ·cases h
 rcases qbP h with h|⟨kk,w,hi,h⟩
 ·cases h
 obtain ⟨m,rfl,h⟩:=qfk h
 obtain ⟨y,hy,h⟩:=zg h
 rw [jI] at hy
 rw [qxh] at h
 cases hb:qTd y.cells.length size with
 | false=>rw [hb] at h;cases h
 | true=>
  rw [hb] at h
  have hx':rd e x=.d (.sl xs):=(kr (by rw [hx];trivial)).trans hx
  have hl:leI 0 (Int.ofNat m)=true:=by show Nat.ble 0 m=true;exact Nat.ble_eq_true_of_le (Nat.zero_le m)
  have ht:(Int.ofNat m).toNat=m:=rfl
  have he:qa call (.indexAddr x i size none) ⟨e,H,lo⟩=some ⟨false,true,.cp y,⟨e,H,lo⟩⟩:=by
   simp only [qa,ke,jc,hx',qrn hi,hl,ht,hy,hb,cond_true,ok]
  rw [he];exact ql rfl h
noncomputable def qJT (d:Nat) (x i:O) (k:K):KF:=fun call n e H lo=>
 asT ((kX x).run e) none fun t=>asN ((kX i).run e) none fun _ z=>qwW z fun m=>orN (fnth t m) fun y=>k.run call n ((d,.d (.i .u8 (.ofNat y)))::e) H lo
theorem qDS {d:Nat} {x i:O} {k:K}:qT (qJT d x i k) (.index x i) (some d) k:=by
 intro call n e H lo z h
 unfold qJT at h
 rcases qq1 h with h|⟨t,hx,h⟩
 ·cases h
 rcases qbP h with h|⟨kk,w,hi,h⟩
 ·cases h
 obtain ⟨m,rfl,h⟩:=qfk h
 obtain ⟨y,hy,h⟩:=zg h
 rw [jI] at hy
 have hx':rd e x=.d (.s t):=(kr (by rw [hx];trivial)).trans hx
 have hl:leI 0 (Int.ofNat m)=true:=by show Nat.ble 0 m=true;exact Nat.ble_eq_true_of_le (Nat.zero_le m)
 have ht:(Int.ofNat m).toNat=m:=rfl
 have he:qa call (.index x i) ⟨e,H,lo⟩=some ⟨false,true,.d (.i .u8 (.ofNat y)),⟨e,H,lo⟩⟩:=by
  simp only [qa,qfx,hx',qrn hi,hl,ht,hy,cond_true,ok];rfl
 rw [he];exact ql rfl h
noncomputable def asU (v:V) (κ:List V->R):R:=OU.rec (motive:=fun _=>R) none κ (vU v)
theorem qG5 {v:V} {κ:List V->R} {x:Ex × St} (h:asU v κ=some x):∃vs,v=.tup vs/\κ vs=some x:=by
 unfold asU at h
 cases hv:vU v with
 | no=>rw [hv] at h;cases h
 | t vs=>rw [hv] at h;exact ⟨vs,qSy hv,h⟩
noncomputable def qOG (d m i:Nat) (k:K):KF:=fun call n e H lo=>
 asU (fget m e) fun vs=>orN (fnth vs i) fun v=>qCH v fun v=>k.run call n ((d,v)::e) H lo
theorem qDz {d m i:Nat} {k:K}:qT (qOG d m i k) (.extract (.t m) i) (some d) k:=by
 intro call n e H lo z h
 unfold qOG at h
 obtain ⟨vs,hv,h⟩:=qG5 h
 obtain ⟨v,hn,h⟩:=zg h
 obtain ⟨hb,h⟩:=qpF h
 rw [qar] at hv
 rw [jI] at hn
 have he:qa call (.extract (.t m) i) ⟨e,H,lo⟩=some ⟨false,true,copy v,⟨e,H,lo⟩⟩:=by
  simp only [qa,jK,hv,hn,ok]
 rw [he];exact ql hb h
noncomputable def qFj (d:Nat) (x:O) (k:K):KF:=fun call n e H lo=>
 asT ((kX x).run e) none fun t=>qq (jS t) fun m=>k.run call n ((d,.d (.i .i64 (.ofNat m)))::e) H lo
theorem qA8 {d:Nat} {x:O} {k:K}:qT (qFj d x k) (.bi .lenS [x]) (some d) k:=by
 intro call n e H lo z h
 unfold qFj at h
 rcases qq1 h with h|⟨t,hx,h⟩
 ·cases h
 rw [qjj,ko] at h
 have hx':rd e x=.d (.s t):=(kr (by rw [hx];trivial)).trans hx
 have he:qa call (.bi .lenS [x]) ⟨e,H,lo⟩=some ⟨false,true,.d (.i .i64 (.ofNat t.length)),⟨e,H,lo⟩⟩:=by
  simp only [qa,eBi,qoT,hx',ok];rfl
 rw [he];exact ql rfl h
noncomputable def qFx (d:Nat) (x:O) (g k:K):KF:=fun call n e H lo=>
 asL ((kX x).run e) (g.run call n e H lo) (k.run call n ((d,.d (.i .i64 (.ofNat 0)))::e) H lo) fun xs=>qq (jS xs) fun m=>k.run call n ((d,.d (.i .i64 (.ofNat m)))::e) H lo
theorem qBz {d:Nat} {x:O} {g k:K} (hg:qT g.run (.bi .lenL [x]) (some d) k):qT (qFx d x g k) (.bi .lenL [x]) (some d) k:=by
 intro call n e H lo z h
 unfold qFx at h
 rcases qug h with h|⟨hx,h⟩|⟨xs,hx,h⟩
 ·exact hg h
 ·have hx':rd e x=.d .nil:=(kr (by rw [hx];trivial)).trans hx
  have he:qa call (.bi .lenL [x]) ⟨e,H,lo⟩=some ⟨false,true,.d (.i .i64 (.ofNat 0)),⟨e,H,lo⟩⟩:=by
   simp only [qa,eBi,qc7,qH3,hx',ok];rfl
  rw [he];exact ql rfl h
 ·rw [qjj,ko] at h
  have hx':rd e x=.d (.sl xs):=(kr (by rw [hx];trivial)).trans hx
  have he:qa call (.bi .lenL [x]) ⟨e,H,lo⟩=some ⟨false,true,.d (.i .i64 (.ofNat xs.length)),⟨e,H,lo⟩⟩:=by
   simp only [qa,eBi,qc7,qH3,hx',ok];rfl
  rw [he];exact ql rfl h
noncomputable def asB (v:V) (a b:R):R:=OB.rec (motive:=fun _=>R) none b a (vB v)
theorem qvv {v:V} {a b:R} {x:Ex × St} (h:asB v a b=some x):(v=.d (.b true)/\a=some x)\/(v=.d (.b false)/\b=some x):=by
 unfold asB at h
 cases hv:vB v with
 | no=>rw [hv] at h;cases h
 | t=>rw [hv] at h;exact .inl ⟨qSU hv,h⟩
 | f=>rw [hv] at h;exact .inr ⟨qSx hv,h⟩
noncomputable def qM9 (d:Nat) (x:O) (k:K):KF:=fun call n e H lo=>
 asB ((kX x).run e) (k.run call n ((d,.d (.b false))::e) H lo) (k.run call n ((d,.d (.b true))::e) H lo)
theorem qEx {d:Nat} {x:O} {k:K}:qT (qM9 d x k) (.un .not x) (some d) k:=by
 intro call n e H lo z h
 unfold qM9 at h
 rcases qvv h with ⟨hx,h⟩|⟨hx,h⟩
 ·have hx':rd e x=.d (.b true):=(kr (by rw [hx];trivial)).trans hx
  rw [show qa call (.un .not x) ⟨e,H,lo⟩=some ⟨false,true,.d (.b false),⟨e,H,lo⟩⟩ by simp only [qa,eUn,hx',unD,ok];rfl]
  exact ql rfl h
 ·have hx':rd e x=.d (.b false):=(kr (by rw [hx];trivial)).trans hx
  rw [show qa call (.un .not x) ⟨e,H,lo⟩=some ⟨false,true,.d (.b true),⟨e,H,lo⟩⟩ by simp only [qa,eUn,hx',unD,ok];rfl]
  exact ql rfl h
noncomputable def qAW (v:V):Bool:=V.rec (motive_1:=fun _=>Bool) (motive_2:=fun _=>Bool) (fun x=>D.rec (motive_1:=fun _=>Bool) (motive_2:=fun _=>Bool) (fun _=>true) (fun _ _=>true) (fun _=>true) true (fun _ _=>true) (fun _ _=>false) true true true true true (fun _ _ _ _=>true) x) (fun _=>true) (fun _=>true) (fun _ _=>true) (fun _ _=>false) (fun _ _=>false) (fun _=>false) (fun _ _ _ _=>true) (fun _ _ _=>true) (fun _=>true) (fun _ _ _ _ _=>false) (fun _ _ _=>false) (fun _ _=>false) (fun _ _=>false) false false (fun _ _ _ _=>false) v
theorem qCi {v:V} (h:qAW v=true):v.cells=[v]/\V.ones [v]=true:=by
 cases v with
 | d x=>cases x<;>first|exact ⟨rfl,rfl⟩|cases h
 | _=>first|exact ⟨rfl,rfl⟩|cases h
noncomputable def qyN (v:V) (cs:List V):Nat->(List V->R)->R:=
 List.rec (motive:=fun _=>Nat->(List V->R)->R) (fun _ _=>none) (fun c t ih off κ=>Nat.rec (motive:=fun _=>R) (κ (v::t)) (fun m _=>ih m fun t'=>κ (c::t')) off) cs
theorem qnN {v:V}:∀{cs:List V} {off:Nat} {κ:List V->R} {x:Ex × St},qyN v cs off κ=some x->∃cs',qP cs off [v]=some cs'/\κ cs'=some x
 | [],off,κ,x,h=>by cases h
 | c::t,0,κ,x,h=>⟨v::t,by simp [qP],h⟩
 | c::t,m+1,κ,x,h=>by
  have h:qyN v t m (fun t'=>κ (c::t'))=some x:=h
  obtain ⟨cs',h1,h2⟩:=qnN h
  refine ⟨c::cs',?_,h2⟩
  simp only [qP,qTk,qTi] at h1 |-
  split at h1
  ·rename_i hl
   cases h1
   rw [if_pos (by omega)]
   simp [Nat.add_right_comm]
  ·cases h1
noncomputable def qoz (o:Obj) (H:List Obj):Nat->(List Obj->R)->R:=
 List.rec (motive:=fun _=>Nat->(List Obj->R)->R) (fun _ _=>none) (fun c t ih off κ=>Nat.rec (motive:=fun _=>R) (κ (o::t)) (fun m _=>ih m fun t'=>κ (c::t')) off) H
theorem qci {o:Obj}:∀{H:List Obj} {id:Nat} {κ:List Obj->R} {x:Ex × St},qoz o H id κ=some x->κ (qK H id o)=some x
 | [],off,κ,x,h=>by cases h
 | c::t,0,κ,x,h=>h
 | c::t,m+1,κ,x,h=>by
  have h:qoz o t m (fun t'=>κ (c::t'))=some x:=h
  exact qci (H:=t) (id:=m) (κ:=fun t'=>κ (c::t')) h
noncomputable def qnQ (a b:Nat) (κ:Nat->R):R:=Bool.rec (motive:=fun _=>R) (κ b) (κ a) (Nat.ble a b)
theorem qhk (a b:Nat) (κ:Nat->R):qnQ a b κ=κ (min a b):=by
 unfold qnQ
 cases h:Nat.ble a b with
 | true=>rw [Nat.min_eq_left (qTq h)]
 | false=>
  have:¬a<=b:=fun hc=>by rw [Nat.ble_eq_true_of_le hc] at h;cases h
  rw [Nat.min_eq_right (by omega)]
noncomputable def qHk (g k:K) (v:V) (id off:Nat) (call:Call) (n:Nat) (e:Env) (H:List Obj) (lo:Nat) (e':Env):R:=
 match fnth H id with
 | some (.row l cs)=>Bool.rec (motive:=fun _=>R) (g.run call n e H lo) (qyN v cs off fun cs=>qoz (.row l cs) H id fun H=>qnQ lo id fun lo=>k.run call n e' H lo) v.ok
 | _=>g.run call n e H lo
noncomputable def qRf (sl:Option Nat) (a x:O) (g k:K):KF:=
 Option.rec (motive:=fun _=>KF)
  (fun call n e H lo=>asP ((kX a).run e) (g.run call n e H lo) (fun id off=>(rdC x).run e fun v=>Bool.rec (motive:=fun _=>R) (g.run call n e H lo) (orZ (qxC (fnth H id)) (qHk g k v id off call n e H lo ((spO x).run e)) fun cs=>qyN v cs off fun cs=>qoz (.cells cs) H id fun H=>qnQ lo id fun lo=>k.run call n ((spO x).run e) H lo) (qAW v)) (fun _ _=>none) (fun _=>none))
  (fun s0 call n e H lo=>asP ((kX a).run e) (g.run call n e H lo) (fun _ _=>none) (fun s off=>(rdC x).run e fun v=>Bool.rec (motive:=fun _=>R) (g.run call n e H lo) (Bool.rec (motive:=fun _=>R) none (orN (qyM (fget s ((spO x).run e))) fun cs=>qyN v cs off fun cs=>k.run call n ((s,.box cs)::(spO x).run e) H lo) (qTd s0 s)) (qAW v)) (fun _=>none)) sl
theorem qEB {sl:Option Nat} {a x:O} {g k:K} (hg:qT g.run (.store sl ⟨1,false⟩ a x) none k):qT (qRf sl a x g k) (.store sl ⟨1,false⟩ a x) none k:=by
 intro call n e H lo z h
 cases sl with
 | none=>
  have h:(asP ((kX a).run e) (g.run call n e H lo) (fun id off=>(rdC x).run e fun v=>Bool.rec (motive:=fun _=>R) (g.run call n e H lo) (orZ (qxC (fnth H id)) (qHk g k v id off call n e H lo ((spO x).run e)) fun cs=>qyN v cs off fun cs=>qoz (.cells cs) H id fun H=>qnQ lo id fun lo=>k.run call n ((spO x).run e) H lo) (qAW v)) (fun _ _=>none) (fun _=>none))=some z:=h
  rcases qfG h with h|⟨id,off,ha,h⟩|⟨_,_,_,h⟩|⟨y,ha,h⟩
  ·exact hg h
  ·rw [qhz] at h
   cases ho:qAW (rd e x) with
   | false=>rw [ho] at h;exact hg h
   | true=>
    rw [ho] at h
    obtain ⟨h1,h2⟩:=qCi ho
    rcases qri (o:=qxC (fnth H id)) h with h|⟨cs,hc,h⟩
    ·unfold qHk at h
     rw [jI] at h
     split at h
     ·rename_i l' cs hob
      cases hok:(rd e x).ok with
      | false=>rw [hok] at h;exact hg h
      | true=>
       rw [hok] at h
       obtain ⟨cs',hs,h⟩:=qnN h
       have h:=qci h
       rw [qhk,qpb] at h
       have ha':rd e a=.ptr id off:=(kr (by rw [ha];trivial)).trans ha
       have he:qa call (.store none ⟨1,false⟩ a x) ⟨e,H,lo⟩=some ⟨false,false,.undef,⟨spent x e,qK H id (.row l' cs'),min lo id⟩⟩:=by
        simp only [qa,qaA,ha',qB,qak,hob,h1,h2,hs,hok,V.ok.oks,qTl,cond_false,okH,qTk,qTi,qTf,decide_true,qTc,if_true]
       rw [he]
       exact ⟨_,rfl,.inl ⟨rfl,_,rfl,h⟩⟩
     ·exact hg h
    obtain ⟨cs',hs,h⟩:=qnN h
    have h:=qci h
    rw [qhk,qpb] at h
    have hc:=qzp hc
    rw [jI] at hc
    have ha':rd e a=.ptr id off:=(kr (by rw [ha];trivial)).trans ha
    have he:qa call (.store none ⟨1,false⟩ a x) ⟨e,H,lo⟩=some ⟨false,false,.undef,⟨spent x e,qK H id (.cells cs'),min lo id⟩⟩:=by
     simp only [qa,qaA,ha',qB,qak,hc,h1,h2,hs,qTl,cond_false,okH,qTk,qTi,qTf,decide_true,qTc,if_true]
    rw [he]
    exact ⟨_,rfl,.inl ⟨rfl,_,rfl,h⟩⟩
  ·cases h
  ·cases h
 | some s0=>
  have h:(asP ((kX a).run e) (g.run call n e H lo) (fun _ _=>none) (fun s off=>(rdC x).run e fun v=>Bool.rec (motive:=fun _=>R) (g.run call n e H lo) (Bool.rec (motive:=fun _=>R) none (orN (qyM (fget s ((spO x).run e))) fun cs=>qyN v cs off fun cs=>k.run call n ((s,.box cs)::(spO x).run e) H lo) (qTd s0 s)) (qAW v)) (fun _=>none))=some z:=h
  rcases qfG h with h|⟨_,_,_,h⟩|⟨s,off,ha,h⟩|⟨_,_,h⟩
  ·exact hg h
  ·cases h
  ·rw [qhz] at h
   cases ho:qAW (rd e x) with
   | false=>rw [ho] at h;exact hg h
   | true=>
    rw [ho] at h
    obtain ⟨h1,h2⟩:=qCi ho
    have h:Bool.rec (motive:=fun _=>R) none (orN (qyM (fget s ((spO x).run e))) fun cs=>qyN (rd e x) cs off fun cs=>k.run call n ((s,.box cs)::(spO x).run e) H lo) (qTd s0 s)=some z:=h
    cases hb:qTd s0 s with
    | false=>rw [hb] at h;cases h
    | true=>
     rw [hb] at h
     obtain ⟨cs,hc,h⟩:=zg (o:=qyM (fget s ((spO x).run e))) h
     obtain ⟨cs',hs,h⟩:=qnN h
     have hc:=qwf hc
     rw [qar,qpb] at hc
     rw [qpb] at h
     have ha':rd e a=.lp s off:=(kr (by rw [ha];trivial)).trans ha
     have he:qa call (.store (some s0) ⟨1,false⟩ a x) ⟨e,H,lo⟩=some ⟨false,true,.undef,⟨(s,.box cs')::spent x e,H,lo⟩⟩:=by
      simp only [qa,qaA,ha',qB,qak,hb,hc,h1,h2,hs,qTl,cond_false,ok,qTk,qTi,qTf,decide_true,qTc,if_true]
     rw [he]
     exact ⟨_,rfl,.inl ⟨rfl,_,rfl,h⟩⟩
  ·cases h
noncomputable def qHB {α:Type} (o:α) (l:List α):(List α->R)->R:=List.rec (motive:=fun _=>(List α->R)->R) (fun κ=>κ [o]) (fun x _ ih κ=>ih fun r=>κ (x::r)) l
theorem qyU {α:Type} (o:α) (l:List α) (κ:List α->R):qHB o l κ=κ (l++[o]):=by
 induction l generalizing κ with
 | nil=>rfl
 | cons x l ih=>exact ih _
noncomputable def qOL (d:Nat) (zero:List D) (k:K):KF:=fun call n e H lo=>
 js (fun v κ=>κ v) (zero.map V.d) fun cs=>qq (jS H) fun m=>qHB (.cells cs) H fun H=>k.run call n ((d,.ptr m 0)::e) H lo
theorem qDW {d:Nat} {zero:List D} {k:K}:qT (qOL d zero k) (.alloc false zero) (some d) k:=by
 intro call n e H lo z h
 unfold qOL at h
 rw [kv (fun v κ=>rfl),qjj,ko,qyU] at h
 exact ql (same:=false) rfl h
noncomputable def qN6 (d:Nat) (k:K):KF:=fun call n e H lo=>qq (jS H) fun m=>qHB (.map []) H fun H=>k.run call n ((d,.map m)::e) H lo
theorem qEK {d:Nat} {k:K}:qT (qN6 d k) .mkMap (some d) k:=by
 intro call n e H lo z h
 unfold qN6 at h
 rw [qjj,ko,qyU] at h
 exact ql (same:=false) rfl h
noncomputable def qHE (a:List Nat):List Nat->Bool:=List.rec (motive:=fun _=>List Nat->Bool) (fun b=>List.rec (motive:=fun _=>Bool) true (fun _ _ _=>false) b) (fun x _ ih b=>List.rec (motive:=fun _=>Bool) false (fun y t _=>Bool.rec (motive:=fun _=>Bool) false (ih t) (qTd x y)) b) a
theorem qCA:∀a b:List Nat,qHE a b=eqT a b
 | [],[]=>rfl
 | [],_::_=>rfl
 | _::_,[]=>rfl
 | x::a,y::b=>by
  show Bool.rec (motive:=fun _=>Bool) false (qHE a b) (qTd x y)=(qTd x y && eqT a b)
  rw [qCA a b]
  cases qTd x y<;>rfl
noncomputable def qAr (x w:D):Option Bool:=D.rec (motive_1:=fun _=>Option Bool) (motive_2:=fun _=>Option Bool) (fun y=>D.same (.b y) w) (fun k n=>D.same (.i k n) w) (fun t=>OT.rec (motive:=fun _=>Option Bool) (D.same (.s t) w) (fun u=>some (qHE t u)) (vT (.d w))) none (fun _ _=>none) (fun _ _=>none) none none none none none (fun _ _ _ _=>none) x
theorem qyK (x w:D):qAr x w=D.same x w:=by
 cases x with
 | s t=>
  show OT.rec (motive:=fun _=>Option Bool) (D.same (.s t) w) (fun u=>some (qHE t u)) (vT (.d w))=_
  cases h:vT (.d w) with
  | no=>rfl
  | s u=>
   have:=qPT h
   cases this
   show some (qHE t u)=some (eqT t u)
   rw [qCA]
 | b z=>rfl
 | i k n=>rfl
 | _=>cases w<;>rfl
noncomputable def qHC (k:D) (es:List (D × V)):Option (Option V):=List.rec (motive:=fun _=>Option (Option V)) (some none) (fun p _ ih=>Option.rec (motive:=fun _=>Option (Option V)) none (fun b=>Bool.rec (motive:=fun _=>Option (Option V)) ih (some (some p.2)) b) (qAr k p.1)) es
theorem qFG (k:D) (es:List (D × V)):qHC k es=qcA k es:=by
 induction es with
 | nil=>rfl
 | cons p es ih=>
  obtain ⟨k',v⟩:=p
  show Option.rec (motive:=fun _=>Option (Option V)) none (fun b=>Bool.rec (motive:=fun _=>Option (Option V)) (qHC k es) (some (some v)) b) (qAr k k')=qcA k ((k',v)::es)
  rw [qyK,ih]
  simp only [qcA]
  cases D.same k k' with
  | none=>rfl
  | some b=>cases b<;>rfl
noncomputable def qHD (k:D) (v:V) (es:List (D × V)):(List (D × V)->R)->R:=List.rec (motive:=fun _=>(List (D × V)->R)->R) (fun κ=>κ [(k,v)]) (fun p t ih κ=>Option.rec (motive:=fun _=>R) none (fun b=>Bool.rec (motive:=fun _=>R) (ih fun r=>κ (p::r)) (κ ((p.1,v)::t)) b) (qAr k p.1)) es
theorem quV {k:D} {v:V}:∀{es:List (D × V)} {κ:List (D × V)->R} {x:Ex × St},qHD k v es κ=some x->∃es',qlW k v es=some es'/\κ es'=some x
 | [],κ,x,h=>⟨_,rfl,h⟩
 | (k',w)::es,κ,x,h=>by
  have h:Option.rec (motive:=fun _=>R) none (fun b=>Bool.rec (motive:=fun _=>R) (qHD k v es fun r=>κ ((k',w)::r)) (κ ((k',v)::es)) b) (qAr k k')=some x:=h
  rw [qyK] at h
  cases hs:D.same k k' with
  | none=>rw [hs] at h;cases h
  | some b=>
   rw [hs] at h
   cases b with
   | true=>exact ⟨_,by simp only [qlW,hs],h⟩
   | false=>
    obtain ⟨es',h1,h2⟩:=quV (es:=es) h
    exact ⟨_,by simp only [qlW,hs,h1],h2⟩
noncomputable def vD (v:V):Option D:=V.rec (motive_1:=fun _=>Option D) (motive_2:=fun _=>Option D) (fun x=>some x) (fun _=>none) (fun _=>none) (fun _ _=>none) (fun _ _=>none) (fun _ _=>none) (fun _=>none) (fun _ _ _ _=>none) (fun _ _ _=>none) (fun _=>none) (fun _ _ _ _ _=>none) (fun _ _ _=>none) (fun _ _=>none) (fun _ _=>none) none none (fun _ _ _ _=>none) v
theorem qxk {v:V} {x:D} (h:vD v=some x):v=.d x:=by
 cases v with
 | d y=>have h:some y=some x:=h;cases h;rfl
 | _=>cases h
noncomputable def qKN (v:V):Option Nat:=V.rec (motive_1:=fun _=>Option Nat) (motive_2:=fun _=>Option Nat) (fun _=>none) (fun _=>none) (fun _=>none) (fun _ _=>none) (fun _ _=>none) (fun _ _=>none) (fun _=>none) (fun _ _ _ _=>none) (fun _ _ _=>none) (fun a=>some a) (fun _ _ _ _ _=>none) (fun _ _ _=>none) (fun _ _=>none) (fun _ _=>none) none none (fun _ _ _ _=>none) v
theorem qwN {v:V} {m:Nat} (h:qKN v=some m):v=.map m:=by
 cases v with
 | map y=>have h:some y=some m:=h;cases h;rfl
 | _=>cases h
noncomputable def qMC (o:Option Obj):Option (List (D × V)):=Option.rec (motive:=fun _=>Option (List (D × V))) none (fun ob=>Obj.rec (motive:=fun _=>Option (List (D × V))) (fun _=>none) (fun es=>some es) (fun _ _=>none) none (fun _=>none) ob) o
theorem qwg {o:Option Obj} {es:List (D × V)} (h:qMC o=some es):o=some (.map es):=by
 cases o with
 | none=>cases h
 | some ob=>cases ob with
  | map c=>have h:some c=some es:=h;cases h;rfl
  | _=>cases h
noncomputable def qaw (b:Bool) (κ:R):R:=Bool.rec (motive:=fun _=>R) none κ b
theorem qY {b:Bool} {κ:R} {x:Ex × St} (h:qaw b κ=some x):b=true/\κ=some x:=by
 cases b with
 | false=>cases h
 | true=>exact ⟨rfl,h⟩
noncomputable def qFn (d:Nat) (kk:Nat) (zero:D) (m q:O) (c:Bool) (g k:K):KF:=fun call n e H lo=>
 orZ (qKN ((kX m).run e)) (g.run call n e H lo) fun id=>orN (vD ((kX q).run e)) fun key=>orN (qMC (fnth H id)) fun es=>qaw (zN kk key) (orN (qHC key es) fun r=>
  Option.rec (motive:=fun _=>R) (Bool.rec (motive:=fun _=>R) (k.run call n ((d,.d zero)::e) H lo) (k.run call n ((d,.tup [.d zero,.d (.b false)])::e) H lo) c) (fun v=>Bool.rec (motive:=fun _=>R) (qCH v fun v=>k.run call n ((d,v)::e) H lo) (qCH v fun v=>k.run call n ((d,.tup [v,.d (.b true)])::e) H lo) c) r)
theorem qBX {d kk:Nat} {zero:D} {m q:O} {c:Bool} {g k:K} (hg:qT g.run (.lookup kk zero m q c) (some d) k):qT (qFn d kk zero m q c g k) (.lookup kk zero m q c) (some d) k:=by
 intro call n e H lo z h
 unfold qFn at h
 rcases qri h with h|⟨id,hm,h⟩
 ·exact hg h
 obtain ⟨key,hq,h⟩:=zg h
 obtain ⟨es,hs,h⟩:=zg h
 obtain ⟨hgk,h⟩:=qY h
 obtain ⟨r,hf,h⟩:=zg h
 have hm:=qwN hm
 have hq:=qxk hq
 have hs:=qwg hs
 rw [jI] at hs
 rw [qFG] at hf
 have hm':rd e m=.map id:=(kr (by rw [hm];trivial)).trans hm
 have hq':rd e q=.d key:=(kr (by rw [hq];trivial)).trans hq
 cases r with
 | none=>
  have he:qa call (.lookup kk zero m q c) ⟨e,H,lo⟩=some ⟨false,true,bif c then .tup [.d zero,.d (.b false)] else .d zero,⟨e,H,lo⟩⟩:=by
   simp only [qa,z8,hm',hq',hs,hgk,hf,ok,if_true]
  rw [he]
  cases c<;>exact ql rfl h
 | some v=>
  have he:qa call (.lookup kk zero m q c) ⟨e,H,lo⟩=some ⟨false,true,bif c then .tup [copy v,.d (.b true)] else copy v,⟨e,H,lo⟩⟩:=by
   simp only [qa,z8,hm',hq',hs,hgk,hf,ok,if_true]
  rw [he]
  cases c with
  | false=>
   obtain ⟨hb,h⟩:=qpF (v:=v) h
   exact ql hb h
  | true=>
   obtain ⟨hb,h⟩:=qpF (v:=v) h
   exact ql rfl h
noncomputable def okF (v:V):Bool:=V.rec (motive_1:=fun _=>Bool) (motive_2:=fun _=>Bool) (fun _=>true) (fun _=>false) (fun _=>true) (fun _ _=>true) (fun _ _=>false) (fun _ _=>false) (fun _=>false) (fun _ _ _ _=>true) (fun _ _ _=>true) (fun _=>true) (fun f a b _ _=>V.ok (.fn f a b)) (fun t x _=>V.ok (.ifc t x)) (fun cs _=>V.ok (.agg cs)) (fun vs _=>V.ok (.tup vs)) true false (fun _ _ _ _=>false) v
theorem qPF (v:V):okF v=v.ok:=by cases v<;>rfl
noncomputable def qNk (kk:Nat) (m q x:O) (k:K):KF:=fun call n e H lo=>
 orN (qKN ((kX m).run e)) fun id=>orN (vD ((kX q).run e)) fun key=>orN (qMC (fnth H id)) fun es=>(rdC x).run e fun v=>qaw (zN kk key) (qaw (okF v) (qHD key v es fun es=>qoz (.map es) H id fun H=>qnQ lo id fun lo=>k.run call n ((spO x).run e) H lo))
theorem qEi {kk:Nat} {m q x:O} {k:K}:qT (qNk kk m q x k) (.mapUpdate kk m q x) none k:=by
 intro call n e H lo z h
 unfold qNk at h
 obtain ⟨id,hm,h⟩:=zg h
 obtain ⟨key,hq,h⟩:=zg h
 obtain ⟨es,hs,h⟩:=zg h
 rw [qhz] at h
 obtain ⟨hgk,h⟩:=qY h
 obtain ⟨hok,h⟩:=qY h
 obtain ⟨es',hp,h⟩:=quV h
 have h:=qci h
 rw [qhk,qpb] at h
 have hm:=qwN hm
 have hq:=qxk hq
 have hs:=qwg hs
 rw [jI] at hs
 rw [qPF] at hok
 have hm':rd e m=.map id:=(kr (by rw [hm];trivial)).trans hm
 have hq':rd e q=.d key:=(kr (by rw [hq];trivial)).trans hq
 have he:qa call (.mapUpdate kk m q x) ⟨e,H,lo⟩=some ⟨false,false,.undef,⟨spent x e,qK H id (.map es'),min lo id⟩⟩:=by
  simp only [qa,zZ,hm',hq',hs,hgk,hok,hp,okH,if_true,qTc]
 rw [he]
 exact ⟨_,rfl,.inl ⟨rfl,_,rfl,h⟩⟩
noncomputable def hdF (size:Nat) (l:List D):Bool:=List.rec (motive:=fun _=>Bool) true (fun x _ _=>qTd (szD x) size) l
theorem qBY (size:Nat) (l:List D):hdF size l=qN size l:=by
 cases l with
 | nil=>rfl
 | cons x l=>show qTd (szD x) size=qTd x.cells.length size;rw [qxh]
noncomputable def quB (bytes n:Nat):Bool:=Bool.rec (motive:=fun _=>Bool) false (Nat.ble n 140737488355328) (Nat.ble (Nat.mul n bytes) 140737488355328)
theorem qtO (bytes n:Nat):quB bytes n=roomy bytes n:=by
 show Bool.rec (motive:=fun _=>Bool) false (Nat.ble n 140737488355328) (Nat.ble (n * bytes) 140737488355328)=(Nat.ble (n * bytes) 140737488355328 && Nat.ble n 140737488355328)
 cases Nat.ble (n * bytes) 140737488355328<;>rfl
noncomputable def qGj {α:Type} (ys:List α) (l:List α):(List α->R)->R:=List.rec (motive:=fun _=>(List α->R)->R) (fun κ=>κ ys) (fun x _ ih κ=>ih fun r=>κ (x::r)) l
theorem qCf {α:Type} (ys l:List α) (κ:List α->R):qGj ys l κ=κ (l++ys):=by
 induction l generalizing κ with
 | nil=>rfl
 | cons x l ih=>exact ih _
inductive OA where
 | no|nil
 | osl (xs:List D)
 | fsl (xs:List D)
noncomputable def vA (v:V):OA:=V.rec (motive_1:=fun _=>OA) (motive_2:=fun _=>OA) (fun x=>D.rec (motive_1:=fun _=>OA) (motive_2:=fun _=>OA) (fun _=>.no) (fun _ _=>.no) (fun _=>.no) .nil (fun _ _=>.no) (fun _ _=>.no) .no .no .no .no .no (fun _ _ _ _=>.no) x) (fun xs=>.osl xs) (fun xs=>.fsl xs) (fun _ _=>.no) (fun _ _=>.no) (fun _ _=>.no) (fun _=>.no) (fun _ _ _ _=>.no) (fun _ _ _=>.no) (fun _=>.no) (fun _ _ _ _ _=>.no) (fun _ _ _=>.no) (fun _ _=>.no) (fun _ _=>.no) .no .no (fun _ _ _ _=>.no) v
theorem qLd {v:V} (h:vA v=.nil):v=.d .nil:=by
 cases v with
 | d x=>cases x with
  | nil=>rfl
  | _=>cases h
 | _=>cases h
theorem qLI {v:V} {xs:List D} (h:vA v=.osl xs):v=.osl xs:=by
 cases v with
 | osl ys=>have h:OA.osl ys=.osl xs:=h;cases h;rfl
 | d x=>cases x<;>cases h
 | _=>cases h
theorem qNP {v:V} {xs:List D} (h:vA v=.fsl xs):v=.fsl xs:=by
 cases v with
 | fsl ys=>have h:OA.fsl ys=.fsl xs:=h;cases h;rfl
 | d x=>cases x<;>cases h
 | _=>cases h
noncomputable def qSc {α:Type} (l:List α):Bool:=List.rec (motive:=fun _=>Bool) false (fun _ _ _=>true) l
noncomputable def qLU (d size bytes:Nat) (x y:O) (g k:K):KF:=fun call n e H lo=>
 (rdC x).run e fun a=>(rdC y).run e fun b=>asL b (g.run call n e H lo) (g.run call n e H lo) fun ys=>
  OA.rec (motive:=fun _=>R) (g.run call n e H lo)
   (Bool.rec (motive:=fun _=>R) (g.run call n e H lo) (qaw (hdF size ys) (qaw (quB bytes (jS ys)) (k.run call n ((d,.osl ys)::(spO x).run e) H lo))) (qSc ys))
   (fun xs=>qaw (hdF size xs) (qaw (hdF size ys) (qaw (quB bytes (Nat.add (jS xs) (jS ys))) (qGj ys xs fun zs=>k.run call n ((d,.osl zs)::(spO x).run e) H lo))))
   (fun xs=>qaw (hdF size xs) (qaw (hdF size ys) (qaw (quB bytes (Nat.add (jS xs) (jS ys))) (qGj ys xs fun zs=>k.run call n ((d,.osl zs)::(spO x).run e) H lo)))) (vA a)
theorem qDo {d size bytes:Nat} {x y:O} {g k:K} (hg:qT g.run (.bi (.append size bytes) [x,y]) (some d) k):qT (qLU d size bytes x y g k) (.bi (.append size bytes) [x,y]) (some d) k:=by
 intro call n e H lo z h
 unfold qLU at h
 rw [qhz,qhz] at h
 rcases qug h with h|⟨_,h⟩|⟨ys,hy,h⟩
 ·exact hg h
 ·exact hg h
 have done:∀{v:V},v.isBox=false->jf size bytes (rd e x) (rd e y)=some v->k.run call n ((d,v)::(spO x).run e) H lo=some z->qwn (qa call (.bi (.append size bytes) [x,y]) ⟨e,H,lo⟩) (some d) k call n z:=by
  intro v hb hv hk
  have he:qa call (.bi (.append size bytes) [x,y]) ⟨e,H,lo⟩=some ⟨false,true,v,⟨spent x e,H,lo⟩⟩:=by
   simp only [qa,eBi,j9,hv,ok]
  rw [he]
  rw [qpb] at hk
  exact ql hb hk
 cases ha:vA (rd e x) with
 | no=>rw [ha] at h;exact hg h
 | nil=>
  rw [ha] at h
  cases ys with
  | nil=>exact hg h
  | cons y0 ys=>
   obtain ⟨h1,h⟩:=qY (κ:=qaw (quB bytes (jS (y0::ys))) (k.run call n ((d,.osl (y0::ys))::(spO x).run e) H lo)) h
   obtain ⟨h2,h⟩:=qY h
   rw [qBY] at h1
   rw [qtO,ko] at h2
   exact done rfl (by rw [qLd ha,hy];simp only [jf,h1,h2,qTc,cond_true]) h
 | osl xs=>
  rw [ha] at h
  obtain ⟨h1,h⟩:=qY (b:=hdF size xs) (κ:=qaw (hdF size ys) (qaw (quB bytes (Nat.add (jS xs) (jS ys))) (qGj ys xs fun zs=>k.run call n ((d,.osl zs)::(spO x).run e) H lo))) h
  obtain ⟨h2,h⟩:=qY h
  obtain ⟨h3,h⟩:=qY h
  rw [qBY] at h1 h2
  rw [qtO,ko,ko] at h3
  have h3:roomy bytes (xs.length+ys.length)=true:=h3
  rw [qCf] at h
  exact done rfl (by rw [qLI ha,hy];simp only [jf,h1,h2,h3,qTc,cond_true]) h
 | fsl xs=>
  rw [ha] at h
  obtain ⟨h1,h⟩:=qY (b:=hdF size xs) (κ:=qaw (hdF size ys) (qaw (quB bytes (Nat.add (jS xs) (jS ys))) (qGj ys xs fun zs=>k.run call n ((d,.osl zs)::(spO x).run e) H lo))) h
  obtain ⟨h2,h⟩:=qY h
  obtain ⟨h3,h⟩:=qY h
  rw [qBY] at h1 h2
  rw [qtO,ko,ko] at h3
  have h3:roomy bytes (xs.length+ys.length)=true:=h3
  rw [qCf] at h
  exact done rfl (by rw [qNP ha,hy];simp only [jf,h1,h2,h3,qTc,cond_true]) h
noncomputable def qiK (l:List D):Bool:=List.rec (motive:=fun _=>Bool) true (fun x _ ih=>D.rec (motive_1:=fun _=>Bool) (motive_2:=fun _=>Bool) (fun _=>ih) (fun _ _=>ih) (fun _=>ih) ih (fun _ _=>ih) (fun _ _=>false) ih ih ih ih ih (fun _ _ _ _=>ih) x) l
theorem qGb (l:List D):qiK l=D.ones l:=by
 induction l with
 | nil=>rfl
 | cons x l ih=>
  show (D.rec (motive_1:=fun _=>Bool) (motive_2:=fun _=>Bool) (fun _=>qiK l) (fun _ _=>qiK l) (fun _=>qiK l) (qiK l) (fun _ _=>qiK l) (fun _ _=>false) (qiK l) (qiK l) (qiK l) (qiK l) (qiK l) (fun _ _ _ _=>qiK l) x)=(x.one && D.ones l)
  rw [ih]
  cases x<;>rfl
noncomputable def wfF (x:D):Bool:=D.rec (motive_1:=fun _=>Bool) (motive_2:=fun _=>Bool) (fun _=>true) (fun _ _=>true) (fun _=>true) true (fun _ _=>true) (fun cs _=>qiK cs) true true true true true (fun _ _ _ _=>true) x
theorem qJ5 (x:D):wfF x=x.wf:=by
 cases x with
 | agg cs=>exact qGb cs
 | _=>rfl
noncomputable def qKQ (d:Nat) (zero:D) (x:O) (g k:K):KF:=fun call n e H lo=>
 (rdC x).run e fun v=>orZ (vD v) (g.run call n e H lo) fun y=>qaw (qTd (szD y) (szD zero)) (qaw (wfF y) (k.run call n ((d,.osl [y])::e) H lo))
theorem qD2 {d:Nat} {zero:D} {x:O} {g k:K} (hg:qT g.run (.buildSlice zero 1 [(0,x)]) (some d) k):qT (qKQ d zero x g k) (.buildSlice zero 1 [(0,x)]) (some d) k:=by
 intro call n e H lo z h
 unfold qKQ at h
 rw [qhz] at h
 rcases qri h with h|⟨y,hv,h⟩
 ·exact hg h
 obtain ⟨h1,h⟩:=qY h
 obtain ⟨h2,h⟩:=qY h
 have hv:=qxk hv
 rw [qxh,qxh] at h1
 have h1:=qS9 h1
 rw [qJ5] at h2
 have he:qa call (.buildSlice zero 1 [(0,x)]) ⟨e,H,lo⟩=some ⟨false,true,.osl [y],⟨e,H,lo⟩⟩:=by
  simp [qa,kh,hv,qdZ,h1,D.wfs,h2,ok,List.replicate]
 rw [he];exact ql rfl h
noncomputable def lvF (v:V):Bool:=V.rec (motive_1:=fun _=>Bool) (motive_2:=fun _=>Bool) (fun _=>true) (fun _=>true) (fun _=>true) (fun _ _=>true) (fun _ _=>false) (fun _ _=>false) (fun _=>false) (fun _ _ _ _=>true) (fun _ _ _=>true) (fun _=>true) (fun f a b _ _=>V.ok (.fn f a b)) (fun t x _=>V.ok (.ifc t x)) (fun cs _=>V.ok (.agg cs)) (fun vs _=>V.ok (.tup vs)) true false (fun _ _ _ _=>false) v
theorem qHc (v:V):lvF v=v.leaves:=by cases v<;>rfl
noncomputable def lvs (l:List V):Bool:=List.rec (motive:=fun _=>Bool) true (fun v _ ih=>Bool.rec (motive:=fun _=>Bool) false ih (lvF v)) l
theorem qBL (l:List V):lvs l=V.allLeave l:=by
 induction l with
 | nil=>rfl
 | cons v l ih=>
  show Bool.rec (motive:=fun _=>Bool) false (lvs l) (lvF v)=(v.leaves && V.allLeave l)
  rw [ih,qHc]
  cases v.leaves<;>rfl
noncomputable def qJO (dst:Option Nat) (v:V) (k:K):KF:=fun call n e H lo=>
 Option.rec (motive:=fun _=>R) (k.run call n e H lo) (fun d=>qmv v (qh0 (some d) v k call n e H lo) fun v=>k.run call n ((d,v)::e) H lo) dst
theorem qBC {dst:Option Nat} {v:V} {same:Bool} {k:K} {call:Call} {n:Nat} {e:Env} {H:List Obj} {lo:Nat} {x:Ex × St} (h:qJO dst v k call n e H lo=some x):qwn (some ⟨false,same,v,⟨e,H,lo⟩⟩) dst k call n x:=by
 cases dst with
 | none=>exact ⟨_,rfl,.inl ⟨rfl,_,rfl,h⟩⟩
 | some d=>
  have h:qmv v (qh0 (some d) v k call n e H lo) (fun v=>k.run call n ((d,v)::e) H lo)=some x:=h
  rcases qmm h with h|⟨hb,h⟩
  ·exact qjQ h
  ·exact ql hb h
noncomputable def qGg (dst:Option Nat) (i:Nat) (args:List O) (k:K):KF:=fun call n e H lo=>
 (qFJ args).run e fun vs=>qaw (lvs vs) (orN (call i vs H) fun r=>Cr.rec (motive:=fun _=>R) (fun pan same v H' lo'=>qnQ lo lo' fun lo=>Bool.rec (motive:=fun _=>R) (qJO dst v k call n ((spL args).run e) H' lo) (some (.pan v,⟨(spL args).run e,H',lo⟩)) pan) r)
theorem qsd {dst:Option Nat} {i:Nat} {args:List O} {k:K}:qT (qGg dst i args k) (.call (.f i) args) dst k:=by
 intro call n e H lo z h
 unfold qGg at h
 rw [qyl] at h
 obtain ⟨h1,h⟩:=qY h
 obtain ⟨r,hr,h⟩:=zg h
 rw [qBL] at h1
 obtain ⟨pan,same,v,H',lo'⟩:=r
 have h:(qnQ lo lo' fun lo=>Bool.rec (motive:=fun _=>R) (qJO dst v k call n ((spL args).run e) H' lo) (some (.pan v,⟨(spL args).run e,H',lo⟩)) pan)=some z:=h
 rw [qhk,qB9] at h
 have he:qa call (.call (.f i) args) ⟨e,H,lo⟩=some ⟨pan,same,v,⟨spentAll args e,H',min lo lo'⟩⟩:=by
  simp only [qa,jJ,rd,qTr,List.append_nil,h1,if_true,hr]
 rw [he]
 cases pan with
 | false=>exact qBC h
 | true=>
  have h:some (Ex.pan v,(⟨spentAll args e,H',min lo lo'⟩:St))=some z:=h
  cases h
  exact ⟨_,rfl,.inr ⟨rfl,rfl⟩⟩
noncomputable def qzW {β γ:Type} (l m:List β) (κ:List β->γ):γ:=List.rec (motive:=fun _=>(List β->γ)->γ) (fun κ=>κ m) (fun x _ ih κ=>ih fun t=>κ (x::t)) l κ
theorem qtx {β γ:Type} (l m:List β) (κ:List β->γ):qzW l m κ=κ (l++m):=by
 induction l generalizing κ with
 | nil=>rfl
 | cons x l ih=>exact ih fun t=>κ (x::t)
noncomputable def qFA (d:Nat) (l:L) (bytes:Nat) (x y:O) (g k:K):KF:=fun call n e H lo=>
 match frd e x with
 | .row id sz len=>match fnth H id with
  | some (.row l' cs)=>match qxr l (frd e y) with
   | some ys=>Bool.rec (motive:=fun _=>R) none (js (fun v k=>yf v k) (qbl ys) fun new=>qzW cs new fun cs=>qoz .dead H id fun H2=>qzW H2 [.row l' cs] fun H3=>qq (jS H) fun m=>qq (Nat.add len (jS ys)) fun len2=>qnQ lo id fun lo=>k.run call n ((d,.row m sz len2)::e) H3 lo)
     (qTd sz l.n && (qTd (jS cs) (len * sz) && (qN l.n ys && roomy bytes (len+jS ys))))
   | none=>none
  | _=>g.run call n e H lo
 | _=>g.run call n e H lo
theorem qBO {d:Nat} {l:L} {bytes:Nat} {x y:O} {g k:K} (hg:qT g.run (.appendR l bytes x y) (some d) k):qT (qFA d l bytes x y g k) (.appendR l bytes x y) (some d) k:=by
 intro call n e H lo z h
 unfold qFA at h
 rw [qaC] at h
 split at h
 ·rename_i id sz len hx
  rw [jI] at h
  split at h
  ·rename_i l' cs hob
   rw [qaC] at h
   split at h
   ·rename_i ys hys
    rw [ko cs,ko ys,ko H] at h
    cases hb:(qTd sz l.n && (qTd cs.length (len * sz) && (qN l.n ys && roomy bytes (len+ys.length)))) with
    | false=>rw [hb] at h;cases h
    | true=>
     rw [hb] at h
     have h:(js (fun v k=>yf v k) (qbl ys) fun new=>qzW cs new fun cs=>qoz .dead H id fun H2=>qzW H2 [.row l' cs] fun H3=>qq H.length fun m=>qq (Nat.add len ys.length) fun len2=>qnQ lo id fun lo=>k.run call n ((d,.row m sz len2)::e) H3 lo)=some z:=h
     rw [kv z5,qtx] at h
     have h:=qci h
     rw [qtx,qW,qW,qhk] at h
     have he:qa call (.appendR l bytes x y) ⟨e,H,lo⟩=some ⟨false,false,.row H.length sz (len+ys.length),⟨e,qK H id .dead++[.row l' (cs++qbl ys)],min lo id⟩⟩:=by
      simp only [qa,qah,hys,hx,hob,hb,cond_true]
      rfl
     rw [he]
     exact ql rfl h
   ·cases h
  ·exact hg h
 ·exact hg h
noncomputable def fTk {β γ:Type} (l:List β):Nat->(List β->γ)->γ:=List.rec (motive:=fun _=>Nat->(List β->γ)->γ) (fun _ κ=>κ []) (fun x _ ih n κ=>Nat.rec (motive:=fun _=>γ) (κ []) (fun m _=>ih m fun t=>κ (x::t)) n) l
theorem qBm {β γ:Type}:∀(l:List β) (n:Nat) (κ:List β->γ),fTk l n κ=κ (l.take n)
 | [],n,κ=>by simp [fTk]
 | x::l,0,κ=>rfl
 | x::l,n+1,κ=>by
  show fTk l n (fun t=>κ (x::t))=_
  rw [qBm];rfl
theorem qGO {a b:Int} (h:leI a b=true):a<=b:=by
 cases a<;>cases b<;>simp only [leI] at h
 ·have:=qTq h
  simp only [Int.ofNat_eq_natCast];omega
 ·cases h
 ·simp only [Int.ofNat_eq_natCast,Int.negSucc_eq];omega
 ·have:=qTq h
  simp only [Int.negSucc_eq];omega
noncomputable def qLg (d:Nat) (x hi:O) (g k:K):KF:=fun call n e H lo=>
 match frd e x,frd e hi with
 | .row id sz len,.d (.i _ h)=>match fnth H id with
  | some (.row l cs)=>Bool.rec (motive:=fun _=>R) none (fTk cs (h.toNat * sz) fun cs=>qoz .dead H id fun H2=>qzW H2 [.row l cs] fun H3=>qq (jS H) fun m=>qq h.toNat fun hn=>qnQ lo id fun lo=>k.run call n ((d,.row m sz hn)::e) H3 lo)
    (leI 0 h && (leI h len && qTd (jS cs) (len * sz)))
  | _=>g.run call n e H lo
 | _,_=>g.run call n e H lo
theorem qDL {d:Nat} {x hi:O} {g k:K} (hg:qT g.run (.truncR x hi) (some d) k):qT (qLg d x hi g k) (.truncR x hi) (some d) k:=by
 intro call n e H lo z h
 unfold qLg at h
 rw [qaC,qaC] at h
 split at h
 ·rename_i id sz len kk hh hx hhi
  rw [jI] at h
  split at h
  ·rename_i l cs hob
   rw [ko cs,ko H] at h
   cases hb:(leI 0 hh && (leI hh len && qTd cs.length (len * sz))) with
   | false=>rw [hb] at h;cases h
   | true=>
    rw [hb] at h
    have h:(fTk cs (hh.toNat * sz) fun cs=>qoz .dead H id fun H2=>qzW H2 [.row l cs] fun H3=>qq H.length fun m=>qq hh.toNat fun hn=>qnQ lo id fun lo=>k.run call n ((d,.row m sz hn)::e) H3 lo)=some z:=h
    rw [qBm] at h
    have h:=qci h
    rw [qtx,qW,qW,qhk] at h
    simp only [qS6] at hb
    have hc:0<=hh/\hh<=(len:Int)/\cs.length=len * sz:=⟨qGO hb.1,qGO hb.2.1,qS9 hb.2.2⟩
    have he:qa call (.truncR x hi) ⟨e,H,lo⟩=some ⟨false,false,.row H.length sz hh.toNat,⟨e,qK H id .dead++[.row l (cs.take (hh.toNat * sz))],min lo id⟩⟩:=by
     simp only [qa,qcw,hx,hhi,hob,hc,and_self,if_true]
     rfl
    rw [he]
    exact ql rfl h
  ·exact hg h
 ·exact hg h
noncomputable def fDr {β γ:Type} (l:List β):Nat->(List β->γ)->γ:=List.rec (motive:=fun _=>Nat->(List β->γ)->γ) (fun _ κ=>κ []) (fun x r ih n κ=>Nat.rec (motive:=fun _=>γ) (κ (x::r)) (fun m _=>ih m κ) n) l
theorem qGW {β γ:Type}:∀(l:List β) (n:Nat) (κ:List β->γ),fDr l n κ=κ (l.drop n)
 | [],n,κ=>by simp [fDr]
 | x::l,0,κ=>rfl
 | x::l,n+1,κ=>by
  show fDr l n κ=_
  rw [qGW];rfl
noncomputable def fDc {β γ:Type} (l:List β) (n:Nat) (κ:List β->γ):γ:=fDr (qy6 l (Nat.div n 16)) (Nat.mod n 16) κ
theorem qGw {β γ:Type} (l:List β) (n:Nat) (κ:List β->γ):fDc l n κ=κ (l.drop n):=by
 unfold fDc
 rw [qGW,qvA,List.drop_drop]
 congr 2
 have e:Nat.div n 16=n / 16:=rfl
 have e2:Nat.mod n 16=n % 16:=rfl
 rw [e,e2];omega
noncomputable def qLS (d:Nat) (x a:O) (g k:K):KF:=fun call n e H lo=>
 asT ((kX x).run e) (g.run call n e H lo) fun t=>asN ((kX a).run e) none fun _ z=>qwW z fun m=>Bool.rec (motive:=fun _=>R) none (fDc t m fun r=>k.run call n ((d,.d (.s r))::e) H lo) (Nat.ble m (jS t))
theorem qEG {d:Nat} {x a:O} {g k:K} (hg:qT g.run (.sliceS x (some a) none) (some d) k):qT (qLS d x a g k) (.sliceS x (some a) none) (some d) k:=by
 intro call n e H lo z h
 unfold qLS at h
 rcases qq1 h with h|⟨t,hx,h⟩
 ·exact hg h
 rcases qbP h with h|⟨kk,w,hi,h⟩
 ·cases h
 obtain ⟨m,rfl,h1⟩:=qfk h
 replace h:=h1
 clear h1
 rw [ko] at h
 cases hb:Nat.ble m t.length with
 | false=>rw [hb] at h;cases h
 | true=>
  rw [hb,qGw] at h
  have hx':rd e x=.d (.s t):=(kr (by rw [hx];trivial)).trans hx
  have h0:leI 0 (Int.ofNat m)=true:=by show Nat.ble 0 m=true;exact Nat.ble_eq_true_of_le (Nat.zero_le m)
  have h1:leI (Int.ofNat m) (t.length:Int)=true:=hb
  have h2:leI (t.length:Int) (t.length:Int)=true:=Nat.ble_eq_true_of_le (qS7 _)
  have he:qa call (.sliceS x (some a) none) ⟨e,H,lo⟩=some ⟨false,true,.d (.s (t.drop m)),⟨e,H,lo⟩⟩:=by
   simp only [qa,qal,qR,hx',qrn hi,qyy,qkU,Option.getD_some,Option.getD_none,h0,h1,h2,qTc,cond_true,ok]
   simp
  rw [he];exact ql rfl h
noncomputable def qMA (d:Nat) (x a b:O) (g k:K):KF:=fun call n e H lo=>
 asT ((kX x).run e) (g.run call n e H lo) fun t=>asN ((kX a).run e) none fun _ z=>qwW z fun m=>asN ((kX b).run e) none fun _ z=>qwW z fun p=>Bool.rec (motive:=fun _=>R) none (Bool.rec (motive:=fun _=>R) none (fDc t m fun r=>fTk r (Nat.sub p m) fun r=>k.run call n ((d,.d (.s r))::e) H lo) (Nat.ble p (jS t))) (Nat.ble m p)
theorem qEO {d:Nat} {x a b:O} {g k:K} (hg:qT g.run (.sliceS x (some a) (some b)) (some d) k):qT (qMA d x a b g k) (.sliceS x (some a) (some b)) (some d) k:=by
 intro call n e H lo z h
 unfold qMA at h
 rcases qq1 h with h|⟨t,hx,h⟩
 ·exact hg h
 rcases qbP h with h|⟨kk,w,hi,h⟩
 ·cases h
 obtain ⟨m,rfl,h1⟩:=qfk h
 replace h:=h1
 clear h1
 rcases qbP h with h|⟨kk2,w2,hi2,h⟩
 ·cases h
 obtain ⟨p,rfl,h1⟩:=qfk h
 replace h:=h1
 clear h1
 rw [ko] at h
 cases hc:Nat.ble m p with
 | false=>rw [hc] at h;cases h
 | true=>
 rw [hc] at h
 cases hb:Nat.ble p t.length with
 | false=>rw [hb] at h;cases h
 | true=>
  rw [hb] at h
  have h:(fDc t m fun r=>fTk r (Nat.sub p m) fun r=>k.run call n ((d,.d (.s r))::e) H lo)=some z:=h
  rw [qGw,qBm] at h
  have hx':rd e x=.d (.s t):=(kr (by rw [hx];trivial)).trans hx
  have h0:leI 0 (Int.ofNat m)=true:=by show Nat.ble 0 m=true;exact Nat.ble_eq_true_of_le (Nat.zero_le m)
  have h1:leI (Int.ofNat m) (Int.ofNat p)=true:=hc
  have h2:leI (Int.ofNat p) (t.length:Int)=true:=hb
  have he:qa call (.sliceS x (some a) (some b)) ⟨e,H,lo⟩=some ⟨false,true,.d (.s ((t.drop m).take (Nat.sub p m))),⟨e,H,lo⟩⟩:=by
   simp only [qa,qal,qR,hx',qrn hi,qrn hi2,qyy,qkU,Option.getD_some,h0,h1,h2,qTc,cond_true,ok]
   show some _=some _
   congr 4
   exact List.drop_take
  rw [he];exact ql rfl h
noncomputable def qG1 (d:Nat) (c a b:O) (k:K):KF:=fun call n e H lo=>
 asB ((kX c).run e) ((rdC a).run e fun v=>k.run call n ((d,v)::e) H lo) ((rdC b).run e fun v=>k.run call n ((d,v)::e) H lo)
theorem qAx {d:Nat} {c a b:O} {k:K}:qT (qG1 d c a b k) (.pick c a b) (some d) k:=by
 intro call n e H lo z h
 unfold qG1 at h
 rw [qhz,qhz] at h
 rcases qvv h with ⟨hx,h⟩|⟨hx,h⟩
 ·have hx':rd e c=.d (.b true):=(kr (by rw [hx];trivial)).trans hx
  rw [show qa call (.pick c a b) ⟨e,H,lo⟩=some ⟨false,true,rd e a,⟨e,H,lo⟩⟩ by simp only [qa,qf8,hx',if_true,ok]]
  exact ql (qAK e a) h
 ·have hx':rd e c=.d (.b false):=(kr (by rw [hx];trivial)).trans hx
  rw [show qa call (.pick c a b) ⟨e,H,lo⟩=some ⟨false,true,rd e b,⟨e,H,lo⟩⟩ by simp only [qa,qf8,hx',qTb,if_false,ok]]
  exact ql (qAK e b) h
noncomputable def asF (v:V) (z:R) (κ:Nat->R):R:=OF.rec (motive:=fun _=>R) z κ (vF v)
theorem qzT {v:V} {z:R} {κ:Nat->R} {x:Ex × St} (h:asF v z κ=some x):z=some x\/∃i,v=.fn i [] []/\κ i=some x:=by
 unfold asF at h
 cases hv:vF v with
 | no=>rw [hv] at h;exact .inl h
 | f i=>rw [hv] at h;exact .inr ⟨i,qS4 hv,h⟩
theorem qGd {call:Call} {f:O} {args:List O} {e:Env} {H:List Obj} {lo i:Nat} (hx:(kX f).run e=.fn i [] []):qa call (.call f args) ⟨e,H,lo⟩=qa call (.call (.f i) args) ⟨e,H,lo⟩:=by
 have hx':rd e f=.fn i [] []:=(kr (by rw [hx];trivial)).trans hx
 have e2:rd e (.f i)=.fn i [] []:=rfl
 simp only [qa,jJ,hx',e2]
noncomputable def qMc (dst:Option Nat) (f:O) (args:List O) (g k:K):KF:=fun call n e H lo=>
 asF ((kX f).run e) (g.run call n e H lo) fun i=>qGg dst i args k call n e H lo
theorem qDh {dst:Option Nat} {f:O} {args:List O} {g k:K} (hg:qT g.run (.call f args) dst k):qT (qMc dst f args g k) (.call f args) dst k:=by
 intro call n e H lo z h
 unfold qMc at h
 rcases qzT h with h|⟨i,hi,h⟩
 ·exact hg h
 ·rw [qGd hi];exact qsd h
noncomputable def qvZ (dst:Option Nat) (op:OpK) (k:K):K:=
 match dst with
 | some d=>match op with
  | .mov x=>.mk (qKH d x k)
  | .bin op kd x y=>qKI d op kd x y k
  | .load false sl l a=>.mk (qJC d sl l a (gK (some d) (.load false sl l a) k) k)
  | .loadC l a=>.mk (qB5 d l a k)
  | .nilCheck a=>.mk (qL3 d a (gK (some d) (.nilCheck a) k) k)
  | .fieldAddr a o l=>.mk (qN5 d a o l (gK (some d) (.fieldAddr a o l) k) k)
  | .indexAddr x i size none=>.mk (qK4 d x i size (gK (some d) (.indexAddr x i size none) k) k)
  | .index x i=>.mk (qJT d x i k)
  | .extract (.t m) i=>.mk (qOG d m i k)
  | .bi .lenS [x]=>.mk (qFj d x k)
  | .bi .lenL [x]=>.mk (qFx d x (gK (some d) (.bi .lenL [x]) k) k)
  | .bi (.append size bytes) [x,y]=>.mk (qLU d size bytes x y (gK (some d) (.bi (.append size bytes) [x,y]) k) k)
  | .un .not x=>.mk (qM9 d x k)
  | .alloc false zero=>.mk (qOL d zero k)
  | .mkMap=>.mk (qN6 d k)
  | .lookup kk zero m q c=>.mk (qFn d kk zero m q c (gK (some d) (.lookup kk zero m q c) k) k)
  | .buildSlice zero 1 [(0,x)]=>.mk (qKQ d zero x (gK (some d) (.buildSlice zero 1 [(0,x)]) k) k)
  | .call (.f i) args=>.mk (qGg (some d) i args k)
  | .appendR l b x y=>.mk (qFA d l b x y (gK (some d) (.appendR l b x y) k) k)
  | .truncR x hi=>.mk (qLg d x hi (gK (some d) (.truncR x hi) k) k)
  | .pick c a b=>.mk (qG1 d c a b k)
  | .call f args=>.mk (qMc (some d) f args (gK (some d) (.call f args) k) k)
  | .sliceS x (some a) none=>.mk (qLS d x a (gK (some d) (.sliceS x (some a) none) k) k)
  | .sliceS x (some a) (some b)=>.mk (qMA d x a b (gK (some d) (.sliceS x (some a) (some b)) k) k)
  | op=>gK (some d) op k
 | none=>match op with
  | .store sl ⟨1,false⟩ a x=>.mk (qRf sl a x (gK none (.store sl ⟨1,false⟩ a x) k) k)
  | .mapUpdate kk m q x=>.mk (qNk kk m q x k)
  | .call (.f i) args=>.mk (qGg none i args k)
  | op=>gK none op k
theorem qEL {dst:Option Nat} {op:OpK} {k:K}:qT (qvZ dst op k).run op dst k:=by
 unfold qvZ
 split
 ·split
  ·exact qDM
  ·exact qDD
  ·exact qBv ki
  ·exact qzX
  ·exact qDu ki
  ·exact qD5 ki
  ·exact qDv ki
  ·exact qDS
  ·exact qDz
  ·exact qA8
  ·exact qBz ki
  ·exact qDo ki
  ·exact qEx
  ·exact qDW
  ·exact qEK
  ·exact qBX ki
  ·exact qD2 ki
  ·exact qsd
  ·exact qBO ki
  ·exact qDL ki
  ·exact qAx
  ·exact qDh ki
  ·exact qEG ki
  ·exact qEO ki
  ·exact ki
 ·split
  ·exact qEB ki
  ·exact qEi
  ·exact qsd
  ·exact ki
theorem qpK {dst:Option Nat} {op:OpK} {k:K} {call:Call} {n:Nat} {e:Env} {H:List Obj} {lo:Nat} {z:Ex × St} (h:(qvZ dst op k).run call n e H lo=some z):qwn (qa call op ⟨e,H,lo⟩) dst k call n z:=qEL h
noncomputable def vG (v:V):Option (Option Bool):=V.rec (motive_1:=fun _=>Option (Option Bool)) (motive_2:=fun _=>Option (Option Bool)) (fun x=>D.rec (motive_1:=fun _=>Option (Option Bool)) (motive_2:=fun _=>Option (Option Bool)) (fun y=>some (some y)) (fun _ _=>none) (fun _=>none) none (fun _ _=>none) (fun _ _=>none) none none none none none (fun _ _ _ _=>none) x) (fun _=>none) (fun _=>none) (fun _ _=>none) (fun _ _=>none) (fun _ _=>none) (fun _=>none) (fun _ _ _ _=>none) (fun _ _ _=>none) (fun _=>none) (fun _ _ _ _ _=>none) (fun _ _ _=>none) (fun _ _=>none) (fun vs _=>List.rec (motive:=fun _=>Option (Option Bool)) (some none) (fun _ _ _=>none) vs) none none (fun _ _ _ _=>none) v
theorem qJb (m:Nat) (w:Bool) (e:Env):wanted (some (m,w)) e=Option.rec (motive:=fun _=>Option Bool) none (fun r=>Option.rec (motive:=fun _=>Option Bool) (some false) (fun z=>some (z == w)) r) (vG (fget m e)):=by
 rw [qar]
 simp only [wanted]
 cases get m e with
 | d x=>cases x<;>rfl
 | tup vs=>cases vs<;>rfl
 | _=>rfl
noncomputable def eqB (a b:Bool):Bool:=Bool.rec (motive:=fun _=>Bool) (Bool.rec (motive:=fun _=>Bool) true false b) b a
theorem qHp (a b:Bool):eqB a b=(a == b):=by cases a<;>cases b<;>rfl
noncomputable def qGy (o:Op) (k:K):K:=
 match o.g with
 | none=>qvZ o.dst o.k k
 | some (m,w)=>.mk fun call n e H lo=>orN (vG (fget m e)) fun r=>Option.rec (motive:=fun _=>R) (qh0 o.dst (.tup []) k call n e H lo) (fun z=>Bool.rec (motive:=fun _=>R) (qh0 o.dst (.tup []) k call n e H lo) ((qvZ o.dst o.k k).run call n e H lo) (eqB z w)) r
noncomputable def qhu (l:List Op) (k:K):K:=List.rec (motive:=fun _=>K) k (fun o _ ih=>qGy o ih) l
theorem ql1 {pg:Pg} {call:Call} (hc:qaB call (qc pg)) {n:Nat} {k:K}:∀(l:List Op) {e:Env} {H:List Obj} {lo:Nat} {x:Ex × St},(qhu l k).run call n e H lo=some x->qzD pg (qo (qc pg) l ⟨e,H,lo⟩) k call n x
 | [],e,H,lo,x,h=>.inl ⟨⟨e,H,lo⟩,rfl,h⟩
 | o::l,e,H,lo,x,h=>by
  have h:(qGy o (qhu l k)).run call n e H lo=some x:=h
  have key:wanted o.g e=some true->(qvZ o.dst o.k (qhu l k)).run call n e H lo=some x->qzD pg (qo (qc pg) (o::l) ⟨e,H,lo⟩) k call n x:=by
   intro hw h
   obtain ⟨q,hq,hq2⟩:=qpK h
   have hq':=qf7 hc hq
   simp only [qo,hw,hq']
   rcases hq2 with ⟨hp,st,hst,hrun⟩|⟨hp,rfl⟩
   ·rw [hp,hst]
    exact ql1 hc l hrun
   ·rw [hp]
    exact .inr ⟨rfl,by simp⟩
  have skip:wanted o.g e=some false->qh0 o.dst (.tup []) (qhu l k) call n e H lo=some x->qzD pg (qo (qc pg) (o::l) ⟨e,H,lo⟩) k call n x:=by
   intro hw' h
   obtain ⟨q,hq,hq2⟩:=qjQ (same:=true) h
   cases hq
   rcases hq2 with ⟨_,st,hst,hrun⟩|⟨hp,_⟩
   ·simp only [qo,hw']
    rw [hst]
    exact ql1 hc l hrun
   ·cases hp
  unfold qGy at h
  split at h
  ·rename_i hg
   exact key (by rw [hg];rfl) h
  ·rename_i m w hg
   have h:(orN (vG (fget m e)) fun r=>Option.rec (motive:=fun _=>R) (qh0 o.dst (.tup []) (qhu l k) call n e H lo) (fun z=>Bool.rec (motive:=fun _=>R) (qh0 o.dst (.tup []) (qhu l k) call n e H lo) ((qvZ o.dst o.k (qhu l k)).run call n e H lo) (eqB z w)) r)=some x:=h
   obtain ⟨r,hr,h⟩:=zg h
   have hw:=qJb m w e
   rw [hr] at hw
   rw [<- hg] at hw
   cases r with
   | none=>exact skip hw h
   | some z=>
    have hw:wanted o.g e=some (z == w):=hw
    rw [<- qHp] at hw
    have h:Bool.rec (motive:=fun _=>R) (qh0 o.dst (.tup []) (qhu l k) call n e H lo) ((qvZ o.dst o.k (qhu l k)).run call n e H lo) (eqB z w)=some x:=h
    cases hb:eqB z w with
    | false=>rw [hb] at h hw;exact skip hw h
    | true=>rw [hb] at h hw;exact key hw h
noncomputable def nbK (k:K):K:=.mk fun call n e H lo=>List.rec (motive:=fun _=>R) none (fun p _ _=>Prod.rec (motive:=fun _=>R) (fun _ v=>qmv v none fun _=>k.run call n e H lo) p) e
theorem qzd {k:K} {call:Call} {n d:Nat} {v:V} {e:Env} {H:List Obj} {lo:Nat} {x:Ex × St} (h:(nbK k).run call n ((d,v)::e) H lo=some x):v.isBox=false/\k.run call n ((d,v)::e) H lo=some x:=by
 have h:qmv v none (fun _=>k.run call n ((d,v)::e) H lo)=some x:=h
 rcases qmm h with h|h
 ·cases h
 ·exact h
def qCj:OpK->Bool
 | .mov _ | .pick _ _ _ | .build _ _ | .buildSlice _ _ _ | .load _ _ _ _ | .loadC _ _ | .nilCheck _ | .bin _ _ _ _ | .un _ _ | .conv _ _ | .fieldAddr _ _ _ | .field _ _ _ | .indexAddr _ _ _ _ | .index _ _ | .extract _ _ | .bi _ _ | .store _ _ _ _ | .lookup _ _ _ _ _ | .sliceS _ _ _ | .appendR _ _ _ _=>true
 | _=>false
def qAp:OpK->Bool
 | .load mv _ _ _=>!mv
 | .store _ _ _ _ | .appendR _ _ _ _=>false
 | _=>true
theorem qJs {v:V} {st:St} {q:Or} (h:ok v st=some q):q.pan=false/\q.same=true:=by cases h;exact ⟨rfl,rfl⟩
theorem qR3 {v:V} {st:St} {q:Or} (h:okH v st=some q):q.pan=false:=by cases h;rfl
theorem qIF {op:OpK} (hf:qCj op=true) {call:Call} {st:St} {q:Or} (h:qa call op st=some q):q.pan=false/\(qAp op=true->q.same=true):=by
 cases op<;>first
  | cases hf;done
  | skip
 all_goals simp only [qa,qv2,qf8,qaZ,kh,zI,qgb,zl,qsa,eUn,qiW,qZ,qfC,ke,j6,jc,qfx,jK,eBi,qoT,qc7,qp4,j9,qaA,z8,qal,qah,qS5] at h
 all_goals repeat' split at h
 all_goals first
  | (cases h;done)
  | exact ⟨(qJs h).1,fun _=>(qJs h).2⟩
  | exact ⟨qR3 h,fun hp=>by first|(cases hp;done)|(simp_all [qAp])⟩
def qvn (f:KF) (op:OpK) (se:Bool) (no:List Nat) (dst:Option Nat) (k:K):Prop:=∀{call:Call} {n:Nat} {e:Env} {H:List Obj} {lo:Nat} {x:Ex × St},f call n e H lo=some x->
 ∃q,qa call op ⟨e,H,lo⟩=some q/\((q.pan=false/\(q.same || se)=true/\∃st,jD (qpL op) no dst q.v q.st=some st/\k.run call n st.env st.H st.lo=some x)\/(q.pan=true/\qQ qae no=true/\x=(.pan q.v,{q.st with env:=[]})))
theorem qCZ {bx:Bool} {d:Nat} {v:V} {st:St} (h:v.isBox=false):jD bx [] (some d) v st=some {st with env:=(d,v)::st.env}:=by
 cases v<;>first|rfl|cases h
theorem qId {k:K} {call:Call} {n d:Nat} {v:V} {st:St} {x:Ex × St} (h:(nbK k).run call n (put (some d) v st).env (put (some d) v st).H (put (some d) v st).lo=some x):v.isBox=false/\k.run call n ((d,v)::st.env) st.H st.lo=some x:=by
 cases v with
 | box cs=>
  have h:(nbK k).run call n ((d,.box cs)::qbu d st.env) st.H st.lo=some x:=h
  have:=(qzd h).1
  cases this
 | _=>exact qzd h
noncomputable def qJF (dst:Option Nat) (op:OpK) (k:K):K:=
 match dst with
 | some d=>qvZ (some d) op (nbK k)
 | none=>qvZ none op k
theorem qBM {dst:Option Nat} {op:OpK} {se:Bool} {k:K} (hf:qCj op=true) (hp:(qAp op || se)=true):qvn (qJF dst op k).run op se [] dst k:=by
 intro call n e H lo x h
 have key:∀q:Or,qa call op ⟨e,H,lo⟩=some q->q.pan=false/\(q.same || se)=true:=fun q hq=>by
  obtain ⟨h1,h2⟩:=qIF hf hq
  refine ⟨h1,?_⟩
  rw [Bool.or_eq_true] at hp |-
  exact hp.imp h2 id
 cases dst with
 | some d=>
  obtain ⟨q,hq,h2⟩:=qpK (dst:=some d) h
  obtain ⟨h3,h4⟩:=key q hq
  rcases h2 with ⟨_,st,rfl,h5⟩|⟨h5,_⟩
  ·obtain ⟨hb,h6⟩:=qId h5
   exact ⟨q,hq,.inl ⟨h3,h4,_,qCZ hb,h6⟩⟩
  ·rw [h3] at h5;cases h5
 | none=>
  obtain ⟨q,hq,h2⟩:=qpK (dst:=none) h
  obtain ⟨h3,h4⟩:=key q hq
  rcases h2 with ⟨_,st,rfl,h5⟩|⟨h5,_⟩
  ·exact ⟨q,hq,.inl ⟨h3,h4,_,rfl,h5⟩⟩
  ·rw [h3] at h5;cases h5
noncomputable def qwe (dst:Option Nat) (op:OpK) (se:Bool) (no:List Nat) (k:K):KF:=fun call n e H lo=>
 match (qLl op).run call ⟨e,H,lo⟩ with
 | some ⟨pan,same,v,⟨e',H',lo'⟩⟩=>Bool.rec (motive:=fun _=>R) (Bool.rec (motive:=fun _=>R) none
   (qvF (makes op) v fun v=>match jD (qpL op) no dst v ⟨e',H',lo'⟩ with
    | some ⟨e2,H2,lo2⟩=>Bool.rec (motive:=fun _=>R) (quE (qro op) H2 fun H2=>qq lo2 fun lo2=>k.run call n e2 H2 lo2) (k.run call n e2 H2 lo2) same
    | none=>none) (same || se)) (Bool.rec (motive:=fun _=>R) none (some (.pan v,⟨[],H',lo'⟩)) (qQ qae no)) pan
 | none=>none
theorem qkg {dst:Option Nat} {op:OpK} {se:Bool} {no:List Nat} {k:K}:qvn (qwe dst op se no k) op se no dst k:=by
 intro call n e H lo x h
 unfold qwe at h
 rw [qC3] at h
 split at h
 ·rename_i pan same v e' H' lo' hq
  cases pan with
  | true=>
   have h:Bool.rec (motive:=fun _=>R) none (some (.pan v,⟨[],H',lo'⟩)) (qQ qae no)=some x:=h
   cases hm:qQ qae no with
   | false=>rw [hm] at h;cases h
   | true=>
    rw [hm] at h
    exact ⟨_,hq,.inr ⟨rfl,rfl,(Option.some.inj h).symm⟩⟩
  | false=>
   cases hs:(same || se) with
   | false=>rw [hs] at h;cases h
   | true=>
    rw [hs] at h
    have h:(qvF (makes op) v fun v=>match jD (qpL op) no dst v ⟨e',H',lo'⟩ with
     | some ⟨e2,H2,lo2⟩=>Bool.rec (motive:=fun _=>R) (quE (qro op) H2 fun H2=>qq lo2 fun lo2=>k.run call n e2 H2 lo2) (k.run call n e2 H2 lo2) same
     | none=>none)=some x:=h
    rw [qwb] at h
    split at h
    ·rename_i e2 H2 lo2 hp
     refine ⟨_,hq,.inl ⟨rfl,hs,_,hp,?_⟩⟩
     cases same with
     | false=>simpa only [qwR,qW] using h
     | true=>exact h
    ·cases h
 ·cases h
noncomputable def qHV (d i:Nat) (args:List O) (se:Bool) (k:K):KF:=fun call n e H lo=>
 (qFJ args).run e fun vs=>qaw (lvs vs) (orN (call i vs H) fun r=>Cr.rec (motive:=fun _=>R) (fun pan same v H' lo'=>qnQ lo lo' fun lo=>Bool.rec (motive:=fun _=>R) (Bool.rec (motive:=fun _=>R) none (qmv v none fun v=>k.run call n ((d,v)::(spL args).run e) H' lo) (same || se)) none pan) r)
theorem qwm {d i:Nat} {args:List O} {se:Bool} {k:K}:qvn (qHV d i args se k) (.call (.f i) args) se [] (some d) k:=by
 intro call n e H lo z h
 unfold qHV at h
 rw [qyl] at h
 obtain ⟨h1,h⟩:=qY h
 obtain ⟨r,hr,h⟩:=zg h
 rw [qBL] at h1
 obtain ⟨pan,same,v,H',lo'⟩:=r
 have h:(qnQ lo lo' fun lo=>Bool.rec (motive:=fun _=>R) (Bool.rec (motive:=fun _=>R) none (qmv v none fun v=>k.run call n ((d,v)::(spL args).run e) H' lo) (same || se)) none pan)=some z:=h
 rw [qhk,qB9] at h
 cases pan with
 | true=>cases h
 | false=>
  cases hs:(same || se) with
  | false=>rw [hs] at h;cases h
  | true=>
   rw [hs] at h
   have h:qmv v none (fun v=>k.run call n ((d,v)::spentAll args e) H' (min lo lo'))=some z:=h
   rcases qmm h with h|⟨hb,h⟩
   ·cases h
   ·have he:qa call (.call (.f i) args) ⟨e,H,lo⟩=some ⟨false,same,v,⟨spentAll args e,H',min lo lo'⟩⟩:=by
     simp only [qa,jJ,rd,qTr,List.append_nil,h1,if_true,hr]
    exact ⟨_,he,.inl ⟨rfl,hs,_,qCZ hb,h⟩⟩
theorem qFB {bx:Bool} {d:Nat} {v:V} {st:St} (h:v.isBox=false) (hl:∀m o,v≠.lp m o):jD bx [qae] (some d) v st=some {st with env:=(d,v)::st.env}:=by
 cases v<;>first|exact absurd rfl (hl _ _)|(cases h;done)|rfl
noncomputable def qML (d i:Nat) (args:List O) (se:Bool) (k:K):KF:=fun call n e H lo=>
 (qFJ args).run e fun vs=>qaw (lvs vs) (orN (call i vs H) fun r=>Cr.rec (motive:=fun _=>R) (fun pan same v H' lo'=>qnQ lo lo' fun lo=>Bool.rec (motive:=fun _=>R) (Bool.rec (motive:=fun _=>R) none (qxS v none fun v=>k.run call n ((d,v)::(spL args).run e) H' lo) (same || se)) (some (.pan v,⟨[],H',lo⟩)) pan) r)
theorem qD4 {d i:Nat} {args:List O} {se:Bool} {k:K}:qvn (qML d i args se k) (.call (.f i) args) se [qae] (some d) k:=by
 intro call n e H lo z h
 unfold qML at h
 rw [qyl] at h
 obtain ⟨h1,h⟩:=qY h
 obtain ⟨r,hr,h⟩:=zg h
 rw [qBL] at h1
 obtain ⟨pan,same,v,H',lo'⟩:=r
 have h:(qnQ lo lo' fun lo=>Bool.rec (motive:=fun _=>R) (Bool.rec (motive:=fun _=>R) none (qxS v none fun v=>k.run call n ((d,v)::(spL args).run e) H' lo) (same || se)) (some (.pan v,⟨[],H',lo⟩)) pan)=some z:=h
 rw [qhk,qB9] at h
 cases pan with
 | true=>
  have he:qa call (.call (.f i) args) ⟨e,H,lo⟩=some ⟨true,same,v,⟨spentAll args e,H',min lo lo'⟩⟩:=by
   simp only [qa,jJ,rd,qTr,List.append_nil,h1,if_true,hr]
  exact ⟨_,he,.inr ⟨rfl,rfl,(Option.some.inj h).symm⟩⟩
 | false=>
  cases hs:(same || se) with
  | false=>rw [hs] at h;cases h
  | true=>
   rw [hs] at h
   have h:qxS v none (fun v=>k.run call n ((d,v)::spentAll args e) H' (min lo lo'))=some z:=h
   obtain ⟨hb,hl,h⟩:=qyG h
   ·have he:qa call (.call (.f i) args) ⟨e,H,lo⟩=some ⟨false,same,v,⟨spentAll args e,H',min lo lo'⟩⟩:=by
     simp only [qa,jJ,rd,qTr,List.append_nil,h1,if_true,hr]
    exact ⟨_,he,.inl ⟨rfl,hs,_,qFB hb hl,h⟩⟩
noncomputable def qF5 (d:Nat) (f:O) (args:List O) (se:Bool) (g:K) (k:K):KF:=fun call n e H lo=>
 asF ((kX f).run e) (g.run call n e H lo) fun i=>qHV d i args se k call n e H lo
theorem qAH {d:Nat} {f:O} {args:List O} {se:Bool} {g k:K} (hg:qvn g.run (.call f args) se [] (some d) k):qvn (qF5 d f args se g k) (.call f args) se [] (some d) k:=by
 intro call n e H lo z h
 unfold qF5 at h
 rcases qzT h with h|⟨i,hi,h⟩
 ·exact hg h
 ·rw [qGd hi];exact qwm h
noncomputable def qBt (dst:Option Nat) (op:OpK) (se:Bool) (no:List Nat) (k:K):K:=
 match no,op,dst with
 | [],.call (.f i) args,some d=>.mk (qHV d i args se k)
 | [],.call f args,some d=>.mk (qF5 d f args se (.mk (qwe (some d) (.call f args) se [] k)) k)
 | [m],.call (.f i) args,some d=>match Nat.decEq m qae with
  | .isTrue _=>.mk (qML d i args se k)
  | .isFalse _=>.mk (qwe (some d) (.call (.f i) args) se [m] k)
 | [],op,dst=>Bool.rec (motive:=fun _=>K) (.mk (qwe dst op se [] k)) (qJF dst op k) (qCj op && (qAp op || se))
 | no,op,dst=>.mk (qwe dst op se no k)
theorem qDs {dst:Option Nat} {op:OpK} {se:Bool} {no:List Nat} {k:K}:qvn (qBt dst op se no k).run op se no dst k:=by
 unfold qBt
 split
 ·exact qwm
 ·refine qAH ?_
  intro call n e H lo x h
  exact qkg h
 ·split
  ·rename_i hm _
   subst hm
   exact qD4
  ·exact qkg
 ·cases hb:(qCj op && (qAp op || se)) with
  | false=>exact qkg
  | true=>
   rw [qS6] at hb
   exact qBM hb.1 hb.2
 ·exact qkg
noncomputable def qxI (l:List (Op × Bool × List Nat)) (k:K):K:=List.rec (motive:=fun _=>K) k (fun p _ ih=>match p with
 | (⟨dst,op,none⟩,se,no)=>qBt dst op se no ih
 | (⟨dst,op,some (m,w)⟩,se,no)=>.mk fun call n e H lo=>orN (vG (fget m e)) fun r=>Option.rec (motive:=fun _=>R) (qh0 dst (.tup []) ih call n e H lo) (fun z=>Bool.rec (motive:=fun _=>R) (qh0 dst (.tup []) ih call n e H lo) ((qBt dst op se no ih).run call n e H lo) (eqB z w)) r) l
theorem qr2 {pg:Pg} {call:Call} (hc:qaB call (qc pg)) {n:Nat} {k:K}:∀(l:List (Op × Bool × List Nat)) {e:Env} {H:List Obj} {lo:Nat} {x:Ex × St},(qxI l k).run call n e H lo=some x->qzD pg (qu (qc pg) l ⟨e,H,lo⟩) k call n x
 | [],e,H,lo,x,h=>.inl ⟨⟨e,H,lo⟩,rfl,h⟩
 | (⟨dst,op,g⟩,se,no)::l,e,H,lo,x,h=>by
  have key:wanted g e=some true->(qBt dst op se no (qxI l k)).run call n e H lo=some x->qzD pg (qu (qc pg) ((⟨dst,op,g⟩,se,no)::l) ⟨e,H,lo⟩) k call n x:=by
   intro hw h
   obtain ⟨q,hq,⟨hp,hs,st,hst,hrun⟩|⟨hp,hm,hx⟩⟩:=qDs h
   rotate_left
   ·have hq':=qf7 hc hq
    refine .inr ⟨?_,by rw [hx];exact nofun⟩
    simp only [qu,hw,hq',hp,Bool.true_or,cond_true,qDB,hm,qTc,hx]
   have hq':=qf7 hc hq
   simp only [qu,hw,hq',hp,hs,hst,qTl,Bool.or_self,cond_false]
   exact qr2 hc l hrun
  have skip:wanted g e=some false->qh0 dst (.tup []) (qxI l k) call n e H lo=some x->qzD pg (qu (qc pg) ((⟨dst,op,g⟩,se,no)::l) ⟨e,H,lo⟩) k call n x:=by
   intro hw' h
   obtain ⟨q,hq,hq2⟩:=qjQ (same:=true) h
   cases hq
   rcases hq2 with ⟨_,st,hst,hrun⟩|⟨hp,_⟩
   ·simp only [qu,hw']
    rw [hst]
    exact qr2 hc l hrun
   ·cases hp
  cases g with
  | none=>exact key rfl h
  | some mw=>
   obtain ⟨m,w⟩:=mw
   have h:(orN (vG (fget m e)) fun r=>Option.rec (motive:=fun _=>R) (qh0 dst (.tup []) (qxI l k) call n e H lo) (fun z=>Bool.rec (motive:=fun _=>R) (qh0 dst (.tup []) (qxI l k) call n e H lo) ((qBt dst op se no (qxI l k)).run call n e H lo) (eqB z w)) r)=some x:=h
   obtain ⟨r,hr,h⟩:=zg h
   have hw:=qJb m w e
   rw [hr] at hw
   cases r with
   | none=>exact skip hw h
   | some z=>
    have hw:wanted (some (m,w)) e=some (z == w):=hw
    rw [<- qHp] at hw
    have h:Bool.rec (motive:=fun _=>R) (qh0 dst (.tup []) (qxI l k) call n e H lo) ((qBt dst op se no (qxI l k)).run call n e H lo) (eqB z w)=some x:=h
    cases hb:eqB z w with
    | false=>rw [hb] at h hw;exact skip hw h
    | true=>rw [hb] at h hw;exact key hw h
noncomputable def qgt:K:=.mk fun _ _ e H lo=>some (.nrm,⟨e,H,lo⟩)
noncomputable def frest (live:List Nat) (e:Env) (κ:Env->R):R:=
 List.rec (motive:=fun _=>(Env->R)->R) (fun κ=>κ []) (fun n _ ih κ=>qHa (fget n e) fun v=>ih fun r=>κ ((n,v)::r)) live κ
theorem qqQ (live:List Nat) (e:Env) (κ:Env->R):frest live e κ=κ (restrict live e):=by
 induction live generalizing κ with
 | nil=>rfl
 | cons n l ih=>
  show qHa (fget n e) (fun v=>frest l e fun r=>κ ((n,v)::r))=_
  rw [qFm,ih,qar]
  rfl
noncomputable def onX (r:R) (fn:Env->List Obj->Nat->R) (fx:Nat->Env->List Obj->Nat->R):R:=
 Option.rec (motive:=fun _=>R) none (fun p=>Prod.rec (motive:=fun _=>R) (fun ex st=>St.rec (motive:=fun _=>R) (fun e H lo=>Ex.rec (motive:=fun _=>R) (fn e H lo) (fun j=>fx j e H lo) (some (.ret,⟨e,H,lo⟩)) (fun v=>some (.pan v,⟨e,H,lo⟩)) ex) st) p) r
noncomputable def qJv (id:Nat) (live:List Nat) (k:K) (call:Call) (n:Nat) (r:R):R:=
 onX r (fun e H lo=>frest live e fun e=>k.run call n e H lo) fun j e H lo=>Bool.rec (motive:=fun _=>R) (some (.exit j,⟨e,H,lo⟩)) (frest live e fun e=>k.run call n e H lo) (qTd j id)
noncomputable def qCV (live:List Nat) (a:K) (call:Call) (n:Nat):Env->List Obj->Nat->R:=
 Nat.rec (motive:=fun _=>Env->List Obj->Nat->R) (fun _ _ _=>none) (fun m ih e H lo=>frest live e fun e=>onX (a.run call m e H lo) ih fun j e H lo=>some (.exit j,⟨e,H,lo⟩)) n
noncomputable def qpP (c:C):K->K:=
 C.rec (motive:=fun _=>K->K) (fun k=>k) (fun l k=>qhu l k) (fun l k=>qxI l k)
  (fun _ _ da db k=>da (db k)) (fun o _ _ da db k=>.mk fun call n e H lo=>asB ((kX o).run e) ((da k).run call n e H lo) ((db k).run call n e H lo))
  (fun id live _ da k=>.mk fun call n e H lo=>qJv id live k call n ((da qgt).run call n e H lo))
  (fun live _ da _=>.mk fun call n e H lo=>qCV live (da qgt) call n e H lo)
  (fun id _=>.mk fun _ _ e H lo=>some (.exit id,⟨e,H,lo⟩)) (fun _=>.mk fun _ _ e H lo=>some (.ret,⟨e,H,lo⟩)) (fun _=>.mk fun _ _ _ _ _=>none)
  (fun k l f p0 p1 live _ _ da db kk=>.mk fun call n e H lo=>match frd e f with
   | .fn k' [] [c]=>Bool.rec (motive:=fun _=>R) none (match qbn c H lo with
    | some m=>js (fun p k=>yf p.2 fun v=>k (p.1,v)) (yw live e) fun base=>qq m fun m=>match rounds (fun st=>(da qgt).run call n st.env st.H st.lo) (fun st=>(db qgt).run call n st.env st.H st.lo) l c p0 p1 base m H lo with
     | some (.nrm,⟨e,H,lo⟩)=>kk.run call n e H lo
     | r=>r
    | none=>none) (qTd k' k && c.ok)
   | _=>none)
  (fun k f live kk=>.mk fun call n e H lo=>match frd e f with
   | .fn k' [] cap=>Bool.rec (motive:=fun _=>R) none (match call k (.undef::cap) H with
    | some r=>Bool.rec (motive:=fun _=>R) (frest live e fun e=>qt9 r.H fun H=>qq (min lo r.lo) fun lo=>kk.run call n e H lo) none r.pan
    | none=>none) (qTd k' k && V.ok.oks cap)
   | _=>none) c
theorem qss {pg:Pg} {r:R} {call:Call} {n:Nat} {x:Ex × St} (h:qzD pg r qgt call n x):r=some x:=by
 rcases h with ⟨s,h1,h2⟩|⟨h1,_⟩
 ·have h2:some (Ex.nrm,(⟨s.env,s.H,s.lo⟩:St))=some x:=h2
  cases h2
  exact h1
 ·exact h1
theorem qEq {pg:Pg} {live:List Nat} {a:C} {st:St}:exL pg (.loop live a) st=(match exL pg a {st with env:=restrict live st.env} with|some (.nrm,st')=>exL pg (.loop live a) st'|r=>r):=by rw [jP];rfl
theorem quH {pg:Pg} {live:List Nat} {a:C} {da:K} {call:Call} (ih:∀(n:Nat) (e:Env) (H:List Obj) (lo:Nat) (x:Ex × St),da.run call n e H lo=some x->exL pg a ⟨e,H,lo⟩=some x) :
  ∀(n:Nat) {e:Env} {H:List Obj} {lo:Nat} {x:Ex × St},qCV live da call n e H lo=some x->exL pg (.loop live a) ⟨e,H,lo⟩=some x/\x.1≠.nrm
 | 0,e,H,lo,x,h=>by cases h
 | n+1,e,H,lo,x,h=>by
  have h:(frest live e fun e=>onX (da.run call n e H lo) (qCV live da call n) fun j e H lo=>some (.exit j,⟨e,H,lo⟩))=some x:=h
  rw [qqQ] at h
  rw [qEq]
  cases hq:da.run call n (restrict live e) H lo with
  | none=>rw [hq] at h;cases h
  | some y=>
   have hy:=ih n _ _ _ _ hq
   obtain ⟨ex,st⟩:=y
   rw [hq] at h
   show (match exL pg a ⟨restrict live e,H,lo⟩ with|some (.nrm,st')=>exL pg (.loop live a) st'|r=>r)=some x/\_
   rw [hy]
   cases ex with
   | nrm=>exact quH ih n h
   | exit id=>cases h;exact ⟨rfl,by simp⟩
   | ret=>cases h;exact ⟨rfl,by simp⟩
   | pan v=>cases h;exact ⟨rfl,by simp⟩
theorem yG {pg:Pg} {call:Call} (hc:qaB call (qc pg)):∀(c:C) (k:K) (n:Nat) (e:Env) (H:List Obj) (lo:Nat) (x:Ex × St),(qpP c k).run call n e H lo=some x->qzD pg (exL pg c ⟨e,H,lo⟩) k call n x
 | .skip,k,n,e,H,lo,x,h=>.inl ⟨⟨e,H,lo⟩,by rw [jP];rfl,h⟩
 | .ops l,k,n,e,H,lo,x,h=>by
  have:=ql1 hc l h
  rwa [show exL pg (.ops l) ⟨e,H,lo⟩=qo (qc pg) l ⟨e,H,lo⟩ by rw [jP];rfl]
 | .opsD l,k,n,e,H,lo,x,h=>by
  have:=qr2 hc l h
  rwa [show exL pg (.opsD l) ⟨e,H,lo⟩=qu (qc pg) l ⟨e,H,lo⟩ by rw [jP];rfl]
 | .seq a b,k,n,e,H,lo,x,h=>by
  have ha:=yG hc a (qpP b k) n e H lo x h
  rw [show exL pg (.seq a b) ⟨e,H,lo⟩=(match exL pg a ⟨e,H,lo⟩ with|some (.nrm,st')=>exL pg b st'|r=>r) by rw [jP];rfl]
  rcases ha with ⟨s,h1,h2⟩|⟨h1,h2⟩
  ·rw [h1]
   exact yG hc b k n s.env s.H s.lo x h2
  ·rw [h1]
   obtain ⟨ex,st⟩:=x
   cases ex with
   | nrm=>exact absurd rfl h2
   | _=>exact .inr ⟨rfl,h2⟩
 | .cond o a b,k,n,e,H,lo,x,h=>by
  have h:asB ((kX o).run e) ((qpP a k).run call n e H lo) ((qpP b k).run call n e H lo)=some x:=h
  rw [show exL pg (.cond o a b) ⟨e,H,lo⟩=(match rd e o with | .d (.b true)=>exL pg a ⟨e,H,lo⟩ | .d (.b false)=>exL pg b ⟨e,H,lo⟩|_=>none) by rw [jP];rfl]
  rcases qvv h with ⟨hx,h⟩|⟨hx,h⟩
  ·have hx':rd e o=.d (.b true):=(kr (by rw [hx];trivial)).trans hx
   rw [hx'];exact yG hc a k n e H lo x h
  ·have hx':rd e o=.d (.b false):=(kr (by rw [hx];trivial)).trans hx
   rw [hx'];exact yG hc b k n e H lo x h
 | .block id live a,k,n,e,H,lo,x,h=>by
  have h:qJv id live k call n ((qpP a qgt).run call n e H lo)=some x:=h
  rw [show exL pg (.block id live a) ⟨e,H,lo⟩=(match exL pg a ⟨e,H,lo⟩ with
   | some (.nrm,st')=>some (.nrm,{st' with env:=restrict live st'.env})
   | some (.exit j,st')=>bif qTd j id then some (.nrm,{st' with env:=restrict live st'.env}) else some (.exit j,st')
   | r=>r) by rw [jP];rfl]
  cases hq:(qpP a qgt).run call n e H lo with
  | none=>rw [hq] at h;cases h
  | some y=>
   have hy:=qss (yG hc a qgt n e H lo y hq)
   rw [hq] at h
   rw [hy]
   obtain ⟨ex,e',H',lo'⟩:=y
   cases ex with
   | nrm=>
    have h:(frest live e' fun e=>k.run call n e H' lo')=some x:=h
    rw [qqQ] at h
    exact .inl ⟨_,rfl,h⟩
   | exit j=>
    have h:Bool.rec (motive:=fun _=>R) (some (.exit j,⟨e',H',lo'⟩)) (frest live e' fun e=>k.run call n e H' lo') (qTd j id)=some x:=h
    cases hb:qTd j id with
    | true=>
     rw [hb] at h
     have h:(frest live e' fun e=>k.run call n e H' lo')=some x:=h
     rw [qqQ] at h
     exact .inl ⟨⟨restrict live e',H',lo'⟩,by simp only [hb,cond_true],h⟩
    | false=>
     rw [hb] at h
     have h:some (Ex.exit j,(⟨e',H',lo'⟩:St))=some x:=h
     cases h
     exact .inr ⟨by simp only [hb,cond_false],by simp⟩
   | ret=>cases h;exact .inr ⟨rfl,by simp⟩
   | pan v=>cases h;exact .inr ⟨rfl,by simp⟩
 | .loop live a,k,n,e,H,lo,x,h=>by
  have h:qCV live (qpP a qgt) call n e H lo=some x:=h
  exact .inr (quH (fun n e H lo x h=>qss (yG hc a qgt n e H lo x h)) n h)
 | .exit id,k,n,e,H,lo,x,h=>by
  have h:some (Ex.exit id,(⟨e,H,lo⟩:St))=some x:=h
  cases h
  exact .inr ⟨by rw [jP];rfl,by simp⟩
 | .ret,k,n,e,H,lo,x,h=>by
  have h:some (Ex.ret,(⟨e,H,lo⟩:St))=some x:=h
  cases h
  exact .inr ⟨by rw [jP];rfl,by simp⟩
 | .stuck,k,n,e,H,lo,x,h=>by
  have h:none=some x:=h
  cases h
 | .rangeB k l f p0 p1 live a b,kk,n,e,H,lo,x,h=>by
  have h:(match frd e f with
   | .fn k' [] [c]=>Bool.rec (motive:=fun _=>R) none (match qbn c H lo with
    | some m=>js (fun (p:Nat × V) k=>yf p.2 fun v=>k (p.1,v)) (yw live e) fun base=>qq m fun m=>match rounds (fun st=>(qpP a qgt).run call n st.env st.H st.lo) (fun st=>(qpP b qgt).run call n st.env st.H st.lo) l c p0 p1 base m H lo with
     | some (.nrm,⟨e,H,lo⟩)=>kk.run call n e H lo
     | r=>r
    | none=>none) (qTd k' k && c.ok)
   | _=>none)=some x:=h
  rw [qaC] at h
  rw [show exL pg (.rangeB k l f p0 p1 live a b) ⟨e,H,lo⟩=(match rd e f with
   | .fn k' [] [c]=>bif qTd k' k && c.ok then (match qbn c H lo with
    | some n=>rounds (exL pg a) (exL pg b) l c p0 p1 (yw live e) n H lo
    | none=>none) else none
   | _=>none) by rw [jP];rfl]
  split at h
  ·rename_i k' c hf
   (try simp only [hf])
   cases hb:(qTd k' k && c.ok) with
   | false=>rw [hb] at h;cases h
   | true=>
    rw [hb] at h
    (try simp only [cond_true,hb])
    split at h
    ·rename_i m hm
     (try simp only [hm])
     rw [kv (fun p k=>z5 p.2 fun v=>k (p.1,v)),qW] at h
     have le:∀y,rounds (fun st=>(qpP a qgt).run call n st.env st.H st.lo) (fun st=>(qpP b qgt).run call n st.env st.H st.lo) l c p0 p1 (yw live e) m H lo=some y->rounds (exL pg a) (exL pg b) l c p0 p1 (yw live e) m H lo=some y:=fun y hy=>
      qiY (fun st z hz=>qss (yG hc a qgt n st.env st.H st.lo z hz)) (fun st z hz=>qss (yG hc b qgt n st.env st.H st.lo z hz)) m hy
     cases hq:rounds (fun st=>(qpP a qgt).run call n st.env st.H st.lo) (fun st=>(qpP b qgt).run call n st.env st.H st.lo) l c p0 p1 (yw live e) m H lo with
     | none=>rw [hq] at h;cases h
     | some y=>
      rw [hq] at h
      rw [le y hq]
      obtain ⟨ex,e',H',lo'⟩:=y
      cases ex with
      | nrm=>exact .inl ⟨_,rfl,h⟩
      | exit id=>cases h;exact .inr ⟨rfl,by simp⟩
      | ret=>cases h;exact .inr ⟨rfl,by simp⟩
      | pan v=>cases h;exact .inr ⟨rfl,by simp⟩
    ·cases h
  ·cases h
 | .rangeZ k f live,kk,n,e,H,lo,x,h=>by
  have h:(match frd e f with
   | .fn k' [] cap=>Bool.rec (motive:=fun _=>R) none (match call k (.undef::cap) H with
    | some r=>Bool.rec (motive:=fun _=>R) (frest live e fun e=>qt9 r.H fun H=>qq (min lo r.lo) fun lo=>kk.run call n e H lo) none r.pan
    | none=>none) (qTd k' k && V.ok.oks cap)
   | _=>none)=some x:=h
  rw [qaC] at h
  split at h
  ·rename_i k' cap hf
   cases hb:(qTd k' k && V.ok.oks cap) with
   | false=>rw [hb] at h;cases h
   | true=>
    rw [hb] at h
    split at h
    ·rename_i r hr
     cases hp:r.pan with
     | true=>rw [hp] at h;cases h
     | false=>
      rw [hp] at h
      have h:(frest live e fun e=>qt9 r.H fun H=>qq (min lo r.lo) fun lo=>kk.run call n e H lo)=some x:=h
      rw [qqQ,qw4,qW] at h
      refine .inl ⟨⟨restrict live e,r.H,min lo r.lo⟩,?_,h⟩
      rw [jP]
      have hr':=hc _ _ _ _ hr
      show step _ _ _ _=_
      simp only [step,hf,hb,cond_true,hr',hp,cond_false]
    ·cases h
  ·cases h
noncomputable def qHx (own:Bool) (v:V) (κ:V->Option Cr):Option Cr:=V.rec (motive_1:=fun _=>Option Cr) (motive_2:=fun _=>Option Cr) (fun x=>κ (.d x)) (fun xs=>Bool.rec (motive:=fun _=>Option Cr) (κ (.d (.sl xs))) (κ (.osl xs)) own) (fun xs=>κ (.fsl xs)) (fun a b=>κ (.ptr a b)) (fun a b=>κ (.lp a b)) (fun _ _=>none) (fun x=>κ (.cp x)) (fun a b c d=>κ (.rs a b c d)) (fun a b c=>κ (.row a b c)) (fun a=>κ (.map a)) (fun f a b _ _=>κ (.fn f a b)) (fun t x _=>κ (.ifc t x)) (fun cs _=>Bool.rec (motive:=fun _=>Option Cr) (qdI (qdn (cs.map zR)) κ) (κ (.agg cs)) own) (fun vs _=>κ (.tup vs)) (κ .undef) none (fun _ _ _ _=>none) v
theorem qIX (own:Bool) (v:V) (κ:V->Option Cr):qHx own v κ=(match (match v with | .box _=>none|v=>some (bif own then v else copy v)) with|some v=>κ v|none=>none):=by
 cases v with
 | agg cs=>cases own with
  | true=>rfl
  | false=>exact qcu _ _
 | _=>cases own<;>rfl
inductive KX where
 | mk (f:Env->List Obj->Nat->(List V->Option Cr)->Option Cr)
noncomputable def KX.run (k:KX):Env->List Obj->Nat->(List V->Option Cr)->Option Cr:=KX.rec (motive:=fun _=>Env->List Obj->Nat->(List V->Option Cr)->Option Cr) (fun f=>f) k
noncomputable def qQZ (own:Bool) (r:Rv) (ih:KX):KX:=
 Rv.rec (motive:=fun _=>KX) (fun n=>.mk fun e H lo κ=>qHx own (fget n e) fun v=>ih.run e H lo fun vs=>κ (v::vs))
  (fun n l=>.mk fun e H lo κ=>match qbz own ⟨e,H,lo⟩ (.cell n l) with|some v=>qdI v fun v=>ih.run e H lo fun vs=>κ (v::vs)|none=>none) r
noncomputable def qC9 (own:Bool) (l:List Rv):KX:=List.rec (motive:=fun _=>KX) (.mk fun _ _ _ κ=>κ []) (fun r _ ih=>qQZ own r ih) l
theorem qIb (own:Bool) (l:List Rv) (e:Env) (H:List Obj) (lo:Nat) (κ:List V->Option Cr):(qC9 own l).run e H lo κ=(match qO own ⟨e,H,lo⟩ l with|some vs=>κ vs|none=>none):=by
 induction l generalizing κ with
 | nil=>rfl
 | cons r l ih=>
  show (qQZ own r (qC9 own l)).run e H lo κ=_
  simp only [qO]
  cases r with
  | t n=>
   show qHx own (fget n e) (fun v=>(qC9 own l).run e H lo fun vs=>κ (v::vs))=_
   rw [qIX,qar]
   simp only [ih,qbz]
   cases hv:get n e<;>first|rfl|(simp only [];cases qO own ⟨e,H,lo⟩ l<;>rfl)
  | cell n l'=>
   show (match qbz own ⟨e,H,lo⟩ (.cell n l') with|some v=>qdI v fun v=>(qC9 own l).run e H lo fun vs=>κ (v::vs)|none=>none)=_
   cases qbz own ⟨e,H,lo⟩ (.cell n l') with
   | none=>rfl
   | some v=>
    simp only [qcu,ih]
    cases qO own ⟨e,H,lo⟩ l<;>rfl
noncomputable def qMv (v:V):Nat:=V.rec (motive_1:=fun _=>Nat) (motive_2:=fun _=>Nat) (fun _=>0) (fun _=>0) (fun _=>0) (fun a _=>Nat.succ a) (fun _ _=>0) (fun cs _=>V.ref (.box cs)) (fun _=>0) (fun a _ _ _=>Nat.succ a) (fun a _ _=>Nat.succ a) (fun a=>Nat.succ a) (fun f a b _ _=>V.ref (.fn f a b)) (fun t x _=>V.ref (.ifc t x)) (fun cs _=>V.ref (.agg cs)) (fun vs _=>V.ref (.tup vs)) 0 0 (fun _ _ _ _=>0) v
theorem qIh (v:V):qMv v=v.ref:=by cases v<;>rfl
noncomputable def qQC (v:V):Bool:=V.rec (motive_1:=fun _=>Bool) (motive_2:=fun _=>Bool) (fun _=>false) (fun _=>false) (fun _=>false) (fun _ _=>false) (fun _ _=>false) (fun _ _=>false) (fun _=>false) (fun _ _ _ _=>true) (fun _ _ _=>false) (fun _=>false) (fun _ _ _ _ _=>false) (fun _ _ _=>false) (fun _ _=>false) (fun _ _=>false) false false (fun _ _ _ _=>false) v
noncomputable def qyA (H:List Obj) (v:V) (H':List Obj) (lo:Nat):Option Cr:=
 Bool.rec (motive:=fun _=>Option Cr)
  (Bool.rec (motive:=fun _=>Option Cr) none
   (Bool.rec (motive:=fun _=>Option Cr) (some ⟨false,false,v,H',lo⟩) (Bool.rec (motive:=fun _=>Option Cr) (some ⟨false,false,v,H',lo⟩) (some ⟨false,true,v,H,lo⟩) (Nat.ble (jS H) lo)) (Nat.ble (qMv v) (jS H))) (lvF v))
  (match leave H false v ⟨[],H',lo⟩ with|some ⟨pan,same,v,H,lo⟩=>qdI v fun v=>some (Cr.mk pan same v H lo)|none=>none) (qQC v)
theorem qEu (H:List Obj) (pan:Bool) (v:V) (e e':Env) (H':List Obj) (lo:Nat):leave H pan v ⟨e,H',lo⟩=leave H pan v ⟨e',H',lo⟩:=rfl
theorem qDt (H:List Obj) (v:V) (e:Env) (H':List Obj) (lo:Nat):qyA H v H' lo=leave H false v ⟨e,H',lo⟩:=by
 unfold qyA
 cases hr:qQC v with
 | true=>
  show (match leave H false v ⟨[],H',lo⟩ with|some ⟨pan,same,v,H,lo⟩=>qdI v fun v=>some (Cr.mk pan same v H lo)|none=>none)=_
  rw [qEu H false v [] e]
  cases leave H false v ⟨e,H',lo⟩ with
  | none=>rfl
  | some r=>obtain ⟨a,b,c,d,f⟩:=r;exact qcu _ _
 | false=>
  show Bool.rec (motive:=fun _=>Option Cr) none (Bool.rec (motive:=fun _=>Option Cr) (some ⟨false,false,v,H',lo⟩) (Bool.rec (motive:=fun _=>Option Cr) (some ⟨false,false,v,H',lo⟩) (some ⟨false,true,v,H,lo⟩) (Nat.ble (jS H) lo)) (Nat.ble (qMv v) (jS H))) (lvF v)=_
  have hs:settle H.length H' v=v:=by cases v<;>first|rfl|cases hr
  unfold leave
  simp only [hs,qHc,qIh,ko]
  cases v.leaves with
  | false=>rfl
  | true=>
   cases Nat.ble v.ref H.length with
   | false=>rfl
   | true=>cases Nat.ble H.length lo<;>rfl
noncomputable def qKh (vs:List V) (κ:V->Option Cr):Option Cr:=List.rec (motive:=fun _=>Option Cr) (κ (.tup [])) (fun v t _=>List.rec (motive:=fun _=>Option Cr) (κ v) (fun w u _=>κ (.tup (v::w::u))) t) vs
theorem qHY (vs:List V) (κ:V->Option Cr):qKh vs κ=κ (qm4 vs):=by
 cases vs with
 | nil=>rfl
 | cons v t=>cases t<;>rfl
noncomputable def qFu (fn:Fn) (H:List Obj) (st:St):Option Cr:=St.rec (motive:=fun _=>Option Cr) (fun e H' lo=>(qC9 fn.own fn.res).run e H' lo fun vs=>qKh vs fun v=>qyA H v H' lo) st
theorem qC2 (fn:Fn) (H:List Obj) (st:St):qFu fn H st=jG fn H st:=by
 obtain ⟨e,H',lo⟩:=st
 show ((qC9 fn.own fn.res).run e H' lo fun vs=>qKh vs fun v=>qyA H v H' lo)=_
 rw [qIb]
 unfold jG
 cases qO fn.own ⟨e,H',lo⟩ fn.res with
 | none=>rfl
 | some vs=>simp only [qHY];exact qDt H _ e H' lo
noncomputable def qFK (fn:Fn):K:=qpP fn.body qgt
noncomputable def exJ (call:Call) (n:Nat):C->St->Option (Ex × St):=fun c st=>(qpP c qgt).run call n st.env st.H st.lo
noncomputable def qIs (pg:Pg) (call:Call) (n:Nat) (H:List Obj) (fn:Fn) (r:R):Option Cr:=
 Option.rec (motive:=fun _=>Option Cr) none (fun p=>Prod.rec (motive:=fun _=>Option Cr) (fun ex st=>Ex.rec (motive:=fun _=>Option Cr)
  (Option.rec (motive:=fun _=>Option Cr) (qFu fn H st) (fun q=>deferred pg (exJ call n) fn H q.1 q.2 st) fn.dfr) (fun _=>none) (qFu fn H st) (fun v=>leave H true v st) ex) p) r
def isNone {α:Type}:Option α->Bool
 | none=>true
 | some _=>false
theorem qDP {α:Type} {o:Option α} (h:isNone o=true):o=none:=by cases o<;>first|rfl|cases h
noncomputable def qH2 (vs:List V):Nat->(Env->Option Cr)->Option Cr:=List.rec (motive:=fun _=>Nat->(Env->Option Cr)->Option Cr) (fun _ κ=>κ []) (fun v _ ih m κ=>ih (Nat.succ m) fun r=>κ ((m,v)::r)) vs
theorem qIP (vs:List V) (m:Nat) (κ:Env->Option Cr):qH2 vs m κ=κ (kf m vs):=by
 induction vs generalizing m κ with
 | nil=>rfl
 | cons v vs ih=>exact ih _ _
noncomputable def qg9 (pg:Pg) (n:Nat):Call:=
 Nat.rec (motive:=fun _=>Call) (fun _ _ _=>none) (fun m ih f vs H=>Option.rec (motive:=fun _=>Option Cr) (pg.ext f vs H)
  (fun fn=>Bool.rec (motive:=fun _=>Option Cr) none (Bool.rec (motive:=fun _=>Option Cr) none (qH2 vs 0 fun e=>qq (jS H) fun hl=>qIs pg ih m H fn ((qFK fn).run ih m e H hl)) (qTd fn.np (jS vs))) (isNone fn.rcv)) (pg.fn f)) n
theorem qMG {pg:Pg} {call:Call} (hc:qaB call (qc pg)) (n:Nat):qv8 (exJ call n) (exL pg):=fun c st x h=>qss (yG hc c qgt n st.env st.H st.lo x h)
theorem quF (pg:Pg):∀n,qaB (qg9 pg n) (qc pg)
 | 0=>fun i vs H r h=>by cases h
 | n+1=>fun i vs H r h=>by
  have h:Option.rec (motive:=fun _=>Option Cr) (pg.ext i vs H)
   (fun fn=>Bool.rec (motive:=fun _=>Option Cr) none (Bool.rec (motive:=fun _=>Option Cr) none (qH2 vs 0 fun e=>qq (jS H) fun hl=>qIs pg (qg9 pg n) n H fn ((qFK fn).run (qg9 pg n) n e H hl)) (qTd fn.np (jS vs))) (isNone fn.rcv)) (pg.fn i)=some r:=h
  rw [qre]
  unfold qt
  cases hf:pg.fn i with
  | none=>rw [hf] at h;exact h
  | some fn=>
   rw [hf] at h
   have h:Bool.rec (motive:=fun _=>Option Cr) none (Bool.rec (motive:=fun _=>Option Cr) none (qH2 vs 0 fun e=>qq (jS H) fun hl=>qIs pg (qg9 pg n) n H fn ((qFK fn).run (qg9 pg n) n e H hl)) (qTd fn.np (jS vs))) (isNone fn.rcv)=some r:=h
   rw [qIP,qW,ko,ko] at h
   cases hb1:isNone fn.rcv with
   | false=>rw [hb1] at h;cases h
   | true=>
    rw [hb1] at h
    cases hb:qTd fn.np vs.length with
    | false=>rw [hb] at h;cases h
    | true=>
     rw [hb] at h
     have h:qIs pg (qg9 pg n) n H fn ((qFK fn).run (qg9 pg n) n (kf 0 vs) H H.length)=some r:=h
     have hcond:fn.np=vs.length/\fn.rcv=none:=⟨qS9 hb,qDP hb1⟩
     simp only [if_pos hcond]
     cases hq:(qFK fn).run (qg9 pg n) n (kf 0 vs) H H.length with
     | none=>rw [hq] at h;cases h
     | some y=>
      have hy:=qss (yG (quF pg n) fn.body qgt n _ _ _ _ hq)
      rw [hq] at h
      rw [hy]
      obtain ⟨ex,st⟩:=y
      cases ex with
      | nrm=>
       have h:Option.rec (motive:=fun _=>Option Cr) (qFu fn H st) (fun q=>deferred pg (exJ (qg9 pg n) n) fn H q.1 q.2 st) fn.dfr=some r:=h
       show (match fn.dfr with
        | none=>jG fn H st
        | some (t,rest)=>deferred pg (exL pg) fn H t rest st)=some r
       cases hd:fn.dfr with
       | none=>rw [hd,qC2] at h;exact h
       | some q=>
        obtain ⟨t,rest⟩:=q
        rw [hd] at h
        exact qmB (qMG (quF pg n) n) h
      | exit id=>cases h
      | ret=>
       have h:qFu fn H st=some r:=h
       rw [qC2] at h;exact h
      | pan v=>exact h
theorem qwZ {pg:Pg} {n f:Nat} {vs:List V} {H:List Obj} {r:Cr} (h:qg9 pg n f vs H=some r):qc pg f vs H=some r:=quF pg n _ _ _ _ h
end W
/-
  What the kernel works out of a call on closed data, as a fact about the call.
-/
namespace W
open Go (IntKind BinOp UnOp)
def qBp:List V->List D->Bool
 | [],[]=>true
 | .d x::l,y::r=>eqD x y && qBp l r
 | _,_=>false
theorem qyb:∀{l:List V} {r:List D},qBp l r=true->l=r.map .d
 | [],[],_=>rfl
 | v::l,y::r,h=>by
  cases v with
  | d x=>
   simp only [qBp,qS6] at h
   rw [qxG h.1,qyb h.2];rfl
  | _=>cases h
 | [],_::_,h=>by simp [qBp] at h
 | v::_,[],h=>by cases v<;>simp [qBp] at h
def isD (r:Option Cr) (x:D):Bool:=match r with
 | some ⟨false,true,.d y,_,_⟩=>eqD y x
 | _=>false
def qFr (r:Option Cr) (x:List D):Bool:=match r with
 | some ⟨false,true,.tup y,_,_⟩=>qBp y x
 | _=>false
theorem qwK {pg:Pg} (hx:qw pg.ext) {f:Nat} {vs:List V} {H H':List Obj} {v:V} {lo:Nat} (h:qc pg f vs H=some ⟨false,true,v,H',lo⟩):qc pg f vs H=some ⟨false,true,v,H,lo⟩:=by
 obtain ⟨n,hn⟩:=jN.1 h
 have hlo:=(yZ hx (qaV hx n) _ _ _ _ hn).2.2 rfl
 simp only at hlo
 rw [hlo] at h
 exact h
theorem qFg {pg:Pg} (hx:qw pg.ext) {N f:Nat} {vs:List V} {H:List Obj} {x:D} (h:isD (qg9 pg N f vs H) x=true):∃lo,qc pg f vs H=some ⟨false,true,.d x,H,lo⟩:=by
 unfold isD at h
 split at h
 ·rename_i y H' lo hr
  rw [qxG h] at hr
  exact ⟨lo,qwK hx (qwZ hr)⟩
 ·cases h
theorem qAD {pg:Pg} (hx:qw pg.ext) {N f:Nat} {vs:List V} {H:List Obj} {x:List D} (h:qFr (qg9 pg N f vs H) x=true):∃lo,qc pg f vs H=some ⟨false,true,.tup (x.map .d),H,lo⟩:=by
 unfold qFr at h
 split at h
 ·rename_i y H' lo hr
  rw [qyb h] at hr
  exact ⟨lo,qwK hx (qwZ hr)⟩
 ·cases h
end W
/- A call of no arguments whose result is data is the same beside whatever objects there are. -/
namespace W
open Go (World Value Addr IntKind Program TypeId FuncId)
end W
/- Calls whose arguments and results are data, known beforehand (by the kernel), stand in for the functions' code. -/
namespace W
open Go (World Value Addr IntKind Program TypeId FuncId)
inductive Out where
 | one (x:D)
 | tup (l:List D)
def Out.v:Out->V
 | .one x=>.d x
 | .tup l=>.tup (l.map .d)
structure Ent where
 f:Nat
 a:List D
 r:Out
def pick (i:Nat) (vs:List V):List Ent->Option Ent
 | []=>none
 | e::T=>bif qTd e.f i && qBp vs e.a then some e else pick i vs T
def qvJ (T:List Ent) (i:Nat) (vs:List V) (H:List Obj):Option Cr:=match pick i vs T with
 | some e=>some ⟨false,true,e.r.v,H,H.length⟩
 | none=>none
def Ent.is (r:Option Cr):Out->Bool
 | .one x=>isD r x
 | .tup l=>qFr r l
def Ent.Ok (pg:Pg) (e:Ent):Prop:=∃lo,qc pg e.f (e.a.map .d) []=some ⟨false,true,e.r.v,[],lo⟩
theorem qdy {pg:Pg} (hx:qw pg.ext) {N f:Nat} {l:List D} {r:Out} (h:Ent.is (qg9 pg N f (l.map .d) []) r=true):Ent.Ok pg ⟨f,l,r⟩:=by
 cases r with
 | one x=>exact qFg hx h
 | tup l=>exact qAD hx h
theorem qwy {i:Nat} {vs:List V} {e:Ent}:∀{T:List Ent},pick i vs T=some e->e ∈ T/\e.f=i/\vs=e.a.map .d
 | [],h=>by cases h
 | q::T,h=>by
  unfold pick at h
  rw [qS5] at h
  split at h
  ·rename_i hb
   cases h
   simp only [qS6] at hb
   exact ⟨.head _,qS9 hb.1,qyb hb.2⟩
  ·obtain ⟨h1,h2⟩:=qwy h
   exact ⟨.tail _ h1,h2⟩
theorem qp1 {T:List Ent}:qw (qvJ T):=fun i vs H r h=>by
 unfold qvJ at h
 split at h
 ·cases h
  exact ⟨qS7 _,fun _ _ _=>rfl,fun _=>rfl⟩
 ·cases h
theorem qJo {M:Maps} {g g':Gh} {w w':World} (e:g'.pub=g.pub) (ew:w'=w):∀{l:List D} {vs:List Value},RepSL M g w (l.map .d) vs->RepSL M g' w' (l.map .d) vs
 | [],_,h=>by cases h;exact .nil
 | x::l,_,h=>by
  rw [qTe] at h |-
  cases h with
  | cons _ _ _ _ h0 h=>
   refine .cons _ _ _ _ ?_ (qJo e ew h)
   cases h0 with
   | d _ _ hr=>exact .d _ _ (by rw [e,ew];exact hr)
theorem qIo {P:Program} {M:Maps} {pg:Pg} (hsim:∀n,qs P M (zD pg n)) {e:Ent} (h:e.Ok pg)
  {f':FuncId} (hl:look M.fm f'=some e.f) {g:Gh} {w:World} {H:List Obj} (hH:RelH M g w H) {argv:List Value} (ha:ArgsRep M g w 0 (e.a.map .d) argv):qxR P f' argv.toArray w (qI M g w ⟨false,true,e.r.v,H,H.length⟩):=by
 obtain ⟨lo,h⟩:=h
 obtain ⟨n,hn⟩:=jN.1 h
 refine qu0 (hsim n) hn rfl (fun {g1 g2 w' c} ep hA=>?_) hl hH ha
 revert hA
 cases e.r with
 | one x=>
  intro hA
  cases hA with
  | s hA=>cases hA with
   | d _ _ hr=>exact .s (.d _ _ (by rw [ep];exact hr))
 | tup l=>
  intro hA
  cases hA with
  | s hA=>cases hA with
   | tup _ _ hr=>exact .s (.tup _ _ (qJo ep rfl hr))
theorem qlO {P:Program} {M:Maps} {T:List Ent} (hT:∀e ∈ T,∃pg,(∀n,qs P M (zD pg n))/\e.Ok pg):qs P M (qvJ T):=by
 intro i vs H r h f' hl g w argv ha hH
 unfold qvJ at h
 split at h
 ·rename_i e he
  cases h
  obtain ⟨h1,rfl,rfl⟩:=qwy he
  obtain ⟨pg,hsim,hok⟩:=hT e h1
  exact qIo hsim hok hl hH ha
 ·cases h
end W
namespace W
set_option maxRecDepth 100000
def ixN (c:Nat):List Nat->Int
 | []=>-1
 | x::l=>bif qTd x c then 0 else match ixN c l with
  | .ofNat n=>.ofNat (n+1)
  | v=>v
def ixX (vs:List V) (H:List Obj):Option Cr:=
 match vs with
 | [.d (.s t),.d (.i .u8 (.ofNat c))]=>some ⟨false,true,.d (.i .i64 (ixN (c % 256) t)),H,H.length⟩
 | _=>none
def pg:Pg:=⟨fun n=>bif qTd n 623 then none else prog n,fun i vs H=>bif qTd i 623 then ixX vs H else none⟩
theorem qrK:qw fun _ vs H=>ixX vs H:=fun i vs H r h=>by
 simp only [ixX] at h
 split at h
 ·cases h
  exact ⟨qS7 _,fun _ _ _=>rfl,fun _=>rfl⟩
 ·cases h
theorem qsi:qw pg.ext:=fun i vs H r h=>by
 simp only [pg,qS5] at h
 split at h
 ·exact qrK i vs H r h
 ·cases h
end W
/-
  More equations: nil slices, shifts, bits, bytes.
-/
namespace W
open Go (IntKind BinOp UnOp)
theorem qyI {n:Nat}:isC (.t n)=false:=(rfl)
theorem qCN {x:D}:isC (.c x)=true:=(rfl)
def qtQ (s:Nat) (v:V):V:=match v with | .lp t o=>bif qTd t s then .undef else .lp t o|v=>v
theorem qjw {s:Nat}:qbu s []=[]:=(rfl)
theorem qhm {s n:Nat} {v:V} {e:Env}:qbu s ((n,v)::e)=(n,qtQ s v)::qbu s e:=(rfl)
theorem qtA {s:Nat} {x:D}:qtQ s (.d x)=.d x:=(rfl)
theorem qww {s:Nat} {x:List D}:qtQ s (.osl x)=.osl x:=(rfl)
theorem qDK {s i o:Nat}:qtQ s (.ptr i o)=.ptr i o:=(rfl)
theorem qDN {s:Nat} {x:List V}:qtQ s (.box x)=.box x:=(rfl)
theorem qzs {s:Nat} {x:D}:qtQ s (.cp x)=.cp x:=(rfl)
theorem qwU {α:Type} {s:Nat} {e:α->D} {L:List α}:qtQ s (slV e L)=slV e L:=by cases L<;>rfl
theorem qbQ {cs vs:List V} (h:(vs.length=cs.length)=True):qP cs 0 vs=some vs:=by
 have h:vs.length=cs.length:=by rw [h];trivial
 simp [qP,h]
theorem qpW {b:Bool} {cs:List D}:qpL (.alloc b cs)=b:=(rfl)
def qLN (r:Bool) (n:Nat) (cs:List V) (st:St):Option St:=bif r then some {st with env:=(n,.box cs)::st.env} else none
theorem qxc {no:List Nat} {n:Nat} {cs:List V} {st:St}:jD true no (some n) (.box cs) st=qLN (k9 n st.env) n cs st:=by
 simp only [jD,qLN,Bool.true_and]
theorem qA4 {n:Nat} {cs:List V} {st:St}:qLN true n cs st=some ⟨(n,.box cs)::st.env,st.H,st.lo⟩:=(rfl)
def lpD (r:Bool) (n m o:Nat) (st:St):Option St:=bif r then none else some {st with env:=(n,.lp m o)::st.env}
theorem qxx {bx:Bool} {no:List Nat} {n m o:Nat} {st:St}:jD bx no (some n) (.lp m o) st=lpD (qQ m no) n m o st:=(rfl)
theorem qGQ {n m o:Nat} {st:St}:lpD false n m o st=some ⟨(n,.lp m o)::st.env,st.H,st.lo⟩:=(rfl)
theorem qo7 {n:Nat}:qQ n []=false:=(rfl)
theorem qEm {i o:Nat}:qhr (.ptr i o)=.ptr i o:=(rfl)
def noL (n:Nat) (v:V):Bool:=match v with | .lp m _=>!Nat.beq m n|_=>true
theorem qtK {n:Nat}:k9 n []=true:=(rfl)
theorem qBf {n k:Nat} {v:V} {e:Env}:k9 n ((k,v)::e)=(noL n v && k9 n e):=by cases v<;>rfl
theorem qFX {n:Nat} {x:D}:noL n (.d x)=true:=(rfl)
theorem qyj {n:Nat} {x:List V}:noL n (.box x)=true:=(rfl)
theorem qB7 {n m o:Nat}:noL n (.lp m o)=!Nat.beq m n:=(rfl)
theorem qwF {o o':Obj}:qK [o] 0 o'=[o']:=(rfl)
def e8 (n:Nat):D:=.i .u8 (n:Int)
end W
/- Walking on: interfaces, panics, function values, deferred closures. -/
namespace W
open Go (IntKind BinOp UnOp)
variable {pg:Pg} {st:St} {call:Call}
end W
/-
  Walking of rows that may be written.
-/
namespace W
open Go (IntKind BinOp UnOp)
section
variable {call:Call} {st:St}
end
end W
/- What genrisc lays. -/
namespace W
open Go (IntKind BinOp UnOp)
set_option maxRecDepth 20000
set_option linter.defProp false in
def zS:=(And.intro (And.intro (And.intro (And.intro (And.intro (And.intro @ql4 @qwr) (And.intro @qD9 (And.intro @qmc @qnG))) (And.intro (And.intro @qeM (And.intro @qCe @qrp)) (And.intro @qmU (And.intro @qts @qkb)))) (And.intro (And.intro (And.intro @qqt @qqL) (And.intro @qyv (And.intro @qf0 @qtA))) (And.intro (And.intro @qCB (And.intro @qtG @qnF)) (And.intro @qnK (And.intro @qhm @qjV))))) (And.intro (And.intro (And.intro (And.intro @qEC @qxN) (And.intro @qpC (And.intro @qFb @qDK))) (And.intro (And.intro @qnI (And.intro @qE7 @yx)) (And.intro @qiC (And.intro @qjw @qEW)))) (And.intro (And.intro (And.intro @qcr (And.intro @qik @qE4)) (And.intro @qyT (And.intro @qGN @qrP))) (And.intro (And.intro @qqW (And.intro @qnn @qHi)) (And.intro @qnt (And.intro @qIz @qmG)))))) (And.intro (And.intro (And.intro (And.intro (And.intro @qwc @qqp) (And.intro @qrb (And.intro @qnv @qiX))) (And.intro (And.intro @qCN (And.intro @qp2 @qeB)) (And.intro @qqT (And.intro @qj1 @qwO)))) (And.intro (And.intro (And.intro @qty @qmI) (And.intro @qjK (And.intro @qes @qtw))) (And.intro (And.intro @qjR (And.intro @qEm @qi8)) (And.intro @qA9 (And.intro @qyI @qCm))))) (And.intro (And.intro (And.intro (And.intro @qcy @qqU) (And.intro @qcx (And.intro @qnL @qwv))) (And.intro (And.intro @qvr (And.intro @qyz @qxa)) (And.intro @qxJ (And.intro @qrl @qqR)))) (And.intro (And.intro (And.intro @qzq (And.intro @qz5 @qvj)) (And.intro @qCT (And.intro @qCd @yh))) (And.intro (And.intro @qf1 (And.intro @qh3 @qyi)) (And.intro @qxU (And.intro @qx6 @qqv)))))))
def ln (F:Int) (U V:Bool) (A B C O I to:Int):D:=.agg [.i .i64 F,.b U,.b V,.i .i64 A,.i .i64 B,.i .i64 C,.i .i64 O,.i .i32 I,.i .i64 to]
def zc (O A B N:Int):D:=ln 1 false false A B 0 O N (-1)
def mSt (A B N:Int):D:=ln 2 true false A B 0 0 N (-1)
def mLd (A B N:Int):D:=ln 2 false false A B 0 0 N (-1)
def qly (O A B C:Int):D:=ln 0 false false A B C O 0 (-1)
def qdU (A N:Int):D:=ln 3 true false A 0 0 0 N (-1)
def qiA (A:Int) (V:Bool) (K:Int):D:=ln 3 true V A 0 0 0 0 K
def qbc (A:Int):List D:=[mSt A 13 0,zc 8 13 13 4]
def qs4 (A:Int):List D:=[zc 9 13 13 4,mLd A 13 0]
def qcI:List D:=[mLd 0 13 (-4),mLd 1 13 (-8)]
def qjb (N:Int):List D:=[zc 9 13 13 (N * 4)]
def qpu:List D:=[mSt 1 13 (-8),zc 9 13 13 4]
def qol (O:Int):List D:=qcI++(qly O 1 1 0::qpu)
def qrI (O:Int):List D:=qcI++(qly 9 1 1 0::qdU O 2::zc 0 1 0 0::qdU 7 1::zc 0 1 0 1::qpu)
def qte (K:Int):List D:=[ln 3 false true 7 0 12 0 K (-1)]
def qfc:List D:=[zc 1 2 12 2,zc 9 11 12 2,mLd 15 2 (-8),mLd 12 2 (-4),ln 3 false false 7 0 15 0 0 (-1)]
def qpd (N:Int):List D:=[zc 1 2 11 2,mSt 15 2 0,mSt 12 2 4,zc 8 12 11 2,zc 8 11 12 N]
def qt0 (N:Int):List D:=[zc 1 0 12 2,zc 0 1 0 N,zc 0 3 0 0,mSt 3 0 0,zc 8 0 0 4,zc 9 1 1 1,qdU 9 (-4)]
def qu8 (A N:Int):D:=ln 1 false true A 0 0 0 (N+65536) (-1)
def qpA (A N:Int):List D:=[ln 1 true false A 0 0 0 1 (-1),zc 6 A A N]
def qq6 (l:List D):List D:=mLd 0 13 (-4)::(l++[mSt 0 13 (-4)])
def qha (op k:Int):Option (List D):=
 bif eqI op 1 then (bif leI 0 k && leI k 1000 then some (zc 0 0 0 k::qbc 0) else bif eqI k 65540 then some (qpA 0 4++qbc 0) else bif eqI k 65541 then some (qpA 0 5++qbc 0) else bif leI (-65536) k && !leI 0 k then some (qu8 0 k::qbc 0) else none) else
 bif !(leI 0 k && leI k 1000) then none else
 bif eqI op 26 then some (qs4 0++[qiA 1 false k]) else
 bif eqI op 6 then some (qq6 [zc 1 0 0 2,mLd 0 0 0]) else
 bif eqI op 25 then some [qiA 7 false k] else
 bif eqI op 5 then some (zc 8 0 12 k::qbc 0) else
 bif eqI op 7 then some (qcI++(zc 1 1 1 2::mSt 0 1 0::qjb 2)) else
 bif eqI op 2 then some (mLd 0 13 (-4)::qbc 0) else
 bif eqI op 3 then some (qjb 1) else
 bif eqI op 4 then some (qcI++[mSt 0 13 (-8),mSt 1 13 (-4)]) else
 bif eqI op 9 then some (qol 8) else
 bif eqI op 10 then some (qol 9) else
 bif eqI op 12 then some (qol 11) else
 bif eqI op 15 then some (qol 4) else
 bif eqI op 19 then some (qol 1) else
 bif eqI op 20 then some (qol 2) else
 bif eqI op 22 then some (qrI 1) else
 bif eqI op 23 then some (qrI 5) else
 bif eqI op 24 then some (qrI 6) else
 bif eqI op 13 then some (qcI++(qly 11 1 1 0::ln 0 true false 1 0 0 0 0 (-1)::qpu)) else
 bif eqI op 14 then some (qq6 [zc 0 1 0 0,qly 9 0 1 0]) else
 bif eqI op 27 then some [qiA 7 true k] else
 bif eqI op 28 then some (bif eqI k 0 then qpd 0 else qpd k++qt0 k) else
 bif eqI op 29 then some qfc else
 bif eqI op 30 then some (qte k) else
 bif eqI op 33 then some (qs4 0++[zc 0 1 0 0,mSt 0 1 (-64)]) else
 bif eqI op 0 then some (qte 0) else none
theorem qCc {x y:D} {t:List D} (hx:qTd x.cells.length 9=true) (hy:qTd y.cells.length 9=true) (h:t.length+2<=1000000):jf 9 64 (.osl (x::t)) (.d (.sl [y]))=some (.osl (x::(t++[y]))):=by
 have hr:roomy 64 ((x::t).length+[y].length)=true:=by
  simp only [roomy,qS6]
  exact ⟨Nat.ble_eq_true_of_le (by simp;omega),Nat.ble_eq_true_of_le (by simp;omega)⟩
 simp only [jf,qN,hx,hy,hr,qTc,cond_true,qTn]
theorem lv {a:Obj} {e:Env} {H':List Obj} {lo:Nat} (hl:(lo<1)=True):leave [a] false (.tup []) ⟨e,H',lo⟩=some ⟨false,false,.tup [],H',lo⟩:=qEv rfl (.inr (by show lo<1;rw [hl];trivial)) rfl
theorem lvd {a:Obj} {x:D} {e:Env} {H':List Obj}:leave [a] false (.d x) ⟨e,H',1⟩=some ⟨false,true,.d x,[a],1⟩:=qvH (H:=[a]) rfl rfl rfl
theorem qKE {n:Int} (h1:-9223372036854775808<=n) (h2:n<=9223372036854775807):wr .i64 n=n:=qdM h1 h2
theorem qRw {n:Int} (h1:-2147483648<=n) (h2:n<=2147483647):wr .i32 n=n:=qrD h1 h2
def qpy (x:D) (op k:Int):Prop:=∀(t m:List D),qha op k=some m->t.length+20<=1000000->qc pg 25 [.ptr 0 0,.d (.agg [.i .i64 op,.i .i32 k])] [.cells [.osl (x::t)]]=some ⟨false,false,.tup [],[.cells [.osl (x::(t++m))]],0⟩
theorem qQs {a b:V} {H:List Obj}:qc pg 75 [a,b] H=qAy H f_genrisc_gen_reckon.own f_genrisc_gen_reckon.res (exL pg f_genrisc_gen_reckon.body {env:=kf 0 [a,b],H,lo:=H.length}):=qh rfl rfl
theorem qFi {a b:V} {H:List Obj}:qc pg 76 [a,b] H=qAy H f_genrisc_gen_leads.own f_genrisc_gen_leads.res (exL pg f_genrisc_gen_leads.body {env:=kf 0 [a,b],H,lo:=H.length}):=qh rfl rfl
theorem qR1 {a:V} {H:List Obj}:qc pg 142 [a] H=qAy H f_genrisc_operation.own f_genrisc_operation.res (exL pg f_genrisc_operation.body {env:=kf 0 [a],H,lo:=H.length}):=qh rfl rfl
section
variable {x:D} (hx:qTd x.cells.length 9=true)
 include hx
theorem qag {t:List D} {F A B C O I:Int} {U V:Bool}  (h:t.length+2<=1000000):qc pg 66 [.ptr 0 0,.d (.agg [.i .i64 F,.b U,.b V,.i .i64 A,.i .i64 B,.i .i64 C,.i .i64 O,.i .i32 I])] [.cells [.osl (x::t)]]=some ⟨false,false,.tup [],[.cells [.osl (x::(t++[ln F U V A B C O I (-1)]))]],0⟩:=by
 have hT:∀k,(k<=2)=True->t.length+k<=1000000:=fun k hk=>by
  have hk:k<=2:=of_eq_true hk
  omega
 rw [qh (fn:=ja) rfl rfl]
 simp only [zS,ja,k_,o_,m_,a_,l_,s_,i_,Int.reduceNeg,z_,qTf,Nat.reduceAdd,qTk,qTi,reduceCtorEq,qTe,qTm,qTc,qAt,qw7,qwP,qFM,qwD,qft,qxt,Nat.add_zero,qq5,qTg,List.set_cons_zero,qwF,Nat.min_zero,qsz,qGv,Nat.reduceEqDiff,Nat.reduceLeDiff,qpw,List.drop_zero,List.take_succ_cons,List.take_zero,qE5,quJ,qwi,qCp,qTr,List.drop_succ_cons,qTn,Nat.reduceLT,List.set_cons_succ,qao,qkf,List.reduceReplicate,Nat.zero_lt_one,qjG,qnD,qqn,qGS,qtv,qqN,qew,qwq,qnO,qsG,hx,qkq,decide_true,hT,qCc,qnz,yY,qzE,qw5,qz8,qq4,qcn,qrg,Nat.min_self,qnx,qsW,lv,ln]
theorem zU {t:List D} {O A B N:Int} (h0:0<=N) (h1:N<=65535) (h:t.length+2<=1000000):qc pg 65 [.ptr 0 0,.d (.i .i64 O),.d (.i .i64 A),.d (.i .i64 B),.d (.i .i64 N)] [.cells [.osl (x::t)]]=some ⟨false,false,.tup [],[.cells [.osl (x::(t++[zc O A B N]))]],0⟩:=by
 have hT:∀k,(k<=2)=True->t.length+k<=1000000:=fun k hk=>by
  have hk:k<=2:=of_eq_true hk
  omega
 have hn:(N<0)=False:=eq_false (by omega)
 have hw:wr .i32 N=N:=qrD (by omega) (by omega)
 rw [qh (fn:=kL) rfl rfl]
 simp only [zS,kL,k_,m_,g_,v_,o_,i_,c_,qTf,Nat.reduceAdd,qTk,qTi,reduceCtorEq,Nat.reduceEqDiff,Bool.or_true,hn,decide_false,qTb,↓reduceIte,hw,qTe,qTm,Nat.reduceLT,List.set_cons_zero,List.set_cons_succ,qTc,Nat.reduceLeDiff,hT,qag hx,ln,Int.reduceNeg,Nat.min_zero,Nat.zero_lt_one,lv,zc]
theorem qDE {t:List D} {O A B N:Int} (h0:N<0) (h1:-65536<=N) (h:t.length+2<=1000000):qc pg 65 [.ptr 0 0,.d (.i .i64 O),.d (.i .i64 A),.d (.i .i64 B),.d (.i .i64 N)] [.cells [.osl (x::t)]]=some ⟨false,false,.tup [],[.cells [.osl (x::(t++[ln 1 false true A B 0 O (N+65536) (-1)]))]],0⟩:=by
 have hT:∀k,(k<=2)=True->t.length+k<=1000000:=fun k hk=>by
  have hk:k<=2:=of_eq_true hk
  omega
 have hn:(N<0)=True:=eq_true (by omega)
 have hw:wr .i64 (N+65536)=N+65536:=qdM (by omega) (by omega)
 have hw2:wr .i32 (N+65536)=N+65536:=qrD (by omega) (by omega)
 rw [qh (fn:=kL) rfl rfl]
 simp only [zS,kL,k_,m_,g_,v_,o_,i_,c_,qTf,Nat.reduceAdd,qTk,qTi,reduceCtorEq,Nat.reduceEqDiff,Bool.or_true,hn,decide_true,↓reduceIte,qnp,hw,hw2,qTe,qTm,Nat.reduceLT,List.set_cons_zero,List.set_cons_succ,qTc,Nat.reduceLeDiff,hT,qag hx,ln,Int.reduceNeg,Nat.min_zero,Nat.zero_lt_one,lv]
theorem qq9 {t:List D} {O A B C:Int}  (h:t.length+2<=1000000):qc pg 137 [.ptr 0 0,.d (.i .i64 O),.d (.i .i64 A),.d (.i .i64 B),.d (.i .i64 C)] [.cells [.osl (x::t)]]=some ⟨false,false,.tup [],[.cells [.osl (x::(t++[qly O A B C]))]],0⟩:=by
 have hT:∀k,(k<=2)=True->t.length+k<=1000000:=fun k hk=>by
  have hk:k<=2:=of_eq_true hk
  omega
 rw [qh (fn:=ji) rfl rfl]
 simp only [zS,ji,v_,m_,o_,i_,c_,qTf,Nat.reduceAdd,qTk,qTi,Nat.reduceEqDiff,reduceCtorEq,qTe,qTm,Nat.reduceLT,List.set_cons_zero,List.set_cons_succ,qTc,Nat.reduceLeDiff,hT,qag hx,ln,Int.reduceNeg,Nat.min_zero,Nat.zero_lt_one,lv,qly]
theorem qeJ {t:List D} {A B N:Int} (h0:-65536<=N) (h1:N<=65535) (h:t.length+2<=1000000):qc pg 68 [.ptr 0 0,.d (.i .i64 A),.d (.i .i64 B),.d (.i .i64 N)] [.cells [.osl (x::t)]]=some ⟨false,false,.tup [],[.cells [.osl (x::(t++[mLd A B N]))]],0⟩:=by
 have hT:∀k,(k<=2)=True->t.length+k<=1000000:=fun k hk=>by
  have hk:k<=2:=of_eq_true hk
  omega
 have hw:wr .i32 N=N:=qrD (by omega) (by omega)
 rw [qh (fn:=z4) rfl rfl]
 simp only [zS,z4,v_,m_,o_,i_,c_,qTf,Nat.reduceAdd,qTk,qTi,Nat.reduceEqDiff,reduceCtorEq,hw,qTe,qTm,Nat.reduceLT,List.set_cons_zero,List.set_cons_succ,qTc,Nat.reduceLeDiff,hT,qag hx,ln,Int.reduceNeg,Nat.min_zero,Nat.zero_lt_one,lv,mLd]
theorem qa2 {t:List D} {A B N:Int} (h0:-65536<=N) (h1:N<=65535) (h:t.length+2<=1000000):qc pg 71 [.ptr 0 0,.d (.i .i64 A),.d (.i .i64 B),.d (.i .i64 N)] [.cells [.osl (x::t)]]=some ⟨false,false,.tup [],[.cells [.osl (x::(t++[mSt A B N]))]],0⟩:=by
 have hT:∀k,(k<=2)=True->t.length+k<=1000000:=fun k hk=>by
  have hk:k<=2:=of_eq_true hk
  omega
 have hw:wr .i32 N=N:=qrD (by omega) (by omega)
 rw [qh (fn:=zF) rfl rfl]
 simp only [zS,zF,v_,m_,o_,i_,c_,qTf,Nat.reduceAdd,qTk,qTi,Nat.reduceEqDiff,reduceCtorEq,hw,qTe,qTm,Nat.reduceLT,List.set_cons_zero,List.set_cons_succ,qTc,Nat.reduceLeDiff,hT,qag hx,ln,Int.reduceNeg,Nat.min_zero,Nat.zero_lt_one,lv,mSt]
theorem qwV {t:List D} {A N:Int} (h0:-65536<=N) (h1:N<=65535) (h:t.length+2<=1000000):qc pg 138 [.ptr 0 0,.d (.i .i64 A),.d (.i .i64 N)] [.cells [.osl (x::t)]]=some ⟨false,false,.tup [],[.cells [.osl (x::(t++[qdU A N]))]],0⟩:=by
 have hT:∀k,(k<=2)=True->t.length+k<=1000000:=fun k hk=>by
  have hk:k<=2:=of_eq_true hk
  omega
 have hw:wr .i32 N=N:=qrD (by omega) (by omega)
 rw [qh (fn:=zY) rfl rfl]
 simp only [zS,zY,v_,m_,o_,i_,c_,qTf,Nat.reduceAdd,qTk,qTi,Nat.reduceEqDiff,reduceCtorEq,hw,qTe,qTm,Nat.reduceLT,List.set_cons_zero,List.set_cons_succ,qTc,Nat.reduceLeDiff,hT,qag hx,ln,Int.reduceNeg,Nat.min_zero,Nat.zero_lt_one,lv,qdU]
theorem qEh {t:List D} {A K:Int} {V:Bool} (h0:0<=K) (h1:K<=65535) (h:t.length+2<=1000000):qc pg 144 [.ptr 0 0,.d (.i .i64 A),.d (.b V),.d (.i .i32 K)] [.cells [.osl (x::t)]]=some ⟨false,false,.tup [],[.cells [.osl (x::(t++[qiA A V K]))]],0⟩:=by
 have hT:∀k,(k<=2)=True->t.length+k<=1000000:=fun k hk=>by
  have hk:k<=2:=of_eq_true hk
  omega
 have hw:wr .i64 K=K:=qdM (by omega) (by omega)
 rw [qh (fn:=zX) rfl rfl]
 simp only [zS,zX,m_,o_,a_,l_,i_,z_,qTf,Nat.reduceAdd,qTk,qTi,reduceCtorEq,qft,qxt,Nat.add_zero,qq5,qTg,List.set_cons_zero,qwF,Nat.min_zero,qxs,Nat.reduceEqDiff,qTe,qTm,Nat.reduceLT,List.set_cons_succ,hw,quJ,qwi,qTc,Nat.reduceLeDiff,qCp,List.take_zero,qTr,List.drop_succ_cons,List.drop_zero,qTn,qao,qkf,List.reduceReplicate,Nat.zero_lt_one,qjG,qnD,qqn,qGS,qtv,qqN,qew,qwq,qnO,qsG,hx,qkq,decide_true,hT,qCc,qnz,yY,qzE,qw5,qz8,qq4,qcn,qrg,Nat.min_self,qvN,lv,qiA,ln]
theorem qii {t:List D} {A:Int}  (h:t.length+3<=1000000):qc pg 67 [.ptr 0 0,.d (.i .i64 A)] [.cells [.osl (x::t)]]=some ⟨false,false,.tup [],[.cells [.osl (x::(t++qbc A))]],0⟩:=by
 have hT:∀k,(k<=3)=True->t.length+k<=1000000:=fun k hk=>by
  have hk:k<=3:=of_eq_true hk
  omega
 rw [qh (fn:=z6) rfl rfl]
 simp only [zS,z6,k_,m_,v_,c_,i_,qTf,Nat.reduceAdd,qTk,qTi,Nat.reduceEqDiff,reduceCtorEq,qTe,qTm,qTc,Int.reduceNeg,Int.reduceLE,Nat.reduceLeDiff,hT,qa2 hx,mSt,ln,Nat.min_zero,qTp,Nat.add_assoc,zU hx,zc,List.append_assoc,qTn,qTr,Nat.min_self,Nat.zero_lt_one,lv,qbc]
theorem qG4 {t:List D} {A:Int}  (h:t.length+3<=1000000):qc pg 74 [.ptr 0 0,.d (.i .i64 A)] [.cells [.osl (x::t)]]=some ⟨false,false,.tup [],[.cells [.osl (x::(t++qs4 A))]],0⟩:=by
 have hT:∀k,(k<=3)=True->t.length+k<=1000000:=fun k hk=>by
  have hk:k<=3:=of_eq_true hk
  omega
 rw [qh (fn:=jl) rfl rfl]
 simp only [zS,jl,k_,m_,c_,i_,v_,qTf,Nat.reduceAdd,qTk,qTi,qTe,qTm,qTc,Int.reduceLE,Nat.reduceLeDiff,hT,zU hx,zc,ln,Int.reduceNeg,Nat.min_zero,reduceCtorEq,Nat.reduceEqDiff,qTp,Nat.add_assoc,qeJ hx,mLd,List.append_assoc,qTn,qTr,Nat.min_self,Nat.zero_lt_one,lv,qs4]
theorem qrB {t:List D}   (h:t.length+3<=1000000):qc pg 70 [.ptr 0 0] [.cells [.osl (x::t)]]=some ⟨false,false,.tup [],[.cells [.osl (x::(t++qcI))]],0⟩:=by
 have hT:∀k,(k<=3)=True->t.length+k<=1000000:=fun k hk=>by
  have hk:k<=3:=of_eq_true hk
  omega
 rw [qh (fn:=z0) rfl rfl]
 simp only [zS,z0,k_,m_,o_,i_,Int.reduceNeg,v_,qTf,qTk,qTi,qTe,qTm,qTc,Int.reduceLE,Nat.reduceLeDiff,hT,qeJ hx,mLd,ln,Nat.min_zero,reduceCtorEq,qTp,Nat.add_assoc,Nat.reduceAdd,List.append_assoc,qTn,qTr,Nat.min_self,Nat.zero_lt_one,lv,qcI]
theorem qwB {t:List D} {N:Int} (h0:0<=N) (h1:N<=1000) (h:t.length+2<=1000000):qc pg 69 [.ptr 0 0,.d (.i .i64 N)] [.cells [.osl (x::t)]]=some ⟨false,false,.tup [],[.cells [.osl (x::(t++qjb N))]],0⟩:=by
 have hT:∀k,(k<=2)=True->t.length+k<=1000000:=fun k hk=>by
  have hk:k<=2:=of_eq_true hk
  omega
 have hw:wr .i64 (N * 4)=N * 4:=qdM (by omega) (by omega)
 have g0:(0<=N * 4)=True:=eq_true (by omega)
 have g1:(N * 4<=65535)=True:=eq_true (by omega)
 rw [qh (fn:=z7) rfl rfl]
 simp only [zS,z7,v_,m_,g_,c_,i_,qTf,Nat.reduceAdd,qTk,qTi,Nat.reduceEqDiff,reduceCtorEq,Bool.or_true,qIS,hw,qTe,qTm,qTc,g0,g1,Nat.reduceLeDiff,hT,zU hx,zc,ln,Int.reduceNeg,Nat.min_zero,Nat.zero_lt_one,lv,qjb]
theorem qmd {t:List D}   (h:t.length+3<=1000000):qc pg 139 [.ptr 0 0] [.cells [.osl (x::t)]]=some ⟨false,false,.tup [],[.cells [.osl (x::(t++qpu))]],0⟩:=by
 have hT:∀k,(k<=3)=True->t.length+k<=1000000:=fun k hk=>by
  have hk:k<=3:=of_eq_true hk
  omega
 rw [qh (fn:=zx) rfl rfl]
 simp only [zS,zx,k_,m_,o_,i_,Int.reduceNeg,v_,c_,qTf,qTk,qTi,qTe,qTm,qTc,Int.reduceLE,Nat.reduceLeDiff,hT,qa2 hx,mSt,ln,Nat.min_zero,reduceCtorEq,qTp,Nat.add_assoc,Nat.reduceAdd,qwB hx,qjb,zc,Int.reduceMul,List.append_assoc,qTn,qTr,Nat.min_self,Nat.zero_lt_one,lv,qpu]
theorem qF0 {t:List D} {O:Int}  (h:t.length+6<=1000000):qc pg 141 [.ptr 0 0,.d (.i .i64 O)] [.cells [.osl (x::t)]]=some ⟨false,false,.tup [],[.cells [.osl (x::(t++qol O))]],0⟩:=by
 have hT:∀k,(k<=6)=True->t.length+k<=1000000:=fun k hk=>by
  have hk:k<=6:=of_eq_true hk
  omega
 rw [qh (fn:=jj) rfl rfl]
 simp only [zS,jj,k_,m_,c_,v_,i_,qTf,Nat.reduceAdd,qTk,qTi,qTe,qTm,qTc,Nat.reduceLeDiff,hT,qrB hx,qcI,mLd,ln,Int.reduceNeg,Nat.min_zero,reduceCtorEq,Nat.reduceEqDiff,qTp,Nat.add_assoc,qq9 hx,qly,List.append_assoc,qTn,qTr,Nat.min_self,qmd hx,qpu,mSt,zc,Nat.zero_lt_one,lv,qol]
theorem qvU {t:List D} {O:Int}  (h:t.length+10<=1000000):qc pg 140 [.ptr 0 0,.d (.i .i64 O)] [.cells [.osl (x::t)]]=some ⟨false,false,.tup [],[.cells [.osl (x::(t++qrI O))]],0⟩:=by
 have hT:∀k,(k<=10)=True->t.length+k<=1000000:=fun k hk=>by
  have hk:k<=10:=of_eq_true hk
  omega
 rw [qh (fn:=kJ) rfl rfl]
 simp only [zS,kJ,k_,m_,c_,i_,v_,qTf,Nat.reduceAdd,qTk,qTi,qTe,qTm,qTc,Nat.reduceLeDiff,hT,qrB hx,qcI,mLd,ln,Int.reduceNeg,Nat.min_zero,reduceCtorEq,qTp,Nat.add_assoc,qq9 hx,qly,List.append_assoc,qTn,qTr,Nat.min_self,Nat.reduceEqDiff,Int.reduceLE,qwV hx,qdU,zU hx,zc,qmd hx,qpu,mSt,Nat.zero_lt_one,lv,qrI]
theorem qGL {t:List D} {K:Int}  (h:t.length+2<=1000000):qc pg 143 [.ptr 0 0,.d (.i .i32 K)] [.cells [.osl (x::t)]]=some ⟨false,false,.tup [],[.cells [.osl (x::(t++qte K))]],0⟩:=by
 have hT:∀k,(k<=2)=True->t.length+k<=1000000:=fun k hk=>by
  have hk:k<=2:=of_eq_true hk
  omega
 rw [qh (fn:=je) rfl rfl]
 simp only [zS,je,v_,m_,o_,i_,c_,qTf,Nat.reduceAdd,qTk,qTi,Nat.reduceEqDiff,reduceCtorEq,qTe,qTm,Nat.reduceLT,List.set_cons_zero,List.set_cons_succ,qTc,Nat.reduceLeDiff,hT,qag hx,ln,Int.reduceNeg,Nat.min_zero,Nat.zero_lt_one,lv,qte]
theorem qBd {t:List D}   (h:t.length+6<=1000000):qc pg 146 [.ptr 0 0] [.cells [.osl (x::t)]]=some ⟨false,false,.tup [],[.cells [.osl (x::(t++qfc))]],0⟩:=by
 have hT:∀k,(k<=6)=True->t.length+k<=1000000:=fun k hk=>by
  have hk:k<=6:=of_eq_true hk
  omega
 rw [qh (fn:=zH) rfl rfl]
 simp only [zS,zH,k_,m_,c_,i_,o_,Int.reduceNeg,v_,qTf,qTk,qTi,qTe,qTm,qTc,Int.reduceLE,Nat.reduceLeDiff,hT,zU hx,zc,ln,Nat.min_zero,reduceCtorEq,qTp,Nat.add_assoc,Nat.reduceAdd,List.append_assoc,qTn,qTr,Nat.min_self,qeJ hx,mLd,Nat.reduceLT,List.set_cons_zero,List.set_cons_succ,Nat.reduceEqDiff,qag hx,Nat.zero_lt_one,lv,qfc]
theorem qzv {t:List D}   (h:t.length+6<=1000000):qc pg 145 [.ptr 0 0,.d (.i .i32 0)] [.cells [.osl (x::t)]]=some ⟨false,false,.tup [],[.cells [.osl (x::(t++qpd 0))]],0⟩:=by
 have hT:∀k,(k<=6)=True->t.length+k<=1000000:=fun k hk=>by
  have hk:k<=6:=of_eq_true hk
  omega
 rw [qh (fn:=kc) rfl rfl]
 simp only [zS,kc,k_,m_,c_,i_,o_,v_,Int.reduceNeg,qTf,Nat.reduceAdd,qTk,qTi,qTe,qTm,qTc,Int.reduceLE,Nat.reduceLeDiff,hT,zU hx,zc,ln,Nat.min_zero,reduceCtorEq,qTp,Nat.add_assoc,qa2 hx,mSt,List.append_assoc,qTn,qTr,Nat.min_self,Nat.reduceEqDiff,qKE,Bool.or_true,decide_true,↓reduceIte,Nat.zero_lt_one,lv,qpd]
theorem qsE {t:List D} {A N:Int} (h0:0<=N) (h1:N<=65535) (h:t.length+2<=1000000):qc pg 24 [.ptr 0 0,.d (.i .i64 A),.d (.i .i32 N)] [.cells [.osl (x::t)]]=some ⟨false,false,.tup [],[.cells [.osl (x::(t++[zc 0 A 0 N]))]],0⟩:=by
 have hT:∀k,(k<=2)=True->t.length+k<=1000000:=fun k hk=>by
  have hk:k<=2:=of_eq_true hk
  omega
 have ha:(N>=-65536)=True:=eq_true (by omega)
 have hb:(N<65536)=True:=eq_true (by omega)
 have hw:wr .i64 N=N:=qdM (by omega) (by omega)
 rw [qh (fn:=qm) rfl rfl]
 simp only [zS,qm,k_,m_,o_,Int.reduceNeg,q_,v_,c_,i_,qTf,Nat.reduceAdd,qTk,qTi,reduceCtorEq,Nat.reduceEqDiff,Bool.or_true,ha,decide_true,↓reduceIte,hb,hw,qTe,qTm,qTc,h0,h1,Nat.reduceLeDiff,hT,zU hx,zc,ln,Nat.min_zero,Nat.zero_lt_one,lv]
theorem qAo {t:List D} {A N:Int} (h0:N<0) (h1:-65536<=N) (h:t.length+2<=1000000):qc pg 24 [.ptr 0 0,.d (.i .i64 A),.d (.i .i32 N)] [.cells [.osl (x::t)]]=some ⟨false,false,.tup [],[.cells [.osl (x::(t++[qu8 A N]))]],0⟩:=by
 have hT:∀k,(k<=2)=True->t.length+k<=1000000:=fun k hk=>by
  have hk:k<=2:=of_eq_true hk
  omega
 have ha:(N>=-65536)=True:=eq_true (by omega)
 have hb:(N<65536)=True:=eq_true (by omega)
 have hw:wr .i64 N=N:=qdM (by omega) (by omega)
 rw [qh (fn:=qm) rfl rfl]
 simp only [zS,qm,k_,m_,o_,Int.reduceNeg,q_,v_,c_,i_,qTf,Nat.reduceAdd,qTk,qTi,reduceCtorEq,Nat.reduceEqDiff,Bool.or_true,ha,decide_true,↓reduceIte,hb,hw,qTe,qTm,qTc,h0,Nat.reduceLeDiff,hT,qDE hx,ln,Nat.min_zero,Nat.zero_lt_one,lv,qu8]
theorem qz1 {t:List D} {N:Int} (h0:0<N) (h1:N<=1000) (h:t.length+13<=1000000):qc pg 145 [.ptr 0 0,.d (.i .i32 N)] [.cells [.osl (x::t)]]=some ⟨false,false,.tup [],[.cells [.osl (x::(t++(qpd N++qt0 N)))]],0⟩:=by
 have hT:∀k,(k<=13)=True->t.length+k<=1000000:=fun k hk=>by
  have hk:k<=13:=of_eq_true hk
  omega
 have hk:((N:Int)=0)=False:=eq_false (by omega)
 have kw:wr .i64 N=N:=qdM (by omega) (by omega)
 rw [qh (fn:=kc) rfl rfl]
 simp only [zS,kc,k_,m_,c_,i_,o_,v_,Int.reduceNeg,qTf,Nat.reduceAdd,qTk,qTi,qTe,qTm,qTc,Int.reduceLE,Nat.reduceLeDiff,hT,zU hx,zc,ln,Nat.min_zero,reduceCtorEq,qTp,Nat.add_assoc,qa2 hx,mSt,List.append_assoc,qTn,qTr,Nat.min_self,Nat.reduceEqDiff,kw,Int.le_of_lt h0,Int.le_trans h1 (by decide:(1000:Int)<=65535),Bool.or_true,hk,decide_false,qTb,↓reduceIte,qsE hx,qwV hx,qdU,Nat.zero_lt_one,lv,qpd,qt0]
theorem qDU {t:List D}   (h:t.length+5<=1000000):qc pg 72 [.ptr 0 0,.d (.i .i64 6)] [.cells [.osl (x::t)]]=some ⟨false,false,.tup [],[.cells [.osl (x::(t++qq6 [zc 1 0 0 2,mLd 0 0 0]))]],0⟩:=by
 have hT:∀k,(k<=5)=True->t.length+k<=1000000:=fun k hk=>by
  have hk:k<=5:=of_eq_true hk
  omega
 rw [qh (fn:=kV) rfl rfl]
 simp only [zS,kV,k_,m_,o_,i_,Int.reduceNeg,g_,c_,v_,qTf,Nat.reduceAdd,qTk,qTi,qTe,qTm,qTc,Int.reduceLE,Nat.reduceLeDiff,hT,qeJ hx,mLd,ln,Nat.min_zero,Nat.reduceEqDiff,reduceCtorEq,Bool.or_true,Int.reduceEq,decide_false,qTb,↓reduceIte,decide_true,qTp,Nat.add_assoc,zU hx,zc,List.append_assoc,qTn,qTr,Nat.min_self,kn,qwT,qa2 hx,mSt,Nat.zero_lt_one,lv,qq6]
theorem qAU {t:List D}   (h:t.length+5<=1000000):qc pg 72 [.ptr 0 0,.d (.i .i64 14)] [.cells [.osl (x::t)]]=some ⟨false,false,.tup [],[.cells [.osl (x::(t++qq6 [zc 0 1 0 0,qly 9 0 1 0]))]],0⟩:=by
 have hT:∀k,(k<=5)=True->t.length+k<=1000000:=fun k hk=>by
  have hk:k<=5:=of_eq_true hk
  omega
 rw [qh (fn:=kV) rfl rfl]
 simp only [zS,kV,k_,m_,o_,i_,Int.reduceNeg,g_,c_,v_,qTf,Nat.reduceAdd,qTk,qTi,qTe,qTm,qTc,Int.reduceLE,Nat.reduceLeDiff,hT,qeJ hx,mLd,ln,Nat.min_zero,Nat.reduceEqDiff,reduceCtorEq,Bool.or_true,decide_true,↓reduceIte,qTp,Nat.add_assoc,zU hx,zc,List.append_assoc,qTn,qTr,Nat.min_self,qq9 hx,qly,kn,qwT,qa2 hx,mSt,Nat.zero_lt_one,lv,qq6]
theorem qxP {t:List D} {A:Int}  (h:t.length+3<=1000000):qc pg 24 [.ptr 0 0,.d (.i .i64 A),.d (.i .i32 65540)] [.cells [.osl (x::t)]]=some ⟨false,false,.tup [],[.cells [.osl (x::(t++qpA A 4))]],0⟩:=by
 have hT:∀k,(k<=3)=True->t.length+k<=1000000:=fun k hk=>by
  have hk:k<=3:=of_eq_true hk
  omega
 have q1:qey .shr .num true (.d (.i .u32 65540)) (.d (.i .u64 16))=some (.d (.i .u32 1)):=by kernel_rfl
 have q2:qey .and .num true (.d (.i .u32 65540)) (.d (.i .u32 65535))=some (.d (.i .u32 4)):=by kernel_rfl
 have q3:wr .u32 65540=65540:=rfl
 rw [qh (fn:=qm) rfl rfl]
 simp only [zS,qm,k_,m_,o_,Int.reduceNeg,q_,v_,c_,i_,qTf,Nat.reduceAdd,qTk,qTi,reduceCtorEq,Nat.reduceEqDiff,Bool.or_true,Int.reduceLE,decide_true,↓reduceIte,Int.reduceLT,decide_false,qTb,q3,q1,qRw,qTe,qTm,Nat.reduceLT,List.set_cons_zero,List.set_cons_succ,qTc,Nat.reduceLeDiff,hT,qag hx,ln,Nat.min_zero,q2,qKE,qTp,Nat.add_assoc,zU hx,zc,List.append_assoc,qTn,qTr,Nat.min_self,Nat.zero_lt_one,lv,qpA]
theorem qx1 {t:List D} {A:Int}  (h:t.length+3<=1000000):qc pg 24 [.ptr 0 0,.d (.i .i64 A),.d (.i .i32 65541)] [.cells [.osl (x::t)]]=some ⟨false,false,.tup [],[.cells [.osl (x::(t++qpA A 5))]],0⟩:=by
 have hT:∀k,(k<=3)=True->t.length+k<=1000000:=fun k hk=>by
  have hk:k<=3:=of_eq_true hk
  omega
 have q1:qey .shr .num true (.d (.i .u32 65541)) (.d (.i .u64 16))=some (.d (.i .u32 1)):=by kernel_rfl
 have q2:qey .and .num true (.d (.i .u32 65541)) (.d (.i .u32 65535))=some (.d (.i .u32 5)):=by kernel_rfl
 have q3:wr .u32 65541=65541:=rfl
 rw [qh (fn:=qm) rfl rfl]
 simp only [zS,qm,k_,m_,o_,Int.reduceNeg,q_,v_,c_,i_,qTf,Nat.reduceAdd,qTk,qTi,reduceCtorEq,Nat.reduceEqDiff,Bool.or_true,Int.reduceLE,decide_true,↓reduceIte,Int.reduceLT,decide_false,qTb,q3,q1,qRw,qTe,qTm,Nat.reduceLT,List.set_cons_zero,List.set_cons_succ,qTc,Nat.reduceLeDiff,hT,qag hx,ln,Nat.min_zero,q2,qKE,qTp,Nat.add_assoc,zU hx,zc,List.append_assoc,qTn,qTr,Nat.min_self,Nat.zero_lt_one,lv,qpA]
theorem qDj {N:Int} (h0:0<=N) (h1:N<=1000):qpy x 1 N:=by
 intro t m hm h
 have hT:∀k,(k<=20)=True->t.length+k<=1000000:=fun k hk=>by
  have hk:k<=20:=of_eq_true hk
  omega
 have h2:N<=65535:=by omega
 have hw:wr .i64 N=N:=qdM (by omega) (by omega)
 have hn:-65536<=N:=by omega
 have eg:leI 0 N=true:=by rw [jx];exact decide_eq_true (by omega)
 have eh:leI N 1000=true:=by rw [jx];exact decide_eq_true (by omega)
 simp only [qha,qgV,decide_true,eg,eh,qTc,zc,ln,Int.reduceNeg,qbc,mSt,qpA,qTn,qTr,jx,hn,qTl,Bool.and_false,qu8,Bool.cond_false,Bool.cond_decide,Bool.cond_true,Int.reduceEq,decide_false,qs4,mLd,qiA,qq6,qcI,qjb,Int.reduceMul,qol,qly,qpu,qrI,qdU,qpd,qt0,qfc,qte] at hm
 cases hm
 rw [qh (fn:=qg) rfl rfl]
 simp only [zS,qg,k_,o_,a_,d_,g_,m_,c_,i_,v_,Int.reduceNeg,q_,l_,s_,qTf,Nat.reduceAdd,qTk,qTi,reduceCtorEq,qTe,qTm,qTc,Nat.add_zero,Nat.reduceEqDiff,qTg,qTh,Bool.or_true,decide_true,↓reduceIte,qTo,h0,h2,Nat.reduceLeDiff,hT,qsE hx,zc,ln,Nat.min_zero,qTp,Nat.add_assoc,qii hx,qbc,mSt,List.append_assoc,qTn,qTr,Nat.min_self,Nat.zero_lt_one,lv]
theorem qDi {N:Int} (h0:N<0) (h1:-65536<=N):qpy x 1 N:=by
 intro t m hm h
 have hT:∀k,(k<=20)=True->t.length+k<=1000000:=fun k hk=>by
  have hk:k<=20:=of_eq_true hk
  omega
 have eg:leI 0 N=false:=by rw [jx];exact decide_eq_false (by omega)
 have eh:leI (-65536) N=true:=by rw [jx];exact decide_eq_true (by omega)
 have en1:(N=65540)=False:=eq_false (by omega)
 have en2:(N=65541)=False:=eq_false (by omega)
 simp only [qha,qgV,decide_true,eg,jx,Bool.false_and,zc,ln,Int.reduceNeg,qbc,mSt,en1,decide_false,qpA,qTn,qTr,en2,eh,h1,Bool.not_false,qTc,qu8,Bool.cond_true,Bool.cond_false,Int.reduceEq,qs4,mLd,qiA,qq6,qcI,qjb,Int.reduceMul,qol,qly,qpu,qrI,qdU,qpd,qt0,Bool.cond_decide,qfc,qte] at hm
 cases hm
 rw [qh (fn:=qg) rfl rfl]
 simp only [zS,qg,k_,o_,a_,d_,g_,m_,c_,i_,v_,Int.reduceNeg,q_,l_,s_,qTf,Nat.reduceAdd,qTk,qTi,reduceCtorEq,qTe,qTm,qTc,Nat.add_zero,Nat.reduceEqDiff,qTg,qTh,Bool.or_true,decide_true,↓reduceIte,qTo,h0,h1,Nat.reduceLeDiff,hT,qAo hx,qu8,ln,Nat.min_zero,qTp,Nat.add_assoc,qii hx,qbc,mSt,zc,List.append_assoc,qTn,qTr,Nat.min_self,Nat.zero_lt_one,lv]
theorem qAE   : qpy x 1 65540:=by
 intro t m hm h
 have hT:∀k,(k<=20)=True->t.length+k<=1000000:=fun k hk=>by
  have hk:k<=20:=of_eq_true hk
  omega
 simp only [qha,qgV,decide_true,jx,Int.reduceLE,decide_false,Bool.and_false,zc,ln,Int.reduceNeg,qbc,mSt,qpA,qTn,qTr,Int.reduceEq,qTl,qu8,Int.reduceAdd,Bool.cond_false,Bool.cond_true,Bool.not_false,qs4,mLd,qiA,qq6,qcI,qjb,Int.reduceMul,qol,qly,qpu,qrI,qdU,qpd,qt0,qfc,qte] at hm
 cases hm
 rw [qh (fn:=qg) rfl rfl]
 simp only [zS,qg,k_,o_,a_,d_,g_,m_,c_,i_,v_,Int.reduceNeg,q_,l_,s_,qTf,Nat.reduceAdd,qTk,qTi,reduceCtorEq,qTe,qTm,qTc,Nat.add_zero,Nat.reduceEqDiff,qTg,qTh,Bool.or_true,decide_true,↓reduceIte,qTo,Int.reduceLE,Nat.reduceLeDiff,hT,qxP hx,qpA,ln,zc,Nat.min_zero,qTp,Nat.add_assoc,qii hx,qbc,mSt,List.append_assoc,qTn,qTr,Nat.min_self,Nat.zero_lt_one,lv]
theorem qBa   : qpy x 1 65541:=by
 intro t m hm h
 have hT:∀k,(k<=20)=True->t.length+k<=1000000:=fun k hk=>by
  have hk:k<=20:=of_eq_true hk
  omega
 simp only [qha,qgV,decide_true,jx,Int.reduceLE,decide_false,Bool.and_false,zc,ln,Int.reduceNeg,qbc,mSt,Int.reduceEq,qpA,qTn,qTr,qTl,qu8,Int.reduceAdd,Bool.cond_false,Bool.cond_true,Bool.not_false,qs4,mLd,qiA,qq6,qcI,qjb,Int.reduceMul,qol,qly,qpu,qrI,qdU,qpd,qt0,qfc,qte] at hm
 cases hm
 rw [qh (fn:=qg) rfl rfl]
 simp only [zS,qg,k_,o_,a_,d_,g_,m_,c_,i_,v_,Int.reduceNeg,q_,l_,s_,qTf,Nat.reduceAdd,qTk,qTi,reduceCtorEq,qTe,qTm,qTc,Nat.add_zero,Nat.reduceEqDiff,qTg,qTh,Bool.or_true,decide_true,↓reduceIte,qTo,Int.reduceLE,Nat.reduceLeDiff,hT,qx1 hx,qpA,ln,zc,Nat.min_zero,qTp,Nat.add_assoc,qii hx,qbc,mSt,List.append_assoc,qTn,qTr,Nat.min_self,Nat.zero_lt_one,lv]
theorem qA7   : qpy x 28 0:=by
 intro t m hm h
 have hT:∀k,(k<=20)=True->t.length+k<=1000000:=fun k hk=>by
  have hk:k<=20:=of_eq_true hk
  omega
 simp only [qha,qgV,Int.reduceEq,decide_false,jx,Int.reduceLE,decide_true,qTc,zc,ln,Int.reduceNeg,qbc,mSt,qpA,qTn,qTr,qTl,Bool.and_false,qu8,Int.reduceAdd,Bool.cond_false,Bool.cond_true,qs4,mLd,qiA,qq6,qcI,qjb,Int.reduceMul,qol,qly,qpu,qrI,qdU,qpd,qt0,qfc,qte] at hm
 cases hm
 rw [qh (fn:=qg) rfl rfl]
 simp only [zS,qg,k_,o_,a_,d_,g_,m_,c_,i_,v_,Int.reduceNeg,q_,l_,s_,qTf,Nat.reduceAdd,qTk,qTi,reduceCtorEq,qTe,qTm,qTc,Nat.add_zero,Nat.reduceEqDiff,qTg,qTh,Bool.or_true,Int.reduceEq,decide_false,qTb,↓reduceIte,Int.reduceLE,decide_true,qqA,Nat.reduceLeDiff,qpw,List.drop_zero,List.take_succ_cons,List.take_zero,qFi,f_genrisc_gen_leads,qTo,hT,qzv hx,qpd,zc,ln,mSt,Nat.min_zero,Nat.zero_lt_one,lv]
theorem qEs {N:Int} (h0:0<N) (h1:N<=1000):qpy x 28 N:=by
 intro t m hm h
 have hT:∀k,(k<=20)=True->t.length+k<=1000000:=fun k hk=>by
  have hk:k<=20:=of_eq_true hk
  omega
 have hz:(N=0)=False:=eq_false (by omega)
 have eg:leI 0 N=true:=by rw [jx];exact decide_eq_true (by omega)
 have eh:leI N 1000=true:=by rw [jx];exact decide_eq_true (by omega)
 simp only [qha,qgV,Int.reduceEq,decide_false,eg,eh,qTc,zc,ln,Int.reduceNeg,qbc,mSt,qpA,qTn,qTr,jx,qTl,Bool.and_false,qu8,Bool.cond_false,Bool.cond_decide,Bool.cond_true,qs4,mLd,qiA,qq6,qcI,qjb,Int.reduceMul,qol,qly,qpu,qrI,qdU,decide_true,hz,qpd,qt0,qfc,qte] at hm
 cases hm
 rw [qh (fn:=qg) rfl rfl]
 simp only [zS,qg,k_,o_,a_,d_,g_,m_,c_,i_,v_,Int.reduceNeg,q_,l_,s_,qTf,Nat.reduceAdd,qTk,qTi,reduceCtorEq,qTe,qTm,qTc,Nat.add_zero,Nat.reduceEqDiff,qTg,qTh,Bool.or_true,Int.reduceEq,decide_false,qTb,↓reduceIte,Int.reduceLE,decide_true,qqA,Nat.reduceLeDiff,qpw,List.drop_zero,List.take_succ_cons,List.take_zero,qFi,f_genrisc_gen_leads,qTo,h0,h1,hT,qz1 hx,qpd,zc,ln,mSt,qt0,qdU,qTn,qTr,Nat.min_zero,Nat.zero_lt_one,lv]
omit hx in
theorem qES {op k:Int} {m:List D} (h1:op≠1) (h:qha op k=some m):0<=k/\k<=1000:=by
 have e1:eqI op 1=false:=by rw [qgV];exact decide_eq_false h1
 unfold qha at h
 rw [e1,cond_false] at h
 cases hb:(leI 0 k && leI k 1000) with
 | true=>
  simp only [qS6,jx,decide_eq_true_eq] at hb
  exact hb
 | false=>rw [hb] at h;cases h
theorem qLy {op k:Int} {m:List D} (h:qha op k=some m):qpy x op k:=by
 by_cases q1:op=1
 ·subst q1
  by_cases a:0<=k/\k<=1000
  ·exact qDj hx a.1 a.2
  by_cases b:k=65540
  ·subst b;exact qAE hx
  by_cases c:k=65541
  ·subst c;exact qBa hx
  by_cases d:k<0/\-65536<=k
  ·exact qDi hx d.1 d.2
  exfalso
  unfold qha at h
  have e1:(leI 0 k && leI k 1000)=false:=by simp only [jx,Bool.and_eq_false_iff,decide_eq_false_iff_not];omega
  have e2:(leI (-65536) k && !leI 0 k)=false:=by simp only [jx,Bool.and_eq_false_iff,Bool.not_eq_false',decide_eq_false_iff_not,decide_eq_true_eq];omega
  have e3:eqI k 65540=false:=by rw [qgV];exact decide_eq_false b
  have e4:eqI k 65541=false:=by rw [qgV];exact decide_eq_false c
  rw [e1,e2,e3,e4] at h
  cases h
 obtain ⟨h0,h1⟩:=qES q1 h
 by_cases q28:op=28
 ·subst q28
  by_cases z:k=0
  ·subst z;exact qA7 hx
  ·exact qEs hx (by omega) h1
 have eg:leI 0 k=true:=by rw [jx];exact decide_eq_true h0
 have eh:leI k 1000=true:=by rw [jx];exact decide_eq_true h1
 have hop:op=0\/op=2\/op=3\/op=4\/op=5\/op=6\/op=7\/op=9\/op=10\/op=12\/op=13\/op=14\/op=15\/op=19\/op=20\/op=22\/op=23\/op=24\/op=25\/op=26\/op=27\/op=29\/op=30\/op=33:=by
  refine Decidable.byContradiction fun hn=>?_
  simp only [not_or] at hn
  obtain ⟨q0,q2,q3,q4,q5,q6,q7,q9,q10,q12,q13,q14,q15,q19,q20,q22,q23,q24,q25,q26,q27,q29,q30,q33⟩:=hn
  unfold qha at h
  simp only [qgV,eg,eh,qTc,qTl,Bool.cond_false,Bool.cond_decide,q1,q28,q0,q2,q3,q4,q5,q6,q7,q9,q10,q12,q13,q14,q15,q19,q20,q22,q23,q24,q25,q26,q27,q29,q30,q33,if_false] at h
  cases h
 have h2:k<=65535:=by omega
 have hw:wr .i64 k=k:=qdM (by omega) (by omega)
 have hn:-65536<=k:=by omega
 clear h
 intro t m hm h
 have hT:∀k,(k<=20)=True->t.length+k<=1000000:=fun k hk=>by
  have hk:k<=20:=of_eq_true hk
  omega
 rcases hop with rfl|rfl|rfl|rfl|rfl|rfl|rfl|rfl|rfl|rfl|rfl|rfl|rfl|rfl|rfl|rfl|rfl|rfl|rfl|rfl|rfl|rfl|rfl|rfl
 all_goals
  simp only [qha,qgV,Int.reduceEq,decide_false,eg,eh,qTc,zc,ln,Int.reduceNeg,qbc,mSt,qpA,qTn,qTr,jx,qTl,Bool.and_false,qu8,Bool.cond_false,Bool.cond_decide,Bool.cond_true,qs4,mLd,qiA,qq6,qcI,qjb,Int.reduceMul,qol,qly,qpu,qrI,qdU,qpd,qt0,qfc,qte,decide_true] at hm
  cases hm
  rw [qh (fn:=qg) rfl rfl]
  simp only [zS,qg,k_,o_,a_,d_,g_,m_,c_,i_,v_,Int.reduceNeg,q_,l_,s_,qTf,Nat.reduceAdd,qTk,qTi,reduceCtorEq,qTe,qTm,qTc,Nat.add_zero,Nat.reduceEqDiff,qTg,qTh,Bool.or_true,Int.reduceEq,decide_false,qTb,↓reduceIte,Int.reduceLE,qnm,qCJ,Nat.reduceLeDiff,qpw,List.drop_zero,List.take_succ_cons,List.take_zero,qFi,f_genrisc_gen_leads,decide_true,hT,qGL hx,qte,ln,Nat.min_zero,Nat.zero_lt_one,lv,qeJ hx,mLd,qTp,Nat.add_assoc,qii hx,qbc,mSt,zc,List.append_assoc,qTn,qTr,Nat.min_self,qwB hx,qjb,Int.reduceMul,qrB hx,qcI,qa2 hx,qTo,hw,h0,h2,zU hx,qDU hx,qq6,qqA,qQs,f_genrisc_gen_reckon,qR1,f_genrisc_operation,qfb,qhJ,qrz,qB6,qo0,qy7,lvd,qF0 hx,qol,qly,qpu,qq9 hx,Nat.reduceLT,List.set_cons_zero,List.set_cons_succ,qag hx,qmd hx,qAU hx,qvU hx,qrI,qdU,qEh hx,qiA,qG4 hx,qs4,qBd hx,qfc]
end
end W
namespace W
set_option maxRecDepth 100000
structure InR where
 x:D
 w:Int
def q (f u v a b o c i w:Int):InR:=⟨.agg [.i .i64 f,.b (eqI u 1),.b (eqI v 1),.i .i64 a,.i .i64 b,.i .i64 o,.i .i64 c,.i .i32 i],w⟩
def plI:List InR:=[q 2 0 0 0 13 0 0 (-4) 2162163708,
 q 2 1 0 0 13 0 0 0 2697986048,
 q 1 0 0 13 13 0 8 4 1306001412,
 q 2 0 0 1 13 0 0 (-8) 2178940920,
 q 1 0 0 13 13 0 9 4 1306066948,
 q 2 1 0 0 13 0 0 (-4) 2699034620,
 q 1 0 0 0 0 0 1 2 1073807362,
 q 2 0 0 0 0 0 0 0 2147483648,
 q 1 0 0 0 12 0 8 1 1086849025,
 q 2 1 0 1 13 0 0 (-8) 2715811832,
 q 2 0 0 0 13 0 0 0 2161115136,
 q 1 0 0 1 1 0 1 2 1091633154,
 q 2 1 0 0 1 0 0 0 2685403136,
 q 1 0 0 13 13 0 9 8 1306066952,
 q 1 0 0 0 12 0 8 0 1086849024,
 q 1 0 0 1 0 0 0 0 1090519040,
 q 2 1 0 0 13 0 0 (-8) 2699034616,
 q 2 1 0 1 13 0 0 (-4) 2715811836,
 q 2 1 0 3 0 0 0 0 2734686208,
 q 1 0 0 0 0 0 8 4 1074266116,
 q 1 0 0 1 1 0 9 1 1092157441,
 q 3 1 0 9 0 0 0 (-4) 3925868540,
 q 0 0 0 1 1 0 8 0 18350080,
 q 2 1 0 0 1 0 0 (-64) 2686451648,
 q 1 0 0 0 0 0 0 1 1073741825,
 q 0 0 0 1 1 0 9 0 18415616,
 q 1 0 0 2 12 0 1 2 1119944706,
 q 1 0 0 11 12 0 9 2 1271463938,
 q 2 0 0 15 2 0 0 (-8) 2402287608,
 q 2 0 0 12 2 0 0 (-4) 2351955964,
 q 3 0 0 7 0 15 0 0 3338665999,
 q 3 1 0 7 0 0 0 1 3875536897,
 q 1 0 0 1 0 0 0 1 1090519041,
 q 1 0 0 0 0 0 0 0 1073741824,
 q 1 0 0 2 11 0 1 2 1118896130,
 q 2 1 0 15 2 0 0 0 2938109952,
 q 2 1 0 12 2 0 0 4 2887778308,
 q 1 0 0 12 11 0 8 2 1287127042,
 q 1 0 0 0 12 0 1 2 1086390274,
 q 1 0 0 3 0 0 0 0 1124073472,
 q 1 0 0 11 12 0 8 2 1271398402,
 q 1 0 0 1 0 0 0 2 1090519042,
 q 3 1 0 5 0 0 0 2 3841982466,
 q 3 1 0 1 0 0 0 2 3774873602,
 q 0 0 0 1 1 0 4 0 18087936,
 q 1 0 0 0 0 0 0 2 1073741826,
 q 1 0 0 0 0 0 0 4 1073741828,
 q 1 0 1 0 0 0 0 65504 1342242784,
 q 1 0 0 0 0 0 0 52 1073741876,
 q 1 0 0 0 12 0 8 2 1086849026,
 q 1 0 0 0 0 0 0 10 1073741834,
 q 0 0 0 1 1 0 11 0 18546688,
 q 1 0 1 0 0 0 0 65535 1342242815,
 q 3 0 1 7 0 12 0 1 3607101468,
 q 3 1 0 6 0 0 0 2 3858759682,
 q 0 0 0 1 1 0 1 0 17891328,
 q 1 0 0 0 0 0 0 56 1073741880,
 q 3 1 0 1 0 0 0 51 3774873651,
 q 1 0 0 13 0 0 0 912 1291846544,
 q 1 0 0 11 0 0 0 4 1258291204,
 q 1 0 0 12 0 0 0 4 1275068420,
 q 1 0 0 11 12 0 8 0 1271398400,
 q 1 0 0 0 0 0 0 7 1073741831,
 q 3 1 1 7 0 0 0 672 4143973024,
 q 3 0 1 7 0 12 0 0 3607101452,
 q 1 0 0 11 12 0 8 13 1271398413,
 q 1 0 0 1 0 0 0 13 1090519053,
 q 3 1 0 1 0 0 0 127 3774873727,
 q 0 1 0 1 0 0 0 0 553648128,
 q 1 0 0 0 0 0 0 48 1073741872,
 q 3 1 0 1 0 0 0 1 3774873601,
 q 3 1 0 7 0 0 0 (-61) 3892314051,
 q 3 0 1 7 0 12 0 2 3607101484,
 q 3 0 1 7 0 12 0 3 3607101500,
 q 3 0 1 7 0 12 0 4 3607101516,
 q 3 0 1 7 0 12 0 5 3607101532,
 q 3 0 1 7 0 12 0 6 3607101548,
 q 3 0 1 7 0 12 0 7 3607101564,
 q 3 0 1 7 0 12 0 8 3607101580,
 q 3 0 1 7 0 12 0 9 3607101596,
 q 3 1 0 1 0 0 0 (-71) 3791650745,
 q 3 1 0 1 0 0 0 (-93) 3791650723,
 q 3 1 0 1 0 0 0 99 3774873699,
 q 3 1 0 1 0 0 0 66 3774873666,
 q 3 1 0 1 0 0 0 8 3774873608,
 q 1 0 0 0 0 0 0 3 1073741827,
 q 3 1 0 7 0 0 0 (-76) 3892314036,
 q 3 1 0 1 0 0 0 (-325) 3791650491,
 q 3 1 0 1 0 0 0 32 3774873632,
 q 0 0 0 1 1 0 2 0 17956864,
 q 3 1 0 1 0 0 0 (-561) 3791650255,
 q 3 1 0 1 0 0 0 (-591) 3791650225,
 q 3 1 0 1 0 0 0 40 3774873640,
 q 1 0 0 0 0 0 0 45 1073741869,
 q 0 0 0 0 1 0 9 0 1638400,
 q 3 1 0 1 0 0 0 75 3774873675,
 q 1 0 0 0 0 0 0 50 1073741874,
 q 1 0 0 0 0 0 0 49 1073741873,
 q 1 0 0 0 0 0 0 55 1073741879,
 q 1 0 0 0 0 0 0 51 1073741875,
 q 1 0 0 0 0 0 0 54 1073741878,
 q 3 1 0 7 0 0 0 (-109) 3892314003,
 q 3 1 0 1 0 0 0 77 3774873677,
 q 3 1 0 1 0 0 0 59 3774873659,
 q 3 1 0 7 0 0 0 (-86) 3892314026]
def plE:List Ent:=plI.map fun p=>⟨77,[p.x],.tup [.i .u32 p.w,.i .i64 0]⟩
def pgE:Pg:=⟨fun n=>bif qTd n 77 then none else pg.fn n,fun i vs H=>bif qTd i 623 then ixX vs H else qvJ plE i vs H⟩
theorem qCy:qw pgE.ext:=fun i vs H r h=>by
 simp only [pgE,qS5] at h
 split at h
 ·exact qrK i vs H r h
 ·exact qp1 i vs H r h
end W
/- Words out of what was laid; what stands in for the two functions in kernel runs. -/
namespace W
open Go (IntKind BinOp UnOp)
set_option maxRecDepth 20000
def qH4 (x:D):Option Int:=match pick 77 [.d x] plE with
 | some ⟨_,_,.tup [.i .u32 w,.i .i64 (.ofNat 0)]⟩=>some w
 | _=>none
noncomputable def qpk (starts:List D):List D->Nat->List Int->Option (List Int)
 | [],_,acc=>some acc.reverse
 | .agg [.i .i64 F,.b U,.b X,.i .i64 A,.i .i64 B,.i .i64 C,.i .i64 O,.i .i32 I,.i .i64 to]::l,i,acc=>
  bif leI 0 to then (match starts[to.toNat]? with
   | some (.i .i64 s)=>(match qH4 (.agg [.i .i64 F,.b U,.b X,.i .i64 A,.i .i64 B,.i .i64 C,.i .i64 O,.i .i32 (wr .i32 (wr .i64 (wr .i64 (s - i) - 1)))]) with
    | some w=>qq (Nat.succ i) fun i=>qpk starts l i (w::acc)
    | none=>none)
   | _=>none)
  else (match qH4 (.agg [.i .i64 F,.b U,.b X,.i .i64 A,.i .i64 B,.i .i64 C,.i .i64 O,.i .i32 I]) with
    | some w=>qq (Nat.succ i) fun i=>qpk starts l i (w::acc)
    | none=>none)
 | _::_,_,_=>none
def wU (w:Int):D:=.i .u32 w
theorem qyS {x:D} {w:Int} {H:List Obj} (h:qH4 x=some w):qc pgE 77 [.d x] H=some ⟨false,true,.tup [.d (.i .u32 w),.d (.i .i64 0)],H,H.length⟩:=by
 unfold qH4 at h
 split at h
 ·rename_i hp
  cases h
  rw [qre]
  have hf:pgE.fn 77=none:=rfl
  simp only [qt,hf]
  show qvJ plE 77 [.d x] H=_
  simp only [qvJ,hp,Out.v,qTe,qTm]
  rfl
 ·cases h
noncomputable def wl0 (v1 v6 v14 v15 v16:V) (H:List Obj) (lo:Nat):Option (Ex × St):=exL pgE kF ⟨[(1,v1),(6,v6),(14,v14),(15,v15),(16,v16)],H,lo⟩
theorem qAJ {e:Env} {H:List Obj} {lo:Nat}:exL pgE kF ⟨e,H,lo⟩=wl0 (qaO (get 1 e)) (qaO (get 6 e)) (qaO (get 14 e)) (qaO (get 15 e)) (qaO (get 16 e)) H lo:=qHS
theorem qAz {v1 v6 v14 v15 v16:V} {H:List Obj} {lo:Nat}:wl0 v1 v6 v14 v15 v16 H lo=qwA pgE (exL pgE kI ⟨[(1,qaO v1),(6,qaO v6),(14,qaO v14),(15,qaO v15),(16,qaO v16)],H,lo⟩) kF:=by
 unfold wl0 kF;rw [qvu];simp only [kn,yh,qmG,qmc,Nat.reduceEqDiff]
theorem qBT {l starts:List D} {H:List Obj} (hl:l.length<=1000000):∀(l2 l1:List D) (acc r:List Int),l=l1++l2->acc.length<=l1.length->qpk starts l2 l1.length acc=some r->
  ∃e,wl0 (.osl starts) (slV wU acc.reverse) (.d (.sl l)) (.d (.i .i64 (l.length:Int))) (.d (.i .i64 (l1.length:Int))) H H.length=some (.exit 0,⟨e,H,H.length⟩)/\get 6 e=slV wU r:=by
 intro l2
 induction l2 with
 | nil=>
  intro l1 acc r he ha h
  simp only [qpk,Option.some.injEq] at h
  subst h
  have hlt:((l1.length:Int)<(l.length:Int))=False:=by rw [he];simp
  rw [qAz]
  simp only [kI,k_,e_,m_,x_,o_,s_,z_,a_,d_,g_,h_,l_,c_,r_,v_,qnu,qnw,qtC,qnI,qnK,qiC,qi8,qyI,Bool.or_self,qEW,Nat.reduceEqDiff,qmc,qmG,qnn,qnL,hlt,decide_false,qik,qrP,qwO,qcr,qeM,qmI,qp2,qTb,↓reduceIte,qE0,qBr]
  exact ⟨_,rfl,rfl⟩
 | cons y l2 ih=>
  intro l1 acc r he ha h
  have hlt:((l1.length:Int)<(l.length:Int))=True:=by rw [he];simp;omega
  have hll:l1.length<l.length:=by rw [he];simp
  have hw1:wr .i64 ((l1.length:Int)+1)=((l1++[y]).length:Int):=by simp;rw [qdM (by omega) (by omega)]
  have hx:iaV (.d (.sl l)) (.d (.i .i64 (l1.length:Int))) 9 none=(bif qTd y.cells.length 9 then some (.cp y) else none):=by
   have:l[l1.length]?=some y:=by rw [he];simp
   simp only [iaV]
   simp [this,jx]
  have ap:∀w,jf 1 4 (slV wU acc.reverse) (.d (.sl [.i .u32 w]))=some (slV wU (w::acc).reverse):=fun w=>by
   rw [List.reverse_cons]
   exact qGl (e:=wU) (x:=w) (fun _=>rfl) (by unfold roomy;simp;omega)
  have hs:∀i:Nat,Nat.succ l1.length=(l1++[y]).length:=fun _=>by simp
  unfold qpk at h
  split at h
  ·rename_i heq;cases heq
  ·rename_i F U X A B C O I to tl heq
   cases heq
   cases ht:leI 0 to with
   | true=>
    rw [ht,cond_true] at h
    split at h
    ·rename_i s hst
     split at h
     ·rename_i w hw
      rw [qW,hs 0] at h
      have hto:(to>=0)=True:=by rw [jx,decide_eq_true_eq] at ht;exact eq_true ht
      have hix:iaV (.d (.sl starts)) (.d (.i .i64 to)) 1 none=some (.cp (.i .i64 s)):=qNJ (by rw [jx,decide_eq_true_eq] at ht;exact ht) hst (eq_true rfl)
      obtain ⟨e,h1,h2⟩:=ih (l1++[_]) _ r (by rw [he];simp) (by simp;omega) h
      refine ⟨e,?_,h2⟩
      rw [<- h1]
      rw [qAz]
      simp only [kI,k_,e_,m_,x_,o_,s_,z_,a_,d_,g_,h_,l_,c_,r_,v_,qnu,qnw,qtC,qnI,qnK,qiC,qi8,qyI,Bool.or_self,qEW,Nat.reduceEqDiff,qmc,qmG,qnn,qnL,hlt,decide_true,qik,qrP,qwO,qcr,qeM,qmI,qp2,↓reduceIte,qqT,qh3,qiX,qqL,qko,hx,qkf,qTk,qTi,qTf,Nat.reduceAdd,qkq,cond_true,qGh,qf0,qzg,qqD,qby,qTe,qTm,qts,qhm,qtA,qzs,qww,qwU,qjw,yY,qnv,qiy,qnG,qnt,qyv,qCe,qHi,qrp,qTc,qfn,qbQ,qc3,qvN,yx,qxU,qx6,qqv,qqt,qyi,qTo,qTg,qTh,qtG,qCN,Bool.or_true,qGN,qqR,hto,qnO,hix,qBR,qIQ,qjK,Nat.add_zero,qCB,qxJ,qrb,qmU,Nat.reduceLT,qcn,List.set_cons_succ,List.set_cons_zero,Nat.reduceLeDiff,qpw,List.drop_zero,List.take_succ_cons,List.take_zero,qqW,qxN,qqp,qjV,qnF,qjR,qcy,qqU,qeB,qty,qyS hw,qj1,qcx,qes,Nat.min_self,qtw,qnm,qoy,qFc,qFS,qGH,qyw,qTl,qTb,qwh,qCE,qao,qzc,List.reduceReplicate,qjG,qnD,qqn,qHf,qtv,qqN,qxs,qew,ap,qnz,qf1,kn,yh,qnp,hw1,qTp,qAJ]
     ·cases h
    ·cases h
   | false=>
    rw [ht,cond_false] at h
    split at h
    ·rename_i w hw
     rw [qW,hs 0] at h
     have hto:(to>=0)=False:=by rw [jx,decide_eq_false_iff_not] at ht;exact eq_false ht
     obtain ⟨e,h1,h2⟩:=ih (l1++[_]) _ r (by rw [he];simp) (by simp;omega) h
     refine ⟨e,?_,h2⟩
     rw [<- h1]
     rw [qAz]
     simp only [kI,k_,e_,m_,x_,o_,s_,z_,a_,d_,g_,h_,l_,c_,r_,v_,qnu,qnw,qtC,qnI,qnK,qiC,qi8,qyI,Bool.or_self,qEW,Nat.reduceEqDiff,qmc,qmG,qnn,qnL,hlt,decide_true,qik,qrP,qwO,qcr,qeM,qmI,qp2,↓reduceIte,qqT,qh3,qiX,qqL,qko,hx,qkf,qTk,qTi,qTf,Nat.reduceAdd,qkq,cond_true,qGh,qf0,qzg,qqD,qby,qTe,qTm,qts,qhm,qtA,qzs,qww,qwU,qjw,yY,qnv,qiy,qnG,qnt,qyv,qCe,qHi,qrp,qTc,qfn,qbQ,qc3,qvN,yx,qxU,qx6,qqv,qqt,qyi,qTo,qTg,qTh,qtG,qCN,Bool.or_true,qGN,qqR,hto,decide_false,qTb,Nat.add_zero,Nat.reduceLeDiff,qpw,List.drop_zero,List.take_succ_cons,List.take_zero,qqW,qxN,qqp,qjV,qnF,qjR,qcy,qqU,qeB,qty,qyS hw,qj1,qcx,qes,Nat.min_self,qtw,qnm,qoy,qFc,qFS,qGH,qyw,qTl,qCB,qwh,qrb,qCE,qao,qzc,List.reduceReplicate,Nat.reduceLT,qjG,List.set_cons_zero,qnD,qqn,qHf,qtv,qqN,qxs,qew,qnO,ap,qnz,qf1,kn,yh,qnp,hw1,qTp,qAJ]
    ·cases h
  ·cases h
theorem qBD {x:D} {t starts:List D} {r:List Int} (hl:t.length<=900000) (h:qpk starts (x::t) 0 []=some r):qc pgE 26 [.ptr 0 0,.osl starts] [.cells [.osl (x::t)]]=some ⟨false,true,.tup [.d (slD wU r),.d (.i .i64 0)],[.cells [.osl (x::t)]],1⟩:=by
 obtain ⟨e,h1,h2⟩:=qBT (H:=[.cells [.osl (x::t)]]) (l:=x::t) (starts:=starts) (by simp;omega) (x::t) [] [] r rfl (qS7 _) h
 simp only [List.reverse_nil,slV,qTi,Int.natCast_zero,Int.ofNat_eq_natCast,qTk,qTi,qTf] at h1
 rw [qh (fn:=zJ) rfl rfl]
 simp only [zJ,k_,o_,i_,m_,a_,h_,n_,qbE,ql4,qTf,Nat.reduceAdd,qpC,qTk,qTi,qnI,qnK,qiC,qiX,qGN,qxa,qrP,qwO,qcr,qeM,qEW,reduceCtorEq,qmc,qmG,qwr,qqL,qCm,qft,qik,yx,qxt,Nat.add_zero,qf0,qDa,qTg,qHQ,qTh,qDJ,qu2,qnn,qI0,qh3,qAJ,Nat.reduceEqDiff,qnu,qtC,h1,qzF,↓reduceIte,kn,h2,qnw,yh,qEb,qyz,qvr,qhJ,qrz,qB6,qkb,qo0,qGI]
 exact qvH (H:=[.cells [.osl (x::t)]]) rfl rfl rfl
noncomputable def qGz (vs:List V) (H:List Obj):Option Cr:=
 match vs,H with
 | [.ptr 0 0,.d (.agg [.i .i64 op,.i .i32 k])],[.cells [.osl (x::t)]]=>bif qTd x.cells.length 9 && Nat.ble (jS t+20) 1000000 then (match qha op k with
  | some m=>qzW t m fun l=>some ⟨false,false,.tup [],[.cells [.osl (x::l)]],0⟩
  | none=>none) else none
 | _,_=>none
noncomputable def qAP (vs:List V) (H:List Obj):Option Cr:=
 match vs,H with
 | [.ptr 0 0,.osl starts],[.cells [.osl (x::t)]]=>bif Nat.ble (jS t) 900000 then (match qpk starts (x::t) 0 [] with
  | some r=>some ⟨false,true,.tup [.d (slD wU r),.d (.i .i64 0)],[.cells [.osl (x::t)]],1⟩
  | none=>none) else none
 | _,_=>none
theorem qzA {vs:List V} {H:List Obj} {r:Cr} (h:qGz vs H=some r):qc pg 25 vs H=some r:=by
 unfold qGz at h
 split at h
 ·rename_i op k x t
  rw [qS5] at h
  split at h
  ·rename_i hb
   simp only [qS6] at hb
   split at h
   ·rename_i m hm
    rw [qtx] at h
    cases h
    have:=qTq hb.2
    rw [ko] at this
    exact qLy hb.1 hm t m hm this
   ·cases h
  ·cases h
 ·cases h
theorem qwt {vs:List V} {H:List Obj} {r:Cr} (h:qAP vs H=some r):qc pgE 26 vs H=some r:=by
 unfold qAP at h
 split at h
 ·rename_i starts x t
  rw [qS5] at h
  split at h
  ·rename_i hb
   split at h
   ·rename_i r hr
    cases h
    have:=qTq hb
    rw [ko] at this
    exact qBD this hr
   ·cases h
  ·cases h
 ·cases h
theorem qC0 {pg:Pg} (hx:qw pg.ext) (f:Nat):qw fun _ vs H=>qc pg f vs H:=fun i vs H r h=>by
 obtain ⟨n,hn⟩:=jN.1 h
 exact yZ hx (qaV hx n) _ _ _ _ hn
end W
