/-
  PlayEchoes, part 29.
-/
import Derived.KernelRfl
import Derived.Test.YtdimnhbfkogllaaGreatDoorX16
set_option linter.unusedSimpArgs false
set_option linter.unusedVariables false
/-
  The same evaluator, in forms that the kernel reckons fast.
-/
open Bool renaming cond_eq_ite->qSH,and_eq_true->qSI,false_eq_true->qSO,and_self->qSP,not_true->qSW
open Nat renaming le_refl->qSJ,eq_of_beq_eq_true->qSL,beq->qSN,zero_add->qSV,le_of_ble_eq_true->qSY
open Option renaming bind_eq_some_iff->qSK,bind_eq_bind->qSM,pure_def->qSQ,map_some->qSU
open List renaming map_cons->qSR,length_cons->qSS,length_nil->qST,cons_append->qSX,getElem?_cons_zero->qSZ,length_append->qS0,map_nil->qS1,nil_append->qS2
namespace W
open Go (IntKind BinOp UnOp)
noncomputable def fget (n:Nat) (e:Env):V:=List.rec (motive:=fun _=>V) .undef (fun p _ ih=>Bool.rec ih p.2 (qSN n p.1)) e
theorem qam (n:Nat) (e:Env):fget n e=get n e:=by
 induction e with
 | nil=>rfl
 | cons p e ih=>
  obtain ⟨m,v⟩:=p
  show Bool.rec (fget n e) v (qSN n m)=bif qSN n m then v else get n e
  rw [ih]
  cases qSN n m<;>rfl
noncomputable def qB0 {α:Type} (l:List α) (n:Nat):Option α:=
 List.rec (motive:=fun _=>Nat->Option α) (fun _=>none) (fun x _ ih n=>Nat.rec (motive:=fun _=>Option α) (some x) (fun m _=>ih m) n) l n
theorem qyZ {α:Type} (l:List α) (n:Nat):qB0 l n=l[n]?:=by
 induction l generalizing n with
 | nil=>rfl
 | cons x l ih=>
  cases n with
  | zero=>rfl
  | succ n=>exact ih n
noncomputable def tl4 {α:Type} (l:List α):List α:=List.rec (motive:=fun _=>List α) [] (fun _ t _=>List.rec (motive:=fun _=>List α) [] (fun _ t _=>List.rec (motive:=fun _=>List α) [] (fun _ t _=>List.rec (motive:=fun _=>List α) [] (fun _ t _=>t) t) t) t) l
theorem qMR {α:Type} (l:List α):tl4 l=l.drop 4:=by
 rcases l with _|⟨_,_|⟨_,_|⟨_,_|⟨_,l⟩⟩⟩⟩<;>rfl
noncomputable def qzT {α:Type} (l:List α) (q:Nat):List α:=Nat.rec (motive:=fun _=>List α) l (fun _ ih=>tl4 (tl4 (tl4 (tl4 ih)))) q
theorem qus {α:Type} (l:List α):∀q,qzT l q=l.drop (16 * q)
 | 0=>rfl
 | q+1=>by
  show tl4 (tl4 (tl4 (tl4 (qzT l q))))=_
  simp only [qMR,qus l q,List.drop_drop]
  congr 1
noncomputable def fnth {α:Type} (l:List α) (n:Nat):Option α:=
 Nat.rec (motive:=fun _=>Option α) (qB0 l n) (fun q _=>qB0 (qzT l (Nat.succ q)) (Nat.mod n 16)) (Nat.div n 16)
theorem jA {α:Type} (l:List α) (n:Nat):fnth l n=l[n]?:=by
 unfold fnth
 have e:Nat.div n 16=n / 16:=rfl
 rw [e]
 cases hq:n / 16 with
 | zero=>exact qyZ l n
 | succ q=>
  show qB0 (qzT l (q+1)) (n % 16)=_
  rw [qyZ,qus,List.getElem?_drop]
  congr 1
  omega
noncomputable def frd (e:Env) (o:O):V:=O.rec (motive:=fun _=>V) (fun n=>qf3 n (fget n e)) (fun x=>.d x) (fun i=>.fn i [] []) (fun n=>qg6 (fget n e)) (fun _ x=>.cp x) o
theorem qaA (e:Env) (o:O):frd e o=rd e o:=by cases o<;>simp only [frd,qam]<;>rfl
noncomputable def qo {α:Type} (a:Nat) (k:Nat->α):α:=Nat.rec (motive:=fun _=>α) (k 0) (fun m _=>k (Nat.succ m)) a
noncomputable def qvN {α:Type} (n:Int) (k:Int->α):α:=Int.rec (motive:=fun _=>α) (fun a=>qo a fun a=>k (.ofNat a)) (fun a=>qo a fun a=>k (.negSucc a)) n
noncomputable def qAM {α:Type} (b:Bool) (k:Bool->α):α:=Bool.rec (motive:=fun _=>α) (k false) (k true) b
theorem qQ {α:Type} (a:Nat) (k:Nat->α):qo a k=k a:=by cases a<;>rfl
theorem qrr {α:Type} (n:Int) (k:Int->α):qvN n k=k n:=by
 cases n with
 | ofNat a=>exact qQ a fun a=>k (.ofNat a)
 | negSucc a=>exact qQ a fun a=>k (.negSucc a)
theorem qw2 {α:Type} (b:Bool) (k:Bool->α):qAM b k=k b:=by cases b<;>rfl
noncomputable def qBE {α:Type} (l:List Nat) (k:List Nat->α):α:=
 List.rec (motive:=fun _=>(List Nat->α)->α) (fun k=>k []) (fun x _ ih k=>qo x fun x=>ih fun r=>k (x::r)) l k
theorem qDX {α:Type} (l:List Nat) (k:List Nat->α):qBE l k=k l:=by
 induction l generalizing k with
 | nil=>rfl
 | cons x l ih=>exact (qQ x fun x=>qBE l fun r=>k (x::r)).trans (ih fun r=>k (x::r))
noncomputable def jm {β α:Type} (f:β->(β->α)->α) (l:List β) (k:List β->α):α:=
 List.rec (motive:=fun _=>(List β->α)->α) (fun k=>k []) (fun x _ ih k=>f x fun x=>ih fun r=>k (x::r)) l k
theorem kl {β α:Type} {f:β->(β->α)->α} (hf:∀x k,f x k=k x) (l:List β) (k:List β->α):jm f l k=k l:=by
 induction l generalizing k with
 | nil=>rfl
 | cons x l ih=>exact (hf x fun x=>jm f l fun r=>k (x::r)).trans (ih fun r=>k (x::r))
noncomputable def qj6 {α:Type} (x:D) (k:D->α):α:=
 D.casesOn (motive_1:=fun _=>α) x (fun z=>qAM z fun z=>k (.b z)) (fun kk n=>qvN n fun n=>k (.i kk n)) (fun t=>k (.s t)) (k .nil) (fun xs=>k (.sl xs)) (fun cs=>k (.agg cs)) (k .np) (k .nf) (k .ni) (k .nm)
theorem qcv {α:Type} (x:D) (k:D->α):qj6 x k=k x:=by
 cases x with
 | b z=>exact qw2 z fun z=>k (.b z)
 | i kk n=>exact qrr n fun n=>k (.i kk n)
 | _=>rfl
noncomputable def qEY {α:Type} (x:D) (k:D->α):α:=
 D.casesOn (motive_1:=fun _=>α) x (fun z=>qAM z fun z=>k (.b z)) (fun kk n=>qvN n fun n=>k (.i kk n)) (fun t=>qBE t fun t=>k (.s t)) (k .nil) (fun xs=>jm qj6 xs fun xs=>k (.sl xs)) (fun cs=>jm qj6 cs fun cs=>k (.agg cs)) (k .np) (k .nf) (k .ni) (k .nm)
theorem qDO {α:Type} (x:D) (k:D->α):qEY x k=k x:=by
 cases x with
 | b z=>exact qw2 z fun z=>k (.b z)
 | i kk n=>exact qrr n fun n=>k (.i kk n)
 | s t=>exact qDX t fun t=>k (.s t)
 | sl xs=>exact kl qcv xs fun xs=>k (.sl xs)
 | agg xs=>exact kl qcv xs fun xs=>k (.agg xs)
 | _=>rfl
noncomputable def yl {α:Type} (v:V) (k:V->α):α:=
 V.casesOn (motive_1:=fun _=>α) v (fun x=>qj6 x fun x=>k (.d x)) (fun xs=>k (.osl xs)) (fun xs=>k (.fsl xs)) (fun i o=>qo i fun i=>qo o fun o=>k (.ptr i o)) (fun i o=>qo i fun i=>qo o fun o=>k (.lp i o)) (fun cs=>k (.box cs)) (fun x=>k (.cp x))
  (fun i o n c=>k (.rs i o n c)) (fun i o n=>qo i fun i=>qo o fun o=>qo n fun n=>k (.row i o n)) (fun i=>qo i fun i=>k (.map i)) (fun f a b=>k (.fn f a b)) (fun t x=>k (.ifc t x)) (fun cs=>k (.agg cs)) (fun vs=>k (.tup vs)) (k .undef)
theorem zR {α:Type} (v:V) (k:V->α):yl v k=k v:=by
 cases v with
 | d x=>exact qcv x fun x=>k (.d x)
 | _=>simp only [yl,qQ]
noncomputable def qdz {α:Type} (v:V) (k:V->α):α:=
 V.casesOn (motive_1:=fun _=>α) v (fun x=>qEY x fun x=>k (.d x)) (fun xs=>jm qj6 xs fun xs=>k (.osl xs)) (fun xs=>jm qj6 xs fun xs=>k (.fsl xs)) (fun i o=>qo i fun i=>qo o fun o=>k (.ptr i o)) (fun i o=>qo i fun i=>qo o fun o=>k (.lp i o)) (fun cs=>jm yl cs fun cs=>k (.box cs)) (fun x=>qj6 x fun x=>k (.cp x))
  (fun i o n c=>qo i fun i=>qo o fun o=>qo n fun n=>qo c fun c=>k (.rs i o n c)) (fun i o n=>qo i fun i=>qo o fun o=>qo n fun n=>k (.row i o n)) (fun i=>qo i fun i=>k (.map i)) (fun f a b=>qo f fun f=>k (.fn f a b)) (fun t x=>k (.ifc t x)) (fun cs=>jm yl cs fun cs=>k (.agg cs)) (fun vs=>jm yl vs fun vs=>k (.tup vs)) (k .undef)
theorem qcr {α:Type} (v:V) (k:V->α):qdz v k=k v:=by
 cases v with
 | d x=>exact qDO x fun x=>k (.d x)
 | osl xs=>exact kl qcv xs fun xs=>k (.osl xs)
 | fsl xs=>exact kl qcv xs fun xs=>k (.fsl xs)
 | box cs=>exact kl zR cs fun cs=>k (.box cs)
 | cp x=>exact qcv x fun x=>k (.cp x)
 | agg cs=>exact kl zR cs fun cs=>k (.agg cs)
 | tup cs=>exact kl zR cs fun cs=>k (.tup cs)
 | _=>simp only [qdz,qQ]
noncomputable def qF1 {α:Type} (o:Obj) (k:Obj->α):α:=
 Obj.casesOn (motive:=fun _=>α) o (fun cs=>jm yl cs fun cs=>k (.cells cs)) (fun es=>jm (fun p k=>yl p.2 fun v=>k (p.1,v)) es fun es=>k (.map es)) (fun l cs=>jm yl cs fun cs=>k (.row l cs)) (k .dead) (fun i=>qo i fun i=>k (.iter i)) (fun c b=>k (.port c b))
theorem qCY {α:Type} (o:Obj) (k:Obj->α):qF1 o k=k o:=by
 cases o with
 | cells cs=>exact kl zR cs fun cs=>k (.cells cs)
 | map es=>exact kl (fun p k=>zR p.2 fun v=>k (p.1,v)) es fun es=>k (.map es)
 | row l cs=>exact kl zR cs fun cs=>k (.row l cs)
 | dead=>rfl
 | iter i=>exact qQ i fun i=>k (.iter i)
 | port c b=>rfl
noncomputable def qFi {α:Type} (H:List Obj) (k:List Obj->α):α:=jm (fun o k=>qF1 o k) H k
theorem qDQ {α:Type} (H:List Obj) (k:List Obj->α):qFi H k=k H:=kl qCY _ _
noncomputable def qAy {α:Type} (o:Obj) (k:Obj->α):α:=
 Obj.casesOn (motive:=fun _=>α) o (fun cs=>jm yl cs fun cs=>k (.cells cs)) (fun es=>jm (fun p k=>yl p.2 fun v=>k (p.1,v)) es fun es=>k (.map es)) (fun l cs=>jm (fun v k=>k v) cs fun cs=>k (.row l cs)) (k .dead) (fun i=>qo i fun i=>k (.iter i)) (fun c b=>k (.port c b))
theorem qDD {α:Type} (o:Obj) (k:Obj->α):qAy o k=k o:=by
 cases o with
 | cells cs=>exact kl zR cs fun cs=>k (.cells cs)
 | map es=>exact kl (fun p k=>zR p.2 fun v=>k (p.1,v)) es fun es=>k (.map es)
 | row l cs=>exact kl (fun _ _=>rfl) cs fun cs=>k (.row l cs)
 | dead=>rfl
 | iter i=>exact qQ i fun i=>k (.iter i)
 | port c b=>rfl
noncomputable def qFg (l:List Obj):Bool:=List.rec (motive:=fun _=>Bool) true (fun _ _ _=>false) l
noncomputable def qqL {α:Type} (f:Obj->(Obj->α)->α) (H:List Obj) (k:List Obj->α):α:=
 List.rec (motive:=fun _=>(List Obj->α)->α) (fun k=>k []) (fun o t ih k=>Bool.rec (motive:=fun _=>α) (f o fun o=>ih fun t=>k (o::t)) (qAy o fun o=>k [o]) (qFg t)) H k
theorem qzt {α:Type} {f:Obj->(Obj->α)->α} (hf:∀o k,f o k=k o) (H:List Obj) (k:List Obj->α):qqL f H k=k H:=by
 induction H generalizing k with
 | nil=>rfl
 | cons o t ih=>
  show Bool.rec (motive:=fun _=>α) (f o fun o=>qqL f t fun t=>k (o::t)) (qAy o fun o=>k [o]) (qFg t)=_
  cases t with
  | nil=>exact qDD o fun o=>k [o]
  | cons o' t=>
   show (f o fun o=>qqL f (o'::t) fun t=>k (o::t))=_
   rw [hf,ih]
noncomputable def qvD {α:Type} (H:List Obj) (k:List Obj->α):α:=qqL (fun o k=>k o) H k
theorem qwP {α:Type} (H:List Obj) (k:List Obj->α):qvD H k=k H:=qzt (fun _ _=>rfl) H k
noncomputable def qCF (l:L) (off:Nat) (cs:List V):Option V:=Bool.rec (motive:=fun _=>Option V) ((fnth cs off).map zK) (V.part off l cs) l.agg
noncomputable def qx1 (l:L) (st:St) (v:V):Option V:=
 match v with
 | .lp s off=>match fget s st.env with
  | .box cs=>qCF l off cs
  | _=>none
 | .ptr id off=>match fnth st.H id with
  | some (.cells cs)=>qCF l off cs
  | some (.row _ cs)=>qCF l off cs
  | _=>none
 | v=>qH l st v
theorem qPa (l:L) (off:Nat) (cs:List V):qCF l off cs=V.part off l cs:=by
 obtain ⟨n,agg⟩:=l
 cases agg with
 | true=>rfl
 | false=>show (fnth cs off).map zK=_;rw [jA];simp [V.part]
theorem qBq:qx1=qH:=by
 funext l st v
 cases v<;>simp only [qx1,qPa,qam,jA]<;>rfl
noncomputable def qJG (x:O) (st:St):Option Or:=ok (frd st.env x) {st with env:=spent x st.env}
noncomputable def qER (c:O) (a:O) (b:O) (st:St):Option Or:=
 match frd st.env c with
  | .d (.b z)=>ok (Bool.rec (motive:=fun _=>V) (frd st.env b) (frd st.env a) z) st
  | _=>none
noncomputable def qFH (mv:Bool) (sl:Option Nat) (l:L) (a:O) (st:St):Option Or:=
 Bool.rec (motive:=fun _=>Option Or) (bif !qz sl (frd st.env a) then none else (match qx1 l st (frd st.env a) with|some v=>ok v st|none=>none)) (zD true sl l a st) mv
noncomputable def qr4 (x:O) (st:St):Option Or:=
 match frd st.env x with
  | .ptr id off=>ok (.ptr id off) st
  | .lp s off=>ok (.lp s off) st
  | .cp y=>ok (.cp y) st
  | _=>none
noncomputable def qNF (op:BinOp) (kd:Kd) (x:O) (y:O) (st:St):Option Or:=
 match qek op kd (isC x || isC y) (frd st.env x) (frd st.env y) with
  | some v=>ok v st
  | none=>none
noncomputable def qpa (x:O) (off:Nat) (l:L) (st:St):Option Or:=
 match frd st.env x with
  | .ptr id o=>ok (.ptr id (o+off)) st
  | .lp s o=>ok (.lp s (o+off)) st
  | _=>qX x off l st
noncomputable def qpI (x:O) (i:O) (size:Nat) (arr:Option Nat) (st:St):Option Or:=
 match frd st.env i with
  | .d (.i _ n)=>match arr with
   | some len=>bif leI 0 n && !leI len n then (match frd st.env x with
    | .ptr id o=>ok (.ptr id (o+n.toNat * size)) st
    | .lp s o=>ok (.lp s (o+n.toNat * size)) st
    | .cp (.agg cs)=>bif qSN size 1 then (match fnth cs n.toNat with
     | some y=>if y.one then ok (.cp y) st else none
     | none=>none) else none
    | _=>none) else none
   | none=>bif leI 0 n then (match frd st.env x with
    | .d (.sl xs)=>match fnth xs n.toNat with
     | some y=>bif qSN y.cells.length size then ok (.cp y) st else none
     | none=>none
    | .rs id o len _=>bif !leI len n && qSN size 1 then ok (.ptr id (o+n.toNat)) st else none
    | .row id sz len=>bif !leI len n && qSN size sz then ok (.ptr id (n.toNat * sz)) st else none
    | _=>none) else none
  | _=>none
noncomputable def qBN (x:O) (i:O) (st:St):Option Or:=
 match frd st.env x,frd st.env i with
  | .d (.s t),.d (.i _ n)=>bif leI 0 n then (match fnth t n.toNat with
    | some y=>ok (.d (.i .u8 y)) st
    | none=>none) else none
  | _,_=>none
noncomputable def quG (x:O) (i:Nat) (st:St):Option Or:=
 match x with
  | .t n=>match fget n st.env with
   | .tup vs=>match fnth vs i with
    | some v=>ok (copy v) st
    | none=>none
   | _=>none
  | _=>none
noncomputable def jO {α:Type} (l:List α):Nat:=List.rec (motive:=fun _=>Nat) 0 (fun _ _ ih=>Nat.succ ih) l
theorem kg {α:Type} (l:List α):jO l=l.length:=by
 induction l with
 | nil=>rfl
 | cons x l ih=>simp only [qSS,<- ih];rfl
noncomputable def qI5 (x:O) (st:St):Option Or:=
 match frd st.env x with
  | .d (.s t)=>ok (.d (.i .i64 (jO t))) st
  | _=>none
noncomputable def qJm (x:O) (st:St):Option Or:=
 match frd st.env x with
  | .d .nil=>ok (.d (.i .i64 0)) st
  | .d (.sl xs)=>ok (.d (.i .i64 (jO xs))) st
  | .rs _ _ n _=>ok (.d (.i .i64 n)) st
  | .row _ _ n=>ok (.d (.i .i64 n)) st
  | _=>none
noncomputable def fBi (b:Bi) (args:List O) (st:St):Option Or:=
 match b,args with
  | .lenS,[x]=>qI5 x st
  | .lenL,[x]=>qJm x st
  | b,l=>eBi b l st
noncomputable def qeW (call:Call) (k:OpK) (st:St):Option Or:=
 match k with
 | .mov x=>qJG x st
 | .pick c a b=>qER c a b st
 | .load mv sl l a=>qFH mv sl l a st
 | .nilCheck x=>qr4 x st
 | .bin op kd x y=>qNF op kd x y st
 | .fieldAddr x off l=>qpa x off l st
 | .indexAddr x i size arr=>qpI x i size arr st
 | .index x i=>qBN x i st
 | .extract x i=>quG x i st
 | .bi b args=>fBi b args st
 | k=>qa call k st
theorem qC4:qeW=qa:=by
 funext call k st
 cases k with
 | mov x=>simp only [qeW,qJG,qaA];rfl
 | pick c a b=>
  simp only [qeW,qER,qaA,qa,qgf]
  cases rd st.env c with
  | d w=>cases w with
   | b z=>cases z<;>rfl
   | _=>rfl
  | _=>rfl
 | load mv sl l a=>cases mv<;>simp only [qeW,qFH,qaA,qBq]<;>rfl
 | nilCheck x=>simp only [qeW,qr4,qaA];rfl
 | bin op kd x y=>simp only [qeW,qNF,qaA];rfl
 | fieldAddr x off l=>
  simp only [qeW,qpa,qaA,qa]
  split<;>rename_i h<;>(try simp only [qX,h])
 | indexAddr x i size arr=>simp only [qeW,qpI,qaA,jA];rfl
 | index x i=>simp only [qeW,qBN,qaA,jA];rfl
 | extract x i=>simp only [qeW,quG,qam,jA];rfl
 | bi b args=>
  simp only [qeW,fBi,qa]
  split
  ·rename_i x;simp only [qI5,qaA,kg];rfl
  ·rename_i x
   simp only [qJm,qaA,kg]
   show _=qc6 x st
   unfold qc6
   cases rd st.env x with
   | d w=>cases w<;>rfl
   | _=>rfl
  ·rfl
 | _=>rfl
noncomputable def makes (k:OpK):Bool:=
 match k with
 | .mov _=>false
 | .load _ _ _ _=>false
 | .extract _ _=>false
 | .pick _ _ _=>false
 | .nilCheck _=>false
 | .store _ _ _ _=>false
 | .call _ _=>false
 | .indexAddr _ _ _ _=>false
 | .fieldAddr _ _ _=>false
 | .field _ _ _=>false
 | _=>true
noncomputable def qt4 {α:Type} (m:Bool) (v:V) (k:V->α):α:=Bool.rec (motive:=fun _=>α) (yl v k) (qdz v k) m
theorem qxb {α:Type} (m:Bool) (v:V) (k:V->α):qt4 m v k=k v:=by
 cases m
 ·exact zR v k
 ·exact qcr v k
end W
/-
  Code turned into closures, which the kernel works out once; each operation its own closure.
-/
namespace W
open Go (IntKind BinOp UnOp)
abbrev R:=Option (Ex × St)
abbrev KF:=Call->Nat->Env->List Obj->Nat->R
inductive K where
 | mk (f:KF)
noncomputable def K.run (k:K):KF:=K.rec (motive:=fun _=>KF) (fun f=>f) k
inductive KO where
 | mk (f:Env->V)
noncomputable def KO.run (k:KO):Env->V:=KO.rec (motive:=fun _=>Env->V) (fun f=>f) k
noncomputable def kR (o:O):KO:=O.rec (motive:=fun _=>KO) (fun n=>.mk fun e=>fget n e) (fun x=>.mk fun _=>.d x) (fun i=>.mk fun _=>.fn i [] []) (fun n=>.mk fun e=>qg6 (fget n e)) (fun _ x=>.mk fun _=>.cp x) o
def V.isBox:V->Bool
 | .box _=>true
 | _=>false
def V.pl:V->Prop
 | .box _=>False
 | .osl _=>False
 | .agg _=>False
 | _=>True
theorem kh {o:O} {e:Env} (h:((kR o).run e).pl):rd e o=(kR o).run e:=by
 cases o with
 | t n=>
  have h:(fget n e).pl:=h
  show qf3 n (get n e)=fget n e
  rw [<- qam]
  cases hv:fget n e<;>rw [hv] at h<;>first|rfl|exact h.elim
 | mv n=>
  show qg6 (get n e)=qg6 (fget n e)
  rw [qam]
 | _=>rfl
inductive OI where
 | no
 | yes (k:IntKind) (n:Int)
noncomputable def vI (v:V):OI:=V.rec (motive_1:=fun _=>OI) (motive_2:=fun _=>OI) (fun x=>D.rec (motive_1:=fun _=>OI) (motive_2:=fun _=>OI) (fun _=>.no) (fun k n=>.yes k n) (fun _=>.no) .no (fun _ _=>.no) (fun _ _=>.no) .no .no .no .no .no (fun _ _ _ _=>.no) x) (fun _=>.no) (fun _=>.no) (fun _ _=>.no) (fun _ _=>.no) (fun _ _=>.no) (fun _=>.no) (fun _ _ _ _=>.no) (fun _ _ _=>.no) (fun _=>.no) (fun _ _ _ _ _=>.no) (fun _ _ _=>.no) (fun _ _=>.no) (fun _ _=>.no) .no .no (fun _ _ _ _=>.no) v
theorem qKc {v:V} {k:IntKind} {n:Int} (h:vI v=.yes k n):v=.d (.i k n):=by
 cases v with
 | d x=>cases x with
  | i k' n'=>have h:OI.yes k' n'=.yes k n:=h;cases h;rfl
  | _=>cases h
 | _=>cases h
inductive OB where
 | no|f|t
noncomputable def vB (v:V):OB:=V.rec (motive_1:=fun _=>OB) (motive_2:=fun _=>OB) (fun x=>D.rec (motive_1:=fun _=>OB) (motive_2:=fun _=>OB) (fun y=>Bool.rec (motive:=fun _=>OB) .f .t y) (fun _ _=>.no) (fun _=>.no) .no (fun _ _=>.no) (fun _ _=>.no) .no .no .no .no .no (fun _ _ _ _=>.no) x) (fun _=>.no) (fun _=>.no) (fun _ _=>.no) (fun _ _=>.no) (fun _ _=>.no) (fun _=>.no) (fun _ _ _ _=>.no) (fun _ _ _=>.no) (fun _=>.no) (fun _ _ _ _ _=>.no) (fun _ _ _=>.no) (fun _ _=>.no) (fun _ _=>.no) .no .no (fun _ _ _ _=>.no) v
theorem qSF {v:V} (h:vB v=.t):v=.d (.b true):=by
 cases v with
 | d x=>cases x with
  | b y=>cases y with
   | true=>rfl
   | false=>cases h
  | _=>cases h
 | _=>cases h
theorem qR8 {v:V} (h:vB v=.f):v=.d (.b false):=by
 cases v with
 | d x=>cases x with
  | b y=>cases y with
   | false=>rfl
   | true=>cases h
  | _=>cases h
 | _=>cases h
inductive OP where
 | no
 | p (id off:Nat)
 | l (s off:Nat)
 | c (x:D)
noncomputable def vP (v:V):OP:=V.rec (motive_1:=fun _=>OP) (motive_2:=fun _=>OP) (fun _=>.no) (fun _=>.no) (fun _=>.no) (fun a b=>.p a b) (fun a b=>.l a b) (fun _ _=>.no) (fun x=>.c x) (fun _ _ _ _=>.no) (fun _ _ _=>.no) (fun _=>.no) (fun _ _ _ _ _=>.no) (fun _ _ _=>.no) (fun _ _=>.no) (fun _ _=>.no) .no .no (fun _ _ _ _=>.no) v
theorem qR1 {v:V} {a b:Nat} (h:vP v=.p a b):v=.ptr a b:=by
 cases v with
 | ptr c d=>have h:OP.p c d=.p a b:=h;cases h;rfl
 | _=>cases h
theorem qSu {v:V} {a b:Nat} (h:vP v=.l a b):v=.lp a b:=by
 cases v with
 | lp c d=>have h:OP.l c d=.l a b:=h;cases h;rfl
 | _=>cases h
theorem qR4 {v:V} {x:D} (h:vP v=.c x):v=.cp x:=by
 cases v with
 | cp y=>have h:OP.c y=.c x:=h;cases h;rfl
 | _=>cases h
inductive OL where
 | no|nil
 | sl (xs:List D)
noncomputable def vL (v:V):OL:=V.rec (motive_1:=fun _=>OL) (motive_2:=fun _=>OL) (fun x=>D.rec (motive_1:=fun _=>OL) (motive_2:=fun _=>OL) (fun _=>.no) (fun _ _=>.no) (fun _=>.no) .nil (fun xs _=>.sl xs) (fun _ _=>.no) .no .no .no .no .no (fun _ _ _ _=>.no) x) (fun _=>.no) (fun _=>.no) (fun _ _=>.no) (fun _ _=>.no) (fun _ _=>.no) (fun _=>.no) (fun _ _ _ _=>.no) (fun _ _ _=>.no) (fun _=>.no) (fun _ _ _ _ _=>.no) (fun _ _ _=>.no) (fun _ _=>.no) (fun _ _=>.no) .no .no (fun _ _ _ _=>.no) v
theorem qOe {v:V} (h:vL v=.nil):v=.d .nil:=by
 cases v with
 | d x=>cases x with
  | nil=>rfl
  | _=>cases h
 | _=>cases h
theorem qPx {v:V} {xs:List D} (h:vL v=.sl xs):v=.d (.sl xs):=by
 cases v with
 | d x=>cases x with
  | sl ys=>have h:OL.sl ys=.sl xs:=h;cases h;rfl
  | _=>cases h
 | _=>cases h
inductive OT where
 | no
 | s (t:List Nat)
noncomputable def vT (v:V):OT:=V.rec (motive_1:=fun _=>OT) (motive_2:=fun _=>OT) (fun x=>D.rec (motive_1:=fun _=>OT) (motive_2:=fun _=>OT) (fun _=>.no) (fun _ _=>.no) (fun t=>.s t) .no (fun _ _=>.no) (fun _ _=>.no) .no .no .no .no .no (fun _ _ _ _=>.no) x) (fun _=>.no) (fun _=>.no) (fun _ _=>.no) (fun _ _=>.no) (fun _ _=>.no) (fun _=>.no) (fun _ _ _ _=>.no) (fun _ _ _=>.no) (fun _=>.no) (fun _ _ _ _ _=>.no) (fun _ _ _=>.no) (fun _ _=>.no) (fun _ _=>.no) .no .no (fun _ _ _ _=>.no) v
theorem qQh {v:V} {t:List Nat} (h:vT v=.s t):v=.d (.s t):=by
 cases v with
 | d x=>cases x with
  | s u=>have h:OT.s u=.s t:=h;cases h;rfl
  | _=>cases h
 | _=>cases h
inductive OU where
 | no
 | t (vs:List V)
noncomputable def vU (v:V):OU:=V.rec (motive_1:=fun _=>OU) (motive_2:=fun _=>OU) (fun _=>.no) (fun _=>.no) (fun _=>.no) (fun _ _=>.no) (fun _ _=>.no) (fun _ _=>.no) (fun _=>.no) (fun _ _ _ _=>.no) (fun _ _ _=>.no) (fun _=>.no) (fun _ _ _ _ _=>.no) (fun _ _ _=>.no) (fun _ _=>.no) (fun vs _=>.t vs) .no .no (fun _ _ _ _=>.no) v
theorem qSB {v:V} {vs:List V} (h:vU v=.t vs):v=.tup vs:=by
 cases v with
 | tup ws=>have h:OU.t ws=.t vs:=h;cases h;rfl
 | _=>cases h
inductive OF where
 | no
 | f (i:Nat)
noncomputable def vF (v:V):OF:=V.rec (motive_1:=fun _=>OF) (motive_2:=fun _=>OF) (fun _=>.no) (fun _=>.no) (fun _=>.no) (fun _ _=>.no) (fun _ _=>.no) (fun _ _=>.no) (fun _=>.no) (fun _ _ _ _=>.no) (fun _ _ _=>.no) (fun _=>.no) (fun f a b _ _=>List.rec (motive:=fun _=>OF) (List.rec (motive:=fun _=>OF) (.f f) (fun _ _ _=>.no) b) (fun _ _ _=>.no) a) (fun _ _ _=>.no) (fun _ _=>.no) (fun _ _=>.no) .no .no (fun _ _ _ _=>.no) v
theorem qRS {v:V} {i:Nat} (h:vF v=.f i):v=.fn i [] []:=by
 cases v with
 | fn f a b=>cases a with
  | nil=>cases b with
   | nil=>have h:OF.f f=.f i:=h;cases h;rfl
   | cons _ _=>cases h
  | cons _ _=>cases h
 | _=>cases h
noncomputable def qJb (m:Nat) (v:V) (κ:V->R):R:=V.rec (motive_1:=fun _=>R) (motive_2:=fun _=>R) (fun x=>κ (.d x)) (fun xs=>κ (.d (.sl xs))) (fun xs=>κ (.fsl xs)) (fun a b=>κ (.ptr a b)) (fun a b=>κ (.lp a b)) (fun _ _=>κ (.lp m 0)) (fun x=>κ (.cp x)) (fun a b c d=>κ (.rs a b c d)) (fun a b c=>κ (.row a b c)) (fun a=>κ (.map a)) (fun f a b _ _=>κ (.fn f a b)) (fun t x _=>κ (.ifc t x)) (fun cs _=>qdz (qdg (cs.map zK)) κ) (fun vs _=>κ (.tup vs)) (κ .undef) none (fun _ _ _ _=>none) v
theorem qHd (m:Nat) (v:V) (κ:V->R):qJb m v κ=κ (qf3 m v):=by
 cases v with
 | agg cs=>exact qcr _ _
 | _=>rfl
noncomputable def qIY (v:V) (κ:V->R):R:=V.rec (motive_1:=fun _=>R) (motive_2:=fun _=>R) (fun x=>κ (.d x)) (fun xs=>κ (.osl xs)) (fun xs=>κ (.fsl xs)) (fun a b=>κ (.ptr a b)) (fun a b=>κ (.lp a b)) (fun _ _=>κ .undef) (fun x=>κ (.cp x)) (fun a b c d=>κ (.rs a b c d)) (fun a b c=>κ (.row a b c)) (fun a=>κ (.map a)) (fun f a b _ _=>κ (.fn f a b)) (fun t x _=>κ (.ifc t x)) (fun cs _=>κ (.agg cs)) (fun vs _=>κ (.tup vs)) (κ .undef) none (fun _ _ _ _=>none) v
theorem qFG (v:V) (κ:V->R):qIY v κ=κ (qg6 v):=by cases v<;>rfl
noncomputable def qEV (v:V) (κ:V->R):R:=V.rec (motive_1:=fun _=>R) (motive_2:=fun _=>R) (fun x=>κ (.d x)) (fun xs=>κ (.osl xs)) (fun xs=>κ (.fsl xs)) (fun a b=>κ (.ptr a b)) (fun _ _=>κ .undef) (fun cs _=>κ (.box cs)) (fun x=>κ (.cp x)) (fun a b c d=>κ (.rs a b c d)) (fun a b c=>κ (.row a b c)) (fun a=>κ (.map a)) (fun f a b _ _=>κ (.fn f a b)) (fun t x _=>κ (.ifc t x)) (fun cs _=>κ (.agg cs)) (fun vs _=>κ (.tup vs)) (κ .undef) none (fun _ _ _ _=>none) v
theorem qFo (v:V) (κ:V->R):qEV v κ=κ (match v with | .lp _ _=>.undef|v=>v):=by cases v<;>rfl
noncomputable def qI1 (v:V) (κ:V->R):R:=V.rec (motive_1:=fun _=>R) (motive_2:=fun _=>R) (fun x=>κ (.d x)) (fun xs=>κ (.d (.sl xs))) (fun xs=>κ (.fsl xs)) (fun a b=>κ (.ptr a b)) (fun a b=>κ (.lp a b)) (fun _ _=>none) (fun x=>κ (.cp x)) (fun a b c d=>κ (.rs a b c d)) (fun a b c=>κ (.row a b c)) (fun a=>κ (.map a)) (fun f a b _ _=>κ (.fn f a b)) (fun t x _=>κ (.ifc t x)) (fun cs _=>κ (.agg cs)) (fun vs _=>κ (.tup vs)) (κ .undef) none (fun _ _ _ _=>none) v
theorem qBs {v:V} {κ:V->R} {x:Ex × St} (h:qI1 v κ=some x):(zK v).isBox=false/\κ (zK v)=some x:=by
 cases v<;>first|exact ⟨rfl,h⟩|cases h
theorem qrT (cs:List V):(qdg cs).isBox=false:=by unfold qdg;split<;>rfl
noncomputable def qCC (v:V) (κ:V->R):R:=V.rec (motive_1:=fun _=>R) (motive_2:=fun _=>R) (fun x=>κ (.d x)) (fun xs=>κ (.d (.sl xs))) (fun xs=>κ (.fsl xs)) (fun a b=>κ (.ptr a b)) (fun a b=>κ (.lp a b)) (fun _ _=>none) (fun x=>κ (.cp x)) (fun a b c d=>κ (.rs a b c d)) (fun a b c=>κ (.row a b c)) (fun a=>κ (.map a)) (fun f a b _ _=>κ (.fn f a b)) (fun t x _=>κ (.ifc t x)) (fun cs _=>qdz (qdg (cs.map zK)) κ) (fun vs _=>κ (.tup vs)) (κ .undef) none (fun _ _ _ _=>none) v
theorem qpG {v:V} {κ:V->R} {x:Ex × St} (h:qCC v κ=some x):(copy v).isBox=false/\κ (copy v)=some x:=by
 cases v with
 | agg cs=>
  have h:qdz (qdg (cs.map zK)) κ=some x:=h
  rw [qcr] at h
  exact ⟨qrT _,h⟩
 | box cs=>cases h
 | _=>exact ⟨rfl,h⟩
noncomputable def qmq (v:V) (z:R) (κ:V->R):R:=V.rec (motive_1:=fun _=>R) (motive_2:=fun _=>R) (fun x=>κ (.d x)) (fun xs=>κ (.osl xs)) (fun xs=>κ (.fsl xs)) (fun a b=>κ (.ptr a b)) (fun a b=>κ (.lp a b)) (fun _ _=>z) (fun x=>κ (.cp x)) (fun a b c d=>κ (.rs a b c d)) (fun a b c=>κ (.row a b c)) (fun a=>κ (.map a)) (fun f a b _ _=>κ (.fn f a b)) (fun t x _=>κ (.ifc t x)) (fun cs _=>κ (.agg cs)) (fun vs _=>κ (.tup vs)) (κ .undef) none (fun _ _ _ _=>none) v
noncomputable def qxu (v:V) (z:R) (κ:V->R):R:=V.rec (motive_1:=fun _=>R) (motive_2:=fun _=>R) (fun x=>κ (.d x)) (fun xs=>κ (.osl xs)) (fun xs=>κ (.fsl xs)) (fun a b=>κ (.ptr a b)) (fun _ _=>z) (fun _ _=>z) (fun x=>κ (.cp x)) (fun a b c d=>κ (.rs a b c d)) (fun a b c=>κ (.row a b c)) (fun a=>κ (.map a)) (fun f a b _ _=>κ (.fn f a b)) (fun t x _=>κ (.ifc t x)) (fun cs _=>κ (.agg cs)) (fun vs _=>κ (.tup vs)) (κ .undef) none (fun _ _ _ _=>none) v
theorem qzQ {v:V} {κ:V->R} {x:Ex × St} (h:qxu v none κ=some x):v.isBox=false/\(∀m o,v≠.lp m o)/\κ v=some x:=by
 cases v<;>first|exact ⟨rfl,nofun,h⟩|cases h
theorem qm7 {v:V} {z:R} {κ:V->R} {x:Ex × St} (h:qmq v z κ=some x):z=some x\/(v.isBox=false/\κ v=some x):=by
 cases v<;>first|exact .inr ⟨rfl,h⟩|exact .inl h
inductive KR where
 | mk (f:Env->(V->R)->R)
noncomputable def KR.run (k:KR):Env->(V->R)->R:=KR.rec (motive:=fun _=>Env->(V->R)->R) (fun f=>f) k
noncomputable def rdC (o:O):KR:=O.rec (motive:=fun _=>KR) (fun n=>.mk fun e κ=>qJb n (fget n e) κ) (fun x=>.mk fun _ κ=>κ (.d x)) (fun i=>.mk fun _ κ=>κ (.fn i [] [])) (fun n=>.mk fun e κ=>qIY (fget n e) κ) (fun _ x=>.mk fun _ κ=>κ (.cp x)) o
theorem qhN (o:O) (e:Env) (κ:V->R):(rdC o).run e κ=κ (rd e o):=by
 cases o with
 | t n=>exact (qHd n (fget n e) κ).trans (by rw [qam];rfl)
 | mv n=>exact (qFG (fget n e) κ).trans (by rw [qam];rfl)
 | _=>rfl
inductive KE where
 | mk (f:Env->Env)
noncomputable def KE.run (k:KE):Env->Env:=KE.rec (motive:=fun _=>Env->Env) (fun f=>f) k
noncomputable def spC (o:O) (r:KE):KE:=O.rec (motive:=fun _=>KE) (fun _=>r) (fun _=>r) (fun _=>r) (fun n=>.mk fun e=>r.run ((n,.undef)::e)) (fun _ _=>r) o
noncomputable def spL (l:List O):KE:=List.rec (motive:=fun _=>KE) (.mk fun e=>e) (fun o _ ih=>spC o ih) l
theorem qBe (l:List O) (e:Env):(spL l).run e=spentAll l e:=by
 induction l generalizing e with
 | nil=>rfl
 | cons o l ih=>
  show (spC o (spL l)).run e=spentAll l (spent o e)
  cases o<;>first|exact ih _|exact ih e
noncomputable def spO (o:O):KE:=spC o (.mk fun e=>e)
theorem qpr (o:O) (e:Env):(spO o).run e=spent o e:=by cases o<;>rfl
inductive KA where
 | mk (f:Env->(List V->R)->R)
noncomputable def KA.run (k:KA):Env->(List V->R)->R:=KA.rec (motive:=fun _=>Env->(List V->R)->R) (fun f=>f) k
noncomputable def qHj (l:List O):KA:=List.rec (motive:=fun _=>KA) (.mk fun _ κ=>κ []) (fun o _ ih=>.mk fun e κ=>(rdC o).run e fun v=>ih.run e fun r=>κ (v::r)) l
theorem qx9 (l:List O) (e:Env) (κ:List V->R):(qHj l).run e κ=κ (l.map (rd e)):=by
 induction l generalizing κ with
 | nil=>rfl
 | cons o l ih=>
  show (rdC o).run e (fun v=>(qHj l).run e fun r=>κ (v::r))=_
  rw [qhN,ih];rfl
noncomputable def iadd (a b:Int):Int:=Int.rec (motive:=fun _=>Int) (fun m=>Int.rec (motive:=fun _=>Int) (fun n=>.ofNat (Nat.add m n)) (fun n=>a+b) b) (fun _=>a+b) a
theorem qHT (a b:Int):iadd a b=a+b:=by cases a<;>cases b<;>rfl
noncomputable def imul (a b:Int):Int:=Int.rec (motive:=fun _=>Int) (fun m=>Int.rec (motive:=fun _=>Int) (fun n=>.ofNat (Nat.mul m n)) (fun n=>a * b) b) (fun _=>a * b) a
theorem qIc (a b:Int):imul a b=a * b:=by cases a<;>cases b<;>rfl
noncomputable def isub (a b:Int):Int:=Int.rec (motive:=fun _=>Int) (fun m=>Int.rec (motive:=fun _=>Int) (fun n=>Bool.rec (motive:=fun _=>Int) (a - b) (.ofNat (Nat.sub m n)) (Nat.ble n m)) (fun n=>a - b) b) (fun _=>a - b) a
theorem qIP (a b:Int):isub a b=a - b:=by
 cases a with
 | ofNat m=>cases b with
  | ofNat n=>
   show Bool.rec (motive:=fun _=>Int) (Int.ofNat m - Int.ofNat n) (Int.ofNat (Nat.sub m n)) (Nat.ble n m)=_
   cases h:Nat.ble n m with
   | false=>rfl
   | true=>
    have:=qSY h
    show Int.ofNat (m - n)=Int.ofNat m - Int.ofNat n
    simp only [Int.ofNat_eq_natCast];omega
  | negSucc n=>rfl
 | negSucc m=>rfl
noncomputable def ile (a b:Int):Bool:=Int.rec (motive:=fun _=>Bool) (fun m=>Int.rec (motive:=fun _=>Bool) (fun n=>Nat.ble m n) (fun _=>false) b) (fun m=>Int.rec (motive:=fun _=>Bool) (fun _=>true) (fun n=>Nat.ble n m) b) a
theorem qyr (a b:Int):ile a b=leI a b:=by cases a<;>cases b<;>rfl
noncomputable def ieq (a b:Int):Bool:=Int.rec (motive:=fun _=>Bool) (fun m=>Int.rec (motive:=fun _=>Bool) (fun n=>qSN m n) (fun _=>false) b) (fun m=>Int.rec (motive:=fun _=>Bool) (fun _=>false) (fun n=>qSN m n) b) a
theorem qFz (a b:Int):ieq a b=eqI a b:=by cases a<;>cases b<;>rfl
noncomputable def kcode (k:IntKind):Nat:=IntKind.rec (motive:=fun _=>Nat) 0 1 2 3 4 5 6 7 k
theorem qyM (a b:IntKind):qSN (kcode a) (kcode b)=eqK a b:=by cases a<;>cases b<;>rfl
noncomputable def kmax (k:IntKind):Nat:=IntKind.rec (motive:=fun _=>Nat) 127 32767 2147483647 9223372036854775807 255 65535 4294967295 18446744073709551615 k
theorem qII (k:IntKind):kmax k=qsR k:=by cases k<;>rfl
noncomputable def iwr (k:IntKind) (z:Int):Int:=Int.rec (motive:=fun _=>Int) (fun a=>Bool.rec (motive:=fun _=>Int) (wr k (.ofNat a)) (.ofNat a) (Nat.ble a (kmax k))) (fun a=>wr k (.negSucc a)) z
theorem qJZ (k:IntKind) (z:Int):iwr k z=wr k z:=by
 cases z with
 | ofNat a=>
  show Bool.rec (motive:=fun _=>Int) (wr k (.ofNat a)) (.ofNat a) (Nat.ble a (kmax k))=_
  rw [qII]
  cases h:Nat.ble a (qsR k) with
  | false=>rfl
  | true=>simp only [wr,h,cond_true]
 | negSucc a=>rfl
noncomputable def inot (b:Bool):Bool:=Bool.rec (motive:=fun _=>Bool) true false b
theorem qyw (b:Bool):inot b=!b:=by cases b<;>rfl
def qzh (pg:Pg) (r:R) (k:K) (call:Call) (n:Nat) (x:Ex × St):Prop:=(∃s,r=some (.nrm,s)/\k.run call n s.env s.H s.lo=some x)\/(r=some x/\x.1≠.nrm)
def qwQ (r:Option Or) (dst:Option Nat) (k:K) (call:Call) (n:Nat) (x:Ex × St):Prop:=
 ∃q,r=some q/\((q.pan=false/\∃st,put dst q.v q.st=st/\k.run call n st.env st.H st.lo=some x)\/(q.pan=true/\x=(.pan q.v,q.st)))
def qN (f:KF) (op:OpK) (dst:Option Nat) (k:K):Prop:=∀{call:Call} {n:Nat} {e:Env} {H:List Obj} {lo:Nat} {x:Ex × St},f call n e H lo=some x->qwQ (qa call op ⟨e,H,lo⟩) dst k call n x
noncomputable def qjf (dst:Option Nat) (v:V) (k:K):KF:=fun call n e H lo=>match put dst v ⟨e,H,lo⟩ with|⟨e,H,lo⟩=>k.run call n e H lo
theorem qjS {dst:Option Nat} {v:V} {same:Bool} {k:K} {call:Call} {n:Nat} {e:Env} {H:List Obj} {lo:Nat} {x:Ex × St} (h:qjf dst v k call n e H lo=some x):qwQ (some ⟨false,same,v,⟨e,H,lo⟩⟩) dst k call n x:=by
 refine ⟨_,rfl,.inl ⟨rfl,_,rfl,?_⟩⟩
 exact h
theorem qk {d:Nat} {v:V} {same:Bool} {k:K} {call:Call} {n:Nat} {e:Env} {H:List Obj} {lo:Nat} {x:Ex × St} (hv:v.isBox=false) (h:k.run call n ((d,v)::e) H lo=some x):qwQ (some ⟨false,same,v,⟨e,H,lo⟩⟩) (some d) k call n x:=by
 refine ⟨_,rfl,.inl ⟨rfl,_,rfl,?_⟩⟩
 cases v<;>first|exact h|cases hv
inductive KS where
 | mk (f:Call->St->Option Or)
noncomputable def KS.run (k:KS):Call->St->Option Or:=KS.rec (motive:=fun _=>Call->St->Option Or) (fun f=>f) k
noncomputable def qNT (op:OpK):KS:=
 match op with
 | .mov x=>.mk fun _ st=>qJG x st
 | .pick c a b=>.mk fun _ st=>qER c a b st
 | .alloc loc zero=>.mk fun _ st=>qfj loc zero st
 | .box loc x=>.mk fun _ st=>qte loc x st
 | .build zero parts=>.mk fun _ st=>qa0 zero parts st
 | .buildSlice zero len parts=>.mk fun _ st=>qZ zero len parts st
 | .load mv sl l a=>.mk fun _ st=>qFH mv sl l a st
 | .loadC l a=>.mk fun _ st=>qfM l a st
 | .store sl l a x=>.mk fun _ st=>qaz sl l a x st
 | .nilCheck x=>.mk fun _ st=>qr4 x st
 | .bin op kd x y=>.mk fun _ st=>qNF op kd x y st
 | .un op x=>.mk fun _ st=>eUn op x st
 | .conv k x=>.mk fun _ st=>qji k x st
 | .mkFn f first cap=>.mk fun _ st=>qol f first cap st
 | .sliceS x lo hi=>.mk fun _ st=>qaj x lo hi st
 | .fieldAddr x off l=>.mk fun _ st=>qpa x off l st
 | .field x off l=>.mk fun _ st=>qfZ x off l st
 | .indexAddr x i size arr=>.mk fun _ st=>qpI x i size arr st
 | .index x i=>.mk fun _ st=>qBN x i st
 | .lookup kk zero m k c=>.mk fun _ st=>z3 kk zero m k c st
 | .mapUpdate kk m k x=>.mk fun _ st=>zW kk m k x st
 | .extract x i=>.mk fun _ st=>quG x i st
 | .bi b args=>.mk fun _ st=>fBi b args st
 | .call f args=>.mk fun call st=>jF call f args st
 | op=>.mk fun call st=>qa call op st
theorem qCQ (op:OpK) (call:Call) (st:St):(qNT op).run call st=qa call op st:=by
 rw [<- qC4]
 cases op<;>rfl
noncomputable def qpT (op:OpK):Bool:=
 match op with
 | .appendR _ _ _ _ | .truncR _ _ | .zerosR _ _ _ _ _ | .buildR _ _ _ _ | .rangeM _ | .mkMap | .mkSlice _ _ _ | .alloc _ _ | .box _ _ | .bytesRow _ | .buildRow _ _ _ | .cvtR _=>true
 | _=>false
noncomputable def qvO {α:Type} (b:Bool) (H:List Obj) (k:List Obj->α):α:=Bool.rec (motive:=fun _=>α) (qFi H k) (qvD H k) b
theorem qwq {α:Type} (b:Bool) (H:List Obj) (k:List Obj->α):qvO b H k=k H:=by cases b;exact qDQ _ _;exact qwP _ _
noncomputable def qJM (dst:Option Nat) (op:OpK) (k:K):KF:=fun call n e H lo=>
 match (qNT op).run call ⟨e,H,lo⟩ with
 | some ⟨pan,same,v,⟨e',H',lo'⟩⟩=>Bool.rec (motive:=fun _=>R)
   (qt4 (makes op) v fun v=>Bool.rec (motive:=fun _=>R) (qvO (qpT op) H' fun H'=>qo lo' fun lo'=>qjf dst v k call n e' H' lo') (qjf dst v k call n e' H' lo') same)
   (some (.pan v,⟨e',H',lo'⟩)) pan
 | none=>none
theorem qEh {dst:Option Nat} {op:OpK} {k:K}:qN (qJM dst op k) op dst k:=by
 intro call n e H lo x h
 unfold qJM at h
 rw [qCQ] at h
 split at h
 ·rename_i pan same v e' H' lo' hq
  rw [hq]
  cases pan with
  | false=>
   have h:(qt4 (makes op) v fun v=>Bool.rec (motive:=fun _=>R) (qvO (qpT op) H' fun H'=>qo lo' fun lo'=>qjf dst v k call n e' H' lo') (qjf dst v k call n e' H' lo') same)=some x:=h
   rw [qxb] at h
   have h2:qjf dst v k call n e' H' lo'=some x:=by
    cases same with
    | false=>simpa only [qwq,qQ] using h
    | true=>exact h
   exact qjS h2
  | true=>
   have h:some (Ex.pan v,(⟨e',H',lo'⟩:St))=some x:=h
   cases h
   exact ⟨_,rfl,.inr ⟨rfl,rfl⟩⟩
 ·cases h
noncomputable def asN (v:V) (z:R) (κ:IntKind->Int->R):R:=OI.rec (motive:=fun _=>R) z κ (vI v)
theorem qbT {v:V} {z:R} {κ:IntKind->Int->R} {x:Ex × St} (h:asN v z κ=some x):z=some x\/∃k n,v=.d (.i k n)/\κ k n=some x:=by
 unfold asN at h
 cases hv:vI v with
 | no=>rw [hv] at h;exact .inl h
 | yes k n=>rw [hv] at h;exact .inr ⟨k,n,qKc hv,h⟩
noncomputable def qy5 (d:Nat) (f:Int->Int->Bool) (a b:KO) (g k:K):KF:=fun call n e H lo=>
 asN (a.run e) (g.run call n e H lo) fun ka x=>asN (b.run e) none fun kb y=>Bool.rec (motive:=fun _=>R) none (Bool.rec (motive:=fun _=>R) (k.run call n ((d,.d (.b false))::e) H lo) (k.run call n ((d,.d (.b true))::e) H lo) (f x y)) (qSN (kcode ka) (kcode kb))
noncomputable def qHr (d:Nat) (f:Int->Int->Int) (a b:KO) (g k:K):KF:=fun call n e H lo=>
 asN (a.run e) (g.run call n e H lo) fun ka x=>asN (b.run e) none fun kb y=>Bool.rec (motive:=fun _=>R) none (qvN (iwr ka (f x y)) fun z=>k.run call n ((d,.d (.i ka z))::e) H lo) (qSN (kcode ka) (kcode kb))
theorem qqh {o:O} {e:Env} {k:IntKind} {n:Int} (h:(kR o).run e=.d (.i k n)):rd e o=.d (.i k n):=by
 rw [kh (by rw [h];trivial),h]
theorem qeL {d:Nat} {f:Int->Int->Bool} {op:BinOp} {x y:O} {g k:K} (hop:qem op=false) (hf:∀kk a b,qhO op kk a b=some (.b (f a b))) (hg:qN g.run (.bin op .num x y) (some d) k):qN (qy5 d f (kR x) (kR y) g k) (.bin op .num x y) (some d) k:=by
 intro call n e H lo z h
 unfold qy5 at h
 rcases qbT h with h|⟨ka,a,ha,h⟩
 ·exact hg h
 rcases qbT h with h|⟨kb,b,hb,h⟩
 ·cases h
 rw [qyM] at h
 cases hk:eqK ka kb with
 | false=>rw [hk] at h;cases h
 | true=>
  rw [hk] at h
  have he:qa call (.bin op .num x y) ⟨e,H,lo⟩=some ⟨false,true,.d (.b (f a b)),⟨e,H,lo⟩⟩:=by
   simp only [qa,qrw,qqh ha,qqh hb,qek,hop,hk,cond_true,cond_false,hf,qSU,ok]
  rw [he]
  cases hz:f a b with
  | false=>rw [hz] at h;exact qk rfl h
  | true=>rw [hz] at h;exact qk rfl h
theorem qr8 {d:Nat} {f:Int->Int->Int} {op:BinOp} {x y:O} {g k:K} (hop:qem op=false) (hf:∀kk a b,qhO op kk a b=some (.i kk (wr kk (f a b)))) (hg:qN g.run (.bin op .num x y) (some d) k):qN (qHr d f (kR x) (kR y) g k) (.bin op .num x y) (some d) k:=by
 intro call n e H lo z h
 unfold qHr at h
 rcases qbT h with h|⟨ka,a,ha,h⟩
 ·exact hg h
 rcases qbT h with h|⟨kb,b,hb,h⟩
 ·cases h
 rw [qyM] at h
 cases hk:eqK ka kb with
 | false=>rw [hk] at h;cases h
 | true=>
  rw [hk] at h
  have h:(qvN (iwr ka (f a b)) fun z=>k.run call n ((d,.d (.i ka z))::e) H lo)=some z:=h
  rw [qrr,qJZ] at h
  have he:qa call (.bin op .num x y) ⟨e,H,lo⟩=some ⟨false,true,.d (.i ka (wr ka (f a b))),⟨e,H,lo⟩⟩:=by
   simp only [qa,qrw,qqh ha,qqh hb,qek,hop,hk,cond_true,cond_false,hf,qSU,ok]
  rw [he]
  exact qk rfl h
noncomputable def gK (dst:Option Nat) (op:OpK) (k:K):K:=.mk (qJM dst op k)
theorem kc {dst:Option Nat} {op:OpK} {k:K}:qN (gK dst op k).run op dst k:=qEh
noncomputable def qLV (d:Nat) (op:BinOp) (kd:Kd) (x y:O) (k:K):K:=
 match op,kd with
 | .add,.num=>.mk (qHr d iadd (kR x) (kR y) (gK (some d) (.bin .add .num x y) k) k)
 | .sub,.num=>.mk (qHr d isub (kR x) (kR y) (gK (some d) (.bin .sub .num x y) k) k)
 | .mul,.num=>.mk (qHr d imul (kR x) (kR y) (gK (some d) (.bin .mul .num x y) k) k)
 | .lss,.num=>.mk (qy5 d (fun a b=>inot (ile b a)) (kR x) (kR y) (gK (some d) (.bin .lss .num x y) k) k)
 | .leq,.num=>.mk (qy5 d ile (kR x) (kR y) (gK (some d) (.bin .leq .num x y) k) k)
 | .gtr,.num=>.mk (qy5 d (fun a b=>inot (ile a b)) (kR x) (kR y) (gK (some d) (.bin .gtr .num x y) k) k)
 | .geq,.num=>.mk (qy5 d (fun a b=>ile b a) (kR x) (kR y) (gK (some d) (.bin .geq .num x y) k) k)
 | .eql,.num=>.mk (qy5 d ieq (kR x) (kR y) (gK (some d) (.bin .eql .num x y) k) k)
 | .neq,.num=>.mk (qy5 d (fun a b=>inot (ieq a b)) (kR x) (kR y) (gK (some d) (.bin .neq .num x y) k) k)
 | op,kd=>gK (some d) (.bin op kd x y) k
theorem qEJ {d:Nat} {op:BinOp} {kd:Kd} {x y:O} {k:K}:qN (qLV d op kd x y k).run (.bin op kd x y) (some d) k:=by
 unfold qLV
 split
 ·exact qr8 rfl (fun kk a b=>by rw [qHT];rfl) kc
 ·exact qr8 rfl (fun kk a b=>by rw [qIP];rfl) kc
 ·exact qr8 rfl (fun kk a b=>by rw [qIc];rfl) kc
 ·exact qeL rfl (fun kk a b=>by rw [qyw,qyr];rfl) kc
 ·exact qeL rfl (fun kk a b=>by rw [qyr];rfl) kc
 ·exact qeL rfl (fun kk a b=>by rw [qyw,qyr];rfl) kc
 ·exact qeL rfl (fun kk a b=>by rw [qyr];rfl) kc
 ·exact qeL rfl (fun kk a b=>by rw [qFz];rfl) kc
 ·exact qeL rfl (fun kk a b=>by rw [qyw,qFz];rfl) kc
 ·exact kc
theorem qAK (m:Nat) (v:V):(qf3 m v).isBox=false:=by
 cases v with
 | agg cs=>exact qrT _
 | _=>rfl
theorem qDe (v:V):(qg6 v).isBox=false:=by cases v<;>rfl
theorem qBc (e:Env) (o:O):(rd e o).isBox=false:=by
 cases o with
 | t n=>exact qAK _ _
 | mv n=>exact qDe _
 | _=>rfl
noncomputable def qMd (d:Nat) (x:O) (k:K):KF:=fun call n e H lo=>(rdC x).run e fun v=>k.run call n ((d,v)::(spO x).run e) H lo
theorem qCT {d:Nat} {x:O} {k:K}:qN (qMd d x k) (.mov x) (some d) k:=by
 intro call n e H lo z h
 unfold qMd at h
 rw [qhN,qpr] at h
 exact qk (qBc e x) h
noncomputable def asP (v:V) (z:R) (p l:Nat->Nat->R) (c:D->R):R:=OP.rec (motive:=fun _=>R) z p l c (vP v)
theorem qff {v:V} {z:R} {p l:Nat->Nat->R} {c:D->R} {x:Ex × St} (h:asP v z p l c=some x):z=some x\/(∃a b,v=.ptr a b/\p a b=some x)\/(∃a b,v=.lp a b/\l a b=some x)\/∃y,v=.cp y/\c y=some x:=by
 unfold asP at h
 cases hv:vP v with
 | no=>rw [hv] at h;exact .inl h
 | p a b=>rw [hv] at h;exact .inr (.inl ⟨a,b,qR1 hv,h⟩)
 | l a b=>rw [hv] at h;exact .inr (.inr (.inl ⟨a,b,qSu hv,h⟩))
 | c y=>rw [hv] at h;exact .inr (.inr (.inr ⟨y,qR4 hv,h⟩))
noncomputable def qxY (o:Option Obj):Option (List V):=Option.rec (motive:=fun _=>Option (List V)) none (fun ob=>Obj.rec (motive:=fun _=>Option (List V)) (fun cs=>some cs) (fun _=>none) (fun _ _=>none) none (fun _=>none) (fun _ _=>none) ob) o
theorem qyU {o:Option Obj} {cs:List V} (h:qxY o=some cs):o=some (.cells cs):=by
 cases o with
 | none=>cases h
 | some ob=>cases ob with
  | cells c=>have h:some c=some cs:=h;cases h;rfl
  | _=>cases h
noncomputable def qBK (o:Option Obj):Option (List V):=Option.rec (motive:=fun _=>Option (List V)) none (fun ob=>Obj.rec (motive:=fun _=>Option (List V)) (fun cs=>some cs) (fun _=>none) (fun _ cs=>some cs) none (fun _=>none) (fun _ _=>none) ob) o
theorem qAh {o:Option Obj} {cs:List V} (h:qBK o=some cs):o=some (.cells cs)\/∃l,o=some (.row l cs):=by
 cases o with
 | none=>cases h
 | some ob=>cases ob with
  | cells c=>have h:some c=some cs:=h;cases h;exact .inl rfl
  | row l c=>have h:some c=some cs:=h;cases h;exact .inr ⟨l,rfl⟩
  | _=>cases h
noncomputable def qy0 (v:V):Option (List V):=V.rec (motive_1:=fun _=>Option (List V)) (motive_2:=fun _=>Option (List V)) (fun _=>none) (fun _=>none) (fun _=>none) (fun _ _=>none) (fun _ _=>none) (fun cs _=>some cs) (fun _=>none) (fun _ _ _ _=>none) (fun _ _ _=>none) (fun _=>none) (fun _ _ _ _ _=>none) (fun _ _ _=>none) (fun _ _=>none) (fun _ _=>none) none none (fun _ _ _ _=>none) v
theorem qwc {v:V} {cs:List V} (h:qy0 v=some cs):v=.box cs:=by
 cases v with
 | box c=>have h:some c=some cs:=h;cases h;rfl
 | _=>cases h
noncomputable def orN {α:Type} (o:Option α) (κ:α->R):R:=Option.rec (motive:=fun _=>R) none κ o
theorem k9 {α:Type} {o:Option α} {κ:α->R} {x:Ex × St} (h:orN o κ=some x):∃a,o=some a/\κ a=some x:=by
 cases o with
 | none=>cases h
 | some a=>exact ⟨a,rfl,h⟩
noncomputable def orZ {α:Type} (o:Option α) (z:R) (κ:α->R):R:=Option.rec (motive:=fun _=>R) z κ o
theorem qqr {α:Type} {o:Option α} {z:R} {κ:α->R} {x:Ex × St} (h:orZ o z κ=some x):z=some x\/∃a,o=some a/\κ a=some x:=by
 cases o with
 | none=>exact .inl h
 | some a=>exact .inr ⟨a,rfl,h⟩
noncomputable def qAm (l:L) (off:Nat) (cs:List V) (κ:V->R):R:=L.rec (motive:=fun _=>R) (fun n agg=>Bool.rec (motive:=fun _=>R) (orN (fnth cs off) fun v=>qI1 v κ) (orN (V.part off ⟨n,agg⟩ cs) fun v=>qdz v κ) agg) l
theorem qu2 {l:L} {off:Nat} {cs:List V} {κ:V->R} {x:Ex × St} (h:qAm l off cs κ=some x):∃v,V.part off l cs=some v/\v.isBox=false/\κ v=some x:=by
 obtain ⟨n,agg⟩:=l
 cases agg with
 | false=>
  obtain ⟨v,h1,h2⟩:=k9 (o:=fnth cs off) h
  rw [jA] at h1
  obtain ⟨h3,h4⟩:=qBs h2
  exact ⟨_,by simp [V.part,h1],h3,h4⟩
 | true=>
  obtain ⟨v,h1,h2⟩:=k9 (o:=V.part off ⟨n,true⟩ cs) h
  rw [qcr] at h2
  refine ⟨v,h1,?_,h2⟩
  simp only [V.part,if_true] at h1
  split at h1
  ·cases h1;exact qrT _
  ·cases h1
noncomputable def isAgg (x:D):Option (List D):=D.rec (motive_1:=fun _=>Option (List D)) (motive_2:=fun _=>Option (List D)) (fun _=>none) (fun _ _=>none) (fun _=>none) none (fun _ _=>none) (fun cs _=>some cs) none none none none none (fun _ _ _ _=>none) x
noncomputable def qyC (l:L) (x:D) (κ:V->R):R:=L.rec (motive:=fun _=>R) (fun n agg=>Option.rec (motive:=fun _=>R) (Bool.rec (motive:=fun _=>R) (κ (.d x)) none agg) (fun cs=>Bool.rec (motive:=fun _=>R) none (Bool.rec (motive:=fun _=>R) none (κ (.d x)) (qSN (jO cs) n)) agg) (isAgg x)) l
theorem qsG {l:L} {x:D} {κ:V->R} {y:Ex × St} {st:St} (h:qyC l x κ=some y):qH l st (.cp x)=some (.d x)/\κ (.d x)=some y:=by
 obtain ⟨n,agg⟩:=l
 cases x with
 | agg cs=>
  cases agg with
  | false=>cases h
  | true=>
   have h:Bool.rec (motive:=fun _=>R) none (κ (.d (.agg cs))) (qSN (jO cs) n)=some y:=h
   cases hb:qSN (jO cs) n with
   | false=>rw [hb] at h;cases h
   | true=>
    rw [hb] at h
    have:=qSL hb
    rw [kg] at this
    exact ⟨by simp [qH,this],h⟩
 | _=>
  cases agg with
  | false=>exact ⟨rfl,h⟩
  | true=>cases h
noncomputable def qI9 (d:Nat) (sl:Option Nat) (l:L) (a:O) (g k:K):KF:=
 Option.rec (motive:=fun _=>KF)
  (fun call n e H lo=>asP ((kR a).run e) (g.run call n e H lo) (fun id off=>orZ (qBK (fnth H id)) (g.run call n e H lo) fun cs=>qAm l off cs fun v=>k.run call n ((d,v)::e) H lo) (fun _ _=>none) (fun x=>qyC l x fun v=>k.run call n ((d,v)::e) H lo))
  (fun s0 call n e H lo=>asP ((kR a).run e) (g.run call n e H lo) (fun _ _=>none) (fun s off=>Bool.rec (motive:=fun _=>R) none (orN (qy0 (fget s e)) fun cs=>qAm l off cs fun v=>k.run call n ((d,v)::e) H lo) (qSN s0 s)) (fun _=>none)) sl
theorem qBP {d:Nat} {sl:Option Nat} {l:L} {a:O} {g k:K} (hg:qN g.run (.load false sl l a) (some d) k):qN (qI9 d sl l a g k) (.load false sl l a) (some d) k:=by
 intro call n e H lo z h
 cases sl with
 | none=>
  have h:(asP ((kR a).run e) (g.run call n e H lo) (fun id off=>orZ (qBK (fnth H id)) (g.run call n e H lo) fun cs=>qAm l off cs fun v=>k.run call n ((d,v)::e) H lo) (fun _ _=>none) (fun x=>qyC l x fun v=>k.run call n ((d,v)::e) H lo))=some z:=h
  rcases qff h with h|⟨id,off,ha,h⟩|⟨_,_,_,h⟩|⟨y,ha,h⟩
  ·exact hg h
  ·rcases qqr h with h|⟨cs,hc,h⟩
   ·exact hg h
   obtain ⟨v,hv,hb,h⟩:=qu2 h
   have ha':rd e a=.ptr id off:=by rw [kh (by rw [ha];trivial),ha]
   have he:qa call (.load false none l a) ⟨e,H,lo⟩=some ⟨false,true,v,⟨e,H,lo⟩⟩:=by
    rcases qAh hc with hc|⟨l',hc⟩<;>
    ·rw [jA] at hc
     simp only [qa,zD,ha',qz,qH,hc,hv,qSW,cond_false,ok]
   rw [he];exact qk hb h
  ·cases h
  ·obtain ⟨h1,h2⟩:=qsG (st:=⟨e,H,lo⟩) h
   have ha':rd e a=.cp y:=by rw [kh (by rw [ha];trivial),ha]
   have he:qa call (.load false none l a) ⟨e,H,lo⟩=some ⟨false,true,.d y,⟨e,H,lo⟩⟩:=by
    simp only [qa,zD,ha',qz,h1,qSW,cond_false,ok]
   rw [he];exact qk rfl h2
 | some s0=>
  have h:(asP ((kR a).run e) (g.run call n e H lo) (fun _ _=>none) (fun s off=>Bool.rec (motive:=fun _=>R) none (orN (qy0 (fget s e)) fun cs=>qAm l off cs fun v=>k.run call n ((d,v)::e) H lo) (qSN s0 s)) (fun _=>none))=some z:=h
  rcases qff h with h|⟨_,_,_,h⟩|⟨s,off,ha,h⟩|⟨_,_,h⟩
  ·exact hg h
  ·cases h
  ·cases hb:qSN s0 s with
   | false=>rw [hb] at h;cases h
   | true=>
    rw [hb] at h
    obtain ⟨cs,hc,h⟩:=k9 (o:=qy0 (fget s e)) h
    obtain ⟨v,hv,hbx,h⟩:=qu2 h
    have hc:=qwc hc
    rw [qam] at hc
    have ha':rd e a=.lp s off:=by rw [kh (by rw [ha];trivial),ha]
    have he:qa call (.load false (some s0) l a) ⟨e,H,lo⟩=some ⟨false,true,v,⟨e,H,lo⟩⟩:=by
     simp only [qa,zD,ha',qz,qH,hc,hv,hb,qSW,cond_false,ok]
    rw [he];exact qk hbx h
  ·cases h
noncomputable def qAN (d:Nat) (l:L) (a:O) (k:K):KF:=fun call n e H lo=>asP ((kR a).run e) none (fun _ _=>none) (fun _ _=>none) (fun x=>qyC l x fun v=>k.run call n ((d,v)::e) H lo)
theorem qz4 {d:Nat} {l:L} {a:O} {k:K}:qN (qAN d l a k) (.loadC l a) (some d) k:=by
 intro call n e H lo z h
 unfold qAN at h
 rcases qff h with h|⟨_,_,_,h⟩|⟨_,_,_,h⟩|⟨y,ha,h⟩
 ·cases h
 ·cases h
 ·cases h
 ·obtain ⟨h1,h2⟩:=qsG (st:=⟨e,H,lo⟩) h
  have ha':rd e a=.cp y:=by rw [kh (by rw [ha];trivial),ha]
  have he:qa call (.loadC l a) ⟨e,H,lo⟩=some ⟨false,true,.d y,⟨e,H,lo⟩⟩:=by
   simp only [qa,qfM,ha',h1,ok]
  rw [he];exact qk rfl h2
noncomputable def qKO (d:Nat) (a:O) (g k:K):KF:=fun call n e H lo=>
 asP ((kR a).run e) (g.run call n e H lo) (fun id off=>k.run call n ((d,.ptr id off)::e) H lo) (fun s off=>k.run call n ((d,.lp s off)::e) H lo) (fun x=>k.run call n ((d,.cp x)::e) H lo)
theorem qD9 {d:Nat} {a:O} {g k:K} (hg:qN g.run (.nilCheck a) (some d) k):qN (qKO d a g k) (.nilCheck a) (some d) k:=by
 intro call n e H lo z h
 unfold qKO at h
 rcases qff h with h|⟨id,off,ha,h⟩|⟨s,off,ha,h⟩|⟨y,ha,h⟩
 ·exact hg h
 ·have ha':rd e a=.ptr id off:=(kh (by rw [ha];trivial)).trans ha
  rw [show qa call (.nilCheck a) ⟨e,H,lo⟩=some ⟨false,true,.ptr id off,⟨e,H,lo⟩⟩ by simp only [qa,za,ha',ok]]
  exact qk rfl h
 ·have ha':rd e a=.lp s off:=(kh (by rw [ha];trivial)).trans ha
  rw [show qa call (.nilCheck a) ⟨e,H,lo⟩=some ⟨false,true,.lp s off,⟨e,H,lo⟩⟩ by simp only [qa,za,ha',ok]]
  exact qk rfl h
 ·have ha':rd e a=.cp y:=(kh (by rw [ha];trivial)).trans ha
  rw [show qa call (.nilCheck a) ⟨e,H,lo⟩=some ⟨false,true,.cp y,⟨e,H,lo⟩⟩ by simp only [qa,za,ha',ok]]
  exact qk rfl h
noncomputable def qNf (d:Nat) (a:O) (o:Nat) (l:L) (g k:K):KF:=fun call n e H lo=>
 asP ((kR a).run e) (g.run call n e H lo) (fun id off=>qo (Nat.add off o) fun off=>k.run call n ((d,.ptr id off)::e) H lo) (fun s off=>qo (Nat.add off o) fun off=>k.run call n ((d,.lp s off)::e) H lo) (fun _=>g.run call n e H lo)
theorem qhX {a:Nat} {κ:Nat->R}:qo a κ=κ a:=qQ a κ
theorem qCX {d:Nat} {a:O} {o:Nat} {l:L} {g k:K} (hg:qN g.run (.fieldAddr a o l) (some d) k):qN (qNf d a o l g k) (.fieldAddr a o l) (some d) k:=by
 intro call n e H lo z h
 unfold qNf at h
 rcases qff h with h|⟨id,off,ha,h⟩|⟨s,off,ha,h⟩|⟨y,ha,h⟩
 ·exact hg h
 ·rw [qhX] at h
  have ha':rd e a=.ptr id off:=(kh (by rw [ha];trivial)).trans ha
  have he:qa call (.fieldAddr a o l) ⟨e,H,lo⟩=some ⟨false,true,.ptr id (off+o),⟨e,H,lo⟩⟩:=by
   simp only [qa,qX,ha',ok]
  rw [he];exact qk rfl h
 ·rw [qhX] at h
  have ha':rd e a=.lp s off:=(kh (by rw [ha];trivial)).trans ha
  have he:qa call (.fieldAddr a o l) ⟨e,H,lo⟩=some ⟨false,true,.lp s (off+o),⟨e,H,lo⟩⟩:=by
   simp only [qa,qX,ha',ok]
  rw [he];exact qk rfl h
 ·exact hg h
noncomputable def qwp (z:Int) (κ:Nat->R):R:=Int.rec (motive:=fun _=>R) κ (fun _=>none) z
theorem qf6 {z:Int} {κ:Nat->R} {x:Ex × St} (h:qwp z κ=some x):∃m:Nat,z=.ofNat m/\κ m=some x:=by
 cases z with
 | ofNat m=>exact ⟨m,rfl,h⟩
 | negSucc m=>cases h
noncomputable def szD (y:D):Nat:=D.rec (motive_1:=fun _=>Nat) (motive_2:=fun _=>Nat) (fun _=>1) (fun _ _=>1) (fun _=>1) 1 (fun _ _=>1) (fun cs _=>jO cs) 1 1 1 1 1 (fun _ _ _ _=>1) y
theorem qxF (y:D):szD y=y.cells.length:=by
 cases y with
 | agg cs=>exact kg cs
 | _=>rfl
noncomputable def asL (v:V) (z nl:R) (κ:List D->R):R:=OL.rec (motive:=fun _=>R) z nl κ (vL v)
theorem qua {v:V} {z nl:R} {κ:List D->R} {x:Ex × St} (h:asL v z nl κ=some x):z=some x\/(v=.d .nil/\nl=some x)\/∃xs,v=.d (.sl xs)/\κ xs=some x:=by
 unfold asL at h
 cases hv:vL v with
 | no=>rw [hv] at h;exact .inl h
 | nil=>rw [hv] at h;exact .inr (.inl ⟨qOe hv,h⟩)
 | sl xs=>rw [hv] at h;exact .inr (.inr ⟨xs,qPx hv,h⟩)
noncomputable def asT (v:V) (z:R) (κ:List Nat->R):R:=OT.rec (motive:=fun _=>R) z κ (vT v)
theorem qpR {v:V} {z:R} {κ:List Nat->R} {x:Ex × St} (h:asT v z κ=some x):z=some x\/∃t,v=.d (.s t)/\κ t=some x:=by
 unfold asT at h
 cases hv:vT v with
 | no=>rw [hv] at h;exact .inl h
 | s t=>rw [hv] at h;exact .inr ⟨t,qQh hv,h⟩
noncomputable def qKJ (d:Nat) (x i:O) (size:Nat) (g k:K):KF:=fun call n e H lo=>
 asL ((kR x).run e) (g.run call n e H lo) none fun xs=>asN ((kR i).run e) none fun _ z=>qwp z fun m=>orN (fnth xs m) fun y=>Bool.rec (motive:=fun _=>R) none (k.run call n ((d,.cp y)::e) H lo) (qSN (szD y) size)
theorem qC8 {d:Nat} {x i:O} {size:Nat} {g k:K} (hg:qN g.run (.indexAddr x i size none) (some d) k):qN (qKJ d x i size g k) (.indexAddr x i size none) (some d) k:=by
 intro call n e H lo z h
 unfold qKJ at h
 rcases qua h with h|⟨_,h⟩|⟨xs,hx,h⟩
 ·exact hg h
 ·cases h
 rcases qbT h with h|⟨kk,w,hi,h⟩
 ·cases h
 obtain ⟨m,rfl,h⟩:=qf6 h
 obtain ⟨y,hy,h⟩:=k9 h
 rw [jA] at hy
 rw [qxF] at h
 cases hb:qSN y.cells.length size with
 | false=>rw [hb] at h;cases h
 | true=>
  rw [hb] at h
  have hx':rd e x=.d (.sl xs):=(kh (by rw [hx];trivial)).trans hx
  have hl:leI 0 (Int.ofNat m)=true:=by show Nat.ble 0 m=true;exact Nat.ble_eq_true_of_le (Nat.zero_le m)
  have ht:(Int.ofNat m).toNat=m:=rfl
  have he:qa call (.indexAddr x i size none) ⟨e,H,lo⟩=some ⟨false,true,.cp y,⟨e,H,lo⟩⟩:=by
   simp only [qa,qW,z7,hx',qqh hi,hl,ht,hy,hb,cond_true,ok]
  rw [he];exact qk rfl h
noncomputable def qJv (d:Nat) (x i:O) (k:K):KF:=fun call n e H lo=>
 asT ((kR x).run e) none fun t=>asN ((kR i).run e) none fun _ z=>qwp z fun m=>orN (fnth t m) fun y=>k.run call n ((d,.d (.i .u8 (.ofNat y)))::e) H lo
theorem qDM {d:Nat} {x i:O} {k:K}:qN (qJv d x i k) (.index x i) (some d) k:=by
 intro call n e H lo z h
 unfold qJv at h
 rcases qpR h with h|⟨t,hx,h⟩
 ·cases h
 rcases qbT h with h|⟨kk,w,hi,h⟩
 ·cases h
 obtain ⟨m,rfl,h⟩:=qf6 h
 obtain ⟨y,hy,h⟩:=k9 h
 rw [jA] at hy
 have hx':rd e x=.d (.s t):=(kh (by rw [hx];trivial)).trans hx
 have hl:leI 0 (Int.ofNat m)=true:=by show Nat.ble 0 m=true;exact Nat.ble_eq_true_of_le (Nat.zero_le m)
 have ht:(Int.ofNat m).toNat=m:=rfl
 have he:qa call (.index x i) ⟨e,H,lo⟩=some ⟨false,true,.d (.i .u8 (.ofNat y)),⟨e,H,lo⟩⟩:=by
  simp only [qa,qge,hx',qqh hi,hl,ht,hy,cond_true,ok];rfl
 rw [he];exact qk rfl h
noncomputable def asU (v:V) (κ:List V->R):R:=OU.rec (motive:=fun _=>R) none κ (vU v)
theorem qGV {v:V} {κ:List V->R} {x:Ex × St} (h:asU v κ=some x):∃vs,v=.tup vs/\κ vs=some x:=by
 unfold asU at h
 cases hv:vU v with
 | no=>rw [hv] at h;cases h
 | t vs=>rw [hv] at h;exact ⟨vs,qSB hv,h⟩
noncomputable def qJ6 (d m i:Nat) (k:K):KF:=fun call n e H lo=>
 asU (fget m e) fun vs=>orN (fnth vs i) fun v=>qCC v fun v=>k.run call n ((d,v)::e) H lo
theorem qDF {d m i:Nat} {k:K}:qN (qJ6 d m i k) (.extract (.t m) i) (some d) k:=by
 intro call n e H lo z h
 unfold qJ6 at h
 obtain ⟨vs,hv,h⟩:=qGV h
 obtain ⟨v,hn,h⟩:=k9 h
 obtain ⟨hb,h⟩:=qpG h
 rw [qam] at hv
 rw [jA] at hn
 have he:qa call (.extract (.t m) i) ⟨e,H,lo⟩=some ⟨false,true,copy v,⟨e,H,lo⟩⟩:=by
  simp only [qa,jK,hv,hn,ok]
 rw [he];exact qk hb h
noncomputable def qG7 (d:Nat) (x:O) (k:K):KF:=fun call n e H lo=>
 asT ((kR x).run e) none fun t=>qo (jO t) fun m=>k.run call n ((d,.d (.i .i64 (.ofNat m)))::e) H lo
theorem qAD {d:Nat} {x:O} {k:K}:qN (qG7 d x k) (.bi .lenS [x]) (some d) k:=by
 intro call n e H lo z h
 unfold qG7 at h
 rcases qpR h with h|⟨t,hx,h⟩
 ·cases h
 rw [qhX,kg] at h
 have hx':rd e x=.d (.s t):=(kh (by rw [hx];trivial)).trans hx
 have he:qa call (.bi .lenS [x]) ⟨e,H,lo⟩=some ⟨false,true,.d (.i .i64 (.ofNat t.length)),⟨e,H,lo⟩⟩:=by
  simp only [qa,eBi,qok,hx',ok];rfl
 rw [he];exact qk rfl h
noncomputable def qE3 (d:Nat) (x:O) (g k:K):KF:=fun call n e H lo=>
 asL ((kR x).run e) (g.run call n e H lo) (k.run call n ((d,.d (.i .i64 (.ofNat 0)))::e) H lo) fun xs=>qo (jO xs) fun m=>k.run call n ((d,.d (.i .i64 (.ofNat m)))::e) H lo
theorem qBp {d:Nat} {x:O} {g k:K} (hg:qN g.run (.bi .lenL [x]) (some d) k):qN (qE3 d x g k) (.bi .lenL [x]) (some d) k:=by
 intro call n e H lo z h
 unfold qE3 at h
 rcases qua h with h|⟨hx,h⟩|⟨xs,hx,h⟩
 ·exact hg h
 ·have hx':rd e x=.d .nil:=(kh (by rw [hx];trivial)).trans hx
  have he:qa call (.bi .lenL [x]) ⟨e,H,lo⟩=some ⟨false,true,.d (.i .i64 (.ofNat 0)),⟨e,H,lo⟩⟩:=by
   simp only [qa,eBi,qc6,qIg,hx',ok];rfl
  rw [he];exact qk rfl h
 ·rw [qhX,kg] at h
  have hx':rd e x=.d (.sl xs):=(kh (by rw [hx];trivial)).trans hx
  have he:qa call (.bi .lenL [x]) ⟨e,H,lo⟩=some ⟨false,true,.d (.i .i64 (.ofNat xs.length)),⟨e,H,lo⟩⟩:=by
   simp only [qa,eBi,qc6,qIg,hx',ok];rfl
  rw [he];exact qk rfl h
noncomputable def asB (v:V) (a b:R):R:=OB.rec (motive:=fun _=>R) none b a (vB v)
theorem quV {v:V} {a b:R} {x:Ex × St} (h:asB v a b=some x):(v=.d (.b true)/\a=some x)\/(v=.d (.b false)/\b=some x):=by
 unfold asB at h
 cases hv:vB v with
 | no=>rw [hv] at h;cases h
 | t=>rw [hv] at h;exact .inl ⟨qSF hv,h⟩
 | f=>rw [hv] at h;exact .inr ⟨qR8 hv,h⟩
noncomputable def qM1 (d:Nat) (x:O) (k:K):KF:=fun call n e H lo=>
 asB ((kR x).run e) (k.run call n ((d,.d (.b false))::e) H lo) (k.run call n ((d,.d (.b true))::e) H lo)
theorem qEf {d:Nat} {x:O} {k:K}:qN (qM1 d x k) (.un .not x) (some d) k:=by
 intro call n e H lo z h
 unfold qM1 at h
 rcases quV h with ⟨hx,h⟩|⟨hx,h⟩
 ·have hx':rd e x=.d (.b true):=(kh (by rw [hx];trivial)).trans hx
  rw [show qa call (.un .not x) ⟨e,H,lo⟩=some ⟨false,true,.d (.b false),⟨e,H,lo⟩⟩ by simp only [qa,eUn,hx',unD,ok];rfl]
  exact qk rfl h
 ·have hx':rd e x=.d (.b false):=(kh (by rw [hx];trivial)).trans hx
  rw [show qa call (.un .not x) ⟨e,H,lo⟩=some ⟨false,true,.d (.b true),⟨e,H,lo⟩⟩ by simp only [qa,eUn,hx',unD,ok];rfl]
  exact qk rfl h
noncomputable def qAX (v:V):Bool:=V.rec (motive_1:=fun _=>Bool) (motive_2:=fun _=>Bool) (fun x=>D.rec (motive_1:=fun _=>Bool) (motive_2:=fun _=>Bool) (fun _=>true) (fun _ _=>true) (fun _=>true) true (fun _ _=>true) (fun _ _=>false) true true true true true (fun _ _ _ _=>true) x) (fun _=>true) (fun _=>true) (fun _ _=>true) (fun _ _=>false) (fun _ _=>false) (fun _=>false) (fun _ _ _ _=>true) (fun _ _ _=>true) (fun _=>true) (fun _ _ _ _ _=>false) (fun _ _ _=>false) (fun _ _=>false) (fun _ _=>false) false false (fun _ _ _ _=>false) v
theorem qB8 {v:V} (h:qAX v=true):v.cells=[v]/\V.ones [v]=true:=by
 cases v with
 | d x=>cases x<;>first|exact ⟨rfl,rfl⟩|cases h
 | _=>first|exact ⟨rfl,rfl⟩|cases h
noncomputable def qy2 (v:V) (cs:List V):Nat->(List V->R)->R:=
 List.rec (motive:=fun _=>Nat->(List V->R)->R) (fun _ _=>none) (fun c t ih off κ=>Nat.rec (motive:=fun _=>R) (κ (v::t)) (fun m _=>ih m fun t'=>κ (c::t')) off) cs
theorem qnh {v:V}:∀{cs:List V} {off:Nat} {κ:List V->R} {x:Ex × St},qy2 v cs off κ=some x->∃cs',qL cs off [v]=some cs'/\κ cs'=some x
 | [],off,κ,x,h=>by cases h
 | c::t,0,κ,x,h=>⟨v::t,by simp [qL],h⟩
 | c::t,m+1,κ,x,h=>by
  have h:qy2 v t m (fun t'=>κ (c::t'))=some x:=h
  obtain ⟨cs',h1,h2⟩:=qnh h
  refine ⟨c::cs',?_,h2⟩
  simp only [qL,qSS,qST] at h1 |-
  split at h1
  ·rename_i hl
   cases h1
   rw [if_pos (by omega)]
   simp [Nat.add_right_comm]
  ·cases h1
noncomputable def qoh (o:Obj) (H:List Obj):Nat->(List Obj->R)->R:=
 List.rec (motive:=fun _=>Nat->(List Obj->R)->R) (fun _ _=>none) (fun c t ih off κ=>Nat.rec (motive:=fun _=>R) (κ (o::t)) (fun m _=>ih m fun t'=>κ (c::t')) off) H
theorem qck {o:Obj}:∀{H:List Obj} {id:Nat} {κ:List Obj->R} {x:Ex × St},qoh o H id κ=some x->κ (qq H id o)=some x
 | [],off,κ,x,h=>by cases h
 | c::t,0,κ,x,h=>h
 | c::t,m+1,κ,x,h=>by
  have h:qoh o t m (fun t'=>κ (c::t'))=some x:=h
  exact qck (H:=t) (id:=m) (κ:=fun t'=>κ (c::t')) h
noncomputable def qnO (a b:Nat) (κ:Nat->R):R:=Bool.rec (motive:=fun _=>R) (κ b) (κ a) (Nat.ble a b)
theorem qg3 (a b:Nat) (κ:Nat->R):qnO a b κ=κ (min a b):=by
 unfold qnO
 cases h:Nat.ble a b with
 | true=>rw [Nat.min_eq_left (qSY h)]
 | false=>
  have:¬a<=b:=fun hc=>by rw [Nat.ble_eq_true_of_le hc] at h;cases h
  rw [Nat.min_eq_right (by omega)]
noncomputable def qHh (g k:K) (v:V) (id off:Nat) (call:Call) (n:Nat) (e:Env) (H:List Obj) (lo:Nat) (e':Env):R:=
 match fnth H id with
 | some (.row l cs)=>Bool.rec (motive:=fun _=>R) (g.run call n e H lo) (qy2 v cs off fun cs=>qoh (.row l cs) H id fun H=>qnO lo id fun lo=>k.run call n e' H lo) v.ok
 | _=>g.run call n e H lo
noncomputable def qPz (sl:Option Nat) (a x:O) (g k:K):KF:=
 Option.rec (motive:=fun _=>KF)
  (fun call n e H lo=>asP ((kR a).run e) (g.run call n e H lo) (fun id off=>(rdC x).run e fun v=>Bool.rec (motive:=fun _=>R) (g.run call n e H lo) (orZ (qxY (fnth H id)) (qHh g k v id off call n e H lo ((spO x).run e)) fun cs=>qy2 v cs off fun cs=>qoh (.cells cs) H id fun H=>qnO lo id fun lo=>k.run call n ((spO x).run e) H lo) (qAX v)) (fun _ _=>none) (fun _=>none))
  (fun s0 call n e H lo=>asP ((kR a).run e) (g.run call n e H lo) (fun _ _=>none) (fun s off=>(rdC x).run e fun v=>Bool.rec (motive:=fun _=>R) (g.run call n e H lo) (Bool.rec (motive:=fun _=>R) none (orN (qy0 (fget s ((spO x).run e))) fun cs=>qy2 v cs off fun cs=>k.run call n ((s,.box cs)::(spO x).run e) H lo) (qSN s0 s)) (qAX v)) (fun _=>none)) sl
theorem qCU {sl:Option Nat} {a x:O} {g k:K} (hg:qN g.run (.store sl ⟨1,false⟩ a x) none k):qN (qPz sl a x g k) (.store sl ⟨1,false⟩ a x) none k:=by
 intro call n e H lo z h
 cases sl with
 | none=>
  have h:(asP ((kR a).run e) (g.run call n e H lo) (fun id off=>(rdC x).run e fun v=>Bool.rec (motive:=fun _=>R) (g.run call n e H lo) (orZ (qxY (fnth H id)) (qHh g k v id off call n e H lo ((spO x).run e)) fun cs=>qy2 v cs off fun cs=>qoh (.cells cs) H id fun H=>qnO lo id fun lo=>k.run call n ((spO x).run e) H lo) (qAX v)) (fun _ _=>none) (fun _=>none))=some z:=h
  rcases qff h with h|⟨id,off,ha,h⟩|⟨_,_,_,h⟩|⟨y,ha,h⟩
  ·exact hg h
  ·rw [qhN] at h
   cases ho:qAX (rd e x) with
   | false=>rw [ho] at h;exact hg h
   | true=>
    rw [ho] at h
    obtain ⟨h1,h2⟩:=qB8 ho
    rcases qqr (o:=qxY (fnth H id)) h with h|⟨cs,hc,h⟩
    ·unfold qHh at h
     rw [jA] at h
     split at h
     ·rename_i l' cs hob
      cases hok:(rd e x).ok with
      | false=>rw [hok] at h;exact hg h
      | true=>
       rw [hok] at h
       obtain ⟨cs',hs,h⟩:=qnh h
       have h:=qck h
       rw [qg3,qpr] at h
       have ha':rd e a=.ptr id off:=(kh (by rw [ha];trivial)).trans ha
       have he:qa call (.store none ⟨1,false⟩ a x) ⟨e,H,lo⟩=some ⟨false,false,.undef,⟨spent x e,qq H id (.row l' cs'),min lo id⟩⟩:=by
        simp only [qa,qaz,ha',qz,qai,hob,h1,h2,hs,hok,V.ok.oks,qSW,cond_false,okH,qSS,qST,qSV,decide_true,qSP,if_true]
       rw [he]
       exact ⟨_,rfl,.inl ⟨rfl,_,rfl,h⟩⟩
     ·exact hg h
    obtain ⟨cs',hs,h⟩:=qnh h
    have h:=qck h
    rw [qg3,qpr] at h
    have hc:=qyU hc
    rw [jA] at hc
    have ha':rd e a=.ptr id off:=(kh (by rw [ha];trivial)).trans ha
    have he:qa call (.store none ⟨1,false⟩ a x) ⟨e,H,lo⟩=some ⟨false,false,.undef,⟨spent x e,qq H id (.cells cs'),min lo id⟩⟩:=by
     simp only [qa,qaz,ha',qz,qai,hc,h1,h2,hs,qSW,cond_false,okH,qSS,qST,qSV,decide_true,qSP,if_true]
    rw [he]
    exact ⟨_,rfl,.inl ⟨rfl,_,rfl,h⟩⟩
  ·cases h
  ·cases h
 | some s0=>
  have h:(asP ((kR a).run e) (g.run call n e H lo) (fun _ _=>none) (fun s off=>(rdC x).run e fun v=>Bool.rec (motive:=fun _=>R) (g.run call n e H lo) (Bool.rec (motive:=fun _=>R) none (orN (qy0 (fget s ((spO x).run e))) fun cs=>qy2 v cs off fun cs=>k.run call n ((s,.box cs)::(spO x).run e) H lo) (qSN s0 s)) (qAX v)) (fun _=>none))=some z:=h
  rcases qff h with h|⟨_,_,_,h⟩|⟨s,off,ha,h⟩|⟨_,_,h⟩
  ·exact hg h
  ·cases h
  ·rw [qhN] at h
   cases ho:qAX (rd e x) with
   | false=>rw [ho] at h;exact hg h
   | true=>
    rw [ho] at h
    obtain ⟨h1,h2⟩:=qB8 ho
    have h:Bool.rec (motive:=fun _=>R) none (orN (qy0 (fget s ((spO x).run e))) fun cs=>qy2 (rd e x) cs off fun cs=>k.run call n ((s,.box cs)::(spO x).run e) H lo) (qSN s0 s)=some z:=h
    cases hb:qSN s0 s with
    | false=>rw [hb] at h;cases h
    | true=>
     rw [hb] at h
     obtain ⟨cs,hc,h⟩:=k9 (o:=qy0 (fget s ((spO x).run e))) h
     obtain ⟨cs',hs,h⟩:=qnh h
     have hc:=qwc hc
     rw [qam,qpr] at hc
     rw [qpr] at h
     have ha':rd e a=.lp s off:=(kh (by rw [ha];trivial)).trans ha
     have he:qa call (.store (some s0) ⟨1,false⟩ a x) ⟨e,H,lo⟩=some ⟨false,true,.undef,⟨(s,.box cs')::spent x e,H,lo⟩⟩:=by
      simp only [qa,qaz,ha',qz,qai,hb,hc,h1,h2,hs,qSW,cond_false,ok,qSS,qST,qSV,decide_true,qSP,if_true]
     rw [he]
     exact ⟨_,rfl,.inl ⟨rfl,_,rfl,h⟩⟩
  ·cases h
noncomputable def qFN {α:Type} (o:α) (l:List α):(List α->R)->R:=List.rec (motive:=fun _=>(List α->R)->R) (fun κ=>κ [o]) (fun x _ ih κ=>ih fun r=>κ (x::r)) l
theorem qzY {α:Type} (o:α) (l:List α) (κ:List α->R):qFN o l κ=κ (l++[o]):=by
 induction l generalizing κ with
 | nil=>rfl
 | cons x l ih=>exact ih _
noncomputable def qJr (d:Nat) (zero:List D) (k:K):KF:=fun call n e H lo=>
 jm (fun v κ=>κ v) (zero.map V.d) fun cs=>qo (jO H) fun m=>qFN (.cells cs) H fun H=>k.run call n ((d,.ptr m 0)::e) H lo
theorem qEn {d:Nat} {zero:List D} {k:K}:qN (qJr d zero k) (.alloc false zero) (some d) k:=by
 intro call n e H lo z h
 unfold qJr at h
 rw [kl (fun v κ=>rfl),qhX,kg,qzY] at h
 exact qk (same:=false) rfl h
noncomputable def qLB (d:Nat) (k:K):KF:=fun call n e H lo=>qo (jO H) fun m=>qFN (.map []) H fun H=>k.run call n ((d,.map m)::e) H lo
theorem qEd {d:Nat} {k:K}:qN (qLB d k) .mkMap (some d) k:=by
 intro call n e H lo z h
 unfold qLB at h
 rw [qhX,kg,qzY] at h
 exact qk (same:=false) rfl h
noncomputable def qGj (a:List Nat):List Nat->Bool:=List.rec (motive:=fun _=>List Nat->Bool) (fun b=>List.rec (motive:=fun _=>Bool) true (fun _ _ _=>false) b) (fun x _ ih b=>List.rec (motive:=fun _=>Bool) false (fun y t _=>Bool.rec (motive:=fun _=>Bool) false (ih t) (qSN x y)) b) a
theorem qCO:∀a b:List Nat,qGj a b=eqT a b
 | [],[]=>rfl
 | [],_::_=>rfl
 | _::_,[]=>rfl
 | x::a,y::b=>by
  show Bool.rec (motive:=fun _=>Bool) false (qGj a b) (qSN x y)=(qSN x y && eqT a b)
  rw [qCO a b]
  cases qSN x y<;>rfl
noncomputable def qy9 (x w:D):Option Bool:=D.rec (motive_1:=fun _=>Option Bool) (motive_2:=fun _=>Option Bool) (fun y=>D.same (.b y) w) (fun k n=>D.same (.i k n) w) (fun t=>OT.rec (motive:=fun _=>Option Bool) (D.same (.s t) w) (fun u=>some (qGj t u)) (vT (.d w))) none (fun _ _=>none) (fun _ _=>none) none none none none none (fun _ _ _ _=>none) x
theorem qzq (x w:D):qy9 x w=D.same x w:=by
 cases x with
 | s t=>
  show OT.rec (motive:=fun _=>Option Bool) (D.same (.s t) w) (fun u=>some (qGj t u)) (vT (.d w))=_
  cases h:vT (.d w) with
  | no=>rfl
  | s u=>
   have:=qQh h
   cases this
   show some (qGj t u)=some (eqT t u)
   rw [qCO]
 | b z=>rfl
 | i k n=>rfl
 | _=>cases w<;>rfl
noncomputable def qGx (k:D) (es:List (D × V)):Option (Option V):=List.rec (motive:=fun _=>Option (Option V)) (some none) (fun p _ ih=>Option.rec (motive:=fun _=>Option (Option V)) none (fun b=>Bool.rec (motive:=fun _=>Option (Option V)) ih (some (some p.2)) b) (qy9 k p.1)) es
theorem qFe (k:D) (es:List (D × V)):qGx k es=qcw k es:=by
 induction es with
 | nil=>rfl
 | cons p es ih=>
  obtain ⟨k',v⟩:=p
  show Option.rec (motive:=fun _=>Option (Option V)) none (fun b=>Bool.rec (motive:=fun _=>Option (Option V)) (qGx k es) (some (some v)) b) (qy9 k k')=qcw k ((k',v)::es)
  rw [qzq,ih]
  simp only [qcw]
  cases D.same k k' with
  | none=>rfl
  | some b=>cases b<;>rfl
noncomputable def qFX (k:D) (v:V) (es:List (D × V)):(List (D × V)->R)->R:=List.rec (motive:=fun _=>(List (D × V)->R)->R) (fun κ=>κ [(k,v)]) (fun p t ih κ=>Option.rec (motive:=fun _=>R) none (fun b=>Bool.rec (motive:=fun _=>R) (ih fun r=>κ (p::r)) (κ ((p.1,v)::t)) b) (qy9 k p.1)) es
theorem qvJ {k:D} {v:V}:∀{es:List (D × V)} {κ:List (D × V)->R} {x:Ex × St},qFX k v es κ=some x->∃es',qlR k v es=some es'/\κ es'=some x
 | [],κ,x,h=>⟨_,rfl,h⟩
 | (k',w)::es,κ,x,h=>by
  have h:Option.rec (motive:=fun _=>R) none (fun b=>Bool.rec (motive:=fun _=>R) (qFX k v es fun r=>κ ((k',w)::r)) (κ ((k',v)::es)) b) (qy9 k k')=some x:=h
  rw [qzq] at h
  cases hs:D.same k k' with
  | none=>rw [hs] at h;cases h
  | some b=>
   rw [hs] at h
   cases b with
   | true=>exact ⟨_,by simp only [qlR,hs],h⟩
   | false=>
    obtain ⟨es',h1,h2⟩:=qvJ (es:=es) h
    exact ⟨_,by simp only [qlR,hs,h1],h2⟩
noncomputable def vD (v:V):Option D:=V.rec (motive_1:=fun _=>Option D) (motive_2:=fun _=>Option D) (fun x=>some x) (fun _=>none) (fun _=>none) (fun _ _=>none) (fun _ _=>none) (fun _ _=>none) (fun _=>none) (fun _ _ _ _=>none) (fun _ _ _=>none) (fun _=>none) (fun _ _ _ _ _=>none) (fun _ _ _=>none) (fun _ _=>none) (fun _ _=>none) none none (fun _ _ _ _=>none) v
theorem qyg {v:V} {x:D} (h:vD v=some x):v=.d x:=by
 cases v with
 | d y=>have h:some y=some x:=h;cases h;rfl
 | _=>cases h
noncomputable def qLS (v:V):Option Nat:=V.rec (motive_1:=fun _=>Option Nat) (motive_2:=fun _=>Option Nat) (fun _=>none) (fun _=>none) (fun _=>none) (fun _ _=>none) (fun _ _=>none) (fun _ _=>none) (fun _=>none) (fun _ _ _ _=>none) (fun _ _ _=>none) (fun a=>some a) (fun _ _ _ _ _=>none) (fun _ _ _=>none) (fun _ _=>none) (fun _ _=>none) none none (fun _ _ _ _=>none) v
theorem qwC {v:V} {m:Nat} (h:qLS v=some m):v=.map m:=by
 cases v with
 | map y=>have h:some y=some m:=h;cases h;rfl
 | _=>cases h
noncomputable def qMP (o:Option Obj):Option (List (D × V)):=Option.rec (motive:=fun _=>Option (List (D × V))) none (fun ob=>Obj.rec (motive:=fun _=>Option (List (D × V))) (fun _=>none) (fun es=>some es) (fun _ _=>none) none (fun _=>none) (fun _ _=>none) ob) o
theorem qwN {o:Option Obj} {es:List (D × V)} (h:qMP o=some es):o=some (.map es):=by
 cases o with
 | none=>cases h
 | some ob=>cases ob with
  | map c=>have h:some c=some es:=h;cases h;rfl
  | _=>cases h
noncomputable def qau (b:Bool) (κ:R):R:=Bool.rec (motive:=fun _=>R) none κ b
theorem qT {b:Bool} {κ:R} {x:Ex × St} (h:qau b κ=some x):b=true/\κ=some x:=by
 cases b with
 | false=>cases h
 | true=>exact ⟨rfl,h⟩
noncomputable def qGE (d:Nat) (kk:Nat) (zero:D) (m q:O) (c:Bool) (g k:K):KF:=fun call n e H lo=>
 orZ (qLS ((kR m).run e)) (g.run call n e H lo) fun id=>orN (vD ((kR q).run e)) fun key=>orN (qMP (fnth H id)) fun es=>qau (zH kk key) (orN (qGx key es) fun r=>
  Option.rec (motive:=fun _=>R) (Bool.rec (motive:=fun _=>R) (k.run call n ((d,.d zero)::e) H lo) (k.run call n ((d,.tup [.d zero,.d (.b false)])::e) H lo) c) (fun v=>Bool.rec (motive:=fun _=>R) (qCC v fun v=>k.run call n ((d,v)::e) H lo) (qCC v fun v=>k.run call n ((d,.tup [v,.d (.b true)])::e) H lo) c) r)
theorem qAU {d kk:Nat} {zero:D} {m q:O} {c:Bool} {g k:K} (hg:qN g.run (.lookup kk zero m q c) (some d) k):qN (qGE d kk zero m q c g k) (.lookup kk zero m q c) (some d) k:=by
 intro call n e H lo z h
 unfold qGE at h
 rcases qqr h with h|⟨id,hm,h⟩
 ·exact hg h
 obtain ⟨key,hq,h⟩:=k9 h
 obtain ⟨es,hs,h⟩:=k9 h
 obtain ⟨hgk,h⟩:=qT h
 obtain ⟨r,hf,h⟩:=k9 h
 have hm:=qwC hm
 have hq:=qyg hq
 have hs:=qwN hs
 rw [jA] at hs
 rw [qFe] at hf
 have hm':rd e m=.map id:=(kh (by rw [hm];trivial)).trans hm
 have hq':rd e q=.d key:=(kh (by rw [hq];trivial)).trans hq
 cases r with
 | none=>
  have he:qa call (.lookup kk zero m q c) ⟨e,H,lo⟩=some ⟨false,true,bif c then .tup [.d zero,.d (.b false)] else .d zero,⟨e,H,lo⟩⟩:=by
   simp only [qa,z3,hm',hq',hs,hgk,hf,ok,if_true]
  rw [he]
  cases c<;>exact qk rfl h
 | some v=>
  have he:qa call (.lookup kk zero m q c) ⟨e,H,lo⟩=some ⟨false,true,bif c then .tup [copy v,.d (.b true)] else copy v,⟨e,H,lo⟩⟩:=by
   simp only [qa,z3,hm',hq',hs,hgk,hf,ok,if_true]
  rw [he]
  cases c with
  | false=>
   obtain ⟨hb,h⟩:=qpG (v:=v) h
   exact qk hb h
  | true=>
   obtain ⟨hb,h⟩:=qpG (v:=v) h
   exact qk rfl h
noncomputable def okF (v:V):Bool:=V.rec (motive_1:=fun _=>Bool) (motive_2:=fun _=>Bool) (fun _=>true) (fun _=>false) (fun _=>true) (fun _ _=>true) (fun _ _=>false) (fun _ _=>false) (fun _=>false) (fun _ _ _ _=>true) (fun _ _ _=>true) (fun _=>true) (fun f a b _ _=>V.ok (.fn f a b)) (fun t x _=>V.ok (.ifc t x)) (fun cs _=>V.ok (.agg cs)) (fun vs _=>V.ok (.tup vs)) true false (fun _ _ _ _=>false) v
theorem qNL (v:V):okF v=v.ok:=by cases v<;>rfl
noncomputable def qKy (kk:Nat) (m q x:O) (k:K):KF:=fun call n e H lo=>
 orN (qLS ((kR m).run e)) fun id=>orN (vD ((kR q).run e)) fun key=>orN (qMP (fnth H id)) fun es=>(rdC x).run e fun v=>qau (zH kk key) (qau (okF v) (qFX key v es fun es=>qoh (.map es) H id fun H=>qnO lo id fun lo=>k.run call n ((spO x).run e) H lo))
theorem qDz {kk:Nat} {m q x:O} {k:K}:qN (qKy kk m q x k) (.mapUpdate kk m q x) none k:=by
 intro call n e H lo z h
 unfold qKy at h
 obtain ⟨id,hm,h⟩:=k9 h
 obtain ⟨key,hq,h⟩:=k9 h
 obtain ⟨es,hs,h⟩:=k9 h
 rw [qhN] at h
 obtain ⟨hgk,h⟩:=qT h
 obtain ⟨hok,h⟩:=qT h
 obtain ⟨es',hp,h⟩:=qvJ h
 have h:=qck h
 rw [qg3,qpr] at h
 have hm:=qwC hm
 have hq:=qyg hq
 have hs:=qwN hs
 rw [jA] at hs
 rw [qNL] at hok
 have hm':rd e m=.map id:=(kh (by rw [hm];trivial)).trans hm
 have hq':rd e q=.d key:=(kh (by rw [hq];trivial)).trans hq
 have he:qa call (.mapUpdate kk m q x) ⟨e,H,lo⟩=some ⟨false,false,.undef,⟨spent x e,qq H id (.map es'),min lo id⟩⟩:=by
  simp only [qa,zW,hm',hq',hs,hgk,hok,hp,okH,if_true,qSP]
 rw [he]
 exact ⟨_,rfl,.inl ⟨rfl,_,rfl,h⟩⟩
noncomputable def hdF (size:Nat) (l:List D):Bool:=List.rec (motive:=fun _=>Bool) true (fun x _ _=>qSN (szD x) size) l
theorem qA6 (size:Nat) (l:List D):hdF size l=qM size l:=by
 cases l with
 | nil=>rfl
 | cons x l=>show qSN (szD x) size=qSN x.cells.length size;rw [qxF]
noncomputable def qup (bytes n:Nat):Bool:=Bool.rec (motive:=fun _=>Bool) false (Nat.ble n 140737488355328) (Nat.ble (Nat.mul n bytes) 140737488355328)
theorem quB (bytes n:Nat):qup bytes n=roomy bytes n:=by
 show Bool.rec (motive:=fun _=>Bool) false (Nat.ble n 140737488355328) (Nat.ble (n * bytes) 140737488355328)=(Nat.ble (n * bytes) 140737488355328 && Nat.ble n 140737488355328)
 cases Nat.ble (n * bytes) 140737488355328<;>rfl
noncomputable def qGI {α:Type} (ys:List α) (l:List α):(List α->R)->R:=List.rec (motive:=fun _=>(List α->R)->R) (fun κ=>κ ys) (fun x _ ih κ=>ih fun r=>κ (x::r)) l
theorem qCz {α:Type} (ys l:List α) (κ:List α->R):qGI ys l κ=κ (l++ys):=by
 induction l generalizing κ with
 | nil=>rfl
 | cons x l ih=>exact ih _
inductive OA where
 | no|nil
 | osl (xs:List D)
 | fsl (xs:List D)
noncomputable def vA (v:V):OA:=V.rec (motive_1:=fun _=>OA) (motive_2:=fun _=>OA) (fun x=>D.rec (motive_1:=fun _=>OA) (motive_2:=fun _=>OA) (fun _=>.no) (fun _ _=>.no) (fun _=>.no) .nil (fun _ _=>.no) (fun _ _=>.no) .no .no .no .no .no (fun _ _ _ _=>.no) x) (fun xs=>.osl xs) (fun xs=>.fsl xs) (fun _ _=>.no) (fun _ _=>.no) (fun _ _=>.no) (fun _=>.no) (fun _ _ _ _=>.no) (fun _ _ _=>.no) (fun _=>.no) (fun _ _ _ _ _=>.no) (fun _ _ _=>.no) (fun _ _=>.no) (fun _ _=>.no) .no .no (fun _ _ _ _=>.no) v
theorem qLm {v:V} (h:vA v=.nil):v=.d .nil:=by
 cases v with
 | d x=>cases x with
  | nil=>rfl
  | _=>cases h
 | _=>cases h
theorem qKk {v:V} {xs:List D} (h:vA v=.osl xs):v=.osl xs:=by
 cases v with
 | osl ys=>have h:OA.osl ys=.osl xs:=h;cases h;rfl
 | d x=>cases x<;>cases h
 | _=>cases h
theorem qMt {v:V} {xs:List D} (h:vA v=.fsl xs):v=.fsl xs:=by
 cases v with
 | fsl ys=>have h:OA.fsl ys=.fsl xs:=h;cases h;rfl
 | d x=>cases x<;>cases h
 | _=>cases h
noncomputable def qQ1 {α:Type} (l:List α):Bool:=List.rec (motive:=fun _=>Bool) false (fun _ _ _=>true) l
noncomputable def qNY (d size bytes:Nat) (x y:O) (g k:K):KF:=fun call n e H lo=>
 (rdC x).run e fun a=>(rdC y).run e fun b=>asL b (g.run call n e H lo) (g.run call n e H lo) fun ys=>
  OA.rec (motive:=fun _=>R) (g.run call n e H lo)
   (Bool.rec (motive:=fun _=>R) (g.run call n e H lo) (qau (hdF size ys) (qau (qup bytes (jO ys)) (k.run call n ((d,.osl ys)::(spO x).run e) H lo))) (qQ1 ys))
   (fun xs=>qau (hdF size xs) (qau (hdF size ys) (qau (qup bytes (Nat.add (jO xs) (jO ys))) (qGI ys xs fun zs=>k.run call n ((d,.osl zs)::(spO x).run e) H lo))))
   (fun xs=>qau (hdF size xs) (qau (hdF size ys) (qau (qup bytes (Nat.add (jO xs) (jO ys))) (qGI ys xs fun zs=>k.run call n ((d,.osl zs)::(spO x).run e) H lo)))) (vA a)
theorem qEz {d size bytes:Nat} {x y:O} {g k:K} (hg:qN g.run (.bi (.append size bytes) [x,y]) (some d) k):qN (qNY d size bytes x y g k) (.bi (.append size bytes) [x,y]) (some d) k:=by
 intro call n e H lo z h
 unfold qNY at h
 rw [qhN,qhN] at h
 rcases qua h with h|⟨_,h⟩|⟨ys,hy,h⟩
 ·exact hg h
 ·exact hg h
 have done:∀{v:V},v.isBox=false->z8 size bytes (rd e x) (rd e y)=some v->k.run call n ((d,v)::(spO x).run e) H lo=some z->qwQ (qa call (.bi (.append size bytes) [x,y]) ⟨e,H,lo⟩) (some d) k call n z:=by
  intro v hb hv hk
  have he:qa call (.bi (.append size bytes) [x,y]) ⟨e,H,lo⟩=some ⟨false,true,v,⟨spent x e,H,lo⟩⟩:=by
   simp only [qa,eBi,j7,hv,ok]
  rw [he]
  rw [qpr] at hk
  exact qk hb hk
 cases ha:vA (rd e x) with
 | no=>rw [ha] at h;exact hg h
 | nil=>
  rw [ha] at h
  cases ys with
  | nil=>exact hg h
  | cons y0 ys=>
   obtain ⟨h1,h⟩:=qT (κ:=qau (qup bytes (jO (y0::ys))) (k.run call n ((d,.osl (y0::ys))::(spO x).run e) H lo)) h
   obtain ⟨h2,h⟩:=qT h
   rw [qA6] at h1
   rw [quB,kg] at h2
   exact done rfl (by rw [qLm ha,hy];simp only [z8,h1,h2,qSP,cond_true]) h
 | osl xs=>
  rw [ha] at h
  obtain ⟨h1,h⟩:=qT (b:=hdF size xs) (κ:=qau (hdF size ys) (qau (qup bytes (Nat.add (jO xs) (jO ys))) (qGI ys xs fun zs=>k.run call n ((d,.osl zs)::(spO x).run e) H lo))) h
  obtain ⟨h2,h⟩:=qT h
  obtain ⟨h3,h⟩:=qT h
  rw [qA6] at h1 h2
  rw [quB,kg,kg] at h3
  have h3:roomy bytes (xs.length+ys.length)=true:=h3
  rw [qCz] at h
  exact done rfl (by rw [qKk ha,hy];simp only [z8,h1,h2,h3,qSP,cond_true]) h
 | fsl xs=>
  rw [ha] at h
  obtain ⟨h1,h⟩:=qT (b:=hdF size xs) (κ:=qau (hdF size ys) (qau (qup bytes (Nat.add (jO xs) (jO ys))) (qGI ys xs fun zs=>k.run call n ((d,.osl zs)::(spO x).run e) H lo))) h
  obtain ⟨h2,h⟩:=qT h
  obtain ⟨h3,h⟩:=qT h
  rw [qA6] at h1 h2
  rw [quB,kg,kg] at h3
  have h3:roomy bytes (xs.length+ys.length)=true:=h3
  rw [qCz] at h
  exact done rfl (by rw [qMt ha,hy];simp only [z8,h1,h2,h3,qSP,cond_true]) h
noncomputable def qiQ (l:List D):Bool:=List.rec (motive:=fun _=>Bool) true (fun x _ ih=>D.rec (motive_1:=fun _=>Bool) (motive_2:=fun _=>Bool) (fun _=>ih) (fun _ _=>ih) (fun _=>ih) ih (fun _ _=>ih) (fun _ _=>false) ih ih ih ih ih (fun _ _ _ _=>ih) x) l
theorem qGh (l:List D):qiQ l=D.ones l:=by
 induction l with
 | nil=>rfl
 | cons x l ih=>
  show (D.rec (motive_1:=fun _=>Bool) (motive_2:=fun _=>Bool) (fun _=>qiQ l) (fun _ _=>qiQ l) (fun _=>qiQ l) (qiQ l) (fun _ _=>qiQ l) (fun _ _=>false) (qiQ l) (qiQ l) (qiQ l) (qiQ l) (qiQ l) (fun _ _ _ _=>qiQ l) x)=(x.one && D.ones l)
  rw [ih]
  cases x<;>rfl
noncomputable def wfF (x:D):Bool:=D.rec (motive_1:=fun _=>Bool) (motive_2:=fun _=>Bool) (fun _=>true) (fun _ _=>true) (fun _=>true) true (fun _ _=>true) (fun cs _=>qiQ cs) true true true true true (fun _ _ _ _=>true) x
theorem qK4 (x:D):wfF x=x.wf:=by
 cases x with
 | agg cs=>exact qGh cs
 | _=>rfl
noncomputable def qJK (d:Nat) (zero:D) (x:O) (g k:K):KF:=fun call n e H lo=>
 (rdC x).run e fun v=>orZ (vD v) (g.run call n e H lo) fun y=>qau (qSN (szD y) (szD zero)) (qau (wfF y) (k.run call n ((d,.osl [y])::e) H lo))
theorem qC6 {d:Nat} {zero:D} {x:O} {g k:K} (hg:qN g.run (.buildSlice zero 1 [(0,x)]) (some d) k):qN (qJK d zero x g k) (.buildSlice zero 1 [(0,x)]) (some d) k:=by
 intro call n e H lo z h
 unfold qJK at h
 rw [qhN] at h
 rcases qqr h with h|⟨y,hv,h⟩
 ·exact hg h
 obtain ⟨h1,h⟩:=qT h
 obtain ⟨h2,h⟩:=qT h
 have hv:=qyg hv
 rw [qxF,qxF] at h1
 have h1:=qSL h1
 rw [qK4] at h2
 have he:qa call (.buildSlice zero 1 [(0,x)]) ⟨e,H,lo⟩=some ⟨false,true,.osl [y],⟨e,H,lo⟩⟩:=by
  simp [qa,qZ,hv,qdS,h1,D.wfs,h2,ok,List.replicate]
 rw [he];exact qk rfl h
noncomputable def lvF (v:V):Bool:=V.rec (motive_1:=fun _=>Bool) (motive_2:=fun _=>Bool) (fun _=>true) (fun _=>true) (fun _=>true) (fun _ _=>true) (fun _ _=>false) (fun _ _=>false) (fun _=>false) (fun _ _ _ _=>true) (fun _ _ _=>true) (fun _=>true) (fun f a b _ _=>V.ok (.fn f a b)) (fun t x _=>V.ok (.ifc t x)) (fun cs _=>V.ok (.agg cs)) (fun vs _=>V.ok (.tup vs)) true false (fun _ _ _ _=>false) v
theorem qGq (v:V):lvF v=v.leaves:=by cases v<;>rfl
noncomputable def lvs (l:List V):Bool:=List.rec (motive:=fun _=>Bool) true (fun v _ ih=>Bool.rec (motive:=fun _=>Bool) false ih (lvF v)) l
theorem qAG (l:List V):lvs l=V.allLeave l:=by
 induction l with
 | nil=>rfl
 | cons v l ih=>
  show Bool.rec (motive:=fun _=>Bool) false (lvs l) (lvF v)=(v.leaves && V.allLeave l)
  rw [ih,qGq]
  cases v.leaves<;>rfl
noncomputable def qLU (dst:Option Nat) (v:V) (k:K):KF:=fun call n e H lo=>
 Option.rec (motive:=fun _=>R) (k.run call n e H lo) (fun d=>qmq v (qjf (some d) v k call n e H lo) fun v=>k.run call n ((d,v)::e) H lo) dst
theorem qBu {dst:Option Nat} {v:V} {same:Bool} {k:K} {call:Call} {n:Nat} {e:Env} {H:List Obj} {lo:Nat} {x:Ex × St} (h:qLU dst v k call n e H lo=some x):qwQ (some ⟨false,same,v,⟨e,H,lo⟩⟩) dst k call n x:=by
 cases dst with
 | none=>exact ⟨_,rfl,.inl ⟨rfl,_,rfl,h⟩⟩
 | some d=>
  have h:qmq v (qjf (some d) v k call n e H lo) (fun v=>k.run call n ((d,v)::e) H lo)=some x:=h
  rcases qm7 h with h|⟨hb,h⟩
  ·exact qjS h
  ·exact qk hb h
noncomputable def qE5 (dst:Option Nat) (i:Nat) (args:List O) (k:K):KF:=fun call n e H lo=>
 (qHj args).run e fun vs=>qau (lvs vs) (orN (call i vs H) fun r=>Cr.rec (motive:=fun _=>R) (fun pan same v H' lo'=>qnO lo lo' fun lo=>Bool.rec (motive:=fun _=>R) (qLU dst v k call n ((spL args).run e) H' lo) (some (.pan v,⟨(spL args).run e,H',lo⟩)) pan) r)
theorem qr1 {dst:Option Nat} {i:Nat} {args:List O} {k:K}:qN (qE5 dst i args k) (.call (.f i) args) dst k:=by
 intro call n e H lo z h
 unfold qE5 at h
 rw [qx9] at h
 obtain ⟨h1,h⟩:=qT h
 obtain ⟨r,hr,h⟩:=k9 h
 rw [qAG] at h1
 obtain ⟨pan,same,v,H',lo'⟩:=r
 have h:(qnO lo lo' fun lo=>Bool.rec (motive:=fun _=>R) (qLU dst v k call n ((spL args).run e) H' lo) (some (.pan v,⟨(spL args).run e,H',lo⟩)) pan)=some z:=h
 rw [qg3,qBe] at h
 have he:qa call (.call (.f i) args) ⟨e,H,lo⟩=some ⟨pan,same,v,⟨spentAll args e,H',min lo lo'⟩⟩:=by
  simp only [qa,jF,rd,qS2,List.append_nil,h1,if_true,hr]
 rw [he]
 cases pan with
 | false=>exact qBu h
 | true=>
  have h:some (Ex.pan v,(⟨spentAll args e,H',min lo lo'⟩:St))=some z:=h
  cases h
  exact ⟨_,rfl,.inr ⟨rfl,rfl⟩⟩
noncomputable def qAi {β γ:Type} (l m:List β) (κ:List β->γ):γ:=List.rec (motive:=fun _=>(List β->γ)->γ) (fun κ=>κ m) (fun x _ ih κ=>ih fun t=>κ (x::t)) l κ
theorem qtz {β γ:Type} (l m:List β) (κ:List β->γ):qAi l m κ=κ (l++m):=by
 induction l generalizing κ with
 | nil=>rfl
 | cons x l ih=>exact ih fun t=>κ (x::t)
noncomputable def qGR (d:Nat) (l:L) (bytes:Nat) (x y:O) (g k:K):KF:=fun call n e H lo=>
 match frd e x with
 | .row id sz len=>match fnth H id with
  | some (.row l' cs)=>match qxg l (frd e y) with
   | some ys=>Bool.rec (motive:=fun _=>R) none (jm (fun v k=>yl v k) (qbb ys) fun new=>qAi cs new fun cs=>qoh .dead H id fun H2=>qAi H2 [.row l' cs] fun H3=>qo (jO H) fun m=>qo (Nat.add len (jO ys)) fun len2=>qnO lo id fun lo=>k.run call n ((d,.row m sz len2)::e) H3 lo)
     (qSN sz l.n && (qSN (jO cs) (len * sz) && (qM l.n ys && roomy bytes (len+jO ys))))
   | none=>none
  | _=>g.run call n e H lo
 | _=>g.run call n e H lo
theorem qBk {d:Nat} {l:L} {bytes:Nat} {x y:O} {g k:K} (hg:qN g.run (.appendR l bytes x y) (some d) k):qN (qGR d l bytes x y g k) (.appendR l bytes x y) (some d) k:=by
 intro call n e H lo z h
 unfold qGR at h
 rw [qaA] at h
 split at h
 ·rename_i id sz len hx
  rw [jA] at h
  split at h
  ·rename_i l' cs hob
   rw [qaA] at h
   split at h
   ·rename_i ys hys
    rw [kg cs,kg ys,kg H] at h
    cases hb:(qSN sz l.n && (qSN cs.length (len * sz) && (qM l.n ys && roomy bytes (len+ys.length)))) with
    | false=>rw [hb] at h;cases h
    | true=>
     rw [hb] at h
     have h:(jm (fun v k=>yl v k) (qbb ys) fun new=>qAi cs new fun cs=>qoh .dead H id fun H2=>qAi H2 [.row l' cs] fun H3=>qo H.length fun m=>qo (Nat.add len ys.length) fun len2=>qnO lo id fun lo=>k.run call n ((d,.row m sz len2)::e) H3 lo)=some z:=h
     rw [kl zR,qtz] at h
     have h:=qck h
     rw [qtz,qQ,qQ,qg3] at h
     have he:qa call (.appendR l bytes x y) ⟨e,H,lo⟩=some ⟨false,false,.row H.length sz (len+ys.length),⟨e,qq H id .dead++[.row l' (cs++qbb ys)],min lo id⟩⟩:=by
      simp only [qa,qaf,hys,hx,hob,hb,cond_true]
      rfl
     rw [he]
     exact qk rfl h
   ·cases h
  ·exact hg h
 ·exact hg h
noncomputable def fTk {β γ:Type} (l:List β):Nat->(List β->γ)->γ:=List.rec (motive:=fun _=>Nat->(List β->γ)->γ) (fun _ κ=>κ []) (fun x _ ih n κ=>Nat.rec (motive:=fun _=>γ) (κ []) (fun m _=>ih m fun t=>κ (x::t)) n) l
theorem qBF {β γ:Type}:∀(l:List β) (n:Nat) (κ:List β->γ),fTk l n κ=κ (l.take n)
 | [],n,κ=>by simp [fTk]
 | x::l,0,κ=>rfl
 | x::l,n+1,κ=>by
  show fTk l n (fun t=>κ (x::t))=_
  rw [qBF];rfl
theorem qES {a b:Int} (h:leI a b=true):a<=b:=by
 cases a<;>cases b<;>simp only [leI] at h
 ·have:=qSY h
  simp only [Int.ofNat_eq_natCast];omega
 ·cases h
 ·simp only [Int.ofNat_eq_natCast,Int.negSucc_eq];omega
 ·have:=qSY h
  simp only [Int.negSucc_eq];omega
noncomputable def qLg (d:Nat) (x hi:O) (g k:K):KF:=fun call n e H lo=>
 match frd e x,frd e hi with
 | .row id sz len,.d (.i _ h)=>match fnth H id with
  | some (.row l cs)=>Bool.rec (motive:=fun _=>R) none (fTk cs (h.toNat * sz) fun cs=>qoh .dead H id fun H2=>qAi H2 [.row l cs] fun H3=>qo (jO H) fun m=>qo h.toNat fun hn=>qnO lo id fun lo=>k.run call n ((d,.row m sz hn)::e) H3 lo)
    (leI 0 h && (leI h len && qSN (jO cs) (len * sz)))
  | _=>g.run call n e H lo
 | _,_=>g.run call n e H lo
theorem qDU {d:Nat} {x hi:O} {g k:K} (hg:qN g.run (.truncR x hi) (some d) k):qN (qLg d x hi g k) (.truncR x hi) (some d) k:=by
 intro call n e H lo z h
 unfold qLg at h
 rw [qaA,qaA] at h
 split at h
 ·rename_i id sz len kk hh hx hhi
  rw [jA] at h
  split at h
  ·rename_i l cs hob
   rw [kg cs,kg H] at h
   cases hb:(leI 0 hh && (leI hh len && qSN cs.length (len * sz))) with
   | false=>rw [hb] at h;cases h
   | true=>
    rw [hb] at h
    have h:(fTk cs (hh.toNat * sz) fun cs=>qoh .dead H id fun H2=>qAi H2 [.row l cs] fun H3=>qo H.length fun m=>qo hh.toNat fun hn=>qnO lo id fun lo=>k.run call n ((d,.row m sz hn)::e) H3 lo)=some z:=h
    rw [qBF] at h
    have h:=qck h
    rw [qtz,qQ,qQ,qg3] at h
    simp only [qSI] at hb
    have hc:0<=hh/\hh<=(len:Int)/\cs.length=len * sz:=⟨qES hb.1,qES hb.2.1,qSL hb.2.2⟩
    have he:qa call (.truncR x hi) ⟨e,H,lo⟩=some ⟨false,false,.row H.length sz hh.toNat,⟨e,qq H id .dead++[.row l (cs.take (hh.toNat * sz))],min lo id⟩⟩:=by
     simp only [qa,qcx,hx,hhi,hob,hc,and_self,if_true]
     rfl
    rw [he]
    exact qk rfl h
  ·exact hg h
 ·exact hg h
noncomputable def fDr {β γ:Type} (l:List β):Nat->(List β->γ)->γ:=List.rec (motive:=fun _=>Nat->(List β->γ)->γ) (fun _ κ=>κ []) (fun x r ih n κ=>Nat.rec (motive:=fun _=>γ) (κ (x::r)) (fun m _=>ih m κ) n) l
theorem qGM {β γ:Type}:∀(l:List β) (n:Nat) (κ:List β->γ),fDr l n κ=κ (l.drop n)
 | [],n,κ=>by simp [fDr]
 | x::l,0,κ=>rfl
 | x::l,n+1,κ=>by
  show fDr l n κ=_
  rw [qGM];rfl
noncomputable def fDc {β γ:Type} (l:List β) (n:Nat) (κ:List β->γ):γ:=fDr (qzT l (Nat.div n 16)) (Nat.mod n 16) κ
theorem qFl {β γ:Type} (l:List β) (n:Nat) (κ:List β->γ):fDc l n κ=κ (l.drop n):=by
 unfold fDc
 rw [qGM,qus,List.drop_drop]
 congr 2
 have e:Nat.div n 16=n / 16:=rfl
 have e2:Nat.mod n 16=n % 16:=rfl
 rw [e,e2];omega
noncomputable def qKA (d:Nat) (x a:O) (g k:K):KF:=fun call n e H lo=>
 asT ((kR x).run e) (g.run call n e H lo) fun t=>asN ((kR a).run e) none fun _ z=>qwp z fun m=>Bool.rec (motive:=fun _=>R) none (fDc t m fun r=>k.run call n ((d,.d (.s r))::e) H lo) (Nat.ble m (jO t))
theorem qDb {d:Nat} {x a:O} {g k:K} (hg:qN g.run (.sliceS x (some a) none) (some d) k):qN (qKA d x a g k) (.sliceS x (some a) none) (some d) k:=by
 intro call n e H lo z h
 unfold qKA at h
 rcases qpR h with h|⟨t,hx,h⟩
 ·exact hg h
 rcases qbT h with h|⟨kk,w,hi,h⟩
 ·cases h
 obtain ⟨m,rfl,h1⟩:=qf6 h
 replace h:=h1
 clear h1
 rw [kg] at h
 cases hb:Nat.ble m t.length with
 | false=>rw [hb] at h;cases h
 | true=>
  rw [hb,qFl] at h
  have hx':rd e x=.d (.s t):=(kh (by rw [hx];trivial)).trans hx
  have h0:leI 0 (Int.ofNat m)=true:=by show Nat.ble 0 m=true;exact Nat.ble_eq_true_of_le (Nat.zero_le m)
  have h1:leI (Int.ofNat m) (t.length:Int)=true:=hb
  have h2:leI (t.length:Int) (t.length:Int)=true:=Nat.ble_eq_true_of_le (qSJ _)
  have he:qa call (.sliceS x (some a) none) ⟨e,H,lo⟩=some ⟨false,true,.d (.s (t.drop m)),⟨e,H,lo⟩⟩:=by
   simp only [qa,qaj,kO,hx',qqh hi,qxL,ql5,Option.getD_some,Option.getD_none,h0,h1,h2,qSP,cond_true,ok]
   simp
  rw [he];exact qk rfl h
noncomputable def qNK (d:Nat) (x a b:O) (g k:K):KF:=fun call n e H lo=>
 asT ((kR x).run e) (g.run call n e H lo) fun t=>asN ((kR a).run e) none fun _ z=>qwp z fun m=>asN ((kR b).run e) none fun _ z=>qwp z fun p=>Bool.rec (motive:=fun _=>R) none (Bool.rec (motive:=fun _=>R) none (fDc t m fun r=>fTk r (Nat.sub p m) fun r=>k.run call n ((d,.d (.s r))::e) H lo) (Nat.ble p (jO t))) (Nat.ble m p)
theorem qDd {d:Nat} {x a b:O} {g k:K} (hg:qN g.run (.sliceS x (some a) (some b)) (some d) k):qN (qNK d x a b g k) (.sliceS x (some a) (some b)) (some d) k:=by
 intro call n e H lo z h
 unfold qNK at h
 rcases qpR h with h|⟨t,hx,h⟩
 ·exact hg h
 rcases qbT h with h|⟨kk,w,hi,h⟩
 ·cases h
 obtain ⟨m,rfl,h1⟩:=qf6 h
 replace h:=h1
 clear h1
 rcases qbT h with h|⟨kk2,w2,hi2,h⟩
 ·cases h
 obtain ⟨p,rfl,h1⟩:=qf6 h
 replace h:=h1
 clear h1
 rw [kg] at h
 cases hc:Nat.ble m p with
 | false=>rw [hc] at h;cases h
 | true=>
 rw [hc] at h
 cases hb:Nat.ble p t.length with
 | false=>rw [hb] at h;cases h
 | true=>
  rw [hb] at h
  have h:(fDc t m fun r=>fTk r (Nat.sub p m) fun r=>k.run call n ((d,.d (.s r))::e) H lo)=some z:=h
  rw [qFl,qBF] at h
  have hx':rd e x=.d (.s t):=(kh (by rw [hx];trivial)).trans hx
  have h0:leI 0 (Int.ofNat m)=true:=by show Nat.ble 0 m=true;exact Nat.ble_eq_true_of_le (Nat.zero_le m)
  have h1:leI (Int.ofNat m) (Int.ofNat p)=true:=hc
  have h2:leI (Int.ofNat p) (t.length:Int)=true:=hb
  have he:qa call (.sliceS x (some a) (some b)) ⟨e,H,lo⟩=some ⟨false,true,.d (.s ((t.drop m).take (Nat.sub p m))),⟨e,H,lo⟩⟩:=by
   simp only [qa,qaj,kO,hx',qqh hi,qqh hi2,qxL,ql5,Option.getD_some,h0,h1,h2,qSP,cond_true,ok]
   show some _=some _
   congr 4
   exact List.drop_take
  rw [he];exact qk rfl h
noncomputable def qFR (d:Nat) (c a b:O) (k:K):KF:=fun call n e H lo=>
 asB ((kR c).run e) ((rdC a).run e fun v=>k.run call n ((d,v)::e) H lo) ((rdC b).run e fun v=>k.run call n ((d,v)::e) H lo)
theorem qBH {d:Nat} {c a b:O} {k:K}:qN (qFR d c a b k) (.pick c a b) (some d) k:=by
 intro call n e H lo z h
 unfold qFR at h
 rw [qhN,qhN] at h
 rcases quV h with ⟨hx,h⟩|⟨hx,h⟩
 ·have hx':rd e c=.d (.b true):=(kh (by rw [hx];trivial)).trans hx
  rw [show qa call (.pick c a b) ⟨e,H,lo⟩=some ⟨false,true,rd e a,⟨e,H,lo⟩⟩ by simp only [qa,qgf,hx',if_true,ok]]
  exact qk (qBc e a) h
 ·have hx':rd e c=.d (.b false):=(kh (by rw [hx];trivial)).trans hx
  rw [show qa call (.pick c a b) ⟨e,H,lo⟩=some ⟨false,true,rd e b,⟨e,H,lo⟩⟩ by simp only [qa,qgf,hx',qSO,if_false,ok]]
  exact qk (qBc e b) h
noncomputable def asF (v:V) (z:R) (κ:Nat->R):R:=OF.rec (motive:=fun _=>R) z κ (vF v)
theorem qzo {v:V} {z:R} {κ:Nat->R} {x:Ex × St} (h:asF v z κ=some x):z=some x\/∃i,v=.fn i [] []/\κ i=some x:=by
 unfold asF at h
 cases hv:vF v with
 | no=>rw [hv] at h;exact .inl h
 | f i=>rw [hv] at h;exact .inr ⟨i,qRS hv,h⟩
theorem qGY {call:Call} {f:O} {args:List O} {e:Env} {H:List Obj} {lo i:Nat} (hx:(kR f).run e=.fn i [] []):qa call (.call f args) ⟨e,H,lo⟩=qa call (.call (.f i) args) ⟨e,H,lo⟩:=by
 have hx':rd e f=.fn i [] []:=(kh (by rw [hx];trivial)).trans hx
 have e2:rd e (.f i)=.fn i [] []:=rfl
 simp only [qa,jF,hx',e2]
noncomputable def qNO (dst:Option Nat) (f:O) (args:List O) (g k:K):KF:=fun call n e H lo=>
 asF ((kR f).run e) (g.run call n e H lo) fun i=>qE5 dst i args k call n e H lo
theorem qEK {dst:Option Nat} {f:O} {args:List O} {g k:K} (hg:qN g.run (.call f args) dst k):qN (qNO dst f args g k) (.call f args) dst k:=by
 intro call n e H lo z h
 unfold qNO at h
 rcases qzo h with h|⟨i,hi,h⟩
 ·exact hg h
 ·rw [qGY hi];exact qr1 h
noncomputable def qv6 (dst:Option Nat) (op:OpK) (k:K):K:=
 match dst with
 | some d=>match op with
  | .mov x=>.mk (qMd d x k)
  | .bin op kd x y=>qLV d op kd x y k
  | .load false sl l a=>.mk (qI9 d sl l a (gK (some d) (.load false sl l a) k) k)
  | .loadC l a=>.mk (qAN d l a k)
  | .nilCheck a=>.mk (qKO d a (gK (some d) (.nilCheck a) k) k)
  | .fieldAddr a o l=>.mk (qNf d a o l (gK (some d) (.fieldAddr a o l) k) k)
  | .indexAddr x i size none=>.mk (qKJ d x i size (gK (some d) (.indexAddr x i size none) k) k)
  | .index x i=>.mk (qJv d x i k)
  | .extract (.t m) i=>.mk (qJ6 d m i k)
  | .bi .lenS [x]=>.mk (qG7 d x k)
  | .bi .lenL [x]=>.mk (qE3 d x (gK (some d) (.bi .lenL [x]) k) k)
  | .bi (.append size bytes) [x,y]=>.mk (qNY d size bytes x y (gK (some d) (.bi (.append size bytes) [x,y]) k) k)
  | .un .not x=>.mk (qM1 d x k)
  | .alloc false zero=>.mk (qJr d zero k)
  | .mkMap=>.mk (qLB d k)
  | .lookup kk zero m q c=>.mk (qGE d kk zero m q c (gK (some d) (.lookup kk zero m q c) k) k)
  | .buildSlice zero 1 [(0,x)]=>.mk (qJK d zero x (gK (some d) (.buildSlice zero 1 [(0,x)]) k) k)
  | .call (.f i) args=>.mk (qE5 (some d) i args k)
  | .appendR l b x y=>.mk (qGR d l b x y (gK (some d) (.appendR l b x y) k) k)
  | .truncR x hi=>.mk (qLg d x hi (gK (some d) (.truncR x hi) k) k)
  | .pick c a b=>.mk (qFR d c a b k)
  | .call f args=>.mk (qNO (some d) f args (gK (some d) (.call f args) k) k)
  | .sliceS x (some a) none=>.mk (qKA d x a (gK (some d) (.sliceS x (some a) none) k) k)
  | .sliceS x (some a) (some b)=>.mk (qNK d x a b (gK (some d) (.sliceS x (some a) (some b)) k) k)
  | op=>gK (some d) op k
 | none=>match op with
  | .store sl ⟨1,false⟩ a x=>.mk (qPz sl a x (gK none (.store sl ⟨1,false⟩ a x) k) k)
  | .mapUpdate kk m q x=>.mk (qKy kk m q x k)
  | .call (.f i) args=>.mk (qE5 none i args k)
  | op=>gK none op k
theorem qDo {dst:Option Nat} {op:OpK} {k:K}:qN (qv6 dst op k).run op dst k:=by
 unfold qv6
 split
 ·split
  ·exact qCT
  ·exact qEJ
  ·exact qBP kc
  ·exact qz4
  ·exact qD9 kc
  ·exact qCX kc
  ·exact qC8 kc
  ·exact qDM
  ·exact qDF
  ·exact qAD
  ·exact qBp kc
  ·exact qEz kc
  ·exact qEf
  ·exact qEn
  ·exact qEd
  ·exact qAU kc
  ·exact qC6 kc
  ·exact qr1
  ·exact qBk kc
  ·exact qDU kc
  ·exact qBH
  ·exact qEK kc
  ·exact qDb kc
  ·exact qDd kc
  ·exact kc
 ·split
  ·exact qCU kc
  ·exact qDz
  ·exact qr1
  ·exact kc
theorem qpd {dst:Option Nat} {op:OpK} {k:K} {call:Call} {n:Nat} {e:Env} {H:List Obj} {lo:Nat} {z:Ex × St} (h:(qv6 dst op k).run call n e H lo=some z):qwQ (qa call op ⟨e,H,lo⟩) dst k call n z:=qDo h
noncomputable def vG (v:V):Option (Option Bool):=V.rec (motive_1:=fun _=>Option (Option Bool)) (motive_2:=fun _=>Option (Option Bool)) (fun x=>D.rec (motive_1:=fun _=>Option (Option Bool)) (motive_2:=fun _=>Option (Option Bool)) (fun y=>some (some y)) (fun _ _=>none) (fun _=>none) none (fun _ _=>none) (fun _ _=>none) none none none none none (fun _ _ _ _=>none) x) (fun _=>none) (fun _=>none) (fun _ _=>none) (fun _ _=>none) (fun _ _=>none) (fun _=>none) (fun _ _ _ _=>none) (fun _ _ _=>none) (fun _=>none) (fun _ _ _ _ _=>none) (fun _ _ _=>none) (fun _ _=>none) (fun vs _=>List.rec (motive:=fun _=>Option (Option Bool)) (some none) (fun _ _ _=>none) vs) none none (fun _ _ _ _=>none) v
theorem qI8 (m:Nat) (w:Bool) (e:Env):wanted (some (m,w)) e=Option.rec (motive:=fun _=>Option Bool) none (fun r=>Option.rec (motive:=fun _=>Option Bool) (some false) (fun z=>some (z == w)) r) (vG (fget m e)):=by
 rw [qam]
 simp only [wanted]
 cases get m e with
 | d x=>cases x<;>rfl
 | tup vs=>cases vs<;>rfl
 | _=>rfl
noncomputable def eqB (a b:Bool):Bool:=Bool.rec (motive:=fun _=>Bool) (Bool.rec (motive:=fun _=>Bool) true false b) b a
theorem qFU (a b:Bool):eqB a b=(a == b):=by cases a<;>cases b<;>rfl
noncomputable def qGw (o:Op) (k:K):K:=
 match o.g with
 | none=>qv6 o.dst o.k k
 | some (m,w)=>.mk fun call n e H lo=>orN (vG (fget m e)) fun r=>Option.rec (motive:=fun _=>R) (qjf o.dst (.tup []) k call n e H lo) (fun z=>Bool.rec (motive:=fun _=>R) (qjf o.dst (.tup []) k call n e H lo) ((qv6 o.dst o.k k).run call n e H lo) (eqB z w)) r
noncomputable def qhF (l:List Op) (k:K):K:=List.rec (motive:=fun _=>K) k (fun o _ ih=>qGw o ih) l
theorem qlP {pg:Pg} {call:Call} (hc:qaB call (qf pg)) {n:Nat} {k:K}:∀(l:List Op) {e:Env} {H:List Obj} {lo:Nat} {x:Ex × St},(qhF l k).run call n e H lo=some x->qzh pg (qn (qf pg) l ⟨e,H,lo⟩) k call n x
 | [],e,H,lo,x,h=>.inl ⟨⟨e,H,lo⟩,rfl,h⟩
 | o::l,e,H,lo,x,h=>by
  have h:(qGw o (qhF l k)).run call n e H lo=some x:=h
  have key:wanted o.g e=some true->(qv6 o.dst o.k (qhF l k)).run call n e H lo=some x->qzh pg (qn (qf pg) (o::l) ⟨e,H,lo⟩) k call n x:=by
   intro hw h
   obtain ⟨q,hq,hq2⟩:=qpd h
   have hq':=qgj hc hq
   simp only [qn,hw,hq']
   rcases hq2 with ⟨hp,st,hst,hrun⟩|⟨hp,rfl⟩
   ·rw [hp,hst]
    exact qlP hc l hrun
   ·rw [hp]
    exact .inr ⟨rfl,by simp⟩
  have skip:wanted o.g e=some false->qjf o.dst (.tup []) (qhF l k) call n e H lo=some x->qzh pg (qn (qf pg) (o::l) ⟨e,H,lo⟩) k call n x:=by
   intro hw' h
   obtain ⟨q,hq,hq2⟩:=qjS (same:=true) h
   cases hq
   rcases hq2 with ⟨_,st,hst,hrun⟩|⟨hp,_⟩
   ·simp only [qn,hw']
    rw [hst]
    exact qlP hc l hrun
   ·cases hp
  unfold qGw at h
  split at h
  ·rename_i hg
   exact key (by rw [hg];rfl) h
  ·rename_i m w hg
   have h:(orN (vG (fget m e)) fun r=>Option.rec (motive:=fun _=>R) (qjf o.dst (.tup []) (qhF l k) call n e H lo) (fun z=>Bool.rec (motive:=fun _=>R) (qjf o.dst (.tup []) (qhF l k) call n e H lo) ((qv6 o.dst o.k (qhF l k)).run call n e H lo) (eqB z w)) r)=some x:=h
   obtain ⟨r,hr,h⟩:=k9 h
   have hw:=qI8 m w e
   rw [hr] at hw
   rw [<- hg] at hw
   cases r with
   | none=>exact skip hw h
   | some z=>
    have hw:wanted o.g e=some (z == w):=hw
    rw [<- qFU] at hw
    have h:Bool.rec (motive:=fun _=>R) (qjf o.dst (.tup []) (qhF l k) call n e H lo) ((qv6 o.dst o.k (qhF l k)).run call n e H lo) (eqB z w)=some x:=h
    cases hb:eqB z w with
    | false=>rw [hb] at h hw;exact skip hw h
    | true=>rw [hb] at h hw;exact key hw h
noncomputable def nbK (k:K):K:=.mk fun call n e H lo=>List.rec (motive:=fun _=>R) none (fun p _ _=>Prod.rec (motive:=fun _=>R) (fun _ v=>qmq v none fun _=>k.run call n e H lo) p) e
theorem qzz {k:K} {call:Call} {n d:Nat} {v:V} {e:Env} {H:List Obj} {lo:Nat} {x:Ex × St} (h:(nbK k).run call n ((d,v)::e) H lo=some x):v.isBox=false/\k.run call n ((d,v)::e) H lo=some x:=by
 have h:qmq v none (fun _=>k.run call n ((d,v)::e) H lo)=some x:=h
 rcases qm7 h with h|h
 ·cases h
 ·exact h
def qBY:OpK->Bool
 | .mov _ | .pick _ _ _ | .build _ _ | .buildSlice _ _ _ | .load _ _ _ _ | .loadC _ _ | .nilCheck _ | .bin _ _ _ _ | .un _ _ | .conv _ _ | .fieldAddr _ _ _ | .field _ _ _ | .indexAddr _ _ _ _ | .index _ _ | .extract _ _ | .bi _ _ | .store _ _ _ _ | .lookup _ _ _ _ _ | .sliceS _ _ _ | .appendR _ _ _ _=>true
 | _=>false
def qzJ:OpK->Bool
 | .load mv _ _ _=>!mv
 | .store _ _ _ _ | .appendR _ _ _ _=>false
 | _=>true
theorem qJl {v:V} {st:St} {q:Or} (h:ok v st=some q):q.pan=false/\q.same=true:=by cases h;exact ⟨rfl,rfl⟩
theorem qRC {v:V} {st:St} {q:Or} (h:okH v st=some q):q.pan=false:=by cases h;rfl
theorem qHW {op:OpK} (hf:qBY op=true) {call:Call} {st:St} {q:Or} (h:qa call op st=some q):q.pan=false/\(qzJ op=true->q.same=true):=by
 cases op<;>first
  | cases hf;done
  | skip
 all_goals simp only [qa,qvX,qgf,qa0,qZ,zD,qfM,za,qrw,eUn,qji,qX,qfZ,qW,jY,z7,qge,jK,eBi,qok,qc6,qqu,j7,qaz,z3,qaj,qaf,qSH] at h
 all_goals repeat' split at h
 all_goals first
  | (cases h;done)
  | exact ⟨(qJl h).1,fun _=>(qJl h).2⟩
  | exact ⟨qRC h,fun hp=>by first|(cases hp;done)|(simp_all [qzJ])⟩
def qt2 (f:KF) (op:OpK) (se:Bool) (no:List Nat) (dst:Option Nat) (k:K):Prop:=∀{call:Call} {n:Nat} {e:Env} {H:List Obj} {lo:Nat} {x:Ex × St},f call n e H lo=some x->
 ∃q,qa call op ⟨e,H,lo⟩=some q/\((q.pan=false/\(q.same || se)=true/\∃st,yh (qs7 op) no dst q.v q.st=some st/\k.run call n st.env st.H st.lo=some x)\/(q.pan=true/\qR yU no=true/\x=(.pan q.v,{q.st with env:=[]})))
theorem qB9 {bx:Bool} {d:Nat} {v:V} {st:St} (h:v.isBox=false):yh bx [] (some d) v st=some {st with env:=(d,v)::st.env}:=by
 cases v<;>first|rfl|cases h
theorem qIx {k:K} {call:Call} {n d:Nat} {v:V} {st:St} {x:Ex × St} (h:(nbK k).run call n (put (some d) v st).env (put (some d) v st).H (put (some d) v st).lo=some x):v.isBox=false/\k.run call n ((d,v)::st.env) st.H st.lo=some x:=by
 cases v with
 | box cs=>
  have h:(nbK k).run call n ((d,.box cs)::qbD d st.env) st.H st.lo=some x:=h
  have:=(qzz h).1
  cases this
 | _=>exact qzz h
noncomputable def qIW (dst:Option Nat) (op:OpK) (k:K):K:=
 match dst with
 | some d=>qv6 (some d) op (nbK k)
 | none=>qv6 none op k
theorem qA9 {dst:Option Nat} {op:OpK} {se:Bool} {k:K} (hf:qBY op=true) (hp:(qzJ op || se)=true):qt2 (qIW dst op k).run op se [] dst k:=by
 intro call n e H lo x h
 have key:∀q:Or,qa call op ⟨e,H,lo⟩=some q->q.pan=false/\(q.same || se)=true:=fun q hq=>by
  obtain ⟨h1,h2⟩:=qHW hf hq
  refine ⟨h1,?_⟩
  rw [Bool.or_eq_true] at hp |-
  exact hp.imp h2 id
 cases dst with
 | some d=>
  obtain ⟨q,hq,h2⟩:=qpd (dst:=some d) h
  obtain ⟨h3,h4⟩:=key q hq
  rcases h2 with ⟨_,st,rfl,h5⟩|⟨h5,_⟩
  ·obtain ⟨hb,h6⟩:=qIx h5
   exact ⟨q,hq,.inl ⟨h3,h4,_,qB9 hb,h6⟩⟩
  ·rw [h3] at h5;cases h5
 | none=>
  obtain ⟨q,hq,h2⟩:=qpd (dst:=none) h
  obtain ⟨h3,h4⟩:=key q hq
  rcases h2 with ⟨_,st,rfl,h5⟩|⟨h5,_⟩
  ·exact ⟨q,hq,.inl ⟨h3,h4,_,rfl,h5⟩⟩
  ·rw [h3] at h5;cases h5
noncomputable def qwF (dst:Option Nat) (op:OpK) (se:Bool) (no:List Nat) (k:K):KF:=fun call n e H lo=>
 match (qNT op).run call ⟨e,H,lo⟩ with
 | some ⟨pan,same,v,⟨e',H',lo'⟩⟩=>Bool.rec (motive:=fun _=>R) (Bool.rec (motive:=fun _=>R) none
   (qt4 (makes op) v fun v=>match yh (qs7 op) no dst v ⟨e',H',lo'⟩ with
    | some ⟨e2,H2,lo2⟩=>Bool.rec (motive:=fun _=>R) (qvO (qpT op) H2 fun H2=>qo lo2 fun lo2=>k.run call n e2 H2 lo2) (k.run call n e2 H2 lo2) same
    | none=>none) (same || se)) (Bool.rec (motive:=fun _=>R) none (some (.pan v,⟨[],H',lo'⟩)) (qR yU no)) pan
 | none=>none
theorem qjW {dst:Option Nat} {op:OpK} {se:Bool} {no:List Nat} {k:K}:qt2 (qwF dst op se no k) op se no dst k:=by
 intro call n e H lo x h
 unfold qwF at h
 rw [qCQ] at h
 split at h
 ·rename_i pan same v e' H' lo' hq
  cases pan with
  | true=>
   have h:Bool.rec (motive:=fun _=>R) none (some (.pan v,⟨[],H',lo'⟩)) (qR yU no)=some x:=h
   cases hm:qR yU no with
   | false=>rw [hm] at h;cases h
   | true=>
    rw [hm] at h
    exact ⟨_,hq,.inr ⟨rfl,rfl,(Option.some.inj h).symm⟩⟩
  | false=>
   cases hs:(same || se) with
   | false=>rw [hs] at h;cases h
   | true=>
    rw [hs] at h
    have h:(qt4 (makes op) v fun v=>match yh (qs7 op) no dst v ⟨e',H',lo'⟩ with
     | some ⟨e2,H2,lo2⟩=>Bool.rec (motive:=fun _=>R) (qvO (qpT op) H2 fun H2=>qo lo2 fun lo2=>k.run call n e2 H2 lo2) (k.run call n e2 H2 lo2) same
     | none=>none)=some x:=h
    rw [qxb] at h
    split at h
    ·rename_i e2 H2 lo2 hp
     refine ⟨_,hq,.inl ⟨rfl,hs,_,hp,?_⟩⟩
     cases same with
     | false=>simpa only [qwq,qQ] using h
     | true=>exact h
    ·cases h
 ·cases h
noncomputable def qIl (d i:Nat) (args:List O) (se:Bool) (k:K):KF:=fun call n e H lo=>
 (qHj args).run e fun vs=>qau (lvs vs) (orN (call i vs H) fun r=>Cr.rec (motive:=fun _=>R) (fun pan same v H' lo'=>qnO lo lo' fun lo=>Bool.rec (motive:=fun _=>R) (Bool.rec (motive:=fun _=>R) none (qmq v none fun v=>k.run call n ((d,v)::(spL args).run e) H' lo) (same || se)) none pan) r)
theorem qwd {d i:Nat} {args:List O} {se:Bool} {k:K}:qt2 (qIl d i args se k) (.call (.f i) args) se [] (some d) k:=by
 intro call n e H lo z h
 unfold qIl at h
 rw [qx9] at h
 obtain ⟨h1,h⟩:=qT h
 obtain ⟨r,hr,h⟩:=k9 h
 rw [qAG] at h1
 obtain ⟨pan,same,v,H',lo'⟩:=r
 have h:(qnO lo lo' fun lo=>Bool.rec (motive:=fun _=>R) (Bool.rec (motive:=fun _=>R) none (qmq v none fun v=>k.run call n ((d,v)::(spL args).run e) H' lo) (same || se)) none pan)=some z:=h
 rw [qg3,qBe] at h
 cases pan with
 | true=>cases h
 | false=>
  cases hs:(same || se) with
  | false=>rw [hs] at h;cases h
  | true=>
   rw [hs] at h
   have h:qmq v none (fun v=>k.run call n ((d,v)::spentAll args e) H' (min lo lo'))=some z:=h
   rcases qm7 h with h|⟨hb,h⟩
   ·cases h
   ·have he:qa call (.call (.f i) args) ⟨e,H,lo⟩=some ⟨false,same,v,⟨spentAll args e,H',min lo lo'⟩⟩:=by
     simp only [qa,jF,rd,qS2,List.append_nil,h1,if_true,hr]
    exact ⟨_,he,.inl ⟨rfl,hs,_,qB9 hb,h⟩⟩
theorem qG0 {bx:Bool} {d:Nat} {v:V} {st:St} (h:v.isBox=false) (hl:∀m o,v≠.lp m o):yh bx [yU] (some d) v st=some {st with env:=(d,v)::st.env}:=by
 cases v<;>first|exact absurd rfl (hl _ _)|(cases h;done)|rfl
noncomputable def qLE (d i:Nat) (args:List O) (se:Bool) (k:K):KF:=fun call n e H lo=>
 (qHj args).run e fun vs=>qau (lvs vs) (orN (call i vs H) fun r=>Cr.rec (motive:=fun _=>R) (fun pan same v H' lo'=>qnO lo lo' fun lo=>Bool.rec (motive:=fun _=>R) (Bool.rec (motive:=fun _=>R) none (qxu v none fun v=>k.run call n ((d,v)::(spL args).run e) H' lo) (same || se)) (some (.pan v,⟨[],H',lo⟩)) pan) r)
theorem qC1 {d i:Nat} {args:List O} {se:Bool} {k:K}:qt2 (qLE d i args se k) (.call (.f i) args) se [yU] (some d) k:=by
 intro call n e H lo z h
 unfold qLE at h
 rw [qx9] at h
 obtain ⟨h1,h⟩:=qT h
 obtain ⟨r,hr,h⟩:=k9 h
 rw [qAG] at h1
 obtain ⟨pan,same,v,H',lo'⟩:=r
 have h:(qnO lo lo' fun lo=>Bool.rec (motive:=fun _=>R) (Bool.rec (motive:=fun _=>R) none (qxu v none fun v=>k.run call n ((d,v)::(spL args).run e) H' lo) (same || se)) (some (.pan v,⟨[],H',lo⟩)) pan)=some z:=h
 rw [qg3,qBe] at h
 cases pan with
 | true=>
  have he:qa call (.call (.f i) args) ⟨e,H,lo⟩=some ⟨true,same,v,⟨spentAll args e,H',min lo lo'⟩⟩:=by
   simp only [qa,jF,rd,qS2,List.append_nil,h1,if_true,hr]
  exact ⟨_,he,.inr ⟨rfl,rfl,(Option.some.inj h).symm⟩⟩
 | false=>
  cases hs:(same || se) with
  | false=>rw [hs] at h;cases h
  | true=>
   rw [hs] at h
   have h:qxu v none (fun v=>k.run call n ((d,v)::spentAll args e) H' (min lo lo'))=some z:=h
   obtain ⟨hb,hl,h⟩:=qzQ h
   ·have he:qa call (.call (.f i) args) ⟨e,H,lo⟩=some ⟨false,same,v,⟨spentAll args e,H',min lo lo'⟩⟩:=by
     simp only [qa,jF,rd,qS2,List.append_nil,h1,if_true,hr]
    exact ⟨_,he,.inl ⟨rfl,hs,_,qG0 hb hl,h⟩⟩
noncomputable def qHt (d:Nat) (f:O) (args:List O) (se:Bool) (g:K) (k:K):KF:=fun call n e H lo=>
 asF ((kR f).run e) (g.run call n e H lo) fun i=>qIl d i args se k call n e H lo
theorem qBi {d:Nat} {f:O} {args:List O} {se:Bool} {g k:K} (hg:qt2 g.run (.call f args) se [] (some d) k):qt2 (qHt d f args se g k) (.call f args) se [] (some d) k:=by
 intro call n e H lo z h
 unfold qHt at h
 rcases qzo h with h|⟨i,hi,h⟩
 ·exact hg h
 ·rw [qGY hi];exact qwd h
noncomputable def qAY (dst:Option Nat) (op:OpK) (se:Bool) (no:List Nat) (k:K):K:=
 match no,op,dst with
 | [],.call (.f i) args,some d=>.mk (qIl d i args se k)
 | [],.call f args,some d=>.mk (qHt d f args se (.mk (qwF (some d) (.call f args) se [] k)) k)
 | [m],.call (.f i) args,some d=>match Nat.decEq m yU with
  | .isTrue _=>.mk (qLE d i args se k)
  | .isFalse _=>.mk (qwF (some d) (.call (.f i) args) se [m] k)
 | [],op,dst=>Bool.rec (motive:=fun _=>K) (.mk (qwF dst op se [] k)) (qIW dst op k) (qBY op && (qzJ op || se))
 | no,op,dst=>.mk (qwF dst op se no k)
theorem qC9 {dst:Option Nat} {op:OpK} {se:Bool} {no:List Nat} {k:K}:qt2 (qAY dst op se no k).run op se no dst k:=by
 unfold qAY
 split
 ·exact qwd
 ·refine qBi ?_
  intro call n e H lo x h
  exact qjW h
 ·split
  ·rename_i hm _
   subst hm
   exact qC1
  ·exact qjW
 ·cases hb:(qBY op && (qzJ op || se)) with
  | false=>exact qjW
  | true=>
   rw [qSI] at hb
   exact qA9 hb.1 hb.2
 ·exact qjW
noncomputable def qxQ (l:List (Op × Bool × List Nat)) (k:K):K:=List.rec (motive:=fun _=>K) k (fun p _ ih=>match p with
 | (⟨dst,op,none⟩,se,no)=>qAY dst op se no ih
 | (⟨dst,op,some (m,w)⟩,se,no)=>.mk fun call n e H lo=>orN (vG (fget m e)) fun r=>Option.rec (motive:=fun _=>R) (qjf dst (.tup []) ih call n e H lo) (fun z=>Bool.rec (motive:=fun _=>R) (qjf dst (.tup []) ih call n e H lo) ((qAY dst op se no ih).run call n e H lo) (eqB z w)) r) l
theorem qsu {pg:Pg} {call:Call} (hc:qaB call (qf pg)) {n:Nat} {k:K}:∀(l:List (Op × Bool × List Nat)) {e:Env} {H:List Obj} {lo:Nat} {x:Ex × St},(qxQ l k).run call n e H lo=some x->qzh pg (qy (qf pg) l ⟨e,H,lo⟩) k call n x
 | [],e,H,lo,x,h=>.inl ⟨⟨e,H,lo⟩,rfl,h⟩
 | (⟨dst,op,g⟩,se,no)::l,e,H,lo,x,h=>by
  have key:wanted g e=some true->(qAY dst op se no (qxQ l k)).run call n e H lo=some x->qzh pg (qy (qf pg) ((⟨dst,op,g⟩,se,no)::l) ⟨e,H,lo⟩) k call n x:=by
   intro hw h
   obtain ⟨q,hq,⟨hp,hs,st,hst,hrun⟩|⟨hp,hm,hx⟩⟩:=qC9 h
   rotate_left
   ·have hq':=qgj hc hq
    refine .inr ⟨?_,by rw [hx];exact nofun⟩
    simp only [qy,hw,hq',hp,Bool.true_or,cond_true,qDk,hm,qSP,hx]
   have hq':=qgj hc hq
   simp only [qy,hw,hq',hp,hs,hst,qSW,Bool.or_self,cond_false]
   exact qsu hc l hrun
  have skip:wanted g e=some false->qjf dst (.tup []) (qxQ l k) call n e H lo=some x->qzh pg (qy (qf pg) ((⟨dst,op,g⟩,se,no)::l) ⟨e,H,lo⟩) k call n x:=by
   intro hw' h
   obtain ⟨q,hq,hq2⟩:=qjS (same:=true) h
   cases hq
   rcases hq2 with ⟨_,st,hst,hrun⟩|⟨hp,_⟩
   ·simp only [qy,hw']
    rw [hst]
    exact qsu hc l hrun
   ·cases hp
  cases g with
  | none=>exact key rfl h
  | some mw=>
   obtain ⟨m,w⟩:=mw
   have h:(orN (vG (fget m e)) fun r=>Option.rec (motive:=fun _=>R) (qjf dst (.tup []) (qxQ l k) call n e H lo) (fun z=>Bool.rec (motive:=fun _=>R) (qjf dst (.tup []) (qxQ l k) call n e H lo) ((qAY dst op se no (qxQ l k)).run call n e H lo) (eqB z w)) r)=some x:=h
   obtain ⟨r,hr,h⟩:=k9 h
   have hw:=qI8 m w e
   rw [hr] at hw
   cases r with
   | none=>exact skip hw h
   | some z=>
    have hw:wanted (some (m,w)) e=some (z == w):=hw
    rw [<- qFU] at hw
    have h:Bool.rec (motive:=fun _=>R) (qjf dst (.tup []) (qxQ l k) call n e H lo) ((qAY dst op se no (qxQ l k)).run call n e H lo) (eqB z w)=some x:=h
    cases hb:eqB z w with
    | false=>rw [hb] at h hw;exact skip hw h
    | true=>rw [hb] at h hw;exact key hw h
noncomputable def qgL:K:=.mk fun _ _ e H lo=>some (.nrm,⟨e,H,lo⟩)
noncomputable def frest (live:List Nat) (e:Env) (κ:Env->R):R:=
 List.rec (motive:=fun _=>(Env->R)->R) (fun κ=>κ []) (fun n _ ih κ=>qEV (fget n e) fun v=>ih fun r=>κ ((n,v)::r)) live κ
theorem qq6 (live:List Nat) (e:Env) (κ:Env->R):frest live e κ=κ (restrict live e):=by
 induction live generalizing κ with
 | nil=>rfl
 | cons n l ih=>
  show qEV (fget n e) (fun v=>frest l e fun r=>κ ((n,v)::r))=_
  rw [qFo,ih,qam]
  rfl
noncomputable def onX (r:R) (fn:Env->List Obj->Nat->R) (fx:Nat->Env->List Obj->Nat->R):R:=
 Option.rec (motive:=fun _=>R) none (fun p=>Prod.rec (motive:=fun _=>R) (fun ex st=>St.rec (motive:=fun _=>R) (fun e H lo=>Ex.rec (motive:=fun _=>R) (fn e H lo) (fun j=>fx j e H lo) (some (.ret,⟨e,H,lo⟩)) (fun v=>some (.pan v,⟨e,H,lo⟩)) ex) st) p) r
noncomputable def qIX (id:Nat) (live:List Nat) (k:K) (call:Call) (n:Nat) (r:R):R:=
 onX r (fun e H lo=>frest live e fun e=>k.run call n e H lo) fun j e H lo=>Bool.rec (motive:=fun _=>R) (some (.exit j,⟨e,H,lo⟩)) (frest live e fun e=>k.run call n e H lo) (qSN j id)
noncomputable def qB5 (live:List Nat) (a:K) (call:Call) (n:Nat):Env->List Obj->Nat->R:=
 Nat.rec (motive:=fun _=>Env->List Obj->Nat->R) (fun _ _ _=>none) (fun m ih e H lo=>frest live e fun e=>onX (a.run call m e H lo) ih fun j e H lo=>some (.exit j,⟨e,H,lo⟩)) n
noncomputable def qpe (c:C):K->K:=
 C.rec (motive:=fun _=>K->K) (fun k=>k) (fun l k=>qhF l k) (fun l k=>qxQ l k)
  (fun _ _ da db k=>da (db k)) (fun o _ _ da db k=>.mk fun call n e H lo=>asB ((kR o).run e) ((da k).run call n e H lo) ((db k).run call n e H lo))
  (fun id live _ da k=>.mk fun call n e H lo=>qIX id live k call n ((da qgL).run call n e H lo))
  (fun live _ da _=>.mk fun call n e H lo=>qB5 live (da qgL) call n e H lo)
  (fun id _=>.mk fun _ _ e H lo=>some (.exit id,⟨e,H,lo⟩)) (fun _=>.mk fun _ _ e H lo=>some (.ret,⟨e,H,lo⟩)) (fun _=>.mk fun _ _ _ _ _=>none)
  (fun k l f p0 p1 live _ _ da db kk=>.mk fun call n e H lo=>match frd e f with
   | .fn k' [] [c]=>Bool.rec (motive:=fun _=>R) none (match qbl c H lo with
    | some m=>jm (fun p k=>yl p.2 fun v=>k (p.1,v)) (yp live e) fun base=>qo m fun m=>match rounds (fun st=>(da qgL).run call n st.env st.H st.lo) (fun st=>(db qgL).run call n st.env st.H st.lo) l c p0 p1 base m H lo with
     | some (.nrm,⟨e,H,lo⟩)=>kk.run call n e H lo
     | r=>r
    | none=>none) (qSN k' k && c.ok)
   | _=>none)
  (fun k f live kk=>.mk fun call n e H lo=>match frd e f with
   | .fn k' [] cap=>Bool.rec (motive:=fun _=>R) none (match call k (.undef::cap) H with
    | some r=>Bool.rec (motive:=fun _=>R) (frest live e fun e=>qvD r.H fun H=>qo (min lo r.lo) fun lo=>kk.run call n e H lo) none r.pan
    | none=>none) (qSN k' k && V.ok.oks cap)
   | _=>none) c
theorem qsh {pg:Pg} {r:R} {call:Call} {n:Nat} {x:Ex × St} (h:qzh pg r qgL call n x):r=some x:=by
 rcases h with ⟨s,h1,h2⟩|⟨h1,_⟩
 ·have h2:some (Ex.nrm,(⟨s.env,s.H,s.lo⟩:St))=some x:=h2
  cases h2
  exact h1
 ·exact h1
theorem qD0 {pg:Pg} {live:List Nat} {a:C} {st:St}:exL pg (.loop live a) st=(match exL pg a {st with env:=restrict live st.env} with|some (.nrm,st')=>exL pg (.loop live a) st'|r=>r):=by rw [jE];rfl
theorem qvq {pg:Pg} {live:List Nat} {a:C} {da:K} {call:Call} (ih:∀(n:Nat) (e:Env) (H:List Obj) (lo:Nat) (x:Ex × St),da.run call n e H lo=some x->exL pg a ⟨e,H,lo⟩=some x) :
  ∀(n:Nat) {e:Env} {H:List Obj} {lo:Nat} {x:Ex × St},qB5 live da call n e H lo=some x->exL pg (.loop live a) ⟨e,H,lo⟩=some x/\x.1≠.nrm
 | 0,e,H,lo,x,h=>by cases h
 | n+1,e,H,lo,x,h=>by
  have h:(frest live e fun e=>onX (da.run call n e H lo) (qB5 live da call n) fun j e H lo=>some (.exit j,⟨e,H,lo⟩))=some x:=h
  rw [qq6] at h
  rw [qD0]
  cases hq:da.run call n (restrict live e) H lo with
  | none=>rw [hq] at h;cases h
  | some y=>
   have hy:=ih n _ _ _ _ hq
   obtain ⟨ex,st⟩:=y
   rw [hq] at h
   show (match exL pg a ⟨restrict live e,H,lo⟩ with|some (.nrm,st')=>exL pg (.loop live a) st'|r=>r)=some x/\_
   rw [hy]
   cases ex with
   | nrm=>exact qvq ih n h
   | exit id=>cases h;exact ⟨rfl,by simp⟩
   | ret=>cases h;exact ⟨rfl,by simp⟩
   | pan v=>cases h;exact ⟨rfl,by simp⟩
theorem yw {pg:Pg} {call:Call} (hc:qaB call (qf pg)):∀(c:C) (k:K) (n:Nat) (e:Env) (H:List Obj) (lo:Nat) (x:Ex × St),(qpe c k).run call n e H lo=some x->qzh pg (exL pg c ⟨e,H,lo⟩) k call n x
 | .skip,k,n,e,H,lo,x,h=>.inl ⟨⟨e,H,lo⟩,by rw [jE];rfl,h⟩
 | .ops l,k,n,e,H,lo,x,h=>by
  have:=qlP hc l h
  rwa [show exL pg (.ops l) ⟨e,H,lo⟩=qn (qf pg) l ⟨e,H,lo⟩ by rw [jE];rfl]
 | .opsD l,k,n,e,H,lo,x,h=>by
  have:=qsu hc l h
  rwa [show exL pg (.opsD l) ⟨e,H,lo⟩=qy (qf pg) l ⟨e,H,lo⟩ by rw [jE];rfl]
 | .seq a b,k,n,e,H,lo,x,h=>by
  have ha:=yw hc a (qpe b k) n e H lo x h
  rw [show exL pg (.seq a b) ⟨e,H,lo⟩=(match exL pg a ⟨e,H,lo⟩ with|some (.nrm,st')=>exL pg b st'|r=>r) by rw [jE];rfl]
  rcases ha with ⟨s,h1,h2⟩|⟨h1,h2⟩
  ·rw [h1]
   exact yw hc b k n s.env s.H s.lo x h2
  ·rw [h1]
   obtain ⟨ex,st⟩:=x
   cases ex with
   | nrm=>exact absurd rfl h2
   | _=>exact .inr ⟨rfl,h2⟩
 | .cond o a b,k,n,e,H,lo,x,h=>by
  have h:asB ((kR o).run e) ((qpe a k).run call n e H lo) ((qpe b k).run call n e H lo)=some x:=h
  rw [show exL pg (.cond o a b) ⟨e,H,lo⟩=(match rd e o with | .d (.b true)=>exL pg a ⟨e,H,lo⟩ | .d (.b false)=>exL pg b ⟨e,H,lo⟩|_=>none) by rw [jE];rfl]
  rcases quV h with ⟨hx,h⟩|⟨hx,h⟩
  ·have hx':rd e o=.d (.b true):=(kh (by rw [hx];trivial)).trans hx
   rw [hx'];exact yw hc a k n e H lo x h
  ·have hx':rd e o=.d (.b false):=(kh (by rw [hx];trivial)).trans hx
   rw [hx'];exact yw hc b k n e H lo x h
 | .block id live a,k,n,e,H,lo,x,h=>by
  have h:qIX id live k call n ((qpe a qgL).run call n e H lo)=some x:=h
  rw [show exL pg (.block id live a) ⟨e,H,lo⟩=(match exL pg a ⟨e,H,lo⟩ with
   | some (.nrm,st')=>some (.nrm,{st' with env:=restrict live st'.env})
   | some (.exit j,st')=>bif qSN j id then some (.nrm,{st' with env:=restrict live st'.env}) else some (.exit j,st')
   | r=>r) by rw [jE];rfl]
  cases hq:(qpe a qgL).run call n e H lo with
  | none=>rw [hq] at h;cases h
  | some y=>
   have hy:=qsh (yw hc a qgL n e H lo y hq)
   rw [hq] at h
   rw [hy]
   obtain ⟨ex,e',H',lo'⟩:=y
   cases ex with
   | nrm=>
    have h:(frest live e' fun e=>k.run call n e H' lo')=some x:=h
    rw [qq6] at h
    exact .inl ⟨_,rfl,h⟩
   | exit j=>
    have h:Bool.rec (motive:=fun _=>R) (some (.exit j,⟨e',H',lo'⟩)) (frest live e' fun e=>k.run call n e H' lo') (qSN j id)=some x:=h
    cases hb:qSN j id with
    | true=>
     rw [hb] at h
     have h:(frest live e' fun e=>k.run call n e H' lo')=some x:=h
     rw [qq6] at h
     exact .inl ⟨⟨restrict live e',H',lo'⟩,by simp only [hb,cond_true],h⟩
    | false=>
     rw [hb] at h
     have h:some (Ex.exit j,(⟨e',H',lo'⟩:St))=some x:=h
     cases h
     exact .inr ⟨by simp only [hb,cond_false],by simp⟩
   | ret=>cases h;exact .inr ⟨rfl,by simp⟩
   | pan v=>cases h;exact .inr ⟨rfl,by simp⟩
 | .loop live a,k,n,e,H,lo,x,h=>by
  have h:qB5 live (qpe a qgL) call n e H lo=some x:=h
  exact .inr (qvq (fun n e H lo x h=>qsh (yw hc a qgL n e H lo x h)) n h)
 | .exit id,k,n,e,H,lo,x,h=>by
  have h:some (Ex.exit id,(⟨e,H,lo⟩:St))=some x:=h
  cases h
  exact .inr ⟨by rw [jE];rfl,by simp⟩
 | .ret,k,n,e,H,lo,x,h=>by
  have h:some (Ex.ret,(⟨e,H,lo⟩:St))=some x:=h
  cases h
  exact .inr ⟨by rw [jE];rfl,by simp⟩
 | .stuck,k,n,e,H,lo,x,h=>by
  have h:none=some x:=h
  cases h
 | .rangeB k l f p0 p1 live a b,kk,n,e,H,lo,x,h=>by
  have h:(match frd e f with
   | .fn k' [] [c]=>Bool.rec (motive:=fun _=>R) none (match qbl c H lo with
    | some m=>jm (fun (p:Nat × V) k=>yl p.2 fun v=>k (p.1,v)) (yp live e) fun base=>qo m fun m=>match rounds (fun st=>(qpe a qgL).run call n st.env st.H st.lo) (fun st=>(qpe b qgL).run call n st.env st.H st.lo) l c p0 p1 base m H lo with
     | some (.nrm,⟨e,H,lo⟩)=>kk.run call n e H lo
     | r=>r
    | none=>none) (qSN k' k && c.ok)
   | _=>none)=some x:=h
  rw [qaA] at h
  rw [show exL pg (.rangeB k l f p0 p1 live a b) ⟨e,H,lo⟩=(match rd e f with
   | .fn k' [] [c]=>bif qSN k' k && c.ok then (match qbl c H lo with
    | some n=>rounds (exL pg a) (exL pg b) l c p0 p1 (yp live e) n H lo
    | none=>none) else none
   | _=>none) by rw [jE];rfl]
  split at h
  ·rename_i k' c hf
   (try simp only [hf])
   cases hb:(qSN k' k && c.ok) with
   | false=>rw [hb] at h;cases h
   | true=>
    rw [hb] at h
    (try simp only [cond_true,hb])
    split at h
    ·rename_i m hm
     (try simp only [hm])
     rw [kl (fun p k=>zR p.2 fun v=>k (p.1,v)),qQ] at h
     have le:∀y,rounds (fun st=>(qpe a qgL).run call n st.env st.H st.lo) (fun st=>(qpe b qgL).run call n st.env st.H st.lo) l c p0 p1 (yp live e) m H lo=some y->rounds (exL pg a) (exL pg b) l c p0 p1 (yp live e) m H lo=some y:=fun y hy=>
      qi2 (fun st z hz=>qsh (yw hc a qgL n st.env st.H st.lo z hz)) (fun st z hz=>qsh (yw hc b qgL n st.env st.H st.lo z hz)) m hy
     cases hq:rounds (fun st=>(qpe a qgL).run call n st.env st.H st.lo) (fun st=>(qpe b qgL).run call n st.env st.H st.lo) l c p0 p1 (yp live e) m H lo with
     | none=>rw [hq] at h;cases h
     | some y=>
      rw [hq] at h
      rw [le y hq]
      obtain ⟨ex,e',H',lo'⟩:=y
      cases ex with
      | nrm=>exact .inl ⟨_,rfl,h⟩
      | exit id=>cases h;exact .inr ⟨rfl,by simp⟩
      | ret=>cases h;exact .inr ⟨rfl,by simp⟩
      | pan v=>cases h;exact .inr ⟨rfl,by simp⟩
    ·cases h
  ·cases h
 | .rangeZ k f live,kk,n,e,H,lo,x,h=>by
  have h:(match frd e f with
   | .fn k' [] cap=>Bool.rec (motive:=fun _=>R) none (match call k (.undef::cap) H with
    | some r=>Bool.rec (motive:=fun _=>R) (frest live e fun e=>qvD r.H fun H=>qo (min lo r.lo) fun lo=>kk.run call n e H lo) none r.pan
    | none=>none) (qSN k' k && V.ok.oks cap)
   | _=>none)=some x:=h
  rw [qaA] at h
  split at h
  ·rename_i k' cap hf
   cases hb:(qSN k' k && V.ok.oks cap) with
   | false=>rw [hb] at h;cases h
   | true=>
    rw [hb] at h
    split at h
    ·rename_i r hr
     cases hp:r.pan with
     | true=>rw [hp] at h;cases h
     | false=>
      rw [hp] at h
      have h:(frest live e fun e=>qvD r.H fun H=>qo (min lo r.lo) fun lo=>kk.run call n e H lo)=some x:=h
      rw [qq6,qwP,qQ] at h
      refine .inl ⟨⟨restrict live e,r.H,min lo r.lo⟩,?_,h⟩
      rw [jE]
      have hr':=hc _ _ _ _ hr
      show step _ _ _ _=_
      simp only [step,hf,hb,cond_true,hr',hp,cond_false]
    ·cases h
  ·cases h
noncomputable def qHa (own:Bool) (v:V) (κ:V->Option Cr):Option Cr:=V.rec (motive_1:=fun _=>Option Cr) (motive_2:=fun _=>Option Cr) (fun x=>κ (.d x)) (fun xs=>Bool.rec (motive:=fun _=>Option Cr) (κ (.d (.sl xs))) (κ (.osl xs)) own) (fun xs=>κ (.fsl xs)) (fun a b=>κ (.ptr a b)) (fun a b=>κ (.lp a b)) (fun _ _=>none) (fun x=>κ (.cp x)) (fun a b c d=>κ (.rs a b c d)) (fun a b c=>κ (.row a b c)) (fun a=>κ (.map a)) (fun f a b _ _=>κ (.fn f a b)) (fun t x _=>κ (.ifc t x)) (fun cs _=>Bool.rec (motive:=fun _=>Option Cr) (qdz (qdg (cs.map zK)) κ) (κ (.agg cs)) own) (fun vs _=>κ (.tup vs)) (κ .undef) none (fun _ _ _ _=>none) v
theorem qH2 (own:Bool) (v:V) (κ:V->Option Cr):qHa own v κ=(match (match v with | .box _=>none|v=>some (bif own then v else copy v)) with|some v=>κ v|none=>none):=by
 cases v with
 | agg cs=>cases own with
  | true=>rfl
  | false=>exact qcr _ _
 | _=>cases own<;>rfl
inductive KX where
 | mk (f:Env->List Obj->Nat->(List V->Option Cr)->Option Cr)
noncomputable def KX.run (k:KX):Env->List Obj->Nat->(List V->Option Cr)->Option Cr:=KX.rec (motive:=fun _=>Env->List Obj->Nat->(List V->Option Cr)->Option Cr) (fun f=>f) k
noncomputable def qRE (own:Bool) (r:Rv) (ih:KX):KX:=
 Rv.rec (motive:=fun _=>KX) (fun n=>.mk fun e H lo κ=>qHa own (fget n e) fun v=>ih.run e H lo fun vs=>κ (v::vs))
  (fun n l=>.mk fun e H lo κ=>match qbY own ⟨e,H,lo⟩ (.cell n l) with|some v=>qdz v fun v=>ih.run e H lo fun vs=>κ (v::vs)|none=>none) r
noncomputable def qEI (own:Bool) (l:List Rv):KX:=List.rec (motive:=fun _=>KX) (.mk fun _ _ _ κ=>κ []) (fun r _ ih=>qRE own r ih) l
theorem qHL (own:Bool) (l:List Rv) (e:Env) (H:List Obj) (lo:Nat) (κ:List V->Option Cr):(qEI own l).run e H lo κ=(match qK own ⟨e,H,lo⟩ l with|some vs=>κ vs|none=>none):=by
 induction l generalizing κ with
 | nil=>rfl
 | cons r l ih=>
  show (qRE own r (qEI own l)).run e H lo κ=_
  simp only [qK]
  cases r with
  | t n=>
   show qHa own (fget n e) (fun v=>(qEI own l).run e H lo fun vs=>κ (v::vs))=_
   rw [qH2,qam]
   simp only [ih,qbY]
   cases hv:get n e<;>first|rfl|(simp only [];cases qK own ⟨e,H,lo⟩ l<;>rfl)
  | cell n l'=>
   show (match qbY own ⟨e,H,lo⟩ (.cell n l') with|some v=>qdz v fun v=>(qEI own l).run e H lo fun vs=>κ (v::vs)|none=>none)=_
   cases qbY own ⟨e,H,lo⟩ (.cell n l') with
   | none=>rfl
   | some v=>
    simp only [qcr,ih]
    cases qK own ⟨e,H,lo⟩ l<;>rfl
noncomputable def qOR (v:V):Nat:=V.rec (motive_1:=fun _=>Nat) (motive_2:=fun _=>Nat) (fun _=>0) (fun _=>0) (fun _=>0) (fun a _=>Nat.succ a) (fun _ _=>0) (fun cs _=>V.ref (.box cs)) (fun _=>0) (fun a _ _ _=>Nat.succ a) (fun a _ _=>Nat.succ a) (fun a=>Nat.succ a) (fun f a b _ _=>V.ref (.fn f a b)) (fun t x _=>V.ref (.ifc t x)) (fun cs _=>V.ref (.agg cs)) (fun vs _=>V.ref (.tup vs)) 0 0 (fun _ _ _ _=>0) v
theorem qID (v:V):qOR v=v.ref:=by cases v<;>rfl
noncomputable def qPD (v:V):Bool:=V.rec (motive_1:=fun _=>Bool) (motive_2:=fun _=>Bool) (fun _=>false) (fun _=>false) (fun _=>false) (fun _ _=>false) (fun _ _=>false) (fun _ _=>false) (fun _=>false) (fun _ _ _ _=>true) (fun _ _ _=>false) (fun _=>false) (fun _ _ _ _ _=>false) (fun _ _ _=>false) (fun _ _=>false) (fun _ _=>false) false false (fun _ _ _ _=>false) v
noncomputable def qxo (H:List Obj) (v:V) (H':List Obj) (lo:Nat):Option Cr:=
 Bool.rec (motive:=fun _=>Option Cr)
  (Bool.rec (motive:=fun _=>Option Cr) none
   (Bool.rec (motive:=fun _=>Option Cr) (some ⟨false,false,v,H',lo⟩) (Bool.rec (motive:=fun _=>Option Cr) (some ⟨false,false,v,H',lo⟩) (some ⟨false,true,v,H,lo⟩) (Nat.ble (jO H) lo)) (Nat.ble (qOR v) (jO H))) (lvF v))
  (match leave H false v ⟨[],H',lo⟩ with|some ⟨pan,same,v,H,lo⟩=>qdz v fun v=>some (Cr.mk pan same v H lo)|none=>none) (qPD v)
theorem qEF (H:List Obj) (pan:Bool) (v:V) (e e':Env) (H':List Obj) (lo:Nat):leave H pan v ⟨e,H',lo⟩=leave H pan v ⟨e',H',lo⟩:=rfl
theorem qEo (H:List Obj) (v:V) (e:Env) (H':List Obj) (lo:Nat):qxo H v H' lo=leave H false v ⟨e,H',lo⟩:=by
 unfold qxo
 cases hr:qPD v with
 | true=>
  show (match leave H false v ⟨[],H',lo⟩ with|some ⟨pan,same,v,H,lo⟩=>qdz v fun v=>some (Cr.mk pan same v H lo)|none=>none)=_
  rw [qEF H false v [] e]
  cases leave H false v ⟨e,H',lo⟩ with
  | none=>rfl
  | some r=>obtain ⟨a,b,c,d,f⟩:=r;exact qcr _ _
 | false=>
  show Bool.rec (motive:=fun _=>Option Cr) none (Bool.rec (motive:=fun _=>Option Cr) (some ⟨false,false,v,H',lo⟩) (Bool.rec (motive:=fun _=>Option Cr) (some ⟨false,false,v,H',lo⟩) (some ⟨false,true,v,H,lo⟩) (Nat.ble (jO H) lo)) (Nat.ble (qOR v) (jO H))) (lvF v)=_
  have hs:settle H.length H' v=v:=by cases v<;>first|rfl|cases hr
  unfold leave
  simp only [hs,qGq,qID,kg]
  cases v.leaves with
  | false=>rfl
  | true=>
   cases Nat.ble v.ref H.length with
   | false=>rfl
   | true=>cases Nat.ble H.length lo<;>rfl
noncomputable def qMH (vs:List V) (κ:V->Option Cr):Option Cr:=List.rec (motive:=fun _=>Option Cr) (κ (.tup [])) (fun v t _=>List.rec (motive:=fun _=>Option Cr) (κ v) (fun w u _=>κ (.tup (v::w::u))) t) vs
theorem qIp (vs:List V) (κ:V->Option Cr):qMH vs κ=κ (qmc vs):=by
 cases vs with
 | nil=>rfl
 | cons v t=>cases t<;>rfl
noncomputable def qFL (fn:Fn) (H:List Obj) (st:St):Option Cr:=St.rec (motive:=fun _=>Option Cr) (fun e H' lo=>(qEI fn.own fn.res).run e H' lo fun vs=>qMH vs fun v=>qxo H v H' lo) st
theorem qCE (fn:Fn) (H:List Obj) (st:St):qFL fn H st=jB fn H st:=by
 obtain ⟨e,H',lo⟩:=st
 show ((qEI fn.own fn.res).run e H' lo fun vs=>qMH vs fun v=>qxo H v H' lo)=_
 rw [qHL]
 unfold jB
 cases qK fn.own ⟨e,H',lo⟩ fn.res with
 | none=>rfl
 | some vs=>simp only [qIp];exact qEo H _ e H' lo
noncomputable def qHf (fn:Fn):K:=qpe fn.body qgL
noncomputable def exJ (call:Call) (n:Nat):C->St->Option (Ex × St):=fun c st=>(qpe c qgL).run call n st.env st.H st.lo
noncomputable def qIj (pg:Pg) (call:Call) (n:Nat) (H:List Obj) (fn:Fn) (r:R):Option Cr:=
 Option.rec (motive:=fun _=>Option Cr) none (fun p=>Prod.rec (motive:=fun _=>Option Cr) (fun ex st=>Ex.rec (motive:=fun _=>Option Cr)
  (Option.rec (motive:=fun _=>Option Cr) (qFL fn H st) (fun q=>deferred pg (exJ call n) fn H q.1 q.2 st) fn.dfr) (fun _=>none) (qFL fn H st) (fun v=>leave H true v st) ex) p) r
def isNone {α:Type}:Option α->Bool
 | none=>true
 | some _=>false
theorem qDi {α:Type} {o:Option α} (h:isNone o=true):o=none:=by cases o<;>first|rfl|cases h
noncomputable def qIa (vs:List V):Nat->(Env->Option Cr)->Option Cr:=List.rec (motive:=fun _=>Nat->(Env->Option Cr)->Option Cr) (fun _ κ=>κ []) (fun v _ ih m κ=>ih (Nat.succ m) fun r=>κ ((m,v)::r)) vs
theorem qHY (vs:List V) (m:Nat) (κ:Env->Option Cr):qIa vs m κ=κ (qU m vs):=by
 induction vs generalizing m κ with
 | nil=>rfl
 | cons v vs ih=>exact ih _ _
noncomputable def qg5 (pg:Pg) (n:Nat):Call:=
 Nat.rec (motive:=fun _=>Call) (fun _ _ _=>none) (fun m ih f vs H=>Option.rec (motive:=fun _=>Option Cr) (pg.ext f vs H)
  (fun fn=>Bool.rec (motive:=fun _=>Option Cr) none (Bool.rec (motive:=fun _=>Option Cr) none (qIa vs 0 fun e=>qo (jO H) fun hl=>qIj pg ih m H fn ((qHf fn).run ih m e H hl)) (qSN fn.np (jO vs))) (isNone fn.rcv)) (pg.fn f)) n
theorem qO1 {pg:Pg} {call:Call} (hc:qaB call (qf pg)) (n:Nat):qv5 (exJ call n) (exL pg):=fun c st x h=>qsh (yw hc c qgL n st.env st.H st.lo x h)
theorem quY (pg:Pg):∀n,qaB (qg5 pg n) (qf pg)
 | 0=>fun i vs H r h=>by cases h
 | n+1=>fun i vs H r h=>by
  have h:Option.rec (motive:=fun _=>Option Cr) (pg.ext i vs H)
   (fun fn=>Bool.rec (motive:=fun _=>Option Cr) none (Bool.rec (motive:=fun _=>Option Cr) none (qIa vs 0 fun e=>qo (jO H) fun hl=>qIj pg (qg5 pg n) n H fn ((qHf fn).run (qg5 pg n) n e H hl)) (qSN fn.np (jO vs))) (isNone fn.rcv)) (pg.fn i)=some r:=h
  rw [qbS]
  unfold qs
  cases hf:pg.fn i with
  | none=>rw [hf] at h;exact h
  | some fn=>
   rw [hf] at h
   have h:Bool.rec (motive:=fun _=>Option Cr) none (Bool.rec (motive:=fun _=>Option Cr) none (qIa vs 0 fun e=>qo (jO H) fun hl=>qIj pg (qg5 pg n) n H fn ((qHf fn).run (qg5 pg n) n e H hl)) (qSN fn.np (jO vs))) (isNone fn.rcv)=some r:=h
   rw [qHY,qQ,kg,kg] at h
   cases hb1:isNone fn.rcv with
   | false=>rw [hb1] at h;cases h
   | true=>
    rw [hb1] at h
    cases hb:qSN fn.np vs.length with
    | false=>rw [hb] at h;cases h
    | true=>
     rw [hb] at h
     have h:qIj pg (qg5 pg n) n H fn ((qHf fn).run (qg5 pg n) n (qU 0 vs) H H.length)=some r:=h
     have hcond:fn.np=vs.length/\fn.rcv=none:=⟨qSL hb,qDi hb1⟩
     simp only [if_pos hcond]
     cases hq:(qHf fn).run (qg5 pg n) n (qU 0 vs) H H.length with
     | none=>rw [hq] at h;cases h
     | some y=>
      have hy:=qsh (yw (quY pg n) fn.body qgL n _ _ _ _ hq)
      rw [hq] at h
      rw [hy]
      obtain ⟨ex,st⟩:=y
      cases ex with
      | nrm=>
       have h:Option.rec (motive:=fun _=>Option Cr) (qFL fn H st) (fun q=>deferred pg (exJ (qg5 pg n) n) fn H q.1 q.2 st) fn.dfr=some r:=h
       show (match fn.dfr with
        | none=>jB fn H st
        | some (t,rest)=>deferred pg (exL pg) fn H t rest st)=some r
       cases hd:fn.dfr with
       | none=>rw [hd,qCE] at h;exact h
       | some q=>
        obtain ⟨t,rest⟩:=q
        rw [hd] at h
        exact qmT (qO1 (quY pg n) n) h
      | exit id=>cases h
      | ret=>
       have h:qFL fn H st=some r:=h
       rw [qCE] at h;exact h
      | pan v=>exact h
theorem qwm {pg:Pg} {n f:Nat} {vs:List V} {H:List Obj} {r:Cr} (h:qg5 pg n f vs H=some r):qf pg f vs H=some r:=quY pg n _ _ _ _ h
end W
/-
  What the kernel works out of a call on closed data, as a fact about the call.
-/
namespace W
open Go (IntKind BinOp UnOp)
def qBV:List V->List D->Bool
 | [],[]=>true
 | .d x::l,y::r=>eqD x y && qBV l r
 | _,_=>false
theorem qxC:∀{l:List V} {r:List D},qBV l r=true->l=r.map .d
 | [],[],_=>rfl
 | v::l,y::r,h=>by
  cases v with
  | d x=>
   simp only [qBV,qSI] at h
   rw [qxv h.1,qxC h.2];rfl
  | _=>cases h
 | [],_::_,h=>by simp [qBV] at h
 | v::_,[],h=>by cases v<;>simp [qBV] at h
def isD (r:Option Cr) (x:D):Bool:=match r with
 | some ⟨false,true,.d y,_,_⟩=>eqD y x
 | _=>false
def qFq (r:Option Cr) (x:List D):Bool:=match r with
 | some ⟨false,true,.tup y,_,_⟩=>qBV y x
 | _=>false
theorem qwj {pg:Pg} (hx:qt pg.ext) {f:Nat} {vs:List V} {H H':List Obj} {v:V} {lo:Nat} (h:qf pg f vs H=some ⟨false,true,v,H',lo⟩):qf pg f vs H=some ⟨false,true,v,H,lo⟩:=by
 obtain ⟨n,hn⟩:=jD.1 h
 have hlo:=(yZ hx (qaW hx n) _ _ _ _ hn).2.2 rfl
 simp only at hlo
 rw [hlo] at h
 exact h
theorem qGl {pg:Pg} (hx:qt pg.ext) {N f:Nat} {vs:List V} {H:List Obj} {x:D} (h:isD (qg5 pg N f vs H) x=true):∃lo,qf pg f vs H=some ⟨false,true,.d x,H,lo⟩:=by
 unfold isD at h
 split at h
 ·rename_i y H' lo hr
  rw [qxv h] at hr
  exact ⟨lo,qwj hx (qwm hr)⟩
 ·cases h
theorem qA8 {pg:Pg} (hx:qt pg.ext) {N f:Nat} {vs:List V} {H:List Obj} {x:List D} (h:qFq (qg5 pg N f vs H) x=true):∃lo,qf pg f vs H=some ⟨false,true,.tup (x.map .d),H,lo⟩:=by
 unfold qFq at h
 split at h
 ·rename_i y H' lo hr
  rw [qxC h] at hr
  exact ⟨lo,qwj hx (qwm hr)⟩
 ·cases h
end W
/- A call of no arguments whose result is data is the same beside whatever objects there are. -/
namespace W
open Go (World Value Addr IntKind Program TypeId FuncId)
end W
/- Calls whose arguments and results are data, known beforehand (by the kernel), stand in for the functions' code. -/
namespace W
open Go (World Value Addr IntKind Program TypeId FuncId)
inductive Out where
 | one (x:D)
 | tup (l:List D)
def Out.v:Out->V
 | .one x=>.d x
 | .tup l=>.tup (l.map .d)
structure Ent where
 f:Nat
 a:List D
 r:Out
def pick (i:Nat) (vs:List V):List Ent->Option Ent
 | []=>none
 | e::T=>bif qSN e.f i && qBV vs e.a then some e else pick i vs T
def qu8 (T:List Ent) (i:Nat) (vs:List V) (H:List Obj):Option Cr:=match pick i vs T with
 | some e=>some ⟨false,true,e.r.v,H,H.length⟩
 | none=>none
def Ent.is (r:Option Cr):Out->Bool
 | .one x=>isD r x
 | .tup l=>qFq r l
def Ent.Ok (pg:Pg) (e:Ent):Prop:=∃lo,qf pg e.f (e.a.map .d) []=some ⟨false,true,e.r.v,[],lo⟩
theorem qdM {pg:Pg} (hx:qt pg.ext) {N f:Nat} {l:List D} {r:Out} (h:Ent.is (qg5 pg N f (l.map .d) []) r=true):Ent.Ok pg ⟨f,l,r⟩:=by
 cases r with
 | one x=>exact qGl hx h
 | tup l=>exact qA8 hx h
theorem qwv {i:Nat} {vs:List V} {e:Ent}:∀{T:List Ent},pick i vs T=some e->e ∈ T/\e.f=i/\vs=e.a.map .d
 | [],h=>by cases h
 | q::T,h=>by
  unfold pick at h
  rw [qSH] at h
  split at h
  ·rename_i hb
   cases h
   simp only [qSI] at hb
   exact ⟨.head _,qSL hb.1,qxC hb.2⟩
  ·obtain ⟨h1,h2⟩:=qwv h
   exact ⟨.tail _ h1,h2⟩
theorem qqj {T:List Ent}:qt (qu8 T):=fun i vs H r h=>by
 unfold qu8 at h
 split at h
 ·cases h
  exact ⟨qSJ _,fun _ _ _=>rfl,fun _=>rfl⟩
 ·cases h
theorem qJp {M:Maps} {g g':Gh} {w w':World} (e:g'.pub=g.pub) (ew:w'=w):∀{l:List D} {vs:List Value},RepSL M g w (l.map .d) vs->RepSL M g' w' (l.map .d) vs
 | [],_,h=>by cases h;exact .nil
 | x::l,_,h=>by
  rw [qSR] at h |-
  cases h with
  | cons _ _ _ _ h0 h=>
   refine .cons _ _ _ _ ?_ (qJp e ew h)
   cases h0 with
   | d _ _ hr=>exact .d _ _ (by rw [e,ew];exact hr)
theorem qH1 {P:Program} {M:Maps} {pg:Pg} (hsim:∀n,qp P M (zz pg n)) {e:Ent} (h:e.Ok pg)
  {f':FuncId} (hl:look M.fm f'=some e.f) {g:Gh} {w:World} {H:List Obj} (hH:RelH M g w H) {argv:List Value} (ha:ArgsRep M g w 0 (e.a.map .d) argv):qsp P f' argv.toArray w (qu M g w ⟨false,true,e.r.v,H,H.length⟩):=by
 obtain ⟨lo,h⟩:=h
 obtain ⟨n,hn⟩:=jD.1 h
 refine qtN (hsim n) hn rfl (fun {g1 g2 w' c} ep hA=>?_) hl hH ha
 revert hA
 cases e.r with
 | one x=>
  intro hA
  cases hA with
  | s hA=>cases hA with
   | d _ _ hr=>exact .s (.d _ _ (by rw [ep];exact hr))
 | tup l=>
  intro hA
  cases hA with
  | s hA=>cases hA with
   | tup _ _ hr=>exact .s (.tup _ _ (qJp ep rfl hr))
theorem qm5 {P:Program} {M:Maps} {T:List Ent} (hT:∀e ∈ T,∃pg,(∀n,qp P M (zz pg n))/\e.Ok pg):qp P M (qu8 T):=by
 intro i vs H r h f' hl g w argv ha hH
 unfold qu8 at h
 split at h
 ·rename_i e he
  cases h
  obtain ⟨h1,rfl,rfl⟩:=qwv he
  obtain ⟨pg,hsim,hok⟩:=hT e h1
  exact qH1 hsim hok hl hH ha
 ·cases h
end W
namespace W
set_option maxRecDepth 100000
def ixN (c:Nat):List Nat->Int
 | []=>-1
 | x::l=>bif qSN x c then 0 else match ixN c l with
  | .ofNat n=>.ofNat (n+1)
  | v=>v
def ixX (vs:List V) (H:List Obj):Option Cr:=
 match vs with
 | [.d (.s t),.d (.i .u8 (.ofNat c))]=>some ⟨false,true,.d (.i .i64 (ixN (c % 256) t)),H,H.length⟩
 | _=>none
def pg:Pg:=⟨fun n=>bif qSN n 623 then none else prog n,fun i vs H=>bif qSN i 623 then ixX vs H else none⟩
theorem qrs:qt fun _ vs H=>ixX vs H:=fun i vs H r h=>by
 simp only [ixX] at h
 split at h
 ·cases h
  exact ⟨qSJ _,fun _ _ _=>rfl,fun _=>rfl⟩
 ·cases h
theorem qsc:qt pg.ext:=fun i vs H r h=>by
 simp only [pg,qSH] at h
 split at h
 ·exact qrs i vs H r h
 ·cases h
end W
/-
  More equations: nil slices, shifts, bits, bytes.
-/
namespace W
open Go (IntKind BinOp UnOp)
theorem qy4 {n:Nat}:isC (.t n)=false:=(rfl)
theorem qB1 {x:D}:isC (.c x)=true:=(rfl)
def qwG (s:Nat) (v:V):V:=match v with | .lp t o=>bif qSN t s then .undef else .lp t o|v=>v
theorem qjK {s:Nat}:qbD s []=[]:=(rfl)
theorem qhh {s n:Nat} {v:V} {e:Env}:qbD s ((n,v)::e)=(n,qwG s v)::qbD s e:=(rfl)
theorem qtx {s:Nat} {x:D}:qwG s (.d x)=.d x:=(rfl)
theorem qwr {s:Nat} {x:List D}:qwG s (.osl x)=.osl x:=(rfl)
theorem qsf {s i o:Nat}:qwG s (.ptr i o)=.ptr i o:=(rfl)
theorem qzD {s:Nat} {x:D}:qwG s (.cp x)=.cp x:=(rfl)
theorem qwH {α:Type} {s:Nat} {e:α->D} {L:List α}:qwG s (slV e L)=slV e L:=by cases L<;>rfl
theorem qqS {cs vs:List V} (h:(vs.length=cs.length)=True):qL cs 0 vs=some vs:=by
 have h:vs.length=cs.length:=by rw [h];trivial
 simp [qL,h]
theorem qsl {i o:Nat}:qg6 (.ptr i o)=.ptr i o:=(rfl)
theorem qwO {o o':Obj}:qq [o] 0 o'=[o']:=(rfl)
def e8 (n:Nat):D:=.i .u8 (n:Int)
end W
/- Walking on: interfaces, panics, function values, deferred closures. -/
namespace W
open Go (IntKind BinOp UnOp)
variable {pg:Pg} {st:St} {call:Call}
end W
/-
  Walking of rows that may be written.
-/
namespace W
open Go (IntKind BinOp UnOp)
section
variable {call:Call} {st:St}
end
end W
/- What genrisc lays. -/
namespace W
open Go (IntKind BinOp UnOp)
set_option maxRecDepth 20000
set_option linter.defProp false in
def zN:=(And.intro (And.intro (And.intro (And.intro (And.intro (And.intro @ql1 @qr7) (And.intro @qw6 (And.intro @qmH @qnl))) (And.intro (And.intro @qeP (And.intro @qCf @qq8)) (And.intro @qt7 (And.intro @qtt @qjQ)))) (And.intro (And.intro (And.intro @qp4 @qp2) (And.intro @qxk (And.intro @qfn @qtx))) (And.intro (And.intro @qB4 (And.intro @qtG @qnn)) (And.intro @qnu (And.intro @qhh @qjX))))) (And.intro (And.intro (And.intro (And.intro @qwW @qyj) (And.intro @qpc (And.intro @qGG @qsf))) (And.intro (And.intro @qne (And.intro @qHb @yn)) (And.intro @qjk (And.intro @qjK @qC3)))) (And.intro (And.intro (And.intro @qcl (And.intro @qiG @quL)) (And.intro @qsT (And.intro @qFh @qrm))) (And.intro (And.intro @qqY (And.intro @qnp @qG1)) (And.intro @qnz (And.intro @qCK @qnd)))))) (And.intro (And.intro (And.intro (And.intro (And.intro @qwy @qqy) (And.intro @qqP (And.intro @qnm @qiz))) (And.intro (And.intro @qB1 (And.intro @qrh @qeq)) (And.intro @qpN (And.intro @qjD @qxa)))) (And.intro (And.intro (And.intro @qtC @qmR) (And.intro @qvm (And.intro @qeI @qp9))) (And.intro (And.intro @qjA (And.intro @qsl @qje)) (And.intro @qu6 (And.intro @qy4 @qye))))) (And.intro (And.intro (And.intro (And.intro @qcB @qqN) (And.intro @qcz (And.intro @qrd @qwz))) (And.intro (And.intro @qvE (And.intro @qyE @qxc)) (And.intro @qxf (And.intro @qIC @qyF)))) (And.intro (And.intro (And.intro @quI (And.intro @qG3 @qoR)) (And.intro @qxp (And.intro @qxz @qal))) (And.intro (And.intro @qfy (And.intro @qiB @qyD)) (And.intro @qx3 (And.intro @qyi @qq2)))))))
def ln (F:Int) (U V:Bool) (A B C O I to:Int):D:=.agg [.i .i64 F,.b U,.b V,.i .i64 A,.i .i64 B,.i .i64 C,.i .i64 O,.i .i32 I,.i .i64 to]
def kX (O A B N:Int):D:=ln 1 false false A B 0 O N (-1)
def mSt (A B N:Int):D:=ln 2 true false A B 0 0 N (-1)
def mLd (A B N:Int):D:=ln 2 false false A B 0 0 N (-1)
def qld (O A B C:Int):D:=ln 0 false false A B C O 0 (-1)
def qdV (A N:Int):D:=ln 3 true false A 0 0 0 N (-1)
def qiS (A:Int) (V:Bool) (K:Int):D:=ln 3 true V A 0 0 0 0 K
def qbi (A:Int):List D:=[mSt A 13 0,kX 8 13 13 4]
def qtp (A:Int):List D:=[kX 9 13 13 4,mLd A 13 0]
def qcL:List D:=[mLd 0 13 (-4),mLd 1 13 (-8)]
def qim (N:Int):List D:=[kX 9 13 13 (N * 4)]
def qpi:List D:=[mSt 1 13 (-8),kX 9 13 13 4]
def qnF (O:Int):List D:=qcL++(qld O 1 1 0::qpi)
def qrW (O:Int):List D:=qcL++(qld 9 1 1 0::qdV O 2::kX 0 1 0 0::qdV 7 1::kX 0 1 0 1::qpi)
def qtn (K:Int):List D:=[ln 3 false true 7 0 12 0 K (-1)]
def qgk:List D:=[kX 1 2 12 2,kX 9 11 12 2,mLd 15 2 (-8),mLd 12 2 (-4),ln 3 false false 7 0 15 0 0 (-1)]
def qpA (N:Int):List D:=[kX 1 2 11 2,mSt 15 2 0,mSt 12 2 4,kX 8 12 11 2,kX 8 11 12 N]
def quH (N:Int):List D:=[kX 1 0 12 2,kX 0 1 0 N,kX 0 3 0 0,mSt 3 0 0,kX 8 0 0 4,kX 9 1 1 1,qdV 9 (-4)]
def quC (A N:Int):D:=ln 1 false true A 0 0 0 (N+65536) (-1)
def qpF (A N:Int):List D:=[ln 1 true false A 0 0 0 1 (-1),kX 6 A A N]
def qrf (l:List D):List D:=mLd 0 13 (-4)::(l++[mSt 0 13 (-4)])
def qho (op k:Int):Option (List D):=
 bif eqI op 1 then (bif leI 0 k && leI k 1000 then some (kX 0 0 0 k::qbi 0) else bif eqI k 65540 then some (qpF 0 4++qbi 0) else bif eqI k 65541 then some (qpF 0 5++qbi 0) else bif leI (-65536) k && !leI 0 k then some (quC 0 k::qbi 0) else none) else
 bif !(leI 0 k && leI k 1000) then none else
 bif eqI op 26 then some (qtp 0++[qiS 1 false k]) else
 bif eqI op 6 then some (qrf [kX 1 0 0 2,mLd 0 0 0]) else
 bif eqI op 25 then some [qiS 7 false k] else
 bif eqI op 5 then some (kX 8 0 12 k::qbi 0) else
 bif eqI op 7 then some (qcL++(kX 1 1 1 2::mSt 0 1 0::qim 2)) else
 bif eqI op 2 then some (mLd 0 13 (-4)::qbi 0) else
 bif eqI op 3 then some (qim 1) else
 bif eqI op 4 then some (qcL++[mSt 0 13 (-8),mSt 1 13 (-4)]) else
 bif eqI op 9 then some (qnF 8) else
 bif eqI op 10 then some (qnF 9) else
 bif eqI op 12 then some (qnF 11) else
 bif eqI op 15 then some (qnF 4) else
 bif eqI op 19 then some (qnF 1) else
 bif eqI op 20 then some (qnF 2) else
 bif eqI op 22 then some (qrW 1) else
 bif eqI op 23 then some (qrW 5) else
 bif eqI op 24 then some (qrW 6) else
 bif eqI op 13 then some (qcL++(qld 11 1 1 0::ln 0 true false 1 0 0 0 0 (-1)::qpi)) else
 bif eqI op 14 then some (qrf [kX 0 1 0 0,qld 9 0 1 0]) else
 bif eqI op 27 then some [qiS 7 true k] else
 bif eqI op 28 then some (bif eqI k 0 then qpA 0 else qpA k++quH k) else
 bif eqI op 29 then some qgk else
 bif eqI op 30 then some (qtn k) else
 bif eqI op 33 then some (qtp 0++[kX 0 1 0 0,mSt 0 1 (-64)]) else
 bif eqI op 0 then some (qtn 0) else none
theorem qCd {x y:D} {t:List D} (hx:qSN x.cells.length 9=true) (hy:qSN y.cells.length 9=true) (h:t.length+2<=1000000):z8 9 64 (.osl (x::t)) (.d (.sl [y]))=some (.osl (x::(t++[y]))):=by
 have hr:roomy 64 ((x::t).length+[y].length)=true:=by
  simp only [roomy,qSI]
  exact ⟨Nat.ble_eq_true_of_le (by simp;omega),Nat.ble_eq_true_of_le (by simp;omega)⟩
 simp only [z8,qM,hx,hy,hr,qSP,cond_true,qSX]
theorem lv {a:Obj} {e:Env} {H':List Obj} {lo:Nat} (hl:(lo<1)=True):leave [a] false (.tup []) ⟨e,H',lo⟩=some ⟨false,false,.tup [],H',lo⟩:=qwk rfl (.inr (by show lo<1;rw [hl];trivial)) rfl
theorem lvd {a:Obj} {x:D} {e:Env} {H':List Obj}:leave [a] false (.d x) ⟨e,H',1⟩=some ⟨false,true,.d x,[a],1⟩:=qtR (H:=[a]) rfl rfl rfl
theorem qJ1 {n:Int} (h1:-9223372036854775808<=n) (h2:n<=9223372036854775807):wr .i64 n=n:=qbK h1 h2
theorem qRM {n:Int} (h1:-2147483648<=n) (h2:n<=2147483647):wr .i32 n=n:=qrn h1 h2
def qo0 (x:D) (op k:Int):Prop:=∀(t m:List D),qho op k=some m->t.length+20<=1000000->qf pg 25 [.ptr 0 0,.d (.agg [.i .i64 op,.i .i32 k])] [.cells [.osl (x::t)]]=some ⟨false,false,.tup [],[.cells [.osl (x::(t++m))]],0⟩
theorem qQi {a b:V} {H:List Obj}:qf pg 75 [a,b] H=qBX H f_genrisc_gen_reckon.own f_genrisc_gen_reckon.res (exL pg f_genrisc_gen_reckon.body {env:=qU 0 [a,b],H,lo:=H.length}):=qj rfl rfl
theorem qGB {a b:V} {H:List Obj}:qf pg 76 [a,b] H=qBX H f_genrisc_gen_leads.own f_genrisc_gen_leads.res (exL pg f_genrisc_gen_leads.body {env:=qU 0 [a,b],H,lo:=H.length}):=qj rfl rfl
theorem qRF {a:V} {H:List Obj}:qf pg 142 [a] H=qBX H f_genrisc_operation.own f_genrisc_operation.res (exL pg f_genrisc_operation.body {env:=qU 0 [a],H,lo:=H.length}):=qj rfl rfl
section
variable {x:D} (hx:qSN x.cells.length 9=true)
 include hx
theorem qab {t:List D} {F A B C O I:Int} {U V:Bool}  (h:t.length+2<=1000000):qf pg 66 [.ptr 0 0,.d (.agg [.i .i64 F,.b U,.b V,.i .i64 A,.i .i64 B,.i .i64 C,.i .i64 O,.i .i32 I])] [.cells [.osl (x::t)]]=some ⟨false,false,.tup [],[.cells [.osl (x::(t++[ln F U V A B C O I (-1)]))]],0⟩:=by
 have hT:∀k,(k<=2)=True->t.length+k<=1000000:=fun k hk=>by
  have hk:k<=2:=of_eq_true hk
  omega
 rw [qj (fn:=jh) rfl rfl]
 simp only [zN,jh,k_,o_,m_,a_,l_,s_,i_,Int.reduceNeg,z_,qSV,Nat.reduceAdd,qSS,qST,reduceCtorEq,qSR,qS1,qSP,qGH,qDj,qC2,qFO,qEb,qe0,qxT,Nat.add_zero,qqa,qSZ,List.set_cons_zero,qwO,Nat.min_zero,qzC,qFs,Nat.reduceEqDiff,Nat.reduceLeDiff,qsi,List.drop_zero,List.take_succ_cons,List.take_zero,qLd,qtX,qwZ,qB6,qS2,List.drop_succ_cons,qSX,Nat.reduceLT,List.set_cons_succ,qak,qjT,List.reduceReplicate,Nat.zero_lt_one,qjY,qnj,qre,qHc,qty,qqX,qej,qwx,qnf,qsN,hx,qs2,decide_true,hT,qCd,qnr,qgS,qAj,qw5,qz7,qri,qpj,qqf,Nat.min_self,qEB,qzj,lv,ln]
theorem zO {t:List D} {O A B N:Int} (h0:0<=N) (h1:N<=65535) (h:t.length+2<=1000000):qf pg 65 [.ptr 0 0,.d (.i .i64 O),.d (.i .i64 A),.d (.i .i64 B),.d (.i .i64 N)] [.cells [.osl (x::t)]]=some ⟨false,false,.tup [],[.cells [.osl (x::(t++[kX O A B N]))]],0⟩:=by
 have hT:∀k,(k<=2)=True->t.length+k<=1000000:=fun k hk=>by
  have hk:k<=2:=of_eq_true hk
  omega
 have hn:(N<0)=False:=eq_false (by omega)
 have hw:wr .i32 N=N:=qrn (by omega) (by omega)
 rw [qj (fn:=kM) rfl rfl]
 simp only [zN,kM,k_,m_,g_,v_,o_,i_,c_,qSV,Nat.reduceAdd,qSS,qST,reduceCtorEq,Nat.reduceEqDiff,Bool.or_true,hn,decide_false,qSO,↓reduceIte,hw,qSR,qS1,Nat.reduceLT,List.set_cons_zero,List.set_cons_succ,qSP,Nat.reduceLeDiff,hT,qab hx,ln,Int.reduceNeg,Nat.min_zero,Nat.zero_lt_one,lv,kX]
theorem qEe {t:List D} {O A B N:Int} (h0:N<0) (h1:-65536<=N) (h:t.length+2<=1000000):qf pg 65 [.ptr 0 0,.d (.i .i64 O),.d (.i .i64 A),.d (.i .i64 B),.d (.i .i64 N)] [.cells [.osl (x::t)]]=some ⟨false,false,.tup [],[.cells [.osl (x::(t++[ln 1 false true A B 0 O (N+65536) (-1)]))]],0⟩:=by
 have hT:∀k,(k<=2)=True->t.length+k<=1000000:=fun k hk=>by
  have hk:k<=2:=of_eq_true hk
  omega
 have hn:(N<0)=True:=eq_true (by omega)
 have hw:wr .i64 (N+65536)=N+65536:=qbK (by omega) (by omega)
 have hw2:wr .i32 (N+65536)=N+65536:=qrn (by omega) (by omega)
 rw [qj (fn:=kM) rfl rfl]
 simp only [zN,kM,k_,m_,g_,v_,o_,i_,c_,qSV,Nat.reduceAdd,qSS,qST,reduceCtorEq,Nat.reduceEqDiff,Bool.or_true,hn,decide_true,↓reduceIte,qtu,hw,hw2,qSR,qS1,Nat.reduceLT,List.set_cons_zero,List.set_cons_succ,qSP,Nat.reduceLeDiff,hT,qab hx,ln,Int.reduceNeg,Nat.min_zero,Nat.zero_lt_one,lv]
theorem qqB {t:List D} {O A B C:Int}  (h:t.length+2<=1000000):qf pg 137 [.ptr 0 0,.d (.i .i64 O),.d (.i .i64 A),.d (.i .i64 B),.d (.i .i64 C)] [.cells [.osl (x::t)]]=some ⟨false,false,.tup [],[.cells [.osl (x::(t++[qld O A B C]))]],0⟩:=by
 have hT:∀k,(k<=2)=True->t.length+k<=1000000:=fun k hk=>by
  have hk:k<=2:=of_eq_true hk
  omega
 rw [qj (fn:=z6) rfl rfl]
 simp only [zN,z6,v_,m_,o_,i_,c_,qSV,Nat.reduceAdd,qSS,qST,Nat.reduceEqDiff,reduceCtorEq,qSR,qS1,Nat.reduceLT,List.set_cons_zero,List.set_cons_succ,qSP,Nat.reduceLeDiff,hT,qab hx,ln,Int.reduceNeg,Nat.min_zero,Nat.zero_lt_one,lv,qld]
theorem qeJ {t:List D} {A B N:Int} (h0:-65536<=N) (h1:N<=65535) (h:t.length+2<=1000000):qf pg 68 [.ptr 0 0,.d (.i .i64 A),.d (.i .i64 B),.d (.i .i64 N)] [.cells [.osl (x::t)]]=some ⟨false,false,.tup [],[.cells [.osl (x::(t++[mLd A B N]))]],0⟩:=by
 have hT:∀k,(k<=2)=True->t.length+k<=1000000:=fun k hk=>by
  have hk:k<=2:=of_eq_true hk
  omega
 have hw:wr .i32 N=N:=qrn (by omega) (by omega)
 rw [qj (fn:=zU) rfl rfl]
 simp only [zN,zU,v_,m_,o_,i_,c_,qSV,Nat.reduceAdd,qSS,qST,Nat.reduceEqDiff,reduceCtorEq,hw,qSR,qS1,Nat.reduceLT,List.set_cons_zero,List.set_cons_succ,qSP,Nat.reduceLeDiff,hT,qab hx,ln,Int.reduceNeg,Nat.min_zero,Nat.zero_lt_one,lv,mLd]
theorem qa8 {t:List D} {A B N:Int} (h0:-65536<=N) (h1:N<=65535) (h:t.length+2<=1000000):qf pg 71 [.ptr 0 0,.d (.i .i64 A),.d (.i .i64 B),.d (.i .i64 N)] [.cells [.osl (x::t)]]=some ⟨false,false,.tup [],[.cells [.osl (x::(t++[mSt A B N]))]],0⟩:=by
 have hT:∀k,(k<=2)=True->t.length+k<=1000000:=fun k hk=>by
  have hk:k<=2:=of_eq_true hk
  omega
 have hw:wr .i32 N=N:=qrn (by omega) (by omega)
 rw [qj (fn:=zC) rfl rfl]
 simp only [zN,zC,v_,m_,o_,i_,c_,qSV,Nat.reduceAdd,qSS,qST,Nat.reduceEqDiff,reduceCtorEq,hw,qSR,qS1,Nat.reduceLT,List.set_cons_zero,List.set_cons_succ,qSP,Nat.reduceLeDiff,hT,qab hx,ln,Int.reduceNeg,Nat.min_zero,Nat.zero_lt_one,lv,mSt]
theorem qwi {t:List D} {A N:Int} (h0:-65536<=N) (h1:N<=65535) (h:t.length+2<=1000000):qf pg 138 [.ptr 0 0,.d (.i .i64 A),.d (.i .i64 N)] [.cells [.osl (x::t)]]=some ⟨false,false,.tup [],[.cells [.osl (x::(t++[qdV A N]))]],0⟩:=by
 have hT:∀k,(k<=2)=True->t.length+k<=1000000:=fun k hk=>by
  have hk:k<=2:=of_eq_true hk
  omega
 have hw:wr .i32 N=N:=qrn (by omega) (by omega)
 rw [qj (fn:=z0) rfl rfl]
 simp only [zN,z0,v_,m_,o_,i_,c_,qSV,Nat.reduceAdd,qSS,qST,Nat.reduceEqDiff,reduceCtorEq,hw,qSR,qS1,Nat.reduceLT,List.set_cons_zero,List.set_cons_succ,qSP,Nat.reduceLeDiff,hT,qab hx,ln,Int.reduceNeg,Nat.min_zero,Nat.zero_lt_one,lv,qdV]
theorem qD1 {t:List D} {A K:Int} {V:Bool} (h0:0<=K) (h1:K<=65535) (h:t.length+2<=1000000):qf pg 144 [.ptr 0 0,.d (.i .i64 A),.d (.b V),.d (.i .i32 K)] [.cells [.osl (x::t)]]=some ⟨false,false,.tup [],[.cells [.osl (x::(t++[qiS A V K]))]],0⟩:=by
 have hT:∀k,(k<=2)=True->t.length+k<=1000000:=fun k hk=>by
  have hk:k<=2:=of_eq_true hk
  omega
 have hw:wr .i64 K=K:=qbK (by omega) (by omega)
 rw [qj (fn:=zX) rfl rfl]
 simp only [zN,zX,m_,o_,a_,l_,i_,z_,qSV,Nat.reduceAdd,qSS,qST,reduceCtorEq,qe0,qxT,Nat.add_zero,qqa,qSZ,List.set_cons_zero,qwO,Nat.min_zero,qxU,Nat.reduceEqDiff,qSR,qS1,Nat.reduceLT,List.set_cons_succ,hw,qtX,qwZ,qSP,Nat.reduceLeDiff,qB6,List.take_zero,qS2,List.drop_succ_cons,List.drop_zero,qSX,qak,qjT,List.reduceReplicate,Nat.zero_lt_one,qjY,qnj,qre,qHc,qty,qqX,qej,qwx,qnf,qsN,hx,qs2,decide_true,hT,qCd,qnr,qgS,qAj,qw5,qz7,qri,qpj,qqf,Nat.min_self,quy,lv,qiS,ln]
theorem qif {t:List D} {A:Int}  (h:t.length+3<=1000000):qf pg 67 [.ptr 0 0,.d (.i .i64 A)] [.cells [.osl (x::t)]]=some ⟨false,false,.tup [],[.cells [.osl (x::(t++qbi A))]],0⟩:=by
 have hT:∀k,(k<=3)=True->t.length+k<=1000000:=fun k hk=>by
  have hk:k<=3:=of_eq_true hk
  omega
 rw [qj (fn:=zT) rfl rfl]
 simp only [zN,zT,k_,m_,v_,c_,i_,qSV,Nat.reduceAdd,qSS,qST,Nat.reduceEqDiff,reduceCtorEq,qSR,qS1,qSP,Int.reduceNeg,Int.reduceLE,Nat.reduceLeDiff,hT,qa8 hx,mSt,ln,Nat.min_zero,qS0,Nat.add_assoc,zO hx,kX,List.append_assoc,qSX,qS2,Nat.min_self,Nat.zero_lt_one,lv,qbi]
theorem qFC {t:List D} {A:Int}  (h:t.length+3<=1000000):qf pg 74 [.ptr 0 0,.d (.i .i64 A)] [.cells [.osl (x::t)]]=some ⟨false,false,.tup [],[.cells [.osl (x::(t++qtp A))]],0⟩:=by
 have hT:∀k,(k<=3)=True->t.length+k<=1000000:=fun k hk=>by
  have hk:k<=3:=of_eq_true hk
  omega
 rw [qj (fn:=jd) rfl rfl]
 simp only [zN,jd,k_,m_,c_,i_,v_,qSV,Nat.reduceAdd,qSS,qST,qSR,qS1,qSP,Int.reduceLE,Nat.reduceLeDiff,hT,zO hx,kX,ln,Int.reduceNeg,Nat.min_zero,reduceCtorEq,Nat.reduceEqDiff,qS0,Nat.add_assoc,qeJ hx,mLd,List.append_assoc,qSX,qS2,Nat.min_self,Nat.zero_lt_one,lv,qtp]
theorem qr5 {t:List D}   (h:t.length+3<=1000000):qf pg 70 [.ptr 0 0] [.cells [.osl (x::t)]]=some ⟨false,false,.tup [],[.cells [.osl (x::(t++qcL))]],0⟩:=by
 have hT:∀k,(k<=3)=True->t.length+k<=1000000:=fun k hk=>by
  have hk:k<=3:=of_eq_true hk
  omega
 rw [qj (fn:=zS) rfl rfl]
 simp only [zN,zS,k_,m_,o_,i_,Int.reduceNeg,v_,qSV,qSS,qST,qSR,qS1,qSP,Int.reduceLE,Nat.reduceLeDiff,hT,qeJ hx,mLd,ln,Nat.min_zero,reduceCtorEq,qS0,Nat.add_assoc,Nat.reduceAdd,List.append_assoc,qSX,qS2,Nat.min_self,Nat.zero_lt_one,lv,qcL]
theorem qww {t:List D} {N:Int} (h0:0<=N) (h1:N<=1000) (h:t.length+2<=1000000):qf pg 69 [.ptr 0 0,.d (.i .i64 N)] [.cells [.osl (x::t)]]=some ⟨false,false,.tup [],[.cells [.osl (x::(t++qim N))]],0⟩:=by
 have hT:∀k,(k<=2)=True->t.length+k<=1000000:=fun k hk=>by
  have hk:k<=2:=of_eq_true hk
  omega
 have hw:wr .i64 (N * 4)=N * 4:=qbK (by omega) (by omega)
 have g0:(0<=N * 4)=True:=eq_true (by omega)
 have g1:(N * 4<=65535)=True:=eq_true (by omega)
 rw [qj (fn:=zQ) rfl rfl]
 simp only [zN,zQ,v_,m_,g_,c_,i_,qSV,Nat.reduceAdd,qSS,qST,Nat.reduceEqDiff,reduceCtorEq,Bool.or_true,qIu,hw,qSR,qS1,qSP,g0,g1,Nat.reduceLeDiff,hT,zO hx,kX,ln,Int.reduceNeg,Nat.min_zero,Nat.zero_lt_one,lv,qim]
theorem qme {t:List D}   (h:t.length+3<=1000000):qf pg 139 [.ptr 0 0] [.cells [.osl (x::t)]]=some ⟨false,false,.tup [],[.cells [.osl (x::(t++qpi))]],0⟩:=by
 have hT:∀k,(k<=3)=True->t.length+k<=1000000:=fun k hk=>by
  have hk:k<=3:=of_eq_true hk
  omega
 rw [qj (fn:=zt) rfl rfl]
 simp only [zN,zt,k_,m_,o_,i_,Int.reduceNeg,v_,c_,qSV,qSS,qST,qSR,qS1,qSP,Int.reduceLE,Nat.reduceLeDiff,hT,qa8 hx,mSt,ln,Nat.min_zero,reduceCtorEq,qS0,Nat.add_assoc,Nat.reduceAdd,qww hx,qim,kX,Int.reduceMul,List.append_assoc,qSX,qS2,Nat.min_self,Nat.zero_lt_one,lv,qpi]
theorem qEW {t:List D} {O:Int}  (h:t.length+6<=1000000):qf pg 141 [.ptr 0 0,.d (.i .i64 O)] [.cells [.osl (x::t)]]=some ⟨false,false,.tup [],[.cells [.osl (x::(t++qnF O))]],0⟩:=by
 have hT:∀k,(k<=6)=True->t.length+k<=1000000:=fun k hk=>by
  have hk:k<=6:=of_eq_true hk
  omega
 rw [qj (fn:=z9) rfl rfl]
 simp only [zN,z9,k_,m_,c_,v_,i_,qSV,Nat.reduceAdd,qSS,qST,qSR,qS1,qSP,Nat.reduceLeDiff,hT,qr5 hx,qcL,mLd,ln,Int.reduceNeg,Nat.min_zero,reduceCtorEq,Nat.reduceEqDiff,qS0,Nat.add_assoc,qqB hx,qld,List.append_assoc,qSX,qS2,Nat.min_self,qme hx,qpi,mSt,kX,Nat.zero_lt_one,lv,qnF]
theorem qv4 {t:List D} {O:Int}  (h:t.length+10<=1000000):qf pg 140 [.ptr 0 0,.d (.i .i64 O)] [.cells [.osl (x::t)]]=some ⟨false,false,.tup [],[.cells [.osl (x::(t++qrW O))]],0⟩:=by
 have hT:∀k,(k<=10)=True->t.length+k<=1000000:=fun k hk=>by
  have hk:k<=10:=of_eq_true hk
  omega
 rw [qj (fn:=kN) rfl rfl]
 simp only [zN,kN,k_,m_,c_,i_,v_,qSV,Nat.reduceAdd,qSS,qST,qSR,qS1,qSP,Nat.reduceLeDiff,hT,qr5 hx,qcL,mLd,ln,Int.reduceNeg,Nat.min_zero,reduceCtorEq,qS0,Nat.add_assoc,qqB hx,qld,List.append_assoc,qSX,qS2,Nat.min_self,Nat.reduceEqDiff,Int.reduceLE,qwi hx,qdV,zO hx,kX,qme hx,qpi,mSt,Nat.zero_lt_one,lv,qrW]
theorem qEQ {t:List D} {K:Int}  (h:t.length+2<=1000000):qf pg 143 [.ptr 0 0,.d (.i .i32 K)] [.cells [.osl (x::t)]]=some ⟨false,false,.tup [],[.cells [.osl (x::(t++qtn K))]],0⟩:=by
 have hT:∀k,(k<=2)=True->t.length+k<=1000000:=fun k hk=>by
  have hk:k<=2:=of_eq_true hk
  omega
 rw [qj (fn:=ja) rfl rfl]
 simp only [zN,ja,v_,m_,o_,i_,c_,qSV,Nat.reduceAdd,qSS,qST,Nat.reduceEqDiff,reduceCtorEq,qSR,qS1,Nat.reduceLT,List.set_cons_zero,List.set_cons_succ,qSP,Nat.reduceLeDiff,hT,qab hx,ln,Int.reduceNeg,Nat.min_zero,Nat.zero_lt_one,lv,qtn]
theorem qBo {t:List D}   (h:t.length+6<=1000000):qf pg 146 [.ptr 0 0] [.cells [.osl (x::t)]]=some ⟨false,false,.tup [],[.cells [.osl (x::(t++qgk))]],0⟩:=by
 have hT:∀k,(k<=6)=True->t.length+k<=1000000:=fun k hk=>by
  have hk:k<=6:=of_eq_true hk
  omega
 rw [qj (fn:=zE) rfl rfl]
 simp only [zN,zE,k_,m_,c_,i_,o_,Int.reduceNeg,v_,qSV,qSS,qST,qSR,qS1,qSP,Int.reduceLE,Nat.reduceLeDiff,hT,zO hx,kX,ln,Nat.min_zero,reduceCtorEq,qS0,Nat.add_assoc,Nat.reduceAdd,List.append_assoc,qSX,qS2,Nat.min_self,qeJ hx,mLd,Nat.reduceLT,List.set_cons_zero,List.set_cons_succ,Nat.reduceEqDiff,qab hx,Nat.zero_lt_one,lv,qgk]
theorem qzc {t:List D}   (h:t.length+6<=1000000):qf pg 145 [.ptr 0 0,.d (.i .i32 0)] [.cells [.osl (x::t)]]=some ⟨false,false,.tup [],[.cells [.osl (x::(t++qpA 0))]],0⟩:=by
 have hT:∀k,(k<=6)=True->t.length+k<=1000000:=fun k hk=>by
  have hk:k<=6:=of_eq_true hk
  omega
 rw [qj (fn:=qV) rfl rfl]
 simp only [zN,qV,k_,m_,c_,i_,o_,v_,Int.reduceNeg,qSV,Nat.reduceAdd,qSS,qST,qSR,qS1,qSP,Int.reduceLE,Nat.reduceLeDiff,hT,zO hx,kX,ln,Nat.min_zero,reduceCtorEq,qS0,Nat.add_assoc,qa8 hx,mSt,List.append_assoc,qSX,qS2,Nat.min_self,Nat.reduceEqDiff,qJ1,Bool.or_true,decide_true,↓reduceIte,Nat.zero_lt_one,lv,qpA]
theorem qsY {t:List D} {A N:Int} (h0:0<=N) (h1:N<=65535) (h:t.length+2<=1000000):qf pg 24 [.ptr 0 0,.d (.i .i64 A),.d (.i .i32 N)] [.cells [.osl (x::t)]]=some ⟨false,false,.tup [],[.cells [.osl (x::(t++[kX 0 A 0 N]))]],0⟩:=by
 have hT:∀k,(k<=2)=True->t.length+k<=1000000:=fun k hk=>by
  have hk:k<=2:=of_eq_true hk
  omega
 have ha:(N>=-65536)=True:=eq_true (by omega)
 have hb:(N<65536)=True:=eq_true (by omega)
 have hw:wr .i64 N=N:=qbK (by omega) (by omega)
 rw [qj (fn:=qm) rfl rfl]
 simp only [zN,qm,k_,m_,o_,Int.reduceNeg,q_,v_,c_,i_,qSV,Nat.reduceAdd,qSS,qST,reduceCtorEq,Nat.reduceEqDiff,Bool.or_true,ha,decide_true,↓reduceIte,hb,hw,qSR,qS1,qSP,h0,h1,Nat.reduceLeDiff,hT,zO hx,kX,ln,Nat.min_zero,Nat.zero_lt_one,lv]
theorem qzm {t:List D} {A N:Int} (h0:N<0) (h1:-65536<=N) (h:t.length+2<=1000000):qf pg 24 [.ptr 0 0,.d (.i .i64 A),.d (.i .i32 N)] [.cells [.osl (x::t)]]=some ⟨false,false,.tup [],[.cells [.osl (x::(t++[quC A N]))]],0⟩:=by
 have hT:∀k,(k<=2)=True->t.length+k<=1000000:=fun k hk=>by
  have hk:k<=2:=of_eq_true hk
  omega
 have ha:(N>=-65536)=True:=eq_true (by omega)
 have hb:(N<65536)=True:=eq_true (by omega)
 have hw:wr .i64 N=N:=qbK (by omega) (by omega)
 rw [qj (fn:=qm) rfl rfl]
 simp only [zN,qm,k_,m_,o_,Int.reduceNeg,q_,v_,c_,i_,qSV,Nat.reduceAdd,qSS,qST,reduceCtorEq,Nat.reduceEqDiff,Bool.or_true,ha,decide_true,↓reduceIte,hb,hw,qSR,qS1,qSP,h0,Nat.reduceLeDiff,hT,qEe hx,ln,Nat.min_zero,Nat.zero_lt_one,lv,quC]
theorem qAp {t:List D} {N:Int} (h0:0<N) (h1:N<=1000) (h:t.length+13<=1000000):qf pg 145 [.ptr 0 0,.d (.i .i32 N)] [.cells [.osl (x::t)]]=some ⟨false,false,.tup [],[.cells [.osl (x::(t++(qpA N++quH N)))]],0⟩:=by
 have hT:∀k,(k<=13)=True->t.length+k<=1000000:=fun k hk=>by
  have hk:k<=13:=of_eq_true hk
  omega
 have hk:((N:Int)=0)=False:=eq_false (by omega)
 have kw:wr .i64 N=N:=qbK (by omega) (by omega)
 rw [qj (fn:=qV) rfl rfl]
 simp only [zN,qV,k_,m_,c_,i_,o_,v_,Int.reduceNeg,qSV,Nat.reduceAdd,qSS,qST,qSR,qS1,qSP,Int.reduceLE,Nat.reduceLeDiff,hT,zO hx,kX,ln,Nat.min_zero,reduceCtorEq,qS0,Nat.add_assoc,qa8 hx,mSt,List.append_assoc,qSX,qS2,Nat.min_self,Nat.reduceEqDiff,kw,Int.le_of_lt h0,Int.le_trans h1 (by decide:(1000:Int)<=65535),Bool.or_true,hk,decide_false,qSO,↓reduceIte,qsY hx,qwi hx,qdV,Nat.zero_lt_one,lv,qpA,quH]
theorem qDl {t:List D}   (h:t.length+5<=1000000):qf pg 72 [.ptr 0 0,.d (.i .i64 6)] [.cells [.osl (x::t)]]=some ⟨false,false,.tup [],[.cells [.osl (x::(t++qrf [kX 1 0 0 2,mLd 0 0 0]))]],0⟩:=by
 have hT:∀k,(k<=5)=True->t.length+k<=1000000:=fun k hk=>by
  have hk:k<=5:=of_eq_true hk
  omega
 rw [qj (fn:=kz) rfl rfl]
 simp only [zN,kz,k_,m_,o_,i_,Int.reduceNeg,g_,c_,v_,qSV,Nat.reduceAdd,qSS,qST,qSR,qS1,qSP,Int.reduceLE,Nat.reduceLeDiff,hT,qeJ hx,mLd,ln,Nat.min_zero,Nat.reduceEqDiff,reduceCtorEq,Bool.or_true,Int.reduceEq,decide_false,qSO,↓reduceIte,decide_true,qS0,Nat.add_assoc,zO hx,kX,List.append_assoc,qSX,qS2,Nat.min_self,kr,qsd,qa8 hx,mSt,Nat.zero_lt_one,lv,qrf]
theorem qAu {t:List D}   (h:t.length+5<=1000000):qf pg 72 [.ptr 0 0,.d (.i .i64 14)] [.cells [.osl (x::t)]]=some ⟨false,false,.tup [],[.cells [.osl (x::(t++qrf [kX 0 1 0 0,qld 9 0 1 0]))]],0⟩:=by
 have hT:∀k,(k<=5)=True->t.length+k<=1000000:=fun k hk=>by
  have hk:k<=5:=of_eq_true hk
  omega
 rw [qj (fn:=kz) rfl rfl]
 simp only [zN,kz,k_,m_,o_,i_,Int.reduceNeg,g_,c_,v_,qSV,Nat.reduceAdd,qSS,qST,qSR,qS1,qSP,Int.reduceLE,Nat.reduceLeDiff,hT,qeJ hx,mLd,ln,Nat.min_zero,Nat.reduceEqDiff,reduceCtorEq,Bool.or_true,decide_true,↓reduceIte,qS0,Nat.add_assoc,zO hx,kX,List.append_assoc,qSX,qS2,Nat.min_self,qqB hx,qld,kr,qsd,qa8 hx,mSt,Nat.zero_lt_one,lv,qrf]
theorem qyc {t:List D} {A:Int}  (h:t.length+3<=1000000):qf pg 24 [.ptr 0 0,.d (.i .i64 A),.d (.i .i32 65540)] [.cells [.osl (x::t)]]=some ⟨false,false,.tup [],[.cells [.osl (x::(t++qpF A 4))]],0⟩:=by
 have hT:∀k,(k<=3)=True->t.length+k<=1000000:=fun k hk=>by
  have hk:k<=3:=of_eq_true hk
  omega
 have q1:qek .shr .num true (.d (.i .u32 65540)) (.d (.i .u64 16))=some (.d (.i .u32 1)):=by kernel_rfl
 have q2:qek .and .num true (.d (.i .u32 65540)) (.d (.i .u32 65535))=some (.d (.i .u32 4)):=by kernel_rfl
 have q3:wr .u32 65540=65540:=rfl
 rw [qj (fn:=qm) rfl rfl]
 simp only [zN,qm,k_,m_,o_,Int.reduceNeg,q_,v_,c_,i_,qSV,Nat.reduceAdd,qSS,qST,reduceCtorEq,Nat.reduceEqDiff,Bool.or_true,Int.reduceLE,decide_true,↓reduceIte,Int.reduceLT,decide_false,qSO,q3,q1,qRM,qSR,qS1,Nat.reduceLT,List.set_cons_zero,List.set_cons_succ,qSP,Nat.reduceLeDiff,hT,qab hx,ln,Nat.min_zero,q2,qJ1,qS0,Nat.add_assoc,zO hx,kX,List.append_assoc,qSX,qS2,Nat.min_self,Nat.zero_lt_one,lv,qpF]
theorem qx0 {t:List D} {A:Int}  (h:t.length+3<=1000000):qf pg 24 [.ptr 0 0,.d (.i .i64 A),.d (.i .i32 65541)] [.cells [.osl (x::t)]]=some ⟨false,false,.tup [],[.cells [.osl (x::(t++qpF A 5))]],0⟩:=by
 have hT:∀k,(k<=3)=True->t.length+k<=1000000:=fun k hk=>by
  have hk:k<=3:=of_eq_true hk
  omega
 have q1:qek .shr .num true (.d (.i .u32 65541)) (.d (.i .u64 16))=some (.d (.i .u32 1)):=by kernel_rfl
 have q2:qek .and .num true (.d (.i .u32 65541)) (.d (.i .u32 65535))=some (.d (.i .u32 5)):=by kernel_rfl
 have q3:wr .u32 65541=65541:=rfl
 rw [qj (fn:=qm) rfl rfl]
 simp only [zN,qm,k_,m_,o_,Int.reduceNeg,q_,v_,c_,i_,qSV,Nat.reduceAdd,qSS,qST,reduceCtorEq,Nat.reduceEqDiff,Bool.or_true,Int.reduceLE,decide_true,↓reduceIte,Int.reduceLT,decide_false,qSO,q3,q1,qRM,qSR,qS1,Nat.reduceLT,List.set_cons_zero,List.set_cons_succ,qSP,Nat.reduceLeDiff,hT,qab hx,ln,Nat.min_zero,q2,qJ1,qS0,Nat.add_assoc,zO hx,kX,List.append_assoc,qSX,qS2,Nat.min_self,Nat.zero_lt_one,lv,qpF]
theorem qDL {N:Int} (h0:0<=N) (h1:N<=1000):qo0 x 1 N:=by
 intro t m hm h
 have hT:∀k,(k<=20)=True->t.length+k<=1000000:=fun k hk=>by
  have hk:k<=20:=of_eq_true hk
  omega
 have h2:N<=65535:=by omega
 have hw:wr .i64 N=N:=qbK (by omega) (by omega)
 have hn:-65536<=N:=by omega
 have eg:leI 0 N=true:=by rw [jG];exact decide_eq_true (by omega)
 have eh:leI N 1000=true:=by rw [jG];exact decide_eq_true (by omega)
 simp only [qho,qg0,decide_true,eg,eh,qSP,kX,ln,Int.reduceNeg,qbi,mSt,qpF,qSX,qS2,jG,hn,qSW,Bool.and_false,quC,Bool.cond_false,Bool.cond_decide,Bool.cond_true,Int.reduceEq,decide_false,qtp,mLd,qiS,qrf,qcL,qim,Int.reduceMul,qnF,qld,qpi,qrW,qdV,qpA,quH,qgk,qtn] at hm
 cases hm
 rw [qj (fn:=qe) rfl rfl]
 simp only [zN,qe,k_,o_,a_,d_,g_,m_,c_,i_,v_,Int.reduceNeg,q_,l_,s_,qSV,Nat.reduceAdd,qSS,qST,reduceCtorEq,qSR,qS1,qSP,Nat.add_zero,Nat.reduceEqDiff,qSZ,qSU,Bool.or_true,decide_true,↓reduceIte,List.getElem?_cons_succ,h0,h2,Nat.reduceLeDiff,hT,qsY hx,kX,ln,Nat.min_zero,qS0,Nat.add_assoc,qif hx,qbi,mSt,List.append_assoc,qSX,qS2,Nat.min_self,Nat.zero_lt_one,lv]
theorem qCV {N:Int} (h0:N<0) (h1:-65536<=N):qo0 x 1 N:=by
 intro t m hm h
 have hT:∀k,(k<=20)=True->t.length+k<=1000000:=fun k hk=>by
  have hk:k<=20:=of_eq_true hk
  omega
 have eg:leI 0 N=false:=by rw [jG];exact decide_eq_false (by omega)
 have eh:leI (-65536) N=true:=by rw [jG];exact decide_eq_true (by omega)
 have en1:(N=65540)=False:=eq_false (by omega)
 have en2:(N=65541)=False:=eq_false (by omega)
 simp only [qho,qg0,decide_true,eg,jG,Bool.false_and,kX,ln,Int.reduceNeg,qbi,mSt,en1,decide_false,qpF,qSX,qS2,en2,eh,h1,Bool.not_false,qSP,quC,Bool.cond_true,Bool.cond_false,Int.reduceEq,qtp,mLd,qiS,qrf,qcL,qim,Int.reduceMul,qnF,qld,qpi,qrW,qdV,qpA,quH,Bool.cond_decide,qgk,qtn] at hm
 cases hm
 rw [qj (fn:=qe) rfl rfl]
 simp only [zN,qe,k_,o_,a_,d_,g_,m_,c_,i_,v_,Int.reduceNeg,q_,l_,s_,qSV,Nat.reduceAdd,qSS,qST,reduceCtorEq,qSR,qS1,qSP,Nat.add_zero,Nat.reduceEqDiff,qSZ,qSU,Bool.or_true,decide_true,↓reduceIte,List.getElem?_cons_succ,h0,h1,Nat.reduceLeDiff,hT,qzm hx,quC,ln,Nat.min_zero,qS0,Nat.add_assoc,qif hx,qbi,mSt,kX,List.append_assoc,qSX,qS2,Nat.min_self,Nat.zero_lt_one,lv]
theorem qAR   : qo0 x 1 65540:=by
 intro t m hm h
 have hT:∀k,(k<=20)=True->t.length+k<=1000000:=fun k hk=>by
  have hk:k<=20:=of_eq_true hk
  omega
 simp only [qho,qg0,decide_true,jG,Int.reduceLE,decide_false,Bool.and_false,kX,ln,Int.reduceNeg,qbi,mSt,qpF,qSX,qS2,Int.reduceEq,qSW,quC,Int.reduceAdd,Bool.cond_false,Bool.cond_true,Bool.not_false,qtp,mLd,qiS,qrf,qcL,qim,Int.reduceMul,qnF,qld,qpi,qrW,qdV,qpA,quH,qgk,qtn] at hm
 cases hm
 rw [qj (fn:=qe) rfl rfl]
 simp only [zN,qe,k_,o_,a_,d_,g_,m_,c_,i_,v_,Int.reduceNeg,q_,l_,s_,qSV,Nat.reduceAdd,qSS,qST,reduceCtorEq,qSR,qS1,qSP,Nat.add_zero,Nat.reduceEqDiff,qSZ,qSU,Bool.or_true,decide_true,↓reduceIte,List.getElem?_cons_succ,Int.reduceLE,Nat.reduceLeDiff,hT,qyc hx,qpF,ln,kX,Nat.min_zero,qS0,Nat.add_assoc,qif hx,qbi,mSt,List.append_assoc,qSX,qS2,Nat.min_self,Nat.zero_lt_one,lv]
theorem qAJ   : qo0 x 1 65541:=by
 intro t m hm h
 have hT:∀k,(k<=20)=True->t.length+k<=1000000:=fun k hk=>by
  have hk:k<=20:=of_eq_true hk
  omega
 simp only [qho,qg0,decide_true,jG,Int.reduceLE,decide_false,Bool.and_false,kX,ln,Int.reduceNeg,qbi,mSt,Int.reduceEq,qpF,qSX,qS2,qSW,quC,Int.reduceAdd,Bool.cond_false,Bool.cond_true,Bool.not_false,qtp,mLd,qiS,qrf,qcL,qim,Int.reduceMul,qnF,qld,qpi,qrW,qdV,qpA,quH,qgk,qtn] at hm
 cases hm
 rw [qj (fn:=qe) rfl rfl]
 simp only [zN,qe,k_,o_,a_,d_,g_,m_,c_,i_,v_,Int.reduceNeg,q_,l_,s_,qSV,Nat.reduceAdd,qSS,qST,reduceCtorEq,qSR,qS1,qSP,Nat.add_zero,Nat.reduceEqDiff,qSZ,qSU,Bool.or_true,decide_true,↓reduceIte,List.getElem?_cons_succ,Int.reduceLE,Nat.reduceLeDiff,hT,qx0 hx,qpF,ln,kX,Nat.min_zero,qS0,Nat.add_assoc,qif hx,qbi,mSt,List.append_assoc,qSX,qS2,Nat.min_self,Nat.zero_lt_one,lv]
theorem qBJ   : qo0 x 28 0:=by
 intro t m hm h
 have hT:∀k,(k<=20)=True->t.length+k<=1000000:=fun k hk=>by
  have hk:k<=20:=of_eq_true hk
  omega
 simp only [qho,qg0,Int.reduceEq,decide_false,jG,Int.reduceLE,decide_true,qSP,kX,ln,Int.reduceNeg,qbi,mSt,qpF,qSX,qS2,qSW,Bool.and_false,quC,Int.reduceAdd,Bool.cond_false,Bool.cond_true,qtp,mLd,qiS,qrf,qcL,qim,Int.reduceMul,qnF,qld,qpi,qrW,qdV,qpA,quH,qgk,qtn] at hm
 cases hm
 rw [qj (fn:=qe) rfl rfl]
 simp only [zN,qe,k_,o_,a_,d_,g_,m_,c_,i_,v_,Int.reduceNeg,q_,l_,s_,qSV,Nat.reduceAdd,qSS,qST,reduceCtorEq,qSR,qS1,qSP,Nat.add_zero,Nat.reduceEqDiff,qSZ,qSU,Bool.or_true,Int.reduceEq,decide_false,qSO,↓reduceIte,Int.reduceLE,decide_true,qxB,Nat.reduceLeDiff,qsi,List.drop_zero,List.take_succ_cons,List.take_zero,qGB,f_genrisc_gen_leads,List.getElem?_cons_succ,hT,qzc hx,qpA,kX,ln,mSt,Nat.min_zero,Nat.zero_lt_one,lv]
theorem qDE {N:Int} (h0:0<N) (h1:N<=1000):qo0 x 28 N:=by
 intro t m hm h
 have hT:∀k,(k<=20)=True->t.length+k<=1000000:=fun k hk=>by
  have hk:k<=20:=of_eq_true hk
  omega
 have hz:(N=0)=False:=eq_false (by omega)
 have eg:leI 0 N=true:=by rw [jG];exact decide_eq_true (by omega)
 have eh:leI N 1000=true:=by rw [jG];exact decide_eq_true (by omega)
 simp only [qho,qg0,Int.reduceEq,decide_false,eg,eh,qSP,kX,ln,Int.reduceNeg,qbi,mSt,qpF,qSX,qS2,jG,qSW,Bool.and_false,quC,Bool.cond_false,Bool.cond_decide,Bool.cond_true,qtp,mLd,qiS,qrf,qcL,qim,Int.reduceMul,qnF,qld,qpi,qrW,qdV,decide_true,hz,qpA,quH,qgk,qtn] at hm
 cases hm
 rw [qj (fn:=qe) rfl rfl]
 simp only [zN,qe,k_,o_,a_,d_,g_,m_,c_,i_,v_,Int.reduceNeg,q_,l_,s_,qSV,Nat.reduceAdd,qSS,qST,reduceCtorEq,qSR,qS1,qSP,Nat.add_zero,Nat.reduceEqDiff,qSZ,qSU,Bool.or_true,Int.reduceEq,decide_false,qSO,↓reduceIte,Int.reduceLE,decide_true,qxB,Nat.reduceLeDiff,qsi,List.drop_zero,List.take_succ_cons,List.take_zero,qGB,f_genrisc_gen_leads,List.getElem?_cons_succ,h0,h1,hT,qAp hx,qpA,kX,ln,mSt,quH,qdV,qSX,qS2,Nat.min_zero,Nat.zero_lt_one,lv]
omit hx in
theorem qDx {op k:Int} {m:List D} (h1:op≠1) (h:qho op k=some m):0<=k/\k<=1000:=by
 have e1:eqI op 1=false:=by rw [qg0];exact decide_eq_false h1
 unfold qho at h
 rw [e1,cond_false] at h
 cases hb:(leI 0 k && leI k 1000) with
 | true=>
  simp only [qSI,jG,decide_eq_true_eq] at hb
  exact hb
 | false=>rw [hb] at h;cases h
theorem qL6 {op k:Int} {m:List D} (h:qho op k=some m):qo0 x op k:=by
 by_cases q1:op=1
 ·subst q1
  by_cases a:0<=k/\k<=1000
  ·exact qDL hx a.1 a.2
  by_cases b:k=65540
  ·subst b;exact qAR hx
  by_cases c:k=65541
  ·subst c;exact qAJ hx
  by_cases d:k<0/\-65536<=k
  ·exact qCV hx d.1 d.2
  exfalso
  unfold qho at h
  have e1:(leI 0 k && leI k 1000)=false:=by simp only [jG,Bool.and_eq_false_iff,decide_eq_false_iff_not];omega
  have e2:(leI (-65536) k && !leI 0 k)=false:=by simp only [jG,Bool.and_eq_false_iff,Bool.not_eq_false',decide_eq_false_iff_not,decide_eq_true_eq];omega
  have e3:eqI k 65540=false:=by rw [qg0];exact decide_eq_false b
  have e4:eqI k 65541=false:=by rw [qg0];exact decide_eq_false c
  rw [e1,e2,e3,e4] at h
  cases h
 obtain ⟨h0,h1⟩:=qDx q1 h
 by_cases q28:op=28
 ·subst q28
  by_cases z:k=0
  ·subst z;exact qBJ hx
  ·exact qDE hx (by omega) h1
 have eg:leI 0 k=true:=by rw [jG];exact decide_eq_true h0
 have eh:leI k 1000=true:=by rw [jG];exact decide_eq_true h1
 have hop:op=0\/op=2\/op=3\/op=4\/op=5\/op=6\/op=7\/op=9\/op=10\/op=12\/op=13\/op=14\/op=15\/op=19\/op=20\/op=22\/op=23\/op=24\/op=25\/op=26\/op=27\/op=29\/op=30\/op=33:=by
  refine Decidable.byContradiction fun hn=>?_
  simp only [not_or] at hn
  obtain ⟨q0,q2,q3,q4,q5,q6,q7,q9,q10,q12,q13,q14,q15,q19,q20,q22,q23,q24,q25,q26,q27,q29,q30,q33⟩:=hn
  unfold qho at h
  simp only [qg0,eg,eh,qSP,qSW,Bool.cond_false,Bool.cond_decide,q1,q28,q0,q2,q3,q4,q5,q6,q7,q9,q10,q12,q13,q14,q15,q19,q20,q22,q23,q24,q25,q26,q27,q29,q30,q33,if_false] at h
  cases h
 have h2:k<=65535:=by omega
 have hw:wr .i64 k=k:=qbK (by omega) (by omega)
 have hn:-65536<=k:=by omega
 clear h
 intro t m hm h
 have hT:∀k,(k<=20)=True->t.length+k<=1000000:=fun k hk=>by
  have hk:k<=20:=of_eq_true hk
  omega
 rcases hop with rfl|rfl|rfl|rfl|rfl|rfl|rfl|rfl|rfl|rfl|rfl|rfl|rfl|rfl|rfl|rfl|rfl|rfl|rfl|rfl|rfl|rfl|rfl|rfl
 all_goals
  simp only [qho,qg0,Int.reduceEq,decide_false,eg,eh,qSP,kX,ln,Int.reduceNeg,qbi,mSt,qpF,qSX,qS2,jG,qSW,Bool.and_false,quC,Bool.cond_false,Bool.cond_decide,Bool.cond_true,qtp,mLd,qiS,qrf,qcL,qim,Int.reduceMul,qnF,qld,qpi,qrW,qdV,qpA,quH,qgk,qtn,decide_true] at hm
  cases hm
  rw [qj (fn:=qe) rfl rfl]
  simp only [zN,qe,k_,o_,a_,d_,g_,m_,c_,i_,v_,Int.reduceNeg,q_,l_,s_,qSV,Nat.reduceAdd,qSS,qST,reduceCtorEq,qSR,qS1,qSP,Nat.add_zero,Nat.reduceEqDiff,qSZ,qSU,Bool.or_true,Int.reduceEq,decide_false,qSO,↓reduceIte,Int.reduceLE,qjh,qHB,Nat.reduceLeDiff,qsi,List.drop_zero,List.take_succ_cons,List.take_zero,qGB,f_genrisc_gen_leads,decide_true,hT,qEQ hx,qtn,ln,Nat.min_zero,Nat.zero_lt_one,lv,qeJ hx,mLd,qS0,Nat.add_assoc,qif hx,qbi,mSt,kX,List.append_assoc,qSX,qS2,Nat.min_self,qww hx,qim,Int.reduceMul,qr5 hx,qcL,qa8 hx,List.getElem?_cons_succ,hw,h0,h2,zO hx,qDl hx,qrf,qxB,qQi,f_genrisc_gen_reckon,qRF,f_genrisc_operation,qtM,qhE,qrK,qAO,qpt,qyG,lvd,qEW hx,qnF,qld,qpi,qqB hx,Nat.reduceLT,List.set_cons_zero,List.set_cons_succ,qab hx,qme hx,qAu hx,qv4 hx,qrW,qdV,qD1 hx,qiS,qFC hx,qtp,qBo hx,qgk]
end
end W
namespace W
set_option maxRecDepth 100000
structure InR where
 x:D
 w:Int
def q (f u v a b o c i w:Int):InR:=⟨.agg [.i .i64 f,.b (eqI u 1),.b (eqI v 1),.i .i64 a,.i .i64 b,.i .i64 o,.i .i64 c,.i .i32 i],w⟩
def plI:List InR:=[q 2 0 0 0 13 0 0 (-4) 2162163708,
 q 2 1 0 0 13 0 0 0 2697986048,
 q 1 0 0 13 13 0 8 4 1306001412,
 q 2 0 0 1 13 0 0 (-8) 2178940920,
 q 1 0 0 13 13 0 9 4 1306066948,
 q 2 1 0 0 13 0 0 (-4) 2699034620,
 q 1 0 0 0 0 0 1 2 1073807362,
 q 2 0 0 0 0 0 0 0 2147483648,
 q 1 0 0 0 12 0 8 1 1086849025,
 q 2 1 0 1 13 0 0 (-8) 2715811832,
 q 2 0 0 0 13 0 0 0 2161115136,
 q 1 0 0 1 1 0 1 2 1091633154,
 q 2 1 0 0 1 0 0 0 2685403136,
 q 1 0 0 13 13 0 9 8 1306066952,
 q 1 0 0 0 12 0 8 0 1086849024,
 q 1 0 0 1 0 0 0 0 1090519040,
 q 2 1 0 0 13 0 0 (-8) 2699034616,
 q 2 1 0 1 13 0 0 (-4) 2715811836,
 q 2 1 0 3 0 0 0 0 2734686208,
 q 1 0 0 0 0 0 8 4 1074266116,
 q 1 0 0 1 1 0 9 1 1092157441,
 q 3 1 0 9 0 0 0 (-4) 3925868540,
 q 0 0 0 1 1 0 8 0 18350080,
 q 2 1 0 0 1 0 0 (-64) 2686451648,
 q 1 0 0 0 0 0 0 1 1073741825,
 q 0 0 0 1 1 0 9 0 18415616,
 q 1 0 0 2 12 0 1 2 1119944706,
 q 1 0 0 11 12 0 9 2 1271463938,
 q 2 0 0 15 2 0 0 (-8) 2402287608,
 q 2 0 0 12 2 0 0 (-4) 2351955964,
 q 3 0 0 7 0 15 0 0 3338665999,
 q 3 1 0 7 0 0 0 1 3875536897,
 q 1 0 0 1 0 0 0 1 1090519041,
 q 1 0 0 0 0 0 0 0 1073741824,
 q 1 0 0 2 11 0 1 2 1118896130,
 q 2 1 0 15 2 0 0 0 2938109952,
 q 2 1 0 12 2 0 0 4 2887778308,
 q 1 0 0 12 11 0 8 2 1287127042,
 q 1 0 0 0 12 0 1 2 1086390274,
 q 1 0 0 3 0 0 0 0 1124073472,
 q 1 0 0 11 12 0 8 2 1271398402,
 q 1 0 0 1 0 0 0 2 1090519042,
 q 3 1 0 5 0 0 0 2 3841982466,
 q 3 1 0 1 0 0 0 2 3774873602,
 q 0 0 0 1 1 0 4 0 18087936,
 q 1 0 0 0 0 0 0 2 1073741826,
 q 1 0 0 0 0 0 0 4 1073741828,
 q 1 0 1 0 0 0 0 65504 1342242784,
 q 1 0 0 0 0 0 0 52 1073741876,
 q 1 0 0 0 12 0 8 2 1086849026,
 q 1 0 0 0 0 0 0 10 1073741834,
 q 0 0 0 1 1 0 11 0 18546688,
 q 1 0 1 0 0 0 0 65535 1342242815,
 q 3 0 1 7 0 12 0 1 3607101468,
 q 3 1 0 6 0 0 0 2 3858759682,
 q 0 0 0 1 1 0 1 0 17891328,
 q 1 0 0 0 0 0 0 56 1073741880,
 q 3 1 0 1 0 0 0 51 3774873651,
 q 1 0 0 13 0 0 0 912 1291846544,
 q 1 0 0 11 0 0 0 4 1258291204,
 q 1 0 0 12 0 0 0 4 1275068420,
 q 1 0 0 11 12 0 8 0 1271398400,
 q 1 0 0 0 0 0 0 7 1073741831,
 q 3 1 1 7 0 0 0 672 4143973024,
 q 3 0 1 7 0 12 0 0 3607101452,
 q 1 0 0 11 12 0 8 13 1271398413,
 q 1 0 0 1 0 0 0 13 1090519053,
 q 3 1 0 1 0 0 0 127 3774873727,
 q 0 1 0 1 0 0 0 0 553648128,
 q 1 0 0 0 0 0 0 48 1073741872,
 q 3 1 0 1 0 0 0 1 3774873601,
 q 3 1 0 7 0 0 0 (-61) 3892314051,
 q 3 0 1 7 0 12 0 2 3607101484,
 q 3 0 1 7 0 12 0 3 3607101500,
 q 3 0 1 7 0 12 0 4 3607101516,
 q 3 0 1 7 0 12 0 5 3607101532,
 q 3 0 1 7 0 12 0 6 3607101548,
 q 3 0 1 7 0 12 0 7 3607101564,
 q 3 0 1 7 0 12 0 8 3607101580,
 q 3 0 1 7 0 12 0 9 3607101596,
 q 3 1 0 1 0 0 0 (-71) 3791650745,
 q 3 1 0 1 0 0 0 (-93) 3791650723,
 q 3 1 0 1 0 0 0 99 3774873699,
 q 3 1 0 1 0 0 0 66 3774873666,
 q 3 1 0 1 0 0 0 8 3774873608,
 q 1 0 0 0 0 0 0 3 1073741827,
 q 3 1 0 7 0 0 0 (-76) 3892314036,
 q 3 1 0 1 0 0 0 (-325) 3791650491,
 q 3 1 0 1 0 0 0 32 3774873632,
 q 0 0 0 1 1 0 2 0 17956864,
 q 3 1 0 1 0 0 0 (-561) 3791650255,
 q 3 1 0 1 0 0 0 (-591) 3791650225,
 q 3 1 0 1 0 0 0 40 3774873640,
 q 1 0 0 0 0 0 0 45 1073741869,
 q 0 0 0 0 1 0 9 0 1638400,
 q 3 1 0 1 0 0 0 75 3774873675,
 q 1 0 0 0 0 0 0 50 1073741874,
 q 1 0 0 0 0 0 0 49 1073741873,
 q 1 0 0 0 0 0 0 55 1073741879,
 q 1 0 0 0 0 0 0 51 1073741875,
 q 1 0 0 0 0 0 0 54 1073741878,
 q 3 1 0 7 0 0 0 (-109) 3892314003,
 q 3 1 0 1 0 0 0 77 3774873677,
 q 3 1 0 1 0 0 0 59 3774873659,
 q 3 1 0 7 0 0 0 (-86) 3892314026]
def plE:List Ent:=plI.map fun p=>⟨77,[p.x],.tup [.i .u32 p.w,.i .i64 0]⟩
def pgE:Pg:=⟨fun n=>bif qSN n 77 then none else pg.fn n,fun i vs H=>bif qSN i 623 then ixX vs H else qu8 plE i vs H⟩
theorem qCt:qt pgE.ext:=fun i vs H r h=>by
 simp only [pgE,qSH] at h
 split at h
 ·exact qrs i vs H r h
 ·exact qqj i vs H r h
end W
/- Words out of what was laid; what stands in for the two functions in kernel runs. -/
namespace W
open Go (IntKind BinOp UnOp)
set_option maxRecDepth 20000
def qIH (x:D):Option Int:=match pick 77 [.d x] plE with
 | some ⟨_,_,.tup [.i .u32 w,.i .i64 (.ofNat 0)]⟩=>some w
 | _=>none
noncomputable def qoN (starts:List D):List D->Nat->List Int->Option (List Int)
 | [],_,acc=>some acc.reverse
 | .agg [.i .i64 F,.b U,.b X,.i .i64 A,.i .i64 B,.i .i64 C,.i .i64 O,.i .i32 I,.i .i64 to]::l,i,acc=>
  bif leI 0 to then (match starts[to.toNat]? with
   | some (.i .i64 s)=>(match qIH (.agg [.i .i64 F,.b U,.b X,.i .i64 A,.i .i64 B,.i .i64 C,.i .i64 O,.i .i32 (wr .i32 (wr .i64 (wr .i64 (s - i) - 1)))]) with
    | some w=>qo (Nat.succ i) fun i=>qoN starts l i (w::acc)
    | none=>none)
   | _=>none)
  else (match qIH (.agg [.i .i64 F,.b U,.b X,.i .i64 A,.i .i64 B,.i .i64 C,.i .i64 O,.i .i32 I]) with
    | some w=>qo (Nat.succ i) fun i=>qoN starts l i (w::acc)
    | none=>none)
 | _::_,_,_=>none
def wU (w:Int):D:=.i .u32 w
theorem qzL {x:D} {w:Int} {H:List Obj} (h:qIH x=some w):qf pgE 77 [.d x] H=some ⟨false,true,.tup [.d (.i .u32 w),.d (.i .i64 0)],H,H.length⟩:=by
 unfold qIH at h
 split at h
 ·rename_i hp
  cases h
  rw [qbS]
  have hf:pgE.fn 77=none:=rfl
  simp only [qs,hf]
  show qu8 plE 77 [.d x] H=_
  simp only [qu8,hp,Out.v,qSR,qS1]
  rfl
 ·cases h
noncomputable def wl0 (v1 v6 v14 v15 v16:V) (H:List Obj) (lo:Nat):Option (Ex × St):=exL pgE kv ⟨[(1,v1),(6,v6),(14,v14),(15,v15),(16,v16)],H,lo⟩
theorem qBT {e:Env} {H:List Obj} {lo:Nat}:exL pgE kv ⟨e,H,lo⟩=wl0 (kE (get 1 e)) (kE (get 6 e)) (kE (get 14 e)) (kE (get 15 e)) (kE (get 16 e)) H lo:=qxy
theorem qBC {v1 v6 v14 v15 v16:V} {H:List Obj} {lo:Nat}:wl0 v1 v6 v14 v15 v16 H lo=qoq pgE (exL pgE kL ⟨[(1,kE v1),(6,kE v6),(14,kE v14),(15,kE v15),(16,kE v16)],H,lo⟩) kv:=by
 unfold wl0 kv;rw [qmI];simp only [kr,qal,qnd,qmH,Nat.reduceEqDiff]
theorem qAr {l starts:List D} {H:List Obj} (hl:l.length<=1000000):∀(l2 l1:List D) (acc r:List Int),l=l1++l2->acc.length<=l1.length->qoN starts l2 l1.length acc=some r->
  ∃e,wl0 (.osl starts) (slV wU acc.reverse) (.d (.sl l)) (.d (.i .i64 (l.length:Int))) (.d (.i .i64 (l1.length:Int))) H H.length=some (.exit 0,⟨e,H,H.length⟩)/\get 6 e=slV wU r:=by
 intro l2
 induction l2 with
 | nil=>
  intro l1 acc r he ha h
  simp only [qoN,Option.some.injEq] at h
  subst h
  have hlt:((l1.length:Int)<(l.length:Int))=False:=by rw [he];simp
  rw [qBC]
  simp only [kL,k_,e_,m_,x_,o_,s_,z_,a_,d_,g_,h_,l_,c_,r_,v_,qnA,qnk,qqm,qne,qnu,qjk,qje,qy4,Bool.or_self,qC3,Nat.reduceEqDiff,qmH,qnd,qnp,qrd,hlt,decide_false,qiG,qrm,qxa,qcl,qeP,qmR,qrh,qSO,↓reduceIte,qz0,quJ]
  exact ⟨_,rfl,rfl⟩
 | cons y l2 ih=>
  intro l1 acc r he ha h
  have hlt:((l1.length:Int)<(l.length:Int))=True:=by rw [he];simp;omega
  have hll:l1.length<l.length:=by rw [he];simp
  have hw1:wr .i64 ((l1.length:Int)+1)=((l1++[y]).length:Int):=by simp;rw [qbK (by omega) (by omega)]
  have hx:iaV (.d (.sl l)) (.d (.i .i64 (l1.length:Int))) 9 none=(bif qSN y.cells.length 9 then some (.cp y) else none):=by
   have:l[l1.length]?=some y:=by rw [he];simp
   simp only [iaV]
   simp [this,jG]
  have ap:∀w,z8 1 4 (slV wU acc.reverse) (.d (.sl [.i .u32 w]))=some (slV wU (w::acc).reverse):=fun w=>by
   rw [List.reverse_cons]
   exact qGN (e:=wU) (x:=w) (fun _=>rfl) (by unfold roomy;simp;omega)
  have hs:∀i:Nat,Nat.succ l1.length=(l1++[y]).length:=fun _=>by simp
  unfold qoN at h
  split at h
  ·rename_i heq;cases heq
  ·rename_i F U X A B C O I to tl heq
   cases heq
   cases ht:leI 0 to with
   | true=>
    rw [ht,cond_true] at h
    split at h
    ·rename_i s hst
     split at h
     ·rename_i w hw
      rw [qQ,hs 0] at h
      have hto:(to>=0)=True:=by rw [jG,decide_eq_true_eq] at ht;exact eq_true ht
      have hix:iaV (.d (.sl starts)) (.d (.i .i64 to)) 1 none=some (.cp (.i .i64 s)):=qGi (by rw [jG,decide_eq_true_eq] at ht;exact ht) hst (eq_true rfl)
      obtain ⟨e,h1,h2⟩:=ih (l1++[_]) _ r (by rw [he];simp) (by simp;omega) h
      refine ⟨e,?_,h2⟩
      rw [<- h1]
      rw [qBC]
      simp only [kL,k_,e_,m_,x_,o_,s_,z_,a_,d_,g_,h_,l_,c_,r_,v_,qnA,qnk,qqm,qne,qnu,qjk,qje,qy4,Bool.or_self,qC3,Nat.reduceEqDiff,qmH,qnd,qnp,qrd,hlt,decide_true,qiG,qrm,qxa,qcl,qeP,qmR,qrh,↓reduceIte,qpN,qiB,qiz,qp2,qdp,hx,qjT,qSS,qST,qSV,Nat.reduceAdd,qs2,cond_true,qBj,qfn,qt3,qpP,qp0,qSR,qS1,qtt,qhh,qtx,qzD,qwr,qwH,qjK,qgS,qnm,qw9,qnl,qnz,qxk,qCf,qG1,qq8,qSP,qvi,qqS,qsH,quy,yn,qx3,qyi,qq2,qp4,qyD,List.getElem?_cons_succ,qSZ,qSU,qtG,qB1,Bool.or_true,qFh,qyF,hto,qnf,hix,qt6,qHZ,qvm,Nat.add_zero,qB4,qxf,qqP,qt7,Nat.reduceLT,qpj,List.set_cons_succ,List.set_cons_zero,Nat.reduceLeDiff,qsi,List.drop_zero,List.take_succ_cons,List.take_zero,qqY,qyj,qqy,qjX,qnn,qjA,qcB,qqN,qeq,qtC,qzL hw,qjD,qcz,qeI,Nat.min_self,qp9,qjh,qcA,qys,qxw,qxS,qtE,qSW,qSO,qw7,qCI,qak,qze,List.reduceReplicate,qjY,qnj,qre,qGm,qty,qqX,qxU,qej,ap,qnr,qfy,kr,qal,qtu,hw1,qS0,qBT]
     ·cases h
    ·cases h
   | false=>
    rw [ht,cond_false] at h
    split at h
    ·rename_i w hw
     rw [qQ,hs 0] at h
     have hto:(to>=0)=False:=by rw [jG,decide_eq_false_iff_not] at ht;exact eq_false ht
     obtain ⟨e,h1,h2⟩:=ih (l1++[_]) _ r (by rw [he];simp) (by simp;omega) h
     refine ⟨e,?_,h2⟩
     rw [<- h1]
     rw [qBC]
     simp only [kL,k_,e_,m_,x_,o_,s_,z_,a_,d_,g_,h_,l_,c_,r_,v_,qnA,qnk,qqm,qne,qnu,qjk,qje,qy4,Bool.or_self,qC3,Nat.reduceEqDiff,qmH,qnd,qnp,qrd,hlt,decide_true,qiG,qrm,qxa,qcl,qeP,qmR,qrh,↓reduceIte,qpN,qiB,qiz,qp2,qdp,hx,qjT,qSS,qST,qSV,Nat.reduceAdd,qs2,cond_true,qBj,qfn,qt3,qpP,qp0,qSR,qS1,qtt,qhh,qtx,qzD,qwr,qwH,qjK,qgS,qnm,qw9,qnl,qnz,qxk,qCf,qG1,qq8,qSP,qvi,qqS,qsH,quy,yn,qx3,qyi,qq2,qp4,qyD,List.getElem?_cons_succ,qSZ,qSU,qtG,qB1,Bool.or_true,qFh,qyF,hto,decide_false,qSO,Nat.add_zero,Nat.reduceLeDiff,qsi,List.drop_zero,List.take_succ_cons,List.take_zero,qqY,qyj,qqy,qjX,qnn,qjA,qcB,qqN,qeq,qtC,qzL hw,qjD,qcz,qeI,Nat.min_self,qp9,qjh,qcA,qys,qxw,qxS,qtE,qSW,qB4,qw7,qqP,qCI,qak,qze,List.reduceReplicate,Nat.reduceLT,qjY,List.set_cons_zero,qnj,qre,qGm,qty,qqX,qxU,qej,qnf,ap,qnr,qfy,kr,qal,qtu,hw1,qS0,qBT]
    ·cases h
  ·cases h
theorem qBr {x:D} {t starts:List D} {r:List Int} (hl:t.length<=900000) (h:qoN starts (x::t) 0 []=some r):qf pgE 26 [.ptr 0 0,.osl starts] [.cells [.osl (x::t)]]=some ⟨false,true,.tup [.d (slD wU r),.d (.i .i64 0)],[.cells [.osl (x::t)]],1⟩:=by
 obtain ⟨e,h1,h2⟩:=qAr (H:=[.cells [.osl (x::t)]]) (l:=x::t) (starts:=starts) (by simp;omega) (x::t) [] [] r rfl (qSJ _) h
 simp only [List.reverse_nil,slV,qST,Int.natCast_zero,Int.ofNat_eq_natCast,qSS,qST,qSV] at h1
 rw [qj (fn:=zB) rfl rfl]
 simp only [zB,k_,o_,i_,m_,a_,h_,n_,qbX,ql1,qSV,Nat.reduceAdd,qpc,qSS,qST,qne,qnu,qjk,qiz,qFh,qxc,qrm,qxa,qcl,qeP,qC3,reduceCtorEq,qmH,qnd,qr7,qp2,qye,qe0,qiG,yn,qxT,Nat.add_zero,qfn,qDI,qSZ,qIf,qSU,qEH,qvs,qnp,qIn,qiB,qBT,Nat.reduceEqDiff,qnA,qqm,h1,qsL,↓reduceIte,kr,h2,qnk,qal,qEL,qyE,qvE,qhE,qrK,qAO,qjQ,qpt,qGZ]
 exact qtR (H:=[.cells [.osl (x::t)]]) rfl rfl rfl
noncomputable def qHm (vs:List V) (H:List Obj):Option Cr:=
 match vs,H with
 | [.ptr 0 0,.d (.agg [.i .i64 op,.i .i32 k])],[.cells [.osl (x::t)]]=>bif qSN x.cells.length 9 && Nat.ble (jO t+20) 1000000 then (match qho op k with
  | some m=>qAi t m fun l=>some ⟨false,false,.tup [],[.cells [.osl (x::l)]],0⟩
  | none=>none) else none
 | _,_=>none
noncomputable def qBa (vs:List V) (H:List Obj):Option Cr:=
 match vs,H with
 | [.ptr 0 0,.osl starts],[.cells [.osl (x::t)]]=>bif Nat.ble (jO t) 900000 then (match qoN starts (x::t) 0 [] with
  | some r=>some ⟨false,true,.tup [.d (slD wU r),.d (.i .i64 0)],[.cells [.osl (x::t)]],1⟩
  | none=>none) else none
 | _,_=>none
theorem qyT {vs:List V} {H:List Obj} {r:Cr} (h:qHm vs H=some r):qf pg 25 vs H=some r:=by
 unfold qHm at h
 split at h
 ·rename_i op k x t
  rw [qSH] at h
  split at h
  ·rename_i hb
   simp only [qSI] at hb
   split at h
   ·rename_i m hm
    rw [qtz] at h
    cases h
    have:=qSY hb.2
    rw [kg] at this
    exact qL6 hb.1 hm t m hm this
   ·cases h
  ·cases h
 ·cases h
theorem qwT {vs:List V} {H:List Obj} {r:Cr} (h:qBa vs H=some r):qf pgE 26 vs H=some r:=by
 unfold qBa at h
 split at h
 ·rename_i starts x t
  rw [qSH] at h
  split at h
  ·rename_i hb
   split at h
   ·rename_i r hr
    cases h
    have:=qSY hb
    rw [kg] at this
    exact qBr this hr
   ·cases h
  ·cases h
 ·cases h
theorem qCb {pg:Pg} (hx:qt pg.ext) (f:Nat):qt fun _ vs H=>qf pg f vs H:=fun i vs H r h=>by
 obtain ⟨n,hn⟩:=jD.1 h
 exact yZ hx (qaW hx n) _ _ _ _ hn
end W
